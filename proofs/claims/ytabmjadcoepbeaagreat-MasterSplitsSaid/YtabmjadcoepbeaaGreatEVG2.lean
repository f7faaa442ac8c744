/- The runner of closed calls, part 2 of 3: statements, calls and drawn regions; there is no condition. -/
import Derived.Test.YtabmjadcoepbeaaGreatEVG1
set_option linter.unusedVariables false
set_option linter.unusedSimpArgs false
namespace Go.Proofs.YtabmjadcoepbeaaGreat.Ev
section
variable {φ ψ : Phi} {w u : World}
theorem Stp.frame {p q h g : Hp} {nx mx : Nat} (st : Stp φ p nx w ψ q mx u) (hl : φ.le ψ) (hS : Sim φ h w) (hp : ∀ i b, p i = some b → h i = some b) (hg : ∀ i b, g i = some b → q i = some b ∨ (p i = none ∧ h i = some b)) :
  Sim ψ g u ∧ ∀ n, foot ψ g n → foot φ h n ∨ w.heap.size ≤ n := by
 have other : ∀ i b, p i = none → h i = some b → ∃ pl, φ i = some pl ∧ bok φ w pl b ∧ ¬ foot φ p pl.blk := fun i b hn hi => by
  obtain ⟨pl, hpl, hb⟩ := hS.ok i b hi
  refine ⟨pl, hpl, hb, fun ⟨k, x, pk, hk, hpk, e⟩ => ?_⟩
  have hne : i ≠ k := fun e => by rw [e, hk] at hn; cases hn
  exact hS.inj i k b x pl pk hi (hp k x hk) hpl hpk hne e.symm
 refine ⟨⟨fun i b hi => ?_, fun i j b c pl pr hi hj hpl hpr hne => ?_⟩, fun n hn => ?_⟩
 ·rcases hg i b hi with h1 | ⟨h1, h2⟩
  ·exact st.sim.ok i b h1
  ·obtain ⟨pl, hpl, hb, hf⟩ := other i b h1 h2
   exact ⟨pl, hl i pl hpl, hb.mono hl (st.fr _ hb.lt hf)⟩
 ·rcases hg i b hi with h1 | ⟨h1, h2⟩ <;> rcases hg j c hj with g1 | ⟨g1, g2⟩
  ·exact st.sim.inj i j b c pl pr h1 g1 hpl hpr hne
  ·obtain ⟨pl', hpl', hb, hf⟩ := other j c g1 g2
   have e := hl j pl' hpl'
   rw [hpr] at e; cases e
   intro e
   rcases st.own pl.blk ⟨i, b, pl, h1, hpl, rfl⟩ with k | k
   ·exact hf (e ▸ k)
   ·have := hb.lt; omega
  ·obtain ⟨pl', hpl', hb, hf⟩ := other i b h1 h2
   have e := hl i pl' hpl'
   rw [hpl] at e; cases e
   intro e
   rcases st.own pr.blk ⟨j, c, pr, g1, hpr, rfl⟩ with k | k
   ·exact hf (e ▸ k)
   ·have := hb.lt; omega
  ·obtain ⟨pl', hpl', _, _⟩ := other i b h1 h2
   obtain ⟨pr', hpr', _, _⟩ := other j c g1 g2
   have e := hl i pl' hpl'
   rw [hpl] at e; cases e
   have e := hl j pr' hpr'
   rw [hpr] at e; cases e
   exact hS.inj i j b c pl pr h2 g2 hpl' hpr' hne
 ·obtain ⟨i, b, pl, hi, hpl, rfl⟩ := hn
  rcases hg i b hi with h1 | ⟨h1, h2⟩
  ·rcases st.own _ ⟨i, b, pl, h1, hpl, rfl⟩ with ⟨k, x, pk, hk, hpk, e⟩ | k
   ·exact .inl ⟨k, x, pk, hp k x hk, hpk, e⟩
   ·exact .inr k
  ·obtain ⟨pl', hpl', _, _⟩ := other i b h1 h2
   have e := hl i pl' hpl'
   rw [hpl] at e; cases e
   exact .inl ⟨i, b, pl, h2, hpl', rfl⟩
theorem foot_mono {p h : Hp} (hp : ∀ i b, p i = some b → h i = some b) {n : Nat} (hn : foot φ p n) : foot φ h n := by
 obtain ⟨i, b, pl, h1, h2, h3⟩ := hn
 exact ⟨i, b, pl, hp i b h1, h2, h3⟩
theorem Sim.sub {p h : Hp} (hS : Sim φ h w) (hp : ∀ i b, p i = some b → h i = some b) : Sim φ p w :=
 ⟨fun i b hi => hS.ok i b (hp i b hi), fun i j b c pl pr h1 h2 => hS.inj i j b c pl pr (hp _ _ h1) (hp _ _ h2)⟩
end
/- Masks. -/
theorem testB_eq (m i : Nat) : testB m i = m.testBit i := by
 unfold testB Nat.testBit
 show Nat.beq (Nat.land (m >>> i) 1) 1 = (1 &&& (m >>> i) != 0)
 have e : Nat.land (m >>> i) 1 = (m >>> i) &&& 1 := rfl
 rw [e, Nat.and_comm 1, Nat.and_one_is_mod]
 rcases Nat.mod_two_eq_zero_or_one (m >>> i) with h | h <;> rw [h] <;> rfl
theorem testB_or (m n i : Nat) : testB (Nat.lor m n) i = (testB m i || testB n i) := by
 rw [testB_eq, testB_eq, testB_eq]; exact Nat.testBit_or m n i
theorem testB_bit (k i : Nat) : testB (bit k) i = decide (k = i) := by
 rw [testB_eq]
 show (1 <<< k).testBit i = _
 rw [Nat.one_shiftLeft, Nat.testBit_two_pow]
theorem testB_zero (i : Nat) : testB 0 i = false := by rw [testB_eq]; exact Nat.zero_testBit i
theorem incl_sub {a b : Nat} (h : incl a b = true) {i : Nat} (hi : testB a i = true) : testB b i = true := by
 have h' : Nat.lor a b = b := Nat.eq_of_beq_eq_true h
 rw [← h', testB_or, hi]; rfl
theorem incl_of {a b : Nat} (h : ∀ i, testB a i = true → testB b i = true) : incl a b = true := by
 show Nat.beq (Nat.lor a b) b = true
 rw [Nat.beq_eq]
 apply Nat.eq_of_testBit_eq
 intro i
 have h1 := testB_or a b i
 rw [testB_eq, testB_eq, testB_eq] at h1
 rw [h1]
 have h2 := h i
 rw [testB_eq, testB_eq] at h2
 cases ha : a.testBit i with
 | false => rfl
 | true => rw [h2 ha]; rfl
theorem bindsB_eq (e : Edge) : bindsB e = Region.binds .any e := by
 unfold bindsB Region.binds
 cases e.ground <;> rfl
theorem maskOf_bit {acc : List Nat} : ∀ {es : List Edge} {m : Nat}, maskOf acc es = some m → ∀ k, testB m k = true → ∃ e ∈ es, bindsB e = true ∧ ∃ n, acc[e.on]? = some n ∧ (k = e.on ∨ testB n k = true)
 | [], m, h, k, hk => by cases h; rw [testB_zero] at hk; cases hk
 | e :: es, m, h, k, hk => by
  have h' : (match bindsB e with | false => maskOf acc es | true => bnd acc[e.on]? fun m => bnd (maskOf acc es) fun n => some (Nat.lor (Nat.lor n (bit e.on)) m)) = some m := h
  split at h'
  ·obtain ⟨e', me, r⟩ := maskOf_bit h' k hk
   exact ⟨e', List.mem_cons_of_mem _ me, r⟩
  ·rename_i hb
   replace h' := bnd_some h'; obtain ⟨n, hn, h'⟩ := h'
   replace h' := bnd_some h'; obtain ⟨r, hr, h'⟩ := h'
   cases h'
   rw [testB_or, testB_or, testB_bit] at hk
   simp only [Bool.or_eq_true, decide_eq_true_eq] at hk
   rcases hk with (hk | hk) | hk
   ·obtain ⟨e', me, r⟩ := maskOf_bit hr k hk
    exact ⟨e', List.mem_cons_of_mem _ me, r⟩
   ·exact ⟨e, List.mem_cons_self, hb, n, hn, .inl hk.symm⟩
   ·exact ⟨e, List.mem_cons_self, hb, n, hn, .inr hk⟩
theorem maskOf_lt {acc : List Nat} : ∀ {es : List Edge} {m : Nat}, maskOf acc es = some m → ∀ e ∈ es, bindsB e = true → e.on < acc.length
 | [], m, h, e, me, _ => by cases me
 | e0 :: es, m, h, e, me, hb => by
  have h' : (match bindsB e0 with | false => maskOf acc es | true => bnd acc[e0.on]? fun m => bnd (maskOf acc es) fun n => some (Nat.lor (Nat.lor n (bit e0.on)) m)) = some m := h
  split at h'
  ·rename_i hb0
   rcases List.mem_cons.1 me with rfl | me
   ·rw [hb0] at hb; cases hb
   ·exact maskOf_lt h' e me hb
  ·replace h' := bnd_some h'; obtain ⟨n, hn, h'⟩ := h'
   replace h' := bnd_some h'; obtain ⟨r, hr, h'⟩ := h'
   rcases List.mem_cons.1 me with rfl | me
   ·exact (List.getElem?_eq_some_iff.1 hn).1
   ·exact maskOf_lt hr e me hb
theorem masks_spec : ∀ {ops : List Oper} {acc Bs : List Nat}, masks ops acc = some Bs → Bs.length = acc.length + ops.length ∧ (∀ k, k < acc.length → Bs[k]? = acc[k]?) ∧
  ∀ k o, ops[k]? = some o → ∃ m, Bs[acc.length + k]? = some m ∧ maskOf (Bs.take (acc.length + k)) o.after.toList = some m
 | [], acc, Bs, h => by cases h; exact ⟨by simp, fun _ _ => rfl, fun k o h => by cases h⟩
 | o :: ops, acc, Bs, h => by
  have h' : (bnd (maskOf acc o.after.toList) fun m => masks ops (acc ++ [m])) = some Bs := h
  replace h' := bnd_some h'; obtain ⟨m, hm, h'⟩ := h'
  obtain ⟨h1, h2, h3⟩ := masks_spec h'
  simp only [List.length_append, List.length_singleton] at h1 h2 h3
  have htake : Bs.take acc.length = acc := by
   apply List.ext_getElem?
   intro k
   rw [List.getElem?_take]
   split
   ·rw [h2 k (by omega), List.getElem?_append_left (by omega)]
   ·rw [List.getElem?_eq_none (by omega)]
  refine ⟨by simp only [List.length_cons]; omega, fun k hk => by rw [h2 k (by omega), List.getElem?_append_left hk], fun k p hk => ?_⟩
  cases k with
  | zero =>
   cases hk
   refine ⟨m, ?_, ?_⟩
   ·rw [Nat.add_zero, h2 _ (by omega), List.getElem?_append_right (by omega)]; simp
   ·rw [Nat.add_zero, htake]; exact hm
  | succ k =>
   obtain ⟨m', g1, g2⟩ := h3 k p hk
   rw [show acc.length + (k + 1) = acc.length + 1 + k by omega]
   exact ⟨m', g1, g2⟩
end Go.Proofs.YtabmjadcoepbeaaGreat.Ev
namespace Go.Proofs.YtabmjadcoepbeaaGreat.Ev
def single (i : Nat) (b : AB) : Hp := fun j => if j = i then some b else none
theorem single_some {i j : Nat} {b x : AB} (h : single i b j = some x) : j = i ∧ x = b := by
 unfold single at h
 split at h
 ·rename_i e; cases h; exact ⟨e, rfl⟩
 ·cases h
theorem stp_one {φ : Phi} {w u : World} {nx i : Nat} {b0 b : AB} {p : Pl} {o : Obj} (hp : φ i = some p) (hw : Wr p.blk o w u) (hb : bok φ u p b) : Stp φ (single i b0) nx w φ (single i b) nx u := by
 refine ⟨⟨fun j x h => ?_, fun j k x y q r hj hk _ _ hne => ?_⟩, fun _ _ => rfl, by rw [hw.size]; exact Nat.le_refl _, fun n hn hf => ?_, fun n hn => ?_, hw.os, hw.tape, hw.output⟩
 ·obtain ⟨rfl, rfl⟩ := single_some h
  exact ⟨p, hp, hb⟩
 ·obtain ⟨rfl, _⟩ := single_some hj
  obtain ⟨rfl, _⟩ := single_some hk
  exact absurd rfl hne
 ·exact hw.far n (fun e => hf ⟨i, b0, p, if_pos rfl, hp, e.symm⟩)
 ·obtain ⟨j, x, q, hj, hq, rfl⟩ := hn
  obtain ⟨rfl, _⟩ := single_some hj
  exact .inl ⟨j, b0, q, if_pos rfl, hq, rfl⟩
section
variable {P : Program} {E : Env} {K : CallT}
theorem store_local (hE : EnvOk P E) {tm : PT AV} {s s' : HS} {o : Oper} {v : AV} {id : Nat} (h : opRun E tm s o.op = some (.val v s')) (hid : storeId tm o.op = some id) :
  v = undV ∧ ∃ b0 b, s.h.get id = some b0 ∧ s' = s.put id (some b) ∧ ∀ (φ : Phi) (w : World) (ρ : Operand → Value) (g : Hp) (nx : Nat), Sim φ g w → g id = some b0 → EvOk φ tm ρ o.op.operands →
   ∃ u, (execOp ρ o).run P w = .ok .skip u ∧ Stp φ (single id b0) nx w φ (single id b) nx u := by
 cases ho : o.op <;> rw [ho] at h hid <;> try (cases hid; done)
 rename_i t x y
 obtain ⟨h', rfl⟩ := rs_some h
 clear h
 replace hid := evc_some hid; obtain ⟨c0, hc0, hid⟩ := hid
 replace h' := bnd_some h'; obtain ⟨ti, hti, h'⟩ := h'
 replace h' := evc_some h'; obtain ⟨c, hc, h'⟩ := h'
 replace h' := evw_some h'; obtain ⟨y1, hy, h'⟩ := h'
 rw [hc] at hc0; cases hc0
 split at h'
 ·rename_i hlen
  have hlen' := Nat.eq_of_beq_eq_true hlen
  cases c0 <;> try (cases h'; done)
  rename_i i off
  cases hid
  replace h' := bnd_some h'; obtain ⟨b, hb, h'⟩ := h'
  cases b with
  | map ks es => cases h'
  | row e cs =>
   replace h' := bnd_some h'; obtain ⟨ds, hds, h'⟩ := h'
   cases h'
   refine ⟨rfl, .row e cs, .row e ds, hb, rfl, fun φ w ρ g nx hS hg hev => ?_⟩
   obtain ⟨p, hp, hbk⟩ := hS.ok id _ hg
   obtain ⟨hx, _⟩ := hev.c (x := x) (by simp [Op.operands]) hc
   obtain ⟨e2, hyo⟩ := hev.w (x := y) (by simp [Op.operands]) hy
   obtain ⟨u, ob, r1, r2, r3⟩ := row_write (P := P) hbk hds hyo
   obtain ⟨tf, ut, z, zw, h1, _, h3, _⟩ := (hE.ti t ti hti).ok
   simp only [conc, hp] at hx
   refine ⟨u, ?_, stp_one hp r2 r3⟩
   have hsz : ¬ ((concW φ y1).cells.size ≠ tf.size) := by rw [concW_cells]; simp; omega
   simp only [execOp, ho, hx, e2, Instr.storeAt, Instr.sureAddr, storeVar, Sem.run_bind, Sem.run_pure, Result.andThen_ok, r_size h1, hsz, if_false]
   have e4 : (concW φ y1).cells.toList = y1.cells.map (conc φ) := by rw [concW_cells]
   rw [e4, r1]
   rfl
 ·cases h'
noncomputable def dSeq (E : Env) (K : CallT) (sz base : Nat) (ops : Array Oper) (Bs : List Nat) (d0 : DS) : Nat → Option DS := Nat.rec (some d0) fun i r => bnd r fun d => bnd Bs[i]? fun b => bnd ops[i]? fun o => dStep E K sz base ops.toList d i b o
theorem dSeq_succ (sz base : Nat) (ops : Array Oper) (Bs : List Nat) (d0 : DS) (i : Nat) : dSeq E K sz base ops Bs d0 (i + 1) = bnd (dSeq E K sz base ops Bs d0 i) fun d => bnd Bs[i]? fun b => bnd ops[i]? fun o => dStep E K sz base ops.toList d i b o := rfl
theorem dGo_seq {sz base : Nat} {ops : Array Oper} {Bs : List Nat} {d0 : DS} : ∀ (l : List Oper) (i : Nat) (d d' : DS), ops.toList.drop i = l → dSeq E K sz base ops Bs d0 i = some d → dGo E K sz base ops.toList Bs l i d = some d' → dSeq E K sz base ops Bs d0 (i + l.length) = some d'
 | [], i, d, d', _, hd, h => by cases h; exact hd
 | o :: l, i, d, d', hl, hd, h => by
  have h' : (bnd Bs[i]? fun b => bnd (dStep E K sz base ops.toList d i b o) fun d => dGo E K sz base ops.toList Bs l (i + 1) d) = some d' := h
  replace h' := bnd_some h'; obtain ⟨b, hb, h'⟩ := h'
  replace h' := bnd_some h'; obtain ⟨d1, hd1, h'⟩ := h'
  have ho : ops[i]? = some o := by
   have := congrArg (fun l : List Oper => l[0]?) hl
   simpa using this
  have hl' : ops.toList.drop (i + 1) = l := by
   have := congrArg List.tail hl
   simpa using this
  have := dGo_seq l (i + 1) d1 d' hl' (by rw [dSeq_succ, hd]; show (bnd Bs[i]? fun b => bnd ops[i]? fun o => dStep E K sz base ops.toList d i b o) = _; rw [hb, ho]; exact hd1) h'
  rw [List.length_cons, show i + (l.length + 1) = i + 1 + l.length by omega]; exact this
theorem dSeq_down {sz base : Nat} {ops : Array Oper} {Bs : List Nat} {d0 : DS} {i : Nat} {d : DS} (h : dSeq E K sz base ops Bs d0 (i + 1) = some d) :
  ∃ d' b o, dSeq E K sz base ops Bs d0 i = some d' ∧ Bs[i]? = some b ∧ ops[i]? = some o ∧ dStep E K sz base ops.toList d' i b o = some d := by
 rw [dSeq_succ] at h
 replace h := bnd_some h; obtain ⟨d', hd, h⟩ := h
 replace h := bnd_some h; obtain ⟨b, hb, h⟩ := h
 replace h := bnd_some h; obtain ⟨o, ho, h⟩ := h
 exact ⟨d', b, o, hd, hb, ho, h⟩
structure DRun (E : Env) (K : CallT) (sz base : Nat) (ops : Array Oper) (d0 : DS) (o : Nat → Oper) (B : Nat → Nat) (d : Nat → DS) (r : Nat → Rd) : Prop where
 op : ∀ i, i < ops.size → ops[i]? = some (o i)
 bef : ∀ i, i < ops.size → ∀ k, testB (B i) k = true → ∃ e ∈ (o i).after, Region.binds .any e = true ∧ e.on < i ∧ (k = e.on ∨ testB (B e.on) k = true)
 lt : ∀ i, i < ops.size → ∀ e ∈ (o i).after, Region.binds .any e = true → e.on < i
 zero : d 0 = d0
 rc : ∀ i, i < ops.size → rcOf E K base ops.toList (d i) i (B i) (o i) = some (r i)
 up : ∀ i, i < ops.size → ∃ tm, d (i + 1) = dUpd (d i) tm i (B i) (o i) (r i) ∧ (((o i).dst = none ∧ tm = (d i).tm) ∨ ∃ t, (o i).dst = some t ∧ t < sz ∧ tm = (d i).tm.set t (some (r i).v))
 apart : ∀ i k t, i < ops.size → k < ops.size → k ≠ i → (o k).dst = some t → (o i).dst ≠ some t ∧ (looks ops.toList (o i) t = true → (k < i → testB (B i) k = true) ∧ (i < k → testB (B k) i = true))
theorem clash_spec {ops : List Oper} {Bs : List Nat} {i bi : Nat} {o : Oper} : ∀ {l : List Oper} {k : Nat}, clash ops Bs i o bi l k = true → ∀ j p t, l[j]? = some p → k + j ≠ i → p.dst = some t →
  o.dst ≠ some t ∧ (looks ops o t = true → (k + j < i → testB bi (k + j) = true) ∧ (i < k + j → ∃ bk, Bs[k + j]? = some bk ∧ testB bk i = true))
 | [], k, _, j, p, t, hj, _, _ => by cases hj
 | q :: l, k, h, j, p, t, hj, hne, ht => by
  have h' : (match q.dst with
   | none => clash ops Bs i o bi l (k + 1)
   | some t => match Nat.beq k i with
    | true => clash ops Bs i o bi l (k + 1)
    | false => match (match o.dst with | none => false | some u => Nat.beq u t) with
     | true => false
     | false => match looks ops o t with
      | false => clash ops Bs i o bi l (k + 1)
      | true => match Nat.blt k i with
       | true => match testB bi k with
        | true => clash ops Bs i o bi l (k + 1)
        | false => false
       | false => match Bs[k]? with
        | none => false
        | some bk => match testB bk i with
         | true => clash ops Bs i o bi l (k + 1)
         | false => false) = true := h
  clear h
  cases j with
  | succ j =>
   have hrec : clash ops Bs i o bi l (k + 1) = true := by
    split at h'
    ·exact h'
    ·split at h'
     ·exact h'
     ·split at h'
      ·cases h'
      ·split at h'
       ·exact h'
       ·split at h'
        ·split at h'
         ·exact h'
         ·cases h'
        ·split at h'
         ·cases h'
         ·split at h'
          ·exact h'
          ·cases h'
   have := clash_spec hrec j p t (by simpa using hj) (by omega) ht
   rwa [show k + 1 + j = k + (j + 1) by omega] at this
  | zero =>
   have hq : q = p := by simpa using hj
   subst hq
   simp only [Nat.add_zero] at hne ⊢
   rw [ht] at h'
   dsimp only at h'
   have hki : Nat.beq k i = false := by
    cases hb : Nat.beq k i with
    | false => rfl
    | true => exact absurd (Nat.eq_of_beq_eq_true hb) hne
   rw [hki] at h'
   dsimp only at h'
   split at h'
   ·cases h'
   ·rename_i hd
    refine ⟨fun e => ?_, fun hl => ?_⟩
    ·rw [e] at hd
     have : Nat.beq t t = true := Nat.beq_refl t
     dsimp only at hd
     rw [this] at hd; cases hd
    ·rw [hl] at h'
     dsimp only at h'
     split at h'
     ·rename_i hb
      have hlt := blt_lt hb
      split at h'
      ·rename_i hx; exact ⟨fun _ => hx, fun h => by omega⟩
      ·cases h'
     ·rename_i hb
      have hge : ¬ k < i := fun hlt => by
       have : Nat.blt k i = true := Nat.ble_eq_true_of_le hlt
       rw [this] at hb; cases hb
      split at h'
      ·cases h'
      ·rename_i bk hbk
       split at h'
       ·rename_i hx; exact ⟨fun h => absurd h hge, fun _ => ⟨bk, hbk, hx⟩⟩
       ·cases h'
theorem clashAll_spec {ops : List Oper} {Bs : List Nat} : ∀ {l : List Oper} {i : Nat}, clashAll ops Bs l i = true → ∀ j o, l[j]? = some o → ∃ bi, Bs[i + j]? = some bi ∧ clash ops Bs (i + j) o bi ops 0 = true
 | [], i, _, j, o, hj => by cases hj
 | q :: l, i, h, j, o, hj => by
  have h' : (match Bs[i]? with
   | none => false
   | some bi => match clash ops Bs i q bi ops 0 with
    | true => clashAll ops Bs l (i + 1)
    | false => false) = true := h
  clear h
  split at h'
  ·cases h'
  ·rename_i bi hbi
   split at h'
   ·rename_i hc
    cases j with
    | zero => cases hj; exact ⟨bi, hbi, hc⟩
    | succ j =>
     have := clashAll_spec h' j o (by simpa using hj)
     rwa [show i + 1 + j = i + (j + 1) by omega] at this
   ·cases h'
theorem drun_of {sz base : Nat} {ops : Array Oper} {Bs : List Nat} {d0 dF : DS} (hp : plan ops.toList = some Bs) (h : dGo E K sz base ops.toList Bs ops.toList 0 d0 = some dF) :
  ∃ o B d r, DRun E K sz base ops d0 o B d r ∧ d ops.size = dF := by
 have hm : masks ops.toList [] = some Bs ∧ clashAll ops.toList Bs ops.toList 0 = true := by
  replace hp := bnd_some hp; obtain ⟨b, hb, hp⟩ := hp
  split at hp
  ·rename_i hc; cases hp; exact ⟨hb, hc⟩
  ·cases hp
 obtain ⟨hm, hc⟩ := hm
 obtain ⟨m1, _, m3⟩ := masks_spec hm
 simp only [List.length_nil, Nat.zero_add] at m1 m3
 have hF := dGo_seq ops.toList 0 d0 dF rfl rfl h
 rw [Nat.zero_add, Array.length_toList] at hF
 have hex : ∀ j, j ≤ ops.size → ∃ d, dSeq E K sz base ops Bs d0 (ops.size - j) = some d := by
  intro j
  induction j with
  | zero => intro _; exact ⟨dF, hF⟩
  | succ j ih =>
   intro hj
   obtain ⟨d, hd⟩ := ih (by omega)
   rw [show ops.size - j = (ops.size - (j + 1)) + 1 by omega] at hd
   obtain ⟨d', _, _, h1, _⟩ := dSeq_down hd
   exact ⟨d', h1⟩
 have hex' : ∀ i, i ≤ ops.size → ∃ d, dSeq E K sz base ops Bs d0 i = some d := fun i hi => by
  have := hex (ops.size - i) (by omega)
  rwa [show ops.size - (ops.size - i) = i by omega] at this
 let d : Nat → DS := fun i => (dSeq E K sz base ops Bs d0 i).getD d0
 have hd : ∀ i, i ≤ ops.size → dSeq E K sz base ops Bs d0 i = some (d i) := fun i hi => by
  obtain ⟨x, hx⟩ := hex' i hi
  show _ = some ((dSeq E K sz base ops Bs d0 i).getD d0)
  rw [hx]; rfl
 let o : Nat → Oper := fun i => (ops[i]?).getD default
 let B : Nat → Nat := fun i => (Bs[i]?).getD 0
 let r : Nat → Rd := fun i => (rcOf E K base ops.toList (d i) i (B i) (o i)).getD ⟨.skip, undV⟩
 have ho : ∀ i, i < ops.size → ops[i]? = some (o i) := fun i hi => by
  show _ = some ((ops[i]?).getD default)
  rw [Array.getElem?_eq_getElem hi]; rfl
 have hB : ∀ i, i < ops.size → Bs[i]? = some (B i) := fun i hi => by
  show _ = some ((Bs[i]?).getD 0)
  rw [List.getElem?_eq_getElem (by rw [m1]; simpa using hi)]; rfl
 have hmask : ∀ i, i < ops.size → maskOf (Bs.take i) (o i).after.toList = some (B i) := fun i hi => by
  obtain ⟨m, g1, g2⟩ := m3 i (o i) (by rw [Array.getElem?_toList]; exact ho i hi)
  rw [hB i hi] at g1; cases g1
  exact g2
 have hstep : ∀ i, i < ops.size → ∃ rr tm, rcOf E K base ops.toList (d i) i (B i) (o i) = some rr ∧ d (i + 1) = dUpd (d i) tm i (B i) (o i) rr ∧ (((o i).dst = none ∧ tm = (d i).tm) ∨ ∃ t, (o i).dst = some t ∧ t < sz ∧ tm = (d i).tm.set t (some rr.v)) := fun i hi => by
  obtain ⟨d', b, o', g1, g2, g3, g4⟩ := dSeq_down (hd (i + 1) hi)
  rw [hd i (by omega)] at g1; cases g1
  rw [hB i hi] at g2; cases g2
  rw [ho i hi] at g3; cases g3
  replace g4 := bnd_some g4; obtain ⟨rr, hrr, g4⟩ := g4
  obtain ⟨tm, e, hdst⟩ := putD_some g4
  exact ⟨rr, tm, hrr, (Option.some.inj e).symm, hdst⟩
 have hr : ∀ i, i < ops.size → rcOf E K base ops.toList (d i) i (B i) (o i) = some (r i) := fun i hi => by
  obtain ⟨rr, _, h1, _⟩ := hstep i hi
  show _ = some ((rcOf E K base ops.toList (d i) i (B i) (o i)).getD ⟨.skip, undV⟩)
  rw [h1]; rfl
 refine ⟨o, B, d, r, ⟨ho, fun i hi k hk => ?_, fun i hi e he hb => ?_, rfl, hr, fun i hi => ?_, fun i k t hi hk hne ht => ?_⟩, ?_⟩
 ·obtain ⟨e, me, hb, n, hn, hk'⟩ := maskOf_bit (hmask i hi) k hk
  have hlt : e.on < i := by
   have := (List.getElem?_eq_some_iff.1 hn).1
   rw [List.length_take] at this; omega
  rw [List.getElem?_take, if_pos hlt, hB _ (by omega)] at hn
  cases hn
  exact ⟨e, by simpa using me, by rw [← bindsB_eq]; exact hb, hlt, hk'⟩
 ·have := maskOf_lt (hmask i hi) e (by simpa using he) (by rw [bindsB_eq]; exact hb)
  rw [List.length_take] at this; omega
 ·obtain ⟨rr, tm, h1, h2, h3⟩ := hstep i hi
  rw [hr i hi] at h1; cases h1
  exact ⟨tm, h2, h3⟩
 ·obtain ⟨bi, g1, g2⟩ := clashAll_spec hc i (o i) (by rw [Array.getElem?_toList]; exact ho i hi)
  rw [Nat.zero_add] at g1 g2
  rw [hB i hi] at g1; cases g1
  have := clash_spec g2 k (o k) t (by rw [Array.getElem?_toList]; exact ho k hk) (by omega) ht
  rw [Nat.zero_add] at this
  refine ⟨this.1, fun hl => ⟨(this.2 hl).1, fun hlt => ?_⟩⟩
  obtain ⟨bk, e1, e2⟩ := (this.2 hl).2 hlt
  rw [hB k hk] at e1; cases e1
  exact e2
 ·have := hd ops.size (Nat.le_refl _)
  rw [hF] at this
  exact (Option.some.inj this).symm
end
end Go.Proofs.YtabmjadcoepbeaaGreat.Ev
namespace Go.Proofs.YtabmjadcoepbeaaGreat.Ev
def RK.isEff (k : RK) : Bool := match k with
 | .eff _ => true
 | _ => false
section
variable {P : Program} {E : Env} {K : CallT} {sz base : Nat} {ops : Array Oper} {d0 : DS} {o : Nat → Oper} {B : Nat → Nat} {d : Nat → DS} {r : Nat → Rd}
theorem upd_tm (d : DS) (tm : PT AV) (i b : Nat) (o : Oper) (r : Rd) : (dUpd d tm i b o r).tm = tm := by unfold dUpd; cases r.kd <;> rfl
theorem upd_rest {x : DS} {tm : PT AV} {i b : Nat} {o : Oper} {r : Rd} (h : r.kd.isEff = false) : (dUpd x tm i b o r).cur = x.cur ∧ (dUpd x tm i b o r).don = x.don ∧ (dUpd x tm i b o r).ins = x.ins ∧ (dUpd x tm i b o r).sts = x.sts ∧ (dUpd x tm i b o r).effs = x.effs := by
 unfold dUpd
 cases hk : r.kd <;> first
  | exact ⟨rfl, rfl, rfl, rfl, rfl⟩
  | (rw [hk] at h; cases h)
theorem d_tm (R : DRun E K sz base ops d0 o B d r) : ∀ i, i ≤ ops.size → ∀ t v, (d i).tm.get t = some v → (∃ k, k < i ∧ (o k).dst = some t ∧ (r k).v = v) ∨ ((∀ k, k < i → (o k).dst ≠ some t) ∧ d0.tm.get t = some v)
 | 0, _, t, v, h => .inr ⟨fun k hk => (by omega), (by rw [R.zero] at h; exact h)⟩
 | i + 1, hi, t, v, h => by
  obtain ⟨tm, e, hd⟩ := R.up i (by omega)
  rw [e, upd_tm] at h
  rcases hd with ⟨hd, rfl⟩ | ⟨t', hd, _, rfl⟩
  ·rcases d_tm R i (by omega) t v h with ⟨k, h1, h2, h3⟩ | ⟨h1, h2⟩
   ·exact .inl ⟨k, by omega, h2, h3⟩
   ·refine .inr ⟨fun k hk => ?_, h2⟩
    by_cases hki : k = i
    ·subst hki; rw [hd]; exact fun h => by cases h
    ·exact h1 k (by omega)
  ·rcases PT.get_set h with ⟨rfl, hv⟩ | ⟨hne, h⟩
   ·cases hv; exact .inl ⟨i, by omega, hd, rfl⟩
   ·rcases d_tm R i (by omega) t v h with ⟨k, h1, h2, h3⟩ | ⟨h1, h2⟩
    ·exact .inl ⟨k, by omega, h2, h3⟩
    ·refine .inr ⟨fun k hk => ?_, h2⟩
     by_cases hki : k = i
     ·subst hki; rw [hd]; exact fun h => hne (Option.some.inj h).symm
     ·exact h1 k (by omega)
theorem upd_pend (x : DS) (tm : PT AV) (i b : Nat) (o : Oper) (r : Rd) : (dUpd x tm i b o r).pend = (match r.kd with | .new y => (i, y) :: x.pend | _ => x.pend) := by unfold dUpd; cases r.kd <;> rfl
theorem d_pend (R : DRun E K sz base ops d0 o B d r) (h0 : d0.pend = []) : ∀ i, i ≤ ops.size → ∀ k x, (k, x) ∈ (d i).pend ↔ k < i ∧ (r k).kd = .new x
 | 0, _, k, x => by rw [R.zero, h0]; exact ⟨fun h => (by cases h), fun h => (by omega)⟩
 | i + 1, hi, k, x => by
  obtain ⟨tm, e, _⟩ := R.up i (by omega)
  have ih := d_pend R h0 i (by omega) k x
  rw [e, upd_pend]
  have gen : (r i).kd ≠ .new x ∨ k ≠ i → ((k, x) ∈ (d i).pend ↔ k < i + 1 ∧ (r k).kd = .new x) := fun h => by
   rw [ih]
   refine ⟨fun ⟨h1, h2⟩ => ⟨by omega, h2⟩, fun ⟨h1, h2⟩ => ⟨?_, h2⟩⟩
   by_cases hk : k = i
   ·subst hk
    rcases h with h | h
    ·exact absurd h2 h
    ·exact absurd rfl h
   ·omega
  cases hk : (r i).kd <;> try (exact gen (.inl (by rw [hk]; exact fun h => by cases h)))
  rename_i y
  dsimp only
  rw [List.mem_cons]
  constructor
  ·rintro (h | h)
   ·cases h; exact ⟨by omega, hk⟩
   ·obtain ⟨h1, h2⟩ := ih.1 h
    exact ⟨by omega, h2⟩
  ·rintro ⟨h1, h2⟩
   by_cases hki : k = i
   ·subst hki; rw [hk] at h2; cases h2; exact .inl rfl
   ·exact .inr (ih.2 ⟨by omega, h2⟩)
theorem d_const (R : DRun E K sz base ops d0 o B d r) {p : Nat} : ∀ n, p + n ≤ ops.size → (∀ k, p ≤ k → k < p + n → (r k).kd.isEff = false) → (d (p + n)).cur = (d p).cur ∧ (d (p + n)).don = (d p).don ∧ (d (p + n)).ins = (d p).ins
 | 0, _, _ => ⟨rfl, rfl, rfl⟩
 | n + 1, hn, h => by
  obtain ⟨h1, h2, h3⟩ := d_const R n (by omega) (fun k a b => h k a (by omega))
  obtain ⟨tm, e, _⟩ := R.up (p + n) (by omega)
  obtain ⟨g1, g2, g3, _⟩ := upd_rest (x := d (p + n)) (tm := tm) (i := p + n) (b := B (p + n)) (o := o (p + n)) (h (p + n) (by omega) (by omega))
  rw [show p + (n + 1) = p + n + 1 by omega, e, g1, g2, g3]
  exact ⟨h1, h2, h3⟩
theorem upd_eff {x : DS} {tm : PT AV} {i b : Nat} {o : Oper} {r : Rd} {s : HS} (h : r.kd = .eff s) : dUpd x tm i b o r = ⟨tm, s, Nat.lor x.don (bit i), Nat.lor x.ins (pendMask b x.pend), x.pend, ⟨Nat.lor x.don (bit i), Nat.lor x.ins (pendMask b x.pend), s.h⟩ :: x.sts, x.lds, (i, b, storeId x.tm o.op) :: x.effs, x.late⟩ := by
 unfold dUpd; rw [h]
theorem eff_kd {k : RK} (h : k.isEff = true) : ∃ s, k = .eff s := by cases k <;> first | exact ⟨_, rfl⟩ | cases h
theorem d_don (R : DRun E K sz base ops d0 o B d r) (h0 : d0.don = 0) : ∀ i, i ≤ ops.size → ∀ k, testB (d i).don k = true ↔ k < i ∧ (r k).kd.isEff = true
 | 0, _, k => by rw [R.zero, h0, testB_zero]; exact ⟨fun h => (by cases h), fun h => (by omega)⟩
 | i + 1, hi, k => by
  obtain ⟨tm, e, _⟩ := R.up i (by omega)
  have ih := d_don R h0 i (by omega) k
  rw [e]
  cases hk : (r i).kd.isEff with
  | false =>
   rw [(upd_rest hk).2.1, ih]
   refine ⟨fun ⟨h1, h2⟩ => ⟨by omega, h2⟩, fun ⟨h1, h2⟩ => ⟨?_, h2⟩⟩
   by_cases hki : k = i
   ·subst hki; rw [hk] at h2; cases h2
   ·omega
  | true =>
   obtain ⟨s, hs⟩ := eff_kd hk
   rw [upd_eff hs]
   dsimp only
   rw [testB_or, testB_bit, Bool.or_eq_true, ih, decide_eq_true_eq]
   constructor
   ·rintro (⟨h1, h2⟩ | h)
    ·exact ⟨by omega, h2⟩
    ·subst h; exact ⟨by omega, hk⟩
   ·rintro ⟨h1, h2⟩
    by_cases hki : k = i
    ·exact .inr hki.symm
    ·exact .inl ⟨by omega, h2⟩
theorem d_sts (R : DRun E K sz base ops d0 o B d r) (h0 : d0.sts = [⟨d0.don, d0.ins, d0.cur.h⟩]) : ∀ i, i ≤ ops.size → ∀ p, p ≤ i → (⟨(d p).don, (d p).ins, (d p).cur.h⟩ : SS) ∈ (d i).sts
 | 0, _, p, hp => by
  have : p = 0 := by omega
  subst this
  rw [R.zero, h0]; exact List.mem_singleton.2 rfl
 | i + 1, hi, p, hp => by
  obtain ⟨tm, e, _⟩ := R.up i (by omega)
  cases hk : (r i).kd.isEff with
  | false =>
   obtain ⟨g1, g2, g3, g4, _⟩ := upd_rest (x := d i) (tm := tm) (i := i) (b := B i) (o := o i) hk
   have hin : (d (i + 1)).sts = (d i).sts := by rw [e, g4]
   rw [hin]
   by_cases hpi : p = i + 1
   ·subst hpi
    rw [e, g1, g2, g3]
    exact d_sts R h0 i (by omega) i (Nat.le_refl _)
   ·exact d_sts R h0 i (by omega) p (by omega)
  | true =>
   obtain ⟨s, hs⟩ := eff_kd hk
   by_cases hpi : p = i + 1
   ·subst hpi
    rw [e, upd_eff hs]
    exact List.mem_cons_self
   ·have := d_sts R h0 i (by omega) p (by omega)
    rw [show (d (i + 1)).sts = (dUpd (d i) tm i (B i) (o i) (r i)).sts by rw [e], upd_eff hs]
    exact List.mem_cons_of_mem _ this
theorem upd_lds (x : DS) (tm : PT AV) (i b : Nat) (o : Oper) (r : Rd) : (dUpd x tm i b o r).lds = (match r.kd with | .load => ⟨i, o.op, x.tm, r.v, b⟩ :: x.lds | _ => x.lds) := by unfold dUpd; cases r.kd <;> rfl
theorem d_lds (R : DRun E K sz base ops d0 o B d r) : ∀ i, i ≤ ops.size → ∀ k, k < i → (r k).kd = .load → (⟨k, (o k).op, (d k).tm, (r k).v, B k⟩ : LdR) ∈ (d i).lds
 | 0, _, k, hk, _ => by omega
 | i + 1, hi, k, hk, hl => by
  obtain ⟨tm, e, _⟩ := R.up i (by omega)
  rw [e, upd_lds]
  by_cases hki : k = i
  ·subst hki; rw [hl]; exact List.mem_cons_self
  ·have := d_lds R i (by omega) k (by omega) hl
   cases (r i).kd <;> first | exact this | exact List.mem_cons_of_mem _ this
theorem d_effs (R : DRun E K sz base ops d0 o B d r) (h0 : d0.effs = []) : ∀ i, i ≤ ops.size → (∀ k, k < i → (r k).kd.isEff = true → (k, B k, storeId (d k).tm (o k).op) ∈ (d i).effs) ∧
  ∀ k b x, (k, b, x) ∈ (d i).effs → k < i ∧ (r k).kd.isEff = true ∧ b = B k ∧ x = storeId (d k).tm (o k).op
 | 0, _ => ⟨fun k hk _ => (by omega), fun k b x h => (by rw [R.zero, h0] at h; cases h)⟩
 | i + 1, hi => by
  obtain ⟨tm, e, _⟩ := R.up i (by omega)
  obtain ⟨i1, i2⟩ := d_effs R h0 i (by omega)
  cases hk : (r i).kd.isEff with
  | false =>
   rw [e, (upd_rest hk).2.2.2.2]
   refine ⟨fun k hk' he => ?_, fun k b x h => ?_⟩
   ·by_cases hki : k = i
    ·subst hki; rw [hk] at he; cases he
    ·exact i1 k (by omega) he
   ·obtain ⟨a, b, c⟩ := i2 k b x h
    exact ⟨by omega, b, c⟩
  | true =>
   obtain ⟨s, hs⟩ := eff_kd hk
   rw [e, upd_eff hs]
   refine ⟨fun k hk' he => ?_, fun k b x h => ?_⟩
   ·by_cases hki : k = i
    ·subst hki; exact List.mem_cons_self
    ·exact List.mem_cons_of_mem _ (i1 k (by omega) he)
   ·rcases List.mem_cons.1 h with h | h
    ·cases h; exact ⟨by omega, hk, rfl, rfl⟩
    ·obtain ⟨a, b, c⟩ := i2 k b x h
     exact ⟨by omega, b, c⟩
theorem upd_late (x : DS) (tm : PT AV) (i b : Nat) (o : Oper) (r : Rd) : (dUpd x tm i b o r).late = (match r.kd with | .late j y => some (i, j, y) | _ => x.late) := by unfold dUpd; cases r.kd <;> rfl
theorem pendMask_bit (b : Nat) : ∀ (l : List (Nat × AB)) (k : Nat), testB (pendMask b l) k = true ↔ testB b k = true ∧ ∃ x, (k, x) ∈ l
 | [], k => by show testB 0 k = true ↔ _; rw [testB_zero]; exact ⟨fun h => (by cases h), fun ⟨_, x, h⟩ => (by cases h)⟩
 | p :: l, k => by
  have ih := pendMask_bit b l k
  show testB (match testB b p.1 with | true => Nat.lor (pendMask b l) (bit p.1) | false => pendMask b l) k = true ↔ _
  cases h : testB b p.1 with
  | true =>
   dsimp only
   rw [testB_or, testB_bit, Bool.or_eq_true, decide_eq_true_eq, ih]
   constructor
   ·rintro (⟨h1, x, hx⟩ | rfl)
    ·exact ⟨h1, x, List.mem_cons_of_mem _ hx⟩
    ·exact ⟨h, p.2, List.mem_cons_self⟩
   ·rintro ⟨h1, x, hx⟩
    rcases List.mem_cons.1 hx with e | hx
    ·exact .inr (by rw [← e])
    ·exact .inl ⟨h1, x, hx⟩
  | false =>
   dsimp only
   rw [ih]
   refine ⟨fun ⟨h1, x, hx⟩ => ⟨h1, x, List.mem_cons_of_mem _ hx⟩, fun ⟨h1, x, hx⟩ => ⟨h1, ?_⟩⟩
   rcases List.mem_cons.1 hx with e | hx
   ·rw [show k = p.1 from congrArg Prod.fst e, h] at h1; cases h1
   ·exact ⟨x, hx⟩
theorem addP_get {base b ins : Nat} {h : PT AB} : ∀ {l : List (Nat × AB)} {id : Nat} {x : AB}, (addP base b ins h l).get id = some x →
  (∃ k, (k, x) ∈ l ∧ testB b k = true ∧ testB ins k = false ∧ id = base + k) ∨ ((∀ k y, (k, y) ∈ l → testB b k = true → testB ins k = false → id ≠ base + k) ∧ h.get id = some x)
 | [], id, x, hx => .inr ⟨fun k y m => (by cases m), hx⟩
 | p :: l, id, x, hx => by
  have hx' : (match testB b p.1 with
   | true => match testB ins p.1 with
    | true => addP base b ins h l
    | false => (addP base b ins h l).fc fun r => r.set (base + p.1) (some p.2)
   | false => addP base b ins h l).get id = some x := hx
  have step : (addP base b ins h l).get id = some x → (testB b p.1 = true → testB ins p.1 = false → id ≠ base + p.1) →
    (∃ k, (k, x) ∈ p :: l ∧ testB b k = true ∧ testB ins k = false ∧ id = base + k) ∨ ((∀ k y, (k, y) ∈ p :: l → testB b k = true → testB ins k = false → id ≠ base + k) ∧ h.get id = some x) := fun hx hn => by
   rcases addP_get hx with ⟨k, h1, h2, h3, h4⟩ | ⟨h1, h2⟩
   ·exact .inl ⟨k, List.mem_cons_of_mem _ h1, h2, h3, h4⟩
   ·refine .inr ⟨fun k y m g1 g2 => ?_, h2⟩
    rcases List.mem_cons.1 m with e | m
    ·have : k = p.1 := congrArg Prod.fst e
     subst this; exact hn g1 g2
    ·exact h1 k y m g1 g2
  cases hb : testB b p.1 with
  | false => rw [hb] at hx'; exact step hx' (fun h => by rw [hb] at h; cases h)
  | true =>
   rw [hb] at hx'
   dsimp only at hx'
   cases hi : testB ins p.1 with
   | true => rw [hi] at hx'; exact step hx' (fun _ h => by rw [hi] at h; cases h)
   | false =>
    rw [hi] at hx'
    dsimp only at hx'
    rw [PT.fc_eq] at hx'
    rcases PT.get_set hx' with ⟨e, hv⟩ | ⟨e, hv⟩
    ·cases hv; exact .inl ⟨p.1, List.mem_cons_self, hb, hi, e⟩
    ·exact step hv (fun _ _ => e)
theorem clean_spec {base ins : Nat} {h : PT AB} : ∀ {n : Nat}, clean base ins h n = true → ∀ k, k < n → testB ins k = false → h.get (base + k) = none
 | 0, _, k, hk, _ => by omega
 | n + 1, hc, k, hk, hi => by
  have hc' : (match testB ins n with
   | true => clean base ins h n
   | false => match h.get (base + n) with
    | none => clean base ins h n
    | some _ => false) = true := hc
  have rest : clean base ins h n = true := by
   split at hc'
   ·exact hc'
   ·split at hc'
    ·exact hc'
    ·cases hc'
  by_cases hkn : k = n
  ·subst hkn
   rw [hi] at hc'
   dsimp only at hc'
   split at hc'
   ·rename_i e; exact e
   ·cases hc'
  ·exact clean_spec rest k (by omega) hi
theorem allB_mem {α : Type} {f : α → Bool} : ∀ {l : List α}, allB f l = true → ∀ x ∈ l, f x = true
 | [], _, x, m => by cases m
 | y :: l, h, x, m => by
  have h' : (match f y with | true => allB f l | false => false) = true := h
  split at h'
  ·rename_i e
   rcases List.mem_cons.1 m with rfl | m
   ·exact e
   ·exact allB_mem h' x m
  ·cases h'
theorem hitB_none {i don : Nat} : ∀ {l : List (Nat × Nat × Option Nat)}, (∀ k b x, (k, b, x) ∈ l → testB don k = true → testB b i = false) → hitB i don l = false
 | [], _ => rfl
 | e :: l, h => by
  show (match testB don e.1 with | true => (match testB e.2.1 i with | true => true | false => hitB i don l) | false => hitB i don l) = false
  have ih : hitB i don l = false := hitB_none fun k b x m => h k b x (List.mem_cons_of_mem _ m)
  cases hd : testB don e.1 with
  | false => exact ih
  | true =>
   dsimp only
   rw [h e.1 e.2.1 e.2.2 List.mem_cons_self hd]
   exact ih
theorem testB_and (m n i : Nat) : testB (Nat.land m n) i = (testB m i && testB n i) := by
 rw [testB_eq, testB_eq, testB_eq]; exact Nat.testBit_and m n i
end
end Go.Proofs.YtabmjadcoepbeaaGreat.Ev
namespace Go.Proofs.YtabmjadcoepbeaaGreat.Ev
section
variable {P : Program} {E : Env} {K : CallT} {sz base : Nat} {ops : Array Oper} {d0 : DS} {o : Nat → Oper} {B : Nat → Nat} {d : Nat → DS} {r : Nat → Rd}
inductive RcS (E : Env) (K : CallT) (base : Nat) (d : DS) (i b : Nat) (o : Oper) : Rd → Prop where
 | pure (v : AV) (s : HS) (h : opRun E d.tm ⟨.nil, 0⟩ o.op = some (.val v s)) (hs : s.nx = 0) : RcS E K base d i b o ⟨.pure, v⟩
 | new (v : AV) (s : HS) (x : AB) (h : opRun E d.tm ⟨.nil, base + i⟩ o.op = some (.val v s)) (hs : s.nx = base + i + 1) (hx : s.h.get (base + i) = some x) : RcS E K base d i b o ⟨.new x, v⟩
 | load (v : AV) (hl : d.late = none) (h : opLd E d.tm (addP base b d.ins d.cur.h d.pend) o.op = some v) : RcS E K base d i b o ⟨.load, v⟩
 | eff (v : AV) (s : HS) (hl : d.late = none) (hi : incl d.don b = true) (h : opDo E K d.tm ⟨addP base b d.ins d.cur.h d.pend, d.cur.nx⟩ o.op = some (v, s)) : RcS E K base d i b o ⟨.eff s, v⟩
 | late (v : AV) (s : HS) (id ip : Nat) (x : AB) (e : Nat × Nat × Option Nat) (es : List (Nat × Nat × Option Nat)) (hl : d.late = none) (he : d.effs = e :: es) (hip : e.2.2 = some ip) (hid : storeId d.tm o.op = some id) (hne : id ≠ ip)
   (hi : incl d.don (Nat.lor b (bit e.1)) = true) (hld : ∀ y ∈ d.lds, testB b y.i = true) (h : opRun E d.tm ⟨addP base b d.ins d.cur.h d.pend, 0⟩ o.op = some (.val v s)) (hx : s.h.get id = some x) : RcS E K base d i b o ⟨.late id x, v⟩
theorem noLate_some {α : Type} {d : DS} {x : Option α} {y : α} (h : noLate d x = some y) : d.late = none ∧ x = some y := by
 unfold noLate at h
 split at h
 ·rename_i e; exact ⟨e, h⟩
 ·cases h
theorem rc_spec {all : List Oper} {x : DS} {i b : Nat} {p : Oper} {rd : Rd} (h : rcOf E K base all x i b p = some rd) :
  (want all x.tm p.guard = some false ∧ rd = ⟨.skip, undV⟩) ∨ (want all x.tm p.guard = some true ∧ RcS E K base x i b p rd) := by
 replace h := bnd_some h; obtain ⟨t, ht, h⟩ := h
 cases t with
 | false => cases h; exact .inl ⟨ht, rfl⟩
 | true =>
  refine .inr ⟨ht, ?_⟩
  dsimp only at h
  split at h
  ·replace h := bnd_some h; obtain ⟨q, hq, h⟩ := h
   split at h
   ·cases h
   ·split at h
    ·rename_i e; cases h; exact .pure _ _ hq (Nat.eq_of_beq_eq_true e)
    ·cases h
  ·replace h := bnd_some h; obtain ⟨q, hq, h⟩ := h
   split at h
   ·cases h
   ·split at h
    ·rename_i e
     replace h := bnd_some h; obtain ⟨y, hy, h⟩ := h
     cases h; exact .new _ _ _ hq (Nat.eq_of_beq_eq_true e) hy
    ·cases h
  ·obtain ⟨hl, h⟩ := noLate_some h
   replace h := bnd_some h; obtain ⟨v, hv, h⟩ := h
   cases h; exact .load _ hl hv
  ·obtain ⟨hl, h⟩ := noLate_some h
   split at h
   ·rename_i hi
    replace h := bnd_some h; obtain ⟨q, hq, h⟩ := h
    rw [HS.fc_eq] at h
    cases h; exact .eff _ _ hl hi hq
   ·unfold lateOf at h
    split at h
    ·cases h
    ·rename_i e es he
     replace h := bnd_some h; obtain ⟨ip, hip, h⟩ := h
     replace h := bnd_some h; obtain ⟨id, hid, h⟩ := h
     split at h
     ·cases h
     ·rename_i hne
      split at h
      ·cases h
      ·rename_i hi
       split at h
       ·cases h
       ·rename_i hld
        replace h := bnd_some h; obtain ⟨q, hq, h⟩ := h
        split at h
        ·cases h
        ·replace h := bnd_some h; obtain ⟨x', hx', h⟩ := h
         cases h
         exact .late _ _ id ip _ e es hl he hip hid (Nat.ne_of_beq_eq_false hne) hi (allB_mem hld) hq hx'
def RK.quiet (k : RK) : Bool := match k with
 | .skip => true
 | .pure => true
 | .new _ => true
 | _ => false
theorem upd_nolate {x : DS} {tm : PT AV} {i b : Nat} {p : Oper} {rd : Rd} (h : ∀ j y, rd.kd ≠ .late j y) : (dUpd x tm i b p rd).late = x.late := by
 rw [upd_late]
 cases hk : rd.kd <;> first | rfl | exact absurd hk (h _ _)
theorem late_after (R : DRun E K sz base ops d0 o B d r) : ∀ n i, i + n ≤ ops.size → (d i).late ≠ none → (d (i + n)).late = (d i).late ∧ ∀ k, i ≤ k → k < i + n → (r k).kd.quiet = true
 | 0, i, _, _ => ⟨rfl, fun k h1 h2 => by omega⟩
 | n + 1, i, hn, hl => by
  obtain ⟨h1, h2⟩ := late_after R n i (by omega) hl
  have hq : (r (i + n)).kd.quiet = true := by
   rcases rc_spec (R.rc (i + n) (by omega)) with ⟨_, e⟩ | ⟨_, e⟩
   ·rw [e]; rfl
   ·generalize hrr : r (i + n) = rr at e
    cases e with
    | pure v s h hs => rfl
    | new v s x h hs hx => rfl
    | load v hlt h => exact absurd (h1 ▸ hlt) hl
    | eff v s hlt hi h => exact absurd (h1 ▸ hlt) hl
    | late v s id ip x e es hlt he hip hid hne hi hld h hx => exact absurd (h1 ▸ hlt) hl
  refine ⟨?_, fun k a b => ?_⟩
  ·obtain ⟨tm, e, _⟩ := R.up (i + n) (by omega)
   rw [show i + (n + 1) = i + n + 1 by omega, e, upd_nolate (fun j y e => by rw [e] at hq; cases hq), h1]
  ·by_cases hk : k = i + n
   ·subst hk; exact hq
   ·exact h2 k a (by omega)
theorem d_late (R : DRun E K sz base ops d0 o B d r) (h0 : d0.late = none) : ∀ i, i ≤ ops.size → ∀ q j y, (d i).late = some (q, j, y) → q < i ∧ (r q).kd = .late j y
 | 0, _, q, j, y, h => by rw [R.zero, h0] at h; cases h
 | i + 1, hi, q, j, y, h => by
  obtain ⟨tm, e, _⟩ := R.up i (by omega)
  rw [e, upd_late] at h
  have ih : (d i).late = some (q, j, y) → q < i + 1 ∧ (r q).kd = .late j y := fun h => by
   obtain ⟨a, b⟩ := d_late R h0 i (by omega) q j y h
   exact ⟨by omega, b⟩
  cases hk : (r i).kd <;> rw [hk] at h <;> try (exact ih h)
  cases h
  exact ⟨by omega, hk⟩
theorem d_late' (R : DRun E K sz base ops d0 o B d r) {q j : Nat} {y : AB} (hq : q < ops.size) (hk : (r q).kd = .late j y) : (d ops.size).late = some (q, j, y) ∧ ∀ k, q < k → k < ops.size → (r k).kd.quiet = true := by
 obtain ⟨tm, e, _⟩ := R.up q hq
 have h1 : (d (q + 1)).late = some (q, j, y) := by rw [e, upd_late, hk]
 obtain ⟨h2, h3⟩ := late_after R (ops.size - (q + 1)) (q + 1) (by omega) (by rw [h1]; exact fun h => by cases h)
 rw [show q + 1 + (ops.size - (q + 1)) = ops.size by omega] at h2 h3
 exact ⟨h2.trans h1, fun k a b => h3 k (by omega) b⟩
theorem d_ins (R : DRun E K sz base ops d0 o B d r) (h0 : d0.ins = 0) : ∀ i, i ≤ ops.size → ∀ k, testB (d i).ins k = true → ∃ e, e < i ∧ (r e).kd.isEff = true ∧ testB (B e) k = true
 | 0, _, k, h => by rw [R.zero, h0, testB_zero] at h; cases h
 | i + 1, hi, k, h => by
  obtain ⟨tm, e, _⟩ := R.up i (by omega)
  have ih : testB (d i).ins k = true → ∃ e, e < i + 1 ∧ (r e).kd.isEff = true ∧ testB (B e) k = true := fun h => by
   obtain ⟨x, a, b, c⟩ := d_ins R h0 i (by omega) k h
   exact ⟨x, by omega, b, c⟩
  cases hk : (r i).kd.isEff with
  | false => rw [e, (upd_rest hk).2.2.1] at h; exact ih h
  | true =>
   obtain ⟨s, hs⟩ := eff_kd hk
   rw [e, upd_eff hs] at h
   dsimp only at h
   rw [testB_or, Bool.or_eq_true] at h
   rcases h with h | h
   ·exact ih h
   ·exact ⟨i, by omega, hk, ((pendMask_bit _ _ _).1 h).1⟩
theorem d_nx (hK : KOk P K) (R : DRun E K sz base ops d0 o B d r) : ∀ n p, p + n ≤ ops.size → (d p).cur.nx ≤ (d (p + n)).cur.nx
 | 0, p, _ => Nat.le_refl _
 | n + 1, p, h => by
  refine Nat.le_trans (d_nx hK R n p (by omega)) ?_
  obtain ⟨tm, e, _⟩ := R.up (p + n) (by omega)
  rw [show p + (n + 1) = p + n + 1 by omega, e]
  cases hk : (r (p + n)).kd.isEff with
  | false => rw [(upd_rest hk).1]; exact Nat.le_refl _
  | true =>
   obtain ⟨s, hs⟩ := eff_kd hk
   rw [upd_eff hs]
   rcases rc_spec (R.rc (p + n) (by omega)) with ⟨_, e⟩ | ⟨_, e⟩
   ·rw [e] at hs; cases hs
   ·generalize hrr : r (p + n) = rr at e hs
    cases e with
    | eff v s' hlt hi h =>
     cases hs
     have := opDo_nx hK h
     exact this
    | _ => cases hs
def pendAt (base n : Nat) (r : Nat → Rd) (ins : Nat) (L : Nat → Bool) (id : Nat) : Option AB := if base ≤ id ∧ id < base + n then (match (r (id - base)).kd with
  | .new b => if L (id - base) = true ∧ testB ins (id - base) = false then some b else none
  | _ => none) else none
theorem pendAt_some {base n ins id : Nat} {r : Nat → Rd} {L : Nat → Bool} {b : AB} (h : pendAt base n r ins L id = some b) : ∃ k, k < n ∧ id = base + k ∧ (r k).kd = .new b ∧ L k = true ∧ testB ins k = false := by
 unfold pendAt at h
 split at h
 ·rename_i hr
  split at h
  ·rename_i b' hk
   split at h
   ·rename_i hc; cases h; exact ⟨id - base, by omega, by omega, hk, hc.1, hc.2⟩
   ·cases h
  ·cases h
 ·cases h
theorem pendAt_of {base n ins k : Nat} {r : Nat → Rd} {L : Nat → Bool} {b : AB} (hk : k < n) (hr : (r k).kd = .new b) (hL : L k = true) (hi : testB ins k = false) : pendAt base n r ins L (base + k) = some b := by
 unfold pendAt
 rw [if_pos ⟨by omega, by omega⟩, show base + k - base = k by omega, hr]
 dsimp only
 rw [if_pos ⟨hL, hi⟩]
noncomputable def hB (base n : Nat) (r : Nat → Rd) (ins : Nat) (L : Nat → Bool) (h : PT AB) : Hp := fun id => match pendAt base n r ins L id with
 | some b => some b
 | none => h.get id
def hS (late : Option (Nat × Nat × AB)) (L : Nat → Bool) (g : Hp) : Hp := fun id => match late with
 | none => g id
 | some x => if L x.1 = true ∧ id = x.2.1 then some x.2.2 else g id
noncomputable def hA (base n : Nat) (d : Nat → DS) (r : Nat → Rd) (L : Nat → Bool) (p : Nat) : Hp := hS (d n).late L (hB base n r (d p).ins L (d p).cur.h)
structure DInv (sz base : Nat) (ops : Array Oper) (o : Nat → Oper) (d : Nat → DS) (r : Nat → Rd) (tm0 : PT AV) (φ0 : Phi) (h0 : Hp) (w0 : World) (L : Nat → Bool) (φ : Phi) (a : Act) (w : World) (p : Nat) : Prop where
 down : ∀ i, i < ops.size → L i = true → ∀ e ∈ (o i).after, Region.binds .any e = true → L e.on = true
 pn : p ≤ ops.size
 eff : ∀ i, i < ops.size → (r i).kd.isEff = true → (L i = true ↔ i < p)
 sim : Sim φ (hA base ops.size d r L p) w
 fresh : Fresh φ (d p).cur.nx (d ops.size).cur.nx
 alloc : ∀ i b, i < ops.size → (r i).kd = .new b → L i = false → φ (base + i) = none
 old : ∀ id, id < base ∨ (d ops.size).cur.nx ≤ id → φ id = φ0 id
 le : φ0.le φ
 tsize : a.tmps.size = sz
 dfr : a.defers = []
 wr : ∀ i t, i < ops.size → L i = true → (o i).dst = some t → a.tmps[t]? = some (concV φ (r i).v) ∧ okV φ (r i).v
 tm : ∀ t v, (∀ i, i < ops.size → L i = true → (o i).dst ≠ some t) → tm0.get t = some v → a.tmps[t]? = some (concV φ v) ∧ okV φ v
 wsize : w0.heap.size ≤ w.heap.size
 fr : ∀ b, b < w0.heap.size → ¬ foot φ0 h0 b → w.heap[b]? = w0.heap[b]?
 own : ∀ b, foot φ (hA base ops.size d r L p) b → foot φ0 h0 b ∨ w0.heap.size ≤ b
 os : w.os = w0.os
 tape : w.tape = w0.tape
 output : w.output = w0.output
def setL (L : Nat → Bool) (i : Nat) : Nat → Bool := fun k => if k = i then true else L k
theorem setL_same (L : Nat → Bool) (i : Nat) : setL L i i = true := if_pos rfl
theorem setL_other (L : Nat → Bool) {i k : Nat} (h : k ≠ i) : setL L i k = L k := if_neg h
section
variable {tm0 : PT AV} {φ0 φ ψ : Phi} {h0 : Hp} {w0 w u : World} {L : Nat → Bool} {a : Act} {p p' i : Nat}
theorem bef_done (R : DRun E K sz base ops d0 o B d r) (hd : ∀ i, i < ops.size → L i = true → ∀ e ∈ (o i).after, Region.binds .any e = true → L e.on = true) :
  ∀ i, i < ops.size → (∀ e ∈ (o i).after, Region.binds .any e = true → L e.on = true) → ∀ k, testB (B i) k = true → L k = true ∧ k < i := by
 intro i
 induction i using Nat.strongRecOn with
 | _ i ih =>
  intro hi he k hk
  obtain ⟨e, me, hb, hlt, hk'⟩ := R.bef i hi k hk
  have hL := he e me hb
  rcases hk' with rfl | hk'
  ·exact ⟨hL, hlt⟩
  ·obtain ⟨h1, h2⟩ := ih e.on hlt (by omega) (hd e.on (by omega) hL) k hk'
   exact ⟨h1, by omega⟩
theorem DInv.next (R : DRun E K sz base ops d0 o B d r) (I : DInv sz base ops o d r tm0 φ0 h0 w0 L φ a w p) (hi : i < ops.size) (hL : L i = false) (hrdy : ∀ e ∈ (o i).after, Region.binds .any e = true → L e.on = true)
  (hp' : p' ≤ ops.size) (heff : ∀ k, k < ops.size → (r k).kd.isEff = true → (setL L i k = true ↔ k < p')) (hl : φ.le ψ) (hsim : Sim ψ (hA base ops.size d r (setL L i) p') u)
  (hown : ∀ b, foot ψ (hA base ops.size d r (setL L i) p') b → foot φ (hA base ops.size d r L p) b ∨ w.heap.size ≤ b) (hfr : ∀ b, b < w.heap.size → ¬ foot φ (hA base ops.size d r L p) b → u.heap[b]? = w.heap[b]?)
  (hfresh : Fresh ψ (d p').cur.nx (d ops.size).cur.nx) (halloc : ∀ k b, k < ops.size → (r k).kd = .new b → k ≠ i → L k = false → ψ (base + k) = none) (hout : ∀ id, id < base ∨ (d ops.size).cur.nx ≤ id → ψ id = φ id)
  (hsz : w.heap.size ≤ u.heap.size) (h1 : u.os = w.os) (h2 : u.tape = w.tape) (h3 : u.output = w.output) (hv : okV ψ (r i).v) :
  DInv sz base ops o d r tm0 φ0 h0 w0 (setL L i) ψ (a.put (o i).dst (concV ψ (r i).v)) u p' := by
 have hput : ∀ t x, (o i).dst ≠ some t → a.tmps[t]? = some x → (a.put (o i).dst (concV ψ (r i).v)).tmps[t]? = some x := fun t x hne hx => by
  cases hd : (o i).dst with
  | none => exact hx
  | some t' => simp only [Act.put]; rw [Array.getElem?_setIfInBounds_ne (fun e => hne (by rw [hd, e]))]; exact hx
 refine ⟨fun k hk hLk e me hb => ?_, hp', heff, hsim, hfresh, fun k b hk hkd hLk => ?_, fun id hid => by rw [hout id hid, I.old id hid], Phi.le_trans I.le hl, ?_, ?_, fun k t hk hLk ht => ?_, fun t v hno hv0 => ?_, Nat.le_trans I.wsize hsz, fun b hb hf => ?_, fun b hb => ?_, h1.trans I.os, h2.trans I.tape, h3.trans I.output⟩
 ·by_cases hki : k = i
  ·subst hki
   by_cases e2 : e.on = k
   ·rw [e2]; exact setL_same L k
   ·rw [setL_other L e2]; exact hrdy e me hb
  ·rw [setL_other L hki] at hLk
   by_cases e2 : e.on = i
   ·rw [e2]; exact setL_same L i
   ·rw [setL_other L e2]; exact I.down k hk hLk e me hb
 ·by_cases hki : k = i
  ·subst hki; rw [setL_same] at hLk; cases hLk
  ·rw [setL_other L hki] at hLk; exact halloc k b hk hkd hki hLk
 ·cases hd : (o i).dst <;> simp [Act.put, I.tsize]
 ·cases hd : (o i).dst <;> exact I.dfr
 ·by_cases hki : k = i
  ·subst hki
   obtain ⟨tm, _, hdd⟩ := R.up k hk
   rcases hdd with ⟨hdd, _⟩ | ⟨t', hdd, hlt, _⟩
   ·rw [hdd] at ht; cases ht
   ·rw [hdd] at ht; cases ht
    exact ⟨by rw [hdd]; simp [Act.put, I.tsize, hlt], hv⟩
  ·rw [setL_other L hki] at hLk
   obtain ⟨g1, g2⟩ := I.wr k t hk hLk ht
   exact ⟨hput t _ (R.apart i k t hi hk hki ht).1 (by rw [concV_le hl g2]; exact g1), g2.le hl⟩
 ·obtain ⟨g1, g2⟩ := I.tm t v (fun k hk hLk => by
   have hki : k ≠ i := fun e => by rw [e, hL] at hLk; cases hLk
   exact hno k hk (by rw [setL_other L hki]; exact hLk)) hv0
  exact ⟨hput t _ (hno i hi (setL_same L i)) (by rw [concV_le hl g2]; exact g1), g2.le hl⟩
 ·have hnf : ¬ foot φ (hA base ops.size d r L p) b := fun hf2 => by
   rcases I.own b hf2 with h | h
   ·exact hf h
   ·omega
  rw [hfr b (Nat.lt_of_lt_of_le hb I.wsize) hnf, I.fr b hb hf]
 ·rcases hown b hb with h | h
  ·exact I.own b h
  ·exact .inr (Nat.le_trans I.wsize h)
end
end
end Go.Proofs.YtabmjadcoepbeaaGreat.Ev
namespace Go.Proofs.YtabmjadcoepbeaaGreat.Ev
section
variable {P : Program} {E : Env} {K : CallT} {sz base : Nat} {ops : Array Oper} {d0 : DS} {o : Nat → Oper} {B : Nat → Nat} {d : Nat → DS} {r : Nat → Rd}
variable {tm0 : PT AV} {φ0 φ ψ : Phi} {h0 : Hp} {w0 w u : World} {L : Nat → Bool} {a : Act} {p p' i : Nat}
structure DFacts (E : Env) (K : CallT) (sz base : Nat) (ops : Array Oper) (d0 : DS) (o : Nat → Oper) (B : Nat → Nat) (d : Nat → DS) (r : Nat → Rd) (tm0 : PT AV) : Prop where
 R : DRun E K sz base ops d0 o B d r
 tm : d0.tm = tm0
 pend : d0.pend = []
 don : d0.don = 0
 ins : d0.ins = 0
 sts : d0.sts = [⟨d0.don, d0.ins, d0.cur.h⟩]
 effs : d0.effs = []
 late : d0.late = none
 nx : base + ops.size ≤ d0.cur.nx
 clean : ∀ i, i ≤ ops.size → ∀ k, k < ops.size → testB (d i).ins k = false → (d i).cur.h.get (base + k) = none
 lds : ∀ i, i < ops.size → (r i).kd = .load → ∀ p, p ≤ ops.size → ldOk E base (d ops.size) ⟨i, (o i).op, (d i).tm, (r i).v, B i⟩ ⟨(d p).don, (d p).ins, (d p).cur.h⟩ = true
theorem reads_of {l : List Operand} {t : Nat} (h : Operand.tmp t ∈ l) : readsT l t = true := by
 induction l with
 | nil => cases h
 | cons x l ih =>
  rcases List.mem_cons.1 h with e | h
  ·rw [← e]
   show (match Nat.beq t t with | true => true | false => readsT l t) = true
   rw [Nat.beq_refl]
  ·have ih := ih h
   cases x <;> try exact ih
   rename_i u
   show (match Nat.beq u t with | true => true | false => readsT l t) = true
   split
   ·rfl
   ·exact ih
theorem looks_ok (F : DFacts E K sz base ops d0 o B d r tm0) (I : DInv sz base ops o d r tm0 φ0 h0 w0 L φ a w p) (hi : i < ops.size) (hL : L i = false) (hrdy : ∀ e ∈ (o i).after, Region.binds .any e = true → L e.on = true)
  {t : Nat} {v : AV} (hlk : looks ops.toList (o i) t = true) (hv : (d i).tm.get t = some v) : a.tmps[t]? = some (concV φ v) ∧ okV φ v := by
 have hbd := bef_done F.R I.down
 rcases d_tm F.R i (by omega) t v hv with ⟨k, h1, h2, h3⟩ | ⟨h1, h2⟩
 ·have hb := ((F.R.apart i k t hi (by omega) (by omega) h2).2 hlk).1 h1
  have hLk := (hbd i hi hrdy k hb).1
  rw [← h3]; exact I.wr k t (by omega) hLk h2
 ·rw [F.tm] at h2
  refine I.tm t v (fun k hk hLk hd => ?_) h2
  by_cases hki : k = i
  ·rw [hki, hL] at hLk; cases hLk
  ·rcases Nat.lt_or_ge k i with hlt | hge
   ·exact h1 k hlt hd
   ·have hb := ((F.R.apart i k t hi hk hki hd).2 hlk).2 (by omega)
    have := (hbd k hk (I.down k hk hLk) i hb).1
    rw [hL] at this; cases this
theorem ev_ok (F : DFacts E K sz base ops d0 o B d r tm0) (I : DInv sz base ops o d r tm0 φ0 h0 w0 L φ a w p) (hi : i < ops.size) (hL : L i = false) (hrdy : ∀ e ∈ (o i).after, Region.binds .any e = true → L e.on = true) :
  EvOk φ (d i).tm a.eval (o i).op.operands := fun x hx v hv => by
 cases x with
 | tmp t =>
  have hlk : looks ops.toList (o i) t = true := by
   unfold looks; rw [reads_of (by simpa using hx)]
  obtain ⟨h1, h2⟩ := looks_ok F I hi hL hrdy hlk hv
  exact ⟨by simp [Act.eval, h1], h2⟩
 | const c =>
  replace hv := bnd_some hv; obtain ⟨w, hw, hv⟩ := hv
  cases hv
  exact absW_ok φ hw
 | global g => cases hv
 | func f => cases hv; exact ⟨rfl, okV_c trivial⟩
theorem want_ok' (F : DFacts E K sz base ops d0 o B d r tm0) (I : DInv sz base ops o d r tm0 φ0 h0 w0 L φ a w p) (hi : i < ops.size) (hL : L i = false) (hrdy : ∀ e ∈ (o i).after, Region.binds .any e = true → L e.on = true)
  {b : Bool} (hw : want ops.toList (d i).tm (o i).guard = some b) : Region.wanted (o i) (yielded ops a.tmps) = b := by
 unfold Region.wanted
 cases hg : (o i).guard with
 | none => rw [hg] at hw; cases hw; rfl
 | some g =>
  obtain ⟨j, c⟩ := g
  rw [hg] at hw
  replace hw := bnd_some hw; obtain ⟨oj, hj, hw⟩ := hw
  replace hw := bnd_some hw; obtain ⟨t, ht, hw⟩ := hw
  replace hw := bnd_some hw; obtain ⟨v, hv, hw⟩ := hw
  have hlk : looks ops.toList (o i) t = true := by
   unfold looks
   split
   ·rfl
   ·rw [hg]; dsimp only; rw [hj]; dsimp only; rw [ht]; exact Nat.beq_refl t
  have h1 := (looks_ok F I hi hL hrdy hlk hv).1
  have hj' : ops[j]? = some oj := by simpa using hj
  have hy : ∀ r, (match a.tmps[t]? with | some (.bool b) => some b | _ => none) = r → yielded ops a.tmps j = r := fun r hr => by
   unfold yielded
   rw [hj']
   simp only [Option.bind_some, ht]
   exact hr
  cases v with
  | tup l =>
   cases l with
   | nil => cases hw; dsimp only; rw [hy none (by rw [h1]; rfl)]; rfl
   | cons x l => cases hw
  | w x =>
   cases x with
   | agg cs => cases hw
   | c x =>
    cases x <;> try (cases hw; done)
    rename_i p
    cases hw
    dsimp only
    rw [hy (some p) (by rw [h1]; rfl)]
    cases p <;> cases c <;> rfl
theorem addP_sub (F : DFacts E K sz base ops d0 o B d r tm0) {b m : Nat} (hp : p ≤ ops.size) (hm : m ≤ ops.size) (hb : ∀ k, testB b k = true → L k = true) {id : Nat} {x : AB} (h : (addP base b (d p).ins (d p).cur.h (d m).pend).get id = some x) :
  hB base ops.size r (d p).ins L (d p).cur.h id = some x := by
 unfold hB
 rcases addP_get h with ⟨k, h1, h2, h3, rfl⟩ | ⟨_, h2⟩
 ·obtain ⟨g1, g2⟩ := (d_pend F.R F.pend m hm k x).1 h1
  rw [pendAt_of (by omega) g2 (hb k h2) h3]
 ·cases hpa : pendAt base ops.size r (d p).ins L id with
  | none => exact h2
  | some y =>
   obtain ⟨k, g1, rfl, g3, g4, g5⟩ := pendAt_some hpa
   rw [F.clean p hp k g1 g5] at h2; cases h2
theorem hA_nolate (h : ∀ q j y, (d ops.size).late = some (q, j, y) → L q = false) (p : Nat) : hA base ops.size d r L p = hB base ops.size r (d p).ins L (d p).cur.h := by
 funext id
 unfold hA hS
 split
 ·rfl
 ·rename_i x hx
  obtain ⟨q, j, y⟩ := x
  rw [if_neg (fun hc => by have := h q j y hx; rw [this] at hc; cases hc.1)]
theorem hA_quiet (F : DFacts E K sz base ops d0 o B d r tm0) (hn : ∀ b, (r i).kd ≠ .new b) (hl : ∀ j y, (r i).kd ≠ .late j y) (p : Nat) : hA base ops.size d r (setL L i) p = hA base ops.size d r L p := by
 have e1 : ∀ id, pendAt base ops.size r (d p).ins (setL L i) id = pendAt base ops.size r (d p).ins L id := fun id => by
  unfold pendAt
  split
  ·by_cases hk : id - base = i
   ·rw [hk]
    split
    ·rename_i b hb; exact absurd hb (hn b)
    ·rfl
   ·rw [setL_other L hk]
  ·rfl
 funext id
 unfold hA hS hB
 simp only [e1]
 split
 ·rfl
 ·rename_i x hx
  obtain ⟨q, j, y⟩ := x
  have hq := (d_late F.R F.late ops.size (Nat.le_refl _) q j y hx).2
  have hqi : q ≠ i := fun e => hl j y (e ▸ hq)
  dsimp only
  rw [setL_other L hqi]
theorem step_same (F : DFacts E K sz base ops d0 o B d r tm0) (I : DInv sz base ops o d r tm0 φ0 h0 w0 L φ a w p) (hi : i < ops.size) (hL : L i = false) (hrdy : ∀ e ∈ (o i).after, Region.binds .any e = true → L e.on = true)
  (hq : (r i).kd.isEff = false) (hn : ∀ b, (r i).kd ≠ .new b) (hlt : ∀ j y, (r i).kd ≠ .late j y) (he : ∀ id, ψ id = φ id) (hsim : Sim ψ (hA base ops.size d r L p) u)
  (hown : ∀ b, foot ψ (hA base ops.size d r L p) b → foot φ (hA base ops.size d r L p) b ∨ w.heap.size ≤ b) (hfr : ∀ b, b < w.heap.size → ¬ foot φ (hA base ops.size d r L p) b → u.heap[b]? = w.heap[b]?)
  (hsz : w.heap.size ≤ u.heap.size) (h1 : u.os = w.os) (h2 : u.tape = w.tape) (h3 : u.output = w.output) (hv : okV ψ (r i).v) :
  DInv sz base ops o d r tm0 φ0 h0 w0 (setL L i) ψ (a.put (o i).dst (concV ψ (r i).v)) u p := by
 have eA := hA_quiet (base := base) (L := L) F hn hlt p
 refine I.next F.R hi hL hrdy I.pn (fun k hk hke => ?_) (fun id q h => by rw [he]; exact h) (by rw [eA]; exact hsim) (by rw [eA]; exact hown) hfr (fun id a b => by rw [he]; exact I.fresh id a b) (fun k b hk hkd _ hLk => by rw [he]; exact I.alloc k b hk hkd hLk) (fun id _ => he id) hsz h1 h2 h3 hv
 have hki : k ≠ i := fun e => by rw [e, hq] at hke; cases hke
 rw [setL_other L hki]; exact I.eff k hk hke
theorem eff_state (F : DFacts E K sz base ops d0 o B d r tm0) (I : DInv sz base ops o d r tm0 φ0 h0 w0 L φ a w p) (hi : i < ops.size) (hpi : p ≤ i) (hall : ∀ k, k < i → (r k).kd.isEff = true → L k = true) :
  (d i).cur = (d p).cur ∧ (d i).don = (d p).don ∧ (d i).ins = (d p).ins := by
 have := d_const F.R (p := p) (i - p) (by omega) (fun k h1 h2 => by
  cases hk : (r k).kd.isEff with
  | false => rfl
  | true =>
   have := (I.eff k (by omega) hk).1 (hall k (by omega) hk)
   omega)
 rwa [show p + (i - p) = i by omega] at this
end
end Go.Proofs.YtabmjadcoepbeaaGreat.Ev
namespace Go.Proofs.YtabmjadcoepbeaaGreat.Ev
section
variable {P : Program} {E : Env} {K : CallT} {sz base : Nat} {ops : Array Oper} {d0 : DS} {o : Nat → Oper} {B : Nat → Nat} {d : Nat → DS} {r : Nat → Rd}
variable {tm0 : PT AV} {φ0 φ ψ : Phi} {h0 : Hp} {w0 w u : World} {L : Nat → Bool} {a : Act} {p p' i : Nat}
theorem nil_sim (φ : Phi) (w : World) : Sim φ (PT.nil : PT AB).get w := ⟨fun _ _ h => (by cases h), fun _ _ _ _ _ _ h => (by cases h)⟩
theorem nil_foot {φ : Phi} {n : Nat} (h : foot φ (PT.nil : PT AB).get n) : False := by obtain ⟨_, _, _, h, _⟩ := h; cases h
theorem nx_ge (hK : KOk P K) (F : DFacts E K sz base ops d0 o B d r tm0) (hp : p ≤ ops.size) : base + ops.size ≤ (d p).cur.nx ∧ (d p).cur.nx ≤ (d ops.size).cur.nx := by
 have h1 := d_nx hK F.R p 0 (by omega)
 rw [Nat.zero_add, F.R.zero] at h1
 have h3 := F.nx
 have h2 := d_nx hK F.R (ops.size - p) p (by omega)
 rw [show p + (ops.size - p) = ops.size by omega] at h2
 exact ⟨by omega, h2⟩
def Goes (sz base : Nat) (ops : Array Oper) (o : Nat → Oper) (d : Nat → DS) (r : Nat → Rd) (tm0 : PT AV) (φ0 : Phi) (h0 : Hp) (w0 : World) (L : Nat → Bool) : Act → World → Prop := fun a w => ∃ φ p, DInv sz base ops o d r tm0 φ0 h0 w0 L φ a w p
theorem step_pure (hE : EnvOk P E) (F : DFacts E K sz base ops d0 o B d r tm0) (I : DInv sz base ops o d r tm0 φ0 h0 w0 L φ a w p) (hi : i < ops.size) (hL : L i = false) (hrdy : ∀ e ∈ (o i).after, Region.binds .any e = true → L e.on = true)
  {v : AV} {s : HS} (hr : r i = ⟨.pure, v⟩) (h : opRun E (d i).tm ⟨.nil, 0⟩ (o i).op = some (.val v s)) (hs : s.nx = 0) {Q : Exit → Act → World → Prop} : (o i).wp P a w (Goes sz base ops o d r tm0 φ0 h0 w0 (setL L i)) Q := by
 obtain ⟨ψ, u, h1, h2, st⟩ := op_val hE h (nil_sim φ w) (fun id a b => by rw [hs] at b; omega) (ev_ok F I hi hL hrdy)
 rw [hs] at st
 have he : ∀ id, ψ id = φ id := fun id => st.old id (.inr (Nat.zero_le _))
 have hl : φ.le ψ := fun id q hq => by rw [he]; exact hq
 obtain ⟨f1, f2⟩ := st.frame (h := hA base ops.size d r L p) (g := hA base ops.size d r L p) hl I.sim (fun _ _ h => (by cases h)) (fun id b h => .inr ⟨rfl, h⟩)
 have hkd : (r i).kd = .pure := by rw [hr]
 have hv : (r i).v = v := by rw [hr]
 have nx : Goes sz base ops o d r tm0 φ0 h0 w0 (setL L i) (a.put (o i).dst (concV ψ v)) u := by
  have := step_same (ψ := ψ) (u := u) F I hi hL hrdy (by rw [hkd]; rfl) (fun b e => by rw [hkd] at e; cases e) (fun j y e => by rw [hkd] at e; cases e) he f1 f2 (fun b hb _ => st.fr b hb nil_foot) st.size st.os st.tape st.output (by rw [hv]; exact h2)
  rw [hv] at this
  exact ⟨ψ, p, this⟩
 unfold Oper.wp
 rcases h1 with h1 | ⟨h1, rfl⟩
 ·rw [h1]; exact nx
 ·rw [h1]; exact nx
theorem ins_false (F : DFacts E K sz base ops d0 o B d r tm0) (I : DInv sz base ops o d r tm0 φ0 h0 w0 L φ a w p) (hL : L i = false) : testB (d p).ins i = false := by
 cases h : testB (d p).ins i with
 | false => rfl
 | true =>
  obtain ⟨e, h1, h2, h3⟩ := d_ins F.R F.ins p I.pn i h
  have he : e < ops.size := Nat.lt_of_lt_of_le h1 I.pn
  have hLe := (I.eff e he h2).2 h1
  have := (bef_done F.R I.down e he (I.down e he hLe) i h3).1
  rw [hL] at this; cases this
theorem step_new (hE : EnvOk P E) (hK : KOk P K) (F : DFacts E K sz base ops d0 o B d r tm0) (I : DInv sz base ops o d r tm0 φ0 h0 w0 L φ a w p) (hi : i < ops.size) (hL : L i = false) (hrdy : ∀ e ∈ (o i).after, Region.binds .any e = true → L e.on = true)
  {v : AV} {s : HS} {x : AB} (hr : r i = ⟨.new x, v⟩) (h : opRun E (d i).tm ⟨.nil, base + i⟩ (o i).op = some (.val v s)) (hs : s.nx = base + i + 1) (hx : s.h.get (base + i) = some x) {Q : Exit → Act → World → Prop} : (o i).wp P a w (Goes sz base ops o d r tm0 φ0 h0 w0 (setL L i)) Q := by
 have hkd : (r i).kd = .new x := by rw [hr]
 have hv : (r i).v = v := by rw [hr]
 have hf : Fresh φ (base + i) s.nx := fun id a b => by
  have : id = base + i := by omega
  rw [this]; exact I.alloc i x hi hkd hL
 obtain ⟨ψ, u, h1, h2, st⟩ := op_val hE h (nil_sim φ w) hf (ev_ok F I hi hL hrdy)
 have hl := st.le hf
 rw [hs] at st
 have hlq : ∀ q j y, (d ops.size).late = some (q, j, y) → q ≠ i := fun q j y hq e => by
  have := (d_late F.R F.late ops.size (Nat.le_refl _) q j y hq).2
  rw [e, hkd] at this; cases this
 have hpo : ∀ id, id ≠ base + i → pendAt base ops.size r (d p).ins (setL L i) id = pendAt base ops.size r (d p).ins L id := fun id hne => by
  unfold pendAt
  split
  ·rw [setL_other L (by omega)]
  ·rfl
 have hg : ∀ id b, hA base ops.size d r (setL L i) p id = some b → s.h.get id = some b ∨ ((PT.nil : PT AB).get id = none ∧ hA base ops.size d r L p id = some b) := by
  intro id b hb
  have base' : hB base ops.size r (d p).ins (setL L i) (d p).cur.h id = some b → (s.h.get id = some b ∨ hB base ops.size r (d p).ins L (d p).cur.h id = some b) := fun hb => by
   by_cases hid : id = base + i
   ·subst hid
    unfold hB at hb
    rw [pendAt_of hi hkd (setL_same L i) (ins_false F I hL)] at hb
    cases hb; exact .inl hx
   ·unfold hB at hb ⊢
    rw [hpo id hid] at hb; exact .inr hb
  unfold hA hS at hb ⊢
  cases hlate : (d ops.size).late with
  | none =>
   rw [hlate] at hb
   rcases base' hb with h | h
   ·exact .inl h
   ·exact .inr ⟨rfl, h⟩
  | some z =>
   obtain ⟨q, j, y⟩ := z
   rw [hlate] at hb
   dsimp only at hb ⊢
   rw [setL_other L (hlq q j y hlate)] at hb
   split at hb
   ·rename_i hc; rw [if_pos hc]; exact .inr ⟨rfl, hb⟩
   ·rename_i hc
    rw [if_neg hc]
    rcases base' hb with h | h
    ·exact .inl h
    ·exact .inr ⟨rfl, h⟩
 obtain ⟨f1, f2⟩ := st.frame (h := hA base ops.size d r L p) (g := hA base ops.size d r (setL L i) p) hl I.sim (fun _ _ h => (by cases h)) hg
 obtain ⟨n1, n2⟩ := nx_ge hK F I.pn
 have nx : Goes sz base ops o d r tm0 φ0 h0 w0 (setL L i) (a.put (o i).dst (concV ψ v)) u := by
  have := I.next (ψ := ψ) (u := u) (p' := p) F.R hi hL hrdy I.pn (fun k hk hke => by
    have hki : k ≠ i := fun e => by rw [e, hkd] at hke; cases hke
    rw [setL_other L hki]; exact I.eff k hk hke) hl f1 f2 (fun b hb _ => st.fr b hb nil_foot)
   (fun id a b => by rw [st.old id (.inr (by show base + i + 1 ≤ id; omega))]; exact I.fresh id a b) (fun k b hk hkd' hne hLk => by rw [st.old (base + k) (by show base + k < base + i ∨ base + i + 1 ≤ base + k; omega)]; exact I.alloc k b hk hkd' hLk)
   (fun id hid => st.old id (by show id < base + i ∨ base + i + 1 ≤ id; omega)) st.size st.os st.tape st.output (by rw [hv]; exact h2)
  rw [hv] at this
  exact ⟨ψ, p, this⟩
 unfold Oper.wp
 rcases h1 with h1 | ⟨h1, rfl⟩
 ·rw [h1]; exact nx
 ·rw [h1]; exact nx
theorem late_not (F : DFacts E K sz base ops d0 o B d r tm0) (hi : i < ops.size) (hq : (r i).kd.quiet = false) (hlt : ∀ j y, (r i).kd ≠ .late j y) {q j : Nat} {y : AB} (h : (d ops.size).late = some (q, j, y)) : i < q ∧ q < ops.size ∧ (r q).kd = .late j y := by
 obtain ⟨h1, h2⟩ := d_late F.R F.late ops.size (Nat.le_refl _) q j y h
 refine ⟨?_, h1, h2⟩
 rcases Nat.lt_trichotomy i q with h3 | h3 | h3
 ·exact h3
 ·subst h3; exact absurd h2 (hlt j y)
 ·have := (d_late' F.R h1 h2).2 i h3 hi
  rw [hq] at this; cases this
theorem step_load (hE : EnvOk P E) (F : DFacts E K sz base ops d0 o B d r tm0) (I : DInv sz base ops o d r tm0 φ0 h0 w0 L φ a w p) (hi : i < ops.size) (hL : L i = false) (hrdy : ∀ e ∈ (o i).after, Region.binds .any e = true → L e.on = true)
  (hkd : (r i).kd = .load) {Q : Exit → Act → World → Prop} : (o i).wp P a w (Goes sz base ops o d r tm0 φ0 h0 w0 (setL L i)) Q := by
 have hbd := bef_done F.R I.down
 have hnl : ∀ q j y, (d ops.size).late = some (q, j, y) → L q = false := fun q j y h => by
  obtain ⟨h1, h2, h3⟩ := late_not F hi (by rw [hkd]; rfl) (fun j y e => by rw [hkd] at e; cases e) h
  cases hLq : L q with
  | false => rfl
  | true =>
   rcases rc_spec (F.R.rc q h2) with ⟨_, e⟩ | ⟨_, e⟩
   ·rw [e] at h3; cases h3
   ·generalize hrr : r q = rr at e h3
    cases e with
    | late v s id ip x e es hlt he hip hid hne hi' hld h hx =>
     have := hld _ (d_lds F.R q (by omega) i h1 hkd)
     have := (hbd q h2 (I.down q h2 hLq) i this).1
     rw [hL] at this; cases this
    | _ => cases h3
 have hk := F.lds i hi hkd p I.pn
 unfold ldOk at hk
 dsimp only at hk
 have c1 : incl (Nat.land (B i) (d ops.size).don) (d p).don = true := incl_of fun k hk => by
  rw [testB_and, Bool.and_eq_true] at hk
  obtain ⟨g1, g2⟩ := (d_don F.R F.don ops.size (Nat.le_refl _) k).1 hk.2
  have hLk := (hbd i hi hrdy k hk.1).1
  exact (d_don F.R F.don p I.pn k).2 ⟨(I.eff k g1 g2).1 hLk, g2⟩
 have c2 : hitB i (d p).don (d ops.size).effs = false := hitB_none fun k b x m hd => by
  obtain ⟨g1, g2, rfl, _⟩ := (d_effs F.R F.effs ops.size (Nat.le_refl _)).2 k b x m
  have g3 := ((d_don F.R F.don p I.pn k).1 hd).1
  have hLk := (I.eff k g1 g2).2 g3
  cases hb : testB (B k) i with
  | false => rfl
  | true =>
   have := (hbd k g1 (I.down k g1 hLk) i hb).1
   rw [hL] at this; cases this
 rw [c1, c2] at hk
 dsimp only at hk
 cases hld : opLd E (d i).tm (addP base (B i) (d p).ins (d p).cur.h (d ops.size).pend) (o i).op with
 | none => rw [hld] at hk; cases hk
 | some v =>
  rw [hld] at hk
  have hv : v = (r i).v := of_decide_eq_true hk
  subst hv
  have hsub : Sim φ (addP base (B i) (d p).ins (d p).cur.h (d ops.size).pend).get w := by
   have h1 := I.sim
   rw [hA_nolate hnl p] at h1
   exact h1.sub fun id x h => addP_sub F I.pn (Nat.le_refl _) (fun k hk => (hbd i hi hrdy k hk).1) h
  have hev := ev_ok F I hi hL hrdy
  have hLd : Ld P φ a.eval (o i) (r i).v w := by
   cases ho : (o i).op <;> rw [ho] at hld <;> try (cases hld; done)
   ·exact ld_load hE hsub ho hev hld
   ·exact ld_lookup hE hsub ho hev hld
  unfold Oper.wp
  rw [hLd.1]
  exact ⟨φ, p, step_same (ψ := φ) (u := w) F I hi hL hrdy (by rw [hkd]; rfl) (fun b e => by rw [hkd] at e; cases e) (fun j y e => by rw [hkd] at e; cases e) (fun _ => rfl) I.sim (fun _ h => .inl h) (fun _ _ _ => rfl) (Nat.le_refl _) rfl rfl rfl hLd.2⟩
end
end Go.Proofs.YtabmjadcoepbeaaGreat.Ev
namespace Go.Proofs.YtabmjadcoepbeaaGreat.Ev
section
variable {P : Program} {E : Env} {K : CallT} {sz base : Nat} {ops : Array Oper} {d0 : DS} {o : Nat → Oper} {B : Nat → Nat} {d : Nat → DS} {r : Nat → Rd}
variable {tm0 : PT AV} {φ0 φ ψ : Phi} {h0 : Hp} {w0 w u : World} {L : Nat → Bool} {a : Act} {p p' i : Nat}
theorem store_run {tm : PT AV} {s s' : HS} {op : Op} {v : AV} {id : Nat} (hid : storeId tm op = some id) (h : opDo E K tm s op = some (v, s')) : opRun E tm s op = some (.val v s') := by
 rcases opDo_some h with h | ⟨f, args, h, _⟩
 ·exact h
 ·cases op <;> try (cases hid; done)
  replace h := bnd_some h; obtain ⟨q, _, h⟩ := h
  cases h
theorem pend_out (F : DFacts E K sz base ops d0 o B d r tm0) (hi : i < ops.size) {k b : Nat} {y : AB} (hk : k < ops.size) (hkd : (r k).kd = .new y) (hki : k < i → testB b k = true → testB (d i).ins k = true) (hn : testB (d i).ins k = false) {x : AB}
  (h : (addP base b (d i).ins (d i).cur.h (d i).pend).get (base + k) = some x) : False := by
 rcases addP_get h with ⟨k', h1, h2, h3, h4⟩ | ⟨_, h2⟩
 ·have : k' = k := by omega
  subst this
  have := ((d_pend F.R F.pend i (by omega) k' x).1 h1).1
  rw [hki this h2] at hn; cases hn
 ·rw [F.clean i (by omega) k hk hn] at h2; cases h2
theorem step_eff (hE : EnvOk P E) (hK : KOk P K) (F : DFacts E K sz base ops d0 o B d r tm0) (I : DInv sz base ops o d r tm0 φ0 h0 w0 L φ a w p) (hi : i < ops.size) (hL : L i = false) (hrdy : ∀ e ∈ (o i).after, Region.binds .any e = true → L e.on = true)
  {v : AV} {s' : HS} (hr : r i = ⟨.eff s', v⟩) (hincl : incl (d i).don (B i) = true) (h : opDo E K (d i).tm ⟨addP base (B i) (d i).ins (d i).cur.h (d i).pend, (d i).cur.nx⟩ (o i).op = some (v, s')) {Q : Exit → Act → World → Prop} :
  (o i).wp P a w (Goes sz base ops o d r tm0 φ0 h0 w0 (setL L i)) Q := by
 have hkd : (r i).kd = .eff s' := by rw [hr]
 have hv : (r i).v = v := by rw [hr]
 have hbd := bef_done F.R I.down
 have hall : ∀ k, k < i → (r k).kd.isEff = true → L k = true := fun k h1 h2 => (hbd i hi hrdy k (incl_sub hincl ((d_don F.R F.don i (by omega) k).2 ⟨h1, h2⟩))).1
 have hie : (r i).kd.isEff = true := by rw [hkd]; rfl
 have hpi : p ≤ i := by
  rcases Nat.lt_or_ge i p with h1 | h1
  ·have := (I.eff i hi hie).2 h1
   rw [hL] at this; cases this
  ·exact h1
 obtain ⟨es1, es2, es3⟩ := eff_state F I hi hpi hall
 obtain ⟨tm, eup, _⟩ := F.R.up i hi
 rw [upd_eff hkd] at eup
 have ecur : (d (i + 1)).cur = s' := by rw [eup]
 have eins : (d (i + 1)).ins = Nat.lor (d i).ins (pendMask (B i) (d i).pend) := by rw [eup]
 have hin : ∀ id x, (addP base (B i) (d i).ins (d i).cur.h (d i).pend).get id = some x → hB base ops.size r (d p).ins L (d p).cur.h id = some x := fun id x hx => by
  rw [es1, es3] at hx
  exact addP_sub F I.pn (by omega) (fun k hk => (hbd i hi hrdy k hk).1) hx
 have heff : ∀ k, k < ops.size → (r k).kd.isEff = true → (setL L i k = true ↔ k < i + 1) := fun k hk hke => by
  by_cases hki : k = i
  ·subst hki; rw [setL_same]; simp
  ·rw [setL_other L hki]
   constructor
   ·intro h1; have := (I.eff k hk hke).1 h1; omega
   ·intro h1; exact hall k (by omega) hke
 obtain ⟨n1, n2⟩ := nx_ge hK F I.pn
 obtain ⟨m1, m2⟩ := nx_ge hK F (p := i + 1) (by omega)
 rw [ecur] at m1 m2
 have hpend : ∀ k y, k < ops.size → (r k).kd = .new y → setL L i k = true → testB (d (i + 1)).ins k = false → L k = true ∧ testB (d i).ins k = false ∧ (k < i → testB (B i) k = true → testB (d i).ins k = true) := fun k y hk hky hLk hik => by
  have hki : k ≠ i := fun e => by rw [e, hkd] at hky; cases hky
  rw [setL_other L hki] at hLk
  rw [eins, testB_or, Bool.or_eq_false_iff] at hik
  refine ⟨hLk, hik.1, fun h1 h2 => ?_⟩
  have := (pendMask_bit (B i) (d i).pend k).2 ⟨h2, y, (d_pend F.R F.pend i (by omega) k y).2 ⟨h1, hky⟩⟩
  rw [hik.2] at this; cases this
 by_cases hlq : ∃ q j y, (d ops.size).late = some (q, j, y) ∧ L q = true
 ·-- the late store came first
  obtain ⟨q, j, y, hlate, hLq⟩ := hlq
  obtain ⟨g1, g2, g3⟩ := late_not F hi (by rw [hkd]; rfl) (fun j y e => by rw [hkd] at e; cases e) hlate
  have hst : ∃ ip, storeId (d i).tm (o i).op = some ip ∧ j ≠ ip := by
   rcases rc_spec (F.R.rc q g2) with ⟨_, e⟩ | ⟨_, e⟩
   ·rw [e] at g3; cases g3
   ·generalize hrr : r q = rr at e g3
    cases e with
    | late v s id ip x e es hlt he hip hid hne hi' hld h hx =>
     cases g3
     have hd := (d_don F.R F.don q (by omega) i).2 ⟨g1, hie⟩
     have := incl_sub hi' hd
     rw [testB_or, Bool.or_eq_true, testB_bit, decide_eq_true_eq] at this
     rcases this with h1 | h1
     ·have := (hbd q g2 (I.down q g2 hLq) i h1).1
      rw [hL] at this; cases this
     ·obtain ⟨_, _, _, h5⟩ := (d_effs F.R F.effs q (by omega)).2 e.1 e.2.1 e.2.2 (by rw [he]; exact List.mem_cons_self)
      rw [h1] at h5
      exact ⟨ip, by rw [← h5]; exact hip, hne⟩
    | _ => cases g3
  obtain ⟨ip, hip, hjp⟩ := hst
  obtain ⟨rfl, b0, b, k1, rfl, k3⟩ := store_local hE (store_run hip h) hip
  have hov : ∀ M : Nat → Bool, M q = true → ∀ p id, hA base ops.size d r M p id = if id = j then some y else hB base ops.size r (d p).ins M (d p).cur.h id := fun M hM p id => by
   unfold hA hS
   rw [hlate]
   dsimp only
   by_cases h9 : id = j
   ·rw [if_pos ⟨hM, h9⟩, if_pos h9]
   ·rw [if_neg (fun h => h9 h.2), if_neg h9]
  have hgi : hA base ops.size d r L p ip = some b0 := by
   rw [hov L hLq, if_neg (Ne.symm hjp)]; exact hin ip b0 k1
  obtain ⟨u, u1, st⟩ := k3 φ w a.eval (hA base ops.size d r L p) 0 I.sim hgi (ev_ok F I hi hL hrdy)
  have hM : setL L i q = true := by rw [setL_other L (by omega)]; exact hLq
  have hg : ∀ id x, hA base ops.size d r (setL L i) (i + 1) id = some x → single ip b id = some x ∨ (single ip b0 id = none ∧ hA base ops.size d r L p id = some x) := by
   intro id x hx
   rw [hov _ hM] at hx
   by_cases hij : id = j
   ·rw [if_pos hij] at hx
    refine .inr ⟨?_, by rw [hov L hLq, if_pos hij]; exact hx⟩
    unfold single; rw [if_neg (by rw [hij]; exact hjp)]
   ·rw [if_neg hij] at hx
    unfold hB at hx
    cases hpa : pendAt base ops.size r (d (i + 1)).ins (setL L i) id with
    | some z =>
     rw [hpa] at hx
     cases hx
     obtain ⟨k, q1, rfl, q3, q4, q5⟩ := pendAt_some hpa
     obtain ⟨p1, p2, p3⟩ := hpend k x q1 q3 q4 q5
     have hne : base + k ≠ ip := fun e => by
      subst e
      exact pend_out F hi q1 q3 p3 p2 k1
     refine .inr ⟨by unfold single; rw [if_neg hne], ?_⟩
     rw [hov L hLq, if_neg hij]
     unfold hB
     rw [pendAt_of q1 q3 p1 (by rw [← es3]; exact p2)]
    | none =>
     rw [hpa, ecur] at hx
     dsimp only at hx
     rcases PT.get_set hx with ⟨e1, e2⟩ | ⟨e1, e2⟩
     ·cases e2; exact .inl (by unfold single; rw [if_pos e1])
     ·refine .inr ⟨by unfold single; rw [if_neg e1], ?_⟩
      rw [hov L hLq, if_neg hij]; exact hin id x e2
  obtain ⟨f1, f2⟩ := st.frame (h := hA base ops.size d r L p) (g := hA base ops.size d r (setL L i) (i + 1)) (Phi.le_refl φ) I.sim (fun id x h => by obtain ⟨rfl, rfl⟩ := single_some h; exact hgi) hg
  unfold Oper.wp
  rw [u1]
  have := I.next (ψ := φ) (u := u) (p' := i + 1) F.R hi hL hrdy (by omega) heff (Phi.le_refl φ) f1 f2 (fun b hb hnf => st.fr b hb (fun hf => hnf (foot_mono (fun id x h => by obtain ⟨rfl, rfl⟩ := single_some h; exact hgi) hf)))
   (fun id c1 c2 => I.fresh id (by rw [ecur] at c1; rw [← es1]; exact c1) c2) (fun k b hk hkd' _ hLk => I.alloc k b hk hkd' hLk) (fun _ _ => rfl) st.size st.os st.tape st.output (by rw [hv]; exact undV_ok φ)
  rw [hv] at this
  exact ⟨φ, i + 1, this⟩
 ·-- the ordinary way
  have hnl : ∀ q j y, (d ops.size).late = some (q, j, y) → L q = false := fun q j y hq => by
   cases hLq : L q with
   | false => rfl
   | true => exact absurd ⟨q, j, y, hq, hLq⟩ hlq
  have hnl' : ∀ q j y, (d ops.size).late = some (q, j, y) → setL L i q = false := fun q j y hq => by
   have := (late_not F hi (by rw [hkd]; rfl) (fun j y e => by rw [hkd] at e; cases e) hq).1
   rw [setL_other L (by omega)]; exact hnl q j y hq
  have eA := hA_nolate (base := base) (r := r) hnl p
  have eA' := hA_nolate (base := base) (r := r) hnl' (i + 1)
  have hsub : ∀ id x, (addP base (B i) (d i).ins (d i).cur.h (d i).pend).get id = some x → hA base ops.size d r L p id = some x := fun id x hx => by rw [eA]; exact hin id x hx
  have hf : Fresh φ (d i).cur.nx s'.nx := fun id c1 c2 => I.fresh id (by rw [← es1]; exact c1) (by omega)
  have hmono : (d i).cur.nx ≤ s'.nx := by
   have := opDo_nx hK h
   exact this
  refine op_do hE hK h (I.sim.sub hsub) hf (ev_ok F I hi hL hrdy) fun ψ u hvo st => ?_
  have hl := st.le hf
  have hg : ∀ id x, hA base ops.size d r (setL L i) (i + 1) id = some x → s'.h.get id = some x ∨ ((addP base (B i) (d i).ins (d i).cur.h (d i).pend).get id = none ∧ hA base ops.size d r L p id = some x) := by
   intro id x hx
   rw [eA'] at hx
   unfold hB at hx
   cases hpa : pendAt base ops.size r (d (i + 1)).ins (setL L i) id with
   | some z =>
    rw [hpa] at hx
    cases hx
    obtain ⟨k, q1, rfl, q3, q4, q5⟩ := pendAt_some hpa
    obtain ⟨p1, p2, p3⟩ := hpend k x q1 q3 q4 q5
    refine .inr ⟨?_, ?_⟩
    ·cases hc : (addP base (B i) (d i).ins (d i).cur.h (d i).pend).get (base + k) with
     | none => rfl
     | some z => exact (pend_out F hi q1 q3 p3 p2 hc).elim
    ·rw [eA]; unfold hB; rw [pendAt_of q1 q3 p1 (by rw [← es3]; exact p2)]
   | none =>
    rw [hpa, ecur] at hx
    exact .inl hx
  obtain ⟨f1, f2⟩ := st.frame (h := hA base ops.size d r L p) (g := hA base ops.size d r (setL L i) (i + 1)) hl I.sim hsub hg
  have hb9 : base + ops.size ≤ (d i).cur.nx := by rw [es1]; exact n1
  have := I.next (ψ := ψ) (u := u) (p' := i + 1) F.R hi hL hrdy (by omega) heff hl f1 f2 (fun b hb hnf => st.fr b hb (fun hf => hnf (foot_mono hsub hf)))
   (fun id c1 c2 => by
    rw [ecur] at c1
    rw [st.old id (.inr c1)]; exact I.fresh id (by rw [← es1]; omega) c2)
   (fun k b hk hkd' _ hLk => by rw [st.old (base + k) (.inl (by show base + k < (d i).cur.nx; omega))]; exact I.alloc k b hk hkd' hLk)
   (fun id hid => st.old id (by show id < (d i).cur.nx ∨ s'.nx ≤ id; omega)) st.size st.os st.tape st.output (by rw [hv]; exact hvo)
  rw [hv] at this
  exact ⟨ψ, i + 1, this⟩
end
end Go.Proofs.YtabmjadcoepbeaaGreat.Ev
namespace Go.Proofs.YtabmjadcoepbeaaGreat.Ev
section
variable {P : Program} {E : Env} {K : CallT} {sz base : Nat} {ops : Array Oper} {d0 : DS} {o : Nat → Oper} {B : Nat → Nat} {d : Nat → DS} {r : Nat → Rd}
variable {tm0 : PT AV} {φ0 φ ψ : Phi} {h0 : Hp} {w0 w u : World} {L : Nat → Bool} {a : Act} {p p' i : Nat}
theorem store_addr {tm : PT AV} {ρ : Operand → Value} {o : Oper} {id : Nat} (hid : storeId tm o.op = some id) (hev : EvOk φ tm ρ o.op.operands) : ∃ q, φ id = some q := by
 cases ho : o.op <;> rw [ho] at hid hev <;> try (cases hid; done)
 rename_i t x y
 replace hid := evc_some hid; obtain ⟨c, hc, hid⟩ := hid
 obtain ⟨_, hok⟩ := hev.c (x := x) (by simp [Op.operands]) hc
 cases c <;> try (cases hid; done)
 cases hid
 exact hok
theorem step_late (hE : EnvOk P E) (F : DFacts E K sz base ops d0 o B d r tm0) (I : DInv sz base ops o d r tm0 φ0 h0 w0 L φ a w p) (hi : i < ops.size) (hL : L i = false) (hrdy : ∀ e ∈ (o i).after, Region.binds .any e = true → L e.on = true)
  {v : AV} {s : HS} {id ip : Nat} {x : AB} {e : Nat × Nat × Option Nat} {es : List (Nat × Nat × Option Nat)} (hr : r i = ⟨.late id x, v⟩) (he : (d i).effs = e :: es) (hip : e.2.2 = some ip) (hid : storeId (d i).tm (o i).op = some id) (hne : id ≠ ip)
  (hincl : incl (d i).don (Nat.lor (B i) (bit e.1)) = true) (h : opRun E (d i).tm ⟨addP base (B i) (d i).ins (d i).cur.h (d i).pend, 0⟩ (o i).op = some (.val v s)) (hx : s.h.get id = some x) {Q : Exit → Act → World → Prop} :
  (o i).wp P a w (Goes sz base ops o d r tm0 φ0 h0 w0 (setL L i)) Q := by
 have hkd : (r i).kd = .late id x := by rw [hr]
 have hv : (r i).v = v := by rw [hr]
 have hbd := bef_done F.R I.down
 obtain ⟨hlate, hquiet⟩ := d_late' F.R hi hkd
 have hnl : ∀ q j y, (d ops.size).late = some (q, j, y) → L q = false := fun q j y hq => by rw [hlate] at hq; cases hq; exact hL
 have eA := hA_nolate (base := base) (r := r) hnl p
 have hev := ev_ok F I hi hL hrdy
 obtain ⟨rfl, b0, b, k1, rfl, k3⟩ := store_local hE h hid
 have hxb : x = b := by
  rcases PT.get_set hx with ⟨_, e2⟩ | ⟨e2, _⟩
  ·cases e2; rfl
  ·exact absurd rfl e2
 subst hxb
 have hqe : ∀ k, i ≤ k → k < ops.size → (r k).kd.isEff = false := fun k h1 h2 => by
  by_cases hki : k = i
  ·subst hki; rw [hkd]; rfl
  ·have := hquiet k (by omega) h2
   cases hk : (r k).kd <;> first | rfl | (rw [hk] at this; cases this)
 obtain ⟨pp1, pp2, _, pp4⟩ := (d_effs F.R F.effs i (by omega)).2 e.1 e.2.1 e.2.2 (by rw [he]; exact List.mem_cons_self)
 have hothers : ∀ k, k < i → (r k).kd.isEff = true → k ≠ e.1 → L k = true := fun k h1 h2 h3 => by
  have := incl_sub hincl ((d_don F.R F.don i (by omega) k).2 ⟨h1, h2⟩)
  rw [testB_or, Bool.or_eq_true, testB_bit, decide_eq_true_eq] at this
  rcases this with h4 | h4
  ·exact (hbd i hi hrdy k h4).1
  ·exact absurd h4.symm h3
 have hb0 : hB base ops.size r (d p).ins L (d p).cur.h id = some b0 := by
  cases hpp : L e.1 with
  | true =>
   have hall : ∀ k, k < i → (r k).kd.isEff = true → L k = true := fun k h1 h2 => by
    by_cases h3 : k = e.1
    ·rw [h3]; exact hpp
    ·exact hothers k h1 h2 h3
   have hst : (d i).cur = (d p).cur ∧ (d i).ins = (d p).ins := by
    rcases Nat.lt_or_ge i p with hlt | hge
    ·have := d_const F.R (p := i) (p - i) (by have := I.pn; omega) (fun k h1 h2 => hqe k h1 (by have := I.pn; omega))
     rw [show i + (p - i) = p by omega] at this
     exact ⟨this.1.symm, this.2.2.symm⟩
    ·obtain ⟨g1, _, g3⟩ := eff_state F I hi hge hall
     exact ⟨g1, g3⟩
   rw [hst.1, hst.2] at k1
   exact addP_sub F I.pn (by omega) (fun k hk => (hbd i hi hrdy k hk).1) k1
  | false =>
   have hpn : e.1 < ops.size := by omega
   have hpp1 : p ≤ e.1 := by
    rcases Nat.lt_or_ge e.1 p with h1 | h1
    ·have := (I.eff e.1 hpn pp2).2 h1
     rw [hpp] at this; cases this
    ·exact h1
   obtain ⟨g1, _, g3⟩ := eff_state F I hpn hpp1 (fun k h1 h2 => hothers k (by omega) h2 (by omega))
   have hmid := d_const F.R (p := e.1 + 1) (i - (e.1 + 1)) (by omega) (fun k h1 h2 => by
    cases hk : (r k).kd.isEff with
    | false => rfl
    | true =>
     have hLk := hothers k (by omega) hk (by omega)
     have := (I.eff k (by omega) hk).1 hLk
     omega)
   rw [show e.1 + 1 + (i - (e.1 + 1)) = i by omega] at hmid
   obtain ⟨sp, hsp⟩ := eff_kd pp2
   obtain ⟨tm, eup, _⟩ := F.R.up e.1 hpn
   rw [upd_eff hsp] at eup
   have ecur : (d i).cur = sp := by rw [hmid.1, eup]
   have eins : (d i).ins = Nat.lor (d e.1).ins (pendMask (B e.1) (d e.1).pend) := by rw [hmid.2.2, eup]
   have hLof : ∀ k y, k < ops.size → (r k).kd = .new y → id = base + k → L k = true := fun k y hk hy hidk => by
    cases hLk : L k with
    | true => rfl
    | false =>
     obtain ⟨q, hq⟩ := store_addr hid hev
     rw [hidk, I.alloc k y hk hy hLk] at hq; cases hq
   have hputs : ∃ b', sp = (⟨addP base (B e.1) (d e.1).ins (d e.1).cur.h (d e.1).pend, (d e.1).cur.nx⟩ : HS).put ip (some b') := by
    rcases rc_spec (F.R.rc e.1 hpn) with ⟨_, e'⟩ | ⟨_, e'⟩
    ·rw [e'] at hsp; cases hsp
    ·generalize hrr : r e.1 = rr at e' hsp
     cases e' with
     | eff v s hlt hi' h' =>
      cases hsp
      have hid' : storeId (d e.1).tm (o e.1).op = some ip := by rw [← pp4]; exact hip
      obtain ⟨_, _, b', _, q2, _⟩ := store_local hE (store_run hid' h') hid'
      exact ⟨b', q2⟩
     | _ => cases hsp
   obtain ⟨b', hsp'⟩ := hputs
   have k1' : (addP base (B i) (d i).ins (d i).cur.h (d i).pend).get id = some b0 := k1
   unfold hB
   rcases addP_get k1' with ⟨k, q1, q2, q3, rfl⟩ | ⟨_, q2⟩
   ·obtain ⟨z1, z2⟩ := (d_pend F.R F.pend i (by omega) k b0).1 q1
    rw [eins, testB_or, Bool.or_eq_false_iff] at q3
    rw [pendAt_of (by omega) z2 (hbd i hi hrdy k q2).1 (by rw [← g3]; exact q3.1)]
   ·rw [ecur, hsp'] at q2
    rcases PT.get_set q2 with ⟨z1, _⟩ | ⟨_, z2⟩
    ·exact absurd z1 hne
    ·have z2' : (addP base (B e.1) (d e.1).ins (d e.1).cur.h (d e.1).pend).get id = some b0 := z2
     rcases addP_get z2' with ⟨k, y1, y2, y3, rfl⟩ | ⟨_, y2⟩
     ·obtain ⟨z3, z4⟩ := (d_pend F.R F.pend e.1 (by omega) k b0).1 y1
      rw [pendAt_of (by omega) z4 (hLof k b0 (by omega) z4 rfl) (by rw [← g3]; exact y3)]
     ·rw [g1] at y2
      cases hpa : pendAt base ops.size r (d p).ins L id with
      | none => exact y2
      | some y =>
       obtain ⟨k, w1, rfl, w3, w4, w5⟩ := pendAt_some hpa
       rw [F.clean p I.pn k w1 w5] at y2; cases y2
 have hgi : hA base ops.size d r L p id = some b0 := by rw [eA]; exact hb0
 obtain ⟨u, u1, st⟩ := k3 φ w a.eval (hA base ops.size d r L p) 0 I.sim hgi hev
 have hpo : ∀ id, pendAt base ops.size r (d p).ins (setL L i) id = pendAt base ops.size r (d p).ins L id := fun id => by
  unfold pendAt
  split
  ·by_cases hk : id - base = i
   ·rw [hk, hkd]
   ·rw [setL_other L hk]
  ·rfl
 have hg : ∀ j y, hA base ops.size d r (setL L i) p j = some y → single id x j = some y ∨ (single id b0 j = none ∧ hA base ops.size d r L p j = some y) := by
  intro j y hy
  unfold hA hS at hy
  rw [hlate] at hy
  dsimp only at hy
  by_cases hj : j = id
  ·rw [if_pos ⟨setL_same L i, hj⟩] at hy
   cases hy
   exact .inl (by unfold single; rw [if_pos hj])
  ·rw [if_neg (fun h => hj h.2)] at hy
   refine .inr ⟨by unfold single; rw [if_neg hj], ?_⟩
   rw [eA]
   unfold hB at hy ⊢
   rw [hpo] at hy; exact hy
 have hsg : ∀ j y, single id b0 j = some y → hA base ops.size d r L p j = some y := fun j y h => by obtain ⟨rfl, rfl⟩ := single_some h; exact hgi
 obtain ⟨f1, f2⟩ := st.frame (h := hA base ops.size d r L p) (g := hA base ops.size d r (setL L i) p) (Phi.le_refl φ) I.sim hsg hg
 unfold Oper.wp
 rw [u1]
 have := I.next (ψ := φ) (u := u) (p' := p) F.R hi hL hrdy I.pn (fun k hk hke => by
   have hki : k ≠ i := fun e => by rw [e, hkd] at hke; cases hke
   rw [setL_other L hki]; exact I.eff k hk hke) (Phi.le_refl φ) f1 f2 (fun b hb hnf => st.fr b hb (fun hf => hnf (foot_mono hsg hf)))
  I.fresh (fun k b hk hkd' _ hLk => I.alloc k b hk hkd' hLk) (fun _ _ => rfl) st.size st.os st.tape st.output (by rw [hv]; exact undV_ok φ)
 rw [hv] at this
 exact ⟨φ, p, this⟩
theorem step_op (hE : EnvOk P E) (hK : KOk P K) (F : DFacts E K sz base ops d0 o B d r tm0) (I : DInv sz base ops o d r tm0 φ0 h0 w0 L φ a w p) (hi : i < ops.size) (hL : L i = false) (hrdy : ∀ e ∈ (o i).after, Region.binds .any e = true → L e.on = true) {Q : Exit → Act → World → Prop} :
  wpOp P ops Q i (Goes sz base ops o d r tm0 φ0 h0 w0 (setL L i)) a w := by
 unfold wpOp
 rw [F.R.op i hi]
 dsimp only
 rcases rc_spec (F.R.rc i hi) with ⟨hw, e⟩ | ⟨hw, e⟩
 ·rw [want_ok' F I hi hL hrdy hw]
  simp only [Bool.false_eq_true, if_false]
  have hkd : (r i).kd = .skip := by rw [e]
  have hv : (r i).v = undV := by rw [e]
  have := step_same (ψ := φ) (u := w) F I hi hL hrdy (by rw [hkd]; rfl) (fun b e => by rw [hkd] at e; cases e) (fun j y e => by rw [hkd] at e; cases e) (fun _ => rfl) I.sim (fun _ h => .inl h) (fun _ _ _ => rfl) (Nat.le_refl _) rfl rfl rfl (by rw [hv]; exact undV_ok φ)
  rw [hv] at this
  exact ⟨φ, p, this⟩
 ·rw [want_ok' F I hi hL hrdy hw]
  simp only [if_true]
  refine .inl ?_
  generalize hrr : r i = rr at e
  cases e with
  | pure v s h hs => exact step_pure hE F I hi hL hrdy hrr h hs
  | new v s x h hs hx => exact step_new hE hK F I hi hL hrdy hrr h hs hx
  | load v hlt h => exact step_load hE F I hi hL hrdy (by rw [hrr])
  | eff v s hlt hi' h => exact step_eff hE hK F I hi hL hrdy hrr hi' h
  | late v s id ip x e es hlt he hip hid hne hi' hld h hx => exact step_late hE F I hi hL hrdy hrr he hip hid hne hi' h hx
end
end Go.Proofs.YtabmjadcoepbeaaGreat.Ev
namespace Go.Proofs.YtabmjadcoepbeaaGreat.Ev
section
variable {P : Program} {E : Env} {K : CallT} {sz base : Nat} {ops : Array Oper} {d0 : DS} {o : Nat → Oper} {B : Nat → Nat} {d : Nat → DS} {r : Nat → Rd}
variable {tm0 : PT AV} {φ0 φ : Phi} {h0 : Hp} {w0 w : World} {L : Nat → Bool} {a : Act} {p : Nat}
def cnt (f : Nat → Bool) : List Nat → Nat
 | [] => 0
 | x :: l => (if f x = true then 1 else 0) + cnt f l
theorem cnt_lt {f g : Nat → Bool} (h : ∀ k, g k = true → f k = true) {i : Nat} (hf : f i = true) (hg : g i = false) : ∀ {l : List Nat}, i ∈ l → cnt g l + 1 ≤ cnt f l
 | [], m => by cases m
 | x :: l, m => by
  have mono : ∀ l : List Nat, cnt g l ≤ cnt f l := by
   intro l
   induction l with
   | nil => exact Nat.le_refl _
   | cons y l ih =>
    simp only [cnt]
    by_cases hy : g y = true
    ·rw [if_pos hy, if_pos (h y hy)]; omega
    ·rw [if_neg hy]; omega
  simp only [cnt]
  rcases List.mem_cons.1 m with rfl | m
  ·rw [if_pos hf, if_neg (by rw [hg]; exact fun h => by cases h)]
   have := mono l
   omega
  ·have := cnt_lt h hf hg m
   by_cases hy : g x = true
   ·rw [if_pos hy, if_pos (h x hy)]; omega
   ·rw [if_neg hy]; omega
theorem cnt_zero {f : Nat → Bool} : ∀ {l : List Nat}, cnt f l = 0 → ∀ i ∈ l, f i = false
 | [], _, i, m => by cases m
 | x :: l, h, i, m => by
  simp only [cnt] at h
  rcases List.mem_cons.1 m with rfl | m
  ·cases hf : f i with
   | false => rfl
   | true => rw [hf] at h; simp at h
  ·exact cnt_zero (by omega) i m
theorem cnt_le {f : Nat → Bool} : ∀ (l : List Nat), cnt f l ≤ l.length
 | [] => Nat.le_refl _
 | x :: l => by
  simp only [cnt, List.length_cons]
  have := cnt_le (f := f) l
  split <;> omega
theorem all_done (R : DRun E K sz base ops d0 o B d r) {listed : Array Bool} (hs : listed.size = ops.size) (h : Region.ready .any ops listed = []) : ∀ i, i < ops.size → listed.getD i false = true := by
 intro i
 induction i using Nat.strongRecOn with
 | _ i ih =>
  intro hi
  cases hL : listed.getD i false with
  | true => rfl
  | false =>
   have : i ∈ Region.ready .any ops listed := by
    rw [mem_ready]
    refine ⟨?_, o i, R.op i hi, fun e me hb => ih e.on (R.lt i hi e me hb) (by have := R.lt i hi e me hb; omega)⟩
    rw [← hL]
    simp [hs, hi]
   rw [h] at this; cases this
theorem any_ok (hE : EnvOk P E) (hK : KOk P K) (F : DFacts E K sz base ops d0 o B d r tm0) {Q : Exit → Act → World → Prop}
  (hQ : ∀ L φ a w p, (∀ i, i < ops.size → L i = true) → DInv sz base ops o d r tm0 φ0 h0 w0 L φ a w p → Q .normal a w) :
  ∀ (fuel : Nat) (listed : Array Bool) (φ : Phi) (a : Act) (w : World) (p : Nat), listed.size = ops.size → cnt (fun i => !listed.getD i false) (List.range ops.size) ≤ fuel → DInv sz base ops o d r tm0 φ0 h0 w0 (fun i => listed.getD i false) φ a w p → wpAny P .any ops Q fuel listed a w := by
 intro fuel
 induction fuel with
 | zero =>
  intro listed φ a w p hs hc I
  have hall : ∀ i, i < ops.size → listed.getD i false = true := fun i hi => by
   have := cnt_zero (Nat.le_zero.1 hc) i (List.mem_range.2 hi)
   simpa using this
  refine ⟨?_, hQ _ φ a w p hall I⟩
  cases hr : Region.ready .any ops listed with
  | nil => rfl
  | cons j l =>
   have hj : j ∈ Region.ready .any ops listed := by rw [hr]; exact List.mem_cons_self
   obtain ⟨h1, oj, h2, _⟩ := mem_ready.1 hj
   have hlt : j < ops.size := (Array.getElem?_eq_some_iff.1 h2).1
   have := hall j hlt
   simp [hs, hlt] at h1 this
   rw [h1] at this; cases this
 | succ fuel ih =>
  intro listed φ a w p hs hc I
  refine ⟨fun h => hQ _ φ a w p (all_done F.R hs h) I, fun i hi => ?_⟩
  obtain ⟨h1, oi, h2, h3⟩ := mem_ready.1 hi
  have hlt : i < ops.size := (Array.getElem?_eq_some_iff.1 h2).1
  rw [F.R.op i hlt] at h2; cases h2
  have hL : listed.getD i false = false := by simp [hs, hlt] at h1 ⊢; exact h1
  have hset : (fun k => (listed.setIfInBounds i true).getD k false) = setL (fun i => listed.getD i false) i := by
   funext k
   by_cases hk : k = i
   ·subst hk; rw [setL_same]; simp [hs, hlt]
   ·rw [setL_other _ hk]; exact getD_set_ne false (Ne.symm hk)
  refine wpOp_mono (fun a' w' hg => ?_) (step_op (Q := Q) hE hK F I hlt hL h3)
  obtain ⟨ψ, p', I'⟩ := hg
  refine ih _ ψ a' w' p' (by simpa using hs) ?_ (by rw [hset]; exact I')
  have hlt' := cnt_lt (f := fun i => !listed.getD i false) (g := fun k => !(listed.setIfInBounds i true).getD k false) (fun k hk => by
   have e := congrFun hset k
   rw [e] at hk
   by_cases hki : k = i
   ·subst hki; rw [setL_same] at hk; cases hk
   ·rw [setL_other _ hki] at hk; exact hk) (i := i) (by rw [hL]; rfl) (by
   have e := congrFun hset i
   rw [e, setL_same]; rfl) (List.mem_range.2 hlt)
  omega
theorem mask_lt {n k : Nat} (h : testB (Nat.sub (bit n) 1) k = true) : k < n := by
 rw [testB_eq] at h
 have e : Nat.sub (bit n) 1 = 2 ^ n - 1 := by
  show (1 <<< n) - 1 = _
  rw [Nat.one_shiftLeft]
 rw [e, Nat.testBit_two_pow_sub_one] at h
 simpa using h
theorem room_le (n : Nat) : n ≤ roomOf n := by
 unfold roomOf
 split
 ·rename_i h; exact Nat.le_of_ble_eq_true h
 ·exact Nat.le_refl _
theorem draw_ok (hm : P.follows .mixedOrders = true) (hE : EnvOk P E) (hK : KOk P K) : DOk P E K := by
 intro sz id ops tm s tm' s' h
 replace h := bnd_some h; obtain ⟨Bs, hBs, h⟩ := h
 replace h := bnd_some h; obtain ⟨dF, hd, h⟩ := h
 split at h
 ·cases h
 ·rename_i hclean
  split at h
  ·cases h
  ·rename_i hlds
   rw [PT.fc_eq] at h
   cases h
   obtain ⟨o, B, d, r, R, rfl⟩ := drun_of hBs hd
   have hsts := d_sts R rfl ops.size (Nat.le_refl _)
   have F : DFacts E K sz s.nx ops ⟨tm, ⟨s.h, s.nx + roomOf ops.toList.length⟩, 0, 0, [], [⟨0, 0, s.h⟩], [], [], none⟩ o B d r tm := by
    refine ⟨R, rfl, rfl, rfl, rfl, rfl, rfl, rfl, (by have := room_le ops.toList.length; rw [Array.length_toList] at this ⊢; show s.nx + ops.size ≤ s.nx + roomOf ops.size; omega), fun i hi k hk hik => ?_, fun i hi hkd p hp => ?_⟩
    ·have := allB_mem hclean _ (hsts i hi)
     rw [Array.length_toList] at this
     exact clean_spec this k hk hik
    ·exact allB_mem (allB_mem hlds _ (d_lds R ops.size (Nat.le_refl _) i hi hkd)) _ (hsts p hp)
   have hz : d 0 = ⟨tm, ⟨s.h, s.nx + roomOf ops.toList.length⟩, 0, 0, [], [⟨0, 0, s.h⟩], [], [], none⟩ := R.zero
   obtain ⟨n1, n2⟩ := nx_ge hK F (p := 0) (Nat.zero_le _)
   have n3 : s.nx + ops.size ≤ (d ops.size).cur.nx := Nat.le_trans n1 n2
   refine ⟨by show s.nx ≤ (d ops.size).cur.nx; omega, fun φ0 w0 a Q hS0 hF hT hQ => ?_⟩
   have hS1 : Sim φ0 s.h.get w0.drew := ⟨hS0.ok, hS0.inj⟩
   refine wp_region_any hm (any_ok (h0 := s.h.get) (w0 := w0.drew) (φ0 := φ0) hE hK F (fun L φ a' u p hall I => ?_) ops.size (Array.replicate ops.size false) φ0 a w0.drew 0 (by simp) (by
    have := cnt_le (f := fun i => !(Array.replicate ops.size false).getD i false) (List.range ops.size)
    simpa using this) ?_)
   ·-- the end
    have hcur : (d ops.size).cur = (d p).cur ∧ (d ops.size).ins = (d p).ins := by
     have := d_const R (p := p) (ops.size - p) (by have := I.pn; omega) (fun k h1 h2 => by
      cases hk : (r k).kd.isEff with
      | false => rfl
      | true =>
       have hkn : k < ops.size := by have := I.pn; omega
       have := (I.eff k hkn hk).1 (hall k hkn)
       omega)
     rw [show p + (ops.size - p) = ops.size by have := I.pn; omega] at this
     exact ⟨this.1, this.2.2⟩
    have hsub0 : ∀ j x, (addP s.nx (Nat.sub (bit ops.toList.length) 1) (d ops.size).ins (d ops.size).cur.h (d ops.size).pend).get j = some x → hB s.nx ops.size r (d p).ins L (d p).cur.h j = some x := fun j x hx => by
     rw [hcur.1, hcur.2] at hx
     exact addP_sub F I.pn (Nat.le_refl _) (fun k hk => hall k (by have := mask_lt hk; simpa using this)) hx
    have hsub : ∀ j x, (lateH (addP s.nx (Nat.sub (bit ops.toList.length) 1) (d ops.size).ins (d ops.size).cur.h (d ops.size).pend) (d ops.size).late).get j = some x → hA s.nx ops.size d r L p j = some x := by
     intro j x hx
     cases hl : (d ops.size).late with
     | none =>
      rw [hl] at hx
      unfold hA hS
      rw [hl]
      exact hsub0 j x hx
     | some z =>
      obtain ⟨q, j', y⟩ := z
      rw [hl] at hx
      have hq := (d_late R rfl ops.size (Nat.le_refl _) q j' y hl).1
      have hlq := hall q hq
      unfold hA hS
      rw [hl]
      dsimp only
      rcases PT.get_set hx with ⟨e1, e2⟩ | ⟨e1, e2⟩
      ·rw [if_pos ⟨hlq, e1⟩]; exact e2
      ·rw [if_neg (fun h => e1 h.2)]; exact hsub0 j x e2
    refine hQ φ u a' ⟨I.tsize, fun t v hv => ?_, I.dfr⟩ ⟨I.sim.sub hsub, I.old, I.wsize, I.fr, fun b hb => I.own b (foot_mono hsub hb), I.os, I.tape, I.output⟩
    rcases d_tm R ops.size (Nat.le_refl _) t v hv with ⟨k, g1, g2, g3⟩ | ⟨g1, g2⟩
    ·rw [← g3]; exact I.wr k t g1 (hall k g1) g2
    ·exact I.tm t v (fun k hk _ => g1 k hk) g2
   ·-- the beginning
    have hrep : ∀ k, (Array.replicate ops.size false).getD k false = false := fun k => by
     rw [Array.getD_eq_getD_getElem?, Array.getElem?_replicate]; split <;> rfl
    have hA0 : ∀ j x, hA s.nx ops.size d r (fun i => (Array.replicate ops.size false).getD i false) 0 j = some x → s.h.get j = some x := by
     intro j x hx
     rw [hA_nolate (fun q j y _ => hrep q)] at hx
     unfold hB at hx
     cases hpa : pendAt s.nx ops.size r (d 0).ins (fun i => (Array.replicate ops.size false).getD i false) j with
     | some z =>
      obtain ⟨k, _, _, _, h4, _⟩ := pendAt_some hpa
      rw [hrep] at h4; cases h4
     | none =>
      rw [hpa, hz] at hx; exact hx
    refine ⟨fun i _ h => ?_, Nat.zero_le _, fun i _ _ => ?_, hS1.sub hA0, fun j c1 c2 => ?_, fun i b hi _ _ => ?_, fun _ _ => rfl, Phi.le_refl _, hT.size, hT.dfr, fun i t _ h => ?_, fun t v _ hv => hT.val t v hv, Nat.le_refl _, fun _ _ _ => rfl, fun b hb => .inl (foot_mono hA0 hb), rfl, rfl, rfl⟩
    ·rw [hrep] at h; cases h
    ·rw [hrep]; exact ⟨fun h => (by cases h), fun h => (by omega)⟩
    ·exact hF j (by have : s.nx ≤ (d 0).cur.nx := (by omega); omega) c2
    ·exact hF (s.nx + i) (by omega) (by show s.nx + i < (d ops.size).cur.nx; omega)
    ·rw [hrep] at h; cases h
end
end Go.Proofs.YtabmjadcoepbeaaGreat.Ev
namespace Go.Proofs.YtabmjadcoepbeaaGreat.Ev
structure Orc where
 f : Nat
 args : List AV
 pre : List (Nat × AB)
 nx : Nat
 v : AV
 post : List (Nat × AB)
 mx : Nat
noncomputable section
def asF (l : List (Nat × AB)) : Hp := fun i => lrec none (fun p _ r => match Nat.beq i p.1 with
 | true => some p.2
 | false => r) l
def insL (h : PT AB) (l : List (Nat × AB)) : PT AB := lrec h (fun p _ r => r.fc fun r => r.set p.1 (some p.2)) l
def delL (h : PT AB) (l : List (Nat × AB)) : PT AB := lrec h (fun p _ r => r.fc fun r => r.set p.1 none) l
def hasL (h : PT AB) (l : List (Nat × AB)) : Bool := allB (fun p => match h.get p.1 with
 | some b => eqB_ b p.2
 | none => false) l
def orcHit (o : Orc) (f : Nat) (args : List AV) (s : HS) : Bool := match Nat.beq o.f f with
 | true => match Nat.beq o.nx s.nx with
  | true => match decide (o.args = args) with
   | true => hasL s.h o.pre
   | false => false
  | false => false
 | false => false
def orcOut (o : Orc) (s : HS) : AV × HS := (o.v, ⟨insL (delL s.h o.pre) o.post, o.mx⟩)
def hookL (os : List Orc) (f : Nat) (args : List AV) (s : HS) : Option (AV × HS) := lrec none (fun o _ r => match orcHit o f args s with
 | true => some (orcOut o s)
 | false => r) os
def chkO (E : Env) (n : Nat) (o : Orc) : Bool := match E.hook o.f o.args ⟨insL .nil o.pre, o.nx⟩ with
 | some _ => false
 | none => match (run E n).1 o.f o.args ⟨insL .nil o.pre, o.nx⟩ with
  | none => false
  | some p => match decide (p.1 = o.v) with
   | true => match Nat.beq p.2.nx o.mx with
    | true => hasL p.2.h o.post
    | false => false
   | false => false
end
def OrcOk (P : Program) (o : Orc) : Prop := o.nx ≤ o.mx ∧ ∀ φ w, Sim φ (asF o.pre) w → Fresh φ o.nx o.mx → (∀ x ∈ o.args, okV φ x) →
 (callFunc o.f (o.args.map (concV φ)).toArray).run P w = .ok (.enter o.f (o.args.map (concV φ)).toArray) w ∧
  Calls P o.f (o.args.map (concV φ)).toArray w (fun e u => ∃ ψ, e = .returned (concV ψ o.v) ∧ okV ψ o.v ∧ Stp φ (asF o.pre) o.nx w ψ (asF o.post) o.mx u)
theorem asF_mem {l : List (Nat × AB)} {i : Nat} {b : AB} (h : asF l i = some b) : (i, b) ∈ l := by
 induction l with
 | nil => cases h
 | cons p l ih =>
  have h' : (match Nat.beq i p.1 with | true => some p.2 | false => asF l i) = some b := h
  split at h'
  ·rename_i e
   have e' := Nat.eq_of_beq_eq_true e
   cases h'
   rw [e']; exact List.mem_cons_self
  ·exact List.mem_cons_of_mem _ (ih h')
theorem asF_cons (p : Nat × AB) (l : List (Nat × AB)) (i : Nat) : asF (p :: l) i = if i = p.1 then some p.2 else asF l i := by
 show (match Nat.beq i p.1 with | true => some p.2 | false => asF l i) = _
 cases h : Nat.beq i p.1 with
 | true => rw [if_pos (Nat.eq_of_beq_eq_true h)]
 | false => rw [if_neg (Nat.ne_of_beq_eq_false h)]
theorem insL_get {h : PT AB} : ∀ {l : List (Nat × AB)} {i : Nat} {b : AB}, (insL h l).get i = some b → asF l i = some b ∨ (asF l i = none ∧ h.get i = some b)
 | [], i, b, hb => .inr ⟨rfl, hb⟩
 | p :: l, i, b, hb => by
  have hb' : ((insL h l).fc fun r => r.set p.1 (some p.2)).get i = some b := hb
  rw [PT.fc_eq] at hb'
  rw [asF_cons]
  rcases PT.get_set hb' with ⟨e, hv⟩ | ⟨e, hv⟩
  ·rw [if_pos e]; exact .inl hv
  ·rw [if_neg e]; exact insL_get hv
theorem delL_get {h : PT AB} : ∀ {l : List (Nat × AB)} {i : Nat} {b : AB}, (delL h l).get i = some b → asF l i = none ∧ h.get i = some b
 | [], i, b, hb => ⟨rfl, hb⟩
 | p :: l, i, b, hb => by
  have hb' : ((delL h l).fc fun r => r.set p.1 none).get i = some b := hb
  rw [PT.fc_eq] at hb'
  rw [asF_cons]
  rcases PT.get_set hb' with ⟨e, hv⟩ | ⟨e, hv⟩
  ·cases hv
  ·rw [if_neg e]; exact delL_get hv
theorem hasL_spec {h : PT AB} {l : List (Nat × AB)} (hl : hasL h l = true) {i : Nat} {b : AB} (hi : asF l i = some b) : h.get i = some b := by
 have := allB_mem hl _ (asF_mem hi)
 dsimp only at this
 split at this
 ·rename_i b' hb'
  have : b' = b := of_decide_eq_true this
  rw [← this]; exact hb'
 ·cases this
section
variable {P : Program} {E : Env}
theorem orcHit_spec {o : Orc} {f : Nat} {args : List AV} {s : HS} (h : orcHit o f args s = true) : o.f = f ∧ o.nx = s.nx ∧ o.args = args ∧ hasL s.h o.pre = true := by
 unfold orcHit at h
 split at h <;> try (cases h; done)
 rename_i e1
 split at h <;> try (cases h; done)
 rename_i e2
 split at h <;> try (cases h; done)
 rename_i e3
 exact ⟨Nat.eq_of_beq_eq_true e1, Nat.eq_of_beq_eq_true e2, of_decide_eq_true e3, h⟩
theorem hookL_some : ∀ {os : List Orc} {f : Nat} {args : List AV} {s : HS} {r : AV × HS}, hookL os f args s = some r → ∃ o ∈ os, orcHit o f args s = true ∧ r = orcOut o s
 | [], f, args, s, r, h => by cases h
 | o :: os, f, args, s, r, h => by
  have h' : (match orcHit o f args s with | true => some (orcOut o s) | false => hookL os f args s) = some r := h
  split at h'
  ·rename_i e; cases h'; exact ⟨o, List.mem_cons_self, e, rfl⟩
  ·obtain ⟨o', m, a, b⟩ := hookL_some h'
   exact ⟨o', List.mem_cons_of_mem _ m, a, b⟩
theorem orc_call {o : Orc} (ho : OrcOk P o) {s : HS} (hn : o.nx = s.nx) (hh : hasL s.h o.pre = true) : CallS P o.f o.args s (orcOut o s).1 (orcOut o s).2 := by
 obtain ⟨h1, h2⟩ := ho
 refine ⟨by rw [← hn]; exact h1, fun φ w hS hf hok => .inr ?_⟩
 have hsub : ∀ i b, asF o.pre i = some b → s.h.get i = some b := fun i b h => hasL_spec hh h
 have hf' : Fresh φ o.nx o.mx := fun i a b => hf i (by rw [← hn]; exact a) b
 obtain ⟨g1, g2⟩ := h2 φ w (hS.sub hsub) hf' hok
 refine ⟨g1, Calls.mono g2 fun e u he => ?_⟩
 obtain ⟨ψ, e1, e2, st⟩ := he
 have hl := st.le hf'
 obtain ⟨f1, f2⟩ := st.frame (h := s.h.get) (g := (insL (delL s.h o.pre) o.post).get) hl hS hsub (fun i b hb => by
  rcases insL_get hb with h | ⟨_, h⟩
  ·exact .inl h
  ·exact .inr (delL_get h))
 refine ⟨ψ, e1, e2, f1, fun i hi => st.old i (by rw [hn]; exact hi), st.size, fun b hb hnf => st.fr b hb (fun h => hnf (foot_mono hsub h)), f2, st.os, st.tape, st.output⟩
theorem hook_ok {os : List Orc} (h : ∀ o ∈ os, OrcOk P o) {f : Nat} {args : List AV} {s : HS} {v : AV} {s' : HS} (hk : hookL os f args s = some (v, s')) : CallS P f args s v s' := by
 obtain ⟨o, m, h1, h2⟩ := hookL_some hk
 obtain ⟨e1, e2, e3, e4⟩ := orcHit_spec h1
 have := orc_call (h o m) e2 e4
 rw [e1, e3, ← h2] at this
 exact this
theorem orc_ok (hm : P.follows .mixedOrders = true) (hE : EnvOk P E) (hH : HookOk P E) {n : Nat} {o : Orc} (h : chkO E (n + 1) o = true) : OrcOk P o := by
 unfold chkO at h
 split at h
 ·cases h
 ·rename_i hnone
  split at h
  ·cases h
  ·rename_i p hp
   split at h <;> try (cases h; done)
   rename_i ev
   split at h <;> try (cases h; done)
   rename_i en
   obtain ⟨v, s'⟩ := p
   have ev' : v = o.v := of_decide_eq_true ev
   have en' : s'.nx = o.mx := Nat.eq_of_beq_eq_true en
   subst ev'
   obtain ⟨h1, h2⟩ := (run_ok hm hE hH (fun K hK => draw_ok hm hE hK) (n + 1)).1 _ _ _ _ _ hp
   dsimp only at h1 h2
   rw [en'] at h1 h2
   have hfn : ∀ args : Array Value, ∀ w, (callFunc o.f args).run P w = .ok (.enter o.f args) w := by
    have hp' : callStep E (run E n).2 o.f o.args ⟨insL .nil o.pre, o.nx⟩ = some (o.v, s') := hp
    unfold callStep at hp'
    rw [hnone] at hp'
    replace hp' := bnd_some hp'; obtain ⟨fn, hfn, hp'⟩ := hp'
    replace hp' := bnd_some hp'; obtain ⟨body, hbody, hp'⟩ := hp'
    obtain ⟨k1, k2⟩ := hE.fn o.f fn hfn
    have k3 : ¬ fn.name = "runtime.NumGoroutine" := by simpa using k2
    intro args w
    simp [callFunc, k1, hbody, k3]
   refine ⟨h1, fun φ w hS hf hok => ⟨hfn _ w, ?_⟩⟩
   have hsub : ∀ i b, (insL (.nil : PT AB) o.pre).get i = some b → asF o.pre i = some b := fun i b hb => by
    rcases insL_get hb with h | ⟨_, h⟩
    ·exact h
    ·cases h
   rcases h2 φ w (hS.sub hsub) hf hok with ⟨g1, _⟩ | ⟨_, g2⟩
   ·rw [hfn] at g1; cases g1
   ·refine Calls.mono g2 fun e u he => ?_
    obtain ⟨ψ, e1, e2, st⟩ := he
    rw [en'] at st
    refine ⟨ψ, e1, e2, ⟨st.sim.sub fun i b hb => hasL_spec h hb, st.old, st.size, fun b hb hnf => st.fr b hb (fun h => hnf (foot_mono hsub h)), fun b hb => ?_, st.os, st.tape, st.output⟩⟩
    rcases st.own b (foot_mono (fun i b hb => hasL_spec h hb) hb) with h9 | h9
    ·exact .inl (foot_mono hsub h9)
    ·exact .inr h9
end
end Go.Proofs.YtabmjadcoepbeaaGreat.Ev
namespace Go.Proofs.YtabmjadcoepbeaaGreat.Ev
noncomputable section
def mkT {α : Type} (l : List (Nat × α)) : PT α := lrec .nil (fun p _ r => r.fc fun r => r.set p.1 (some p.2)) l
def fldB (P : Program) (F : List Field) : List (Nat × Nat × Bool) → Bool := lrec (fun _ => true) (fun f _ ih fs => match fs with
 | [] => true
 | p :: fs => match P.info? f.type, P.underlying f.type with
  | some tf, some uf => match and (and (Nat.beq f.offset p.1) (Nat.beq tf.size p.2.1)) (and (not (Nat.beq p.2.1 0)) (decide (aggB uf = p.2.2))) with
   | true => ih fs
   | false => false
  | _, _ => false) F
def kindB (P : Program) (keys : List (Nat × KS)) (u : TypeDesc) (k : TK) : Bool := match k with
 | .bool => match u with
  | .bool => true
  | _ => false
 | .int k => match u with
  | .int j => decide (j = k)
  | _ => false
 | .str => match u with
  | .string => true
  | _ => false
 | .slice e esz eb => match u with
  | .slice e' => match P.info? e with
   | some te => and (and (Nat.beq e' e) (and (Nat.beq te.size esz) (Nat.beq te.bytes eb))) (and (not (Nat.beq esz 0)) (not (Nat.beq eb 0)))
   | none => false
  | _ => false
 | .arr n e esz => match u with
  | .array n' e' => match P.info? e with
   | some te => and (and (Nat.beq n' n) (Nat.beq e' e)) (Nat.beq te.size esz)
   | none => false
  | _ => false
 | .struct fs => match u with
  | .struct F => and (decide (F.toList.mapM (fun f => (P.info? f.type).map fun i => (f.offset, i.size)) = some (fs.map fun p => (p.1, p.2.1)))) (and (Nat.ble fs.length F.toList.length) (fldB P F.toList fs))
  | _ => false
 | .map ks a b => match u with
  | .map a' b' => and (and (Nat.beq a' a) (Nat.beq b' b)) (decide ((a, ks) ∈ keys))
  | _ => false
 | .ptr => match u with
  | .pointer _ => true
  | _ => false
 | .other => true
def tiB (P : Program) (keys : List (Nat × KS)) (t : Nat) (i : TI) : Bool := match P.info? t, P.underlying t with
 | some ti, some u => match ti.zero with
  | some z => match absW z with
   | some zw => and (and (and (Nat.beq ti.size i.size) (decide (aggB u = i.agg))) (decide (zeroW i = some zw))) (and (kindB P keys u i.k) (Nat.beq i.zero.length i.size))
   | none => false
  | none => false
 | _, _ => false
end
theorem mkT_get {α : Type} : ∀ {l : List (Nat × α)} {n : Nat} {x : α}, (mkT l).get n = some x → (n, x) ∈ l
 | [], n, x, h => by cases h
 | p :: l, n, x, h => by
  have h' : ((mkT l).fc fun r => r.set p.1 (some p.2)).get n = some x := h
  rw [PT.fc_eq] at h'
  rcases PT.get_set h' with ⟨e, hv⟩ | ⟨_, hv⟩
  ·cases hv; rw [e]; exact List.mem_cons_self
  ·exact List.mem_cons_of_mem _ (mkT_get hv)
section
variable {P : Program} {keys : List (Nat × KS)}
theorem fldB_ok : ∀ {F : List Field} {fs : List (Nat × Nat × Bool)}, fldB P F fs = true → fs.length ≤ F.length → ∀ (k : Nat) (p : Nat × Nat × Bool), fs[k]? = some p → ∃ (f : Field) (tf : TypeInfo) (uf : TypeDesc), F[k]? = some f ∧ f.offset = p.1 ∧ P.info? f.type = some tf ∧ tf.size = p.2.1 ∧ p.2.1 ≠ 0 ∧ P.underlying f.type = some uf ∧ aggB uf = p.2.2
 | [], fs, _, hl, k, p, hk => by
  have : fs = [] := List.eq_nil_of_length_eq_zero (by simpa using hl)
  subst this; cases hk
 | f :: F, [], _, _, k, p, hk => by cases hk
 | f :: F, q :: fs, h, hl, k, p, hk => by
  have h' : (match P.info? f.type, P.underlying f.type with
   | some tf, some uf => match and (and (Nat.beq f.offset q.1) (Nat.beq tf.size q.2.1)) (and (not (Nat.beq q.2.1 0)) (decide (aggB uf = q.2.2))) with
    | true => fldB P F fs
    | false => false
   | _, _ => false) = true := h
  split at h' <;> try (cases h'; done)
  rename_i tf uf h1 h2
  split at h' <;> try (cases h'; done)
  rename_i hc
  simp only [Bool.and_eq_true] at hc
  obtain ⟨⟨c1, c2⟩, c3, c4⟩ := hc
  cases k with
  | zero =>
   cases hk
   refine ⟨f, tf, uf, rfl, Nat.eq_of_beq_eq_true c1, h1, Nat.eq_of_beq_eq_true c2, fun e => ?_, h2, of_decide_eq_true c4⟩
   rw [e] at c3; cases c3
  | succ k => exact fldB_ok h' (by simpa using hl) k p (by simpa using hk)
theorem kindB_ok (hk : ∀ p ∈ keys, KeyOk P p.1 p.2) {u : TypeDesc} {k : TK} (h : kindB P keys u k = true) : kindOk P u k := by
 cases k with
 | bool => cases u <;> first | rfl | cases h
 | int k =>
  cases u <;> try (cases h; done)
  have : _ = k := of_decide_eq_true h
  subst this; rfl
 | str => cases u <;> first | rfl | cases h
 | slice e esz eb =>
  cases u <;> try (cases h; done)
  rename_i e'
  have h' : (match P.info? e with | some te => and (and (Nat.beq e' e) (and (Nat.beq te.size esz) (Nat.beq te.bytes eb))) (and (not (Nat.beq esz 0)) (not (Nat.beq eb 0))) | none => false) = true := h
  split at h' <;> try (cases h'; done)
  rename_i te hte
  simp only [Bool.and_eq_true] at h'
  obtain ⟨⟨c1, c2, c3⟩, c4, c5⟩ := h'
  have := Nat.eq_of_beq_eq_true c1
  subst this
  refine ⟨rfl, te, hte, Nat.eq_of_beq_eq_true c2, Nat.eq_of_beq_eq_true c3, fun e => ?_, fun e => ?_⟩
  ·rw [e] at c4; cases c4
  ·rw [e] at c5; cases c5
 | arr n e esz =>
  cases u <;> try (cases h; done)
  rename_i n' e'
  have h' : (match P.info? e with | some te => and (and (Nat.beq n' n) (Nat.beq e' e)) (Nat.beq te.size esz) | none => false) = true := h
  split at h' <;> try (cases h'; done)
  rename_i te hte
  simp only [Bool.and_eq_true] at h'
  obtain ⟨⟨c1, c2⟩, c3⟩ := h'
  have e1 := Nat.eq_of_beq_eq_true c1
  have e2 := Nat.eq_of_beq_eq_true c2
  subst e1 e2
  exact ⟨rfl, te, hte, Nat.eq_of_beq_eq_true c3⟩
 | struct fs =>
  cases u <;> try (cases h; done)
  rename_i F
  have h' : and (decide (F.toList.mapM (fun f => (P.info? f.type).map fun i => (f.offset, i.size)) = some (fs.map fun p => (p.1, p.2.1)))) (and (Nat.ble fs.length F.toList.length) (fldB P F.toList fs)) = true := h
  simp only [Bool.and_eq_true] at h'
  obtain ⟨c1, c2, c3⟩ := h'
  refine ⟨F, rfl, of_decide_eq_true c1, fun k p hp => ?_⟩
  obtain ⟨f, tf, uf, g1, g2⟩ := fldB_ok c3 (Nat.le_of_ble_eq_true c2) k p hp
  exact ⟨f, tf, uf, by simpa using g1, g2⟩
 | map ks a b =>
  cases u <;> try (cases h; done)
  rename_i a' b'
  have h' : and (and (Nat.beq a' a) (Nat.beq b' b)) (decide ((a, ks) ∈ keys)) = true := h
  simp only [Bool.and_eq_true] at h'
  obtain ⟨⟨c1, c2⟩, c3⟩ := h'
  have e1 := Nat.eq_of_beq_eq_true c1
  have e2 := Nat.eq_of_beq_eq_true c2
  subst e1 e2
  exact ⟨rfl, hk _ (of_decide_eq_true c3)⟩
 | ptr => cases u <;> first | exact ⟨_, rfl⟩ | cases h
 | other => trivial
theorem tiB_ok (hk : ∀ p ∈ keys, KeyOk P p.1 p.2) {t : Nat} {i : TI} (h : tiB P keys t i = true) : TIok P t i := by
 unfold tiB at h
 split at h <;> try (cases h; done)
 rename_i ti u h1 h2
 split at h <;> try (cases h; done)
 rename_i z hz
 split at h <;> try (cases h; done)
 rename_i zw hzw
 simp only [Bool.and_eq_true] at h
 obtain ⟨⟨⟨c1, c2⟩, c3⟩, c4, c5⟩ := h
 obtain ⟨e1, e2⟩ := absW_ok noPhi hzw
 exact ⟨ti, u, z, zw, h1, h2, Nat.eq_of_beq_eq_true c1, of_decide_eq_true c2, hz, of_decide_eq_true c3, e1, e2, kindB_ok hk c4, Nat.eq_of_beq_eq_true c5⟩
theorem env_ok {tiL : List (Nat × TI)} {fnL : List (Nat × Func)} {eqs : List Nat} {hook : Nat → List AV → HS → Option (AV × HS)} (hk : ∀ p ∈ keys, KeyOk P p.1 p.2) (he : ∀ t ∈ eqs, EqA P t) (h1 : allB (fun p : Nat × TI => tiB P keys p.1 p.2) tiL = true)
  (h2 : fnL.map (fun p => P.funcs[p.1]?) = fnL.map fun p => some p.2) (h3 : allB (fun p : Nat × Func => not (p.2.name == "runtime.NumGoroutine")) fnL = true) : EnvOk P ⟨mkT tiL, mkT fnL, eqs, hook⟩ := by
 refine ⟨he, fun t i h => tiB_ok hk (allB_mem h1 _ (mkT_get h)), fun f fn h => ?_⟩
 have hm := mkT_get h
 refine ⟨?_, ?_⟩
 ·obtain ⟨n, hn⟩ := List.getElem?_of_mem hm
  have := congrArg (fun l : List (Option Func) => l[n]?) h2
  simp only [List.getElem?_map, hn, Option.map_some, Option.some.injEq] at this
  exact this
 ·have := allB_mem h3 _ hm
  simpa using this
end
end Go.Proofs.YtabmjadcoepbeaaGreat.Ev
namespace Go.Proofs.YtabmjadcoepbeaaGreat.Ev
section
variable {P : Program}
theorem bytes_beq (s t : List UInt8) : ((ByteArray.mk ⟨s⟩) == (ByteArray.mk ⟨t⟩)) = (s == t) := by
 have e : ((ByteArray.mk ⟨s⟩) == (ByteArray.mk ⟨t⟩)) = ((⟨s⟩ : Array UInt8) == ⟨t⟩) := rfl
 rw [e]; simp
theorem bytes_refl (s : List UInt8) : ((ByteArray.mk ⟨s⟩) == (ByteArray.mk ⟨s⟩)) = true := by rw [bytes_beq]; simp
theorem ck_str {d : Nat} {t : TypeId} (hu : P.underlying t = some .string) (b : Bool) (s : ByteArray) (w : World) : (Instr.checkKey b (d + 1) t (.string s)).run P w = .ok () w := by simp [Instr.checkKey, r_und hu]
theorem ck_int {d : Nat} {t : TypeId} {k : IntKind} (hu : P.underlying t = some (.int k)) (b : Bool) (j : IntKind) (n : Int) (w : World) : (Instr.checkKey b (d + 1) t (.int j n)).run P w = .ok () w := by simp [Instr.checkKey, r_und hu]
theorem shape_str {k : AW} (h : shapeB .str k = true) : ∃ s, k = .c (.str s) := by
 cases k with
 | agg l => cases h
 | c c => cases c <;> first | exact ⟨_, rfl⟩ | cases h
theorem isI_some {c : AC} (h : isI c = true) : ∃ n, c = .int .i64 n := by
 cases c <;> try (cases h; done)
 rename_i k n
 cases k <;> first | exact ⟨_, rfl⟩ | cases h
theorem isS_some {c : AC} (h : isS c = true) : ∃ s, c = .str s := by cases c <;> first | exact ⟨_, rfl⟩ | cases h
theorem shape_int {k : AW} (h : shapeB .int k = true) : ∃ n, k = .c (.int .i64 n) := by
 cases k with
 | agg l => cases h
 | c c => obtain ⟨n, rfl⟩ := isI_some h; exact ⟨n, rfl⟩
theorem shape_pair {k : AW} (h : shapeB .pair k = true) : ∃ n s, k = .agg [.int .i64 n, .str s] := by
 cases k with
 | c c => cases h
 | agg l =>
  match l, h with
  | [a, b], h =>
   have h' : and (isI a) (isS b) = true := h
   rw [Bool.and_eq_true] at h'
   obtain ⟨n, rfl⟩ := isI_some h'.1
   obtain ⟨s, rfl⟩ := isS_some h'.2
   exact ⟨n, s, rfl⟩
theorem eqD_str (s t : List UInt8) : eqD (.str s) (.str t) = (s == t) := by
 show seq_ s t = _
 exact seq_eq s t
theorem eqD_int (m n : Int) : eqD (.int .i64 m) (.int .i64 n) = (m == n) := by
 show ieq m n = _
 rw [ieq_eq]; rfl
theorem check_succ (b : Bool) (t : TypeId) (v : Value) : Instr.checkKey b 10000 t v = Instr.checkKey b (9999 + 1) t v := rfl
theorem eq_str {d : Nat} {t : TypeId} (hu : P.underlying t = some .string) (a b : ByteArray) (w : World) : (Op.equalIn (d + 1) t (.string a) (.string b)).run P w = .ok (a == b) w := by simp [Op.equalIn, r_und hu]
theorem eq_int {d : Nat} {t : TypeId} {k : IntKind} (hu : P.underlying t = some (.int k)) (j : IntKind) (a b : Int) (w : World) : (Op.equalIn (d + 1) t (.int j a) (.int j b)).run P w = .ok (a == b) w := by simp [Op.equalIn, r_und hu]
theorem key_str {kt : Nat} (hu : P.underlying kt = some .string) : KeyOk P kt .str where
 chk φ k b w h := by
  obtain ⟨s, rfl⟩ := shape_str h
  exact ck_str (d := 9999) hu b _ w
 und := ⟨_, hu, .inl fun φ a b ha hb => by
  obtain ⟨s, rfl⟩ := shape_str ha
  obtain ⟨t, rfl⟩ := shape_str hb
  show some ((ByteArray.mk ⟨s⟩) == (ByteArray.mk ⟨t⟩)) = some (eqD (.str s) (.str t))
  rw [bytes_beq, eqD_str]⟩
 eq φ a b w ha hb := by
  obtain ⟨s, rfl⟩ := shape_str ha
  obtain ⟨t, rfl⟩ := shape_str hb
  rw [op_equal]
  show (Op.equalIn (9999 + 1) kt (.string ⟨⟨s⟩⟩) (.string ⟨⟨t⟩⟩)).run P w = .ok (eqD (.str s) (.str t)) w
  rw [eq_str hu, bytes_beq, eqD_str]
 bits φ a b ha hb h := by
  obtain ⟨s, rfl⟩ := shape_str ha
  obtain ⟨t, rfl⟩ := shape_str hb
  have h' : eqD (.str s) (.str t) = true := h
  rw [eqD_str] at h'
  have e : s = t := by simpa using h'
  subst e
  exact bytes_refl s
theorem key_int {kt : Nat} (hu : P.underlying kt = some (.int .i64)) : KeyOk P kt .int where
 chk φ k b w h := by
  obtain ⟨s, rfl⟩ := shape_int h
  exact ck_int (d := 9999) hu b _ _ w
 und := ⟨_, hu, .inl fun φ a b ha hb => by
  obtain ⟨s, rfl⟩ := shape_int ha
  obtain ⟨t, rfl⟩ := shape_int hb
  show (if IntKind.i64 = IntKind.i64 then some (s == t) else none) = some (eqD (.int .i64 s) (.int .i64 t))
  rw [if_pos rfl, eqD_int]⟩
 eq φ a b w ha hb := by
  obtain ⟨s, rfl⟩ := shape_int ha
  obtain ⟨t, rfl⟩ := shape_int hb
  rw [op_equal]
  show (Op.equalIn (9999 + 1) kt (.int .i64 s) (.int .i64 t)).run P w = .ok (eqD (.int .i64 s) (.int .i64 t)) w
  rw [eq_int hu, eqD_int]
 bits φ a b ha hb h := by
  obtain ⟨s, rfl⟩ := shape_int ha
  obtain ⟨t, rfl⟩ := shape_int hb
  have h' : eqD (.int .i64 s) (.int .i64 t) = true := h
  rw [eqD_int] at h'
  have e : s = t := by simpa using h'
  subst e
  simp [Instr.sameBits, concW, conc]
theorem eqK_pair (m n : Int) (s t : List UInt8) : eqK (.agg [.int .i64 m, .str s]) (.agg [.int .i64 n, .str t]) = ((m == n) && (s == t)) := by
 show (match eqL [.int .i64 m, .str s] [.int .i64 n, .str t] with | some r => r | none => false) = _
 have e1 : eqL [.int .i64 m, .str s] [.int .i64 n, .str t] = (match ieq m n with | true => (match seq_ s t with | true => some true | false => some false) | false => some false) := by
  show (bnd (some (ieq m n)) fun b => match b with | true => eqL [.str s] [.str t] | false => some false) = _
  cases h : ieq m n with
  | false => rfl
  | true =>
   show eqL [.str s] [.str t] = _
   show (bnd (some (seq_ s t)) fun b => match b with | true => eqL [] [] | false => some false) = _
   cases seq_ s t <;> rfl
 rw [e1, ieq_eq, seq_eq]
 have e2 : (m == n) = decide (m = n) := rfl
 rw [e2]
 cases decide (m = n) <;> cases (s == t) <;> rfl
theorem sb_pair {d : Nat} (m : Int) (s : List UInt8) : Instr.sameBits (d + 1) (.agg #[.int .i64 m, .string ⟨⟨s⟩⟩]) (.agg #[.int .i64 m, .string ⟨⟨s⟩⟩]) = true := by
 simp [Instr.sameBits, bytes_refl]
theorem ck_pair {d : Nat} {kt : Nat} {f0 f1 : Field} (hu : P.underlying kt = some (.struct #[f0, f1])) (n0 : f0.name ≠ "_") (n1 : f1.name ≠ "_") (o0 : f0.offset = 0) (o1 : f1.offset = 1)
  (u0 : P.underlying f0.type = some (.int .i64)) (u1 : P.underlying f1.type = some .string) (b : Bool) (n : Int) (s : ByteArray) (w : World) : (Instr.checkKey b (d + 2) kt (.agg #[.int .i64 n, .string s])).run P w = .ok () w := by
 have p0 : ∀ w, (part f0.type #[.int .i64 n, .string s] f0.offset).run P w = .ok (.int .i64 n) w := fun w => by simp [part, r_agg u0, aggB, o0]
 have p1 : ∀ w, (part f1.type #[.int .i64 n, .string s] f1.offset).run P w = .ok (.string s) w := fun w => by simp [part, r_agg u1, aggB, o1]
 have c0 : ∀ w, (Instr.checkKey b (d + 1) f0.type (.int .i64 n)).run P w = .ok () w := fun w => ck_int u0 b _ _ w
 have c1 : ∀ w, (Instr.checkKey b (d + 1) f1.type (.string s)).run P w = .ok () w := fun w => ck_str u1 b _ w
 unfold Instr.checkKey
 simp [r_und hu, n0, n1, p0, p1, c0, c1]
theorem eq_pair {d : Nat} {kt : Nat} {f0 f1 : Field} (hu : P.underlying kt = some (.struct #[f0, f1])) (n0 : f0.name ≠ "_") (n1 : f1.name ≠ "_") (o0 : f0.offset = 0) (o1 : f1.offset = 1)
  (u0 : P.underlying f0.type = some (.int .i64)) (u1 : P.underlying f1.type = some .string) (hst : P.stoodInHeld kt = false) (m n : Int) (s t : ByteArray) (w : World) : (Op.equalIn (d + 2) kt (.agg #[.int .i64 m, .string s]) (.agg #[.int .i64 n, .string t])).run P w = .ok ((m == n) && (s == t)) w := by
 have p0 : ∀ (m : Int) (s : ByteArray) w, (part f0.type #[.int .i64 m, .string s] f0.offset).run P w = .ok (.int .i64 m) w := fun m s w => by simp [part, r_agg u0, aggB, o0]
 have p1 : ∀ (m : Int) (s : ByteArray) w, (part f1.type #[.int .i64 m, .string s] f1.offset).run P w = .ok (.string s) w := fun m s w => by simp [part, r_agg u1, aggB, o1]
 have c0 : ∀ w, (Op.equalIn (d + 1) f0.type (.int .i64 m) (.int .i64 n)).run P w = .ok (m == n) w := fun w => eq_int u0 .i64 m n w
 have c1 : ∀ w, (Op.equalIn (d + 1) f1.type (.string s) (.string t)).run P w = .ok (s == t) w := fun w => eq_str u1 s t w
 unfold Op.equalIn
 cases e1 : (m == n) <;> cases e2 : (s == t) <;> simp [r_und hu, hst, n0, n1, p0, p1, c0, c1, e1, e2]
theorem key_pair {kt : Nat} {f0 f1 : Field} (hu : P.underlying kt = some (.struct #[f0, f1])) (n0 : f0.name ≠ "_") (n1 : f1.name ≠ "_") (o0 : f0.offset = 0) (o1 : f1.offset = 1)
  (u0 : P.underlying f0.type = some (.int .i64)) (u1 : P.underlying f1.type = some .string) (hst : P.stoodInHeld kt = false) : KeyOk P kt .pair where
 chk φ k b w h := by
  obtain ⟨n, s, rfl⟩ := shape_pair h
  exact ck_pair (d := 9998) hu n0 n1 o0 o1 u0 u1 b n ⟨⟨s⟩⟩ w
 und := ⟨_, hu, .inr fun φ a b ha hb => by
  obtain ⟨m, s, rfl⟩ := shape_pair ha
  obtain ⟨n, t, rfl⟩ := shape_pair hb
  rfl⟩
 eq φ a b w ha hb := by
  obtain ⟨m, s, rfl⟩ := shape_pair ha
  obtain ⟨n, t, rfl⟩ := shape_pair hb
  rw [op_equal, eqK_pair]
  have := eq_pair (d := 9998) hu n0 n1 o0 o1 u0 u1 hst m n ⟨⟨s⟩⟩ ⟨⟨t⟩⟩ w
  rw [bytes_beq] at this
  exact this
 bits φ a b ha hb h := by
  obtain ⟨m, s, rfl⟩ := shape_pair ha
  obtain ⟨n, t, rfl⟩ := shape_pair hb
  rw [eqK_pair, Bool.and_eq_true] at h
  have e1 : m = n := by simpa using h.1
  have e2 : s = t := by simpa using h.2
  subst e1 e2
  show Instr.sameBits (9999 + 1) (.agg #[.int .i64 m, .string ⟨⟨s⟩⟩]) (.agg #[.int .i64 m, .string ⟨⟨s⟩⟩]) = true
  exact sb_pair m _
theorem n3_some {l : List AC} (h : isN3 l = true) : ∃ a b c, l = [.int .i64 a, .int .i64 b, .int .i64 c] := by
 match l, h with
 | [a, b, c], h =>
  have h' : and (isI a) (and (isI b) (isI c)) = true := h
  simp only [Bool.and_eq_true] at h'
  obtain ⟨x, rfl⟩ := isI_some h'.1
  obtain ⟨y, rfl⟩ := isI_some h'.2.1
  obtain ⟨z, rfl⟩ := isI_some h'.2.2
  exact ⟨x, y, z, rfl⟩
theorem eq_arr {d : Nat} {t e : TypeId} {te : TypeInfo} (hu : P.underlying t = some (.array 3 e)) (he : P.underlying e = some (.int .i64)) (hte : P.info? e = some te) (h1 : te.size = 1) (a b c x y z : Int) (w : World) :
  (Op.equalIn (d + 2) t (.agg #[.int .i64 a, .int .i64 b, .int .i64 c]) (.agg #[.int .i64 x, .int .i64 y, .int .i64 z])).run P w = .ok ((a == x) && ((b == y) && (c == z))) w := by
 have p0 : ∀ (a b c : Int) w, (part e #[.int .i64 a, .int .i64 b, .int .i64 c] 0).run P w = .ok (.int .i64 a) w := fun a b c w => by simp [part, r_agg he, aggB]
 have p1 : ∀ (a b c : Int) w, (part e #[.int .i64 a, .int .i64 b, .int .i64 c] 1).run P w = .ok (.int .i64 b) w := fun a b c w => by simp [part, r_agg he, aggB]
 have p2 : ∀ (a b c : Int) w, (part e #[.int .i64 a, .int .i64 b, .int .i64 c] 2).run P w = .ok (.int .i64 c) w := fun a b c w => by simp [part, r_agg he, aggB]
 have c0 : ∀ (m n : Int) w, (Op.equalIn (d + 1) e (.int .i64 m) (.int .i64 n)).run P w = .ok (m == n) w := fun m n w => eq_int he .i64 m n w
 have hs : ∀ w, (sizeOf e).run P w = .ok 1 w := fun w => by rw [r_size hte, h1]
 unfold Op.equalIn
 have hr : List.range' 0 3 1 = [0, 1, 2] := rfl
 cases e1 : (a == x) <;> cases e2 : (b == y) <;> cases e3 : (c == z) <;> simp [r_und hu, hs, Std.Legacy.Range.forIn_eq_forIn_range', Std.Legacy.Range.size, hr, p0, p1, p2, c0, e1, e2, e3]
theorem eqA_3 {t e : TypeId} {te : TypeInfo} (hg : P.eqGuardType P.depth t = false) (hu : P.underlying t = some (.array 3 e)) (he : P.underlying e = some (.int .i64)) (hte : P.info? e = some te) (h1 : te.size = 1) : EqA P t where
 guard := hg
 eq φ a b r w ha hb hr := by
  obtain ⟨a, a', a'', rfl⟩ := n3_some ha
  obtain ⟨b, b', b'', rfl⟩ := n3_some hb
  have e1 : eqL [.int .i64 a, .int .i64 a', .int .i64 a''] [.int .i64 b, .int .i64 b', .int .i64 b''] = some ((a == b) && ((a' == b') && (a'' == b''))) := by
   show (bnd (some (ieq a b)) fun x => match x with | true => (bnd (some (ieq a' b')) fun x => match x with | true => (bnd (some (ieq a'' b'')) fun x => match x with | true => some true | false => some false) | false => some false) | false => some false) = _
   rw [ieq_eq, ieq_eq, ieq_eq]
   have g1 : (a == b) = decide (a = b) := rfl
   have g2 : (a' == b') = decide (a' = b') := rfl
   have g3 : (a'' == b'') = decide (a'' = b'') := rfl
   rw [g1, g2, g3]
   cases decide (a = b) <;> cases decide (a' = b') <;> cases decide (a'' = b'') <;> rfl
  rw [e1] at hr
  cases hr
  rw [op_equal]
  exact eq_arr (d := 9998) hu he hte h1 a a' a'' b b' b'' w
end
end Go.Proofs.YtabmjadcoepbeaaGreat.Ev
