/- Part 5 of 6 of the proof: the law MasterSplits returns true for every input, and its arguments read as before; there is no condition. -/
import Derived.Laws.IdiomCopy
import Derived.Test.YtabmjadcoepbeaaGreatEV38
import Derived.Test.YtabmjadcoepbeaaGreatRows
import Derived.Test.YtabmjadcoepbeaaGreatMS4
set_option linter.unusedVariables false
set_option linter.unusedSimpArgs false
set_option maxRecDepth 100000
set_option maxHeartbeats 64000000
/- Sorting numbers: plain facts; cmp.isNaN keeps the memory. -/
namespace Go.Proofs.YtabmjadcoepbeaaGreat
open Go.RowKit

def SortI (ys : List Nat) (i : Nat) : Prop := ∀ p q,p < q → q < i → ys.getD p 0 ≤ ys.getD q 0
def MidI (ys : List Nat) (i j : Nat) : Prop := ∀ p q,p < q → q ≤ i → q ≠ j → ys.getD p 0 ≤ ys.getD q 0
theorem MidI.start {ys : List Nat} {i : Nat} (h : SortI ys i) : MidI ys i i := fun p q hp hq hne => h p q hp (by omega)
theorem SortI.all {ys : List Nat} (h : SortI ys ys.length) (hn : ys.Nodup) : ys.Pairwise (· < ·) := by
 rw [List.pairwise_iff_getElem]
 intro p q hp hq hpq
 have h1 := h p q hpq hq
 rw [List.getD_eq_getElem?_getD,List.getD_eq_getElem?_getD,List.getElem?_eq_getElem hp,List.getElem?_eq_getElem hq] at h1
 have h2 := List.pairwise_iff_getElem.1 hn p q hp hq hpq
 simp only [Option.getD_some] at h1
 omega
end Go.Proofs.YtabmjadcoepbeaaGreat

/- Rows that append built: an element is read, written, cut off; 'clear'. (The cuts' texts AE2, AE5, AE6, AL1 hold the same.) -/
namespace Go.Proofs.YtabmjadcoepbeaaGreat
open Go.RowKit

theorem RowA.block {α : Type} {e : TypeId} {size : Nat} {R : World → Value → α → Prop} {m : World} {v : Value} {n : Nat} {xs : List α} {Rr : List Lo} (h : RowA e size R m v n xs Rr) (hn : 0 < n) :
  ∃ g cap cur,v = .slice (some ⟨g,0,none⟩) n cap ∧ Rr = [(g,e,cur)] ∧ n ≤ cap ∧ cur.size = cap * size := by
 obtain ⟨vs,⟨h0,h1⟩,h2,h3,h4⟩ := h
 rcases h1 with ⟨-,h1,-⟩ | ⟨g,cap,cur,e1,e2,h5,-,h6,-⟩
 ·omega
 ·exact ⟨g,cap,cur,e1,e2,h5,h6⟩
theorem RowA.at_ {α : Type} {e : TypeId} {size : Nat} {R : World → Value → α → Prop} {m : World} {v : Value} {n g : Nat} {cur : Array Value} {xs : List α} (h : RowA e size R m v n xs [(g,e,cur)]) {k : Nat} {x : α} (hk : xs[k]? = some x) :
  ∃ u,R m u x ∧ u.cells.size = size ∧ ∀ j,j < size → cur[0 + k * size + j]? = u.cells[j]? := by
 obtain ⟨vs,⟨h0,h1⟩,h2,h3,h4⟩ := h
 obtain ⟨u,hu,hR⟩ := h3.at_ hk
 refine ⟨u,hR,h2 u (List.mem_of_getElem? hu),fun j hj => ?_⟩
 have hc := cellsOf_at h2 hu j hj
 rcases h1 with ⟨-,-,h1⟩ | ⟨g',cap,cur',e1,e2,h5,-,h6,h7⟩
 ·cases h1
 ·cases e2
  rw [← h7,List.getElem?_take] at hc
  have hkn : k < n := by rw [← h4];exact (List.getElem?_eq_some_iff.1 hu).1
  have hlt : k * size + j < n * size := by
   have : (k + 1) * size ≤ n * size := Nat.mul_le_mul_right _ hkn
   rw [Nat.succ_mul] at this;omega
  rw [if_pos hlt,Array.getElem?_toList] at hc
  rw [Nat.zero_add,hc,Array.getElem?_toList]
theorem RowA.put {α : Type} {e : TypeId} {size : Nat} {R : World → Value → α → Prop} {m : World} {v : Value} {n g : Nat} {cur : Array Value} {xs : List α} (h : RowA e size R m v n xs [(g,e,cur)]) {k o : Nat} {x : α} {ws cs : List Value} (hk : k < xs.length) (ho : o + ws.length ≤ size)
  (hcs : cs.length = size) (hc : ∀ j,j < size → cs[j]? = if o ≤ j ∧ j < o + ws.length then ws[j - o]? else cur[0 + k * size + j]?) (hR : R m (.agg cs.toArray) x) :
  RowA e size R m v n (xs.set k x) [(g,e,splice cur (k * size + o) ws)] := by
 obtain ⟨vs,⟨h0,h1⟩,h2,h3,h4⟩ := h
 have hl := h3.length
 have hkn : k < n := by omega
 have hle : (k + 1) * size ≤ n * size := Nat.mul_le_mul_right _ hkn
 rw [Nat.succ_mul] at hle
 rcases h1 with ⟨-,h1,-⟩ | ⟨g',cap,cur',e1,e2,h5,h5',h6,h7⟩
 ·omega
 ·cases e2
  have hcap : n * size ≤ cap * size := Nat.mul_le_mul_right _ h5
  have hset : ∀ j,(cellsOf (vs.set k (.agg cs.toArray)))[j]? = if k * size ≤ j ∧ j < k * size + size then cs[j - k * size]? else (cellsOf vs)[j]? := cellsOf_set h2 hcs (by omega)
  refine ⟨vs.set k (.agg cs.toArray),⟨?_,.inr ⟨g,cap,_,e1,rfl,h5,h5',by rw [splice_size];exact h6,?_⟩⟩,?_,h3.set hR,by simpa using h4⟩
  ·have h8 := cellsOf_length (vs := vs.set k (.agg cs.toArray)) (size := size) (by
    intro u hu
    rcases List.mem_or_eq_of_mem_set hu with hu | rfl
    ·exact h2 u hu
    ·simpa [Value.cells] using hcs)
   rw [h8];simp [h4]
  ·apply List.ext_getElem?
   intro j
   rw [List.getElem?_take,Array.getElem?_toList,splice_at ws _ _ (by rw [h6];omega),hset,← h7]
   by_cases hj : j < n * size
   ·rw [if_pos hj,List.getElem?_take,if_pos hj,Array.getElem?_toList]
    by_cases h9 : k * size ≤ j ∧ j < k * size + size
    ·rw [if_pos h9,hc _ (by omega)]
     by_cases h10 : k * size + o ≤ j ∧ j < k * size + o + ws.length
     ·rw [if_pos h10,if_pos (by omega),show j - (k * size + o) = j - k * size - o by omega];simp
     ·rw [if_neg h10,if_neg (by omega),show 0 + k * size + (j - k * size) = j by omega]
    ·rw [if_neg h9,if_neg (by omega)];simp
   ·rw [if_neg hj,if_neg (by omega),List.getElem?_take,if_neg hj]
  ·intro u hu
   rcases List.mem_or_eq_of_mem_set hu with hu | rfl
   ·exact h2 u hu
   ·simpa [Value.cells] using hcs
theorem RowA.fit {α : Type} {e : TypeId} {size : Nat} {R : World → Value → α → Prop} {m : World} {v : Value} {n g : Nat} {cur : Array Value} {xs : List α} (h : RowA e size R m v n xs [(g,e,cur)]) : n * size ≤ cur.size := by
 obtain ⟨vs,⟨h0,h1⟩,h2,h3,h4⟩ := h
 rcases h1 with ⟨-,-,h1⟩ | ⟨g',cap,cur',e1,e2,h5,-,h6,h7⟩
 ·cases h1
 ·cases e2
  rw [h6];exact Nat.mul_le_mul_right _ h5
theorem RowA.putW {α : Type} {e : TypeId} {size : Nat} {R : World → Value → α → Prop} {m : World} {v : Value} {n g : Nat} {cur : Array Value} {xs : List α} (h : RowA e size R m v n xs [(g,e,cur)]) {k : Nat} {x : α} {ws : List Value} (hk : k < xs.length) (hw : ws.length = size) (hR : R m (.agg ws.toArray) x) :
  RowA e size R m v n (xs.set k x) [(g,e,splice cur (0 + k * size) ws)] := by
 have h1 := RowA.put (o := 0) (ws := ws) h hk (by omega) hw (fun j hj => by rw [if_pos (by omega),Nat.sub_zero]) hR
 rwa [Nat.add_zero,← Nat.zero_add (k * size)] at h1
theorem All2.takes {α : Type} {R : Value → α → Prop} : ∀ {vs : List Value} {xs : List α},All2 R vs xs → ∀ i,All2 R (vs.take i) (xs.take i)
 | _,_,_,0 => by simp [All2]
 | [],[],_,_ + 1 => trivial
 | v :: vs,x :: xs,h,i + 1 => ⟨h.1,All2.takes h.2 i⟩
 | [],_ :: _,h,_ + 1 => h.elim
 | _ :: _,[],h,_ + 1 => h.elim
section
variable {P : Program} {ops : Array Oper} {Q : Exit → Act → World → Prop} {rest : List Oper} {o : Oper} {a : Act} {w0 m0 W m : World} {Ls : List Lo}
end
end Go.Proofs.YtabmjadcoepbeaaGreat

/- What a callee that only reads leaves of the hidden blocks; loads of numbers from a hidden row. -/
namespace Go.Proofs.YtabmjadcoepbeaaGreat
open Go.RowKit

theorem Loc.again {w0 m0 W m W' : World} {Ls : List Lo} (h : Loc w0 m0 W m Ls) (hE : Ext W W') : Loc w0 m0 W' (hidTo m W'.heap.size) Ls := by
 have hs : m.heap.size ≤ W'.heap.size := by rw [h.vw.size];exact hE.size
 refine ⟨h.size0,h.ext.trans hE,h.mext.trans (hidTo_ext hs),⟨h.vw.os.trans hE.os.symm,h.vw.tape.trans hE.tape.symm,h.vw.output.trans hE.output.symm,hidTo_size hs,fun a u hu => ?_⟩,h.low,fun x hx => ?_,fun x hx a ha => ?_,h.apart⟩
 ·rcases Nat.lt_or_ge a.block m.heap.size with hlt | hlt
  ·rw [cell_of_heap (hidTo_old hlt)] at hu
   exact hE.le.cell _ _ (h.vw.cell _ _ hu)
  ·rw [hidTo_new hlt] at hu;cases hu
 ·exact (h.blk x hx).ext hE
 ·have hlt : a.block < m.heap.size := by rw [ha,h.vw.size];exact (h.blk x hx).lt
  rw [cell_of_heap (hidTo_old hlt)]
  exact h.hid x hx a ha
end Go.Proofs.YtabmjadcoepbeaaGreat

/- Linear programs: their types, and the contracts of pairingref27.SameVector and pairingref27.SameProgram (equal programs). -/
namespace Go.Proofs.YtabmjadcoepbeaaGreat
open Go.RowKit

theorem zc_Ent : zc Tryz.prog 71 = some #[.int .i64 0,.bool false,.slice none 0 0,.bool false,.slice none 0 0] := by kernel_rfl
instance iAR1_1 : ZcC Tryz.prog 71 #[.int .i64 0,.bool false,.slice none 0 0,.bool false,.slice none 0 0] := ⟨zc_Ent⟩
theorem fd_Ent0 : fdS Tryz.prog 71 0 = some 0 := by kernel_rfl
instance iAR1_2 : FdC Tryz.prog 71 0 0 := ⟨fd_Ent0⟩
theorem fd_Ent1 : fdS Tryz.prog 71 1 = some 1 := by kernel_rfl
instance iAR1_3 : FdC Tryz.prog 71 1 1 := ⟨fd_Ent1⟩
theorem ag_Ent : agS Tryz.prog 71 = some 5 := by kernel_rfl
instance iAR1_4 : AgC Tryz.prog 71 5 := ⟨ag_Ent⟩
theorem ap_Ents : apS Tryz.prog 73 = some (71,5,72,5) := by kernel_rfl
instance iAR1_5 : ApC Tryz.prog 73 71 5 72 := ⟨ap_Ents⟩
theorem lf_Ents : lfB Tryz.prog 73 = true := by kernel_rfl
instance iAR1_6 : LfC Tryz.prog 73 := ⟨lf_Ents⟩
theorem ap_Vecs : apS Tryz.prog 29 = some (73,1,24,1) := by kernel_rfl
instance iAR1_7 : ApC Tryz.prog 29 73 1 24 := ⟨ap_Vecs⟩
theorem lf_Vecs : lfB Tryz.prog 29 = true := by kernel_rfl
instance iAR1_8 : LfC Tryz.prog 29 := ⟨lf_Vecs⟩
theorem zc_LP : zc Tryz.prog 31 = some #[.slice none 0 0,.slice none 0 0,.slice none 0 0] := by kernel_rfl
instance iAR1_9 : ZcC Tryz.prog 31 #[.slice none 0 0,.slice none 0 0,.slice none 0 0] := ⟨zc_LP⟩
theorem ag_LP : agS Tryz.prog 31 = some 3 := by kernel_rfl
instance iAR1_10 : AgC Tryz.prog 31 3 := ⟨ag_LP⟩
theorem fd_LP0 : fdS Tryz.prog 31 0 = some 0 := by kernel_rfl
instance iAR1_11 : FdC Tryz.prog 31 0 0 := ⟨fd_LP0⟩
theorem fd_LP1 : fdS Tryz.prog 31 1 = some 1 := by kernel_rfl
instance iAR1_12 : FdC Tryz.prog 31 1 1 := ⟨fd_LP1⟩
theorem fd_LP2 : fdS Tryz.prog 31 2 = some 2 := by kernel_rfl
instance iAR1_13 : FdC Tryz.prog 31 2 2 := ⟨fd_LP2⟩

abbrev Ent := Int × Rat
def EntR (m : World) (v : Value) (x : Ent) : Prop := ∃ g A n c h B k d,v = .agg #[.int .i64 x.1,.bool g,.slice A n c,.bool h,.slice B k d] ∧ FracC m (.agg #[.bool g,.slice A n c,.bool h,.slice B k d]) x.2
theorem EntR.mono (m m' : World) (v : Value) (x : Ent) (h : EntR m v x) (hl : Le m m') : EntR m' v x := by
 obtain ⟨g,A,n,c,h,B,k,d,e,hf⟩ := h
 exact ⟨g,A,n,c,h,B,k,d,e,hf.le hl⟩
abbrev EntL := ListV (α := Ent) 5 EntR
theorem EntL.le {m m' : World} {v : Value} {xs : List Ent} (h : EntL m v xs) (hl : Le m m') : EntL m' v xs := ListV.le EntR.mono h hl
theorem EntL.mono (m m' : World) (v : Value) (x : List Ent) (h : EntL m v x) (hb : Le m m') : EntL m' v x := EntL.le h hb
abbrev VecL := ListV (α := List Ent) 1 EntL
theorem VecL.le {m m' : World} {v : Value} {xs : List (List Ent)} (h : VecL m v xs) (hl : Le m m') : VecL m' v xs := ListV.le EntL.mono h hl
theorem EntL.at_ {m : World} {A : Option Addr} {n c : Nat} {ys : List Ent} (h : EntL m (.slice A n c) ys) {k : Nat} {y : Ent} (hk : ys[k]? = some y) :
  ∃ b off g A' n' c' f B p q,A = some ⟨b,off,none⟩ ∧ FracC m (.agg #[.bool g,.slice A' n' c',.bool f,.slice B p q]) y.2 ∧ m.rangeAt b (off + k * 5) [.int .i64 y.1,.bool g,.slice A' n' c',.bool f,.slice B p q] := by
 obtain ⟨b,off,v,e,⟨g,A',n',c',f,B,p,q,rfl,hf⟩,_,hr⟩ := ListV.at_ h (by omega) hk
 exact ⟨b,off,g,A',n',c',f,B,p,q,e,hf,hr⟩
theorem VecL.at_ {m : World} {A : Option Addr} {n c : Nat} {ds : List (List Ent)} (h : VecL m (.slice A n c) ds) {k : Nat} {d : List Ent} (hk : ds[k]? = some d) :
  ∃ b off A' c',A = some ⟨b,off,none⟩ ∧ EntL m (.slice A' d.length c') d ∧ m.cell? ⟨b,off + k,none⟩ = some (.slice A' d.length c') := by
 obtain ⟨b,off,v,e,hv,_,hr⟩ := ListV.at_ h (by omega) hk
 obtain ⟨A',c',rfl,_,hv⟩ := hv.lit
 exact ⟨b,off,A',c',e,hv,by simpa using hr 0 _ rfl⟩
structure LPd where
 cost : List Rat
 cols : List (List Ent)
 right : List Rat
def LPR (m : World) (v : Value) (x : LPd) : Prop := ∃ a b c,v = .agg #[a,b,c] ∧ FracL m a x.cost ∧ VecL m b x.cols ∧ FracL m c x.right
theorem LPR.le {m m' : World} {v : Value} {x : LPd} (h : LPR m v x) (hb : Le m m') : LPR m' v x := by
 obtain ⟨a,b,c,e,h1,h2,h3⟩ := h
 exact ⟨a,b,c,e,FracL.le h1 hb,VecL.le h2 hb,FracL.le h3 hb⟩
structure LPd.fit (x : LPd) : Prop where
 cost : ∀ q ∈ x.cost,Fit 200 q
 right : ∀ q ∈ x.right,Fit 200 q
 cols : ∀ l ∈ x.cols,l.length ≤ 1000000 ∧ ∀ y ∈ l,Fit 1000 y.2
 n1 : x.cost.length ≤ 1000000
 n2 : x.cols.length ≤ 1000000
 n3 : x.right.length ≤ 1000000

end Go.Proofs.YtabmjadcoepbeaaGreat

/- The linear program of a master problem: plain facts; the program's vector of a pairing is the reference's. -/
namespace Go.Proofs.YtabmjadcoepbeaaGreat
open Go.RowKit

theorem AscP.pairwise {xs : List Int} (h : AscP xs) : xs.Pairwise (· < ·) := by
 rw [List.pairwise_iff_getElem]
 intro i j hi hj hij
 exact h.lt (j - i - 1) i _ _ (List.getElem?_eq_getElem hi) (by rw [show i + (j - i - 1) + 1 = j by omega];exact List.getElem?_eq_getElem hj)
end Go.Proofs.YtabmjadcoepbeaaGreat

/- Linear programs: rows of fractions and vectors of the caller's own; a vector of one entry. -/
namespace Go.Proofs.YtabmjadcoepbeaaGreat
open Go.RowKit

theorem EntR.le {m m' : World} {v : Value} {x : Ent} (h : EntR m v x) (hl : Le m m') : EntR m' v x := EntR.mono _ _ _ _ h hl
def VecO (m : World) (v : Value) (l : List Ent) : Prop := ∃ A n c,v = .agg #[.slice A n c] ∧ EntL m (.slice A n c) l
theorem VecO.le {m m' : World} {v : Value} {l : List Ent} (h : VecO m v l) (hl : Le m m') : VecO m' v l := by
 obtain ⟨A,n,c,e,h⟩ := h
 exact ⟨A,n,c,e,EntL.le h hl⟩
end Go.Proofs.YtabmjadcoepbeaaGreat

/- Contracts of master.whole and master.vector. -/
namespace Go.Proofs.YtabmjadcoepbeaaGreat
open Go.RowKit

theorem m_whole (z : Int) (w m : World) (hV : Vw m w) (h1 : z.natAbs < 9223372036854775808) :
  Calls Tryz.prog 25 #[.int .i64 z] w (RetV w m fun m' r => FracC m' r (z : Rat)) := by
 have hq : Hid (Rat.divInt z 1 = (z : Rat)) := by show _ = _;rw [← Rat.num_divInt_den (z : Rat)];simp
 have K : Hid (∀ w m,Vw m w → Calls Tryz.prog 58 #[.int .i64 z,.int .i64 1] w (RetV w m fun m' v => ∃ r,v = .tuple #[r,.int .i64 0] ∧ FracC m' r (Rat.divInt z 1))) := by
  show ∀ w m,_
  exact fun w m hV => q_FromInts z 1 w m hV (by omega) (by decide) (by omega)
 have hL := Loc.start hV
 clear hV h1
 go_enter Tryz.func25,Tryz.ntmps25
 go_wp2_with (first | go_skip | refine tP ?_ | (refine tS ?_;clear hL;intro _ hL) | (refine tB ?_;clear hL;intro _ _ hL _))
 refine (K.out _ _ hL.vw).mono ?_
 rintro e W11 ⟨_,m11,rfl,hE,hM11,hV,va,rfl,h1⟩
 replace hL := hL.call hE (by assumption) hV;clear hE hV
 obtain ⟨g,A,n,c,g',B',n',c',rfl,h1⟩ := h1.lit
 go_wp2_with (first | go_skip | refine tP ?_ | (refine tS ?_;clear hL;intro _ hL) | (refine tB ?_;clear hL;intro _ _ hL _))
 refine fin_agg hL Tryz.results25 rfl rfl loX AgC.h (by exact rfl) ?_
 rw [← hq.out];exact h1.le leX

end Go.Proofs.YtabmjadcoepbeaaGreat

/- The walk through the law MasterProgram. -/
namespace Go.Proofs.YtabmjadcoepbeaaGreat
open Go.RowKit

theorem fit_mil {z : Int} (h1 : -1000000 ≤ z) (h2 : z ≤ 1000000) : Fit 200 (z : Rat) := (Tn.int (k := 1000000) (by omega) (by decide)).fit (by decide)
theorem retV_ext {w m : World} {f : Nat} {R : World → Value → Prop} {v : Value} (hV : Vw m w) (h : Calls Tryz.prog f #[] w fun e u => e = .returned v ∧ Ext w u) (hR : ∀ m',R m' v) : Calls Tryz.prog f #[] w (RetV w m R) :=
 h.mono fun e u hu => by
  obtain ⟨rfl,hE⟩ := hu
  exact RetV.mk ((Loc.start hV).again hE) (hR _)

end Go.Proofs.YtabmjadcoepbeaaGreat

/- The law MasterProgram, with the check known of its package. -/
namespace Go.Proofs.YtabmjadcoepbeaaGreat
open Go.RowKit

theorem kn_known : ∀ w m,Vw m w → Calls Tryz.prog 10 #[] w (RetV w m fun _ r => r = .bool true) := fun w m hV =>
 retV_ext hV ((Ev.known_ok w).mono fun e u h => ⟨h.1,h.2⟩) fun _ => rfl
end Go.Proofs.YtabmjadcoepbeaaGreat

/- Lists cut in front and behind. -/
namespace Go.Proofs.YtabmjadcoepbeaaGreat
open Go.RowKit

theorem sl_cut {m : World} {A : Option Addr} {vs : List Value} (h : Sl m A vs) (k : Nat) : Sl m A (vs.take k) := by
 intro h0
 obtain ⟨b,off,e,hb,hc⟩ := h (by rw [List.length_take] at h0;omega)
 refine ⟨b,off,e,hb,fun j v hj => hc j v ?_⟩
 rw [List.getElem?_take] at hj
 by_cases hlt : j < k
 ·rwa [if_pos hlt] at hj
 ·rw [if_neg hlt] at hj;cases hj
theorem ListV.take {α : Type} {size : Nat} {R : World → Value → α → Prop} {m : World} {A : Option Addr} {n c k : Nat} {xs : List α} (h : ListV size R m (.slice A n c) xs) (hk : k ≤ n) : ListV size R m (.slice A k c) (xs.take k) := by
 obtain ⟨A',c',vs,e,hc,h1,h2,h3⟩ := h
 injection e with e1 e2 e3
 subst e1 e3
 have hl : (xs.take k).length = k := by rw [List.length_take];omega
 have hz : Value.slice A k c = .slice A (xs.take k).length c := by rw [hl]
 rw [hz]
 refine ⟨A,c,vs.take k,rfl,by omega,fun u hu => h1 u (List.mem_of_mem_take hu),?_,h3.takes k⟩
 have h9 := cellsOf_length (size := size) (vs := vs.take k) fun u hu => h1 u (List.mem_of_mem_take hu)
 have h8 : (cellsOf vs).take ((vs.take k).length * size) = cellsOf (vs.take k) := by
  have e : cellsOf vs = cellsOf (vs.take k) ++ cellsOf (vs.drop k) := by rw [← cellsOf_append,List.take_append_drop]
  rw [e]
  exact List.take_left' h9
 rw [← h8]
 exact sl_cut h2 _
theorem All2.drops {α : Type} {R : Value → α → Prop} : ∀ {vs : List Value} {xs : List α},All2 R vs xs → ∀ i,All2 R (vs.drop i) (xs.drop i)
 | _,_,h,0 => by simpa using h
 | [],[],_,_ + 1 => trivial
 | v :: vs,x :: xs,h,i + 1 => All2.drops h.2 i
 | [],_ :: _,h,_ + 1 => h.elim
 | _ :: _,[],h,_ + 1 => h.elim
theorem ListV.drop {α : Type} {size : Nat} {R : World → Value → α → Prop} {m : World} {b o n c k : Nat} {xs : List α} (h : ListV size R m (.slice (some ⟨b,o,none⟩) n c) xs) (h0 : 0 < size) (hk : k ≤ n) : ListV size R m (.slice (some ⟨b,o + k * size,none⟩) (n - k) (c - k)) (xs.drop k) := by
 obtain ⟨A',c',vs,e,hc,h1,h2,h3⟩ := h
 injection e with e1 e2 e3
 subst e1 e3
 have hl := h3.length
 have hd : (xs.drop k).length = n - k := by rw [List.length_drop];omega
 have hvd : (vs.drop k).length = n - k := by rw [List.length_drop];omega
 refine ListV.mk (vs := vs.drop k) (by omega) hvd (fun u hu => h1 u (List.mem_of_mem_drop hu)) ?_ ?_
 ·intro hne
  have hcs := cellsOf_length h1
  have hcd := cellsOf_length (fun u hu => h1 u (List.mem_of_mem_drop hu) : ∀ u ∈ vs.drop k,u.cells.size = size)
  obtain ⟨b',o',e',hlt,hr⟩ := h2 (by
   rw [hcd,List.length_drop,Nat.sub_mul] at hne
   omega)
  injection e' with e'
  injection e' with e1' e2' _
  subst e1' e2'
  refine ⟨b,o + k * size,rfl,hlt,fun j v hv => ?_⟩
  have := hr (k * size + j) v (by rw [← hv];exact cells_drop h1 k j)
  rwa [← Nat.add_assoc] at this
 ·exact All2.drops h3 k
 where
 cells_drop {size : Nat} : ∀ {vs : List Value},(∀ u ∈ vs,u.cells.size = size) → ∀ k j,(cellsOf vs)[k * size + j]? = (cellsOf (vs.drop k))[j]?
  | vs,_,0,j => by simp
  | [],_,k + 1,j => by simp [cellsOf]
  | v :: vs,h,k + 1,j => by
   have hv : v.cells.toList.length = size := by simpa using h v (by simp)
   show (v.cells.toList ++ cellsOf vs)[(k + 1) * size + j]? = _
   rw [List.getElem?_append_right (by rw [hv,Nat.succ_mul];omega),hv,show (k + 1) * size + j - size = k * size + j by rw [Nat.succ_mul];omega]
   exact cells_drop (fun u hu => h u (List.mem_cons_of_mem _ hu)) k j
end Go.Proofs.YtabmjadcoepbeaaGreat

/- Fractions of any form, and their lists; contracts of rational.Sign, master.fresh, master.copyCuts and pairingref27.canonical. -/
namespace Go.Proofs.YtabmjadcoepbeaaGreat
open Go.RowKit

def FrGE (m : World) (v : Value) (p : Int × Int) : Prop := FrG m v p.1 p.2
theorem FrGE.mono (m m' : World) (v : Value) (p : Int × Int) (h : FrGE m v p) (hl : Le m m') : FrGE m' v p := FrG.le h hl
abbrev FrGL := ListV (α := Int × Int) 4 FrGE
theorem FrGL.le {m m' : World} {v : Value} {xs : List (Int × Int)} (h : FrGL m v xs) (hl : Le m m') : FrGL m' v xs := ListV.le FrGE.mono h hl
theorem FrGL.at_ {m : World} {A : Option Addr} {n c : Nat} {qs : List (Int × Int)} (h : FrGL m (.slice A n c) qs) {k : Nat} {q : Int × Int} (hk : qs[k]? = some q) :
  ∃ b off g A1 n1 c1 g' B k' d,A = some ⟨b,off,none⟩ ∧ FrG m (.agg #[.bool g,.slice A1 n1 c1,.bool g',.slice B k' d]) q.1 q.2 ∧ m.rangeAt b (off + k * 4) [.bool g,.slice A1 n1 c1,.bool g',.slice B k' d] := by
 obtain ⟨b,off,v,e,hv,_,hr⟩ := ListV.at_ h (by omega) hk
 obtain ⟨g,A1,n1,c1,g',B,k',d,rfl,hv⟩ := FrG.lit hv
 exact ⟨b,off,g,A1,n1,c1,g',B,k',d,e,hv,hr⟩
def frs (xs : List (Int × Int)) : List Rat := xs.map fun p => Rat.divInt p.1 p.2
theorem frs_len (xs : List (Int × Int)) : (frs xs).length = xs.length := by simp [frs]
theorem frs_at {xs : List (Int × Int)} {k : Nat} {p : Int × Int} (h : xs[k]? = some p) : (frs xs)[k]? = some (Rat.divInt p.1 p.2) := by simp [frs,h]
theorem frs_snoc {xs : List (Int × Int)} {k : Nat} {p : Int × Int} (h : xs[k]? = some p) : frs (xs.take k) ++ [Rat.divInt p.1 p.2] = frs (xs.take (k + 1)) := by
 rw [← take_snoc h];simp [frs]
def sgG (p : Int × Int) : Int := icmp p.1 0 * icmp p.2 0
theorem icmp_bd (x : Int) : -1 ≤ icmp x 0 ∧ icmp x 0 ≤ 1 := by unfold icmp;split <;> (try split) <;> omega
theorem sgG_bd (p : Int × Int) : -1 ≤ sgG p ∧ sgG p ≤ 1 := by
 unfold sgG icmp
 split <;> split <;> (try split) <;> (try split) <;> omega
theorem icmp_sign (x : Int) : icmp x 0 = x.sign := by
 unfold icmp
 rcases Int.lt_trichotomy x 0 with h | rfl | h
 ·rw [if_pos h,Int.sign_eq_neg_one_of_neg h]
 ·rfl
 ·rw [if_neg (by omega),if_neg (by omega),Int.sign_eq_one_of_pos h]
theorem sgG_pos {p : Int × Int} : 0 < sgG p ↔ 0 < rs (Rat.divInt p.1 p.2) := by
 obtain ⟨x,y⟩ := p
 show 0 < icmp x 0 * icmp y 0 ↔ 0 < icmp (Rat.divInt x y).num 0
 rw [icmp_sign,icmp_sign,icmp_sign]
 by_cases hy : y = 0
 ·subst hy
  rw [Rat.divInt_zero]
  show 0 < x.sign * 0 ↔ (0 : Int) < 0
  rw [Int.mul_zero]
 ·have hd := (Rat.divInt x y).den_pos
  have e : (Rat.divInt x y).num * y = x * (Rat.divInt x y).den := (Rat.divInt_eq_divInt_iff (by omega) hy).1 (Rat.num_divInt_den _)
  have e2 := congrArg Int.sign e
  rw [Int.sign_mul,Int.sign_mul,Int.sign_eq_one_of_pos (by omega : (0 : Int) < ((Rat.divInt x y).den : Int)),Int.mul_one] at e2
  rw [← e2]
  rcases Int.lt_trichotomy y 0 with h | h | h
  ·rw [Int.sign_eq_neg_one_of_neg h];omega
  ·omega
  ·rw [Int.sign_eq_one_of_pos h];omega

theorem q_SignG (v : Value) (p : Int × Int) (w m : World) (hV : Vw m w) (h : FrG m v p.1 p.2) :
  Calls Tryz.prog 44 #[v] w (RetV w m fun _ r => r = .int .i64 (sgG p)) := by
 obtain ⟨x,y⟩ := p
 obtain ⟨⟨g1,A1,n1,c1,g2,A2,n2,c2,rfl,i1,i2⟩,-⟩ := h
 have K2 : Hid (∀ w m',Vw m' w → Le m m' → Calls Tryz.prog 72 #[.agg #[.bool g2,.slice A2 n2 c2]] w (RetV w m' fun _ r => r = .int .i64 (icmp y 0))) := by
  show ∀ w m',_
  intro w m' hV hle
  exact i_Sign _ _ w m' hV (i2.le hle)
 have K1 : Hid (∀ w m',Vw m' w → Le m m' → Calls Tryz.prog 72 #[.agg #[.bool g1,.slice A1 n1 c1]] w (RetV w m' fun _ r => r = .int .i64 (icmp x 0))) := by
  show ∀ w m',_
  intro w m' hV hle
  exact i_Sign _ _ w m' hV (i1.le hle)
 show Calls _ _ _ _ (RetV w m fun _ r => r = .int .i64 (icmp x 0 * icmp y 0))
 obtain ⟨s1,s2⟩ := icmp_bd x
 obtain ⟨t1,t2⟩ := icmp_bd y
 have hw : wrap64 (icmp x 0 * icmp y 0) = icmp x 0 * icmp y 0 := by
  have := sgG_bd (x,y)
  unfold sgG at this
  simp only at this
  unfold wrap64;omega
 have HW := Lib.hid hw
 have hL := Loc.start hV
 clear hV i1 i2 hw
 generalize icmp x 0 = s at *
 generalize icmp y 0 = t at *
 go_enter Tryz.func44,Tryz.ntmps44
 go_upto_region 1 with ((first | go_skip | refine tP ?_ | (refine tB ?_;clear hL;intro _ _ hL _)))
 refine wp_region_by2 7 [false,false,false,false,false,false,false] [false,false,false,false,false,false,false] [(fun v _ _ => v = ?c1_0),(fun v _ _ => v = ?c1_1),Is (.int .i64 s),(fun v _ _ => v = ?c1_3),(fun v _ _ => v = ?c1_4),Is (.int .i64 t),(fun v _ _ => v = ?c1_6)] hL.vw mixed [3,4,5,6,7,8,9] _ (by kernel_rfl) (fun vs => by simp only [lay,Act.put,zq1,zq2,zq3];rfl) (by kernel_rfl) (by decide) (by decide) ?s1 ?l1 ?r1
 case s1 =>
  refine ⟨?_,?_,?_,?_,?_,?_,?_,trivial⟩
  ·intro vs W1 m1 hE hM hV hD;clear hD
   exact sFe
  ·intro vs W1 m1 hE hM hV hD;obtain ⟨⟨_,_,-,-,f3⟩,-⟩ := hD
   rw [(f3 : vs 3 = _)];clear f3;exact sLe
  ·intro vs W1 m1 hE hM hV hD;obtain ⟨⟨_,_,-,-,f4⟩,-⟩ := hD
   rw [(f4 : vs 4 = _)]
   clear f4
   go_wp2_with fail
   refine (K1.out _ _ hV leX).mono ?_
   rintro e W2 ⟨v,m2,rfl,hE2,hM2,hV2,h⟩
   go_wp2_with fail
   refine One2.call hE2 hM2 hV2 ?_;first | exact h | exact rfl
  ·intro vs W1 m1 hE hM hV hD;clear hD
   exact sFe
  ·intro vs W1 m1 hE hM hV hD;obtain ⟨⟨_,_,-,-,f6⟩,-⟩ := hD
   rw [(f6 : vs 6 = _)];clear f6;exact sLe
  ·intro vs W1 m1 hE hM hV hD;obtain ⟨⟨_,_,-,-,f7⟩,-,-⟩ := hD
   rw [(f7 : vs 7 = _)]
   clear f7
   go_wp2_with fail
   refine (K2.out _ _ hV leX).mono ?_
   rintro e W2 ⟨v,m2,rfl,hE2,hM2,hV2,h⟩
   go_wp2_with fail
   refine One2.call hE2 hM2 hV2 ?_;first | exact h | exact rfl
  ·intro vs W1 m1 hE hM hV hD;obtain ⟨⟨_,_,-,-,f5⟩,⟨_,_,-,-,f8⟩,-⟩ := hD
   rw [(f5 : vs 5 = _),(f8 : vs 8 = _)];clear f5 f8;exact sPw
 case l1 =>
  refine ⟨nF,nF,nF,nF,nF,nF,nF,trivial⟩
 intro vs W1 m1 hE hM hV hF hD
 clear hD
 obtain ⟨-,-,-,-,-,-,⟨_,_,-,-,f9⟩,-⟩ := hF
 replace hL := hL.call hE hM hV
 have f9 : vs 9 = _ := f9
 generalize vs 9 = x9 at f9 ⊢
 subst x9
 clear hE hV
 simp only [List.drop_succ_cons,List.drop_zero]
 go_wp2_with (first | go_skip | refine tP ?_ | (refine tB ?_;clear hL;intro _ _ hL _))
 refine QN.mk ?_
 have hw := HW.out
 go_wp2_with (first | go_skip | refine tP ?_ | (refine tB ?_;clear hL;intro _ _ hL _))
 go_ret
 exact RetV.mk hL (by first | exact rfl | exact congrArg (Value.int .i64) HW.out)

theorem m_fresh (v : Value) (xs : List (Int × Int)) (w m : World) (hV : Vw m w) (h : FrGL m v xs) (hs : ∀ p ∈ xs,Sm p.1 p.2) (hl : xs.length ≤ 1000) :
  Calls Tryz.prog 43 #[v] w (RetV w m fun m' r => FracL m' r (frs xs)) := by
 obtain ⟨A,c,rfl,hc,h⟩ := h.lit
 have HS := Lib.hid hs
 have EF : Hid ((frs xs).length = xs.length) := frs_len xs
 have hL := Loc.start hV
 clear hV hs hc
 generalize hn : xs.length = n at *
 have HN := Lib.hid hn
 clear hn
 have hszb : n ≤ 1000000 := by omega
 go_enter Tryz.func43,Tryz.ntmps43
 go_wp2_with (first | (refine wl_make hL (wanted_none rfl) rfl ap_Fracs zc_Frac rfl hszb (by decide) ?_;clear hL;intro W1 m1 hL hX1;simp only [Act.put,zq1,zq2,zq3]) | (first | go_skip | refine tP ?_ | (refine tS ?_;clear hL;intro _ hL) | (refine tB ?_;clear hL;intro _ _ hL _)))
 have r1 : RowP 4 FracC m1 0 (madeCells #[.bool false,.slice none 0 0,.bool false,.slice none 0 0] (n * 4)) (frs xs) := RowP.zero (by rw [size_madeCells,EF.out])
 generalize madeCells #[.bool false,.slice none 0 0,.bool false,.slice none 0 0] (n * 4) = q1 at hL r1
 have R1 := Lib.hid r1
 clear r1
 go_loopw [11] (fun i wr => ∃ (k : Nat) (mm : World) (cur : Array Value),k ≤ n ∧ i = .int .i64 (k : Int) ∧ Loc w m wr mm [(w.heap.size,55,cur)] ∧ Hid (RowP 4 FracC mm k cur (frs xs))) (fun i _ => n - (intOf i).toNat)
 case atStart => exact ⟨0,m1,_,Nat.zero_le _,rfl,hL,R1.out⟩
 case round =>
  clear hL R1
  obtain ⟨k,mm,cur,hk,rfl,hL,R1⟩ := hrel
  have hM := hL.mext
  by_cases hlt : k < n
  ·obtain ⟨p,hx⟩ := at_some HN hlt
   obtain ⟨b1,o1,g1',A1',n1,c1,g1'',B1,k1,d1,e1,ha1,hr1⟩ := FrGL.at_ h hx
   have hS : Hid (Sm p.1 p.2) := HS.out p (List.mem_of_getElem? hx)
   have HX := Lib.hid (frs_at hx)
   have HA1 := Lib.hid (ha1.le hM.le)
   have hfit : 0 + k * 4 + 4 ≤ cur.size := by rw [R1.out.1,EF.out];omega
   have hr2 : mm.rangeAt b1 (o1 + k * 4) [.bool g1',.slice A1' n1 c1,.bool g1'',.slice B1 k1 d1] := rangeAt_le hr1 hM.le
   clear hx ha1 hr1 hM
   subst e1
   go_wp2_with (first | go_skip | refine tP ?_ | (refine tS ?_;clear hL;intro _ hL) | (refine tB ?_;clear hL;intro _ _ hL _))
   refine (q_AddZeroG _ p.1 p.2 _ _ hL.vw (HA1.out.le leX) hS.out).mono ?_
   rintro e Wa1 ⟨va1,ma1,rfl,hE,hMa1,hV,ha1⟩
   replace hL := hL.call hE (by assumption) hV;clear hE hV
   obtain ⟨ga1',Aa1',na1',ca1',ha1',Ba1',ka1',da1',rfl,ha1⟩ := ha1.lit
   have HZ := Lib.hid ha1
   clear ha1
   go_wp2_with (first | go_skip | refine tP ?_ | (refine tS ?_;clear hL;intro _ hL) | (refine tB ?_;clear hL;intro _ _ hL _))
   go_roundw
   case rel => exact ⟨k + 1,_,_,by omega,by go_num,hL.tail,(RowP.le FracC.mono R1.out leX).step HX.out rfl HZ.out⟩
   case measure => simp [intOf] <;> omega
  ·have r1 : Hid (RowF 4 FracC mm cur (frs xs)) := R1.out.done EF.out hlt
   go_wp2_with (first | go_skip | refine tP ?_ | (refine tS ?_;clear hL;intro _ hL) | (refine tB ?_;clear hL;intro _ _ hL _))
   obtain ⟨m4,hL4,hle,hq⟩ := Loc.showF (A := []) FracC.mono hL r1.out EF.out
   go_ret
   exact RetV.mk hL4 hq

theorem m_copyCuts (v : Value) (cs : List Cut) (w m : World) (hV : Vw m w) (h : CutL m v cs) (hs : ∀ c ∈ cs,c.1.length ≤ 1000) (hl : cs.length ≤ 1000) :
  Calls Tryz.prog 45 #[v] w (RetV w m fun m' r => CutL m' r cs) := by
 obtain ⟨A,c,rfl,hc,h⟩ := h.lit
 have HS := Lib.hid hs
 have hL := Loc.start hV
 clear hV hs hc
 generalize hn : cs.length = n at *
 have HN := Lib.hid hn
 clear hn
 have hszb : n ≤ 1000000 := by omega
 go_enter Tryz.func45,Tryz.ntmps45
 go_wp2_with (first | (refine wl_make hL (wanted_none rfl) rfl ap_Cuts zc_Cut rfl hszb (by decide) ?_;clear hL;intro W1 m1 hL hX1;simp only [Act.put,zq1,zq2,zq3]) | (first | go_skip | refine tP ?_ | (refine tS ?_;clear hL;intro _ hL) | (refine tB ?_;clear hL;intro _ _ hL _)))
 have r1 : RowP 2 CutR m1 0 (madeCells #[.slice none 0 0,.int .i64 0] (n * 2)) cs := RowP.zero (by rw [size_madeCells,HN.out])
 generalize madeCells #[.slice none 0 0,.int .i64 0] (n * 2) = q1 at hL r1
 have R1 := Lib.hid r1
 clear r1
 go_loopw [11] (fun i wr => ∃ (k : Nat) (mm : World) (cur : Array Value),k ≤ n ∧ i = .int .i64 (k : Int) ∧ Loc w m wr mm [(w.heap.size,69,cur)] ∧ Hid (RowP 2 CutR mm k cur cs)) (fun i _ => n - (intOf i).toNat)
 case atStart => exact ⟨0,m1,_,Nat.zero_le _,rfl,hL,R1.out⟩
 case round =>
  clear hL R1
  obtain ⟨k,mm,cur,hk,rfl,hL,R1⟩ := hrel
  have hM := hL.mext
  by_cases hlt : k < n
  ·obtain ⟨⟨r,dv⟩,hx⟩ := at_some HN hlt
   obtain ⟨b1,o1,A1',c1',e1,hs1,hl1,hc1',-,-,hr1⟩ := CutL.at_ h hx
   have HL : Hid (r.length ≤ 1000) := HS.out _ (List.mem_of_getElem? hx)
   have HX := Lib.hid hx
   simp only at hs1 hl1 hc1' hr1
   have hll := Lib.hid hl1
   have HS1 := Lib.hid (IntL.le hs1 hM.le)
   have hfit : 0 + k * 2 + 2 ≤ cur.size := by rw [R1.out.1,HN.out];omega
   have hr2 : mm.rangeAt b1 (o1 + k * 2) [.slice A1' r.length c1',.int .i64 dv] := rangeAt_le hr1 hM.le
   clear hx hl1 hs1 hr1 hM
   subst e1
   go_upto_region 5 with ((first | go_skip | refine tP ?_ | (refine tS ?_;clear hL;intro _ hL) | (refine tB ?_;clear hL;intro _ _ hL _)))
   (try simp only [eq_self] at *)
   refine wp_region_by2 9 [false,false,false,false,false,false,false,false,false] [false,false,false,false,false,false,false,false,false] [(fun v _ _ => v = ?c5_0),(fun v _ _ => v = ?c5_1),(fun v _ _ => v = ?c5_2),(fun v _ _ => v = ?c5_3),Of (fun um v => IntL um v r),(fun v _ _ => v = ?c5_5),(fun v _ _ => v = ?c5_6),Of (fun um v => CutR um v (r,dv)),(fun v _ _ => v = ?c5_8)] hL.vw mixed [16,17,18,19,20,21,22,23,24] _ (by kernel_rfl) (fun vs => by simp only [lay,Act.put,zq1,zq2,zq3];rfl) (by kernel_rfl) (by decide) (by decide) ?s5 ?l5 ?r5
   case s5 =>
    refine ⟨?_,?_,?_,?_,?_,?_,?_,?_,?_,trivial⟩
    ·intro vs W1 m1 hE hM hV hD;clear hD
     exact sPw
    ·intro vs W1 m1 hE hM hV hD;clear hD
     exact sPw
    ·intro vs W1 m1 hE hM hV hD;clear hD
     exact sFe
    ·intro vs W1 m1 hE hM hV hD;obtain ⟨⟨_,_,-,-,f18⟩,-⟩ := hD
     rw [(f18 : vs 18 = _)];clear f18;exact sLe
    ·intro vs W1 m1 hE hM hV hD;obtain ⟨⟨_,_,-,-,f19⟩,-⟩ := hD
     rw [(f19 : vs 19 = _)]
     clear f19
     go_wp2_with fail
     refine (s_CloneInts _ r _ _ hV (IntL.le HS1.out leX) HL.out).mono ?_
     rintro e W2 ⟨v,m2,rfl,hE2,hM2,hV2,h⟩
     go_wp2_with fail
     refine One2.call hE2 hM2 hV2 ?_;first | exact h | exact rfl
    ·intro vs W1 m1 hE hM hV hD;clear hD
     exact sFe
    ·intro vs W1 m1 hE hM hV hD;obtain ⟨⟨_,_,-,-,f21⟩,-⟩ := hD
     rw [(f21 : vs 21 = _)];clear f21;exact sLe
    ·intro vs W1 m1 hE hM hV hD;obtain ⟨⟨_,_,-,i20,f20⟩,⟨_,_,-,-,f22⟩,-⟩ := hD
     rw [(f22 : vs 22 = _)]
     clear f22
     have f20 : IntL _ (vs 20) r := f20
     replace f20 := f20.le i20.le
     clear i20
     (obtain ⟨A7,c7,e57,hc7,f57⟩ := f20.lit;generalize vs 20 = x57 at e57 ⊢;subst x57;go_wp2_with fail;refine One2.still hV ?_;exact ⟨_,rfl,f57,hll.out⟩)
    ·intro vs W1 m1 hE hM hV hD;obtain ⟨⟨_,_,-,-,f16⟩,⟨_,_,-,-,f17⟩,-,-,-,-,-,-,-,-,-⟩ := hD
     rw [(f16 : vs 16 = _),(f17 : vs 17 = _)];clear f16 f17;exact sIy
   case l5 =>
    refine ⟨nF,nF,nF,nF,nF,nF,nF,nF,nF,trivial⟩
   intro vs W1 m1 hE hM hV hF hD
   clear hD
   obtain ⟨-,-,-,-,⟨_,_,-,i20,f20⟩,-,-,⟨_,_,-,i23,f23⟩,⟨_,_,-,-,f24⟩,-⟩ := hF
   replace hL := hL.call hE hM hV
   replace f20 : IntL _ (vs 20) r := f20
   replace f20 := f20.le i20.le
   clear i20
   replace f23 : CutR _ (vs 23) (r,dv) := f23
   replace f23 := f23.le i23.le
   clear i23
   have f24 : vs 24 = _ := f24
   generalize vs 24 = x24 at f24 ⊢
   subst x24
   clear hE hV
   obtain ⟨s60,e60,k60,-⟩ := f23
   generalize vs 23 = x60 at e60 ⊢
   subst x60
   obtain ⟨A7,c7,rfl,hc7,k60⟩ := k60.lit
   simp only [List.drop_succ_cons,List.drop_zero]
   go_wp2_with (first | go_skip | refine tP ?_ | (refine tS ?_;clear hL;intro _ hL) | (refine tB ?_;clear hL;intro _ _ hL _))
   refine QN.mk ?_
   go_wp2_with (first | go_skip | refine tP ?_ | (refine tS ?_;clear hL;intro _ hL) | (refine tB ?_;clear hL;intro _ _ hL _))
   go_roundw
   case rel => exact ⟨k + 1,_,_,by omega,by go_num,hL.tail,(RowP.le CutR.mono R1.out leX).step HX.out rfl ⟨_,rfl,k60,hll.out⟩⟩
   case measure => simp [intOf] <;> omega
  ·have r1 : Hid (RowF 2 CutR mm cur cs) := R1.out.done HN.out hlt
   go_wp2_with (first | go_skip | refine tP ?_ | (refine tS ?_;clear hL;intro _ hL) | (refine tB ?_;clear hL;intro _ _ hL _))
   obtain ⟨m4,hL4,hle,hq⟩ := Loc.showF (A := []) CutR.mono hL r1.out HN.out
   go_ret
   exact RetV.mk hL4 hq

theorem r_canonical (v : Value) (xs : List (Int × Int)) (w m : World) (hV : Vw m w) (h : FrGL m v xs) (hl : xs.length ≤ 1000) :
  Calls Tryz.prog 52 #[v] w (RetV w m fun m' r => FracL m' r (frs xs)) := by
 obtain ⟨A,c,rfl,hc,h⟩ := h.lit
 have hL := Loc.start hV
 clear hV hc
 generalize hn : xs.length = n at *
 have HN := Lib.hid hn
 clear hn
 go_enter Tryz.func52,Tryz.ntmps52
 go_wp2_with (first | go_skip | refine tP ?_ | (refine tC ?_;clear hL;intro _ _ hL _ hBs))
 go_loopw [3,4] (fun ov i wr => ∃ (k : Nat) (mm : World) (Rr : List Lo),k ≤ n ∧ i = .int .i64 (k : Int) ∧ Loc w m wr mm Rr ∧ Hid (RowA 55 4 FracC mm ov k (frs (xs.take k)) Rr)) (fun _ i _ => n - (intOf i).toNat)
 case atStart => exact ⟨0,_,[],Nat.zero_le _,rfl,hL,RowA.nil⟩
 case round =>
  clear hL
  obtain ⟨k,mm,Rr,hk,rfl,hL,row⟩ := hrel
  have hM := hL.mext
  obtain ⟨A3,c3,rfl,row1⟩ := row.out.lit
  have ROW := Lib.hid row1
  clear row row1
  by_cases hlt : k < n
  ·have hlt' : (k : Int) < (n : Int) := by omega
   obtain ⟨p,hx⟩ := at_some HN hlt
   obtain ⟨b1,o1,g1',A1',n1,c1,g1'',B1,k1,d1,e1,ha1,hr1⟩ := FrGL.at_ h hx
   have HT := Lib.hid (frs_snoc hx)
   have HA1 := Lib.hid (ha1.le hM.le)
   have hr2 : mm.rangeAt b1 (o1 + k * 4) [.bool g1',.slice A1' n1 c1,.bool g1'',.slice B1 k1 d1] := rangeAt_le hr1 hM.le
   clear hx ha1 hr1 hM
   subst e1
   go_wp2_with (first | go_skip | refine tP ?_ | (refine tC ?_;clear hL;intro _ _ hL _ hBs))
   refine (r_Canon _ (Rat.divInt p.1 p.2) _ _ hL.vw (FrG.toV (HA1.out.le leX))).mono ?_
   rintro e Wc1 ⟨vc1,mc1,rfl,hE,hMc1,hV,hc1⟩
   replace hL := hL.call hE (by assumption) hV;clear hE hV
   obtain ⟨gc1',Ac1',nc1',cc1',hc1',Bc1',kc1',dc1',rfl,hc1⟩ := hc1.lit
   have HZ := Lib.hid hc1
   clear hc1
   go_wp2_with (first | go_skip | refine tP ?_ | (refine tC ?_;clear hL;intro _ _ hL _ hBs))
   refine goA ?_
   obtain ⟨vs7,r7,z7,y7,l7⟩ := ROW.out
   refine wl_append (A := []) hL r7 (wanted_none rfl) rfl ap_Fracs (by omega) rfl rfl (news := [.bool gc1',.slice Ac1' nc1' cc1',.bool hc1',.slice Bc1' kc1' dc1']) rfl ((Blk.sl hBs (n := 4) rfl).le hL.vw.le) rfl (by omega) (by omega) ?_
   clear hL
   intro v1 W5 m5 R5 hL r8 e8
   obtain ⟨A11,c11,rfl,-⟩ := r8.lit
   simp only [List.nil_append] at hL
   have rd := RowA.snoc (R := FracC) (m := m5) (x := Rat.divInt p.1 p.2) r8 z7 (y7.mono fun v x hv => hv.le leX) l7 rfl (HZ.out.le leX)
   rw [HT.out] at rd
   have RD := Lib.hid rd
   clear rd r8 r7 z7 y7 l7
   simp only [Act.put,zq1,zq2,zq3]
   go_wp2_with (first | go_skip | refine tP ?_ | (refine tC ?_;clear hL;intro _ _ hL _ hBs))
   go_roundw
   case rel => exact ⟨k + 1,m5,R5,by omega,by go_num,hL,RD.out⟩
   case measure => simp [intOf] <;> omega
  ·have hkn : n = k := by omega
   subst hkn
   have h9 : (n : Int) ≤ (n : Int) := Int.le_refl _
   have E : Hid (frs (xs.take n) = frs xs) := by show _ = _;rw [List.take_of_length_le (by rw [HN.out];exact Nat.le_refl _)]
   rw [E.out] at ROW
   go_wp2_with (first | go_skip | refine tP ?_ | (refine tC ?_;clear hL;intro _ _ hL _ hBs))
   obtain ⟨m9,hL9,hle9,hl9,-⟩ := RowA.show (A := []) FracC.mono hL ROW.out
   go_ret
   exact RetV.mk hL9 hl9
end Go.Proofs.YtabmjadcoepbeaaGreat

/- Contracts of master.Values and pairingref27.Values for valid master problems. -/
namespace Go.Proofs.YtabmjadcoepbeaaGreat
open Go.RowKit

theorem nilG {m : World} {A : Option Addr} {c k : Nat} (xs : List (Int × Int)) (h : xs.length ≤ k) : FrGL m (.slice A 0 c) (xs.drop k) := by
 rw [List.drop_eq_nil_of_le h];exact ListV.nil

theorem m_ValuesOk (mv : Value) (x : Ms) (A : Option Addr) (n c : Nat) (xs : List (Int × Int)) (w m : World) (hV : Vw m w) (hm : MasterR m mv x) (ok : MsOk x) (h : FrGL m (.slice A n c) xs) (hs : ∀ p ∈ xs,Sm p.1 p.2) (hl : n ≤ 1000) (hn : n = x.rows.length + x.cuts.length + x.cols.length) :
  Calls Tryz.prog 14 #[mv,.slice A n c] w (RetV w m fun m' r => ∃ a b,r = .tuple #[a,b,.int .i64 0] ∧ FracL m' a (frs (xs.drop (x.rows.length + x.cuts.length))) ∧ FracL m' b (frs (xs.take x.rows.length))) := by
 have hm0 := hm
 obtain ⟨va,vb,vc,rfl,ha,hb,hc⟩ := hm
 obtain ⟨A1,ca,rfl,-,ha⟩ := ha.lit
 obtain ⟨B1,cb,rfl,-,hb⟩ := hb.lit
 obtain ⟨C1,cc,rfl,-,hc⟩ := hc.lit
 have KV : Hid (∀ w m',Vw m' w → Le m m' → Calls Tryz.prog 13 #[.agg #[.int .i64 x.nf,.slice A1 x.rows.length ca,.int .i64 x.pen,.slice B1 x.cols.length cb,.slice C1 x.cuts.length cc]] w (RetV w m' fun _ r => r = .int .i64 0)) := by
  show ∀ w m',_
  exact fun w m' hV hle => m_ValidateMaster _ x w m' hV (hm0.le hle) ok
 have hr1 := ok.r1
 have hr0 := ok.r0
 have hk1 := ok.k1
 have hk2 := ok.k2
 have hcap : n ≤ c := by
  obtain ⟨_,c',e,h1,-⟩ := h.lit
  injection e with e1 e2 e3
  subst e2 e3
  exact h1
 have hxl : xs.length = n := by
  obtain ⟨_,c',e,h1,-⟩ := h.lit
  injection e with e1 e2 e3
  exact e2.symm
 have HX := Lib.hid h
 have HN := Lib.hid hxl
 have HS := Lib.hid hs
 have hL := Loc.start hV
 clear hV hm0 ha hb hc hs ok h hxl
 generalize x.nf = nf at *
 generalize x.pen = pen at *
 generalize x.rows.length = nr at *
 generalize x.cuts.length = nk at *
 generalize x.cols.length = nc at *
 have hb : ((n : Int) != (nr : Int) + nk + nc) = false := by simp;omega
 have hpos : 0 < n := by omega
 obtain ⟨b0,o0,rfl⟩ : ∃ b0 o0,A = some ⟨b0,o0,none⟩ := by
  obtain ⟨p,hp⟩ := at_some HN hpos
  obtain ⟨b,off,g,A1,n1,c1,g',B,k',d,e,-⟩ := FrGL.at_ HX.out hp
  exact ⟨b,off,e⟩
 obtain ⟨sk,hsk⟩ : ∃ sk,sk = nr + nk := ⟨_,rfl⟩
 have HSK : Hid ((nr : Int) + nk = (sk : Int)) := by show _ = _;omega
 have HSD : Hid (∀ p ∈ xs.drop sk,Sm p.1 p.2) := fun p hp => HS.out p (List.mem_of_mem_drop hp)
 have HST : Hid (∀ p ∈ xs.take nr,Sm p.1 p.2) := fun p hp => HS.out p (List.mem_of_mem_take hp)
 have HLD : Hid ((xs.drop sk).length ≤ 1000) := by show _ ≤ _;rw [List.length_drop,HN.out];omega
 have HLT : Hid ((xs.take nr).length ≤ 1000) := by show _ ≤ _;rw [List.length_take,HN.out];omega
 have hskn : sk ≤ n := by omega
 have hnrn : nr ≤ n := by omega
 have hb2 : ((n : Int) != (sk : Int) + nc) = false := by simp;omega
 rw [← hsk]
 clear hsk hn hb
 go_enter Tryz.func14,Tryz.ntmps14
 go_upto_region 0 with (fail)
 refine wp_region_lit ?_
 refine t_box hL rfl rfl ?_;clear hL;intro Wh2 mh2 hL eh2;simp only [Act.put,zq1,zq2,zq3]
 go_wp2_with (first | go_skip | refine tP ?_ | (refine tB ?_;clear hL;intro _ _ hL _))
 refine (KV.out _ _ hL.vw leX).mono ?_
 rintro e Wc1 ⟨_,mc1,rfl,hE,hMc1,hV,rfl⟩
 replace hL := hL.call hE (by assumption) hV;clear hE hV
 go_upto_region 4 with ((first | go_skip | refine tP ?_ | (refine tB ?_;clear hL;intro _ _ hL _)))
 (try simp only [eq_self] at *)
 refine wp_region_by2 12 [false,false,false,false,false,false,false,false,false,false,false,false] [false,false,false,false,false,false,false,false,false,false,false,false] [(fun v _ _ => v = ?c4_0),(fun v _ _ => v = ?c4_1),(fun v _ _ => v = ?c4_2),(fun v _ _ => v = ?c4_3),(fun v _ _ => v = ?c4_4),(fun v _ _ => v = ?c4_5),(fun v _ _ => v = ?c4_6),(fun v _ _ => v = ?c4_7),(fun v _ _ => v = ?c4_8),Is (.int .i64 (sk : Int)),(fun v _ _ => v = ?c4_10),(fun v _ _ => v = ?c4_11)] hL.vw mixed [15,16,17,18,19,20,21,22,23,24,8,9] _ (by kernel_rfl) (fun vs => by simp only [lay,Act.put,zq1,zq2,zq3];rfl) (by kernel_rfl) (by decide) (by decide) ?s4 ?l4 ?r4
 case s4 =>
  refine ⟨?_,?_,?_,?_,?_,?_,?_,?_,?_,?_,?_,?_,trivial⟩
  ·intro vs W1 m1 hE hM hV hD;clear hD
   exact sFe
  ·intro vs W1 m1 hE hM hV hD;obtain ⟨⟨_,_,-,-,f15⟩,-⟩ := hD
   rw [(f15 : vs 15 = _)];clear f15;exact sLe
  ·intro vs W1 m1 hE hM hV hD;obtain ⟨⟨_,_,-,-,f16⟩,-⟩ := hD
   rw [(f16 : vs 16 = _)]
   clear f16
   replace hL := hL.call hE hM hV
   go_wp2_with (first | go_skip | refine tP ?_ | (refine tB ?_;clear hL;intro _ _ hL _))
   refine One2.still hV ?_;exact rfl
  ·intro vs W1 m1 hE hM hV hD;clear hD
   exact sFe
  ·intro vs W1 m1 hE hM hV hD;obtain ⟨⟨_,_,-,-,f18⟩,-⟩ := hD
   rw [(f18 : vs 18 = _)];clear f18;exact sLe
  ·intro vs W1 m1 hE hM hV hD;obtain ⟨⟨_,_,-,-,f19⟩,-⟩ := hD
   rw [(f19 : vs 19 = _)]
   clear f19
   replace hL := hL.call hE hM hV
   go_wp2_with (first | go_skip | refine tP ?_ | (refine tB ?_;clear hL;intro _ _ hL _))
   refine One2.still hV ?_;exact rfl
  ·intro vs W1 m1 hE hM hV hD;clear hD
   exact sFe
  ·intro vs W1 m1 hE hM hV hD;obtain ⟨⟨_,_,-,-,f21⟩,-⟩ := hD
   rw [(f21 : vs 21 = _)];clear f21;exact sLe
  ·intro vs W1 m1 hE hM hV hD;obtain ⟨⟨_,_,-,-,f22⟩,-⟩ := hD
   rw [(f22 : vs 22 = _)]
   clear f22
   replace hL := hL.call hE hM hV
   go_wp2_with (first | go_skip | refine tP ?_ | (refine tB ?_;clear hL;intro _ _ hL _))
   refine One2.still hV ?_;exact rfl
  ·intro vs W1 m1 hE hM hV hD;obtain ⟨⟨_,_,-,-,f20⟩,⟨_,_,-,-,f23⟩,-,-⟩ := hD
   rw [(f20 : vs 20 = _),(f23 : vs 23 = _)]
   clear f20 f23
   (replace hL := hL.call hE hM hV;go_wp2_with (first | go_skip | refine tP ?_ | (refine tB ?_;clear hL;intro _ _ hL _));refine One2.still hV ?_;exact congrArg (Value.int .i64) HSK.out)
  ·intro vs W1 m1 hE hM hV hD;obtain ⟨⟨_,_,-,-,f17⟩,-,-,-,-,-,-,-,-,-,-,-⟩ := hD
   rw [(f17 : vs 17 = _)]
   clear f17
   replace hL := hL.call hE hM hV
   go_wp2_with (first | go_skip | refine tP ?_ | (refine tB ?_;clear hL;intro _ _ hL _))
   refine One2.still hV ?_;exact rfl
  ·intro vs W1 m1 hE hM hV hD;obtain ⟨⟨_,_,-,-,f24⟩,-,-,-,-,-,-,-,-,-,-,-,-,-⟩ := hD
   rw [(f24 : vs 24 = _)]
   clear f24
   replace hL := hL.call hE hM hV
   go_wp2_with (first | go_skip | refine tP ?_ | (refine tB ?_;clear hL;intro _ _ hL _))
   refine One2.still hV ?_;exact rfl
 case l4 =>
  refine ⟨nF,nF,nF,nF,nF,nF,nF,nF,nF,nF,nF,nF,trivial⟩
 intro vs W1 m1 hE hM hV hF hD
 clear hD
 obtain ⟨-,-,-,-,-,-,-,-,-,-,⟨_,_,-,-,f8⟩,⟨_,_,-,-,f9⟩,-⟩ := hF
 replace hL := hL.call hE hM hV
 have f8 : vs 8 = _ := f8
 generalize vs 8 = x8 at f8 ⊢
 subst x8
 have f9 : vs 9 = _ := f9
 generalize vs 9 = x9 at f9 ⊢
 subst x9
 clear hE hV
 simp only [List.drop_succ_cons,List.drop_zero]
 go_wp2_with (first | go_skip | refine tP ?_ | (refine tB ?_;clear hL;intro _ _ hL _))
 refine QN.mk ?_
 go_upto_region 7 with ((first | go_skip | refine tP ?_ | (refine tB ?_;clear hL;intro _ _ hL _)))
 clear hb2
 (try simp only [eq_self] at *)
 refine wp_region_by2 8 [false,false,false,false,false,false,false,false] [false,false,false,false,false,false,false,false] [(fun v _ _ => v = ?c7_0),(fun v _ _ => v = ?c7_1),Of (fun um v => FrGL um v (xs.drop sk)),Of (fun um v => FracL um v (frs (xs.drop sk))),(fun v _ _ => v = ?c7_4),(fun v _ _ => v = ?c7_5),Of (fun um v => FrGL um v (xs.take nr)),Of (fun um v => FracL um v (frs (xs.take nr)))] hL.vw mixed [33,34,35,36,37,38,39,40] _ (by kernel_rfl) (fun vs => by simp only [lay,Act.put,zq1,zq2,zq3];rfl) (by kernel_rfl) (by decide) (by decide) ?s7 ?l7 ?r7
 case s7 =>
  refine ⟨?_,?_,?_,?_,?_,?_,?_,?_,trivial⟩
  ·intro vs W1 m1 hE hM hV hD;clear hD
   exact sPw
  ·intro vs W1 m1 hE hM hV hD;clear hD
   exact sPw
  ·intro vs W1 m1 hE hM hV hD;obtain ⟨⟨_,_,-,-,f33⟩,⟨_,_,-,-,f34⟩,-⟩ := hD
   rw [(f33 : vs 33 = _),(f34 : vs 34 = _)]
   clear f33 f34
   exact (Nat.lt_or_ge sk c).elim (fun hck => by have hck' : ¬ c = sk := (by omega);replace hL := hL.call hE hM hV;go_wp2_with (first | go_skip | refine tP ?_ | (refine tB ?_;clear hL;intro _ _ hL _));refine One2.still hV ?_;exact FrGL.le (ListV.drop (k := sk) HX.out (by decide) (by omega)) leX) (fun hck => by have hcs : c = sk := (by omega);subst hcs;have hn0 : n - c = 0 := (by omega);replace hL := hL.call hE hM hV;go_wp2_with (first | go_skip | refine tP ?_ | (refine tB ?_;clear hL;intro _ _ hL _));refine One2.still hV ?_;exact nilG _ (by rw [HN.out];omega))
  ·intro vs W1 m1 hE hM hV hD;obtain ⟨⟨_,_,-,i35,f35⟩,-⟩ := hD;have f35 : FrGL _ (vs 35) (xs.drop sk) := f35;replace f35 := f35.le i35.le;clear i35
   go_wp2_with fail
   refine (m_fresh _ (xs.drop sk) _ _ hV f35 HSD.out HLD.out).mono ?_
   rintro e W2 ⟨v,m2,rfl,hE2,hM2,hV2,h⟩
   go_wp2_with fail
   refine One2.call hE2 hM2 hV2 ?_;first | exact h | exact rfl
  ·intro vs W1 m1 hE hM hV hD;clear hD
   exact sPw
  ·intro vs W1 m1 hE hM hV hD;clear hD
   exact sPw
  ·intro vs W1 m1 hE hM hV hD;obtain ⟨⟨_,_,-,-,f37⟩,⟨_,_,-,-,f38⟩,-⟩ := hD
   rw [(f37 : vs 37 = _),(f38 : vs 38 = _)]
   clear f37 f38
   replace hL := hL.call hE hM hV;go_wp2_with (first | go_skip | refine tP ?_ | (refine tB ?_;clear hL;intro _ _ hL _));refine One2.still hV ?_;exact FrGL.le (ListV.take (k := nr) HX.out (by omega)) leX
  ·intro vs W1 m1 hE hM hV hD;obtain ⟨⟨_,_,-,i39,f39⟩,-,-⟩ := hD;have f39 : FrGL _ (vs 39) (xs.take nr) := f39;replace f39 := f39.le i39.le;clear i39
   go_wp2_with fail
   refine (m_fresh _ (xs.take nr) _ _ hV f39 HST.out HLT.out).mono ?_
   rintro e W2 ⟨v,m2,rfl,hE2,hM2,hV2,h⟩
   go_wp2_with fail
   refine One2.call hE2 hM2 hV2 ?_;first | exact h | exact rfl
 case l7 =>
  refine ⟨nF,nF,nF,nF,nF,nF,nF,nF,trivial⟩
 intro vs W1 m1 hE hM hV hF hD
 clear hD
 obtain ⟨-,-,⟨_,_,-,i35,f35⟩,⟨_,_,-,i36,f36⟩,-,-,⟨_,_,-,i39,f39⟩,⟨_,_,-,i40,f40⟩,-⟩ := hF
 replace hL := hL.call hE hM hV
 replace f35 : FrGL _ (vs 35) (xs.drop sk) := f35
 replace f35 := f35.le i35.le
 clear i35
 replace f36 : FracL _ (vs 36) (frs (xs.drop sk)) := f36
 replace f36 := f36.le i36.le
 clear i36
 replace f39 : FrGL _ (vs 39) (xs.take nr) := f39
 replace f39 := f39.le i39.le
 clear i39
 replace f40 : FracL _ (vs 40) (frs (xs.take nr)) := f40
 replace f40 := f40.le i40.le
 clear i40
 clear hE hV
 simp only [List.drop_succ_cons,List.drop_zero]
 go_wp2_with (first | go_skip | refine tP ?_ | (refine tB ?_;clear hL;intro _ _ hL _))
 refine QN.mk ?_
 go_wp2_with (first | go_skip | refine tP ?_ | (refine tB ?_;clear hL;intro _ _ hL _))
 go_ret3
 exact RetV.mk hL ⟨_,_,rfl,f36,f40⟩

theorem r_ValuesOk (mv : Value) (x : Ms) (A : Option Addr) (n c : Nat) (xs : List (Int × Int)) (w m : World) (hV : Vw m w) (hm : MasterR m mv x) (ok : MsOk x) (h : FrGL m (.slice A n c) xs) (hs : ∀ p ∈ xs,Sm p.1 p.2) (hl : n ≤ 1000) (hn : n = x.rows.length + x.cuts.length + x.cols.length) :
  Calls Tryz.prog 19 #[mv,.slice A n c] w (RetV w m fun m' r => ∃ a b,r = .tuple #[a,b,.int .i64 0] ∧ FracL m' a (frs (xs.drop (x.rows.length + x.cuts.length))) ∧ FracL m' b (frs (xs.take x.rows.length))) := by
 have hm0 := hm
 obtain ⟨va,vb,vc,rfl,ha,hb,hc⟩ := hm
 obtain ⟨A1,ca,rfl,-,ha⟩ := ha.lit
 obtain ⟨B1,cb,rfl,-,hb⟩ := hb.lit
 obtain ⟨C1,cc,rfl,-,hc⟩ := hc.lit
 have KV : Hid (∀ w m',Vw m' w → Le m m' → Calls Tryz.prog 12 #[.agg #[.int .i64 x.nf,.slice A1 x.rows.length ca,.int .i64 x.pen,.slice B1 x.cols.length cb,.slice C1 x.cuts.length cc]] w (RetV w m' fun _ r => r = .int .i64 0)) := by
  show ∀ w m',_
  exact fun w m' hV hle => r_ValidateMaster _ x w m' hV (hm0.le hle) ok
 have hr1 := ok.r1
 have hr0 := ok.r0
 have hk1 := ok.k1
 have hk2 := ok.k2
 have hcap : n ≤ c := by
  obtain ⟨_,c',e,h1,-⟩ := h.lit
  injection e with e1 e2 e3
  subst e2 e3
  exact h1
 have hxl : xs.length = n := by
  obtain ⟨_,c',e,h1,-⟩ := h.lit
  injection e with e1 e2 e3
  exact e2.symm
 have HX := Lib.hid h
 have HN := Lib.hid hxl
 have HS := Lib.hid hs
 have hL := Loc.start hV
 clear hV hm0 ha hb hc hs ok h hxl
 generalize x.nf = nf at *
 generalize x.pen = pen at *
 generalize x.rows.length = nr at *
 generalize x.cuts.length = nk at *
 generalize x.cols.length = nc at *
 have hb : ((n : Int) != (nr : Int) + nk + nc) = false := by simp;omega
 have hpos : 0 < n := by omega
 obtain ⟨b0,o0,rfl⟩ : ∃ b0 o0,A = some ⟨b0,o0,none⟩ := by
  obtain ⟨p,hp⟩ := at_some HN hpos
  obtain ⟨b,off,g,A1,n1,c1,g',B,k',d,e,-⟩ := FrGL.at_ HX.out hp
  exact ⟨b,off,e⟩
 obtain ⟨sk,hsk⟩ : ∃ sk,sk = nr + nk := ⟨_,rfl⟩
 have HSK : Hid ((nr : Int) + nk = (sk : Int)) := by show _ = _;omega
 have HSD : Hid (∀ p ∈ xs.drop sk,Sm p.1 p.2) := fun p hp => HS.out p (List.mem_of_mem_drop hp)
 have HST : Hid (∀ p ∈ xs.take nr,Sm p.1 p.2) := fun p hp => HS.out p (List.mem_of_mem_take hp)
 have HLD : Hid ((xs.drop sk).length ≤ 1000) := by show _ ≤ _;rw [List.length_drop,HN.out];omega
 have HLT : Hid ((xs.take nr).length ≤ 1000) := by show _ ≤ _;rw [List.length_take,HN.out];omega
 have hskn : sk ≤ n := by omega
 have hnrn : nr ≤ n := by omega
 have hb2 : ((n : Int) != (sk : Int) + nc) = false := by simp;omega
 rw [← hsk]
 clear hsk hn hb
 go_enter Tryz.func19,Tryz.ntmps19
 go_upto_region 0 with (fail)
 refine wp_region_lit ?_
 refine t_box hL rfl rfl ?_;clear hL;intro Wh2 mh2 hL eh2;simp only [Act.put,zq1,zq2,zq3]
 go_wp2_with (first | go_skip | refine tP ?_ | (refine tB ?_;clear hL;intro _ _ hL _))
 refine (KV.out _ _ hL.vw leX).mono ?_
 rintro e Wc1 ⟨_,mc1,rfl,hE,hMc1,hV,rfl⟩
 replace hL := hL.call hE (by assumption) hV;clear hE hV
 go_upto_region 5 with ((first | go_skip | refine tP ?_ | (refine tB ?_;clear hL;intro _ _ hL _)))
 rw [HSK.out]
 go_upto_region 7 with ((first | go_skip | refine tP ?_ | (refine tB ?_;clear hL;intro _ _ hL _)))
 clear hb2
 (try simp only [eq_self] at *)
 refine wp_region_by2 10 [false,false,false,false,false,false,false,false,false,false] [false,false,false,false,false,false,false,false,false,false] [(fun v _ _ => v = ?c7_0),(fun v _ _ => v = ?c7_1),Of (fun um v => FrGL um v (xs.drop sk)),Of (fun um v => FracL um v (frs (xs.drop sk))),(fun v _ _ => v = ?c7_4),(fun v _ _ => v = ?c7_5),(fun v _ _ => v = ?c7_6),(fun v _ _ => v = ?c7_7),Of (fun um v => FrGL um v (xs.take nr)),Of (fun um v => FracL um v (frs (xs.take nr)))] hL.vw mixed [29,30,31,32,33,34,35,36,37,38] _ (by kernel_rfl) (fun vs => by simp only [lay,Act.put,zq1,zq2,zq3];rfl) (by kernel_rfl) (by decide) (by decide) ?s7 ?l7 ?r7
 case s7 =>
  refine ⟨?_,?_,?_,?_,?_,?_,?_,?_,?_,?_,trivial⟩
  ·intro vs W1 m1 hE hM hV hD;clear hD
   exact sPw
  ·intro vs W1 m1 hE hM hV hD;clear hD
   exact sPw
  ·intro vs W1 m1 hE hM hV hD;obtain ⟨⟨_,_,-,-,f29⟩,⟨_,_,-,-,f30⟩,-⟩ := hD
   rw [(f29 : vs 29 = _),(f30 : vs 30 = _)]
   clear f29 f30
   exact (Nat.lt_or_ge sk c).elim (fun hck => by have hck' : ¬ c = sk := (by omega);replace hL := hL.call hE hM hV;go_wp2_with (first | go_skip | refine tP ?_ | (refine tB ?_;clear hL;intro _ _ hL _));refine One2.still hV ?_;exact FrGL.le (ListV.drop (k := sk) HX.out (by decide) (by omega)) leX) (fun hck => by have hcs : c = sk := (by omega);subst hcs;have hn0 : n - c = 0 := (by omega);replace hL := hL.call hE hM hV;go_wp2_with (first | go_skip | refine tP ?_ | (refine tB ?_;clear hL;intro _ _ hL _));refine One2.still hV ?_;exact nilG _ (by rw [HN.out];omega))
  ·intro vs W1 m1 hE hM hV hD;obtain ⟨⟨_,_,-,i31,f31⟩,-⟩ := hD;have f31 : FrGL _ (vs 31) (xs.drop sk) := f31;replace f31 := f31.le i31.le;clear i31
   go_wp2_with fail
   refine (r_canonical _ (xs.drop sk) _ _ hV f31 HLD.out).mono ?_
   rintro e W2 ⟨v,m2,rfl,hE2,hM2,hV2,h⟩
   go_wp2_with fail
   refine One2.call hE2 hM2 hV2 ?_;first | exact h | exact rfl
  ·intro vs W1 m1 hE hM hV hD;clear hD
   exact sPw
  ·intro vs W1 m1 hE hM hV hD;clear hD
   exact sFe
  ·intro vs W1 m1 hE hM hV hD;obtain ⟨⟨_,_,-,-,f34⟩,-⟩ := hD
   rw [(f34 : vs 34 = _)];clear f34;exact sLe
  ·intro vs W1 m1 hE hM hV hD;obtain ⟨⟨_,_,-,-,f35⟩,-⟩ := hD
   rw [(f35 : vs 35 = _)]
   clear f35
   replace hL := hL.call hE hM hV
   go_wp2_with (first | go_skip | refine tP ?_ | (refine tB ?_;clear hL;intro _ _ hL _))
   refine One2.still hV ?_;exact rfl
  ·intro vs W1 m1 hE hM hV hD;obtain ⟨⟨_,_,-,-,f33⟩,⟨_,_,-,-,f36⟩,-⟩ := hD
   rw [(f33 : vs 33 = _),(f36 : vs 36 = _)]
   clear f33 f36
   replace hL := hL.call hE hM hV;go_wp2_with (first | go_skip | refine tP ?_ | (refine tB ?_;clear hL;intro _ _ hL _));refine One2.still hV ?_;exact FrGL.le (ListV.take (k := nr) HX.out (by omega)) leX
  ·intro vs W1 m1 hE hM hV hD;obtain ⟨⟨_,_,-,i37,f37⟩,-,-⟩ := hD;have f37 : FrGL _ (vs 37) (xs.take nr) := f37;replace f37 := f37.le i37.le;clear i37
   go_wp2_with fail
   refine (r_canonical _ (xs.take nr) _ _ hV f37 HLT.out).mono ?_
   rintro e W2 ⟨v,m2,rfl,hE2,hM2,hV2,h⟩
   go_wp2_with fail
   refine One2.call hE2 hM2 hV2 ?_;first | exact h | exact rfl
 case l7 =>
  refine ⟨nF,nF,nF,nF,nF,nF,nF,nF,nF,nF,trivial⟩
 intro vs W1 m1 hE hM hV hF hD
 clear hD
 obtain ⟨-,-,⟨_,_,-,i31,f31⟩,⟨_,_,-,i32,f32⟩,-,-,-,-,⟨_,_,-,i37,f37⟩,⟨_,_,-,i38,f38⟩,-⟩ := hF
 replace hL := hL.call hE hM hV
 replace f31 : FrGL _ (vs 31) (xs.drop sk) := f31
 replace f31 := f31.le i31.le
 clear i31
 replace f32 : FracL _ (vs 32) (frs (xs.drop sk)) := f32
 replace f32 := f32.le i32.le
 clear i32
 replace f37 : FrGL _ (vs 37) (xs.take nr) := f37
 replace f37 := f37.le i37.le
 clear i37
 replace f38 : FracL _ (vs 38) (frs (xs.take nr)) := f38
 replace f38 := f38.le i38.le
 clear i38
 clear hE hV
 simp only [List.drop_succ_cons,List.drop_zero]
 go_wp2_with (first | go_skip | refine tP ?_ | (refine tB ?_;clear hL;intro _ _ hL _))
 refine QN.mk ?_
 go_wp2_with (first | go_skip | refine tP ?_ | (refine tB ?_;clear hL;intro _ _ hL _))
 go_ret3
 exact RetV.mk hL ⟨_,_,rfl,f32,f38⟩

theorem m_ValuesBad (mv : Value) (x : Ms) (A : Option Addr) (n c : Nat) (xs : List (Int × Int)) (w m : World) (hV : Vw m w) (hm : MasterR m mv x) (ok : MsOk x) (h : FrGL m (.slice A n c) xs) (hs : ∀ p ∈ xs,Sm p.1 p.2) (hl : n ≤ 1000) (hn : n ≠ x.rows.length + x.cuts.length + x.cols.length) :
  Calls Tryz.prog 14 #[mv,.slice A n c] w (RetV w m fun _ r => r = .tuple #[.slice none 0 0,.slice none 0 0,.int .i64 12]) := by
 have hm0 := hm
 obtain ⟨va,vb,vc,rfl,ha,hb,hc⟩ := hm
 obtain ⟨A1,ca,rfl,-,ha⟩ := ha.lit
 obtain ⟨B1,cb,rfl,-,hb⟩ := hb.lit
 obtain ⟨C1,cc,rfl,-,hc⟩ := hc.lit
 have KV : Hid (∀ w m',Vw m' w → Le m m' → Calls Tryz.prog 13 #[.agg #[.int .i64 x.nf,.slice A1 x.rows.length ca,.int .i64 x.pen,.slice B1 x.cols.length cb,.slice C1 x.cuts.length cc]] w (RetV w m' fun _ r => r = .int .i64 0)) := by
  show ∀ w m',_
  exact fun w m' hV hle => m_ValidateMaster _ x w m' hV (hm0.le hle) ok
 have hr1 := ok.r1
 have hr0 := ok.r0
 have hk1 := ok.k1
 have hk2 := ok.k2
 have hcap : n ≤ c := by
  obtain ⟨_,c',e,h1,-⟩ := h.lit
  injection e with e1 e2 e3
  subst e2 e3
  exact h1
 have hxl : xs.length = n := by
  obtain ⟨_,c',e,h1,-⟩ := h.lit
  injection e with e1 e2 e3
  exact e2.symm
 have HX := Lib.hid h
 have HN := Lib.hid hxl
 have HS := Lib.hid hs
 have hL := Loc.start hV
 clear hV hm0 ha hb hc hs ok h hxl
 generalize x.nf = nf at *
 generalize x.pen = pen at *
 generalize x.rows.length = nr at *
 generalize x.cuts.length = nk at *
 generalize x.cols.length = nc at *
 have hb : ((n : Int) != (nr : Int) + nk + nc) = true := by simp;omega
 obtain ⟨sk,hsk⟩ : ∃ sk,sk = nr + nk := ⟨_,rfl⟩
 have HSK : Hid ((nr : Int) + nk = (sk : Int)) := by show _ = _;omega
 have hb2 : ((n : Int) != (sk : Int) + nc) = true := by simp;omega
 have hsk6 : sk ≤ 64 := by omega
 clear hsk hn hb
 go_enter Tryz.func14,Tryz.ntmps14
 go_upto_region 0 with (fail)
 refine wp_region_lit ?_
 refine t_box hL rfl rfl ?_;clear hL;intro Wh2 mh2 hL eh2;simp only [Act.put,zq1,zq2,zq3]
 go_wp2_with (first | go_skip | refine tP ?_ | (refine tB ?_;clear hL;intro _ _ hL _))
 refine (KV.out _ _ hL.vw leX).mono ?_
 rintro e Wc1 ⟨_,mc1,rfl,hE,hMc1,hV,rfl⟩
 replace hL := hL.call hE (by assumption) hV;clear hE hV
 go_upto_region 4 with ((first | go_skip | refine tP ?_ | (refine tB ?_;clear hL;intro _ _ hL _)))
 (try simp only [eq_self] at *)
 refine wp_region_by2 12 [false,false,false,false,false,false,false,false,false,false,false,false] [false,false,false,false,false,false,false,false,false,false,false,false] [(fun v _ _ => v = ?c4_0),(fun v _ _ => v = ?c4_1),(fun v _ _ => v = ?c4_2),(fun v _ _ => v = ?c4_3),(fun v _ _ => v = ?c4_4),(fun v _ _ => v = ?c4_5),(fun v _ _ => v = ?c4_6),(fun v _ _ => v = ?c4_7),(fun v _ _ => v = ?c4_8),Is (.int .i64 (sk : Int)),(fun v _ _ => v = ?c4_10),(fun v _ _ => v = ?c4_11)] hL.vw mixed [15,16,17,18,19,20,21,22,23,24,8,9] _ (by kernel_rfl) (fun vs => by simp only [lay,Act.put,zq1,zq2,zq3];rfl) (by kernel_rfl) (by decide) (by decide) ?s4 ?l4 ?r4
 case s4 =>
  refine ⟨?_,?_,?_,?_,?_,?_,?_,?_,?_,?_,?_,?_,trivial⟩
  ·intro vs W1 m1 hE hM hV hD;clear hD
   exact sFe
  ·intro vs W1 m1 hE hM hV hD;obtain ⟨⟨_,_,-,-,f15⟩,-⟩ := hD
   rw [(f15 : vs 15 = _)];clear f15;exact sLe
  ·intro vs W1 m1 hE hM hV hD;obtain ⟨⟨_,_,-,-,f16⟩,-⟩ := hD
   rw [(f16 : vs 16 = _)]
   clear f16
   replace hL := hL.call hE hM hV
   go_wp2_with (first | go_skip | refine tP ?_ | (refine tB ?_;clear hL;intro _ _ hL _))
   refine One2.still hV ?_;exact rfl
  ·intro vs W1 m1 hE hM hV hD;clear hD
   exact sFe
  ·intro vs W1 m1 hE hM hV hD;obtain ⟨⟨_,_,-,-,f18⟩,-⟩ := hD
   rw [(f18 : vs 18 = _)];clear f18;exact sLe
  ·intro vs W1 m1 hE hM hV hD;obtain ⟨⟨_,_,-,-,f19⟩,-⟩ := hD
   rw [(f19 : vs 19 = _)]
   clear f19
   replace hL := hL.call hE hM hV
   go_wp2_with (first | go_skip | refine tP ?_ | (refine tB ?_;clear hL;intro _ _ hL _))
   refine One2.still hV ?_;exact rfl
  ·intro vs W1 m1 hE hM hV hD;clear hD
   exact sFe
  ·intro vs W1 m1 hE hM hV hD;obtain ⟨⟨_,_,-,-,f21⟩,-⟩ := hD
   rw [(f21 : vs 21 = _)];clear f21;exact sLe
  ·intro vs W1 m1 hE hM hV hD;obtain ⟨⟨_,_,-,-,f22⟩,-⟩ := hD
   rw [(f22 : vs 22 = _)]
   clear f22
   replace hL := hL.call hE hM hV
   go_wp2_with (first | go_skip | refine tP ?_ | (refine tB ?_;clear hL;intro _ _ hL _))
   refine One2.still hV ?_;exact rfl
  ·intro vs W1 m1 hE hM hV hD;obtain ⟨⟨_,_,-,-,f20⟩,⟨_,_,-,-,f23⟩,-,-⟩ := hD
   rw [(f20 : vs 20 = _),(f23 : vs 23 = _)]
   clear f20 f23
   (replace hL := hL.call hE hM hV;go_wp2_with (first | go_skip | refine tP ?_ | (refine tB ?_;clear hL;intro _ _ hL _));refine One2.still hV ?_;exact congrArg (Value.int .i64) HSK.out)
  ·intro vs W1 m1 hE hM hV hD;obtain ⟨⟨_,_,-,-,f17⟩,-,-,-,-,-,-,-,-,-,-,-⟩ := hD
   rw [(f17 : vs 17 = _)]
   clear f17
   replace hL := hL.call hE hM hV
   go_wp2_with (first | go_skip | refine tP ?_ | (refine tB ?_;clear hL;intro _ _ hL _))
   refine One2.still hV ?_;exact rfl
  ·intro vs W1 m1 hE hM hV hD;obtain ⟨⟨_,_,-,-,f24⟩,-,-,-,-,-,-,-,-,-,-,-,-,-⟩ := hD
   rw [(f24 : vs 24 = _)]
   clear f24
   replace hL := hL.call hE hM hV
   go_wp2_with (first | go_skip | refine tP ?_ | (refine tB ?_;clear hL;intro _ _ hL _))
   refine One2.still hV ?_;exact rfl
 case l4 =>
  refine ⟨nF,nF,nF,nF,nF,nF,nF,nF,nF,nF,nF,nF,trivial⟩
 intro vs W1 m1 hE hM hV hF hD
 clear hD
 obtain ⟨-,-,-,-,-,-,-,-,-,-,⟨_,_,-,-,f8⟩,⟨_,_,-,-,f9⟩,-⟩ := hF
 replace hL := hL.call hE hM hV
 have f8 : vs 8 = _ := f8
 generalize vs 8 = x8 at f8 ⊢
 subst x8
 have f9 : vs 9 = _ := f9
 generalize vs 9 = x9 at f9 ⊢
 subst x9
 clear hE hV
 simp only [List.drop_succ_cons,List.drop_zero]
 go_wp2_with (first | go_skip | refine tP ?_ | (refine tB ?_;clear hL;intro _ _ hL _))
 refine QN.mk ?_
 go_wp2_with (first | go_skip | refine tP ?_ | (refine tB ?_;clear hL;intro _ _ hL _))
 go_ret3
 exact RetV.mk hL rfl

theorem r_ValuesBad (mv : Value) (x : Ms) (A : Option Addr) (n c : Nat) (xs : List (Int × Int)) (w m : World) (hV : Vw m w) (hm : MasterR m mv x) (ok : MsOk x) (h : FrGL m (.slice A n c) xs) (hs : ∀ p ∈ xs,Sm p.1 p.2) (hl : n ≤ 1000) (hn : n ≠ x.rows.length + x.cuts.length + x.cols.length) :
  Calls Tryz.prog 19 #[mv,.slice A n c] w (RetV w m fun _ r => r = .tuple #[.slice none 0 0,.slice none 0 0,.int .i64 12]) := by
 have hm0 := hm
 obtain ⟨va,vb,vc,rfl,ha,hb,hc⟩ := hm
 obtain ⟨A1,ca,rfl,-,ha⟩ := ha.lit
 obtain ⟨B1,cb,rfl,-,hb⟩ := hb.lit
 obtain ⟨C1,cc,rfl,-,hc⟩ := hc.lit
 have KV : Hid (∀ w m',Vw m' w → Le m m' → Calls Tryz.prog 12 #[.agg #[.int .i64 x.nf,.slice A1 x.rows.length ca,.int .i64 x.pen,.slice B1 x.cols.length cb,.slice C1 x.cuts.length cc]] w (RetV w m' fun _ r => r = .int .i64 0)) := by
  show ∀ w m',_
  exact fun w m' hV hle => r_ValidateMaster _ x w m' hV (hm0.le hle) ok
 have hr1 := ok.r1
 have hr0 := ok.r0
 have hk1 := ok.k1
 have hk2 := ok.k2
 have hcap : n ≤ c := by
  obtain ⟨_,c',e,h1,-⟩ := h.lit
  injection e with e1 e2 e3
  subst e2 e3
  exact h1
 have hxl : xs.length = n := by
  obtain ⟨_,c',e,h1,-⟩ := h.lit
  injection e with e1 e2 e3
  exact e2.symm
 have HX := Lib.hid h
 have HN := Lib.hid hxl
 have HS := Lib.hid hs
 have hL := Loc.start hV
 clear hV hm0 ha hb hc hs ok h hxl
 generalize x.nf = nf at *
 generalize x.pen = pen at *
 generalize x.rows.length = nr at *
 generalize x.cuts.length = nk at *
 generalize x.cols.length = nc at *
 have hb : ((n : Int) != (nr : Int) + nk + nc) = true := by simp;omega
 obtain ⟨sk,hsk⟩ : ∃ sk,sk = nr + nk := ⟨_,rfl⟩
 have HSK : Hid ((nr : Int) + nk = (sk : Int)) := by show _ = _;omega
 have hb2 : ((n : Int) != (sk : Int) + nc) = true := by simp;omega
 have hsk6 : sk ≤ 64 := by omega
 clear hsk hn hb
 go_enter Tryz.func19,Tryz.ntmps19
 go_upto_region 0 with (fail)
 refine wp_region_lit ?_
 refine t_box hL rfl rfl ?_;clear hL;intro Wh2 mh2 hL eh2;simp only [Act.put,zq1,zq2,zq3]
 go_wp2_with (first | go_skip | refine tP ?_ | (refine tB ?_;clear hL;intro _ _ hL _))
 refine (KV.out _ _ hL.vw leX).mono ?_
 rintro e Wc1 ⟨_,mc1,rfl,hE,hMc1,hV,rfl⟩
 replace hL := hL.call hE (by assumption) hV;clear hE hV
 go_upto_region 5 with ((first | go_skip | refine tP ?_ | (refine tB ?_;clear hL;intro _ _ hL _)))
 rw [HSK.out]
 go_wp2_with (first | go_skip | refine tP ?_ | (refine tB ?_;clear hL;intro _ _ hL _))
 go_ret3
 exact RetV.mk hL rfl
end Go.Proofs.YtabmjadcoepbeaaGreat

/- Contract of master.PricesOf for valid master problems. -/
namespace Go.Proofs.YtabmjadcoepbeaaGreat
open Go.RowKit

section
variable {P : Program} {ops : Array Oper} {Q : Exit → Act → World → Prop} {rest : List Oper} {o : Oper} {a : Act} {W : World}
theorem wl_sliceV (hw : Region.wanted o (yielded ops a.tmps) = true) {t : TypeId} {x : Operand} {lo hi mx : Option Operand} (ho : o.op = .slice t x lo hi mx) {v' : Value}
  (hr : ∀ w,(Instr.sliceAt t (a.eval x) (lo.map a.eval) (hi.map a.eval) (mx.map a.eval)).run P w = .ok v' w) (h : wpList P ops Q rest (a.put o.dst v') W) : wpList P ops Q (o :: rest) a W := by
 refine wpList_wanted hw fun _ hK => ?_
 unfold Oper.wp execOp
 simp only [ho,Sem.run_bind,hr,Result.andThen_ok,Sem.run_pure]
 exact hK _ _ h
end
theorem slice_from {b o n c k : Nat} (hk : k ≤ n) (hc : n ≤ c) : ∃ (A' : Option Addr) (c' : Nat),(∀ w,(Instr.sliceAt 28 (.slice (some ⟨b,o,none⟩) n c) (some (.int .i64 (k : Int))) none none).run Tryz.prog w = .ok (.slice A' (n - k) c') w) ∧
  ∀ m ys,FrGL m (.slice (some ⟨b,o,none⟩) n c) ys → FrGL m (.slice A' (n - k) c') (ys.drop k) := by
 rcases Nat.lt_or_ge k c with hck | hck
 ·have hck' : ¬ c = k := by omega
  refine ⟨some ⟨b,o + k * 4,none⟩,c - k,fun w => ?_,fun m ys h => ListV.drop h (by decide) hk⟩
  go_simp
 ·obtain rfl : c = k := by omega
  have hn0 : n - c = 0 := by omega
  refine ⟨some ⟨b,o,none⟩,0,fun w => ?_,fun m ys h => ?_⟩
  ·go_simp
  ·rw [hn0]
   obtain ⟨_,_,e,_,-⟩ := h.lit
   injection e with e1 e2 e3
   exact nilG _ (by omega)
def flF (rs : List Int) (vs : List Rat) (f : Nat) : Nat → List Rat
 | 0 => List.replicate f ((0 : Int) : Rat)
 | i + 1 => (flF rs vs f i).set (rs.getD i 0).toNat (vs.getD i 0)
theorem flF_len (rs : List Int) (vs : List Rat) (f : Nat) : ∀ i,(flF rs vs f i).length = f
 | 0 => List.length_replicate
 | i + 1 => by rw [flF,List.length_set];exact flF_len rs vs f i
theorem flF_step {rs : List Int} {vs : List Rat} {f i ir : Nat} {q : Rat} (hr : rs[i]? = some (ir : Int)) (hq : vs[i]? = some q) : flF rs vs f (i + 1) = (flF rs vs f i).set ir q := by
 rw [flF,List.getD_eq_getElem?_getD,hr,List.getD_eq_getElem?_getD,hq];rfl
def poF (x : Ms) (ys : List (Int × Int)) (f : Nat) (de : List Dec) : Pr := ⟨flF x.rows (frs (ys.take x.rows.length)) f x.rows.length,x.cuts,frs (ys.drop x.rows.length),de,false⟩
def PoR (D : List (Int × Int)) (p : Pr) (m' : World) (r : Value) : Prop := ((∃ q ∈ D,0 < sgG q) ∧ r = .tuple #[zPr,.int .i64 5]) ∨ ((∀ q ∈ D,sgG q ≤ 0) ∧ ∃ v,r = .tuple #[v,.int .i64 0] ∧ PricesR m' v p)
def PsB (B f : Nat) (cs : List Cut) (ds : List Rat) (de : List Dec) (v : Value) (u um : World) : Prop :=
 ∃ a b c s,v = .agg #[a,b,c,s,.bool false] ∧ NewRow B 55 (madeCells #[.bool false,.slice none 0 0,.bool false,.slice none 0 0] (f * 4)) f a u um ∧ CutL um b cs ∧ FracL um c ds ∧ DecL um s de

theorem m_PricesOf (mv dv : Value) (x : Ms) (f : Nat) (A : Option Addr) (n c : Nat) (ys : List (Int × Int)) (de : List Dec) (w m : World) (hV : Vw m w) (hm : MasterR m mv x) (ok : MsOk x) (hnf : x.nf = (f : Int)) (h : FrGL m (.slice A n c) ys) (hs : ∀ p ∈ ys,Sm p.1 p.2) (hd : DecL m dv de) (hde : de.length ≤ 1000)
  (hcs : ∀ c ∈ x.cuts,c.1.length ≤ 1000) (h6 : x.rows.length ≤ 6) (hn : n = x.rows.length + x.cuts.length) :
  Calls Tryz.prog 15 #[mv,.slice A n c,dv] w (RetV w m (PoR (ys.drop x.rows.length) (poF x ys f de))) := by
 have hm0 := hm
 obtain ⟨va,vb,vc,rfl,ha,hb,hc⟩ := hm
 obtain ⟨A1,ca,rfl,-,ha⟩ := ha.lit
 obtain ⟨B1,cb,rfl,-,hb⟩ := hb.lit
 obtain ⟨C1,cc,rfl,-,hc⟩ := hc.lit
 obtain ⟨E1,ce,rfl,-,hd⟩ := hd.lit
 have KV : Hid (∀ w m',Vw m' w → Le m m' → Calls Tryz.prog 13 #[.agg #[.int .i64 x.nf,.slice A1 x.rows.length ca,.int .i64 x.pen,.slice B1 x.cols.length cb,.slice C1 x.cuts.length cc]] w (RetV w m' fun _ r => r = .int .i64 0)) := by
  show ∀ w m',_
  exact fun w m' hV hle => m_ValidateMaster _ x w m' hV (hm0.le hle) ok
 have hr0 := ok.r0
 have hk2 := ok.k2
 have hf : f ≤ 200 := by have := ok.f1;omega
 have HLOW : Hid (∀ r ∈ x.rows,∃ ir : Nat,r = (ir : Int) ∧ ir < f) := by
  show ∀ r ∈ x.rows,_
  intro r hr
  have := ok.low r hr
  exact ⟨r.toNat,by omega,by omega⟩
 have hcap : n ≤ c := by
  obtain ⟨_,c',e,h1,-⟩ := h.lit
  injection e with e1 e2 e3
  subst e2 e3
  exact h1
 have hyl : ys.length = n := by
  obtain ⟨_,c',e,h1,-⟩ := h.lit
  injection e with e1 e2 e3
  exact e2.symm
 have HX := Lib.hid h
 have HN := Lib.hid hyl
 have HS := Lib.hid hs
 have HA := Lib.hid ha
 have HC := Lib.hid hc
 have HD := Lib.hid hd
 have HDE := Lib.hid hde
 have HCS := Lib.hid hcs
 have hpos : 0 < n := by omega
 obtain ⟨b0,o0,rfl⟩ : ∃ b0 o0,A = some ⟨b0,o0,none⟩ := by
  obtain ⟨p,hp⟩ := at_some HN hpos
  obtain ⟨b,off,g,A1,n1,c1,g',B,k',d,e,-⟩ := FrGL.at_ h hp
  exact ⟨b,off,e⟩
 rw [hnf] at KV
 have hL := Loc.start hV
 clear hV hm0 ha hb hc hd hs ok h hyl hcs hde
 show Calls _ _ #[.agg #[.int .i64 x.nf,_,_,_,_],_,_] _ _
 rw [hnf]
 clear hnf
 generalize x.pen = pen at *
 have HXR : Hid (poF x ys f de = ⟨flF x.rows (frs (ys.take x.rows.length)) f x.rows.length,x.cuts,frs (ys.drop x.rows.length),de,false⟩) := rfl
 generalize poF x ys f de = PR at *
 generalize hnr : x.rows.length = nr at *
 have HNR := Lib.hid hnr
 generalize hnk : x.cuts.length = nk at *
 have HNK := Lib.hid hnk
 clear hnr hnk
 generalize x.cols.length = nc at *
 have hnrn : nr ≤ n := by omega
 have hb2 : ((n : Int) != (nr : Int) + nk) = false := by simp;omega
 obtain ⟨A2,c2,hsl,hsf⟩ := slice_from (b := b0) (o := o0) hnrn hcap
 obtain ⟨nd,hnd⟩ : ∃ nd,nd = n - nr := ⟨_,rfl⟩
 rw [← hnd] at hsl hsf
 have HSL := Lib.hid hsl
 have HSF := Lib.hid hsf
 have HND : Hid ((ys.drop nr).length = nd) := by show _ = _;rw [List.length_drop,HN.out,hnd]
 have hnd6 : nd ≤ 32 := by omega
 have HSD : Hid (∀ p ∈ ys.drop nr,Sm p.1 p.2) := fun p hp => HS.out p (List.mem_of_mem_drop hp)
 have HST : Hid (∀ p ∈ ys.take nr,Sm p.1 p.2) := fun p hp => HS.out p (List.mem_of_mem_take hp)
 have HLT : Hid ((ys.take nr).length = nr) := by show _ = _;rw [List.length_take,HN.out];omega
 have hn40 : n ≤ 40 := by omega
 clear hn hsl hsf hnd
 go_enter Tryz.func15,Tryz.ntmps15
 go_upto_region 0 with (fail)
 refine wp_region_lit ?_
 refine t_box hL rfl rfl ?_;clear hL;intro Wh3 mh3 hL eh3;simp only [Act.put,zq1,zq2,zq3]
 refine t_alloc hL rfl ?_;clear hL;intro Wh6 mh6 hL eh6;simp only [Act.put,zq1,zq2,zq3]
 go_wp2_with (first | go_skip | refine tP ?_ | (refine tS ?_;clear hL;intro _ hL) | (refine tB ?_;clear hL;intro _ _ hL _))
 refine (KV.out _ _ hL.vw leX).mono ?_
 rintro e Wc1 ⟨_,mc1,rfl,hE,hMc1,hV,rfl⟩
 replace hL := hL.call hE (by assumption) hV;clear hE hV
 go_upto_region 7 with ((first | go_skip | refine tP ?_ | (refine tS ?_;clear hL;intro _ hL) | (refine tB ?_;clear hL;intro _ _ hL _)))
 clear hb2
 go_wp2_with (first | (refine wl_sliceV (wanted_none rfl) rfl HSL.out ?_;simp only [Act.put,zq1,zq2,zq3]) | (first | go_skip | refine tP ?_ | (refine tS ?_;clear hL;intro _ hL) | (refine tB ?_;clear hL;intro _ _ hL _)))
 have HYD := Lib.hid (HSF.out _ _ HX.out)
 go_loopw [38] (fun iv wr => ∃ (k : Nat) (mm : World),k ≤ nd ∧ iv = .int .i64 (k : Int) ∧ Loc w m wr mm [(Wh3.heap.size,44,#[.slice none 0 0,.slice none 0 0,.slice none 0 0,.slice none 0 0,.bool false]),(w.heap.size,26,#[.int .i64 (f : Int),.slice A1 nr ca,.int .i64 pen,.slice B1 nc cb,.slice C1 nk cc])] ∧ Hid (∀ j p,j < k → (ys.drop nr)[j]? = some p → sgG p ≤ 0)) (fun iv _ => nd - (intOf iv).toNat)
 case atStart => exact ⟨0,_,Nat.zero_le _,rfl,hL,fun j p h => by omega⟩
 case round =>
  clear hL
  obtain ⟨k,mm,hk,rfl,hL,HNEG⟩ := hrel
  have HLM : Hid (Le m mm) := hL.mext.le
  by_cases hlt : k < nd
  ·obtain ⟨p,hx⟩ := at_some HND hlt
   obtain ⟨b1,o1,g1',A1',n1,c1,g1'',B1',k1,d1,e1,ha1,hr1⟩ := FrGL.at_ HYD.out hx
   have HA1 := Lib.hid (FrG.le ha1 HLM.out)
   have hr2 : mm.rangeAt b1 (o1 + k * 4) [.bool g1',.slice A1' n1 c1,.bool g1'',.slice B1' k1 d1] := rangeAt_le hr1 HLM.out
   have HXK := Lib.hid hx
   obtain ⟨s1,s2⟩ := sgG_bd p
   obtain ⟨s,hsg⟩ : ∃ s,s = sgG p := ⟨_,rfl⟩
   rw [← hsg] at s1 s2
   have HSG := Lib.hid hsg
   clear hx ha1 hr1 hsg
   subst e1
   go_wp2_with (first | go_skip | refine tP ?_ | (refine tS ?_;clear hL;intro _ hL) | (refine tB ?_;clear hL;intro _ _ hL _))
   refine (q_SignG _ p _ _ hL.vw (FrG.le HA1.out leX)).mono ?_
   rintro e Wa1 ⟨_,ma1,rfl,hE,hMa1,hV,rfl⟩
   replace hL := hL.call hE (by assumption) hV;clear hE hV
   rw [← HSG.out]
   by_cases hps : 0 < s
   ·have hps' : s > 0 := hps
    go_wp2_with (first | go_skip | refine tP ?_ | (refine tS ?_;clear hL;intro _ hL) | (refine tB ?_;clear hL;intro _ _ hL _))
    refine fin_aggT hL Tryz.results15 rfl rfl loX ag_Prices (by exact rfl) rfl (hL.sub (List.nil_sublist _)) ?_
    exact .inl ⟨⟨p,List.mem_of_getElem? HXK.out,by rw [← HSG.out];exact hps⟩,rfl⟩
   ·have hps' : s ≤ 0 := by omega
    clear hps
    go_wp2_with (first | go_skip | refine tP ?_ | (refine tS ?_;clear hL;intro _ hL) | (refine tB ?_;clear hL;intro _ _ hL _))
    go_roundw
    case rel =>
     refine ⟨k + 1,_,by omega,by go_num,hL.tail,fun j q hj hq => ?_⟩
     rcases Nat.lt_succ_iff_lt_or_eq.1 hj with h | rfl
     ·exact HNEG.out j q h hq
     ·rw [HXK.out] at hq
      cases hq
      rw [← HSG.out];omega
    case measure => simp [intOf] <;> omega
  ·have hkn : nd = k := by omega
   subst hkn
   have HALL : Hid (∀ p ∈ ys.drop nr,sgG p ≤ 0) := by
    show ∀ p ∈ _,_
    intro p hp
    obtain ⟨j,hj⟩ := List.mem_iff_getElem?.1 hp
    have := (List.getElem?_eq_some_iff.1 hj).1
    rw [HND.out] at this
    exact HNEG.out j p this hj
   have h9 : (nd : Int) ≤ (nd : Int) := Int.le_refl _
   clear hlt HNEG hk
   go_upto_region 13 with ((first | go_skip | refine tP ?_ | (refine tS ?_;clear hL;intro _ hL) | (refine tB ?_;clear hL;intro _ _ hL _)))
   clear h9
   (try simp only [eq_self] at *)
   have hnff : f ≤ 1000000 := by omega
   obtain ⟨B,hB1,hB2,hB3⟩ := hL.bound
   refine wp_region_by2 14 [false,false,false,false,false,false,false,false,false,false,false,false,false,true] [false,false,false,false,false,false,false,false,false,false,false,false,false,false] [(fun v _ _ => v = ?c13_0),(fun v _ _ => v = ?c13_1),NewRow B 55 (madeCells #[.bool false,.slice none 0 0,.bool false,.slice none 0 0] (f * 4)) f,(fun v _ _ => v = ?c13_3),(fun v _ _ => v = ?c13_4),Of (fun um v => CutL um v x.cuts),(fun v _ _ => v = ?c13_6),(fun v _ _ => v = ?c13_7),Of (fun um v => FrGL um v (ys.drop nr)),Of (fun um v => FracL um v (frs (ys.drop nr))),(fun v _ _ => v = ?c13_10),Of (fun um v => DecL um v de),(PsB B f x.cuts (frs (ys.drop nr)) de),NewBlk B 44 #[.slice none 0 0,.slice none 0 0,.slice none 0 0,.slice none 0 0,.bool false]] hL.vw mixed [47,48,49,50,51,52,53,54,55,56,57,58,59,12] _ (by kernel_rfl) (fun vs => by simp only [lay,Act.put,zq1,zq2,zq3];rfl) (by kernel_rfl) (by decide) (by decide) ?s13 ?l13 ?r13
   case s13 =>
    refine ⟨?_,?_,?_,?_,?_,?_,?_,?_,?_,?_,?_,?_,?_,?_,trivial⟩
    ·intro vs W1 m1 hE hM hV hD;clear hD
     exact sFe
    ·intro vs W1 m1 hE hM hV hD;obtain ⟨⟨_,_,-,-,f47⟩,-⟩ := hD
     rw [(f47 : vs 47 = _)];clear f47;exact sLe
    ·intro vs W1 m1 hE hM hV hD;obtain ⟨⟨_,_,-,-,f48⟩,-,-⟩ := hD
     rw [(f48 : vs 48 = _)]
     clear f48
     exact one2_make hV (Nat.le_trans hB3 hE.size) rfl rfl rfl ap_Fracs zc_Frac rfl (hnff) (by omega)
    ·intro vs W1 m1 hE hM hV hD;clear hD
     exact sFe
    ·intro vs W1 m1 hE hM hV hD;obtain ⟨⟨_,_,-,-,f50⟩,-⟩ := hD
     rw [(f50 : vs 50 = _)];clear f50;exact sLe
    ·intro vs W1 m1 hE hM hV hD;obtain ⟨⟨_,_,-,-,f51⟩,-⟩ := hD
     rw [(f51 : vs 51 = _)]
     clear f51
     go_wp2_with fail
     refine (m_copyCuts _ x.cuts _ _ hV (CutL.le HC.out (HLM.out.trans leX)) HCS.out (by rw [HNK.out];omega)).mono ?_
     rintro e W2 ⟨v,m2,rfl,hE2,hM2,hV2,h⟩
     go_wp2_with fail
     refine One2.call hE2 hM2 hV2 ?_;first | exact h | exact rfl
    ·intro vs W1 m1 hE hM hV hD;clear hD
     exact sPw
    ·intro vs W1 m1 hE hM hV hD;clear hD
     exact sPw
    ·intro vs W1 m1 hE hM hV hD;obtain ⟨⟨_,_,-,-,f53⟩,⟨_,_,-,-,f54⟩,-⟩ := hD
     rw [(f53 : vs 53 = _),(f54 : vs 54 = _)]
     clear f53 f54
     (replace hL := hL.call hE hM hV;refine wl_sliceV (wanted_none rfl) rfl HSL.out ?_;go_wp2_with fail;refine One2.still hV ?_;exact FrGL.le HYD.out (HLM.out.trans leX))
    ·intro vs W1 m1 hE hM hV hD;obtain ⟨⟨_,_,-,i55,f55⟩,-,-⟩ := hD;have f55 : FrGL _ (vs 55) (ys.drop nr) := f55;replace f55 := f55.le i55.le;clear i55
     go_wp2_with fail
     refine (m_fresh _ (ys.drop nr) _ _ hV f55 HSD.out (by rw [HND.out];omega)).mono ?_
     rintro e W2 ⟨v,m2,rfl,hE2,hM2,hV2,h⟩
     go_wp2_with fail
     refine One2.call hE2 hM2 hV2 ?_;first | exact h | exact rfl
    ·intro vs W1 m1 hE hM hV hD;clear hD
     exact sPw
    ·intro vs W1 m1 hE hM hV hD;obtain ⟨⟨_,_,-,-,f57⟩,-,-⟩ := hD
     rw [(f57 : vs 57 = _)]
     clear f57
     go_wp2_with fail
     refine (s_CloneDecs _ de _ _ hV (DecL.le HD.out (HLM.out.trans leX)) HDE.out).mono ?_
     rintro e W2 ⟨v,m2,rfl,hE2,hM2,hV2,h⟩
     go_wp2_with fail
     refine One2.call hE2 hM2 hV2 ?_;first | exact h | exact rfl
    ·intro vs W1 m1 hE hM hV hD;obtain ⟨⟨_,_,j49,i49,f49⟩,⟨_,_,-,i52,f52⟩,⟨_,_,-,i56,f56⟩,⟨_,_,-,i58,f58⟩,-⟩ := hD;have f52 : CutL _ (vs 52) x.cuts := f52;replace f52 := f52.le i52.le;clear i52;have f56 : FracL _ (vs 56) (frs (ys.drop nr)) := f56;replace f56 := f56.le i56.le;clear i56;have f58 : DecL _ (vs 58) de := f58;replace f58 := f58.le i58.le;clear i58
     (obtain ⟨g13,x13,r13⟩ := f49.ext j49 i49;obtain ⟨A52,c52,x52,-,f52⟩ := f52.lit;obtain ⟨A56,c56,x56,-,f56⟩ := f56.lit;obtain ⟨A58,c58,x58,-,f58⟩ := f58.lit;generalize vs 49 = y49 at x13 ⊢;subst y49;generalize vs 52 = y52 at x52 ⊢;subst y52;generalize vs 56 = y56 at x56 ⊢;subst y56;generalize vs 58 = y58 at x58 ⊢;subst y58;go_wp2_with fail;refine One2.still hV ?_;exact ⟨_,_,_,_,rfl,⟨_,rfl,r13⟩,f52,f56,f58⟩)
    ·intro vs W1 m1 hE hM hV hD;clear hD
     exact one2_alloc hV (Nat.le_trans hB3 hE.size) rfl rfl rfl ZcC.h
   case l13 =>
    refine ⟨nF,nF,nF,nF,nF,nF,nF,nF,nF,nF,nF,nF,nF,nF,trivial⟩
   intro vs W1 m1 hE hM hV hF hD
   obtain ⟨-,-,-,-,-,⟨_,_,-,i52,f52⟩,-,-,⟨_,_,-,i55,f55⟩,⟨_,_,-,i56,f56⟩,-,⟨_,_,-,i58,f58⟩,⟨_,_,j59,i59,f59⟩,⟨_,_,j12,i12,f12⟩,-⟩ := hF
   replace hL := hL.call hE hM hV
   replace f52 : CutL _ (vs 52) x.cuts := f52
   replace f52 := f52.le i52.le
   clear i52
   replace f55 : FrGL _ (vs 55) (ys.drop nr) := f55
   replace f55 := f55.le i55.le
   clear i55
   replace f56 : FracL _ (vs 56) (frs (ys.drop nr)) := f56
   replace f56 := f56.le i56.le
   clear i56
   replace f58 : DecL _ (vs 58) de := f58
   replace f58 := f58.le i58.le
   clear i58
   obtain ⟨b12,e12,hL⟩ := Loc.addB (Lt := []) hB1 hB2 hL f12 j12 i12 ad0
   simp only [e12,List.cons_append,List.nil_append] at hL ⊢
   clear e12 f12 j12 i12
   clear hD
   clear hE hV
   obtain ⟨_,vb,vd,vs',e59,⟨g1,rfl,r1,r2,r3,r4⟩,hcu,hcd,hdd⟩ := f59
   generalize vs 59 = x59 at e59 ⊢
   subst x59
   obtain ⟨A5,c5,rfl,-,hcu⟩ := (CutL.le hcu i59.le).lit
   obtain ⟨A6,c6,rfl,-,hcd⟩ := (FracL.le hcd i59.le).lit
   obtain ⟨A7,c7,rfl,-,hdd⟩ := (DecL.le hdd i59.le).lit
   have q1 := r3.ext j59
   replace hL := Loc.add2 (Lt := [_]) hB1 hB2 hL r1 r2 r3 r4 j59 i59 (neS (blk_ne q1 (hL.at_ lo0) (.inl (by decide))) ne0)
   simp only [List.cons_append,List.nil_append] at hL
   clear q1 r1 r2 r3 r4 j59 i59 hB1 hB2 hB3
   simp only [List.drop_succ_cons,List.drop_zero]
   go_wp2_with (first | go_skip | refine tP ?_ | (refine tS ?_;clear hL;intro _ hL) | (refine tB ?_;clear hL;intro _ _ hL _))
   refine QN.mk ?_
   have r1 : RowP 4 FracC m1 0 (madeCells #[.bool false,.slice none 0 0,.bool false,.slice none 0 0] (f * 4)) (List.replicate f ((0 : Int) : Rat)) := RowP.zero (by rw [size_madeCells,List.length_replicate])
   generalize madeCells #[.bool false,.slice none 0 0,.bool false,.slice none 0 0] (f * 4) = q1 at hL r1
   have R1 := Lib.hid r1
   have HCU := Lib.hid hcu
   have HCD := Lib.hid hcd
   have HDD := Lib.hid hdd
   have HM1 : Hid (Le m m1) := hL.mext.le
   clear r1 hcu hcd hdd hnff
   go_wp2_with (first | go_skip | refine tP ?_ | (refine tS ?_;clear hL;intro _ hL) | (refine tB ?_;clear hL;intro _ _ hL _))
   go_loopw [63] (fun iv wr => ∃ (i : Nat) (m3 : World) (cur : Array Value),i ≤ f ∧ iv = .int .i64 (i : Int) ∧ Loc w m wr m3 [(g1,55,cur),(b12,44,#[.slice (some ⟨g1,0,none⟩) f f,.slice A5 x.cuts.length c5,.slice A6 (frs (ys.drop nr)).length c6,.slice A7 de.length c7,.bool false]),(Wh3.heap.size,44,#[.slice none 0 0,.slice none 0 0,.slice none 0 0,.slice none 0 0,.bool false]),(w.heap.size,26,#[.int .i64 (f : Int),.slice A1 nr ca,.int .i64 pen,.slice B1 nc cb,.slice C1 nk cc])] ∧ Hid (RowP 4 FracC m3 i cur (List.replicate f ((0 : Int) : Rat))) ∧ Hid (Le m1 m3)) (fun iv _ => f - (intOf iv).toNat)
   case atStart => exact ⟨0,_,_,Nat.zero_le _,rfl,hL,R1.out,Le.refl _⟩
   case round =>
    clear hL R1
    obtain ⟨i,m3,cur,hi,rfl,hL,RP,HX3⟩ := hrel
    by_cases hlt : i < f
    ·have hlt' : (i : Int) < (f : Int) := by omega
     have HR : Hid ((List.replicate f ((0 : Int) : Rat))[i]? = some ((0 : Int) : Rat)) := by
      show _ = _
      rw [List.getElem?_replicate,if_pos hlt]
     have hfit : 0 + i * 4 + 4 ≤ cur.size := by rw [RP.out.1,List.length_replicate];omega
     go_upto_region 17 with ((first | go_skip | refine tP ?_ | (refine tS ?_;clear hL;intro _ hL) | (refine tB ?_;clear hL;intro _ _ hL _)))
     (try simp only [eq_self] at *)
     refine wp_region_by2 5 [false,false,false,false,false] [false,false,false,false,false] [(fun v _ _ => v = ?c17_0),(fun v _ _ => v = ?c17_1),(fun v _ _ => v = ?c17_2),Of (fun um v => FracC um v ((0 : Int) : Rat)),(fun v _ _ => v = ?c17_4)] hL.vw mixed [66,67,68,69,70] _ (by kernel_rfl) (fun vs => by simp only [lay,Act.put,zq1,zq2,zq3];rfl) (by kernel_rfl) (by decide) (by decide) ?s17 ?l17 ?r17
     case s17 =>
      refine ⟨?_,?_,?_,?_,?_,trivial⟩
      ·intro vs W1 m1 hE hM hV hD;clear hD
       exact sFe
      ·intro vs W1 m1 hE hM hV hD;obtain ⟨⟨_,_,-,-,f66⟩,-⟩ := hD
       rw [(f66 : vs 66 = _)];clear f66;exact sLe
      ·intro vs W1 m1 hE hM hV hD;clear hD
       exact sPw
      ·intro vs W1 m1 hE hM hV hD;clear hD
       go_wp2_with fail
       refine (m_whole 0 _ _ hV (by decide)).mono ?_
       rintro e W2 ⟨v,m2,rfl,hE2,hM2,hV2,h⟩
       go_wp2_with fail
       refine One2.call hE2 hM2 hV2 ?_;first | exact h | exact rfl
      ·intro vs W1 m1 hE hM hV hD;obtain ⟨⟨_,_,-,-,f67⟩,⟨_,_,-,-,f68⟩,-,-,-,-,-⟩ := hD
       rw [(f67 : vs 67 = _),(f68 : vs 68 = _)];clear f67 f68;exact sIy
     case l17 =>
      refine ⟨nF,nF,nF,nF,nF,trivial⟩
     intro vs W1 m1 hE hM hV hF hD
     clear hD
     obtain ⟨-,-,-,⟨_,_,-,i69,f69⟩,⟨_,_,-,-,f70⟩,-⟩ := hF
     replace hL := hL.call hE hM hV
     replace f69 : FracC _ (vs 69) ((0 : Int) : Rat) := f69
     replace f69 := f69.le i69.le
     clear i69
     obtain ⟨g69,A69,n69,c69,h69,B69,k69,d69,e69,f69⟩ := f69.lit
     generalize vs 69 = x69 at e69 ⊢
     subst x69
     have f70 : vs 70 = _ := f70
     generalize vs 70 = x70 at f70 ⊢
     subst x70
     clear hE hV
     simp only [List.drop_succ_cons,List.drop_zero]
     go_wp2_with (first | go_skip | refine tP ?_ | (refine tS ?_;clear hL;intro _ hL) | (refine tB ?_;clear hL;intro _ _ hL _))
     refine QN.mk ?_
     have HF69 := Lib.hid f69
     clear f69
     have RN := Lib.hid (RowP.le FracC.mono RP.out (leX : Le m3 m1))
     have HXN : Hid (Le _ m1) := HX3.out.trans (leX : Le m3 m1)
     go_wp2_with (first | go_skip | refine tP ?_ | (refine tS ?_;clear hL;intro _ hL) | (refine tB ?_;clear hL;intro _ _ hL _))
     go_roundw
     case rel => exact ⟨i + 1,_,_,by omega,by go_num,hL,RN.out.step HR.out rfl HF69.out,HXN.out⟩
     case measure => simp [intOf] <;> omega
    ·have hin : f = i := by omega
     subst hin
     have RF0 : Hid (RowF 4 FracC m3 cur (List.replicate f ((0 : Int) : Rat))) := RP.out.done List.length_replicate hlt
     have h9 : (f : Int) ≤ (f : Int) := Int.le_refl _
     clear hlt hi RP
     go_wp2_with (first | go_skip | refine tP ?_ | (refine tS ?_;clear hL;intro _ hL) | (refine tB ?_;clear hL;intro _ _ hL _))
     clear h9
     refine (m_fresh _ (ys.take nr) _ _ hL.vw (FrGL.le (ListV.take (k := nr) HX.out (by omega)) (HM1.out.trans (HX3.out.trans leX))) HST.out (by rw [HLT.out];omega)).mono ?_
     rintro e Wv1 ⟨vv1,mv1,rfl,hE,hMv1,hV,hv1⟩
     replace hL := hL.call hE (by assumption) hV;clear hE hV
     obtain ⟨V,cV,rfl,-,hv1⟩ := hv1.lit
     have HVL : Hid ((frs (ys.take nr)).length = nr) := by show _ = _;rw [frs_len];exact HLT.out
     rw [HVL.out] at hv1 ⊢
     have HV1 := Lib.hid hv1
     have RF1 := Lib.hid (RowF.le FracC.mono RF0.out (leX : Le m3 mv1))
     have HM3 : Hid (Le m1 mv1) := HX3.out.trans (leX : Le m3 mv1)
     clear hv1 RF0 HX3 hMv1
     generalize frs (ys.take nr) = vq at *
     go_wp2_with (first | go_skip | refine tP ?_ | (refine tS ?_;clear hL;intro _ hL) | (refine tB ?_;clear hL;intro _ _ hL _))
     go_loopw [77] (fun iv wr => ∃ (i : Nat) (m4 : World) (cur : Array Value),i ≤ nr ∧ iv = .int .i64 (i : Int) ∧ Loc w m wr m4 [(g1,55,cur),(b12,44,#[.slice (some ⟨g1,0,none⟩) f f,.slice A5 x.cuts.length c5,.slice A6 (frs (ys.drop nr)).length c6,.slice A7 de.length c7,.bool false]),(Wh3.heap.size,44,#[.slice none 0 0,.slice none 0 0,.slice none 0 0,.slice none 0 0,.bool false]),(w.heap.size,26,#[.int .i64 (f : Int),.slice A1 nr ca,.int .i64 pen,.slice B1 nc cb,.slice C1 nk cc])] ∧ Hid (RowF 4 FracC m4 cur (flF x.rows vq f i)) ∧ Hid (Le mv1 m4)) (fun iv _ => nr - (intOf iv).toNat)
     case atStart => exact ⟨0,_,_,Nat.zero_le _,rfl,hL,RF1.out,Le.refl _⟩
     case round =>
      clear hL RF1
      obtain ⟨i,m4,cur,hi,rfl,hL,RF,HX4⟩ := hrel
      by_cases hlt : i < nr
      ·have hlt' : (i : Int) < (nr : Int) := by omega
       obtain ⟨q,hq⟩ := at_some HVL hlt
       obtain ⟨r,hr⟩ := at_some HNR hlt
       obtain ⟨ir,rfl,hir⟩ := HLOW.out r (List.mem_of_getElem? hr)
       have hv4 := FracL.le HV1.out HX4.out
       have ha4 := IntL.le HA.out (HM1.out.trans (HM3.out.trans HX4.out))
       obtain ⟨b1,o1,g1',A1',n1,c1,g1'',B1',k1,d1,e1,hq1,hr1⟩ := FracL.at_ hv4 hq
       obtain ⟨b2,o2,e2,hc2⟩ := IntL.at_ ha4 hr
       have HQ := Lib.hid hq1
       have HST2 := Lib.hid (flF_step (f := f) hr hq)
       have hfit : 0 + ir * 4 + 4 ≤ cur.size := by rw [RF.out.size,flF_len];omega
       clear hq hr hv4 ha4 hq1
       subst e1 e2
       go_upto_region 22 with ((first | go_skip | refine tP ?_ | (refine tS ?_;clear hL;intro _ hL) | (refine tB ?_;clear hL;intro _ _ hL _)))
       (try simp only [eq_self] at *)
       refine wp_region_by2 9 [false,false,false,false,false,false,false,false,false] [false,false,false,false,false,false,false,false,false] [(fun v _ _ => v = ?c22_0),(fun v _ _ => v = ?c22_1),(fun v _ _ => v = ?c22_2),(fun v _ _ => v = ?c22_3),(fun v _ _ => v = ?c22_4),(fun v _ _ => v = ?c22_5),(fun v _ _ => v = ?c22_6),(fun v _ _ => v = ?c22_7),(fun v _ _ => v = ?c22_8)] hL.vw mixed [82,83,84,85,86,87,88,89,90] _ (by kernel_rfl) (fun vs => by simp only [lay,Act.put,zq1,zq2,zq3];rfl) (by kernel_rfl) (by decide) (by decide) ?s22 ?l22 ?r22
       case s22 =>
        refine ⟨?_,?_,?_,?_,?_,?_,?_,?_,?_,trivial⟩
        ·intro vs W1 m1 hE hM hV hD;clear hD
         exact sFe
        ·intro vs W1 m1 hE hM hV hD;obtain ⟨⟨_,_,-,-,f82⟩,-⟩ := hD
         rw [(f82 : vs 82 = _)];clear f82;exact sLe
        ·intro vs W1 m1 hE hM hV hD;clear hD
         exact sFe
        ·intro vs W1 m1 hE hM hV hD;obtain ⟨⟨_,_,-,-,f84⟩,-⟩ := hD
         rw [(f84 : vs 84 = _)];clear f84;exact sLe
        ·intro vs W1 m1 hE hM hV hD;clear hD
         exact sPw
        ·intro vs W1 m1 hE hM hV hD;obtain ⟨⟨_,_,-,-,f85⟩,⟨_,_,-,-,f86⟩,-⟩ := hD
         rw [(f85 : vs 85 = _),(f86 : vs 86 = _)];clear f85 f86;exact sIy
        ·intro vs W1 m1 hE hM hV hD;obtain ⟨⟨_,_,-,-,f87⟩,-⟩ := hD
         rw [(f87 : vs 87 = _)];clear f87;exact sLe
        ·intro vs W1 m1 hE hM hV hD;clear hD
         exact sLe
        ·intro vs W1 m1 hE hM hV hD;obtain ⟨⟨_,_,-,-,f83⟩,⟨_,_,-,-,f88⟩,-,-,-,-,-,-,-,-,-⟩ := hD
         rw [(f83 : vs 83 = _),(f88 : vs 88 = _)];clear f83 f88;exact sIy
       case l22 =>
        refine ⟨nF,nF,nF,nF,nF,nF,nF,nF,nF,trivial⟩
       intro vs W1 m1 hE hM hV hF hD
       clear hD
       obtain ⟨-,-,-,-,-,-,-,⟨_,_,-,-,f89⟩,⟨_,_,-,-,f90⟩,-⟩ := hF
       replace hL := hL.call hE hM hV
       have f89 : vs 89 = _ := f89
       generalize vs 89 = x89 at f89 ⊢
       subst x89
       have f90 : vs 90 = _ := f90
       generalize vs 90 = x90 at f90 ⊢
       subst x90
       clear hE hV
       simp only [List.drop_succ_cons,List.drop_zero]
       go_wp2_with (first | go_skip | refine tP ?_ | (refine tS ?_;clear hL;intro _ hL) | (refine tB ?_;clear hL;intro _ _ hL _))
       refine QN.mk ?_
       have RN := Lib.hid (RowF.set (RowF.le FracC.mono RF.out (leX : Le m4 m1)) (k := ir) (ws := [.bool g1',.slice A1' n1 c1,.bool g1'',.slice B1' k1 d1]) (by rw [flF_len];exact hir) rfl (HQ.out.le (leX : Le m4 m1)))
       have HXN : Hid (Le mv1 m1) := HX4.out.trans (leX : Le m4 m1)
       go_wp2_with (first | go_skip | refine tP ?_ | (refine tS ?_;clear hL;intro _ hL) | (refine tB ?_;clear hL;intro _ _ hL _))
       go_roundw
       case rel => exact ⟨i + 1,_,_,by omega,by go_num,hL.tail,by show RowF _ _ _ _ _;rw [HST2.out];exact RN.out,HXN.out⟩
       case measure => simp [intOf] <;> omega
      ·have hin : nr = i := by omega
       subst hin
       have h9 : (nr : Int) ≤ (nr : Int) := Int.le_refl _
       clear hlt hi
       go_wp2_with (first | go_skip | refine tP ?_ | (refine tS ?_;clear hL;intro _ hL) | (refine tB ?_;clear hL;intro _ _ hL _))
       obtain ⟨m9,hL9,hle9,hq9⟩ := Loc.showF (A := [_,_,_]) FracC.mono (hL.perm (List.perm_append_comm (l₁ := [_]) (l₂ := [_,_,_]))) RF.out (flF_len _ _ _ _)
       have HLF : Hid (Le _ m9) := (HM3.out.trans HX4.out).trans hle9
       refine fin_aggT hL9 Tryz.results15 rfl rfl loX ag_Prices (by exact rfl) rfl (hL9.sub (List.nil_sublist _)) ?_
       exact .inr ⟨HALL.out,_,rfl,by rw [HXR.out];exact ⟨_,_,_,_,rfl,hq9,CutL.le HCU.out HLF.out,FracL.le HCD.out HLF.out,DecL.le HDD.out HLF.out⟩⟩
end Go.Proofs.YtabmjadcoepbeaaGreat

/- Contract of pairingref27.PricesOf for valid master problems. -/
namespace Go.Proofs.YtabmjadcoepbeaaGreat
open Go.RowKit

def OwnU (w m : World) (xs : List Rat) (en : Ending) (w' : World) : Prop :=
 ∃ v m' Rr,en = .returned v ∧ Loc w m w' m' Rr ∧ RowA 55 4 FracC m' v xs.length xs Rr
theorem r_ZerosU (n : Nat) (hn : n ≤ 1000) (w m : World) (hV : Vw m w) : Calls Tryz.prog 53 #[.int .i64 n] w (OwnU w m (List.replicate n 0)) := by
 have hL := Loc.start hV
 clear hV
 go_enter Tryz.func53,Tryz.ntmps53
 go_wp2_with (first | go_skip | refine tP ?_ | (refine tC ?_;clear hL;intro _ _ hL _ hBs))
 go_loopw [3,4] (fun ov i wr => ∃ (j : Nat) (mm : World) (Rr : List Lo),j ≤ n ∧ i = .int .i64 j ∧ Loc w m wr mm Rr ∧ Hid (RowA 55 4 FracC mm ov j (List.replicate j 0) Rr)) (fun _ i _ => n - (intOf i).toNat)
 case atStart => exact ⟨0,_,[],Nat.zero_le _,rfl,hL,RowA.nil⟩
 case round =>
  clear hL
  obtain ⟨j,mm,Rr,hj,rfl,hL,row⟩ := hrel
  obtain ⟨A3,c3,rfl,row1⟩ := row.out.lit
  have ROW := Lib.hid row1
  clear row row1
  by_cases hlt : j < n
  ·have hlt' : (j : Int) < (n : Int) := by omega
   have HT : Hid (List.replicate j (0 : Rat) ++ [((0 : Int) : Rat)] = List.replicate (j + 1) 0) := by
    show _ = _
    rw [List.replicate_succ'];rfl
   go_wp2_with (first | go_skip | refine tP ?_ | (refine tC ?_;clear hL;intro _ _ hL _ hBs))
   refine (r_Int 0 _ _ hL.vw (by decide) (by decide)).mono ?_
   rintro e Wc1 ⟨vc1,mc1,rfl,hE,hMc1,hV,hc1⟩
   replace hL := hL.call hE (by assumption) hV;clear hE hV
   obtain ⟨gc1',Ac1',nc1',cc1',hc1',Bc1',kc1',dc1',rfl,hc1⟩ := hc1.lit
   have HZ := Lib.hid hc1
   clear hc1
   go_wp2_with (first | go_skip | refine tP ?_ | (refine tC ?_;clear hL;intro _ _ hL _ hBs))
   refine goA ?_
   obtain ⟨vs7,r7,z7,y7,l7⟩ := ROW.out
   refine wl_append (A := []) hL r7 (wanted_none rfl) rfl ap_Fracs (by omega) rfl rfl (news := [.bool gc1',.slice Ac1' nc1' cc1',.bool hc1',.slice Bc1' kc1' dc1']) rfl ((Blk.sl hBs (n := 4) rfl).le hL.vw.le) rfl (by omega) (by omega) ?_
   have HX7 := Lib.hid hL.mext
   clear hL
   intro v1 W5 m5 R5 hL r8 e8
   obtain ⟨A11,c11,rfl,-⟩ := r8.lit
   simp only [List.nil_append] at hL
   have rd := RowA.snoc (R := FracC) (m := m5) (x := ((0 : Int) : Rat)) r8 z7 (y7.mono fun v x hv => hv.le leX) l7 rfl (HZ.out.le leX)
   rw [HT.out] at rd
   have RD := Lib.hid rd
   clear rd r8 r7 z7 y7 l7
   simp only [Act.put,zq1,zq2,zq3]
   go_wp2_with (first | go_skip | refine tP ?_ | (refine tC ?_;clear hL;intro _ _ hL _ hBs))
   go_roundw
   case rel => exact ⟨j + 1,m5,R5,by omega,by go_num,hL,RD.out⟩
   case measure => simp [intOf] <;> omega
  ·have hjk : n = j := by omega
   subst hjk
   have h9 : (n : Int) ≤ (n : Int) := Int.le_refl _
   go_wp2_with (first | go_skip | refine tP ?_ | (refine tC ?_;clear hL;intro _ _ hL _ hBs))
   go_ret
   refine ⟨_,mm,Rr,rfl,hL,?_⟩
   rw [List.length_replicate]
   exact ROW.out
def ZrN (B f : Nat) (v : Value) (u um : World) : Prop := ∃ g cap cur,v = .slice (some ⟨g,0,none⟩) f cap ∧ B ≤ g ∧ g < um.heap.size ∧ Blk u g 55 cur ∧ (∀ a : Addr,a.block = g → um.cell? a = none) ∧ RowA 55 4 FracC um (.slice (some ⟨g,0,none⟩) f cap) f (List.replicate f ((0 : Int) : Rat)) [(g,55,cur)]
theorem ZrN.ext {B f : Nat} {v : Value} {u um u' um' : World} (h : ZrN B f v u um) (hu : Ext u u') (hm : Ext um um') : ZrN B f v u' um' := by
 obtain ⟨g,cap,cur,rfl,h1,h2,h3,h4,h5⟩ := h
 exact ⟨g,cap,cur,rfl,h1,Nat.lt_of_lt_of_le h2 hm.size,h3.ext hu,fun a ha => by rw [hm.cell (p := a) (by rw [ha];exact h2)];exact h4 a ha,RowA.le FracC.mono h5 hm.le⟩
theorem zrN {w m w' m' : World} {B f : Nat} {v : Value} {Rr : List Lo} (hL : Loc w m w' m' Rr) (row : RowA 55 4 FracC m' v (List.replicate f (0 : Rat)).length (List.replicate f 0) Rr) (hf : 0 < f) (hB : B ≤ w.heap.size) : ZrN B f v w' m' := by
 rw [List.length_replicate] at row
 obtain ⟨g,cap,cur,rfl,rfl,-,-⟩ := row.block hf
 have hb := hL.at_ (n := 0) rfl
 exact ⟨g,cap,cur,rfl,Nat.le_trans hB (hL.low_at (n := 0) rfl),by rw [hL.vw.size];exact hb.lt,hb,fun a ha => hL.hid (g,55,cur) (by simp) a ha,row⟩
def PsR (B f : Nat) (b d : Value) (ds : List Rat) (v : Value) (u um : World) : Prop := ∃ a c,v = .agg #[a,b,c,d,.bool false] ∧ ZrN B f a u um ∧ FracL um c ds

theorem r_PricesOf (mv dv : Value) (x : Ms) (f : Nat) (A : Option Addr) (n c : Nat) (ys : List (Int × Int)) (de : List Dec) (w m : World) (hV : Vw m w) (hm : MasterR m mv x) (ok : MsOk x) (hnf : x.nf = (f : Int)) (h : FrGL m (.slice A n c) ys) (hs : ∀ p ∈ ys,Fit 200 (Rat.divInt p.1 p.2)) (hd : DecL m dv de) (hde : de.length ≤ 1000)
  (h6 : x.rows.length ≤ 6) (hn : n = x.rows.length + x.cuts.length) :
  Calls Tryz.prog 20 #[mv,.slice A n c,dv] w (RetV w m (PoR (ys.drop x.rows.length) (poF x ys f de))) := by
 have hm0 := hm
 obtain ⟨va,vb,vc,rfl,ha,hb,hc⟩ := hm
 obtain ⟨A1,ca,rfl,-,ha⟩ := ha.lit
 obtain ⟨B1,cb,rfl,-,hb⟩ := hb.lit
 obtain ⟨C1,cc,rfl,-,hc⟩ := hc.lit
 obtain ⟨E1,ce,rfl,-,hd⟩ := hd.lit
 have KV : Hid (∀ w m',Vw m' w → Le m m' → Calls Tryz.prog 12 #[.agg #[.int .i64 x.nf,.slice A1 x.rows.length ca,.int .i64 x.pen,.slice B1 x.cols.length cb,.slice C1 x.cuts.length cc]] w (RetV w m' fun _ r => r = .int .i64 0)) := by
  show ∀ w m',_
  exact fun w m' hV hle => r_ValidateMaster _ x w m' hV (hm0.le hle) ok
 have hr0 := ok.r0
 have hk2 := ok.k2
 have hf : f ≤ 200 := by have := ok.f1;omega
 have hf0 : 0 < f := by
  obtain ⟨r,hr⟩ := List.exists_mem_of_length_pos (show 0 < x.rows.length by omega)
  have := ok.low r hr
  omega
 have HLOW : Hid (∀ r ∈ x.rows,∃ ir : Nat,r = (ir : Int) ∧ ir < f) := by
  show ∀ r ∈ x.rows,_
  intro r hr
  have := ok.low r hr
  exact ⟨r.toNat,by omega,by omega⟩
 have hcap : n ≤ c := by
  obtain ⟨_,c',e,h1,-⟩ := h.lit
  injection e with e1 e2 e3
  subst e2 e3
  exact h1
 have hyl : ys.length = n := by
  obtain ⟨_,c',e,h1,-⟩ := h.lit
  injection e with e1 e2 e3
  exact e2.symm
 have HX := Lib.hid h
 have HN := Lib.hid hyl
 have HS := Lib.hid hs
 have HA := Lib.hid ha
 have HC := Lib.hid hc
 have HD := Lib.hid hd
 have hpos : 0 < n := by omega
 obtain ⟨b0,o0,rfl⟩ : ∃ b0 o0,A = some ⟨b0,o0,none⟩ := by
  obtain ⟨p,hp⟩ := at_some HN hpos
  obtain ⟨b,off,g,A1,n1,c1,g',B,k',d,e,-⟩ := FrGL.at_ h hp
  exact ⟨b,off,e⟩
 rw [hnf] at KV
 have hL := Loc.start hV
 clear hV hm0 ha hb hc hd hs ok h hyl hde
 show Calls _ _ #[.agg #[.int .i64 x.nf,_,_,_,_],_,_] _ _
 rw [hnf]
 clear hnf
 generalize x.pen = pen at *
 have HXR : Hid (poF x ys f de = ⟨flF x.rows (frs (ys.take x.rows.length)) f x.rows.length,x.cuts,frs (ys.drop x.rows.length),de,false⟩) := rfl
 generalize poF x ys f de = PR at *
 generalize hnr : x.rows.length = nr at *
 have HNR := Lib.hid hnr
 generalize hnk : x.cuts.length = nk at *
 have HNK := Lib.hid hnk
 clear hnr hnk
 generalize x.cols.length = nc at *
 have hnrn : nr ≤ n := by omega
 have hb2 : ((n : Int) != (nr : Int) + nk) = false := by simp;omega
 obtain ⟨A2,c2,hsl,hsf⟩ := slice_from (b := b0) (o := o0) hnrn hcap
 obtain ⟨nd,hnd⟩ : ∃ nd,nd = n - nr := ⟨_,rfl⟩
 rw [← hnd] at hsl hsf
 have HSL := Lib.hid hsl
 have HSF := Lib.hid hsf
 have HND : Hid ((ys.drop nr).length = nd) := by show _ = _;rw [List.length_drop,HN.out,hnd]
 have hnd6 : nd ≤ 32 := by omega
 have HLT : Hid ((ys.take nr).length = nr) := by show _ = _;rw [List.length_take,HN.out];omega
 have hn40 : n ≤ 40 := by omega
 clear hn hsl hsf hnd
 go_enter Tryz.func20,Tryz.ntmps20
 go_upto_region 0 with (fail)
 refine wp_region_lit ?_
 refine t_box hL rfl rfl ?_;clear hL;intro Wh3 mh3 hL eh3;simp only [Act.put,zq1,zq2,zq3]
 refine t_alloc hL rfl ?_;clear hL;intro Wh6 mh6 hL eh6;simp only [Act.put,zq1,zq2,zq3]
 go_wp2_with (first | go_skip | refine tP ?_ | (refine tS ?_;clear hL;intro _ hL) | (refine tB ?_;clear hL;intro _ _ hL _))
 refine (KV.out _ _ hL.vw leX).mono ?_
 rintro e Wc1 ⟨_,mc1,rfl,hE,hMc1,hV,rfl⟩
 replace hL := hL.call hE (by assumption) hV;clear hE hV
 go_upto_region 7 with ((first | go_skip | refine tP ?_ | (refine tS ?_;clear hL;intro _ hL) | (refine tB ?_;clear hL;intro _ _ hL _)))
 clear hb2
 go_wp2_with (first | go_skip | refine tP ?_ | (refine tS ?_;clear hL;intro _ hL) | (refine tB ?_;clear hL;intro _ _ hL _))
 go_loopw [10] (fun iv wr => ∃ (k : Nat) (mm : World),nr ≤ k ∧ k ≤ n ∧ iv = .int .i64 (k : Int) ∧ Loc w m wr mm [(Wh3.heap.size,44,#[.slice none 0 0,.slice none 0 0,.slice none 0 0,.slice none 0 0,.bool false]),(w.heap.size,26,#[.int .i64 (f : Int),.slice A1 nr ca,.int .i64 pen,.slice B1 nc cb,.slice C1 nk cc])] ∧ Hid (∀ j p,j < k → nr ≤ j → ys[j]? = some p → sgG p ≤ 0)) (fun iv _ => n - (intOf iv).toNat)
 case atStart => exact ⟨nr,_,Nat.le_refl _,hnrn,rfl,hL,fun j p h h' => by omega⟩
 case round =>
  clear hL
  obtain ⟨k,mm,hkr,hk,rfl,hL,HNEG⟩ := hrel
  have HLM : Hid (Le m mm) := hL.mext.le
  by_cases hlt : k < n
  ·have hlt' : (k : Int) < (n : Int) := by omega
   obtain ⟨p,hx⟩ := at_some HN hlt
   obtain ⟨b1,o1,g1',A1',n1,c1,g1'',B1',k1,d1,e1,ha1,hr1⟩ := FrGL.at_ HX.out hx
   injection e1 with e1
   injection e1 with e1 e2
   subst e1 e2
   have HA1 := Lib.hid (FrG.le ha1 HLM.out)
   have hr2 : mm.rangeAt b0 (o0 + k * 4) [.bool g1',.slice A1' n1 c1,.bool g1'',.slice B1' k1 d1] := rangeAt_le hr1 HLM.out
   have HXK := Lib.hid hx
   have HFP : Hid (Fit 200 (Rat.divInt p.1 p.2)) := HS.out p (List.mem_of_getElem? hx)
   have HPS : Hid (0 < sgG p ↔ 0 < rs (Rat.divInt p.1 p.2)) := sgG_pos
   clear hx ha1 hr1
   go_wp2_with (first | go_skip | refine tP ?_ | (refine tS ?_;clear hL;intro _ hL) | (refine tB ?_;clear hL;intro _ _ hL _))
   refine (r_Sign _ (Rat.divInt p.1 p.2) _ _ hL.vw (FrG.toV (FrG.le HA1.out leX)) (HFP.out.mono (by decide))).mono ?_
   rintro e Wa1 ⟨_,ma1,rfl,hE,hMa1,hV,rfl⟩
   replace hL := hL.call hE (by assumption) hV;clear hE hV
   generalize rs (Rat.divInt p.1 p.2) = s at *
   by_cases hps : 0 < s
   ·have hps' : s > 0 := hps
    go_wp2_with (first | go_skip | refine tP ?_ | (refine tS ?_;clear hL;intro _ hL) | (refine tB ?_;clear hL;intro _ _ hL _))
    refine fin_aggT hL Tryz.results20 rfl rfl loX ag_Prices (by exact rfl) rfl (hL.sub (List.nil_sublist _)) ?_
    exact .inl ⟨⟨p,List.mem_of_getElem? (i := k - nr) (by rw [List.getElem?_drop,show nr + (k - nr) = k by omega];exact HXK.out),HPS.out.2 hps⟩,rfl⟩
   ·have hps' : s ≤ 0 := by omega
    have HSP : Hid (sgG p ≤ 0) := by
     show _ ≤ _
     have := HPS.out
     omega
    clear hps HPS
    go_wp2_with (first | go_skip | refine tP ?_ | (refine tS ?_;clear hL;intro _ hL) | (refine tB ?_;clear hL;intro _ _ hL _))
    go_roundw
    case rel =>
     refine ⟨k + 1,_,by omega,by omega,by go_num,hL,fun j q hj hjr hq => ?_⟩
     rcases Nat.lt_succ_iff_lt_or_eq.1 hj with h | rfl
     ·exact HNEG.out j q h hjr hq
     ·rw [HXK.out] at hq
      cases hq
      exact HSP.out
    case measure => simp [intOf] <;> omega
  ·have hkn : n = k := by omega
   subst hkn
   have HALL : Hid (∀ p ∈ ys.drop nr,sgG p ≤ 0) := by
    show ∀ p ∈ _,_
    intro p hp
    obtain ⟨j,hj⟩ := List.mem_iff_getElem?.1 hp
    rw [List.getElem?_drop] at hj
    have := (List.getElem?_eq_some_iff.1 hj).1
    rw [HN.out] at this
    exact HNEG.out (nr + j) p this (by omega) hj
   have h9 : (n : Int) ≤ (n : Int) := Int.le_refl _
   clear hlt HNEG hk hkr
   go_upto_region 12 with ((first | go_skip | refine tP ?_ | (refine tS ?_;clear hL;intro _ hL) | (refine tB ?_;clear hL;intro _ _ hL _)))
   clear h9
   (try simp only [eq_self] at *)
   obtain ⟨B,hB1,hB2,hB3⟩ := hL.bound
   refine wp_region_by2 12 [false,false,false,false,false,false,false,false,false,false,false,true] [false,false,false,false,false,false,false,false,false,false,false,false] [(fun v _ _ => v = ?c12_0),(fun v _ _ => v = ?c12_1),(ZrN B f),(fun v _ _ => v = ?c12_3),(fun v _ _ => v = ?c12_4),(fun v _ _ => v = ?c12_5),(fun v _ _ => v = ?c12_6),Of (fun um v => FrGL um v (ys.drop nr)),Of (fun um v => FracL um v (frs (ys.drop nr))),(fun v _ _ => v = ?c12_9),(PsR B f (.slice C1 nk cc) (.slice E1 de.length ce) (frs (ys.drop nr))),NewBlk B 44 #[.slice none 0 0,.slice none 0 0,.slice none 0 0,.slice none 0 0,.bool false]] hL.vw mixed [45,46,47,48,49,50,51,52,53,54,55,11] _ (by kernel_rfl) (fun vs => by simp only [lay,Act.put,zq1,zq2,zq3];rfl) (by kernel_rfl) (by decide) (by decide) ?s12 ?l12 ?r12
   case s12 =>
    refine ⟨?_,?_,?_,?_,?_,?_,?_,?_,?_,?_,?_,?_,trivial⟩
    ·intro vs W1 m1 hE hM hV hD;clear hD
     exact sFe
    ·intro vs W1 m1 hE hM hV hD;obtain ⟨⟨_,_,-,-,f45⟩,-⟩ := hD
     rw [(f45 : vs 45 = _)];clear f45;exact sLe
    ·intro vs W1 m1 hE hM hV hD;obtain ⟨⟨_,_,-,-,f46⟩,-⟩ := hD
     rw [(f46 : vs 46 = _)]
     clear f46
     (go_wp2_with fail;refine (r_ZerosU f (by omega) _ _ hV).mono ?_;rintro e W2 ⟨v,m2,Rr,rfl,hLz,rowz⟩;go_wp2_with fail;refine One2.call hLz.ext hLz.mext hLz.vw ?_;exact zrN hLz rowz hf0 (Nat.le_trans hB3 hE.size))
    ·intro vs W1 m1 hE hM hV hD;clear hD
     exact sFe
    ·intro vs W1 m1 hE hM hV hD;obtain ⟨⟨_,_,-,-,f48⟩,-⟩ := hD
     rw [(f48 : vs 48 = _)];clear f48;exact sLe
    ·intro vs W1 m1 hE hM hV hD;clear hD
     exact sPw
    ·intro vs W1 m1 hE hM hV hD;clear hD
     exact sPw
    ·intro vs W1 m1 hE hM hV hD;obtain ⟨⟨_,_,-,-,f50⟩,⟨_,_,-,-,f51⟩,-⟩ := hD
     rw [(f50 : vs 50 = _),(f51 : vs 51 = _)]
     clear f50 f51
     (replace hL := hL.call hE hM hV;refine wl_sliceV (wanted_none rfl) rfl HSL.out ?_;go_wp2_with fail;refine One2.still hV ?_;exact FrGL.le (HSF.out _ _ HX.out) (HLM.out.trans leX))
    ·intro vs W1 m1 hE hM hV hD;obtain ⟨⟨_,_,-,i52,f52⟩,-,-⟩ := hD;have f52 : FrGL _ (vs 52) (ys.drop nr) := f52;replace f52 := f52.le i52.le;clear i52
     go_wp2_with fail
     refine (r_canonical _ (ys.drop nr) _ _ hV f52 (by rw [HND.out];omega)).mono ?_
     rintro e W2 ⟨v,m2,rfl,hE2,hM2,hV2,h⟩
     go_wp2_with fail
     refine One2.call hE2 hM2 hV2 ?_;first | exact h | exact rfl
    ·intro vs W1 m1 hE hM hV hD;clear hD
     exact sPw
    ·intro vs W1 m1 hE hM hV hD;obtain ⟨⟨_,_,j47,i47,f47⟩,⟨_,_,-,-,f49⟩,⟨_,_,-,i53,f53⟩,⟨_,_,-,-,f54⟩,-⟩ := hD
     rw [(f49 : vs 49 = _),(f54 : vs 54 = _)]
     clear f49 f54
     have f53 : FracL _ (vs 53) (frs (ys.drop nr)) := f53
     replace f53 := f53.le i53.le
     clear i53
     (have f47 := f47.ext j47 i47;obtain ⟨g13,cap13,cur13,x13,r13⟩ := f47;obtain ⟨A53,c53,x53,-,f53⟩ := f53.lit;generalize vs 47 = y47 at x13 ⊢;subst y47;generalize vs 53 = y53 at x53 ⊢;subst y53;go_wp2_with fail;refine One2.still hV ?_;exact ⟨_,_,rfl,⟨g13,cap13,cur13,rfl,r13⟩,f53⟩)
    ·intro vs W1 m1 hE hM hV hD;clear hD
     exact one2_alloc hV (Nat.le_trans hB3 hE.size) rfl rfl rfl ZcC.h
   case l12 =>
    refine ⟨nF,nF,nF,nF,nF,nF,nF,nF,nF,nF,nF,nF,trivial⟩
   intro vs W1 m1 hE hM hV hF hD
   obtain ⟨-,-,⟨_,_,j47,i47,f47⟩,-,-,-,-,⟨_,_,-,i52,f52⟩,⟨_,_,-,i53,f53⟩,-,⟨_,_,j55,i55,f55⟩,⟨_,_,j11,i11,f11⟩,-⟩ := hF
   replace hL := hL.call hE hM hV
   replace f52 : FrGL _ (vs 52) (ys.drop nr) := f52
   replace f52 := f52.le i52.le
   clear i52
   replace f53 : FracL _ (vs 53) (frs (ys.drop nr)) := f53
   replace f53 := f53.le i53.le
   clear i53
   obtain ⟨b11,e11,hL⟩ := Loc.addB (Lt := []) hB1 hB2 hL f11 j11 i11 ad0
   simp only [e11,List.cons_append,List.nil_append] at hL ⊢
   clear e11 f11 j11 i11
   clear hD
   clear hE hV
   obtain ⟨_,vd,e55,⟨g1,cap,cur1,rfl,r1,r2,r3,r4,r5⟩,hcd⟩ := f55
   generalize vs 55 = x55 at e55 ⊢
   subst x55
   obtain ⟨A6,c6,rfl,-,hcd⟩ := (FracL.le hcd i55.le).lit
   have ROW1 := Lib.hid (RowA.le FracC.mono r5 i55.le)
   have q1 := r3.ext j55
   replace hL := Loc.add2 (Lt := [_]) hB1 hB2 hL r1 r2 r3 r4 j55 i55 (neS (blk_ne q1 (hL.at_ lo0) (.inl (by decide))) ne0)
   simp only [List.cons_append,List.nil_append] at hL
   clear q1 r1 r2 r3 r4 r5 j55 i55 hB1 hB2 hB3
   simp only [List.drop_succ_cons,List.drop_zero]
   go_wp2_with (first | go_skip | refine tP ?_ | (refine tS ?_;clear hL;intro _ hL) | (refine tB ?_;clear hL;intro _ _ hL _))
   refine QN.mk ?_
   have HCD := Lib.hid hcd
   have HM1 : Hid (Le m m1) := hL.mext.le
   have HVL : Hid ((frs (ys.take nr)).length = nr) := by show _ = _;rw [frs_len];exact HLT.out
   clear hcd
   go_wp2_with (first | go_skip | refine tP ?_ | (refine tS ?_;clear hL;intro _ hL) | (refine tB ?_;clear hL;intro _ _ hL _))
   go_loopw [12] (fun iv wr => ∃ (i : Nat) (m4 : World) (cur : Array Value),i ≤ nr ∧ iv = .int .i64 (i : Int) ∧ Loc w m wr m4 [(g1,55,cur),(b11,44,#[.slice (some ⟨g1,0,none⟩) f cap,.slice C1 nk cc,.slice A6 (frs (ys.drop nr)).length c6,.slice E1 de.length ce,.bool false]),(Wh3.heap.size,44,#[.slice none 0 0,.slice none 0 0,.slice none 0 0,.slice none 0 0,.bool false]),(w.heap.size,26,#[.int .i64 (f : Int),.slice A1 nr ca,.int .i64 pen,.slice B1 nc cb,.slice C1 nk cc])] ∧ Hid (RowA 55 4 FracC m4 (.slice (some ⟨g1,0,none⟩) f cap) f (flF x.rows (frs (ys.take nr)) f i) [(g1,55,cur)]) ∧ Hid (Le m1 m4)) (fun iv _ => nr - (intOf iv).toNat)
   case atStart => exact ⟨0,_,_,Nat.zero_le _,rfl,hL,ROW1.out,Le.refl _⟩
   case round =>
    clear hL ROW1
    obtain ⟨i,m4,cur,hi,rfl,hL,RF,HX4⟩ := hrel
    by_cases hlt : i < nr
    ·have hlt' : (i : Int) < (nr : Int) := by omega
     obtain ⟨p,hp⟩ := at_some HN (show i < n by omega)
     obtain ⟨r,hr⟩ := at_some HNR hlt
     obtain ⟨ir,rfl,hir⟩ := HLOW.out r (List.mem_of_getElem? hr)
     have hq : (frs (ys.take nr))[i]? = some (Rat.divInt p.1 p.2) := frs_at (by rw [List.getElem?_take,if_pos hlt];exact hp)
     have ha4 := IntL.le HA.out (HM1.out.trans HX4.out)
     have hx4 := FrGL.le HX.out (HM1.out.trans HX4.out)
     obtain ⟨b1,o1,g1',A1',n1,c1,g1'',B1',k1,d1,e1,hp1,hr1⟩ := FrGL.at_ hx4 hp
     obtain ⟨b2,o2,e2,hc2⟩ := IntL.at_ ha4 hr
     injection e1 with e1
     injection e1 with e1 e3
     subst e1 e3
     have HP := Lib.hid hp1
     have HST2 := Lib.hid (flF_step (f := f) hr hq)
     have hfit : 0 + ir * 4 + 4 ≤ cur.size := by have := RF.out.fit;omega
     clear hq hr hx4 ha4 hp1 hp
     subst e2
     go_upto_region 16 with ((first | go_skip | refine tP ?_ | (refine tS ?_;clear hL;intro _ hL) | (refine tB ?_;clear hL;intro _ _ hL _)))
     (try simp only [eq_self] at *)
     refine wp_region_by2 13 [false,false,false,false,false,false,false,false,false,false,false,false,false] [false,false,false,false,false,false,false,false,false,false,false,false,false] [(fun v _ _ => v = ?c16_0),(fun v _ _ => v = ?c16_1),(fun v _ _ => v = ?c16_2),(fun v _ _ => v = ?c16_3),(fun v _ _ => v = ?c16_4),(fun v _ _ => v = ?c16_5),(fun v _ _ => v = ?c16_6),(fun v _ _ => v = ?c16_7),(fun v _ _ => v = ?c16_8),(fun v _ _ => v = ?c16_9),(fun v _ _ => v = ?c16_10),Of (fun um v => FracC um v (Rat.divInt p.1 p.2)),(fun v _ _ => v = ?c16_12)] hL.vw mixed [61,62,63,64,65,66,67,68,69,70,71,72,73] _ (by kernel_rfl) (fun vs => by simp only [lay,Act.put,zq1,zq2,zq3];rfl) (by kernel_rfl) (by decide) (by decide) ?s16 ?l16 ?r16
     case s16 =>
      refine ⟨?_,?_,?_,?_,?_,?_,?_,?_,?_,?_,?_,?_,?_,trivial⟩
      ·intro vs W1 m1 hE hM hV hD;clear hD
       exact sFe
      ·intro vs W1 m1 hE hM hV hD;obtain ⟨⟨_,_,-,-,f61⟩,-⟩ := hD
       rw [(f61 : vs 61 = _)];clear f61;exact sLe
      ·intro vs W1 m1 hE hM hV hD;clear hD
       exact sFe
      ·intro vs W1 m1 hE hM hV hD;obtain ⟨⟨_,_,-,-,f63⟩,-⟩ := hD
       rw [(f63 : vs 63 = _)];clear f63;exact sLe
      ·intro vs W1 m1 hE hM hV hD;clear hD
       exact sPw
      ·intro vs W1 m1 hE hM hV hD;obtain ⟨⟨_,_,-,-,f64⟩,⟨_,_,-,-,f65⟩,-⟩ := hD
       rw [(f64 : vs 64 = _),(f65 : vs 65 = _)];clear f64 f65;exact sIy
      ·intro vs W1 m1 hE hM hV hD;obtain ⟨⟨_,_,-,-,f66⟩,-⟩ := hD
       rw [(f66 : vs 66 = _)];clear f66;exact sLe
      ·intro vs W1 m1 hE hM hV hD;clear hD
       exact sPw
      ·intro vs W1 m1 hE hM hV hD;clear hD
       exact sPw
      ·intro vs W1 m1 hE hM hV hD;obtain ⟨⟨_,_,-,-,f68⟩,⟨_,_,-,-,f69⟩,-⟩ := hD
       rw [(f68 : vs 68 = _),(f69 : vs 69 = _)];clear f68 f69;exact sIy
      ·intro vs W1 m1 hE hM hV hD;obtain ⟨⟨_,_,-,-,f70⟩,-⟩ := hD
       rw [(f70 : vs 70 = _)];clear f70;exact sLe
      ·intro vs W1 m1 hE hM hV hD;obtain ⟨⟨_,_,-,-,f71⟩,-⟩ := hD
       rw [(f71 : vs 71 = _)]
       clear f71
       go_wp2_with fail
       refine (r_Canon _ (Rat.divInt p.1 p.2) _ _ hV (FrG.toV (FrG.le HP.out leX))).mono ?_
       rintro e W2 ⟨v,m2,rfl,hE2,hM2,hV2,h⟩
       go_wp2_with fail
       refine One2.call hE2 hM2 hV2 ?_;first | exact h | exact rfl
      ·intro vs W1 m1 hE hM hV hD;obtain ⟨⟨_,_,-,-,f62⟩,⟨_,_,-,-,f67⟩,-,-,-,-,-,-,-,-,-,-,-,-,-⟩ := hD
       rw [(f62 : vs 62 = _),(f67 : vs 67 = _)];clear f62 f67;exact sIy
     case l16 =>
      refine ⟨nF,nF,nF,nF,nF,nF,nF,nF,nF,nF,nF,nF,nF,trivial⟩
     intro vs W1 m1 hE hM hV hF hD
     clear hD
     obtain ⟨-,-,-,-,-,-,-,-,-,-,-,⟨_,_,-,i72,f72⟩,⟨_,_,-,-,f73⟩,-⟩ := hF
     replace hL := hL.call hE hM hV
     replace f72 : FracC _ (vs 72) (Rat.divInt p.1 p.2) := f72
     replace f72 := f72.le i72.le
     clear i72
     obtain ⟨g72,A72,n72,c72,h72,B72,k72,d72,e72,f72⟩ := f72.lit
     generalize vs 72 = x72 at e72 ⊢
     subst x72
     have f73 : vs 73 = _ := f73
     generalize vs 73 = x73 at f73 ⊢
     subst x73
     clear hE hV
     simp only [List.drop_succ_cons,List.drop_zero]
     go_wp2_with (first | go_skip | refine tP ?_ | (refine tS ?_;clear hL;intro _ hL) | (refine tB ?_;clear hL;intro _ _ hL _))
     refine QN.mk ?_
     have RN := Lib.hid (RowA.putW (k := ir) (x := Rat.divInt p.1 p.2) (ws := [.bool g72,.slice A72 n72 c72,.bool h72,.slice B72 k72 d72]) (RowA.le FracC.mono RF.out (leX : Le m4 m1)) (by rw [flF_len];exact hir) rfl f72)
     have HXN : Hid (Le _ m1) := HX4.out.trans (leX : Le m4 m1)
     clear f72
     go_wp2_with (first | go_skip | refine tP ?_ | (refine tS ?_;clear hL;intro _ hL) | (refine tB ?_;clear hL;intro _ _ hL _))
     go_roundw
     case rel => exact ⟨i + 1,_,_,by omega,by go_num,hL,by show RowA _ _ _ _ _ _ _ _;rw [HST2.out];exact RN.out,HXN.out⟩
     case measure => simp [intOf] <;> omega
    ·have hin : nr = i := by omega
     subst hin
     have h9 : (nr : Int) ≤ (nr : Int) := Int.le_refl _
     clear hlt hi
     go_wp2_with (first | go_skip | refine tP ?_ | (refine tS ?_;clear hL;intro _ hL) | (refine tB ?_;clear hL;intro _ _ hL _))
     obtain ⟨m9,hL9,hle9,hq9,-⟩ := RowA.show (A := [_,_,_]) FracC.mono (hL.perm (List.perm_append_comm (l₁ := [_]) (l₂ := [_,_,_]))) RF.out
     have HLF : Hid (Le _ m9) := HX4.out.trans hle9
     refine fin_aggT hL9 Tryz.results20 rfl rfl loX ag_Prices (by exact rfl) rfl (hL9.sub (List.nil_sublist _)) ?_
     exact .inr ⟨HALL.out,_,rfl,by rw [HXR.out];exact ⟨_,_,_,_,rfl,hq9,CutL.le HC.out (HM1.out.trans HLF.out),FracL.le HCD.out HLF.out,DecL.le HD.out (HM1.out.trans HLF.out)⟩⟩
end Go.Proofs.YtabmjadcoepbeaaGreat

/- pairingdata.Fracs with its row; what Values and PricesOf answer in all cases. -/
namespace Go.Proofs.YtabmjadcoepbeaaGreat
open Go.RowKit

def pqF (q : Rat) : Int × Int := (q.num,(q.den : Int))
theorem pqF_val (q : Rat) : Rat.divInt (pqF q).1 (pqF q).2 = q := Rat.num_divInt_den q
def GF (p : Int × Int) : Prop := Sm p.1 p.2 ∧ Fit 200 (Rat.divInt p.1 p.2)
theorem GF.of {q : Rat} {k : Nat} (h : Tn k q) (hk : k < 1073741824) : GF (pqF q) := ⟨h.sm hk,by rw [pqF_val];exact h.fit (by omega)⟩
theorem FracC.toG {m : World} {v : Value} {q : Rat} {k : Nat} (h : FracC m v q) (t : Tn k q) (hk : k < 1073741824) : FrGE m v (pqF q) := ⟨h.toFr (t.fit (by omega)) (by decide),.inl (h.toS (t.sm hk))⟩
def frP (l : List Int) (n : Nat) : List (Int × Int) := (List.range n).map fun i => pqF (frF (atF l i))
theorem frP_len (l : List Int) (n : Nat) : (frP l n).length = n := by simp [frP]
theorem frP_snoc (l : List Int) (j : Nat) {a : Int} (h : Hid (atF l j = a)) : frP l j ++ [pqF (frF a)] = frP l (j + 1) := by
 unfold frP;rw [List.range_succ,List.map_append,← h.out];rfl
theorem frP_gf (l : List Int) (n : Nat) : ∀ p ∈ frP l n,GF p := by
 intro p hp
 obtain ⟨i,-,rfl⟩ := List.mem_map.1 hp
 exact GF.of (frT _) (by decide)

theorem d_FracsR (A : Option Addr) (c : Nat) (l : List Int) (n : Nat) (z : Int) (w m : World) (hV : Vw m w) (h : Sl m A (l.map I64)) (hz : z = n) (hn : n ≤ 1000) :
  Calls Tryz.prog 16 #[.slice A l.length c,.int .i64 z] w (RowPost 55 4 FrGE w m (frP l n)) := by
 subst hz
 have HL : Hid True := trivial
 generalize hN : l.length = N
 have HN := Lib.hid hN
 clear hN
 have hL := Loc.start hV
 clear hV
 go_enter Tryz.func16,Tryz.ntmps16
 go_wp2_with (first | go_skip | refine tP ?_ | (refine tC ?_;clear hL;intro _ _ hL _ hBs))
 go_loopw [5,6] (fun ov i wr => ∃ (j : Nat) (mm : World) (Rr : List Lo),j ≤ n ∧ i = .int .i64 j ∧ Loc w m wr mm Rr ∧ Hid (RowA 55 4 FrGE mm ov j (frP l j) Rr)) (fun _ i _ => n - (intOf i).toNat)
 case atStart => exact ⟨0,_,[],Nat.zero_le _,rfl,hL,RowA.nil⟩
 case round =>
  clear hL
  obtain ⟨j,mm,Rr,hj,rfl,hL,row⟩ := hrel
  have hM := hL.mext
  have hA := h.le hM.le
  obtain ⟨A7,c7,rfl,row1⟩ := row.out.lit
  have ROW := Lib.hid row1
  clear row row1 hM
  by_cases hlt : j < n
  ·obtain ⟨a,Ea,pa,pa'⟩ := atX l j (by omega)
   have hlt' : (j : Int) < (n : Int) := by omega
   have VT := Lib.hid (frP_snoc l j Ea)
   go_wp2_with (first | go_skip | refine tP ?_ | (refine tC ?_;clear hL;intro _ _ hL _ hBs))
   refine (d_AtE _ _ _ l _ j a _ _ hL.vw (hA.le leX) HN HL Ea rfl (by omega)).mono ?_
   rintro e Wc1 ⟨_,mc1,rfl,hE,hMc1,hV,rfl⟩
   replace hL := hL.call hE (by assumption) hV;clear hE hV
   go_wp2_with (first | go_skip | refine tP ?_ | (refine tC ?_;clear hL;intro _ _ hL _ hBs))
   refine (d_Frac a _ _ hL.vw (by omega) (by omega)).mono ?_
   rintro e Wc2 ⟨vc2,mc2,rfl,hE,hMc2,hV,hc2⟩
   replace hL := hL.call hE (by assumption) hV;clear hE hV
   obtain ⟨gc2',Ac2',nc2',cc2',hc2',Bc2',kc2',dc2',rfl,hc2⟩ := hc2.lit
   have HC2 := Lib.hid (FracC.toG hc2 (frT a) (by decide))
   clear hc2
   go_wp2_with (first | go_skip | refine tP ?_ | (refine tC ?_;clear hL;intro _ _ hL _ hBs))
   refine goA ?_
   obtain ⟨vs7,r7,z7,y7,l7⟩ := ROW.out
   refine wl_append (A := []) hL r7 (wanted_none rfl) rfl ap_Fracs (by omega) rfl rfl (news := [.bool gc2',.slice Ac2' nc2' cc2',.bool hc2',.slice Bc2' kc2' dc2']) rfl ((Blk.sl hBs (n := 4) rfl).le hL.vw.le) rfl (by omega) (by omega) ?_
   clear hL
   intro v1 W5 m5 R5 hL r8 e8
   obtain ⟨A9,c9,rfl,-⟩ := r8.lit
   simp only [List.nil_append] at hL
   have rd := RowA.snoc (R := FrGE) (m := m5) (x := pqF (frF a)) r8 z7 (y7.mono fun v x hv => FrGE.mono _ _ _ _ hv (leX : Le mm m5)) l7 rfl (FrGE.mono _ _ _ _ HC2.out leX)
   rw [VT.out] at rd
   have RD := Lib.hid rd
   clear rd r8 r7 z7 y7 l7
   simp only [Act.put,zq1,zq2,zq3]
   go_wp2_with (first | go_skip | refine tP ?_ | (refine tC ?_;clear hL;intro _ _ hL _ hBs))
   go_roundw
   case rel => exact ⟨j + 1,m5,R5,by omega,by go_num,hL,RD.out⟩
   case measure => simp [intOf] <;> omega
  ·have hjn : j = n := by omega
   subst hjn
   go_wp2_with (first | go_skip | refine tP ?_ | (refine tC ?_;clear hL;intro _ _ hL _ hBs))
   go_ret
   exact ⟨_,_,_,_,_,rfl,hL,ROW.out⟩
theorem d_Fracs (A : Option Addr) (c : Nat) (l : List Int) (n : Nat) (z : Int) (w m : World) (hV : Vw m w) (h : Sl m A (l.map I64)) (hz : z = n) (hn : n ≤ 1000) :
  Calls Tryz.prog 16 #[.slice A l.length c,.int .i64 z] w (RetV w m fun m' r => FrGL m' r (frP l n)) := (d_FracsR A c l n z w m hV h hz hn).mono fun _ _ h => h.show FrGE.mono
def VaR (x : Ms) (xs : List (Int × Int)) (m' : World) (r : Value) : Prop := ∃ a b,r = .tuple #[a,b,.int .i64 (if xs.length = x.rows.length + x.cuts.length + x.cols.length then 0 else 12)] ∧
 FracL m' a (if xs.length = x.rows.length + x.cuts.length + x.cols.length then frs (xs.drop (x.rows.length + x.cuts.length)) else []) ∧ FracL m' b (if xs.length = x.rows.length + x.cuts.length + x.cols.length then frs (xs.take x.rows.length) else [])
theorem m_Values (mv v : Value) (x : Ms) (xs : List (Int × Int)) (w m : World) (hV : Vw m w) (hm : MasterR m mv x) (ok : MsOk x) (h : FrGL m v xs) (hs : ∀ p ∈ xs,Sm p.1 p.2) (hl : xs.length ≤ 1000) :
  Calls Tryz.prog 14 #[mv,v] w (RetV w m (VaR x xs)) := by
 obtain ⟨A,c,rfl,-,h⟩ := h.lit
 by_cases hn : xs.length = x.rows.length + x.cuts.length + x.cols.length
 ·refine (m_ValuesOk mv x A _ c xs w m hV hm ok h hs hl hn).mono fun e w' hr => ?_
  obtain ⟨v,m2,h1,h2,h3,h4,a,b,h5,h6,h7⟩ := hr
  exact ⟨v,m2,h1,h2,h3,h4,a,b,by rw [if_pos hn];exact h5,by rw [if_pos hn];exact h6,by rw [if_pos hn];exact h7⟩
 ·refine (m_ValuesBad mv x A _ c xs w m hV hm ok h hs hl hn).mono fun e w' hr => ?_
  obtain ⟨v,m2,h1,h2,h3,h4,h5⟩ := hr
  exact ⟨v,m2,h1,h2,h3,h4,_,_,by rw [if_neg hn];exact h5,by rw [if_neg hn];exact ListV.nil,by rw [if_neg hn];exact ListV.nil⟩
theorem r_Values (mv v : Value) (x : Ms) (xs : List (Int × Int)) (w m : World) (hV : Vw m w) (hm : MasterR m mv x) (ok : MsOk x) (h : FrGL m v xs) (hs : ∀ p ∈ xs,Sm p.1 p.2) (hl : xs.length ≤ 1000) :
  Calls Tryz.prog 19 #[mv,v] w (RetV w m (VaR x xs)) := by
 obtain ⟨A,c,rfl,-,h⟩ := h.lit
 by_cases hn : xs.length = x.rows.length + x.cuts.length + x.cols.length
 ·refine (r_ValuesOk mv x A _ c xs w m hV hm ok h hs hl hn).mono fun e w' hr => ?_
  obtain ⟨v,m2,h1,h2,h3,h4,a,b,h5,h6,h7⟩ := hr
  exact ⟨v,m2,h1,h2,h3,h4,a,b,by rw [if_pos hn];exact h5,by rw [if_pos hn];exact h6,by rw [if_pos hn];exact h7⟩
 ·refine (r_ValuesBad mv x A _ c xs w m hV hm ok h hs hl hn).mono fun e w' hr => ?_
  obtain ⟨v,m2,h1,h2,h3,h4,h5⟩ := hr
  exact ⟨v,m2,h1,h2,h3,h4,_,_,by rw [if_neg hn];exact h5,by rw [if_neg hn];exact ListV.nil,by rw [if_neg hn];exact ListV.nil⟩

theorem m_PricesBad (mv : Value) (x : Ms) (A : Option Addr) (n c : Nat) (dv : Value) (w m : World) (hV : Vw m w) (hm : MasterR m mv x) (ok : MsOk x) (hn : n ≠ x.rows.length + x.cuts.length) :
  Calls Tryz.prog 15 #[mv,.slice A n c,dv] w (RetV w m fun _ r => r = .tuple #[zPr,.int .i64 12]) := by
 have hm0 := hm
 obtain ⟨va,vb,vc,rfl,ha,hb,hc⟩ := hm
 obtain ⟨A1,ca,rfl,-,ha⟩ := ha.lit
 obtain ⟨B1,cb,rfl,-,hb⟩ := hb.lit
 obtain ⟨C1,cc,rfl,-,hc⟩ := hc.lit
 have KV : Hid (∀ w m',Vw m' w → Le m m' → Calls Tryz.prog 13 #[.agg #[.int .i64 x.nf,.slice A1 x.rows.length ca,.int .i64 x.pen,.slice B1 x.cols.length cb,.slice C1 x.cuts.length cc]] w (RetV w m' fun _ r => r = .int .i64 0)) := by
  show ∀ w m',_
  exact fun w m' hV hle => m_ValidateMaster _ x w m' hV (hm0.le hle) ok
 have hr1 := ok.r1
 have hk2 := ok.k2
 have hL := Loc.start hV
 clear hV hm0 ha hb hc ok
 generalize x.nf = nf at *
 generalize x.pen = pen at *
 generalize x.rows.length = nr at *
 generalize x.cuts.length = nk at *
 generalize x.cols.length = nc at *
 have hb2 : ((n : Int) != (nr : Int) + nk) = true := by simp;omega
 clear hn
 go_enter Tryz.func15,Tryz.ntmps15
 go_upto_region 0 with (fail)
 refine wp_region_lit ?_
 refine t_box hL rfl rfl ?_;clear hL;intro Wh3 mh3 hL eh3;simp only [Act.put,zq1,zq2,zq3]
 refine t_alloc hL rfl ?_;clear hL;intro Wh6 mh6 hL eh6;simp only [Act.put,zq1,zq2,zq3]
 go_wp2_with (first | go_skip | refine tP ?_ | (refine tS ?_;clear hL;intro _ hL) | (refine tB ?_;clear hL;intro _ _ hL _))
 refine (KV.out _ _ hL.vw leX).mono ?_
 rintro e Wc1 ⟨_,mc1,rfl,hE,hMc1,hV,rfl⟩
 replace hL := hL.call hE (by assumption) hV;clear hE hV
 go_wp2_with (first | go_skip | refine tP ?_ | (refine tS ?_;clear hL;intro _ hL) | (refine tB ?_;clear hL;intro _ _ hL _))
 exact fin_aggT hL Tryz.results15 rfl rfl loX ag_Prices (by exact rfl) rfl (hL.sub (List.nil_sublist _)) rfl

theorem r_PricesBad (mv : Value) (x : Ms) (A : Option Addr) (n c : Nat) (dv : Value) (w m : World) (hV : Vw m w) (hm : MasterR m mv x) (ok : MsOk x) (hn : n ≠ x.rows.length + x.cuts.length) :
  Calls Tryz.prog 20 #[mv,.slice A n c,dv] w (RetV w m fun _ r => r = .tuple #[zPr,.int .i64 12]) := by
 have hm0 := hm
 obtain ⟨va,vb,vc,rfl,ha,hb,hc⟩ := hm
 obtain ⟨A1,ca,rfl,-,ha⟩ := ha.lit
 obtain ⟨B1,cb,rfl,-,hb⟩ := hb.lit
 obtain ⟨C1,cc,rfl,-,hc⟩ := hc.lit
 have KV : Hid (∀ w m',Vw m' w → Le m m' → Calls Tryz.prog 12 #[.agg #[.int .i64 x.nf,.slice A1 x.rows.length ca,.int .i64 x.pen,.slice B1 x.cols.length cb,.slice C1 x.cuts.length cc]] w (RetV w m' fun _ r => r = .int .i64 0)) := by
  show ∀ w m',_
  exact fun w m' hV hle => r_ValidateMaster _ x w m' hV (hm0.le hle) ok
 have hr1 := ok.r1
 have hk2 := ok.k2
 have hL := Loc.start hV
 clear hV hm0 ha hb hc ok
 generalize x.nf = nf at *
 generalize x.pen = pen at *
 generalize x.rows.length = nr at *
 generalize x.cuts.length = nk at *
 generalize x.cols.length = nc at *
 have hb2 : ((n : Int) != (nr : Int) + nk) = true := by simp;omega
 clear hn
 go_enter Tryz.func20,Tryz.ntmps20
 go_upto_region 0 with (fail)
 refine wp_region_lit ?_
 refine t_box hL rfl rfl ?_;clear hL;intro Wh3 mh3 hL eh3;simp only [Act.put,zq1,zq2,zq3]
 refine t_alloc hL rfl ?_;clear hL;intro Wh6 mh6 hL eh6;simp only [Act.put,zq1,zq2,zq3]
 go_wp2_with (first | go_skip | refine tP ?_ | (refine tS ?_;clear hL;intro _ hL) | (refine tB ?_;clear hL;intro _ _ hL _))
 refine (KV.out _ _ hL.vw leX).mono ?_
 rintro e Wc1 ⟨_,mc1,rfl,hE,hMc1,hV,rfl⟩
 replace hL := hL.call hE (by assumption) hV;clear hE hV
 go_wp2_with (first | go_skip | refine tP ?_ | (refine tS ?_;clear hL;intro _ hL) | (refine tB ?_;clear hL;intro _ _ hL _))
 exact fin_aggT hL Tryz.results20 rfl rfl loX ag_Prices (by exact rfl) rfl (hL.sub (List.nil_sublist _)) rfl
def poE (x : Ms) (ys : List (Int × Int)) : Int := if ys.length = x.rows.length + x.cuts.length then (if (ys.drop x.rows.length).any fun q => decide (0 < sgG q) then 5 else 0) else 12
def poP (x : Ms) (ys : List (Int × Int)) (f : Nat) (de : List Dec) : Pr := if ys.length = x.rows.length + x.cuts.length ∧ ((ys.drop x.rows.length).any fun q => decide (0 < sgG q)) = false then poF x ys f de else ⟨[],[],[],[],false⟩
def PaR (p : Pr) (e : Int) (m' : World) (r : Value) : Prop := ∃ v,r = .tuple #[v,.int .i64 e] ∧ PricesR m' v p
theorem zPr_R (m : World) : PricesR m zPr ⟨[],[],[],[],false⟩ := ⟨_,_,_,_,rfl,ListV.nil,ListV.nil,ListV.nil,ListV.nil⟩
theorem PoR.all {x : Ms} {ys : List (Int × Int)} {f : Nat} {de : List Dec} {m' : World} {r : Value} (hn : ys.length = x.rows.length + x.cuts.length) (h : PoR (ys.drop x.rows.length) (poF x ys f de) m' r) : PaR (poP x ys f de) (poE x ys) m' r := by
 unfold poE poP
 rw [if_pos hn]
 rcases h with ⟨⟨q,h1,h2⟩,rfl⟩ | ⟨h1,v,rfl,h2⟩
 ·have ha : ((ys.drop x.rows.length).any fun q => decide (0 < sgG q)) = true := List.any_eq_true.2 ⟨q,h1,decide_eq_true h2⟩
  rw [ha,if_pos rfl,if_neg (by simp)]
  exact ⟨_,rfl,zPr_R m'⟩
 ·have ha : ((ys.drop x.rows.length).any fun q => decide (0 < sgG q)) = false := by
   rw [Bool.eq_false_iff]
   intro h
   obtain ⟨q,hq,hd⟩ := List.any_eq_true.1 h
   have := of_decide_eq_true hd
   have := h1 q hq
   omega
  rw [ha,if_neg Bool.false_ne_true,if_pos (show ys.length = x.rows.length + x.cuts.length ∧ false = false from ⟨hn,rfl⟩)]
  exact ⟨v,rfl,h2⟩
theorem PaR.bad {x : Ms} {ys : List (Int × Int)} {f : Nat} {de : List Dec} {m' : World} {r : Value} (hn : ys.length ≠ x.rows.length + x.cuts.length) (h : r = .tuple #[zPr,.int .i64 12]) : PaR (poP x ys f de) (poE x ys) m' r := by
 unfold poE poP
 rw [if_neg hn,if_neg fun h => hn h.1]
 exact ⟨_,h,zPr_R m'⟩
theorem m_PricesAll (mv dv v : Value) (x : Ms) (f : Nat) (ys : List (Int × Int)) (de : List Dec) (w m : World) (hV : Vw m w) (hm : MasterR m mv x) (ok : MsOk x) (hnf : x.nf = (f : Int)) (h : FrGL m v ys) (hs : ∀ p ∈ ys,GF p) (hd : DecL m dv de) (hde : de.length ≤ 1000)
  (hcs : ∀ c ∈ x.cuts,c.1.length ≤ 1000) (h6 : x.rows.length ≤ 6) : Calls Tryz.prog 15 #[mv,v,dv] w (RetV w m (PaR (poP x ys f de) (poE x ys))) := by
 obtain ⟨A,c,rfl,-,h⟩ := h.lit
 by_cases hn : ys.length = x.rows.length + x.cuts.length
 ·refine (m_PricesOf mv dv x f A _ c ys de w m hV hm ok hnf h (fun p hp => (hs p hp).1) hd hde hcs h6 hn).mono fun e w' hr => ?_
  obtain ⟨v,m2,h1,h2,h3,h4,h5⟩ := hr
  exact ⟨v,m2,h1,h2,h3,h4,h5.all hn⟩
 ·refine (m_PricesBad mv x A _ c dv w m hV hm ok hn).mono fun e w' hr => ?_
  obtain ⟨v,m2,h1,h2,h3,h4,h5⟩ := hr
  exact ⟨v,m2,h1,h2,h3,h4,PaR.bad hn h5⟩
theorem r_PricesAll (mv dv v : Value) (x : Ms) (f : Nat) (ys : List (Int × Int)) (de : List Dec) (w m : World) (hV : Vw m w) (hm : MasterR m mv x) (ok : MsOk x) (hnf : x.nf = (f : Int)) (h : FrGL m v ys) (hs : ∀ p ∈ ys,GF p) (hd : DecL m dv de) (hde : de.length ≤ 1000)
  (h6 : x.rows.length ≤ 6) : Calls Tryz.prog 20 #[mv,v,dv] w (RetV w m (PaR (poP x ys f de) (poE x ys))) := by
 obtain ⟨A,c,rfl,-,h⟩ := h.lit
 by_cases hn : ys.length = x.rows.length + x.cuts.length
 ·refine (r_PricesOf mv dv x f A _ c ys de w m hV hm ok hnf h (fun p hp => (hs p hp).2) hd hde h6 hn).mono fun e w' hr => ?_
  obtain ⟨v,m2,h1,h2,h3,h4,h5⟩ := hr
  exact ⟨v,m2,h1,h2,h3,h4,h5.all hn⟩
 ·refine (r_PricesBad mv x A _ c dv w m hV hm ok hn).mono fun e w' hr => ?_
  obtain ⟨v,m2,h1,h2,h3,h4,h5⟩ := hr
  exact ⟨v,m2,h1,h2,h3,h4,PaR.bad hn h5⟩
end Go.Proofs.YtabmjadcoepbeaaGreat

/- The walk through the law MasterSplits. -/
namespace Go.Proofs.YtabmjadcoepbeaaGreat
open Go.RowKit

theorem fld_Prices2 : fldS Tryz.prog 44 2 = some (28,2) := by kernel_rfl
instance iAU6_1 : FlC Tryz.prog 44 2 28 2 := ⟨fld_Prices2⟩
theorem fld_Prices3 : fldS Tryz.prog 44 3 = some (42,3) := by kernel_rfl
instance iAU6_2 : FlC Tryz.prog 44 3 42 3 := ⟨fld_Prices3⟩
theorem all2_app {α : Type} {R : Value → α → Prop} : ∀ {vs us : List Value} {xs ys : List α},All2 R vs xs → All2 R us ys → All2 R (vs ++ us) (xs ++ ys)
 | [],_,[],_,_,h => h
 | _ :: _,_,_ :: _,_,h,g => ⟨h.1,all2_app h.2 g⟩
 | [],_,_ :: _,_,h,_ => h.elim
 | _ :: _,_,[],_,h,_ => h.elim
theorem RowA.app {α : Type} {e : TypeId} {size : Nat} {R : World → Value → α → Prop} {m : World} {v' : Value} {n k : Nat} {vs us : List Value} {xs ys : List α} {R' : List Lo} (r : Row e size v' (n + k) (cellsOf vs ++ cellsOf us) R') (z : ∀ u ∈ vs,u.cells.size = size) (z' : ∀ u ∈ us,u.cells.size = size) (y : All2 (R m) vs xs) (y' : All2 (R m) us ys) (l : vs.length = n) (l' : us.length = k) :
  RowA e size R m v' (n + k) (xs ++ ys) R' :=
 ⟨vs ++ us,by rw [cellsOf_append];exact r,fun u hu => (List.mem_append.1 hu).elim (z u) (z' u),all2_app y y',by rw [List.length_append,l,l']⟩
theorem fracs_one {m : World} : ∀ {vs : List Value} {qs : List Rat},All2 (FracC m) vs qs → (cellsOf vs).all (·.oneCell') = true
 | [],_,_ => rfl
 | v :: vs,[],h => h.elim
 | v :: vs,q :: qs,h => by
  obtain ⟨g,A,n,c,f,B,k,d,rfl,-⟩ := h.1.lit
  show (_ ++ cellsOf vs).all _ = true
  rw [List.all_append,fracs_one h.2]
  rfl
theorem all2_toG {m : World} {k : Nat} (hk : k < 1073741824) : ∀ {vs : List Value} {qs : List Rat},(∀ q ∈ qs,Tn k q) → All2 (FracC m) vs qs → All2 (FrGE m) vs (qs.map pqF)
 | [],[],_,_ => trivial
 | v :: vs,q :: qs,ht,h => ⟨FracC.toG h.1 (ht q (by simp)) hk,all2_toG hk (fun x hx => ht x (List.mem_cons_of_mem _ hx)) h.2⟩
 | [],_ :: _,_,h => h.elim
 | _ :: _,[],_,h => h.elim
theorem frs_fit {xs : List (Int × Int)} (h : ∀ p ∈ xs,GF p) : ∀ q ∈ frs xs,Fit 200 q := by
 intro q hq
 obtain ⟨p,hp,rfl⟩ := List.mem_map.1 hq
 exact (h p hp).2
theorem flF_fit {rs : List Int} {vs : List Rat} {f : Nat} (h : ∀ q ∈ vs,Fit 200 q) : ∀ i,∀ q ∈ flF rs vs f i,Fit 200 q
 | 0,q,hq => by rw [(List.mem_replicate.1 hq).2];exact fit_mil (by decide) (by decide)
 | i + 1,q,hq => by
  rcases List.mem_or_eq_of_mem_set hq with hq | rfl
  ·exact flF_fit h i q hq
  ·rw [List.getD_eq_getElem?_getD]
   rcases Nat.lt_or_ge i vs.length with hi | hi
   ·rw [List.getElem?_eq_getElem hi]
    exact h _ (List.getElem_mem hi)
   ·rw [List.getElem?_eq_none hi]
    exact fit_mil (z := 0) (by decide) (by decide)
theorem poP_fit {x : Ms} {ys : List (Int × Int)} {f : Nat} {de : List Dec} (hf : f ≤ 200) (hk : x.cuts.length ≤ 32) (hy : ys.length ≤ 1000) (h : ∀ p ∈ ys,GF p) (hd : de.length ≤ 2) : (poP x ys f de).fit := by
 unfold poP
 split
 ·refine ⟨flF_fit (frs_fit fun p hp => h p (List.mem_of_mem_take hp)) _,frs_fit fun p hp => h p (List.mem_of_mem_drop hp),?_,?_,?_,?_⟩
  ·show (flF _ _ _ _).length ≤ _
   rw [flF_len];omega
  ·show x.cuts.length ≤ _;omega
  ·show (frs _).length ≤ _
   rw [frs_len,List.length_drop];omega
  ·show de.length ≤ _;omega
 ·exact ⟨fun q hq => (by cases hq),fun q hq => (by cases hq),Nat.zero_le _,Nat.zero_le _,Nat.zero_le _,Nat.zero_le _⟩
theorem masF_few6 (l : List Int) : (masF l).cols.length ≤ 6 := by
 show ((List.range _).map _).length ≤ 6
 simp only [List.length_map,List.length_range]
 have h2 := atF_bd l 2 (by omega)
 omega
theorem if_fit {c : Prop} [Decidable c] {A : List Rat} (h : ∀ q ∈ A,Fit 200 q) : ∀ q ∈ (if c then A else []),Fit 200 q := by
 by_cases hc : c
 ·rw [if_pos hc];exact h
 ·rw [if_neg hc];exact fun q hq => (by cases hq)
theorem if_len {c : Prop} [Decidable c] {A : List Rat} {k : Nat} (h : A.length ≤ k) : (if c then A else []).length ≤ k := by
 by_cases hc : c
 ·rw [if_pos hc];exact h
 ·rw [if_neg hc];exact Nat.zero_le _
def VaS (e : Int) (A B : List Rat) (m' : World) (r : Value) : Prop := ∃ a b,r = .tuple #[a,b,.int .i64 e] ∧ FracL m' a A ∧ FracL m' b B
theorem wild_gf (n : Int) : GF (wN n,wD n) := ⟨(wild_wf n).sm,(wild_wf n).q.fit (by decide)⟩
theorem set_gf {xs : List (Int × Int)} {k : Nat} {p : Int × Int} (h : ∀ q ∈ xs,GF q) (hp : GF p) : ∀ q ∈ xs.set k p,GF q := fun q hq => by
 rcases List.mem_or_eq_of_mem_set hq with hq | rfl
 ·exact h q hq
 ·exact hp
theorem prF_cd_gf (x : Ms) (l : List Int) : ∀ p ∈ (prF x l).cd.map pqF,GF p := by
 intro p hp
 obtain ⟨q,hq,rfl⟩ := List.mem_map.1 hp
 exact GF.of ((prF_tn x l).cd q hq) (by decide)

theorem law_MasterSplitsK (KN : ∀ w m,Vw m w → Calls Tryz.prog 10 #[] w (RetV w m fun _ r => r = .bool true)) (Al Ax : Option Addr) (cl cx : Nat) (l a : List Int) (n : Int) (w m : World) (hV : Vw m w) (hl : Sl m Al (l.map I64)) (ha : Sl m Ax (a.map I64)) (n1 : -9223372036854775808 ≤ n) (n2 : n ≤ 9223372036854775807) :
  Calls Tryz.prog 5 #[.slice Al l.length cl,.slice Ax a.length cx,.int .i64 n] w (RetV w m fun _ r => r = .bool true) := by
 have KM : Hid (∀ w m',Vw m' w → Le m m' → Calls Tryz.prog 6 #[.slice Al l.length cl] w (RetV w m' fun m' r => MasterR m' r (masF l))) := by
  show ∀ w m',_
  exact fun w m' hV hle => d_Master Al cl l w m' hV (hl.le hle) trivial
 have KF : Hid (∀ (z : Int) (k : Nat) (w m' : World),Vw m' w → Le m m' → z = (k : Int) → k ≤ 1000 → Calls Tryz.prog 16 #[.slice Ax a.length cx,.int .i64 z] w (RetV w m' fun m' r => FrGL m' r (frP a k))) := by
  show ∀ (z : Int) (k : Nat) (w m' : World),_
  exact fun z k w m' hV hle hz hk => d_Fracs Ax cx a k z w m' hV (ha.le hle) hz hk
 have KR : Hid (∀ (z : Int) (k : Nat) (w m' : World),Vw m' w → Le m m' → z = (k : Int) → k ≤ 1000 → Calls Tryz.prog 16 #[.slice Ax a.length cx,.int .i64 z] w (RowPost 55 4 FrGE w m' (frP a k))) := by
  show ∀ (z : Int) (k : Nat) (w m' : World),_
  exact fun z k w m' hV hle hz hk => d_FracsR Ax cx a k z w m' hV (ha.le hle) hz hk
 have HNF : Hid ((masF l).nf = 6) := rfl
 have HCU : Hid ((masF l).cuts.length ≤ 10) := by show _ ≤ _;have := masF_cuts l;omega
 have HCS : Hid (∀ c ∈ (masF l).cuts,c.1.length ≤ 1000) := by
  show ∀ c ∈ (masF l).cuts,_
  intro c hc
  have := (masF_cuts l).2 c hc
  omega
 have OK : Hid (MsOk (masF l)) := masF_ok l
 have H6 : Hid ((masF l).rows.length ≤ 6) := by
  show (rowsF l).length ≤ 6
  have := (rowsF_ok l).l5
  omega
 have HJ6 : Hid ((masF l).cols.length ≤ 6) := masF_few6 l
 have HR0 : Hid (1 ≤ (masF l).rows.length) := (masF_ok l).r0
 have HPD : Hid ((prF (masF l) a).de.length ≤ 2) := prF_de _ a
 have HCL : Hid ((prF (masF l) a).cd.length = (masF l).cuts.length) := cdG_len a _
 have HCG : Hid (∀ p ∈ (prF (masF l) a).cd.map pqF,GF p) := prF_cd_gf _ a
 have HCT : Hid (∀ q ∈ (prF (masF l) a).cd,Tn 1000 q) := (prF_tn (masF l) a).cd
 have KP : Hid (∀ (v : Value) (w m' : World),Vw m' w → Le m m' → MasterR m' v (masF l) → Calls Tryz.prog 17 #[v,.slice Ax a.length cx] w (RetV w m' fun m' v => PricesR m' v (prF (masF l) a))) := by
  show ∀ (v : Value) (w m' : World),_
  exact fun v w m' hV hle hm => d_PricesY v (masF l) Ax cx a.length a w m' hV hm HNF HCU (ha.le hle) rfl trivial
 have HKN := Lib.hid KN
 have e1 := i64_and3 n
 have e2 := i64_and3 (n / 8)
 have e3 := i64_and3 (n / 64)
 obtain ⟨k1,hk1⟩ : ∃ k1 : Nat,n % 8 / 7 = (k1 : Int) := ⟨(n % 8 / 7).toNat,by omega⟩
 obtain ⟨k2,hk2⟩ : ∃ k2 : Nat,n / 8 % 8 / 7 = (k2 : Int) := ⟨(n / 8 % 8 / 7).toNat,by omega⟩
 have hk11 : k1 ≤ 1 := by omega
 have hk21 : k2 ≤ 1 := by omega
 have HK1 := Lib.hid hk1
 have HK2 := Lib.hid hk2
 have hL := Loc.start hV
 clear hV hl ha KN hk1 hk2
 generalize l.length = N1 at *
 generalize a.length = N2 at *
 generalize masF l = x at *
 go_enter Tryz.func5,Tryz.ntmps5
 go_wp2_with (first | go_skip | refine tP ?_ | (refine tS ?_;clear hL;intro _ hL) | (refine tB ?_;clear hL;intro _ _ hL _))
 refine (KM.out _ _ hL.vw leX).mono ?_
 rintro e W1 ⟨v1,m1,rfl,hE,hM1,hV,h1⟩
 replace hL := hL.call hE (by assumption) hV;clear hE hV
 have HX := Lib.hid h1
 obtain ⟨a1,b1,c1,rfl,ha,hb,hc⟩ := h1
 obtain ⟨A1,ca,rfl,-,ha⟩ := ha.lit
 obtain ⟨B1,cb,rfl,-,hb⟩ := hb.lit
 obtain ⟨C1,cc,rfl,-,hc⟩ := hc.lit
 clear ha hb hc KM
 obtain ⟨nr,hnr⟩ : ∃ nr,nr = x.rows.length := ⟨_,rfl⟩
 obtain ⟨nk,hnk⟩ : ∃ nk,nk = x.cuts.length := ⟨_,rfl⟩
 obtain ⟨nc,hnc⟩ : ∃ nc,nc = x.cols.length := ⟨_,rfl⟩
 have h6 : nr ≤ 6 := by rw [hnr];exact H6.out
 have hr0 : 1 ≤ nr := by rw [hnr];exact HR0.out
 have hk10 : nk ≤ 10 := by rw [hnk];exact HCU.out
 have hc10 : nc ≤ 6 := by rw [hnc];exact HJ6.out
 have HCL2 : Hid ((prF x a).cd.length = nk) := by show _ = _;rw [HCL.out,hnk]
 rw [← hnr,← hnk,← hnc] at HX ⊢
 have HNR := Lib.hid hnr
 have HNK := Lib.hid hnk
 have HNC := Lib.hid hnc
 clear hnr hnk hnc
 generalize hnf : x.nf = nf at *
 have HNF2 := Lib.hid hnf
 clear hnf
 go_wp2_with (first | go_skip | refine tP ?_ | (refine tS ?_;clear hL;intro _ hL) | (refine tB ?_;clear hL;intro _ _ hL _))
 refine (KF.out _ (nr + nk + nc + k1) _ _ hL.vw leX (by have := HK1.out;omega) (by omega)).mono ?_
 rintro e W2 ⟨va,m2,rfl,hE,hM2,hV,hxa⟩
 replace hL := hL.call hE (by assumption) hV;clear hE hV
 have HXA := Lib.hid hxa
 clear hxa
 obtain ⟨A2,c2,e2',-,-⟩ := HXA.out.lit
 rw [frP_len] at e2'
 subst e2'
 go_wp2_with (first | go_skip | refine tP ?_ | (refine tS ?_;clear hL;intro _ hL) | (refine tB ?_;clear hL;intro _ _ hL _))
 refine (KR.out _ (nr + k2) _ _ hL.vw leX (by have := HK2.out;omega) (by omega)).mono ?_
 rintro e W3 ⟨m3,ny,A3,c3,R3,rfl,hL3,row⟩
 have hJ := hL.join hL3
 have hX3 := hL3.mext
 have hny : ny = nr + k2 := by rw [row.len,frP_len]
 subst hny
 have ROW3 := Lib.hid row
 clear hL hL3 row
 have hL := hJ.perm (List.perm_append_comm (l₁ := R3) (l₂ := [_]))
 clear hJ
 simp only [List.cons_append,List.nil_append] at hL
 go_wp2_with (first | go_skip | refine tP ?_ | (refine tS ?_;clear hL;intro _ hL) | (refine tB ?_;clear hL;intro _ _ hL _))
 refine (KP.out _ _ _ hL.vw leX (HX.out.le leX)).mono ?_
 rintro e W4 ⟨vp,m4,rfl,hE,hM4,hV,hpr⟩
 replace hL := hL.call hE (by assumption) hV;clear hE hV
 obtain ⟨P0,d0,P1,d1,P2,d2,P3,d3,rfl,-,hpr⟩ := hpr.lit
 obtain ⟨_,_,_,_,e9,-,-,hcd,-⟩ := hpr
 injection e9 with e9
 injection e9 with e9
 injection e9 with e91 e9
 injection e9 with e92 e9
 injection e9 with e93 e9
 injection e9 with e94 e9
 subst e93
 rw [HCL2.out] at hcd ⊢
 obtain ⟨Ac,cc',vs,e8,hc8,hz8,hs8,hy8⟩ := hcd
 injection e8 with e81 e82 e83
 subst e81 e83
 clear e91 e92 e94 e9 e82
 have hvl : vs.length = nk := by rw [hy8.length,HCL2.out]
 go_wp2_with (first | go_skip | refine tP ?_ | (refine tS ?_;clear hL;intro _ hL) | (refine tB ?_;clear hL;intro _ _ hL _))
 refine goA ?_
 obtain ⟨vs7,r7,z7,y7,l7⟩ := ROW3.out
 refine wl_append (A := [_]) hL r7 (wanted_none rfl) rfl ap_Fracs (by omega) rfl rfl (news := cellsOf vs) (by rw [cellsOf_length hz8,hvl]) (hs8.le hL.vw.le) (fracs_one hy8) (by omega) (by omega) ?_
 clear hL
 intro v5 W5 m5 R5 hL r8 e8
 obtain ⟨A8,c8,rfl,-⟩ := r8.lit
 simp only [List.cons_append,List.nil_append] at hL
 have rd := RowA.app (R := FrGE) (m := m5) r8 z7 hz8 (y7.mono fun v x hv => FrGE.mono _ _ _ _ hv (leX : Le m3 m5)) ((all2_toG (by decide) HCT.out hy8).mono fun v x hv => FrGE.mono _ _ _ _ hv e8.le) l7 hvl
 have HGY : Hid (∀ p ∈ frP a (nr + k2) ++ (prF x a).cd.map pqF,GF p) := by
  show ∀ p ∈ _,_
  intro p hp
  rcases List.mem_append.1 hp with h | h
  ·exact frP_gf _ _ p h
  ·exact HCG.out p h
 have HX5 := Lib.hid (HX.out.le (leX : Le m1 m5))
 have HXA5 := Lib.hid (FrGL.le HXA.out (leX : Le m2 m5))
 have HLM5 : Hid (Le m m5) := leX
 generalize frP a (nr + k2) ++ (prF x a).cd.map pqF = ys at *
 have ROW5 := Lib.hid rd
 clear rd r8 r7 z7 y7 l7 hz8 hs8 hy8 hvl vs hc8 HX HXA ROW3 hX3
 simp only [Act.put,zq1,zq2,zq3]
 rcases (by omega : (n / 64 % 8 = 7 ∧ 0 < nk) ∨ (n / 64 % 8 = 7 ∧ nk = 0) ∨ n / 64 % 8 ≠ 7) with h64 | h64 | h64
 case' inl =>
  obtain ⟨h64,hkp⟩ := h64
  have b64 : (n / 64 % 8 == 7) = true := bt h64
  have hkp' : (0 : Int) < (nk : Int) := by omega
  clear h64
  go_upto_region 6 with ((first | go_skip | refine tP ?_ | (refine tS ?_;clear hL;intro _ hL) | (refine tB ?_;clear hL;intro _ _ hL _)))
  clear b64 hkp' e1 e2 e3
  (try simp only [eq_self] at *)
  obtain ⟨gy,capy,cury,e8,e9,-,-⟩ := ROW5.out.block (by omega)
  injection e8 with e81 e82 e83
  subst e81 e83 e9
  clear e82
  have hfit : 0 + nr * 4 + 4 ≤ cury.size := by
   have h1 := ROW5.out.fit
   have h2 : (nr + 1) * 4 ≤ (nr + k2 + nk) * 4 := Nat.mul_le_mul_right _ (by omega)
   omega
  have hyl : Hid (nr < ys.length) := by show _ < _;rw [← ROW5.out.len];omega
  refine wp_region_by2 8 [false,false,false,false,false,false,false,false] [false,false,false,false,false,false,false,false] [(fun v _ _ => v = ?c6_0),(fun v _ _ => v = ?c6_1),(fun v _ _ => v = ?c6_2),(fun v _ _ => v = ?c6_3),(fun v _ _ => v = ?c6_4),(fun v _ _ => v = ?c6_5),Of (fun um v => FrG um v (wN (n / 512)) (wD (n / 512))),(fun v _ _ => v = ?c6_7)] hL.vw mixed [66,67,68,69,70,71,72,73] _ (by kernel_rfl) (fun vs => by simp only [lay,Act.put,zq1,zq2,zq3];rfl) (by kernel_rfl) (by decide) (by decide) ?s6 ?l6 ?r6
  case s6 =>
   refine ⟨?_,?_,?_,?_,?_,?_,?_,?_,trivial⟩
   ·intro vs W1 m1 hE hM hV hD;clear hD
    exact sPw
   ·intro vs W1 m1 hE hM hV hD;clear hD
    exact sFe
   ·intro vs W1 m1 hE hM hV hD;obtain ⟨⟨_,_,-,-,f67⟩,-⟩ := hD
    rw [(f67 : vs 67 = _)];clear f67;exact sLe
   ·intro vs W1 m1 hE hM hV hD;obtain ⟨⟨_,_,-,-,f68⟩,-⟩ := hD
    rw [(f68 : vs 68 = _)]
    clear f68
    replace hL := hL.call hE hM hV
    go_wp2_with (first | go_skip | refine tP ?_ | (refine tS ?_;clear hL;intro _ hL) | (refine tB ?_;clear hL;intro _ _ hL _))
    refine One2.still hV ?_;exact rfl
   ·intro vs W1 m1 hE hM hV hD;clear hD
    exact sPw
   ·intro vs W1 m1 hE hM hV hD;obtain ⟨⟨_,_,-,-,f70⟩,-⟩ := hD
    rw [(f70 : vs 70 = _)];clear f70;exact sPw
   ·intro vs W1 m1 hE hM hV hD;obtain ⟨⟨_,_,-,-,f71⟩,-⟩ := hD
    rw [(f71 : vs 71 = _)]
    clear f71
    go_wp2_with fail
    refine (d_Wild (n / 512) _ _ hV (by omega) (by omega)).mono ?_
    rintro e W2 ⟨v,m2,rfl,hE2,hM2,hV2,h⟩
    go_wp2_with fail
    refine One2.call hE2 hM2 hV2 ?_;first | exact h | exact rfl
   ·intro vs W1 m1 hE hM hV hD;obtain ⟨⟨_,_,-,-,f66⟩,⟨_,_,-,-,f69⟩,-,-,-,-,-,-,-,-⟩ := hD
    rw [(f66 : vs 66 = _),(f69 : vs 69 = _)];clear f66 f69;exact sIy
  case l6 =>
   refine ⟨nF,nF,nF,nF,nF,nF,nF,nF,trivial⟩
  intro vs W1 m1 hE hM hV hF hD
  clear hD
  obtain ⟨-,-,-,-,-,-,⟨_,_,-,i72,f72⟩,⟨_,_,-,-,f73⟩,-⟩ := hF
  replace hL := hL.call hE hM hV
  replace f72 : FrG _ (vs 72) (wN (n / 512)) (wD (n / 512)) := f72
  replace f72 := f72.le i72.le
  clear i72
  have f73 : vs 73 = _ := f73
  generalize vs 73 = x73 at f73 ⊢
  subst x73
  clear hE hV
  obtain ⟨gw,Aw,nw,cw,hw9,Bw,kw,dw,e72,f72⟩ := FrG.lit f72
  generalize vs 72 = x72 at e72 ⊢
  subst x72
  simp only [List.drop_succ_cons,List.drop_zero]
  go_wp2_with (first | go_skip | refine tP ?_ | (refine tS ?_;clear hL;intro _ hL) | (refine tB ?_;clear hL;intro _ _ hL _))
  refine QN.mk ?_
  have ra := RowA.putW (k := nr) (x := (wN (n / 512),wD (n / 512))) (ws := [.bool gw,.slice Aw nw cw,.bool hw9,.slice Bw kw dw]) (RowA.le FrGE.mono ROW5.out (leX : Le m5 _)) hyl.out rfl f72
  have HZL0 : Hid (ys.length = nr + k2 + nk) := ROW5.out.len.symm
  have HGN := Lib.hid (set_gf (k := nr) HGY.out (wild_gf (n / 512)))
  have HXN := Lib.hid (HX5.out.le (leX : Le m5 m1))
  have HXAN := Lib.hid (FrGL.le HXA5.out (leX : Le m5 m1))
  have HLMN : Hid (Le m m1) := HLM5.out.trans (leX : Le m5 m1)
  obtain ⟨mz,hLz,hlez,hyz,-⟩ := RowA.show (A := [_]) FrGE.mono hL ra
  have HYZ := Lib.hid hyz
  have HGZ := Lib.hid HGN.out
  have HXZ := Lib.hid (HXN.out.le hlez)
  have HAZ := Lib.hid (FrGL.le HXAN.out hlez)
  have HLZ : Hid (Le m mz) := HLMN.out.trans hlez
  have HZL : Hid ((ys.set nr (wN (n / 512),wD (n / 512))).length = nr + k2 + nk) := by show _ = _;rw [List.length_set];exact HZL0.out
  clear hL hlez hyz HX5 HXA5 HLM5 ROW5 HGY ra HGN HXN HXAN HLMN f72 hfit hyl HZL0
  have hL := hLz
  clear hLz
  generalize ys.set nr (wN (n / 512),wD (n / 512)) = zs at *
  go_upto_region 7 with ((first | go_skip | refine tP ?_ | (refine tS ?_;clear hL;intro _ hL) | (refine tB ?_;clear hL;intro _ _ hL _)))
 case' inr.inl =>
  obtain ⟨h7,h0⟩ := h64
  have b64 : (n / 64 % 8 == 7) = true := bt h7
  have hk0 : (nk : Int) ≤ 0 := by omega
  clear h7 h0
  go_upto_region 7 with ((first | go_skip | refine tP ?_ | (refine tS ?_;clear hL;intro _ hL) | (refine tB ?_;clear hL;intro _ _ hL _)))
  clear b64 hk0 e1 e2 e3
  obtain ⟨mz,hLz,hlez,hyz,-⟩ := RowA.show (A := [_]) FrGE.mono hL ROW5.out
  have HYZ := Lib.hid hyz
  have HGZ := Lib.hid HGY.out
  have HXZ := Lib.hid (HX5.out.le hlez)
  have HAZ := Lib.hid (FrGL.le HXA5.out hlez)
  have HLZ : Hid (Le m mz) := HLM5.out.trans hlez
  have HZL : Hid (ys.length = nr + k2 + nk) := ROW5.out.len.symm
  clear hL hlez hyz HX5 HXA5 HLM5 ROW5 HGY
  have hL := hLz
  clear hLz
  generalize ys = zs at *
 case' inr.inr =>
  have b64 : (n / 64 % 8 == 7) = false := bf h64
  clear h64
  go_upto_region 7 with ((first | go_skip | refine tP ?_ | (refine tS ?_;clear hL;intro _ hL) | (refine tB ?_;clear hL;intro _ _ hL _)))
  clear b64 e1 e2 e3
  obtain ⟨mz,hLz,hlez,hyz,-⟩ := RowA.show (A := [_]) FrGE.mono hL ROW5.out
  have HYZ := Lib.hid hyz
  have HGZ := Lib.hid HGY.out
  have HXZ := Lib.hid (HX5.out.le hlez)
  have HAZ := Lib.hid (FrGL.le HXA5.out hlez)
  have HLZ : Hid (Le m mz) := HLM5.out.trans hlez
  have HZL : Hid (ys.length = nr + k2 + nk) := ROW5.out.len.symm
  clear hL hlez hyz HX5 HXA5 HLM5 ROW5 HGY
  have hL := hLz
  clear hLz
  generalize ys = zs at *
 all_goals
  go_wp2_with (first | go_skip | refine tP ?_ | (refine tS ?_;clear hL;intro _ hL) | (refine tB ?_;clear hL;intro _ _ hL _))
  refine (KP.out _ _ _ hL.vw (HLZ.out.trans leX) (HXZ.out.le leX)).mono ?_
  rintro e W7 ⟨vp,m7,rfl,hE,hM7,hV,hpr⟩
  replace hL := hL.call hE (by assumption) hV;clear hE hV
  obtain ⟨P0,d0,P1,d1,P2,d2,P3,d3,rfl,-,hpr⟩ := hpr.lit
  obtain ⟨_,_,_,_,e9,-,-,-,hde⟩ := hpr
  injection e9 with e9
  injection e9 with e9
  injection e9 with e91 e9
  injection e9 with e92 e9
  injection e9 with e93 e9
  injection e9 with e94 e9
  subst e94
  have HDE := Lib.hid hde
  clear hde e91 e92 e93 e9
  generalize hxs : frP a (nr + nk + nc + k1) = xs at *
  have HXG : Hid (∀ p ∈ xs,GF p) := by show ∀ p ∈ xs,_;rw [← hxs];exact frP_gf _ _
  have HXL : Hid (xs.length ≤ 1000) := by show _ ≤ _;rw [← hxs,frP_len];omega
  have HZ1000 : Hid (zs.length ≤ 1000) := by show _ ≤ _;rw [HZL.out];omega
  have KV1 : Hid (∀ (mv v : Value) (w m' : World),Vw m' w → MasterR m' mv x → FrGL m' v xs → Calls Tryz.prog 14 #[mv,v] w (RetV w m' (VaS (if xs.length = x.rows.length + x.cuts.length + x.cols.length then (0 : Int) else 12) (if xs.length = x.rows.length + x.cuts.length + x.cols.length then frs (xs.drop (x.rows.length + x.cuts.length)) else []) (if xs.length = x.rows.length + x.cuts.length + x.cols.length then frs (xs.take x.rows.length) else [])))) := by
   show ∀ (mv v : Value) (w m' : World),_
   exact fun mv v w m' hV hm h => m_Values mv v x xs w m' hV hm OK.out h (fun p hp => (HXG.out p hp).1) HXL.out
  have KV2 : Hid (∀ (mv v : Value) (w m' : World),Vw m' w → MasterR m' mv x → FrGL m' v xs → Calls Tryz.prog 19 #[mv,v] w (RetV w m' (VaS (if xs.length = x.rows.length + x.cuts.length + x.cols.length then (0 : Int) else 12) (if xs.length = x.rows.length + x.cuts.length + x.cols.length then frs (xs.drop (x.rows.length + x.cuts.length)) else []) (if xs.length = x.rows.length + x.cuts.length + x.cols.length then frs (xs.take x.rows.length) else [])))) := by
   show ∀ (mv v : Value) (w m' : World),_
   exact fun mv v w m' hV hm h => r_Values mv v x xs w m' hV hm OK.out h (fun p hp => (HXG.out p hp).1) HXL.out
  have KP1 : Hid (∀ (mv dv v : Value) (w m' : World),Vw m' w → MasterR m' mv x → FrGL m' v zs → DecL m' dv (prF x a).de → Calls Tryz.prog 15 #[mv,v,dv] w (RetV w m' (PaR (poP x zs 6 (prF x a).de) (poE x zs)))) := by
   show ∀ (mv dv v : Value) (w m' : World),_
   exact fun mv dv v w m' hV hm h hd => m_PricesAll mv dv v x 6 zs _ w m' hV hm OK.out (by rw [HNF2.out];exact HNF.out) h HGZ.out hd (by have := HPD.out;omega) HCS.out H6.out
  have KP2 : Hid (∀ (mv dv v : Value) (w m' : World),Vw m' w → MasterR m' mv x → FrGL m' v zs → DecL m' dv (prF x a).de → Calls Tryz.prog 20 #[mv,v,dv] w (RetV w m' (PaR (poP x zs 6 (prF x a).de) (poE x zs)))) := by
   show ∀ (mv dv v : Value) (w m' : World),_
   exact fun mv dv v w m' hV hm h hd => r_PricesAll mv dv v x 6 zs _ w m' hV hm OK.out (by rw [HNF2.out];exact HNF.out) h HGZ.out hd (by have := HPD.out;omega) H6.out
  have PFIT : Hid ((poP x zs 6 (prF x a).de).fit) := poP_fit (by decide) (by have := HCU.out;omega) HZ1000.out HGZ.out HPD.out
  have FA : Hid (∀ q ∈ (if xs.length = x.rows.length + x.cuts.length + x.cols.length then frs (xs.drop (x.rows.length + x.cuts.length)) else []),Fit 200 q) := if_fit (frs_fit fun p hp => HXG.out p (List.mem_of_mem_drop hp))
  have FB : Hid (∀ q ∈ (if xs.length = x.rows.length + x.cuts.length + x.cols.length then frs (xs.take x.rows.length) else []),Fit 200 q) := if_fit (frs_fit fun p hp => HXG.out p (List.mem_of_mem_take hp))
  have LA : Hid ((if xs.length = x.rows.length + x.cuts.length + x.cols.length then frs (xs.drop (x.rows.length + x.cuts.length)) else []).length ≤ 1000000) := if_len (by rw [frs_len,List.length_drop];have := HXL.out;omega)
  have LB : Hid ((if xs.length = x.rows.length + x.cuts.length + x.cols.length then frs (xs.take x.rows.length) else []).length ≤ 1000000) := if_len (by rw [frs_len,List.length_take];have := HXL.out;omega)
  generalize (if xs.length = x.rows.length + x.cuts.length + x.cols.length then frs (xs.drop (x.rows.length + x.cuts.length)) else []) = LA9 at *
  generalize (if xs.length = x.rows.length + x.cuts.length + x.cols.length then frs (xs.take x.rows.length) else []) = LB9 at *
  generalize (if xs.length = x.rows.length + x.cuts.length + x.cols.length then (0 : Int) else 12) = V9 at *
  have bvv : ((V9 : Int) == V9) = true := by simp
  generalize poP x zs 6 (prF x a).de = P9 at *
  generalize poE x zs = E9 at *
  have bee : ((E9 : Int) == E9) = true := by simp
  clear hxs HCT HCG HCL2 HCL KF KR KP
  go_wp2_with (first | go_skip | refine tP ?_ | (refine tS ?_;clear hL;intro _ hL) | (refine tB ?_;clear hL;intro _ _ hL _))
  refine (KV1.out _ _ _ _ hL.vw (HXZ.out.le leX) (FrGL.le HAZ.out leX)).mono ?_
  rintro e W8 ⟨_,m8,rfl,hE,hM8,hV,va8,vb8,rfl,h8a,h8b⟩
  replace hL := hL.call hE (by assumption) hV;clear hE hV
  have H8A := Lib.hid h8a
  have H8B := Lib.hid h8b
  clear h8a h8b
  go_wp2_with (first | go_skip | refine tP ?_ | (refine tS ?_;clear hL;intro _ hL) | (refine tB ?_;clear hL;intro _ _ hL _))
  refine (KV2.out _ _ _ _ hL.vw (HXZ.out.le leX) (FrGL.le HAZ.out leX)).mono ?_
  rintro e W9 ⟨_,m9,rfl,hE,hM9,hV,va9,vb9,rfl,h9a,h9b⟩
  replace hL := hL.call hE (by assumption) hV;clear hE hV
  have H9A := Lib.hid h9a
  have H9B := Lib.hid h9b
  clear h9a h9b
  go_wp2_with (first | go_skip | refine tP ?_ | (refine tS ?_;clear hL;intro _ hL) | (refine tB ?_;clear hL;intro _ _ hL _))
  refine (KP1.out _ _ _ _ _ hL.vw (HXZ.out.le leX) (FrGL.le HYZ.out leX) (DecL.le HDE.out leX)).mono ?_
  rintro e W10 ⟨_,m10,rfl,hE,hM10,hV,vp,rfl,hp1⟩
  replace hL := hL.call hE (by assumption) hV;clear hE hV
  obtain ⟨U0,d0',U1,d1',U2,d2',U3,d3',rfl,-,hp1⟩ := hp1.lit
  have HP1 := Lib.hid hp1
  clear hp1
  go_wp2_with (first | go_skip | refine tP ?_ | (refine tS ?_;clear hL;intro _ hL) | (refine tB ?_;clear hL;intro _ _ hL _))
  refine (KP2.out _ _ _ _ _ hL.vw (HXZ.out.le leX) (FrGL.le HYZ.out leX) (DecL.le HDE.out leX)).mono ?_
  rintro e W11 ⟨_,m11,rfl,hE,hM11,hV,vp,rfl,hp2⟩
  replace hL := hL.call hE (by assumption) hV;clear hE hV
  obtain ⟨V0,k0',V1,k1',V2,k2',V3,k3',rfl,-,hp2⟩ := hp2.lit
  have HP2 := Lib.hid hp2
  clear hp2
  go_wp2_with (first | go_skip | refine tP ?_ | (refine tS ?_;clear hL;intro _ hL) | (refine tB ?_;clear hL;intro _ _ hL _))
  refine (r_SameList _ _ LA9 _ _ hL.vw (FracL.le H8A.out leX) (FracL.le H9A.out leX) FA.out LA.out).mono ?_
  rintro e Wy1 ⟨_,my1,rfl,hE,hMy1,hV,rfl⟩
  replace hL := hL.call hE (by assumption) hV;clear hE hV
  go_wp2_with (first | go_skip | refine tP ?_ | (refine tS ?_;clear hL;intro _ hL) | (refine tB ?_;clear hL;intro _ _ hL _))
  refine (r_SameList _ _ LB9 _ _ hL.vw (FracL.le H8B.out leX) (FracL.le H9B.out leX) FB.out LB.out).mono ?_
  rintro e Wy2 ⟨_,my2,rfl,hE,hMy2,hV,rfl⟩
  replace hL := hL.call hE (by assumption) hV;clear hE hV
  go_wp2_with (first | go_skip | refine tP ?_ | (refine tS ?_;clear hL;intro _ hL) | (refine tB ?_;clear hL;intro _ _ hL _))
  refine (r_SamePrices _ _ P9 _ _ hL.vw (HP1.out.le leX) (HP2.out.le leX) PFIT.out).mono ?_
  rintro e Wy3 ⟨_,my3,rfl,hE,hMy3,hV,rfl⟩
  replace hL := hL.call hE (by assumption) hV;clear hE hV
  go_wp2_with (first | go_skip | refine tP ?_ | (refine tS ?_;clear hL;intro _ hL) | (refine tB ?_;clear hL;intro _ _ hL _))
  refine (HKN.out _ _ hL.vw).mono ?_
  rintro e Wy4 ⟨_,my4,rfl,hE,hMy4,hV,rfl⟩
  replace hL := hL.call hE (by assumption) hV;clear hE hV
  go_wp2_with (first | go_skip | refine tP ?_ | (refine tS ?_;clear hL;intro _ hL) | (refine tB ?_;clear hL;intro _ _ hL _))
  go_ret
  exact RetV.mk hL rfl
end Go.Proofs.YtabmjadcoepbeaaGreat

/- The law MasterSplits, with the check known of its package. -/
namespace Go.Proofs.YtabmjadcoepbeaaGreat
open Go.RowKit

theorem law_MasterSplits (Al Ax : Option Addr) (cl cx : Nat) (l a : List Int) (n : Int) (w m : World) (hV : Vw m w) (hl : Sl m Al (l.map I64)) (ha : Sl m Ax (a.map I64)) (n1 : -9223372036854775808 ≤ n) (n2 : n ≤ 9223372036854775807) :
  Calls Tryz.prog 5 #[.slice Al l.length cl,.slice Ax a.length cx,.int .i64 n] w (RetV w m fun _ r => r = .bool true) := law_MasterSplitsK kn_known Al Ax cl cx l a n w m hV hl ha n1 n2
end Go.Proofs.YtabmjadcoepbeaaGreat

/- MasterSplits: for every input the law returns true, and each argument reads afterwards as it read before. There is no condition. -/
namespace Go.Proofs.YtabmjadcoepbeaaGreat
open Go.ChangeShapes Go.WideShapes Go.ChangeAt Go.RowKit

theorem masterSplits_lifted (os : Os) (started : os.Started) (H : Type) (enc : TypeId × Value → H) :
  ReturnsInHanded {} Tryz.checked os 5 .any (Rows.masterSplitsSpec.pre6 enc Tryz.prog Tryz.f5 Rows.masterSplitsRow.domain false) (Rows.masterSplitsSpec.post enc Tryz.prog Tryz.f5 false true false false) := by
 refine returnsInHanded_of_change (C := Tryz.checked) ownK started (by kernel_rfl) Tryz.func5
  (ChangeSpec.witness6 (enc := enc) (C := Tryz.checked) false ⟨#[],#[.slice none 0 0,.slice none 0 0,.int .i64 0],[]⟩ 8 (by kernel_rfl) (by kernel_rfl) (by kernel_rfl) (by kernel_rfl)) ?_
 intro W base args ds gs before hval0 hW hcnd _
 have hval : ∀ (j : Nat) t v,Tryz.f5.params[j]? = some t → args[j]? = some v → Value.okWide Tryz.prog W .any base t v := hval0
 have hW' := hW
 obtain ⟨p,q,hA0,hV,rfl,hfz,hnd⟩ := hW
 have hA : DataW.TrodAll enc Tryz.prog W 0 (fun _ => true) true Tryz.f5.params.toList args.toList ds p := hA0
 rw [Tryz.params5] at hA hval
 obtain ⟨v0,vs0,d0,ds0,p0,q0,hargs,rfl,rfl,h0,r0⟩ := trodAll_cons hA
 obtain ⟨v1,vs1,d1,ds1,p1,q1,rfl,rfl,rfl,h1,r1⟩ := trodAll_cons r0
 obtain ⟨v2,vs2,d2,ds2,p2,q2,rfl,rfl,rfl,h2,r2⟩ := trodAll_cons r1
 obtain ⟨rfl,rfl,rfl⟩ := trodAll_nil r2
 obtain rfl : args = #[v0,v1,v2] := by cases args;simp_all
 obtain ⟨rfl,rfl⟩ := trodVars_none hV
 obtain ⟨n2,rfl,rfl,rfl,wn2⟩ := open_int Tryz.underlying3 (hval 2 3 v2 rfl rfl) h2
 obtain ⟨A0,c0,l0,rfl,s0⟩ := arg_ints (hval 0 22 v0 rfl rfl) h0
 obtain ⟨A1,c1,l1,rfl,s1⟩ := arg_ints (hval 1 22 v1 rfl rfl) h1
 clear hA0 hval0 hA r0 r1 r2 hargs
 refine (law_MasterSplits A0 A1 c0 c1 l0 l1 n2 W W (Vw.refl W) s0 s1 (wf_bd wn2).1 (wf_bd wn2).2).mono fun e W' h => ?_
 obtain ⟨_,_,rfl,hE,_,_,rfl⟩ := h
 have hin : ∀ x ∈ p0 ++ (p1 ++ ([] ++ [])) ++ [],x.block < W.heap.size := fun x hx => hW'.lt x hx
 have st : ∀ {t : TypeId} {v : Value} {d : DataW H} {ps : List MemPlace},Tryz.prog.readableRec t = true → t < Tryz.prog.types.size → DataW.Trod enc Tryz.prog W 0 (fun _ => true) true t v d ps → (∀ x ∈ ps,x ∈ p0 ++ (p1 ++ ([] ++ [])) ++ []) →
   DataW.Trod enc Tryz.prog W' 0 (fun b => decide (b < W.heap.size)) true t v d ps := fun hr ht h hx =>
  WideElems.Trod_stays laidO hr ht h (fun x hp => Below.same hE (hin x (hx x hp))) (fun x hp => by simpa using hin x (hx x hp))
 refine ⟨_,rfl,_,_,_,[],_,[],hW',?_,trodAll_cons_mk (st (by kernel_rfl) (of_decide_eq_true (by kernel_rfl)) h0 ?_) (trodAll_cons_mk (st (by kernel_rfl) (of_decide_eq_true (by kernel_rfl)) h1 ?_) (trodAll_cons_mk (shut_int Tryz.underlying3 wn2) trodAll_mk0)),rfl,Below.frame hE _,fun h => by cases h⟩
 ·exact trodAll_cons_mk (shut_bool Tryz.underlying4 _) trodAll_mk0
 all_goals (intro x hx;simp [hx])
end Go.Proofs.YtabmjadcoepbeaaGreat
