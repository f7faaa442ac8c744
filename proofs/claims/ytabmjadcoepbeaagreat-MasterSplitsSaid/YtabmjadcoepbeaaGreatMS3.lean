/- Part 3 of 6 of the proof: the law MasterSplits returns true for every input, and its arguments read as before; there is no condition. -/
import Derived.Laws.StructEq
import Derived.ProofKit
import Derived.OpenShut
import Derived.Test.YtabmjadcoepbeaaGreatMS2
set_option linter.unusedVariables false
set_option linter.unusedSimpArgs false
set_option maxRecDepth 100000
set_option maxHeartbeats 64000000
/- Contract of pairingref25.SameList (equal lists). -/
namespace Go.Proofs.YtabmjadcoepbeaaGreat
open Go.RowKit

abbrev FracL := ListV (α := Rat) 4 FracC
theorem FracL.le {m m' : World} {v : Value} {qs : List Rat} (h : FracL m v qs) (hb : Le m m') : FracL m' v qs := ListV.le (fun _ _ _ _ h hb => h.le hb) h hb
theorem FracL.at_ {m : World} {A : Option Addr} {n c : Nat} {qs : List Rat} (h : FracL m (.slice A n c) qs) {k : Nat} {q : Rat} (hk : qs[k]? = some q) :
  ∃ b off g A1 n1 c1 g' B k' d,A = some ⟨b,off,none⟩ ∧ FracC m (.agg #[.bool g,.slice A1 n1 c1,.bool g',.slice B k' d]) q ∧ m.rangeAt b (off + k * 4) [.bool g,.slice A1 n1 c1,.bool g',.slice B k' d] := by
 obtain ⟨b,off,v,e,hv,_,hr⟩ := ListV.at_ h (by omega) hk
 obtain ⟨g,A1,n1,c1,g',B,k',d,rfl,hv⟩ := hv.lit
 exact ⟨b,off,g,A1,n1,c1,g',B,k',d,e,hv,hr⟩

theorem r_SameList (a b : Value) (qs : List Rat) (w m : World) (hV : Vw m w) (ha : FracL m a qs) (hb : FracL m b qs) (hf : ∀ q ∈ qs,Fit 200 q) (hl : qs.length ≤ 1000000) :
  Calls Tryz.prog 21 #[a,b] w (RetV w m fun _ r => r = .bool true) := by
 obtain ⟨A,c,rfl,hc,ha⟩ := ha.lit
 obtain ⟨B,d,rfl,hd,hb⟩ := hb.lit
 have hL := Loc.start hV
 clear hV
 have HF := Lib.hid hf
 clear hf
 generalize hn : qs.length = n at *
 have HN := Lib.hid hn
 clear hn
 have hnn : ((n : Int) != (n : Int)) = false := by simp
 go_enter Tryz.func21,Tryz.ntmps21
 go_wp2_with (first | go_skip | refine tN ?_)
 go_loopw [5] (fun i wr => ∃ (k : Nat) (mm : World),k ≤ n ∧ i = .int .i64 k ∧ Loc w m wr mm [] ∧ Ext m mm) (fun i _ => n - (intOf i).toNat)
 case atStart => exact ⟨0,m,Nat.zero_le _,rfl,hL,Ext.refl _⟩
 case round =>
  clear hL
  obtain ⟨k,mm,hk,rfl,hL,hM⟩ := hrel
  by_cases hlt : k < n
  ·obtain ⟨x,hx⟩ := at_some HN hlt
   obtain ⟨b1,o1,g1,A1,n1,c1,g1',B1,k1,d1,rfl,ha1,hr1⟩ := FracL.at_ ha hx
   obtain ⟨b2,o2,g2,A2,n2,c2,g2',B2,k2,d2,rfl,hb1,hr2⟩ := FracL.at_ hb hx
   have HX : Hid (Fit 200 x) := HF.out x (List.mem_of_getElem? hx)
   clear hx
   go_upto_region 6 with ((first | go_skip | refine tN ?_))
   (try simp only [eq_self] at *)
   refine wp_region_by2 10 [false,false,false,false,false,false,false,false,false,false] [false,false,false,false,false,false,false,false,false,false] [(fun v _ _ => v = ?c6_0),(fun v _ _ => v = ?c6_1),(fun v _ _ => v = ?c6_2),(fun v _ _ => v = ?c6_3),(fun v _ _ => v = ?c6_4),(fun v _ _ => v = ?c6_5),(fun v _ _ => v = ?c6_6),(fun v _ _ => v = ?c6_7),Is (.bool true),(fun v _ _ => v = ?c6_9)] hL.vw mixed [17,18,19,20,21,22,23,24,25,26] _ (by kernel_rfl) (fun vs => by simp only [lay,Act.put,zq1,zq2,zq3];rfl) (by kernel_rfl) (by decide) (by decide) ?s6 ?l6 ?r6
   case s6 =>
    refine ⟨?_,?_,?_,?_,?_,?_,?_,?_,?_,?_,trivial⟩
    ·intro vs W1 m1 hE hM hV hD;clear hD
     exact sPw
    ·intro vs W1 m1 hE hM hV hD;clear hD
     exact sPw
    ·intro vs W1 m1 hE hM hV hD;obtain ⟨⟨_,_,-,-,f17⟩,⟨_,_,-,-,f18⟩,-⟩ := hD
     rw [(f17 : vs 17 = _),(f18 : vs 18 = _)];clear f17 f18;exact sIy
    ·intro vs W1 m1 hE hM hV hD;obtain ⟨⟨_,_,-,-,f19⟩,-⟩ := hD
     rw [(f19 : vs 19 = _)];clear f19;exact sLe
    ·intro vs W1 m1 hE hM hV hD;clear hD
     exact sPw
    ·intro vs W1 m1 hE hM hV hD;clear hD
     exact sPw
    ·intro vs W1 m1 hE hM hV hD;obtain ⟨⟨_,_,-,-,f21⟩,⟨_,_,-,-,f22⟩,-⟩ := hD
     rw [(f21 : vs 21 = _),(f22 : vs 22 = _)];clear f21 f22;exact sIy
    ·intro vs W1 m1 hE hM hV hD;obtain ⟨⟨_,_,-,-,f23⟩,-⟩ := hD
     rw [(f23 : vs 23 = _)];clear f23;exact sLe
    ·intro vs W1 m1 hE hM hV hD;obtain ⟨⟨_,_,-,-,f20⟩,⟨_,_,-,-,f24⟩,-⟩ := hD
     rw [(f20 : vs 20 = _),(f24 : vs 24 = _)]
     clear f20 f24
     go_wp2_with fail
     refine (r_Same _ _ x _ _ hV (ha1.le leX) (hb1.le leX) (HX.out.mono (by decide))).mono ?_
     rintro e W2 ⟨v,m2,rfl,hE2,hM2,hV2,h⟩
     go_wp2_with fail
     refine One2.call hE2 hM2 hV2 ?_;first | exact h | exact rfl
    ·intro vs W1 m1 hE hM hV hD;obtain ⟨⟨_,_,-,-,f25⟩,-⟩ := hD
     rw [(f25 : vs 25 = _)];clear f25;exact sPw
   case l6 =>
    refine ⟨nF,nF,nF,nF,nF,nF,nF,nF,nF,nF,trivial⟩
   intro vs W1 m1 hE hM hV hF hD
   clear hD
   obtain ⟨⟨_,_,-,-,f17⟩,⟨_,_,-,-,f18⟩,⟨_,_,-,-,f19⟩,⟨_,_,-,-,f20⟩,⟨_,_,-,-,f21⟩,⟨_,_,-,-,f22⟩,⟨_,_,-,-,f23⟩,⟨_,_,-,-,f24⟩,⟨_,_,-,-,f25⟩,⟨_,_,-,-,f26⟩,-⟩ := hF
   replace hL := hL.call hE hM hV
   have f17 : vs 17 = _ := f17
   generalize vs 17 = x17 at f17 ⊢
   subst x17
   have f18 : vs 18 = _ := f18
   generalize vs 18 = x18 at f18 ⊢
   subst x18
   have f19 : vs 19 = _ := f19
   generalize vs 19 = x19 at f19 ⊢
   subst x19
   have f20 : vs 20 = _ := f20
   generalize vs 20 = x20 at f20 ⊢
   subst x20
   have f21 : vs 21 = _ := f21
   generalize vs 21 = x21 at f21 ⊢
   subst x21
   have f22 : vs 22 = _ := f22
   generalize vs 22 = x22 at f22 ⊢
   subst x22
   have f23 : vs 23 = _ := f23
   generalize vs 23 = x23 at f23 ⊢
   subst x23
   have f24 : vs 24 = _ := f24
   generalize vs 24 = x24 at f24 ⊢
   subst x24
   have f25 : vs 25 = _ := f25
   generalize vs 25 = x25 at f25 ⊢
   subst x25
   have f26 : vs 26 = _ := f26
   generalize vs 26 = x26 at f26 ⊢
   subst x26
   clear hE hV
   simp only [List.drop_succ_cons,List.drop_zero]
   go_wp2_with (first | go_skip | refine tN ?_)
   refine QN.mk ?_
   go_wp2_with (first | go_skip | refine tN ?_)
   go_roundw
   case rel => exact ⟨k + 1,_,by omega,by go_num,hL,hL.mext⟩
   case measure => simp [intOf] <;> omega
  ·go_wp2_with (first | go_skip | refine tN ?_)
   go_ret
   exact RetV.mk hL rfl
end Go.Proofs.YtabmjadcoepbeaaGreat

/- Contracts of pairingref27.SameCuts (equal lists), SameDecisions. -/
namespace Go.Proofs.YtabmjadcoepbeaaGreat
open Go.RowKit

abbrev Cut := List Int × Int
def CutR (m : World) (v : Value) (x : Cut) : Prop := ∃ s,v = .agg #[s,.int .i64 x.2] ∧ IntL m s x.1 ∧ x.1.length ≤ 1000000
abbrev CutL := ListV (α := Cut) 2 CutR
theorem CutR.le {m m' : World} {v : Value} {x : Cut} (h : CutR m v x) (hb : Le m m') : CutR m' v x := by
 obtain ⟨s,e,h,hl⟩ := h
 exact ⟨s,e,IntL.le h hb,hl⟩
theorem CutL.le {m m' : World} {v : Value} {xs : List Cut} (h : CutL m v xs) (hb : Le m m') : CutL m' v xs := ListV.le (fun _ _ _ _ h hb => h.le hb) h hb
theorem CutL.at_ {m : World} {A : Option Addr} {n c : Nat} {xs : List Cut} (h : CutL m (.slice A n c) xs) {k : Nat} {x : Cut} (hk : xs[k]? = some x) :
  ∃ b off A1 c1,A = some ⟨b,off,none⟩ ∧ IntL m (.slice A1 x.1.length c1) x.1 ∧ x.1.length ≤ 1000000 ∧ x.1.length ≤ c1 ∧ m.cell? ⟨b,off + k * 2,none⟩ = some (.slice A1 x.1.length c1) ∧ m.cell? ⟨b,off + k * 2 + 1,none⟩ = some (.int .i64 x.2) ∧
   m.rangeAt b (off + k * 2) [.slice A1 x.1.length c1,.int .i64 x.2] := by
 obtain ⟨b,off,v,e,⟨s,rfl,hs,hl⟩,_,hr⟩ := ListV.at_ h (by omega) hk
 obtain ⟨A1,c1,rfl,hc1,hs⟩ := hs.lit
 exact ⟨b,off,A1,c1,e,hs,hl,hc1,by simpa using hr 0 _ rfl,hr 1 _ rfl,hr⟩

theorem r_SameCuts (a b : Value) (xs : List Cut) (w m : World) (hV : Vw m w) (ha : CutL m a xs) (hb : CutL m b xs) (hl : xs.length ≤ 1000000) :
  Calls Tryz.prog 56 #[a,b] w (RetV w m fun _ r => r = .bool true) := by
 obtain ⟨A,c,rfl,hc,ha⟩ := ha.lit
 obtain ⟨B,d,rfl,hd,hb⟩ := hb.lit
 have hL := Loc.start hV
 clear hV
 generalize hn : xs.length = n at *
 have HN := Lib.hid hn
 clear hn
 have hnn : ((n : Int) != (n : Int)) = false := by simp
 go_enter Tryz.func56,Tryz.ntmps56
 go_wp2_with (first | go_skip | refine tN ?_)
 go_loopw [5] (fun i wr => ∃ (k : Nat) (mm : World),k ≤ n ∧ i = .int .i64 k ∧ Loc w m wr mm [] ∧ Ext m mm) (fun i _ => n - (intOf i).toNat)
 case atStart => exact ⟨0,m,Nat.zero_le _,rfl,hL,Ext.refl _⟩
 case round =>
  clear hL
  obtain ⟨k,mm,hk,rfl,hL,hM⟩ := hrel
  by_cases hlt : k < n
  ·obtain ⟨⟨r,dv⟩,hx⟩ := at_some HN hlt
   obtain ⟨b1,o1,A1,c1,rfl,hs1,hl1,hc1,hp1,hq1,-⟩ := CutL.at_ ha hx
   obtain ⟨b2,o2,A2,c2,rfl,hs2,hl2,hc2,hp2,hq2,-⟩ := CutL.at_ hb hx
   clear hx
   simp only at hs1 hl1 hc1 hp1 hq1 hs2 hl2 hc2 hp2 hq2
   have hxx : (dv != dv) = false := by simp
   have hll := Lib.hid hl1
   clear hl1 hl2
   go_upto_region 6 with ((first | go_skip | refine tN ?_))
   (try simp only [eq_self] at *)
   refine wp_region_by2 25 [false,false,false,false,false,false,false,false,false,false,false,false,false,false,false,false,false,false,false,false,false,false,false,false,false] [false,false,false,false,false,false,false,false,false,false,false,false,false,false,false,false,false,false,false,false,false,false,false,false,false] [(fun v _ _ => v = ?c6_0),(fun v _ _ => v = ?c6_1),(fun v _ _ => v = ?c6_2),(fun v _ _ => v = ?c6_3),(fun v _ _ => v = ?c6_4),(fun v _ _ => v = ?c6_5),(fun v _ _ => v = ?c6_6),(fun v _ _ => v = ?c6_7),(fun v _ _ => v = ?c6_8),(fun v _ _ => v = ?c6_9),(fun v _ _ => v = ?c6_10),(fun v _ _ => v = ?c6_11),(fun v _ _ => v = ?c6_12),(fun v _ _ => v = ?c6_13),(fun v _ _ => v = ?c6_14),(fun v _ _ => v = ?c6_15),(fun v _ _ => v = ?c6_16),(fun v _ _ => v = ?c6_17),(fun v _ _ => v = ?c6_18),(fun v _ _ => v = ?c6_19),(fun v _ _ => v = ?c6_20),(fun v _ _ => v = ?c6_21),Is (.bool true),(fun v _ _ => v = ?c6_23),(fun v _ _ => v = ?c6_24)] hL.vw mixed [17,18,19,20,21,22,23,24,25,26,27,28,29,30,31,32,33,34,35,36,37,38,39,40,41] _ (by kernel_rfl) (fun vs => by simp only [lay,Act.put,zq1,zq2,zq3];rfl) (by kernel_rfl) (by decide) (by decide) ?s6 ?l6 ?r6
   case s6 =>
    refine ⟨?_,?_,?_,?_,?_,?_,?_,?_,?_,?_,?_,?_,?_,?_,?_,?_,?_,?_,?_,?_,?_,?_,?_,?_,?_,trivial⟩
    ·intro vs W1 m1 hE hM hV hD;clear hD
     exact sPw
    ·intro vs W1 m1 hE hM hV hD;clear hD
     exact sPw
    ·intro vs W1 m1 hE hM hV hD;obtain ⟨⟨_,_,-,-,f17⟩,⟨_,_,-,-,f18⟩,-⟩ := hD
     rw [(f17 : vs 17 = _),(f18 : vs 18 = _)];clear f17 f18;exact sIy
    ·intro vs W1 m1 hE hM hV hD;obtain ⟨⟨_,_,-,-,f19⟩,-⟩ := hD
     rw [(f19 : vs 19 = _)];clear f19;exact sFe
    ·intro vs W1 m1 hE hM hV hD;obtain ⟨⟨_,_,-,-,f20⟩,-⟩ := hD
     rw [(f20 : vs 20 = _)];clear f20;exact sLe
    ·intro vs W1 m1 hE hM hV hD;clear hD
     exact sPw
    ·intro vs W1 m1 hE hM hV hD;clear hD
     exact sPw
    ·intro vs W1 m1 hE hM hV hD;obtain ⟨⟨_,_,-,-,f22⟩,⟨_,_,-,-,f23⟩,-⟩ := hD
     rw [(f22 : vs 22 = _),(f23 : vs 23 = _)];clear f22 f23;exact sIy
    ·intro vs W1 m1 hE hM hV hD;obtain ⟨⟨_,_,-,-,f24⟩,-⟩ := hD
     rw [(f24 : vs 24 = _)];clear f24;exact sFe
    ·intro vs W1 m1 hE hM hV hD;obtain ⟨⟨_,_,-,-,f25⟩,-⟩ := hD
     rw [(f25 : vs 25 = _)];clear f25;exact sLe
    ·intro vs W1 m1 hE hM hV hD;obtain ⟨⟨_,_,-,-,f21⟩,⟨_,_,-,-,f26⟩,-⟩ := hD
     rw [(f21 : vs 21 = _),(f26 : vs 26 = _)];clear f21 f26;exact sPw
    ·intro vs W1 m1 hE hM hV hD;obtain ⟨⟨_,_,-,-,f27⟩,-⟩ := hD
     rw [(f27 : vs 27 = _)];clear f27;exact sPw
    ·intro vs W1 m1 hE hM hV hD;obtain ⟨⟨_,_,-,-,f28⟩,-⟩ := hD
     rw [(f28 : vs 28 = _)];clear f28;exact sPw
    ·intro vs W1 m1 hE hM hV hD;obtain ⟨⟨_,_,-,-,f28⟩,-⟩ := hD
     rw [(f28 : vs 28 = _)];clear f28;exact sPw
    ·intro vs W1 m1 hE hM hV hD;obtain ⟨⟨_,_,-,-,f29⟩,⟨_,_,-,-,f30⟩,⟨_,_,-,-,f28⟩,-⟩ := hD
     rw [(f29 : vs 29 = _),(f30 : vs 30 = _),(f28 : vs 28 = _)];clear f29 f30 f28;exact sIy
    ·intro vs W1 m1 hE hM hV hD;obtain ⟨⟨_,_,-,-,f31⟩,⟨_,_,-,-,f28⟩,-⟩ := hD
     rw [(f31 : vs 31 = _),(f28 : vs 28 = _)];clear f31 f28;exact sFe
    ·intro vs W1 m1 hE hM hV hD;obtain ⟨⟨_,_,-,-,f32⟩,⟨_,_,-,-,f28⟩,-⟩ := hD
     rw [(f32 : vs 32 = _),(f28 : vs 28 = _)];clear f32 f28;exact sLe
    ·intro vs W1 m1 hE hM hV hD;obtain ⟨⟨_,_,-,-,f28⟩,-⟩ := hD
     rw [(f28 : vs 28 = _)];clear f28;exact sPw
    ·intro vs W1 m1 hE hM hV hD;obtain ⟨⟨_,_,-,-,f28⟩,-⟩ := hD
     rw [(f28 : vs 28 = _)];clear f28;exact sPw
    ·intro vs W1 m1 hE hM hV hD;obtain ⟨⟨_,_,-,-,f34⟩,⟨_,_,-,-,f35⟩,⟨_,_,-,-,f28⟩,-⟩ := hD
     rw [(f34 : vs 34 = _),(f35 : vs 35 = _),(f28 : vs 28 = _)];clear f34 f35 f28;exact sIy
    ·intro vs W1 m1 hE hM hV hD;obtain ⟨⟨_,_,-,-,f36⟩,⟨_,_,-,-,f28⟩,-⟩ := hD
     rw [(f36 : vs 36 = _),(f28 : vs 28 = _)];clear f36 f28;exact sFe
    ·intro vs W1 m1 hE hM hV hD;obtain ⟨⟨_,_,-,-,f37⟩,⟨_,_,-,-,f28⟩,-⟩ := hD
     rw [(f37 : vs 37 = _),(f28 : vs 28 = _)];clear f37 f28;exact sLe
    ·intro vs W1 m1 hE hM hV hD;obtain ⟨⟨_,_,-,-,f33⟩,⟨_,_,-,-,f38⟩,⟨_,_,-,-,f28⟩,-,-⟩ := hD
     rw [(f33 : vs 33 = _),(f38 : vs 38 = _),(f28 : vs 28 = _)]
     clear f33 f38 f28
     go_wp2_with fail
     refine (r_SameInts _ _ r _ _ hV (IntL.le hs1 leX) (IntL.le hs2 leX) hll.out).mono ?_
     rintro e W2 ⟨v,m2,rfl,hE2,hM2,hV2,h⟩
     go_wp2_with fail
     refine One2.call hE2 hM2 hV2 ?_;first | exact h | exact rfl
    ·intro vs W1 m1 hE hM hV hD;obtain ⟨⟨_,_,-,-,f39⟩,⟨_,_,-,-,f28⟩,-⟩ := hD
     rw [(f39 : vs 39 = _),(f28 : vs 28 = _)];clear f39 f28;exact sPw
    ·intro vs W1 m1 hE hM hV hD;obtain ⟨⟨_,_,-,-,f28⟩,⟨_,_,-,-,f40⟩,-⟩ := hD
     rw [(f28 : vs 28 = _),(f40 : vs 40 = _)];clear f28 f40;exact sPw
   case l6 =>
    refine ⟨nF,nF,nF,nF,nF,nF,nF,nF,nF,nF,nF,nF,nF,nF,nF,nF,nF,nF,nF,nF,nF,nF,nF,nF,nF,trivial⟩
   intro vs W1 m1 hE hM hV hF hD
   clear hD
   obtain ⟨⟨_,_,-,-,f17⟩,⟨_,_,-,-,f18⟩,⟨_,_,-,-,f19⟩,⟨_,_,-,-,f20⟩,⟨_,_,-,-,f21⟩,⟨_,_,-,-,f22⟩,⟨_,_,-,-,f23⟩,⟨_,_,-,-,f24⟩,⟨_,_,-,-,f25⟩,⟨_,_,-,-,f26⟩,⟨_,_,-,-,f27⟩,⟨_,_,-,-,f28⟩,⟨_,_,-,-,f29⟩,⟨_,_,-,-,f30⟩,⟨_,_,-,-,f31⟩,⟨_,_,-,-,f32⟩,⟨_,_,-,-,f33⟩,⟨_,_,-,-,f34⟩,⟨_,_,-,-,f35⟩,⟨_,_,-,-,f36⟩,⟨_,_,-,-,f37⟩,⟨_,_,-,-,f38⟩,⟨_,_,-,-,f39⟩,⟨_,_,-,-,f40⟩,⟨_,_,-,-,f41⟩,-⟩ := hF
   replace hL := hL.call hE hM hV
   have f17 : vs 17 = _ := f17
   generalize vs 17 = x17 at f17 ⊢
   subst x17
   have f18 : vs 18 = _ := f18
   generalize vs 18 = x18 at f18 ⊢
   subst x18
   have f19 : vs 19 = _ := f19
   generalize vs 19 = x19 at f19 ⊢
   subst x19
   have f20 : vs 20 = _ := f20
   generalize vs 20 = x20 at f20 ⊢
   subst x20
   have f21 : vs 21 = _ := f21
   generalize vs 21 = x21 at f21 ⊢
   subst x21
   have f22 : vs 22 = _ := f22
   generalize vs 22 = x22 at f22 ⊢
   subst x22
   have f23 : vs 23 = _ := f23
   generalize vs 23 = x23 at f23 ⊢
   subst x23
   have f24 : vs 24 = _ := f24
   generalize vs 24 = x24 at f24 ⊢
   subst x24
   have f25 : vs 25 = _ := f25
   generalize vs 25 = x25 at f25 ⊢
   subst x25
   have f26 : vs 26 = _ := f26
   generalize vs 26 = x26 at f26 ⊢
   subst x26
   have f27 : vs 27 = _ := f27
   generalize vs 27 = x27 at f27 ⊢
   subst x27
   have f28 : vs 28 = _ := f28
   generalize vs 28 = x28 at f28 ⊢
   subst x28
   have f29 : vs 29 = _ := f29
   generalize vs 29 = x29 at f29 ⊢
   subst x29
   have f30 : vs 30 = _ := f30
   generalize vs 30 = x30 at f30 ⊢
   subst x30
   have f31 : vs 31 = _ := f31
   generalize vs 31 = x31 at f31 ⊢
   subst x31
   have f32 : vs 32 = _ := f32
   generalize vs 32 = x32 at f32 ⊢
   subst x32
   have f33 : vs 33 = _ := f33
   generalize vs 33 = x33 at f33 ⊢
   subst x33
   have f34 : vs 34 = _ := f34
   generalize vs 34 = x34 at f34 ⊢
   subst x34
   have f35 : vs 35 = _ := f35
   generalize vs 35 = x35 at f35 ⊢
   subst x35
   have f36 : vs 36 = _ := f36
   generalize vs 36 = x36 at f36 ⊢
   subst x36
   have f37 : vs 37 = _ := f37
   generalize vs 37 = x37 at f37 ⊢
   subst x37
   have f38 : vs 38 = _ := f38
   generalize vs 38 = x38 at f38 ⊢
   subst x38
   have f39 : vs 39 = _ := f39
   generalize vs 39 = x39 at f39 ⊢
   subst x39
   have f40 : vs 40 = _ := f40
   generalize vs 40 = x40 at f40 ⊢
   subst x40
   have f41 : vs 41 = _ := f41
   generalize vs 41 = x41 at f41 ⊢
   subst x41
   clear hE hV
   simp only [List.drop_succ_cons,List.drop_zero]
   go_wp2_with (first | go_skip | refine tN ?_)
   refine QN.mk ?_
   go_wp2_with (first | go_skip | refine tN ?_)
   go_roundw
   case rel => exact ⟨k + 1,_,by omega,by go_num,hL,hL.mext⟩
   case measure => simp [intOf] <;> omega
  ·go_wp2_with (first | go_skip | refine tN ?_)
   go_ret
   exact RetV.mk hL rfl
end Go.Proofs.YtabmjadcoepbeaaGreat

/- Contracts of pairingref27.SameDecisions, slices.Equal. -/
namespace Go.Proofs.YtabmjadcoepbeaaGreat
open Go.RowKit

abbrev Dec := Int × Int × Bool
def DecR (_ : World) (v : Value) (x : Dec) : Prop := v = .agg #[.int .i64 x.1,.int .i64 x.2.1,.bool x.2.2]
abbrev DecL := ListV (α := Dec) 3 DecR
theorem DecL.le {m m' : World} {v : Value} {xs : List Dec} (h : DecL m v xs) (hb : Le m m') : DecL m' v xs := ListV.le (fun _ _ _ _ h _ => h) h hb
theorem DecL.at_ {m : World} {A : Option Addr} {n c : Nat} {xs : List Dec} (h : DecL m (.slice A n c) xs) {k : Nat} {x : Dec} (hk : xs[k]? = some x) :
  ∃ b off,A = some ⟨b,off,none⟩ ∧ m.rangeAt b (off + k * 3) [.int .i64 x.1,.int .i64 x.2.1,.bool x.2.2] := by
 obtain ⟨b,off,v,e,rfl,_,hr⟩ := ListV.at_ h (by omega) hk
 exact ⟨b,off,e,hr⟩
theorem lists_step {α : Type} {xs ys : List α} {k : Nat} {x y : α} (h : ∀ j,j < k → xs[j]? = ys[j]?) (hx : xs[k]? = some x) (hy : ys[k]? = some y) (e : x = y) : ∀ j,j < k + 1 → xs[j]? = ys[j]? := by
 intro j hj
 by_cases hjk : j = k
 ·subst hjk;rw [hx,hy,e]
 ·exact h j (by omega)
theorem lists_eq {α : Type} {xs ys : List α} {k n : Nat} (hx : xs.length = n) (hy : ys.length = n) (hk : ¬ k < n) (h : ∀ j,j < k → xs[j]? = ys[j]?) : xs = ys := by
 apply List.ext_getElem?
 intro j
 by_cases hj : j < k
 ·exact h j hj
 ·rw [List.getElem?_eq_none (by omega),List.getElem?_eq_none (by omega)]

theorem dec_hS : Tryz.prog.underlying 117 = some (.struct (Tryz.prog.fieldsOf 117)) := by kernel_rfl
theorem dec_hp : Tryz.prog.stoodInHeld 117 = false := by kernel_rfl
theorem dec_hg : Tryz.prog.eqGuardType Tryz.prog.depth 117 = false := by kernel_rfl
theorem dec_eq (x1 x2 y1 y2 : Int) (x3 y3 : Bool) (w : World) : (Op.equalIn 10000 117 (.agg #[.int .i64 x1,.int .i64 x2,.bool x3]) (.agg #[.int .i64 y1,.int .i64 y2,.bool y3])).run Tryz.prog w = .ok (decide ((x1,x2,x3) = (y1,y2,y3))) w := by
 rw [show (10000 : Nat) = 9999 + 1 from rfl,run_equalIn_agg w 9999 117 _ _ dec_hS dec_hp]
 simp only [Program.fieldsOf,Tryz.underlying117]
 go_simp
 by_cases h1 : x1 = y1 <;> by_cases h2 : x2 = y2 <;> cases x3 <;> cases y3 <;> simp [h1,h2]
theorem dec_neq {x1 x2 y1 y2 : Int} {x3 y3 : Bool} {b : Bool} (h : decide ((x1,x2,x3) = (y1,y2,y3)) = !b) (w : World) : (binOp .neq 117 (.agg #[.int .i64 x1,.int .i64 x2,.bool x3]) (.agg #[.int .i64 y1,.int .i64 y2,.bool y3])).run Tryz.prog w = .ok (.bool b) w := by
 rw [run_neq_struct,dec_eq,h]
 simp

theorem r_SameDecisions (a b : Value) (xs ys : List Dec) (w m : World) (hV : Vw m w) (ha : DecL m a xs) (hb : DecL m b ys) (hl : xs.length ≤ 1000000) (hl' : ys.length ≤ 1000000) :
  Calls Tryz.prog 57 #[a,b] w (RetV w m fun _ r => r = .bool (decide (xs = ys))) := by
 obtain ⟨A,c,rfl,hc,ha⟩ := ha.lit
 obtain ⟨B,d,rfl,hd,hb⟩ := hb.lit
 have hL := Loc.start hV
 clear hV
 by_cases hne : xs.length = ys.length
 ·rw [← hne] at hd hb ⊢
  clear hl'
  have HN' : Hid (ys.length = xs.length) := hne.symm
  clear hne
  generalize hn : xs.length = n at *
  have HN := Lib.hid hn
  clear hn
  have hnn : ((n : Int) != (n : Int)) = false := by simp
  go_enter Tryz.func57,Tryz.ntmps57
  go_wp2_with (first | go_skip | refine tN ?_)
  go_loopw [5] (fun i wr => ∃ (k : Nat) (mm : World),k ≤ n ∧ i = .int .i64 k ∧ Loc w m wr mm [] ∧ Hid (∀ j,j < k → xs[j]? = ys[j]?)) (fun i _ => n - (intOf i).toNat)
  case atStart => exact ⟨0,m,Nat.zero_le _,rfl,hL,fun j hj => by omega⟩
  case round =>
   clear hL
   obtain ⟨k,mm,hk,rfl,hL,HJ⟩ := hrel
   have hM := hL.mext
   by_cases hlt : k < n
   ·obtain ⟨⟨x1,x2,x3⟩,hx⟩ := at_some HN hlt
    obtain ⟨⟨y1,y2,y3⟩,hy⟩ := at_some HN' hlt
    obtain ⟨b1,o1,rfl,hr1⟩ := DecL.at_ ha hx
    obtain ⟨b2,o2,rfl,hr2⟩ := DecL.at_ hb hy
    have HX := Lib.hid hx
    have HY := Lib.hid hy
    clear hx hy
    simp only at hr1 hr2
    have q2 : ∀ w x y xs ys,(eqGuard .neq 117 x y (.agg xs) (.agg ys)).run Tryz.prog w = .ok () w := fun w x y xs ys => run_eqGuard_agg w _ _ _ _ _ _ dec_hg
    by_cases he : (x1,x2,x3) = (y1,y2,y3)
    ·have q1 := fun w => dec_neq (b := false) (decide_eq_true he) w
     have HE := Lib.hid he
     clear he
     go_upto_region 6 with ((first | go_skip | refine tN ?_))
     (try simp only [eq_self] at *)
     refine wp_region_by2 9 [false,false,false,false,false,false,false,false,false] [false,false,false,false,false,false,false,false,false] [(fun v _ _ => v = ?c6_0),(fun v _ _ => v = ?c6_1),(fun v _ _ => v = ?c6_2),(fun v _ _ => v = ?c6_3),(fun v _ _ => v = ?c6_4),(fun v _ _ => v = ?c6_5),(fun v _ _ => v = ?c6_6),(fun v _ _ => v = ?c6_7),(fun v _ _ => v = ?c6_8)] hL.vw mixed [17,18,19,20,21,22,23,24,25] _ (by kernel_rfl) (fun vs => by simp only [lay,Act.put,zq1,zq2,zq3];rfl) (by kernel_rfl) (by decide) (by decide) ?s6 ?l6 ?r6
     case s6 =>
      refine ⟨?_,?_,?_,?_,?_,?_,?_,?_,?_,trivial⟩
      ·intro vs W1 m1 hE hM hV hD;clear hD
       exact sPw
      ·intro vs W1 m1 hE hM hV hD;clear hD
       exact sPw
      ·intro vs W1 m1 hE hM hV hD;obtain ⟨⟨_,_,-,-,f17⟩,⟨_,_,-,-,f18⟩,-⟩ := hD
       rw [(f17 : vs 17 = _),(f18 : vs 18 = _)];clear f17 f18;exact sIy
      ·intro vs W1 m1 hE hM hV hD;obtain ⟨⟨_,_,-,-,f19⟩,-⟩ := hD
       rw [(f19 : vs 19 = _)];clear f19;exact sLe
      ·intro vs W1 m1 hE hM hV hD;clear hD
       exact sPw
      ·intro vs W1 m1 hE hM hV hD;clear hD
       exact sPw
      ·intro vs W1 m1 hE hM hV hD;obtain ⟨⟨_,_,-,-,f21⟩,⟨_,_,-,-,f22⟩,-⟩ := hD
       rw [(f21 : vs 21 = _),(f22 : vs 22 = _)];clear f21 f22;exact sIy
      ·intro vs W1 m1 hE hM hV hD;obtain ⟨⟨_,_,-,-,f23⟩,-⟩ := hD
       rw [(f23 : vs 23 = _)];clear f23;exact sLe
      ·intro vs W1 m1 hE hM hV hD;obtain ⟨⟨_,_,-,-,f20⟩,⟨_,_,-,-,f24⟩,-⟩ := hD
       rw [(f20 : vs 20 = _),(f24 : vs 24 = _)];clear f20 f24;exact sPw
     case l6 =>
      refine ⟨nF,nF,nF,nF,nF,nF,nF,nF,nF,trivial⟩
     intro vs W1 m1 hE hM hV hF hD
     clear hD
     obtain ⟨⟨_,_,-,-,f17⟩,⟨_,_,-,-,f18⟩,⟨_,_,-,-,f19⟩,⟨_,_,-,-,f20⟩,⟨_,_,-,-,f21⟩,⟨_,_,-,-,f22⟩,⟨_,_,-,-,f23⟩,⟨_,_,-,-,f24⟩,⟨_,_,-,-,f25⟩,-⟩ := hF
     replace hL := hL.call hE hM hV
     have f17 : vs 17 = _ := f17
     generalize vs 17 = x17 at f17 ⊢
     subst x17
     have f18 : vs 18 = _ := f18
     generalize vs 18 = x18 at f18 ⊢
     subst x18
     have f19 : vs 19 = _ := f19
     generalize vs 19 = x19 at f19 ⊢
     subst x19
     have f20 : vs 20 = _ := f20
     generalize vs 20 = x20 at f20 ⊢
     subst x20
     have f21 : vs 21 = _ := f21
     generalize vs 21 = x21 at f21 ⊢
     subst x21
     have f22 : vs 22 = _ := f22
     generalize vs 22 = x22 at f22 ⊢
     subst x22
     have f23 : vs 23 = _ := f23
     generalize vs 23 = x23 at f23 ⊢
     subst x23
     have f24 : vs 24 = _ := f24
     generalize vs 24 = x24 at f24 ⊢
     subst x24
     have f25 : vs 25 = _ := f25
     generalize vs 25 = x25 at f25 ⊢
     subst x25
     clear hE hV
     simp only [List.drop_succ_cons,List.drop_zero]
     go_wp2_with (first | go_skip | refine tN ?_)
     refine QN.mk ?_
     go_wp2_with (first | go_skip | refine tN ?_)
     go_roundw
     case rel => exact ⟨k + 1,_,by omega,by go_num,hL,lists_step HJ.out HX.out HY.out HE.out⟩
     case measure => simp [intOf] <;> omega
    ·have q1 := fun w => dec_neq (b := true) (decide_eq_false he) w
     have E : Hid (decide (xs = ys) = false) := by
      show _ = _
      exact decide_eq_false fun h => he (Option.some.inj (by rw [← HX.out,← HY.out,h]))
     clear he
     go_upto_region 6 with ((first | go_skip | refine tN ?_))
     (try simp only [eq_self] at *)
     refine wp_region_by2 9 [false,false,false,false,false,false,false,false,false] [false,false,false,false,false,false,false,false,false] [(fun v _ _ => v = ?c6_0b),(fun v _ _ => v = ?c6_1b),(fun v _ _ => v = ?c6_2b),(fun v _ _ => v = ?c6_3b),(fun v _ _ => v = ?c6_4b),(fun v _ _ => v = ?c6_5b),(fun v _ _ => v = ?c6_6b),(fun v _ _ => v = ?c6_7b),(fun v _ _ => v = ?c6_8b)] hL.vw mixed [17,18,19,20,21,22,23,24,25] _ (by kernel_rfl) (fun vs => by simp only [lay,Act.put,zq1,zq2,zq3];rfl) (by kernel_rfl) (by decide) (by decide) ?s6b ?l6b ?r6b
     case s6b =>
      refine ⟨?_,?_,?_,?_,?_,?_,?_,?_,?_,trivial⟩
      ·intro vs W1 m1 hE hM hV hD;clear hD
       exact sPw
      ·intro vs W1 m1 hE hM hV hD;clear hD
       exact sPw
      ·intro vs W1 m1 hE hM hV hD;obtain ⟨⟨_,_,-,-,f17⟩,⟨_,_,-,-,f18⟩,-⟩ := hD
       rw [(f17 : vs 17 = _),(f18 : vs 18 = _)];clear f17 f18;exact sIy
      ·intro vs W1 m1 hE hM hV hD;obtain ⟨⟨_,_,-,-,f19⟩,-⟩ := hD
       rw [(f19 : vs 19 = _)];clear f19;exact sLe
      ·intro vs W1 m1 hE hM hV hD;clear hD
       exact sPw
      ·intro vs W1 m1 hE hM hV hD;clear hD
       exact sPw
      ·intro vs W1 m1 hE hM hV hD;obtain ⟨⟨_,_,-,-,f21⟩,⟨_,_,-,-,f22⟩,-⟩ := hD
       rw [(f21 : vs 21 = _),(f22 : vs 22 = _)];clear f21 f22;exact sIy
      ·intro vs W1 m1 hE hM hV hD;obtain ⟨⟨_,_,-,-,f23⟩,-⟩ := hD
       rw [(f23 : vs 23 = _)];clear f23;exact sLe
      ·intro vs W1 m1 hE hM hV hD;obtain ⟨⟨_,_,-,-,f20⟩,⟨_,_,-,-,f24⟩,-⟩ := hD
       rw [(f20 : vs 20 = _),(f24 : vs 24 = _)];clear f20 f24;exact sPw
     case l6b =>
      refine ⟨nF,nF,nF,nF,nF,nF,nF,nF,nF,trivial⟩
     intro vs W1 m1 hE hM hV hF hD
     clear hD
     obtain ⟨⟨_,_,-,-,f17⟩,⟨_,_,-,-,f18⟩,⟨_,_,-,-,f19⟩,⟨_,_,-,-,f20⟩,⟨_,_,-,-,f21⟩,⟨_,_,-,-,f22⟩,⟨_,_,-,-,f23⟩,⟨_,_,-,-,f24⟩,⟨_,_,-,-,f25⟩,-⟩ := hF
     replace hL := hL.call hE hM hV
     have f17 : vs 17 = _ := f17
     generalize vs 17 = x17 at f17 ⊢
     subst x17
     have f18 : vs 18 = _ := f18
     generalize vs 18 = x18 at f18 ⊢
     subst x18
     have f19 : vs 19 = _ := f19
     generalize vs 19 = x19 at f19 ⊢
     subst x19
     have f20 : vs 20 = _ := f20
     generalize vs 20 = x20 at f20 ⊢
     subst x20
     have f21 : vs 21 = _ := f21
     generalize vs 21 = x21 at f21 ⊢
     subst x21
     have f22 : vs 22 = _ := f22
     generalize vs 22 = x22 at f22 ⊢
     subst x22
     have f23 : vs 23 = _ := f23
     generalize vs 23 = x23 at f23 ⊢
     subst x23
     have f24 : vs 24 = _ := f24
     generalize vs 24 = x24 at f24 ⊢
     subst x24
     have f25 : vs 25 = _ := f25
     generalize vs 25 = x25 at f25 ⊢
     subst x25
     clear hE hV
     simp only [List.drop_succ_cons,List.drop_zero]
     go_wp2_with (first | go_skip | refine tN ?_)
     refine QN.mk ?_
     go_wp2_with (first | go_skip | refine tN ?_)
     go_ret
     exact RetV.mk hL (congrArg Value.bool E.out.symm)
   ·have E : Hid (decide (xs = ys) = true) := by show _ = _;exact decide_eq_true (lists_eq HN.out HN'.out hlt HJ.out)
    go_wp2_with (first | go_skip | refine tN ?_)
    go_ret
    exact RetV.mk hL (congrArg Value.bool E.out.symm)
 ·have E : Hid (decide (xs = ys) = false) := by show _ = _;exact decide_eq_false (fun h => hne (by rw [h]))
  have hnn : ((xs.length : Int) != (ys.length : Int)) = true := by simp;omega
  generalize xs.length = n1 at *
  generalize ys.length = n2 at *
  clear hne
  go_enter Tryz.func57,Tryz.ntmps57
  go_wp2_with (first | go_skip | refine tN ?_)
  go_ret
  exact RetV.mk hL (congrArg Value.bool E.out.symm)
end Go.Proofs.YtabmjadcoepbeaaGreat

/- slices.Clone of numbers and decisions. -/
namespace Go.Proofs.YtabmjadcoepbeaaGreat
open Go.RowKit

theorem row_empty (e : TypeId) (size g : Nat) : Row e size (.slice (some ⟨g,0,none⟩) 0 0) 0 [] [(g,e,#[])] := ⟨by simp,.inr ⟨g,0,#[],rfl,rfl,Nat.le_refl _,by decide,by simp,by simp⟩⟩
theorem ListV.nil_of {α : Type} {size : Nat} {R : World → Value → α → Prop} {m : World} {n c : Nat} {xs : List α} (h0 : 0 < size) (h : ListV size R m (.slice none n c) xs) : xs = [] := by
 cases hx : xs with
 | nil => rfl
 | cons x l =>
  obtain ⟨b,off,v,e,_⟩ := ListV.at_ h h0 (k := 0) (x := x) (by simp [hx])
  cases e

theorem s_CloneInts (v : Value) (xs : List Int) (w m : World) (hV : Vw m w) (h : IntL m v xs) (hl : xs.length ≤ 1000) :
  Calls Tryz.prog 67 #[v] w (RetV w m fun m' r => IntL m' r xs) := by
 have h' := h
 obtain ⟨A,c,vs,rfl,hc,h1,hs,h2⟩ := h
 have q35 : ∀ (w : World) (a : Option Addr) (n c n' c' : Nat),(binOp .eql 22 (.slice a n c) (.slice none n' c')).run Tryz.prog w = .ok (.bool a.isNone) w := fun w a n c n' c' => Lib.run_eql_slice_nil w _ _ a n c n' c' Tryz.underlying22
 have hL := Loc.start hV
 cases A with
 | none =>
  have h0 := ListV.nil_of (by omega) h'
  subst h0
  simp only [List.length_nil]
  clear hs hc hl h1 h2 h'
  go_enter Tryz.func67,Tryz.ntmps67
  go_wp2
  go_ret
  exact RetV.mk hL ListV.nil
 | some ad =>
  have hvl : vs.length = xs.length := h2.length
  have hcl := cellsOf_length h1
  have HC : Hid ((cellsOf vs).all (·.oneCell') = true) := by
   show _ = true
   refine List.all_eq_true.2 fun u hu => ?_
   obtain ⟨x,hx,hu⟩ := List.mem_flatMap.1 hu
   obtain ⟨k,hk⟩ := List.mem_iff_getElem?.1 hx
   obtain ⟨y,rfl⟩ := All2.left h2 hk
   simp [Value.cells] at hu
   subst hu;rfl
  generalize hn : xs.length = n at *
  have HN := Lib.hid hn
  have HL := Lib.hid hl
  have HH : Hid ((cellsOf vs).length = n * 1) := by show _ = _;rw [hcl,hvl]
  have H1 := Lib.hid h1
  have H2 := Lib.hid h2
  have HV := Lib.hid hvl
  clear hn hl hcl h1 h2 hvl h'
  clear hV
  go_enter Tryz.func67,Tryz.ntmps67
  go_wp2_with (at_builtin;go_must (refine wl_append (A := []) (hL.alloc #[] 3) (row_empty 3 1 _) (wanted_none rfl) rfl ap_ints (by omega) rfl rfl HH.out ((hs.le hL.vw.le).ext (Ext.new _ _)) HC.out (by have := HL.out;omega) (by omega) ?_);intro v1 W1 m1 R1 hL1 hR1 hM1)
  go_ret
  simp only [Nat.zero_add,List.nil_append] at hR1
  obtain ⟨m2,B,c2,hL2,hle,rfl,hc2,hs2,-⟩ := Loc.show (A := []) hL1 hR1
  exact RetV.mk hL2 (ListV.mk hc2 HV.out H1.out hs2 (H2.out.mono fun _ _ h => h))

theorem s_CloneDecs (v : Value) (xs : List Dec) (w m : World) (hV : Vw m w) (h : DecL m v xs) (hl : xs.length ≤ 1000) :
  Calls Tryz.prog 46 #[v] w (RetV w m fun m' r => DecL m' r xs) := by
 have h' := h
 obtain ⟨A,c,vs,rfl,hc,h1,hs,h2⟩ := h
 have q35 : ∀ (w : World) (a : Option Addr) (n c n' c' : Nat),(binOp .eql 42 (.slice a n c) (.slice none n' c')).run Tryz.prog w = .ok (.bool a.isNone) w := fun w a n c n' c' => Lib.run_eql_slice_nil w _ _ a n c n' c' Tryz.underlying42
 have hL := Loc.start hV
 cases A with
 | none =>
  have h0 := ListV.nil_of (by omega) h'
  subst h0
  simp only [List.length_nil]
  clear hs hc hl h1 h2 h'
  go_enter Tryz.func46,Tryz.ntmps46
  go_wp2
  go_ret
  exact RetV.mk hL ListV.nil
 | some ad =>
  have hvl : vs.length = xs.length := h2.length
  have hcl := cellsOf_length h1
  have HC : Hid ((cellsOf vs).all (·.oneCell') = true) := by
   show _ = true
   refine List.all_eq_true.2 fun u hu => ?_
   obtain ⟨x,hx,hu⟩ := List.mem_flatMap.1 hu
   obtain ⟨k,hk⟩ := List.mem_iff_getElem?.1 hx
   obtain ⟨y,rfl⟩ := All2.left h2 hk
   simp [Value.cells] at hu
   rcases hu with rfl | rfl | rfl <;> rfl
  generalize hn : xs.length = n at *
  have HN := Lib.hid hn
  have HL := Lib.hid hl
  have HH : Hid ((cellsOf vs).length = n * 3) := by show _ = _;rw [hcl,hvl]
  have H1 := Lib.hid h1
  have H2 := Lib.hid h2
  have HV := Lib.hid hvl
  clear hn hl hcl h1 h2 hvl h'
  clear hV
  go_enter Tryz.func46,Tryz.ntmps46
  go_wp2_with (at_builtin;go_must (refine wl_append (A := []) (hL.alloc #[] 117) (row_empty 117 3 _) (wanted_none rfl) rfl ap_Decs (by omega) rfl rfl HH.out ((hs.le hL.vw.le).ext (Ext.new _ _)) HC.out (by have := HL.out;omega) (by omega) ?_);intro v1 W1 m1 R1 hL1 hR1 hM1)
  go_ret
  simp only [Nat.zero_add,List.nil_append] at hR1
  obtain ⟨m2,B,c2,hL2,hle,rfl,hc2,hs2,-⟩ := Loc.show (A := []) hL1 hR1
  exact RetV.mk hL2 (ListV.mk hc2 HV.out H1.out hs2 (H2.out.mono fun _ _ h => h))
end Go.Proofs.YtabmjadcoepbeaaGreat

/- Rows that are made with their whole length and filled one by one; memory that a callee leaves to its caller. No program. -/
namespace Go.Proofs.YtabmjadcoepbeaaGreat
open Go.RowKit

theorem splice_at (ws : List Value) : ∀ (o : Nat) (cs : Array Value),o + ws.length ≤ cs.size → ∀ j : Nat,(splice cs o ws)[j]? = if o ≤ j ∧ j < o + ws.length then ws[j - o]? else cs[j]? := by
 induction ws with
 | nil => intro o cs _ j;simp [splice];omega
 | cons v ws ih =>
  intro o cs h j
  simp only [List.length_cons] at h
  rw [splice,ih (o + 1) _ (by simp;omega),Array.getElem?_setIfInBounds]
  simp only [List.length_cons]
  by_cases h1 : o + 1 ≤ j ∧ j < o + 1 + ws.length
  ·rw [if_pos h1,if_pos (by omega)]
   obtain ⟨i,rfl⟩ : ∃ i,j = o + 1 + i := ⟨j - (o + 1),by omega⟩
   rw [show o + 1 + i - (o + 1) = i by omega,show o + 1 + i - o = i + 1 by omega]
   simp
  ·rw [if_neg h1]
   by_cases h2 : o = j
   ·subst h2
    rw [if_pos rfl,if_pos (by omega),if_pos (by omega)]
    simp
   ·rw [if_neg h2,if_neg (by omega)]

def RowP {α : Type} (size : Nat) (R : World → Value → α → Prop) (m : World) (k : Nat) (cur : Array Value) (xs : List α) : Prop :=
 cur.size = xs.length * size ∧ ∃ vs,cur.toList.take (k * size) = cellsOf vs ∧ vs.length = k ∧ (∀ u ∈ vs,u.cells.size = size) ∧ All2 (R m) vs (xs.take k)
theorem RowP.zero {α : Type} {size : Nat} {R : World → Value → α → Prop} {m : World} {cur : Array Value} {xs : List α} (h : cur.size = xs.length * size) : RowP size R m 0 cur xs :=
 ⟨h,[],by simp [cellsOf],rfl,(fun _ h => by cases h),by simp [All2]⟩
theorem RowP.le {α : Type} {size : Nat} {R : World → Value → α → Prop} (hR : ∀ m m' v x,R m v x → Le m m' → R m' v x) {m m' : World} {k : Nat} {cur : Array Value} {xs : List α} (h : RowP size R m k cur xs) (hb : Le m m') : RowP size R m' k cur xs := by
 obtain ⟨h0,vs,h1,h2,h3,h4⟩ := h
 exact ⟨h0,vs,h1,h2,h3,h4.mono fun v x hv => hR m m' v x hv hb⟩
theorem RowP.step {α : Type} {size : Nat} {R : World → Value → α → Prop} {m : World} {k : Nat} {cur : Array Value} {xs : List α} (h : RowP size R m k cur xs) {ws : List Value} {x : α} (hx : xs[k]? = some x) (hw : ws.length = size) (hv : R m (.agg ws.toArray) x) :
  RowP size R m (k + 1) (splice cur (0 + k * size) ws) xs := by
 obtain ⟨h0,vs,h1,h2,h3,h4⟩ := h
 have hk : k < xs.length := (List.getElem?_eq_some_iff.1 hx).1
 have hfit : k * size + size ≤ cur.size := by rw [h0,← Nat.succ_mul];exact Nat.mul_le_mul_right _ hk
 refine ⟨by rw [splice_size];exact h0,vs ++ [.agg ws.toArray],?_,by simp [h2],?_,?_⟩
 ·rw [cellsOf_append,cellsOf_one,← h1,Nat.zero_add]
  apply List.ext_getElem?
  intro j
  rw [List.getElem?_take,Array.getElem?_toList,splice_at ws _ _ (by rw [hw];exact hfit),Nat.succ_mul]
  have hl : (cur.toList.take (k * size)).length = k * size := by rw [List.length_take];simp;omega
  by_cases hj : j < k * size
  ·rw [if_pos (by omega),if_neg (by omega),List.getElem?_append_left (by omega),List.getElem?_take,if_pos hj,Array.getElem?_toList]
  ·rw [List.getElem?_append_right (by omega),hl]
   by_cases hj2 : j < k * size + size
   ·rw [if_pos hj2,if_pos (by omega)]
    simp [Value.cells]
   ·rw [if_neg hj2,List.getElem?_eq_none]
    simp [Value.cells];omega
 ·intro u hu
  rcases List.mem_append.1 hu with hu | hu
  ·exact h3 u hu
  ·rcases List.mem_singleton.1 hu with rfl
   simpa [Value.cells] using hw
 ·rw [List.take_add_one,hx]
  exact h4.snoc hv
def RowF {α : Type} (size : Nat) (R : World → Value → α → Prop) (m : World) (cur : Array Value) (xs : List α) : Prop :=
 ∃ vs,cur.toList = cellsOf vs ∧ (∀ u ∈ vs,u.cells.size = size) ∧ All2 (R m) vs xs
theorem RowF.le {α : Type} {size : Nat} {R : World → Value → α → Prop} (hR : ∀ m m' v x,R m v x → Le m m' → R m' v x) {m m' : World} {cur : Array Value} {xs : List α} (h : RowF size R m cur xs) (hb : Le m m') : RowF size R m' cur xs := by
 obtain ⟨vs,h1,h3,h4⟩ := h
 exact ⟨vs,h1,h3,h4.mono fun v x hv => hR m m' v x hv hb⟩
theorem RowP.done {α : Type} {size : Nat} {R : World → Value → α → Prop} {m : World} {k n : Nat} {cur : Array Value} {xs : List α} (h : RowP size R m k cur xs) (hn : xs.length = n) (hk : ¬ k < n) : RowF size R m cur xs := by
 obtain ⟨h0,vs,h1,h2,h3,h4⟩ := h
 have hl := h4.length
 have hkn : k = xs.length := by
  rw [List.length_take] at hl
  omega
 refine ⟨vs,?_,h3,?_⟩
 ·rw [← h1,List.take_of_length_le]
  simp [h0,hkn]
 ·rwa [hkn,List.take_length] at h4
theorem RowF.size {α : Type} {size : Nat} {R : World → Value → α → Prop} {m : World} {cur : Array Value} {xs : List α} (h : RowF size R m cur xs) : cur.size = xs.length * size := by
 obtain ⟨vs,h1,h3,h4⟩ := h
 have := cellsOf_length h3
 rw [← h1,h4.length] at this
 simpa using this
theorem Loc.showF {α : Type} {size : Nat} {R : World → Value → α → Prop} (hR : ∀ m m' v x,R m v x → Le m m' → R m' v x) {w0 m0 W m : World} {A : List Lo} {g : Nat} {t : TypeId} {cur : Array Value} (hL : Loc w0 m0 W m (A ++ [(g,t,cur)])) {xs : List α} (h : RowF size R m cur xs) {n : Nat} (hn : xs.length = n) :
  ∃ m',Loc w0 m0 W m' A ∧ Le m m' ∧ ListV size R m' (.slice (some ⟨g,0,none⟩) n n) xs := by
 obtain ⟨m',h1,h2,h3⟩ := hL.show1 cur.size
 obtain ⟨vs,e1,e3,e4⟩ := h
 refine ⟨m',h1,h2,ListV.mk (Nat.le_refl _) (e4.length.trans hn) e3 ?_ (e4.mono fun v x hv => hR m m' v x hv h2)⟩
 rw [← e1]
 rwa [List.take_of_length_le (by simp)] at h3
theorem All2.set {α : Type} {R : Value → α → Prop} : ∀ {vs : List Value} {xs : List α},All2 R vs xs → ∀ {k : Nat} {v : Value} {x : α},R v x → All2 R (vs.set k v) (xs.set k x)
 | v :: vs,x :: xs,h,0,_,_,hv => ⟨hv,h.2⟩
 | v :: vs,x :: xs,h,k + 1,_,_,hv => ⟨h.1,All2.set h.2 hv⟩
 | [],[],_,_,_,_,_ => trivial
 | [],_ :: _,h,_,_,_,_ => h.elim
 | _ :: _,[],h,_,_,_,_ => h.elim
theorem cellsOf_set {size : Nat} : ∀ {vs : List Value} {k : Nat} {ws : List Value},(∀ u ∈ vs,u.cells.size = size) → ws.length = size → k < vs.length → ∀ j : Nat,(cellsOf (vs.set k (.agg ws.toArray)))[j]? = if k * size ≤ j ∧ j < k * size + size then ws[j - k * size]? else (cellsOf vs)[j]?
 | [],k,ws,_,_,hk,_ => by simp at hk
 | u :: vs,0,ws,h,hw,hk,j => by
  have hl : u.cells.toList.length = size := by simpa using h u (by simp)
  simp only [List.set_cons_zero,cellsOf,List.flatMap_cons,Nat.zero_mul,Nat.zero_add,Nat.zero_le,true_and,Nat.sub_zero]
  by_cases hj : j < size
  ·rw [if_pos hj,List.getElem?_append_left (by simpa [Value.cells,hw] using hj)]
   simp [Value.cells]
  ·rw [if_neg hj,List.getElem?_append_right (by simpa [Value.cells,hw] using hj),List.getElem?_append_right (by omega),hl]
   simp [Value.cells,hw]
 | u :: vs,k + 1,ws,h,hw,hk,j => by
  have hl : u.cells.toList.length = size := by simpa using h u (by simp)
  have ih := cellsOf_set (vs := vs) (k := k) (ws := ws) (fun x hx => h x (by simp [hx])) hw (by simpa using hk)
  simp only [cellsOf] at ih
  simp only [List.set_cons_succ,cellsOf,List.flatMap_cons,Nat.succ_mul]
  by_cases hj : j < size
  ·rw [List.getElem?_append_left (by omega),List.getElem?_append_left (by omega),if_neg (by omega)]
  ·rw [List.getElem?_append_right (by omega),List.getElem?_append_right (by omega),hl,ih (j - size)]
   by_cases hc : k * size ≤ j - size ∧ j - size < k * size + size
   ·rw [if_pos hc,if_pos (by omega),show j - size - k * size = j - (k * size + size) by omega]
   ·rw [if_neg hc,if_neg (by omega)]
theorem RowF.set {α : Type} {size : Nat} {R : World → Value → α → Prop} {m : World} {k : Nat} {cur : Array Value} {xs : List α} (h : RowF size R m cur xs) {ws : List Value} {x : α} (hk : k < xs.length) (hw : ws.length = size) (hv : R m (.agg ws.toArray) x) :
  RowF size R m (splice cur (0 + k * size) ws) (xs.set k x) := by
 have hsz := h.size
 obtain ⟨vs,h1,h3,h4⟩ := h
 have hl := h4.length
 have hfit : k * size + size ≤ cur.size := by rw [hsz,← Nat.succ_mul];exact Nat.mul_le_mul_right _ hk
 refine ⟨vs.set k (.agg ws.toArray),?_,?_,h4.set hv⟩
 ·apply List.ext_getElem?
  intro j
  rw [Array.getElem?_toList,Nat.zero_add,splice_at ws _ _ (by rw [hw];exact hfit),cellsOf_set h3 hw (by omega),hw,← h1]
  simp
 ·intro u hu
  rcases List.mem_or_eq_of_mem_set hu with hu | rfl
  ·exact h3 u hu
  ·simpa [Value.cells] using hw
theorem RowF.at_ {α : Type} {size : Nat} {R : World → Value → α → Prop} {m : World} {cur : Array Value} {xs : List α} (h : RowF size R m cur xs) {k : Nat} {x : α} (hk : xs[k]? = some x) :
  ∃ v,R m v x ∧ v.cells.size = size ∧ ∀ j,j < size → cur[0 + k * size + j]? = v.cells[j]? := by
 obtain ⟨vs,h1,h3,h4⟩ := h
 obtain ⟨v,hv,hR⟩ := h4.at_ hk
 refine ⟨v,hR,h3 v (List.mem_of_getElem? hv),fun j hj => ?_⟩
 have := cellsOf_at h3 hv j hj
 rw [← h1,Array.getElem?_toList] at this
 rw [Nat.zero_add,this,Array.getElem?_toList]

theorem ne0 {g : Nat} : ∀ y ∈ ([] : List Lo),some g ≠ some y.1 := fun _ h => by cases h
theorem neS {g : Nat} {x : Lo} {l : List Lo} (h : g ≠ x.1) (k : ∀ y ∈ l,some g ≠ some y.1) : ∀ y ∈ x :: l,some g ≠ some y.1 := fun y hy => by
 rcases List.mem_cons.1 hy with rfl | hy
 ·exact fun e => h (Option.some.inj e)
 ·exact k y hy
section
variable {P : Program} {ops : Array Oper} {Q : Exit → Act → World → Prop} {rest : List Oper} {o : Oper} {a : Act} {w0 m0 W m : World} {Ls : List Lo}
theorem wl_indexAddrA (hw : Region.wanted o (yielded ops a.tmps) = true) {t : TypeId} {s i : Operand} (ho : o.op = .indexAddr t s i) {e : TypeId} {size bytes zs : Nat} (hap : apS P t = some (e,size,bytes,zs))
  {A : Option Addr} {b off n c k : Nat} {kd : IntKind} (hs : a.eval s = .slice A n c) (hA : Hid (A = some ⟨b,off,none⟩)) (hi : a.eval i = .int kd k) (hk : k < n)
  (h : wpList P ops Q rest (a.put o.dst (.pointer (some ⟨b,off + k * size,none⟩))) W) : wpList P ops Q (o :: rest) a W := by
 rw [hA.out] at hs
 exact wl_indexAddr hw ho hap hs hi hk h
theorem wl_storeR (hL : Loc w0 m0 W m Ls) (hw : Region.wanted o (yielded ops a.tmps) = true) {ty : TypeId} {x y : Operand} (ho : o.op = .store ty x y) {g off : Nat} (hx : a.eval x = .pointer (some ⟨g,off,none⟩)) {vs : List Value}
  (hy : a.eval y = .agg vs.toArray) {k : Nat} (hty : agS P ty = some k) (hk : vs.length = k) {n : Nat} {t : TypeId} {cs : Array Value} (hn : Ls[n]? = some (g,t,cs)) (hfit : off + k ≤ cs.size) (h1 : vs.all (·.oneCell') = true)
  (h : ∀ W',Loc w0 m0 W' m (Ls.set n (g,t,splice cs off vs)) → wpList P ops Q rest (a.put o.dst undef) W') : wpList P ops Q (o :: rest) a W :=
 wl_store hL hw ho hx hy hty hk hn (by rw [hk];exact hfit) h1 h
theorem wl_loadR (hL : Loc w0 m0 W m Ls) (hw : Region.wanted o (yielded ops a.tmps) = true) {ty : TypeId} {x : Operand} (ho : o.op = .load ty x) {g off : Nat} (hx : a.eval x = .pointer (some ⟨g,off,none⟩)) {k : Nat} (hty : agS P ty = some k)
  {n : Nat} {t : TypeId} {cs : Array Value} (hn : Ls[n]? = some (g,t,cs)) {vs : List Value} (hr : ∀ j,j < k → cs[off + j]? = vs[j]?) (hk : vs.length = k)
  (h : wpList P ops Q rest (a.put o.dst (.agg vs.toArray)) W) : wpList P ops Q (o :: rest) a W :=
 wpList_wanted hw fun _ hK => op_load ho hx (vs := vs) (hk ▸ hty) (fun j v hv => by
  have hj : j < k := by rw [← hk];exact (List.getElem?_eq_some_iff.1 hv).1
  rw [(hL.at_ hn).cell,hr j hj,hv]) (hK _ _ h)
theorem t_ixaA {t : TypeId} {s i : Operand} (ho : o.op = .indexAddr t s i) {e : TypeId} {size bytes : Nat} [hap : ApC P t e size bytes] {A : Option Addr} {b off n c k : Nat} {kd : IntKind} (hs : a.eval s = .slice A n c) (hi : a.eval i = .int kd k)
  (h : wpList P ops Q rest (a.put o.dst (.pointer (some ⟨b,off + k * size,none⟩))) W) (hA : Hid (A = some ⟨b,off,none⟩) := by with_reducible assumption) (hk : k < n := by first | with_reducible assumption | omega)
  (hw : Region.wanted o (yielded ops a.tmps) = true := by first | exact wanted_none rfl | exact wanted_some rfl rfl rfl rfl) : wpList P ops Q (o :: rest) a W := wl_indexAddrA hw ho hap.h hs hA hi hk h
theorem t_storeR (hL : Loc w0 m0 W m Ls) {ty : TypeId} {x y : Operand} (ho : o.op = .store ty x y) {g off : Nat} (hx : a.eval x = .pointer (some ⟨g,off,none⟩)) {vs : List Value} (hy : a.eval y = .agg vs.toArray) {k : Nat} [hty : AgC P ty k] {n : Nat} {t : TypeId} {cs : Array Value}
  (h : ∀ W',Loc w0 m0 W' m (Ls.set n (g,t,splice cs off vs)) → wpList P ops Q rest (a.put o.dst undef) W')
  (hn : Ls[n]? = some (g,t,cs) ∧ off + k ≤ cs.size ∧ vs.length = k ∧ vs.all (·.oneCell') = true := by refine ⟨?_,?_,?_,?_⟩;(first | with_reducible exact lo0 | with_reducible exact lo1 | with_reducible exact lo2 | with_reducible exact lo3 | with_reducible exact lo4 | with_reducible exact lo5 | with_reducible exact lo6 | with_reducible exact lo7 | with_reducible exact lo8 | with_reducible exact lo9 | with_reducible exact lo10 | with_reducible exact lo11);(with_reducible assumption);exact rfl;exact rfl)
  (hw : Region.wanted o (yielded ops a.tmps) = true := by first | exact wanted_none rfl | exact wanted_some rfl rfl rfl rfl) : wpList P ops Q (o :: rest) a W := wl_storeR hL hw ho hx hy hty.h hn.2.2.1 hn.1 hn.2.1 hn.2.2.2 h
theorem t_loadR (hL : Loc w0 m0 W m Ls) {ty : TypeId} {x : Operand} (ho : o.op = .load ty x) {g off : Nat} (hx : a.eval x = .pointer (some ⟨g,off,none⟩)) {k : Nat} [hty : AgC P ty k] {n : Nat} {t : TypeId} {cs : Array Value} {vs : List Value}
  (h : wpList P ops Q rest (a.put o.dst (.agg vs.toArray)) W) (hn : Ls[n]? = some (g,t,cs) ∧ (∀ j,j < k → cs[off + j]? = vs[j]?) ∧ vs.length = k := by refine ⟨?_,?_,?_⟩;(first | with_reducible exact lo0 | with_reducible exact lo1 | with_reducible exact lo2 | with_reducible exact lo3 | with_reducible exact lo4 | with_reducible exact lo5 | with_reducible exact lo6 | with_reducible exact lo7 | with_reducible exact lo8 | with_reducible exact lo9 | with_reducible exact lo10 | with_reducible exact lo11);(with_reducible assumption);exact rfl)
  (hw : Region.wanted o (yielded ops a.tmps) = true := by first | exact wanted_none rfl | exact wanted_some rfl rfl rfl rfl) : wpList P ops Q (o :: rest) a W := wl_loadR hL hw ho hx hty.h hn.1 hn.2.1 hn.2.2 h
end
end Go.Proofs.YtabmjadcoepbeaaGreat

/- Contract of lagrange.copyPrices. -/
namespace Go.Proofs.YtabmjadcoepbeaaGreat
open Go.RowKit

structure Pr where
 fl : List Rat
 cu : List Cut
 cd : List Rat
 de : List Dec
 fr : Bool
def PricesR (m : World) (v : Value) (p : Pr) : Prop := ∃ a b c d,v = .agg #[a,b,c,d,.bool p.fr] ∧ FracL m a p.fl ∧ CutL m b p.cu ∧ FracL m c p.cd ∧ DecL m d p.de
theorem PricesR.le {m m' : World} {v : Value} {p : Pr} (h : PricesR m v p) (hb : Le m m') : PricesR m' v p := by
 obtain ⟨a,b,c,d,e,h1,h2,h3,h4⟩ := h
 exact ⟨a,b,c,d,e,FracL.le h1 hb,CutL.le h2 hb,FracL.le h3 hb,DecL.le h4 hb⟩
structure Pr.ok (p : Pr) : Prop where
 fl : ∀ q ∈ p.fl,Sm q.num q.den
 cd : ∀ q ∈ p.cd,Sm q.num q.den
 nf : p.fl.length ≤ 1000
 nc : p.cu.length ≤ 1000
 nd : p.cd.length ≤ 1000
 ne : p.de.length ≤ 1000
 cu : ∀ c ∈ p.cu,c.1.length ≤ 1000
 ap : p.fl.length ≠ p.cd.length
abbrev FrRow := RowF (α := Rat) 4 FracC
theorem FracC.mono (m m' : World) (v : Value) (x : Rat) (h : FracC m v x) (hb : Le m m') : FracC m' v x := h.le hb
theorem CutR.mono (m m' : World) (v : Value) (x : Cut) (h : CutR m v x) (hb : Le m m') : CutR m' v x := h.le hb
theorem frac0 (m : World) : FracS m (.agg #[.bool false,.slice none 0 0,.bool false,.slice none 0 0]) 0 0 := ⟨_,_,_,_,rfl,IntC.nil.toS (by decide),IntC.nil.toS (by decide),by decide,by decide⟩
theorem Loc.sub {w0 m0 W m : World} {A B : List Lo} (h : Loc w0 m0 W m A) (hs : B.Sublist A) : Loc w0 m0 W m B :=
 ⟨h.size0,h.ext,h.mext,h.vw,fun y hy => h.low y (hs.subset hy),fun y hy => h.blk y (hs.subset hy),fun y hy => h.hid y (hs.subset hy),h.apart.sublist hs⟩
theorem fin_aggP {P : Program} {fn : Func} {Post : Ending → World → Prop} {w m W mm : World} {Ls : List Lo} (hL : Loc w m W mm Ls) {p : Nat} {ty : TypeId} (hr : fn.results = #[.cell p ty]) {a : Act} (hdf : a.defers = []) {g : Nat}
  (hp : a.tmps.getD p undef = .pointer (some ⟨g,0,none⟩)) {n : Nat} {t : TypeId} {cs : Array Value} (hn : Ls[n]? = some (g,t,cs)) {k : Nat} (hty : agS P ty = some k) (hk : cs.size = k) (h : Post (.returned (.agg cs)) W) :
  bodyPost P fn Post .ret a W := by
 subst hk
 obtain ⟨d,hu,hd,hi⟩ := ag_desc hty
 exact bodyPost_ret (results_cell_row hr _ _ g t cs (0,0) d hp (hL.at_ hn) hu (by cases d <;> first | rfl | exact hd) hi) hdf h
end Go.Proofs.YtabmjadcoepbeaaGreat

/- Bounds, the mixture of lists. -/
namespace Go.Proofs.YtabmjadcoepbeaaGreat
open Go.RowKit

def Tn (k : Nat) (q : Rat) : Prop := q.num.natAbs ≤ k ∧ q.den ≤ k
theorem mul_bound (p q : Rat) : (p * q).num.natAbs ≤ p.num.natAbs * q.num.natAbs ∧ (p * q).den ≤ p.den * q.den := by
 have hp : (0 : Int) < (p.den : Int) * q.den := Int.mul_pos (by have := p.den_pos;omega) (by have := q.den_pos;omega)
 have e : p * q = Rat.divInt (p.num * q.num) ((p.den : Int) * q.den) := by
  conv => lhs;rw [← Rat.num_divInt_den p,← Rat.num_divInt_den q]
  rw [Rat.divInt_mul_divInt]
 obtain ⟨h1,h2⟩ := frac_pos (x := p.num * q.num) hp
 rw [← e] at h1 h2
 constructor
 ·rw [h1,← Int.natAbs_mul]
  exact Int.natAbs_ediv_le_natAbs _ _
 ·have h3 : (p * q).den = ((p * q).den : Int).natAbs := rfl
  have h4 : p.den * q.den = ((p.den : Int) * q.den).natAbs := by simp [Int.natAbs_mul]
  rw [h3,h4,h2]
  exact Int.natAbs_ediv_le_natAbs _ _
theorem Tn.sm {k : Nat} {q : Rat} (h : Tn k q) (hk : k < 1073741824) : Sm q.num q.den := ⟨by have := h.1;omega,by have := h.2;omega⟩
theorem Tn.mul {k l : Nat} {p q : Rat} (h : Tn k p) (h' : Tn l q) : Tn (k * l) (p * q) :=
 ⟨Nat.le_trans (mul_bound p q).1 (Nat.mul_le_mul h.1 h'.1),Nat.le_trans (mul_bound p q).2 (Nat.mul_le_mul h.2 h'.2)⟩
theorem Tn.divInt {x y : Int} {k : Nat} (hy : 0 < y) (hx : x.natAbs ≤ k) (hk : y ≤ k) : Tn k (Rat.divInt x y) := by
 obtain ⟨h1,h2⟩ := frac_pos (x := x) hy
 refine ⟨?_,?_⟩
 ·rw [h1];exact Nat.le_trans (Int.natAbs_ediv_le_natAbs _ _) hx
 ·have h3 : (Rat.divInt x y).den = ((Rat.divInt x y).den : Int).natAbs := rfl
  rw [h3,h2]
  refine Nat.le_trans (Int.natAbs_ediv_le_natAbs _ _) (by omega)
theorem RowF.at4 {m : World} {cur : Array Value} {xs : List Rat} (h : FrRow m cur xs) {k : Nat} {x : Rat} (hk : xs[k]? = some x) :
  ∃ g A n c g' B k' d,FracC m (.agg #[.bool g,.slice A n c,.bool g',.slice B k' d]) x ∧ ∀ j,j < 4 → cur[0 + k * 4 + j]? = [Value.bool g,.slice A n c,.bool g',.slice B k' d][j]? := by
 obtain ⟨v,hv,hs,hr⟩ := RowF.at_ h hk
 obtain ⟨g,A,n,c,g',B,k',d,rfl,hv⟩ := hv.lit
 exact ⟨g,A,n,c,g',B,k',d,hv,fun j hj => by rw [hr j hj];simp [Value.cells]⟩
structure Pr.tn (p : Pr) : Prop where
 fl : ∀ q ∈ p.fl,Tn 1000 q
 cd : ∀ q ∈ p.cd,Tn 1000 q
end Go.Proofs.YtabmjadcoepbeaaGreat

/- Contract of pairingref27.SamePrices (equal prices). -/
namespace Go.Proofs.YtabmjadcoepbeaaGreat
open Go.RowKit

structure Pr.fit (p : Pr) : Prop where
 fl : ∀ q ∈ p.fl,Fit 200 q
 cd : ∀ q ∈ p.cd,Fit 200 q
 nf : p.fl.length ≤ 1000
 nc : p.cu.length ≤ 1000
 nd : p.cd.length ≤ 1000
 ne : p.de.length ≤ 1000

theorem r_SamePrices (va vb : Value) (p : Pr) (w m : World) (hV : Vw m w) (ha : PricesR m va p) (hb : PricesR m vb p) (ok : p.fit) :
  Calls Tryz.prog 22 #[va,vb] w (RetV w m fun _ r => r = .bool true) := by
 obtain ⟨fl,cu,cd,de,fr⟩ := p
 obtain ⟨a,b,c,d,rfl,a1,a2,a3,a4⟩ := ha
 obtain ⟨a',b',c',d',rfl,b1,b2,b3,b4⟩ := hb
 simp only at a1 a2 a3 a4 b1 b2 b3 b4
 obtain ⟨A1,c1,rfl,-,a1⟩ := a1.lit
 obtain ⟨A2,c2,rfl,-,a2⟩ := a2.lit
 obtain ⟨A3,c3,rfl,-,a3⟩ := a3.lit
 obtain ⟨A4,c4,rfl,-,a4⟩ := a4.lit
 obtain ⟨B1,d1,rfl,-,b1⟩ := b1.lit
 obtain ⟨B2,d2,rfl,-,b2⟩ := b2.lit
 obtain ⟨B3,d3,rfl,-,b3⟩ := b3.lit
 obtain ⟨B4,d4,rfl,-,b4⟩ := b4.lit
 have OK := Lib.hid ok
 have K1 : Hid (fl.length ≤ 1000000) := by show _ ≤ _;have := ok.nf;simp only at this;omega
 have K2 : Hid (cu.length ≤ 1000000) := by show _ ≤ _;have := ok.nc;simp only at this;omega
 have K3 : Hid (cd.length ≤ 1000000) := by show _ ≤ _;have := ok.nd;simp only at this;omega
 have K4 : Hid (de.length ≤ 1000000) := by show _ ≤ _;have := ok.ne;simp only at this;omega
 clear ok
 have KE : Hid (∀ w m a b,Vw m w → DecL m a de → DecL m b de → Calls Tryz.prog 57 #[a,b] w (RetV w m fun _ r => r = .bool true)) := by
  show ∀ w m a b,_
  intro w m a b hV h1 h2
  have := r_SameDecisions a b de de w m hV h1 h2 K4.out K4.out
  rwa [decide_eq_true rfl] at this
 have e4 : (fr == fr) = true := by simp
 have hL := Loc.start hV
 clear hV
 go_enter Tryz.func22,Tryz.ntmps22
 go_wp2_with (first | go_skip | refine tM ?_ | (refine tB ?_;clear hL;intro _ _ hL _))
 refine (r_SameList _ _ fl _ _ hL.vw (FracL.le a1 leX) (FracL.le b1 leX) OK.out.fl K1.out).mono ?_
 rintro e Wc1 ⟨_,mc1,rfl,hE,hMc1,hV,rfl⟩
 replace hL := hL.call hE (by assumption) hV;clear hE hV
 go_wp2_with (first | go_skip | refine tM ?_ | (refine tB ?_;clear hL;intro _ _ hL _))
 refine (r_SameCuts _ _ cu _ _ hL.vw (CutL.le a2 leX) (CutL.le b2 leX) K2.out).mono ?_
 rintro e Wc2 ⟨_,mc2,rfl,hE,hMc2,hV,rfl⟩
 replace hL := hL.call hE (by assumption) hV;clear hE hV
 go_wp2_with (first | go_skip | refine tM ?_ | (refine tB ?_;clear hL;intro _ _ hL _))
 refine (r_SameList _ _ cd _ _ hL.vw (FracL.le a3 leX) (FracL.le b3 leX) OK.out.cd K3.out).mono ?_
 rintro e Wc3 ⟨_,mc3,rfl,hE,hMc3,hV,rfl⟩
 replace hL := hL.call hE (by assumption) hV;clear hE hV
 go_wp2_with (first | go_skip | refine tM ?_ | (refine tB ?_;clear hL;intro _ _ hL _))
 refine (KE.out _ _ _ _ hL.vw (DecL.le a4 leX) (DecL.le b4 leX)).mono ?_
 rintro e Wc4 ⟨_,mc4,rfl,hE,hMc4,hV,rfl⟩
 replace hL := hL.call hE (by assumption) hV;clear hE hV
 go_wp2_with (first | go_skip | refine tM ?_ | (refine tB ?_;clear hL;intro _ _ hL _))
 go_ret
 exact RetV.mk hL rfl
end Go.Proofs.YtabmjadcoepbeaaGreat

/- Contracts of the reference's arithmetic for canonical fractions. -/
namespace Go.Proofs.YtabmjadcoepbeaaGreat
open Go.RowKit

theorem Tn.fit {k : Nat} {q : Rat} (h : Tn k q) (hk : k < 4294967296) : Fit 200 q :=
 Fit.mono (k := 1) ⟨by have := h.1;simp only [Nat.pow_one];omega,by have := h.2;simp only [Nat.pow_one];omega⟩ (by decide)
theorem r_MulC (a b : Value) (p q : Rat) (w m : World) (hV : Vw m w) (ha : FracC m a p) (hb : FracC m b q) (kp : Fit 200 p) (kq : Fit 200 q) :
  Calls Tryz.prog 48 #[a,b] w (RetV w m fun m' r => FracC m' r (p * q)) := r_Mul a b p q w m hV (ha.toV kp (by decide)) (hb.toV kq (by decide)) kp kq
theorem Tn.int {z : Int} {k : Nat} (h : z.natAbs ≤ k) (hk : 1 ≤ k) : Tn k (z : Rat) := ⟨by simpa using h,by simpa using hk⟩
theorem div_mix (num den : Int) : (num : Rat) / (den : Rat) = Rat.divInt num den := (Rat.divInt_eq_div num den).symm
end Go.Proofs.YtabmjadcoepbeaaGreat

/- Contracts of lagrange.Mix where it refuses. -/
namespace Go.Proofs.YtabmjadcoepbeaaGreat
open Go.RowKit

theorem results_cell_tmp {P : Program} {fn : Func} {p k : Tmp} {ty : TypeId} (h : fn.results = #[.cell p ty,.tmp k]) (tmps : Array Value) (w : World) (g : Nat) (t : TypeId) (cs : Array Value) (fr : Nat × Nat) (d : TypeDesc)
  (hp : tmps.getD p undef = .pointer (some ⟨g,0,none⟩)) (hg : w.heap[g]? = some (.cells cs t fr))
  (hu : P.underlying ty = some d) (hd : (match d with | .struct _ | .array _ _ => true | _ => false) = true) (hi : (P.info? ty).map (·.size) = some cs.size) :
  (results fn tmps).run P w = .ok (.tuple #[.agg cs,tmps.getD k undef]) w := by
 have hp' : tmps[p]?.getD undef = .pointer (some ⟨g,0,none⟩) := by simpa using hp
 simp [results,h,hp',asAddr,run_loadVar_row w g t ty cs fr d hg hu hd hi]
theorem fin_aggT {P : Program} {fn : Func} {R : World → Value → Prop} {w m W mm : World} {Ls : List Lo} (hL : Loc w m W mm Ls) {p q : Nat} {ty : TypeId} (hr : fn.results = #[.cell p ty,.tmp q]) {a : Act} (hdf : a.defers = []) {g : Nat}
  (hp : a.tmps.getD p undef = .pointer (some ⟨g,0,none⟩)) {n : Nat} {t : TypeId} {cs : Array Value} (hn : Ls[n]? = some (g,t,cs)) {k : Nat} (hty : agS P ty = some k) (hk : cs.size = k) {u : Value} (hu : a.tmps.getD q undef = u) {m' : World} (hL' : Loc w m W m' []) (h : R m' (.tuple #[.agg cs,u])) :
  bodyPost P fn (RetV w m R) .ret a W := by
 subst hk
 obtain ⟨d,hd',hd,hi⟩ := ag_desc hty
 subst hu
 exact bodyPost_ret (results_cell_tmp hr _ _ g t cs (0,0) d hp (hL.at_ hn) hd' (by cases d <;> first | rfl | exact hd) hi) hdf (RetV.mk hL' h)
def zPr : Value := .agg #[.slice none 0 0,.slice none 0 0,.slice none 0 0,.slice none 0 0,.bool false]

end Go.Proofs.YtabmjadcoepbeaaGreat

/- Lists that are built by append, element by element. No program. -/
namespace Go.Proofs.YtabmjadcoepbeaaGreat
open Go.RowKit

def RowA {α : Type} (e : TypeId) (size : Nat) (R : World → Value → α → Prop) (m : World) (v : Value) (n : Nat) (xs : List α) (Rr : List Lo) : Prop :=
 ∃ vs,Row e size v n (cellsOf vs) Rr ∧ (∀ u ∈ vs,u.cells.size = size) ∧ All2 (R m) vs xs ∧ vs.length = n
theorem RowA.nil {α : Type} {e : TypeId} {size : Nat} {R : World → Value → α → Prop} {m : World} : RowA e size R m (.slice none 0 0) 0 [] [] :=
 ⟨[],by simpa [cellsOf] using Row.nil e size,(fun _ h => by cases h),trivial,rfl⟩
theorem RowA.le {α : Type} {e : TypeId} {size : Nat} {R : World → Value → α → Prop} (hR : ∀ m m' v x,R m v x → Le m m' → R m' v x) {m m' : World} {v : Value} {n : Nat} {xs : List α} {Rr : List Lo} (h : RowA e size R m v n xs Rr) (hb : Le m m') : RowA e size R m' v n xs Rr := by
 obtain ⟨vs,h1,h2,h3,h4⟩ := h
 exact ⟨vs,h1,h2,h3.mono fun v x hv => hR m m' v x hv hb,h4⟩
theorem RowA.snoc {α : Type} {e : TypeId} {size : Nat} {R : World → Value → α → Prop} {m : World} {n : Nat} {xs : List α} {vs : List Value} {ws : List Value} {x : α} {v' : Value} {R' : List Lo}
  (h1 : Row e size v' (n + 1) (cellsOf vs ++ ws) R') (h2 : ∀ u ∈ vs,u.cells.size = size) (h3 : All2 (R m) vs xs) (h4 : vs.length = n) (hw : ws.length = size) (hx : R m (.agg ws.toArray) x) : RowA e size R m v' (n + 1) (xs ++ [x]) R' := by
 refine ⟨vs ++ [.agg ws.toArray],?_,?_,h3.snoc hx,by simp [h4]⟩
 ·rw [cellsOf_append,cellsOf_one]
  simpa [Value.cells] using h1
 ·intro u hu
  rcases List.mem_append.1 hu with hu | hu
  ·exact h2 u hu
  ·rcases List.mem_singleton.1 hu with rfl
   simpa [Value.cells] using hw
theorem RowA.show {α : Type} {e : TypeId} {size : Nat} {R : World → Value → α → Prop} (hR : ∀ m m' v x,R m v x → Le m m' → R m' v x) {w0 m0 W m : World} {A Rr : List Lo} {v : Value} {n : Nat} {xs : List α} (hL : Loc w0 m0 W m (A ++ Rr)) (h : RowA e size R m v n xs Rr) :
  ∃ m',Loc w0 m0 W m' A ∧ Le m m' ∧ ListV size R m' v xs ∧ ∃ cs,W.ownsRow w0.heap.size e size v n cs := by
 obtain ⟨vs,h1,h2,h3,h4⟩ := h
 obtain ⟨m',B,c,hL',hle,rfl,hc,hs,ho⟩ := Loc.show hL h1
 exact ⟨m',hL',hle,ListV.mk hc h4 h2 hs (h3.mono fun v x hv => hR m m' v x hv hle),_,ho⟩
theorem RowA.lit {α : Type} {e : TypeId} {size : Nat} {R : World → Value → α → Prop} {m : World} {v : Value} {n : Nat} {xs : List α} {Rr : List Lo} (h : RowA e size R m v n xs Rr) : ∃ A c,v = .slice A n c ∧ RowA e size R m (.slice A n c) n xs Rr := by
 have h' := h
 obtain ⟨vs,h1,_⟩ := h
 obtain ⟨A,c,rfl,_⟩ := h1.lit
 exact ⟨A,c,rfl,h'⟩
def NewS1 (e : TypeId) (R : World → Value → Prop) (v : Value) (u um : World) : Prop := ∃ g cs,v = .slice (some ⟨g,0,none⟩) 1 1 ∧ Blk u g e cs ∧ R um (.agg cs)
theorem one2_s1 {a : Act} {dst : Option Nat} {W1 m1 : World} {e : TypeId} {R : World → Value → Prop} {cs : Array Value} (hV : Vw m1 W1) (hR : ∀ m',Ext m1 m' → R m' (.agg cs)) :
  One2 (NewS1 e R) false a dst W1 m1 .normal (a.put dst (.slice (some ⟨W1.heap.size,0,none⟩) 1 1)) (W1.alloc (.cells cs e)) := by
 have h := (Loc.start hV).alloc cs e
 exact ⟨rfl,h.ext,_,_,h.mext,h.vw,rfl,⟨W1.heap.size,cs,rfl,Blk.new _ _ _,hR _ h.mext⟩,fun h => by cases h⟩
theorem take_snoc {α : Type} {l : List α} {k : Nat} {x : α} (h : l[k]? = some x) : l.take k ++ [x] = l.take (k + 1) := by rw [List.take_add_one,h];rfl
end Go.Proofs.YtabmjadcoepbeaaGreat

/- Rows that are new and shown at once; slices of one element; a row that is taken out of the list. No program. -/
namespace Go.Proofs.YtabmjadcoepbeaaGreat
open Go.RowKit

theorem Loc.allocV {w0 m0 W m : World} {Ls : List Lo} (h : Loc w0 m0 W m Ls) (cs : Array Value) (t : TypeId) :
  Loc w0 m0 (W.alloc (.cells cs t)) (m.alloc (.cells cs t)) Ls := by
 have hs := h.vw.size
 refine ⟨h.size0,h.ext.alloc _,h.mext.alloc _,⟨h.vw.os,h.vw.tape,h.vw.output,by simp [hs],fun a u hu => ?_⟩,h.low,fun x hx => (h.blk x hx).alloc _,fun x hx a ha => ?_,h.apart⟩
 ·by_cases e : a.block = m.heap.size
  ·obtain ⟨b,o,s⟩ := a
   simp only at e
   subst e
   have b1 := Blk.new m t cs
   have b2 : Blk (W.alloc (.cells cs t)) m.heap.size t cs := by rw [hs];exact Blk.new W t cs
   unfold Blk at b1 b2
   unfold World.cell? at hu ⊢
   rw [b1] at hu
   rw [b2]
   exact hu
  ·exact cell_alloc_old (h.vw.cell _ _ (cell_alloc_iff hu e))
 ·cases hc : (m.alloc (.cells cs t)).cell? a with
  | none => rfl
  | some u =>
   have := cell_alloc_iff hc (by rw [ha,hs];exact Nat.ne_of_lt (h.blk x hx).lt)
   rw [h.hid x hx a ha] at this;cases this
section
variable {P : Program} {ops : Array Oper} {Q : Exit → Act → World → Prop} {rest : List Oper} {o : Oper} {a : Act} {w0 m0 W m : World} {Ls : List Lo}
theorem wl_bslice (hL : Loc w0 m0 W m Ls) (hw : Region.wanted o (yielded ops a.tmps) = true) {t : TypeId} {k : Nat} {parts : Array (Nat × Operand)} (_ho : o.op = .buildSlice t k parts) {n : Nat} {cs : Array Value} {e : TypeId}
  (hrun : ∀ w,(execOp a.eval o).run P w = .ok (.value (.slice (some ⟨w.heap.size,0,none⟩) n n)) (w.alloc (.cells cs e)))
  (h : ∀ W' m',Loc w0 m0 W' m' Ls → Ext m m' → Blk m' W.heap.size e cs → wpList P ops Q rest (a.put o.dst (.slice (some ⟨W.heap.size,0,none⟩) n n)) W') : wpList P ops Q (o :: rest) a W := by
 refine wpList_wanted hw fun _ hK => ?_
 unfold Oper.wp
 rw [hrun W]
 refine hK _ _ (h _ _ (hL.allocV cs e) (Ext.new _ _) ?_)
 rw [← hL.vw.size]
 exact Blk.new m e cs
end

theorem foldl_splice (off : Nat) : ∀ (l : List Value) (k : Nat) (cs : Array Value),(l.zipIdx k).foldl (fun cs (x : Value × Nat) => cs.setIfInBounds (off + x.2) x.1) cs = splice cs (off + k) l
 | [],_,_ => rfl
 | v :: r,k,cs => by
  rw [List.zipIdx_cons,List.foldl_cons,foldl_splice off r (k + 1),splice];rfl
theorem splice_all {ws : List Value} {cs : Array Value} (h : cs.size = ws.length) : splice cs 0 ws = ws.toArray := by
 apply Array.ext_getElem?
 intro j
 rw [splice_at ws 0 cs (by omega)]
 by_cases hj : j < ws.length
 ·rw [if_pos ⟨by omega,by omega⟩];simp
 ·rw [if_neg (by omega)]
  rw [Array.getElem?_eq_none (by omega)];simp;omega
theorem run_bs1 {P : Program} {t e : TypeId} {size bytes : Nat} (hap : apS P t = some (e,size,bytes,size)) (h0 : 0 < size) (h1 : size ≤ 1000) {v : Value} {ws : List Value} (hv : v.cells = ws.toArray) (hw : ws.length = size) (w : World) :
  (Instr.buildSlice t 1 #[(0,v)]).run P w = .ok (.slice (some ⟨w.heap.size,0,none⟩) 1 1) (w.alloc (.cells ws.toArray e)) := by
 obtain ⟨i,z,ht,hi,hz,hs,hb,hzs⟩ := ap_desc hap
 have hle : ¬ (1 * i.size > 2 ^ 24) := by omega
 have hne : ¬ (1 * i.size = 0) := by omega
 have hfill : ∀ cs : Array Value,cs.size = size → Instr.fill (fun j => some (j * i.size,i.size)) cs [(0,v)] = some ws.toArray := by
  intro cs hcs
  unfold Instr.fill
  have e1 : v.cells.size = i.size := by rw [hv];simp [hw,hs]
  simp only [e1,ne_eq,not_true_eq_false,decide_false,Bool.false_or,Nat.zero_mul,Nat.zero_add]
  rw [if_neg (by simp;omega)]
  unfold Instr.fill
  congr 1
  rw [hv]
  have := foldl_splice 0 ws 0 cs
  simp only [Nat.zero_add,Nat.add_zero] at this
  have h2 := splice_all (cs := cs) (ws := ws) (by omega)
  rw [← Array.foldl_toList,Array.toList_zipIdx]
  exact this.trans h2
 have hsz : (sizeOf e).run P w = .ok i.size w := by simp [sizeOf,typeInfo,hi]
 have hzv : (zeroValue e).run P w = .ok z w := by simp [zeroValue,typeInfo,hi,hz]
 unfold Instr.buildSlice
 simp only [Sem.run_bind,run_underlying ht,hsz,Result.andThen_ok]
 rw [if_neg hle,if_neg hne]
 simp only [Sem.run_bind,hzv,Sem.run_pure,Result.andThen_ok]
 rw [hfill _ (by simp [hs])]
 simp [newRow,go_sem]
section
variable {P : Program} {ops : Array Oper} {Q : Exit → Act → World → Prop} {rest : List Oper} {o : Oper} {a : Act} {w0 m0 W m : World} {Ls : List Lo}
theorem wl_bs1 (hL : Loc w0 m0 W m Ls) (hw : Region.wanted o (yielded ops a.tmps) = true) {t : TypeId} {x : Operand} (ho : o.op = .buildSlice t 1 #[(0,x)]) {e : TypeId} {size bytes : Nat} (hap : apS P t = some (e,size,bytes,size)) (h0 : 0 < size) (h1 : size ≤ 1000)
  {v : Value} (hx : a.eval x = v) {ws : List Value} (hv : v.cells = ws.toArray) (hl : ws.length = size)
  (h : ∀ W' m',Loc w0 m0 W' m' Ls → Ext m m' → Blk m' W.heap.size e ws.toArray → wpList P ops Q rest (a.put o.dst (.slice (some ⟨W.heap.size,0,none⟩) 1 1)) W') : wpList P ops Q (o :: rest) a W := by
 refine wl_bslice (e := e) (cs := ws.toArray) (n := 1) hL hw ho (fun w => ?_) h
 unfold execOp
 simp only [ho,List.map_toArray,List.map_cons,List.map_nil,hx,Sem.run_bind,run_bs1 hap h0 h1 hv hl,Result.andThen_ok,Sem.run_pure]
theorem t_bsA (hL : Loc w0 m0 W m Ls) {t : TypeId} {x : Operand} (ho : o.op = .buildSlice t 1 #[(0,x)]) {ws : List Value} (hx : a.eval x = .agg ws.toArray) {e : TypeId} {size bytes : Nat} [hap : ApC P t e size bytes]
  (h : ∀ W' m',Loc w0 m0 W' m' Ls → Ext m m' → Blk m' W.heap.size e ws.toArray → wpList P ops Q rest (a.put o.dst (.slice (some ⟨W.heap.size,0,none⟩) 1 1)) W')
  (hz : 0 < size ∧ size ≤ 1000 ∧ ws.length = size := by refine ⟨by decide,by decide,rfl⟩)
  (hw : Region.wanted o (yielded ops a.tmps) = true := by first | exact wanted_none rfl | exact wanted_some rfl rfl rfl rfl) : wpList P ops Q (o :: rest) a W := wl_bs1 hL hw ho hap.h hz.1 hz.2.1 hx rfl hz.2.2 h
theorem t_bsV (hL : Loc w0 m0 W m Ls) {t : TypeId} {x : Operand} (ho : o.op = .buildSlice t 1 #[(0,x)]) {v : Value} (hx : a.eval x = v) {e : TypeId} {bytes : Nat} [hap : ApC P t e 1 bytes]
  (h : ∀ W' m',Loc w0 m0 W' m' Ls → Ext m m' → Blk m' W.heap.size e #[v] → wpList P ops Q rest (a.put o.dst (.slice (some ⟨W.heap.size,0,none⟩) 1 1)) W')
  (hv : v.cells = #[v] := by exact rfl)
  (hw : Region.wanted o (yielded ops a.tmps) = true := by first | exact wanted_none rfl | exact wanted_some rfl rfl rfl rfl) : wpList P ops Q (o :: rest) a W := wl_bs1 (ws := [v]) hL hw ho hap.h (by omega) (by omega) hx hv rfl h
end
theorem kBs {P : Program} {ops : Array Oper} {Q : Exit → Act → World → Prop} {rest : List Oper} {a : Act} {W : World} {d : Option Tmp} {ty t : TypeId} {pos : String} {af : Array Edge} {gd : Option (Nat × Bool)} {ps : Array (Nat × Operand)} {n : Nat}
  (h : wpList P ops Q (⟨d,.buildSlice t n ps,ty,pos,af,gd⟩ :: rest) a W) : wpList P ops Q (⟨d,.buildSlice t n ps,ty,pos,af,gd⟩ :: rest) a W := h
theorem stA {P : Program} {ops : Array Oper} {Q : Exit → Act → World → Prop} {rest : List Oper} {a : Act} {W : World} {d : Option Tmp} {ty : TypeId} {pos : String} {af : Array Edge} {gd : Option (Nat × Bool)} {xs : Array Operand} {ts : Array TypeId}
  (h : Hid (wpList P ops Q (⟨d,.call { callee := .builtin .append,args := xs,argTypes := ts },ty,pos,af,gd⟩ :: rest) a W)) : wpList P ops Q (⟨d,.call { callee := .builtin .append,args := xs,argTypes := ts },ty,pos,af,gd⟩ :: rest) a W := h
theorem goA {p : Prop} (h : p) : Hid p := h
theorem RowA.snocV {α : Type} {e : TypeId} {size : Nat} {R : World → Value → α → Prop} {m : World} {n : Nat} {xs : List α} {vs : List Value} {v : Value} {x : α} {v' : Value} {R' : List Lo}
  (h1 : Row e size v' (n + 1) (cellsOf vs ++ [v]) R') (h2 : ∀ u ∈ vs,u.cells.size = size) (h3 : All2 (R m) vs xs) (h4 : vs.length = n) (hv : v.cells = #[v]) (hs : size = 1) (hx : R m v x) : RowA e size R m v' (n + 1) (xs ++ [x]) R' := by
 refine ⟨vs ++ [v],?_,?_,h3.snoc hx,by simp [h4]⟩
 ·rw [cellsOf_append,cellsOf_one,hv]
  exact h1
 ·intro u hu
  rcases List.mem_append.1 hu with hu | hu
  ·exact h2 u hu
  ·rcases List.mem_singleton.1 hu with rfl
   rw [hv,hs];rfl
theorem RowA.len {α : Type} {e : TypeId} {size : Nat} {R : World → Value → α → Prop} {m : World} {v : Value} {n : Nat} {xs : List α} {Rr : List Lo} (h : RowA e size R m v n xs Rr) : n = xs.length := by
 obtain ⟨vs,_,_,h3,h4⟩ := h
 rw [← h4,h3.length]
end Go.Proofs.YtabmjadcoepbeaaGreat

/- Contracts of lagrange.smaller (any small parts) and lagrange.Bound without cuts, decisions and columns. -/
namespace Go.Proofs.YtabmjadcoepbeaaGreat
open Go.RowKit

abbrev SF := Int × Int
def SFr (m : World) (v : Value) (p : SF) : Prop := FracS m v p.1 p.2
abbrev SFL := ListV (α := SF) 4 SFr
theorem FracS.lit {m : World} {v : Value} {x y : Int} (h : FracS m v x y) : ∃ g A n c g' B k d,v = .agg #[.bool g,.slice A n c,.bool g',.slice B k d] ∧ FracS m (.agg #[.bool g,.slice A n c,.bool g',.slice B k d]) x y := by
 have h' := h
 obtain ⟨a,b,c,d,rfl,h1,h2,_⟩ := h
 obtain ⟨g,A,n,c',rfl,rfl⟩ := h1.parts'
 obtain ⟨g',B,k,d',rfl,rfl⟩ := h2.parts'
 exact ⟨_,_,_,_,_,_,_,_,rfl,h'⟩
theorem SFL.at_ {m : World} {A : Option Addr} {n c : Nat} {ps : List SF} (h : SFL m (.slice A n c) ps) {k : Nat} {p : SF} (hk : ps[k]? = some p) :
  ∃ b off g A1 n1 c1 g' B k' d,A = some ⟨b,off,none⟩ ∧ FracS m (.agg #[.bool g,.slice A1 n1 c1,.bool g',.slice B k' d]) p.1 p.2 ∧ m.rangeAt b (off + k * 4) [.bool g,.slice A1 n1 c1,.bool g',.slice B k' d] := by
 obtain ⟨b,off,v,e,hv,_,hr⟩ := ListV.at_ h (by omega) hk
 obtain ⟨g,A1,n1,c1,g',B,k',d,rfl,hv⟩ := FracS.lit hv
 exact ⟨b,off,g,A1,n1,c1,g',B,k',d,e,hv,hr⟩

def vS (p : SF) : Rat := Rat.divInt p.1 p.2
end Go.Proofs.YtabmjadcoepbeaaGreat

/- Rows that are new and shown at once; closed values. -/
namespace Go.Proofs.YtabmjadcoepbeaaGreat
open Go.RowKit

def BdR (m : World) (v : Value) (q : Rat) : Prop := ∃ r,v = .tuple #[r,.int .i64 0] ∧ FracC m r q
theorem BdR.le {m m' : World} {v : Value} {q : Rat} (h : BdR m v q) (hb : Le m m') : BdR m' v q := by
 obtain ⟨r,e,h⟩ := h
 exact ⟨r,e,h.le hb⟩
def kF2 : List SF := [(0,0),(0,0)]
end Go.Proofs.YtabmjadcoepbeaaGreat

/- Contract of pairinglaw28.known. -/
namespace Go.Proofs.YtabmjadcoepbeaaGreat
open Go.RowKit

def PrZ (m : World) (v : Value) : Prop := ∃ A c,v = .agg #[.slice A 2 c,.slice none 0 0,.slice none 0 0,.slice none 0 0,.bool false] ∧ SFL m (.slice A 2 c) kF2
theorem SFL.le {m m' : World} {v : Value} {ps : List SF} (h : SFL m v ps) (hb : Le m m') : SFL m' v ps := ListV.le (R := SFr) (fun _ _ _ _ h hb => FracS.le h hb) h hb
theorem PrZ.le {m m' : World} {v : Value} (h : PrZ m v) (hb : Le m m') : PrZ m' v := by
 obtain ⟨A,c,e,h⟩ := h
 exact ⟨A,c,e,SFL.le h hb⟩
end Go.Proofs.YtabmjadcoepbeaaGreat

/- Facts on the types of columns; what pairingdata.Column builds. -/
namespace Go.Proofs.YtabmjadcoepbeaaGreat
open Go.RowKit

theorem ap_Tasks : apS Tryz.prog 107 = some (105,2,16,2) := by kernel_rfl
instance iC0_1 : ApC Tryz.prog 107 105 2 16 := ⟨ap_Tasks⟩
theorem ap_Duties : apS Tryz.prog 62 = some (107,1,24,1) := by kernel_rfl
instance iC0_2 : ApC Tryz.prog 62 107 1 24 := ⟨ap_Duties⟩
theorem ap_intss : apS Tryz.prog 61 = some (22,1,24,1) := by kernel_rfl
instance iC0_3 : ApC Tryz.prog 61 22 1 24 := ⟨ap_intss⟩
theorem ag_Task : agS Tryz.prog 105 = some 2 := by kernel_rfl
instance iC0_4 : AgC Tryz.prog 105 2 := ⟨ag_Task⟩
theorem zc_Col : zc Tryz.prog 66 = some #[.string ⟨#[]⟩,.slice none 0 0,.int .i64 0] := by kernel_rfl
instance iC0_5 : ZcC Tryz.prog 66 #[.string ⟨#[]⟩,.slice none 0 0,.int .i64 0] := ⟨zc_Col⟩

theorem i64_mask (n : Int) (j : Nat) (z : Int) (hz : (BitVec.ofInt 64 z).toNat = 2 ^ j - 1) (hj : j ≤ 16) : bits .and .i64 n z = n % 2 ^ j := by
 have key : (BitVec.ofInt 64 n &&& BitVec.ofInt 64 z).toNat = (n % ((2 ^ 64 : Nat) : Int)).toNat % 2 ^ j := by
  rw [BitVec.toNat_and,BitVec.toNat_ofInt,hz,Nat.and_two_pow_sub_one_eq_mod]
 show IntKind.i64.wrap ((BitVec.ofInt 64 n &&& BitVec.ofInt 64 z).toNat : Nat) = n % 2 ^ j
 have hp : (2 : Nat) ^ j ≤ 2 ^ 16 := Nat.pow_le_pow_right (by omega) hj
 have hd : (2 : Int) ^ j ∣ ((2 ^ 64 : Nat) : Int) := by
  refine ⟨2 ^ (64 - j),?_⟩
  rw [← Int.pow_add,show j + (64 - j) = 64 by omega];rfl
 have e : (((n % ((2 ^ 64 : Nat) : Int)).toNat % 2 ^ j : Nat) : Int) = n % 2 ^ j := by
  rw [Int.natCast_emod,Int.toNat_of_nonneg (Int.emod_nonneg _ (by decide))]
  have : ((2 ^ j : Nat) : Int) = 2 ^ j := by simp
  rw [this,Int.emod_emod_of_dvd _ hd]
 rw [key,e,IntKind.wrap_i64]
 have h0 : 0 ≤ n % 2 ^ j := Int.emod_nonneg _ (by have : (0 : Int) < 2 ^ j := Int.pow_pos (by decide);omega)
 have h1 : n % 2 ^ j < 2 ^ j := Int.emod_lt_of_pos _ (Int.pow_pos (by decide))
 have h2 : (2 : Int) ^ j ≤ 65536 := by
  have h3 : ((2 ^ j : Nat) : Int) ≤ ((65536 : Nat) : Int) := Int.ofNat_le.2 hp
  rwa [Int.natCast_pow] at h3
 omega
theorem i64_and1 (n : Int) : bits .and .i64 n 1 = n % 2 := i64_mask n 1 1 (by decide) (by decide)
theorem i64_and3 (n : Int) : bits .and .i64 n 7 = n % 8 := i64_mask n 3 7 (by decide) (by decide)
theorem i64_and2' (n : Int) : bits .and .i64 n 3 = n % 4 := i64_mask n 2 3 (by decide) (by decide)

theorem Loc.less {w0 m0 W m : World} {A B : List Lo} (h : Loc w0 m0 W m A) (hs : B.Sublist A) : Loc w0 m0 W m B :=
 ⟨h.size0,h.ext,h.mext,h.vw,fun y hy => h.low y (hs.subset hy),fun y hy => h.blk y (hs.subset hy),fun y hy => h.hid y (hs.subset hy),h.apart.sublist hs⟩
theorem fin_aggR {P : Program} {fn : Func} {R : World → Value → Prop} {w m W mm m' : World} {Ls Lt : List Lo} (hL : Loc w m W mm Ls) {p : Nat} {ty : TypeId} (hr : fn.results = #[.cell p ty]) {a : Act} (hdf : a.defers = []) {g : Nat}
  (hp : a.tmps.getD p undef = .pointer (some ⟨g,0,none⟩)) {n : Nat} {t : TypeId} {cs : Array Value} (hn : Ls[n]? = some (g,t,cs)) {k : Nat} (hty : agS P ty = some k) (hk : cs.size = k) (hL' : Loc w m W m' Lt) (h : R m' (.agg cs)) :
  bodyPost P fn (RetV w m R) .ret a W := by
 subst hk
 obtain ⟨d,hu,hd,hi⟩ := ag_desc hty
 exact bodyPost_ret (results_cell_row hr _ _ g t cs (0,0) d hp (hL.at_ hn) hu (by cases d <;> first | rfl | exact hd) hi) hdf (RetV.mk hL' h)
abbrev Task := Int × Bool
def TaskR (_ : World) (v : Value) (x : Task) : Prop := v = .agg #[.int .i64 x.1,.bool x.2]
abbrev DutL := ListV (α := Task) 2 TaskR
theorem TaskR.mono (m m' : World) (v : Value) (x : Task) (h : TaskR m v x) (_ : Le m m') : TaskR m' v x := h
theorem DutL.le {m m' : World} {v : Value} {xs : List Task} (h : DutL m v xs) (hb : Le m m') : DutL m' v xs := ListV.le TaskR.mono h hb
theorem DutL.mono (m m' : World) (v : Value) (x : List Task) (h : DutL m v x) (hb : Le m m') : DutL m' v x := DutL.le h hb
abbrev DutsL := ListV (α := List Task) 1 DutL
theorem DutsL.le {m m' : World} {v : Value} {xs : List (List Task)} (h : DutsL m v xs) (hb : Le m m') : DutsL m' v xs := ListV.le DutL.mono h hb
abbrev Col := ByteArray × List (List Task) × Int
def ColR (m : World) (v : Value) (x : Col) : Prop := ∃ s,v = .agg #[.string x.1,s,.int .i64 x.2.2] ∧ DutsL m s x.2.1
theorem ColR.le {m m' : World} {v : Value} {x : Col} (h : ColR m v x) (hb : Le m m') : ColR m' v x := by
 obtain ⟨s,e,h⟩ := h
 exact ⟨s,e,DutsL.le h hb⟩
theorem ColR.mono (m m' : World) (v : Value) (x : Col) (h : ColR m v x) (hb : Le m m') : ColR m' v x := h.le hb
abbrev ColL := ListV (α := Col) 3 ColR
theorem ColL.le {m m' : World} {v : Value} {xs : List Col} (h : ColL m v xs) (hb : Le m m') : ColL m' v xs := ListV.le ColR.mono h hb

structure CS where
 d : List Task
 l : List (List Task)
 s : Bool
def csBit (n : Int) (i : Nat) : Bool := decide (n / 2 ^ i % 2 = 1)
def csF (rs : List Int) (k : Int) (i : Nat) : Int := if k / 2 % 8 = 7 then rs.getD (rs.length - 1 - i) 0 else rs.getD i 0
def csStep (f : Int) (tk ct : Bool) (c : CS) : CS := if tk then (if ct then ⟨[],c.l ++ [c.d ++ [(f,false)]],true⟩ else ⟨c.d ++ [(f,false)],c.l,true⟩) else c
def csAt (rs : List Int) (n k : Int) : Nat → CS
 | 0 => ⟨if k % 2 = 1 then [(0,true)] else [],[],false⟩
 | i + 1 => csStep (csF rs k i) (csBit n i) (decide (k / 16 % 4 = 3)) (csAt rs n k i)
def csD (rs : List Int) (n k : Int) : List Task := if (csAt rs n k rs.length).s then (csAt rs n k rs.length).d else (csAt rs n k rs.length).d ++ [(rs.getD (n / 64 % rs.length).toNat 0,false)]
def csL (rs : List Int) (n k : Int) : List (List Task) := if 0 < (csD rs n k).length then (csAt rs n k rs.length).l ++ [csD rs n k] else (csAt rs n k rs.length).l
def colF (rs : List Int) (n k : Int) : Col := (⟨#[65,65,65]⟩,csL rs n k,n / 32 % 41 - 5)
theorem csAt_len (rs : List Int) (n k : Int) : ∀ i,(csAt rs n k i).d.length ≤ i + 1 ∧ (csAt rs n k i).l.length ≤ i
 | 0 => by simp [csAt];split <;> simp
 | i + 1 => by
  have := csAt_len rs n k i
  simp only [csAt,csStep]
  split
  ·split <;> simp <;> omega
  ·omega
end Go.Proofs.YtabmjadcoepbeaaGreat

/- Contract of pairingdata.Column. -/
namespace Go.Proofs.YtabmjadcoepbeaaGreat
open Go.RowKit

theorem bt {a b : Int} (h : a = b) : (a == b) = true := by simp [h]
theorem bf {a b : Int} (h : ¬ a = b) : (a == b) = false := by simp [h]

theorem d_Column (A : Option Addr) (c : Nat) (rs : List Int) (n k : Int) (w m : World) (hV : Vw m w) (hr : IntL m (.slice A rs.length c) rs) (h1 : 1 ≤ rs.length) (h2 : rs.length ≤ 6) (n0 : 0 ≤ n) (n1 : n ≤ 100000) (k0 : 0 ≤ k) (k1 : k ≤ 100000) :
  Calls Tryz.prog 24 #[.slice A rs.length c,.int .i64 n,.int .i64 k] w (RetV w m fun m' r => ColR m' r (colF rs n k)) := by
 generalize hq : rs.length = q at *
 have HQ := Lib.hid hq
 clear hq
 have e1 := i64_and1 k
 have hL := Loc.start hV
 clear hV
 by_cases hk : k % 2 = 1
 case' pos =>
  have b1 := bt hk
  have rd0 : Hid (csAt rs n k 0 = ⟨[(0,true)],[],false⟩) := by show _ = _;simp [csAt,hk]
  clear hk
  go_enter Tryz.func24,Tryz.ntmps24
  go_upto_region 0 with (fail)
  refine wp_region_lit ?_
  refine t_alloc hL rfl ?_;clear hL;intro Wh6 mh6 hL eh6;simp only [Act.put,zq1,zq2,zq3]
  go_wp2_with (first | go_skip | refine tP ?_ | (refine tS ?_;clear hL;intro _ hL) | (refine tB ?_;clear hL;intro _ _ hL _) | (refine tC ?_;clear hL;intro _ _ hL _ hBs))
  refine goA ?_
  refine wl_append (A := [_]) hL (Row.nil _ _) (wanted_none rfl) rfl ap_Tasks (by omega) rfl rfl (news := [.int .i64 0,.bool true]) rfl ((Blk.sl hBs (n := 2) rfl).le hL.vw.le) rfl (by omega) (by omega) ?_
  clear hL
  intro v1 W2 m2 R2 hL r8 e8
  obtain ⟨A8,c8,rfl,-⟩ := r8.lit
  simp only [List.cons_append,List.nil_append] at hL
  simp only [Act.put,zq1,zq2,zq3,Nat.zero_add]
  go_wp2_with (first | go_skip | refine tP ?_ | (refine tS ?_;clear hL;intro _ hL) | (refine tB ?_;clear hL;intro _ _ hL _) | (refine tC ?_;clear hL;intro _ _ hL _ hBs))
  have rd : Hid (RowA 105 2 TaskR m2 (.slice A8 1 c8) 1 (csAt rs n k 0).d R2) := by
   show RowA _ _ _ _ _ _ _ _
   rw [rd0.out]
   exact RowA.snoc (R := TaskR) (x := (0,true)) (xs := []) (vs := []) r8 (fun _ h => by cases h) trivial rfl rfl rfl
 case' neg =>
  have b1 := bf hk
  have rd0 : Hid (csAt rs n k 0 = ⟨[],[],false⟩) := by show _ = _;simp [csAt,hk]
  clear hk
  go_enter Tryz.func24,Tryz.ntmps24
  go_upto_region 0 with (fail)
  refine wp_region_lit ?_
  refine t_alloc hL rfl ?_;clear hL;intro Wh6 mh6 hL eh6;simp only [Act.put,zq1,zq2,zq3]
  go_wp2_with (first | go_skip | refine tP ?_ | (refine tS ?_;clear hL;intro _ hL) | (refine tB ?_;clear hL;intro _ _ hL _) | (refine tC ?_;clear hL;intro _ _ hL _ hBs))
 all_goals
  go_loopw [7,8,9,10] (fun d l s i wr => ∃ (j : Nat) (mm : World) (nd nl : Nat) (Rd Rl : List Lo),j ≤ q ∧ i = .int .i64 j ∧ s = .bool (csAt rs n k j).s ∧ Loc w m wr mm ((w.heap.size,66,#[.string ⟨#[]⟩,.slice none 0 0,.int .i64 0]) :: (Rl ++ Rd)) ∧ Hid (RowA 105 2 TaskR mm d nd (csAt rs n k j).d Rd) ∧ Hid (RowA 107 1 DutL mm l nl (csAt rs n k j).l Rl)) (fun _ _ _ i _ => q - (intOf i).toNat)
  case atStart =>
   first
   | exact ⟨0,m2,1,0,R2,[],Nat.zero_le _,rfl,congrArg (fun c => Value.bool c.s) rd0.out.symm,hL,rd,by rw [rd0.out];exact RowA.nil⟩
   | exact ⟨0,mh6,0,0,[],[],Nat.zero_le _,rfl,congrArg (fun c => Value.bool c.s) rd0.out.symm,hL,by rw [rd0.out];exact RowA.nil,by rw [rd0.out];exact RowA.nil⟩
  case round =>
   clear hL
   obtain ⟨j,mm,nd,nl,Rd,Rl,hj,rfl,rfl,hL,rd,rl⟩ := hrel
   have hM := hL.mext
   obtain ⟨A7,c7,rfl,rd1⟩ := rd.out.lit
   obtain ⟨A8,c8,rfl,rl1⟩ := rl.out.lit
   have hnd : nd ≤ 10 := by have := rd1.len;have := csAt_len rs n k j;omega
   have hnl : nl ≤ 10 := by have := rl1.len;have := csAt_len rs n k j;omega
   have RD := Lib.hid rd1
   have RL := Lib.hid rl1
   clear rd rl rd1 rl1
   by_cases hlt : j < q
   ·obtain ⟨f0,hf0⟩ := at_some HQ hlt
    obtain ⟨f1,hf1⟩ := at_some (k := q - 1 - j) HQ (by omega)
    obtain ⟨b1,o1,rfl,hc1⟩ := IntL.at_ hr hf0
    obtain ⟨b2,o2,e2,hc2⟩ := IntL.at_ hr hf1
    injection e2 with e2
    injection e2 with e2 e3
    subst e2 e3
    have ex : (q : Int) - 1 - (j : Int) = ((q - 1 - j : Nat) : Int) := by omega
    have e7 := i64_and3 (k / 2)
    have e8 := i64_and1 (n / 2 ^ j)
    have e9 := i64_and2' (k / 16)
    by_cases h7 : k / 2 % 8 = 7
    case' pos =>
     have b7 := bt h7
     have HF : Hid (csF rs k j = f1) := by show _ = _;unfold csF;rw [if_pos h7,HQ.out,List.getD_eq_getElem?_getD,hf1];rfl
     clear h7 hf0 hf1
     generalize f1 = f at *
     go_upto_region 12 with ((first | go_skip | refine tP ?_ | (refine tS ?_;clear hL;intro _ hL) | (refine tB ?_;clear hL;intro _ _ hL _) | (refine tC ?_;clear hL;intro _ _ hL _ hBs)))
    case' neg =>
     have b7 := bf h7
     have HF : Hid (csF rs k j = f0) := by show _ = _;unfold csF;rw [if_neg h7,List.getD_eq_getElem?_getD,hf0];rfl
     clear h7 hf0 hf1
     generalize f0 = f at *
     go_upto_region 12 with ((first | go_skip | refine tP ?_ | (refine tS ?_;clear hL;intro _ hL) | (refine tB ?_;clear hL;intro _ _ hL _) | (refine tC ?_;clear hL;intro _ _ hL _ hBs)))
    all_goals
     clear hc1 hc2 ex b7 e7
     by_cases hb : n / 2 ^ j % 2 = 1
     ·have b8 := bt hb
      have HB : Hid (csBit n j = true) := by show _ = _;exact decide_eq_true hb
      clear hb
      by_cases hc : k / 16 % 4 = 3
      ·have b9 := bt hc
       have HS : Hid (csAt rs n k (j + 1) = ⟨[],(csAt rs n k j).l ++ [(csAt rs n k j).d ++ [(f,false)]],true⟩) := by show _ = _;simp [csAt,csStep,HF.out,HB.out,hc]
       clear hc
       go_wp2_with (first | go_skip | refine tP ?_ | (refine tS ?_;clear hL;intro _ hL) | (refine tB ?_;clear hL;intro _ _ hL _) | (refine tC ?_;clear hL;intro _ _ hL _ hBs))
       refine goA ?_
       obtain ⟨vs7,r7,z7,y7,l7⟩ := RD.out
       refine wl_append (A := _ :: Rl) hL r7 (wanted_none rfl) rfl ap_Tasks (by omega) rfl rfl (news := [.int .i64 f,.bool false]) rfl ((Blk.sl hBs (n := 2) rfl).le hL.vw.le) rfl (by omega) (by omega) ?_
       clear hL
       intro v1 W2 m2 R2 hL r8 e8
       obtain ⟨A9,c9,rfl,-⟩ := r8.lit
       have rd2 := RowA.snoc (R := TaskR) (m := m2) (x := (f,false)) r8 z7 (y7.mono fun _ _ hv => hv) l7 rfl rfl
       simp only [List.cons_append] at hL
       obtain ⟨m3,hL3,hle3,hdu,-⟩ := RowA.show (A := _ :: Rl) TaskR.mono hL rd2
       replace hle3 : Le mm m3 := Le.trans leX hle3
       clear hL
       have hL := hL3
       clear hL3
       simp only [Act.put,zq1,zq2,zq3]
       go_wp2_with (first | go_skip | refine tP ?_ | (refine tS ?_;clear hL;intro _ hL) | (refine tB ?_;clear hL;intro _ _ hL _) | (refine tC ?_;clear hL;intro _ _ hL _ hBs))
       refine goA ?_
       obtain ⟨vs8,r9,z9,y9,l9⟩ := RL.out
       refine wl_append (A := [_]) hL r9 (wanted_none rfl) rfl ap_Duties (by omega) rfl rfl (news := [.slice A9 (nd + 1) c9]) rfl ((Blk.sl hBs (n := 1) rfl).le hL.vw.le) rfl (by omega) (by omega) ?_
       clear hL
       intro v2 W4 m4 R4 hL r10 e10
       obtain ⟨A10,c10,rfl,-⟩ := r10.lit
       simp only [List.cons_append,List.nil_append] at hL
       have hle4 : Le m3 m4 := leX
       have rl2 := RowA.snocV (R := DutL) (m := m4) r10 z9 (y9.mono fun v x hv => DutL.mono _ _ _ _ hv (Le.trans hle3 hle4)) l9 rfl rfl (DutL.le hdu hle4)
       simp only [Act.put,zq1,zq2,zq3]
       go_wp2_with (first | go_skip | refine tP ?_ | (refine tS ?_;clear hL;intro _ hL) | (refine tB ?_;clear hL;intro _ _ hL _) | (refine tC ?_;clear hL;intro _ _ hL _ hBs))
       go_roundw
       case rel => exact ⟨j + 1,m4,0,nl + 1,[],R4,by omega,by go_num,by rw [HS.out],by rw [List.append_nil];exact hL,by rw [HS.out];exact RowA.nil,by rw [HS.out];exact rl2⟩
       case measure => simp [intOf] <;> omega
      ·have b9 := bf hc
       have HS : Hid (csAt rs n k (j + 1) = ⟨(csAt rs n k j).d ++ [(f,false)],(csAt rs n k j).l,true⟩) := by show _ = _;simp [csAt,csStep,HF.out,HB.out,hc]
       clear hc
       go_wp2_with (first | go_skip | refine tP ?_ | (refine tS ?_;clear hL;intro _ hL) | (refine tB ?_;clear hL;intro _ _ hL _) | (refine tC ?_;clear hL;intro _ _ hL _ hBs))
       refine goA ?_
       obtain ⟨vs7,r7,z7,y7,l7⟩ := RD.out
       refine wl_append (A := _ :: Rl) hL r7 (wanted_none rfl) rfl ap_Tasks (by omega) rfl rfl (news := [.int .i64 f,.bool false]) rfl ((Blk.sl hBs (n := 2) rfl).le hL.vw.le) rfl (by omega) (by omega) ?_
       clear hL
       intro v1 W2 m2 R2 hL r8 e8
       obtain ⟨A9,c9,rfl,-⟩ := r8.lit
       have rd2 := RowA.snoc (R := TaskR) (m := m2) (x := (f,false)) r8 z7 (y7.mono fun _ _ hv => hv) l7 rfl rfl
       simp only [List.cons_append] at hL
       simp only [Act.put,zq1,zq2,zq3]
       go_wp2_with (first | go_skip | refine tP ?_ | (refine tS ?_;clear hL;intro _ hL) | (refine tB ?_;clear hL;intro _ _ hL _) | (refine tC ?_;clear hL;intro _ _ hL _ hBs))
       go_roundw
       case rel => exact ⟨j + 1,m2,nd + 1,nl,R2,Rl,by omega,by go_num,by rw [HS.out],hL,by rw [HS.out];exact rd2,by rw [HS.out];exact RowA.le DutL.mono RL.out leX⟩
       case measure => simp [intOf] <;> omega
     ·have b8 := bf hb
      have HS : Hid (csAt rs n k (j + 1) = csAt rs n k j) := by show _ = _;simp [csAt,csStep,csBit,hb]
      clear hb
      go_wp2_with (first | go_skip | refine tP ?_ | (refine tS ?_;clear hL;intro _ hL) | (refine tB ?_;clear hL;intro _ _ hL _) | (refine tC ?_;clear hL;intro _ _ hL _ hBs))
      go_roundw
      case rel => exact ⟨j + 1,mm,nd,nl,Rd,Rl,by omega,by go_num,by rw [HS.out],hL,by rw [HS.out];exact RD.out,by rw [HS.out];exact RL.out⟩
      case measure => simp [intOf] <;> omega
   ·obtain rfl : j = q := by omega
    have e6 : n / 64 % (j : Int) = ((n / 64 % j).toNat : Int) := by have := Int.emod_nonneg (n / 64) (b := j) (by omega);omega
    have hi6 : (n / 64 % j).toNat < j := by have := Int.emod_lt_of_pos (n / 64) (b := j) (by omega);omega
    cases hs : (csAt rs n k j).s
    ·obtain ⟨f,hf⟩ := at_some HQ hi6
     obtain ⟨b1,o1,rfl,hc1⟩ := IntL.at_ hr hf
     have HD : Hid (csD rs n k = (csAt rs n k j).d ++ [(f,false)]) := by
      show _ = _
      unfold csD
      rw [HQ.out,hs,List.getD_eq_getElem?_getD,hf];rfl
     have HL : Hid (csL rs n k = (csAt rs n k j).l ++ [(csAt rs n k j).d ++ [(f,false)]]) := by
      show _ = _
      unfold csL
      rw [HD.out,HQ.out,if_pos (by simp)]
     clear hs hf
     generalize (n / 64 % j).toNat = i6 at *
     go_wp2_with (first | go_skip | refine tP ?_ | (refine tS ?_;clear hL;intro _ hL) | (refine tB ?_;clear hL;intro _ _ hL _) | (refine tC ?_;clear hL;intro _ _ hL _ hBs))
     refine goA ?_
     obtain ⟨vs7,r7,z7,y7,l7⟩ := RD.out
     refine wl_append (A := _ :: Rl) hL r7 (wanted_none rfl) rfl ap_Tasks (by omega) rfl rfl (news := [.int .i64 f,.bool false]) rfl ((Blk.sl hBs (n := 2) rfl).le hL.vw.le) rfl (by omega) (by omega) ?_
     clear hL
     intro v1 W2 m2 R2 hL r8 e8
     obtain ⟨A9,c9,rfl,-⟩ := r8.lit
     have rd2 := RowA.snoc (R := TaskR) (m := m2) (x := (f,false)) r8 z7 (y7.mono fun _ _ hv => hv) l7 rfl rfl
     simp only [List.cons_append] at hL
     obtain ⟨m3,hL3,hle3,hdu,-⟩ := RowA.show (A := _ :: Rl) TaskR.mono hL rd2
     replace hle3 : Le mm m3 := Le.trans leX hle3
     clear hL
     have hL := hL3
     clear hL3
     simp only [Act.put,zq1,zq2,zq3]
     have hp6 : 0 < nd + 1 := by omega
     go_wp2_with (first | go_skip | refine tP ?_ | (refine tS ?_;clear hL;intro _ hL) | (refine tB ?_;clear hL;intro _ _ hL _) | (refine tC ?_;clear hL;intro _ _ hL _ hBs))
     refine goA ?_
     obtain ⟨vs8,r9,z9,y9,l9⟩ := RL.out
     refine wl_append (A := [_]) hL r9 (wanted_none rfl) rfl ap_Duties (by omega) rfl rfl (news := [.slice A9 (nd + 1) c9]) rfl ((Blk.sl hBs (n := 1) rfl).le hL.vw.le) rfl (by omega) (by omega) ?_
     clear hL
     intro v2 W4 m4 R4 hL r10 e10
     obtain ⟨A10,c10,rfl,-⟩ := r10.lit
     simp only [List.cons_append,List.nil_append] at hL
     have hle4 : Le m3 m4 := leX
     have rl2 := RowA.snocV (R := DutL) (m := m4) r10 z9 (y9.mono fun v x hv => DutL.mono _ _ _ _ hv (Le.trans hle3 hle4)) l9 rfl rfl (DutL.le hdu hle4)
     simp only [Act.put,zq1,zq2,zq3]
     go_wp2_with (first | go_skip | refine tP ?_ | (refine tS ?_;clear hL;intro _ hL) | (refine tB ?_;clear hL;intro _ _ hL _) | (refine tC ?_;clear hL;intro _ _ hL _ hBs))
     obtain ⟨m5,hL5,hle5,hdl,-⟩ := RowA.show (A := [_]) DutL.mono hL rl2
     refine fin_aggR hL Tryz.results24 rfl rfl loX ag_Col (by exact rfl) hL5 ?_
     refine ⟨_,rfl,?_⟩
     show DutsL _ _ (csL rs n k)
     rw [HL.out]
     exact hdl
    ·by_cases hp6 : 0 < nd
     ·have HL : Hid (csL rs n k = (csAt rs n k j).l ++ [(csAt rs n k j).d]) := by
       show _ = _
       have h3 := RD.out.len
       unfold csL csD
       rw [HQ.out,hs,if_pos rfl,if_pos (by omega)]
      clear hs
      obtain ⟨m3,hL3,hle3,hdu,-⟩ := RowA.show (A := _ :: Rl) TaskR.mono hL RD.out
      replace hle3 : Le mm m3 := Le.trans leX hle3
      clear hL
      have hL := hL3
      clear hL3
      go_wp2_with (first | go_skip | refine tP ?_ | (refine tS ?_;clear hL;intro _ hL) | (refine tB ?_;clear hL;intro _ _ hL _) | (refine tC ?_;clear hL;intro _ _ hL _ hBs))
      refine goA ?_
      obtain ⟨vs8,r9,z9,y9,l9⟩ := RL.out
      refine wl_append (A := [_]) hL r9 (wanted_none rfl) rfl ap_Duties (by omega) rfl rfl (news := [.slice A7 nd c7]) rfl ((Blk.sl hBs (n := 1) rfl).le hL.vw.le) rfl (by omega) (by omega) ?_
      clear hL
      intro v2 W4 m4 R4 hL r10 e10
      obtain ⟨A10,c10,rfl,-⟩ := r10.lit
      simp only [List.cons_append,List.nil_append] at hL
      have hle4 : Le m3 m4 := leX
      have rl2 := RowA.snocV (R := DutL) (m := m4) r10 z9 (y9.mono fun v x hv => DutL.mono _ _ _ _ hv (Le.trans hle3 hle4)) l9 rfl rfl (DutL.le hdu hle4)
      simp only [Act.put,zq1,zq2,zq3]
      go_wp2_with (first | go_skip | refine tP ?_ | (refine tS ?_;clear hL;intro _ hL) | (refine tB ?_;clear hL;intro _ _ hL _) | (refine tC ?_;clear hL;intro _ _ hL _ hBs))
      obtain ⟨m5,hL5,hle5,hdl,-⟩ := RowA.show (A := [_]) DutL.mono hL rl2
      refine fin_aggR hL Tryz.results24 rfl rfl loX ag_Col (by exact rfl) hL5 ?_
      refine ⟨_,rfl,?_⟩
      show DutsL _ _ (csL rs n k)
      rw [HL.out]
      exact hdl
     ·have HL : Hid (csL rs n k = (csAt rs n k j).l) := by
       show _ = _
       have h3 := RD.out.len
       unfold csL csD
       rw [HQ.out,hs,if_pos rfl,if_neg (by omega)]
      clear hs
      replace hL := hL.less (List.Sublist.cons_cons _ (List.sublist_append_left _ _))
      go_wp2_with (first | go_skip | refine tP ?_ | (refine tS ?_;clear hL;intro _ hL) | (refine tB ?_;clear hL;intro _ _ hL _) | (refine tC ?_;clear hL;intro _ _ hL _ hBs))
      obtain ⟨m5,hL5,hle5,hdl,-⟩ := RowA.show (A := [_]) DutL.mono hL RL.out
      refine fin_aggR hL Tryz.results24 rfl rfl loX ag_Col (by exact rfl) hL5 ?_
      refine ⟨_,rfl,?_⟩
      show DutsL _ _ (csL rs n k)
      rw [HL.out]
      exact hdl
end Go.Proofs.YtabmjadcoepbeaaGreat

/- What pairingdata.Master builds; small lemmas for its walk. -/
namespace Go.Proofs.YtabmjadcoepbeaaGreat
open Go.RowKit

theorem atF_bd (l : List Int) (i : Nat) (h : i ≤ 1000) : 0 ≤ atF l i ∧ atF l i ≤ 70000 := by
 unfold atF
 split
 ·omega
 ·have : i / l.length ≤ 1000 := Nat.le_trans (Nat.div_le_self _ _) h
  generalize i / l.length = q at *
  omega
theorem atX (l : List Int) (i : Nat) (h : i ≤ 1000) : ∃ a : Int,Hid (atF l i = a) ∧ 0 ≤ a ∧ a ≤ 70000 := ⟨_,rfl,atF_bd l i h⟩
theorem d_AtE (A : Option Addr) (c N : Nat) (l : List Int) (z : Int) (i : Nat) (a : Int) (w m : World) (hV : Vw m w) (h : Sl m A (l.map I64)) (hN : Hid (l.length = N)) (hl : Hid (True)) (e : Hid (atF l i = a)) (hz : z = i) (hi : i ≤ 1000) :
  Calls Tryz.prog 23 #[.slice A N c,.int .i64 z] w (RetV w m fun _ r => r = .int .i64 a) := by
 subst hz
 have := d_At A c l i w m hV h hi
 rwa [hN.out,e.out] at this

def rowsT : List (List Int) := [[0,1,2],[1,2,4],[0,1,2,3],[0,2,3,5],[0,1,2,3,4],[1,2,3,4,5]]
def rowsF (l : List Int) : List Int := rowsT.getD (atF l 1 % 6).toNat []
def colsG (rs l : List Int) (n : Nat) : List Col := (List.range n).map fun j => colF rs (atF l (5 + 2 * j)) (atF l (6 + 2 * j))
def cutG (rs : List Int) (sk : Nat) (j : Nat) : Option Int := if j ≠ sk ∨ rs.length = 3 then rs[j]? else none
def cutT (rs : List Int) (sk i : Nat) : List Int := (List.range i).filterMap (cutG rs sk)
def cutF (rs l : List Int) (k : Nat) : Cut := (cutT rs (atF l (20 + k) % rs.length).toNat rs.length,if atF l (24 + k) % 2 = 1 then 3 else 2)
def cutsG (rs l : List Int) (n : Nat) : List Cut := (List.range n).map (cutF rs l)
theorem range_snoc {α : Type} (f : Nat → α) (n : Nat) : (List.range (n + 1)).map f = (List.range n).map f ++ [f n] := by rw [List.range_succ,List.map_append];rfl
theorem cutT_in {rs : List Int} {sk i : Nat} {f : Int} (h : rs[i]? = some f) (hc : i ≠ sk ∨ rs.length = 3) : cutT rs sk (i + 1) = cutT rs sk i ++ [f] := by
 unfold cutT
 rw [List.range_succ,List.filterMap_append]
 simp [cutG,hc,h]
theorem cutT_out {rs : List Int} {sk i : Nat} (hc : ¬ (i ≠ sk ∨ rs.length = 3)) : cutT rs sk (i + 1) = cutT rs sk i := by
 unfold cutT
 rw [List.range_succ,List.filterMap_append]
 simp [cutG,hc]
theorem cutT_len (rs : List Int) (sk i : Nat) : (cutT rs sk i).length ≤ i := by
 unfold cutT
 exact Nat.le_trans (List.length_filterMap_le _ _) (by simp)
theorem rowsT_len : ∀ i : Fin 6,3 ≤ (rowsT.getD i.1 []).length ∧ (rowsT.getD i.1 []).length ≤ 5 := by decide
theorem cutT_long : ∀ i : Fin 6,∀ s : Fin 5,s.1 < (rowsT.getD i.1 []).length → 2 < (cutT (rowsT.getD i.1 []) s.1 (rowsT.getD i.1 []).length).length := by decide

theorem IntL.ofBlk {m : World} {g : Nat} {e : TypeId} (xs : List Int) (h : Blk m g e (xs.map I64).toArray) : IntL m (.slice (some ⟨g,0,none⟩) xs.length xs.length) xs := by
 refine ListV.mk (vs := xs.map I64) (Nat.le_refl _) (by simp) (fun u hu => ?_) ?_ ?_
 ·obtain ⟨x,_,rfl⟩ := List.mem_map.1 hu;rfl
 ·refine Blk.sl h (n := xs.length) ?_
  rw [List.take_of_length_le (by simp)]
  exact ih' xs
 ·exact all2 xs
 where
 ih' : ∀ xs : List Int,xs.map I64 = cellsOf (xs.map I64)
  | [] => rfl
  | x :: xs => congrArg (I64 x :: ·) (ih' xs)
 all2 : ∀ xs : List Int,All2 (IsI m) (xs.map I64) xs
  | [] => trivial
  | x :: xs => ⟨rfl,all2 xs⟩
theorem cellsOf_ints : ∀ xs : List Int,cellsOf (xs.map I64) = xs.map I64
 | [] => rfl
 | x :: xs => congrArg (I64 x :: ·) (cellsOf_ints xs)
theorem all2_ints {m : World} : ∀ {vs : List Value} {xs : List Int},All2 (IsI m) vs xs → vs = xs.map I64
 | [],[],_ => rfl
 | v :: vs,x :: xs,h => by rw [h.1,all2_ints h.2];rfl
 | [],_ :: _,h => h.elim
 | _ :: _,[],h => h.elim
theorem IntL.sl {m : World} {A : Option Addr} {n c : Nat} {xs : List Int} (h : IntL m (.slice A n c) xs) : Sl m A (xs.map I64) := by
 obtain ⟨A',c',vs,e,hc,h1,h2,h3⟩ := h
 injection e with e1 e2 e3
 subst e1
 have := all2_ints h3
 subst this
 rwa [cellsOf_ints] at h2
theorem all2_of_ints (m : World) : ∀ xs : List Int,All2 (IsI m) (xs.map I64) xs
 | [] => trivial
 | x :: xs => ⟨rfl,all2_of_ints m xs⟩
theorem IntL.ofSl {m : World} {A : Option Addr} {n c : Nat} {xs : List Int} (h : Sl m A (xs.map I64)) (hn : xs.length = n) (hc : n ≤ c) : IntL m (.slice A n c) xs := by
 refine ListV.mk (vs := xs.map I64) hc (by simpa using hn) (fun u hu => ?_) ?_ (all2_of_ints m xs)
 ·obtain ⟨x,_,rfl⟩ := List.mem_map.1 hu;rfl
 ·rwa [cellsOf_ints]
abbrev IntLL := ListV (α := List Int) 1 IntL
theorem IntL.mono (m m' : World) (v : Value) (x : List Int) (h : IntL m v x) (hb : Le m m') : IntL m' v x := IntL.le h hb
theorem IntLL.at_ {m : World} {A : Option Addr} {n c : Nat} {xs : List (List Int)} (h : IntLL m (.slice A n c) xs) {k : Nat} {x : List Int} (hk : xs[k]? = some x) :
  ∃ b off B d,A = some ⟨b,off,none⟩ ∧ IntL m (.slice B x.length d) x ∧ m.cell? ⟨b,off + k,none⟩ = some (.slice B x.length d) := by
 obtain ⟨b,off,v,e,hv,_,hr⟩ := ListV.at_ h (by omega) hk
 obtain ⟨B,d,rfl,_,hv⟩ := hv.lit
 exact ⟨b,off,B,d,e,hv,by simpa using hr 0 _ rfl⟩
theorem rowsT_get (i : Nat) (h : i < 6) : rowsT[i]? = some (rowsT.getD i []) := by
 have : i < rowsT.length := h
 rw [List.getD_eq_getElem?_getD,List.getElem?_eq_getElem this];rfl
theorem ColR.lit {m : World} {v : Value} {x : Col} (h : ColR m v x) : ∃ b A n c z,v = .agg #[.string b,.slice A n c,.int .i64 z] ∧ ColR m (.agg #[.string b,.slice A n c,.int .i64 z]) x := by
 have h' := h
 obtain ⟨s,rfl,hs⟩ := h
 obtain ⟨A,c,rfl,_,_⟩ := hs.lit
 exact ⟨_,_,_,_,_,rfl,h'⟩
theorem ints_one (rs : List Int) : (rs.map I64).all (·.oneCell') = true := by
 rw [List.all_map,List.all_eq_true];intro x _;rfl
theorem d_ColumnE (A : Option Addr) (c q : Nat) (rs : List Int) (n k : Int) (w m : World) (hV : Vw m w) (hr : IntL m (.slice A q c) rs) (hq : Hid (rs.length = q)) (h1 : 1 ≤ q) (h2 : q ≤ 6) (n0 : 0 ≤ n) (n1 : n ≤ 100000) (k0 : 0 ≤ k) (k1 : k ≤ 100000) :
  Calls Tryz.prog 24 #[.slice A q c,.int .i64 n,.int .i64 k] w (RetV w m fun m' r => ColR m' r (colF rs n k)) := by
 obtain rfl := hq.out
 exact d_Column A c rs n k w m hV hr h1 h2 n0 n1 k0 k1
theorem colsG_snoc (rs l : List Int) (j : Nat) {a b : Int} (ha : Hid (atF l (5 + 2 * j) = a)) (hb : Hid (atF l (6 + 2 * j) = b)) : colsG rs l j ++ [colF rs a b] = colsG rs l (j + 1) := by
 unfold colsG
 rw [range_snoc,ha.out,hb.out]
theorem cutsG_snoc (rs l : List Int) (k sk q : Nat) {a b : Int} (hq : Hid (rs.length = q)) (ha : Hid (atF l (20 + k) = a)) (hb : Hid (atF l (24 + k) = b)) (hs : (sk : Int) = a % q) (d : Int) (hd : d = if b % 2 = 1 then 3 else 2) :
  cutsG rs l k ++ [(cutT rs sk q,d)] = cutsG rs l (k + 1) := by
 unfold cutsG
 rw [range_snoc]
 unfold cutF
 rw [ha.out,hb.out,hq.out,← hs,hd];rfl
structure Ms where
 nf : Int
 rows : List Int
 pen : Int
 cols : List Col
 cuts : List Cut
def MasterR (m : World) (v : Value) (x : Ms) : Prop := ∃ a b c,v = .agg #[.int .i64 x.nf,a,.int .i64 x.pen,b,c] ∧ IntL m a x.rows ∧ ColL m b x.cols ∧ CutL m c x.cuts
theorem MasterR.le {m m' : World} {v : Value} {x : Ms} (h : MasterR m v x) (hb : Le m m') : MasterR m' v x := by
 obtain ⟨a,b,c,e,h1,h2,h3⟩ := h
 exact ⟨a,b,c,e,IntL.le h1 hb,ColL.le h2 hb,CutL.le h3 hb⟩
def masF (l : List Int) : Ms := ⟨6,rowsF l,atF l 0 % 30,colsG (rowsF l) l (atF l 2 % 7).toNat,cutsG (rowsF l) l (atF l 3 % 3).toNat⟩
end Go.Proofs.YtabmjadcoepbeaaGreat

/- Contract of pairingdata.Master. -/
namespace Go.Proofs.YtabmjadcoepbeaaGreat
open Go.RowKit

theorem CutR.mono' (m m' : World) (v : Value) (x : Cut) (h : CutR m v x) (hb : Le m m') : CutR m' v x := h.le hb
theorem IsI.mono (m m' : World) (v : Value) (x : Int) (h : IsI m v x) (_ : Le m m') : IsI m' v x := h

theorem d_Master (A : Option Addr) (c : Nat) (l : List Int) (w m : World) (hV : Vw m w) (h : Sl m A (l.map I64)) (hl : True) :
  Calls Tryz.prog 6 #[.slice A l.length c] w (RetV w m fun m' r => MasterR m' r (masF l)) := by
 have HL := Lib.hid hl
 clear hl
 generalize hN : l.length = N
 have HN := Lib.hid hN
 clear hN
 obtain ⟨a0,E0,p0,p0'⟩ := atX l 0 (by omega)
 obtain ⟨a1,E1,p1,p1'⟩ := atX l 1 (by omega)
 obtain ⟨a2,E2,p2,p2'⟩ := atX l 2 (by omega)
 obtain ⟨a3,E3,p3,p3'⟩ := atX l 3 (by omega)
 have hL := Loc.start hV
 clear hV
 go_enter Tryz.func6,Tryz.ntmps6
 go_upto_region 0 with (fail)
 refine wp_region_lit ?_
 refine t_alloc hL rfl ?_;clear hL;intro Wh2 mh2 hL eh2;simp only [Act.put,zq1,zq2,zq3]
 go_wp2_with (first | go_skip | refine tP ?_ | (refine tS ?_;clear hL;intro _ hL) | (refine tB ?_;clear hL;intro _ _ hL _) | (refine tC ?_;clear hL;intro _ _ hL _ hBs))
 refine (d_AtE _ _ _ l _ 0 a0 _ _ hL.vw (h.le leX) HN HL E0 rfl (by omega)).mono ?_
 rintro e Wc0 ⟨_,mc0,rfl,hE,hMc0,hV,rfl⟩
 replace hL := hL.call hE (by assumption) hV;clear hE hV
 go_upto_region 2 with ((first | go_skip | refine tP ?_ | (refine tS ?_;clear hL;intro _ hL) | (refine tB ?_;clear hL;intro _ _ hL _) | (refine tC ?_;clear hL;intro _ _ hL _ hBs)))
 refine wp_region_lit ?_
 rename_i W0 _ _
 refine wl_bslice hL (wanted_none rfl) rfl (n := 3) (cs := #[.int .i64 0,.int .i64 1,.int .i64 2]) (e := 3) (fun w => by go_simp) ?_
 clear hL
 intro Wa ma hL ea hab
 simp only [Act.put,zq1,zq2,zq3]
 refine wl_bslice hL (wanted_none rfl) rfl (n := 3) (cs := #[.int .i64 1,.int .i64 2,.int .i64 4]) (e := 3) (fun w => by go_simp) ?_
 clear hL
 intro Wb mb hL eb hbb
 simp only [Act.put,zq1,zq2,zq3]
 refine wl_bslice hL (wanted_none rfl) rfl (n := 4) (cs := #[.int .i64 0,.int .i64 1,.int .i64 2,.int .i64 3]) (e := 3) (fun w => by go_simp) ?_
 clear hL
 intro Wc mc hL ec hcb
 simp only [Act.put,zq1,zq2,zq3]
 refine wl_bslice hL (wanted_none rfl) rfl (n := 4) (cs := #[.int .i64 0,.int .i64 2,.int .i64 3,.int .i64 5]) (e := 3) (fun w => by go_simp) ?_
 clear hL
 intro Wd md hL ed hdb
 simp only [Act.put,zq1,zq2,zq3]
 refine wl_bslice hL (wanted_none rfl) rfl (n := 5) (cs := #[.int .i64 0,.int .i64 1,.int .i64 2,.int .i64 3,.int .i64 4]) (e := 3) (fun w => by go_simp) ?_
 clear hL
 intro We me hL ee heb
 simp only [Act.put,zq1,zq2,zq3]
 refine wl_bslice hL (wanted_none rfl) rfl (n := 5) (cs := #[.int .i64 1,.int .i64 2,.int .i64 3,.int .i64 4,.int .i64 5]) (e := 3) (fun w => by go_simp) ?_
 clear hL
 intro Wf mf hL ef hfb
 simp only [Act.put,zq1,zq2,zq3]
 refine wl_bslice hL (wanted_none rfl) rfl (n := 6) (cs := #[.slice (some ⟨W0.heap.size,0,none⟩) 3 3,.slice (some ⟨Wa.heap.size,0,none⟩) 3 3,.slice (some ⟨Wb.heap.size,0,none⟩) 4 4,.slice (some ⟨Wc.heap.size,0,none⟩) 4 4,.slice (some ⟨Wd.heap.size,0,none⟩) 5 5,.slice (some ⟨We.heap.size,0,none⟩) 5 5]) (e := 22) (fun w => by go_simp) ?_
 clear hL
 intro Wg mg hL eg hgb
 simp only [Act.put,zq1,zq2,zq3]
 have hrows : IntLL mg (.slice (some ⟨Wf.heap.size,0,none⟩) 6 6) rowsT := ListV.mk (vs := [.slice (some ⟨W0.heap.size,0,none⟩) 3 3,.slice (some ⟨Wa.heap.size,0,none⟩) 3 3,.slice (some ⟨Wb.heap.size,0,none⟩) 4 4,.slice (some ⟨Wc.heap.size,0,none⟩) 4 4,.slice (some ⟨Wd.heap.size,0,none⟩) 5 5,.slice (some ⟨We.heap.size,0,none⟩) 5 5]) (by omega) rfl (fun u hu => by simp at hu;rcases hu with rfl | rfl | rfl | rfl | rfl | rfl <;> rfl) (Blk.sl hgb (n := 6) rfl)
  ⟨IntL.le (IntL.ofBlk [0,1,2] hab) leX,IntL.le (IntL.ofBlk [1,2,4] hbb) leX,IntL.le (IntL.ofBlk [0,1,2,3] hcb) leX,IntL.le (IntL.ofBlk [0,2,3,5] hdb) leX,IntL.le (IntL.ofBlk [0,1,2,3,4] heb) leX,IntL.le (IntL.ofBlk [1,2,3,4,5] hfb) leX,trivial⟩
 clear hab hbb hcb hdb heb hfb hgb
 go_wp2_with (first | go_skip | refine tP ?_ | (refine tS ?_;clear hL;intro _ hL) | (refine tB ?_;clear hL;intro _ _ hL _) | (refine tC ?_;clear hL;intro _ _ hL _ hBs))
 refine (d_AtE _ _ _ l _ 1 a1 _ _ hL.vw (h.le leX) HN HL E1 rfl (by omega)).mono ?_
 rintro e Wc1 ⟨_,mc1,rfl,hE,hMc1,hV,rfl⟩
 replace hL := hL.call hE (by assumption) hV;clear hE hV
 have hi1 : (a1 % 6).toNat < 6 := by omega
 have e6 : a1 % 6 = ((a1 % 6).toNat : Int) := by omega
 have HR : Hid (rowsF l = rowsT.getD (a1 % 6).toNat []) := by show _ = _;unfold rowsF;rw [E1.out]
 obtain ⟨h3,h5⟩ := rowsT_len ⟨_,hi1⟩
 have HC : Hid (∀ s : Nat,s < (rowsT.getD (a1 % 6).toNat []).length → 2 < (cutT (rowsT.getD (a1 % 6).toNat []) s (rowsT.getD (a1 % 6).toNat []).length).length) := by
  show ∀ s : Nat,_
  intro s hs
  exact cutT_long ⟨_,hi1⟩ ⟨s,by simp only at h5;omega⟩ hs
 obtain ⟨b6,o6,A4,c4,e,hrs,hc6⟩ := IntLL.at_ hrows (rowsT_get _ hi1)
 injection e with e
 injection e with e e'
 subst e e'
 simp only at h3 h5
 simp only [Nat.zero_add] at hc6
 generalize rowsT.getD (a1 % 6).toNat [] = rs at *
 generalize (a1 % 6).toNat = i1 at *
 generalize hq : rs.length = q at *
 have HQ := Lib.hid hq
 clear hq hrows
 go_wp2_with (first | go_skip | refine tP ?_ | (refine tS ?_;clear hL;intro _ hL) | (refine tB ?_;clear hL;intro _ _ hL _) | (refine tC ?_;clear hL;intro _ _ hL _ hBs))
 refine goA ?_
 refine wl_append (A := [_,_]) hL (Row.nil _ _) (wanted_none rfl) rfl ap_ints (by omega) rfl rfl (news := rs.map I64) (by simp [HQ.out]) ((IntL.sl (IntL.le hrs leX)).le hL.vw.le) (ints_one rs) (by omega) (by omega) ?_
 clear hL
 intro v1 W4 m4 R4 hL r4 e4
 obtain ⟨m5,A5,c5,hL5,hle5,rfl,hc5,hs5,-⟩ := Loc.show (A := [_,_]) hL r4
 simp only [Nat.zero_add,List.nil_append] at hc5 hs5
 have hrw : IntL m5 (.slice A5 q c5) rs := IntL.ofSl hs5 HQ.out hc5
 have hrs5 : IntL m5 (.slice A4 q c4) rs := IntL.le hrs (Le.trans leX hle5)
 clear hL hs5 hrs hc6
 have hL := hL5
 clear hL5 hle5
 have e7 : a2 % 7 = ((a2 % 7).toNat : Int) := by omega
 have E2' : Hid ((atF l 2 % 7).toNat = (a2 % 7).toNat) := by show _ = _;rw [E2.out]
 have hJ : (a2 % 7).toNat ≤ 6 := by omega
 generalize (a2 % 7).toNat = J at *
 have e3' : a3 % 3 = ((a3 % 3).toNat : Int) := by omega
 have E3' : Hid ((atF l 3 % 3).toNat = (a3 % 3).toNat) := by show _ = _;rw [E3.out]
 have hK : (a3 % 3).toNat ≤ 2 := by omega
 generalize (a3 % 3).toNat = K at *
 clear e6 hi1
 simp only [Act.put,zq1,zq2,zq3,Nat.zero_add]
 go_wp2_with (first | go_skip | refine tP ?_ | (refine tS ?_;clear hL;intro _ hL) | (refine tB ?_;clear hL;intro _ _ hL _) | (refine tC ?_;clear hL;intro _ _ hL _ hBs))
 go_loopw [5] (fun i wr => ∃ (j : Nat) (mm : World) (A7 : Option Addr) (c7 : Nat) (Rr : List Lo),j ≤ J ∧ i = .int .i64 j ∧ Loc w m wr mm ((Wc0.heap.size,26,#[.int .i64 6,.slice A5 q c5,.int .i64 (a0 % 30),.slice A7 j c7,.slice none 0 0]) :: (w.heap.size,26,#[.int .i64 0,.slice none 0 0,.int .i64 0,.slice none 0 0,.slice none 0 0]) :: Rr) ∧ Hid (RowA 66 3 ColR mm (.slice A7 j c7) j (colsG rs l j) Rr) ∧ Ext m5 mm) (fun i _ => J - (intOf i).toNat)
 case atStart => exact ⟨0,m5,none,0,[],Nat.zero_le _,rfl,hL,RowA.nil,Ext.refl _⟩
 case round =>
  clear hL
  obtain ⟨j,mm,A7,c7,Rr,hj,rfl,hL,rr,hX⟩ := hrel
  have hM := hL.mext
  have hA := h.le hM.le
  have hrs6 := IntL.le hrs5 hX.le
  have hrw6 := IntL.le hrw hX.le
  have HX := Lib.hid hX
  clear hX hM
  go_wp2_with (first | go_skip | refine tP ?_ | (refine tS ?_;clear hL;intro _ hL) | (refine tB ?_;clear hL;intro _ _ hL _) | (refine tC ?_;clear hL;intro _ _ hL _ hBs))
  refine (d_AtE _ _ _ l _ 2 a2 _ _ hL.vw (hA.le leX) HN HL E2 rfl (by omega)).mono ?_
  rintro e Wc2 ⟨_,mc2,rfl,hE,hMc2,hV,rfl⟩
  replace hL := hL.call hE (by assumption) hV;clear hE hV
  by_cases hlt : j < J
  ·obtain ⟨a5,E5,p5,p5'⟩ := atX l (5 + 2 * j) (by omega)
   obtain ⟨a6,E6,p6,p6'⟩ := atX l (6 + 2 * j) (by omega)
   go_upto_region 7 with ((first | go_skip | refine tP ?_ | (refine tS ?_;clear hL;intro _ hL) | (refine tB ?_;clear hL;intro _ _ hL _) | (refine tC ?_;clear hL;intro _ _ hL _ hBs)))
   clear e7 e3'
   (try simp only [eq_self] at *)
   refine wp_region_by2 15 [false,false,false,false,false,false,false,false,false,false,false,false,false,false,false] [false,false,false,false,false,false,false,false,false,false,false,false,false,false,false] [(fun v _ _ => v = ?c7_0),(fun v _ _ => v = ?c7_1),(fun v _ _ => v = ?c7_2),(fun v _ _ => v = ?c7_3),(fun v _ _ => v = ?c7_4),(fun v _ _ => v = ?c7_5),(fun v _ _ => v = ?c7_6),Is (.int .i64 a5),(fun v _ _ => v = ?c7_8),(fun v _ _ => v = ?c7_9),(fun v _ _ => v = ?c7_10),(fun v _ _ => v = ?c7_11),Is (.int .i64 a6),Of (fun um v => ColR um v (colF rs a5 a6)),(NewS1 66 (fun um v => ColR um v (colF rs a5 a6)))] hL.vw mixed [38,39,40,41,42,43,44,45,46,47,48,49,50,51,52] _ (by kernel_rfl) (fun vs => by simp only [lay,Act.put,zq1,zq2,zq3];rfl) (by kernel_rfl) (by decide) (by decide) ?s7 ?l7 ?r7
   case s7 =>
    refine ⟨?_,?_,?_,?_,?_,?_,?_,?_,?_,?_,?_,?_,?_,?_,?_,trivial⟩
    ·intro vs W1 m1 hE hM hV hD;clear hD
     exact sFe
    ·intro vs W1 m1 hE hM hV hD;obtain ⟨⟨_,_,-,-,f38⟩,-⟩ := hD
     rw [(f38 : vs 38 = _)];clear f38;exact sLe
    ·intro vs W1 m1 hE hM hV hD;clear hD
     exact sPw
    ·intro vs W1 m1 hE hM hV hD;clear hD
     exact sPw
    ·intro vs W1 m1 hE hM hV hD;clear hD
     exact sPw
    ·intro vs W1 m1 hE hM hV hD;obtain ⟨⟨_,_,-,-,f42⟩,-⟩ := hD
     rw [(f42 : vs 42 = _)];clear f42;exact sPw
    ·intro vs W1 m1 hE hM hV hD;obtain ⟨⟨_,_,-,-,f43⟩,-⟩ := hD
     rw [(f43 : vs 43 = _)];clear f43;exact sPw
    ·intro vs W1 m1 hE hM hV hD;obtain ⟨⟨_,_,-,-,f41⟩,⟨_,_,-,-,f44⟩,-⟩ := hD
     rw [(f41 : vs 41 = _),(f44 : vs 44 = _)]
     clear f41 f44
     go_wp2_with fail
     refine (d_AtE _ _ _ l _ (5 + 2 * j) a5 _ _ hV (hA.le leX) HN HL E5 (by omega) (by omega)).mono ?_
     rintro e W2 ⟨v,m2,rfl,hE2,hM2,hV2,h⟩
     go_wp2_with fail
     refine One2.call hE2 hM2 hV2 ?_;first | exact h | exact rfl
    ·intro vs W1 m1 hE hM hV hD;clear hD
     exact sPw
    ·intro vs W1 m1 hE hM hV hD;clear hD
     exact sPw
    ·intro vs W1 m1 hE hM hV hD;obtain ⟨⟨_,_,-,-,f47⟩,-⟩ := hD
     rw [(f47 : vs 47 = _)];clear f47;exact sPw
    ·intro vs W1 m1 hE hM hV hD;obtain ⟨⟨_,_,-,-,f48⟩,-⟩ := hD
     rw [(f48 : vs 48 = _)];clear f48;exact sPw
    ·intro vs W1 m1 hE hM hV hD;obtain ⟨⟨_,_,-,-,f46⟩,⟨_,_,-,-,f49⟩,-,-⟩ := hD
     rw [(f46 : vs 46 = _),(f49 : vs 49 = _)]
     clear f46 f49
     go_wp2_with fail
     refine (d_AtE _ _ _ l _ (6 + 2 * j) a6 _ _ hV (hA.le leX) HN HL E6 (by omega) (by omega)).mono ?_
     rintro e W2 ⟨v,m2,rfl,hE2,hM2,hV2,h⟩
     go_wp2_with fail
     refine One2.call hE2 hM2 hV2 ?_;first | exact h | exact rfl
    ·intro vs W1 m1 hE hM hV hD;obtain ⟨⟨_,_,-,-,f40⟩,⟨_,_,-,-,f45⟩,⟨_,_,-,-,f50⟩,-,-⟩ := hD
     rw [(f40 : vs 40 = _),(f45 : vs 45 = _),(f50 : vs 50 = _)]
     clear f40 f45 f50
     go_wp2_with fail
     refine (d_ColumnE _ _ q rs a5 a6 _ _ hV (IntL.le hrs6 leX) HQ (by omega) (by omega) p5 (by omega) p6 (by omega)).mono ?_
     rintro e W2 ⟨v,m2,rfl,hE2,hM2,hV2,h⟩
     go_wp2_with fail
     refine One2.call hE2 hM2 hV2 ?_;first | exact h | exact rfl
    ·intro vs W1 m1 hE hM hV hD;obtain ⟨⟨_,_,-,i51,f51⟩,-⟩ := hD;have f51 : ColR _ (vs 51) (colF rs a5 a6) := f51;replace f51 := f51.le i51.le;clear i51
     (obtain ⟨b9,A9,n9,c9,z9,e9,f9⟩ := f51.lit;generalize vs 51 = x9 at e9 ⊢;subst x9;go_wp2_with fail;exact one2_s1 hV fun m' h => f9.le h.le)
   case l7 =>
    refine ⟨nF,nF,nF,nF,nF,nF,nF,nF,nF,nF,nF,nF,nF,nF,nF,trivial⟩
   intro vs W1 m1 hE hM hV hF hD
   clear hD
   obtain ⟨-,⟨_,_,-,-,f39⟩,-,-,-,-,-,-,-,-,-,-,-,⟨_,_,-,i51,f51⟩,⟨_,_,j52,i52,f52⟩,-⟩ := hF
   replace hL := hL.call hE hM hV
   have f39 : vs 39 = _ := f39
   generalize vs 39 = x39 at f39 ⊢
   subst x39
   replace f51 : ColR _ (vs 51) (colF rs a5 a6) := f51
   replace f51 := f51.le i51.le
   clear i51
   clear hE hV
   obtain ⟨g15,cs15,e15,q15,f15⟩ := f52
   generalize vs 52 = x15 at e15 ⊢
   subst x15
   replace q15 := q15.ext j52
   have f16 : ColR _ (.agg cs15) (colF rs a5 a6) := f15
   replace f16 := f16.le i52.le
   clear f15 i52 j52
   obtain ⟨b9,A9,n9,c9,z9,e9,f16⟩ := f16.lit
   injection e9 with e9
   subst e9
   simp only [List.drop_succ_cons,List.drop_zero]
   obtain ⟨vs7,r7,z7,y7,l7⟩ := rr.out
   refine wl_append (A := [_,_]) hL r7 (wanted_none rfl) rfl ap_Cols (by omega) rfl rfl (news := [.string b9,.slice A9 n9 c9,.int .i64 z9]) rfl (Blk.sl q15 (n := 3) rfl) rfl (by omega) (by omega) ?_
   clear hL
   intro v1 W2 m2 R2 hL r8 e8
   obtain ⟨A8,c8,rfl,-⟩ := r8.lit
   simp only [List.cons_append,List.nil_append] at hL
   simp only [Act.put,zq1,zq2,zq3]
   go_wp2_with (first | go_skip | refine tP ?_ | (refine tS ?_;clear hL;intro _ hL) | (refine tB ?_;clear hL;intro _ _ hL _) | (refine tC ?_;clear hL;intro _ _ hL _ hBs))
   refine QN.mk ?_
   go_wp2_with (first | go_skip | refine tP ?_ | (refine tS ?_;clear hL;intro _ hL) | (refine tB ?_;clear hL;intro _ _ hL _) | (refine tC ?_;clear hL;intro _ _ hL _ hBs))
   go_roundw
   case rel =>
    refine ⟨j + 1,_,_,_,_,by omega,by go_num,hL,?_,?_⟩
    ·have hq := RowA.snoc (R := ColR) r8 z7 (y7.mono fun v x hv => hv.le (leX : Le mm m2)) l7 rfl (f16.le e8.le)
     rwa [colsG_snoc rs l j E5 E6] at hq
    ·exact HX.out.trans (exX : Ext mm m2)
   case measure => simp [intOf] <;> omega
  ·obtain rfl : j = J := by omega
   have rr2 : Hid (RowA 66 3 ColR mc2 (.slice A7 j c7) j (colsG rs l j) Rr) := RowA.le ColR.mono rr.out leX
   have hrs7 := IntL.le hrs6 (leX : Le mm mc2)
   have hrw7 := IntL.le hrw6 (leX : Le mm mc2)
   clear rr hrs6 hrw6 hA hrs5 hrw
   go_wp2_with (first | go_skip | refine tP ?_ | (refine tS ?_;clear hL;intro _ hL) | (refine tB ?_;clear hL;intro _ _ hL _) | (refine tC ?_;clear hL;intro _ _ hL _ hBs))
   clear hlt hj
   obtain ⟨m6,hL6,hle6,hcl,-⟩ := RowA.show (A := [_,_]) ColR.mono hL rr2.out
   replace hrs7 := IntL.le hrs7 hle6
   replace hrw7 := IntL.le hrw7 hle6
   clear hL rr2 hle6 e7
   go_loopw [6] (fun i wr => ∃ (k : Nat) (mm : World) (A8 : Option Addr) (c8 : Nat) (Rr : List Lo),k ≤ K ∧ i = .int .i64 k ∧ Loc w m wr mm ((Wc0.heap.size,26,#[.int .i64 6,.slice A5 q c5,.int .i64 (a0 % 30),.slice A7 j c7,.slice A8 k c8]) :: (w.heap.size,26,#[.int .i64 0,.slice none 0 0,.int .i64 0,.slice none 0 0,.slice none 0 0]) :: Rr) ∧ Hid (RowA 69 2 CutR mm (.slice A8 k c8) k (cutsG rs l k) Rr) ∧ Hid (ColL mm (.slice A7 j c7) (colsG rs l j)) ∧ Hid (IntL mm (.slice A5 q c5) rs) ∧ Hid (IntL mm (.slice A4 q c4) rs)) (fun i _ => K - (intOf i).toNat)
   case atStart => exact ⟨0,m6,none,0,[],Nat.zero_le _,rfl,hL6,RowA.nil,hcl,hrw7,hrs7⟩
   case round =>
    clear hL6 hcl hrs7 hrw7
    obtain ⟨k,mm,A8,c8,Rr,hk,rfl,hL,RC,hcl,hrw,hrs⟩ := hrel
    have hM := hL.mext
    have hA := h.le hM.le
    clear hM
    go_wp2_with (first | go_skip | refine tP ?_ | (refine tS ?_;clear hL;intro _ hL) | (refine tB ?_;clear hL;intro _ _ hL _) | (refine tC ?_;clear hL;intro _ _ hL _ hBs))
    refine (d_AtE _ _ _ l _ 3 a3 _ _ hL.vw (hA.le leX) HN HL E3 rfl (by omega)).mono ?_
    rintro e Wc3 ⟨_,mc3,rfl,hE,hMc3,hV,rfl⟩
    replace hL := hL.call hE (by assumption) hV;clear hE hV
    by_cases hlt : k < K
    ·obtain ⟨a20,E20,p20,p20'⟩ := atX l (20 + k) (by omega)
     obtain ⟨a24,E24,p24,p24'⟩ := atX l (24 + k) (by omega)
     have e20 : a20 % (q : Int) = ((a20 % q).toNat : Int) := by have := Int.emod_nonneg a20 (b := q) (by omega);omega
     have hsk : (a20 % q).toNat < q := by have := Int.emod_lt_of_pos a20 (b := q) (by omega);omega
     generalize (a20 % q).toNat = sk at *
     have HS20 : Hid ((sk : Int) = a20 % q) := e20.symm
     have hlong : 2 < (cutT rs sk q).length := HC.out sk hsk
     go_wp2_with (first | go_skip | refine tP ?_ | (refine tS ?_;clear hL;intro _ hL) | (refine tB ?_;clear hL;intro _ _ hL _) | (refine tC ?_;clear hL;intro _ _ hL _ hBs))
     refine (d_AtE _ _ _ l _ (20 + k) a20 _ _ hL.vw (hA.le leX) HN HL E20 (by omega) (by omega)).mono ?_
     rintro e Wc4 ⟨_,mc4,rfl,hE,hMc4,hV,rfl⟩
     replace hL := hL.call hE (by assumption) hV;clear hE hV
     have hrs4 := IntL.le hrs.out (leX : Le mm mc4)
     have RC4 : Hid (RowA 69 2 CutR mc4 (.slice A8 k c8) k (cutsG rs l k) Rr) := RowA.le CutR.mono' RC.out leX
     have hcl4 : Hid (ColL mc4 (.slice A7 j c7) (colsG rs l j)) := ColL.le hcl.out leX
     have hrw4 : Hid (IntL mc4 (.slice A5 q c5) rs) := IntL.le hrw.out leX
     clear RC hcl hrw hrs
     go_wp2_with (first | go_skip | refine tP ?_ | (refine tS ?_;clear hL;intro _ hL) | (refine tB ?_;clear hL;intro _ _ hL _) | (refine tC ?_;clear hL;intro _ _ hL _ hBs))
     go_loopw [9] (fun i wr => ∃ (i9 : Nat) (m3 : World) (A9 : Option Addr) (n9 c9 : Nat) (Rx : List Lo),i9 ≤ q ∧ i = .int .i64 i9 ∧ Loc w m wr m3 ((Wc3.heap.size,69,#[.slice A9 n9 c9,.int .i64 2]) :: (Wc0.heap.size,26,#[.int .i64 6,.slice A5 q c5,.int .i64 (a0 % 30),.slice A7 j c7,.slice A8 k c8]) :: (w.heap.size,26,#[.int .i64 0,.slice none 0 0,.int .i64 0,.slice none 0 0,.slice none 0 0]) :: (Rr ++ Rx)) ∧ Hid (RowA 3 1 IsI m3 (.slice A9 n9 c9) n9 (cutT rs sk i9) Rx) ∧ Ext mc4 m3) (fun i _ => q - (intOf i).toNat)
     case atStart => exact ⟨0,mc4,none,0,0,[],Nat.zero_le _,rfl,by rw [List.append_nil];exact hL,RowA.nil,Ext.refl _⟩
     case round =>
      clear hL
      obtain ⟨i9,m3,A9,n9,c9,Rx,hi9,rfl,hL,rx,hX⟩ := hrel
      have hrs3 := IntL.le hrs4 hX.le
      have HX9 := Lib.hid hX
      have hn9 : n9 ≤ i9 := by have := rx.out.len;have := cutT_len rs sk i9;omega
      clear hX
      by_cases hlt3 : i9 < q
      ·obtain ⟨f,hf⟩ := at_some HQ hlt3
       obtain ⟨b1,o1,rfl,hc1⟩ := IntL.at_ hrs3 hf
       by_cases hs : i9 = sk
       ·have bs : ((i9 : Int) != (sk : Int)) = false := by simp [hs]
        by_cases hq3 : q = 3
        ·have bq : ((q : Int) == 3) = true := by simp [hq3]
         have HT : Hid (cutT rs sk (i9 + 1) = cutT rs sk i9 ++ [f]) := by show _ = _;exact cutT_in hf (.inr (by rw [HQ.out];exact hq3))
         clear hs hq3 hf
         go_upto_region 17 with ((first | go_skip | refine tP ?_ | (refine tS ?_;clear hL;intro _ hL) | (refine tB ?_;clear hL;intro _ _ hL _) | (refine tC ?_;clear hL;intro _ _ hL _ hBs)))
         clear e3' e20
         (try simp only [eq_self] at *)
         refine wp_region_by2 7 [false,false,false,false,false,false,false] [false,false,false,false,false,false,false] [(fun v _ _ => v = ?c17_0a),(fun v _ _ => v = ?c17_1a),(fun v _ _ => v = ?c17_2a),(fun v _ _ => v = ?c17_3a),(fun v _ _ => v = ?c17_4a),(fun v _ _ => v = ?c17_5a),(NewS1 3 (fun _ v => v = .agg #[.int .i64 f]))] hL.vw mixed [84,85,86,87,88,89,90] _ (by kernel_rfl) (fun vs => by simp only [lay,Act.put,zq1,zq2,zq3];rfl) (by kernel_rfl) (by decide) (by decide) ?s17a ?l17a ?r17a
         case s17a =>
          refine ⟨?_,?_,?_,?_,?_,?_,?_,trivial⟩
          ·intro vs W1 m1 hE hM hV hD;clear hD
           exact sFe
          ·intro vs W1 m1 hE hM hV hD;obtain ⟨⟨_,_,-,-,f84⟩,-⟩ := hD
           rw [(f84 : vs 84 = _)];clear f84;exact sLe
          ·intro vs W1 m1 hE hM hV hD;clear hD
           exact sPw
          ·intro vs W1 m1 hE hM hV hD;clear hD
           exact sPw
          ·intro vs W1 m1 hE hM hV hD;obtain ⟨⟨_,_,-,-,f86⟩,⟨_,_,-,-,f87⟩,-⟩ := hD
           rw [(f86 : vs 86 = _),(f87 : vs 87 = _)];clear f86 f87;exact sIy
          ·intro vs W1 m1 hE hM hV hD;obtain ⟨⟨_,_,-,-,f88⟩,-⟩ := hD
           rw [(f88 : vs 88 = _)];clear f88;exact sLe
          ·intro vs W1 m1 hE hM hV hD;obtain ⟨⟨_,_,-,-,f89⟩,-⟩ := hD
           rw [(f89 : vs 89 = _)]
           clear f89
           (go_wp2_with fail;exact one2_s1 hV fun _ _ => rfl)
         case l17a =>
          refine ⟨nF,nF,nF,nF,nF,nF,nF,trivial⟩
         intro vs W1 m1 hE hM hV hF hD
         clear hD
         obtain ⟨-,⟨_,_,-,-,f85⟩,-,-,-,-,⟨_,_,j90,i90,f90⟩,-⟩ := hF
         replace hL := hL.call hE hM hV
         have f85 : vs 85 = _ := f85
         generalize vs 85 = x85 at f85 ⊢
         subst x85
         clear hE hV
         obtain ⟨g15,cs15,e15,q15,f15⟩ := f90
         generalize vs 90 = x15 at e15 ⊢
         subst x15
         replace q15 := q15.ext j90
         have f16 : Value.agg cs15 = .agg #[.int .i64 f] := f15
         injection f16 with f16
         subst f16
         clear f15 i90 j90
         simp only [List.drop_succ_cons,List.drop_zero]
         obtain ⟨vs7,r7,z7,y7,l7⟩ := rx.out
         refine wl_append (A := _ :: _ :: _ :: Rr) hL r7 (wanted_none rfl) rfl ap_ints (by omega) rfl rfl (news := [.int .i64 f]) rfl (Blk.sl q15 (n := 1) rfl) rfl (by omega) (by omega) ?_
         clear hL
         intro v1 W2 m2 R2 hL r8 e8
         obtain ⟨A11,c11,rfl,-⟩ := r8.lit
         simp only [List.cons_append] at hL
         have rx2 := RowA.snocV (R := IsI) (m := m2) (x := f) r8 z7 (y7.mono fun _ _ h => h) l7 rfl rfl rfl
         rw [← HT.out] at rx2
         have RX2 := Lib.hid rx2
         clear rx2 r7 z7 y7 l7 r8
         simp only [Act.put,zq1,zq2,zq3]
         go_wp2_with (first | go_skip | refine tP ?_ | (refine tS ?_;clear hL;intro _ hL) | (refine tB ?_;clear hL;intro _ _ hL _) | (refine tC ?_;clear hL;intro _ _ hL _ hBs))
         refine QN.mk ?_
         go_wp2_with (first | go_skip | refine tP ?_ | (refine tS ?_;clear hL;intro _ hL) | (refine tB ?_;clear hL;intro _ _ hL _) | (refine tC ?_;clear hL;intro _ _ hL _ hBs))
         go_roundw
         case rel => exact ⟨i9 + 1,m2,A11,n9 + 1,c11,R2,by omega,by go_num,hL,RX2.out,HX9.out.trans (exX : Ext m3 m2)⟩
         case measure => simp [intOf] <;> omega
        ·have bq : ((q : Int) == 3) = false := by simp;omega
         have HT : Hid (cutT rs sk (i9 + 1) = cutT rs sk i9) := by show _ = _;exact cutT_out (by rw [HQ.out];omega)
         clear hs hq3 hf
         go_wp2_with (first | go_skip | refine tP ?_ | (refine tS ?_;clear hL;intro _ hL) | (refine tB ?_;clear hL;intro _ _ hL _) | (refine tC ?_;clear hL;intro _ _ hL _ hBs))
         go_roundw
         case rel => exact ⟨i9 + 1,m3,A9,n9,c9,Rx,by omega,by go_num,hL,by rw [HT.out];exact rx.out,HX9.out⟩
         case measure => simp [intOf] <;> omega
       ·have bs : ((i9 : Int) != (sk : Int)) = true := by simp;omega
        have HT : Hid (cutT rs sk (i9 + 1) = cutT rs sk i9 ++ [f]) := by show _ = _;exact cutT_in hf (.inl hs)
        clear hs hf
        go_upto_region 17 with ((first | go_skip | refine tP ?_ | (refine tS ?_;clear hL;intro _ hL) | (refine tB ?_;clear hL;intro _ _ hL _) | (refine tC ?_;clear hL;intro _ _ hL _ hBs)))
        clear e3' e20
        (try simp only [eq_self] at *)
        refine wp_region_by2 7 [false,false,false,false,false,false,false] [false,false,false,false,false,false,false] [(fun v _ _ => v = ?c17_0b),(fun v _ _ => v = ?c17_1b),(fun v _ _ => v = ?c17_2b),(fun v _ _ => v = ?c17_3b),(fun v _ _ => v = ?c17_4b),(fun v _ _ => v = ?c17_5b),(NewS1 3 (fun _ v => v = .agg #[.int .i64 f]))] hL.vw mixed [84,85,86,87,88,89,90] _ (by kernel_rfl) (fun vs => by simp only [lay,Act.put,zq1,zq2,zq3];rfl) (by kernel_rfl) (by decide) (by decide) ?s17b ?l17b ?r17b
        case s17b =>
         refine ⟨?_,?_,?_,?_,?_,?_,?_,trivial⟩
         ·intro vs W1 m1 hE hM hV hD;clear hD
          exact sFe
         ·intro vs W1 m1 hE hM hV hD;obtain ⟨⟨_,_,-,-,f84⟩,-⟩ := hD
          rw [(f84 : vs 84 = _)];clear f84;exact sLe
         ·intro vs W1 m1 hE hM hV hD;clear hD
          exact sPw
         ·intro vs W1 m1 hE hM hV hD;clear hD
          exact sPw
         ·intro vs W1 m1 hE hM hV hD;obtain ⟨⟨_,_,-,-,f86⟩,⟨_,_,-,-,f87⟩,-⟩ := hD
          rw [(f86 : vs 86 = _),(f87 : vs 87 = _)];clear f86 f87;exact sIy
         ·intro vs W1 m1 hE hM hV hD;obtain ⟨⟨_,_,-,-,f88⟩,-⟩ := hD
          rw [(f88 : vs 88 = _)];clear f88;exact sLe
         ·intro vs W1 m1 hE hM hV hD;obtain ⟨⟨_,_,-,-,f89⟩,-⟩ := hD
          rw [(f89 : vs 89 = _)]
          clear f89
          (go_wp2_with fail;exact one2_s1 hV fun _ _ => rfl)
        case l17b =>
         refine ⟨nF,nF,nF,nF,nF,nF,nF,trivial⟩
        intro vs W1 m1 hE hM hV hF hD
        clear hD
        obtain ⟨-,⟨_,_,-,-,f85⟩,-,-,-,-,⟨_,_,j90,i90,f90⟩,-⟩ := hF
        replace hL := hL.call hE hM hV
        have f85 : vs 85 = _ := f85
        generalize vs 85 = x85 at f85 ⊢
        subst x85
        clear hE hV
        obtain ⟨g15,cs15,e15,q15,f15⟩ := f90
        generalize vs 90 = x15 at e15 ⊢
        subst x15
        replace q15 := q15.ext j90
        have f16 : Value.agg cs15 = .agg #[.int .i64 f] := f15
        injection f16 with f16
        subst f16
        clear f15 i90 j90
        simp only [List.drop_succ_cons,List.drop_zero]
        obtain ⟨vs7,r7,z7,y7,l7⟩ := rx.out
        refine wl_append (A := _ :: _ :: _ :: Rr) hL r7 (wanted_none rfl) rfl ap_ints (by omega) rfl rfl (news := [.int .i64 f]) rfl (Blk.sl q15 (n := 1) rfl) rfl (by omega) (by omega) ?_
        clear hL
        intro v1 W2 m2 R2 hL r8 e8
        obtain ⟨A11,c11,rfl,-⟩ := r8.lit
        simp only [List.cons_append] at hL
        have rx2 := RowA.snocV (R := IsI) (m := m2) (x := f) r8 z7 (y7.mono fun _ _ h => h) l7 rfl rfl rfl
        rw [← HT.out] at rx2
        have RX2 := Lib.hid rx2
        clear rx2 r7 z7 y7 l7 r8
        simp only [Act.put,zq1,zq2,zq3]
        go_wp2_with (first | go_skip | refine tP ?_ | (refine tS ?_;clear hL;intro _ hL) | (refine tB ?_;clear hL;intro _ _ hL _) | (refine tC ?_;clear hL;intro _ _ hL _ hBs))
        refine QN.mk ?_
        go_wp2_with (first | go_skip | refine tP ?_ | (refine tS ?_;clear hL;intro _ hL) | (refine tB ?_;clear hL;intro _ _ hL _) | (refine tC ?_;clear hL;intro _ _ hL _ hBs))
        go_roundw
        case rel => exact ⟨i9 + 1,m2,A11,n9 + 1,c11,R2,by omega,by go_num,hL,RX2.out,HX9.out.trans (exX : Ext m3 m2)⟩
        case measure => simp [intOf] <;> omega
      ·obtain rfl : q = i9 := by omega
       obtain ⟨m7,hL7,hle7,hil,-⟩ := RowA.show (A := _ :: _ :: _ :: Rr) IsI.mono hL rx.out
       have hle47 : Le mc4 m7 := Le.trans HX9.out.le hle7
       have hn2 : 2 < n9 := by rw [rx.out.len];exact hlong
       clear hL hlt3
       have hL := hL7
       clear hL7
       have hA7 := h.le hL.mext.le
       clear hA
       by_cases ha : a24 % 2 = 1
       ·have bA := bt ha
        have HD : Hid ((3 : Int) = if a24 % 2 = 1 then 3 else 2) := by show _ = _;rw [if_pos ha]
        clear ha
        go_wp2_with (first | go_skip | refine tP ?_ | (refine tS ?_;clear hL;intro _ hL) | (refine tB ?_;clear hL;intro _ _ hL _) | (refine tC ?_;clear hL;intro _ _ hL _ hBs))
        refine (d_AtE _ _ _ l _ (24 + k) a24 _ _ hL.vw (hA7.le leX) HN HL E24 (by omega) (by omega)).mono ?_
        rintro e Wc5 ⟨_,mc5,rfl,hE,hMc5,hV,rfl⟩
        replace hL := hL.call hE (by assumption) hV;clear hE hV
        have RC5 : Hid (RowA 69 2 CutR mc5 (.slice A8 k c8) k (cutsG rs l k) Rr) := RowA.le CutR.mono' RC4.out (Le.trans hle47 leX)
        have hcl5 := ColL.le hcl4.out (Le.trans hle47 (leX : Le m7 mc5))
        have hrw5 := IntL.le hrw4.out (Le.trans hle47 (leX : Le m7 mc5))
        have hrs5 := IntL.le hrs4 (Le.trans hle47 (leX : Le m7 mc5))
        have hil5 := IntL.le hil (leX : Le m7 mc5)
        clear RC4 hcl4 hrw4 hrs4 hil hrs3 rx
        go_wp2_with (first | go_skip | refine tP ?_ | (refine tS ?_;clear hL;intro _ hL) | (refine tB ?_;clear hL;intro _ _ hL _) | (refine tC ?_;clear hL;intro _ _ hL _ hBs))
        refine goA ?_
        obtain ⟨vs8,r8,z8,y8,l8⟩ := RC5.out
        refine wl_append (A := [_,_,_]) hL r8 (wanted_none rfl) rfl ap_Cuts (by omega) rfl rfl (news := [.slice A9 n9 c9,.int .i64 3]) rfl ((Blk.sl hBs (n := 2) rfl).le hL.vw.le) rfl (by omega) (by omega) ?_
        clear hL
        intro v9 W9 m9 R9 hL r9 e9
        obtain ⟨A10,c10,rfl,-⟩ := r9.lit
        simp only [List.cons_append,List.nil_append] at hL
        have hle9 : Le mc5 m9 := leX
        have rc9 := RowA.snoc (R := CutR) (m := m9) (x := (cutT rs sk q,3)) r9 z8 (y8.mono fun v x hv => CutR.le hv hle9) l8 rfl ⟨_,rfl,IntL.le hil5 hle9,Nat.le_trans (cutT_len rs sk q) (by omega)⟩
        rw [cutsG_snoc rs l k sk q HQ E20 E24 HS20.out _ HD.out] at rc9
        have RC9 := Lib.hid rc9
        have HC9 := Lib.hid (ColL.le hcl5 hle9)
        have HW9 := Lib.hid (IntL.le hrw5 hle9)
        have HR9 := Lib.hid (IntL.le hrs5 hle9)
        clear rc9 r8 z8 y8 l8 r9 hcl5 hrw5 hrs5 hil5 RC5
        simp only [Act.put,zq1,zq2,zq3]
        go_wp2_with (first | go_skip | refine tP ?_ | (refine tS ?_;clear hL;intro _ hL) | (refine tB ?_;clear hL;intro _ _ hL _) | (refine tC ?_;clear hL;intro _ _ hL _ hBs))
        go_roundw
        case rel => exact ⟨k + 1,m9,A10,c10,R9,by omega,by go_num,hL.tail,RC9.out,HC9.out,HW9.out,HR9.out⟩
        case measure => simp [intOf] <;> omega
       ·have bA := bf ha
        have HD : Hid ((2 : Int) = if a24 % 2 = 1 then 3 else 2) := by show _ = _;rw [if_neg ha]
        clear ha
        go_wp2_with (first | go_skip | refine tP ?_ | (refine tS ?_;clear hL;intro _ hL) | (refine tB ?_;clear hL;intro _ _ hL _) | (refine tC ?_;clear hL;intro _ _ hL _ hBs))
        refine (d_AtE _ _ _ l _ (24 + k) a24 _ _ hL.vw (hA7.le leX) HN HL E24 (by omega) (by omega)).mono ?_
        rintro e Wc5 ⟨_,mc5,rfl,hE,hMc5,hV,rfl⟩
        replace hL := hL.call hE (by assumption) hV;clear hE hV
        have RC5 : Hid (RowA 69 2 CutR mc5 (.slice A8 k c8) k (cutsG rs l k) Rr) := RowA.le CutR.mono' RC4.out (Le.trans hle47 leX)
        have hcl5 := ColL.le hcl4.out (Le.trans hle47 (leX : Le m7 mc5))
        have hrw5 := IntL.le hrw4.out (Le.trans hle47 (leX : Le m7 mc5))
        have hrs5 := IntL.le hrs4 (Le.trans hle47 (leX : Le m7 mc5))
        have hil5 := IntL.le hil (leX : Le m7 mc5)
        clear RC4 hcl4 hrw4 hrs4 hil hrs3 rx
        go_wp2_with (first | go_skip | refine tP ?_ | (refine tS ?_;clear hL;intro _ hL) | (refine tB ?_;clear hL;intro _ _ hL _) | (refine tC ?_;clear hL;intro _ _ hL _ hBs))
        refine goA ?_
        obtain ⟨vs8,r8,z8,y8,l8⟩ := RC5.out
        refine wl_append (A := [_,_,_]) hL r8 (wanted_none rfl) rfl ap_Cuts (by omega) rfl rfl (news := [.slice A9 n9 c9,.int .i64 2]) rfl ((Blk.sl hBs (n := 2) rfl).le hL.vw.le) rfl (by omega) (by omega) ?_
        clear hL
        intro v9 W9 m9 R9 hL r9 e9
        obtain ⟨A10,c10,rfl,-⟩ := r9.lit
        simp only [List.cons_append,List.nil_append] at hL
        have hle9 : Le mc5 m9 := leX
        have rc9 := RowA.snoc (R := CutR) (m := m9) (x := (cutT rs sk q,2)) r9 z8 (y8.mono fun v x hv => CutR.le hv hle9) l8 rfl ⟨_,rfl,IntL.le hil5 hle9,Nat.le_trans (cutT_len rs sk q) (by omega)⟩
        rw [cutsG_snoc rs l k sk q HQ E20 E24 HS20.out _ HD.out] at rc9
        have RC9 := Lib.hid rc9
        have HC9 := Lib.hid (ColL.le hcl5 hle9)
        have HW9 := Lib.hid (IntL.le hrw5 hle9)
        have HR9 := Lib.hid (IntL.le hrs5 hle9)
        clear rc9 r8 z8 y8 l8 r9 hcl5 hrw5 hrs5 hil5 RC5
        simp only [Act.put,zq1,zq2,zq3]
        go_wp2_with (first | go_skip | refine tP ?_ | (refine tS ?_;clear hL;intro _ hL) | (refine tB ?_;clear hL;intro _ _ hL _) | (refine tC ?_;clear hL;intro _ _ hL _ hBs))
        go_roundw
        case rel => exact ⟨k + 1,m9,A10,c10,R9,by omega,by go_num,hL.tail,RC9.out,HC9.out,HW9.out,HR9.out⟩
        case measure => simp [intOf] <;> omega
    ·obtain rfl : k = K := by omega
     have RC3 : Hid (RowA 69 2 CutR mc3 (.slice A8 k c8) k (cutsG rs l k) Rr) := RowA.le CutR.mono' RC.out leX
     have hcl3 := Lib.hid (ColL.le hcl.out (leX : Le mm mc3))
     have hrw3 := Lib.hid (IntL.le hrw.out (leX : Le mm mc3))
     clear RC hcl hrw hrs
     go_wp2_with (first | go_skip | refine tP ?_ | (refine tS ?_;clear hL;intro _ hL) | (refine tB ?_;clear hL;intro _ _ hL _) | (refine tC ?_;clear hL;intro _ _ hL _ hBs))
     obtain ⟨m8,hL8,hle8,hcu,-⟩ := RowA.show (A := [_,_]) CutR.mono' hL RC3.out
     refine fin_aggR hL Tryz.results6 rfl rfl loX ag_Master (by exact rfl) hL8 ?_
     unfold masF
     rw [HR.out,E0.out,E2'.out,E3'.out]
     exact ⟨_,_,_,rfl,IntL.le hrw3.out hle8,ColL.le hcl3.out hle8,hcu⟩
end Go.Proofs.YtabmjadcoepbeaaGreat

/- What pairingdata.Prices builds. -/
namespace Go.Proofs.YtabmjadcoepbeaaGreat
open Go.RowKit

theorem frT (n : Int) : Tn 10 (frF n) := by
 have h1 := fN_bd n
 have h2 := fD_bd n
 unfold frF
 rw [div_mix]
 exact Tn.divInt (by omega) (by omega) (by omega)
def negF (q : Rat) : Rat := if rs q > 0 then -q else q
theorem Tn.neg {k : Nat} {q : Rat} (h : Tn k q) : Tn k (-q) := ⟨by simpa [Rat.neg_num] using h.1,by simpa [Rat.neg_den] using h.2⟩
theorem Tn.negF {k : Nat} {q : Rat} (h : Tn k q) : Tn k (negF q) := by
 unfold Go.Proofs.YtabmjadcoepbeaaGreat.negF
 split
 ·exact h.neg
 ·exact h
def flG (l : List Int) (n : Nat) : List Rat := (List.range n).map fun i => ((3 : Int) : Rat) * frF (atF l i)
def cdG (l : List Int) (n : Nat) : List Rat := (List.range n).map fun k => negF (frF (atF l (10 + k)))
def deO (l : List Int) (k : Nat) : Option Dec := if atF l (21 + k) % 6 = atF l (21 + k) / 8 % 6 then none else some (atF l (21 + k) % 6,atF l (21 + k) / 8 % 6,decide (atF l (21 + k) / 64 % 2 = 1))
def deG (l : List Int) (n : Nat) : List Dec := (List.range n).filterMap (deO l)
def prF (x : Ms) (l : List Int) : Pr := ⟨flG l 6,x.cuts,cdG l x.cuts.length,deG l (atF l 20 % 3).toNat,false⟩
theorem flG_snoc (l : List Int) (j : Nat) {a : Int} (ha : Hid (atF l j = a)) : flG l j ++ [((3 : Int) : Rat) * frF a] = flG l (j + 1) := by
 unfold flG
 rw [range_snoc,ha.out]
theorem cdG_snoc (l : List Int) (j : Nat) {a : Int} (ha : Hid (atF l (10 + j) = a)) {q : Rat} (hq : q = negF (frF a)) : cdG l j ++ [q] = cdG l (j + 1) := by
 unfold cdG
 rw [range_snoc,ha.out,hq]
theorem deG_in (l : List Int) (j : Nat) {a : Int} (ha : Hid (atF l (21 + j) = a)) (h : ¬ a % 6 = a / 8 % 6) {b : Bool} (hb : b = decide (a / 64 % 2 = 1)) : deG l j ++ [(a % 6,a / 8 % 6,b)] = deG l (j + 1) := by
 unfold deG
 rw [List.range_succ,List.filterMap_append]
 simp [deO,ha.out,h,hb]
theorem deG_out (l : List Int) (j : Nat) {a : Int} (ha : Hid (atF l (21 + j) = a)) (h : a % 6 = a / 8 % 6) : deG l (j + 1) = deG l j := by
 unfold deG
 rw [List.range_succ,List.filterMap_append]
 simp [deO,ha.out,h]
theorem deG_len (l : List Int) (i : Nat) : (deG l i).length ≤ i := by
 unfold deG
 exact Nat.le_trans (List.length_filterMap_le _ _) (by simp)
theorem DecR.mono (m m' : World) (v : Value) (x : Dec) (h : DecR m v x) (_ : Le m m') : DecR m' v x := h
def PricesPost (w m : World) (p : Pr) (e : Ending) (w' : World) : Prop :=
 ∃ m' a b s A c R,e = .returned (.agg #[a,b,.slice A p.cd.length c,s,.bool p.fr]) ∧ Loc w m w' m' R ∧ FracL m' a p.fl ∧ CutL m' b p.cu ∧ RowA 55 4 FracC m' (.slice A p.cd.length c) p.cd.length p.cd R ∧ DecL m' s p.de
theorem fin_aggQ {P : Program} {fn : Func} {Post : Ending → World → Prop} {w m W mm : World} {Ls : List Lo} (hL : Loc w m W mm Ls) {p : Nat} {ty : TypeId} (hr : fn.results = #[.cell p ty]) {a : Act} (hdf : a.defers = []) {g : Nat}
  (hp : a.tmps.getD p undef = .pointer (some ⟨g,0,none⟩)) {n : Nat} {t : TypeId} {cs : Array Value} (hn : Ls[n]? = some (g,t,cs)) {k : Nat} (hty : agS P ty = some k) (hk : cs.size = k) (h : Post (.returned (.agg cs)) W) :
  bodyPost P fn Post .ret a W := fin_aggP hL hr hdf hp hn hty hk h
end Go.Proofs.YtabmjadcoepbeaaGreat

/- Contract of pairingdata.Prices. -/
namespace Go.Proofs.YtabmjadcoepbeaaGreat
open Go.RowKit

theorem d_Prices (v : Value) (x : Ms) (A : Option Addr) (c : Nat) (l : List Int) (w m : World) (hV : Vw m w) (hm : MasterR m v x) (hnf : x.nf = 6) (hcu : x.cuts.length ≤ 10) (h : Sl m A (l.map I64)) (hl : True) :
  Calls Tryz.prog 17 #[v,.slice A l.length c] w (PricesPost w m (prF x l)) := by
 have HL := Lib.hid hl
 clear hl
 generalize hN : l.length = N
 have HN := Lib.hid hN
 clear hN
 obtain ⟨nf,rws,pen,cls,cts⟩ := x
 obtain ⟨va,vb,vc,rfl,h1,h2,h3⟩ := hm
 simp only at hnf hcu h1 h2 h3
 subst hnf
 obtain ⟨A1,c1,rfl,-,h1⟩ := h1.lit
 obtain ⟨A2,c2,rfl,-,h2⟩ := h2.lit
 obtain ⟨A3,c3,rfl,-,h3⟩ := h3.lit
 clear h1 h2
 generalize rws.length = n1
 generalize cls.length = n2
 have HX : Hid (prF ⟨6,rws,pen,cls,cts⟩ l = ⟨flG l 6,cts,cdG l cts.length,deG l (atF l 20 % 3).toNat,false⟩) := rfl
 generalize prF ⟨6,rws,pen,cls,cts⟩ l = px at *
 simp only
 generalize hnc : cts.length = nc at *
 have HC := Lib.hid hnc
 clear hnc
 obtain ⟨a20,E20,p20,p20'⟩ := atX l 20 (by omega)
 have e20 : a20 % 3 = ((a20 % 3).toNat : Int) := by omega
 have E20' : Hid ((atF l 20 % 3).toNat = (a20 % 3).toNat) := by show _ = _;rw [E20.out]
 have hK : (a20 % 3).toNat ≤ 2 := by omega
 generalize (a20 % 3).toNat = K at *
 have hL := Loc.start hV
 clear hV
 go_enter Tryz.func17,Tryz.ntmps17
 go_upto_region 0 with (fail)
 refine wp_region_lit ?_
 refine t_box hL rfl rfl ?_;clear hL;intro Wh2 mh2 hL eh2;simp only [Act.put,zq1,zq2,zq3]
 refine t_alloc hL rfl ?_;clear hL;intro Wh4 mh4 hL eh4;simp only [Act.put,zq1,zq2,zq3]
 go_wp2_with (first | go_skip | refine tP ?_ | (refine tS ?_;clear hL;intro _ hL) | (refine tB ?_;clear hL;intro _ _ hL _) | (refine tC ?_;clear hL;intro _ _ hL _ hBs))
 go_loopw [6] (fun i wr => ∃ (j : Nat) (mm : World) (A7 : Option Addr) (c7 : Nat) (Rr : List Lo),j ≤ 6 ∧ i = .int .i64 j ∧ Loc w m wr mm ((Wh4.heap.size,44,#[.slice A7 j c7,.slice none 0 0,.slice none 0 0,.slice none 0 0,.bool false]) :: (Wh2.heap.size,44,#[.slice none 0 0,.slice none 0 0,.slice none 0 0,.slice none 0 0,.bool false]) :: (w.heap.size,26,#[.int .i64 6,.slice A1 n1 c1,.int .i64 pen,.slice A2 n2 c2,.slice A3 nc c3]) :: Rr) ∧ Hid (RowA 55 4 FracC mm (.slice A7 j c7) j (flG l j) Rr)) (fun i _ => 6 - (intOf i).toNat)
 case atStart => exact ⟨0,_,none,0,[],Nat.zero_le _,rfl,hL,RowA.nil⟩
 case round =>
  clear hL
  obtain ⟨j,mm,A7,c7,Rr,hj,rfl,hL,rr⟩ := hrel
  have hA := h.le hL.mext.le
  by_cases hlt : j < 6
  ·obtain ⟨a,Ea,pa,pa'⟩ := atX l j (by omega)
   have F1 : Hid (Fit 200 ((3 : Int) : Rat)) := (Tn.int (k := 1000) (by decide) (by decide)).fit (by decide)
   have F2 : Hid (Fit 200 (frF a)) := (frT a).fit (by decide)
   clear e20
   have bj : decide ((j : Int) < 6) = true := decide_eq_true (by omega)
   go_upto_region 5 with ((first | go_skip | refine tP ?_ | (refine tS ?_;clear hL;intro _ hL) | (refine tB ?_;clear hL;intro _ _ hL _) | (refine tC ?_;clear hL;intro _ _ hL _ hBs)))
   (try simp only [eq_self] at *)
   refine wp_region_by2 9 [false,false,false,false,false,false,false,false,false] [false,false,false,false,false,false,false,false,false] [(fun v _ _ => v = ?c5_0),(fun v _ _ => v = ?c5_1),Of (fun um v => FracC um v ((3 : Int) : Rat)),(fun v _ _ => v = ?c5_3),(fun v _ _ => v = ?c5_4),Is (.int .i64 a),Of (fun um v => FracC um v (frF a)),Of (fun um v => FracC um v (((3 : Int) : Rat) * frF a)),(NewS1 55 (fun um v => FracC um v (((3 : Int) : Rat) * frF a)))] hL.vw mixed [17,18,19,20,21,22,23,24,25] _ (by kernel_rfl) (fun vs => by simp only [lay,Act.put,zq1,zq2,zq3];rfl) (by kernel_rfl) (by decide) (by decide) ?s5 ?l5 ?r5
   case s5 =>
    refine ⟨?_,?_,?_,?_,?_,?_,?_,?_,?_,trivial⟩
    ·intro vs W1 m1 hE hM hV hD;clear hD
     exact sFe
    ·intro vs W1 m1 hE hM hV hD;obtain ⟨⟨_,_,-,-,f17⟩,-⟩ := hD
     rw [(f17 : vs 17 = _)];clear f17;exact sLe
    ·intro vs W1 m1 hE hM hV hD;clear hD
     go_wp2_with fail
     refine (r_Int 3 _ _ hV (by decide) (by decide)).mono ?_
     rintro e W2 ⟨v,m2,rfl,hE2,hM2,hV2,h⟩
     go_wp2_with fail
     refine One2.call hE2 hM2 hV2 ?_;first | exact h | exact rfl
    ·intro vs W1 m1 hE hM hV hD;clear hD
     exact sPw
    ·intro vs W1 m1 hE hM hV hD;clear hD
     exact sPw
    ·intro vs W1 m1 hE hM hV hD;obtain ⟨⟨_,_,-,-,f20⟩,⟨_,_,-,-,f21⟩,-,-⟩ := hD
     rw [(f20 : vs 20 = _),(f21 : vs 21 = _)]
     clear f20 f21
     go_wp2_with fail
     refine (d_AtE _ _ _ l _ j a _ _ hV (hA.le leX) HN HL Ea (by omega) (by omega)).mono ?_
     rintro e W2 ⟨v,m2,rfl,hE2,hM2,hV2,h⟩
     go_wp2_with fail
     refine One2.call hE2 hM2 hV2 ?_;first | exact h | exact rfl
    ·intro vs W1 m1 hE hM hV hD;obtain ⟨⟨_,_,-,-,f22⟩,-,-⟩ := hD
     rw [(f22 : vs 22 = _)]
     clear f22
     go_wp2_with fail
     refine (d_Frac a _ _ hV (by omega) (by omega)).mono ?_
     rintro e W2 ⟨v,m2,rfl,hE2,hM2,hV2,h⟩
     go_wp2_with fail
     refine One2.call hE2 hM2 hV2 ?_;first | exact h | exact rfl
    ·intro vs W1 m1 hE hM hV hD;obtain ⟨⟨_,_,-,i19,f19⟩,⟨_,_,-,i23,f23⟩,-,-⟩ := hD;have f19 : FracC _ (vs 19) ((3 : Int) : Rat) := f19;replace f19 := f19.le i19.le;clear i19;have f23 : FracC _ (vs 23) (frF a) := f23;replace f23 := f23.le i23.le;clear i23
     go_wp2_with fail
     refine (r_MulC _ _ _ _ _ _ hV f19 f23 F1.out F2.out).mono ?_
     rintro e W2 ⟨v,m2,rfl,hE2,hM2,hV2,h⟩
     go_wp2_with fail
     refine One2.call hE2 hM2 hV2 ?_;first | exact h | exact rfl
    ·intro vs W1 m1 hE hM hV hD;obtain ⟨⟨_,_,-,i24,f24⟩,-⟩ := hD;have f24 : FracC _ (vs 24) (((3 : Int) : Rat) * frF a) := f24;replace f24 := f24.le i24.le;clear i24
     (obtain ⟨g9,A9,n9,c9,h9,B9,k9,d9,e9,f9⟩ := f24.lit;generalize vs 24 = x9 at e9 ⊢;subst x9;go_wp2_with fail;exact one2_s1 hV fun m' h => f9.le h.le)
   case l5 =>
    refine ⟨nF,nF,nF,nF,nF,nF,nF,nF,nF,trivial⟩
   intro vs W1 m1 hE hM hV hF hD
   clear hD
   obtain ⟨-,⟨_,_,-,-,f18⟩,⟨_,_,-,i19,f19⟩,-,-,-,⟨_,_,-,i23,f23⟩,⟨_,_,-,i24,f24⟩,⟨_,_,j25,i25,f25⟩,-⟩ := hF
   replace hL := hL.call hE hM hV
   have f18 : vs 18 = _ := f18
   generalize vs 18 = x18 at f18 ⊢
   subst x18
   replace f19 : FracC _ (vs 19) ((3 : Int) : Rat) := f19
   replace f19 := f19.le i19.le
   clear i19
   replace f23 : FracC _ (vs 23) (frF a) := f23
   replace f23 := f23.le i23.le
   clear i23
   replace f24 : FracC _ (vs 24) (((3 : Int) : Rat) * frF a) := f24
   replace f24 := f24.le i24.le
   clear i24
   clear hE hV
   obtain ⟨g15,cs15,e15,q15,f15⟩ := f25
   generalize vs 25 = x15 at e15 ⊢
   subst x15
   replace q15 := q15.ext j25
   have f16 : FracC _ (.agg cs15) (((3 : Int) : Rat) * frF a) := f15
   replace f16 := f16.le i25.le
   clear f15 i25 j25
   obtain ⟨g9,A9,n9,c9,h9,B9,k9,d9,e9,f16⟩ := f16.lit
   injection e9 with e9
   subst e9
   simp only [List.drop_succ_cons,List.drop_zero]
   obtain ⟨vs7,r7,z7,y7,l7⟩ := rr.out
   refine wl_append (A := [_,_,_]) hL r7 (wanted_none rfl) rfl ap_Fracs (by omega) rfl rfl (news := [.bool g9,.slice A9 n9 c9,.bool h9,.slice B9 k9 d9]) rfl (Blk.sl q15 (n := 4) rfl) rfl (by omega) (by omega) ?_
   clear hL
   intro v1 W2 m2 R2 hL r8 e8
   obtain ⟨A8,c8,rfl,-⟩ := r8.lit
   simp only [List.cons_append,List.nil_append] at hL
   simp only [Act.put,zq1,zq2,zq3]
   go_wp2_with (first | go_skip | refine tP ?_ | (refine tS ?_;clear hL;intro _ hL) | (refine tB ?_;clear hL;intro _ _ hL _) | (refine tC ?_;clear hL;intro _ _ hL _ hBs))
   refine QN.mk ?_
   go_wp2_with (first | go_skip | refine tP ?_ | (refine tS ?_;clear hL;intro _ hL) | (refine tB ?_;clear hL;intro _ _ hL _) | (refine tC ?_;clear hL;intro _ _ hL _ hBs))
   go_roundw
   case rel =>
    refine ⟨j + 1,_,_,_,_,by omega,by go_num,hL,?_⟩
    have hq := RowA.snoc (R := FracC) r8 z7 (y7.mono fun v x hv => hv.le (leX : Le mm m2)) l7 rfl (f16.le e8.le)
    rwa [flG_snoc l j Ea] at hq
   case measure => simp [intOf] <;> omega
  ·have HJ : Hid (j = 6) := by show _ = _;omega
   go_wp2_with (first | go_skip | refine tP ?_ | (refine tS ?_;clear hL;intro _ hL) | (refine tB ?_;clear hL;intro _ _ hL _) | (refine tC ?_;clear hL;intro _ _ hL _ hBs))
   obtain ⟨m5,hL5,hle5,hfl,-⟩ := RowA.show (A := [_,_,_]) FracC.mono hL rr.out
   have hfl : Hid (FracL m5 (.slice A7 j c7) (flG l 6)) := by
    have := hfl
    rwa [show flG l j = flG l 6 from by rw [HJ.out]] at this
   clear hL rr hle5 hlt hj hA
   generalize j = j6 at *
   go_loopw [7] (fun i wr => ∃ (j : Nat) (mm : World) (A8 : Option Addr) (c8 : Nat) (Rr : List Lo),j ≤ nc ∧ i = .int .i64 j ∧ Loc w m wr mm ((Wh4.heap.size,44,#[.slice A7 j6 c7,.slice A3 nc c3,.slice A8 j c8,.slice none 0 0,.bool false]) :: (Wh2.heap.size,44,#[.slice none 0 0,.slice none 0 0,.slice none 0 0,.slice none 0 0,.bool false]) :: (w.heap.size,26,#[.int .i64 6,.slice A1 n1 c1,.int .i64 pen,.slice A2 n2 c2,.slice A3 nc c3]) :: Rr) ∧ Hid (RowA 55 4 FracC mm (.slice A8 j c8) j (cdG l j) Rr) ∧ Hid (FracL mm (.slice A7 j6 c7) (flG l 6))) (fun i _ => nc - (intOf i).toNat)
   case atStart => exact ⟨0,m5,none,0,[],Nat.zero_le _,rfl,hL5,RowA.nil,hfl⟩
   case round =>
    clear hL5 hfl
    obtain ⟨j,mm,A8,c8,Rr,hj,rfl,hL,rr,hfl⟩ := hrel
    have hA := h.le hL.mext.le
    by_cases hlt : j < nc
    ·obtain ⟨a,Ea,pa,pa'⟩ := atX l (10 + j) (by omega)
     have F2 : Hid (Fit 200 (frF a)) := (frT a).fit (by decide)
     go_wp2_with (first | go_skip | refine tP ?_ | (refine tS ?_;clear hL;intro _ hL) | (refine tB ?_;clear hL;intro _ _ hL _) | (refine tC ?_;clear hL;intro _ _ hL _ hBs))
     refine (d_AtE _ _ _ l _ (10 + j) a _ _ hL.vw (hA.le leX) HN HL Ea (by omega) (by omega)).mono ?_
     rintro e Wc1 ⟨_,mc1,rfl,hE,hMc1,hV,rfl⟩
     replace hL := hL.call hE (by assumption) hV;clear hE hV
     go_wp2_with (first | go_skip | refine tP ?_ | (refine tS ?_;clear hL;intro _ hL) | (refine tB ?_;clear hL;intro _ _ hL _) | (refine tC ?_;clear hL;intro _ _ hL _ hBs))
     refine (d_Frac a _ _ hL.vw (by omega) (by omega)).mono ?_
     rintro e Wc2 ⟨vc2,mc2,rfl,hE,hMc2,hV,hc2⟩
     replace hL := hL.call hE (by assumption) hV;clear hE hV
     obtain ⟨gc2',Ac2',nc2',cc2',hc2',Bc2',kc2',dc2',rfl,hc2⟩ := hc2.lit
     go_wp2_with (first | go_skip | refine tP ?_ | (refine tS ?_;clear hL;intro _ hL) | (refine tB ?_;clear hL;intro _ _ hL _) | (refine tC ?_;clear hL;intro _ _ hL _ hBs))
     refine (r_Sign _ (frF a) _ _ hL.vw ((hc2.toV F2.out (by decide)).le leX) (F2.out.mono (by decide))).mono ?_
     rintro e Wc3 ⟨_,mc3,rfl,hE,hMc3,hV,rfl⟩
     replace hL := hL.call hE (by assumption) hV;clear hE hV
     by_cases hs : rs (frF a) > 0
     ·have HN2 : Hid (-frF a = negF (frF a)) := by show _ = _;unfold negF;rw [if_pos hs]
      go_wp2_with (first | go_skip | refine tP ?_ | (refine tS ?_;clear hL;intro _ hL) | (refine tB ?_;clear hL;intro _ _ hL _) | (refine tC ?_;clear hL;intro _ _ hL _ hBs))
      refine (r_Negate _ (frF a) _ _ hL.vw ((hc2.toV F2.out (by decide)).le leX)).mono ?_
      rintro e Wc4 ⟨vc4,mc4,rfl,hE,hMc4,hV,hc4⟩
      replace hL := hL.call hE (by assumption) hV;clear hE hV
      obtain ⟨gc4',Ac4',nc4',cc4',hc4',Bc4',kc4',dc4',rfl,hc4⟩ := hc4.lit
      clear hs e20
      go_wp2_with (first | go_skip | refine tP ?_ | (refine tS ?_;clear hL;intro _ hL) | (refine tB ?_;clear hL;intro _ _ hL _) | (refine tC ?_;clear hL;intro _ _ hL _ hBs))
      refine goA ?_
      obtain ⟨vs7,r7,z7,y7,l7⟩ := rr.out
      refine wl_append (A := [_,_,_,_]) hL r7 (wanted_none rfl) rfl ap_Fracs (by omega) rfl rfl (news := [.bool gc4',.slice Ac4' nc4' cc4',.bool hc4',.slice Bc4' kc4' dc4']) rfl ((Blk.sl hBs (n := 4) rfl).le hL.vw.le) rfl (by omega) (by omega) ?_
      clear hL
      intro v1 W2 m2 R2 hL r8 e8
      obtain ⟨A11,c11,rfl,-⟩ := r8.lit
      simp only [List.cons_append,List.nil_append] at hL
      have rc2 := RowA.snoc (R := FracC) (m := m2) r8 z7 (y7.mono fun v x hv => hv.le (leX : Le mm m2)) l7 rfl (hc4.le (leX : Le mc4 m2))
      rw [cdG_snoc l j Ea HN2.out] at rc2
      have RC2 := Lib.hid rc2
      have hfl2 := Lib.hid (FracL.le hfl.out (leX : Le mm m2))
      clear rc2 r7 z7 y7 l7 r8 hfl rr
      simp only [Act.put,zq1,zq2,zq3]
      go_wp2_with (first | go_skip | refine tP ?_ | (refine tS ?_;clear hL;intro _ hL) | (refine tB ?_;clear hL;intro _ _ hL _) | (refine tC ?_;clear hL;intro _ _ hL _ hBs))
      go_roundw
      case rel => exact ⟨j + 1,m2,A11,c11,R2,by omega,by go_num,hL.tail,RC2.out,hfl2.out⟩
      case measure => simp [intOf] <;> omega
     ·have HN2 : Hid (frF a = negF (frF a)) := by show _ = _;unfold negF;rw [if_neg hs]
      clear e20
      go_wp2_with (first | go_skip | refine tP ?_ | (refine tS ?_;clear hL;intro _ hL) | (refine tB ?_;clear hL;intro _ _ hL _) | (refine tC ?_;clear hL;intro _ _ hL _ hBs))
      clear hs
      refine goA ?_
      obtain ⟨vs7,r7,z7,y7,l7⟩ := rr.out
      refine wl_append (A := [_,_,_,_]) hL r7 (wanted_none rfl) rfl ap_Fracs (by omega) rfl rfl (news := [.bool gc2',.slice Ac2' nc2' cc2',.bool hc2',.slice Bc2' kc2' dc2']) rfl ((Blk.sl hBs (n := 4) rfl).le hL.vw.le) rfl (by omega) (by omega) ?_
      clear hL
      intro v1 W2 m2 R2 hL r8 e8
      obtain ⟨A11,c11,rfl,-⟩ := r8.lit
      simp only [List.cons_append,List.nil_append] at hL
      have rc2 := RowA.snoc (R := FracC) (m := m2) r8 z7 (y7.mono fun v x hv => hv.le (leX : Le mm m2)) l7 rfl (hc2.le (leX : Le mc2 m2))
      rw [cdG_snoc l j Ea HN2.out] at rc2
      have RC2 := Lib.hid rc2
      have hfl2 := Lib.hid (FracL.le hfl.out (leX : Le mm m2))
      clear rc2 r7 z7 y7 l7 r8 hfl rr
      simp only [Act.put,zq1,zq2,zq3]
      go_wp2_with (first | go_skip | refine tP ?_ | (refine tS ?_;clear hL;intro _ hL) | (refine tB ?_;clear hL;intro _ _ hL _) | (refine tC ?_;clear hL;intro _ _ hL _ hBs))
      go_roundw
      case rel => exact ⟨j + 1,m2,A11,c11,R2,by omega,by go_num,hL.tail,RC2.out,hfl2.out⟩
      case measure => simp [intOf] <;> omega
    ·obtain rfl : nc = j := by omega
     clear hlt hj
     go_wp2_with (first | go_skip | refine tP ?_ | (refine tS ?_;clear hL;intro _ hL) | (refine tB ?_;clear hL;intro _ _ hL _) | (refine tC ?_;clear hL;intro _ _ hL _ hBs))
     go_loopw [9] (fun i wr => ∃ (j : Nat) (mm : World) (n9 : Nat) (A9 : Option Addr) (c9 : Nat) (Rd : List Lo),j ≤ K ∧ i = .int .i64 j ∧ Loc w m wr mm ((Wh4.heap.size,44,#[.slice A7 j6 c7,.slice A3 nc c3,.slice A8 nc c8,.slice A9 n9 c9,.bool false]) :: (Wh2.heap.size,44,#[.slice none 0 0,.slice none 0 0,.slice none 0 0,.slice none 0 0,.bool false]) :: (w.heap.size,26,#[.int .i64 6,.slice A1 n1 c1,.int .i64 pen,.slice A2 n2 c2,.slice A3 nc c3]) :: (Rr ++ Rd)) ∧ Hid (RowA 117 3 DecR mm (.slice A9 n9 c9) n9 (deG l j) Rd) ∧ Hid (RowA 55 4 FracC mm (.slice A8 nc c8) nc (cdG l nc) Rr) ∧ Hid (FracL mm (.slice A7 j6 c7) (flG l 6))) (fun i _ => K - (intOf i).toNat)
     case atStart => exact ⟨0,mm,0,none,0,[],Nat.zero_le _,rfl,by rw [List.append_nil];exact hL,RowA.nil,rr.out,hfl.out⟩
     case round =>
      clear hL rr hfl hA
      obtain ⟨j,mm,n9,A9,c9,Rd,hj,rfl,hL,rd,rc,hfl⟩ := hrel
      have hA := h.le hL.mext.le
      have hn9 : n9 ≤ 10 := by have := rd.out.len;have := deG_len l j;omega
      go_wp2_with (first | go_skip | refine tP ?_ | (refine tS ?_;clear hL;intro _ hL) | (refine tB ?_;clear hL;intro _ _ hL _) | (refine tC ?_;clear hL;intro _ _ hL _ hBs))
      refine (d_AtE _ _ _ l _ 20 a20 _ _ hL.vw (hA.le leX) HN HL E20 rfl (by omega)).mono ?_
      rintro e Wc5 ⟨_,mc5,rfl,hE,hMc5,hV,rfl⟩
      replace hL := hL.call hE (by assumption) hV;clear hE hV
      by_cases hlt : j < K
      ·obtain ⟨a,Ea,pa,pa'⟩ := atX l (21 + j) (by omega)
       go_wp2_with (first | go_skip | refine tP ?_ | (refine tS ?_;clear hL;intro _ hL) | (refine tB ?_;clear hL;intro _ _ hL _) | (refine tC ?_;clear hL;intro _ _ hL _ hBs))
       refine (d_AtE _ _ _ l _ (21 + j) a _ _ hL.vw (hA.le leX) HN HL Ea (by omega) (by omega)).mono ?_
       rintro e Wc6 ⟨_,mc6,rfl,hE,hMc6,hV,rfl⟩
       replace hL := hL.call hE (by assumption) hV;clear hE hV
       clear e20
       by_cases hne : a % 6 = a / 8 % 6
       ·have bn : ((a % 6 : Int) != a / 8 % 6) = false := by simp [hne]
        have HNE := Lib.hid (deG_out l j Ea hne)
        have RD2 := Lib.hid (RowA.le DecR.mono rd.out (leX : Le mm mc6))
        have RC2 := Lib.hid (RowA.le FracC.mono rc.out (leX : Le mm mc6))
        have hfl2 := Lib.hid (FracL.le hfl.out (leX : Le mm mc6))
        clear hne rd rc hfl
        go_wp2_with (first | go_skip | refine tP ?_ | (refine tS ?_;clear hL;intro _ hL) | (refine tB ?_;clear hL;intro _ _ hL _) | (refine tC ?_;clear hL;intro _ _ hL _ hBs))
        go_roundw
        case rel => exact ⟨j + 1,mc6,n9,A9,c9,Rd,by omega,by go_num,hL,by rw [HNE.out];exact RD2.out,RC2.out,hfl2.out⟩
        case measure => simp [intOf] <;> omega
       ·have bn : ((a % 6 : Int) != a / 8 % 6) = true := by simp [hne]
        have HNE := Lib.hid hne
        have e64 := i64_and1 (a / 64)
        by_cases hb : a / 64 % 2 = 1
        ·have bb := bt hb
         have HB : Hid (true = decide (a / 64 % 2 = 1)) := (decide_eq_true hb).symm
         clear hne hb
         go_wp2_with (first | go_skip | refine tP ?_ | (refine tS ?_;clear hL;intro _ hL) | (refine tB ?_;clear hL;intro _ _ hL _) | (refine tC ?_;clear hL;intro _ _ hL _ hBs))
         refine goA ?_
         obtain ⟨vs7,r7,z7,y7,l7⟩ := rd.out
         refine wl_append (A := _ :: _ :: _ :: Rr) hL r7 (wanted_none rfl) rfl ap_Decs (by omega) rfl rfl (news := [.int .i64 (a % 6),.int .i64 (a / 8 % 6),.bool true]) rfl ((Blk.sl hBs (n := 3) rfl).le hL.vw.le) rfl (by omega) (by omega) ?_
         clear hL
         intro v1 W2 m2 R2 hL r8 e8
         obtain ⟨A11,c11,rfl,-⟩ := r8.lit
         simp only [List.cons_append,List.nil_append] at hL
         have hle2 : Le mm m2 := leX
         have rd2 := RowA.snoc (R := DecR) (m := m2) (x := (a % 6,a / 8 % 6,true)) r8 z7 (y7.mono fun v x hv => hv) l7 rfl rfl
         rw [deG_in l j Ea HNE.out HB.out] at rd2
         have RD2 := Lib.hid rd2
         have RC2 := Lib.hid (RowA.le FracC.mono rc.out hle2)
         have hfl2 := Lib.hid (FracL.le hfl.out hle2)
         clear rd2 r7 z7 y7 l7 r8 hfl rc rd
         simp only [Act.put,zq1,zq2,zq3]
         go_wp2_with (first | go_skip | refine tP ?_ | (refine tS ?_;clear hL;intro _ hL) | (refine tB ?_;clear hL;intro _ _ hL _) | (refine tC ?_;clear hL;intro _ _ hL _ hBs))
         go_roundw
         case rel => exact ⟨j + 1,m2,n9 + 1,A11,c11,R2,by omega,by go_num,hL,RD2.out,RC2.out,hfl2.out⟩
         case measure => simp [intOf] <;> omega
        ·have bb := bf hb
         have HB : Hid (false = decide (a / 64 % 2 = 1)) := (decide_eq_false hb).symm
         clear hne hb
         go_wp2_with (first | go_skip | refine tP ?_ | (refine tS ?_;clear hL;intro _ hL) | (refine tB ?_;clear hL;intro _ _ hL _) | (refine tC ?_;clear hL;intro _ _ hL _ hBs))
         refine goA ?_
         obtain ⟨vs7,r7,z7,y7,l7⟩ := rd.out
         refine wl_append (A := _ :: _ :: _ :: Rr) hL r7 (wanted_none rfl) rfl ap_Decs (by omega) rfl rfl (news := [.int .i64 (a % 6),.int .i64 (a / 8 % 6),.bool false]) rfl ((Blk.sl hBs (n := 3) rfl).le hL.vw.le) rfl (by omega) (by omega) ?_
         clear hL
         intro v1 W2 m2 R2 hL r8 e8
         obtain ⟨A11,c11,rfl,-⟩ := r8.lit
         simp only [List.cons_append,List.nil_append] at hL
         have hle2 : Le mm m2 := leX
         have rd2 := RowA.snoc (R := DecR) (m := m2) (x := (a % 6,a / 8 % 6,false)) r8 z7 (y7.mono fun v x hv => hv) l7 rfl rfl
         rw [deG_in l j Ea HNE.out HB.out] at rd2
         have RD2 := Lib.hid rd2
         have RC2 := Lib.hid (RowA.le FracC.mono rc.out hle2)
         have hfl2 := Lib.hid (FracL.le hfl.out hle2)
         clear rd2 r7 z7 y7 l7 r8 hfl rc rd
         simp only [Act.put,zq1,zq2,zq3]
         go_wp2_with (first | go_skip | refine tP ?_ | (refine tS ?_;clear hL;intro _ hL) | (refine tB ?_;clear hL;intro _ _ hL _) | (refine tC ?_;clear hL;intro _ _ hL _ hBs))
         go_roundw
         case rel => exact ⟨j + 1,m2,n9 + 1,A11,c11,R2,by omega,by go_num,hL,RD2.out,RC2.out,hfl2.out⟩
         case measure => simp [intOf] <;> omega
      ·obtain rfl : j = K := by omega
       have RD2 := Lib.hid (RowA.le DecR.mono rd.out (leX : Le mm mc5))
       have RC2 := Lib.hid (RowA.le FracC.mono rc.out (leX : Le mm mc5))
       have hfl2 := Lib.hid (FracL.le hfl.out (leX : Le mm mc5))
       clear rd rc hfl
       go_wp2_with (first | go_skip | refine tP ?_ | (refine tS ?_;clear hL;intro _ hL) | (refine tB ?_;clear hL;intro _ _ hL _) | (refine tC ?_;clear hL;intro _ _ hL _ hBs))
       obtain ⟨m8,hL8,hle8,hde,-⟩ := RowA.show (A := _ :: _ :: _ :: Rr) DecR.mono hL RD2.out
       refine fin_aggQ hL Tryz.results17 rfl rfl loX ag_Prices (by exact rfl) ?_
       rw [HX.out]
       have hcl : (cdG l nc).length = nc := by unfold cdG;rw [List.length_map,List.length_range]
       refine ⟨m8,.slice A7 j6 c7,.slice A3 nc c3,.slice A9 n9 c9,A8,c8,Rr,?_,hL8.tail.tail.tail,FracL.le hfl2.out hle8,CutL.le h3 hL8.mext.le,?_,?_⟩
       ·simp only [hcl]
       ·simp only [hcl]
        exact RowA.le FracC.mono RC2.out hle8
       ·simp only [E20'.out];exact hde
end Go.Proofs.YtabmjadcoepbeaaGreat

/- The prices of the laws. -/
namespace Go.Proofs.YtabmjadcoepbeaaGreat
open Go.RowKit

def PrO (B : Nat) (p : Pr) (v : Value) (u um : World) : Prop := PricesR um v p ∧ ∃ a b s d f cs,v = .agg #[a,b,s,d,f] ∧ u.ownsRow B 55 4 s p.cd.length cs
theorem d_PricesW (v : Value) (x : Ms) (A : Option Addr) (c : Nat) (l : List Int) (w m : World) (hV : Vw m w) (hm : MasterR m v x) (hnf : x.nf = 6) (hcu : x.cuts.length ≤ 10) (h : Sl m A (l.map I64)) (hl : True) :
  Calls Tryz.prog 17 #[v,.slice A l.length c] w (RetW w m fun w' m' v => PrO w.heap.size (prF x l) v w' m') := by
 refine (d_Prices v x A c l w m hV hm hnf hcu h hl).mono ?_
 rintro e w' ⟨m',a,b,s,A,c,R,rfl,hL,h1,h2,h3,h4⟩
 obtain ⟨m2,hL2,hle,h5,cs,ho⟩ := RowA.show (A := []) FracC.mono hL h3
 exact ⟨_,m2,rfl,hL2.ext,hL2.mext,hL2.vw,⟨_,_,_,_,rfl,FracL.le h1 hle,CutL.le h2 hle,h5,DecL.le h4 hle⟩,_,_,_,_,_,cs,rfl,ho⟩
theorem d_PricesV (v : Value) (x : Ms) (A : Option Addr) (c N : Nat) (l : List Int) (w m : World) (hV : Vw m w) (hm : MasterR m v x) (hnf : Hid (x.nf = 6)) (hcu : Hid (x.cuts.length ≤ 10)) (h : Sl m A (l.map I64)) (hN : Hid (l.length = N)) (hl : Hid (True)) :
  Calls Tryz.prog 17 #[v,.slice A N c] w (RetW w m fun w' m' v => PrO w.heap.size (prF x l) v w' m') := by
 obtain rfl := hN.out
 exact d_PricesW v x A c l w m hV hm hnf.out hcu.out h hl.out
theorem PrO.base {B B' : Nat} {p : Pr} {v : Value} {u um : World} (h : PrO B' p v u um) (hB : B ≤ B') : PrO B p v u um := by
 obtain ⟨h0,a,b,s,d,f,cs,h1,h2,h3⟩ := h
 refine ⟨h0,a,b,s,d,f,cs,h1,h2,?_⟩
 rcases h3 with h3 | ⟨g,cap,cur,h4,h5,h6⟩
 ·exact .inl h3
 ·exact .inr ⟨g,cap,cur,h4,Nat.le_trans hB h5,h6⟩
theorem PricesR.lit {m : World} {v : Value} {p : Pr} (h : PricesR m v p) : ∃ A0 c0 A1 c1 A2 c2 A3 c3,v = .agg #[.slice A0 p.fl.length c0,.slice A1 p.cu.length c1,.slice A2 p.cd.length c2,.slice A3 p.de.length c3,.bool p.fr] ∧ p.fl.length ≤ c0 ∧
  PricesR m (.agg #[.slice A0 p.fl.length c0,.slice A1 p.cu.length c1,.slice A2 p.cd.length c2,.slice A3 p.de.length c3,.bool p.fr]) p := by
 have h' := h
 obtain ⟨a,b,c,d,rfl,h1,h2,h3,h4⟩ := h
 obtain ⟨A0,c0,rfl,hc,_⟩ := h1.lit
 obtain ⟨A1,c1,rfl,_,_⟩ := h2.lit
 obtain ⟨A2,c2,rfl,_,_⟩ := h3.lit
 obtain ⟨A3,c3,rfl,_,_⟩ := h4.lit
 exact ⟨_,_,_,_,_,_,_,_,rfl,hc,h'⟩
theorem PrO.lit {B : Nat} {p : Pr} {v : Value} {u um W m : World} (h : PrO B p v u um) (hE : Ext u W) (hM : Ext um m) : ∃ A0 c0 A1 c1 A2 c2 A3 c3 cs,v = .agg #[.slice A0 p.fl.length c0,.slice A1 p.cu.length c1,.slice A2 p.cd.length c2,.slice A3 p.de.length c3,.bool p.fr] ∧
  PricesR m (.agg #[.slice A0 p.fl.length c0,.slice A1 p.cu.length c1,.slice A2 p.cd.length c2,.slice A3 p.de.length c3,.bool p.fr]) p ∧ W.ownsRow B 55 4 (.slice A2 p.cd.length c2) p.cd.length cs := by
 obtain ⟨h0,a,b,s,d,f,cs,h1,h2⟩ := h
 obtain ⟨A0,c0,A1,c1,A2,c2,A3,c3,e,_,h3⟩ := h0.lit
 subst h1
 injection e with e
 injection e with e
 injection e with e1 e
 injection e with e2 e
 injection e with e3 e
 subst e3
 exact ⟨A0,c0,A1,c1,A2,c2,A3,c3,cs,by rw [e1,e2,e],h3.le hM.le,ownsRow_ext h2 hE⟩
theorem d_PricesY (v : Value) (x : Ms) (A : Option Addr) (c N : Nat) (l : List Int) (w m : World) (hV : Vw m w) (hm : MasterR m v x) (hnf : Hid (x.nf = 6)) (hcu : Hid (x.cuts.length ≤ 10)) (h : Sl m A (l.map I64)) (hN : Hid (l.length = N)) (hl : Hid (True)) :
  Calls Tryz.prog 17 #[v,.slice A N c] w (RetV w m fun m' v => PricesR m' v (prF x l)) := by
 refine (d_PricesV v x A c N l w m hV hm hnf hcu h hN hl).mono ?_
 rintro e w' ⟨v,m',rfl,a,b,c,d,-⟩
 exact ⟨v,m',rfl,a,b,c,d⟩
theorem MasterR.lit {m : World} {v : Value} {x : Ms} (h : MasterR m v x) : ∃ A n c A' n' c' A'' n'' c'',v = .agg #[.int .i64 x.nf,.slice A n c,.int .i64 x.pen,.slice A' n' c',.slice A'' n'' c''] ∧ MasterR m (.agg #[.int .i64 x.nf,.slice A n c,.int .i64 x.pen,.slice A' n' c',.slice A'' n'' c'']) x := by
 have h' := h
 obtain ⟨a,b,c,rfl,h1,h2,h3⟩ := h
 obtain ⟨A0,c0,rfl,_,_⟩ := h1.lit
 obtain ⟨A1,c1,rfl,_,_⟩ := h2.lit
 obtain ⟨A2,c2,rfl,_,_⟩ := h3.lit
 exact ⟨_,_,_,_,_,_,_,_,_,rfl,h'⟩
theorem Loc.reown {w0 m0 W m : World} {Ls : List Lo} (hL : Loc w0 m0 W m Ls) {B : Nat} {e : TypeId} {size : Nat} {v : Value} {n : Nat} {xs : List Value} (ho : W.ownsRow B e size v n xs) (hB : w0.heap.size ≤ B) (hne : ∀ x ∈ Ls,x.2.1 ≠ e) :
  ∃ R m',Loc w0 m0 W m' (Ls ++ R) ∧ Row e size v n xs R := by
 have hs : m0.heap.size ≤ W.heap.size := by rw [hL.size0];exact hL.ext.size
 have key : ∀ R : List Lo,(∀ x ∈ R,w0.heap.size ≤ x.1 ∧ Blk W x.1 x.2.1 x.2.2 ∧ x.2.1 = e) → R.length ≤ 1 → Loc w0 m0 W (hidTo m0 W.heap.size) (Ls ++ R) := by
  intro R hR h1
  refine ⟨hL.size0,hL.ext,hidTo_ext hs,⟨hL.mext.os.symm.trans hL.vw.os,hL.mext.tape.symm.trans hL.vw.tape,hL.mext.output.symm.trans hL.vw.output,hidTo_size hs,fun a u hu => ?_⟩,fun x hx => ?_,fun x hx => ?_,fun x hx a ha => ?_,?_⟩
  ·rcases Nat.lt_or_ge a.block m0.heap.size with h | h
   ·rw [cell_of_heap (hidTo_old h)] at hu
    exact hL.vw.cell _ _ (hL.mext.le.cell _ _ hu)
   ·rw [hidTo_new h] at hu;cases hu
  ·rcases List.mem_append.1 hx with hx | hx
   ·exact hL.low x hx
   ·exact (hR x hx).1
  ·rcases List.mem_append.1 hx with hx | hx
   ·exact hL.blk x hx
   ·exact (hR x hx).2.1
  ·refine hidTo_new ?_
   rw [ha,hL.size0]
   rcases List.mem_append.1 hx with hx | hx
   ·exact hL.low x hx
   ·exact (hR x hx).1
  ·refine List.pairwise_append.2 ⟨hL.apart,?_,fun x hx y hy => ?_⟩
   ·match R,h1 with
    | [],_ => exact List.Pairwise.nil
    | [x],_ => exact List.pairwise_singleton _ _
   ·refine blk_ne (hL.blk x hx) (hR y hy).2.1 (.inl ?_)
    rw [(hR y hy).2.2]
    exact hne x hx
 obtain ⟨h1,⟨rfl,rfl⟩ | ⟨g,cap,cur,rfl,h4,h5,h6⟩⟩ := ho
 ·exact ⟨[],_,key [] (fun _ h => by cases h) (by simp),h1,.inl ⟨rfl,rfl,rfl⟩⟩
 ·refine ⟨[(g,e,cur)],_,key _ (fun x hx => ?_) (by simp),h1,.inr ⟨g,cap,cur,rfl,rfl,h6⟩⟩
  rcases List.mem_singleton.1 hx with rfl
  exact ⟨Nat.le_trans hB h4,h5,rfl⟩

theorem Tn.add {k l : Nat} {p q : Rat} (h : Tn k p) (h' : Tn l q) : Tn (2 * (k * l)) (p + q) := by
 rw [rat_add]
 have a1 := h.1
 have a2 := h.2
 have b1 := h'.1
 have b2 := h'.2
 have c1 : p.num.natAbs * q.den ≤ k * l := Nat.mul_le_mul a1 b2
 have c2 : q.num.natAbs * p.den ≤ k * l := by rw [Nat.mul_comm k l];exact Nat.mul_le_mul b1 a2
 have c3 : p.den * q.den ≤ k * l := Nat.mul_le_mul a2 b2
 refine Tn.divInt (Int.mul_pos (by have := p.den_pos;omega) (by have := q.den_pos;omega)) ?_ ?_
 ·refine Nat.le_trans (Int.natAbs_add_le _ _) ?_
  rw [Int.natAbs_mul,Int.natAbs_mul]
  simp only [Int.natAbs_natCast]
  omega
 ·have : ((p.den : Int) * (q.den : Int)) = ((p.den * q.den : Nat) : Int) := by simp
  rw [this]
  omega
theorem masF_cuts (l : List Int) : (masF l).cuts.length ≤ 2 ∧ ∀ c ∈ (masF l).cuts,c.1.length ≤ 5 := by
 have h0 := atF_bd l 1 (by omega)
 have h3 := atF_bd l 3 (by omega)
 have h1 : (atF l 1 % 6).toNat < 6 := by omega
 have hr : (rowsF l).length ≤ 5 := (rowsT_len ⟨_,h1⟩).2
 constructor
 ·show ((List.range _).map _).length ≤ 2
  simp only [List.length_map,List.length_range]
  omega
 ·intro c hc
  obtain ⟨k,_,rfl⟩ := List.mem_map.1 hc
  exact Nat.le_trans (cutT_len _ _ _) hr
theorem prF_tn (x : Ms) (l : List Int) : (prF x l).tn := by
 constructor
 ·intro q hq
  obtain ⟨i,_,rfl⟩ := List.mem_map.1 hq
  have h3 : Tn 3 ((3 : Int) : Rat) := Tn.int (by decide) (by decide)
  have := h3.mul (frT (atF l i))
  exact ⟨Nat.le_trans this.1 (by decide),Nat.le_trans this.2 (by decide)⟩
 ·intro q hq
  obtain ⟨i,_,rfl⟩ := List.mem_map.1 hq
  have := (frT (atF l (10 + i))).negF
  exact ⟨Nat.le_trans this.1 (by decide),Nat.le_trans this.2 (by decide)⟩
theorem cdG_len (l : List Int) (n : Nat) : (cdG l n).length = n := by simp [cdG]
theorem prF_de (x : Ms) (l : List Int) : (prF x l).de.length ≤ 2 := by
 have h := atF_bd l 20 (by omega)
 exact Nat.le_trans (deG_len l _) (by omega)
end Go.Proofs.YtabmjadcoepbeaaGreat

/- How an argument of integers is opened. -/
namespace Go.Proofs.YtabmjadcoepbeaaGreat
open Go.ChangeShapes Go.WideShapes Go.ChangeAt Go.RowKit

theorem ownK : ownKnob Tryz.prog.godebug = none := by kernel_rfl
theorem laidO : laidOutB Tryz.prog = true := by kernel_rfl
theorem cells_int : Tryz.prog.cellsOf 3 = 1 := by kernel_rfl

theorem arg_ints {H : Type} {enc : TypeId × Value → H} {W : World} {base : Nat} {v : Value} {d : DataW H} {p : List MemPlace} (hv : Value.okWide Tryz.prog W .any base 22 v)
  (h : DataW.Trod enc Tryz.prog W 0 (fun _ => true) true 22 v d p) : ∃ A c,∃ l : List Int,v = .slice A l.length c ∧ Sl W A (l.map I64) := by
 obtain ⟨a0,len,cap,rfl⟩ := okWide_slice Tryz.underlying22 hv
 obtain ⟨fuel,hf⟩ := h
 rcases open_ints Tryz.underlying22 Tryz.underlying3 cells_int hf with ⟨hcs,_⟩ | ⟨a,len',cap',zs,hcs,_,hle,_,hall,_,hcell,_⟩
 ·simp [Value.cells] at hcs
  obtain ⟨rfl,rfl,rfl⟩ := hcs
  exact ⟨none,0,[],rfl,Sl.nil⟩
 ·simp [Value.cells] at hcs
  obtain ⟨rfl,rfl,rfl⟩ := hcs
  simp only [if_true] at hall
  have hl : (zs.take len).length = len := by rw [List.length_take];omega
  refine ⟨some a,cap,zs.take len,by rw [hl],fun h0 => ?_⟩
  have h1 : 0 < zs.length := by simp at h0;omega
  obtain ⟨b,off,rfl,hc⟩ := ints_at hcell h1
  refine ⟨b,off,rfl,World.block_lt_of_cell? W _ (hc 0 h1),fun j u hu => ?_⟩
  rw [List.getElem?_map,List.getElem?_take] at hu
  by_cases hj : j < len
  ·rw [if_pos hj] at hu
   have hjz : j < zs.length := by omega
   rw [List.getElem?_eq_getElem hjz] at hu
   simp at hu
   rw [hc j hjz,← hu,List.getD_eq_getElem?_getD,List.getElem?_eq_getElem hjz];rfl
  ·rw [if_neg hj] at hu;simp at hu

theorem wf_bd {n : Int} (h : (Lit.int .i64 n).wf = true) : -9223372036854775808 ≤ n ∧ n ≤ 9223372036854775807 := by
 simp [Lit.wf,IntKind.min,IntKind.max,IntKind.signed,IntKind.bits] at h
 omega
end Go.Proofs.YtabmjadcoepbeaaGreat

/- Contracts of integer.mulMag, Mul for numbers of one digit; integer.Compare. -/
namespace Go.Proofs.YtabmjadcoepbeaaGreat
open Go.RowKit

theorem ap_digits : apS Tryz.prog 51 = some (121,1,4,1) := by kernel_rfl
instance iA1_1 : ApC Tryz.prog 51 121 1 4 := ⟨ap_digits⟩
theorem lf_u32 : lfB Tryz.prog 121 = true := by kernel_rfl
instance iA1_2 : LfC Tryz.prog 121 := ⟨lf_u32⟩
theorem t_ix0 {P : Program} {ops : Array Oper} {Q : Exit → Act → World → Prop} {rest : List Oper} {o : Oper} {a : Act} {W : World} {t : TypeId} {s i : Operand} (ho : o.op = .indexAddr t s i) {e : TypeId} {size bytes : Nat} [hap : ApC P t e size bytes] {b off n c : Nat} {kd : IntKind} (hs : a.eval s = .slice (some ⟨b,off,none⟩) n c) (hi : a.eval i = .int kd 0)
  (h : wpList P ops Q rest (a.put o.dst (.pointer (some ⟨b,off,none⟩))) W) (hk : 0 < n := by omega)
  (hw : Region.wanted o (yielded ops a.tmps) = true := by first | exact wanted_none rfl | exact wanted_some rfl rfl rfl rfl) : wpList P ops Q (o :: rest) a W :=
 wl_indexAddr (k := 0) hw ho hap.h hs hi hk (by rw [Nat.zero_mul,Nat.add_zero];exact h)
theorem sIz {G : Prop} (h : G := by refine t_ix0 rfl rfl rfl ?_;simp only [Act.put,zq1,zq2,zq3];refine One2.still hV ?_;exact rfl) : G := h
theorem digs_len_pos {n : Nat} (h : n ≠ 0) : 0 < (digs n).length := by
 have := mt digs_nil.1 h
 exact List.length_pos_iff.2 this
theorem mul32 {x y : Nat} (hx : x < 4294967296) (hy : y < 4294967296) : x * y < 18446744073709551616 := by
 have := mul_lt_sq hx hy;omega
theorem prod_wrap {x y : Nat} (hx : x < 4294967296) (hy : y < 4294967296) : IntKind.u64.wrap ((x : Int) * (y : Int)) = ((x * y : Nat) : Int) := by
 have h := mul32 hx hy
 have e : (x : Int) * (y : Int) = ((x * y : Nat) : Int) := by simp
 rw [e]
 exact wrap64_nat _ h

theorem i_mulMag1 (a b : Value) (x y : Nat) (w m : World) (hV : Vw m w) (ha : DigV m a (digs x)) (hb : DigV m b (digs y)) (hx : x < 4294967296) (hy : y < 4294967296) :
  Calls Tryz.prog 159 #[a,b] w (RetV w m fun m' r => DigV m' r (digs (x * y))) := by
 have hL := Loc.start hV
 clear hV
 by_cases h0 : x = 0
 ·subst h0
  rw [digs_zero] at ha
  rw [Nat.zero_mul,digs_zero]
  obtain ⟨A,c,rfl,-⟩ := ha.lit
  obtain ⟨B,d,rfl,-⟩ := hb.lit
  clear ha hb hx hy
  generalize (digs y).length = n
  simp only [List.length_nil]
  go_enter Tryz.func159,Tryz.ntmps159
  go_wp2_with (first | go_skip | refine tP ?_ | (refine tS ?_;clear hL;intro _ hL))
  go_ret
  exact RetV.mk hL ⟨none,0,rfl,Nat.le_refl _,Sl.nil⟩
 ·by_cases h1 : y = 0
  ·subst h1
   rw [digs_zero] at hb
   rw [Nat.mul_zero,digs_zero]
   have hp := digs_len_pos h0
   obtain ⟨A,c,rfl,-⟩ := ha.lit
   obtain ⟨B,d,rfl,-⟩ := hb.lit
   clear ha hb hx hy
   generalize (digs x).length = n at *
   have b0 : ((n : Int) == 0) = false := by simp;omega
   simp only [List.length_nil]
   go_enter Tryz.func159,Tryz.ntmps159
   go_wp2_with (first | go_skip | refine tP ?_ | (refine tS ?_;clear hL;intro _ hL))
   go_ret
   exact RetV.mk hL ⟨none,0,rfl,Nat.le_refl _,Sl.nil⟩
  ·rw [digs_small h0 hx] at ha
   rw [digs_small h1 hy] at hb
   obtain ⟨A,c,rfl,hc,sa⟩ := ha
   obtain ⟨B,d,rfl,hd,sb⟩ := hb
   obtain ⟨b1,o1,rfl,-,hc1⟩ := sa.at_ (k := 0) (by simp)
   obtain ⟨b2,o2,rfl,-,hc2⟩ := sb.at_ (k := 0) (by simp)
   simp only [List.map_cons,List.map_nil,List.getElem_cons_zero,U,List.length_cons,List.length_nil,Nat.zero_add,Nat.add_zero] at *
   have HP := Lib.hid (prod_wrap hx hy)
   have HM := Lib.hid (mul32 hx hy)
   have w1 := wrap64_small x hx
   have w2 := wrap64_small y hy
   clear hx hy h0 h1 hc hd sa sb
   go_enter Tryz.func159,Tryz.ntmps159
   go_upto_region 4 with ((first | go_skip | refine tP ?_ | (refine tS ?_;clear hL;intro _ hL)))
   refine wp_region_by2 10 [false,false,false,false,false,false,false,false,false,false] [false,false,false,false,false,false,false,false,false,false] [(fun v _ _ => v = ?c4_0),(fun v _ _ => v = ?c4_1),(fun v _ _ => v = ?c4_2),(fun v _ _ => v = ?c4_3),(fun v _ _ => v = ?c4_4),(fun v _ _ => v = ?c4_5),(fun v _ _ => v = ?c4_6),(fun v _ _ => v = ?c4_7),(fun v _ _ => v = ?c4_8),Of (fun um v => DigV um v (digs (x * y)))] hL.vw mixed [28,29,30,31,32,33,34,35,36,37] _ (by kernel_rfl) (fun vs => by simp only [lay,Act.put,zq1,zq2,zq3];rfl) (by kernel_rfl) (by decide) (by decide) ?s4 ?l4 ?r4
   case s4 =>
    refine ⟨?_,?_,?_,?_,?_,?_,?_,?_,?_,?_,trivial⟩
    ·intro vs W1 m1 hE hM hV hD;clear hD
     exact sPw
    ·intro vs W1 m1 hE hM hV hD;obtain ⟨⟨_,_,-,-,f28⟩,-⟩ := hD
     rw [(f28 : vs 28 = _)]
     clear f28
     replace hL := hL.call hE hM hV
     exact sIz
    ·intro vs W1 m1 hE hM hV hD;obtain ⟨⟨_,_,-,-,f29⟩,-⟩ := hD
     rw [(f29 : vs 29 = _)];clear f29;exact sLe
    ·intro vs W1 m1 hE hM hV hD;obtain ⟨⟨_,_,-,-,f30⟩,-⟩ := hD
     rw [(f30 : vs 30 = _)];clear f30;exact sPw
    ·intro vs W1 m1 hE hM hV hD;clear hD
     exact sPw
    ·intro vs W1 m1 hE hM hV hD;obtain ⟨⟨_,_,-,-,f32⟩,-⟩ := hD
     rw [(f32 : vs 32 = _)]
     clear f32
     replace hL := hL.call hE hM hV
     exact sIz
    ·intro vs W1 m1 hE hM hV hD;obtain ⟨⟨_,_,-,-,f33⟩,-⟩ := hD
     rw [(f33 : vs 33 = _)];clear f33;exact sLe
    ·intro vs W1 m1 hE hM hV hD;obtain ⟨⟨_,_,-,-,f34⟩,-⟩ := hD
     rw [(f34 : vs 34 = _)];clear f34;exact sPw
    ·intro vs W1 m1 hE hM hV hD;obtain ⟨⟨_,_,-,-,f31⟩,⟨_,_,-,-,f35⟩,-⟩ := hD
     rw [(f31 : vs 31 = _),(f35 : vs 35 = _)];clear f31 f35;exact sPw
    ·intro vs W1 m1 hE hM hV hD;obtain ⟨⟨_,_,-,-,f36⟩,-⟩ := hD
     rw [(f36 : vs 36 = _)]
     clear f36
     go_wp2_with fail
     refine (i_fromWordI _ (x * y) _ _ hV (by first | exact HP.out | simp) HM.out).mono ?_
     rintro e W2 ⟨v,m2,rfl,hE2,hM2,hV2,h⟩
     go_wp2_with fail
     refine One2.call hE2 hM2 hV2 ?_;first | exact h | exact rfl
   case l4 =>
    refine ⟨nF,nF,nF,nF,nF,nF,nF,nF,nF,nF,trivial⟩
   intro vs W1 m1 hE hM hV hF hD
   clear hD
   obtain ⟨-,-,-,-,-,-,-,-,-,⟨_,_,-,i37,f37⟩,-⟩ := hF
   replace hL := hL.call hE hM hV
   replace f37 : DigV _ (vs 37) (digs (x * y)) := f37
   replace f37 := f37.le i37.le
   clear i37
   clear hE hV
   simp only [List.drop_succ_cons,List.drop_zero]
   go_wp2_with (first | go_skip | refine tP ?_ | (refine tS ?_;clear hL;intro _ hL))
   refine QN.mk ?_
   obtain ⟨A7,c7,e7,f37⟩ := f37.lit
   generalize vs 37 = x7 at e7 ⊢
   subst x7
   go_wp2_with (first | go_skip | refine tP ?_ | (refine tS ?_;clear hL;intro _ hL))
   go_ret
   exact RetV.mk hL f37
end Go.Proofs.YtabmjadcoepbeaaGreat

/- Contracts of rational.smallWord, smallParts, small where a number has two digits or more. -/
namespace Go.Proofs.YtabmjadcoepbeaaGreat
open Go.RowKit

theorem q_smallWordF (g : Bool) (A : Option Addr) (n c : Nat) (w m : World) (hV : Vw m w) (hn : 2 ≤ n) :
  Calls Tryz.prog 216 #[.agg #[.bool g,.slice A n c]] w (RetV w m fun _ r => r = .tuple #[.int .i64 0,.bool false]) := by
 have b0 : ((n : Int) == 0) = false := by simp;omega
 have b1 : ((n : Int) == 1) = false := by simp;omega
 have hL := Loc.start hV
 clear hV hn
 go_enter Tryz.func216,Tryz.ntmps216
 go_wp2_with (first | go_skip | refine tP ?_ | (refine tB ?_;clear hL;intro _ _ hL _))
 go_ret2
 exact RetV.mk hL rfl
theorem q_smallPartsF (g : Bool) (A : Option Addr) (n c : Nat) (g' : Bool) (B : Option Addr) (k d : Nat) (w m : World) (hV : Vw m w) (hk : 2 ≤ k) :
  Calls Tryz.prog 153 #[.agg #[.bool g,.slice A n c,.bool g',.slice B k d]] w (RetV w m fun _ r => r = .tuple #[.agg #[.int .i64 0,.int .i64 0],.bool false]) := by
 have hL := Loc.start hV
 clear hV
 go_enter Tryz.func153,Tryz.ntmps153
 go_wp2_with (first | go_skip | refine tP ?_ | (refine tS ?_;clear hL;intro _ hL) | (refine tB ?_;clear hL;intro _ _ hL _))
 refine (q_smallWordF _ _ _ _ _ _ hL.vw hk).mono ?_
 rintro e W1 ⟨_,m1,rfl,hE,hM1,hV,rfl⟩
 replace hL := hL.call hE (by assumption) hV;clear hE hV
 go_wp2_with (first | go_skip | refine tP ?_ | (refine tS ?_;clear hL;intro _ hL) | (refine tB ?_;clear hL;intro _ _ hL _))
 obtain ⟨p1,p2,_⟩ := (hL.at_ lo0).facts2
 exact bodyPost_ret (v := .tuple #[.agg #[.int .i64 0,.int .i64 0],.bool false]) (by simp [results,Tryz.results153,go_sem,p1,p2]) rfl (RetV.mk hL rfl)
def SPart (m : World) (v : Value) (p q : Int) (ok : Bool) : Prop := (∃ a b c d,v = .agg #[a,b,c,d]) ∧ ∀ w m',Vw m' w → Le m m' → Calls Tryz.prog 153 #[v] w (RetV w m' fun _ r => r = .tuple #[.agg #[.int .i64 p,.int .i64 q],.bool ok])

theorem q_smallT (a b : Value) (p q p' q' : Int) (ok : Bool) (w m : World) (hV : Vw m w) (ha : SPart m a p q true) (hb : SPart m b p' q' ok) :
  Calls Tryz.prog 101 #[a,b] w (RetV w m fun _ r => r = .tuple #[.agg #[.int .i64 p,.int .i64 q],.agg #[.int .i64 p',.int .i64 q'],.bool ok]) := by
 obtain ⟨⟨a1,a2,a3,a4,rfl⟩,KA⟩ := ha
 obtain ⟨⟨b1,b2,b3,b4,rfl⟩,KB⟩ := hb
 have HA := Lib.hid KA
 have HB := Lib.hid KB
 have hL := Loc.start hV
 clear hV KA KB
 go_enter Tryz.func101,Tryz.ntmps101
 go_upto_region 0 with (fail)
 refine wp_region_lit ?_
 refine t_box hL rfl rfl ?_;clear hL;intro W2 m2 hL e2;simp only [Act.put,zq1,zq2,zq3]
 refine t_box hL rfl rfl ?_;clear hL;intro W3 m3 hL e3;simp only [Act.put,zq1,zq2,zq3]
 refine t_alloc hL rfl ?_;clear hL;intro W4 m4 hL e4;simp only [Act.put,zq1,zq2,zq3]
 refine t_alloc hL rfl ?_;clear hL;intro W5 m5 hL e5;simp only [Act.put,zq1,zq2,zq3]
 go_wp2_with (first | go_skip | refine tP ?_ | (refine tS ?_;clear hL;intro _ hL) | (refine tB ?_;clear hL;intro _ _ hL _))
 refine (HA.out _ _ hL.vw leX).mono ?_
 rintro e W11 ⟨_,m11,rfl,hE,hM11,hV,rfl⟩
 replace hL := hL.call hE (by assumption) hV;clear hE hV
 go_wp2_with (first | go_skip | refine tP ?_ | (refine tS ?_;clear hL;intro _ hL) | (refine tB ?_;clear hL;intro _ _ hL _))
 refine (HB.out _ _ hL.vw leX).mono ?_
 rintro e W12 ⟨_,m12,rfl,hE,hM12,hV,rfl⟩
 replace hL := hL.call hE (by assumption) hV;clear hE hV
 go_upto_region 5 with ((first | go_skip | refine tP ?_ | (refine tS ?_;clear hL;intro _ hL) | (refine tB ?_;clear hL;intro _ _ hL _)))
 have B0 := hL.at_ lo0
 have B1 := hL.at_ lo1
 obtain ⟨q1,q2,q3,q4⟩ := B0.facts2
 obtain ⟨q5,q6,q7,q8⟩ := B1.facts2
 obtain ⟨n1,n2⟩ := hL.ne lo0 lo1 (by omega)
 go_region_held3 (fun w' => w'.cell? ⟨W4.heap.size,0,none⟩ = some (.int .i64 p') ∧ w'.cell? ⟨W4.heap.size,1,none⟩ = some (.int .i64 q') ∧ w'.cell? ⟨W3.heap.size,0,none⟩ = some (.int .i64 p) ∧ w'.cell? ⟨W3.heap.size,1,none⟩ = some (.int .i64 q))
  ((first
   | (have X1 := (B1.set2 (.int .i64 p) (.int .i64 q)).drew.facts2;have X0 := (B0.far2 n1 (.int .i64 p) (.int .i64 q)).drew.facts2;exact ⟨X0.1,X0.2.1,X1.1,X1.2.1⟩)
   | (have X1 := ((B1.set2 (.int .i64 p) (.int .i64 q)).far2 n2 (.int .i64 p') (.int .i64 q')).drew.facts2;have X0 := ((B0.far2 n1 (.int .i64 p) (.int .i64 q)).set2 (.int .i64 p') (.int .i64 q')).drew.facts2;exact ⟨X0.1,X0.2.1,X1.1,X1.2.1⟩)
   | go_keep)) (fail)
 go_wp2_with fail
 refine bodyPost_ret (v := .tuple #[.agg #[.int .i64 p,.int .i64 q],.agg #[.int .i64 p',.int .i64 q'],.bool ok]) (by have X1 := ((B1.set2 (.int .i64 p) (.int .i64 q)).far2 n2 (.int .i64 p') (.int .i64 q')).facts2;have X0 := ((B0.far2 n1 (.int .i64 p) (.int .i64 q)).set2 (.int .i64 p') (.int .i64 q')).facts2;obtain ⟨y1,y2,_⟩ := X0;obtain ⟨y3,y4,_⟩ := X1;simp [results,Tryz.results101,go_sem,y1,y2,y3,y4]) rfl (RetV.mk ((hL.drew.store lo1 0 [.int .i64 p,.int .i64 q]).store lo0 0 [.int .i64 p',.int .i64 q']) rfl)
theorem q_smallE (a b : Value) (p q : Int) (w m : World) (hV : Vw m w) (ha : SPart m a p q false) (hb : ∃ b1 b2 b3 b4,b = .agg #[b1,b2,b3,b4]) :
  Calls Tryz.prog 101 #[a,b] w (RetV w m fun _ r => r = .tuple #[.agg #[.int .i64 p,.int .i64 q],.agg #[.int .i64 0,.int .i64 0],.bool false]) := by
 obtain ⟨⟨a1,a2,a3,a4,rfl⟩,KA⟩ := ha
 obtain ⟨b1,b2,b3,b4,rfl⟩ := hb
 have HA := Lib.hid KA
 have hL := Loc.start hV
 clear hV KA
 go_enter Tryz.func101,Tryz.ntmps101
 go_upto_region 0 with (fail)
 refine wp_region_lit ?_
 refine t_box hL rfl rfl ?_;clear hL;intro W2 m2 hL e2;simp only [Act.put,zq1,zq2,zq3]
 refine t_box hL rfl rfl ?_;clear hL;intro W3 m3 hL e3;simp only [Act.put,zq1,zq2,zq3]
 refine t_alloc hL rfl ?_;clear hL;intro W4 m4 hL e4;simp only [Act.put,zq1,zq2,zq3]
 refine t_alloc hL rfl ?_;clear hL;intro W5 m5 hL e5;simp only [Act.put,zq1,zq2,zq3]
 go_wp2_with (first | go_skip | refine tP ?_ | (refine tS ?_;clear hL;intro _ hL) | (refine tB ?_;clear hL;intro _ _ hL _))
 refine (HA.out _ _ hL.vw leX).mono ?_
 rintro e W11 ⟨_,m11,rfl,hE,hM11,hV,rfl⟩
 replace hL := hL.call hE (by assumption) hV;clear hE hV
 go_upto_region 3 with ((first | go_skip | refine tP ?_ | (refine tS ?_;clear hL;intro _ hL) | (refine tB ?_;clear hL;intro _ _ hL _)))
 have B0 := hL.at_ lo0
 have B1 := hL.at_ lo1
 obtain ⟨q1,q2,q3,q4⟩ := B0.facts2
 obtain ⟨q5,q6,q7,q8⟩ := B1.facts2
 obtain ⟨n1,n2⟩ := hL.ne lo0 lo1 (by omega)
 go_region_held3 (fun w' => w'.cell? ⟨W4.heap.size,0,none⟩ = some (.int .i64 0) ∧ w'.cell? ⟨W4.heap.size,1,none⟩ = some (.int .i64 0) ∧ w'.cell? ⟨W3.heap.size,0,none⟩ = some (.int .i64 p) ∧ w'.cell? ⟨W3.heap.size,1,none⟩ = some (.int .i64 q))
  ((first
   | (have X1 := (B1.set2 (.int .i64 p) (.int .i64 q)).drew.facts2;have X0 := (B0.far2 n1 (.int .i64 p) (.int .i64 q)).drew.facts2;exact ⟨X0.1,X0.2.1,X1.1,X1.2.1⟩)
   | (have X1 := ((B1.set2 (.int .i64 p) (.int .i64 q)).far2 n2 (.int .i64 0) (.int .i64 0)).drew.facts2;have X0 := ((B0.far2 n1 (.int .i64 p) (.int .i64 q)).set2 (.int .i64 0) (.int .i64 0)).drew.facts2;exact ⟨X0.1,X0.2.1,X1.1,X1.2.1⟩)
   | go_keep)) (fail)
 go_wp2_with fail
 refine bodyPost_ret (v := .tuple #[.agg #[.int .i64 p,.int .i64 q],.agg #[.int .i64 0,.int .i64 0],.bool false]) (by have X1 := ((B1.set2 (.int .i64 p) (.int .i64 q)).far2 n2 (.int .i64 0) (.int .i64 0)).facts2;have X0 := ((B0.far2 n1 (.int .i64 p) (.int .i64 q)).set2 (.int .i64 0) (.int .i64 0)).facts2;obtain ⟨y1,y2,_⟩ := X0;obtain ⟨y3,y4,_⟩ := X1;simp [results,Tryz.results101,go_sem,y1,y2,y3,y4]) rfl (RetV.mk ((hL.drew.store lo1 0 [.int .i64 p,.int .i64 q]).store lo0 0 [.int .i64 0,.int .i64 0]) rfl)
end Go.Proofs.YtabmjadcoepbeaaGreat

/- Contract of integer.Mul for numbers of one digit. -/
namespace Go.Proofs.YtabmjadcoepbeaaGreat
open Go.RowKit

theorem sgn_self {x : Int} {g : Bool} (h : x ≠ 0 → g = decide (x < 0)) : sgn g x.natAbs = x := by
 by_cases hx : x = 0
 ·subst hx;cases g <;> rfl
 ·rw [h hx];exact sgn_canon x
theorem sgn_prod (g1 g2 : Bool) (a b : Nat) : sgn (g1 != g2) (a * b) = sgn g1 a * sgn g2 b := by
 cases g1 <;> cases g2 <;> simp [sgn,Int.neg_mul,Int.mul_neg]
theorem sgn_mul {x y : Int} {g1 g2 : Bool} (h1 : x ≠ 0 → g1 = decide (x < 0)) (h2 : y ≠ 0 → g2 = decide (y < 0)) : sgn (g1 != g2) (x.natAbs * y.natAbs) = x * y := by
 rw [sgn_prod,sgn_self h1,sgn_self h2]
theorem i_wrapE (g : Bool) (v : Value) (n : Nat) (z : Int) (w m : World) (hV : Vw m w) (h : DigA m v n) (hz : Hid (sgn g n = z)) : Calls Tryz.prog 111 #[.bool g,v] w (RetV w m fun m' r => IntC m' r z) := by
 have := i_wrap g v n w m hV h
 rwa [hz.out] at this
theorem i_Mul (a b : Value) (x y : Int) (w m : World) (hV : Vw m w) (ha : IntV m a x) (hb : IntV m b y) (hx : x.natAbs < 4294967296) (hy : y.natAbs < 4294967296) :
  Calls Tryz.prog 107 #[a,b] w (RetV w m fun m' r => IntC m' r (x * y)) := by
 obtain ⟨g1,A1,l1,c1,rfl⟩ := ha.lit
 obtain ⟨g2,A2,l2,c2,rfl⟩ := hb.lit
 obtain ⟨d1,hg1⟩ := ha.digA
 obtain ⟨d2,hg2⟩ := hb.digA
 have HE := Lib.hid (sgn_mul hg1 hg2)
 have HX := Lib.hid hx
 have HY := Lib.hid hy
 have HL : Hid ((digs (x.natAbs * y.natAbs)).length ≤ 1000) := Nat.le_trans (len2 (mul32 hx hy)) (by decide)
 clear hx hy hg1 hg2 ha hb
 have hL := Loc.start hV
 clear hV
 obtain ⟨g,b9⟩ : ∃ g,(g1 != g2) = g := ⟨_,rfl⟩
 have b8 : (!(g1 == g2)) = g := b9
 rw [b9] at HE
 go_enter Tryz.func107,Tryz.ntmps107
 go_upto_region 1 with ((first | go_skip | refine tP ?_ | (refine tS ?_;clear hL;intro _ hL) | (refine tB ?_;clear hL;intro _ _ hL _)))
 refine wp_region_by2 13 [false,false,false,false,false,false,false,false,false,false,false,false,false] [false,false,false,false,false,false,false,false,false,false,false,false,false] [(fun v _ _ => v = ?c1_0),(fun v _ _ => v = ?c1_1),(fun v _ _ => v = ?c1_2),(fun v _ _ => v = ?c1_3),(fun v _ _ => v = ?c1_4),(fun v _ _ => v = ?c1_5),(fun v _ _ => v = ?c1_6),Of (fun um v => DigV um v (digs x.natAbs)),(fun v _ _ => v = ?c1_8),(fun v _ _ => v = ?c1_9),Of (fun um v => DigV um v (digs y.natAbs)),Of (fun um v => DigV um v (digs (x.natAbs * y.natAbs))),Of (fun um v => IntC um v (x * y))] hL.vw mixed [5,6,7,8,9,10,11,12,13,14,15,16,17] _ (by kernel_rfl) (fun vs => by simp only [lay,Act.put,zq1,zq2,zq3];rfl) (by kernel_rfl) (by decide) (by decide) ?s1 ?l1 ?r1
 case s1 =>
  refine ⟨?_,?_,?_,?_,?_,?_,?_,?_,?_,?_,?_,?_,?_,trivial⟩
  ·intro vs W1 m1 hE hM hV hD;clear hD
   exact sFe
  ·intro vs W1 m1 hE hM hV hD;obtain ⟨⟨_,_,-,-,f5⟩,-⟩ := hD
   rw [(f5 : vs 5 = _)];clear f5;exact sLe
  ·intro vs W1 m1 hE hM hV hD;clear hD
   exact sFe
  ·intro vs W1 m1 hE hM hV hD;obtain ⟨⟨_,_,-,-,f7⟩,-⟩ := hD
   rw [(f7 : vs 7 = _)];clear f7;exact sLe
  ·intro vs W1 m1 hE hM hV hD;obtain ⟨⟨_,_,-,-,f6⟩,⟨_,_,-,-,f8⟩,-⟩ := hD
   rw [(f6 : vs 6 = _),(f8 : vs 8 = _)];clear f6 f8;exact sPw
  ·intro vs W1 m1 hE hM hV hD;clear hD
   exact sFe
  ·intro vs W1 m1 hE hM hV hD;obtain ⟨⟨_,_,-,-,f10⟩,-⟩ := hD
   rw [(f10 : vs 10 = _)];clear f10;exact sLe
  ·intro vs W1 m1 hE hM hV hD;obtain ⟨⟨_,_,-,-,f11⟩,-⟩ := hD
   rw [(f11 : vs 11 = _)]
   clear f11
   go_wp2_with fail
   refine (i_trim _ x.natAbs _ _ hV (d1.le leX)).mono ?_
   rintro e W2 ⟨v,m2,rfl,hE2,hM2,hV2,h⟩
   go_wp2_with fail
   refine One2.call hE2 hM2 hV2 ?_;first | exact h | exact rfl
  ·intro vs W1 m1 hE hM hV hD;clear hD
   exact sFe
  ·intro vs W1 m1 hE hM hV hD;obtain ⟨⟨_,_,-,-,f13⟩,-⟩ := hD
   rw [(f13 : vs 13 = _)];clear f13;exact sLe
  ·intro vs W1 m1 hE hM hV hD;obtain ⟨⟨_,_,-,-,f14⟩,-,-⟩ := hD
   rw [(f14 : vs 14 = _)]
   clear f14
   go_wp2_with fail
   refine (i_trim _ y.natAbs _ _ hV (d2.le leX)).mono ?_
   rintro e W2 ⟨v,m2,rfl,hE2,hM2,hV2,h⟩
   go_wp2_with fail
   refine One2.call hE2 hM2 hV2 ?_;first | exact h | exact rfl
  ·intro vs W1 m1 hE hM hV hD;obtain ⟨⟨_,_,-,i12,f12⟩,⟨_,_,-,i15,f15⟩,-,-⟩ := hD;have f12 : DigV _ (vs 12) (digs x.natAbs) := f12;replace f12 := f12.le i12.le;clear i12;have f15 : DigV _ (vs 15) (digs y.natAbs) := f15;replace f15 := f15.le i15.le;clear i15
   go_wp2_with fail
   refine (i_mulMag1 _ _ _ _ _ _ hV f12 f15 HX.out HY.out).mono ?_
   rintro e W2 ⟨v,m2,rfl,hE2,hM2,hV2,h⟩
   go_wp2_with fail
   refine One2.call hE2 hM2 hV2 ?_;first | exact h | exact rfl
  ·intro vs W1 m1 hE hM hV hD;obtain ⟨⟨_,_,-,-,f9⟩,⟨_,_,-,i16,f16⟩,-,-⟩ := hD
   rw [(f9 : vs 9 = _)]
   clear f9
   have f16 : DigV _ (vs 16) (digs (x.natAbs * y.natAbs)) := f16
   replace f16 := f16.le i16.le
   clear i16
   go_wp2_with fail
   refine (i_wrapE _ _ _ (x * y) _ _ hV (f16.toA HL.out) HE).mono ?_
   rintro e W2 ⟨v,m2,rfl,hE2,hM2,hV2,h⟩
   go_wp2_with fail
   refine One2.call hE2 hM2 hV2 ?_;first | exact h | exact rfl
 case l1 =>
  refine ⟨nF,nF,nF,nF,nF,nF,nF,nF,nF,nF,nF,nF,nF,trivial⟩
 intro vs W1 m1 hE hM hV hF hD
 clear hD
 obtain ⟨-,-,-,-,-,-,-,⟨_,_,-,i12,f12⟩,-,-,⟨_,_,-,i15,f15⟩,⟨_,_,-,i16,f16⟩,⟨_,_,-,i17,f17⟩,-⟩ := hF
 replace hL := hL.call hE hM hV
 replace f12 : DigV _ (vs 12) (digs x.natAbs) := f12
 replace f12 := f12.le i12.le
 clear i12
 replace f15 : DigV _ (vs 15) (digs y.natAbs) := f15
 replace f15 := f15.le i15.le
 clear i15
 replace f16 : DigV _ (vs 16) (digs (x.natAbs * y.natAbs)) := f16
 replace f16 := f16.le i16.le
 clear i16
 replace f17 : IntC _ (vs 17) (x * y) := f17
 replace f17 := f17.le i17.le
 clear i17
 obtain ⟨g17,A17,n17,c17,e17,f17⟩ := f17.lit
 generalize vs 17 = x17 at e17 ⊢
 subst x17
 clear hE hV
 simp only [List.drop_succ_cons,List.drop_zero]
 go_wp2_with (first | go_skip | refine tP ?_ | (refine tS ?_;clear hL;intro _ hL) | (refine tB ?_;clear hL;intro _ _ hL _))
 refine QN.mk ?_
 go_wp2_with (first | go_skip | refine tP ?_ | (refine tS ?_;clear hL;intro _ hL) | (refine tB ?_;clear hL;intro _ _ hL _))
 refine fin_agg hL Tryz.results107 rfl rfl loX AgC.h (by exact rfl) ?_
 exact f17
end Go.Proofs.YtabmjadcoepbeaaGreat

/- Contract of integer.Compare. -/
namespace Go.Proofs.YtabmjadcoepbeaaGreat
open Go.RowKit

theorem cmp_pos {x y : Int} (hx : 0 ≤ x) (hy : 0 ≤ y) : cmp3 x.natAbs y.natAbs = icmp x y := by
 unfold cmp3 icmp
 by_cases h : x < y
 ·rw [if_pos (by omega),if_pos h]
 ·by_cases e : x = y
  ·rw [if_neg (by omega),if_neg h,if_pos (by omega),if_pos e]
  ·rw [if_neg (by omega),if_neg h,if_neg (by omega),if_neg e]
theorem cmp_neg {x y : Int} (hx : x ≤ 0) (hy : y ≤ 0) : cmp3 y.natAbs x.natAbs = icmp x y := by
 unfold cmp3 icmp
 by_cases h : x < y
 ·rw [if_pos (by omega),if_pos h]
 ·by_cases e : x = y
  ·rw [if_neg (by omega),if_neg h,if_pos (by omega),if_pos e]
  ·rw [if_neg (by omega),if_neg h,if_neg (by omega),if_neg e]
theorem int_form {z : Int} {g : Bool} (h : z ≠ 0 → g = decide (z < 0)) : (g = false ∧ 0 ≤ z) ∨ (g = true ∧ (digs z.natAbs).length = 0 ∧ z = 0) ∨ (g = true ∧ 0 < (digs z.natAbs).length ∧ z < 0) := by
 by_cases hz : z = 0
 ·subst hz
  cases g
  ·exact .inl ⟨rfl,Int.le_refl _⟩
  ·exact .inr (.inl ⟨rfl,by simp [digs_zero],rfl⟩)
 ·have hg := h hz
  by_cases hn : z < 0
  ·exact .inr (.inr ⟨by rw [hg];simp [hn],digs_len_pos (by omega),hn⟩)
  ·exact .inl ⟨by rw [hg];simp [hn],by omega⟩

theorem i_Compare (a b : Value) (x y : Int) (w m : World) (hV : Vw m w) (ha : IntV m a x) (hb : IntV m b y) :
  Calls Tryz.prog 104 #[a,b] w (RetV w m fun _ r => r = .int .i64 (icmp x y)) := by
 obtain ⟨g1,A1,l1,c1,rfl⟩ := ha.lit
 obtain ⟨g2,A2,l2,c2,rfl⟩ := hb.lit
 obtain ⟨d1,hg1⟩ := ha.digA
 obtain ⟨d2,hg2⟩ := hb.digA
 have lx : Hid (∀ k,k = x.natAbs → (digs k).length ≤ 1000) := fun k h => by rw [h];exact ha.length
 have ly : Hid (∀ k,k = y.natAbs → (digs k).length ≤ 1000) := fun k h => by rw [h];exact hb.length
 have KX := Lib.hid (int_form hg1)
 have KY := Lib.hid (int_form hg2)
 clear hg1 hg2 ha hb
 have hL := Loc.start hV
 clear hV
 go_enter Tryz.func104,Tryz.ntmps104
 go_upto_region 1 with ((first | go_skip | refine tP ?_ | (refine tB ?_;clear hL;intro _ _ hL _)))
 refine wp_region_by2 6 [false,false,false,false,false,false] [false,false,false,false,false,false] [(fun v _ _ => v = ?c1_0),(fun v _ _ => v = ?c1_1),Of (fun um v => DigV um v (digs x.natAbs)),(fun v _ _ => v = ?c1_3),(fun v _ _ => v = ?c1_4),Of (fun um v => DigV um v (digs y.natAbs))] hL.vw mixed [9,10,11,12,13,14] _ (by kernel_rfl) (fun vs => by simp only [lay,Act.put,zq1,zq2,zq3];rfl) (by kernel_rfl) (by decide) (by decide) ?s1 ?l1 ?r1
 case s1 =>
  refine ⟨?_,?_,?_,?_,?_,?_,trivial⟩
  ·intro vs W1 m1 hE hM hV hD;clear hD
   exact sFe
  ·intro vs W1 m1 hE hM hV hD;obtain ⟨⟨_,_,-,-,f9⟩,-⟩ := hD
   rw [(f9 : vs 9 = _)];clear f9;exact sLe
  ·intro vs W1 m1 hE hM hV hD;obtain ⟨⟨_,_,-,-,f10⟩,-⟩ := hD
   rw [(f10 : vs 10 = _)]
   clear f10
   go_wp2_with fail
   refine (i_trim _ x.natAbs _ _ hV (d1.le leX)).mono ?_
   rintro e W2 ⟨v,m2,rfl,hE2,hM2,hV2,h⟩
   go_wp2_with fail
   refine One2.call hE2 hM2 hV2 ?_;first | exact h | exact rfl
  ·intro vs W1 m1 hE hM hV hD;clear hD
   exact sFe
  ·intro vs W1 m1 hE hM hV hD;obtain ⟨⟨_,_,-,-,f12⟩,-⟩ := hD
   rw [(f12 : vs 12 = _)];clear f12;exact sLe
  ·intro vs W1 m1 hE hM hV hD;obtain ⟨⟨_,_,-,-,f13⟩,-,-⟩ := hD
   rw [(f13 : vs 13 = _)]
   clear f13
   go_wp2_with fail
   refine (i_trim _ y.natAbs _ _ hV (d2.le leX)).mono ?_
   rintro e W2 ⟨v,m2,rfl,hE2,hM2,hV2,h⟩
   go_wp2_with fail
   refine One2.call hE2 hM2 hV2 ?_;first | exact h | exact rfl
 case l1 =>
  refine ⟨nF,nF,nF,nF,nF,nF,trivial⟩
 intro vs W1 m1 hE hM hV hF hD
 clear hD
 obtain ⟨-,-,⟨_,_,-,i11,f11⟩,-,-,⟨_,_,-,i14,f14⟩,-⟩ := hF
 replace hL := hL.call hE hM hV
 replace f11 : DigV _ (vs 11) (digs x.natAbs) := f11
 replace f11 := f11.le i11.le
 clear i11
 replace f14 : DigV _ (vs 14) (digs y.natAbs) := f14
 replace f14 := f14.le i14.le
 clear i14
 clear hE hV
 obtain ⟨A3,c3,e11,f11⟩ := f11.lit
 generalize vs 11 = x11 at e11 ⊢
 subst x11
 obtain ⟨A4,c4,e14,f14⟩ := f14.lit
 generalize vs 14 = x14 at e14 ⊢
 subst x14
 simp only [List.drop_succ_cons,List.drop_zero]
 go_wp2_with (first | go_skip | refine tP ?_ | (refine tB ?_;clear hL;intro _ _ hL _))
 refine QN.mk ?_
 have F1 : Hid (DigV m1 (.slice A3 (digs x.natAbs).length c3) (digs x.natAbs)) := f11
 have F2 : Hid (DigV m1 (.slice A4 (digs y.natAbs).length c4) (digs y.natAbs)) := f14
 have KX' := KX.out
 have KY' := KY.out
 clear f11 f14 KX KY d1 d2
 generalize hnx : (digs x.natAbs).length = nx at *
 generalize hny : (digs y.natAbs).length = ny at *
 clear hnx hny
 rcases KX' with ⟨rfl,hx⟩ | ⟨rfl,hlx,hx⟩ | ⟨rfl,hlx,hx⟩ <;> rcases KY' with ⟨rfl,hy⟩ | ⟨rfl,hly,hy⟩ | ⟨rfl,hly,hy⟩
 ·have E := Lib.hid (cmp_pos (x := x) (y := y) (by omega) (by omega))
  clear hx hy
  go_wp2_with (first | go_skip | refine tP ?_ | (refine tB ?_;clear hL;intro _ _ hL _))
  refine (i_compareMag _ _ x.natAbs y.natAbs _ _ hL.vw (F1.out.le leX) (F2.out.le leX) (lx.out _ rfl) (ly.out _ rfl)).mono ?_
  rintro e W9 ⟨_,m9,rfl,hE,hM9,hV,rfl⟩
  replace hL := hL.call hE (by assumption) hV
  go_wp2_with (first | go_skip | refine tP ?_ | (refine tB ?_;clear hL;intro _ _ hL _))
  go_ret
  first | exact RetV.mk hL (congrArg (Value.int .i64) E.out) | exact RetV.mk hL (congrArg (Value.int .i64) E.out.symm)
 ·have E := Lib.hid (cmp_pos (x := x) (y := y) (by omega) (by omega))
  clear hx hy
  subst hly
  go_wp2_with (first | go_skip | refine tP ?_ | (refine tB ?_;clear hL;intro _ _ hL _))
  refine (i_compareMag _ _ x.natAbs y.natAbs _ _ hL.vw (F1.out.le leX) (F2.out.le leX) (lx.out _ rfl) (ly.out _ rfl)).mono ?_
  rintro e W9 ⟨_,m9,rfl,hE,hM9,hV,rfl⟩
  replace hL := hL.call hE (by assumption) hV
  go_wp2_with (first | go_skip | refine tP ?_ | (refine tB ?_;clear hL;intro _ _ hL _))
  go_ret
  first | exact RetV.mk hL (congrArg (Value.int .i64) E.out) | exact RetV.mk hL (congrArg (Value.int .i64) E.out.symm)
 ·have E := Lib.hid (icmp_gt (x := x) (y := y) (by omega))
  clear hx hy
  have t2 : decide (0 < ny) = true := by simp;omega
  go_wp2_with (first | go_skip | refine tP ?_ | (refine tB ?_;clear hL;intro _ _ hL _))
  go_ret
  first | exact RetV.mk hL (congrArg (Value.int .i64) E.out) | exact RetV.mk hL (congrArg (Value.int .i64) E.out.symm)
 ·have E := Lib.hid (cmp_pos (x := x) (y := y) (by omega) (by omega))
  clear hx hy
  subst hlx
  go_wp2_with (first | go_skip | refine tP ?_ | (refine tB ?_;clear hL;intro _ _ hL _))
  refine (i_compareMag _ _ x.natAbs y.natAbs _ _ hL.vw (F1.out.le leX) (F2.out.le leX) (lx.out _ rfl) (ly.out _ rfl)).mono ?_
  rintro e W9 ⟨_,m9,rfl,hE,hM9,hV,rfl⟩
  replace hL := hL.call hE (by assumption) hV
  go_wp2_with (first | go_skip | refine tP ?_ | (refine tB ?_;clear hL;intro _ _ hL _))
  go_ret
  first | exact RetV.mk hL (congrArg (Value.int .i64) E.out) | exact RetV.mk hL (congrArg (Value.int .i64) E.out.symm)
 ·have E := Lib.hid (cmp_pos (x := x) (y := y) (by omega) (by omega))
  clear hx hy
  subst hlx
  subst hly
  go_wp2_with (first | go_skip | refine tP ?_ | (refine tB ?_;clear hL;intro _ _ hL _))
  refine (i_compareMag _ _ x.natAbs y.natAbs _ _ hL.vw (F1.out.le leX) (F2.out.le leX) (lx.out _ rfl) (ly.out _ rfl)).mono ?_
  rintro e W9 ⟨_,m9,rfl,hE,hM9,hV,rfl⟩
  replace hL := hL.call hE (by assumption) hV
  go_wp2_with (first | go_skip | refine tP ?_ | (refine tB ?_;clear hL;intro _ _ hL _))
  go_ret
  first | exact RetV.mk hL (congrArg (Value.int .i64) E.out) | exact RetV.mk hL (congrArg (Value.int .i64) E.out.symm)
 ·have E := Lib.hid (icmp_gt (x := x) (y := y) (by omega))
  clear hx hy
  subst hlx
  have t2 : decide (0 < ny) = true := by simp;omega
  go_wp2_with (first | go_skip | refine tP ?_ | (refine tB ?_;clear hL;intro _ _ hL _))
  go_ret
  first | exact RetV.mk hL (congrArg (Value.int .i64) E.out) | exact RetV.mk hL (congrArg (Value.int .i64) E.out.symm)
 ·have E := Lib.hid (icmp_lt (x := x) (y := y) (by omega))
  clear hx hy
  have t1 : decide (0 < nx) = true := by simp;omega
  go_wp2_with (first | go_skip | refine tP ?_ | (refine tB ?_;clear hL;intro _ _ hL _))
  go_ret
  first | exact RetV.mk hL (congrArg (Value.int .i64) E.out) | exact RetV.mk hL (congrArg (Value.int .i64) E.out.symm)
 ·have E := Lib.hid (icmp_lt (x := x) (y := y) (by omega))
  clear hx hy
  subst hly
  have t1 : decide (0 < nx) = true := by simp;omega
  go_wp2_with (first | go_skip | refine tP ?_ | (refine tB ?_;clear hL;intro _ _ hL _))
  go_ret
  first | exact RetV.mk hL (congrArg (Value.int .i64) E.out) | exact RetV.mk hL (congrArg (Value.int .i64) E.out.symm)
 ·have E := Lib.hid (cmp_neg (x := x) (y := y) (by omega) (by omega))
  clear hx hy
  have t1 : decide (0 < nx) = true := by simp;omega
  have t2 : decide (0 < ny) = true := by simp;omega
  go_wp2_with (first | go_skip | refine tP ?_ | (refine tB ?_;clear hL;intro _ _ hL _))
  refine (i_compareMag _ _ y.natAbs x.natAbs _ _ hL.vw (F2.out.le leX) (F1.out.le leX) (ly.out _ rfl) (lx.out _ rfl)).mono ?_
  rintro e W9 ⟨_,m9,rfl,hE,hM9,hV,rfl⟩
  replace hL := hL.call hE (by assumption) hV
  go_wp2_with (first | go_skip | refine tP ?_ | (refine tB ?_;clear hL;intro _ _ hL _))
  go_ret
  exact RetV.mk hL (congrArg (Value.int .i64) E.out)
end Go.Proofs.YtabmjadcoepbeaaGreat

/- Plain facts on floors, ceilings and signs of fractions. -/
namespace Go.Proofs.YtabmjadcoepbeaaGreat
open Go.RowKit

theorem sgn_add_same (g : Bool) (x y : Nat) : sgn g (x + y) = sgn g x + sgn g y := by
 cases g <;> simp [sgn] <;> omega
theorem sgn_sub_l (g h : Bool) (x y : Nat) (hg : g ≠ h) (hle : y ≤ x) : sgn g (x - y) = sgn g x + sgn h y := by
 cases g <;> cases h <;> simp [sgn] at * <;> omega
theorem sgn_sub_r (g h : Bool) (x y : Nat) (hg : g ≠ h) (hle : x ≤ y) : sgn h (y - x) = sgn g x + sgn h y := by
 cases g <;> cases h <;> simp [sgn] at * <;> omega
theorem cmp3_ge {x y : Nat} : (0 ≤ cmp3 x y) ↔ y ≤ x := by
 unfold cmp3
 by_cases h : x < y
 ·rw [if_pos h];omega
 ·rw [if_neg h];split <;> omega
end Go.Proofs.YtabmjadcoepbeaaGreat

/- Contract of rational.parts for fractions of any form. -/
namespace Go.Proofs.YtabmjadcoepbeaaGreat
open Go.RowKit

def FrV (m : World) (v : Value) (x y : Int) : Prop := ∃ g A n c g' B k d,v = .agg #[.bool g,.slice A n c,.bool g',.slice B k d] ∧ IntV m (.agg #[.bool g,.slice A n c]) x ∧ IntV m (.agg #[.bool g',.slice B k d]) y
theorem FrV.le {m m' : World} {v : Value} {x y : Int} (h : FrV m v x y) (hb : Le m m') : FrV m' v x y := by
 obtain ⟨g,A,n,c,g',B,k,d,e,h1,h2⟩ := h
 exact ⟨g,A,n,c,g',B,k,d,e,h1.le hb,h2.le hb⟩
theorem len_one : (digs (1 : Int).natAbs).length ≤ 1000 := by
 rw [show (1 : Int).natAbs = 1 from rfl,digs_small (by decide) (by decide)];decide
def PtR (m : World) (v : Value) (p q : Int) : Prop := ∃ g A n c g' B k d,v = .tuple #[.agg #[.bool g,.slice A n c],.agg #[.bool g',.slice B k d]] ∧ IntV m (.agg #[.bool g,.slice A n c]) p ∧ IntV m (.agg #[.bool g',.slice B k d]) q

theorem q_partsV (v : Value) (x y : Int) (w m : World) (hV : Vw m w) (h : FrV m v x y) :
  Calls Tryz.prog 103 #[v] w (RetV w m fun m' r => PtR m' r (pN x y) (pD y)) := by
 obtain ⟨g,A,n,c,g',B,n',c',rfl,a1,a2⟩ := h
 have l1 := Lib.hid a1.length
 have l2 := Lib.hid a2.length
 have hL := Loc.start hV
 clear hV
 by_cases h0 : y = 0
 ·subst h0
  have E1 : Hid (pN x 0 = 0) := by show _ = _;simp [pN]
  have E2 : Hid (pD 0 = 1) := by show _ = _;simp [pD]
  have E3 : Hid (icmp 0 0 = 0) := by show _ = _;simp [icmp]
  go_enter Tryz.func103,Tryz.ntmps103
  go_upto_region 0 with (fail)
  refine wp_region_lit ?_
  refine t_box hL rfl rfl ?_;clear hL;intro W1 m1 hL e1;simp only [Act.put,zq1,zq2,zq3]
  refine t_alloc hL rfl ?_;clear hL;intro W2 m2 hL e2;simp only [Act.put,zq1,zq2,zq3]
  refine t_alloc hL rfl ?_;clear hL;intro W3 m3 hL e3;simp only [Act.put,zq1,zq2,zq3]
  go_wp2_with (first | go_skip | refine tP ?_ | (refine tS ?_;clear hL;intro _ hL) | (refine tB ?_;clear hL;intro _ _ hL _))
  refine (i_Sign _ 0 _ _ hL.vw (a2.le leX)).mono ?_
  rintro e W11 ⟨_,m11,rfl,hE,hM11,hV,rfl⟩
  replace hL := hL.call hE (by assumption) hV;clear hE hV
  rw [E3.out]
  go_wp2_with (first | go_skip | refine tP ?_ | (refine tS ?_;clear hL;intro _ hL) | (refine tB ?_;clear hL;intro _ _ hL _))
  refine (i_FromInt64 1 _ _ hL.vw (by decide) (by decide)).mono ?_
  rintro e W12 ⟨v12,m12,rfl,hE,hM12,hV,h12⟩
  replace hL := hL.call hE (by assumption) hV;clear hE hV
  obtain ⟨g12',A12',n12',c12',rfl,h12⟩ := h12.lit
  go_wp2_with (first | go_skip | refine tP ?_ | (refine tS ?_;clear hL;intro _ hL) | (refine tB ?_;clear hL;intro _ _ hL _))
  obtain ⟨p1,p2,_⟩ := (hL.at_ lo0).facts2
  obtain ⟨p3,p4,_⟩ := (hL.at_ lo1).facts2
  refine bodyPost_ret (v := .tuple #[.agg #[.bool false,.slice none 0 0],.agg #[.bool g12',.slice A12' n12' c12']]) (by simp [results,Tryz.results103,go_sem,p1,p2,p3,p4]) rfl (RetV.mk hL ?_)
  rw [E1.out,E2.out]
  exact ⟨_,_,_,_,_,_,_,_,rfl,IntC.nil.toV (by simp [digs_zero]),(h12.toV len_one).le leX⟩
 ·by_cases hn : y < 0
  ·have E1 : Hid (pN x y = -x) := by show _ = _;simp [pN,h0,hn]
   have E2 : Hid (pD y = -y) := by show _ = _;simp [pD,h0,hn]
   have E3 := Lib.hid (icmp_lt (x := y) (y := 0) hn)
   clear h0 hn
   go_enter Tryz.func103,Tryz.ntmps103
   go_upto_region 0 with (fail)
   refine wp_region_lit ?_
   refine t_box hL rfl rfl ?_;clear hL;intro W1 m1 hL e1;simp only [Act.put,zq1,zq2,zq3]
   refine t_alloc hL rfl ?_;clear hL;intro W2 m2 hL e2;simp only [Act.put,zq1,zq2,zq3]
   refine t_alloc hL rfl ?_;clear hL;intro W3 m3 hL e3;simp only [Act.put,zq1,zq2,zq3]
   go_wp2_with (first | go_skip | refine tP ?_ | (refine tS ?_;clear hL;intro _ hL) | (refine tB ?_;clear hL;intro _ _ hL _))
   refine (i_Sign _ y _ _ hL.vw (a2.le leX)).mono ?_
   rintro e W11 ⟨_,m11,rfl,hE,hM11,hV,rfl⟩
   replace hL := hL.call hE (by assumption) hV;clear hE hV
   rw [E3.out]
   go_upto_region 5 with ((first | go_skip | refine tP ?_ | (refine tS ?_;clear hL;intro _ hL) | (refine tB ?_;clear hL;intro _ _ hL _)))
   refine wp_region_by2 6 [false,false,false,false,false,false] [false,false,false,false,false,false] [(fun v _ _ => v = ?c5_0),(fun v _ _ => v = ?c5_1),Of (fun um v => IntC um v (-x)),(fun v _ _ => v = ?c5_3),(fun v _ _ => v = ?c5_4),Of (fun um v => IntC um v (-y))] hL.vw mixed [13,14,15,16,17,18] _ (by kernel_rfl) (fun vs => by simp only [lay,Act.put,zq1,zq2,zq3];rfl) (by kernel_rfl) (by decide) (by decide) ?s5 ?l5 ?r5
   case s5 =>
    refine ⟨?_,?_,?_,?_,?_,?_,trivial⟩
    ·intro vs W1 m1 hE hM hV hD;clear hD
     exact sFe
    ·intro vs W1 m1 hE hM hV hD;obtain ⟨⟨_,_,-,-,f13⟩,-⟩ := hD
     rw [(f13 : vs 13 = _)];clear f13;exact sLe
    ·intro vs W1 m1 hE hM hV hD;obtain ⟨⟨_,_,-,-,f14⟩,-⟩ := hD
     rw [(f14 : vs 14 = _)]
     clear f14
     go_wp2_with fail
     refine (i_Negate _ x _ _ hV (a1.le leX)).mono ?_
     rintro e W2 ⟨v,m2,rfl,hE2,hM2,hV2,h⟩
     go_wp2_with fail
     refine One2.call hE2 hM2 hV2 ?_;first | exact h | exact rfl
    ·intro vs W1 m1 hE hM hV hD;clear hD
     exact sFe
    ·intro vs W1 m1 hE hM hV hD;obtain ⟨⟨_,_,-,-,f16⟩,-⟩ := hD
     rw [(f16 : vs 16 = _)];clear f16;exact sLe
    ·intro vs W1 m1 hE hM hV hD;obtain ⟨⟨_,_,-,-,f17⟩,-,-⟩ := hD
     rw [(f17 : vs 17 = _)]
     clear f17
     go_wp2_with fail
     refine (i_Negate _ y _ _ hV (a2.le leX)).mono ?_
     rintro e W2 ⟨v,m2,rfl,hE2,hM2,hV2,h⟩
     go_wp2_with fail
     refine One2.call hE2 hM2 hV2 ?_;first | exact h | exact rfl
   case l5 =>
    refine ⟨nF,nF,nF,nF,nF,nF,trivial⟩
   intro vs W1 m1 hE hM hV hF hD
   clear hD
   obtain ⟨-,-,⟨_,_,-,i15,f15⟩,-,-,⟨_,_,-,i18,f18⟩,-⟩ := hF
   replace hL := hL.call hE hM hV
   replace f15 : IntC _ (vs 15) (-x) := f15
   replace f15 := f15.le i15.le
   clear i15
   obtain ⟨g15,A15,n15,c15,e15,f15⟩ := f15.lit
   generalize vs 15 = x15 at e15 ⊢
   subst x15
   replace f18 : IntC _ (vs 18) (-y) := f18
   replace f18 := f18.le i18.le
   clear i18
   obtain ⟨g18,A18,n18,c18,e18,f18⟩ := f18.lit
   generalize vs 18 = x18 at e18 ⊢
   subst x18
   clear hE hV
   simp only [List.drop_succ_cons,List.drop_zero]
   go_wp2_with (first | go_skip | refine tP ?_ | (refine tS ?_;clear hL;intro _ hL) | (refine tB ?_;clear hL;intro _ _ hL _))
   refine QN.mk ?_
   go_wp2_with (first | go_skip | refine tP ?_ | (refine tS ?_;clear hL;intro _ hL) | (refine tB ?_;clear hL;intro _ _ hL _))
   obtain ⟨p1,p2,_⟩ := (hL.at_ lo0).facts2
   obtain ⟨p3,p4,_⟩ := (hL.at_ lo1).facts2
   refine bodyPost_ret (v := .tuple #[.agg #[.bool g15,.slice A15 n15 c15],.agg #[.bool g18,.slice A18 n18 c18]]) (by simp [results,Tryz.results103,go_sem,p1,p2,p3,p4]) rfl (RetV.mk hL ?_)
   rw [E1.out,E2.out]
   exact ⟨_,_,_,_,_,_,_,_,rfl,f15.toV (by rw [Int.natAbs_neg];exact l1.out),f18.toV (by rw [Int.natAbs_neg];exact l2.out)⟩
  ·have E1 : Hid (pN x y = x) := by show _ = _;simp [pN,h0,hn]
   have E2 : Hid (pD y = y) := by show _ = _;simp [pD,h0,hn]
   have E3 := Lib.hid (icmp_gt (x := y) (y := 0) (by omega))
   clear h0 hn
   go_enter Tryz.func103,Tryz.ntmps103
   go_upto_region 0 with (fail)
   refine wp_region_lit ?_
   refine t_box hL rfl rfl ?_;clear hL;intro W1 m1 hL e1;simp only [Act.put,zq1,zq2,zq3]
   refine t_alloc hL rfl ?_;clear hL;intro W2 m2 hL e2;simp only [Act.put,zq1,zq2,zq3]
   refine t_alloc hL rfl ?_;clear hL;intro W3 m3 hL e3;simp only [Act.put,zq1,zq2,zq3]
   go_wp2_with (first | go_skip | refine tP ?_ | (refine tS ?_;clear hL;intro _ hL) | (refine tB ?_;clear hL;intro _ _ hL _))
   refine (i_Sign _ y _ _ hL.vw (a2.le leX)).mono ?_
   rintro e W11 ⟨_,m11,rfl,hE,hM11,hV,rfl⟩
   replace hL := hL.call hE (by assumption) hV;clear hE hV
   rw [E3.out]
   go_upto_region 6 with ((first | go_skip | refine tP ?_ | (refine tS ?_;clear hL;intro _ hL) | (refine tB ?_;clear hL;intro _ _ hL _)))
   obtain ⟨p1,p2,p3,p4⟩ := (hL.at_ lo0).facts2
   obtain ⟨p5,p6,p7,p8⟩ := (hL.at_ lo1).facts2
   obtain ⟨r1,r2,r3,r4,_⟩ := (hL.at_ lo2).facts4
   obtain ⟨n1,n2⟩ := hL.ne lo0 lo1 (by omega)
   obtain ⟨n3,n4⟩ := hL.ne lo0 lo2 (by omega)
   obtain ⟨n5,n6⟩ := hL.ne lo1 lo2 (by omega)
   go_region_held3 (fun w' => w'.cell? ⟨w.heap.size,0,none⟩ = some (.bool g) ∧ w'.cell? ⟨w.heap.size,1,none⟩ = some (.slice A n c) ∧ w'.cell? ⟨w.heap.size,2,none⟩ = some (.bool g') ∧ w'.cell? ⟨w.heap.size,3,none⟩ = some (.slice B n' c')) (go_keep) (fail)
   go_wp2_with fail
   refine bodyPost_ret (v := .tuple #[.agg #[.bool g,.slice A n c],.agg #[.bool g',.slice B n' c']]) (by simp [results,Tryz.results103,go_sem, *]) rfl (RetV.mk ((hL.drew.store lo1 0 [.bool g,.slice A n c]).store lo0 0 [.bool g',.slice B n' c']) ?_)
   rw [E1.out,E2.out]
   exact ⟨_,_,_,_,_,_,_,_,rfl,a1.le leX,a2.le leX⟩
end Go.Proofs.YtabmjadcoepbeaaGreat

/- Contracts of integer.addMag and subMag. -/
namespace Go.Proofs.YtabmjadcoepbeaaGreat
open Go.RowKit

theorem getD_out {l : List Nat} {k : Nat} (h : l.length ≤ k) : l.getD k 0 = 0 := by
 rw [List.getD_eq_getElem?_getD,List.getElem?_eq_none h];rfl
theorem mk_u32 (a : Int) (n : Nat) (e : a = n) (h : n ≤ 1000001) (W : World) : (Instr.makeSlice 51 (.int .i64 a) (.int .i64 a)).run Tryz.prog W = .ok (.slice (some ⟨W.heap.size,0,none⟩) n n) (W.alloc (.cells ((List.replicate n (U 0)).toArray) 121)) := by
 subst e;exact run_make_u32 n (by omega) W
theorem DigR.trimC {w : World} {g off : Nat} {ss : List Nat} (h : Sl w (some ⟨g,off,none⟩) (ss.map U)) (hds : Dg ss) (hg : g < w.heap.size) : DigR w g (.slice (some ⟨g,off,none⟩) (trimLen ss ss.length) (trimLen ss ss.length)) (digs (val ss)) := by
 have e := trimLen_eq hds
 rw [e]
 refine ⟨_,_,rfl,Nat.le_refl _,?_,fun a ha => by cases ha;exact ⟨Nat.le_refl _,hg⟩⟩
 rw [← take_trim hds,List.map_take];exact h.take _
theorem RetV.ofD {w m : World} {ds : List Nat} (hV : Vw m w) {e : Ending} {w' : World} (h : Ret w (fun w' r => DigR w' w.heap.size r ds) e w') : RetV w m (fun m' r => DigV m' r ds) e w' := by
 obtain ⟨v,rfl,h1,h2⟩ := h
 exact ⟨v,_,rfl,h2,(joined_spec hV h2).1,(joined_spec hV h2).2,h1.joined hV.size⟩

theorem i_addMag0 (A B : Option Addr) (c d : Nat) (xs ys : List Nat) (w : World) (hA : Sl w A (xs.map U)) (hx : xs.length ≤ 1000) (hdx : Dg xs)
  (hB : Sl w B (ys.map U)) (hy : ys.length ≤ 1000) (hdy : Dg ys) :
  Calls Tryz.prog 220 #[.slice A xs.length c,.slice B ys.length d] w (Ret w fun w' v => DigR w' w.heap.size v (digs (val xs + val ys))) := by
 rcases Nat.lt_or_ge xs.length ys.length with hlt | hge
 ·have hmk := mk_u32 ((ys.length : Int) + 1) (ys.length + 1) (by omega) (by omega)
  have HDX := Lib.hid hdy
  have HDY := Lib.hid hdx
  clear hdx hdy
  go_enter Tryz.func220,Tryz.ntmps220
  go_wp2_with fail
  clear hmk
  go_loopw [6,22] (fun cc i wr => ∃ (k : Nat) (ss : List Nat) (cy : Nat),k ≤ ys.length ∧ i = .int .i64 k ∧ cc = .int .u64 cy ∧ cy ≤ 1 ∧ Hid (ss.length = k) ∧ Dg ss ∧ Hid (val ss + 4294967296 ^ k * cy = val (ys.take k) + val (xs.take k)) ∧ Made wr w.heap.size (ys.length + 1) ss ∧ Ext w wr) (fun _ i _ => ys.length - (intOf i).toNat)
  case atStart => exact ⟨0,[],0,by omega,rfl,rfl,by omega,rfl,Dg.nil,rfl,Made.start _ _,Ext.new _ _⟩
  case round =>
   obtain ⟨k,ss,cy,hk,rfl,rfl,hcy,hss,hds,hval,hmade,hb⟩ := hrel
   by_cases hlt : k < ys.length
   ·have g1 := HDX.out.getD k
    have g2 := HDY.out.getD k
    obtain ⟨⟨zz,hcell,_⟩,hfr⟩ := hmade.cell (k := k) (by omega) (by rw [hss.out];omega)
    obtain ⟨b1,o1,ha1,_,hc1⟩ := (hB.ext hb).dig (k := k) hlt
    have HA1 := Lib.hid ha1
    clear ha1
    generalize hp : ys.getD k 0 = p at *
    have Hp := Lib.hid hp
    clear hp
    by_cases hy : k < xs.length
    ·obtain ⟨b2,o2,ha2,_,hc2⟩ := (hA.ext hb).dig (k := k) hy
     have HA2 := Lib.hid ha2
     clear ha2
     generalize hq : xs.getD k 0 = q at *
     have Hq := Lib.hid hq
     clear hq
     obtain rfl := HA1.out
     obtain rfl := HA2.out
     go_wp2_with fail
     go_roundw
     case rel =>
      have hpu := hmade.push (by rw [hss.out];omega) ((cy + p + q) % 4294967296)
      rw [hss.out] at hpu
      refine ⟨k + 1,ss ++ [(cy + p + q) % 4294967296],(cy + p + q) / 4294967296,by omega,by go_num,by simp,by omega,?_,hds.append (Dg.cons (Nat.mod_lt _ (by omega)) Dg.nil),?_,?_,hb.setCell (by simp) _⟩
      ·show _ = _;simp [hss.out]
      ·show _ = _
       rw [val_take_succ,val_take_succ,Hp.out,Hq.out]
       exact add_step hss.out hval.out
      ·simpa using hpu
     case measure => simp [intOf] <;> omega
    ·have Hq : Hid (xs.getD k 0 = 0) := getD_out (by omega)
     obtain rfl := HA1.out
     go_wp2_with fail
     go_roundw
     case rel =>
      have hpu := hmade.push (by rw [hss.out];omega) ((cy + p) % 4294967296)
      rw [hss.out] at hpu
      refine ⟨k + 1,ss ++ [(cy + p) % 4294967296],(cy + p) / 4294967296,by omega,by go_num,by simp,by omega,?_,hds.append (Dg.cons (Nat.mod_lt _ (by omega)) Dg.nil),?_,?_,hb.setCell (by simp) _⟩
      ·show _ = _;simp [hss.out]
      ·show _ = _
       rw [val_take_succ,val_take_succ,Hp.out,Hq.out]
       exact add_step (q := 0) hss.out hval.out
      ·simpa using hpu
     case measure => simp [intOf] <;> omega
   ·obtain rfl : k = ys.length := by omega
    obtain ⟨⟨zz,hcell,_⟩,hfr⟩ := hmade.cell (k := ys.length) (by omega) (by rw [hss.out];omega)
    have hw : IntKind.u32.wrap (cy : Int) = cy := by rw [IntKind.wrap_u32];omega
    have hd1 : Dg (ss ++ [cy]) := hds.append (Dg.cons (by omega) Dg.nil)
    have hl : ys.length + 1 = (ss ++ [cy]).length := by simp [hss.out]
    have HL := Lib.hid hl
    clear hl
    go_wp2_with fail
    have hpu := hmade.push (by rw [hss.out];omega) cy
    rw [hss.out] at hpu
    have hfull := hpu.full HL.out.symm
    have hv : val (ss ++ [cy]) = val xs + val ys := by
     have h1 := hval.out
     rw [List.take_of_length_le (Nat.le_refl _),List.take_of_length_le (by omega)] at h1
     rw [val_snoc,hss.out];omega
    rw [HL.out]
    refine (i_trim0 _ _ (ss ++ [cy]) _ hfull (Nat.le_refl _) (by rw [← HL.out];omega)).mono ?_
    rintro e w' ⟨rfl,rfl⟩
    go_wp2_with fail
    go_ret
    refine Ret.mk ?_ (hb.setCell (by simp) _)
    rw [← hv]
    have hend := DigR.trimC hfull hd1 (Blk.lt hpu)
    rw [show (ss ++ [cy]).length = ss.length + 1 by simp] at hend
    exact hend
 ·have hmk := mk_u32 ((xs.length : Int) + 1) (xs.length + 1) (by omega) (by omega)
  have HDX := Lib.hid hdx
  have HDY := Lib.hid hdy
  clear hdx hdy
  go_enter Tryz.func220,Tryz.ntmps220
  go_wp2_with fail
  clear hmk
  go_loopw [6,22] (fun cc i wr => ∃ (k : Nat) (ss : List Nat) (cy : Nat),k ≤ xs.length ∧ i = .int .i64 k ∧ cc = .int .u64 cy ∧ cy ≤ 1 ∧ Hid (ss.length = k) ∧ Dg ss ∧ Hid (val ss + 4294967296 ^ k * cy = val (xs.take k) + val (ys.take k)) ∧ Made wr w.heap.size (xs.length + 1) ss ∧ Ext w wr) (fun _ i _ => xs.length - (intOf i).toNat)
  case atStart => exact ⟨0,[],0,by omega,rfl,rfl,by omega,rfl,Dg.nil,rfl,Made.start _ _,Ext.new _ _⟩
  case round =>
   obtain ⟨k,ss,cy,hk,rfl,rfl,hcy,hss,hds,hval,hmade,hb⟩ := hrel
   by_cases hlt : k < xs.length
   ·have g1 := HDX.out.getD k
    have g2 := HDY.out.getD k
    obtain ⟨⟨zz,hcell,_⟩,hfr⟩ := hmade.cell (k := k) (by omega) (by rw [hss.out];omega)
    obtain ⟨b1,o1,ha1,_,hc1⟩ := (hA.ext hb).dig (k := k) hlt
    have HA1 := Lib.hid ha1
    clear ha1
    generalize hp : xs.getD k 0 = p at *
    have Hp := Lib.hid hp
    clear hp
    by_cases hy : k < ys.length
    ·obtain ⟨b2,o2,ha2,_,hc2⟩ := (hB.ext hb).dig (k := k) hy
     have HA2 := Lib.hid ha2
     clear ha2
     generalize hq : ys.getD k 0 = q at *
     have Hq := Lib.hid hq
     clear hq
     obtain rfl := HA1.out
     obtain rfl := HA2.out
     go_wp2_with fail
     go_roundw
     case rel =>
      have hpu := hmade.push (by rw [hss.out];omega) ((cy + p + q) % 4294967296)
      rw [hss.out] at hpu
      refine ⟨k + 1,ss ++ [(cy + p + q) % 4294967296],(cy + p + q) / 4294967296,by omega,by go_num,by simp,by omega,?_,hds.append (Dg.cons (Nat.mod_lt _ (by omega)) Dg.nil),?_,?_,hb.setCell (by simp) _⟩
      ·show _ = _;simp [hss.out]
      ·show _ = _
       rw [val_take_succ,val_take_succ,Hp.out,Hq.out]
       exact add_step hss.out hval.out
      ·simpa using hpu
     case measure => simp [intOf] <;> omega
    ·have Hq : Hid (ys.getD k 0 = 0) := getD_out (by omega)
     obtain rfl := HA1.out
     go_wp2_with fail
     go_roundw
     case rel =>
      have hpu := hmade.push (by rw [hss.out];omega) ((cy + p) % 4294967296)
      rw [hss.out] at hpu
      refine ⟨k + 1,ss ++ [(cy + p) % 4294967296],(cy + p) / 4294967296,by omega,by go_num,by simp,by omega,?_,hds.append (Dg.cons (Nat.mod_lt _ (by omega)) Dg.nil),?_,?_,hb.setCell (by simp) _⟩
      ·show _ = _;simp [hss.out]
      ·show _ = _
       rw [val_take_succ,val_take_succ,Hp.out,Hq.out]
       exact add_step (q := 0) hss.out hval.out
      ·simpa using hpu
     case measure => simp [intOf] <;> omega
   ·obtain rfl : k = xs.length := by omega
    obtain ⟨⟨zz,hcell,_⟩,hfr⟩ := hmade.cell (k := xs.length) (by omega) (by rw [hss.out];omega)
    have hw : IntKind.u32.wrap (cy : Int) = cy := by rw [IntKind.wrap_u32];omega
    have hd1 : Dg (ss ++ [cy]) := hds.append (Dg.cons (by omega) Dg.nil)
    have hl : xs.length + 1 = (ss ++ [cy]).length := by simp [hss.out]
    have HL := Lib.hid hl
    clear hl
    go_wp2_with fail
    have hpu := hmade.push (by rw [hss.out];omega) cy
    rw [hss.out] at hpu
    have hfull := hpu.full HL.out.symm
    have hv : val (ss ++ [cy]) = val xs + val ys := by
     have h1 := hval.out
     rw [List.take_of_length_le (Nat.le_refl _),List.take_of_length_le (by omega)] at h1
     rw [val_snoc,hss.out];omega
    rw [HL.out]
    refine (i_trim0 _ _ (ss ++ [cy]) _ hfull (Nat.le_refl _) (by rw [← HL.out];omega)).mono ?_
    rintro e w' ⟨rfl,rfl⟩
    go_wp2_with fail
    go_ret
    refine Ret.mk ?_ (hb.setCell (by simp) _)
    rw [← hv]
    have hend := DigR.trimC hfull hd1 (Blk.lt hpu)
    rw [show (ss ++ [cy]).length = ss.length + 1 by simp] at hend
    exact hend
theorem i_addMag (a b : Value) (x y : Nat) (w m : World) (hV : Vw m w) (ha : DigV m a (digs x)) (hb : DigV m b (digs y)) (lx : (digs x).length ≤ 1000) (ly : (digs y).length ≤ 1000) :
  Calls Tryz.prog 220 #[a,b] w (RetV w m fun m' r => DigV m' r (digs (x + y))) := by
 obtain ⟨A,c,rfl,hc,hs⟩ := ha
 obtain ⟨B,d,rfl,hd,ht⟩ := hb
 have := (i_addMag0 A B c d (digs x) (digs y) w (hs.le hV.le) lx (Dg_digs _) (ht.le hV.le) ly (Dg_digs _)).mono fun _ _ h => RetV.ofD (m := m) hV h
 rwa [val_digs,val_digs] at this

theorem i_subMag0 (A B : Option Addr) (c d : Nat) (xs ys : List Nat) (w : World) (hA : Sl w A (xs.map U)) (hx : xs.length ≤ 1000) (hdx : Dg xs)
  (hB : Sl w B (ys.map U)) (hy : ys.length ≤ xs.length) (hdy : Dg ys) (hle : val ys ≤ val xs) :
  Calls Tryz.prog 221 #[.slice A xs.length c,.slice B ys.length d] w (Ret w fun w' v => DigR w' w.heap.size v (digs (val xs - val ys))) := by
 have HL := Lib.hid hle
 have HDX := Lib.hid hdx
 have HDY := Lib.hid hdy
 clear hle hdx hdy
 have hmk := mk_u32 (xs.length : Int) xs.length rfl (by omega)
 go_enter Tryz.func221,Tryz.ntmps221
 go_wp2_with fail
 clear hmk
 go_loopw [6,15] (fun cc i wr => ∃ (k : Nat) (ss : List Nat) (cy : Nat),k ≤ xs.length ∧ i = .int .i64 k ∧ cc = .int .i64 cy ∧ cy ≤ 1 ∧ Hid (ss.length = k) ∧ Dg ss ∧ Hid (val ss + val (ys.take k) = val (xs.take k) + 4294967296 ^ k * cy) ∧ Made wr w.heap.size xs.length ss ∧ Ext w wr) (fun _ i _ => xs.length - (intOf i).toNat)
 case atStart => exact ⟨0,[],0,by omega,rfl,rfl,by omega,rfl,Dg.nil,rfl,Made.start _ _,Ext.new _ _⟩
 case round =>
  obtain ⟨k,ss,cy,hk,rfl,rfl,hcy,hss,hds,hval,hmade,hb⟩ := hrel
  by_cases hlt : k < xs.length
  ·have g1 := HDX.out.getD k
   have g2 := HDY.out.getD k
   obtain ⟨⟨zz,hcell,_⟩,hfr⟩ := hmade.cell (k := k) (by omega) (by rw [hss.out];omega)
   obtain ⟨b1,o1,ha1,_,hc1⟩ := (hA.ext hb).dig (k := k) hlt
   have HA1 := Lib.hid ha1
   clear ha1
   generalize hp : xs.getD k 0 = p at *
   have Hp := Lib.hid hp
   clear hp
   obtain rfl := HA1.out
   by_cases hky : k < ys.length
   ·obtain ⟨b2,o2,ha2,_,hc2⟩ := (hB.ext hb).dig (k := k) hky
    have HA2 := Lib.hid ha2
    clear ha2
    generalize hq : ys.getD k 0 = q at *
    have Hq := Lib.hid hq
    clear hq
    obtain rfl := HA2.out
    obtain ⟨x,hx2⟩ : ∃ x : Nat,x + q + cy = p + 4294967296 := ⟨p + 4294967296 - q - cy,by omega⟩
    have HX := Lib.hid hx2
    have ew : (p : Int) - cy - q = (x : Int) - 4294967296 := by omega
    have HW : Hid (IntKind.u32.wrap ((p : Int) - cy - q) = ((x % 4294967296 : Nat) : Int)) := by show _ = _;rw [IntKind.wrap_u32];omega
    by_cases ht : ((p : Int) - cy - q) < 0
    ·have NC : (1 : Int) = ((1 - x / 4294967296 : Nat) : Int) := by omega
     go_wp2_with fail
     go_roundw
     case rel =>
      have hpu := hmade.push (by rw [hss.out];omega) (x % 4294967296)
      rw [hss.out] at hpu
      refine ⟨k + 1,ss ++ [x % 4294967296],1 - x / 4294967296,by omega,by go_num,congrArg (Value.int .i64) NC,by omega,?_,hds.append (Dg.cons (Nat.mod_lt _ (by omega)) Dg.nil),?_,?_,hb.setCell (by simp) _⟩
      ·show _ = _;simp [hss.out]
      ·show _ = _
       rw [val_take_succ,val_take_succ,Hp.out,Hq.out]
       exact sub_step hss.out HX.out hval.out (by omega)
      ·first
        | simpa using hpu
        | (rw [show (x : Int) - 4294967296 = ((x % 4294967296 : Nat) : Int) by omega];exact hpu)
     case measure => simp [intOf] <;> omega
    ·have NC : (0 : Int) = ((1 - x / 4294967296 : Nat) : Int) := by omega
     go_wp2_with fail
     go_roundw
     case rel =>
      have hpu := hmade.push (by rw [hss.out];omega) (x % 4294967296)
      rw [hss.out] at hpu
      refine ⟨k + 1,ss ++ [x % 4294967296],1 - x / 4294967296,by omega,by go_num,congrArg (Value.int .i64) NC,by omega,?_,hds.append (Dg.cons (Nat.mod_lt _ (by omega)) Dg.nil),?_,?_,hb.setCell (by simp) _⟩
      ·show _ = _;simp [hss.out]
      ·show _ = _
       rw [val_take_succ,val_take_succ,Hp.out,Hq.out]
       exact sub_step hss.out HX.out hval.out (by omega)
      ·first
        | simpa using hpu
        | (rw [show (x : Int) - 4294967296 = ((x % 4294967296 : Nat) : Int) by omega];exact hpu)
     case measure => simp [intOf] <;> omega
   ·have Hq : Hid (ys.getD k 0 = 0) := getD_out (by omega)
    obtain ⟨x,hx2⟩ : ∃ x : Nat,x + 0 + cy = p + 4294967296 := ⟨p + 4294967296 - cy,by omega⟩
    have HX := Lib.hid hx2
    have ew : (p : Int) - cy = (x : Int) - 4294967296 := by omega
    have HW : Hid (IntKind.u32.wrap ((p : Int) - cy) = ((x % 4294967296 : Nat) : Int)) := by show _ = _;rw [IntKind.wrap_u32];omega
    by_cases ht : ((p : Int) - cy) < 0
    ·have NC : (1 : Int) = ((1 - x / 4294967296 : Nat) : Int) := by omega
     go_wp2_with fail
     go_roundw
     case rel =>
      have hpu := hmade.push (by rw [hss.out];omega) (x % 4294967296)
      rw [hss.out] at hpu
      refine ⟨k + 1,ss ++ [x % 4294967296],1 - x / 4294967296,by omega,by go_num,congrArg (Value.int .i64) NC,by omega,?_,hds.append (Dg.cons (Nat.mod_lt _ (by omega)) Dg.nil),?_,?_,hb.setCell (by simp) _⟩
      ·show _ = _;simp [hss.out]
      ·show _ = _
       rw [val_take_succ,val_take_succ,Hp.out,Hq.out]
       exact sub_step hss.out HX.out hval.out (by omega)
      ·first
        | simpa using hpu
        | (rw [show (x : Int) - 4294967296 = ((x % 4294967296 : Nat) : Int) by omega];exact hpu)
     case measure => simp [intOf] <;> omega
    ·have NC : (0 : Int) = ((1 - x / 4294967296 : Nat) : Int) := by omega
     go_wp2_with fail
     go_roundw
     case rel =>
      have hpu := hmade.push (by rw [hss.out];omega) (x % 4294967296)
      rw [hss.out] at hpu
      refine ⟨k + 1,ss ++ [x % 4294967296],1 - x / 4294967296,by omega,by go_num,congrArg (Value.int .i64) NC,by omega,?_,hds.append (Dg.cons (Nat.mod_lt _ (by omega)) Dg.nil),?_,?_,hb.setCell (by simp) _⟩
      ·show _ = _;simp [hss.out]
      ·show _ = _
       rw [val_take_succ,val_take_succ,Hp.out,Hq.out]
       exact sub_step hss.out HX.out hval.out (by omega)
      ·first
        | simpa using hpu
        | (rw [show (x : Int) - 4294967296 = ((x % 4294967296 : Nat) : Int) by omega];exact hpu)
     case measure => simp [intOf] <;> omega
  ·obtain rfl : k = xs.length := by omega
   have hfull := hmade.full hss.out
   go_wp2_with fail
   rw [← hss.out]
   refine (i_trim0 _ _ ss _ hfull (Nat.le_refl _) (by rw [hss.out];omega)).mono ?_
   rintro e w' ⟨rfl,rfl⟩
   go_wp2_with fail
   go_ret
   refine Ret.mk ?_ hb
   rw [← sub_end hds hss.out hy HL.out hval.out]
   exact DigR.trimC hfull hds (Blk.lt hmade)
theorem i_subMag (a b : Value) (x y : Nat) (w m : World) (hV : Vw m w) (ha : DigV m a (digs x)) (hb : DigV m b (digs y)) (lx : (digs x).length ≤ 1000) (hle : y ≤ x) :
  Calls Tryz.prog 221 #[a,b] w (RetV w m fun m' r => DigV m' r (digs (x - y))) := by
 obtain ⟨A,c,rfl,hc,hs⟩ := ha
 obtain ⟨B,d,rfl,hd,ht⟩ := hb
 have := (i_subMag0 A B c d (digs x) (digs y) w (hs.le hV.le) lx (Dg_digs _) (ht.le hV.le) (length_digs_mono hle) (Dg_digs _) (by rw [val_digs,val_digs];exact hle)).mono fun _ _ h => RetV.ofD (m := m) hV h
 rwa [val_digs,val_digs] at this
end Go.Proofs.YtabmjadcoepbeaaGreat
