/- Part 4 of 6 of the proof: the law MasterSplits returns true for every input, and its arguments read as before; there is no condition. -/
import Derived.Maps.Own
import Derived.Maps.Views
import Derived.DeepKeys4
import Derived.Maps.RangeWalk
import Derived.Test.YtabmjadcoepbeaaGreatMS3
set_option linter.unusedVariables false
set_option linter.unusedSimpArgs false
set_option maxRecDepth 100000
set_option maxHeartbeats 64000000
/- Contracts of integer.addSigned and Add. -/
namespace Go.Proofs.YtabmjadcoepbeaaGreat
open Go.RowKit

theorem i_addSigned (g h : Bool) (a b : Value) (x y : Nat) (z : Int) (w m : World) (hV : Vw m w) (ha : DigV m a (digs x)) (hb : DigV m b (digs y)) (hx : x < 18446744073709551616) (hy : y < 18446744073709551616) (hz : Hid (sgn g x + sgn h y = z)) :
  Calls Tryz.prog 158 #[.bool g,a,.bool h,b] w (RetV w m fun m' r => IntC m' r z) := by
 have lx : Hid (∀ k,k = x → (digs k).length ≤ 1000) := fun k e => by rw [e];exact Nat.le_trans (len2 hx) (by decide)
 have ly : Hid (∀ k,k = y → (digs k).length ≤ 1000) := fun k e => by rw [e];exact Nat.le_trans (len2 hy) (by decide)
 have ls : Hid ((digs (x + y)).length ≤ 1000) := Nat.le_trans (length_digs_le (k := 3) (by rw [show (4294967296 : Nat) ^ 3 = 79228162514264337593543950336 from rfl];omega)) (by decide)
 have l1 : Hid ((digs (x - y)).length ≤ 1000) := Nat.le_trans (length_digs_mono (Nat.sub_le x y)) (lx.out _ rfl)
 have l2 : Hid ((digs (y - x)).length ≤ 1000) := Nat.le_trans (length_digs_mono (Nat.sub_le y x)) (ly.out _ rfl)
 obtain ⟨A1,c1,rfl,ha⟩ := ha.lit
 obtain ⟨A2,c2,rfl,hb⟩ := hb.lit
 have F1 := Lib.hid ha
 have F2 := Lib.hid hb
 have hL := Loc.start hV
 clear hV hx hy ha hb
 generalize (digs x).length = nx at *
 generalize (digs y).length = ny at *
 by_cases hg : g = h
 ·subst hg
  have E : Hid (sgn g (x + y) = z) := by show _ = _;rw [sgn_add_same];exact hz.out
  have bb : (g == g) = true := by simp
  clear hz
  go_enter Tryz.func158,Tryz.ntmps158
  go_wp2_with (first | go_skip | refine tP ?_ | (refine tS ?_;clear hL;intro _ hL) | (refine tB ?_;clear hL;intro _ _ hL _))
  refine (i_addMag _ _ x y _ _ hL.vw (F1.out.le leX) (F2.out.le leX) (lx.out _ rfl) (ly.out _ rfl)).mono ?_
  rintro e W11 ⟨v11,m11,rfl,hE,hM11,hV,h11⟩
  replace hL := hL.call hE (by assumption) hV;clear hE hV
  obtain ⟨A3,c3,rfl,h11⟩ := h11.lit
  go_wp2_with (first | go_skip | refine tP ?_ | (refine tS ?_;clear hL;intro _ hL) | (refine tB ?_;clear hL;intro _ _ hL _))
  refine (i_wrapE _ _ (x + y) z _ _ hL.vw (h11.toA ls.out) E).mono ?_
  rintro e W12 ⟨v12,m12,rfl,hE,hM12,hV,h12⟩
  replace hL := hL.call hE (by assumption) hV;clear hE hV
  obtain ⟨g12',A12',n12',c12',rfl,h12⟩ := h12.lit
  go_wp2_with (first | go_skip | refine tP ?_ | (refine tS ?_;clear hL;intro _ hL) | (refine tB ?_;clear hL;intro _ _ hL _))
  refine fin_agg hL Tryz.results158 rfl rfl loX AgC.h (by exact rfl) ?_
  exact h12
 ·have bb : (g == h) = false := by simp [hg]
  by_cases hle : y ≤ x
  ·have E : Hid (sgn g (x - y) = z) := by show _ = _;rw [sgn_sub_l g h x y hg hle];exact hz.out
   have C : Hid (cmp3 x y ≥ 0) := cmp3_ge.2 hle
   have HLE := Lib.hid hle
   clear hz hle hg
   go_enter Tryz.func158,Tryz.ntmps158
   go_wp2_with (first | go_skip | refine tP ?_ | (refine tS ?_;clear hL;intro _ hL) | (refine tB ?_;clear hL;intro _ _ hL _))
   refine (i_compareMag _ _ x y _ _ hL.vw (F1.out.le leX) (F2.out.le leX) (lx.out _ rfl) (ly.out _ rfl)).mono ?_
   rintro e W10 ⟨_,m10,rfl,hE,hM10,hV,rfl⟩
   replace hL := hL.call hE (by assumption) hV;clear hE hV
   have hc := C.out
   generalize cmp3 x y = s at *
   go_wp2_with (first | go_skip | refine tP ?_ | (refine tS ?_;clear hL;intro _ hL) | (refine tB ?_;clear hL;intro _ _ hL _))
   refine (i_subMag _ _ x y _ _ hL.vw (F1.out.le leX) (F2.out.le leX) (lx.out _ rfl) HLE.out).mono ?_
   rintro e W11 ⟨v11,m11,rfl,hE,hM11,hV,h11⟩
   replace hL := hL.call hE (by assumption) hV;clear hE hV
   obtain ⟨A3,c3,rfl,h11⟩ := h11.lit
   go_wp2_with (first | go_skip | refine tP ?_ | (refine tS ?_;clear hL;intro _ hL) | (refine tB ?_;clear hL;intro _ _ hL _))
   refine (i_wrapE _ _ (x - y) z _ _ hL.vw (h11.toA l1.out) E).mono ?_
   rintro e W12 ⟨v12,m12,rfl,hE,hM12,hV,h12⟩
   replace hL := hL.call hE (by assumption) hV;clear hE hV
   obtain ⟨g12',A12',n12',c12',rfl,h12⟩ := h12.lit
   go_wp2_with (first | go_skip | refine tP ?_ | (refine tS ?_;clear hL;intro _ hL) | (refine tB ?_;clear hL;intro _ _ hL _))
   refine fin_agg hL Tryz.results158 rfl rfl loX AgC.h (by exact rfl) ?_
   exact h12
  ·have E : Hid (sgn h (y - x) = z) := by show _ = _;rw [sgn_sub_r g h x y hg (by omega)];exact hz.out
   have C : Hid (¬ cmp3 x y ≥ 0) := fun h => hle (cmp3_ge.1 h)
   have HLE : Hid (x ≤ y) := by show x ≤ y;omega
   clear hz hle hg
   go_enter Tryz.func158,Tryz.ntmps158
   go_wp2_with (first | go_skip | refine tP ?_ | (refine tS ?_;clear hL;intro _ hL) | (refine tB ?_;clear hL;intro _ _ hL _))
   refine (i_compareMag _ _ x y _ _ hL.vw (F1.out.le leX) (F2.out.le leX) (lx.out _ rfl) (ly.out _ rfl)).mono ?_
   rintro e W10 ⟨_,m10,rfl,hE,hM10,hV,rfl⟩
   replace hL := hL.call hE (by assumption) hV;clear hE hV
   have hc := C.out
   generalize cmp3 x y = s at *
   go_wp2_with (first | go_skip | refine tP ?_ | (refine tS ?_;clear hL;intro _ hL) | (refine tB ?_;clear hL;intro _ _ hL _))
   refine (i_subMag _ _ y x _ _ hL.vw (F2.out.le leX) (F1.out.le leX) (ly.out _ rfl) HLE.out).mono ?_
   rintro e W11 ⟨v11,m11,rfl,hE,hM11,hV,h11⟩
   replace hL := hL.call hE (by assumption) hV;clear hE hV
   obtain ⟨A3,c3,rfl,h11⟩ := h11.lit
   go_wp2_with (first | go_skip | refine tP ?_ | (refine tS ?_;clear hL;intro _ hL) | (refine tB ?_;clear hL;intro _ _ hL _))
   refine (i_wrapE _ _ (y - x) z _ _ hL.vw (h11.toA l2.out) E).mono ?_
   rintro e W12 ⟨v12,m12,rfl,hE,hM12,hV,h12⟩
   replace hL := hL.call hE (by assumption) hV;clear hE hV
   obtain ⟨g12',A12',n12',c12',rfl,h12⟩ := h12.lit
   go_wp2_with (first | go_skip | refine tP ?_ | (refine tS ?_;clear hL;intro _ hL) | (refine tB ?_;clear hL;intro _ _ hL _))
   refine fin_agg hL Tryz.results158 rfl rfl loX AgC.h (by exact rfl) ?_
   exact h12

theorem i_Add (a b : Value) (x y : Int) (w m : World) (hV : Vw m w) (ha : IntV m a x) (hb : IntV m b y) (hx : x.natAbs < 18446744073709551616) (hy : y.natAbs < 18446744073709551616) :
  Calls Tryz.prog 106 #[a,b] w (RetV w m fun m' r => IntC m' r (x + y)) := by
 obtain ⟨g1,A1,l1,c1,rfl⟩ := ha.lit
 obtain ⟨g2,A2,l2,c2,rfl⟩ := hb.lit
 obtain ⟨d1,hg1⟩ := ha.digA
 obtain ⟨d2,hg2⟩ := hb.digA
 have HE : Hid (sgn g1 x.natAbs + sgn g2 y.natAbs = x + y) := by show _ = _;rw [sgn_self hg1,sgn_self hg2]
 have HX := Lib.hid hx
 have HY := Lib.hid hy
 clear hx hy hg1 hg2 ha hb
 have hL := Loc.start hV
 clear hV
 go_enter Tryz.func106,Tryz.ntmps106
 go_upto_region 1 with ((first | go_skip | refine tP ?_ | (refine tS ?_;clear hL;intro _ hL) | (refine tB ?_;clear hL;intro _ _ hL _)))
 refine wp_region_by2 11 [false,false,false,false,false,false,false,false,false,false,false] [false,false,false,false,false,false,false,false,false,false,false] [(fun v _ _ => v = ?c1_0),(fun v _ _ => v = ?c1_1),(fun v _ _ => v = ?c1_2),(fun v _ _ => v = ?c1_3),Of (fun um v => DigV um v (digs x.natAbs)),(fun v _ _ => v = ?c1_5),(fun v _ _ => v = ?c1_6),(fun v _ _ => v = ?c1_7),(fun v _ _ => v = ?c1_8),Of (fun um v => DigV um v (digs y.natAbs)),Of (fun um v => IntC um v (x + y))] hL.vw mixed [5,6,7,8,9,10,11,12,13,14,15] _ (by kernel_rfl) (fun vs => by simp only [lay,Act.put,zq1,zq2,zq3];rfl) (by kernel_rfl) (by decide) (by decide) ?s1 ?l1 ?r1
 case s1 =>
  refine ⟨?_,?_,?_,?_,?_,?_,?_,?_,?_,?_,?_,trivial⟩
  ·intro vs W1 m1 hE hM hV hD;clear hD
   exact sFe
  ·intro vs W1 m1 hE hM hV hD;obtain ⟨⟨_,_,-,-,f5⟩,-⟩ := hD
   rw [(f5 : vs 5 = _)];clear f5;exact sLe
  ·intro vs W1 m1 hE hM hV hD;clear hD
   exact sFe
  ·intro vs W1 m1 hE hM hV hD;obtain ⟨⟨_,_,-,-,f7⟩,-⟩ := hD
   rw [(f7 : vs 7 = _)];clear f7;exact sLe
  ·intro vs W1 m1 hE hM hV hD;obtain ⟨⟨_,_,-,-,f8⟩,-⟩ := hD
   rw [(f8 : vs 8 = _)]
   clear f8
   go_wp2_with fail
   refine (i_trim _ x.natAbs _ _ hV (d1.le leX)).mono ?_
   rintro e W2 ⟨v,m2,rfl,hE2,hM2,hV2,h⟩
   go_wp2_with fail
   refine One2.call hE2 hM2 hV2 ?_;first | exact h | exact rfl
  ·intro vs W1 m1 hE hM hV hD;clear hD
   exact sFe
  ·intro vs W1 m1 hE hM hV hD;obtain ⟨⟨_,_,-,-,f10⟩,-⟩ := hD
   rw [(f10 : vs 10 = _)];clear f10;exact sLe
  ·intro vs W1 m1 hE hM hV hD;clear hD
   exact sFe
  ·intro vs W1 m1 hE hM hV hD;obtain ⟨⟨_,_,-,-,f12⟩,-⟩ := hD
   rw [(f12 : vs 12 = _)];clear f12;exact sLe
  ·intro vs W1 m1 hE hM hV hD;obtain ⟨⟨_,_,-,-,f13⟩,-,-⟩ := hD
   rw [(f13 : vs 13 = _)]
   clear f13
   go_wp2_with fail
   refine (i_trim _ y.natAbs _ _ hV (d2.le leX)).mono ?_
   rintro e W2 ⟨v,m2,rfl,hE2,hM2,hV2,h⟩
   go_wp2_with fail
   refine One2.call hE2 hM2 hV2 ?_;first | exact h | exact rfl
  ·intro vs W1 m1 hE hM hV hD;obtain ⟨⟨_,_,-,-,f6⟩,⟨_,_,-,i9,f9⟩,⟨_,_,-,-,f11⟩,⟨_,_,-,i14,f14⟩,-,-⟩ := hD
   rw [(f6 : vs 6 = _),(f11 : vs 11 = _)]
   clear f6 f11
   have f9 : DigV _ (vs 9) (digs x.natAbs) := f9
   replace f9 := f9.le i9.le
   clear i9
   have f14 : DigV _ (vs 14) (digs y.natAbs) := f14
   replace f14 := f14.le i14.le
   clear i14
   go_wp2_with fail
   refine (i_addSigned _ _ _ _ x.natAbs y.natAbs (x + y) _ _ hV f9 f14 HX.out HY.out HE).mono ?_
   rintro e W2 ⟨v,m2,rfl,hE2,hM2,hV2,h⟩
   go_wp2_with fail
   refine One2.call hE2 hM2 hV2 ?_;first | exact h | exact rfl
 case l1 =>
  refine ⟨nF,nF,nF,nF,nF,nF,nF,nF,nF,nF,nF,trivial⟩
 intro vs W1 m1 hE hM hV hF hD
 clear hD
 obtain ⟨-,-,-,-,⟨_,_,-,i9,f9⟩,-,-,-,-,⟨_,_,-,i14,f14⟩,⟨_,_,-,i15,f15⟩,-⟩ := hF
 replace hL := hL.call hE hM hV
 replace f9 : DigV _ (vs 9) (digs x.natAbs) := f9
 replace f9 := f9.le i9.le
 clear i9
 replace f14 : DigV _ (vs 14) (digs y.natAbs) := f14
 replace f14 := f14.le i14.le
 clear i14
 replace f15 : IntC _ (vs 15) (x + y) := f15
 replace f15 := f15.le i15.le
 clear i15
 obtain ⟨g15,A15,n15,c15,e15,f15⟩ := f15.lit
 generalize vs 15 = x15 at e15 ⊢
 subst x15
 clear hE hV
 simp only [List.drop_succ_cons,List.drop_zero]
 go_wp2_with (first | go_skip | refine tP ?_ | (refine tS ?_;clear hL;intro _ hL) | (refine tB ?_;clear hL;intro _ _ hL _))
 refine QN.mk ?_
 go_wp2_with (first | go_skip | refine tP ?_ | (refine tS ?_;clear hL;intro _ hL) | (refine tB ?_;clear hL;intro _ _ hL _))
 refine fin_agg hL Tryz.results106 rfl rfl loX AgC.h (by exact rfl) ?_
 exact f15
end Go.Proofs.YtabmjadcoepbeaaGreat

/- Contracts of rational.Compare and Add where a number has two digits. -/
namespace Go.Proofs.YtabmjadcoepbeaaGreat
open Go.RowKit

def NoS (v : Value) : Prop := ∃ g A n c g' B k d,v = .agg #[.bool g,.slice A n c,.bool g',.slice B k d] ∧ 2 ≤ k
def FrG (m : World) (v : Value) (x y : Int) : Prop := FrV m v x y ∧ (FracS m v x y ∨ NoS v)
theorem FrG.le {m m' : World} {v : Value} {x y : Int} (h : FrG m v x y) (hb : Le m m') : FrG m' v x y :=
 ⟨h.1.le hb,h.2.imp (fun h => h.le hb) id⟩
theorem FracS.part {m : World} {v : Value} {x y : Int} (h : FracS m v x y) : SPart m v (pN x y) (pD y) true := by
 refine ⟨?_,fun w m' hV hl => q_smallParts v x y w m' hV (h.le hl)⟩
 obtain ⟨a,b,c,d,e,_⟩ := h
 exact ⟨a,b,c,d,e⟩
theorem NoS.part {v : Value} (h : NoS v) (m : World) : SPart m v 0 0 false := by
 obtain ⟨g,A,n,c,g',B,k,d,rfl,hk⟩ := h
 exact ⟨⟨_,_,_,_,rfl⟩,fun w m' hV _ => q_smallPartsF g A n c g' B k d w m' hV hk⟩
theorem FrV.agg {m : World} {v : Value} {x y : Int} (h : FrV m v x y) : ∃ a b c d,v = .agg #[a,b,c,d] := by
 obtain ⟨g,A,n,c,g',B,k,d,e,_⟩ := h
 exact ⟨_,_,_,_,e⟩
theorem small_no {m : World} {a b : Value} {x y x' y' : Int} (ha : FrG m a x y) (hb : FrG m b x' y') (h : NoS a ∨ NoS b) :
  ∃ p q p' q',∀ w m',Vw m' w → Le m m' → Calls Tryz.prog 101 #[a,b] w (RetV w m' fun _ r => r = .tuple #[.agg #[.int .i64 p,.int .i64 q],.agg #[.int .i64 p',.int .i64 q'],.bool false]) := by
 by_cases hn : NoS a
 ·exact ⟨0,0,0,0,fun w m' hV _ => q_smallE a b 0 0 w m' hV (hn.part m') hb.1.agg⟩
 ·have hn' : NoS b := h.resolve_left hn
  have ha' : FracS m a x y := ha.2.resolve_right hn
  exact ⟨pN x y,pD y,0,0,fun w m' hV hl => q_smallT a b _ _ _ _ false w m' hV (ha'.le hl).part (hn'.part m')⟩

theorem len_prod {a b : Int} (ha : a.natAbs < 1073741824) (hb : b.natAbs < 1073741824) : (digs (a * b).natAbs).length ≤ 1000 :=
 Nat.le_trans (len2 (by have := prod_bd ha hb;omega)) (by decide)

theorem add_same {a b d : Int} (hd : 0 < d) : Rat.divInt (a + b) d = Rat.divInt a d + Rat.divInt b d := by
 rw [Rat.divInt_add_divInt _ _ (by omega) (by omega),← Int.add_mul,Rat.divInt_mul_right (by omega)]

theorem q_AddL (a b : Value) (x y x' y' : Int) (p q p' q' : Int) (w m : World) (hV : Vw m w) (ha : FrV m a x y) (hb : FrV m b x' y') (hs : Sm x y) (hs' : Sm x' y')
  (hk : ∀ w m',Vw m' w → Le m m' → Calls Tryz.prog 101 #[a,b] w (RetV w m' fun _ r => r = .tuple #[.agg #[.int .i64 p,.int .i64 q],.agg #[.int .i64 p',.int .i64 q'],.bool false])) :
  Calls Tryz.prog 71 #[a,b] w (RetV w m fun m' r => FracC m' r (Rat.divInt x y + Rat.divInt x' y')) := by
 have KS := Lib.hid hk
 clear hk
 have FA := Lib.hid ha
 have FB := Lib.hid hb
 obtain ⟨g,A,n,c,g',B,k,d,rfl,-,-⟩ := ha
 obtain ⟨f,A',n',c',f',B',k',d',rfl,-,-⟩ := hb
 obtain ⟨u1,u2,u3,u4⟩ := pN_spec hs
 obtain ⟨v1,v2,v3,v4⟩ := pN_spec hs'
 have p1 := prod_bd u1 v3
 have p2 := prod_bd v1 u3
 have p3 := prod_bd u3 v3
 have U1 : Hid ((pN x y).natAbs < 4294967296) := by show _ < _;omega
 have U3 : Hid ((pD y).natAbs < 4294967296) := by show _ < _;omega
 have V1 : Hid ((pN x' y').natAbs < 4294967296) := by show _ < _;omega
 have V3 : Hid ((pD y').natAbs < 4294967296) := by show _ < _;omega
 have S1 : Hid ((pN x y).natAbs < 18446744073709551616) := by show _ < _;omega
 have S2 : Hid ((pN x' y').natAbs < 18446744073709551616) := by show _ < _;omega
 have S3 : Hid ((pD y).natAbs < 18446744073709551616) := by show _ < _;omega
 have Q1 : Hid ((pN x y * pD y').natAbs < 18446744073709551616) := by show _ < _;omega
 have Q2 : Hid ((pN x' y' * pD y).natAbs < 18446744073709551616) := by show _ < _;omega
 have Q3 : Hid ((pD y * pD y').natAbs < 18446744073709551616) := by show _ < _;omega
 have R1 : Hid ((pN x y + pN x' y').natAbs < 18446744073709551616) := by show _ < _;omega
 have R2 : Hid ((pN x y * pD y' + pN x' y' * pD y).natAbs < 18446744073709551616) := by show _ < _;omega
 have P1 := Lib.hid u2
 have P2 := Lib.hid (Int.mul_pos u2 v2)
 have L1 := Lib.hid (len_prod u1 v3)
 have L2 := Lib.hid (len_prod v1 u3)
 have L3 := Lib.hid (len_prod u3 v3)
 have L4 : Hid ((digs (pN x y + pN x' y').natAbs).length ≤ 1000) := Nat.le_trans (len2 R1.out) (by decide)
 have L5 : Hid ((digs (pN x y * pD y' + pN x' y' * pD y).natAbs).length ≤ 1000) := Nat.le_trans (len2 R2.out) (by decide)
 have E1 : Hid (pD y = pD y' → Rat.divInt (pN x y + pN x' y') (pD y) = Rat.divInt x y + Rat.divInt x' y') := fun h => by
  rw [← u4,← v4,add_same u2,h]
 have E2 : Hid (Rat.divInt (pN x y * pD y' + pN x' y' * pD y) (pD y * pD y') = Rat.divInt x y + Rat.divInt x' y') := by
  show _ = _;rw [← u4,← v4,Rat.divInt_add_divInt _ _ (by omega) (by omega)]
 have hL := Loc.start hV
 clear hV u1 u2 u3 u4 v1 v2 v3 v4 hs hs' p1 p2 p3
 go_enter Tryz.func71,Tryz.ntmps71
 go_wp2_with (first | go_skip | refine tP ?_ | (refine tS ?_;clear hL;intro _ hL) | (refine tB ?_;clear hL;intro _ _ hL _))
 refine (KS.out _ _ hL.vw leX).mono ?_
 rintro e W1 ⟨_,m1,rfl,hE,hM1,hV,rfl⟩
 replace hL := hL.call hE (by assumption) hV;clear hE hV
 go_wp2_with (first | go_skip | refine tP ?_ | (refine tS ?_;clear hL;intro _ hL) | (refine tB ?_;clear hL;intro _ _ hL _))
 refine (q_partsV _ x y _ _ hL.vw (FA.out.le leX)).mono ?_
 rintro e W2 ⟨_,m2,rfl,hE,hM2,hV,g2,A2,n2,c2,g3,A3,n3,c3,rfl,h1,h2⟩
 replace hL := hL.call hE (by assumption) hV;clear hE hV
 go_wp2_with (first | go_skip | refine tP ?_ | (refine tS ?_;clear hL;intro _ hL) | (refine tB ?_;clear hL;intro _ _ hL _))
 refine (q_partsV _ x' y' _ _ hL.vw (FB.out.le leX)).mono ?_
 rintro e W4 ⟨_,m4,rfl,hE,hM4,hV,g4,A4,n4,c4,g5,A5,n5,c5,rfl,h3,h4⟩
 replace hL := hL.call hE (by assumption) hV;clear hE hV
 go_wp2_with (first | go_skip | refine tP ?_ | (refine tS ?_;clear hL;intro _ hL) | (refine tB ?_;clear hL;intro _ _ hL _))
 refine (i_Compare _ _ (pD y) (pD y') _ _ hL.vw (h2.le leX) (h4.le leX)).mono ?_
 rintro e W6 ⟨_,m6,rfl,hE,hM6,hV,rfl⟩
 replace hL := hL.call hE (by assumption) hV;clear hE hV
 by_cases he : pD y = pD y'
 ·have E := Lib.hid (E1.out he)
  have hi : icmp (pD y) (pD y') = 0 := by unfold icmp;rw [if_neg (by omega),if_pos he]
  rw [hi]
  clear E1 E2 he hi
  go_upto_region 7 with ((first | go_skip | refine tP ?_ | (refine tS ?_;clear hL;intro _ hL) | (refine tB ?_;clear hL;intro _ _ hL _)))
  refine wp_region_by2 5 [false,false,false,false,false] [false,false,false,false,false] [(fun v _ _ => v = ?c7_0),(fun v _ _ => v = ?c7_1),Of (fun um v => IntC um v (pN x y + pN x' y')),(fun v _ _ => v = ?c7_3),Of (fun um v => FracC um v (Rat.divInt (pN x y + pN x' y') (pD y)))] hL.vw mixed [51,52,53,54,55] _ (by kernel_rfl) (fun vs => by simp only [lay,Act.put,zq1,zq2,zq3];rfl) (by kernel_rfl) (by decide) (by decide) ?s7 ?l7 ?r7
  case s7 =>
   refine ⟨?_,?_,?_,?_,?_,trivial⟩
   ·intro vs W1 m1 hE hM hV hD;clear hD
    exact sLe
   ·intro vs W1 m1 hE hM hV hD;clear hD
    exact sLe
   ·intro vs W1 m1 hE hM hV hD;obtain ⟨⟨_,_,-,-,f51⟩,⟨_,_,-,-,f52⟩,-⟩ := hD
    rw [(f51 : vs 51 = _),(f52 : vs 52 = _)]
    clear f51 f52
    go_wp2_with fail
    refine (i_Add _ _ _ _ _ _ hV (h1.le leX) (h3.le leX) S1.out S2.out).mono ?_
    rintro e W2 ⟨v,m2,rfl,hE2,hM2,hV2,h⟩
    go_wp2_with fail
    refine One2.call hE2 hM2 hV2 ?_;first | exact h | exact rfl
   ·intro vs W1 m1 hE hM hV hD;clear hD
    exact sLe
   ·intro vs W1 m1 hE hM hV hD;obtain ⟨⟨_,_,-,i53,f53⟩,⟨_,_,-,-,f54⟩,-,-⟩ := hD
    rw [(f54 : vs 54 = _)]
    clear f54
    have f53 : IntC _ (vs 53) (pN x y + pN x' y') := f53
    replace f53 := f53.le i53.le
    clear i53
    go_wp2_with fail
    refine (q_reduce _ _ _ _ _ _ hV (f53.toV L4.out) (h2.le leX) R1.out S3.out P1.out).mono ?_
    rintro e W2 ⟨v,m2,rfl,hE2,hM2,hV2,h⟩
    go_wp2_with fail
    refine One2.call hE2 hM2 hV2 ?_;first | exact h | exact rfl
  case l7 =>
   refine ⟨nF,nF,nF,nF,nF,trivial⟩
  intro vs W1 m1 hE hM hV hF hD
  clear hD
  obtain ⟨-,-,⟨_,_,-,i53,f53⟩,-,⟨_,_,-,i55,f55⟩,-⟩ := hF
  replace hL := hL.call hE hM hV
  replace f53 : IntC _ (vs 53) (pN x y + pN x' y') := f53
  replace f53 := f53.le i53.le
  clear i53
  replace f55 : FracC _ (vs 55) (Rat.divInt (pN x y + pN x' y') (pD y)) := f55
  replace f55 := f55.le i55.le
  clear i55
  obtain ⟨g55,A55,n55,c55,h55,B55,k55,d55,e55,f55⟩ := f55.lit
  generalize vs 55 = x55 at e55 ⊢
  subst x55
  clear hE hV
  simp only [List.drop_succ_cons,List.drop_zero]
  go_wp2_with (first | go_skip | refine tP ?_ | (refine tS ?_;clear hL;intro _ hL) | (refine tB ?_;clear hL;intro _ _ hL _))
  refine QN.mk ?_
  go_wp2_with (first | go_skip | refine tP ?_ | (refine tS ?_;clear hL;intro _ hL) | (refine tB ?_;clear hL;intro _ _ hL _))
  refine fin_agg hL Tryz.results71 rfl rfl loX AgC.h (by exact rfl) ?_
  rw [← E.out];exact f55
 ·have hi : (icmp (pD y) (pD y') == 0) = false := by unfold icmp;split <;> simp [he]
  clear E1 he
  go_upto_region 8 with ((first | go_skip | refine tP ?_ | (refine tS ?_;clear hL;intro _ hL) | (refine tB ?_;clear hL;intro _ _ hL _)))
  refine wp_region_by2 11 [false,false,false,false,false,false,false,false,false,false,false] [false,false,false,false,false,false,false,false,false,false,false] [(fun v _ _ => v = ?c8_0),(fun v _ _ => v = ?c8_1),Of (fun um v => IntC um v (pN x y * pD y')),(fun v _ _ => v = ?c8_3),(fun v _ _ => v = ?c8_4),Of (fun um v => IntC um v (pN x' y' * pD y)),Of (fun um v => IntC um v (pN x y * pD y' + pN x' y' * pD y)),(fun v _ _ => v = ?c8_7),(fun v _ _ => v = ?c8_8),Of (fun um v => IntC um v (pD y * pD y')),Of (fun um v => FracC um v (Rat.divInt (pN x y * pD y' + pN x' y' * pD y) (pD y * pD y')))] hL.vw mixed [56,57,58,59,60,61,62,63,64,65,66] _ (by kernel_rfl) (fun vs => by simp only [lay,Act.put,zq1,zq2,zq3];rfl) (by kernel_rfl) (by decide) (by decide) ?s8 ?l8 ?r8
  case s8 =>
   refine ⟨?_,?_,?_,?_,?_,?_,?_,?_,?_,?_,?_,trivial⟩
   ·intro vs W1 m1 hE hM hV hD;clear hD
    exact sLe
   ·intro vs W1 m1 hE hM hV hD;clear hD
    exact sLe
   ·intro vs W1 m1 hE hM hV hD;obtain ⟨⟨_,_,-,-,f56⟩,⟨_,_,-,-,f57⟩,-⟩ := hD
    rw [(f56 : vs 56 = _),(f57 : vs 57 = _)]
    clear f56 f57
    go_wp2_with fail
    refine (i_Mul _ _ _ _ _ _ hV (h1.le leX) (h4.le leX) U1.out V3.out).mono ?_
    rintro e W2 ⟨v,m2,rfl,hE2,hM2,hV2,h⟩
    go_wp2_with fail
    refine One2.call hE2 hM2 hV2 ?_;first | exact h | exact rfl
   ·intro vs W1 m1 hE hM hV hD;clear hD
    exact sLe
   ·intro vs W1 m1 hE hM hV hD;clear hD
    exact sLe
   ·intro vs W1 m1 hE hM hV hD;obtain ⟨⟨_,_,-,-,f59⟩,⟨_,_,-,-,f60⟩,-,-⟩ := hD
    rw [(f59 : vs 59 = _),(f60 : vs 60 = _)]
    clear f59 f60
    go_wp2_with fail
    refine (i_Mul _ _ _ _ _ _ hV (h3.le leX) (h2.le leX) V1.out U3.out).mono ?_
    rintro e W2 ⟨v,m2,rfl,hE2,hM2,hV2,h⟩
    go_wp2_with fail
    refine One2.call hE2 hM2 hV2 ?_;first | exact h | exact rfl
   ·intro vs W1 m1 hE hM hV hD;obtain ⟨⟨_,_,-,i58,f58⟩,⟨_,_,-,i61,f61⟩,-,-⟩ := hD;have f58 : IntC _ (vs 58) (pN x y * pD y') := f58;replace f58 := f58.le i58.le;clear i58;have f61 : IntC _ (vs 61) (pN x' y' * pD y) := f61;replace f61 := f61.le i61.le;clear i61
    go_wp2_with fail
    refine (i_Add _ _ _ _ _ _ hV (f58.toV L1.out) (f61.toV L2.out) Q1.out Q2.out).mono ?_
    rintro e W2 ⟨v,m2,rfl,hE2,hM2,hV2,h⟩
    go_wp2_with fail
    refine One2.call hE2 hM2 hV2 ?_;first | exact h | exact rfl
   ·intro vs W1 m1 hE hM hV hD;clear hD
    exact sLe
   ·intro vs W1 m1 hE hM hV hD;clear hD
    exact sLe
   ·intro vs W1 m1 hE hM hV hD;obtain ⟨⟨_,_,-,-,f63⟩,⟨_,_,-,-,f64⟩,-,-⟩ := hD
    rw [(f63 : vs 63 = _),(f64 : vs 64 = _)]
    clear f63 f64
    go_wp2_with fail
    refine (i_Mul _ _ _ _ _ _ hV (h2.le leX) (h4.le leX) U3.out V3.out).mono ?_
    rintro e W2 ⟨v,m2,rfl,hE2,hM2,hV2,h⟩
    go_wp2_with fail
    refine One2.call hE2 hM2 hV2 ?_;first | exact h | exact rfl
   ·intro vs W1 m1 hE hM hV hD;obtain ⟨⟨_,_,-,i62,f62⟩,⟨_,_,-,i65,f65⟩,-,-⟩ := hD;have f62 : IntC _ (vs 62) (pN x y * pD y' + pN x' y' * pD y) := f62;replace f62 := f62.le i62.le;clear i62;have f65 : IntC _ (vs 65) (pD y * pD y') := f65;replace f65 := f65.le i65.le;clear i65
    go_wp2_with fail
    refine (q_reduce _ _ _ _ _ _ hV (f62.toV L5.out) (f65.toV L3.out) R2.out Q3.out P2.out).mono ?_
    rintro e W2 ⟨v,m2,rfl,hE2,hM2,hV2,h⟩
    go_wp2_with fail
    refine One2.call hE2 hM2 hV2 ?_;first | exact h | exact rfl
  case l8 =>
   refine ⟨nF,nF,nF,nF,nF,nF,nF,nF,nF,nF,nF,trivial⟩
  intro vs W1 m1 hE hM hV hF hD
  clear hD
  obtain ⟨-,-,⟨_,_,-,i58,f58⟩,-,-,⟨_,_,-,i61,f61⟩,⟨_,_,-,i62,f62⟩,-,-,⟨_,_,-,i65,f65⟩,⟨_,_,-,i66,f66⟩,-⟩ := hF
  replace hL := hL.call hE hM hV
  replace f58 : IntC _ (vs 58) (pN x y * pD y') := f58
  replace f58 := f58.le i58.le
  clear i58
  replace f61 : IntC _ (vs 61) (pN x' y' * pD y) := f61
  replace f61 := f61.le i61.le
  clear i61
  replace f62 : IntC _ (vs 62) (pN x y * pD y' + pN x' y' * pD y) := f62
  replace f62 := f62.le i62.le
  clear i62
  replace f65 : IntC _ (vs 65) (pD y * pD y') := f65
  replace f65 := f65.le i65.le
  clear i65
  replace f66 : FracC _ (vs 66) (Rat.divInt (pN x y * pD y' + pN x' y' * pD y) (pD y * pD y')) := f66
  replace f66 := f66.le i66.le
  clear i66
  obtain ⟨g66,A66,n66,c66,h66,B66,k66,d66,e66,f66⟩ := f66.lit
  generalize vs 66 = x66 at e66 ⊢
  subst x66
  clear hE hV
  simp only [List.drop_succ_cons,List.drop_zero]
  go_wp2_with (first | go_skip | refine tP ?_ | (refine tS ?_;clear hL;intro _ hL) | (refine tB ?_;clear hL;intro _ _ hL _))
  refine QN.mk ?_
  go_wp2_with (first | go_skip | refine tP ?_ | (refine tS ?_;clear hL;intro _ hL) | (refine tB ?_;clear hL;intro _ _ hL _))
  refine fin_agg hL Tryz.results71 rfl rfl loX AgC.h (by exact rfl) ?_
  rw [← E2.out];exact f66
theorem q_AddG (a b : Value) (x y x' y' : Int) (w m : World) (hV : Vw m w) (ha : FrG m a x y) (hb : FrG m b x' y') (hs : Sm x y) (hs' : Sm x' y') :
  Calls Tryz.prog 71 #[a,b] w (RetV w m fun m' r => FracC m' r (Rat.divInt x y + Rat.divInt x' y')) := by
 by_cases hn : NoS a ∨ NoS b
 ·obtain ⟨p,q,p',q',hk⟩ := small_no ha hb hn
  exact q_AddL a b x y x' y' p q p' q' w m hV ha.1 hb.1 hs hs' hk
 ·exact q_Add a b x y x' y' w m hV (ha.2.resolve_right fun h => hn (.inl h)) (hb.2.resolve_right fun h => hn (.inr h)) hs hs'
end Go.Proofs.YtabmjadcoepbeaaGreat

/- Contracts of pairingref25.New, Mul and pairingdata.times that leave the digits of the numerator in a row of the caller's own. -/
namespace Go.Proofs.YtabmjadcoepbeaaGreat
open Go.RowKit

theorem IntO.nil (u : World) (B : Nat) : IntO u B (.agg #[.bool false,.slice none 0 0]) 0 := ⟨.slice none 0 0,by simp,by simp [digs_zero],.inl ⟨by simp [digs_zero],by simp [digs_zero]⟩⟩
theorem IntO.lit {u : World} {B : Nat} {v : Value} {z : Int} (h : IntO u B v z) : ∃ A c,v = .agg #[.bool (decide (z < 0)),.slice A (digs z.natAbs).length c] ∧ u.ownsRow B 121 1 (.slice A (digs z.natAbs).length c) (digs z.natAbs).length ((digs z.natAbs).map U) := by
 obtain ⟨s,rfl,ho⟩ := h
 obtain ⟨A,c,rfl,_,_⟩ := Sl.digs_of_own ho
 exact ⟨A,c,rfl,ho⟩
def CanO (B : Nat) (z : Int) : Fct := fun v u _ => IntO u B v z
theorem IntO.litE {u W : World} {B : Nat} {v : Value} {z : Int} (h : IntO u B v z) (hE : Ext u W) : ∃ A c,v = .agg #[.bool (decide (z < 0)),.slice A (digs z.natAbs).length c] ∧ W.ownsRow B 121 1 (.slice A (digs z.natAbs).length c) (digs z.natAbs).length ((digs z.natAbs).map U) := by
 obtain ⟨A,c,e,ho⟩ := IntO.lit h
 exact ⟨A,c,e,ownsRow_ext ho hE⟩
def NumO (B : Nat) (u : World) (v : Value) (z : Int) : Prop := ∃ a b h D k d,v = .agg #[a,b,.bool h,.slice D k d] ∧ IntO u B (.agg #[a,b]) z
theorem NumO.base {u : World} {B B' : Nat} {v : Value} {z : Int} (h : NumO B' u v z) (hB : B ≤ B') : NumO B u v z := by
 obtain ⟨a,b,g,D,k,d,e,h⟩ := h
 exact ⟨a,b,g,D,k,d,e,h.base hB⟩
def NumF (B : Nat) (z : Int) : Fct := fun v u _ => NumO B u v z
theorem NumO.litE {u W : World} {B : Nat} {v : Value} {z : Int} (h : NumO B u v z) (hE : Ext u W) : ∃ A c f D k d,v = .agg #[.bool (decide (z < 0)),.slice A (digs z.natAbs).length c,.bool f,.slice D k d] ∧ W.ownsRow B 121 1 (.slice A (digs z.natAbs).length c) (digs z.natAbs).length ((digs z.natAbs).map U) := by
 obtain ⟨a,b,f,D,k,d,rfl,h⟩ := h
 obtain ⟨A,c,e,ho⟩ := IntO.lit h
 simp only [Value.agg.injEq,Array.mk.injEq,List.cons.injEq,and_true] at e
 obtain ⟨rfl,rfl⟩ := e
 exact ⟨A,c,f,D,k,d,rfl,ownsRow_ext ho hE⟩
theorem Loc.ownS {w0 m0 W m : World} {Ls R : List Lo} (hL : Loc w0 m0 W m Ls) (hs : ∀ x ∈ R,x ∈ Ls) {e : TypeId} {size : Nat} {v : Value} {n : Nat} {xs : List Value} (hR : Row e size v n xs R) : W.ownsRow w0.heap.size e size v n xs := by
 obtain ⟨h1,⟨rfl,rfl,_⟩ | ⟨g,cap,cur,rfl,rfl,h⟩⟩ := hR
 ·exact ⟨h1,.inl ⟨rfl,rfl⟩⟩
 ·have hm : (g,e,cur) ∈ Ls := hs _ (by simp)
  exact ⟨h1,.inr ⟨g,cap,cur,rfl,hL.low _ hm,hL.blk _ hm,h⟩⟩
theorem c_CanonW (v : Value) (z : Int) (w m : World) (hV : Vw m w) (h : IntV m v z) : Calls Tryz.prog 86 #[v] w (RetW w m fun w' _ r => IntO w' w.heap.size r z) :=
 (r1_Canon v z w (h.le hV.le)).mono fun _ _ h => by
  obtain ⟨v,rfl,h1,h2⟩ := h
  exact ⟨v,_,rfl,h2,(joined_spec hV h2).1,(joined_spec hV h2).2,h1⟩

theorem r_NewO (n d : Value) (x y : Int) (w m : World) (hV : Vw m w) (hn : IntV m n x) (hd : IntV m d y) :
  Calls Tryz.prog 61 #[n,d] w (RetW w m fun w' _ r => NumO w.heap.size w' r (Rat.divInt x y).num) := by
 obtain ⟨na,A,la,ca,rfl⟩ := hn.lit
 obtain ⟨nb,B',lb,cb,rfl⟩ := hd.lit
 have hL := Loc.start hV
 clear hV
 go_enter Tryz.func61,Tryz.ntmps61
 go_wp2_with (first | go_skip | refine tP ?_ | (refine tS ?_;clear hL;intro _ hL) | (refine tB ?_;clear hL;intro _ _ hL _))
 refine (c_FromInt64 1 _ _ hL.vw (by omega) (by omega)).mono ?_
 rintro e W1 ⟨v1,m1,rfl,hE,hM1,hV,h1⟩
 replace hL := hL.call hE (by assumption) hV;clear hE hV
 obtain ⟨g1,A1,n1,c1,rfl,h1⟩ := h1.lit
 go_wp2_with (first | go_skip | refine tP ?_ | (refine tS ?_;clear hL;intro _ hL) | (refine tB ?_;clear hL;intro _ _ hL _))
 refine (c_Sign _ y _ _ hL.vw (hd.le leX)).mono ?_
 rintro e W2 ⟨_,m2,rfl,hE,hM2,hV,rfl⟩
 replace hL := hL.call hE (by assumption) hV;clear hE hV
 by_cases hy : y = 0
 ·subst hy
  rw [show icmp 0 0 = 0 from rfl]
  go_wp2_with (first | go_skip | refine tP ?_ | (refine tS ?_;clear hL;intro _ hL) | (refine tB ?_;clear hL;intro _ _ hL _))
  refine fin_aggP hL Tryz.results61 rfl rfl loX ag_Frac rfl (RetW.mk hL ?_)
  rw [Rat.divInt_zero]
  exact ⟨_,_,_,_,_,_,rfl,IntO.nil _ _⟩
 ·have hyb : (icmp y 0 == 0) = false := by
   unfold icmp;by_cases h : y < 0 <;> simp [h,hy]
  go_wp2_with (first | go_skip | refine tP ?_ | (refine tS ?_;clear hL;intro _ hL) | (refine tB ?_;clear hL;intro _ _ hL _))
  refine (c_Sign _ x _ _ hL.vw (hn.le leX)).mono ?_
  rintro e W3 ⟨_,m3,rfl,hE,hM3,hV,rfl⟩
  replace hL := hL.call hE (by assumption) hV;clear hE hV
  by_cases hx : x = 0
  ·subst hx
   rw [show icmp 0 0 = 0 from rfl]
   go_wp2_with (first | go_skip | refine tP ?_ | (refine tS ?_;clear hL;intro _ hL) | (refine tB ?_;clear hL;intro _ _ hL _))
   refine fin_aggP hL Tryz.results61 rfl rfl loX ag_Frac rfl (RetW.mk hL ?_)
   rw [Rat.zero_divInt]
   exact ⟨_,_,_,_,_,_,rfl,IntO.nil _ _⟩
  ·have hxb : (icmp x 0 == 0) = false := by
    unfold icmp;by_cases h : x < 0 <;> simp [h,hx]
   go_wp2_with (first | go_skip | refine tP ?_ | (refine tS ?_;clear hL;intro _ hL) | (refine tB ?_;clear hL;intro _ _ hL _))
   refine (c_Sign _ y _ _ hL.vw (hd.le leX)).mono ?_
   rintro e W4 ⟨_,m4,rfl,hE,hM4,hV,rfl⟩
   replace hL := hL.call hE (by assumption) hV;clear hE hV
   clear hyb hxb
   have lx := hn.length
   have ly := hd.length
   by_cases hneg : y < 0
   ·rw [icmp_lt hneg]
    go_upto_region 5 with ((first | go_skip | refine tP ?_ | (refine tS ?_;clear hL;intro _ hL) | (refine tB ?_;clear hL;intro _ _ hL _)))
    refine wp_region_by2 4 [false,false,false,false] [false,false,false,false] [(fun v _ _ => v = ?c5_0),Of (fun um v => IntC um v (-x)),(fun v _ _ => v = ?c5_2),Of (fun um v => IntC um v (-y))] hL.vw mixed [27,28,29,30] _ (by kernel_rfl) (fun vs => by simp only [lay,Act.put,zq1,zq2,zq3];rfl) (by kernel_rfl) (by decide) (by decide) ?s5 ?l5 ?r5
    case s5 =>
     refine ⟨?_,?_,?_,?_,trivial⟩
     ·intro vs W1 m1 hE hM hV hD;clear hD
      exact sLe
     ·intro vs W1 m1 hE hM hV hD;obtain ⟨⟨_,_,-,-,f27⟩,-⟩ := hD
      rw [(f27 : vs 27 = _)]
      clear f27
      go_wp2_with fail
      refine (c_Negate _ x _ _ hV (hn.le leX)).mono ?_
      rintro e W2 ⟨v,m2,rfl,hE2,hM2,hV2,h⟩
      go_wp2_with fail
      refine One2.call hE2 hM2 hV2 ?_;first | exact h | exact rfl
     ·intro vs W1 m1 hE hM hV hD;clear hD
      exact sLe
     ·intro vs W1 m1 hE hM hV hD;obtain ⟨⟨_,_,-,-,f29⟩,-,-⟩ := hD
      rw [(f29 : vs 29 = _)]
      clear f29
      go_wp2_with fail
      refine (c_Negate _ y _ _ hV (hd.le leX)).mono ?_
      rintro e W2 ⟨v,m2,rfl,hE2,hM2,hV2,h⟩
      go_wp2_with fail
      refine One2.call hE2 hM2 hV2 ?_;first | exact h | exact rfl
    case l5 =>
     refine ⟨nF,nF,nF,nF,trivial⟩
    intro vs W1 m1 hE hM hV hF hD
    clear hD
    obtain ⟨-,⟨_,_,-,i28,f28⟩,-,⟨_,_,-,i30,f30⟩,-⟩ := hF
    replace hL := hL.call hE hM hV
    replace f28 : IntC _ (vs 28) (-x) := f28
    replace f28 := f28.le i28.le
    clear i28
    obtain ⟨g28,A28,n28,c28,e28,f28⟩ := f28.lit
    generalize vs 28 = x28 at e28 ⊢
    subst x28
    replace f30 : IntC _ (vs 30) (-y) := f30
    replace f30 := f30.le i30.le
    clear i30
    obtain ⟨g30,A30,n30,c30,e30,f30⟩ := f30.lit
    generalize vs 30 = x30 at e30 ⊢
    subst x30
    clear hE hV
    simp only [List.drop_succ_cons,List.drop_zero]
    go_wp2_with (first | go_skip | refine tP ?_ | (refine tS ?_;clear hL;intro _ hL) | (refine tB ?_;clear hL;intro _ _ hL _))
    refine QN.mk ?_
    have fx := f28.toV (by rw [Int.natAbs_neg];exact lx)
    have fy := f30.toV (by rw [Int.natAbs_neg];exact ly)
    have hq : Hid (Rat.divInt x y = Rat.divInt (-x) (-y)) := (Rat.neg_divInt_neg x y).symm
    have hy' : 0 < -y := by omega
    rw [← Int.natAbs_neg] at lx ly
    clear hneg hx hy f28 f30
    generalize -x = x' at *
    generalize -y = y' at *
    go_wp2_with (first | go_skip | refine tP ?_ | (refine tS ?_;clear hL;intro _ hL) | (refine tB ?_;clear hL;intro _ _ hL _))
    have hgp : 0 < Int.gcd x' y' := Int.gcd_pos_of_ne_zero_right _ (by omega)
    have hgl : (digs (((Int.gcd x' y' : Nat) : Int)).natAbs).length ≤ 1000 := Nat.le_trans (length_digs_mono (by simpa using Nat.le_of_dvd (by omega) (Int.gcd_dvd_natAbs_right x' y'))) ly
    have hgq := frac_pos (x := x') hy'
    refine (c_GCD _ _ x' y' _ _ hL.vw (fx.le leX) (fy.le leX)).mono ?_
    rintro e W5 ⟨v5,m5,rfl,hE,hM5,hV,h5⟩
    replace hL := hL.call hE (by assumption) hV;clear hE hV
    obtain ⟨g5,A5,n5,c5,rfl,h5⟩ := h5.lit
    generalize Int.gcd x' y' = gg at *
    go_wp2_with (first | go_skip | refine tP ?_ | (refine tS ?_;clear hL;intro _ hL) | (refine tB ?_;clear hL;intro _ _ hL _))
    refine (c_DivMod _ _ x' gg _ _ hL.vw (fx.le leX) ((h5.toV hgl).le leX) (by omega)).mono ?_
    rintro e W6 ⟨_,m6,rfl,hE,hM6,hV,q6,r6,rfl,h6,k6⟩
    replace hL := hL.call hE (by assumption) hV;clear hE hV
    obtain ⟨g6,A6,n6,c6,rfl,h6⟩ := h6.lit
    obtain ⟨g7,A7,n7,c7,rfl,k6⟩ := k6.lit
    have lq : (digs (x' / (gg : Int)).natAbs).length ≤ 1000 := Nat.le_trans (length_digs_mono (Int.natAbs_ediv_le_natAbs _ _)) lx
    have lr : (digs (y' / (gg : Int)).natAbs).length ≤ 1000 := Nat.le_trans (length_digs_mono (Int.natAbs_ediv_le_natAbs _ _)) ly
    have HQ := Lib.hid hgq
    clear hgq k6
    go_wp2_with (first | go_skip | refine tP ?_ | (refine tS ?_;clear hL;intro _ hL) | (refine tB ?_;clear hL;intro _ _ hL _))
    refine (c_DivMod _ _ y' gg _ _ hL.vw (fy.le leX) ((h5.toV hgl).le leX) (by omega)).mono ?_
    rintro e W7 ⟨_,m7,rfl,hE,hM7,hV,q8,r8,rfl,h8,k8⟩
    replace hL := hL.call hE (by assumption) hV;clear hE hV
    obtain ⟨g8,A8,n8,c8,rfl,h8⟩ := h8.lit
    obtain ⟨g9,A9,n9,c9,rfl,k8⟩ := k8.lit
    clear k8
    go_upto_region 9 with ((first | go_skip | refine tP ?_ | (refine tS ?_;clear hL;intro _ hL) | (refine tB ?_;clear hL;intro _ _ hL _)))
    refine wp_region_by2 4 [false,false,false,false] [false,false,false,false] [(fun v _ _ => v = ?c9_0a),(CanO w.heap.size (x' / (gg : Int))),(fun v _ _ => v = ?c9_2a),Of (fun um v => IntC um v (y' / (gg : Int)))] hL.vw mixed [48,49,50,51] _ (by kernel_rfl) (fun vs => by simp only [lay,Act.put,zq1,zq2,zq3];rfl) (by kernel_rfl) (by decide) (by decide) ?s9a ?l9a ?r9a
    case s9a =>
     refine ⟨?_,?_,?_,?_,trivial⟩
     ·intro vs W1 m1 hE hM hV hD;clear hD
      exact sLe
     ·intro vs W1 m1 hE hM hV hD;obtain ⟨⟨_,_,-,-,f48⟩,-⟩ := hD
      rw [(f48 : vs 48 = _)]
      clear f48
      (go_wp2_with fail;refine (c_CanonW _ _ _ _ hV ((h6.toV lq).le leX)).mono ?_;rintro e W2 ⟨v,m2,rfl,hE2,hM2,hV2,h⟩;go_wp2_with fail;refine One2.call hE2 hM2 hV2 ?_;exact h.base (Nat.le_trans hL.ext.size hE.size))
     ·intro vs W1 m1 hE hM hV hD;clear hD
      exact sLe
     ·intro vs W1 m1 hE hM hV hD;obtain ⟨⟨_,_,-,-,f50⟩,-,-⟩ := hD
      rw [(f50 : vs 50 = _)]
      clear f50
      go_wp2_with fail
      refine (c_Canon _ _ _ _ hV ((h8.toV lr).le leX)).mono ?_
      rintro e W2 ⟨v,m2,rfl,hE2,hM2,hV2,h⟩
      go_wp2_with fail
      refine One2.call hE2 hM2 hV2 ?_;first | exact h | exact rfl
    case l9a =>
     refine ⟨nF,nF,nF,nF,trivial⟩
    intro vs W1 m1 hE hM hV hF hD
    clear hD
    obtain ⟨-,⟨_,_,j49,i49,f49⟩,-,⟨_,_,-,i51,f51⟩,-⟩ := hF
    replace hL := hL.call hE hM hV
    replace f51 : IntC _ (vs 51) (y' / (gg : Int)) := f51
    replace f51 := f51.le i51.le
    clear i51
    obtain ⟨g51,A51,n51,c51,e51,f51⟩ := f51.lit
    generalize vs 51 = x51 at e51 ⊢
    subst x51
    clear hE hV
    obtain ⟨A49,c49,e49,ow⟩ := IntO.litE f49 j49
    generalize vs 49 = x49 at e49 ⊢
    subst x49
    obtain ⟨R,m3,hL3,row⟩ := hL.reown ow (Nat.le_refl _) (by simp)
    simp only [List.cons_append,List.nil_append] at hL3
    clear hL ow
    have hL := hL3
    clear hL3 i49 j49
    simp only [List.drop_succ_cons,List.drop_zero]
    go_wp2_with (first | go_skip | refine tP ?_ | (refine tS ?_;clear hL;intro _ hL) | (refine tB ?_;clear hL;intro _ _ hL _))
    refine QN.mk ?_
    go_wp2_with (first | go_skip | refine tP ?_ | (refine tS ?_;clear hL;intro _ hL) | (refine tB ?_;clear hL;intro _ _ hL _))
    refine fin_aggP hL Tryz.results61 rfl rfl loX ag_Frac rfl (RetW.mk hL ?_)
    rw [hq.out]
    exact ⟨_,_,_,_,_,_,rfl,by rw [HQ.out.1];exact ⟨_,rfl,hL.ownS (fun x hx => by simp [hx]) row⟩⟩
   ·have hy' : 0 < y := by omega
    rw [icmp_gt hy']
    have fx := hn.le (m' := m4) leX
    have fy := hd.le (m' := m4) leX
    clear hneg hx hy hn hd
    go_wp2_with (first | go_skip | refine tP ?_ | (refine tS ?_;clear hL;intro _ hL) | (refine tB ?_;clear hL;intro _ _ hL _))
    have hgp : 0 < Int.gcd x y := Int.gcd_pos_of_ne_zero_right _ (by omega)
    have hgl : (digs (((Int.gcd x y : Nat) : Int)).natAbs).length ≤ 1000 := Nat.le_trans (length_digs_mono (by simpa using Nat.le_of_dvd (by omega) (Int.gcd_dvd_natAbs_right x y))) ly
    have hgq := frac_pos (x := x) hy'
    refine (c_GCD _ _ x y _ _ hL.vw (fx.le leX) (fy.le leX)).mono ?_
    rintro e W5 ⟨v5,m5,rfl,hE,hM5,hV,h5⟩
    replace hL := hL.call hE (by assumption) hV;clear hE hV
    obtain ⟨g5,A5,n5,c5,rfl,h5⟩ := h5.lit
    generalize Int.gcd x y = gg at *
    go_wp2_with (first | go_skip | refine tP ?_ | (refine tS ?_;clear hL;intro _ hL) | (refine tB ?_;clear hL;intro _ _ hL _))
    refine (c_DivMod _ _ x gg _ _ hL.vw (fx.le leX) ((h5.toV hgl).le leX) (by omega)).mono ?_
    rintro e W6 ⟨_,m6,rfl,hE,hM6,hV,q6,r6,rfl,h6,k6⟩
    replace hL := hL.call hE (by assumption) hV;clear hE hV
    obtain ⟨g6,A6,n6,c6,rfl,h6⟩ := h6.lit
    obtain ⟨g7,A7,n7,c7,rfl,k6⟩ := k6.lit
    have lq : (digs (x / (gg : Int)).natAbs).length ≤ 1000 := Nat.le_trans (length_digs_mono (Int.natAbs_ediv_le_natAbs _ _)) lx
    have lr : (digs (y / (gg : Int)).natAbs).length ≤ 1000 := Nat.le_trans (length_digs_mono (Int.natAbs_ediv_le_natAbs _ _)) ly
    have HQ := Lib.hid hgq
    clear hgq k6
    go_wp2_with (first | go_skip | refine tP ?_ | (refine tS ?_;clear hL;intro _ hL) | (refine tB ?_;clear hL;intro _ _ hL _))
    refine (c_DivMod _ _ y gg _ _ hL.vw (fy.le leX) ((h5.toV hgl).le leX) (by omega)).mono ?_
    rintro e W7 ⟨_,m7,rfl,hE,hM7,hV,q8,r8,rfl,h8,k8⟩
    replace hL := hL.call hE (by assumption) hV;clear hE hV
    obtain ⟨g8,A8,n8,c8,rfl,h8⟩ := h8.lit
    obtain ⟨g9,A9,n9,c9,rfl,k8⟩ := k8.lit
    clear k8
    go_upto_region 9 with ((first | go_skip | refine tP ?_ | (refine tS ?_;clear hL;intro _ hL) | (refine tB ?_;clear hL;intro _ _ hL _)))
    refine wp_region_by2 4 [false,false,false,false] [false,false,false,false] [(fun v _ _ => v = ?c9_0b),(CanO w.heap.size (x / (gg : Int))),(fun v _ _ => v = ?c9_2b),Of (fun um v => IntC um v (y / (gg : Int)))] hL.vw mixed [48,49,50,51] _ (by kernel_rfl) (fun vs => by simp only [lay,Act.put,zq1,zq2,zq3];rfl) (by kernel_rfl) (by decide) (by decide) ?s9b ?l9b ?r9b
    case s9b =>
     refine ⟨?_,?_,?_,?_,trivial⟩
     ·intro vs W1 m1 hE hM hV hD;clear hD
      exact sLe
     ·intro vs W1 m1 hE hM hV hD;obtain ⟨⟨_,_,-,-,f48⟩,-⟩ := hD
      rw [(f48 : vs 48 = _)]
      clear f48
      (go_wp2_with fail;refine (c_CanonW _ _ _ _ hV ((h6.toV lq).le leX)).mono ?_;rintro e W2 ⟨v,m2,rfl,hE2,hM2,hV2,h⟩;go_wp2_with fail;refine One2.call hE2 hM2 hV2 ?_;exact h.base (Nat.le_trans hL.ext.size hE.size))
     ·intro vs W1 m1 hE hM hV hD;clear hD
      exact sLe
     ·intro vs W1 m1 hE hM hV hD;obtain ⟨⟨_,_,-,-,f50⟩,-,-⟩ := hD
      rw [(f50 : vs 50 = _)]
      clear f50
      go_wp2_with fail
      refine (c_Canon _ _ _ _ hV ((h8.toV lr).le leX)).mono ?_
      rintro e W2 ⟨v,m2,rfl,hE2,hM2,hV2,h⟩
      go_wp2_with fail
      refine One2.call hE2 hM2 hV2 ?_;first | exact h | exact rfl
    case l9b =>
     refine ⟨nF,nF,nF,nF,trivial⟩
    intro vs W1 m1 hE hM hV hF hD
    clear hD
    obtain ⟨-,⟨_,_,j49,i49,f49⟩,-,⟨_,_,-,i51,f51⟩,-⟩ := hF
    replace hL := hL.call hE hM hV
    replace f51 : IntC _ (vs 51) (y / (gg : Int)) := f51
    replace f51 := f51.le i51.le
    clear i51
    obtain ⟨g51,A51,n51,c51,e51,f51⟩ := f51.lit
    generalize vs 51 = x51 at e51 ⊢
    subst x51
    clear hE hV
    obtain ⟨A49,c49,e49,ow⟩ := IntO.litE f49 j49
    generalize vs 49 = x49 at e49 ⊢
    subst x49
    obtain ⟨R,m3,hL3,row⟩ := hL.reown ow (Nat.le_refl _) (by simp)
    simp only [List.cons_append,List.nil_append] at hL3
    clear hL ow
    have hL := hL3
    clear hL3 i49 j49
    simp only [List.drop_succ_cons,List.drop_zero]
    go_wp2_with (first | go_skip | refine tP ?_ | (refine tS ?_;clear hL;intro _ hL) | (refine tB ?_;clear hL;intro _ _ hL _))
    refine QN.mk ?_
    go_wp2_with (first | go_skip | refine tP ?_ | (refine tS ?_;clear hL;intro _ hL) | (refine tB ?_;clear hL;intro _ _ hL _))
    refine fin_aggP hL Tryz.results61 rfl rfl loX ag_Frac rfl (RetW.mk hL ?_)
    exact ⟨_,_,_,_,_,_,rfl,by rw [HQ.out.1];exact ⟨_,rfl,hL.ownS (fun x hx => by simp [hx]) row⟩⟩

theorem r_MulO (a b : Value) (p q : Rat) (w m : World) (hV : Vw m w) (ha : FracV m a p) (hb : FracV m b q) (kp : Fit 200 p) (kq : Fit 200 q) :
  Calls Tryz.prog 48 #[a,b] w (RetW w m fun w' _ r => NumO w.heap.size w' r (p * q).num) := by
 have hq := Lib.hid (rat_mul p q)
 have l1 := Nat.le_trans (mul_len kp.n kq.n) (show 200 + 200 ≤ 1000 by omega)
 have l2 := Nat.le_trans (mul_len kp.d kq.d) (show 200 + 200 ≤ 1000 by omega)
 obtain ⟨_,_,g1,A1,n1,c1,h1,B1,k1,d1,rfl,-,-,-⟩ := ha.lit
 obtain ⟨_,_,g2,A2,n2,c2,h2,B2,k2,d2,rfl,-,-,-⟩ := hb.lit
 have hL := Loc.start hV
 clear hV
 go_enter Tryz.func48,Tryz.ntmps48
 go_upto_region 1 with ((first | go_skip | refine tP ?_ | (refine tS ?_;clear hL;intro _ hL) | (refine tB ?_;clear hL;intro _ _ hL _)))
 refine wp_region_by2 4 [false,false,false,false] [false,false,false,false] [(fun v _ _ => v = ?c1_0),Of (fun um v => FracC um v p),(fun v _ _ => v = ?c1_2),Of (fun um v => FracC um v q)] hL.vw mixed [5,6,7,8] _ (by kernel_rfl) (fun vs => by simp only [lay,Act.put,zq1,zq2,zq3];rfl) (by kernel_rfl) (by decide) (by decide) ?s1 ?l1 ?r1
 case s1 =>
  refine ⟨?_,?_,?_,?_,trivial⟩
  ·intro vs W1 m1 hE hM hV hD;clear hD
   exact sLe
  ·intro vs W1 m1 hE hM hV hD;obtain ⟨⟨_,_,-,-,f5⟩,-⟩ := hD
   rw [(f5 : vs 5 = _)]
   clear f5
   go_wp2_with fail
   refine (r_Canon _ p _ _ hV (ha.le leX)).mono ?_
   rintro e W2 ⟨v,m2,rfl,hE2,hM2,hV2,h⟩
   go_wp2_with fail
   refine One2.call hE2 hM2 hV2 ?_;first | exact h | exact rfl
  ·intro vs W1 m1 hE hM hV hD;clear hD
   exact sLe
  ·intro vs W1 m1 hE hM hV hD;obtain ⟨⟨_,_,-,-,f7⟩,-,-⟩ := hD
   rw [(f7 : vs 7 = _)]
   clear f7
   go_wp2_with fail
   refine (r_Canon _ q _ _ hV (hb.le leX)).mono ?_
   rintro e W2 ⟨v,m2,rfl,hE2,hM2,hV2,h⟩
   go_wp2_with fail
   refine One2.call hE2 hM2 hV2 ?_;first | exact h | exact rfl
 case l1 =>
  refine ⟨nF,nF,nF,nF,trivial⟩
 intro vs W1 m1 hE hM hV hF hD
 clear hD
 obtain ⟨-,⟨_,_,-,i6,f6⟩,-,⟨_,_,-,i8,f8⟩,-⟩ := hF
 replace hL := hL.call hE hM hV
 replace f6 : FracC _ (vs 6) p := f6
 replace f6 := f6.le i6.le
 clear i6
 obtain ⟨g6,A6,n6,c6,h6,B6,k6,d6,e6,f6⟩ := f6.lit
 generalize vs 6 = x6 at e6 ⊢
 subst x6
 replace f8 : FracC _ (vs 8) q := f8
 replace f8 := f8.le i8.le
 clear i8
 obtain ⟨g8,A8,n8,c8,h8,B8,k8,d8,e8,f8⟩ := f8.lit
 generalize vs 8 = x8 at e8 ⊢
 subst x8
 clear hE hV
 simp only [List.drop_succ_cons,List.drop_zero]
 go_wp2_with (first | go_skip | refine tP ?_ | (refine tS ?_;clear hL;intro _ hL) | (refine tB ?_;clear hL;intro _ _ hL _))
 refine QN.mk ?_
 obtain ⟨a1,a2⟩ := f6.open_
 obtain ⟨b1,b2⟩ := f8.open_
 replace a1 := a1.toV (kp.num (by omega))
 replace a2 := a2.toV (kp.den (by omega))
 replace b1 := b1.toV (kq.num (by omega))
 replace b2 := b2.toV (kq.den (by omega))
 clear f6 f8
 go_upto_region 2 with ((first | go_skip | refine tP ?_ | (refine tS ?_;clear hL;intro _ hL) | (refine tB ?_;clear hL;intro _ _ hL _)))
 refine wp_region_by2 11 [false,false,false,false,false,false,false,false,false,false,false] [false,false,false,false,false,false,false,false,false,false,false] [(fun v _ _ => v = ?c2_0),(fun v _ _ => v = ?c2_1),(fun v _ _ => v = ?c2_2),(fun v _ _ => v = ?c2_3),Of (fun um v => IntC um v (p.num * q.num)),(fun v _ _ => v = ?c2_5),(fun v _ _ => v = ?c2_6),(fun v _ _ => v = ?c2_7),(fun v _ _ => v = ?c2_8),Of (fun um v => IntC um v (p.den * q.den : Int)),(NumF w.heap.size (Rat.divInt (p.num * q.num) (p.den * q.den : Int)).num)] hL.vw mixed [9,10,11,12,13,14,15,16,17,18,19] _ (by kernel_rfl) (fun vs => by simp only [lay,Act.put,zq1,zq2,zq3];rfl) (by kernel_rfl) (by decide) (by decide) ?s2 ?l2 ?r2
 case s2 =>
  refine ⟨?_,?_,?_,?_,?_,?_,?_,?_,?_,?_,?_,trivial⟩
  ·intro vs W1 m1 hE hM hV hD;clear hD
   exact sFe
  ·intro vs W1 m1 hE hM hV hD;obtain ⟨⟨_,_,-,-,f9⟩,-⟩ := hD
   rw [(f9 : vs 9 = _)];clear f9;exact sLe
  ·intro vs W1 m1 hE hM hV hD;clear hD
   exact sFe
  ·intro vs W1 m1 hE hM hV hD;obtain ⟨⟨_,_,-,-,f11⟩,-⟩ := hD
   rw [(f11 : vs 11 = _)];clear f11;exact sLe
  ·intro vs W1 m1 hE hM hV hD;obtain ⟨⟨_,_,-,-,f10⟩,⟨_,_,-,-,f12⟩,-⟩ := hD
   rw [(f10 : vs 10 = _),(f12 : vs 12 = _)]
   clear f10 f12
   go_wp2_with fail
   refine (c_Mul _ _ _ _ _ _ hV (a1.le leX) (b1.le leX)).mono ?_
   rintro e W2 ⟨v,m2,rfl,hE2,hM2,hV2,h⟩
   go_wp2_with fail
   refine One2.call hE2 hM2 hV2 ?_;first | exact h | exact rfl
  ·intro vs W1 m1 hE hM hV hD;clear hD
   exact sFe
  ·intro vs W1 m1 hE hM hV hD;obtain ⟨⟨_,_,-,-,f14⟩,-⟩ := hD
   rw [(f14 : vs 14 = _)];clear f14;exact sLe
  ·intro vs W1 m1 hE hM hV hD;clear hD
   exact sFe
  ·intro vs W1 m1 hE hM hV hD;obtain ⟨⟨_,_,-,-,f16⟩,-⟩ := hD
   rw [(f16 : vs 16 = _)];clear f16;exact sLe
  ·intro vs W1 m1 hE hM hV hD;obtain ⟨⟨_,_,-,-,f15⟩,⟨_,_,-,-,f17⟩,-,-⟩ := hD
   rw [(f15 : vs 15 = _),(f17 : vs 17 = _)]
   clear f15 f17
   go_wp2_with fail
   refine (c_Mul _ _ _ _ _ _ hV (a2.le leX) (b2.le leX)).mono ?_
   rintro e W2 ⟨v,m2,rfl,hE2,hM2,hV2,h⟩
   go_wp2_with fail
   refine One2.call hE2 hM2 hV2 ?_;first | exact h | exact rfl
  ·intro vs W1 m1 hE hM hV hD;obtain ⟨⟨_,_,-,i13,f13⟩,⟨_,_,-,i18,f18⟩,-,-⟩ := hD;have f13 : IntC _ (vs 13) (p.num * q.num) := f13;replace f13 := f13.le i13.le;clear i13;have f18 : IntC _ (vs 18) (p.den * q.den : Int) := f18;replace f18 := f18.le i18.le;clear i18
   (go_wp2_with fail;refine (r_NewO _ _ _ _ _ _ hV (f13.toV l1) (f18.toV l2)).mono ?_;rintro e W2 ⟨v,m2,rfl,hE2,hM2,hV2,h⟩;go_wp2_with fail;refine One2.call hE2 hM2 hV2 ?_;exact h.base (Nat.le_trans hL.ext.size hE.size))
 case l2 =>
  refine ⟨nF,nF,nF,nF,nF,nF,nF,nF,nF,nF,nF,trivial⟩
 intro vs W1 m1 hE hM hV hF hD
 clear hD
 obtain ⟨-,-,-,-,⟨_,_,-,i13,f13⟩,-,-,-,-,⟨_,_,-,i18,f18⟩,⟨_,_,j19,i19,f19⟩,-⟩ := hF
 replace hL := hL.call hE hM hV
 replace f13 : IntC _ (vs 13) (p.num * q.num) := f13
 replace f13 := f13.le i13.le
 clear i13
 replace f18 : IntC _ (vs 18) (p.den * q.den : Int) := f18
 replace f18 := f18.le i18.le
 clear i18
 clear hE hV
 obtain ⟨A19,c19,y1,y2,y3,y4,e19,ow⟩ := NumO.litE f19 j19
 generalize vs 19 = x19 at e19 ⊢
 subst x19
 obtain ⟨R,m3,hL3,row⟩ := hL.reown ow (Nat.le_refl _) (by simp)
 simp only [List.cons_append,List.nil_append] at hL3
 clear hL ow
 have hL := hL3
 clear hL3 i19 j19 f13 f18
 simp only [List.drop_succ_cons,List.drop_zero]
 go_wp2_with (first | go_skip | refine tP ?_ | (refine tS ?_;clear hL;intro _ hL) | (refine tB ?_;clear hL;intro _ _ hL _))
 refine QN.mk ?_
 go_wp2_with (first | go_skip | refine tP ?_ | (refine tS ?_;clear hL;intro _ hL) | (refine tB ?_;clear hL;intro _ _ hL _))
 refine fin_aggP hL Tryz.results48 rfl rfl loX ag_Frac rfl (RetW.mk hL ?_)
 rw [hq.out];exact ⟨_,_,_,_,_,_,rfl,_,rfl,hL.ownS (fun x hx => by simp [hx]) row⟩
end Go.Proofs.YtabmjadcoepbeaaGreat

/- Contract of pairingdata.times: its result's digits lie in a row of the caller's own. -/
namespace Go.Proofs.YtabmjadcoepbeaaGreat
open Go.RowKit

theorem rat_one (x : Int) : Rat.divInt x 1 = (x : Rat) := by rw [← Rat.num_divInt_den (x : Rat)];simp
theorem num_mul (x y : Int) : (Rat.divInt x 1 * Rat.divInt y 1).num = x * y := by
 rw [rat_one,rat_one,← Rat.intCast_mul,Rat.num_intCast]
def IntW (B : Nat) (z : Int) : Fct := fun v u um => IntC um v z ∧ IntO u B v z
theorem IntW.base {u um : World} {B B' : Nat} {v : Value} {z : Int} (h : IntW B' z v u um) (hB : B ≤ B') : IntW B z v u um := ⟨h.1,h.2.base hB⟩

theorem d_times (a b : Value) (x y : Int) (w m : World) (hV : Vw m w) (ha : IntV m a x) (hb : IntV m b y) (hx : x.natAbs < 4294967296) (hy : y.natAbs < 4294967296) :
  Calls Tryz.prog 51 #[a,b] w (RetW w m fun w' m' v => IntW w.heap.size (x * y) v w' m') := by
 have HA := Lib.hid ha
 have HB := Lib.hid hb
 obtain ⟨g1,A1,n1,c1,rfl⟩ := ha.lit
 obtain ⟨g2,A2,n2,c2,rfl⟩ := hb.lit
 have K1 : Hid (Fit 200 (Rat.divInt x 1)) := by show Fit _ _;rw [rat_one];exact fit_int x hx
 have K2 : Hid (Fit 200 (Rat.divInt y 1)) := by show Fit _ _;rw [rat_one];exact fit_int y hy
 have E := Lib.hid (num_mul x y)
 have hL := Loc.start hV
 clear hV hx hy ha hb
 go_enter Tryz.func51,Tryz.ntmps51
 go_upto_region 1 with ((first | go_skip | refine tP ?_ | (refine tS ?_;clear hL;intro _ hL) | (refine tB ?_;clear hL;intro _ _ hL _)))
 have ha := HA.out
 have hb := HB.out
 refine wp_region_by2 10 [false,false,false,false,false,false,false,false,false,false] [false,false,false,false,false,false,false,false,false,false] [(fun v _ _ => v = ?c1_0),Of (fun um v => FracC um v ((1 : Int) : Rat)),Of (fun um v => IntC um v 1),Of (fun um v => FracV um v (Rat.divInt x 1)),(fun v _ _ => v = ?c1_4),Of (fun um v => FracC um v ((1 : Int) : Rat)),Of (fun um v => IntC um v 1),Of (fun um v => FracV um v (Rat.divInt y 1)),(NumF w.heap.size (Rat.divInt x 1 * Rat.divInt y 1).num),(CanO w.heap.size (x * y))] hL.vw mixed [5,6,7,8,9,10,11,12,13,14] _ (by kernel_rfl) (fun vs => by simp only [lay,Act.put,zq1,zq2,zq3];rfl) (by kernel_rfl) (by decide) (by decide) ?s1 ?l1 ?r1
 case s1 =>
  refine ⟨?_,?_,?_,?_,?_,?_,?_,?_,?_,?_,trivial⟩
  ·intro vs W1 m1 hE hM hV hD;clear hD
   exact sLe
  ·intro vs W1 m1 hE hM hV hD;clear hD
   go_wp2_with fail
   refine (r_Int 1 _ _ hV (by decide) (by decide)).mono ?_
   rintro e W2 ⟨v,m2,rfl,hE2,hM2,hV2,h⟩
   go_wp2_with fail
   refine One2.call hE2 hM2 hV2 ?_;first | exact h | exact rfl
  ·intro vs W1 m1 hE hM hV hD;obtain ⟨⟨_,_,-,i6,f6⟩,-⟩ := hD;have f6 : FracC _ (vs 6) ((1 : Int) : Rat) := f6;replace f6 := f6.le i6.le;clear i6
   (obtain ⟨g6,A6,n6,c6,h6,B6,k6,d6,e6,f6⟩ := f6.lit;generalize vs 6 = x6 at e6 ⊢;subst x6;replace hL := hL.call hE hM hV;go_wp2_with (first | go_skip | refine tP ?_ | (refine tS ?_;clear hL;intro _ hL) | (refine tB ?_;clear hL;intro _ _ hL _));refine One2.still hV ?_;exact f6.open_.1)
  ·intro vs W1 m1 hE hM hV hD;obtain ⟨⟨_,_,-,-,f5⟩,⟨_,_,-,i7,f7⟩,-⟩ := hD
   rw [(f5 : vs 5 = _)]
   clear f5
   have f7 : IntC _ (vs 7) 1 := f7
   replace f7 := f7.le i7.le
   clear i7
   (obtain ⟨g7,A7,n7,c7,e7,f7⟩ := f7.lit;generalize vs 7 = x7 at e7 ⊢;subst x7;go_wp2_with fail;refine One2.still hV ?_;exact ⟨x,1,_,_,_,_,rfl,ha.le leX,f7.toV len_one,rfl⟩)
  ·intro vs W1 m1 hE hM hV hD;clear hD
   exact sLe
  ·intro vs W1 m1 hE hM hV hD;clear hD
   go_wp2_with fail
   refine (r_Int 1 _ _ hV (by decide) (by decide)).mono ?_
   rintro e W2 ⟨v,m2,rfl,hE2,hM2,hV2,h⟩
   go_wp2_with fail
   refine One2.call hE2 hM2 hV2 ?_;first | exact h | exact rfl
  ·intro vs W1 m1 hE hM hV hD;obtain ⟨⟨_,_,-,i10,f10⟩,-⟩ := hD;have f10 : FracC _ (vs 10) ((1 : Int) : Rat) := f10;replace f10 := f10.le i10.le;clear i10
   (obtain ⟨g6,A6,n6,c6,h6,B6,k6,d6,e6,f6⟩ := f10.lit;generalize vs 10 = x6 at e6 ⊢;subst x6;replace hL := hL.call hE hM hV;go_wp2_with (first | go_skip | refine tP ?_ | (refine tS ?_;clear hL;intro _ hL) | (refine tB ?_;clear hL;intro _ _ hL _));refine One2.still hV ?_;exact f6.open_.1)
  ·intro vs W1 m1 hE hM hV hD;obtain ⟨⟨_,_,-,-,f9⟩,⟨_,_,-,i11,f11⟩,-⟩ := hD
   rw [(f9 : vs 9 = _)]
   clear f9
   have f11 : IntC _ (vs 11) 1 := f11
   replace f11 := f11.le i11.le
   clear i11
   (obtain ⟨g7,A7,n7,c7,e7,f7⟩ := f11.lit;generalize vs 11 = x7 at e7 ⊢;subst x7;go_wp2_with fail;refine One2.still hV ?_;exact ⟨y,1,_,_,_,_,rfl,hb.le leX,f7.toV len_one,rfl⟩)
  ·intro vs W1 m1 hE hM hV hD;obtain ⟨⟨_,_,-,i8,f8⟩,⟨_,_,-,i12,f12⟩,-,-⟩ := hD;have f8 : FracV _ (vs 8) (Rat.divInt x 1) := f8;replace f8 := f8.le i8.le;clear i8;have f12 : FracV _ (vs 12) (Rat.divInt y 1) := f12;replace f12 := f12.le i12.le;clear i12
   (go_wp2_with fail;refine (r_MulO _ _ _ _ _ _ hV f8 f12 K1.out K2.out).mono ?_;rintro e W2 ⟨v,m2,rfl,hE2,hM2,hV2,h⟩;go_wp2_with fail;refine One2.call hE2 hM2 hV2 ?_;exact h.base (Nat.le_trans hL.ext.size hE.size))
  ·intro vs W1 m1 hE hM hV hD;obtain ⟨⟨_,_,j13,i13,f13⟩,-⟩ := hD
   (obtain ⟨A6,c6,g7,B7,k7,d7,e6,ow⟩ := NumO.litE f13 j13;rw [E.out] at e6 ow;generalize vs 13 = x6 at e6 ⊢;subst x6;replace hL := hL.call hE hM hV;go_wp2_with (first | go_skip | refine tP ?_ | (refine tS ?_;clear hL;intro _ hL) | (refine tB ?_;clear hL;intro _ _ hL _));refine One2.still hV ?_;exact ⟨_,rfl,ow⟩)
 case l1 =>
  refine ⟨nF,nF,nF,nF,nF,nF,nF,nF,nF,nF,trivial⟩
 intro vs W1 m1 hE hM hV hF hD
 clear hD
 obtain ⟨-,⟨_,_,-,i6,f6⟩,⟨_,_,-,i7,f7⟩,⟨_,_,-,i8,f8⟩,-,⟨_,_,-,i10,f10⟩,⟨_,_,-,i11,f11⟩,⟨_,_,-,i12,f12⟩,⟨_,_,j13,i13,f13⟩,⟨_,_,j14,i14,f14⟩,-⟩ := hF
 replace hL := hL.call hE hM hV
 replace f6 : FracC _ (vs 6) ((1 : Int) : Rat) := f6
 replace f6 := f6.le i6.le
 clear i6
 replace f7 : IntC _ (vs 7) 1 := f7
 replace f7 := f7.le i7.le
 clear i7
 replace f8 : FracV _ (vs 8) (Rat.divInt x 1) := f8
 replace f8 := f8.le i8.le
 clear i8
 replace f10 : FracC _ (vs 10) ((1 : Int) : Rat) := f10
 replace f10 := f10.le i10.le
 clear i10
 replace f11 : IntC _ (vs 11) 1 := f11
 replace f11 := f11.le i11.le
 clear i11
 replace f12 : FracV _ (vs 12) (Rat.divInt y 1) := f12
 replace f12 := f12.le i12.le
 clear i12
 clear hE hV
 obtain ⟨A14,c14,e14,ow⟩ := IntO.litE f14 j14
 generalize vs 14 = x14 at e14 ⊢
 subst x14
 obtain ⟨R,m3,hL3,row⟩ := hL.reown ow (Nat.le_refl _) (by simp)
 simp only [List.cons_append,List.nil_append] at hL3
 clear hL ow
 have hL := hL3
 clear hL3
 simp only [List.drop_succ_cons,List.drop_zero]
 go_wp2_with (first | go_skip | refine tP ?_ | (refine tS ?_;clear hL;intro _ hL) | (refine tB ?_;clear hL;intro _ _ hL _))
 refine QN.mk ?_
 go_wp2_with (first | go_skip | refine tP ?_ | (refine tS ?_;clear hL;intro _ hL) | (refine tB ?_;clear hL;intro _ _ hL _))
 obtain ⟨m9,B9,c9,hL9,hle9,e9,hc9,hs9,ho9⟩ := Loc.show (A := [_,_,_]) hL row
 refine fin_aggP hL Tryz.results51 rfl rfl loX ag_Int rfl ⟨_,m9,rfl,hL9.ext,hL9.mext,hL9.vw,?_,_,rfl,ho9⟩
 injection e9 with e1 e2 e3
 subst e1 e3
 exact ⟨_,_,rfl,hc9,hs9⟩
end Go.Proofs.YtabmjadcoepbeaaGreat

/- Contract of pairingdata.Wild where no digit is appended. -/
namespace Go.Proofs.YtabmjadcoepbeaaGreat
open Go.RowKit

def wkT : List Int := [1,-1,2,0]
def wkF (n : Int) : Int := wkT.getD (n / 64 % 4).toNat 0
def wN (n : Int) : Int := (frF n).num * wkF n
def wD (n : Int) : Int := ((frF n).den : Int) * wkF n
theorem wkT_bd : ∀ j : Fin 4,(wkT.getD j.val 0).natAbs ≤ 2 := by decide
theorem wkF_bd (n : Int) : (wkF n).natAbs ≤ 2 := wkT_bd ⟨(n / 64 % 4).toNat,by omega⟩
theorem prod20 {a b : Int} (ha : a.natAbs ≤ 10) (hb : b.natAbs ≤ 2) : (a * b).natAbs ≤ 20 := by
 rw [Int.natAbs_mul];exact Nat.mul_le_mul ha hb
theorem wN_bd (n : Int) : (wN n).natAbs ≤ 20 := prod20 (frT n).1 (wkF_bd n)
theorem wD_bd (n : Int) : (wD n).natAbs ≤ 20 := prod20 (by simpa using (frT n).2) (wkF_bd n)
theorem wk_cell {m : World} {g : Nat} {t : TypeId} {j : Nat} (h : Blk m g t #[.int .i64 1,.int .i64 (-1),.int .i64 2,.int .i64 0]) (hj : j < 4) : m.cell? ⟨g,0 + j,none⟩ = some (.int .i64 (wkT.getD j 0)) := by
 rw [Nat.zero_add,h.cell]
 match j,hj with
 | 0,_ => rfl
 | 1,_ => rfl
 | 2,_ => rfl
 | 3,_ => rfl
theorem d_timesV (a b : Value) (x y : Int) (w m : World) (hV : Vw m w) (ha : IntV m a x) (hb : IntV m b y) (hx : x.natAbs < 4294967296) (hy : y.natAbs < 4294967296) :
  Calls Tryz.prog 51 #[a,b] w (RetV w m fun m' v => IntC m' v (x * y)) := by
 refine (d_times a b x y w m hV ha hb hx hy).mono ?_
 rintro e w' ⟨v,m',rfl,h1,h2,h3,h4⟩
 exact ⟨v,m',rfl,h1,h2,h3,h4.1⟩
theorem len_small {z : Int} (h : z.natAbs ≤ 20) : (digs z.natAbs).length ≤ 1000 := Nat.le_trans (len2 (by omega)) (by decide)
theorem frG_small {m : World} {a b c d : Value} {x y : Int} (h1 : IntC m (.agg #[a,b]) x) (h2 : IntC m (.agg #[c,d]) y) (b1 : x.natAbs ≤ 20) (b2 : y.natAbs ≤ 20) : FrG m (.agg #[a,b,c,d]) x y := by
 obtain ⟨g,A,n,c1,rfl,rfl⟩ := h1.parts
 obtain ⟨h,B,k,d1,rfl,rfl⟩ := h2.parts
 exact ⟨⟨_,_,_,_,_,_,_,_,rfl,h1.toV (len_small b1),h2.toV (len_small b2)⟩,.inl ⟨_,_,_,_,rfl,h1.toS (by omega),h2.toS (by omega),by omega,by omega⟩⟩

theorem d_WildA (n : Int) (w m : World) (hV : Vw m w) (h1 : -9223372036854775808 ≤ n) (h2 : n ≤ 9223372036854775807) (h8 : n / 256 % 4 ≠ 3) :
  Calls Tryz.prog 18 #[.int .i64 n] w (RetV w m fun m' r => FrG m' r (wN n) (wD n)) := by
 obtain ⟨j,hj⟩ : ∃ j : Nat,n / 64 % 4 = j := ⟨(n / 64 % 4).toNat,by omega⟩
 have j4 : j < 4 := by omega
 have e1 : bits .and .i64 (n / 64) 3 = (j : Int) := (i64_and2 (n / 64)).trans hj
 have e2 := i64_and2 (n / 256)
 have b8 : (n / 256 % 4 == 3) = false := by simp;omega
 have HW : Hid (wkF n = wkT.getD j 0) := by show wkT.getD _ 0 = _;rw [hj];rfl
 have HK : Hid ((wkT.getD j 0).natAbs ≤ 2) := wkT_bd ⟨j,j4⟩
 have HF := Lib.hid (frT n)
 have KF : Hid (∀ w m,Vw m w → Calls Tryz.prog 47 #[.int .i64 n] w (RetV w m fun m' r => FracC m' r (frF n))) := by
  show ∀ w m,_
  exact fun w m hV => d_Frac n w m hV h1 h2
 have WN : Hid (wN n = (frF n).num * wkT.getD j 0) := by show (frF n).num * wkF n = _;rw [HW.out]
 have WD : Hid (wD n = ((frF n).den : Int) * wkT.getD j 0) := by show ((frF n).den : Int) * wkF n = _;rw [HW.out]
 have BN := Lib.hid (wN_bd n)
 have BD := Lib.hid (wD_bd n)
 generalize hk : wkT.getD j 0 = kk at *
 have HKK := Lib.hid hk
 have KI : Hid (∀ w m,Vw m w → Calls Tryz.prog 27 #[.int .i64 kk] w (RetV w m fun m' r => FracC m' r (kk : Rat))) := by
  show ∀ w m,_
  exact fun w m hV => r_Int kk w m hV (by have := HK.out;omega) (by have := HK.out;omega)
 have LK : Hid ((digs kk.natAbs).length ≤ 1000) := len_small (by have := HK.out;omega)
 have B1 : Hid ((frF n).num.natAbs < 4294967296) := by show _ < _;have := HF.out.1;omega
 have B2 : Hid (((frF n).den : Int).natAbs < 4294967296) := by show _ < _;have := HF.out.2;omega
 have B3 : Hid (kk.natAbs < 4294967296) := by show _ < _;have := HK.out;omega
 have L1 : Hid ((digs (frF n).num.natAbs).length ≤ 1000) := Nat.le_trans (len2 (by have := B1.out;omega)) (by decide)
 have L2 : Hid ((digs ((frF n).den : Int).natAbs).length ≤ 1000) := Nat.le_trans (len2 (by have := B2.out;omega)) (by decide)
 have hL := Loc.start hV
 clear hV h1 h2 h8 hj hk
 go_enter Tryz.func18,Tryz.ntmps18
 go_wp2_with (first | go_skip | refine tP ?_ | (refine tS ?_;clear hL;intro _ hL) | (refine tB ?_;clear hL;intro _ _ hL _) | (refine tC ?_;clear hL;intro _ _ hL _ hBs))
 refine (KF.out _ _ hL.vw).mono ?_
 rintro e Wc1 ⟨vc1,mc1,rfl,hE,hMc1,hV,hc1⟩
 replace hL := hL.call hE (by assumption) hV;clear hE hV
 obtain ⟨gc1',Ac1',nc1',cc1',hc1',Bc1',kc1',dc1',rfl,hc1⟩ := hc1.lit
 go_upto_region 2 with ((first | go_skip | refine tP ?_ | (refine tS ?_;clear hL;intro _ hL) | (refine tB ?_;clear hL;intro _ _ hL _) | (refine tC ?_;clear hL;intro _ _ hL _ hBs)))
 refine wp_region_lit ?_
 refine wl_bslice hL (wanted_none rfl) rfl (n := 4) (cs := #[.int .i64 1,.int .i64 (-1),.int .i64 2,.int .i64 0]) (e := 3) (fun w => by go_simp) ?_
 clear hL
 intro Wa ma hL ea hab
 simp only [Act.put,zq1,zq2,zq3]
 have hj1 := wk_cell hab j4
 rw [HKK.out] at hj1
 clear hab
 go_wp2_with (first | go_skip | refine tP ?_ | (refine tS ?_;clear hL;intro _ hL) | (refine tB ?_;clear hL;intro _ _ hL _) | (refine tC ?_;clear hL;intro _ _ hL _ hBs))
 refine (KI.out _ _ hL.vw).mono ?_
 rintro e Wc2 ⟨vc2,mc2,rfl,hE,hMc2,hV,hc2⟩
 replace hL := hL.call hE (by assumption) hV;clear hE hV
 obtain ⟨gc2',Ac2',nc2',cc2',hc2',Bc2',kc2',dc2',rfl,hc2⟩ := hc2.lit
 clear hj1
 go_upto_region 3 with ((first | go_skip | refine tP ?_ | (refine tS ?_;clear hL;intro _ hL) | (refine tB ?_;clear hL;intro _ _ hL _) | (refine tC ?_;clear hL;intro _ _ hL _ hBs)))
 refine wp_region_lit ?_
 refine wl_bslice hL (wanted_none rfl) rfl (n := 4) (cs := #[.int .i64 1,.int .i64 (-1),.int .i64 2,.int .i64 0]) (e := 3) (fun w => by go_simp) ?_
 clear hL
 intro Wb mb hL eb hbb
 simp only [Act.put,zq1,zq2,zq3]
 have hj2 := wk_cell hbb j4
 rw [HKK.out] at hj2
 clear hbb
 go_wp2_with (first | go_skip | refine tP ?_ | (refine tS ?_;clear hL;intro _ hL) | (refine tB ?_;clear hL;intro _ _ hL _) | (refine tC ?_;clear hL;intro _ _ hL _ hBs))
 refine (KI.out _ _ hL.vw).mono ?_
 rintro e Wc3 ⟨vc3,mc3,rfl,hE,hMc3,hV,hc3⟩
 replace hL := hL.call hE (by assumption) hV;clear hE hV
 obtain ⟨gc3',Ac3',nc3',cc3',hc3',Bc3',kc3',dc3',rfl,hc3⟩ := hc3.lit
 clear hj2
 obtain ⟨f1,f2⟩ := hc1.open_
 obtain ⟨q1,-⟩ := hc2.open_
 obtain ⟨q2,-⟩ := hc3.open_
 clear hc1 hc2 hc3 e1 e2
 have e2 := i64_and2 (n / 256)
 go_upto_region 4 with ((first | go_skip | refine tP ?_ | (refine tS ?_;clear hL;intro _ hL) | (refine tB ?_;clear hL;intro _ _ hL _) | (refine tC ?_;clear hL;intro _ _ hL _ hBs)))
 refine wp_region_by2 9 [false,false,false,false,false,false,false,false,false] [false,false,false,false,false,false,false,false,false] [(fun v _ _ => v = ?c4_0),(fun v _ _ => v = ?c4_1),(fun v _ _ => v = ?c4_2),Of (fun um v => IntC um v ((frF n).num * kk)),(fun v _ _ => v = ?c4_4),(fun v _ _ => v = ?c4_5),(fun v _ _ => v = ?c4_6),Of (fun um v => IntC um v (((frF n).den : Int) * kk)),(fun v _ _ => v = ?c4_8)] hL.vw mixed [24,25,26,27,28,29,30,31,32] _ (by kernel_rfl) (fun vs => by simp only [lay,Act.put,zq1,zq2,zq3];rfl) (by kernel_rfl) (by decide) (by decide) ?s4 ?l4 ?r4
 case s4 =>
  refine ⟨?_,?_,?_,?_,?_,?_,?_,?_,?_,trivial⟩
  ·intro vs W1 m1 hE hM hV hD;clear hD
   exact sFe
  ·intro vs W1 m1 hE hM hV hD;obtain ⟨⟨_,_,-,-,f24⟩,-⟩ := hD
   rw [(f24 : vs 24 = _)];clear f24;exact sLe
  ·intro vs W1 m1 hE hM hV hD;clear hD
   exact sLe
  ·intro vs W1 m1 hE hM hV hD;obtain ⟨⟨_,_,-,-,f25⟩,⟨_,_,-,-,f26⟩,-⟩ := hD
   rw [(f25 : vs 25 = _),(f26 : vs 26 = _)]
   clear f25 f26
   go_wp2_with fail
   refine (d_timesV _ _ _ kk _ _ hV ((f1.toV L1.out).le leX) ((q1.toV LK.out).le leX) B1.out B3.out).mono ?_
   rintro e W2 ⟨v,m2,rfl,hE2,hM2,hV2,h⟩
   go_wp2_with fail
   refine One2.call hE2 hM2 hV2 ?_;first | exact h | exact rfl
  ·intro vs W1 m1 hE hM hV hD;clear hD
   exact sFe
  ·intro vs W1 m1 hE hM hV hD;obtain ⟨⟨_,_,-,-,f28⟩,-⟩ := hD
   rw [(f28 : vs 28 = _)];clear f28;exact sLe
  ·intro vs W1 m1 hE hM hV hD;clear hD
   exact sLe
  ·intro vs W1 m1 hE hM hV hD;obtain ⟨⟨_,_,-,-,f29⟩,⟨_,_,-,-,f30⟩,-,-⟩ := hD
   rw [(f29 : vs 29 = _),(f30 : vs 30 = _)]
   clear f29 f30
   go_wp2_with fail
   refine (d_timesV _ _ _ kk _ _ hV ((f2.toV L2.out).le leX) ((q2.toV LK.out).le leX) B2.out B3.out).mono ?_
   rintro e W2 ⟨v,m2,rfl,hE2,hM2,hV2,h⟩
   go_wp2_with fail
   refine One2.call hE2 hM2 hV2 ?_;first | exact h | exact rfl
  ·intro vs W1 m1 hE hM hV hD;clear hD
   exact sFe
 case l4 =>
  refine ⟨nF,nF,nF,nF,nF,nF,nF,nF,nF,trivial⟩
 intro vs W1 m1 hE hM hV hF hD
 clear hD
 obtain ⟨-,-,-,⟨_,_,-,i27,f27⟩,-,-,-,⟨_,_,-,i31,f31⟩,⟨_,_,-,-,f32⟩,-⟩ := hF
 replace hL := hL.call hE hM hV
 replace f27 : IntC _ (vs 27) ((frF n).num * kk) := f27
 replace f27 := f27.le i27.le
 clear i27
 obtain ⟨g27,A27,n27,c27,e27,f27⟩ := f27.lit
 generalize vs 27 = x27 at e27 ⊢
 subst x27
 replace f31 : IntC _ (vs 31) (((frF n).den : Int) * kk) := f31
 replace f31 := f31.le i31.le
 clear i31
 obtain ⟨g31,A31,n31,c31,e31,f31⟩ := f31.lit
 generalize vs 31 = x31 at e31 ⊢
 subst x31
 have f32 : vs 32 = _ := f32
 generalize vs 32 = x32 at f32 ⊢
 subst x32
 clear hE hV
 simp only [List.drop_succ_cons,List.drop_zero]
 go_wp2_with (first | go_skip | refine tP ?_ | (refine tS ?_;clear hL;intro _ hL) | (refine tB ?_;clear hL;intro _ _ hL _) | (refine tC ?_;clear hL;intro _ _ hL _ hBs))
 refine QN.mk ?_
 go_wp2_with (first | go_skip | refine tP ?_ | (refine tS ?_;clear hL;intro _ hL) | (refine tB ?_;clear hL;intro _ _ hL _) | (refine tC ?_;clear hL;intro _ _ hL _ hBs))
 refine fin_agg hL Tryz.results18 rfl rfl loX AgC.h (by exact rfl) ?_
 rw [← WN.out] at f27
 rw [← WD.out] at f31
 exact frG_small (f27.le leX) (f31.le leX) BN.out BD.out
end Go.Proofs.YtabmjadcoepbeaaGreat

/- Regions that draw their order and store, late, into cells that they load before: the loads are taken first under a condition that holds till the first store. No program. -/
namespace Go.Proofs.YtabmjadcoepbeaaGreat
open Go.RowKit
section
variable {P : Program} {ops : Array Oper} {Q : Exit → Act → World → Prop} {S : World → Prop}

def wpL (P : Program) (ops : Array Oper) (Q : Exit → Act → World → Prop) (S : World → Prop) (s : Nat) : Nat → Array Bool → Act → World → Prop
 | 0,listed,a,w => Region.ready .any ops listed = [] ∧ Q .normal a w
 | fuel + 1,listed,a,w =>
  (Region.ready .any ops listed = [] → Q .normal a w) ∧
  ∀ i ∈ Region.ready .any ops listed,wpOp P ops Q i (fun a' w' => ((listed.setIfInBounds i true).getD s false = false → S w') ∧ wpL P ops Q S s fuel (listed.setIfInBounds i true) a' w') a w
theorem wpAny_of_L {s : Nat} : ∀ (fuel : Nat) (listed : Array Bool) (a : Act) (w : World),wpL P ops Q S s fuel listed a w → wpAny P .any ops Q fuel listed a w
 | 0,_,_,_,h => h
 | fuel + 1,_,_,_,h => ⟨h.1,fun i hi => wpOp_mono (fun a' w' h' => wpAny_of_L fuel _ a' w' h'.2) (h.2 i hi)⟩
theorem wpL_first {s i k : Nat} {oi os : Oper} {v : Value} (hi : ops[i]? = some oi) (hos : ops[s]? = some os) (hw : ∃ e ∈ os.after,Region.binds .any e = true ∧ e.on = k) (hk : k = i ∨ ∃ ok,ops[k]? = some ok ∧ ∃ e ∈ ok.after,Region.binds .any e = true ∧ e.on = i) (hsi : s ≠ i)
  (hsel : ∀ (j : Nat) (o : Oper) cs b,ops[j]? = some o → o.op ≠ .select cs b) (hQ : ∀ c a w,Q (.panic c) (a.put oi.dst v) w → Q (.panic c) a w) :
  ∀ (fuel : Nat) (listed : Array Bool) (a : Act) (w : World),
   (∀ j oj,ops[j]? = some oj → j ≠ i → listed.getD j true = false → (∀ e ∈ oj.after,Region.binds .any e = true → e.on ≠ i) → oi.apart ops oj = true) →
   i ∈ Region.ready .any ops listed → listed.getD s false = false → listed.getD k false = false → YieldsIf P ops S oi v a → S w →
   wpL P ops Q S s fuel (listed.setIfInBounds i true) (a.put oi.dst v) w → wpL P ops Q S s (fuel + 1) listed a w := by
 intro fuel
 induction fuel with
 | zero =>
  intro listed a w _ hr _ _ hy hS H
  refine ⟨fun h => (by rw [h] at hr;cases hr),fun j hj => ?_⟩
  by_cases hji : j = i
  ·subst hji;exact hy.wpOp hi hS ⟨fun _ => hS,H⟩
  ·have := ready_mono hj hji
   rw [H.1] at this
   cases this
 | succ fuel ih =>
  intro listed a w hfree hr hsl hkl hy hS H
  refine ⟨fun h => (by rw [h] at hr;cases hr),fun j hj => ?_⟩
  by_cases hji : j = i
  ·subst hji;exact hy.wpOp hi hS ⟨fun _ => hS,H⟩
  ·have h1 := H.2 j (ready_mono hj hji)
   obtain ⟨hjun,oj,hoj,hall⟩ := mem_ready.1 hj
   have hnot : ∀ e ∈ oj.after,Region.binds .any e = true → e.on ≠ i := fun e he hb heq => by
    have h1 := hall e he hb
    have h0 := (mem_ready.1 hr).1
    rw [heq] at h1
    rcases Nat.lt_or_ge i listed.size with h' | h'
    ·simp [h'] at h0 h1;rw [h0] at h1;cases h1
    ·simp [Array.getElem?_eq_none h'] at h1
   have hjs : j ≠ s := by
    rintro rfl
    rw [hos] at hoj
    obtain rfl := Option.some.inj hoj
    obtain ⟨e,he,hb,heq⟩ := hw
    have h9 := hall e he hb
    rw [heq,hkl] at h9
    cases h9
   have hjk : j ≠ k := by
    rintro rfl
    rcases hk with hk | ⟨ok,hok,e,he,hb,heq⟩
    ·exact hji hk
    ·rw [hok] at hoj
     obtain rfl := Option.some.inj hoj
     exact hnot e he hb heq
   have hkl' : (listed.setIfInBounds j true).getD k false = false := by rw [Go.getD_set_ne false hjk];exact hkl
   have hsl' : (listed.setIfInBounds j true).getD s false = false := by rw [Go.getD_set_ne false hjs];exact hsl
   have hsl2 : ((listed.setIfInBounds i true).setIfInBounds j true).getD s false = false := by rw [Go.getD_set_ne false hjs,Go.getD_set_ne false (Ne.symm hsi)];exact hsl
   have h2 := wpOp_putIf hoj (hfree j oj hoj hji hjun hnot) (fun cs b => hsel i oi cs b hi) (fun cs b => hsel j oj cs b hoj) hQ hy h1
   have hfree' : ∀ k ok,ops[k]? = some ok → k ≠ i → (listed.setIfInBounds j true).getD k true = false →
     (∀ e ∈ ok.after,Region.binds .any e = true → e.on ≠ i) → oi.apart ops ok = true := fun k ok hk hki hun hno => by
    refine hfree k ok hk hki ?_ hno
    by_cases hjk : j = k
    ·subst hjk;exact hjun
    ·rw [Go.getD_set_ne true hjk] at hun;exact hun
   refine wpOp_mono (fun a' w' h3 => ⟨fun _ => h3.2.1 hsl2,ih (listed.setIfInBounds j true) a' w' hfree' (ready_mono hr (Ne.symm hji)) hsl' hkl' h3.1 (h3.2.1 hsl2) ?_⟩) h2
   rw [Array.setIfInBounds_comm _ _ hji]
   exact h3.2.2
def waits (ops : Array Oper) (s i : Nat) : Bool := match ops[s]? with
 | some o => o.after.any fun e => Region.binds .any e && e.on == i
 | none => false
theorem waits_spec {s i : Nat} (h : waits ops s i = true) : ∃ os,ops[s]? = some os ∧ ∃ e ∈ os.after,Region.binds .any e = true ∧ e.on = i := by
 unfold waits at h
 cases ho : ops[s]? with
 | none => rw [ho] at h;cases h
 | some os =>
  rw [ho] at h
  obtain ⟨k,hk,he⟩ := Array.any_eq_true.1 h
  simp only [Bool.and_eq_true,beq_iff_eq] at he
  exact ⟨os,rfl,_,Array.getElem_mem hk,he.1,he.2⟩
theorem wpL_take {s : Nat} (i k : Nat) {oi : Oper} {v : Value} {fuel : Nat} {listed : Array Bool} {a : Act} {w : World} (hi : ops[i]? = some oi)
  (hc : (Region.noSelect ops && Region.free .any ops listed i && (Region.ready .any ops listed).contains i && waits ops s k && (k == i || waits ops k i) && !listed.getD k false && !listed.getD s false && s != i) = true)
  (hQ : ∀ c a w,Q (.panic c) (a.put oi.dst v) w → Q (.panic c) a w) (hS : S w) (hw : Region.wanted oi (yielded ops a.tmps) = true) (hy : ∀ w,S w → (execOp a.eval oi).run P w = .ok (.value v) w)
  (h : wpL P ops Q S s fuel (listed.setIfInBounds i true) (a.put oi.dst v) w) : wpL P ops Q S s (fuel + 1) listed a w := by
 simp only [Bool.and_eq_true,Bool.or_eq_true,beq_iff_eq,Bool.not_eq_true',bne_iff_ne] at hc
 obtain ⟨⟨⟨⟨⟨⟨⟨h1,h2⟩,h3⟩,h4⟩,h7⟩,h8⟩,h5⟩,h6⟩ := hc
 obtain ⟨os,hos,hwt⟩ := waits_spec h4
 exact wpL_first hi hos hwt (h7.imp id waits_spec) h6 (Region.noSelect_spec h1) hQ fuel listed a w (Region.free_spec hi h2) (by simpa using h3) h5 h8 (.inl ⟨hw,hy⟩) hS h
def AllL (P : Program) (ops : Array Oper) (Q : Exit → Act → World → Prop) (S : World → Prop) (s fuel : Nat) (listed : Array Bool) (a : Act) (w : World) (rs : List Nat) : Prop :=
 ∀ i ∈ rs,wpOp P ops Q i (fun a' w' => ((listed.setIfInBounds i true).getD s false = false → S w') ∧ wpL P ops Q S s fuel (listed.setIfInBounds i true) a' w') a w
theorem AllL.nil {s fuel : Nat} {listed : Array Bool} {a : Act} {w : World} : AllL P ops Q S s fuel listed a w [] := fun _ h => by cases h
theorem AllL.cons {s fuel : Nat} {listed : Array Bool} {a : Act} {w : World} {i : Nat} {o : Oper} {rs : List Nat} (ho : ops[i]? = some o)
  (h : ∀ K' : Act → World → Prop,Shut (∀ a w,S w → (S w → wpL P ops Q S s fuel (listed.setIfInBounds i true) a w) → K' a w) → if Region.wanted o (yielded ops a.tmps) = true then Oper.wp P o a w K' Q else K' (a.put o.dst undef) w)
  (hs : AllL P ops Q S s fuel listed a w rs) : AllL P ops Q S s fuel listed a w (i :: rs) := fun j hj => by
 rcases List.mem_cons.1 hj with rfl | hj
 ·exact wpOp_step ho (fun K' hK => h K' (fun a w hS hW => hK a w ⟨fun _ => hS,hW hS⟩))
 ·exact hs j hj
theorem AllL.last {s fuel : Nat} {listed : Array Bool} {a : Act} {w : World} {i : Nat} {o : Oper} {rs : List Nat} (ho : ops[i]? = some o) (hsl : (listed.setIfInBounds i true).getD s false = true)
  (h : ∀ K' : Act → World → Prop,Shut (∀ a w,wpL P ops Q S s fuel (listed.setIfInBounds i true) a w → K' a w) → if Region.wanted o (yielded ops a.tmps) = true then Oper.wp P o a w K' Q else K' (a.put o.dst undef) w)
  (hs : AllL P ops Q S s fuel listed a w rs) : AllL P ops Q S s fuel listed a w (i :: rs) := fun j hj => by
 rcases List.mem_cons.1 hj with rfl | hj
 ·exact wpOp_step ho (fun K' hK => h K' (fun a w hW => hK a w ⟨fun h0 => (by rw [hsl] at h0;cases h0),hW⟩))
 ·exact hs j hj
theorem wpL_ready {s : Nat} (rs : List Nat) {fuel : Nat} {listed : Array Bool} {a : Act} {w : World} (hr : Region.ready .any ops listed = rs) (hne : rs ≠ [])
  (h : AllL P ops Q S s fuel listed a w rs) : wpL P ops Q S s (fuel + 1) listed a w := ⟨fun h0 => absurd (hr ▸ h0) hne,hr ▸ h⟩
theorem wpL_done {s : Nat} {listed : Array Bool} {a : Act} {w : World} (hr : Region.ready .any ops listed = []) (h : Q .normal a w) : ∀ fuel,wpL P ops Q S s fuel listed a w
 | 0 => ⟨hr,h⟩
 | _ + 1 => ⟨fun _ => h,by rw [hr];simp⟩
theorem wp_region_L {id : Nat} {a : Act} {w : World} (s : Nat) (S : World → Prop) (hm : P.follows .mixedOrders = true) (h : wpL P ops (NoPanic Q) S s ops.size (Array.replicate ops.size false) a w.drew) : (Code.region id ops true).wp P Q a w :=
 wp_region_noPanic (wp_region_any hm (wpAny_of_L _ _ _ _ h))
end
end Go.Proofs.YtabmjadcoepbeaaGreat

/- Contract of pairingdata.Wild where a digit is appended. -/
namespace Go.Proofs.YtabmjadcoepbeaaGreat
open Go.RowKit

theorem own_ne_blk {w : World} {b : Nat} {e : TypeId} {size : Nat} {v : Value} {n : Nat} {xs : List Value} (h : w.ownsRow b e size v n xs) {g : Nat} {t : TypeId} {cs : Array Value} (hb : Blk w g t cs) (ht : t ≠ e) : some g ≠ v.ownBlock := by
 obtain ⟨-,⟨rfl,-⟩ | ⟨g',cap,cur,rfl,-,h5,-⟩⟩ := h
 ·intro h;cases h
 ·intro h
  have e : g = g' := Option.some.inj h
  subst e
  exact blk_ne hb h5 (.inl ht) rfl
theorem Blk.grown {w w' : World} {g : Nat} {t : TypeId} {cs : Array Value} {row : Option Nat} (h : Blk w g t cs) (hg : w.grownBy w' row) (hne : some g ≠ row) : Blk w' g t cs := (hg.block g h.lt hne).trans h
theorem own_grown {w w' : World} {b : Nat} {e : TypeId} {size : Nat} {v : Value} {n : Nat} {xs : List Value} {row : Option Nat} (h : w.ownsRow b e size v n xs) (hg : w.grownBy w' row) (hne : ∀ k,v.ownBlock = some k → some k ≠ row) : w'.ownsRow b e size v n xs := by
 obtain ⟨h1,h2 | ⟨g,cap,cur,rfl,h4,h5,h6⟩⟩ := h
 ·exact ⟨h1,.inl h2⟩
 ·exact ⟨h1,.inr ⟨g,cap,cur,rfl,h4,Blk.grown h5 hg (hne g rfl),h6⟩⟩
theorem own_set {w : World} {b : Nat} {e : TypeId} {size : Nat} {v : Value} {n : Nat} {xs : List Value} (h : w.ownsRow b e size v n xs) {p : Addr} (hne : some p.block ≠ v.ownBlock) (u : Value) : (w.setCell p u).ownsRow b e size v n xs := by
 obtain ⟨h1,h2 | ⟨g,cap,cur,rfl,h4,h5,h6⟩⟩ := h
 ·exact ⟨h1,.inl h2⟩
 ·exact ⟨h1,.inr ⟨g,cap,cur,rfl,h4,Blk.far h5 (fun e => hne (congrArg some e.symm)) u,h6⟩⟩
theorem own_lt {w : World} {b : Nat} {e : TypeId} {size : Nat} {v : Value} {n : Nat} {xs : List Value} (h : w.ownsRow b e size v n xs) : ∀ k,v.ownBlock = some k → b ≤ k ∧ k < w.heap.size := by
 obtain ⟨-,⟨rfl,-⟩ | ⟨g,cap,cur,rfl,h4,h5,-⟩⟩ := h
 ·intro k h;cases h
 ·intro k h
  have e : g = k := Option.some.inj h
  subst e
  exact ⟨h4,Blk.lt h5⟩
theorem Loc.raw {w m W : World} (hV : Vw m w) (hE : Ext w W) {Ls : List Lo} (h1 : ∀ x ∈ Ls,w.heap.size ≤ x.1 ∧ Blk W x.1 x.2.1 x.2.2) (h2 : Ls.Pairwise (fun x y => x.1 ≠ y.1)) : Loc w m W (hidTo m W.heap.size) Ls := by
 have hs : m.heap.size ≤ W.heap.size := by rw [hV.size];exact hE.size
 refine ⟨hV.size,hE,hidTo_ext hs,⟨hV.os.trans hE.os.symm,hV.tape.trans hE.tape.symm,hV.output.trans hE.output.symm,hidTo_size hs,fun a u hu => ?_⟩,fun x hx => (h1 x hx).1,fun x hx => (h1 x hx).2,fun x hx a ha => ?_,h2⟩
 ·rcases Nat.lt_or_ge a.block m.heap.size with h | h
  ·rw [cell_of_heap (hidTo_old h)] at hu
   rw [hE.cell (p := a) (by rw [← hV.size];exact h)]
   exact hV.cell _ _ hu
  ·rw [hidTo_new h] at hu;cases hu
 ·refine hidTo_new ?_
  rw [ha,hV.size]
  exact (h1 x hx).1
theorem keepS {w w' : World} {f : Nat} {a b : Bool} {s1 s2 : Value} (hE : Ext w w') (h : Blk w' f 55 #[.bool a,s1,.bool b,s2]) (hr : Blk w' w.heap.size 55 #[.bool false,.slice none 0 0,.bool false,.slice none 0 0]) :
  w'.cell? ⟨f,1,none⟩ = some s1 ∧ w'.cell? ⟨f,3,none⟩ = some s2 ∧ w'.frozen? ⟨f,1,none⟩ = false ∧ w'.frozen? ⟨f,3,none⟩ = false ∧ Ext w w' ∧ Blk w' f 55 #[.bool a,s1,.bool b,s2] ∧ Blk w' w.heap.size 55 #[.bool false,.slice none 0 0,.bool false,.slice none 0 0] := by
 obtain ⟨-,p6,-,p8,-,z6,-,z8⟩ := h.facts4
 exact ⟨p6,p8,z6,z8,hE,h,hr⟩
theorem rows_apart {w0 m0 W m : World} {A R1 R2 : List Lo} (hL : Loc w0 m0 W m (A ++ (R1 ++ R2))) {e : TypeId} {size : Nat} {v1 v2 : Value} {n1 n2 : Nat} {xs1 xs2 : List Value} (h1 : Row e size v1 n1 xs1 R1) (h2 : Row e size v2 n2 xs2 R2) : ∀ k,v1.ownBlock = some k → v2.ownBlock ≠ some k := by
 obtain ⟨-,⟨rfl,-,-⟩ | ⟨g,cap,cur,rfl,rfl,-⟩⟩ := h1
 ·intro k h;cases h
 ·obtain ⟨-,⟨rfl,-,-⟩ | ⟨g',cap',cur',rfl,rfl,-⟩⟩ := h2
  ·intro k _ h;cases h
  ·intro k h h'
   have e1 : g = k := Option.some.inj h
   have e2 : g' = k := Option.some.inj h'
   have hap := (List.pairwise_append.1 (List.pairwise_append.1 hL.apart).2.1).2.2 (g,e,cur) (by simp) (g',e,cur') (by simp)
   exact hap (e1.trans e2.symm)
theorem keepD {w w' : World} {f : Nat} {a b : Bool} {s1 s2 : Value} (h : w'.cell? ⟨f,1,none⟩ = some s1 ∧ w'.cell? ⟨f,3,none⟩ = some s2 ∧ w'.frozen? ⟨f,1,none⟩ = false ∧ w'.frozen? ⟨f,3,none⟩ = false ∧ Ext w w' ∧ Blk w' f 55 #[.bool a,s1,.bool b,s2] ∧ Blk w' w.heap.size 55 #[.bool false,.slice none 0 0,.bool false,.slice none 0 0]) :
  w'.drew.cell? ⟨f,1,none⟩ = some s1 ∧ w'.drew.cell? ⟨f,3,none⟩ = some s2 ∧ w'.drew.frozen? ⟨f,1,none⟩ = false ∧ w'.drew.frozen? ⟨f,3,none⟩ = false ∧ Ext w w'.drew ∧ Blk w'.drew f 55 #[.bool a,s1,.bool b,s2] ∧ Blk w'.drew w.heap.size 55 #[.bool false,.slice none 0 0,.bool false,.slice none 0 0] :=
 keepS h.2.2.2.2.1.drew h.2.2.2.2.2.1.drew h.2.2.2.2.2.2.drew
theorem wZ {n : Int} (h : wD n = 0) : wN n = 0 := by
 have hd := (frF n).den_pos
 have hk : wkF n = 0 := by
  rcases Int.mul_eq_zero.1 h with h | h
  ·omega
  ·exact h
 show (frF n).num * wkF n = 0
 rw [hk,Int.mul_zero]
theorem val_zero_end (z : Int) : sgn (decide (z < 0)) (val (digs z.natAbs ++ [0])) = z := by
 rw [val_snoc,Nat.mul_zero,Nat.add_zero,val_digs];exact sgn_canon z
theorem dg_zero_end (z : Int) : Dg (digs z.natAbs ++ [0]) := (Dg_digs _).append (Dg.cons (by decide) Dg.nil)
theorem map_zero_end (z : Int) : (digs z.natAbs ++ [0]).map U = (digs z.natAbs).map U ++ [.int .u32 0] := by rw [List.map_append];rfl
theorem frG_app {m : World} {A B : Option Addr} {n1 n2 c1 c2 : Nat} {x y : Int} (h1 : Sl m A ((digs x.natAbs).map U ++ [.int .u32 0])) (h2 : Sl m B ((digs y.natAbs).map U ++ [.int .u32 0])) (k1 : (digs x.natAbs).length + 1 ≤ c1) (k2 : (digs y.natAbs).length + 1 ≤ c2)
  (e1 : (digs x.natAbs).length = n1) (e2 : (digs y.natAbs).length = n2) (b1 : x.natAbs ≤ 20) (b2 : y.natAbs ≤ 20) (hz : y = 0 → x = 0) : FrG m (.agg #[.bool (decide (x < 0)),.slice A (n1 + 1) c1,.bool (decide (y < 0)),.slice B (n2 + 1) c2]) x y := by
 subst e1 e2
 have l1 := len_small b1
 have l2 := len_small b2
 have q1 : (digs x.natAbs).length ≤ 2 := len2 (by omega)
 have q2 : (digs y.natAbs).length ≤ 2 := len2 (by omega)
 rw [← map_zero_end] at h1 h2
 have f1 : IntV m (.agg #[.bool (decide (x < 0)),.slice A ((digs x.natAbs).length + 1) c1]) x := ⟨_,A,c1,digs x.natAbs ++ [0],by simp,by simpa using k1,h1,dg_zero_end x,by simp;omega,(val_zero_end x).symm⟩
 have f2 : IntV m (.agg #[.bool (decide (y < 0)),.slice B ((digs y.natAbs).length + 1) c2]) y := ⟨_,B,c2,digs y.natAbs ++ [0],by simp,by simpa using k2,h2,dg_zero_end y,by simp;omega,(val_zero_end y).symm⟩
 refine ⟨⟨_,_,_,_,_,_,_,_,rfl,f1,f2⟩,?_⟩
 by_cases hy : y = 0
 ·obtain rfl := hz hy
  subst hy
  have g : ∀ (C : Option Addr) (c : Nat),Sl m C ((digs (0 : Int).natAbs ++ [0]).map U) → (digs (0 : Int).natAbs).length + 1 ≤ c → IntS m (.agg #[.bool (decide ((0 : Int) < 0)),.slice C ((digs (0 : Int).natAbs).length + 1) c]) 0 := fun C c h k =>
   ⟨_,C,c,digs (0 : Int).natAbs ++ [0],by simp,by simpa using k,h,dg_zero_end 0,by simp [digs_zero],(val_zero_end 0).symm⟩
  exact .inl ⟨_,_,_,_,rfl,g A c1 h1 k1,g B c2 h2 k2,by decide,by decide⟩
 ·exact .inr ⟨_,_,_,_,_,_,_,_,rfl,by have := digs_len_pos (n := y.natAbs) (by omega);omega⟩
theorem timesF {B : Nat} {z : Int} {a : Act} {dst : Option Nat} {w m w' m' : World} {v : Value} (hE : Ext w w') (hM : Ext m m') (hV : Vw m' w') (h : IntW w.heap.size z v w' m') (hB : B ≤ w.heap.size) : One2 (IntW B z) true a dst w m .normal (a.put dst v) w' := by
 refine ⟨rfl,hE,m',v,hM,hV,rfl,h.base hB,fun _ k hk => ?_⟩
 obtain ⟨s,rfl,h1,h2⟩ := h.2
 rcases h2 with ⟨rfl,-⟩ | ⟨g,cap,cur,rfl,h3,h4,-⟩
 ·cases hk
 ·have e : g = k := Option.some.inj hk
  subst e
  exact ⟨h3,Blk.lt h4⟩
theorem Loc.reown2 {w0 m0 W m : World} {Ls : List Lo} (hL : Loc w0 m0 W m Ls) {B1 B2 : Nat} {e : TypeId} {size : Nat} {g1 g2 : Bool} {v1 v2 : Value} {n1 n2 : Nat} {xs1 xs2 : List Value} (ho1 : W.ownsRow B1 e size v1 n1 xs1) (ho2 : W.ownsRow B2 e size v2 n2 xs2) (hB1 : w0.heap.size ≤ B1) (hB2 : w0.heap.size ≤ B2)
  (hap : ∀ k,blkOf (.agg #[.bool g1,v1]) = some k → blkOf (.agg #[.bool g2,v2]) ≠ some k) (hne : ∀ x ∈ Ls,x.2.1 ≠ e) :
  ∃ R1 R2 m',Loc w0 m0 W m' (Ls ++ (R1 ++ R2)) ∧ Row e size v1 n1 xs1 R1 ∧ Row e size v2 n2 xs2 R2 := by
 have hs : m0.heap.size ≤ W.heap.size := by rw [hL.size0];exact hL.ext.size
 have key : ∀ R : List Lo,(∀ x ∈ R,w0.heap.size ≤ x.1 ∧ Blk W x.1 x.2.1 x.2.2 ∧ x.2.1 = e) → R.Pairwise (fun x y => x.1 ≠ y.1) → Loc w0 m0 W (hidTo m0 W.heap.size) (Ls ++ R) := by
  intro R hR h1
  refine ⟨hL.size0,hL.ext,hidTo_ext hs,⟨hL.mext.os.symm.trans hL.vw.os,hL.mext.tape.symm.trans hL.vw.tape,hL.mext.output.symm.trans hL.vw.output,hidTo_size hs,fun a u hu => ?_⟩,fun x hx => ?_,fun x hx => ?_,fun x hx a ha => ?_,?_⟩
  ·rcases Nat.lt_or_ge a.block m0.heap.size with h | h
   ·rw [cell_of_heap (hidTo_old h)] at hu
    exact hL.vw.cell _ _ (hL.mext.le.cell _ _ hu)
   ·rw [hidTo_new h] at hu;cases hu
  ·rcases List.mem_append.1 hx with hx | hx
   ·exact hL.low x hx
   ·exact (hR x hx).1
  ·rcases List.mem_append.1 hx with hx | hx
   ·exact hL.blk x hx
   ·exact (hR x hx).2.1
  ·refine hidTo_new ?_
   rw [ha,hL.size0]
   rcases List.mem_append.1 hx with hx | hx
   ·exact hL.low x hx
   ·exact (hR x hx).1
  ·refine List.pairwise_append.2 ⟨hL.apart,h1,fun x hx y hy => ?_⟩
   refine blk_ne (hL.blk x hx) (hR y hy).2.1 (.inl ?_)
   rw [(hR y hy).2.2]
   exact hne x hx
 obtain ⟨h1,⟨rfl,rfl⟩ | ⟨g,cap,cur,rfl,h4,h5,h6⟩⟩ := ho1 <;> obtain ⟨k1,⟨rfl,rfl⟩ | ⟨g',cap',cur',rfl,k4,k5,k6⟩⟩ := ho2
 ·exact ⟨[],[],_,key [] (fun _ h => by cases h) List.Pairwise.nil,⟨h1,.inl ⟨rfl,rfl,rfl⟩⟩,⟨k1,.inl ⟨rfl,rfl,rfl⟩⟩⟩
 ·refine ⟨[],[(g',e,cur')],_,key _ (fun x hx => ?_) (List.pairwise_singleton _ _),⟨h1,.inl ⟨rfl,rfl,rfl⟩⟩,⟨k1,.inr ⟨g',cap',cur',rfl,rfl,k6⟩⟩⟩
  rcases List.mem_singleton.1 hx with rfl
  exact ⟨Nat.le_trans hB2 k4,k5,rfl⟩
 ·refine ⟨[(g,e,cur)],[],_,key _ (fun x hx => ?_) (List.pairwise_singleton _ _),⟨h1,.inr ⟨g,cap,cur,rfl,rfl,h6⟩⟩,⟨k1,.inl ⟨rfl,rfl,rfl⟩⟩⟩
  rcases List.mem_singleton.1 hx with rfl
  exact ⟨Nat.le_trans hB1 h4,h5,rfl⟩
 ·refine ⟨[(g,e,cur)],[(g',e,cur')],_,key _ (fun x hx => ?_) (List.Pairwise.cons (fun y hy => ?_) (List.pairwise_singleton _ _)),⟨h1,.inr ⟨g,cap,cur,rfl,rfl,h6⟩⟩,⟨k1,.inr ⟨g',cap',cur',rfl,rfl,k6⟩⟩⟩
  ·rcases List.mem_cons.1 hx with rfl | hx
   ·exact ⟨Nat.le_trans hB1 h4,h5,rfl⟩
   ·rcases List.mem_singleton.1 hx with rfl
    exact ⟨Nat.le_trans hB2 k4,k5,rfl⟩
  ·rcases List.mem_singleton.1 hy with rfl
   exact fun h => hap g rfl (congrArg some h.symm)

theorem d_WildB (n : Int) (w m : World) (hV : Vw m w) (h1 : -9223372036854775808 ≤ n) (h2 : n ≤ 9223372036854775807) (h8 : n / 256 % 4 = 3) :
  Calls Tryz.prog 18 #[.int .i64 n] w (RetV w m fun m' r => FrG m' r (wN n) (wD n)) := by
 obtain ⟨j,hj⟩ : ∃ j : Nat,n / 64 % 4 = j := ⟨(n / 64 % 4).toNat,by omega⟩
 have j4 : j < 4 := by omega
 have e1 : bits .and .i64 (n / 64) 3 = (j : Int) := (i64_and2 (n / 64)).trans hj
 have e2 := i64_and2 (n / 256)
 have b8 : (n / 256 % 4 == 3) = true := by simp;omega
 have HW : Hid (wkF n = wkT.getD j 0) := by show wkT.getD _ 0 = _;rw [hj];rfl
 have HK : Hid ((wkT.getD j 0).natAbs ≤ 2) := wkT_bd ⟨j,j4⟩
 have HF := Lib.hid (frT n)
 have KF : Hid (∀ w m,Vw m w → Calls Tryz.prog 47 #[.int .i64 n] w (RetV w m fun m' r => FracC m' r (frF n))) := by
  show ∀ w m,_
  exact fun w m hV => d_Frac n w m hV h1 h2
 have WN : Hid (wN n = (frF n).num * wkT.getD j 0) := by show (frF n).num * wkF n = _;rw [HW.out]
 have WD : Hid (wD n = ((frF n).den : Int) * wkT.getD j 0) := by show ((frF n).den : Int) * wkF n = _;rw [HW.out]
 have BN := Lib.hid (wN_bd n)
 have BD := Lib.hid (wD_bd n)
 generalize hk : wkT.getD j 0 = kk at *
 have HKK := Lib.hid hk
 have KI : Hid (∀ w m,Vw m w → Calls Tryz.prog 27 #[.int .i64 kk] w (RetV w m fun m' r => FracC m' r (kk : Rat))) := by
  show ∀ w m,_
  exact fun w m hV => r_Int kk w m hV (by have := HK.out;omega) (by have := HK.out;omega)
 have LK : Hid ((digs kk.natAbs).length ≤ 1000) := len_small (by have := HK.out;omega)
 have B1 : Hid ((frF n).num.natAbs < 4294967296) := by show _ < _;have := HF.out.1;omega
 have B2 : Hid (((frF n).den : Int).natAbs < 4294967296) := by show _ < _;have := HF.out.2;omega
 have B3 : Hid (kk.natAbs < 4294967296) := by show _ < _;have := HK.out;omega
 have L1 : Hid ((digs (frF n).num.natAbs).length ≤ 1000) := Nat.le_trans (len2 (by have := B1.out;omega)) (by decide)
 have L2 : Hid ((digs ((frF n).den : Int).natAbs).length ≤ 1000) := Nat.le_trans (len2 (by have := B2.out;omega)) (by decide)
 obtain ⟨zn,hzn⟩ : ∃ z,z = (frF n).num * kk := ⟨_,rfl⟩
 obtain ⟨zd,hzd⟩ : ∃ z,z = ((frF n).den : Int) * kk := ⟨_,rfl⟩
 have ZN := Lib.hid hzn
 have ZD := Lib.hid hzd
 have EN : Hid (wN n = zn) := WN.out.trans hzn.symm
 have ED : Hid (wD n = zd) := WD.out.trans hzd.symm
 have hL := Loc.start hV
 have HV := Lib.hid hV
 clear hV h1 h2 h8 hj hk hzn hzd WN WD
 go_enter Tryz.func18,Tryz.ntmps18
 go_wp2_with (first | go_skip | refine tP ?_ | (refine tS ?_;clear hL;intro _ hL) | (refine tB ?_;clear hL;intro _ _ hL _) | (refine tC ?_;clear hL;intro _ _ hL _ hBs))
 refine (KF.out _ _ hL.vw).mono ?_
 rintro e Wc1 ⟨vc1,mc1,rfl,hE,hMc1,hV,hc1⟩
 replace hL := hL.call hE (by assumption) hV;clear hE hV
 obtain ⟨gc1',Ac1',nc1',cc1',hc1',Bc1',kc1',dc1',rfl,hc1⟩ := hc1.lit
 go_upto_region 2 with ((first | go_skip | refine tP ?_ | (refine tS ?_;clear hL;intro _ hL) | (refine tB ?_;clear hL;intro _ _ hL _) | (refine tC ?_;clear hL;intro _ _ hL _ hBs)))
 refine wp_region_lit ?_
 refine wl_bslice hL (wanted_none rfl) rfl (n := 4) (cs := #[.int .i64 1,.int .i64 (-1),.int .i64 2,.int .i64 0]) (e := 3) (fun w => by go_simp) ?_
 clear hL
 intro Wa ma hL ea hab
 simp only [Act.put,zq1,zq2,zq3]
 have hj1 := wk_cell hab j4
 rw [HKK.out] at hj1
 clear hab
 go_wp2_with (first | go_skip | refine tP ?_ | (refine tS ?_;clear hL;intro _ hL) | (refine tB ?_;clear hL;intro _ _ hL _) | (refine tC ?_;clear hL;intro _ _ hL _ hBs))
 refine (KI.out _ _ hL.vw).mono ?_
 rintro e Wc2 ⟨vc2,mc2,rfl,hE,hMc2,hV,hc2⟩
 replace hL := hL.call hE (by assumption) hV;clear hE hV
 obtain ⟨gc2',Ac2',nc2',cc2',hc2',Bc2',kc2',dc2',rfl,hc2⟩ := hc2.lit
 clear hj1
 go_upto_region 3 with ((first | go_skip | refine tP ?_ | (refine tS ?_;clear hL;intro _ hL) | (refine tB ?_;clear hL;intro _ _ hL _) | (refine tC ?_;clear hL;intro _ _ hL _ hBs)))
 refine wp_region_lit ?_
 refine wl_bslice hL (wanted_none rfl) rfl (n := 4) (cs := #[.int .i64 1,.int .i64 (-1),.int .i64 2,.int .i64 0]) (e := 3) (fun w => by go_simp) ?_
 clear hL
 intro Wb mb hL eb hbb
 simp only [Act.put,zq1,zq2,zq3]
 have hj2 := wk_cell hbb j4
 rw [HKK.out] at hj2
 clear hbb
 go_wp2_with (first | go_skip | refine tP ?_ | (refine tS ?_;clear hL;intro _ hL) | (refine tB ?_;clear hL;intro _ _ hL _) | (refine tC ?_;clear hL;intro _ _ hL _ hBs))
 refine (KI.out _ _ hL.vw).mono ?_
 rintro e Wc3 ⟨vc3,mc3,rfl,hE,hMc3,hV,hc3⟩
 replace hL := hL.call hE (by assumption) hV;clear hE hV
 obtain ⟨gc3',Ac3',nc3',cc3',hc3',Bc3',kc3',dc3',rfl,hc3⟩ := hc3.lit
 clear hj2
 obtain ⟨f1,f2⟩ := hc1.open_
 obtain ⟨q1,-⟩ := hc2.open_
 obtain ⟨q2,-⟩ := hc3.open_
 clear hc1 hc2 hc3 e1 e2
 have e2 := i64_and2 (n / 256)
 go_upto_region 4 with ((first | go_skip | refine tP ?_ | (refine tS ?_;clear hL;intro _ hL) | (refine tB ?_;clear hL;intro _ _ hL _) | (refine tC ?_;clear hL;intro _ _ hL _ hBs)))
 refine wp_region_by2 9 [false,false,false,true,false,false,false,true,false] [false,false,false,false,false,false,false,false,false] [(fun v _ _ => v = ?c4_0),(fun v _ _ => v = ?c4_1),(fun v _ _ => v = ?c4_2),(IntW w.heap.size zn),(fun v _ _ => v = ?c4_4),(fun v _ _ => v = ?c4_5),(fun v _ _ => v = ?c4_6),(IntW w.heap.size zd),(fun v _ _ => v = ?c4_8)] hL.vw mixed [24,25,26,27,28,29,30,31,32] _ (by kernel_rfl) (fun vs => by simp only [lay,Act.put,zq1,zq2,zq3];rfl) (by kernel_rfl) (by decide) (by decide) ?s4 ?l4 ?r4
 case s4 =>
  refine ⟨?_,?_,?_,?_,?_,?_,?_,?_,?_,trivial⟩
  ·intro vs W1 m1 hE hM hV hD;clear hD
   exact sFe
  ·intro vs W1 m1 hE hM hV hD;obtain ⟨⟨_,_,-,-,f24⟩,-⟩ := hD
   rw [(f24 : vs 24 = _)];clear f24;exact sLe
  ·intro vs W1 m1 hE hM hV hD;clear hD
   exact sLe
  ·intro vs W1 m1 hE hM hV hD;obtain ⟨⟨_,_,-,-,f25⟩,⟨_,_,-,-,f26⟩,-⟩ := hD
   rw [(f25 : vs 25 = _),(f26 : vs 26 = _)]
   clear f25 f26
   (go_wp2_with fail;refine (d_times _ _ (frF n).num kk _ _ hV ((f1.toV L1.out).le leX) ((q1.toV LK.out).le leX) B1.out B3.out).mono ?_;rintro e W2 ⟨v,m2,rfl,hE2,hM2,hV2,h⟩;go_wp2_with fail;exact timesF hE2 hM2 hV2 (by first | (rw [ZN.out];exact h) | (rw [ZD.out];exact h)) (Nat.le_trans hL.ext.size hE.size))
  ·intro vs W1 m1 hE hM hV hD;clear hD
   exact sFe
  ·intro vs W1 m1 hE hM hV hD;obtain ⟨⟨_,_,-,-,f28⟩,-⟩ := hD
   rw [(f28 : vs 28 = _)];clear f28;exact sLe
  ·intro vs W1 m1 hE hM hV hD;clear hD
   exact sLe
  ·intro vs W1 m1 hE hM hV hD;obtain ⟨⟨_,_,-,-,f29⟩,⟨_,_,-,-,f30⟩,-,-⟩ := hD
   rw [(f29 : vs 29 = _),(f30 : vs 30 = _)]
   clear f29 f30
   (go_wp2_with fail;refine (d_times _ _ ((frF n).den : Int) kk _ _ hV ((f2.toV L2.out).le leX) ((q2.toV LK.out).le leX) B2.out B3.out).mono ?_;rintro e W2 ⟨v,m2,rfl,hE2,hM2,hV2,h⟩;go_wp2_with fail;exact timesF hE2 hM2 hV2 (by first | (rw [ZN.out];exact h) | (rw [ZD.out];exact h)) (Nat.le_trans hL.ext.size hE.size))
  ·intro vs W1 m1 hE hM hV hD;clear hD
   exact sFe
 case l4 =>
  refine ⟨nF,nF,nF,nF,nF,nF,nF,nF,nF,trivial⟩
 intro vs W1 m1 hE hM hV hF hD
 obtain ⟨-,-,-,⟨_,_,j27,i27,f27⟩,-,-,-,⟨_,_,j31,i31,f31⟩,⟨_,_,-,-,f32⟩,-⟩ := hF
 replace hL := hL.call hE hM hV
 have f32 : vs 32 = _ := f32
 generalize vs 32 = x32 at f32 ⊢
 subst x32
 clear hE hV
 have hap := hD 3 7 _ _ _ _ (by decide) (by decide) (by decide) rfl rfl rfl rfl rfl rfl
 obtain ⟨A27,c27,e27,o27⟩ := IntO.litE f27.2 j27
 obtain ⟨A31,c31,e31,o31⟩ := IntO.litE f31.2 j31
 rw [e27,e31] at hap
 generalize vs 27 = x27 at e27 ⊢
 subst x27
 generalize vs 31 = x31 at e31 ⊢
 subst x31
 obtain ⟨R1,R2,m3,hL3,row1,row2⟩ := hL.reown2 o27 o31 (Nat.le_refl _) (Nat.le_refl _) hap (by simp)
 simp only [List.cons_append,List.nil_append] at hL3
 clear hL o27 o31 hap hD f27 f31 i27 j27 i31 j31
 have hL := hL3
 clear hL3
 simp only [List.drop_succ_cons,List.drop_zero]
 go_wp2_with (first | go_skip | refine tP ?_ | (refine tS ?_;clear hL;intro _ hL) | (refine tB ?_;clear hL;intro _ _ hL _) | (refine tC ?_;clear hL;intro _ _ hL _ hBs))
 refine QN.mk ?_
 have ROW1 := Lib.hid row1
 have ROW2 := Lib.hid row2
 have LN1 : Hid (∀ z,z = zn → (digs z.natAbs).length ≤ 1000) := fun z h => by rw [h,← EN.out];exact len_small BN.out
 have LN2 : Hid (∀ z,z = zd → (digs z.natAbs).length ≤ 1000) := fun z h => by rw [h,← ED.out];exact len_small BD.out
 have y1 := LN1.out _ rfl
 have y2 := LN2.out _ rfl
 clear row1 row2 f1 f2 q1 q2 KF KI HW HF HK B1 B2 B3 L1 L2 LK HKK j4 hc1 hc2 hc3 hM f32 ZN ZD
 generalize hn1 : (digs zn.natAbs).length = n1 at *
 generalize hn2 : (digs zd.natAbs).length = n2 at *
 have HN1 := Lib.hid hn1
 have HN2 := Lib.hid hn2
 clear hn1 hn2
 go_upto_region 6 with ((first | go_skip | refine tP ?_ | (refine tS ?_;clear hL;intro _ hL) | (refine tB ?_;clear hL;intro _ _ hL _) | (refine tC ?_;clear hL;intro _ _ hL _ hBs)))
 rename_i W9 _
 have O1 := hL.ownS (R := R1) (fun x hx => by simp [hx]) ROW1.out
 have O2 := hL.ownS (R := R2) (fun x hx => by simp [hx]) ROW2.out
 have HO1 := Lib.hid O1
 have HO2 := Lib.hid O2
 have hbs := hL.ext.size
 have hs0 := keepS hL.ext (hL.at_ lo2) (hL.at_ lo3)
 have hlow := hL.low_at lo2
 have hfr := (hL.ne lo2 lo3 (by omega)).1
 have ne1 := Lib.hid (own_ne_blk O1 (hL.at_ lo2) (by decide))
 have ne2 := Lib.hid (own_ne_blk O2 (hL.at_ lo2) (by decide))
 have nr1 := Lib.hid (own_ne_blk O1 (hL.at_ lo3) (by decide))
 have nr2 := Lib.hid (own_ne_blk O2 (hL.at_ lo3) (by decide))
 have lt1 := Lib.hid (own_lt O1)
 have lt2 := Lib.hid (own_lt O2)
 have AP : Hid (∀ k,(Value.slice A27 n1 c27).ownBlock = some k → (Value.slice A31 n2 c31).ownBlock ≠ some k) := rows_apart (A := [_,_,_,_]) hL ROW1.out ROW2.out
 clear hL O1 O2 e2 b8 ROW1 ROW2
 obtain ⟨i0,hi0,hz0,hz1,hz2⟩ := info_parts u32_info
 have HH := Lib.hid (keepD hs0)
 have HB1 := Lib.hid hs0.2.2.2.2.1
 have HB2 := Lib.hid hs0.2.2.2.2.2.1
 have HB3 := Lib.hid hs0.2.2.2.2.2.2
 clear hs0
 refine wp_region_L 12 (fun w' => w'.cell? ⟨Wc1.heap.size,1,none⟩ = some (.slice A27 n1 c27) ∧ w'.cell? ⟨Wc1.heap.size,3,none⟩ = some (.slice A31 n2 c31) ∧ w'.frozen? ⟨Wc1.heap.size,1,none⟩ = false ∧ w'.frozen? ⟨Wc1.heap.size,3,none⟩ = false ∧ Ext w w' ∧ Blk w' Wc1.heap.size 55 #[.bool (decide (zn < 0)),.slice A27 n1 c27,.bool (decide (zd < 0)),.slice A31 n2 c31] ∧ Blk w' w.heap.size 55 #[.bool false,.slice none 0 0,.bool false,.slice none 0 0]) (by kernel_rfl) ?_
 refine wpL_take 0 0 (v := ?_) rfl (by kernel_rfl) (fun _ _ _ h => h) HH.out (by rfl) ?yld ?_
 case yld => (intro w' hSw;obtain ⟨s1,s2,s3,s4,-⟩ := hSw;go_simp;try with_reducible rfl)
 (try simp only [Act.put,List.setIfInBounds_toArray,List.set_cons_zero,List.set_cons_succ])
 refine wpL_take 1 1 (v := ?_) rfl (by kernel_rfl) (fun _ _ _ h => h) HH.out (by rfl) ?yld ?_
 case yld => (intro w' hSw;obtain ⟨s1,s2,s3,s4,-⟩ := hSw;go_simp;try with_reducible rfl)
 (try simp only [Act.put,List.setIfInBounds_toArray,List.set_cons_zero,List.set_cons_succ])
 refine wpL_take 2 2 (v := ?_) rfl (by kernel_rfl) (fun _ _ _ h => h) HH.out (by rfl) ?yld ?_
 case yld => (intro w' hSw;obtain ⟨s1,s2,s3,s4,-⟩ := hSw;go_simp;try with_reducible rfl)
 (try simp only [Act.put,List.setIfInBounds_toArray,List.set_cons_zero,List.set_cons_succ])
 refine wpL_take 5 5 (v := ?_) rfl (by kernel_rfl) (fun _ _ _ h => h) HH.out (by rfl) ?yld ?_
 case yld => (intro w' hSw;obtain ⟨s1,s2,s3,s4,-⟩ := hSw;go_simp;try with_reducible rfl)
 (try simp only [Act.put,List.setIfInBounds_toArray,List.set_cons_zero,List.set_cons_succ])
 refine wpL_take 6 6 (v := ?_) rfl (by kernel_rfl) (fun _ _ _ h => h) HH.out (by rfl) ?yld ?_
 case yld => (intro w' hSw;obtain ⟨s1,s2,s3,s4,-⟩ := hSw;go_simp;try with_reducible rfl)
 (try simp only [Act.put,List.setIfInBounds_toArray,List.set_cons_zero,List.set_cons_succ])
 refine wpL_take 7 7 (v := ?_) rfl (by kernel_rfl) (fun _ _ _ h => h) HH.out (by rfl) ?yld ?_
 case yld => (intro w' hSw;obtain ⟨s1,s2,s3,s4,-⟩ := hSw;go_simp;try with_reducible rfl)
 (try simp only [Act.put,List.setIfInBounds_toArray,List.set_cons_zero,List.set_cons_succ])
 refine wpL_ready [3,8] (by kernel_rfl) (by simp) ?_
 refine AllL.cons rfl (fun K hK => ?_) ?_
 ·go_simp
  refine hK.out _ _ ?_ (fun hHeld => ?_)
  ·(try dsimp only);(refine keepS ?_ ?_ ?_ <;> repeat (first | with_reducible exact HC1.out | with_reducible exact HC2.out | with_reducible exact HC3.out | with_reducible exact HB1.out | with_reducible exact HB2.out | with_reducible exact HB3.out | with_reducible refine Ext.drew ?_ | with_reducible refine Ext.alloc ?_ _ | with_reducible refine Blk.drew ?_ | with_reducible refine Blk.alloc ?_ _ | with_reducible refine Blk.grown ?_ hgrow2 ne2.out | with_reducible refine Blk.grown ?_ hgrow2 nr2.out | with_reducible refine Blk.grown ?_ hgrow1 ne1.out | with_reducible refine Blk.grown ?_ hgrow1 nr1.out | with_reducible refine Ext.grown ?_ hgrow2 (fun k hk => (lt2.out k hk).1) | with_reducible refine Ext.grown ?_ hgrow1 (fun k hk => (lt1.out k hk).1)))
  clear HH
  have HH := Lib.hid hHeld
  clear hHeld
  clear hK K
  (try simp only [Act.put,List.setIfInBounds_toArray,List.set_cons_zero,List.set_cons_succ])
  refine wpL_ready [4,8] (by kernel_rfl) (by simp) ?_
  refine AllL.cons rfl (fun K hK => ?_) ?_
  ·(refine step_append_lies _ (by rfl) _ _ _ (by rfl) w.heap.size 121 i0 _ 1 4 Tryz.underlying51 hi0 hz0 hz1 hz2 rfl (by omega) (.slice A27 n1 c27) n1 ((digs zn.natAbs).map U) (by rfl) (by repeat (first | with_reducible exact HO1.out | with_reducible refine World.ownsRow.drew ?_ | with_reducible refine World.ownsRow.alloc ?_ _)) ⟨_,0,none⟩ 1 1 [.int .u32 0] (by rfl) (by rfl) (World.news_of_block (cs := #[.int .u32 0]) (t := 121) (fr := (0,0)) (by show Blk _ _ _ _;repeat (first | with_reducible exact Blk.new _ _ _ | ((with_reducible refine Blk.new' ?_);simp;done) | with_reducible refine Blk.drew ?_ | with_reducible refine Blk.alloc ?_ _))) (by simp [Value.oneCell']) (by omega) (by simp only [maxLen];omega) (by omega) (by simp;omega) _ (by rfl) ?_;intro g1 cap1 w1 hown1 hgrow1 hat1 hlt1)
   refine hK.out _ _ ?_ (fun hHeld => ?_)
   ·(try dsimp only);(refine keepS ?_ ?_ ?_ <;> repeat (first | with_reducible exact HC1.out | with_reducible exact HC2.out | with_reducible exact HC3.out | with_reducible exact HB1.out | with_reducible exact HB2.out | with_reducible exact HB3.out | with_reducible refine Ext.drew ?_ | with_reducible refine Ext.alloc ?_ _ | with_reducible refine Blk.drew ?_ | with_reducible refine Blk.alloc ?_ _ | with_reducible refine Blk.grown ?_ hgrow2 ne2.out | with_reducible refine Blk.grown ?_ hgrow2 nr2.out | with_reducible refine Blk.grown ?_ hgrow1 ne1.out | with_reducible refine Blk.grown ?_ hgrow1 nr1.out | with_reducible refine Ext.grown ?_ hgrow2 (fun k hk => (lt2.out k hk).1) | with_reducible refine Ext.grown ?_ hgrow1 (fun k hk => (lt1.out k hk).1)))
   clear HH
   have HH := Lib.hid hHeld
   clear hHeld
   have HC1 := Lib.hid HH.out.2.2.2.2.1
   have HC2 := Lib.hid HH.out.2.2.2.2.2.1
   have HC3 := Lib.hid HH.out.2.2.2.2.2.2
   clear hK K
   (try simp only [Act.put,List.setIfInBounds_toArray,List.set_cons_zero,List.set_cons_succ])
   refine wpL_take 10 11 (v := ?_) rfl (by kernel_rfl) (fun _ _ _ h => h) HH.out (by rfl) ?yld ?_
   case yld => (intro w' hSw;obtain ⟨s1,s2,s3,s4,-⟩ := hSw;go_simp;try with_reducible rfl)
   (try simp only [Act.put,List.setIfInBounds_toArray,List.set_cons_zero,List.set_cons_succ])
   refine wpL_take 11 11 (v := ?_) rfl (by kernel_rfl) (fun _ _ _ h => h) HH.out (by rfl) ?yld ?_
   case yld => (intro w' hSw;obtain ⟨s1,s2,s3,s4,-⟩ := hSw;go_simp;try with_reducible rfl)
   (try simp only [Act.put,List.setIfInBounds_toArray,List.set_cons_zero,List.set_cons_succ])
   refine wpL_ready [8] (by kernel_rfl) (by simp) ?_
   refine AllL.cons rfl (fun K hK => ?_) ?_
   ·go_simp
    refine hK.out _ _ ?_ (fun hHeld => ?_)
    ·(try dsimp only);(refine keepS ?_ ?_ ?_ <;> repeat (first | with_reducible exact HC1.out | with_reducible exact HC2.out | with_reducible exact HC3.out | with_reducible exact HB1.out | with_reducible exact HB2.out | with_reducible exact HB3.out | with_reducible refine Ext.drew ?_ | with_reducible refine Ext.alloc ?_ _ | with_reducible refine Blk.drew ?_ | with_reducible refine Blk.alloc ?_ _ | with_reducible refine Blk.grown ?_ hgrow2 ne2.out | with_reducible refine Blk.grown ?_ hgrow2 nr2.out | with_reducible refine Blk.grown ?_ hgrow1 ne1.out | with_reducible refine Blk.grown ?_ hgrow1 nr1.out | with_reducible refine Ext.grown ?_ hgrow2 (fun k hk => (lt2.out k hk).1) | with_reducible refine Ext.grown ?_ hgrow1 (fun k hk => (lt1.out k hk).1)))
    clear HH
    have HH := Lib.hid hHeld
    clear hHeld
    clear hK K
    (try simp only [Act.put,List.setIfInBounds_toArray,List.set_cons_zero,List.set_cons_succ])
    refine wpL_ready [9] (by kernel_rfl) (by simp) ?_
    refine AllL.cons rfl (fun K hK => ?_) ?_
    ·(refine step_append_lies _ (by rfl) _ _ _ (by rfl) w.heap.size 121 i0 _ 1 4 Tryz.underlying51 hi0 hz0 hz1 hz2 rfl (by omega) (.slice A31 n2 c31) n2 ((digs zd.natAbs).map U) (by rfl) (by repeat (first | with_reducible exact HO2.out | with_reducible refine World.ownsRow.drew ?_ | with_reducible refine World.ownsRow.alloc ?_ _ | refine own_grown ?_ hgrow1 (fun k h1 h2 => AP.out k h2.symm h1))) ⟨_,0,none⟩ 1 1 [.int .u32 0] (by rfl) (by rfl) (World.news_of_block (cs := #[.int .u32 0]) (t := 121) (fr := (0,0)) (by show Blk _ _ _ _;repeat (first | with_reducible exact Blk.new _ _ _ | ((with_reducible refine Blk.new' ?_);simp;done) | with_reducible refine Blk.drew ?_ | with_reducible refine Blk.alloc ?_ _ | refine Blk.grown ?_ hgrow1 (fun h => by have := (lt1.out _ h.symm).2;first | omega | (simp at this;done) | (simp at this;omega))))) (by simp [Value.oneCell']) (by omega) (by simp only [maxLen];omega) (by omega) (by have := hgrow1.size;simp at this ⊢;omega) _ (by rfl) ?_;intro g2 cap2 w2 hown2 hgrow2 hat2 hlt2)
     refine hK.out _ _ ?_ (fun hHeld => ?_)
     ·(try dsimp only);(refine keepS ?_ ?_ ?_ <;> repeat (first | with_reducible exact HC1.out | with_reducible exact HC2.out | with_reducible exact HC3.out | with_reducible exact HB1.out | with_reducible exact HB2.out | with_reducible exact HB3.out | with_reducible refine Ext.drew ?_ | with_reducible refine Ext.alloc ?_ _ | with_reducible refine Blk.drew ?_ | with_reducible refine Blk.alloc ?_ _ | with_reducible refine Blk.grown ?_ hgrow2 ne2.out | with_reducible refine Blk.grown ?_ hgrow2 nr2.out | with_reducible refine Blk.grown ?_ hgrow1 ne1.out | with_reducible refine Blk.grown ?_ hgrow1 nr1.out | with_reducible refine Ext.grown ?_ hgrow2 (fun k hk => (lt2.out k hk).1) | with_reducible refine Ext.grown ?_ hgrow1 (fun k hk => (lt1.out k hk).1)))
     clear HH
     have HH := Lib.hid hHeld
     clear hHeld
     clear hK K
     (try simp only [Act.put,List.setIfInBounds_toArray,List.set_cons_zero,List.set_cons_succ])
     have P1 : Hid (some g1 ≠ (Value.slice A31 n2 c31).ownBlock) := fun h => by
      rcases hat1 with h1 | h1
      ·exact AP.out g1 h1 h.symm
      ·have := (lt2.out g1 h.symm).2
       (try simp at h1);omega
     have P2 : Hid (g1 ≠ g2) := fun h => by
      rcases hat2 with h2 | h2
      ·exact P1.out (by rw [h];exact h2.symm)
      ·(try simp at h2);omega
     have OW1 : Hid (w2.ownsRow w.heap.size 121 1 (.slice (some ⟨g1,0,none⟩) (n1 + 1) cap1) (n1 + 1) ((digs zn.natAbs).map U ++ [.int .u32 0])) := by
      show World.ownsRow _ _ _ _ _ _ _
      refine own_grown ?_ hgrow2 (fun k h1 h2 => P1.out (by rw [show g1 = k from Option.some.inj h1];exact h2))
      repeat (first | with_reducible exact hown1 | with_reducible refine World.ownsRow.drew ?_ | with_reducible refine World.ownsRow.alloc ?_ _)
     have OW2 := Lib.hid hown2
     obtain ⟨s1,s2,s3,s4,HE,HF,HR⟩ := HH.out
     have E2 := Lib.hid HE
     have BF2 := Lib.hid HF
     have BR2 := Lib.hid HR
     have G1 := Lib.hid (own_ne_blk OW1.out HF (by decide))
     have G2 := Lib.hid (own_ne_blk OW2.out HF (by decide))
     clear HE HF HR HH hown1 hgrow1 hat1 hlt1 hown2 hgrow2 hat2 hlt2 lt1 lt2 ne1 ne2 nr1 nr2 AP P1 HB1 HB2 HB3 HC1 HC2 HC3 HO1 HO2 hi0 hz0 hz1 hz2
     refine wpL_ready [12] (by kernel_rfl) (by simp) ?_
     refine AllL.last rfl (by kernel_rfl) (fun K hK => ?_) AllL.nil
     go_simp
     refine hK.out _ _ ?_
     clear hK K
     (try simp only [Act.put,List.setIfInBounds_toArray,List.set_cons_zero,List.set_cons_succ])
     refine wpL_ready [13] (by kernel_rfl) (by simp) ?_
     refine AllL.last rfl (by kernel_rfl) (fun K hK => ?_) AllL.nil
     go_simp
     refine hK.out _ _ ?_
     clear hK K
     (try simp only [Act.put,List.setIfInBounds_toArray,List.set_cons_zero,List.set_cons_succ])
     refine wpL_ready [14] (by kernel_rfl) (by simp) ?_
     refine AllL.last rfl (by kernel_rfl) (fun K hK => ?_) AllL.nil
     go_simp
     refine hK.out _ _ ?_
     clear hK K
     (try simp only [Act.put,List.setIfInBounds_toArray,List.set_cons_zero,List.set_cons_succ])
     refine wpL_ready [15] (by kernel_rfl) (by simp) ?_
     refine AllL.last rfl (by kernel_rfl) (fun K hK => ?_) AllL.nil
     go_simp
     refine hK.out _ _ ?_
     clear hK K
     (try simp only [Act.put,List.setIfInBounds_toArray,List.set_cons_zero,List.set_cons_succ])
     refine wpL_done (by kernel_rfl) ?_ _
     refine NoPanic.normal ?_
     have hL0 := Loc.raw HV.out ((E2.out.setCell (p := ⟨Wc1.heap.size,1,none⟩) hlow (.slice (some ⟨g1,0,none⟩) (n1 + 1) cap1)).setCell (p := ⟨Wc1.heap.size,3,none⟩) hlow (.slice (some ⟨g2,0,none⟩) (n2 + 1) cap2)) (Ls := [(Wc1.heap.size,55,#[.bool (decide (zn < 0)),.slice (some ⟨g1,0,none⟩) (n1 + 1) cap1,.bool (decide (zd < 0)),.slice (some ⟨g2,0,none⟩) (n2 + 1) cap2]),(w.heap.size,55,#[.bool false,.slice none 0 0,.bool false,.slice none 0 0])])
      (fun x hx => by
       rcases List.mem_cons.1 hx with rfl | hx
       ·exact ⟨hlow,(BF2.out.set_ 1 _).set_ 3 _⟩
       ·rcases List.mem_singleton.1 hx with rfl
        exact ⟨Nat.le_refl _,(BR2.out.far (Ne.symm hfr) _).far (Ne.symm hfr) _⟩)
      (List.Pairwise.cons (fun y hy => by rcases List.mem_singleton.1 hy with rfl;exact hfr) (List.pairwise_singleton _ _))
     obtain ⟨R3,R4,m9,hL,row1,row2⟩ := hL0.reown2 (g1 := false) (g2 := false) (own_set (own_set OW1.out G1.out _) G1.out _) (own_set (own_set OW2.out G2.out _) G2.out _) (Nat.le_refl _) (Nat.le_refl _) (fun k h1 h2 => P2.out ((Option.some.inj h1).trans (Option.some.inj h2).symm)) (by simp)
     simp only [List.cons_append,List.nil_append] at hL
     have ROW1 := Lib.hid row1
     have ROW2 := Lib.hid row2
     clear hL0 row1 row2 s1 s2 s3 s4 E2 BF2 BR2 OW1 OW2 G1 G2 P2
     go_wp2_with (first | go_skip | refine tP ?_ | (refine tS ?_;clear hL;intro _ hL) | (refine tB ?_;clear hL;intro _ _ hL _) | (refine tC ?_;clear hL;intro _ _ hL _ hBs))
     obtain ⟨m10,B4,c4,hL10,hle10,e4,hc4,hs4,-⟩ := Loc.show (A := _ :: _ :: R3) hL ROW2.out
     obtain ⟨m11,B3,c3,hL11,hle11,e3,hc3,hs3,-⟩ := Loc.show (A := [_,_]) hL10 ROW1.out
     injection e3 with x1 x2 x3
     subst x1 x3
     injection e4 with x1 x2 x3
     subst x1 x3
     refine fin_aggR hL Tryz.results18 rfl rfl loX ag_Frac rfl hL11 ?_
     rw [EN.out,ED.out]
     exact frG_app hs3 (hs4.le hle11) (by rw [HN1.out];exact hc3) (by rw [HN2.out];exact hc4) HN1.out HN2.out (by rw [← EN.out];exact BN.out) (by rw [← ED.out];exact BD.out) (fun h => by rw [← EN.out];exact wZ (ED.out.trans h))
    exact AllL.nil
   exact AllL.nil
  refine AllL.cons rfl (fun K hK => ?_) ?_
  ·go_simp
   refine hK.out _ _ ?_ (fun hHeld => ?_)
   ·(try dsimp only);(refine keepS ?_ ?_ ?_ <;> repeat (first | with_reducible exact HC1.out | with_reducible exact HC2.out | with_reducible exact HC3.out | with_reducible exact HB1.out | with_reducible exact HB2.out | with_reducible exact HB3.out | with_reducible refine Ext.drew ?_ | with_reducible refine Ext.alloc ?_ _ | with_reducible refine Blk.drew ?_ | with_reducible refine Blk.alloc ?_ _ | with_reducible refine Blk.grown ?_ hgrow2 ne2.out | with_reducible refine Blk.grown ?_ hgrow2 nr2.out | with_reducible refine Blk.grown ?_ hgrow1 ne1.out | with_reducible refine Blk.grown ?_ hgrow1 nr1.out | with_reducible refine Ext.grown ?_ hgrow2 (fun k hk => (lt2.out k hk).1) | with_reducible refine Ext.grown ?_ hgrow1 (fun k hk => (lt1.out k hk).1)))
   clear HH
   have HH := Lib.hid hHeld
   clear hHeld
   clear hK K
   (try simp only [Act.put,List.setIfInBounds_toArray,List.set_cons_zero,List.set_cons_succ])
   refine wpL_ready [4] (by kernel_rfl) (by simp) ?_
   refine AllL.cons rfl (fun K hK => ?_) ?_
   ·(refine step_append_lies _ (by rfl) _ _ _ (by rfl) w.heap.size 121 i0 _ 1 4 Tryz.underlying51 hi0 hz0 hz1 hz2 rfl (by omega) (.slice A27 n1 c27) n1 ((digs zn.natAbs).map U) (by rfl) (by repeat (first | with_reducible exact HO1.out | with_reducible refine World.ownsRow.drew ?_ | with_reducible refine World.ownsRow.alloc ?_ _)) ⟨_,0,none⟩ 1 1 [.int .u32 0] (by rfl) (by rfl) (World.news_of_block (cs := #[.int .u32 0]) (t := 121) (fr := (0,0)) (by show Blk _ _ _ _;repeat (first | with_reducible exact Blk.new _ _ _ | ((with_reducible refine Blk.new' ?_);simp;done) | with_reducible refine Blk.drew ?_ | with_reducible refine Blk.alloc ?_ _))) (by simp [Value.oneCell']) (by omega) (by simp only [maxLen];omega) (by omega) (by simp;omega) _ (by rfl) ?_;intro g1 cap1 w1 hown1 hgrow1 hat1 hlt1)
    refine hK.out _ _ ?_ (fun hHeld => ?_)
    ·(try dsimp only);(refine keepS ?_ ?_ ?_ <;> repeat (first | with_reducible exact HC1.out | with_reducible exact HC2.out | with_reducible exact HC3.out | with_reducible exact HB1.out | with_reducible exact HB2.out | with_reducible exact HB3.out | with_reducible refine Ext.drew ?_ | with_reducible refine Ext.alloc ?_ _ | with_reducible refine Blk.drew ?_ | with_reducible refine Blk.alloc ?_ _ | with_reducible refine Blk.grown ?_ hgrow2 ne2.out | with_reducible refine Blk.grown ?_ hgrow2 nr2.out | with_reducible refine Blk.grown ?_ hgrow1 ne1.out | with_reducible refine Blk.grown ?_ hgrow1 nr1.out | with_reducible refine Ext.grown ?_ hgrow2 (fun k hk => (lt2.out k hk).1) | with_reducible refine Ext.grown ?_ hgrow1 (fun k hk => (lt1.out k hk).1)))
    clear HH
    have HH := Lib.hid hHeld
    clear hHeld
    have HC1 := Lib.hid HH.out.2.2.2.2.1
    have HC2 := Lib.hid HH.out.2.2.2.2.2.1
    have HC3 := Lib.hid HH.out.2.2.2.2.2.2
    clear hK K
    (try simp only [Act.put,List.setIfInBounds_toArray,List.set_cons_zero,List.set_cons_succ])
    refine wpL_take 10 11 (v := ?_) rfl (by kernel_rfl) (fun _ _ _ h => h) HH.out (by rfl) ?yld ?_
    case yld => (intro w' hSw;obtain ⟨s1,s2,s3,s4,-⟩ := hSw;go_simp;try with_reducible rfl)
    (try simp only [Act.put,List.setIfInBounds_toArray,List.set_cons_zero,List.set_cons_succ])
    refine wpL_take 11 11 (v := ?_) rfl (by kernel_rfl) (fun _ _ _ h => h) HH.out (by rfl) ?yld ?_
    case yld => (intro w' hSw;obtain ⟨s1,s2,s3,s4,-⟩ := hSw;go_simp;try with_reducible rfl)
    (try simp only [Act.put,List.setIfInBounds_toArray,List.set_cons_zero,List.set_cons_succ])
    refine wpL_ready [9] (by kernel_rfl) (by simp) ?_
    refine AllL.cons rfl (fun K hK => ?_) ?_
    ·(refine step_append_lies _ (by rfl) _ _ _ (by rfl) w.heap.size 121 i0 _ 1 4 Tryz.underlying51 hi0 hz0 hz1 hz2 rfl (by omega) (.slice A31 n2 c31) n2 ((digs zd.natAbs).map U) (by rfl) (by repeat (first | with_reducible exact HO2.out | with_reducible refine World.ownsRow.drew ?_ | with_reducible refine World.ownsRow.alloc ?_ _ | refine own_grown ?_ hgrow1 (fun k h1 h2 => AP.out k h2.symm h1))) ⟨_,0,none⟩ 1 1 [.int .u32 0] (by rfl) (by rfl) (World.news_of_block (cs := #[.int .u32 0]) (t := 121) (fr := (0,0)) (by show Blk _ _ _ _;repeat (first | with_reducible exact Blk.new _ _ _ | ((with_reducible refine Blk.new' ?_);simp;done) | with_reducible refine Blk.drew ?_ | with_reducible refine Blk.alloc ?_ _ | refine Blk.grown ?_ hgrow1 (fun h => by have := (lt1.out _ h.symm).2;first | omega | (simp at this;done) | (simp at this;omega))))) (by simp [Value.oneCell']) (by omega) (by simp only [maxLen];omega) (by omega) (by have := hgrow1.size;simp at this ⊢;omega) _ (by rfl) ?_;intro g2 cap2 w2 hown2 hgrow2 hat2 hlt2)
     refine hK.out _ _ ?_ (fun hHeld => ?_)
     ·(try dsimp only);(refine keepS ?_ ?_ ?_ <;> repeat (first | with_reducible exact HC1.out | with_reducible exact HC2.out | with_reducible exact HC3.out | with_reducible exact HB1.out | with_reducible exact HB2.out | with_reducible exact HB3.out | with_reducible refine Ext.drew ?_ | with_reducible refine Ext.alloc ?_ _ | with_reducible refine Blk.drew ?_ | with_reducible refine Blk.alloc ?_ _ | with_reducible refine Blk.grown ?_ hgrow2 ne2.out | with_reducible refine Blk.grown ?_ hgrow2 nr2.out | with_reducible refine Blk.grown ?_ hgrow1 ne1.out | with_reducible refine Blk.grown ?_ hgrow1 nr1.out | with_reducible refine Ext.grown ?_ hgrow2 (fun k hk => (lt2.out k hk).1) | with_reducible refine Ext.grown ?_ hgrow1 (fun k hk => (lt1.out k hk).1)))
     clear HH
     have HH := Lib.hid hHeld
     clear hHeld
     clear hK K
     (try simp only [Act.put,List.setIfInBounds_toArray,List.set_cons_zero,List.set_cons_succ])
     have P1 : Hid (some g1 ≠ (Value.slice A31 n2 c31).ownBlock) := fun h => by
      rcases hat1 with h1 | h1
      ·exact AP.out g1 h1 h.symm
      ·have := (lt2.out g1 h.symm).2
       (try simp at h1);omega
     have P2 : Hid (g1 ≠ g2) := fun h => by
      rcases hat2 with h2 | h2
      ·exact P1.out (by rw [h];exact h2.symm)
      ·(try simp at h2);omega
     have OW1 : Hid (w2.ownsRow w.heap.size 121 1 (.slice (some ⟨g1,0,none⟩) (n1 + 1) cap1) (n1 + 1) ((digs zn.natAbs).map U ++ [.int .u32 0])) := by
      show World.ownsRow _ _ _ _ _ _ _
      refine own_grown ?_ hgrow2 (fun k h1 h2 => P1.out (by rw [show g1 = k from Option.some.inj h1];exact h2))
      repeat (first | with_reducible exact hown1 | with_reducible refine World.ownsRow.drew ?_ | with_reducible refine World.ownsRow.alloc ?_ _)
     have OW2 := Lib.hid hown2
     obtain ⟨s1,s2,s3,s4,HE,HF,HR⟩ := HH.out
     have E2 := Lib.hid HE
     have BF2 := Lib.hid HF
     have BR2 := Lib.hid HR
     have G1 := Lib.hid (own_ne_blk OW1.out HF (by decide))
     have G2 := Lib.hid (own_ne_blk OW2.out HF (by decide))
     clear HE HF HR HH hown1 hgrow1 hat1 hlt1 hown2 hgrow2 hat2 hlt2 lt1 lt2 ne1 ne2 nr1 nr2 AP P1 HB1 HB2 HB3 HC1 HC2 HC3 HO1 HO2 hi0 hz0 hz1 hz2
     refine wpL_ready [12] (by kernel_rfl) (by simp) ?_
     refine AllL.last rfl (by kernel_rfl) (fun K hK => ?_) AllL.nil
     go_simp
     refine hK.out _ _ ?_
     clear hK K
     (try simp only [Act.put,List.setIfInBounds_toArray,List.set_cons_zero,List.set_cons_succ])
     refine wpL_ready [13] (by kernel_rfl) (by simp) ?_
     refine AllL.last rfl (by kernel_rfl) (fun K hK => ?_) AllL.nil
     go_simp
     refine hK.out _ _ ?_
     clear hK K
     (try simp only [Act.put,List.setIfInBounds_toArray,List.set_cons_zero,List.set_cons_succ])
     refine wpL_ready [14] (by kernel_rfl) (by simp) ?_
     refine AllL.last rfl (by kernel_rfl) (fun K hK => ?_) AllL.nil
     go_simp
     refine hK.out _ _ ?_
     clear hK K
     (try simp only [Act.put,List.setIfInBounds_toArray,List.set_cons_zero,List.set_cons_succ])
     refine wpL_ready [15] (by kernel_rfl) (by simp) ?_
     refine AllL.last rfl (by kernel_rfl) (fun K hK => ?_) AllL.nil
     go_simp
     refine hK.out _ _ ?_
     clear hK K
     (try simp only [Act.put,List.setIfInBounds_toArray,List.set_cons_zero,List.set_cons_succ])
     refine wpL_done (by kernel_rfl) ?_ _
     refine NoPanic.normal ?_
     have hL0 := Loc.raw HV.out ((E2.out.setCell (p := ⟨Wc1.heap.size,1,none⟩) hlow (.slice (some ⟨g1,0,none⟩) (n1 + 1) cap1)).setCell (p := ⟨Wc1.heap.size,3,none⟩) hlow (.slice (some ⟨g2,0,none⟩) (n2 + 1) cap2)) (Ls := [(Wc1.heap.size,55,#[.bool (decide (zn < 0)),.slice (some ⟨g1,0,none⟩) (n1 + 1) cap1,.bool (decide (zd < 0)),.slice (some ⟨g2,0,none⟩) (n2 + 1) cap2]),(w.heap.size,55,#[.bool false,.slice none 0 0,.bool false,.slice none 0 0])])
      (fun x hx => by
       rcases List.mem_cons.1 hx with rfl | hx
       ·exact ⟨hlow,(BF2.out.set_ 1 _).set_ 3 _⟩
       ·rcases List.mem_singleton.1 hx with rfl
        exact ⟨Nat.le_refl _,(BR2.out.far (Ne.symm hfr) _).far (Ne.symm hfr) _⟩)
      (List.Pairwise.cons (fun y hy => by rcases List.mem_singleton.1 hy with rfl;exact hfr) (List.pairwise_singleton _ _))
     obtain ⟨R3,R4,m9,hL,row1,row2⟩ := hL0.reown2 (g1 := false) (g2 := false) (own_set (own_set OW1.out G1.out _) G1.out _) (own_set (own_set OW2.out G2.out _) G2.out _) (Nat.le_refl _) (Nat.le_refl _) (fun k h1 h2 => P2.out ((Option.some.inj h1).trans (Option.some.inj h2).symm)) (by simp)
     simp only [List.cons_append,List.nil_append] at hL
     have ROW1 := Lib.hid row1
     have ROW2 := Lib.hid row2
     clear hL0 row1 row2 s1 s2 s3 s4 E2 BF2 BR2 OW1 OW2 G1 G2 P2
     go_wp2_with (first | go_skip | refine tP ?_ | (refine tS ?_;clear hL;intro _ hL) | (refine tB ?_;clear hL;intro _ _ hL _) | (refine tC ?_;clear hL;intro _ _ hL _ hBs))
     obtain ⟨m10,B4,c4,hL10,hle10,e4,hc4,hs4,-⟩ := Loc.show (A := _ :: _ :: R3) hL ROW2.out
     obtain ⟨m11,B3,c3,hL11,hle11,e3,hc3,hs3,-⟩ := Loc.show (A := [_,_]) hL10 ROW1.out
     injection e3 with x1 x2 x3
     subst x1 x3
     injection e4 with x1 x2 x3
     subst x1 x3
     refine fin_aggR hL Tryz.results18 rfl rfl loX ag_Frac rfl hL11 ?_
     rw [EN.out,ED.out]
     exact frG_app hs3 (hs4.le hle11) (by rw [HN1.out];exact hc3) (by rw [HN2.out];exact hc4) HN1.out HN2.out (by rw [← EN.out];exact BN.out) (by rw [← ED.out];exact BD.out) (fun h => by rw [← EN.out];exact wZ (ED.out.trans h))
    exact AllL.nil
   exact AllL.nil
  exact AllL.nil
 refine AllL.cons rfl (fun K hK => ?_) ?_
 ·go_simp
  refine hK.out _ _ ?_ (fun hHeld => ?_)
  ·(try dsimp only);(refine keepS ?_ ?_ ?_ <;> repeat (first | with_reducible exact HC1.out | with_reducible exact HC2.out | with_reducible exact HC3.out | with_reducible exact HB1.out | with_reducible exact HB2.out | with_reducible exact HB3.out | with_reducible refine Ext.drew ?_ | with_reducible refine Ext.alloc ?_ _ | with_reducible refine Blk.drew ?_ | with_reducible refine Blk.alloc ?_ _ | with_reducible refine Blk.grown ?_ hgrow2 ne2.out | with_reducible refine Blk.grown ?_ hgrow2 nr2.out | with_reducible refine Blk.grown ?_ hgrow1 ne1.out | with_reducible refine Blk.grown ?_ hgrow1 nr1.out | with_reducible refine Ext.grown ?_ hgrow2 (fun k hk => (lt2.out k hk).1) | with_reducible refine Ext.grown ?_ hgrow1 (fun k hk => (lt1.out k hk).1)))
  clear HH
  have HH := Lib.hid hHeld
  clear hHeld
  clear hK K
  (try simp only [Act.put,List.setIfInBounds_toArray,List.set_cons_zero,List.set_cons_succ])
  refine wpL_ready [3] (by kernel_rfl) (by simp) ?_
  refine AllL.cons rfl (fun K hK => ?_) ?_
  ·go_simp
   refine hK.out _ _ ?_ (fun hHeld => ?_)
   ·(try dsimp only);(refine keepS ?_ ?_ ?_ <;> repeat (first | with_reducible exact HC1.out | with_reducible exact HC2.out | with_reducible exact HC3.out | with_reducible exact HB1.out | with_reducible exact HB2.out | with_reducible exact HB3.out | with_reducible refine Ext.drew ?_ | with_reducible refine Ext.alloc ?_ _ | with_reducible refine Blk.drew ?_ | with_reducible refine Blk.alloc ?_ _ | with_reducible refine Blk.grown ?_ hgrow2 ne2.out | with_reducible refine Blk.grown ?_ hgrow2 nr2.out | with_reducible refine Blk.grown ?_ hgrow1 ne1.out | with_reducible refine Blk.grown ?_ hgrow1 nr1.out | with_reducible refine Ext.grown ?_ hgrow2 (fun k hk => (lt2.out k hk).1) | with_reducible refine Ext.grown ?_ hgrow1 (fun k hk => (lt1.out k hk).1)))
   clear HH
   have HH := Lib.hid hHeld
   clear hHeld
   clear hK K
   (try simp only [Act.put,List.setIfInBounds_toArray,List.set_cons_zero,List.set_cons_succ])
   refine wpL_ready [4] (by kernel_rfl) (by simp) ?_
   refine AllL.cons rfl (fun K hK => ?_) ?_
   ·(refine step_append_lies _ (by rfl) _ _ _ (by rfl) w.heap.size 121 i0 _ 1 4 Tryz.underlying51 hi0 hz0 hz1 hz2 rfl (by omega) (.slice A27 n1 c27) n1 ((digs zn.natAbs).map U) (by rfl) (by repeat (first | with_reducible exact HO1.out | with_reducible refine World.ownsRow.drew ?_ | with_reducible refine World.ownsRow.alloc ?_ _)) ⟨_,0,none⟩ 1 1 [.int .u32 0] (by rfl) (by rfl) (World.news_of_block (cs := #[.int .u32 0]) (t := 121) (fr := (0,0)) (by show Blk _ _ _ _;repeat (first | with_reducible exact Blk.new _ _ _ | ((with_reducible refine Blk.new' ?_);simp;done) | with_reducible refine Blk.drew ?_ | with_reducible refine Blk.alloc ?_ _))) (by simp [Value.oneCell']) (by omega) (by simp only [maxLen];omega) (by omega) (by simp;omega) _ (by rfl) ?_;intro g1 cap1 w1 hown1 hgrow1 hat1 hlt1)
    refine hK.out _ _ ?_ (fun hHeld => ?_)
    ·(try dsimp only);(refine keepS ?_ ?_ ?_ <;> repeat (first | with_reducible exact HC1.out | with_reducible exact HC2.out | with_reducible exact HC3.out | with_reducible exact HB1.out | with_reducible exact HB2.out | with_reducible exact HB3.out | with_reducible refine Ext.drew ?_ | with_reducible refine Ext.alloc ?_ _ | with_reducible refine Blk.drew ?_ | with_reducible refine Blk.alloc ?_ _ | with_reducible refine Blk.grown ?_ hgrow2 ne2.out | with_reducible refine Blk.grown ?_ hgrow2 nr2.out | with_reducible refine Blk.grown ?_ hgrow1 ne1.out | with_reducible refine Blk.grown ?_ hgrow1 nr1.out | with_reducible refine Ext.grown ?_ hgrow2 (fun k hk => (lt2.out k hk).1) | with_reducible refine Ext.grown ?_ hgrow1 (fun k hk => (lt1.out k hk).1)))
    clear HH
    have HH := Lib.hid hHeld
    clear hHeld
    have HC1 := Lib.hid HH.out.2.2.2.2.1
    have HC2 := Lib.hid HH.out.2.2.2.2.2.1
    have HC3 := Lib.hid HH.out.2.2.2.2.2.2
    clear hK K
    (try simp only [Act.put,List.setIfInBounds_toArray,List.set_cons_zero,List.set_cons_succ])
    refine wpL_take 10 11 (v := ?_) rfl (by kernel_rfl) (fun _ _ _ h => h) HH.out (by rfl) ?yld ?_
    case yld => (intro w' hSw;obtain ⟨s1,s2,s3,s4,-⟩ := hSw;go_simp;try with_reducible rfl)
    (try simp only [Act.put,List.setIfInBounds_toArray,List.set_cons_zero,List.set_cons_succ])
    refine wpL_take 11 11 (v := ?_) rfl (by kernel_rfl) (fun _ _ _ h => h) HH.out (by rfl) ?yld ?_
    case yld => (intro w' hSw;obtain ⟨s1,s2,s3,s4,-⟩ := hSw;go_simp;try with_reducible rfl)
    (try simp only [Act.put,List.setIfInBounds_toArray,List.set_cons_zero,List.set_cons_succ])
    refine wpL_ready [9] (by kernel_rfl) (by simp) ?_
    refine AllL.cons rfl (fun K hK => ?_) ?_
    ·(refine step_append_lies _ (by rfl) _ _ _ (by rfl) w.heap.size 121 i0 _ 1 4 Tryz.underlying51 hi0 hz0 hz1 hz2 rfl (by omega) (.slice A31 n2 c31) n2 ((digs zd.natAbs).map U) (by rfl) (by repeat (first | with_reducible exact HO2.out | with_reducible refine World.ownsRow.drew ?_ | with_reducible refine World.ownsRow.alloc ?_ _ | refine own_grown ?_ hgrow1 (fun k h1 h2 => AP.out k h2.symm h1))) ⟨_,0,none⟩ 1 1 [.int .u32 0] (by rfl) (by rfl) (World.news_of_block (cs := #[.int .u32 0]) (t := 121) (fr := (0,0)) (by show Blk _ _ _ _;repeat (first | with_reducible exact Blk.new _ _ _ | ((with_reducible refine Blk.new' ?_);simp;done) | with_reducible refine Blk.drew ?_ | with_reducible refine Blk.alloc ?_ _ | refine Blk.grown ?_ hgrow1 (fun h => by have := (lt1.out _ h.symm).2;first | omega | (simp at this;done) | (simp at this;omega))))) (by simp [Value.oneCell']) (by omega) (by simp only [maxLen];omega) (by omega) (by have := hgrow1.size;simp at this ⊢;omega) _ (by rfl) ?_;intro g2 cap2 w2 hown2 hgrow2 hat2 hlt2)
     refine hK.out _ _ ?_ (fun hHeld => ?_)
     ·(try dsimp only);(refine keepS ?_ ?_ ?_ <;> repeat (first | with_reducible exact HC1.out | with_reducible exact HC2.out | with_reducible exact HC3.out | with_reducible exact HB1.out | with_reducible exact HB2.out | with_reducible exact HB3.out | with_reducible refine Ext.drew ?_ | with_reducible refine Ext.alloc ?_ _ | with_reducible refine Blk.drew ?_ | with_reducible refine Blk.alloc ?_ _ | with_reducible refine Blk.grown ?_ hgrow2 ne2.out | with_reducible refine Blk.grown ?_ hgrow2 nr2.out | with_reducible refine Blk.grown ?_ hgrow1 ne1.out | with_reducible refine Blk.grown ?_ hgrow1 nr1.out | with_reducible refine Ext.grown ?_ hgrow2 (fun k hk => (lt2.out k hk).1) | with_reducible refine Ext.grown ?_ hgrow1 (fun k hk => (lt1.out k hk).1)))
     clear HH
     have HH := Lib.hid hHeld
     clear hHeld
     clear hK K
     (try simp only [Act.put,List.setIfInBounds_toArray,List.set_cons_zero,List.set_cons_succ])
     have P1 : Hid (some g1 ≠ (Value.slice A31 n2 c31).ownBlock) := fun h => by
      rcases hat1 with h1 | h1
      ·exact AP.out g1 h1 h.symm
      ·have := (lt2.out g1 h.symm).2
       (try simp at h1);omega
     have P2 : Hid (g1 ≠ g2) := fun h => by
      rcases hat2 with h2 | h2
      ·exact P1.out (by rw [h];exact h2.symm)
      ·(try simp at h2);omega
     have OW1 : Hid (w2.ownsRow w.heap.size 121 1 (.slice (some ⟨g1,0,none⟩) (n1 + 1) cap1) (n1 + 1) ((digs zn.natAbs).map U ++ [.int .u32 0])) := by
      show World.ownsRow _ _ _ _ _ _ _
      refine own_grown ?_ hgrow2 (fun k h1 h2 => P1.out (by rw [show g1 = k from Option.some.inj h1];exact h2))
      repeat (first | with_reducible exact hown1 | with_reducible refine World.ownsRow.drew ?_ | with_reducible refine World.ownsRow.alloc ?_ _)
     have OW2 := Lib.hid hown2
     obtain ⟨s1,s2,s3,s4,HE,HF,HR⟩ := HH.out
     have E2 := Lib.hid HE
     have BF2 := Lib.hid HF
     have BR2 := Lib.hid HR
     have G1 := Lib.hid (own_ne_blk OW1.out HF (by decide))
     have G2 := Lib.hid (own_ne_blk OW2.out HF (by decide))
     clear HE HF HR HH hown1 hgrow1 hat1 hlt1 hown2 hgrow2 hat2 hlt2 lt1 lt2 ne1 ne2 nr1 nr2 AP P1 HB1 HB2 HB3 HC1 HC2 HC3 HO1 HO2 hi0 hz0 hz1 hz2
     refine wpL_ready [12] (by kernel_rfl) (by simp) ?_
     refine AllL.last rfl (by kernel_rfl) (fun K hK => ?_) AllL.nil
     go_simp
     refine hK.out _ _ ?_
     clear hK K
     (try simp only [Act.put,List.setIfInBounds_toArray,List.set_cons_zero,List.set_cons_succ])
     refine wpL_ready [13] (by kernel_rfl) (by simp) ?_
     refine AllL.last rfl (by kernel_rfl) (fun K hK => ?_) AllL.nil
     go_simp
     refine hK.out _ _ ?_
     clear hK K
     (try simp only [Act.put,List.setIfInBounds_toArray,List.set_cons_zero,List.set_cons_succ])
     refine wpL_ready [14] (by kernel_rfl) (by simp) ?_
     refine AllL.last rfl (by kernel_rfl) (fun K hK => ?_) AllL.nil
     go_simp
     refine hK.out _ _ ?_
     clear hK K
     (try simp only [Act.put,List.setIfInBounds_toArray,List.set_cons_zero,List.set_cons_succ])
     refine wpL_ready [15] (by kernel_rfl) (by simp) ?_
     refine AllL.last rfl (by kernel_rfl) (fun K hK => ?_) AllL.nil
     go_simp
     refine hK.out _ _ ?_
     clear hK K
     (try simp only [Act.put,List.setIfInBounds_toArray,List.set_cons_zero,List.set_cons_succ])
     refine wpL_done (by kernel_rfl) ?_ _
     refine NoPanic.normal ?_
     have hL0 := Loc.raw HV.out ((E2.out.setCell (p := ⟨Wc1.heap.size,1,none⟩) hlow (.slice (some ⟨g1,0,none⟩) (n1 + 1) cap1)).setCell (p := ⟨Wc1.heap.size,3,none⟩) hlow (.slice (some ⟨g2,0,none⟩) (n2 + 1) cap2)) (Ls := [(Wc1.heap.size,55,#[.bool (decide (zn < 0)),.slice (some ⟨g1,0,none⟩) (n1 + 1) cap1,.bool (decide (zd < 0)),.slice (some ⟨g2,0,none⟩) (n2 + 1) cap2]),(w.heap.size,55,#[.bool false,.slice none 0 0,.bool false,.slice none 0 0])])
      (fun x hx => by
       rcases List.mem_cons.1 hx with rfl | hx
       ·exact ⟨hlow,(BF2.out.set_ 1 _).set_ 3 _⟩
       ·rcases List.mem_singleton.1 hx with rfl
        exact ⟨Nat.le_refl _,(BR2.out.far (Ne.symm hfr) _).far (Ne.symm hfr) _⟩)
      (List.Pairwise.cons (fun y hy => by rcases List.mem_singleton.1 hy with rfl;exact hfr) (List.pairwise_singleton _ _))
     obtain ⟨R3,R4,m9,hL,row1,row2⟩ := hL0.reown2 (g1 := false) (g2 := false) (own_set (own_set OW1.out G1.out _) G1.out _) (own_set (own_set OW2.out G2.out _) G2.out _) (Nat.le_refl _) (Nat.le_refl _) (fun k h1 h2 => P2.out ((Option.some.inj h1).trans (Option.some.inj h2).symm)) (by simp)
     simp only [List.cons_append,List.nil_append] at hL
     have ROW1 := Lib.hid row1
     have ROW2 := Lib.hid row2
     clear hL0 row1 row2 s1 s2 s3 s4 E2 BF2 BR2 OW1 OW2 G1 G2 P2
     go_wp2_with (first | go_skip | refine tP ?_ | (refine tS ?_;clear hL;intro _ hL) | (refine tB ?_;clear hL;intro _ _ hL _) | (refine tC ?_;clear hL;intro _ _ hL _ hBs))
     obtain ⟨m10,B4,c4,hL10,hle10,e4,hc4,hs4,-⟩ := Loc.show (A := _ :: _ :: R3) hL ROW2.out
     obtain ⟨m11,B3,c3,hL11,hle11,e3,hc3,hs3,-⟩ := Loc.show (A := [_,_]) hL10 ROW1.out
     injection e3 with x1 x2 x3
     subst x1 x3
     injection e4 with x1 x2 x3
     subst x1 x3
     refine fin_aggR hL Tryz.results18 rfl rfl loX ag_Frac rfl hL11 ?_
     rw [EN.out,ED.out]
     exact frG_app hs3 (hs4.le hle11) (by rw [HN1.out];exact hc3) (by rw [HN2.out];exact hc4) HN1.out HN2.out (by rw [← EN.out];exact BN.out) (by rw [← ED.out];exact BD.out) (fun h => by rw [← EN.out];exact wZ (ED.out.trans h))
    exact AllL.nil
   exact AllL.nil
  exact AllL.nil
 exact AllL.nil
end Go.Proofs.YtabmjadcoepbeaaGreat

/- Contracts of pairingdata.Wild whole, lagrange.copyPrices as a value, and lagrange.Step. -/
namespace Go.Proofs.YtabmjadcoepbeaaGreat
open Go.RowKit

theorem d_Wild (n : Int) (w m : World) (hV : Vw m w) (h1 : -9223372036854775808 ≤ n) (h2 : n ≤ 9223372036854775807) :
  Calls Tryz.prog 18 #[.int .i64 n] w (RetV w m fun m' r => FrG m' r (wN n) (wD n)) := by
 by_cases h : n / 256 % 4 = 3
 ·exact d_WildB n w m hV h1 h2 h
 ·exact d_WildA n w m hV h1 h2 h
theorem frG0 (m : World) : FrG m (.agg #[.bool false,.slice none 0 0,.bool false,.slice none 0 0]) 0 0 :=
 ⟨⟨_,_,_,_,_,_,_,_,rfl,IntC.nil.toV (by simp [digs_zero]),IntC.nil.toV (by simp [digs_zero])⟩,.inl (frac0 m)⟩
theorem q_AddZeroG (a : Value) (x y : Int) (w m : World) (hV : Vw m w) (ha : FrG m a x y) (hs : Sm x y) :
  Calls Tryz.prog 71 #[a,.agg #[.bool false,.slice none 0 0,.bool false,.slice none 0 0]] w (RetV w m fun m' r => FracC m' r (Rat.divInt x y)) := by
 have h := q_AddG a _ x y 0 0 w m hV ha (frG0 m) hs ⟨by decide,by decide⟩
 rwa [show Rat.divInt x y + Rat.divInt 0 0 = Rat.divInt x y by simp [Rat.add_zero]] at h
theorem FrG.lit {m : World} {v : Value} {x y : Int} (h : FrG m v x y) : ∃ g A n c f B k d,v = .agg #[.bool g,.slice A n c,.bool f,.slice B k d] ∧ FrG m (.agg #[.bool g,.slice A n c,.bool f,.slice B k d]) x y := by
 have h' := h
 obtain ⟨⟨g,A,n,c,f,B,k,d,rfl,-,-⟩,-⟩ := h
 exact ⟨_,_,_,_,_,_,_,_,rfl,h'⟩

end Go.Proofs.YtabmjadcoepbeaaGreat

/- The walk through the law LagrangeSteps. -/
namespace Go.Proofs.YtabmjadcoepbeaaGreat
open Go.RowKit

theorem wQ_tn (n : Int) : Tn 10 (Rat.divInt (wN n) (wD n)) := by
 have hd := (frF n).den_pos
 by_cases hk : wkF n = 0
 ·unfold wN wD
  rw [hk]
  simp only [Int.mul_zero]
  exact ⟨by simp,by simp⟩
 ·unfold wN wD
  rw [Rat.divInt_mul_right hk,Rat.num_divInt_den]
  exact frT n
structure WF (x y : Int) : Prop where
 bx : x.natAbs ≤ 20
 by_ : y.natAbs ≤ 20
 q : Tn 10 (Rat.divInt x y)
theorem wild_wf (n : Int) : WF (wN n) (wD n) := ⟨wN_bd n,wD_bd n,wQ_tn n⟩
theorem WF.sm {x y : Int} (h : WF x y) : Sm x y := ⟨by have := h.bx;omega,by have := h.by_;omega⟩
theorem FrG.toV {m : World} {v : Value} {x y : Int} (h : FrG m v x y) : FracV m v (Rat.divInt x y) := by
 obtain ⟨⟨g,A,n,c,f,B,k,d,rfl,h1,h2⟩,-⟩ := h
 exact ⟨x,y,_,_,_,_,rfl,h1,h2,rfl⟩
theorem FracC.toFr {m : World} {v : Value} {q : Rat} (h : FracC m v q) {k : Nat} (hk : Fit k q) (hk' : k ≤ 1000) : FrV m v q.num q.den := by
 obtain ⟨g,A,n,c,f,B,j,d,rfl,h⟩ := h.lit
 obtain ⟨h1,h2⟩ := h.open_
 exact ⟨_,_,_,_,_,_,_,_,rfl,h1.toV (hk.num hk'),h2.toV (hk.den hk')⟩
end Go.Proofs.YtabmjadcoepbeaaGreat

/- Contracts on lists of numbers: pairingref27.Has, count, within, ascending; slices.Index, Contains, BinarySearch; cmp.Less. -/
namespace Go.Proofs.YtabmjadcoepbeaaGreat
open Go.RowKit

theorem has_step {xs : List Int} {t x : Int} {k : Nat} (h : ∀ j,j < k → xs[j]? ≠ some t) (hx : xs[k]? = some x) (he : ¬ x = t) : ∀ j,j < k + 1 → xs[j]? ≠ some t := by
 intro j hj
 rcases Nat.lt_or_ge j k with h1 | h1
 ·exact h j h1
 ·obtain rfl : j = k := by omega
  rw [hx]
  exact fun e => he (Option.some.inj e)
theorem has_end {xs : List Int} {t : Int} {k n : Nat} (hn : xs.length = n) (hk : ¬ k < n) (h : ∀ j,j < k → xs[j]? ≠ some t) : decide (t ∈ xs) = false := by
 refine decide_eq_false fun hm => ?_
 obtain ⟨j,hj⟩ := List.mem_iff_getElem?.1 hm
 have := (List.getElem?_eq_some_iff.1 hj).1
 exact h j (by omega) hj

theorem r_Has (a : Value) (xs : List Int) (t : Int) (w m : World) (hV : Vw m w) (ha : IntL m a xs) (hl : xs.length ≤ 1000000) :
  Calls Tryz.prog 29 #[a,.int .i64 t] w (RetV w m fun _ r => r = .bool (decide (t ∈ xs))) := by
 obtain ⟨A,c,rfl,hc,ha⟩ := ha.lit
 have hL := Loc.start hV
 clear hV
 generalize hn : xs.length = n at *
 have HN := Lib.hid hn
 clear hn
 go_enter Tryz.func29,Tryz.ntmps29
 go_wp2_with (first | go_skip | refine tP ?_)
 go_loopw [5] (fun i wr => ∃ (k : Nat) (mm : World),k ≤ n ∧ i = .int .i64 k ∧ Loc w m wr mm [] ∧ Hid (∀ j,j < k → xs[j]? ≠ some t)) (fun i _ => n - (intOf i).toNat)
 case atStart => exact ⟨0,m,Nat.zero_le _,rfl,hL,fun j hj => by omega⟩
 case round =>
  clear hL
  obtain ⟨k,mm,hk,rfl,hL,HJ⟩ := hrel
  have hM := hL.mext
  by_cases hlt : k < n
  ·obtain ⟨x,hx⟩ := at_some HN hlt
   obtain ⟨b1,o1,rfl,hc1⟩ := IntL.at_ ha hx
   by_cases he : x = t
   ·have E : Hid (decide (t ∈ xs) = true) := decide_eq_true (he ▸ List.mem_of_getElem? hx)
    have bb : (x == t) = true := by simp [he]
    clear hx he
    go_wp2_with (first | go_skip | refine tP ?_)
    go_ret
    exact RetV.mk hL (congrArg Value.bool E.out.symm)
   ·have bb : (x == t) = false := by simp [he]
    have HS := Lib.hid (has_step HJ.out hx he)
    clear hx he
    go_wp2_with (first | go_skip | refine tP ?_)
    go_roundw
    case rel => exact ⟨k + 1,_,by omega,by go_num,hL,HS.out⟩
    case measure => simp [intOf] <;> omega
  ·have E := Lib.hid (has_end HN.out hlt HJ.out)
   go_wp2_with (first | go_skip | refine tP ?_)
   go_ret
   exact RetV.mk hL (congrArg Value.bool E.out.symm)

theorem count_step {xs : List Int} {t x : Int} {k : Nat} (hx : xs[k]? = some x) : (xs.take (k + 1)).count t = (xs.take k).count t + (if x = t then 1 else 0) := by
 rw [List.take_add_one,hx,List.count_append]
 by_cases h : x = t
 ·subst h;simp
 ·simp [h]
theorem r_count (a : Value) (xs : List Int) (t : Int) (w m : World) (hV : Vw m w) (ha : IntL m a xs) (hl : xs.length ≤ 1000000) :
  Calls Tryz.prog 38 #[a,.int .i64 t] w (RetV w m fun _ r => r = .int .i64 ((xs.count t : Nat) : Int)) := by
 obtain ⟨A,c,rfl,hc,ha⟩ := ha.lit
 have hL := Loc.start hV
 clear hV
 generalize hn : xs.length = n at *
 have HN := Lib.hid hn
 clear hn
 go_enter Tryz.func38,Tryz.ntmps38
 go_wp2_with (first | go_skip | refine tP ?_)
 go_loopw [5,6] (fun cc i wr => ∃ (k q : Nat) (mm : World),k ≤ n ∧ q ≤ k ∧ i = .int .i64 k ∧ cc = .int .i64 q ∧ Loc w m wr mm [] ∧ Hid (q = (xs.take k).count t)) (fun _ i _ => n - (intOf i).toNat)
 case atStart => exact ⟨0,0,m,Nat.zero_le _,Nat.zero_le _,rfl,rfl,hL,rfl⟩
 case round =>
  clear hL
  obtain ⟨k,q,mm,hk,hq,rfl,rfl,hL,HJ⟩ := hrel
  have hM := hL.mext
  by_cases hlt : k < n
  ·obtain ⟨x,hx⟩ := at_some HN hlt
   obtain ⟨b1,o1,rfl,hc1⟩ := IntL.at_ ha hx
   have HS := Lib.hid (count_step (t := t) hx)
   by_cases he : x = t
   ·have bb : (x == t) = true := by simp [he]
    have HE : Hid (q + 1 = (xs.take (k + 1)).count t) := by show _ = _;rw [HS.out,if_pos he,HJ.out]
    clear hx he
    go_wp2_with (first | go_skip | refine tP ?_)
    go_roundw
    case rel => exact ⟨k + 1,q + 1,_,by omega,by omega,by go_num,by go_num,hL,HE.out⟩
    case measure => simp [intOf] <;> omega
   ·have bb : (x == t) = false := by simp [he]
    have HE : Hid (q = (xs.take (k + 1)).count t) := by show _ = _;rw [HS.out,if_neg he,HJ.out];rfl
    clear hx he
    go_wp2_with (first | go_skip | refine tP ?_)
    go_roundw
    case rel => exact ⟨k + 1,q,_,by omega,by omega,by go_num,rfl,hL,HE.out⟩
    case measure => simp [intOf] <;> omega
  ·have E : Hid (q = xs.count t) := by
    show _ = _
    have := HJ.out
    rwa [List.take_of_length_le (by rw [HN.out];omega)] at this
   go_wp2_with (first | go_skip | refine tP ?_)
   go_ret
   exact RetV.mk hL (congrArg (fun z : Nat => Value.int .i64 (z : Int)) E.out)

theorem within_step {xs ys : List Int} {x : Int} {k : Nat} (h : ∀ j y,j < k → xs[j]? = some y → y ∈ ys) (hx : xs[k]? = some x) (he : x ∈ ys) : ∀ j y,j < k + 1 → xs[j]? = some y → y ∈ ys := by
 intro j y hj hy
 rcases Nat.lt_or_ge j k with h1 | h1
 ·exact h j y h1 hy
 ·obtain rfl : j = k := by omega
  rw [hx] at hy
  exact Option.some.inj hy ▸ he
theorem within_end {xs ys : List Int} {k n : Nat} (hn : xs.length = n) (hk : ¬ k < n) (h : ∀ j y,j < k → xs[j]? = some y → y ∈ ys) : decide (∀ x ∈ xs,x ∈ ys) = true := by
 refine decide_eq_true fun x hm => ?_
 obtain ⟨j,hj⟩ := List.mem_iff_getElem?.1 hm
 have := (List.getElem?_eq_some_iff.1 hj).1
 exact h j x (by omega) hj

theorem r_within (a b : Value) (xs ys : List Int) (w m : World) (hV : Vw m w) (ha : IntL m a xs) (hb : IntL m b ys) (hl : xs.length ≤ 1000000) (hl' : ys.length ≤ 1000000) :
  Calls Tryz.prog 37 #[a,b] w (RetV w m fun _ r => r = .bool (decide (∀ x ∈ xs,x ∈ ys))) := by
 obtain ⟨A,c,rfl,hc,ha⟩ := ha.lit
 obtain ⟨B,d,rfl,hd,hb⟩ := hb.lit
 have HB := Lib.hid hb
 have HL' := Lib.hid hl'
 have hL := Loc.start hV
 clear hV hb
 generalize hn2 : ys.length = n2 at *
 have HN2 := Lib.hid hn2
 clear hn2
 generalize hn : xs.length = n at *
 have HN := Lib.hid hn
 clear hn
 go_enter Tryz.func37,Tryz.ntmps37
 go_wp2_with (first | go_skip | refine tP ?_)
 go_loopw [5] (fun i wr => ∃ (k : Nat) (mm : World),k ≤ n ∧ i = .int .i64 k ∧ Loc w m wr mm [] ∧ Hid (∀ j y,j < k → xs[j]? = some y → y ∈ ys)) (fun i _ => n - (intOf i).toNat)
 case atStart => exact ⟨0,m,Nat.zero_le _,rfl,hL,fun j _ hj => by omega⟩
 case round =>
  clear hL
  obtain ⟨k,mm,hk,rfl,hL,HJ⟩ := hrel
  have hM := hL.mext
  by_cases hlt : k < n
  ·obtain ⟨x,hx⟩ := at_some HN hlt
   obtain ⟨b1,o1,rfl,hc1⟩ := IntL.at_ ha hx
   have HX := Lib.hid hx
   clear hx
   go_wp2_with (first | go_skip | refine tP ?_)
   refine (r_Has _ ys x _ _ hL.vw (IntL.le HB.out leX) (by rw [HN2.out];exact HL'.out)).mono ?_
   rintro e Wh1 ⟨_,mh1,rfl,hE,hMh1,hV,rfl⟩
   replace hL := hL.call hE (by assumption) hV;clear hE hV
   by_cases he : x ∈ ys
   ·have HS := Lib.hid (within_step HJ.out HX.out he)
    rw [decide_eq_true he]
    clear he
    go_wp2_with (first | go_skip | refine tP ?_)
    go_roundw
    case rel => exact ⟨k + 1,_,by omega,by go_num,hL,HS.out⟩
    case measure => simp [intOf] <;> omega
   ·have E : Hid (decide (∀ x ∈ xs,x ∈ ys) = false) := decide_eq_false fun h => he (h x (List.mem_of_getElem? HX.out))
    rw [decide_eq_false he]
    clear he
    go_wp2_with (first | go_skip | refine tP ?_)
    go_ret
    exact RetV.mk hL (congrArg Value.bool E.out.symm)
  ·have E := Lib.hid (within_end HN.out hlt HJ.out)
   go_wp2_with (first | go_skip | refine tP ?_)
   go_ret
   exact RetV.mk hL (congrArg Value.bool E.out.symm)

def AscP (xs : List Int) : Prop := ∀ (j : Nat) (x y : Int),xs[j]? = some x → xs[j + 1]? = some y → x < y
theorem AscP.lt {xs : List Int} (h : AscP xs) : ∀ (d j : Nat) (x y : Int),xs[j]? = some x → xs[j + d + 1]? = some y → x < y := by
 intro d
 induction d with
 | zero => intro j x y hx hy;exact h j x y hx hy
 | succ d ih =>
  intro j x y hx hy
  have hl := (List.getElem?_eq_some_iff.1 hy).1
  obtain ⟨z,hz⟩ : ∃ z,xs[j + d + 1]? = some z := ⟨_,List.getElem?_eq_getElem (by omega)⟩
  have h1 := ih j x z hx hz
  have h2 := h (j + d + 1) z y hz (by rw [show j + d + 1 + 1 = j + (d + 1) + 1 by omega];exact hy)
  omega

theorem r_ascT (a : Value) (xs : List Int) (w m : World) (hV : Vw m w) (ha : IntL m a xs) (hl : xs.length ≤ 1000000) (hasc : AscP xs) :
  Calls Tryz.prog 36 #[a] w (RetV w m fun _ r => r = .bool true) := by
 obtain ⟨A,c,rfl,hc,ha⟩ := ha.lit
 have HA := Lib.hid hasc
 have hL := Loc.start hV
 clear hV hasc
 generalize hn : xs.length = n at *
 have HN := Lib.hid hn
 clear hn
 go_enter Tryz.func36,Tryz.ntmps36
 go_wp2_with (first | go_skip | refine tP ?_)
 go_loopw [3] (fun i wr => ∃ (k : Nat) (mm : World),k ≤ n ∧ i = .int .i64 ((k : Int) + 1) ∧ Loc w m wr mm []) (fun i _ => n + 1 - (intOf i).toNat)
 case atStart => exact ⟨0,m,Nat.zero_le _,rfl,hL⟩
 case round =>
  clear hL
  obtain ⟨k,mm,hk,rfl,hL⟩ := hrel
  have hM := hL.mext
  by_cases hlt : k + 1 < n
  ·obtain ⟨x,hx⟩ := at_some HN (show k < n by omega)
   obtain ⟨y,hy⟩ := at_some HN hlt
   obtain ⟨b1,o1,rfl,hc1⟩ := IntL.at_ ha hx
   obtain ⟨b2,o2,e2,hc2⟩ := IntL.at_ ha hy
   obtain ⟨rfl,rfl⟩ : b1 = b2 ∧ o1 = o2 := by simpa using e2
   have hxy : x < y := HA.out k x y hx hy
   have hkn : k < n := by omega
   have e3 : ((k : Int) + 1) = ((k + 1 : Nat) : Int) := by omega
   rw [e3]
   clear hx hy e2 e3 hk
   obtain ⟨k1,hk1⟩ : ∃ k1,k1 = k + 1 := ⟨_,rfl⟩
   rw [← hk1] at hc2 hlt ⊢
   have e1 : (k1 : Int) - 1 = (k : Int) := by omega
   have e4 : wrap64 ((k1 : Int) - 1) = (k : Int) := by unfold wrap64;omega
   have HK := Lib.hid hk1
   have HXY := Lib.hid hxy
   clear hk1 hxy
   go_upto_region 4 with ((first | go_skip | refine tP ?_))
   (try simp only [eq_self] at *)
   refine wp_region_by2 10 [false,false,false,false,false,false,false,false,false,false] [false,false,false,false,false,false,false,false,false,false] [(fun v _ _ => v = ?c4_0),(fun v _ _ => v = ?c4_1),(fun v _ _ => v = ?c4_2),(fun v _ _ => v = ?c4_3),(fun v _ _ => v = ?c4_4),(fun v _ _ => v = ?c4_5),(fun v _ _ => v = ?c4_6),(fun v _ _ => v = ?c4_7),(fun v _ _ => v = ?c4_8),(fun v _ _ => v = ?c4_9)] hL.vw mixed [10,11,12,13,14,15,16,17,18,19] _ (by kernel_rfl) (fun vs => by simp only [lay,Act.put,zq1,zq2,zq3];rfl) (by kernel_rfl) (by decide) (by decide) ?s4 ?l4 ?r4
   case s4 =>
    refine ⟨?_,?_,?_,?_,?_,?_,?_,?_,?_,?_,trivial⟩
    ·intro vs W1 m1 hE hM hV hD;clear hD
     exact sPw
    ·intro vs W1 m1 hE hM hV hD;clear hD
     exact sPw
    ·intro vs W1 m1 hE hM hV hD;obtain ⟨⟨_,_,-,-,f10⟩,⟨_,_,-,-,f11⟩,-⟩ := hD
     rw [(f10 : vs 10 = _),(f11 : vs 11 = _)];clear f10 f11;exact sIy
    ·intro vs W1 m1 hE hM hV hD;obtain ⟨⟨_,_,-,-,f12⟩,-⟩ := hD
     rw [(f12 : vs 12 = _)];clear f12;exact sLe
    ·intro vs W1 m1 hE hM hV hD;clear hD
     exact sPw
    ·intro vs W1 m1 hE hM hV hD;clear hD
     exact sPw
    ·intro vs W1 m1 hE hM hV hD;obtain ⟨⟨_,_,-,-,f15⟩,-⟩ := hD
     rw [(f15 : vs 15 = _)];clear f15;exact sPw
    ·intro vs W1 m1 hE hM hV hD;obtain ⟨⟨_,_,-,-,f14⟩,⟨_,_,-,-,f16⟩,-⟩ := hD
     rw [(f14 : vs 14 = _),(f16 : vs 16 = _)];clear f14 f16;exact sIy
    ·intro vs W1 m1 hE hM hV hD;obtain ⟨⟨_,_,-,-,f17⟩,-⟩ := hD
     rw [(f17 : vs 17 = _)];clear f17;exact sLe
    ·intro vs W1 m1 hE hM hV hD;obtain ⟨⟨_,_,-,-,f13⟩,⟨_,_,-,-,f18⟩,-⟩ := hD
     rw [(f13 : vs 13 = _),(f18 : vs 18 = _)];clear f13 f18;exact sPw
   case l4 =>
    refine ⟨nF,nF,nF,nF,nF,nF,nF,nF,nF,nF,trivial⟩
   intro vs W1 m1 hE hM hV hF hD
   clear hD
   obtain ⟨⟨_,_,-,-,f10⟩,⟨_,_,-,-,f11⟩,⟨_,_,-,-,f12⟩,⟨_,_,-,-,f13⟩,⟨_,_,-,-,f14⟩,⟨_,_,-,-,f15⟩,⟨_,_,-,-,f16⟩,⟨_,_,-,-,f17⟩,⟨_,_,-,-,f18⟩,⟨_,_,-,-,f19⟩,-⟩ := hF
   replace hL := hL.call hE hM hV
   have f10 : vs 10 = _ := f10
   generalize vs 10 = x10 at f10 ⊢
   subst x10
   have f11 : vs 11 = _ := f11
   generalize vs 11 = x11 at f11 ⊢
   subst x11
   have f12 : vs 12 = _ := f12
   generalize vs 12 = x12 at f12 ⊢
   subst x12
   have f13 : vs 13 = _ := f13
   generalize vs 13 = x13 at f13 ⊢
   subst x13
   have f14 : vs 14 = _ := f14
   generalize vs 14 = x14 at f14 ⊢
   subst x14
   have f15 : vs 15 = _ := f15
   generalize vs 15 = x15 at f15 ⊢
   subst x15
   have f16 : vs 16 = _ := f16
   generalize vs 16 = x16 at f16 ⊢
   subst x16
   have f17 : vs 17 = _ := f17
   generalize vs 17 = x17 at f17 ⊢
   subst x17
   have f18 : vs 18 = _ := f18
   generalize vs 18 = x18 at f18 ⊢
   subst x18
   have f19 : vs 19 = _ := f19
   generalize vs 19 = x19 at f19 ⊢
   subst x19
   clear hE hV
   simp only [List.drop_succ_cons,List.drop_zero]
   go_wp2_with (first | go_skip | refine tP ?_)
   refine QN.mk ?_
   have hxy : ¬ y ≤ x := by have := HXY.out;omega
   go_wp2_with (first | go_skip | refine tP ?_)
   go_roundw
   case rel => exact ⟨k1,_,by omega,by go_num,hL⟩
   case measure => have := HK.out;simp [intOf] <;> omega
  ·have h0 : ¬ (k : Int) + 1 < (n : Int) := by omega
   go_wp2_with (first | go_skip | refine tP ?_)
   go_ret
   exact RetV.mk hL rfl
end Go.Proofs.YtabmjadcoepbeaaGreat

/- Contracts of slices.Index, Contains, BinarySearch and cmp.Less for int. -/
namespace Go.Proofs.YtabmjadcoepbeaaGreat
open Go.RowKit

theorem s_isNaNc (x : Int) (w m : World) (hV : Vw m w) : Calls Tryz.prog 100 #[.int .i64 x] w (RetV w m fun _ r => r = .bool false) := by
 have hL := Loc.start hV
 clear hV
 have bb : (x != x) = false := by simp
 go_enter Tryz.func100,Tryz.ntmps100
 go_wp2_with (first | go_skip | refine tP ?_)
 go_ret
 exact RetV.mk hL rfl
theorem s_isNaN (x : Int) (w m : World) (hV : Vw m w) : Calls Tryz.prog 70 #[.int .i64 x] w (RetV w m fun _ r => r = .bool false) := by
 have hL := Loc.start hV
 clear hV
 have bb : (x != x) = false := by simp
 go_enter Tryz.func70,Tryz.ntmps70
 go_wp2_with (first | go_skip | refine tP ?_)
 go_ret
 exact RetV.mk hL rfl
theorem s_Less (x y : Int) (w m : World) (hV : Vw m w) : Calls Tryz.prog 69 #[.int .i64 x,.int .i64 y] w (RetV w m fun _ r => r = .bool (decide (x < y))) := by
 have hL := Loc.start hV
 clear hV
 go_enter Tryz.func69,Tryz.ntmps69
 go_wp2_with (first | go_skip | refine tP ?_)
 refine (s_isNaNc x _ _ hL.vw).mono ?_
 rintro e Wc1 ⟨_,mc1,rfl,hE,hMc1,hV,rfl⟩
 replace hL := hL.call hE (by assumption) hV;clear hE hV
 go_wp2_with (first | go_skip | refine tP ?_)
 go_ret
 exact RetV.mk hL rfl

def Bs (xs : List Int) (t : Int) (i j : Nat) : Prop := (∀ p x,p < i → xs[p]? = some x → x < t) ∧ (∀ p x,j ≤ p → xs[p]? = some x → t ≤ x)
theorem Bs.start (xs : List Int) (t : Int) : Bs xs t 0 xs.length := ⟨fun p _ hp => by omega,fun p x hp hx => by have := (List.getElem?_eq_some_iff.1 hx).1;omega⟩
theorem Bs.up {xs : List Int} {t x : Int} {i j h : Nat} (ha : AscP xs) (hb : Bs xs t i j) (hx : xs[h]? = some x) (hl : x < t) : Bs xs t (h + 1) j := by
 refine ⟨fun p y hp hy => ?_,hb.2⟩
 rcases Nat.lt_or_ge p h with h1 | h1
 ·have := ha.lt (h - p - 1) p y x hy (by rw [show p + (h - p - 1) + 1 = h by omega];exact hx)
  omega
 ·obtain rfl : p = h := by omega
  rw [hx] at hy
  have := Option.some.inj hy
  omega
theorem Bs.down {xs : List Int} {t x : Int} {i j h : Nat} (ha : AscP xs) (hb : Bs xs t i j) (hx : xs[h]? = some x) (hl : ¬ x < t) : Bs xs t i h := by
 refine ⟨hb.1,fun p y hp hy => ?_⟩
 rcases Nat.lt_or_ge h p with h1 | h1
 ·have := ha.lt (p - h - 1) h x y hx (by rw [show h + (p - h - 1) + 1 = p by omega];exact hy)
  omega
 ·obtain rfl : p = h := by omega
  rw [hx] at hy
  have := Option.some.inj hy
  omega
theorem Bs.found {xs : List Int} {t x : Int} {i : Nat} (ha : AscP xs) (hb : Bs xs t i i) (hx : xs[i]? = some x) : decide (t ∈ xs) = decide (x = t) := by
 by_cases he : x = t
 ·rw [decide_eq_true he,decide_eq_true (he ▸ List.mem_of_getElem? hx)]
 ·rw [decide_eq_false he]
  refine decide_eq_false fun hm => ?_
  obtain ⟨p,hp⟩ := List.mem_iff_getElem?.1 hm
  rcases Nat.lt_trichotomy p i with h | h | h
  ·have := hb.1 p t h hp;omega
  ·subst h;rw [hx] at hp;exact he (Option.some.inj hp)
  ·have h1 := hb.2 i x (Nat.le_refl _) hx
   have h2 := ha.lt (p - i - 1) i x t hx (by rw [show i + (p - i - 1) + 1 = p by omega];exact hp)
   omega
theorem Bs.none {xs : List Int} {t : Int} {i n : Nat} (hb : Bs xs t i i) (hn : xs.length = n) (hi : ¬ i < n) : decide (t ∈ xs) = false := by
 refine decide_eq_false fun hm => ?_
 obtain ⟨p,hp⟩ := List.mem_iff_getElem?.1 hm
 have := (List.getElem?_eq_some_iff.1 hp).1
 have := hb.1 p t (by omega) hp
 omega
theorem s_BinarySearch (a : Value) (xs : List Int) (t : Int) (w m : World) (hV : Vw m w) (ha : IntL m a xs) (hl : xs.length ≤ 1000000) (hasc : AscP xs) :
  Calls Tryz.prog 41 #[a,.int .i64 t] w (RetV w m fun _ r => ∃ i : Nat,r = .tuple #[.int .i64 i,.bool (decide (t ∈ xs))] ∧ (t ∈ xs → xs[i]? = some t)) := by
 obtain ⟨A,c,rfl,hc,ha⟩ := ha.lit
 have HA := Lib.hid hasc
 have HS := Lib.hid (Bs.start xs t)
 have hL := Loc.start hV
 clear hV hasc
 generalize hn : xs.length = n at *
 have HN := Lib.hid hn
 clear hn
 go_enter Tryz.func41,Tryz.ntmps41
 go_wp2_with (first | go_skip | refine tP ?_)
 go_loopw [7,8] (fun si sj wr => ∃ (i j : Nat) (mm : World),i ≤ j ∧ j ≤ n ∧ si = .int .i64 i ∧ sj = .int .i64 j ∧ Loc w m wr mm [] ∧ Hid (Bs xs t i j)) (fun si sj _ => (intOf sj).toNat - (intOf si).toNat)
 case atStart => exact ⟨0,n,m,Nat.zero_le _,Nat.le_refl _,rfl,rfl,hL,HS⟩
 case round =>
  clear hL HS
  obtain ⟨i,j,mm,hij,hj,rfl,rfl,hL,HB⟩ := hrel
  have hM := hL.mext
  by_cases hlt : i < j
  ·have h1 : i ≤ (i + j) / 2 := by omega
   have h2 : (i + j) / 2 < j := by omega
   obtain ⟨x,hx⟩ := at_some HN (show (i + j) / 2 < n by omega)
   obtain ⟨b1,o1,rfl,hc1⟩ := IntL.at_ ha hx
   have HX := Lib.hid hx
   clear hx
   go_wp2_with (first | go_skip | refine tP ?_)
   refine (s_Less x t _ _ hL.vw).mono ?_
   rintro e Wc1 ⟨_,mc1,rfl,hE,hMc1,hV,rfl⟩
   replace hL := hL.call hE (by assumption) hV;clear hE hV
   by_cases hc : x < t
   ·have HU := Lib.hid (HB.out.up HA.out HX.out hc)
    rw [decide_eq_true hc]
    clear hc
    go_wp2_with (first | go_skip | refine tP ?_)
    go_roundw
    case rel => exact ⟨(i + j) / 2 + 1,j,_,by omega,hj,by go_num,rfl,hL,HU⟩
    case measure => simp [intOf] <;> omega
   ·have HU := Lib.hid (HB.out.down HA.out HX.out hc)
    rw [decide_eq_false hc]
    clear hc
    go_wp2_with (first | go_skip | refine tP ?_)
    go_roundw
    case rel => exact ⟨i,(i + j) / 2,_,by omega,by omega,rfl,by go_num,hL,HU⟩
    case measure => simp [intOf] <;> omega
  ·obtain rfl : i = j := by omega
   by_cases hin : i < n
   ·obtain ⟨x,hx⟩ := at_some HN hin
    obtain ⟨b1,o1,rfl,hc1⟩ := IntL.at_ ha hx
    have HF := Lib.hid (HB.out.found HA.out hx)
    by_cases he : x = t
    ·have bb : (x == t) = true := by simp [he]
     have E : Hid (decide (t ∈ xs) = true ∧ (t ∈ xs → xs[i]? = some t)) := ⟨by rw [HF.out,decide_eq_true he],fun _ => by rw [hx,he]⟩
     clear hx he HF
     go_wp2_with (first | go_skip | refine tP ?_)
     go_ret2
     exact RetV.mk hL ⟨i,by rw [E.out.1];rfl,E.out.2⟩
    ·have bb : (x == t) = false := by simp [he]
     have E : Hid (decide (t ∈ xs) = false) := by show _ = _;rw [HF.out,decide_eq_false he]
     clear hx he HF
     go_wp2_with (first | go_skip | refine tP ?_)
     refine (s_isNaN x _ _ hL.vw).mono ?_
     rintro e Wc2 ⟨_,mc2,rfl,hE,hMc2,hV,rfl⟩
     replace hL := hL.call hE (by assumption) hV;clear hE hV
     go_wp2_with (first | go_skip | refine tP ?_)
     go_ret2
     exact RetV.mk hL ⟨i,by rw [E.out];rfl,fun h => by rw [decide_eq_true h] at E;cases E.out⟩
   ·have E := Lib.hid (HB.out.none HN.out hin)
    go_wp2_with (first | go_skip | refine tP ?_)
    go_ret2
    exact RetV.mk hL ⟨i,by rw [E.out];rfl,fun h => by have := E.out;rw [decide_eq_true h] at this;cases this⟩
end Go.Proofs.YtabmjadcoepbeaaGreat

/- Contracts of enumerate.Operated and pairingref27.Operated. -/
namespace Go.Proofs.YtabmjadcoepbeaaGreat
open Go.RowKit

theorem zc_Task : zc Tryz.prog 105 = some #[.int .i64 0,.bool false] := by kernel_rfl
instance iAB3_1 : ZcC Tryz.prog 105 #[.int .i64 0,.bool false] := ⟨zc_Task⟩
theorem fd_Task0 : fdS Tryz.prog 105 0 = some 0 := by kernel_rfl
instance iAB3_2 : FdC Tryz.prog 105 0 0 := ⟨fd_Task0⟩
theorem fd_Task1 : fdS Tryz.prog 105 1 = some 1 := by kernel_rfl
instance iAB3_3 : FdC Tryz.prog 105 1 1 := ⟨fd_Task1⟩
theorem fd_Pair1 : fdS Tryz.prog 64 1 = some 1 := by kernel_rfl
instance iAB3_4 : FdC Tryz.prog 64 1 1 := ⟨fd_Pair1⟩
theorem lf_Duties : lfB Tryz.prog 62 = true := by kernel_rfl
instance iAB3_5 : LfC Tryz.prog 62 := ⟨lf_Duties⟩
theorem lf_Duty : lfB Tryz.prog 107 = true := by kernel_rfl
instance iAB3_6 : LfC Tryz.prog 107 := ⟨lf_Duty⟩
theorem ag_Pair : agS Tryz.prog 64 = some 2 := by kernel_rfl
instance iAB3_7 : AgC Tryz.prog 64 2 := ⟨ag_Pair⟩
theorem fd_Col0 : fdS Tryz.prog 66 0 = some 0 := by kernel_rfl
instance iAB3_8 : FdC Tryz.prog 66 0 0 := ⟨fd_Col0⟩
theorem fd_Col1 : fdS Tryz.prog 66 1 = some 2 := by kernel_rfl
instance iAB3_9 : FdC Tryz.prog 66 1 2 := ⟨fd_Col1⟩

def opT (ts : List Task) : List Int := ts.filterMap fun t => if t.2 then none else some t.1
def opF (ds : List (List Task)) : List Int := ds.flatMap opT
theorem opT_len (ts : List Task) : (opT ts).length ≤ ts.length := List.length_filterMap_le _ _
theorem opT_in {ts : List Task} {j : Nat} {x : Int} (h : ts[j]? = some (x,false)) : opT (ts.take (j + 1)) = opT (ts.take j) ++ [x] := by
 rw [← take_snoc h];simp [opT,List.filterMap_append]
theorem opT_out {ts : List Task} {j : Nat} {x : Int} (h : ts[j]? = some (x,true)) : opT (ts.take (j + 1)) = opT (ts.take j) := by
 rw [← take_snoc h];simp [opT,List.filterMap_append]
theorem opF_next {ds : List (List Task)} {k : Nat} {d : List Task} (h : ds[k]? = some d) : opF (ds.take (k + 1)) = opF (ds.take k) ++ opT d := by
 rw [← take_snoc h];simp [opF,List.flatMap_append]
theorem opF_len {ds : List (List Task)} (h : ∀ d ∈ ds,d.length ≤ 100) : (opF ds).length ≤ 100 * ds.length := by
 induction ds with
 | nil => simp [opF]
 | cons d ds ih =>
  have h1 := ih fun x hx => h x (List.mem_cons_of_mem _ hx)
  have h2 := opT_len d
  have h3 := h d (by simp)
  simp only [opF,List.flatMap_cons,List.length_append,List.length_cons] at *
  omega
theorem opF_take {ds : List (List Task)} (h : ∀ d ∈ ds,d.length ≤ 100) (k : Nat) (hk : k ≤ 100) : (opF (ds.take k)).length ≤ 10000 := by
 have h1 := opF_len (ds := ds.take k) fun d hd => h d (List.mem_of_mem_take hd)
 have h2 : (ds.take k).length ≤ k := by simp;omega
 omega
theorem DutsL.at_ {m : World} {A : Option Addr} {n c : Nat} {ds : List (List Task)} (h : DutsL m (.slice A n c) ds) {k : Nat} {d : List Task} (hk : ds[k]? = some d) :
  ∃ b off A' c',A = some ⟨b,off,none⟩ ∧ DutL m (.slice A' d.length c') d ∧ m.cell? ⟨b,off + k,none⟩ = some (.slice A' d.length c') := by
 obtain ⟨b,off,v,e,hv,_,hr⟩ := ListV.at_ h (by omega) hk
 obtain ⟨A',c',rfl,_,hv⟩ := hv.lit
 exact ⟨b,off,A',c',e,hv,by simpa using hr 0 _ rfl⟩
theorem DutL.at_ {m : World} {A : Option Addr} {n c : Nat} {ts : List Task} (h : DutL m (.slice A n c) ts) {k : Nat} {x : Int} {g : Bool} (hk : ts[k]? = some (x,g)) :
  ∃ b off,A = some ⟨b,off,none⟩ ∧ m.rangeAt b (off + k * 2) [.int .i64 x,.bool g] := by
 obtain ⟨b,off,v,e,rfl,_,hr⟩ := ListV.at_ h (by omega) hk
 exact ⟨b,off,e,hr⟩
theorem isI_mono (m m' : World) (v : Value) (x : Int) (h : IsI m v x) (_ : Le m m') : IsI m' v x := h

def RowPost {α : Type} (e : TypeId) (size : Nat) (R : World → Value → α → Prop) (w m : World) (xs : List α) (en : Ending) (w' : World) : Prop :=
 ∃ (m' : World) (n : Nat) (A : Option Addr) (c : Nat) (Rr : List Lo),en = .returned (.slice A n c) ∧ Loc w m w' m' Rr ∧ RowA e size R m' (.slice A n c) n xs Rr
theorem RowPost.show {α : Type} {e : TypeId} {size : Nat} {R : World → Value → α → Prop} (hR : ∀ m m' v x,R m v x → Le m m' → R m' v x) {w m w' : World} {xs : List α} {en : Ending} (h : RowPost e size R w m xs en w') : RetV w m (fun m' r => ListV size R m' r xs) en w' := by
 obtain ⟨m',n,A,c,Rr,rfl,hL,row⟩ := h
 obtain ⟨m9,hL9,hle9,hl9,-⟩ := RowA.show (A := []) hR hL row
 exact RetV.mk hL9 hl9
theorem e_OperatedR (s : ByteArray) (v : Value) (ds : List (List Task)) (w m : World) (hV : Vw m w) (h : DutsL m v ds) (h1 : ds.length ≤ 100) (h2 : ∀ d ∈ ds,d.length ≤ 100) :
  Calls Tryz.prog 40 #[.agg #[.string s,v]] w (RowPost 3 1 IsI w m (opF ds)) := by
 obtain ⟨D,cd,rfl,hcd,h⟩ := h.lit
 have H2 := Lib.hid h2
 have hL := Loc.start hV
 clear hV h2
 generalize hq : ds.length = nd at *
 have HQ := Lib.hid hq
 clear hq
 go_enter Tryz.func40,Tryz.ntmps40
 go_upto_region 0 with (fail)
 refine wp_region_lit ?_
 refine t_box hL rfl rfl ?_;clear hL;intro Wh1 mh1 hL eh1;simp only [Act.put,zq1,zq2,zq3]
 go_wp2_with (first | go_skip | refine tP ?_ | (refine tS ?_;clear hL;intro _ hL) | (refine tB ?_;clear hL;intro _ _ hL _) | (refine tC ?_;clear hL;intro _ _ hL _ hBs))
 go_loopw [3,11] (fun out i wr => ∃ (k : Nat) (mm : World) (n3 : Nat) (R3 : List Lo),k ≤ nd ∧ i = .int .i64 k ∧ Loc w m wr mm ((w.heap.size,64,#[.string s,.slice D nd cd]) :: R3) ∧ Hid (RowA 3 1 IsI mm out n3 (opF (ds.take k)) R3)) (fun _ i _ => nd - (intOf i).toNat)
 case atStart => exact ⟨0,_,0,[],Nat.zero_le _,rfl,hL,RowA.nil⟩
 case round =>
  clear hL
  obtain ⟨k,mm,n3,R3,hk,rfl,hL,row⟩ := hrel
  have hM := hL.mext
  obtain ⟨A3,c3,rfl,row1⟩ := row.out.lit
  have ROW := Lib.hid row1
  clear row row1
  by_cases hlt : k < nd
  ·obtain ⟨d,hd⟩ := at_some HQ hlt
   obtain ⟨b1,o1,A4,c4,rfl,hdu,hc1⟩ := DutsL.at_ h hd
   have HD := Lib.hid (opF_next hd)
   have hdl : d.length ≤ 100 := H2.out d (List.mem_of_getElem? hd)
   have HT := Lib.hid (opF_take H2.out k (by omega))
   clear hd
   generalize hq2 : d.length = nt at *
   have HQ2 := Lib.hid hq2
   clear hq2
   go_wp2_with (first | go_skip | refine tP ?_ | (refine tS ?_;clear hL;intro _ hL) | (refine tB ?_;clear hL;intro _ _ hL _) | (refine tC ?_;clear hL;intro _ _ hL _ hBs))
   go_loopw [3,17] (fun out i wr => ∃ (j : Nat) (m2 : World) (n4 : Nat) (R4 : List Lo),j ≤ nt ∧ i = .int .i64 j ∧ Loc w m wr m2 ((w.heap.size,64,#[.string s,.slice (some ⟨b1,o1,none⟩) nd cd]) :: R4) ∧ Hid (RowA 3 1 IsI m2 out n4 (opF (ds.take k) ++ opT (d.take j)) R4)) (fun _ i _ => nt - (intOf i).toNat)
   case atStart => exact ⟨0,mm,n3,R3,Nat.zero_le _,rfl,hL,by show RowA _ _ _ _ _ _ _ _;simpa [opT] using ROW.out⟩
   case round =>
    clear hL ROW hM
    obtain ⟨j,m2,n4,R4,hj,rfl,hL,row⟩ := hrel
    have hM := hL.mext
    obtain ⟨A5,c5,rfl,row1⟩ := row.out.lit
    have hn4 : n4 ≤ 10100 := by
     have e := row1.len
     rw [List.length_append] at e
     have := HT.out
     have := opT_len (d.take j)
     have : (d.take j).length ≤ j := by simp;omega
     omega
    have ROW := Lib.hid row1
    clear row row1
    by_cases hlt2 : j < nt
    ·obtain ⟨⟨x,g⟩,hx⟩ := at_some HQ2 hlt2
     obtain ⟨b2,o2,rfl,hr2⟩ := DutL.at_ hdu hx
     cases g
     ·have HS := Lib.hid (opT_in hx)
      clear hx
      go_wp2_with (first | go_skip | refine tP ?_ | (refine tS ?_;clear hL;intro _ hL) | (refine tB ?_;clear hL;intro _ _ hL _) | (refine tC ?_;clear hL;intro _ _ hL _ hBs))
      refine goA ?_
      obtain ⟨vs7,r7,z7,y7,l7⟩ := ROW.out
      refine wl_append (A := [_,_]) hL r7 (wanted_none rfl) rfl ap_ints (by omega) rfl rfl (news := [.int .i64 x]) rfl ((Blk.sl hBs (n := 1) rfl).le hL.vw.le) rfl (by omega) (by omega) ?_
      clear hL
      intro v1 W5 m5 R5 hL r8 e8
      obtain ⟨A9,c9,rfl,-⟩ := r8.lit
      simp only [List.cons_append,List.nil_append] at hL
      have rd2 := RowA.snocV (R := IsI) (m := m5) (x := x) r8 z7 (y7.mono fun _ _ hv => hv) l7 rfl rfl rfl
      simp only [Act.put,zq1,zq2,zq3]
      go_wp2_with (first | go_skip | refine tP ?_ | (refine tS ?_;clear hL;intro _ hL) | (refine tB ?_;clear hL;intro _ _ hL _) | (refine tC ?_;clear hL;intro _ _ hL _ hBs))
      go_roundw
      case rel => exact ⟨j + 1,m5,n4 + 1,R5,by omega,by go_num,hL.tail,by rw [HS.out,← List.append_assoc];exact rd2⟩
      case measure => simp [intOf] <;> omega
     ·have HS := Lib.hid (opT_out hx)
      clear hx
      go_wp2_with (first | go_skip | refine tP ?_ | (refine tS ?_;clear hL;intro _ hL) | (refine tB ?_;clear hL;intro _ _ hL _) | (refine tC ?_;clear hL;intro _ _ hL _ hBs))
      go_roundw
      case rel => exact ⟨j + 1,_,n4,R4,by omega,by go_num,hL.tail,by rw [HS.out];exact RowA.le isI_mono ROW.out leX⟩
      case measure => simp [intOf] <;> omega
    ·have E : Hid (opF (ds.take k) ++ opT (d.take j) = opF (ds.take (k + 1))) := by
      show _ = _
      rw [HD.out,List.take_of_length_le (l := d) (by rw [HQ2.out];omega)]
     go_wp2_with (first | go_skip | refine tP ?_ | (refine tS ?_;clear hL;intro _ hL) | (refine tB ?_;clear hL;intro _ _ hL _) | (refine tC ?_;clear hL;intro _ _ hL _ hBs))
     go_roundw
     case rel => exact ⟨k + 1,m2,n4,R4,by omega,by go_num,hL,by rw [← E.out];exact ROW.out⟩
     case measure => simp [intOf] <;> omega
  ·have E : Hid (opF (ds.take k) = opF ds) := by show _ = _;rw [List.take_of_length_le (by rw [HQ.out];omega)]
   go_wp2_with (first | go_skip | refine tP ?_ | (refine tS ?_;clear hL;intro _ hL) | (refine tB ?_;clear hL;intro _ _ hL _) | (refine tC ?_;clear hL;intro _ _ hL _ hBs))
   have row2 := ROW.out
   rw [E.out] at row2
   go_ret
   exact ⟨_,_,_,_,_,rfl,hL.tail,row2⟩

theorem e_Operated (s : ByteArray) (v : Value) (ds : List (List Task)) (w m : World) (hV : Vw m w) (h : DutsL m v ds) (h1 : ds.length ≤ 100) (h2 : ∀ d ∈ ds,d.length ≤ 100) :
  Calls Tryz.prog 40 #[.agg #[.string s,v]] w (RetV w m fun m' r => IntL m' r (opF ds)) :=
 (e_OperatedR s v ds w m hV h h1 h2).mono fun _ _ h => h.show isI_mono

theorem r_Operated (s : ByteArray) (v : Value) (ds : List (List Task)) (w m : World) (hV : Vw m w) (h : DutsL m v ds) (h1 : ds.length ≤ 100) (h2 : ∀ d ∈ ds,d.length ≤ 100) :
  Calls Tryz.prog 28 #[.agg #[.string s,v]] w (RetV w m fun m' r => IntL m' r (opF ds)) := by
 obtain ⟨D,cd,rfl,hcd,h⟩ := h.lit
 have H2 := Lib.hid h2
 have hL := Loc.start hV
 clear hV h2
 generalize hq : ds.length = nd at *
 have HQ := Lib.hid hq
 clear hq
 go_enter Tryz.func28,Tryz.ntmps28
 go_upto_region 0 with (fail)
 refine wp_region_lit ?_
 refine t_box hL rfl rfl ?_;clear hL;intro Wh1 mh1 hL eh1;simp only [Act.put,zq1,zq2,zq3]
 go_wp2_with (first | go_skip | refine tP ?_ | (refine tB ?_;clear hL;intro _ _ hL _) | (refine tC ?_;clear hL;intro _ _ hL _ hBs))
 go_loopw [3,4] (fun out i wr => ∃ (k : Nat) (mm : World) (n3 : Nat) (R3 : List Lo),k ≤ nd ∧ i = .int .i64 k ∧ Loc w m wr mm ((w.heap.size,64,#[.string s,.slice D nd cd]) :: R3) ∧ Hid (RowA 3 1 IsI mm out n3 (opF (ds.take k)) R3)) (fun _ i _ => nd - (intOf i).toNat)
 case atStart => exact ⟨0,_,0,[],Nat.zero_le _,rfl,hL,RowA.nil⟩
 case round =>
  clear hL
  obtain ⟨k,mm,n3,R3,hk,rfl,hL,row⟩ := hrel
  have hM := hL.mext
  obtain ⟨A3,c3,rfl,row1⟩ := row.out.lit
  have ROW := Lib.hid row1
  clear row row1
  by_cases hlt : k < nd
  ·obtain ⟨d,hd⟩ := at_some HQ hlt
   obtain ⟨b1,o1,A4,c4,rfl,hdu,hc1⟩ := DutsL.at_ h hd
   have HD := Lib.hid (opF_next hd)
   have hdl : d.length ≤ 100 := H2.out d (List.mem_of_getElem? hd)
   have HT := Lib.hid (opF_take H2.out k (by omega))
   clear hd
   generalize hq2 : d.length = nt at *
   have HQ2 := Lib.hid hq2
   clear hq2
   go_wp2_with (first | go_skip | refine tP ?_ | (refine tB ?_;clear hL;intro _ _ hL _) | (refine tC ?_;clear hL;intro _ _ hL _ hBs))
   go_loopw [3,5] (fun out i wr => ∃ (j : Nat) (m2 : World) (n4 : Nat) (R4 : List Lo),j ≤ nt ∧ i = .int .i64 j ∧ Loc w m wr m2 ((w.heap.size,64,#[.string s,.slice (some ⟨b1,o1,none⟩) nd cd]) :: R4) ∧ Hid (RowA 3 1 IsI m2 out n4 (opF (ds.take k) ++ opT (d.take j)) R4)) (fun _ i _ => nt - (intOf i).toNat)
   case atStart => exact ⟨0,mm,n3,R3,Nat.zero_le _,rfl,hL,by show RowA _ _ _ _ _ _ _ _;simpa [opT] using ROW.out⟩
   case round =>
    clear hL ROW hM
    obtain ⟨j,m2,n4,R4,hj,rfl,hL,row⟩ := hrel
    have hM := hL.mext
    obtain ⟨A5,c5,rfl,row1⟩ := row.out.lit
    have hn4 : n4 ≤ 10100 := by
     have e := row1.len
     rw [List.length_append] at e
     have := HT.out
     have := opT_len (d.take j)
     have : (d.take j).length ≤ j := by simp;omega
     omega
    have ROW := Lib.hid row1
    clear row row1
    by_cases hlt2 : j < nt
    ·obtain ⟨⟨x,g⟩,hx⟩ := at_some HQ2 hlt2
     obtain ⟨b2,o2,rfl,hr2⟩ := DutL.at_ hdu hx
     have hx0 := hr2 0 _ rfl
     have hx1 := hr2 1 _ rfl
     rw [Nat.add_zero] at hx0
     cases g
     ·have HS := Lib.hid (opT_in hx)
      clear hx hr2
      go_wp2_with (first | go_skip | refine tP ?_ | (refine tB ?_;clear hL;intro _ _ hL _) | (refine tC ?_;clear hL;intro _ _ hL _ hBs))
      refine goA ?_
      obtain ⟨vs7,r7,z7,y7,l7⟩ := ROW.out
      refine wl_append (A := [_]) hL r7 (wanted_none rfl) rfl ap_ints (by omega) rfl rfl (news := [.int .i64 x]) rfl ((Blk.sl hBs (n := 1) rfl).le hL.vw.le) rfl (by omega) (by omega) ?_
      clear hL
      intro v1 W5 m5 R5 hL r8 e8
      obtain ⟨A9,c9,rfl,-⟩ := r8.lit
      simp only [List.cons_append,List.nil_append] at hL
      have rd2 := RowA.snocV (R := IsI) (m := m5) (x := x) r8 z7 (y7.mono fun _ _ hv => hv) l7 rfl rfl rfl
      simp only [Act.put,zq1,zq2,zq3]
      go_wp2_with (first | go_skip | refine tP ?_ | (refine tB ?_;clear hL;intro _ _ hL _) | (refine tC ?_;clear hL;intro _ _ hL _ hBs))
      go_roundw
      case rel => exact ⟨j + 1,m5,n4 + 1,R5,by omega,by go_num,hL,by rw [HS.out,← List.append_assoc];exact rd2⟩
      case measure => simp [intOf] <;> omega
     ·have HS := Lib.hid (opT_out hx)
      clear hx hr2
      go_wp2_with (first | go_skip | refine tP ?_ | (refine tB ?_;clear hL;intro _ _ hL _) | (refine tC ?_;clear hL;intro _ _ hL _ hBs))
      go_roundw
      case rel => exact ⟨j + 1,_,n4,R4,by omega,by go_num,hL,by rw [HS.out];exact ROW.out⟩
      case measure => simp [intOf] <;> omega
    ·have E : Hid (opF (ds.take k) ++ opT (d.take j) = opF (ds.take (k + 1))) := by
      show _ = _
      rw [HD.out,List.take_of_length_le (l := d) (by rw [HQ2.out];omega)]
     go_wp2_with (first | go_skip | refine tP ?_ | (refine tB ?_;clear hL;intro _ _ hL _) | (refine tC ?_;clear hL;intro _ _ hL _ hBs))
     go_roundw
     case rel => exact ⟨k + 1,m2,n4,R4,by omega,by go_num,hL,by rw [← E.out];exact ROW.out⟩
     case measure => simp [intOf] <;> omega
  ·have E : Hid (opF (ds.take k) = opF ds) := by show _ = _;rw [List.take_of_length_le (by rw [HQ.out];omega)]
   go_wp2_with (first | go_skip | refine tP ?_ | (refine tB ?_;clear hL;intro _ _ hL _) | (refine tC ?_;clear hL;intro _ _ hL _ hBs))
   have row2 := ROW.out
   rw [E.out] at row2
   obtain ⟨m9,hL9,hle9,hl9,-⟩ := RowA.show (A := [_]) isI_mono hL row2
   go_ret
   exact RetV.mk hL9 hl9
end Go.Proofs.YtabmjadcoepbeaaGreat

/- Sets of numbers as maps to bool, beside the view; contracts of master.validCut and pairingref27.ValidCut for valid cuts. -/
namespace Go.Proofs.YtabmjadcoepbeaaGreat
open Go.RowKit Go.Maps

theorem Loc.allocM {w0 m0 W m : World} {Ls : List Lo} (h : Loc w0 m0 W m Ls) (o : Obj) : Loc w0 m0 (W.alloc o) (hidTo m (W.alloc o).heap.size) Ls := by
 have hs : m.heap.size ≤ (W.alloc o).heap.size := by rw [h.vw.size];simp
 refine ⟨h.size0,h.ext.alloc _,h.mext.trans (hidTo_ext hs),⟨h.vw.os,h.vw.tape,h.vw.output,hidTo_size hs,fun a u hu => ?_⟩,h.low,fun x hx => (h.blk x hx).alloc _,fun x hx a ha => ?_,h.apart⟩
 ·rcases Nat.lt_or_ge a.block m.heap.size with hb | hb
  ·rw [cell_of_heap (hidTo_old hb)] at hu
   exact cell_alloc_old (h.vw.cell _ _ hu)
  ·rw [hidTo_new hb] at hu;cases hu
 ·have hb : a.block < m.heap.size := by rw [ha,h.vw.size];exact (h.blk x hx).lt
  rw [cell_of_heap (hidTo_old hb)]
  exact h.hid x hx a ha
theorem Loc.mapTurn {w0 m0 W m W' : World} {Ls : List Lo} (h : Loc w0 m0 W m Ls) {b : Nat} (hg : W.grownBy W' (some b)) (hb : w0.heap.size ≤ b) (hm : ∀ cs t fr,W.heap[b]? ≠ some (.cells cs t fr)) : Loc w0 m0 W' (hidTo m W'.heap.size) Ls := by
 have hs : m.heap.size ≤ W'.heap.size := by rw [h.vw.size];exact hg.size
 refine ⟨h.size0,h.ext.grown hg (fun k hk => by cases hk;exact hb),h.mext.trans (hidTo_ext hs),⟨h.vw.os.trans hg.os.symm,h.vw.tape.trans hg.tape.symm,h.vw.output.trans hg.output.symm,hidTo_size hs,fun a u hu => ?_⟩,h.low,fun x hx => ?_,fun x hx a ha => ?_,h.apart⟩
 ·rcases Nat.lt_or_ge a.block m.heap.size with hlt | hlt
  ·rw [cell_of_heap (hidTo_old hlt)] at hu
   have hc := h.vw.cell _ _ hu
   have hne : some a.block ≠ some b := by
    intro e
    have e' := Option.some.inj e
    unfold World.cell? at hc
    cases ho : W.heap[a.block]? with
    | none => rw [ho] at hc;cases hc
    | some ob =>
     rw [ho] at hc
     cases ob with
     | cells cs t fr => exact hm cs t fr (by rw [← e',ho])
     | _ => cases hc
   rw [World.cell?_of_block (hg.block _ (by rw [← h.vw.size];exact hlt) hne)]
   exact hc
  ·rw [hidTo_new hlt] at hu;cases hu
 ·have hbk := h.blk x hx
  refine (hg.block _ hbk.lt fun e => ?_).trans hbk
  exact hm _ _ _ (by rw [← Option.some.inj e];exact hbk)
 ·have hlt : a.block < m.heap.size := by rw [ha,h.vw.size];exact (h.blk x hx).lt
  rw [cell_of_heap (hidTo_old hlt)]
  exact h.hid x hx a ha

theorem keyI : Keyed Tryz.prog 3 := int_keyed Tryz.underlying3
def BSet (W : World) (b : Nat) (xs : List Int) : Prop := ∃ n,n ≤ xs.length ∧ W.ownsMap (H := Unit) Tryz.prog 3 (plainElem Tryz.prog 4) b n (setOf (.lit (.bool true)) (xs.map (Lit.int .i64)))
theorem BSet.made (W : World) : BSet (W.alloc (.map #[] 0)) W.heap.size [] := ⟨0,Nat.le_refl _,World.ownsMap_made _ _ _ _⟩
theorem BSet.ext {W W' : World} {b : Nat} {xs : List Int} (h : BSet W b xs) (hE : Ext W W') : BSet W' b xs := by
 obtain ⟨n,hn,es,clock,hb,h⟩ := h
 have hlt : b < W.heap.size := (Array.getElem?_eq_some_iff.1 hb).1
 exact ⟨n,hn,es,clock,(hE.block b hlt).trans hb,h⟩
theorem BSet.notCells {W : World} {b : Nat} {xs : List Int} (h : BSet W b xs) : ∀ cs t fr,W.heap[b]? ≠ some (.cells cs t fr) := by
 obtain ⟨n,hn,es,clock,hb,h⟩ := h
 intro cs t fr e
 rw [hb] at e
 cases e
theorem setOf_at (u z : DataW Unit) (k : Lit) (hk : WideAt.IsKeyLit k) : ∀ (acc : List Lit),(∀ x ∈ acc,WideAt.IsKeyLit x) → (k ∈ acc → (setOf u acc.reverse).atKey k z = u) ∧ (k ∉ acc → (setOf u acc.reverse).atKey k z = z)
 | [],_ => ⟨fun h => absurd h List.not_mem_nil,fun _ => rfl⟩
 | x :: acc,h => by
  rw [List.reverse_cons,setOf_snoc]
  have ih := setOf_at u z k hk acc fun y hy => h y (List.mem_cons_of_mem _ hy)
  have hm : IsMap (setOf u acc.reverse) := (tidy_setOf u acc.reverse fun y hy => h y (List.mem_cons_of_mem _ (List.mem_reverse.1 hy))).isMap
  by_cases e : k = x
  ·subst e
   rw [atKey_put_same hm hk]
   exact ⟨fun _ => rfl,fun hn => absurd (List.mem_cons_self) hn⟩
  ·rw [atKey_put_other e]
   refine ⟨fun hx => ih.1 ?_,fun hn => ih.2 fun hx => hn (List.mem_cons_of_mem _ hx)⟩
   rcases List.mem_cons.1 hx with h1 | h1
   ·exact absurd h1 e
   ·exact h1
theorem isKey_int (x : Int) : WideAt.IsKeyLit (.int .i64 x) := trivial
theorem setOf_atI (xs : List Int) (x : Int) : (setOf (H := Unit) (.lit (.bool true)) (xs.map (Lit.int .i64))).atKey (.int .i64 x) (.lit (.bool false)) = .lit (.bool (decide (x ∈ xs))) := by
 have h := setOf_at (.lit (.bool true)) (.lit (.bool false)) (.int .i64 x) (isKey_int x) ((xs.map (Lit.int .i64)).reverse) (fun y hy => by
  simp only [List.mem_reverse,List.mem_map] at hy
  obtain ⟨z,_,rfl⟩ := hy
  exact isKey_int z)
 rw [List.reverse_reverse] at h
 by_cases hx : x ∈ xs
 ·rw [h.1 (List.mem_reverse.2 (List.mem_map.2 ⟨x,hx,rfl⟩)),decide_eq_true hx]
 ·rw [h.2 fun hm => ?_,decide_eq_false hx]
  obtain ⟨y,hy,e⟩ := List.mem_map.1 (List.mem_reverse.1 hm)
  cases e
  exact hx hy
theorem zeroB (w : World) : (zeroValue 4).run Tryz.prog w = .ok (.bool false) w := by kernel_rfl
theorem plainElem_bool_inv {v : Value} {z : DataW Unit × List MemPlace} (h : plainElem Tryz.prog 4 v = some z) : ∃ x,v = .bool x ∧ z = (.lit (.bool x),[]) := by
 unfold plainElem at h
 rw [Tryz.underlying4] at h
 cases v <;> simp at h
 exact ⟨_,rfl,h.symm⟩
theorem BSet.look {W : World} {b : Nat} {xs : List Int} (h : BSet W b xs) {x : Int} (hw : (Lit.int .i64 x).wf = true) : (Instr.lookup 109 (.map (some b)) (.int .i64 x) false).run Tryz.prog W = .ok (.bool (decide (x ∈ xs))) W := by
 obtain ⟨n,hn,h⟩ := h
 obtain ⟨v,ps,hrun,hv⟩ := h.lookup keyI Tryz.underlying109 (zeroB W) (plainElem_bool Tryz.underlying4 false) (keyOf_int_mk Tryz.underlying3 hw)
 rw [setOf_atI] at hv
 obtain ⟨c,rfl,hc⟩ := plainElem_bool_inv hv
 simp only [Prod.mk.injEq,DataW.lit.injEq,Lit.bool.injEq] at hc
 rw [hrun,← hc.1]
theorem BSet.up {W : World} {b : Nat} {xs : List Int} (h : BSet W b xs) (hl : xs.length ≤ 1000000) {x : Int} (hw : (Lit.int .i64 x).wf = true) :
  ∃ W',(Instr.mapUpdate 109 (.map (some b)) (.int .i64 x) (.bool true)).run Tryz.prog W = .ok () W' ∧ BSet W' b (xs ++ [x]) ∧ W.grownBy W' (some b) := by
 obtain ⟨n,hn,h⟩ := h
 obtain ⟨W',h1,h2,h3⟩ := h.update keyI Tryz.underlying109 (by unfold maxLen;omega) (keyOf_int_mk Tryz.underlying3 hw) (plainElem_bool Tryz.underlying4 true)
 refine ⟨W',h1,⟨n + 1,by simp;omega,?_⟩,h3⟩
 rw [List.map_append,List.map_cons,List.map_nil,setOf_snoc]
 exact h2
theorem wf_small {x : Int} (h1 : -1000000 ≤ x) (h2 : x ≤ 1000000) : (Lit.int .i64 x).wf = true := WalkArith.wf_i64 (by omega)

theorem Loc.world {w0 m0 W m : World} {Ls : List Lo} (_ : Loc w0 m0 W m Ls) : ∃ x,x = W := ⟨W,rfl⟩
structure CutOk (rs : List Int) (x : Cut) : Prop where
 asc : AscP x.1
 sub : ∀ r ∈ x.1,r ∈ rs
 two : 2 ≤ x.2
 le : x.2 ≤ (x.1.length : Int)
 len : x.1.length ≤ 1000000
end Go.Proofs.YtabmjadcoepbeaaGreat

/- Contracts of master.validCut and pairingref27.ValidCut for valid cuts. -/
namespace Go.Proofs.YtabmjadcoepbeaaGreat
open Go.RowKit

theorem asc_prev {xs : List Int} (h : AscP xs) {j : Nat} {x y : Int} (hy : xs[j]? = some y) (hx : xs[j + 1]? = some x) : ¬ x ≤ y := by
 have := h j y x hy hx;omega

theorem m_validCut (rv v : Value) (rs : List Int) (x : Cut) (w m : World) (hV : Vw m w) (hr : IntL m rv rs) (hv : CutR m v x) (hrl : rs.length ≤ 1000000) (hra : AscP rs) (ok : CutOk rs x) :
  Calls Tryz.prog 42 #[rv,v] w (RetV w m fun _ r => r = .bool true) := by
 obtain ⟨xs,dv⟩ := x
 obtain ⟨sv,rfl,hs,-⟩ := hv
 simp only at hs
 obtain ⟨B,d,rfl,hd,hr⟩ := hr.lit
 obtain ⟨A,c,rfl,hc,ha⟩ := hs.lit
 obtain ⟨o1,o2,o3,o4,o5⟩ := ok
 simp only at o1 o2 o3 o4 o5
 have HR := Lib.hid hr
 have HRL := Lib.hid hrl
 have HRA := Lib.hid hra
 have HA := Lib.hid o1
 have HS := Lib.hid o2
 have hL := Loc.start hV
 clear hV hr hra o1 o2 hrl
 generalize hn2 : rs.length = n2 at *
 have HN2 := Lib.hid hn2
 clear hn2
 generalize hn : xs.length = n at *
 have HN := Lib.hid hn
 clear hn
 have d1 : dv ≥ 2 := by omega
 have d2 : dv ≤ (n : Int) := o4
 go_enter Tryz.func42,Tryz.ntmps42
 go_upto_region 0 with (fail)
 refine wp_region_lit ?_
 refine t_box hL rfl rfl ?_;clear hL;intro Wh3 mh3 hL eh3;simp only [Act.put,zq1,zq2,zq3]
 go_wp2_with (first | go_skip | refine tP ?_ | (refine tB ?_;clear hL;intro _ _ hL _))
 go_loopw [12] (fun i wr => ∃ (k : Nat) (mm : World),k ≤ n ∧ i = .int .i64 k ∧ Loc w m wr mm [(w.heap.size,69,#[.slice A n c,.int .i64 dv])]) (fun i _ => n - (intOf i).toNat)
 case atStart => exact ⟨0,_,Nat.zero_le _,rfl,hL⟩
 case round =>
  clear hL
  obtain ⟨k,mm,hk,rfl,hL⟩ := hrel
  have hM := hL.mext
  by_cases hlt : k < n
  ·obtain ⟨x,hx⟩ := at_some HN hlt
   obtain ⟨b1,o1,rfl,hc1⟩ := IntL.at_ ha hx
   have hin : x ∈ rs := HS.out x (List.mem_of_getElem? hx)
   have HIN := Lib.hid hin
   by_cases h0 : k = 0
   ·subst h0
    clear hx hin
    go_wp2_with (first | go_skip | refine tP ?_ | (refine tB ?_;clear hL;intro _ _ hL _))
    refine (s_BinarySearch _ rs x _ _ hL.vw (IntL.le HR.out leX) (by rw [HN2.out];exact HRL.out) HRA.out).mono ?_
    rintro e W2 ⟨_,m2,rfl,hE,hM2,hV,i,rfl,-⟩
    replace hL := hL.call hE (by assumption) hV;clear hE hV
    rw [decide_eq_true HIN.out]
    go_wp2_with (first | go_skip | refine tP ?_ | (refine tB ?_;clear hL;intro _ _ hL _))
    go_roundw
    case rel => exact ⟨1,_,by omega,by go_num,hL⟩
    case measure => simp [intOf] <;> omega
   ·obtain ⟨j,rfl⟩ : ∃ j,k = j + 1 := ⟨k - 1,by omega⟩
    obtain ⟨y,hy⟩ := at_some HN (show j < n by omega)
    obtain ⟨b2,o2,e2,hc2⟩ := IntL.at_ ha hy
    obtain ⟨rfl,rfl⟩ : b1 = b2 ∧ o1 = o2 := by simpa using e2
    have hk0 : ((j + 1 : Nat) : Int) > 0 := by omega
    have hyx := asc_prev HA.out hy hx
    have hj3 : (j : Int) + 1 - 1 = (j : Int) := by omega
    have hjn : j < n := by omega
    clear hx hy hin e2 h0
    go_wp2_with (first | go_skip | refine tP ?_ | (refine tB ?_;clear hL;intro _ _ hL _))
    refine (s_BinarySearch _ rs x _ _ hL.vw (IntL.le HR.out leX) (by rw [HN2.out];exact HRL.out) HRA.out).mono ?_
    rintro e W2 ⟨_,m2,rfl,hE,hM2,hV,i,rfl,-⟩
    replace hL := hL.call hE (by assumption) hV;clear hE hV
    rw [decide_eq_true HIN.out]
    go_wp2_with (first | go_skip | refine tP ?_ | (refine tB ?_;clear hL;intro _ _ hL _))
    go_roundw
    case rel => exact ⟨j + 1 + 1,_,by omega,by go_num,hL⟩
    case measure => simp [intOf] <;> omega
  ·go_wp2_with (first | go_skip | refine tP ?_ | (refine tB ?_;clear hL;intro _ _ hL _))
   go_ret
   exact RetV.mk hL rfl

theorem r_ValidCut (rv v : Value) (rs : List Int) (x : Cut) (w m : World) (hV : Vw m w) (hr : IntL m rv rs) (hv : CutR m v x) (hrl : rs.length ≤ 1000000) (ok : CutOk rs x) :
  Calls Tryz.prog 39 #[rv,v] w (RetV w m fun _ r => r = .bool true) := by
 obtain ⟨xs,dv⟩ := x
 obtain ⟨sv,rfl,hs,-⟩ := hv
 simp only at hs
 obtain ⟨B,d,rfl,hd,hr⟩ := hr.lit
 obtain ⟨A,c,rfl,hc,ha⟩ := hs.lit
 obtain ⟨o1,o2,o3,o4,o5⟩ := ok
 simp only at o1 o2 o3 o4 o5
 have HR := Lib.hid hr
 have HRL := Lib.hid hrl
 have HA := Lib.hid o1
 have HX := Lib.hid ha
 have H5 := Lib.hid o5
 have HS : Hid (decide (∀ r ∈ xs,r ∈ rs) = true) := decide_eq_true o2
 have hL := Loc.start hV
 clear hV hr o1 o2 hrl ha
 generalize hn2 : rs.length = n2 at *
 have HN2 := Lib.hid hn2
 clear hn2
 generalize hn : xs.length = n at *
 have HN := Lib.hid hn
 clear hn
 have d1 : dv ≥ 2 := by omega
 have d2 : dv ≤ (n : Int) := o4
 go_enter Tryz.func39,Tryz.ntmps39
 go_upto_region 0 with (fail)
 refine wp_region_lit ?_
 refine t_box hL rfl rfl ?_;clear hL;intro Wh3 mh3 hL eh3;simp only [Act.put,zq1,zq2,zq3]
 go_wp2_with (first | go_skip | refine tP ?_ | (refine tB ?_;clear hL;intro _ _ hL _))
 refine (r_ascT _ xs _ _ hL.vw (IntL.le HX.out leX) (by rw [HN.out];exact H5.out) HA.out).mono ?_
 rintro e Wc1 ⟨_,mc1,rfl,hE,hMc1,hV,rfl⟩
 replace hL := hL.call hE (by assumption) hV;clear hE hV
 go_wp2_with (first | go_skip | refine tP ?_ | (refine tB ?_;clear hL;intro _ _ hL _))
 refine (r_within _ _ xs rs _ _ hL.vw (IntL.le HX.out leX) (IntL.le HR.out leX) (by rw [HN.out];exact H5.out) (by rw [HN2.out];exact HRL.out)).mono ?_
 rintro e Wc2 ⟨_,mc2,rfl,hE,hMc2,hV,rfl⟩
 replace hL := hL.call hE (by assumption) hV;clear hE hV
 rw [HS.out]
 go_wp2_with (first | go_skip | refine tP ?_ | (refine tB ?_;clear hL;intro _ _ hL _))
 go_ret
 exact RetV.mk hL rfl
end Go.Proofs.YtabmjadcoepbeaaGreat

/- Contract of master.ValidateMaster for valid master problems. -/
namespace Go.Proofs.YtabmjadcoepbeaaGreat
open Go.RowKit

structure ColOk (rs : List Int) (x : Col) : Prop where
 c1 : -1125899906842624 ≤ x.2.2
 c2 : x.2.2 ≤ 1125899906842624
 nd : x.2.1.length ≤ 100
 nt : ∀ d ∈ x.2.1,d.length ≤ 100
 pos : 0 < (opF x.2.1).length
 sub : ∀ f ∈ opF x.2.1,f ∈ rs
 nodup : (opF x.2.1).Nodup
structure MsOk (x : Ms) : Prop where
 f0 : 0 ≤ x.nf
 f1 : x.nf ≤ 200
 p0 : 0 ≤ x.pen
 p1 : x.pen ≤ 4294967296
 r0 : 1 ≤ x.rows.length
 r1 : x.rows.length ≤ 32
 asc : AscP x.rows
 low : ∀ r ∈ x.rows,0 ≤ r ∧ r < x.nf
 k1 : x.cols.length ≤ 1000
 cols : ∀ c ∈ x.cols,ColOk x.rows c
 k2 : x.cuts.length ≤ 32
 cuts : ∀ c ∈ x.cuts,CutOk x.rows c
theorem ColL.at_ {m : World} {A : Option Addr} {n c : Nat} {cs : List Col} (h : ColL m (.slice A n c) cs) {k : Nat} {x : Col} (hk : cs[k]? = some x) :
  ∃ b off D cd,A = some ⟨b,off,none⟩ ∧ DutsL m (.slice D x.2.1.length cd) x.2.1 ∧ m.rangeAt b (off + k * 3) [.string x.1,.slice D x.2.1.length cd,.int .i64 x.2.2] := by
 obtain ⟨b,off,v,e,⟨s,rfl,hs⟩,_,hr⟩ := ListV.at_ h (by omega) hk
 obtain ⟨D,cd,rfl,_,hs⟩ := hs.lit
 exact ⟨b,off,D,cd,e,hs,hr⟩
theorem CutL.at_' {m : World} {A : Option Addr} {n c : Nat} {cs : List Cut} (h : CutL m (.slice A n c) cs) {k : Nat} {x : Cut} (hk : cs[k]? = some x) :
  ∃ b off D cd,A = some ⟨b,off,none⟩ ∧ CutR m (.agg #[.slice D x.1.length cd,.int .i64 x.2]) x ∧ m.rangeAt b (off + k * 2) [.slice D x.1.length cd,.int .i64 x.2] := by
 obtain ⟨b,off,v,e,hc,_,hr⟩ := ListV.at_ h (by omega) hk
 have hc' := hc
 obtain ⟨s,rfl,hs,hl⟩ := hc
 obtain ⟨D,cd,rfl,_,hs⟩ := hs.lit
 exact ⟨b,off,D,cd,e,hc',hr⟩
theorem nodup_new {xs : List Int} (h : xs.Nodup) {j : Nat} {x : Int} (hx : xs[j]? = some x) : decide (x ∈ xs.take j) = false := by
 refine decide_eq_false fun hm => ?_
 obtain ⟨p,hp⟩ := List.mem_iff_getElem?.1 hm
 rw [List.getElem?_take] at hp
 by_cases hpj : p < j
 ·rw [if_pos hpj] at hp
  obtain ⟨h1,e1⟩ := List.getElem?_eq_some_iff.1 hp
  obtain ⟨h2,e2⟩ := List.getElem?_eq_some_iff.1 hx
  exact List.pairwise_iff_getElem.1 h p j h1 h2 hpj (e1.trans e2.symm)
 ·rw [if_neg hpj] at hp;cases hp

theorem m_ValidateMaster (v : Value) (x : Ms) (w m : World) (hV : Vw m w) (hv : MasterR m v x) (ok : MsOk x) :
  Calls Tryz.prog 13 #[v] w (RetV w m fun _ r => r = .int .i64 0) := by
 obtain ⟨nf,rs,pen,cols,cuts⟩ := x
 obtain ⟨va,vb,vc,rfl,ha,hb,hc⟩ := hv
 simp only at ha hb hc
 obtain ⟨A,ca,rfl,hca,ha⟩ := ha.lit
 obtain ⟨B,cb,rfl,hcb,hb⟩ := hb.lit
 obtain ⟨C,cc,rfl,hcc,hc⟩ := hc.lit
 obtain ⟨f0,f1,p0,p1,r0,r1,o1,o2,k1,o3,k2,o4⟩ := ok
 simp only at f0 f1 p0 p1 r0 r1 o1 o2 k1 o3 k2 o4
 have HR := Lib.hid ha
 have HA := Lib.hid o1
 have HO := Lib.hid o2
 have HC := Lib.hid o3
 have HK := Lib.hid o4
 have HCO := Lib.hid hb
 have HCU := Lib.hid hc
 have HRL : Hid (rs.length ≤ 1000000) := by show _ ≤ _;omega
 have hL := Loc.start hV
 clear hV o1 o2 o3 o4 hb hc
 generalize hn : rs.length = n at *
 have HN := Lib.hid hn
 clear hn
 generalize hn1 : cols.length = nc at *
 have HN1 := Lib.hid hn1
 clear hn1
 generalize hn2 : cuts.length = nk at *
 have HN2 := Lib.hid hn2
 clear hn2
 have q1 : ¬ nf > 200 := by omega
 have q2 : ¬ nf < 0 := by omega
 have q3 : ¬ (n : Int) < 1 := by omega
 have q4 : ¬ (n : Int) > 32 := by omega
 have q5 : ¬ pen < 0 := by omega
 have q6 : ¬ pen > 4294967296 := by omega
 have q7 : ¬ (nc : Int) > 1000 := by omega
 have q8 : ¬ (nk : Int) > 32 := by omega
 go_enter Tryz.func13,Tryz.ntmps13
 go_wp2_with (first | go_skip | refine tP ?_ | (refine tS ?_;clear hL;intro _ hL) | (refine tB ?_;clear hL;intro _ _ hL _))
 go_loopw [58] (fun i wr => ∃ (k : Nat) (mm : World),k ≤ n ∧ i = .int .i64 k ∧ Loc w m wr mm [(w.heap.size,26,#[.int .i64 nf,.slice A n ca,.int .i64 pen,.slice B nc cb,.slice C nk cc])]) (fun i _ => n - (intOf i).toNat)
 case atStart => exact ⟨0,_,Nat.zero_le _,rfl,hL⟩
 case round =>
  clear hL
  obtain ⟨k,mm,hk,rfl,hL⟩ := hrel
  have hM := hL.mext
  by_cases hlt : k < n
  ·obtain ⟨x,hx⟩ := at_some HN hlt
   obtain ⟨b1,o1,hA,hc1⟩ := IntL.at_ ha hx
   replace hA := Lib.hid hA
   obtain ⟨x1,x2⟩ := HO.out x (List.mem_of_getElem? hx)
   have x1' : ¬ x < 0 := by omega
   have x2' : ¬ x ≥ nf := by omega
   by_cases h0 : k = 0
   ·subst h0
    clear hx x1 x2
    go_wp2_with (first | go_skip | refine tP ?_ | (refine tS ?_;clear hL;intro _ hL) | (refine tB ?_;clear hL;intro _ _ hL _))
    go_roundw
    case rel => exact ⟨1,_,by omega,by go_num,hL⟩
    case measure => simp [intOf] <;> omega
   ·obtain ⟨j,rfl⟩ : ∃ j,k = j + 1 := ⟨k - 1,by omega⟩
    have hk0 : ((j + 1 : Nat) : Int) > 0 := by omega
    have hjn : j < n := by omega
    obtain ⟨y,hy⟩ := at_some HN hjn
    obtain ⟨b2,o2,hA2,hc2⟩ := IntL.at_ ha hy
    have hyx := asc_prev HA.out hy hx
    have e12 : b2 = b1 ∧ o2 = o1 := by
     have := hA.out
     rw [hA2] at this
     simp only [Option.some.injEq,Addr.mk.injEq,and_true] at this
     exact this
    obtain ⟨rfl,rfl⟩ := e12
    have hj1 : ((j + 1 : Nat) : Int) - 1 = (j : Int) := by omega
    have hj2 : wrap64 (((j + 1 : Nat) : Int) - 1) = (j : Int) := by unfold wrap64;omega
    have hj3 : (j : Int) + 1 - 1 = (j : Int) := by omega
    clear hx hy x1 x2 hA2 h0
    go_wp2_with (first | go_skip | refine tP ?_ | (refine tS ?_;clear hL;intro _ hL) | (refine tB ?_;clear hL;intro _ _ hL _))
    go_roundw
    case rel => exact ⟨j + 1 + 1,_,by omega,by go_num,hL⟩
    case measure => simp [intOf] <;> omega
  ·have hmm := @run_makeMap Tryz.prog
   have HMM := Lib.hid hmm
   clear hmm
   go_wp2_with (first | go_skip | refine tP ?_ | (refine tS ?_;clear hL;intro _ hL) | (refine tB ?_;clear hL;intro _ _ hL _))
   clear hlt hk
   go_loopw [89] (fun i wr => ∃ (k : Nat) (mm : World),k ≤ nc ∧ i = .int .i64 k ∧ Loc w m wr mm [(w.heap.size,26,#[.int .i64 nf,.slice A n ca,.int .i64 pen,.slice B nc cb,.slice C nk cc])]) (fun i _ => nc - (intOf i).toNat)
   case atStart => exact ⟨0,_,Nat.zero_le _,rfl,hL⟩
   case round =>
    clear hL hM
    obtain ⟨k,mm,hk,rfl,hL⟩ := hrel
    obtain ⟨wq,rfl⟩ := hL.world
    have hM := hL.mext
    by_cases hlt : k < nc
    ·obtain ⟨⟨s,ds,cost⟩,hx⟩ := at_some HN1 hlt
     have hco := HCO.out
     obtain ⟨b1,o1,D,cd,rfl,hds,hr1⟩ := ColL.at_ hco hx
     obtain ⟨i1,i2,i3,i4,i5,i6,i7⟩ := HC.out _ (List.mem_of_getElem? hx)
     simp only at hds hr1 i1 i2 i3 i4 i5 i6 i7
     have c1 : ¬ cost < -1125899906842624 := by omega
     have c2 : ¬ cost > 1125899906842624 := by omega
     have HD := Lib.hid hds
     have H3 := Lib.hid i3
     have H4 := Lib.hid i4
     have H6 := Lib.hid i6
     have H7 := Lib.hid i7
     have H5 := Lib.hid i5
     have H8 := Lib.hid (opF_len i4)
     clear hx hds i1 i2 i3 i4 i5 i6 i7 hco
     generalize hnd : ds.length = nd at *
     have HND := Lib.hid hnd
     clear hnd
     go_wp2_with (first | go_skip | refine tP ?_ | (refine tS ?_;clear hL;intro _ hL) | (refine tB ?_;clear hL;intro _ _ hL _))
     refine (e_Operated s _ ds _ _ hL.vw (DutsL.le HD.out leX) (by rw [HND.out];exact H3.out) H4.out).mono ?_
     rintro e Wo1 ⟨vo1,mo1,rfl,hE,hMo1,hV,ho1⟩
     replace hL := hL.call hE (by assumption) hV;clear hE hV
     obtain ⟨Ao,co,rfl,hco,ho1⟩ := ho1.lit
     have HOP := Lib.hid ho1
     have h5 := H5.out
     have h8 : (opF ds).length ≤ 100000 := by have := H8.out;have := H3.out;omega
     clear ho1 hr1
     generalize hno : (opF ds).length = no at *
     have HNO := Lib.hid hno
     clear hno
     have q9 : ¬ (no : Int) < 1 := by omega
     have hmb := hL.ext.size
     have hmm := HMM.out
     go_wp2_with (first | go_skip | refine tP ?_ | (refine tS ?_;clear hL;intro _ hL) | (refine tB ?_;clear hL;intro _ _ hL _))
     go_loopw [110] (fun i wr => ∃ (j : Nat) (m2 : World),j ≤ no ∧ i = .int .i64 j ∧ Loc w m wr m2 [(wq.heap.size,66,#[.string s,.slice D nd cd,.int .i64 cost]),(w.heap.size,26,#[.int .i64 nf,.slice A n ca,.int .i64 pen,.slice (some ⟨b1,o1,none⟩) nc cb,.slice C nk cc])] ∧ Hid (BSet wr Wo1.heap.size ((opF ds).take j)) ∧ Hid (Ext mo1 m2)) (fun i _ => no - (intOf i).toNat)
     case atStart => exact ⟨0,_,Nat.zero_le _,rfl,hL.allocM _,BSet.made _,hidTo_ext (by rw [hL.vw.size];simp)⟩
     case round =>
      clear hL hM hmm
      obtain ⟨j,m2,hj,rfl,hL,HB,HX⟩ := hrel
      have hM := hL.mext
      by_cases hlt2 : j < no
      ·obtain ⟨f,hf⟩ := at_some HNO hlt2
       obtain ⟨b3,o3,rfl,hc3⟩ := IntL.at_ HOP.out hf
       replace hc3 := HX.out.le.cell _ _ hc3
       have hin : f ∈ rs := H6.out f (List.mem_of_getElem? hf)
       have HIN := Lib.hid hin
       have HNW := Lib.hid (nodup_new H7.out hf)
       obtain ⟨lo,hi⟩ := HO.out f hin
       have HWF : Hid ((Lit.int .i64 f).wf = true) := wf_small (by omega) (by omega)
       have HT : Hid ((opF ds).take j ++ [f] = (opF ds).take (j + 1)) := take_snoc hf
       have HLN : Hid (((opF ds).take j).length ≤ 1000000) := by show _ ≤ _;simp;omega
       clear hf hin lo hi
       go_wp2_with (first | go_skip | refine tP ?_ | (refine tS ?_;clear hL;intro _ hL) | (refine tB ?_;clear hL;intro _ _ hL _))
       refine (s_BinarySearch _ rs f _ _ hL.vw (IntL.le HR.out leX) (by rw [HN.out];exact HRL.out) HA.out).mono ?_
       rintro e W2 ⟨_,m3,rfl,hE,hM3,hV,i,rfl,-⟩
       have HB2 := HB.out.ext hE
       have HX3 : Hid (Ext mo1 m3) := HX.out.trans hM3
       replace hL := hL.call hE (by assumption) hV;clear hE hV
       rw [decide_eq_true HIN.out]
       have hlk := HB2.look HWF.out
       rw [HNW.out] at hlk
       obtain ⟨W9,hup,hb9,hg9⟩ := HB2.up HLN.out HWF.out
       have HB9 := Lib.hid hb9
       have HG9 := Lib.hid hg9
       have HNC := Lib.hid HB2.notCells
       clear hb9 hg9 HB2
       go_wp2_with (first | go_skip | refine tP ?_ | (refine tS ?_;clear hL;intro _ hL) | (refine tB ?_;clear hL;intro _ _ hL _))
       go_roundw
       case rel => exact ⟨j + 1,_,by omega,by go_num,hL.mapTurn HG9.out hmb HNC.out,by rw [← HT.out];exact HB9.out,HX3.out.trans (hidTo_ext (by rw [hL.vw.size];exact HG9.out.size))⟩
       case measure => simp [intOf] <;> omega
      ·go_wp2_with (first | go_skip | refine tP ?_ | (refine tS ?_;clear hL;intro _ hL) | (refine tB ?_;clear hL;intro _ _ hL _))
       go_roundw
       case rel => exact ⟨k + 1,_,by omega,by go_num,hL.tail⟩
       case measure => simp [intOf] <;> omega
    ·go_wp2_with (first | go_skip | refine tP ?_ | (refine tS ?_;clear hL;intro _ hL) | (refine tB ?_;clear hL;intro _ _ hL _))
     clear hlt hk
     go_loopw [135] (fun i wr => ∃ (k : Nat) (mm : World),k ≤ nk ∧ i = .int .i64 k ∧ Loc w m wr mm [(w.heap.size,26,#[.int .i64 nf,.slice A n ca,.int .i64 pen,.slice B nc cb,.slice C nk cc])]) (fun i _ => nk - (intOf i).toNat)
     case atStart => exact ⟨0,_,Nat.zero_le _,rfl,hL⟩
     case round =>
      clear hL hM
      obtain ⟨k,mm,hk,rfl,hL⟩ := hrel
      have hM := hL.mext
      by_cases hlt : k < nk
      ·obtain ⟨⟨xs,dv⟩,hx⟩ := at_some HN2 hlt
       have hcu := HCU.out
       obtain ⟨b1,o1,D,cd,rfl,hcr,hr1⟩ := CutL.at_' hcu hx
       have HOK := Lib.hid (HK.out _ (List.mem_of_getElem? hx))
       have HCR := Lib.hid hcr
       clear hx hcu hcr
       simp only at hr1
       go_wp2_with (first | go_skip | refine tP ?_ | (refine tS ?_;clear hL;intro _ hL) | (refine tB ?_;clear hL;intro _ _ hL _))
       refine (m_validCut _ _ rs (xs,dv) _ _ hL.vw (IntL.le HR.out leX) (HCR.out.le leX) (by rw [HN.out];exact HRL.out) HA.out HOK.out).mono ?_
       rintro e Wv1 ⟨_,mv1,rfl,hE,hMv1,hV,rfl⟩
       replace hL := hL.call hE (by assumption) hV;clear hE hV
       go_wp2_with (first | go_skip | refine tP ?_ | (refine tS ?_;clear hL;intro _ hL) | (refine tB ?_;clear hL;intro _ _ hL _))
       go_roundw
       case rel => exact ⟨k + 1,_,by omega,by go_num,hL.tail⟩
       case measure => simp [intOf] <;> omega
      ·go_wp2_with (first | go_skip | refine tP ?_ | (refine tS ?_;clear hL;intro _ hL) | (refine tB ?_;clear hL;intro _ _ hL _))
       go_ret
       exact RetV.mk hL rfl
end Go.Proofs.YtabmjadcoepbeaaGreat

/- Contract of pairingref27.ValidateMaster for valid master problems. -/
namespace Go.Proofs.YtabmjadcoepbeaaGreat
open Go.RowKit

theorem count_one {xs : List Int} (h : xs.Nodup) {j : Nat} {x : Int} (hx : xs[j]? = some x) : xs.count x = 1 := by
 have h1 := List.nodup_iff_count.1 h x
 have h2 : 0 < xs.count x := List.count_pos_iff.2 (List.mem_of_getElem? hx)
 omega
theorem r_ValidateMaster (v : Value) (x : Ms) (w m : World) (hV : Vw m w) (hv : MasterR m v x) (ok : MsOk x) :
  Calls Tryz.prog 12 #[v] w (RetV w m fun _ r => r = .int .i64 0) := by
 obtain ⟨nf,rs,pen,cols,cuts⟩ := x
 obtain ⟨va,vb,vc,rfl,ha,hb,hc⟩ := hv
 simp only at ha hb hc
 obtain ⟨A,ca,rfl,hca,ha⟩ := ha.lit
 obtain ⟨B,cb,rfl,hcb,hb⟩ := hb.lit
 obtain ⟨C,cc,rfl,hcc,hc⟩ := hc.lit
 obtain ⟨f0,f1,p0,p1,r0,r1,o1,o2,k1,o3,k2,o4⟩ := ok
 simp only at f0 f1 p0 p1 r0 r1 o1 o2 k1 o3 k2 o4
 have HR := Lib.hid ha
 have HA := Lib.hid o1
 have HO := Lib.hid o2
 have HC := Lib.hid o3
 have HK := Lib.hid o4
 have HCO := Lib.hid hb
 have HCU := Lib.hid hc
 have HRL : Hid (rs.length ≤ 1000000) := by show _ ≤ _;omega
 have hL := Loc.start hV
 clear hV o1 o2 o3 o4 hb hc
 generalize hn : rs.length = n at *
 have HN := Lib.hid hn
 clear hn
 generalize hn1 : cols.length = nc at *
 have HN1 := Lib.hid hn1
 clear hn1
 generalize hn2 : cuts.length = nk at *
 have HN2 := Lib.hid hn2
 clear hn2
 obtain ⟨n',hn'⟩ : ∃ n',n = n' + 1 := ⟨n - 1,by omega⟩
 obtain ⟨y0,hy0⟩ := at_some HN (show 0 < n by omega)
 obtain ⟨y1,hy1⟩ := at_some HN (show n' < n by omega)
 obtain ⟨b0,of,rfl,hc0⟩ := IntL.at_ ha hy0
 obtain ⟨b0',of',e0,hc1⟩ := IntL.at_ ha hy1
 obtain ⟨rfl,rfl⟩ : b0 = b0' ∧ of = of' := by simpa using e0
 rw [Nat.add_zero] at hc0
 have l0 := (HO.out y0 (List.mem_of_getElem? hy0)).1
 have l1 := (HO.out y1 (List.mem_of_getElem? hy1)).2
 have q1 : ¬ nf > 200 := by omega
 have q2 : ¬ nf < 0 := by omega
 have q3 : ((n : Int) == 0) = false := by simp;omega
 have q4 : ¬ (n : Int) > 32 := by omega
 have q5 : ¬ pen < 0 := by omega
 have q6 : ¬ pen > 4294967296 := by omega
 have q7 : ¬ (nc : Int) > 1000 := by omega
 have q8 : ¬ (nk : Int) > 32 := by omega
 have Q9 : Hid (decide (y0 < 0) = false) := decide_eq_false (by omega)
 have Q10 : Hid (decide (y1 ≥ nf) = false) := decide_eq_false (by omega)
 have q11 : (n : Int) - 1 = (n' : Int) := by omega
 have q12 : 0 < n := by omega
 have q13 : n' < n := by omega
 clear hy0 hy1 e0 l0 l1 ha hn'
 go_enter Tryz.func12,Tryz.ntmps12
 go_upto_region 0 with (fail)
 refine wp_region_lit ?_
 refine t_box hL rfl rfl ?_;clear hL;intro Wh1 mh1 hL eh1;simp only [Act.put,zq1,zq2,zq3]
 go_upto_region 5 with ((first | go_skip | refine tP ?_ | (refine tB ?_;clear hL;intro _ _ hL _)))
 clear q1 q2 q4 q5 q6 q7 q8
 have hr := HR.out
 have q9 := Q9.out
 have q10 := Q10.out
 refine wp_region_by2 24 [false,false,false,false,false,false,false,false,false,false,false,false,false,false,false,false,false,false,false,false,false,false,false,false] [false,false,false,false,false,false,false,false,false,false,false,false,false,false,false,false,false,false,false,false,false,false,false,false] [(fun v _ _ => v = ?c5_0),(fun v _ _ => v = ?c5_1),Is (.bool true),(fun v _ _ => v = ?c5_3),(fun v _ _ => v = ?c5_4),(fun v _ _ => v = ?c5_5),(fun v _ _ => v = ?c5_6),(fun v _ _ => v = ?c5_7),(fun v _ _ => v = ?c5_8),(fun v _ _ => v = ?c5_9),(fun v _ _ => v = ?c5_10),(fun v _ _ => v = ?c5_11),(fun v _ _ => v = ?c5_12),(fun v _ _ => v = ?c5_13),(fun v _ _ => v = ?c5_14),(fun v _ _ => v = ?c5_15),(fun v _ _ => v = ?c5_16),(fun v _ _ => v = ?c5_17),(fun v _ _ => v = ?c5_18),(fun v _ _ => v = ?c5_19),(fun v _ _ => v = ?c5_20),(fun v _ _ => v = ?c5_21),(fun v _ _ => v = ?c5_22),(fun v _ _ => v = ?c5_23)] hL.vw mixed [47,48,49,50,51,52,53,54,55,56,57,58,59,60,61,62,63,64,65,66,67,68,69,70] _ (by kernel_rfl) (fun vs => by simp only [lay,Act.put,zq1,zq2,zq3];rfl) (by kernel_rfl) (by decide) (by decide) ?s5 ?l5 ?r5
 case s5 =>
  refine ⟨?_,?_,?_,?_,?_,?_,?_,?_,?_,?_,?_,?_,?_,?_,?_,?_,?_,?_,?_,?_,?_,?_,?_,?_,trivial⟩
  ·intro vs W1 m1 hE hM hV hD;clear hD
   exact sFe
  ·intro vs W1 m1 hE hM hV hD;obtain ⟨⟨_,_,-,-,f47⟩,-⟩ := hD
   rw [(f47 : vs 47 = _)];clear f47;exact sLe
  ·intro vs W1 m1 hE hM hV hD;obtain ⟨⟨_,_,-,-,f48⟩,-⟩ := hD
   rw [(f48 : vs 48 = _)]
   clear f48
   go_wp2_with fail
   refine (r_ascT _ rs _ _ hV (IntL.le hr leX) (by rw [HN.out];exact HRL.out) HA.out).mono ?_
   rintro e W2 ⟨v,m2,rfl,hE2,hM2,hV2,h⟩
   go_wp2_with fail
   refine One2.call hE2 hM2 hV2 ?_;first | exact h | exact rfl
  ·intro vs W1 m1 hE hM hV hD;obtain ⟨⟨_,_,-,-,f49⟩,-⟩ := hD
   rw [(f49 : vs 49 = _)];clear f49;exact sPw
  ·intro vs W1 m1 hE hM hV hD;obtain ⟨⟨_,_,-,-,f50⟩,-,-⟩ := hD
   rw [(f50 : vs 50 = _)];clear f50;exact sPw
  ·intro vs W1 m1 hE hM hV hD;obtain ⟨⟨_,_,-,-,f51⟩,-⟩ := hD
   rw [(f51 : vs 51 = _)];clear f51;exact sFe
  ·intro vs W1 m1 hE hM hV hD;obtain ⟨⟨_,_,-,-,f52⟩,⟨_,_,-,-,f51⟩,-⟩ := hD
   rw [(f52 : vs 52 = _),(f51 : vs 51 = _)];clear f52 f51;exact sLe
  ·intro vs W1 m1 hE hM hV hD;obtain ⟨⟨_,_,-,-,f53⟩,⟨_,_,-,-,f51⟩,-⟩ := hD
   rw [(f53 : vs 53 = _),(f51 : vs 51 = _)]
   clear f53 f51
   replace hL := hL.call hE hM hV
   exact sIz
  ·intro vs W1 m1 hE hM hV hD;obtain ⟨⟨_,_,-,-,f54⟩,⟨_,_,-,-,f51⟩,-⟩ := hD
   rw [(f54 : vs 54 = _),(f51 : vs 51 = _)];clear f54 f51;exact sLe
  ·intro vs W1 m1 hE hM hV hD;obtain ⟨⟨_,_,-,-,f55⟩,⟨_,_,-,-,f51⟩,-⟩ := hD
   rw [(f55 : vs 55 = _),(f51 : vs 51 = _)];clear f55 f51;exact sPw
  ·intro vs W1 m1 hE hM hV hD;obtain ⟨⟨_,_,-,-,f51⟩,⟨_,_,-,-,f56⟩,-⟩ := hD
   rw [(f51 : vs 51 = _),(f56 : vs 56 = _)];clear f51 f56;exact sPw
  ·intro vs W1 m1 hE hM hV hD;obtain ⟨⟨_,_,-,-,f57⟩,-,-⟩ := hD
   rw [(f57 : vs 57 = _)];clear f57;exact sPw
  ·intro vs W1 m1 hE hM hV hD;obtain ⟨⟨_,_,-,-,f58⟩,-⟩ := hD
   rw [(f58 : vs 58 = _)];clear f58;exact sFe
  ·intro vs W1 m1 hE hM hV hD;obtain ⟨⟨_,_,-,-,f59⟩,⟨_,_,-,-,f58⟩,-⟩ := hD
   rw [(f59 : vs 59 = _),(f58 : vs 58 = _)];clear f59 f58;exact sLe
  ·intro vs W1 m1 hE hM hV hD;obtain ⟨⟨_,_,-,-,f58⟩,-⟩ := hD
   rw [(f58 : vs 58 = _)];clear f58;exact sFe
  ·intro vs W1 m1 hE hM hV hD;obtain ⟨⟨_,_,-,-,f61⟩,⟨_,_,-,-,f58⟩,-⟩ := hD
   rw [(f61 : vs 61 = _),(f58 : vs 58 = _)];clear f61 f58;exact sLe
  ·intro vs W1 m1 hE hM hV hD;obtain ⟨⟨_,_,-,-,f62⟩,⟨_,_,-,-,f58⟩,-⟩ := hD
   rw [(f62 : vs 62 = _),(f58 : vs 58 = _)]
   clear f62 f58
   replace hL := hL.call hE hM hV
   go_wp2_with (first | go_skip | refine tP ?_ | (refine tB ?_;clear hL;intro _ _ hL _))
   refine One2.still hV ?_;exact rfl
  ·intro vs W1 m1 hE hM hV hD;obtain ⟨⟨_,_,-,-,f63⟩,⟨_,_,-,-,f58⟩,-⟩ := hD
   rw [(f63 : vs 63 = _),(f58 : vs 58 = _)];clear f63 f58;exact sPw
  ·intro vs W1 m1 hE hM hV hD;obtain ⟨⟨_,_,-,-,f60⟩,⟨_,_,-,-,f64⟩,⟨_,_,-,-,f58⟩,-⟩ := hD
   rw [(f60 : vs 60 = _),(f64 : vs 64 = _),(f58 : vs 58 = _)];clear f60 f64 f58;exact sIy
  ·intro vs W1 m1 hE hM hV hD;obtain ⟨⟨_,_,-,-,f65⟩,⟨_,_,-,-,f58⟩,-⟩ := hD
   rw [(f65 : vs 65 = _),(f58 : vs 58 = _)];clear f65 f58;exact sLe
  ·intro vs W1 m1 hE hM hV hD;obtain ⟨⟨_,_,-,-,f58⟩,-⟩ := hD
   rw [(f58 : vs 58 = _)];clear f58;exact sFe
  ·intro vs W1 m1 hE hM hV hD;obtain ⟨⟨_,_,-,-,f67⟩,⟨_,_,-,-,f58⟩,-⟩ := hD
   rw [(f67 : vs 67 = _),(f58 : vs 58 = _)];clear f67 f58;exact sLe
  ·intro vs W1 m1 hE hM hV hD;obtain ⟨⟨_,_,-,-,f66⟩,⟨_,_,-,-,f68⟩,⟨_,_,-,-,f58⟩,-⟩ := hD
   rw [(f66 : vs 66 = _),(f68 : vs 68 = _),(f58 : vs 58 = _)];clear f66 f68 f58;exact sPw
  ·intro vs W1 m1 hE hM hV hD;obtain ⟨⟨_,_,-,-,f58⟩,⟨_,_,-,-,f69⟩,-⟩ := hD
   rw [(f58 : vs 58 = _),(f69 : vs 69 = _)];clear f58 f69;exact sPw
 case l5 =>
  refine ⟨nF,nF,nF,nF,nF,nF,nF,nF,nF,nF,nF,nF,nF,nF,nF,nF,nF,nF,nF,nF,nF,nF,nF,nF,trivial⟩
 intro vs W1 m1 hE hM hV hF hD
 clear hD
 obtain ⟨⟨_,_,-,-,f47⟩,⟨_,_,-,-,f48⟩,⟨_,_,-,-,f49⟩,⟨_,_,-,-,f50⟩,⟨_,_,-,-,f51⟩,⟨_,_,-,-,f52⟩,⟨_,_,-,-,f53⟩,⟨_,_,-,-,f54⟩,⟨_,_,-,-,f55⟩,⟨_,_,-,-,f56⟩,⟨_,_,-,-,f57⟩,⟨_,_,-,-,f58⟩,⟨_,_,-,-,f59⟩,⟨_,_,-,-,f60⟩,⟨_,_,-,-,f61⟩,⟨_,_,-,-,f62⟩,⟨_,_,-,-,f63⟩,⟨_,_,-,-,f64⟩,⟨_,_,-,-,f65⟩,⟨_,_,-,-,f66⟩,⟨_,_,-,-,f67⟩,⟨_,_,-,-,f68⟩,⟨_,_,-,-,f69⟩,⟨_,_,-,-,f70⟩,-⟩ := hF
 replace hL := hL.call hE hM hV
 have f47 : vs 47 = _ := f47
 generalize vs 47 = x47 at f47 ⊢
 subst x47
 have f48 : vs 48 = _ := f48
 generalize vs 48 = x48 at f48 ⊢
 subst x48
 have f49 : vs 49 = _ := f49
 generalize vs 49 = x49 at f49 ⊢
 subst x49
 have f50 : vs 50 = _ := f50
 generalize vs 50 = x50 at f50 ⊢
 subst x50
 have f51 : vs 51 = _ := f51
 generalize vs 51 = x51 at f51 ⊢
 subst x51
 have f52 : vs 52 = _ := f52
 generalize vs 52 = x52 at f52 ⊢
 subst x52
 have f53 : vs 53 = _ := f53
 generalize vs 53 = x53 at f53 ⊢
 subst x53
 have f54 : vs 54 = _ := f54
 generalize vs 54 = x54 at f54 ⊢
 subst x54
 have f55 : vs 55 = _ := f55
 generalize vs 55 = x55 at f55 ⊢
 subst x55
 have f56 : vs 56 = _ := f56
 generalize vs 56 = x56 at f56 ⊢
 subst x56
 have f57 : vs 57 = _ := f57
 generalize vs 57 = x57 at f57 ⊢
 subst x57
 have f58 : vs 58 = _ := f58
 generalize vs 58 = x58 at f58 ⊢
 subst x58
 have f59 : vs 59 = _ := f59
 generalize vs 59 = x59 at f59 ⊢
 subst x59
 have f60 : vs 60 = _ := f60
 generalize vs 60 = x60 at f60 ⊢
 subst x60
 have f61 : vs 61 = _ := f61
 generalize vs 61 = x61 at f61 ⊢
 subst x61
 have f62 : vs 62 = _ := f62
 generalize vs 62 = x62 at f62 ⊢
 subst x62
 have f63 : vs 63 = _ := f63
 generalize vs 63 = x63 at f63 ⊢
 subst x63
 have f64 : vs 64 = _ := f64
 generalize vs 64 = x64 at f64 ⊢
 subst x64
 have f65 : vs 65 = _ := f65
 generalize vs 65 = x65 at f65 ⊢
 subst x65
 have f66 : vs 66 = _ := f66
 generalize vs 66 = x66 at f66 ⊢
 subst x66
 have f67 : vs 67 = _ := f67
 generalize vs 67 = x67 at f67 ⊢
 subst x67
 have f68 : vs 68 = _ := f68
 generalize vs 68 = x68 at f68 ⊢
 subst x68
 have f69 : vs 69 = _ := f69
 generalize vs 69 = x69 at f69 ⊢
 subst x69
 have f70 : vs 70 = _ := f70
 generalize vs 70 = x70 at f70 ⊢
 subst x70
 clear hE hV
 simp only [List.drop_succ_cons,List.drop_zero]
 go_wp2_with (first | go_skip | refine tP ?_ | (refine tB ?_;clear hL;intro _ _ hL _))
 refine QN.mk ?_
 clear hr hc0 hc1
 go_wp2_with (first | go_skip | refine tP ?_ | (refine tB ?_;clear hL;intro _ _ hL _))
 go_loopw [3] (fun i wr => ∃ (k : Nat) (mm : World),k ≤ nc ∧ i = .int .i64 k ∧ Loc w m wr mm [(w.heap.size,26,#[.int .i64 nf,.slice (some ⟨b0,of,none⟩) n ca,.int .i64 pen,.slice B nc cb,.slice C nk cc])]) (fun i _ => nc - (intOf i).toNat)
 case atStart => exact ⟨0,_,Nat.zero_le _,rfl,hL⟩
 case round =>
  clear hL
  obtain ⟨k,mm,hk,rfl,hL⟩ := hrel
  have hM := hL.mext
  by_cases hlt : k < nc
  ·obtain ⟨⟨s,ds,cost⟩,hx⟩ := at_some HN1 hlt
   obtain ⟨b1,o1,D,cd,rfl,hds,hr1⟩ := ColL.at_ HCO.out hx
   obtain ⟨i1,i2,i3,i4,i5,i6,i7⟩ := HC.out _ (List.mem_of_getElem? hx)
   simp only at hds hr1 i1 i2 i3 i4 i5 i6 i7
   have c1 : ¬ cost < -1125899906842624 := by omega
   have c2 : ¬ cost > 1125899906842624 := by omega
   have HD := Lib.hid hds
   have H3 := Lib.hid i3
   have H4 := Lib.hid i4
   have H6 : Hid (decide (∀ f ∈ opF ds,f ∈ rs) = true) := decide_eq_true i6
   have H7 := Lib.hid i7
   have H5 := Lib.hid i5
   have H8 := Lib.hid (opF_len i4)
   have hx2 := hr1 2 _ rfl
   have hr2 : m.rangeAt b1 (o1 + k * 3) [.string s,.slice D ds.length cd] := fun j u hu => hr1 j u (by
    match j,hu with
    | 0,hu => exact hu
    | 1,hu => exact hu)
   clear hx hds i1 i2 i3 i4 i5 i6 i7 hr1
   generalize hnd : ds.length = nd at *
   have HND := Lib.hid hnd
   clear hnd
   go_wp2_with (first | go_skip | refine tP ?_ | (refine tB ?_;clear hL;intro _ _ hL _))
   refine (r_Operated s _ ds _ _ hL.vw (DutsL.le HD.out leX) (by rw [HND.out];exact H3.out) H4.out).mono ?_
   rintro e Wo1 ⟨vo1,mo1,rfl,hE,hMo1,hV,ho1⟩
   replace hL := hL.call hE (by assumption) hV;clear hE hV
   obtain ⟨Ao,co,rfl,hco,ho1⟩ := ho1.lit
   have HOP := Lib.hid ho1
   have h5 := H5.out
   have h8 : (opF ds).length ≤ 100000 := by have := H8.out;have := H3.out;omega
   clear ho1 hr2 hx2
   generalize hno : (opF ds).length = no at *
   have HNO := Lib.hid hno
   clear hno
   have q14 : ((no : Int) == 0) = false := by simp;omega
   go_wp2_with (first | go_skip | refine tP ?_ | (refine tB ?_;clear hL;intro _ _ hL _))
   refine (r_within _ _ (opF ds) rs _ _ hL.vw (IntL.le HOP.out leX) (IntL.le HR.out leX) (by rw [HNO.out];omega) (by rw [HN.out];exact HRL.out)).mono ?_
   rintro e Wo2 ⟨_,mo2,rfl,hE,hMo2,hV,rfl⟩
   replace hL := hL.call hE (by assumption) hV;clear hE hV
   rw [H6.out]
   go_wp2_with (first | go_skip | refine tP ?_ | (refine tB ?_;clear hL;intro _ _ hL _))
   go_loopw [5] (fun i wr => ∃ (j : Nat) (m2 : World),j ≤ no ∧ i = .int .i64 j ∧ Loc w m wr m2 [(w.heap.size,26,#[.int .i64 nf,.slice (some ⟨b0,of,none⟩) n ca,.int .i64 pen,.slice (some ⟨b1,o1,none⟩) nc cb,.slice C nk cc])] ∧ Hid (Ext mo1 m2)) (fun i _ => no - (intOf i).toNat)
   case atStart => exact ⟨0,_,Nat.zero_le _,rfl,hL,exX⟩
   case round =>
    clear hL hM
    obtain ⟨j,m2,hj,rfl,hL,HX⟩ := hrel
    have hM := hL.mext
    by_cases hlt2 : j < no
    ·obtain ⟨f,hf⟩ := at_some HNO hlt2
     obtain ⟨b3,o3,rfl,hc3⟩ := IntL.at_ HOP.out hf
     replace hc3 := HX.out.le.cell _ _ hc3
     have HC1 := Lib.hid (count_one H7.out hf)
     have HO2 : Hid (IntL m2 (.slice (some ⟨b3,o3,none⟩) no co) (opF ds)) := IntL.le HOP.out HX.out.le
     clear hf
     go_wp2_with (first | go_skip | refine tP ?_ | (refine tB ?_;clear hL;intro _ _ hL _))
     refine (r_count _ (opF ds) f _ _ hL.vw (IntL.le HO2.out leX) (by rw [HNO.out];omega)).mono ?_
     rintro e Wn1 ⟨_,mn1,rfl,hE,hMn1,hV,rfl⟩
     replace hL := hL.call hE (by assumption) hV;clear hE hV
     have HX3 : Hid (Ext mo1 mn1) := HX.out.trans hMn1
     rw [HC1.out]
     go_wp2_with (first | go_skip | refine tP ?_ | (refine tB ?_;clear hL;intro _ _ hL _))
     go_roundw
     case rel => exact ⟨j + 1,_,by omega,by go_num,hL,HX3.out⟩
     case measure => simp [intOf] <;> omega
    ·go_wp2_with (first | go_skip | refine tP ?_ | (refine tB ?_;clear hL;intro _ _ hL _))
     go_roundw
     case rel => exact ⟨k + 1,_,by omega,by go_num,hL⟩
     case measure => simp [intOf] <;> omega
  ·go_wp2_with (first | go_skip | refine tP ?_ | (refine tB ?_;clear hL;intro _ _ hL _))
   clear hlt hk
   go_loopw [6] (fun i wr => ∃ (k : Nat) (mm : World),k ≤ nk ∧ i = .int .i64 k ∧ Loc w m wr mm [(w.heap.size,26,#[.int .i64 nf,.slice (some ⟨b0,of,none⟩) n ca,.int .i64 pen,.slice B nc cb,.slice C nk cc])]) (fun i _ => nk - (intOf i).toNat)
   case atStart => exact ⟨0,_,Nat.zero_le _,rfl,hL⟩
   case round =>
    clear hL hM
    obtain ⟨k,mm,hk,rfl,hL⟩ := hrel
    have hM := hL.mext
    by_cases hlt : k < nk
    ·obtain ⟨⟨xs,dv⟩,hx⟩ := at_some HN2 hlt
     obtain ⟨b1,o1,D,cd,rfl,hcr,hr1⟩ := CutL.at_' HCU.out hx
     have HOK := Lib.hid (HK.out _ (List.mem_of_getElem? hx))
     simp only at hr1
     have hra := HR.out
     clear hx
     go_upto_region 23 with ((first | go_skip | refine tP ?_ | (refine tB ?_;clear hL;intro _ _ hL _)))
     (try simp only [eq_self] at *)
     refine wp_region_by2 9 [false,false,false,false,false,false,false,false,false] [false,false,false,false,false,false,false,false,false] [(fun v _ _ => v = ?c23_0),(fun v _ _ => v = ?c23_1),(fun v _ _ => v = ?c23_2),(fun v _ _ => v = ?c23_3),(fun v _ _ => v = ?c23_4),(fun v _ _ => v = ?c23_5),(fun v _ _ => v = ?c23_6),Is (.bool true),(fun v _ _ => v = ?c23_8)] hL.vw mixed [131,132,133,134,135,136,137,138,139] _ (by kernel_rfl) (fun vs => by simp only [lay,Act.put,zq1,zq2,zq3];rfl) (by kernel_rfl) (by decide) (by decide) ?s23 ?l23 ?r23
     case s23 =>
      refine ⟨?_,?_,?_,?_,?_,?_,?_,?_,?_,trivial⟩
      ·intro vs W1 m1 hE hM hV hD;clear hD
       exact sFe
      ·intro vs W1 m1 hE hM hV hD;obtain ⟨⟨_,_,-,-,f131⟩,-⟩ := hD
       rw [(f131 : vs 131 = _)];clear f131;exact sLe
      ·intro vs W1 m1 hE hM hV hD;clear hD
       exact sFe
      ·intro vs W1 m1 hE hM hV hD;obtain ⟨⟨_,_,-,-,f133⟩,-⟩ := hD
       rw [(f133 : vs 133 = _)];clear f133;exact sLe
      ·intro vs W1 m1 hE hM hV hD;clear hD
       exact sPw
      ·intro vs W1 m1 hE hM hV hD;obtain ⟨⟨_,_,-,-,f134⟩,⟨_,_,-,-,f135⟩,-⟩ := hD
       rw [(f134 : vs 134 = _),(f135 : vs 135 = _)];clear f134 f135;exact sIy
      ·intro vs W1 m1 hE hM hV hD;obtain ⟨⟨_,_,-,-,f136⟩,-⟩ := hD
       rw [(f136 : vs 136 = _)];clear f136;exact sLe
      ·intro vs W1 m1 hE hM hV hD;obtain ⟨⟨_,_,-,-,f132⟩,⟨_,_,-,-,f137⟩,-⟩ := hD
       rw [(f132 : vs 132 = _),(f137 : vs 137 = _)]
       clear f132 f137
       go_wp2_with fail
       refine (r_ValidCut _ _ rs (xs,dv) _ _ hV (IntL.le hra leX) (hcr.le leX) (by rw [HN.out];exact HRL.out) HOK.out).mono ?_
       rintro e W2 ⟨v,m2,rfl,hE2,hM2,hV2,h⟩
       go_wp2_with fail
       refine One2.call hE2 hM2 hV2 ?_;first | exact h | exact rfl
      ·intro vs W1 m1 hE hM hV hD;obtain ⟨⟨_,_,-,-,f138⟩,-⟩ := hD
       rw [(f138 : vs 138 = _)];clear f138;exact sPw
     case l23 =>
      refine ⟨nF,nF,nF,nF,nF,nF,nF,nF,nF,trivial⟩
     intro vs W1 m1 hE hM hV hF hD
     clear hD
     obtain ⟨⟨_,_,-,-,f131⟩,⟨_,_,-,-,f132⟩,⟨_,_,-,-,f133⟩,⟨_,_,-,-,f134⟩,⟨_,_,-,-,f135⟩,⟨_,_,-,-,f136⟩,⟨_,_,-,-,f137⟩,⟨_,_,-,-,f138⟩,⟨_,_,-,-,f139⟩,-⟩ := hF
     replace hL := hL.call hE hM hV
     have f131 : vs 131 = _ := f131
     generalize vs 131 = x131 at f131 ⊢
     subst x131
     have f132 : vs 132 = _ := f132
     generalize vs 132 = x132 at f132 ⊢
     subst x132
     have f133 : vs 133 = _ := f133
     generalize vs 133 = x133 at f133 ⊢
     subst x133
     have f134 : vs 134 = _ := f134
     generalize vs 134 = x134 at f134 ⊢
     subst x134
     have f135 : vs 135 = _ := f135
     generalize vs 135 = x135 at f135 ⊢
     subst x135
     have f136 : vs 136 = _ := f136
     generalize vs 136 = x136 at f136 ⊢
     subst x136
     have f137 : vs 137 = _ := f137
     generalize vs 137 = x137 at f137 ⊢
     subst x137
     have f138 : vs 138 = _ := f138
     generalize vs 138 = x138 at f138 ⊢
     subst x138
     have f139 : vs 139 = _ := f139
     generalize vs 139 = x139 at f139 ⊢
     subst x139
     clear hE hV
     simp only [List.drop_succ_cons,List.drop_zero]
     go_wp2_with (first | go_skip | refine tP ?_ | (refine tB ?_;clear hL;intro _ _ hL _))
     refine QN.mk ?_
     go_wp2_with (first | go_skip | refine tP ?_ | (refine tB ?_;clear hL;intro _ _ hL _))
     go_roundw
     case rel => exact ⟨k + 1,_,by omega,by go_num,hL⟩
     case measure => simp [intOf] <;> omega
    ·go_wp2_with (first | go_skip | refine tP ?_ | (refine tB ?_;clear hL;intro _ _ hL _))
     go_ret
     exact RetV.mk hL rfl
end Go.Proofs.YtabmjadcoepbeaaGreat

/- Contracts of enumerate.ValidatePrices and pairingref27.ValidatePrices for valid prices, and where the number of prices is another one. -/
namespace Go.Proofs.YtabmjadcoepbeaaGreat
open Go.RowKit

structure PcOk (nf : Nat) (x : Cut) : Prop where
 low : ∀ r ∈ x.1,0 ≤ r ∧ r < nf
 asc : AscP x.1
 two : 2 ≤ x.2
 le : x.2 ≤ (x.1.length : Int)
structure PrOk (nf : Nat) (p : Pr) : Prop where
 fl : p.fl.length = nf
 f1 : nf ≤ 1000
 cd : p.cd.length = p.cu.length
 k1 : p.cu.length ≤ 32
 k2 : p.de.length ≤ 32
 cuts : ∀ c ∈ p.cu,PcOk nf c
 neg : ∀ q ∈ p.cd,Fit 200 q ∧ rs q ≤ 0
 des : ∀ d ∈ p.de,0 ≤ d.1 ∧ d.1 < nf ∧ 0 ≤ d.2.1 ∧ d.2.1 < nf ∧ d.1 ≠ d.2.1

end Go.Proofs.YtabmjadcoepbeaaGreat

/- The bound of prices, in plain numbers: sums of fractions whose denominators divide 36. -/
namespace Go.Proofs.YtabmjadcoepbeaaGreat
open Go.RowKit

def Tw (B : Nat) (q : Rat) : Prop := ∃ z : Int,q = Rat.divInt z 36 ∧ z.natAbs ≤ 3 * B
theorem Tw.mono {B C : Nat} {q : Rat} (h : Tw B q) (hb : B ≤ C) : Tw C q := by
 obtain ⟨z,e,hz⟩ := h
 exact ⟨z,e,by omega⟩
theorem Tw.add {B C : Nat} {p q : Rat} (h : Tw B p) (h' : Tw C q) : Tw (B + C) (p + q) := by
 obtain ⟨z,rfl,hz⟩ := h
 obtain ⟨y,rfl,hy⟩ := h'
 exact ⟨z + y,(add_same (by decide)).symm,by omega⟩
theorem Tw.int {K : Nat} {k : Int} (hk : k.natAbs ≤ K) : Tw (K * 12) (k : Rat) := by
 refine ⟨k * 36,?_,by omega⟩
 rw [← rat_one k,← Rat.divInt_mul_right (n := k) (d := 1) (a := 36) (by decide)];rfl
theorem Tw.tn {B k : Nat} {q : Rat} (h : Tw B q) (h1 : 3 * B ≤ k) (h2 : 36 ≤ k) : Tn k q := by
 obtain ⟨z,rfl,hz⟩ := h
 exact Tn.divInt (by decide) (by omega) (by omega)
theorem Tw.min {B : Nat} {p q : Rat} (h : Tw B p) (h' : Tw B q) : Tw B (rmin p q) := by
 unfold rmin;split
 ·exact h
 ·exact h'
theorem Tw.neg {B : Nat} {q : Rat} (h : Tw B q) : Tw B (-q) := by
 obtain ⟨z,rfl,hz⟩ := h
 exact ⟨-z,by rw [Rat.neg_divInt],by omega⟩
theorem Tw.negF {B : Nat} {q : Rat} (h : Tw B q) : Tw B (negF q) := by
 unfold Go.Proofs.YtabmjadcoepbeaaGreat.negF
 split
 ·exact h.neg
 ·exact h
end Go.Proofs.YtabmjadcoepbeaaGreat

/- What lagrange.Bound and pairingref27.Bound answer (plain). -/
namespace Go.Proofs.YtabmjadcoepbeaaGreat
open Go.RowKit

structure BQ (nf : Nat) (x : Ms) (p : Pr) (l : SF) : Prop where
 nfe : x.nf = nf
 ms : MsOk x
 pr : PrOk nf p
 pen : x.pen ≤ 1000
 fl : ∀ q ∈ p.fl,Tw 1000 q
 cd : ∀ q ∈ p.cd,Tw 1000 q
 cu : ∀ c ∈ p.cu,c.1.length ≤ 1000
 lo : Tw 1000 (vS l)
 sl : Sm l.1 l.2
theorem Tw.sm {B : Nat} {q : Rat} (h : Tw B q) (hb : B ≤ 100000000) : Sm q.num q.den := (h.tn (k := 300000000) (by omega) (by decide)).sm (by decide)
theorem Tw.fit {B : Nat} {q : Rat} (h : Tw B q) (hb : B ≤ 100000000) : Fit 200 q := (h.tn (k := 300000000) (by omega) (by decide)).fit (by decide)
end Go.Proofs.YtabmjadcoepbeaaGreat

/- The master problems and prices of the laws are valid (plain). -/
namespace Go.Proofs.YtabmjadcoepbeaaGreat
open Go.RowKit

theorem ascP_of {xs : List Int} (h : xs.Pairwise (· < ·)) : AscP xs := by
 intro j x y hx hy
 obtain ⟨h1,e1⟩ := List.getElem?_eq_some_iff.1 hx
 obtain ⟨h2,e2⟩ := List.getElem?_eq_some_iff.1 hy
 have := List.pairwise_iff_getElem.1 h j (j + 1) h1 h2 (by omega)
 rw [e1,e2] at this
 exact this
def selF (rs : List Int) (n k : Int) (i : Nat) : List Int := (List.range i).filterMap fun j => if csBit n j then some (csF rs k j) else none
theorem opT_app (a b : List Task) : opT (a ++ b) = opT a ++ opT b := by simp [opT,List.filterMap_append]
theorem opF_app (a b : List (List Task)) : opF (a ++ b) = opF a ++ opF b := by simp [opF,List.flatMap_append]
theorem opF_one (a : List Task) : opF [a] = opT a := by simp [opF]
theorem opT_one (f : Int) : opT [(f,false)] = [f] := rfl
theorem opT_nil : opT [] = [] := rfl
theorem selF_in {rs : List Int} {n k : Int} {i : Nat} (h : csBit n i = true) : selF rs n k (i + 1) = selF rs n k i ++ [csF rs k i] := by
 unfold selF
 rw [List.range_succ,List.filterMap_append]
 simp [h]
theorem selF_out {rs : List Int} {n k : Int} {i : Nat} (h : csBit n i = false) : selF rs n k (i + 1) = selF rs n k i := by
 unfold selF
 rw [List.range_succ,List.filterMap_append]
 simp [h]
theorem cs_sel (rs : List Int) (n k : Int) : ∀ i,opF (csAt rs n k i).l ++ opT (csAt rs n k i).d = selF rs n k i ∧ ((csAt rs n k i).s = false → selF rs n k i = []) ∧ ((csAt rs n k i).s = true → selF rs n k i ≠ [])
 | 0 => by
  refine ⟨?_,fun _ => rfl,fun h => by simp [csAt] at h⟩
  show opF [] ++ opT (if k % 2 = 1 then [(0,true)] else []) = []
  split <;> rfl
 | i + 1 => by
  obtain ⟨h1,h2,h3⟩ := cs_sel rs n k i
  by_cases hb : csBit n i = true
  ·rw [selF_in hb,← h1]
   simp only [csAt,csStep,hb,if_true]
   split
   ·simp [opF_app,opF_one,opT_app,opT_one,opT_nil]
   ·simp [opT_app,opT_one]
  ·have hb' : csBit n i = false := by simpa using hb
   rw [selF_out hb']
   simp only [csAt,csStep,hb',Bool.false_eq_true,if_false]
   exact ⟨h1,h2,h3⟩
theorem cs_short (rs : List Int) (n k : Int) : ∀ i,∀ d ∈ (csAt rs n k i).l,d.length ≤ i + 1
 | 0 => by intro d hd;simp [csAt] at hd
 | i + 1 => by
  intro d hd
  have ih := cs_short rs n k i
  have hl := (csAt_len rs n k i).1
  simp only [csAt,csStep] at hd
  split at hd
  ·split at hd
   ·rcases List.mem_append.1 hd with h | h
    ·have := ih d h;omega
    ·rcases List.mem_singleton.1 h with rfl
     simp;omega
   ·have := ih d hd;omega
  ·have := ih d hd;omega
theorem opF_csL (rs : List Int) (n k : Int) : opF (csL rs n k) = if (csAt rs n k rs.length).s then selF rs n k rs.length else [rs.getD (n / 64 % rs.length).toNat 0] := by
 obtain ⟨h1,h2,-⟩ := cs_sel rs n k rs.length
 have hD : opF (csL rs n k) = opF (csAt rs n k rs.length).l ++ opT (csD rs n k) := by
  unfold csL
  split
  ·rw [opF_app,opF_one]
  ·have : csD rs n k = [] := List.length_eq_zero_iff.1 (by omega)
   rw [this,opT_nil,List.append_nil]
 rw [hD]
 unfold csD
 by_cases hs : (csAt rs n k rs.length).s = true
 ·rw [if_pos hs,if_pos hs,h1]
 ·rw [if_neg hs,if_neg hs,opT_app,opT_one,← List.append_assoc,h1,h2 (by simpa using hs)]
  rfl
theorem csF_get {rs : List Int} {k : Int} {j : Nat} (hj : j < rs.length) : ∃ i,i < rs.length ∧ csF rs k j = rs.getD i 0 ∧ (i = j ∨ i = rs.length - 1 - j) ∧ (i = if k / 2 % 8 = 7 then rs.length - 1 - j else j) := by
 unfold csF
 split
 ·exact ⟨rs.length - 1 - j,by omega,rfl,.inr rfl,rfl⟩
 ·exact ⟨j,hj,rfl,.inl rfl,rfl⟩
theorem getD_mem {rs : List Int} {i : Nat} (h : i < rs.length) : rs.getD i 0 ∈ rs := by
 rw [List.getD_eq_getElem?_getD,List.getElem?_eq_getElem h]
 exact List.getElem_mem h
theorem getD_inj {rs : List Int} (hn : rs.Nodup) {i j : Nat} (hi : i < rs.length) (hj : j < rs.length) (e : rs.getD i 0 = rs.getD j 0) : i = j := by
 rw [List.getD_eq_getElem?_getD,List.getElem?_eq_getElem hi,List.getD_eq_getElem?_getD,List.getElem?_eq_getElem hj] at e
 exact (List.getElem_inj hn).1 e
theorem csF_inj {rs : List Int} {k : Int} (hn : rs.Nodup) {i j : Nat} (hi : i < rs.length) (hj : j < rs.length) (e : csF rs k i = csF rs k j) : i = j := by
 unfold csF at e
 split at e
 ·have := getD_inj hn (by omega) (by omega) e
  omega
 ·exact getD_inj hn hi hj e
theorem selF_mem {rs : List Int} {n k f : Int} {i : Nat} (h : f ∈ selF rs n k i) : ∃ j,j < i ∧ f = csF rs k j := by
 unfold selF at h
 obtain ⟨j,hj,e⟩ := List.mem_filterMap.1 h
 split at e
 ·exact ⟨j,List.mem_range.1 hj,(Option.some.inj e).symm⟩
 ·cases e
theorem selF_nodup {rs : List Int} {n k : Int} (hn : rs.Nodup) : ∀ i,i ≤ rs.length → (selF rs n k i).Nodup
 | 0,_ => List.Pairwise.nil
 | i + 1,hi => by
  have ih := selF_nodup (n := n) (k := k) hn i (by omega)
  by_cases hb : csBit n i = true
  ·rw [selF_in hb]
   refine List.nodup_append.2 ⟨ih,List.pairwise_singleton _ _,fun a ha b hb' e => ?_⟩
   rcases List.mem_singleton.1 hb' with rfl
   obtain ⟨j,hj,e'⟩ := selF_mem ha
   have := csF_inj (k := k) hn (by omega) (by omega) (e'.symm.trans e)
   omega
  ·rw [selF_out (by simpa using hb)]
   exact ih
theorem colF_ok {rs : List Int} {n k : Int} (hn : rs.Nodup) (h1 : 1 ≤ rs.length) (h6 : rs.length ≤ 6) (n0 : 0 ≤ n) : ColOk rs (colF rs n k) := by
 have hl := csAt_len rs n k rs.length
 have hsh := cs_short rs n k rs.length
 have hD : (csD rs n k).length ≤ 8 := by
  unfold csD;split
  ·omega
  ·simp;omega
 have hop := opF_csL rs n k
 obtain ⟨-,-,h3⟩ := cs_sel rs n k rs.length
 refine ⟨?_,?_,?_,?_,?_,?_,?_⟩
 ·show _ ≤ n / 32 % 41 - 5;omega
 ·show n / 32 % 41 - 5 ≤ _;omega
 ·show (csL rs n k).length ≤ 100
  unfold csL;split
  ·simp;omega
  ·omega
 ·show ∀ d ∈ csL rs n k,d.length ≤ 100
  intro d hd
  unfold csL at hd
  split at hd
  ·rcases List.mem_append.1 hd with h | h
   ·have := hsh d h;omega
   ·rcases List.mem_singleton.1 h with rfl;omega
  ·have := hsh d hd;omega
 ·show 0 < (opF (csL rs n k)).length
  rw [hop];split
  ·exact List.length_pos_iff.2 (h3 (by assumption))
  ·simp
 ·show ∀ f ∈ opF (csL rs n k),f ∈ rs
  intro f hf
  rw [hop] at hf
  split at hf
  ·obtain ⟨j,hj,rfl⟩ := selF_mem hf
   obtain ⟨i,hi,e,-,-⟩ := csF_get (rs := rs) (k := k) hj
   rw [e];exact getD_mem hi
  ·rcases List.mem_singleton.1 hf with rfl
   have : n / 64 % (rs.length : Int) < rs.length := Int.emod_lt_of_pos _ (by omega)
   exact getD_mem (by omega)
 ·show (opF (csL rs n k)).Nodup
  rw [hop];split
  ·exact selF_nodup hn _ (Nat.le_refl _)
  ·exact List.pairwise_singleton _ _
theorem rowsT_ok : ∀ i : Fin 6,(rowsT.getD i.1 []).Pairwise (· < ·) ∧ (∀ r ∈ rowsT.getD i.1 [],0 ≤ r ∧ r < 6) ∧ (rowsT.getD i.1 []).Nodup := by decide
theorem cutT_ok : ∀ i : Fin 6,∀ s : Fin 5,s.1 < (rowsT.getD i.1 []).length → (cutT (rowsT.getD i.1 []) s.1 (rowsT.getD i.1 []).length).Pairwise (· < ·) ∧ ∀ r ∈ cutT (rowsT.getD i.1 []) s.1 (rowsT.getD i.1 []).length,r ∈ rowsT.getD i.1 [] := by decide
structure RowsOk (rs : List Int) : Prop where
 asc : AscP rs
 low : ∀ r ∈ rs,0 ≤ r ∧ r < 6
 nd : rs.Nodup
 l3 : 3 ≤ rs.length
 l5 : rs.length ≤ 5
theorem rowsF_ok (l : List Int) : RowsOk (rowsF l) := by
 have h0 := atF_bd l 1 (by omega)
 have h1 : (atF l 1 % 6).toNat < 6 := by omega
 obtain ⟨a,b,c⟩ := rowsT_ok ⟨_,h1⟩
 obtain ⟨d,e⟩ := rowsT_len ⟨_,h1⟩
 exact ⟨ascP_of a,b,c,d,e⟩
structure CutM (rs : List Int) (c : Cut) : Prop where
 asc : AscP c.1
 sub : ∀ r ∈ c.1,r ∈ rs
 two : 2 ≤ c.2
 le : c.2 ≤ (c.1.length : Int)
 l5 : c.1.length ≤ 5
theorem masF_cutM (l : List Int) : ∀ c ∈ (masF l).cuts,CutM (rowsF l) c := by
 intro c hc
 obtain ⟨k,hk,rfl⟩ := List.mem_map.1 hc
 have h0 := atF_bd l 1 (by omega)
 have h3 := atF_bd l 3 (by omega)
 have hk' := List.mem_range.1 hk
 have h20 := atF_bd l (20 + k) (by omega)
 have h1 : (atF l 1 % 6).toNat < 6 := by omega
 have hr := rowsF_ok l
 have hl5 := hr.l5
 have hl3 := hr.l3
 have hs : atF l (20 + k) % ((rowsF l).length : Int) < (rowsF l).length := Int.emod_lt_of_pos _ (by omega)
 have hs0 : 0 ≤ atF l (20 + k) % ((rowsF l).length : Int) := Int.emod_nonneg _ (by omega)
 have hs1 : (atF l (20 + k) % ((rowsF l).length : Int)).toNat < (rowsF l).length := by omega
 have hs5 : (atF l (20 + k) % ((rowsF l).length : Int)).toNat < 5 := by omega
 obtain ⟨a,b⟩ := cutT_ok ⟨_,h1⟩ ⟨_,hs5⟩ hs1
 have c := cutT_long ⟨_,h1⟩ ⟨_,hs5⟩ hs1
 refine ⟨ascP_of a,b,?_,?_,Nat.le_trans (cutT_len _ _ _) hl5⟩
 ·show 2 ≤ (if atF l (24 + k) % 2 = 1 then (3 : Int) else 2);split <;> decide
 ·have c' : 2 < (cutF (rowsF l) l k).1.length := c
  show (if atF l (24 + k) % 2 = 1 then (3 : Int) else 2) ≤ _
  split <;> omega
theorem masF_ok (l : List Int) : MsOk (masF l) := by
 have hr := rowsF_ok l
 have h0 := atF_bd l 0 (by omega)
 have h2 := atF_bd l 2 (by omega)
 have hl5 := hr.l5
 have hl3 := hr.l3
 have hc := masF_cuts l
 refine ⟨by show (0 : Int) ≤ 6;decide,by show (6 : Int) ≤ 200;decide,by show 0 ≤ atF l 0 % 30;omega,by show atF l 0 % 30 ≤ _;omega,by show 1 ≤ (rowsF l).length;omega,by show (rowsF l).length ≤ 32;omega,hr.asc,hr.low,?_,?_,by omega,?_⟩
 ·show ((List.range _).map _).length ≤ 1000
  simp only [List.length_map,List.length_range]
  omega
 ·intro c hc
  obtain ⟨j,hj,rfl⟩ := List.mem_map.1 hc
  have hj' := List.mem_range.1 hj
  exact colF_ok (rs := rowsF l) hr.nd (by omega) (by omega) (atF_bd l (5 + 2 * j) (by omega)).1
 ·intro c hc
  have h := masF_cutM l c hc
  exact ⟨h.asc,h.sub,h.two,h.le,by have := h.l5;omega⟩
end Go.Proofs.YtabmjadcoepbeaaGreat

/- One operation of a region that draws its order, walked by the laws over a list of known blocks. No program. -/
namespace Go.Proofs.YtabmjadcoepbeaaGreat
open Go.RowKit
section
variable {P : Program} {ops : Array Oper} {Q : Exit → Act → World → Prop} {S : World → Prop}
def StepL (P : Program) (ops : Array Oper) (Q : Exit → Act → World → Prop) (S : World → Prop) (s fuel : Nat) (listed : Array Bool) (i : Nat) (e : Exit) (a : Act) (w : World) : Prop :=
 e = .normal ∧ ((listed.setIfInBounds i true).getD s false = false → S w) ∧ wpL P ops Q S s fuel (listed.setIfInBounds i true) a w
theorem StepL.mk {s fuel i : Nat} {listed : Array Bool} {a : Act} {w : World} (hS : S w) (h : wpL P ops Q S s fuel (listed.setIfInBounds i true) a w) : StepL P ops Q S s fuel listed i .normal a w := ⟨rfl,fun _ => hS,h⟩
end
end Go.Proofs.YtabmjadcoepbeaaGreat

/- Maps from pairs of flights to fractions: what the block of such a map holds. -/
namespace Go.Proofs.YtabmjadcoepbeaaGreat
open Go.RowKit Go.Maps Go.WideShapes

def Wf (a : Int) : Prop := (Lit.int .i64 a).wf = true
def klP (a c : Int) : Lit := .string (keyBytes [.int .i64 a,.int .i64 c])
abbrev PQ := (Int × Int) × Rat
def sumAt (S : List PQ) (p : Int × Int) : Rat := (S.filter fun e => decide (e.1 = p)).foldl (fun s e => s + e.2) ((0 : Int) : Rat)
structure PMap (D : DataW Value) (m : World) (S : List PQ) : Prop where
 mp : IsMap D
 some : ∀ e ∈ S,∃ v,(∀ z,D.atKey (klP e.1.1 e.1.2) z = .held v) ∧ FracC m v (sumAt S e.1)
 none : ∀ a c,Wf a → Wf c → (∀ e ∈ S,e.1 ≠ (a,c)) → ∀ z,D.atKey (klP a c) z = z
 wf : ∀ e ∈ S,Wf e.1.1 ∧ Wf e.1.2
 keys : ∀ kl,has D kl = true → ∃ e ∈ S,kl = klP e.1.1 e.1.2
theorem PMap.le {D : DataW Value} {m m' : World} {S : List PQ} (h : PMap D m S) (hl : Le m m') : PMap D m' S :=
 ⟨h.mp,fun e he => by obtain ⟨v,h1,h2⟩ := h.some e he;exact ⟨v,h1,h2.le hl⟩,h.none,h.wf,h.keys⟩
theorem PMap.made (m : World) : PMap (.map []) m [] :=
 ⟨⟨[],rfl⟩,(fun _ h => by cases h),(fun _ _ _ _ _ _ => rfl),(fun _ h => by cases h),(fun kl h => by simp [has] at h)⟩
def SumV (m : World) (v : Value) (q : Rat) : Prop := FracC m v q ∨ (v = .agg #[.bool false,.slice none 0 0,.bool false,.slice none 0 0] ∧ q = ((0 : Int) : Rat))
theorem SumV.le {m m' : World} {v : Value} {q : Rat} (h : SumV m v q) (hl : Le m m') : SumV m' v q := h.imp (fun h => h.le hl) id
theorem SumV.lit {m : World} {v : Value} {q : Rat} (h : SumV m v q) : ∃ g A n c f B k d,v = .agg #[.bool g,.slice A n c,.bool f,.slice B k d] := by
 rcases h with h | ⟨rfl,-⟩
 ·obtain ⟨g,A,n,c,f,B,k,d,e,_⟩ := h.lit
  exact ⟨_,_,_,_,_,_,_,_,e⟩
 ·exact ⟨_,_,_,_,_,_,_,_,rfl⟩
end Go.Proofs.YtabmjadcoepbeaaGreat

/- Blocks that are no rows (maps, iterators) beside the list of known blocks: what leaves them; ranging over a map. No program but for the last law's types. -/
namespace Go.Proofs.YtabmjadcoepbeaaGreat
open Go.RowKit Go.Maps

def Still (W W' : World) : Prop := ∀ (b : Nat) (o : Obj),W.heap[b]? = some o → (∀ cs t fr,o ≠ Obj.cells cs t fr) → W'.heap[b]? = some o
theorem Still.refl (W : World) : Still W W := fun _ _ h _ => h
theorem Still.trans {W W' W2 : World} (h : Still W W') (k : Still W' W2) : Still W W2 := fun b o hb hn => k b o (h b o hb hn) hn
theorem Ext.still {W W' : World} (h : Ext W W') : Still W W' := fun b o hb _ => (h.block b (Array.getElem?_eq_some_iff.1 hb).1).trans hb
theorem Loc.join {w0 m0 W m W2 m2 : World} {A B : List Lo} (hL : Loc w0 m0 W m A) (h2 : Loc W m W2 m2 B) : Loc w0 m0 W2 m2 (B ++ A) := by
 refine ⟨hL.size0,hL.ext.trans h2.ext,hL.mext.trans h2.mext,h2.vw,fun x hx => ?_,fun x hx => ?_,fun x hx a ha => ?_,?_⟩
 ·rcases List.mem_append.1 hx with hx | hx
  ·exact Nat.le_trans hL.ext.size (h2.low x hx)
  ·exact hL.low x hx
 ·rcases List.mem_append.1 hx with hx | hx
  ·exact h2.blk x hx
  ·exact (hL.blk x hx).ext h2.ext
 ·rcases List.mem_append.1 hx with hx | hx
  ·exact h2.hid x hx a ha
  ·have hlt : a.block < m.heap.size := by rw [ha,hL.vw.size];exact (hL.blk x hx).lt
   rw [h2.mext.cell (p := a) hlt]
   exact hL.hid x hx a ha
 ·rw [List.pairwise_append]
  refine ⟨h2.apart,hL.apart,fun x hx y hy => ?_⟩
  have h1 := h2.low x hx
  have h3 := (hL.blk y hy).lt
  omega
section
variable {P : Program} {ops : Array Oper} {Q : Exit → Act → World → Prop} {rest : List Oper} {o : Oper} {a : Act} {w0 m0 W m : World}
end
section
variable {ops : Array Oper} {Q : Exit → Act → World → Prop} {rest : List Oper} {o : Oper} {a : Act} {w0 m0 W m : World} {Ls : List Lo}
end
end Go.Proofs.YtabmjadcoepbeaaGreat
