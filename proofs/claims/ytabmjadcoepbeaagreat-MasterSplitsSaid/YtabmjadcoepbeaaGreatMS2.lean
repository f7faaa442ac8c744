/- Part 2 of 6 of the proof: the law MasterSplits returns true for every input, and its arguments read as before; there is no condition. -/
import Derived.Lib.SliceRun
import Derived.Laws.Bits128
import Derived.Test.YtabmjadcoepbeaaGreatMS1
set_option linter.unusedVariables false
set_option linter.unusedSimpArgs false
set_option maxRecDepth 100000
set_option maxHeartbeats 64000000
/- Contract of pairingref1.DivMod (for a positive divisor). -/
namespace Go.Proofs.YtabmjadcoepbeaaGreat
open Go.RowKit

theorem l1 : (digs (1 : Int).natAbs).length ≤ 1000 := by rw [show (1 : Int).natAbs = 1 from rfl,digs_small (by omega) (by omega)];simp
theorem dm_of {x y q r : Int} (hy : 0 < y) (h : r + y * q = x) (h0 : 0 ≤ r) (h1 : r < y) : x / y = q ∧ x % y = r := by
 have := (Int.ediv_emod_unique hy).2 ⟨h,h0,h1⟩
 exact this
theorem dm_pos {x y : Int} (hy : 0 < y) (hx : ¬ x < 0) : x / y = sgn false (x.natAbs / y.natAbs) ∧ x % y = sgn false (x.natAbs % y.natAbs) := by
 obtain ⟨a,rfl⟩ : ∃ a : Nat,x = a := ⟨x.natAbs,by omega⟩
 obtain ⟨b,rfl⟩ : ∃ b : Nat,y = b := ⟨y.natAbs,by omega⟩
 simp [sgn]
theorem dm_neg0 {x y : Int} (hy : 0 < y) (hx : x < 0) (hr : x.natAbs % y.natAbs = 0) : x / y = sgn true (x.natAbs / y.natAbs) ∧ x % y = sgn true (x.natAbs % y.natAbs) := by
 obtain ⟨a,rfl⟩ : ∃ a : Nat,x = -(a : Int) := ⟨x.natAbs,by omega⟩
 obtain ⟨b,rfl⟩ : ∃ b : Nat,y = b := ⟨y.natAbs,by omega⟩
 simp only [Int.natAbs_neg,Int.natAbs_natCast] at hr ⊢
 refine dm_of hy ?_ (by simp [sgn,hr]) (by simp [sgn,hr];omega)
 have h := Nat.mod_add_div a b
 rw [hr] at h ⊢
 have h2 : (b : Int) * ((a / b : Nat) : Int) = a := by rw [← Int.natCast_mul];congr 1;omega
 simp only [sgn,if_true,Int.mul_neg,h2];simp
theorem dm_neg {x y : Int} (hy : 0 < y) (hx : x < 0) (hr : x.natAbs % y.natAbs ≠ 0) : x / y = sgn true (x.natAbs / y.natAbs) - 1 ∧ x % y = sgn true (x.natAbs % y.natAbs) + y := by
 obtain ⟨a,rfl⟩ : ∃ a : Nat,x = -(a : Int) := ⟨x.natAbs,by omega⟩
 obtain ⟨b,rfl⟩ : ∃ b : Nat,y = b := ⟨y.natAbs,by omega⟩
 simp only [Int.natAbs_neg,Int.natAbs_natCast] at hr ⊢
 have hlt := Nat.mod_lt a (show b > 0 by omega)
 have h := Nat.mod_add_div a b
 have h2 : ((a % b : Nat) : Int) + (b : Int) * ((a / b : Nat) : Int) = a := by rw [← Int.natCast_mul];omega
 refine dm_of hy ?_ (by simp only [sgn,if_true];omega) (by simp only [sgn,if_true];omega)
 simp only [sgn,if_true,Int.mul_sub,Int.mul_neg,Int.mul_one];omega

theorem c_DivMod (a b : Value) (x y : Int) (w m : World) (hV : Vw m w) (ha : IntV m a x) (hb : IntV m b y) (hy0 : 0 < y) :
  Calls Tryz.prog 85 #[a,b] w (RetV w m fun m' v => ∃ q r,v = .tuple #[q,r,.int .i64 0] ∧ IntC m' q (x / y) ∧ IntC m' r (x % y)) := by
 obtain ⟨na,A,la,ca,rfl⟩ := ha.lit
 obtain ⟨nb,B,lb,cb,rfl⟩ := hb.lit
 have hL := Loc.start hV
 go_enter Tryz.func85,Tryz.ntmps85
 go_upto_region 1 with ((first | go_skip | refine tO ?_ | (refine tS ?_;clear hL;intro _ hL) | (refine tB ?_;clear hL;intro _ _ hL _)))
 refine wp_region_by 4 [false,false,false,false] [(fun v _ _ => v = ?c1_0),Of (fun um v => IntC um v x),(fun v _ _ => v = ?c1_2),Of (fun um v => IntC um v y)] hL.vw mixed [11,12,13,14] _ (by kernel_rfl) (fun vs => by simp only [lay,Act.put,zq1,zq2,zq3];rfl) (by kernel_rfl) ?s1 ?r1
 case s1 =>
  refine ⟨?_,?_,?_,?_,trivial⟩
  ·intro vs W1 m1 hE hM hV hD;clear hD
   exact sLe
  ·intro vs W1 m1 hE hM hV hD;obtain ⟨⟨_,_,-,-,f11⟩,-⟩ := hD
   rw [(f11 : vs 11 = _)]
   clear f11
   go_wp2_with fail
   refine (c_Canon _ x _ _ hV (ha.le leX)).mono ?_
   rintro e W2 ⟨v,m2,rfl,hE2,hM2,hV2,h⟩
   go_wp2_with fail
   refine One.call hE2 hM2 hV2 ?_;first | exact h | exact rfl
  ·intro vs W1 m1 hE hM hV hD;clear hD
   exact sLe
  ·intro vs W1 m1 hE hM hV hD;obtain ⟨⟨_,_,-,-,f13⟩,-,-⟩ := hD
   rw [(f13 : vs 13 = _)]
   clear f13
   go_wp2_with fail
   refine (c_Canon _ y _ _ hV (hb.le leX)).mono ?_
   rintro e W2 ⟨v,m2,rfl,hE2,hM2,hV2,h⟩
   go_wp2_with fail
   refine One.call hE2 hM2 hV2 ?_;first | exact h | exact rfl
 intro vs W1 m1 hE hM hV hF hD
 clear hD
 obtain ⟨-,⟨_,_,-,i12,f12⟩,-,⟨_,_,-,i14,f14⟩,-⟩ := hF
 replace hL := hL.call hE hM hV
 replace f12 : IntC _ (vs 12) x := f12
 replace f12 := f12.le i12.le
 clear i12
 obtain ⟨g12,A12,n12,c12,e12,f12⟩ := f12.lit
 generalize vs 12 = x12 at e12 ⊢
 subst x12
 replace f14 : IntC _ (vs 14) y := f14
 replace f14 := f14.le i14.le
 clear i14
 obtain ⟨g14,A14,n14,c14,e14,f14⟩ := f14.lit
 generalize vs 14 = x14 at e14 ⊢
 subst x14
 clear hE hV
 simp only [List.drop_succ_cons,List.drop_zero]
 obtain ⟨hg14,hn14,d14⟩ := f14.dig
 obtain ⟨hg12,hn12,d12⟩ := f12.dig
 obtain rfl : g14 = false := by rw [hg14];simp;omega
 have hz : ((n14 : Int) == 0) = false := by
  have := f14.zero
  simp;omega
 have lx : (digs x.natAbs).length ≤ 1000 := ha.length
 have ly : (digs y.natAbs).length ≤ 1000 := hb.length
 have Hg := Lib.hid hg12
 clear hg14 hn14 hg12 hn12
 go_wp2_with (first | go_skip | refine tO ?_ | (refine tS ?_;clear hL;intro _ hL) | (refine tB ?_;clear hL;intro _ _ hL _))
 refine (c_divDigits _ _ _ _ _ _ hL.vw d12 (by omega) d14 (by omega) (by omega)).mono ?_
 rintro e W2 ⟨_,m2,rfl,hE,hM2,hV,qv,rv,rfl,h1,h2⟩
 replace hL := hL.call hE (by assumption) hV;clear hE hV
 have lQ : (digs (x.natAbs / y.natAbs)).length ≤ 1000 := Nat.le_trans (length_digs_mono (Nat.div_le_self _ _)) (by omega)
 have lR : (digs (x.natAbs % y.natAbs)).length ≤ 1000 := Nat.le_trans (length_digs_mono (Nat.mod_le _ _)) (by omega)
 go_upto_region 5 with ((first | go_skip | refine tO ?_ | (refine tS ?_;clear hL;intro _ hL) | (refine tB ?_;clear hL;intro _ _ hL _)))
 obtain ⟨B,hB1,hB2,hB3⟩ := hL.bound
 refine wp_region_by 13 [false,false,false,false,false,false,false,false,false,false,false,true,true] [(fun v _ _ => v = ?c5_0),(fun v _ _ => v = ?c5_1),(fun v _ _ => v = ?c5_2),(fun v _ _ => v = ?c5_3),(fun v _ _ => v = ?c5_4),(fun v _ _ => v = ?c5_5),Of (fun um v => IntC um v (sgn g12 (x.natAbs / y.natAbs))),(fun v _ _ => v = ?c5_7),(fun v _ _ => v = ?c5_8),(fun v _ _ => v = ?c5_9),Of (fun um v => IntC um v (sgn g12 (x.natAbs % y.natAbs))),NewBlk B 53 #[.bool false,.slice none 0 0],NewBlk B 53 #[.bool false,.slice none 0 0]] hL.vw mixed [29,30,31,32,33,34,35,36,37,38,39,9,10] _ (by kernel_rfl) (fun vs => by simp only [lay,Act.put,zq1,zq2,zq3];rfl) (by kernel_rfl) ?s5 ?r5
 case s5 =>
  refine ⟨?_,?_,?_,?_,?_,?_,?_,?_,?_,?_,?_,?_,?_,trivial⟩
  ·intro vs W1 m1 hE hM hV hD;clear hD;replace hL := hL.call hE hM hV
   go_wp2_with (first | go_skip | refine tO ?_ | (refine tS ?_;clear hL;intro _ hL) | (refine tB ?_;clear hL;intro _ _ hL _))
   refine One.still hV ?_;exact rfl
  ·intro vs W1 m1 hE hM hV hD;obtain ⟨⟨_,_,-,-,f29⟩,-⟩ := hD
   rw [(f29 : vs 29 = _)];clear f29;exact sLe
  ·intro vs W1 m1 hE hM hV hD;clear hD;replace hL := hL.call hE hM hV
   go_wp2_with (first | go_skip | refine tO ?_ | (refine tS ?_;clear hL;intro _ hL) | (refine tB ?_;clear hL;intro _ _ hL _))
   refine One.still hV ?_;exact rfl
  ·intro vs W1 m1 hE hM hV hD;obtain ⟨⟨_,_,-,-,f31⟩,-⟩ := hD
   rw [(f31 : vs 31 = _)];clear f31;exact sLe
  ·intro vs W1 m1 hE hM hV hD;obtain ⟨⟨_,_,-,-,f30⟩,⟨_,_,-,-,f32⟩,-⟩ := hD
   rw [(f30 : vs 30 = _),(f32 : vs 32 = _)];clear f30 f32;exact sPw
  ·intro vs W1 m1 hE hM hV hD;clear hD
   exact sPw
  ·intro vs W1 m1 hE hM hV hD;obtain ⟨⟨_,_,-,-,f33⟩,⟨_,_,-,-,f34⟩,-⟩ := hD
   rw [(f33 : vs 33 = _),(f34 : vs 34 = _)]
   clear f33 f34
   go_wp2_with fail
   refine (c_Make _ _ _ _ _ hV (h1.le leX) (by omega)).mono ?_
   rintro e W2 ⟨v,m2,rfl,hE2,hM2,hV2,h⟩
   go_wp2_with fail
   refine One.call hE2 hM2 hV2 ?_;first | exact h | exact rfl
  ·intro vs W1 m1 hE hM hV hD;clear hD;replace hL := hL.call hE hM hV
   go_wp2_with (first | go_skip | refine tO ?_ | (refine tS ?_;clear hL;intro _ hL) | (refine tB ?_;clear hL;intro _ _ hL _))
   refine One.still hV ?_;exact rfl
  ·intro vs W1 m1 hE hM hV hD;obtain ⟨⟨_,_,-,-,f36⟩,-⟩ := hD
   rw [(f36 : vs 36 = _)];clear f36;exact sLe
  ·intro vs W1 m1 hE hM hV hD;clear hD
   exact sPw
  ·intro vs W1 m1 hE hM hV hD;obtain ⟨⟨_,_,-,-,f37⟩,⟨_,_,-,-,f38⟩,-,-⟩ := hD
   rw [(f37 : vs 37 = _),(f38 : vs 38 = _)]
   clear f37 f38
   go_wp2_with fail
   refine (c_Make _ _ _ _ _ hV (h2.le leX) (by omega)).mono ?_
   rintro e W2 ⟨v,m2,rfl,hE2,hM2,hV2,h⟩
   go_wp2_with fail
   refine One.call hE2 hM2 hV2 ?_;first | exact h | exact rfl
  ·intro vs W1 m1 hE hM hV hD;clear hD
   exact one_alloc hV (Nat.le_trans hB3 hE.size) rfl rfl rfl ZcC.h
  ·intro vs W1 m1 hE hM hV hD;clear hD
   exact one_alloc hV (Nat.le_trans hB3 hE.size) rfl rfl rfl ZcC.h
 intro vs W1 m1 hE hM hV hF hD
 obtain ⟨-,-,-,-,-,-,⟨_,_,-,i35,f35⟩,-,-,-,⟨_,_,-,i39,f39⟩,⟨_,_,j9,i9,f9⟩,⟨_,_,j10,i10,f10⟩,-⟩ := hF
 replace hL := hL.call hE hM hV
 replace f35 : IntC _ (vs 35) (sgn g12 (x.natAbs / y.natAbs)) := f35
 replace f35 := f35.le i35.le
 clear i35
 obtain ⟨g35,A35,n35,c35,e35,f35⟩ := f35.lit
 generalize vs 35 = x35 at e35 ⊢
 subst x35
 replace f39 : IntC _ (vs 39) (sgn g12 (x.natAbs % y.natAbs)) := f39
 replace f39 := f39.le i39.le
 clear i39
 obtain ⟨g39,A39,n39,c39,e39,f39⟩ := f39.lit
 generalize vs 39 = x39 at e39 ⊢
 subst x39
 obtain ⟨b9,e9,hL⟩ := Loc.add (Lt := []) hB1 hB2 hL f9 j9 i9 (fun _ h => by cases h)
 obtain ⟨b10,e10,hL⟩ := Loc.add (Lt := [_]) hB1 hB2 hL f10 j10 i10 (add_ne1 (by rw [← e9];exact hD 12 11 _ _ _ _ (by decide) (by decide) (by decide) rfl rfl rfl rfl rfl rfl))
 simp only [e9,e10,List.cons_append,List.nil_append] at hL ⊢
 clear e9 f9 j9 i9 e10 f10 j10 i10
 clear hB1 hB2 hB3 hD
 clear hE hV
 simp only [List.drop_succ_cons,List.drop_zero]
 have z39 := f39.zero
 have hE : ∀ (q r : Int),(digs q.natAbs).length ≤ 1000 → q = q := fun _ _ _ => rfl
 clear hE
 by_cases hr : x.natAbs % y.natAbs = 0
 ·have h0 : sgn g12 (x.natAbs % y.natAbs) = 0 := by rw [hr];simp [sgn]
  obtain rfl : n39 = 0 := z39.2 h0
  clear z39 h0
  have hfin : x / y = sgn g12 (x.natAbs / y.natAbs) ∧ x % y = sgn g12 (x.natAbs % y.natAbs) := by
   by_cases hx : x < 0
   ·rw [Hg.out];simp only [hx,decide_true];exact dm_neg0 hy0 hx hr
   ·rw [Hg.out];simp only [hx,decide_false];exact dm_pos hy0 hx
  have HF := Lib.hid hfin
  clear hfin hr
  go_upto_region 8 with ((first | go_skip | refine tO ?_ | (refine tS ?_;clear hL;intro _ hL) | (refine tB ?_;clear hL;intro _ _ hL _)))
  obtain ⟨p1,p2,_⟩ := (hL.at_ lo0).facts2
  obtain ⟨p3,p4,_⟩ := (hL.at_ lo1).facts2
  obtain ⟨p5,p6,p7,p8⟩ := (hL.at_ lo2).facts2
  obtain ⟨p9,p10,p11,p12⟩ := (hL.at_ lo3).facts2
  obtain ⟨n1,n2⟩ := hL.ne lo0 lo2 (by omega)
  obtain ⟨n3,n4⟩ := hL.ne lo0 lo3 (by omega)
  obtain ⟨n5,n6⟩ := hL.ne lo1 lo2 (by omega)
  obtain ⟨n7,n8⟩ := hL.ne lo1 lo3 (by omega)
  obtain ⟨n9,n10⟩ := hL.ne lo2 lo3 (by omega)
  go_region_held3 (fun w' => w'.cell? ⟨b9,0,none⟩ = some (.bool g35) ∧ w'.cell? ⟨b9,1,none⟩ = some (.slice A35 n35 c35) ∧ w'.cell? ⟨b10,0,none⟩ = some (.bool g39) ∧ w'.cell? ⟨b10,1,none⟩ = some (.slice A39 0 c39)) (go_keep) (fail)
  go_wp2_with fail
  refine bodyPost_ret (v := .tuple #[.agg #[.bool g35,.slice A35 n35 c35],.agg #[.bool g39,.slice A39 0 c39],.int .i64 0]) (by simp [results,Tryz.results85,go_sem, *]) rfl (RetV.mk ((hL.drew.store lo3 0 [.bool g35,.slice A35 n35 c35]).store lo2 0 [.bool g39,.slice A39 0 c39]) ⟨_,_,rfl,?_,?_⟩)
  ·rw [HF.out.1];exact f35
  ·rw [HF.out.2];exact f39
 ·have hn0 : 0 < n39 := by
   rcases Nat.eq_zero_or_pos n39 with h | h
   ·exfalso
    have := z39.1 h
    unfold sgn at this;split at this <;> omega
   ·exact h
  clear z39
  by_cases hx : x < 0
  ·obtain rfl : g12 = true := by rw [Hg.out];simp [hx]
   have HF := Lib.hid (dm_neg hy0 hx hr)
   clear Hg hr hx
   have lS : (digs (sgn true (x.natAbs / y.natAbs)).natAbs).length ≤ 1000 := by rw [sgn_natAbs];omega
   have lT : (digs (sgn true (x.natAbs % y.natAbs)).natAbs).length ≤ 1000 := by rw [sgn_natAbs];omega
   have ly' : (digs y.natAbs).length ≤ 1000 := by omega
   go_upto_region 7 with ((first | go_skip | refine tO ?_ | (refine tS ?_;clear hL;intro _ hL) | (refine tB ?_;clear hL;intro _ _ hL _)))
   refine wp_region_by 6 [false,false,false,false,false,false] [(fun v _ _ => v = ?c7_0),Of (fun um v => IntC um v 1),Of (fun um v => IntC um v (sgn true (x.natAbs / y.natAbs) - 1)),(fun v _ _ => v = ?c7_3),(fun v _ _ => v = ?c7_4),Of (fun um v => IntC um v (sgn true (x.natAbs % y.natAbs) + y))] hL.vw mixed [51,52,53,54,55,56] _ (by kernel_rfl) (fun vs => by simp only [lay,Act.put,zq1,zq2,zq3];rfl) (by kernel_rfl) ?s7 ?r7
   case s7 =>
    refine ⟨?_,?_,?_,?_,?_,?_,trivial⟩
    ·intro vs W1 m1 hE hM hV hD;clear hD
     exact sLe
    ·intro vs W1 m1 hE hM hV hD;clear hD
     go_wp2_with fail
     refine (c_FromInt64 1 _ _ hV (by omega) (by omega)).mono ?_
     rintro e W2 ⟨v,m2,rfl,hE2,hM2,hV2,h⟩
     go_wp2_with fail
     refine One.call hE2 hM2 hV2 ?_;first | exact h | exact rfl
    ·intro vs W1 m1 hE hM hV hD;obtain ⟨⟨_,_,-,-,f51⟩,⟨_,_,-,i52,f52⟩,-,-⟩ := hD
     rw [(f51 : vs 51 = _)]
     clear f51
     have f52 : IntC _ (vs 52) 1 := f52
     replace f52 := f52.le i52.le
     clear i52
     go_wp2_with fail
     refine (c_Sub _ _ _ 1 _ _ hV ((f35.toV lS).le leX) (f52.toV l1)).mono ?_
     rintro e W2 ⟨v,m2,rfl,hE2,hM2,hV2,h⟩
     go_wp2_with fail
     refine One.call hE2 hM2 hV2 ?_;first | exact h | exact rfl
    ·intro vs W1 m1 hE hM hV hD;clear hD
     exact sLe
    ·intro vs W1 m1 hE hM hV hD;clear hD
     exact sLe
    ·intro vs W1 m1 hE hM hV hD;obtain ⟨⟨_,_,-,-,f54⟩,⟨_,_,-,-,f55⟩,-,-⟩ := hD
     rw [(f54 : vs 54 = _),(f55 : vs 55 = _)]
     clear f54 f55
     go_wp2_with fail
     refine (c_Add _ _ _ y _ _ hV ((f39.toV lT).le leX) ((f14.toV ly').le leX)).mono ?_
     rintro e W2 ⟨v,m2,rfl,hE2,hM2,hV2,h⟩
     go_wp2_with fail
     refine One.call hE2 hM2 hV2 ?_;first | exact h | exact rfl
   intro vs W1 m1 hE hM hV hF hD
   clear hD
   obtain ⟨-,⟨_,_,-,i52,f52⟩,⟨_,_,-,i53,f53⟩,-,-,⟨_,_,-,i56,f56⟩,-⟩ := hF
   replace hL := hL.call hE hM hV
   replace f52 : IntC _ (vs 52) 1 := f52
   replace f52 := f52.le i52.le
   clear i52
   replace f53 : IntC _ (vs 53) (sgn true (x.natAbs / y.natAbs) - 1) := f53
   replace f53 := f53.le i53.le
   clear i53
   obtain ⟨g53,A53,n53,c53,e53,f53⟩ := f53.lit
   generalize vs 53 = x53 at e53 ⊢
   subst x53
   replace f56 : IntC _ (vs 56) (sgn true (x.natAbs % y.natAbs) + y) := f56
   replace f56 := f56.le i56.le
   clear i56
   obtain ⟨g56,A56,n56,c56,e56,f56⟩ := f56.lit
   generalize vs 56 = x56 at e56 ⊢
   subst x56
   clear hE hV
   simp only [List.drop_succ_cons,List.drop_zero]
   go_upto_region 8 with ((first | go_skip | refine tO ?_ | (refine tS ?_;clear hL;intro _ hL) | (refine tB ?_;clear hL;intro _ _ hL _)))
   obtain ⟨p1,p2,_⟩ := (hL.at_ lo0).facts2
   obtain ⟨p3,p4,_⟩ := (hL.at_ lo1).facts2
   obtain ⟨p5,p6,p7,p8⟩ := (hL.at_ lo2).facts2
   obtain ⟨p9,p10,p11,p12⟩ := (hL.at_ lo3).facts2
   obtain ⟨n1,n2⟩ := hL.ne lo0 lo2 (by omega)
   obtain ⟨n3,n4⟩ := hL.ne lo0 lo3 (by omega)
   obtain ⟨n5,n6⟩ := hL.ne lo1 lo2 (by omega)
   obtain ⟨n7,n8⟩ := hL.ne lo1 lo3 (by omega)
   obtain ⟨n9,n10⟩ := hL.ne lo2 lo3 (by omega)
   go_region_held3 (fun w' => w'.cell? ⟨b9,0,none⟩ = some (.bool g53) ∧ w'.cell? ⟨b9,1,none⟩ = some (.slice A53 n53 c53) ∧ w'.cell? ⟨b10,0,none⟩ = some (.bool g56) ∧ w'.cell? ⟨b10,1,none⟩ = some (.slice A56 n56 c56)) (go_keep) (fail)
   go_wp2_with fail
   refine bodyPost_ret (v := .tuple #[.agg #[.bool g53,.slice A53 n53 c53],.agg #[.bool g56,.slice A56 n56 c56],.int .i64 0]) (by simp [results,Tryz.results85,go_sem, *]) rfl (RetV.mk ((hL.drew.store lo3 0 [.bool g53,.slice A53 n53 c53]).store lo2 0 [.bool g56,.slice A56 n56 c56]) ⟨_,_,rfl,?_,?_⟩)
   ·rw [HF.out.1];exact f53
   ·rw [HF.out.2];exact f56
  ·obtain rfl : g12 = false := by rw [Hg.out];simp [hx]
   have HF := Lib.hid (dm_pos hy0 hx)
   clear Hg hr hx
   go_upto_region 8 with ((first | go_skip | refine tO ?_ | (refine tS ?_;clear hL;intro _ hL) | (refine tB ?_;clear hL;intro _ _ hL _)))
   obtain ⟨p1,p2,_⟩ := (hL.at_ lo0).facts2
   obtain ⟨p3,p4,_⟩ := (hL.at_ lo1).facts2
   obtain ⟨p5,p6,p7,p8⟩ := (hL.at_ lo2).facts2
   obtain ⟨p9,p10,p11,p12⟩ := (hL.at_ lo3).facts2
   obtain ⟨n1,n2⟩ := hL.ne lo0 lo2 (by omega)
   obtain ⟨n3,n4⟩ := hL.ne lo0 lo3 (by omega)
   obtain ⟨n5,n6⟩ := hL.ne lo1 lo2 (by omega)
   obtain ⟨n7,n8⟩ := hL.ne lo1 lo3 (by omega)
   obtain ⟨n9,n10⟩ := hL.ne lo2 lo3 (by omega)
   go_region_held3 (fun w' => w'.cell? ⟨b9,0,none⟩ = some (.bool g35) ∧ w'.cell? ⟨b9,1,none⟩ = some (.slice A35 n35 c35) ∧ w'.cell? ⟨b10,0,none⟩ = some (.bool g39) ∧ w'.cell? ⟨b10,1,none⟩ = some (.slice A39 n39 c39)) (go_keep) (fail)
   go_wp2_with fail
   refine bodyPost_ret (v := .tuple #[.agg #[.bool g35,.slice A35 n35 c35],.agg #[.bool g39,.slice A39 n39 c39],.int .i64 0]) (by simp [results,Tryz.results85,go_sem, *]) rfl (RetV.mk ((hL.drew.store lo3 0 [.bool g35,.slice A35 n35 c35]).store lo2 0 [.bool g39,.slice A39 n39 c39]) ⟨_,_,rfl,?_,?_⟩)
   ·rw [HF.out.1];exact f35
   ·rw [HF.out.2];exact f39
end Go.Proofs.YtabmjadcoepbeaaGreat

/- Fractions under a view, and contracts of package pairingref25: New, Canon. -/
namespace Go.Proofs.YtabmjadcoepbeaaGreat
open Go.RowKit

def FracV (m : World) (v : Value) (q : Rat) : Prop :=
 ∃ x y a b c d,v = .agg #[a,b,c,d] ∧ IntV m (.agg #[a,b]) x ∧ IntV m (.agg #[c,d]) y ∧ q = Rat.divInt x y
def FracC (m : World) (v : Value) (q : Rat) : Prop :=
 ∃ a b c d,v = .agg #[a,b,c,d] ∧ IntC m (.agg #[a,b]) q.num ∧ IntC m (.agg #[c,d]) q.den
theorem FracV.le {m m' : World} {v : Value} {q : Rat} (h : FracV m v q) (hb : Le m m') : FracV m' v q := by
 obtain ⟨x,y,a,b,c,d,e,h1,h2,h3⟩ := h
 exact ⟨x,y,a,b,c,d,e,h1.le hb,h2.le hb,h3⟩
theorem FracC.le {m m' : World} {v : Value} {q : Rat} (h : FracC m v q) (hb : Le m m') : FracC m' v q := by
 obtain ⟨a,b,c,d,e,h1,h2⟩ := h
 exact ⟨a,b,c,d,e,h1.le hb,h2.le hb⟩
theorem IntC.parts {m : World} {a b : Value} {z : Int} (h : IntC m (.agg #[a,b]) z) : ∃ g A n c,a = .bool g ∧ b = .slice A n c := by
 obtain ⟨A,c,e,_⟩ := h
 simp only [Value.agg.injEq,Array.mk.injEq,List.cons.injEq,and_true] at e
 exact ⟨_,_,_,_,e.1,e.2⟩
theorem IntV.parts {m : World} {a b : Value} {z : Int} (h : IntV m (.agg #[a,b]) z) : ∃ g A n c,a = .bool g ∧ b = .slice A n c := by
 obtain ⟨g,A,c,ds,e,_⟩ := h
 simp only [Value.agg.injEq,Array.mk.injEq,List.cons.injEq,and_true] at e
 exact ⟨_,_,_,_,e.1,e.2⟩
theorem FracC.lit {m : World} {v : Value} {q : Rat} (f : FracC m v q) : ∃ g A n c h B k d,v = .agg #[.bool g,.slice A n c,.bool h,.slice B k d] ∧ FracC m (.agg #[.bool g,.slice A n c,.bool h,.slice B k d]) q := by
 obtain ⟨a,b,c,d,rfl,h1,h2⟩ := f
 obtain ⟨g,A,n,c1,rfl,rfl⟩ := h1.parts
 obtain ⟨h,B,k,d1,rfl,rfl⟩ := h2.parts
 exact ⟨_,_,_,_,_,_,_,_,rfl,_,_,_,_,rfl,h1,h2⟩
theorem FracC.open_ {m : World} {a b c d : Value} {q : Rat} (f : FracC m (.agg #[a,b,c,d]) q) : IntC m (.agg #[a,b]) q.num ∧ IntC m (.agg #[c,d]) q.den := by
 obtain ⟨a',b',c',d',e,h1,h2⟩ := f
 simp only [Value.agg.injEq,Array.mk.injEq,List.cons.injEq,and_true] at e
 obtain ⟨rfl,rfl,rfl,rfl⟩ := e
 exact ⟨h1,h2⟩
theorem FracV.lit {m : World} {v : Value} {q : Rat} (f : FracV m v q) : ∃ x y g A n c h B k d,v = .agg #[.bool g,.slice A n c,.bool h,.slice B k d] ∧ IntV m (.agg #[.bool g,.slice A n c]) x ∧ IntV m (.agg #[.bool h,.slice B k d]) y ∧ q = Rat.divInt x y := by
 obtain ⟨x,y,a,b,c,d,rfl,h1,h2,h3⟩ := f
 obtain ⟨g,A,n,c1,rfl,rfl⟩ := h1.parts
 obtain ⟨h,B,k,d1,rfl,rfl⟩ := h2.parts
 exact ⟨_,_,_,_,_,_,_,_,_,_,rfl,h1,h2,h3⟩
def Fit (k : Nat) (q : Rat) : Prop := q.num.natAbs < 4294967296 ^ k ∧ q.den < 4294967296 ^ k
theorem Fit.mono {k l : Nat} {q : Rat} (h : Fit k q) (hkl : k ≤ l) : Fit l q :=
 ⟨Nat.lt_of_lt_of_le h.1 (Nat.pow_le_pow_right (by omega) hkl),Nat.lt_of_lt_of_le h.2 (Nat.pow_le_pow_right (by omega) hkl)⟩
theorem Fit.num {k : Nat} {q : Rat} (h : Fit k q) (hk : k ≤ 1000) : (digs q.num.natAbs).length ≤ 1000 := Nat.le_trans (length_digs_le h.1) hk
theorem Fit.den {k : Nat} {q : Rat} (h : Fit k q) (hk : k ≤ 1000) : (digs (q.den : Int).natAbs).length ≤ 1000 := Nat.le_trans (length_digs_le h.2) hk
theorem FracC.toV {m : World} {v : Value} {q : Rat} (f : FracC m v q) {k : Nat} (h : Fit k q) (hk : k ≤ 1000) : FracV m v q := by
 obtain ⟨a,b,c,d,rfl,h1,h2⟩ := f
 exact ⟨_,_,a,b,c,d,rfl,h1.toV (h.num hk),h2.toV (h.den hk),(Rat.num_divInt_den q).symm⟩
theorem IntC.nil {m : World} : IntC m (.agg #[.bool false,.slice none 0 0]) 0 := ⟨none,0,by simp [digs_zero],by simp [digs_zero],by simp [digs_zero];exact Sl.nil⟩

theorem frac_pos {x y : Int} (hy : 0 < y) : (Rat.divInt x y).num = x / (Int.gcd x y : Nat) ∧ ((Rat.divInt x y).den : Int) = y / (Int.gcd x y : Nat) := by
 constructor
 ·rw [Rat.num_divInt,Int.sign_eq_one_of_pos hy,Int.one_mul,Int.gcd_comm]
 ·rw [Rat.den_divInt,if_neg (by omega),Int.gcd_comm]
  obtain ⟨b,rfl⟩ : ∃ b : Nat,y = b := ⟨y.natAbs,by omega⟩
  simp

theorem r_New (n d : Value) (x y : Int) (w m : World) (hV : Vw m w) (hn : IntV m n x) (hd : IntV m d y) :
  Calls Tryz.prog 61 #[n,d] w (RetV w m fun m' r => FracC m' r (Rat.divInt x y)) := by
 obtain ⟨na,A,la,ca,rfl⟩ := hn.lit
 obtain ⟨nb,B',lb,cb,rfl⟩ := hd.lit
 have hL := Loc.start hV
 clear hV
 go_enter Tryz.func61,Tryz.ntmps61
 go_wp2_with (first | go_skip | refine tO ?_ | (refine tS ?_;clear hL;intro _ hL) | (refine tB ?_;clear hL;intro _ _ hL _))
 refine (c_FromInt64 1 _ _ hL.vw (by omega) (by omega)).mono ?_
 rintro e W1 ⟨v1,m1,rfl,hE,hM1,hV,h1⟩
 replace hL := hL.call hE (by assumption) hV;clear hE hV
 obtain ⟨g1,A1,n1,c1,rfl,h1⟩ := h1.lit
 go_wp2_with (first | go_skip | refine tO ?_ | (refine tS ?_;clear hL;intro _ hL) | (refine tB ?_;clear hL;intro _ _ hL _))
 refine (c_Sign _ y _ _ hL.vw (hd.le leX)).mono ?_
 rintro e W2 ⟨_,m2,rfl,hE,hM2,hV,rfl⟩
 replace hL := hL.call hE (by assumption) hV;clear hE hV
 by_cases hy : y = 0
 ·subst hy
  rw [show icmp 0 0 = 0 from rfl]
  go_wp2_with (first | go_skip | refine tO ?_ | (refine tS ?_;clear hL;intro _ hL) | (refine tB ?_;clear hL;intro _ _ hL _))
  refine fin_agg hL Tryz.results61 rfl rfl loX ag_Frac rfl ?_
  rw [Rat.divInt_zero]
  exact ⟨_,_,_,_,rfl,IntC.nil,h1.le leX⟩
 ·have hyb : (icmp y 0 == 0) = false := by
   unfold icmp;by_cases h : y < 0 <;> simp [h,hy]
  go_wp2_with (first | go_skip | refine tO ?_ | (refine tS ?_;clear hL;intro _ hL) | (refine tB ?_;clear hL;intro _ _ hL _))
  refine (c_Sign _ x _ _ hL.vw (hn.le leX)).mono ?_
  rintro e W3 ⟨_,m3,rfl,hE,hM3,hV,rfl⟩
  replace hL := hL.call hE (by assumption) hV;clear hE hV
  by_cases hx : x = 0
  ·subst hx
   rw [show icmp 0 0 = 0 from rfl]
   go_wp2_with (first | go_skip | refine tO ?_ | (refine tS ?_;clear hL;intro _ hL) | (refine tB ?_;clear hL;intro _ _ hL _))
   refine fin_agg hL Tryz.results61 rfl rfl loX ag_Frac rfl ?_
   rw [Rat.zero_divInt]
   exact ⟨_,_,_,_,rfl,IntC.nil,h1.le leX⟩
  ·have hxb : (icmp x 0 == 0) = false := by
    unfold icmp;by_cases h : x < 0 <;> simp [h,hx]
   go_wp2_with (first | go_skip | refine tO ?_ | (refine tS ?_;clear hL;intro _ hL) | (refine tB ?_;clear hL;intro _ _ hL _))
   refine (c_Sign _ y _ _ hL.vw (hd.le leX)).mono ?_
   rintro e W4 ⟨_,m4,rfl,hE,hM4,hV,rfl⟩
   replace hL := hL.call hE (by assumption) hV;clear hE hV
   clear hyb hxb
   have lx := hn.length
   have ly := hd.length
   by_cases hneg : y < 0
   ·rw [icmp_lt hneg]
    go_upto_region 5 with ((first | go_skip | refine tO ?_ | (refine tS ?_;clear hL;intro _ hL) | (refine tB ?_;clear hL;intro _ _ hL _)))
    refine wp_region_by 4 [false,false,false,false] [(fun v _ _ => v = ?c5_0),Of (fun um v => IntC um v (-x)),(fun v _ _ => v = ?c5_2),Of (fun um v => IntC um v (-y))] hL.vw mixed [27,28,29,30] _ (by kernel_rfl) (fun vs => by simp only [lay,Act.put,zq1,zq2,zq3];rfl) (by kernel_rfl) ?s5 ?r5
    case s5 =>
     refine ⟨?_,?_,?_,?_,trivial⟩
     ·intro vs W1 m1 hE hM hV hD;clear hD
      exact sLe
     ·intro vs W1 m1 hE hM hV hD;obtain ⟨⟨_,_,-,-,f27⟩,-⟩ := hD
      rw [(f27 : vs 27 = _)]
      clear f27
      go_wp2_with fail
      refine (c_Negate _ x _ _ hV (hn.le leX)).mono ?_
      rintro e W2 ⟨v,m2,rfl,hE2,hM2,hV2,h⟩
      go_wp2_with fail
      refine One.call hE2 hM2 hV2 ?_;first | exact h | exact rfl
     ·intro vs W1 m1 hE hM hV hD;clear hD
      exact sLe
     ·intro vs W1 m1 hE hM hV hD;obtain ⟨⟨_,_,-,-,f29⟩,-,-⟩ := hD
      rw [(f29 : vs 29 = _)]
      clear f29
      go_wp2_with fail
      refine (c_Negate _ y _ _ hV (hd.le leX)).mono ?_
      rintro e W2 ⟨v,m2,rfl,hE2,hM2,hV2,h⟩
      go_wp2_with fail
      refine One.call hE2 hM2 hV2 ?_;first | exact h | exact rfl
    intro vs W1 m1 hE hM hV hF hD
    clear hD
    obtain ⟨-,⟨_,_,-,i28,f28⟩,-,⟨_,_,-,i30,f30⟩,-⟩ := hF
    replace hL := hL.call hE hM hV
    replace f28 : IntC _ (vs 28) (-x) := f28
    replace f28 := f28.le i28.le
    clear i28
    obtain ⟨g28,A28,n28,c28,e28,f28⟩ := f28.lit
    generalize vs 28 = x28 at e28 ⊢
    subst x28
    replace f30 : IntC _ (vs 30) (-y) := f30
    replace f30 := f30.le i30.le
    clear i30
    obtain ⟨g30,A30,n30,c30,e30,f30⟩ := f30.lit
    generalize vs 30 = x30 at e30 ⊢
    subst x30
    clear hE hV
    simp only [List.drop_succ_cons,List.drop_zero]
    have fx := f28.toV (by rw [Int.natAbs_neg];exact lx)
    have fy := f30.toV (by rw [Int.natAbs_neg];exact ly)
    have hq : Hid (Rat.divInt x y = Rat.divInt (-x) (-y)) := (Rat.neg_divInt_neg x y).symm
    have hy' : 0 < -y := by omega
    rw [← Int.natAbs_neg] at lx ly
    clear hneg hx hy f28 f30
    generalize -x = x' at *
    generalize -y = y' at *
    go_wp2_with (first | go_skip | refine tO ?_ | (refine tS ?_;clear hL;intro _ hL) | (refine tB ?_;clear hL;intro _ _ hL _))
    have hgp : 0 < Int.gcd x' y' := Int.gcd_pos_of_ne_zero_right _ (by omega)
    have hgl : (digs (((Int.gcd x' y' : Nat) : Int)).natAbs).length ≤ 1000 := Nat.le_trans (length_digs_mono (by simpa using Nat.le_of_dvd (by omega) (Int.gcd_dvd_natAbs_right x' y'))) ly
    have hgq := frac_pos (x := x') hy'
    refine (c_GCD _ _ x' y' _ _ hL.vw (fx.le leX) (fy.le leX)).mono ?_
    rintro e W5 ⟨v5,m5,rfl,hE,hM5,hV,h5⟩
    replace hL := hL.call hE (by assumption) hV;clear hE hV
    obtain ⟨g5,A5,n5,c5,rfl,h5⟩ := h5.lit
    generalize Int.gcd x' y' = gg at *
    go_wp2_with (first | go_skip | refine tO ?_ | (refine tS ?_;clear hL;intro _ hL) | (refine tB ?_;clear hL;intro _ _ hL _))
    refine (c_DivMod _ _ x' gg _ _ hL.vw (fx.le leX) ((h5.toV hgl).le leX) (by omega)).mono ?_
    rintro e W6 ⟨_,m6,rfl,hE,hM6,hV,q6,r6,rfl,h6,k6⟩
    replace hL := hL.call hE (by assumption) hV;clear hE hV
    obtain ⟨g6,A6,n6,c6,rfl,h6⟩ := h6.lit
    obtain ⟨g7,A7,n7,c7,rfl,k6⟩ := k6.lit
    have lq : (digs (x' / (gg : Int)).natAbs).length ≤ 1000 := Nat.le_trans (length_digs_mono (Int.natAbs_ediv_le_natAbs _ _)) lx
    have lr : (digs (y' / (gg : Int)).natAbs).length ≤ 1000 := Nat.le_trans (length_digs_mono (Int.natAbs_ediv_le_natAbs _ _)) ly
    have HQ := Lib.hid hgq
    clear hgq k6
    go_wp2_with (first | go_skip | refine tO ?_ | (refine tS ?_;clear hL;intro _ hL) | (refine tB ?_;clear hL;intro _ _ hL _))
    refine (c_DivMod _ _ y' gg _ _ hL.vw (fy.le leX) ((h5.toV hgl).le leX) (by omega)).mono ?_
    rintro e W7 ⟨_,m7,rfl,hE,hM7,hV,q8,r8,rfl,h8,k8⟩
    replace hL := hL.call hE (by assumption) hV;clear hE hV
    obtain ⟨g8,A8,n8,c8,rfl,h8⟩ := h8.lit
    obtain ⟨g9,A9,n9,c9,rfl,k8⟩ := k8.lit
    clear k8
    go_upto_region 9 with ((first | go_skip | refine tO ?_ | (refine tS ?_;clear hL;intro _ hL) | (refine tB ?_;clear hL;intro _ _ hL _)))
    refine wp_region_by 4 [false,false,false,false] [(fun v _ _ => v = ?c9_0a),Of (fun um v => IntC um v (x' / (gg : Int))),(fun v _ _ => v = ?c9_2a),Of (fun um v => IntC um v (y' / (gg : Int)))] hL.vw mixed [48,49,50,51] _ (by kernel_rfl) (fun vs => by simp only [lay,Act.put,zq1,zq2,zq3];rfl) (by kernel_rfl) ?s9a ?r9a
    case s9a =>
     refine ⟨?_,?_,?_,?_,trivial⟩
     ·intro vs W1 m1 hE hM hV hD;clear hD
      exact sLe
     ·intro vs W1 m1 hE hM hV hD;obtain ⟨⟨_,_,-,-,f48⟩,-⟩ := hD
      rw [(f48 : vs 48 = _)]
      clear f48
      go_wp2_with fail
      refine (c_Canon _ _ _ _ hV ((h6.toV lq).le leX)).mono ?_
      rintro e W2 ⟨v,m2,rfl,hE2,hM2,hV2,h⟩
      go_wp2_with fail
      refine One.call hE2 hM2 hV2 ?_;first | exact h | exact rfl
     ·intro vs W1 m1 hE hM hV hD;clear hD
      exact sLe
     ·intro vs W1 m1 hE hM hV hD;obtain ⟨⟨_,_,-,-,f50⟩,-,-⟩ := hD
      rw [(f50 : vs 50 = _)]
      clear f50
      go_wp2_with fail
      refine (c_Canon _ _ _ _ hV ((h8.toV lr).le leX)).mono ?_
      rintro e W2 ⟨v,m2,rfl,hE2,hM2,hV2,h⟩
      go_wp2_with fail
      refine One.call hE2 hM2 hV2 ?_;first | exact h | exact rfl
    intro vs W1 m1 hE hM hV hF hD
    clear hD
    obtain ⟨-,⟨_,_,-,i49,f49⟩,-,⟨_,_,-,i51,f51⟩,-⟩ := hF
    replace hL := hL.call hE hM hV
    replace f49 : IntC _ (vs 49) (x' / (gg : Int)) := f49
    replace f49 := f49.le i49.le
    clear i49
    obtain ⟨g49,A49,n49,c49,e49,f49⟩ := f49.lit
    generalize vs 49 = x49 at e49 ⊢
    subst x49
    replace f51 : IntC _ (vs 51) (y' / (gg : Int)) := f51
    replace f51 := f51.le i51.le
    clear i51
    obtain ⟨g51,A51,n51,c51,e51,f51⟩ := f51.lit
    generalize vs 51 = x51 at e51 ⊢
    subst x51
    clear hE hV
    simp only [List.drop_succ_cons,List.drop_zero]
    go_wp2_with (first | go_skip | refine tO ?_ | (refine tS ?_;clear hL;intro _ hL) | (refine tB ?_;clear hL;intro _ _ hL _))
    refine fin_agg hL Tryz.results61 rfl rfl loX ag_Frac rfl ?_
    rw [hq.out]
    exact ⟨_,_,_,_,rfl,by rw [HQ.out.1];exact f49,by rw [HQ.out.2];exact f51⟩
   ·have hy' : 0 < y := by omega
    rw [icmp_gt hy']
    have fx := hn.le (m' := m4) leX
    have fy := hd.le (m' := m4) leX
    clear hneg hx hy hn hd
    go_wp2_with (first | go_skip | refine tO ?_ | (refine tS ?_;clear hL;intro _ hL) | (refine tB ?_;clear hL;intro _ _ hL _))
    have hgp : 0 < Int.gcd x y := Int.gcd_pos_of_ne_zero_right _ (by omega)
    have hgl : (digs (((Int.gcd x y : Nat) : Int)).natAbs).length ≤ 1000 := Nat.le_trans (length_digs_mono (by simpa using Nat.le_of_dvd (by omega) (Int.gcd_dvd_natAbs_right x y))) ly
    have hgq := frac_pos (x := x) hy'
    refine (c_GCD _ _ x y _ _ hL.vw (fx.le leX) (fy.le leX)).mono ?_
    rintro e W5 ⟨v5,m5,rfl,hE,hM5,hV,h5⟩
    replace hL := hL.call hE (by assumption) hV;clear hE hV
    obtain ⟨g5,A5,n5,c5,rfl,h5⟩ := h5.lit
    generalize Int.gcd x y = gg at *
    go_wp2_with (first | go_skip | refine tO ?_ | (refine tS ?_;clear hL;intro _ hL) | (refine tB ?_;clear hL;intro _ _ hL _))
    refine (c_DivMod _ _ x gg _ _ hL.vw (fx.le leX) ((h5.toV hgl).le leX) (by omega)).mono ?_
    rintro e W6 ⟨_,m6,rfl,hE,hM6,hV,q6,r6,rfl,h6,k6⟩
    replace hL := hL.call hE (by assumption) hV;clear hE hV
    obtain ⟨g6,A6,n6,c6,rfl,h6⟩ := h6.lit
    obtain ⟨g7,A7,n7,c7,rfl,k6⟩ := k6.lit
    have lq : (digs (x / (gg : Int)).natAbs).length ≤ 1000 := Nat.le_trans (length_digs_mono (Int.natAbs_ediv_le_natAbs _ _)) lx
    have lr : (digs (y / (gg : Int)).natAbs).length ≤ 1000 := Nat.le_trans (length_digs_mono (Int.natAbs_ediv_le_natAbs _ _)) ly
    have HQ := Lib.hid hgq
    clear hgq k6
    go_wp2_with (first | go_skip | refine tO ?_ | (refine tS ?_;clear hL;intro _ hL) | (refine tB ?_;clear hL;intro _ _ hL _))
    refine (c_DivMod _ _ y gg _ _ hL.vw (fy.le leX) ((h5.toV hgl).le leX) (by omega)).mono ?_
    rintro e W7 ⟨_,m7,rfl,hE,hM7,hV,q8,r8,rfl,h8,k8⟩
    replace hL := hL.call hE (by assumption) hV;clear hE hV
    obtain ⟨g8,A8,n8,c8,rfl,h8⟩ := h8.lit
    obtain ⟨g9,A9,n9,c9,rfl,k8⟩ := k8.lit
    clear k8
    go_upto_region 9 with ((first | go_skip | refine tO ?_ | (refine tS ?_;clear hL;intro _ hL) | (refine tB ?_;clear hL;intro _ _ hL _)))
    refine wp_region_by 4 [false,false,false,false] [(fun v _ _ => v = ?c9_0b),Of (fun um v => IntC um v (x / (gg : Int))),(fun v _ _ => v = ?c9_2b),Of (fun um v => IntC um v (y / (gg : Int)))] hL.vw mixed [48,49,50,51] _ (by kernel_rfl) (fun vs => by simp only [lay,Act.put,zq1,zq2,zq3];rfl) (by kernel_rfl) ?s9b ?r9b
    case s9b =>
     refine ⟨?_,?_,?_,?_,trivial⟩
     ·intro vs W1 m1 hE hM hV hD;clear hD
      exact sLe
     ·intro vs W1 m1 hE hM hV hD;obtain ⟨⟨_,_,-,-,f48⟩,-⟩ := hD
      rw [(f48 : vs 48 = _)]
      clear f48
      go_wp2_with fail
      refine (c_Canon _ _ _ _ hV ((h6.toV lq).le leX)).mono ?_
      rintro e W2 ⟨v,m2,rfl,hE2,hM2,hV2,h⟩
      go_wp2_with fail
      refine One.call hE2 hM2 hV2 ?_;first | exact h | exact rfl
     ·intro vs W1 m1 hE hM hV hD;clear hD
      exact sLe
     ·intro vs W1 m1 hE hM hV hD;obtain ⟨⟨_,_,-,-,f50⟩,-,-⟩ := hD
      rw [(f50 : vs 50 = _)]
      clear f50
      go_wp2_with fail
      refine (c_Canon _ _ _ _ hV ((h8.toV lr).le leX)).mono ?_
      rintro e W2 ⟨v,m2,rfl,hE2,hM2,hV2,h⟩
      go_wp2_with fail
      refine One.call hE2 hM2 hV2 ?_;first | exact h | exact rfl
    intro vs W1 m1 hE hM hV hF hD
    clear hD
    obtain ⟨-,⟨_,_,-,i49,f49⟩,-,⟨_,_,-,i51,f51⟩,-⟩ := hF
    replace hL := hL.call hE hM hV
    replace f49 : IntC _ (vs 49) (x / (gg : Int)) := f49
    replace f49 := f49.le i49.le
    clear i49
    obtain ⟨g49,A49,n49,c49,e49,f49⟩ := f49.lit
    generalize vs 49 = x49 at e49 ⊢
    subst x49
    replace f51 : IntC _ (vs 51) (y / (gg : Int)) := f51
    replace f51 := f51.le i51.le
    clear i51
    obtain ⟨g51,A51,n51,c51,e51,f51⟩ := f51.lit
    generalize vs 51 = x51 at e51 ⊢
    subst x51
    clear hE hV
    simp only [List.drop_succ_cons,List.drop_zero]
    go_wp2_with (first | go_skip | refine tO ?_ | (refine tS ?_;clear hL;intro _ hL) | (refine tB ?_;clear hL;intro _ _ hL _))
    refine fin_agg hL Tryz.results61 rfl rfl loX ag_Frac rfl ?_
    exact ⟨_,_,_,_,rfl,by rw [HQ.out.1];exact f49,by rw [HQ.out.2];exact f51⟩
end Go.Proofs.YtabmjadcoepbeaaGreat

/- Contracts of package pairingref25: Canon, Int, Negate, Mul, Add, Div, Sub, Sign, Compare, Min, Same. -/
namespace Go.Proofs.YtabmjadcoepbeaaGreat
open Go.RowKit

theorem mul_lt {x y : Int} {k l : Nat} (hx : x.natAbs < 4294967296 ^ k) (hy : y.natAbs < 4294967296 ^ l) : (x * y).natAbs < 4294967296 ^ (k + l) := by
 rw [Int.natAbs_mul,Nat.pow_add]
 exact Nat.mul_lt_mul'' hx hy
theorem mul_len {x y : Int} {k l : Nat} (hx : x.natAbs < 4294967296 ^ k) (hy : y.natAbs < 4294967296 ^ l) : (digs (x * y).natAbs).length ≤ k + l := length_digs_le (mul_lt hx hy)
theorem Fit.n {k : Nat} {q : Rat} (h : Fit k q) : q.num.natAbs < 4294967296 ^ k := h.1
theorem Fit.d {k : Nat} {q : Rat} (h : Fit k q) : (q.den : Int).natAbs < 4294967296 ^ k := by simpa using h.2
theorem rat_mul (p q : Rat) : p * q = Rat.divInt (p.num * q.num) ((p.den : Int) * (q.den : Int)) := by
 conv => lhs;rw [← Rat.num_divInt_den p,← Rat.num_divInt_den q,Rat.divInt_mul_divInt]
theorem rat_add (p q : Rat) : p + q = Rat.divInt (p.num * q.den + q.num * p.den) ((p.den : Int) * (q.den : Int)) := by
 conv => lhs;rw [← Rat.num_divInt_den p,← Rat.num_divInt_den q,Rat.divInt_add_divInt _ _ (by have := p.den_nz;omega) (by have := q.den_nz;omega)]
theorem rat_div (p q : Rat) : p / q = Rat.divInt (p.num * q.den) ((p.den : Int) * q.num) := by
 rw [Rat.div_def,Rat.inv_def]
 conv => lhs;rw [← Rat.num_divInt_den p,Rat.divInt_mul_divInt]

theorem r_Canon (v : Value) (q : Rat) (w m : World) (hV : Vw m w) (hv : FracV m v q) : Calls Tryz.prog 54 #[v] w (RetV w m fun m' r => FracC m' r q) := by
 obtain ⟨x,y,g,A,n,c,h,B',k,d,rfl,hx,hy,rfl⟩ := hv.lit
 have hL := Loc.start hV
 clear hV
 go_enter Tryz.func54,Tryz.ntmps54
 go_wp2_with (first | go_skip | refine tO ?_ | (refine tS ?_;clear hL;intro _ hL) | (refine tB ?_;clear hL;intro _ _ hL _))
 refine (r_New _ _ x y _ _ hL.vw (hx.le leX) (hy.le leX)).mono ?_
 rintro e W1 ⟨v1,m1,rfl,hE,hM1,hV,h1⟩
 replace hL := hL.call hE (by assumption) hV;clear hE hV
 obtain ⟨g1',A1',n1',c1',h1',B1',k1',d1',rfl,h1⟩ := h1.lit
 go_wp2_with (first | go_skip | refine tO ?_ | (refine tS ?_;clear hL;intro _ hL) | (refine tB ?_;clear hL;intro _ _ hL _))
 refine fin_agg hL Tryz.results54 rfl rfl loX AgC.h (by exact rfl) ?_
 exact h1

theorem r_Int (z : Int) (w m : World) (hV : Vw m w) (h1 : -9223372036854775808 ≤ z) (h2 : z ≤ 9223372036854775807) : Calls Tryz.prog 27 #[.int .i64 z] w (RetV w m fun m' r => FracC m' r (z : Rat)) := by
 have hl : (digs z.natAbs).length ≤ 1000 := Nat.le_trans (length_digs_le (k := 2) (by rw [show (4294967296 : Nat) ^ 2 = 18446744073709551616 from rfl];omega)) (by omega)
 have hq : Hid (Rat.divInt z 1 = (z : Rat)) := by show _ = _;rw [← Rat.num_divInt_den (z : Rat)];simp
 have hL := Loc.start hV
 clear hV
 go_enter Tryz.func27,Tryz.ntmps27
 go_wp2_with (first | go_skip | refine tO ?_ | (refine tS ?_;clear hL;intro _ hL) | (refine tB ?_;clear hL;intro _ _ hL _))
 refine (c_FromInt64 z _ _ hL.vw h1 h2).mono ?_
 rintro e W1 ⟨v1,m1,rfl,hE,hM1,hV,h1⟩
 replace hL := hL.call hE (by assumption) hV;clear hE hV
 obtain ⟨g1',A1',n1',c1',rfl,h1⟩ := h1.lit
 go_wp2_with (first | go_skip | refine tO ?_ | (refine tS ?_;clear hL;intro _ hL) | (refine tB ?_;clear hL;intro _ _ hL _))
 refine (c_FromInt64 1 _ _ hL.vw (by omega) (by omega)).mono ?_
 rintro e W2 ⟨v2,m2,rfl,hE,hM2,hV,h2⟩
 replace hL := hL.call hE (by assumption) hV;clear hE hV
 obtain ⟨g2',A2',n2',c2',rfl,h2⟩ := h2.lit
 go_wp2_with (first | go_skip | refine tO ?_ | (refine tS ?_;clear hL;intro _ hL) | (refine tB ?_;clear hL;intro _ _ hL _))
 refine (r_New _ _ z 1 _ _ hL.vw ((h1.toV hl).le leX) (h2.toV l1)).mono ?_
 rintro e W3 ⟨v3,m3,rfl,hE,hM3,hV,h3⟩
 replace hL := hL.call hE (by assumption) hV;clear hE hV
 obtain ⟨g3',A3',n3',c3',h3',B3',k3',d3',rfl,h3⟩ := h3.lit
 go_wp2_with (first | go_skip | refine tO ?_ | (refine tS ?_;clear hL;intro _ hL) | (refine tB ?_;clear hL;intro _ _ hL _))
 refine fin_agg hL Tryz.results27 rfl rfl loX AgC.h (by exact rfl) ?_
 rw [← hq.out];exact h3

theorem r_Negate (v : Value) (q : Rat) (w m : World) (hV : Vw m w) (hv : FracV m v q) : Calls Tryz.prog 50 #[v] w (RetV w m fun m' r => FracC m' r (-q)) := by
 obtain ⟨x,y,g,A,n,c,h,B',k,d,rfl,hx,hy,rfl⟩ := hv.lit
 have lx : (digs (-x).natAbs).length ≤ 1000 := by rw [Int.natAbs_neg];exact hx.length
 have hL := Loc.start hV
 clear hV
 go_enter Tryz.func50,Tryz.ntmps50
 go_upto_region 1 with ((first | go_skip | refine tO ?_ | (refine tS ?_;clear hL;intro _ hL) | (refine tB ?_;clear hL;intro _ _ hL _)))
 refine wp_region_by 6 [false,false,false,false,false,false] [(fun v _ _ => v = ?c1_0),(fun v _ _ => v = ?c1_1),Of (fun um v => IntC um v (-x)),(fun v _ _ => v = ?c1_3),(fun v _ _ => v = ?c1_4),Of (fun um v => FracC um v (Rat.divInt (-x) y))] hL.vw mixed [3,4,5,6,7,8] _ (by kernel_rfl) (fun vs => by simp only [lay,Act.put,zq1,zq2,zq3];rfl) (by kernel_rfl) ?s1 ?r1
 case s1 =>
  refine ⟨?_,?_,?_,?_,?_,?_,trivial⟩
  ·intro vs W1 m1 hE hM hV hD;clear hD;replace hL := hL.call hE hM hV
   go_wp2_with (first | go_skip | refine tO ?_ | (refine tS ?_;clear hL;intro _ hL) | (refine tB ?_;clear hL;intro _ _ hL _))
   refine One.still hV ?_;exact rfl
  ·intro vs W1 m1 hE hM hV hD;obtain ⟨⟨_,_,-,-,f3⟩,-⟩ := hD
   rw [(f3 : vs 3 = _)];clear f3;exact sLe
  ·intro vs W1 m1 hE hM hV hD;obtain ⟨⟨_,_,-,-,f4⟩,-⟩ := hD
   rw [(f4 : vs 4 = _)]
   clear f4
   go_wp2_with fail
   refine (c_Negate _ x _ _ hV (hx.le leX)).mono ?_
   rintro e W2 ⟨v,m2,rfl,hE2,hM2,hV2,h⟩
   go_wp2_with fail
   refine One.call hE2 hM2 hV2 ?_;first | exact h | exact rfl
  ·intro vs W1 m1 hE hM hV hD;clear hD;replace hL := hL.call hE hM hV
   go_wp2_with (first | go_skip | refine tO ?_ | (refine tS ?_;clear hL;intro _ hL) | (refine tB ?_;clear hL;intro _ _ hL _))
   refine One.still hV ?_;exact rfl
  ·intro vs W1 m1 hE hM hV hD;obtain ⟨⟨_,_,-,-,f6⟩,-⟩ := hD
   rw [(f6 : vs 6 = _)];clear f6;exact sLe
  ·intro vs W1 m1 hE hM hV hD;obtain ⟨⟨_,_,-,i5,f5⟩,⟨_,_,-,-,f7⟩,-,-⟩ := hD
   rw [(f7 : vs 7 = _)]
   clear f7
   have f5 : IntC _ (vs 5) (-x) := f5
   replace f5 := f5.le i5.le
   clear i5
   go_wp2_with fail
   refine (r_New _ _ (-x) y _ _ hV (f5.toV lx) (hy.le leX)).mono ?_
   rintro e W2 ⟨v,m2,rfl,hE2,hM2,hV2,h⟩
   go_wp2_with fail
   refine One.call hE2 hM2 hV2 ?_;first | exact h | exact rfl
 intro vs W1 m1 hE hM hV hF hD
 clear hD
 obtain ⟨-,-,⟨_,_,-,i5,f5⟩,-,-,⟨_,_,-,i8,f8⟩,-⟩ := hF
 replace hL := hL.call hE hM hV
 replace f5 : IntC _ (vs 5) (-x) := f5
 replace f5 := f5.le i5.le
 clear i5
 replace f8 : FracC _ (vs 8) (Rat.divInt (-x) y) := f8
 replace f8 := f8.le i8.le
 clear i8
 obtain ⟨g8,A8,n8,c8,h8,B8,k8,d8,e8,f8⟩ := f8.lit
 generalize vs 8 = x8 at e8 ⊢
 subst x8
 clear hE hV
 simp only [List.drop_succ_cons,List.drop_zero]
 go_wp2_with (first | go_skip | refine tO ?_ | (refine tS ?_;clear hL;intro _ hL) | (refine tB ?_;clear hL;intro _ _ hL _))
 refine fin_agg hL Tryz.results50 rfl rfl loX AgC.h (by exact rfl) ?_
 rw [Rat.neg_divInt];exact f8
end Go.Proofs.YtabmjadcoepbeaaGreat

/- Contracts of package pairingref25: Mul, Add, Div, Sub, Sign, Compare, Min, Same. -/
namespace Go.Proofs.YtabmjadcoepbeaaGreat
open Go.RowKit

def rs (q : Rat) : Int := icmp q.num 0

theorem r_Mul (a b : Value) (p q : Rat) (w m : World) (hV : Vw m w) (ha : FracV m a p) (hb : FracV m b q) (kp : Fit 200 p) (kq : Fit 200 q) :
  Calls Tryz.prog 48 #[a,b] w (RetV w m fun m' r => FracC m' r (p * q)) := by
 have hq := Lib.hid (rat_mul p q)
 have l1 := Nat.le_trans (mul_len kp.n kq.n) (show 200 + 200 ≤ 1000 by omega)
 have l2 := Nat.le_trans (mul_len kp.d kq.d) (show 200 + 200 ≤ 1000 by omega)
 obtain ⟨_,_,g1,A1,n1,c1,h1,B1,k1,d1,rfl,-,-,-⟩ := ha.lit
 obtain ⟨_,_,g2,A2,n2,c2,h2,B2,k2,d2,rfl,-,-,-⟩ := hb.lit
 have hL := Loc.start hV
 clear hV
 go_enter Tryz.func48,Tryz.ntmps48
 go_upto_region 1 with ((first | go_skip | refine tO ?_ | (refine tS ?_;clear hL;intro _ hL) | (refine tB ?_;clear hL;intro _ _ hL _)))
 refine wp_region_by 4 [false,false,false,false] [(fun v _ _ => v = ?c1_0),Of (fun um v => FracC um v p),(fun v _ _ => v = ?c1_2),Of (fun um v => FracC um v q)] hL.vw mixed [5,6,7,8] _ (by kernel_rfl) (fun vs => by simp only [lay,Act.put,zq1,zq2,zq3];rfl) (by kernel_rfl) ?s1 ?r1
 case s1 =>
  refine ⟨?_,?_,?_,?_,trivial⟩
  ·intro vs W1 m1 hE hM hV hD;clear hD
   exact sLe
  ·intro vs W1 m1 hE hM hV hD;obtain ⟨⟨_,_,-,-,f5⟩,-⟩ := hD
   rw [(f5 : vs 5 = _)]
   clear f5
   go_wp2_with fail
   refine (r_Canon _ p _ _ hV (ha.le leX)).mono ?_
   rintro e W2 ⟨v,m2,rfl,hE2,hM2,hV2,h⟩
   go_wp2_with fail
   refine One.call hE2 hM2 hV2 ?_;first | exact h | exact rfl
  ·intro vs W1 m1 hE hM hV hD;clear hD
   exact sLe
  ·intro vs W1 m1 hE hM hV hD;obtain ⟨⟨_,_,-,-,f7⟩,-,-⟩ := hD
   rw [(f7 : vs 7 = _)]
   clear f7
   go_wp2_with fail
   refine (r_Canon _ q _ _ hV (hb.le leX)).mono ?_
   rintro e W2 ⟨v,m2,rfl,hE2,hM2,hV2,h⟩
   go_wp2_with fail
   refine One.call hE2 hM2 hV2 ?_;first | exact h | exact rfl
 intro vs W1 m1 hE hM hV hF hD
 clear hD
 obtain ⟨-,⟨_,_,-,i6,f6⟩,-,⟨_,_,-,i8,f8⟩,-⟩ := hF
 replace hL := hL.call hE hM hV
 replace f6 : FracC _ (vs 6) p := f6
 replace f6 := f6.le i6.le
 clear i6
 obtain ⟨g6,A6,n6,c6,h6,B6,k6,d6,e6,f6⟩ := f6.lit
 generalize vs 6 = x6 at e6 ⊢
 subst x6
 replace f8 : FracC _ (vs 8) q := f8
 replace f8 := f8.le i8.le
 clear i8
 obtain ⟨g8,A8,n8,c8,h8,B8,k8,d8,e8,f8⟩ := f8.lit
 generalize vs 8 = x8 at e8 ⊢
 subst x8
 clear hE hV
 simp only [List.drop_succ_cons,List.drop_zero]
 obtain ⟨a1,a2⟩ := f6.open_
 obtain ⟨b1,b2⟩ := f8.open_
 replace a1 := a1.toV (kp.num (by omega))
 replace a2 := a2.toV (kp.den (by omega))
 replace b1 := b1.toV (kq.num (by omega))
 replace b2 := b2.toV (kq.den (by omega))
 clear f6 f8
 go_upto_region 2 with ((first | go_skip | refine tO ?_ | (refine tS ?_;clear hL;intro _ hL) | (refine tB ?_;clear hL;intro _ _ hL _)))
 refine wp_region_by 11 [false,false,false,false,false,false,false,false,false,false,false] [(fun v _ _ => v = ?c2_0),(fun v _ _ => v = ?c2_1),(fun v _ _ => v = ?c2_2),(fun v _ _ => v = ?c2_3),Of (fun um v => IntC um v (p.num * q.num)),(fun v _ _ => v = ?c2_5),(fun v _ _ => v = ?c2_6),(fun v _ _ => v = ?c2_7),(fun v _ _ => v = ?c2_8),Of (fun um v => IntC um v (p.den * q.den : Int)),Of (fun um v => FracC um v (Rat.divInt (p.num * q.num) (p.den * q.den : Int)))] hL.vw mixed [9,10,11,12,13,14,15,16,17,18,19] _ (by kernel_rfl) (fun vs => by simp only [lay,Act.put,zq1,zq2,zq3];rfl) (by kernel_rfl) ?s2 ?r2
 case s2 =>
  refine ⟨?_,?_,?_,?_,?_,?_,?_,?_,?_,?_,?_,trivial⟩
  ·intro vs W1 m1 hE hM hV hD;clear hD;replace hL := hL.call hE hM hV
   go_wp2_with (first | go_skip | refine tO ?_ | (refine tS ?_;clear hL;intro _ hL) | (refine tB ?_;clear hL;intro _ _ hL _))
   refine One.still hV ?_;exact rfl
  ·intro vs W1 m1 hE hM hV hD;obtain ⟨⟨_,_,-,-,f9⟩,-⟩ := hD
   rw [(f9 : vs 9 = _)];clear f9;exact sLe
  ·intro vs W1 m1 hE hM hV hD;clear hD;replace hL := hL.call hE hM hV
   go_wp2_with (first | go_skip | refine tO ?_ | (refine tS ?_;clear hL;intro _ hL) | (refine tB ?_;clear hL;intro _ _ hL _))
   refine One.still hV ?_;exact rfl
  ·intro vs W1 m1 hE hM hV hD;obtain ⟨⟨_,_,-,-,f11⟩,-⟩ := hD
   rw [(f11 : vs 11 = _)];clear f11;exact sLe
  ·intro vs W1 m1 hE hM hV hD;obtain ⟨⟨_,_,-,-,f10⟩,⟨_,_,-,-,f12⟩,-⟩ := hD
   rw [(f10 : vs 10 = _),(f12 : vs 12 = _)]
   clear f10 f12
   go_wp2_with fail
   refine (c_Mul _ _ _ _ _ _ hV (a1.le leX) (b1.le leX)).mono ?_
   rintro e W2 ⟨v,m2,rfl,hE2,hM2,hV2,h⟩
   go_wp2_with fail
   refine One.call hE2 hM2 hV2 ?_;first | exact h | exact rfl
  ·intro vs W1 m1 hE hM hV hD;clear hD;replace hL := hL.call hE hM hV
   go_wp2_with (first | go_skip | refine tO ?_ | (refine tS ?_;clear hL;intro _ hL) | (refine tB ?_;clear hL;intro _ _ hL _))
   refine One.still hV ?_;exact rfl
  ·intro vs W1 m1 hE hM hV hD;obtain ⟨⟨_,_,-,-,f14⟩,-⟩ := hD
   rw [(f14 : vs 14 = _)];clear f14;exact sLe
  ·intro vs W1 m1 hE hM hV hD;clear hD;replace hL := hL.call hE hM hV
   go_wp2_with (first | go_skip | refine tO ?_ | (refine tS ?_;clear hL;intro _ hL) | (refine tB ?_;clear hL;intro _ _ hL _))
   refine One.still hV ?_;exact rfl
  ·intro vs W1 m1 hE hM hV hD;obtain ⟨⟨_,_,-,-,f16⟩,-⟩ := hD
   rw [(f16 : vs 16 = _)];clear f16;exact sLe
  ·intro vs W1 m1 hE hM hV hD;obtain ⟨⟨_,_,-,-,f15⟩,⟨_,_,-,-,f17⟩,-,-⟩ := hD
   rw [(f15 : vs 15 = _),(f17 : vs 17 = _)]
   clear f15 f17
   go_wp2_with fail
   refine (c_Mul _ _ _ _ _ _ hV (a2.le leX) (b2.le leX)).mono ?_
   rintro e W2 ⟨v,m2,rfl,hE2,hM2,hV2,h⟩
   go_wp2_with fail
   refine One.call hE2 hM2 hV2 ?_;first | exact h | exact rfl
  ·intro vs W1 m1 hE hM hV hD;obtain ⟨⟨_,_,-,i13,f13⟩,⟨_,_,-,i18,f18⟩,-,-⟩ := hD;have f13 : IntC _ (vs 13) (p.num * q.num) := f13;replace f13 := f13.le i13.le;clear i13;have f18 : IntC _ (vs 18) (p.den * q.den : Int) := f18;replace f18 := f18.le i18.le;clear i18
   go_wp2_with fail
   refine (r_New _ _ _ _ _ _ hV (f13.toV l1) (f18.toV l2)).mono ?_
   rintro e W2 ⟨v,m2,rfl,hE2,hM2,hV2,h⟩
   go_wp2_with fail
   refine One.call hE2 hM2 hV2 ?_;first | exact h | exact rfl
 intro vs W1 m1 hE hM hV hF hD
 clear hD
 obtain ⟨-,-,-,-,⟨_,_,-,i13,f13⟩,-,-,-,-,⟨_,_,-,i18,f18⟩,⟨_,_,-,i19,f19⟩,-⟩ := hF
 replace hL := hL.call hE hM hV
 replace f13 : IntC _ (vs 13) (p.num * q.num) := f13
 replace f13 := f13.le i13.le
 clear i13
 replace f18 : IntC _ (vs 18) (p.den * q.den : Int) := f18
 replace f18 := f18.le i18.le
 clear i18
 replace f19 : FracC _ (vs 19) (Rat.divInt (p.num * q.num) (p.den * q.den : Int)) := f19
 replace f19 := f19.le i19.le
 clear i19
 obtain ⟨g19,A19,n19,c19,h19,B19,k19,d19,e19,f19⟩ := f19.lit
 generalize vs 19 = x19 at e19 ⊢
 subst x19
 clear hE hV
 simp only [List.drop_succ_cons,List.drop_zero]
 go_wp2_with (first | go_skip | refine tO ?_ | (refine tS ?_;clear hL;intro _ hL) | (refine tB ?_;clear hL;intro _ _ hL _))
 refine fin_agg hL Tryz.results48 rfl rfl loX AgC.h (by exact rfl) ?_
 rw [hq.out];exact f19

theorem r_Div (a b : Value) (p q : Rat) (w m : World) (hV : Vw m w) (ha : FracV m a p) (hb : FracV m b q) (kp : Fit 200 p) (kq : Fit 200 q) :
  Calls Tryz.prog 73 #[a,b] w (RetV w m fun m' r => FracC m' r (p / q)) := by
 have hq := Lib.hid (rat_div p q)
 have l1 := Nat.le_trans (mul_len kp.n kq.d) (show 200 + 200 ≤ 1000 by omega)
 have l2 := Nat.le_trans (mul_len kp.d kq.n) (show 200 + 200 ≤ 1000 by omega)
 obtain ⟨_,_,g1,A1,n1,c1,h1,B1,k1,d1,rfl,-,-,-⟩ := ha.lit
 obtain ⟨_,_,g2,A2,n2,c2,h2,B2,k2,d2,rfl,-,-,-⟩ := hb.lit
 have hL := Loc.start hV
 clear hV
 go_enter Tryz.func73,Tryz.ntmps73
 go_upto_region 1 with ((first | go_skip | refine tO ?_ | (refine tS ?_;clear hL;intro _ hL) | (refine tB ?_;clear hL;intro _ _ hL _)))
 refine wp_region_by 4 [false,false,false,false] [(fun v _ _ => v = ?c1_0),Of (fun um v => FracC um v p),(fun v _ _ => v = ?c1_2),Of (fun um v => FracC um v q)] hL.vw mixed [5,6,7,8] _ (by kernel_rfl) (fun vs => by simp only [lay,Act.put,zq1,zq2,zq3];rfl) (by kernel_rfl) ?s1 ?r1
 case s1 =>
  refine ⟨?_,?_,?_,?_,trivial⟩
  ·intro vs W1 m1 hE hM hV hD;clear hD
   exact sLe
  ·intro vs W1 m1 hE hM hV hD;obtain ⟨⟨_,_,-,-,f5⟩,-⟩ := hD
   rw [(f5 : vs 5 = _)]
   clear f5
   go_wp2_with fail
   refine (r_Canon _ p _ _ hV (ha.le leX)).mono ?_
   rintro e W2 ⟨v,m2,rfl,hE2,hM2,hV2,h⟩
   go_wp2_with fail
   refine One.call hE2 hM2 hV2 ?_;first | exact h | exact rfl
  ·intro vs W1 m1 hE hM hV hD;clear hD
   exact sLe
  ·intro vs W1 m1 hE hM hV hD;obtain ⟨⟨_,_,-,-,f7⟩,-,-⟩ := hD
   rw [(f7 : vs 7 = _)]
   clear f7
   go_wp2_with fail
   refine (r_Canon _ q _ _ hV (hb.le leX)).mono ?_
   rintro e W2 ⟨v,m2,rfl,hE2,hM2,hV2,h⟩
   go_wp2_with fail
   refine One.call hE2 hM2 hV2 ?_;first | exact h | exact rfl
 intro vs W1 m1 hE hM hV hF hD
 clear hD
 obtain ⟨-,⟨_,_,-,i6,f6⟩,-,⟨_,_,-,i8,f8⟩,-⟩ := hF
 replace hL := hL.call hE hM hV
 replace f6 : FracC _ (vs 6) p := f6
 replace f6 := f6.le i6.le
 clear i6
 obtain ⟨g6,A6,n6,c6,h6,B6,k6,d6,e6,f6⟩ := f6.lit
 generalize vs 6 = x6 at e6 ⊢
 subst x6
 replace f8 : FracC _ (vs 8) q := f8
 replace f8 := f8.le i8.le
 clear i8
 obtain ⟨g8,A8,n8,c8,h8,B8,k8,d8,e8,f8⟩ := f8.lit
 generalize vs 8 = x8 at e8 ⊢
 subst x8
 clear hE hV
 simp only [List.drop_succ_cons,List.drop_zero]
 obtain ⟨a1,a2⟩ := f6.open_
 obtain ⟨b1,b2⟩ := f8.open_
 replace a1 := a1.toV (kp.num (by omega))
 replace a2 := a2.toV (kp.den (by omega))
 replace b1 := b1.toV (kq.num (by omega))
 replace b2 := b2.toV (kq.den (by omega))
 clear f6 f8
 go_upto_region 2 with ((first | go_skip | refine tO ?_ | (refine tS ?_;clear hL;intro _ hL) | (refine tB ?_;clear hL;intro _ _ hL _)))
 refine wp_region_by 11 [false,false,false,false,false,false,false,false,false,false,false] [(fun v _ _ => v = ?c2_0),(fun v _ _ => v = ?c2_1),(fun v _ _ => v = ?c2_2),(fun v _ _ => v = ?c2_3),Of (fun um v => IntC um v (p.num * q.den)),(fun v _ _ => v = ?c2_5),(fun v _ _ => v = ?c2_6),(fun v _ _ => v = ?c2_7),(fun v _ _ => v = ?c2_8),Of (fun um v => IntC um v (p.den * q.num)),Of (fun um v => FracC um v (Rat.divInt (p.num * q.den) (p.den * q.num)))] hL.vw mixed [9,10,11,12,13,14,15,16,17,18,19] _ (by kernel_rfl) (fun vs => by simp only [lay,Act.put,zq1,zq2,zq3];rfl) (by kernel_rfl) ?s2 ?r2
 case s2 =>
  refine ⟨?_,?_,?_,?_,?_,?_,?_,?_,?_,?_,?_,trivial⟩
  ·intro vs W1 m1 hE hM hV hD;clear hD;replace hL := hL.call hE hM hV
   go_wp2_with (first | go_skip | refine tO ?_ | (refine tS ?_;clear hL;intro _ hL) | (refine tB ?_;clear hL;intro _ _ hL _))
   refine One.still hV ?_;exact rfl
  ·intro vs W1 m1 hE hM hV hD;obtain ⟨⟨_,_,-,-,f9⟩,-⟩ := hD
   rw [(f9 : vs 9 = _)];clear f9;exact sLe
  ·intro vs W1 m1 hE hM hV hD;clear hD;replace hL := hL.call hE hM hV
   go_wp2_with (first | go_skip | refine tO ?_ | (refine tS ?_;clear hL;intro _ hL) | (refine tB ?_;clear hL;intro _ _ hL _))
   refine One.still hV ?_;exact rfl
  ·intro vs W1 m1 hE hM hV hD;obtain ⟨⟨_,_,-,-,f11⟩,-⟩ := hD
   rw [(f11 : vs 11 = _)];clear f11;exact sLe
  ·intro vs W1 m1 hE hM hV hD;obtain ⟨⟨_,_,-,-,f10⟩,⟨_,_,-,-,f12⟩,-⟩ := hD
   rw [(f10 : vs 10 = _),(f12 : vs 12 = _)]
   clear f10 f12
   go_wp2_with fail
   refine (c_Mul _ _ _ _ _ _ hV (a1.le leX) (b2.le leX)).mono ?_
   rintro e W2 ⟨v,m2,rfl,hE2,hM2,hV2,h⟩
   go_wp2_with fail
   refine One.call hE2 hM2 hV2 ?_;first | exact h | exact rfl
  ·intro vs W1 m1 hE hM hV hD;clear hD;replace hL := hL.call hE hM hV
   go_wp2_with (first | go_skip | refine tO ?_ | (refine tS ?_;clear hL;intro _ hL) | (refine tB ?_;clear hL;intro _ _ hL _))
   refine One.still hV ?_;exact rfl
  ·intro vs W1 m1 hE hM hV hD;obtain ⟨⟨_,_,-,-,f14⟩,-⟩ := hD
   rw [(f14 : vs 14 = _)];clear f14;exact sLe
  ·intro vs W1 m1 hE hM hV hD;clear hD;replace hL := hL.call hE hM hV
   go_wp2_with (first | go_skip | refine tO ?_ | (refine tS ?_;clear hL;intro _ hL) | (refine tB ?_;clear hL;intro _ _ hL _))
   refine One.still hV ?_;exact rfl
  ·intro vs W1 m1 hE hM hV hD;obtain ⟨⟨_,_,-,-,f16⟩,-⟩ := hD
   rw [(f16 : vs 16 = _)];clear f16;exact sLe
  ·intro vs W1 m1 hE hM hV hD;obtain ⟨⟨_,_,-,-,f15⟩,⟨_,_,-,-,f17⟩,-,-⟩ := hD
   rw [(f15 : vs 15 = _),(f17 : vs 17 = _)]
   clear f15 f17
   go_wp2_with fail
   refine (c_Mul _ _ _ _ _ _ hV (a2.le leX) (b1.le leX)).mono ?_
   rintro e W2 ⟨v,m2,rfl,hE2,hM2,hV2,h⟩
   go_wp2_with fail
   refine One.call hE2 hM2 hV2 ?_;first | exact h | exact rfl
  ·intro vs W1 m1 hE hM hV hD;obtain ⟨⟨_,_,-,i13,f13⟩,⟨_,_,-,i18,f18⟩,-,-⟩ := hD;have f13 : IntC _ (vs 13) (p.num * q.den) := f13;replace f13 := f13.le i13.le;clear i13;have f18 : IntC _ (vs 18) (p.den * q.num) := f18;replace f18 := f18.le i18.le;clear i18
   go_wp2_with fail
   refine (r_New _ _ _ _ _ _ hV (f13.toV l1) (f18.toV l2)).mono ?_
   rintro e W2 ⟨v,m2,rfl,hE2,hM2,hV2,h⟩
   go_wp2_with fail
   refine One.call hE2 hM2 hV2 ?_;first | exact h | exact rfl
 intro vs W1 m1 hE hM hV hF hD
 clear hD
 obtain ⟨-,-,-,-,⟨_,_,-,i13,f13⟩,-,-,-,-,⟨_,_,-,i18,f18⟩,⟨_,_,-,i19,f19⟩,-⟩ := hF
 replace hL := hL.call hE hM hV
 replace f13 : IntC _ (vs 13) (p.num * q.den) := f13
 replace f13 := f13.le i13.le
 clear i13
 replace f18 : IntC _ (vs 18) (p.den * q.num) := f18
 replace f18 := f18.le i18.le
 clear i18
 replace f19 : FracC _ (vs 19) (Rat.divInt (p.num * q.den) (p.den * q.num)) := f19
 replace f19 := f19.le i19.le
 clear i19
 obtain ⟨g19,A19,n19,c19,h19,B19,k19,d19,e19,f19⟩ := f19.lit
 generalize vs 19 = x19 at e19 ⊢
 subst x19
 clear hE hV
 simp only [List.drop_succ_cons,List.drop_zero]
 go_wp2_with (first | go_skip | refine tO ?_ | (refine tS ?_;clear hL;intro _ hL) | (refine tB ?_;clear hL;intro _ _ hL _))
 refine fin_agg hL Tryz.results73 rfl rfl loX AgC.h (by exact rfl) ?_
 rw [hq.out];exact f19

theorem Fit.neg {k : Nat} {q : Rat} (h : Fit k q) : Fit k (-q) := by
 unfold Fit at *;simpa [Rat.neg_num,Rat.neg_den] using h

theorem r_Sign (a : Value) (p : Rat) (w m : World) (hV : Vw m w) (ha : FracV m a p) (kp : Fit 1000 p) :
  Calls Tryz.prog 49 #[a] w (RetV w m fun _ r => r = .int .i64 (rs p)) := by
 obtain ⟨_,_,g1,A1,n1,c1,h1,B1,k1,d1,rfl,-,-,-⟩ := ha.lit
 have hL := Loc.start hV
 clear hV
 go_enter Tryz.func49,Tryz.ntmps49
 go_wp2_with (first | go_skip | refine tO ?_ | (refine tB ?_;clear hL;intro _ _ hL _))
 refine (r_Canon _ p _ _ hL.vw (ha.le leX)).mono ?_
 rintro e W1 ⟨v1,m1,rfl,hE,hM1,hV,h1⟩
 replace hL := hL.call hE (by assumption) hV;clear hE hV
 obtain ⟨g1',A1',n1',c1',h1',B1',k1',d1',rfl,h1⟩ := h1.lit
 obtain ⟨a1,a2⟩ := h1.open_
 go_wp2_with (first | go_skip | refine tO ?_ | (refine tB ?_;clear hL;intro _ _ hL _))
 refine (c_Sign _ _ _ _ hL.vw ((a1.toV (kp.num (by omega))).le leX)).mono ?_
 rintro e W2 ⟨_,m2,rfl,hE,hM2,hV,rfl⟩
 replace hL := hL.call hE (by assumption) hV;clear hE hV
 go_wp2_with (first | go_skip | refine tO ?_ | (refine tB ?_;clear hL;intro _ _ hL _))
 go_ret
 exact RetV.mk hL rfl

end Go.Proofs.YtabmjadcoepbeaaGreat

/- Contracts of package pairingref25: Min, Same, Floor, Ceil; pairingref1.ToInt64. -/
namespace Go.Proofs.YtabmjadcoepbeaaGreat
open Go.RowKit

def rmin (p q : Rat) : Rat := if rs (p - q) ≤ 0 then p else q
theorem FracC.refl_len {q : Rat} (k : Fit 1000 q) : (digs q.num.natAbs).length ≤ 1000 ∧ (digs (q.den : Int).natAbs).length ≤ 1000 := ⟨k.num (by omega),k.den (by omega)⟩

theorem r_Same (a b : Value) (q : Rat) (w m : World) (hV : Vw m w) (ha : FracC m a q) (hb : FracC m b q) (k : Fit 1000 q) :
  Calls Tryz.prog 55 #[a,b] w (RetV w m fun _ r => r = .bool true) := by
 obtain ⟨g1,A1,n1,c1,h1,B1,k1,d1,rfl,ha⟩ := ha.lit
 obtain ⟨g2,A2,n2,c2,h2,B2,k2,d2,rfl,hb⟩ := hb.lit
 obtain ⟨a1,a2⟩ := ha.open_
 obtain ⟨b1,b2⟩ := hb.open_
 obtain ⟨l1,l2⟩ := FracC.refl_len k
 have hL := Loc.start hV
 clear hV ha hb
 go_enter Tryz.func55,Tryz.ntmps55
 go_wp2_with (first | go_skip | refine tO ?_ | (refine tB ?_;clear hL;intro _ _ hL _))
 refine (c_SameInt _ _ q.num _ _ hL.vw (a1.le leX) (b1.le leX) l1).mono ?_
 rintro e W1 ⟨_,m1,rfl,hE,hM1,hV,rfl⟩
 replace hL := hL.call hE (by assumption) hV;clear hE hV
 go_wp2_with (first | go_skip | refine tO ?_ | (refine tB ?_;clear hL;intro _ _ hL _))
 refine (c_SameInt _ _ q.den _ _ hL.vw (a2.le leX) (b2.le leX) l2).mono ?_
 rintro e W2 ⟨_,m2,rfl,hE,hM2,hV,rfl⟩
 replace hL := hL.call hE (by assumption) hV;clear hE hV
 go_wp2_with (first | go_skip | refine tO ?_ | (refine tB ?_;clear hL;intro _ _ hL _))
 go_ret
 exact RetV.mk hL rfl

end Go.Proofs.YtabmjadcoepbeaaGreat

/- Contracts of package integer: trim, wrap, fromWord, toWord, FromInt64, Sign. -/
namespace Go.Proofs.YtabmjadcoepbeaaGreat
open Go.RowKit

theorem RetV.same {w m : World} {R : World → Value → Prop} {v : Value} (hV : Vw m w) (h : R m v) : RetV w m R (.returned v) w := ⟨v,m,rfl,Ext.refl _,Ext.refl _,hV,h⟩

theorem i_trim0 (A : Option Addr) (c : Nat) (ds : List Nat) (w : World) (h : Sl w A (ds.map U)) (hc : ds.length ≤ c) (hm : ds.length ≤ 10000000) :
  Calls Tryz.prog 108 #[.slice A ds.length c] w fun e w' => e = .returned (.slice A (trimLen ds ds.length) (trimLen ds ds.length)) ∧ w = w' := by
 generalize hn : ds.length = n at *
 have Hn := Lib.hid hn
 clear hn
 go_enter Tryz.func108,Tryz.ntmps108
 go_wp2
 go_loop [3] (fun t => ∃ k : Nat,k ≤ n ∧ t = .int .i64 k ∧ Hid (trimLen ds k = trimLen ds n)) (fun t => (intOf t).toNat)
 case atStart => exact ⟨n,Nat.le_refl _,rfl,rfl⟩
 case round =>
  obtain ⟨k,hk,rfl,hid⟩ := hrel
  by_cases hlt : 0 < k
  ·obtain ⟨k,rfl⟩ : ∃ m,k = m + 1 := ⟨k - 1,by omega⟩
   obtain ⟨b,off,rfl,hb,hcell⟩ := h.dig (k := k) (by rw [Hn.out];omega)
   generalize hz : ds.getD k 0 = z at *
   have HZ := Lib.hid hz
   clear hz
   by_cases hz0 : z = 0
   ·subst hz0
    go_wp2
    go_round
    case rel => exact ⟨k,by omega,by go_num,by rw [← hid.out,trimLen_zero HZ.out];rfl⟩
    case measure => simp [intOf] <;> omega
   ·have hz1 : ((z : Int) == 0) = false := by simp;omega
    go_wp2
    go_ret
    rw [← hid.out,trimLen_pos (by rw [HZ.out];exact hz0)]
    exact ⟨rfl,rfl⟩
  ·obtain rfl : k = 0 := by omega
   go_wp2
   go_ret
   rw [← hid.out]
   exact ⟨rfl,rfl⟩
def DigA (m : World) (v : Value) (n : Nat) : Prop := ∃ ds A c,v = .slice A ds.length c ∧ ds.length ≤ c ∧ Sl m A (ds.map U) ∧ Dg ds ∧ ds.length ≤ 1000 ∧ n = val ds
theorem DigA.le {m m' : World} {v : Value} {n : Nat} (h : DigA m v n) (hb : Le m m') : DigA m' v n := by
 obtain ⟨ds,A,c,e,hc,hs,r⟩ := h
 exact ⟨ds,A,c,e,hc,hs.le hb,r⟩
theorem DigA.lit {m : World} {v : Value} {n : Nat} (h : DigA m v n) : ∃ A l c,v = .slice A l c := by
 obtain ⟨ds,A,c,e,_⟩ := h
 exact ⟨_,_,_,e⟩
theorem DigV.toA {m : World} {v : Value} {n : Nat} (h : DigV m v (digs n)) (hl : (digs n).length ≤ 1000) : DigA m v n := by
 obtain ⟨A,c,e,hc,hs⟩ := h
 exact ⟨_,A,c,e,hc,hs,Dg_digs _,hl,(val_digs n).symm⟩
theorem DigV.lit {m : World} {v : Value} {ds : List Nat} (h : DigV m v ds) : ∃ A c,v = .slice A ds.length c ∧ DigV m (.slice A ds.length c) ds := by
 have h' := h
 obtain ⟨A,c,rfl,_⟩ := h
 exact ⟨_,_,rfl,h'⟩
theorem IntV.digA {m : World} {g : Bool} {A : Option Addr} {n c : Nat} {z : Int} (h : IntV m (.agg #[.bool g,.slice A n c]) z) : DigA m (.slice A n c) z.natAbs ∧ (z ≠ 0 → g = decide (z < 0)) := by
 obtain ⟨neg,A',c',ds,e,hc,hs,hd,hn,rfl⟩ := h
 simp only [Value.agg.injEq,Array.mk.injEq,List.cons.injEq,Value.bool.injEq,Value.slice.injEq,and_true] at e
 obtain ⟨rfl,rfl,rfl,rfl⟩ := e
 refine ⟨⟨ds,A,c,rfl,hc,hs,hd,hn,sgn_natAbs _ _⟩,fun hz => (sgn_lt _ _ ?_).symm⟩
 intro h0;apply hz;rw [h0];unfold sgn;split <;> rfl

theorem i_trim (v : Value) (n : Nat) (w m : World) (hV : Vw m w) (h : DigA m v n) : Calls Tryz.prog 108 #[v] w (RetV w m fun m' r => DigV m' r (digs n)) := by
 obtain ⟨ds,A,c,rfl,hc,hs,hd,hl,rfl⟩ := h
 refine (i_trim0 A c ds w (hs.le hV.le) hc (by omega)).mono ?_
 rintro e w' ⟨rfl,rfl⟩
 refine RetV.same hV ?_
 rw [trimLen_eq hd]
 exact ⟨A,_,rfl,Nat.le_refl _,hs.trimC hd⟩

theorem IntC.mk' {m : World} {g : Bool} {A : Option Addr} {l c n : Nat} (h : DigV m (.slice A l c) (digs n)) (hn : n ≠ 0) : IntC m (.agg #[.bool g,.slice A l c]) (sgn g n) := by
 obtain ⟨A',c',e,hc,hs⟩ := h
 injection e with e1 e2 e3
 subst e1 e2 e3
 exact ⟨A,c,by rw [sgn_lt g n hn,sgn_natAbs],by rw [sgn_natAbs];exact hc,by rw [sgn_natAbs];exact hs⟩

theorem i_wrap (g : Bool) (v : Value) (n : Nat) (w m : World) (hV : Vw m w) (h : DigA m v n) : Calls Tryz.prog 111 #[.bool g,v] w (RetV w m fun m' r => IntC m' r (sgn g n)) := by
 obtain ⟨A,l,c,rfl⟩ := h.lit
 have hL := Loc.start hV
 clear hV
 go_enter Tryz.func111,Tryz.ntmps111
 go_wp2_with (first | go_skip | refine tO ?_ | (refine tS ?_;clear hL;intro _ hL) | (refine tB ?_;clear hL;intro _ _ hL _))
 refine (i_trim _ n _ _ hL.vw (h.le leX)).mono ?_
 rintro e W1 ⟨v1,m1,rfl,hE,hM1,hV,h1⟩
 replace hL := hL.call hE (by assumption) hV;clear hE hV
 obtain ⟨A1,c1,rfl,h1⟩ := h1.lit
 by_cases hn : n = 0
 ·subst hn
  simp only [digs_zero,List.length_nil]
  go_wp2_with (first | go_skip | refine tO ?_ | (refine tS ?_;clear hL;intro _ hL) | (refine tB ?_;clear hL;intro _ _ hL _))
  refine fin_agg hL Tryz.results111 rfl rfl loX AgC.h (by exact rfl) ?_
  have : sgn g 0 = 0 := by unfold sgn;split <;> rfl
  rw [this];exact ⟨none,0,by simp [digs_zero],by simp [digs_zero],by simp [digs_zero];exact Sl.nil⟩
 ·have hne : (((digs n).length : Int) == 0) = false := by
   have := mt digs_nil.1 hn
   simp [List.length_eq_zero_iff,this]
  generalize (digs n).length = k at *
  go_wp2_with (first | go_skip | refine tO ?_ | (refine tS ?_;clear hL;intro _ hL) | (refine tB ?_;clear hL;intro _ _ hL _))
  refine fin_agg hL Tryz.results111 rfl rfl loX AgC.h (by exact rfl) ?_
  exact IntC.mk' h1 hn

theorem i_fromWord (n : Nat) (w m : World) (hV : Vw m w) (hn : n < 18446744073709551616) : Calls Tryz.prog 112 #[.int .u64 n] w (RetV w m fun m' r => DigV m' r (digs n)) := by
 have key : ∀ ds : List Nat,digs n = ds → ds ≠ [] → RetV w m (fun m' r => DigV m' r (digs n)) (.returned (.slice (some ⟨w.heap.size,0,none⟩) ds.length ds.length)) (w.alloc (.cells (ds.map U).toArray 121)) := by
  intro ds e _
  have hE : Ext w (w.alloc (.cells (ds.map U).toArray 121)) := Ext.new _ _
  refine ⟨_,_,rfl,hE,(joined_spec hV hE).1,(joined_spec hV hE).2,?_⟩
  rw [e]
  refine ⟨_,_,rfl,Nat.le_refl _,?_⟩
  have hB := (Blk.new w 121 (ds.map U).toArray).joined (m := m) (Nat.le_of_eq hV.size)
  exact hB.sl (n := ds.length) (by simp [List.take_of_length_le])
 have K := Lib.hid key
 have Hn := Lib.hid (show 4294967296 ≤ n → digs n = [n % 4294967296,n / 4294967296] from fun h => digs_two h hn)
 have Hq := Lib.hid (show (n : Int) / 4294967296 % 4294967296 = (n : Int) / 4294967296 by omega)
 clear key hn
 by_cases h0 : n = 0
 ·subst h0
  go_enter Tryz.func112,Tryz.ntmps112
  go_wp2
  go_ret
  refine RetV.same hV ?_
  rw [digs_zero];exact ⟨none,0,rfl,Nat.le_refl _,Sl.nil⟩
 ·have h1 : ((n : Int) == 0) = false := by simp [h0]
  by_cases hlt : n < 4294967296
  ·have hw : IntKind.u32.wrap (n : Int) = n := by rw [IntKind.wrap_u32];omega
   have hI : (n : Int) < 4294967296 := by omega
   have D1 := Lib.hid (digs_small h0 hlt)
   clear hlt h0 Hn
   go_enter Tryz.func112,Tryz.ntmps112
   go_wp2
   go_ret
   have := K.out [n] D1.out (by simp)
   simpa [U,hw] using this
  ·have hI : ¬ (n : Int) < 4294967296 := by omega
   have D1 := Lib.hid (Hn.out (by omega))
   clear hlt h0 Hn
   go_enter Tryz.func112,Tryz.ntmps112
   go_wp2
   go_ret
   have := K.out [n % 4294967296,n / 4294967296] D1.out (by simp)
   simpa [U,Hq.out] using this

theorem i_FromInt64 (z : Int) (w m : World) (hV : Vw m w) (h1 : -9223372036854775808 ≤ z) (h2 : z ≤ 9223372036854775807) : Calls Tryz.prog 80 #[.int .i64 z] w (RetV w m fun m' r => IntC m' r z) := by
 have hl : (digs z.natAbs).length ≤ 1000 := Nat.le_trans (length_digs_le (k := 2) (by rw [show (4294967296 : Nat) ^ 2 = 18446744073709551616 from rfl];omega)) (by omega)
 have hL := Loc.start hV
 by_cases h0 : z < 0
 ·obtain ⟨u,hu⟩ : ∃ u : Nat,z = -(u : Int) := ⟨z.natAbs,by omega⟩
  have hw : IntKind.u64.wrap (-IntKind.u64.wrap z) = (u : Int) := by
   rw [IntKind.wrap_u64,IntKind.wrap_u64];omega
  have hF := fun (w m : World) (hV : Vw m w) => i_fromWord u w m hV (by omega)
  have HF := Lib.hid hF
  have HU := Lib.hid hu
  have hs : Hid (sgn true u = z) := by show _ = _;rw [hu];simp [sgn]
  have hz : z.natAbs = u := by omega
  rw [hz] at hl
  clear h1 h2 hF hu hz hV
  go_enter Tryz.func80,Tryz.ntmps80
  go_wp2_with (first | go_skip | refine tO ?_ | (refine tS ?_;clear hL;intro _ hL) | (refine tB ?_;clear hL;intro _ _ hL _))
  refine (HF.out _ _ hL.vw).mono ?_
  rintro e W1 ⟨v1,m1,rfl,hE,hM1,hV,h1⟩
  replace hL := hL.call hE (by assumption) hV;clear hE hV
  go_wp2_with (first | go_skip | refine tO ?_ | (refine tS ?_;clear hL;intro _ hL) | (refine tB ?_;clear hL;intro _ _ hL _))
  refine (i_wrap true _ u _ _ hL.vw (h1.toA hl)).mono ?_
  rintro e W2 ⟨v2,m2,rfl,hE,hM2,hV,h2⟩
  replace hL := hL.call hE (by assumption) hV;clear hE hV
  obtain ⟨g2',A2',n2',c2',rfl,h2⟩ := h2.lit
  go_wp2_with (first | go_skip | refine tO ?_ | (refine tS ?_;clear hL;intro _ hL) | (refine tB ?_;clear hL;intro _ _ hL _))
  refine fin_agg hL Tryz.results80 rfl rfl loX AgC.h (by exact rfl) ?_
  rw [← hs.out];exact h2
 ·obtain ⟨u,rfl⟩ : ∃ u : Nat,z = (u : Int) := ⟨z.natAbs,by omega⟩
  have hw : IntKind.u64.wrap (u : Int) = (u : Int) := by
   rw [IntKind.wrap_u64];omega
  have hF := fun (w m : World) (hV : Vw m w) => i_fromWord u w m hV (by omega)
  have HF := Lib.hid hF
  have hs : Hid (sgn false u = u) := by show _ = _;simp [sgn]
  simp only [Int.natAbs_natCast] at hl
  clear h1 h2 hF hV h0
  go_enter Tryz.func80,Tryz.ntmps80
  go_wp2_with (first | go_skip | refine tO ?_ | (refine tS ?_;clear hL;intro _ hL) | (refine tB ?_;clear hL;intro _ _ hL _))
  refine (HF.out _ _ hL.vw).mono ?_
  rintro e W1 ⟨v1,m1,rfl,hE,hM1,hV,h1⟩
  replace hL := hL.call hE (by assumption) hV;clear hE hV
  go_wp2_with (first | go_skip | refine tO ?_ | (refine tS ?_;clear hL;intro _ hL) | (refine tB ?_;clear hL;intro _ _ hL _))
  refine (i_wrap false _ u _ _ hL.vw (h1.toA hl)).mono ?_
  rintro e W2 ⟨v2,m2,rfl,hE,hM2,hV,h2⟩
  replace hL := hL.call hE (by assumption) hV;clear hE hV
  obtain ⟨g2',A2',n2',c2',rfl,h2⟩ := h2.lit
  go_wp2_with (first | go_skip | refine tO ?_ | (refine tS ?_;clear hL;intro _ hL) | (refine tB ?_;clear hL;intro _ _ hL _))
  refine fin_agg hL Tryz.results80 rfl rfl loX AgC.h (by exact rfl) ?_
  rw [← hs.out];exact h2

theorem i_Sign (v : Value) (z : Int) (w m : World) (hV : Vw m w) (h : IntV m v z) : Calls Tryz.prog 72 #[v] w (RetV w m fun _ r => r = .int .i64 (icmp z 0)) := by
 obtain ⟨g,A,l,c,rfl⟩ := h.lit
 obtain ⟨hd,hg⟩ := h.digA
 have hL := Loc.start hV
 clear hV
 go_enter Tryz.func72,Tryz.ntmps72
 go_wp2_with (first | go_skip | refine tO ?_ | (refine tB ?_;clear hL;intro _ _ hL _))
 refine (i_trim _ z.natAbs _ _ hL.vw (hd.le leX)).mono ?_
 rintro e W1 ⟨v1,m1,rfl,hE,hM1,hV,h1⟩
 replace hL := hL.call hE (by assumption) hV;clear hE hV
 obtain ⟨A1,c1,rfl,h1⟩ := h1.lit
 by_cases hz : z = 0
 ·subst hz
  simp only [Int.natAbs_zero,digs_zero,List.length_nil]
  go_wp2_with (first | go_skip | refine tO ?_ | (refine tB ?_;clear hL;intro _ _ hL _))
  go_ret
  exact RetV.mk hL rfl
 ·have hne : (((digs z.natAbs).length : Int) == 0) = false := by
   have := mt digs_nil.1 (show z.natAbs ≠ 0 by omega)
   simp [List.length_eq_zero_iff,this]
  generalize (digs z.natAbs).length = k at *
  replace hg := hg hz
  by_cases hneg : z < 0
  ·obtain rfl : g = true := by rw [hg];simp [hneg]
   have E := Lib.hid (icmp_lt hneg)
   clear hg hz hneg
   go_wp2_with (first | go_skip | refine tO ?_ | (refine tB ?_;clear hL;intro _ _ hL _))
   go_ret
   exact RetV.mk hL (by rw [E.out];rfl)
  ·obtain rfl : g = false := by rw [hg];simp [hneg]
   have E := Lib.hid (icmp_gt (show 0 < z by omega))
   clear hg hz hneg
   go_wp2_with (first | go_skip | refine tO ?_ | (refine tB ?_;clear hL;intro _ _ hL _))
   go_ret
   exact RetV.mk hL (by rw [E.out];rfl)
end Go.Proofs.YtabmjadcoepbeaaGreat

/- Contracts of package integer: toWord, compareMag, gcdWord; slices.Clone of digits. -/
namespace Go.Proofs.YtabmjadcoepbeaaGreat
open Go.RowKit

theorem i_compareMag0 (A B : Option Addr) (c d : Nat) (x y : Nat) (w : World) (sx : Sl w A ((digs x).map U)) (hc : (digs x).length ≤ c) (hx : (digs x).length ≤ 1000000)
  (sy : Sl w B ((digs y).map U)) (hd : (digs y).length ≤ d) (hy : (digs y).length ≤ 1000000) :
  Calls Tryz.prog 155 #[.slice A (digs x).length c,.slice B (digs y).length d] w fun e w' => e = .returned (.int .i64 (cmp3 x y)) ∧ Ext w w' := by
 generalize hn : (digs x).length = n at *
 generalize hm : (digs y).length = m at *
 have Ex := Lib.hid hn
 have Ey := Lib.hid hm
 clear hn hm
 by_cases hnm : n = m
 ·subst hnm
  have hll : ((n : Int) != (n : Int)) = false := by simp
  go_enter Tryz.func155,Tryz.ntmps155
  go_wp2_with fail
  go_loopw [5] (fun i wr => ∃ k : Nat,k ≤ n ∧ i = .int .i64 ((k : Int) - 1) ∧ Ext w wr ∧ Hid ((digs x).drop k = (digs y).drop k)) (fun i _ => (intOf i + 1).toNat)
  case atStart => exact ⟨n,Nat.le_refl _,rfl,Ext.refl _,by show _ = _;rw [List.drop_eq_nil_of_le (by rw [Ex.out];omega),List.drop_eq_nil_of_le (by rw [Ey.out];omega)]⟩
  case round =>
   obtain ⟨k,hk,rfl,hb,hq⟩ := hrel
   by_cases hlt : 0 < k
   ·obtain ⟨k,rfl⟩ : ∃ m,k = m + 1 := ⟨k - 1,by omega⟩
    obtain ⟨b1,o1,rfl,hb1,hc1⟩ := (sx.ext hb).dig (k := k) (by rw [Ex.out];omega)
    obtain ⟨b2,o2,rfl,hb2,hc2⟩ := (sy.ext hb).dig (k := k) (by rw [Ey.out];omega)
    have L1 : k < (digs x).length := by rw [Ex.out];omega
    have L2 : k < (digs y).length := by rw [Ey.out];omega
    generalize hp : (digs x).getD k 0 = p at *
    generalize hq2 : (digs y).getD k 0 = q at *
    have Hp := Lib.hid hp
    have Hq := Lib.hid hq2
    clear hp hq2
    rw [show (((k + 1 : Nat) : Int) - 1) = (k : Int) by omega]
    have e0 : (0 : Int) ≤ (k : Int) := by omega
    have e1 : (k : Int) < (n : Int) := by omega
    by_cases h0 : p = q
    ·subst h0
     have t0 : ((p : Int) != (p : Int)) = false := by simp
     go_wp2_with fail
     go_quiet (fail)
     go_wp2_with fail
     go_roundw
     case rel => exact ⟨k,by omega,by go_num,hb.drewN _,drop_eq_of (by rw [Ex.out,Ey.out]) hq.out (by rw [Hp.out,Hq.out])⟩
     case measure => simp [intOf] <;> omega
    ·have t0 : ((p : Int) != (q : Int)) = true := by simp;omega
     by_cases h1 : p < q
     ·have t1 : decide ((p : Int) < (q : Int)) = true := by simp;omega
      go_wp2_with fail
      go_quiet (fail)
      go_wp2_with fail
      go_quiet (fail)
      go_wp2_with fail
      go_ret
      have hv := val_lt_of_split (Dg_digs x) L1 L2 hq.out (by rw [Hp.out,Hq.out];exact h1)
      rw [val_digs,val_digs] at hv
      rw [cmp3_lt hv]
      exact ⟨rfl,by first | exact hb.drewN _ | exact (hb.drewN _).drewN _⟩
     ·have t1 : decide ((p : Int) < (q : Int)) = false := by simp;omega
      go_wp2_with fail
      go_quiet (fail)
      go_wp2_with fail
      go_quiet (fail)
      go_wp2_with fail
      go_ret
      have hv := val_lt_of_split (Dg_digs y) L2 L1 hq.out.symm (by rw [Hp.out,Hq.out];omega)
      rw [val_digs,val_digs] at hv
      rw [cmp3_gt hv]
      exact ⟨rfl,by first | exact hb.drewN _ | exact (hb.drewN _).drewN _⟩
   ·obtain rfl : k = 0 := by omega
    go_wp2_with fail
    go_ret
    have hv : x = y := digs_inj (by simpa using hq.out)
    rw [hv,cmp3_eq]
    exact ⟨rfl,hb⟩
 ·have hll : ((n : Int) != (m : Int)) = true := by simp;omega
  go_enter Tryz.func155,Tryz.ntmps155
  by_cases hlt : n < m
  ·have t1 : decide (n < m) = true := by simp;omega
   go_wp2_with fail
   go_ret
   rw [cmp3_lt (length_digs_lt (by rw [Ex.out,Ey.out];exact hlt))]
   exact ⟨rfl,Ext.refl _⟩
  ·have t1 : decide (n < m) = false := by simp;omega
   go_wp2_with fail
   go_ret
   rw [cmp3_gt (length_digs_lt (by rw [Ex.out,Ey.out];omega))]
   exact ⟨rfl,Ext.refl _⟩
theorem i_compareMag (a b : Value) (x y : Nat) (w m : World) (hV : Vw m w) (ha : DigV m a (digs x)) (hb : DigV m b (digs y)) (lx : (digs x).length ≤ 1000) (ly : (digs y).length ≤ 1000) :
  Calls Tryz.prog 155 #[a,b] w (RetV w m fun _ r => r = .int .i64 (cmp3 x y)) := by
 obtain ⟨A,c,rfl,hc,hs⟩ := ha
 obtain ⟨B,d,rfl,hd,ht⟩ := hb
 exact (i_compareMag0 A B c d x y w (hs.le hV.le) hc (by omega) (ht.le hV.le) hd (by omega)).mono fun _ _ h => RetV.val hV h

theorem i_gcdWord (x y : Nat) (w : World) (hx : x < 18446744073709551616) (hy : y < 18446744073709551616) :
  Calls Tryz.prog 266 #[.int .u64 x,.int .u64 y] w fun e w' => e = .returned (.int .u64 (Nat.gcd x y : Nat)) ∧ Ext w w' := by
 have HX := Lib.hid hx
 have HY := Lib.hid hy
 clear hx hy
 go_enter Tryz.func266,Tryz.ntmps266
 go_wp2_with fail
 go_loopw [0,1] (fun a b wr => ∃ p q : Nat,a = .int .u64 p ∧ b = .int .u64 q ∧ Hid (Nat.gcd p q = Nat.gcd x y) ∧ Ext w wr) (fun _ b _ => (intOf b).toNat)
 case atStart => exact ⟨x,y,rfl,rfl,rfl,Ext.refl _⟩
 case round =>
  obtain ⟨p,q,rfl,rfl,hg,hb⟩ := hrel
  by_cases h0 : q = 0
  ·subst h0
   go_wp2_with fail
   go_ret
   have := hg.out
   rw [Nat.gcd_zero_right] at this
   exact ⟨by rw [← this];rfl,hb⟩
  ·have h1 : ((q : Int) != 0) = true := by simp [h0]
   have h2 : ¬ (q : Int) = 0 := by omega
   go_wp2_with fail
   go_quiet (fail)
   go_wp2_with fail
   have e : ((p : Int) % (q : Int)) = ((p % q : Nat) : Int) := by simp
   refine ⟨⟨q,p % q,rfl,by rw [e],?_,hb.drewN _⟩,?_⟩
   ·show Nat.gcd q (p % q) = _
    rw [← hg.out,Nat.gcd_comm q,← Nat.gcd_rec,Nat.gcd_comm]
   ·rw [e]
    have := Nat.mod_lt p (show q > 0 by omega)
    simp [intOf];omega

theorem wrap64_small (n : Nat) (h : n < 4294967296) : IntKind.u64.wrap (n : Int) = n := by rw [IntKind.wrap_u64];omega
theorem toW (p q : Nat) (hp : p < 4294967296) (hq : q < 4294967296) : bits .or .u64 (IntKind.u64.wrap (IntKind.u64.wrap (q : Int) * 4294967296)) (IntKind.u64.wrap (p : Int)) = ((p + 4294967296 * q : Nat) : Int) := by
 rw [wrap64_small q hq,wrap64_small p hp]
 have e : IntKind.u64.wrap ((q : Int) * 4294967296) = ((2 ^ 32 * q : Nat) : Int) := by rw [IntKind.wrap_u64];omega
 rw [e,u64_or_nat _ _ (by omega) (by omega),← Nat.two_pow_add_eq_or_of_lt (i := 32) (by omega)]
 congr 1
 omega
theorem i_toWord (v : Value) (n : Nat) (w m : World) (hV : Vw m w) (h : DigV m v (digs n)) (hn : n < 18446744073709551616) :
  Calls Tryz.prog 267 #[v] w (RetV w m fun _ r => r = .int .u64 n) := by
 obtain ⟨A,c,rfl,hc,hs⟩ := h
 replace hs := hs.le hV.le
 by_cases h0 : n = 0
 ·subst h0
  simp only [digs_zero,List.length_nil] at *
  clear hn
  go_enter Tryz.func267,Tryz.ntmps267
  go_wp2
  go_ret
  exact RetV.same hV rfl
 ·by_cases h1 : n < 4294967296
  ·rw [digs_small h0 h1] at *
   obtain ⟨b,off,rfl,hb,hcell⟩ := hs.dig (k := 0) (by simp)
   simp only [List.length_cons,List.length_nil,List.getD_cons_zero,Nat.add_zero,Nat.zero_add] at *
   have hw := Lib.hid (wrap64_small n h1)
   clear hn h0 h1
   go_enter Tryz.func267,Tryz.ntmps267
   go_wp2
   go_ret
   exact RetV.same hV (congrArg (Value.int .u64) hw.out)
  ·rw [digs_two (by omega) hn] at *
   obtain ⟨b,off,rfl,hb,hc0⟩ := hs.dig (k := 0) (by simp)
   obtain ⟨b',off',e,hb',hc1⟩ := hs.dig (k := 1) (by simp)
   injection e with e
   injection e with e1 e2
   subst e1 e2
   simp only [List.length_cons,List.length_nil,List.getD_cons_zero,List.getD_cons_succ,Nat.add_zero,Nat.zero_add] at *
   have hp : n % 4294967296 < 4294967296 := Nat.mod_lt _ (by omega)
   have hq : n / 4294967296 < 4294967296 := by omega
   have hnn : Hid (n = n % 4294967296 + 4294967296 * (n / 4294967296)) := (Nat.mod_add_div _ _).symm
   generalize n % 4294967296 = p at *
   generalize n / 4294967296 = q at *
   have Hp := Lib.hid hp
   have Hq := Lib.hid hq
   clear hn h0 h1 hp hq hs
   go_enter Tryz.func267,Tryz.ntmps267
   go_wp2_with fail
   go_quiet (fail)
   go_wp2_with fail
   go_ret
   exact RetV.val hV ⟨congrArg (fun z => Ending.returned (Value.int .u64 z)) ((toW p q Hp.out Hq.out).trans (by rw [← hnn.out])),(Ext.refl _).drewN _⟩
end Go.Proofs.YtabmjadcoepbeaaGreat

/- slices.Clone of digits. -/
namespace Go.Proofs.YtabmjadcoepbeaaGreat
open Go.RowKit

theorem ownsRow_empty (w : World) (t : TypeId) : (w.alloc (.cells #[] t)).ownsRow w.heap.size t 1 (.slice (some ⟨w.heap.size,0,none⟩) 0 0) 0 [] :=
 ⟨rfl,.inr ⟨w.heap.size,0,#[],rfl,Nat.le_refl _,Blk.new w t #[],by omega,by simp,by simp,by simp⟩⟩

theorem i_Clone (v : Value) (n : Nat) (w m : World) (hV : Vw m w) (h : DigV m v (digs n)) (hl : (digs n).length ≤ 1000) :
  Calls Tryz.prog 217 #[v] w (RetV w m fun m' r => DigV m' r (digs n)) := by
 obtain ⟨A,c,rfl,hc,hs⟩ := h
 replace hs := hs.le hV.le
 have q35 : ∀ (w : World) (a : Option Addr) (n c n' c' : Nat),(binOp .eql 51 (.slice a n c) (.slice none n' c')).run Tryz.prog w = .ok (.bool a.isNone) w := fun w a n c n' c' => Lib.run_eql_slice_nil w _ _ a n c n' c' Tryz.underlying51
 cases A with
 | none =>
  have h0 : (digs n) = [] := by
   rcases Nat.eq_zero_or_pos (digs n).length with h | h
   ·exact List.eq_nil_of_length_eq_zero h
   ·obtain ⟨b,o,e,_⟩ := hs (by simpa using h);cases e
  rw [h0] at *
  simp only [List.length_nil]
  clear hs hc hl h0
  go_enter Tryz.func217,Tryz.ntmps217
  go_wp2
  go_ret
  exact RetV.same hV ⟨none,0,rfl,Nat.le_refl _,Sl.nil⟩
 | some ad =>
  obtain ⟨i0,hi0,hz0,hz1,hz2⟩ := info_parts u32_info
  go_enter Tryz.func217,Tryz.ntmps217
  go_wp2_with (at_builtin;go_must (refine wpList_append_any _ rfl _ (.tmp 6) _ rfl w.heap.size 121 i0 _ 1 4 Tryz.underlying51 hi0 hz0 hz1 hz2 rfl (by omega) (.slice (some ⟨w.heap.size,0,none⟩) 0 0) 0 [] rfl (ownsRow_empty w 121) (some ad) (digs n).length c _ rfl (by simp) (hs.ext (Ext.new _ _)) oneCell_U (by simp only [maxLen];omega) (by omega) (by simp) ?_);intro v1 w1 hown hg hat;clear hat)
  go_ret
  simp only [Nat.zero_add,List.nil_append] at hown
  have hE : Ext w w1 := Ext.grown (Ext.new _ _) hg (fun k hk => by simp [Value.ownBlock] at hk;omega)
  refine ⟨_,_,rfl,hE,(joined_spec hV hE).1,(joined_spec hV hE).2,?_⟩
  exact (DigR.of_own hown).joined hV.size
end Go.Proofs.YtabmjadcoepbeaaGreat

/- Contracts of package integer: Negate, GCD, DivMod for numbers below 2^64. -/
namespace Go.Proofs.YtabmjadcoepbeaaGreat
open Go.RowKit

theorem len2 {n : Nat} (h : n < 18446744073709551616) : (digs n).length ≤ 2 := length_digs_le (k := 2) (by rw [show (4294967296 : Nat) ^ 2 = 18446744073709551616 from rfl];exact h)
theorem sgn_not {g : Bool} {z : Int} (h : z ≠ 0 → g = decide (z < 0)) : sgn (!g) z.natAbs = -z := by
 by_cases hz : z = 0
 ·subst hz;unfold sgn;split <;> rfl
 ·rw [h hz]
  by_cases hn : z < 0 <;> simp [sgn,hn] <;> omega

theorem i_Negate (v : Value) (z : Int) (w m : World) (hV : Vw m w) (h : IntV m v z) : Calls Tryz.prog 154 #[v] w (RetV w m fun m' r => IntC m' r (-z)) := by
 obtain ⟨g,A,l,c,rfl⟩ := h.lit
 obtain ⟨hd,hg⟩ := h.digA
 have lz := h.length
 have E := Lib.hid (sgn_not hg)
 have hL := Loc.start hV
 clear hV hg
 go_enter Tryz.func154,Tryz.ntmps154
 go_upto_region 1 with ((first | go_skip | refine tO ?_ | (refine tS ?_;clear hL;intro _ hL) | (refine tB ?_;clear hL;intro _ _ hL _)))
 refine wp_region_by 8 [false,false,false,false,false,false,false,false] [(fun v _ _ => v = ?c1_0),(fun v _ _ => v = ?c1_1),(fun v _ _ => v = ?c1_2),(fun v _ _ => v = ?c1_3),(fun v _ _ => v = ?c1_4),Of (fun um v => DigV um v (digs z.natAbs)),Of (fun um v => DigV um v (digs z.natAbs)),Of (fun um v => IntC um v (sgn (!g) z.natAbs))] hL.vw mixed [3,4,5,6,7,8,9,10] _ (by kernel_rfl) (fun vs => by simp only [lay,Act.put,zq1,zq2,zq3];rfl) (by kernel_rfl) ?s1 ?r1
 case s1 =>
  refine ⟨?_,?_,?_,?_,?_,?_,?_,?_,trivial⟩
  ·intro vs W1 m1 hE hM hV hD;clear hD;replace hL := hL.call hE hM hV
   go_wp2_with (first | go_skip | refine tO ?_ | (refine tS ?_;clear hL;intro _ hL) | (refine tB ?_;clear hL;intro _ _ hL _))
   refine One.still hV ?_;exact rfl
  ·intro vs W1 m1 hE hM hV hD;obtain ⟨⟨_,_,-,-,f3⟩,-⟩ := hD
   rw [(f3 : vs 3 = _)];clear f3;exact sLe
  ·intro vs W1 m1 hE hM hV hD;obtain ⟨⟨_,_,-,-,f4⟩,-⟩ := hD
   rw [(f4 : vs 4 = _)];clear f4;exact sPw
  ·intro vs W1 m1 hE hM hV hD;clear hD;replace hL := hL.call hE hM hV
   go_wp2_with (first | go_skip | refine tO ?_ | (refine tS ?_;clear hL;intro _ hL) | (refine tB ?_;clear hL;intro _ _ hL _))
   refine One.still hV ?_;exact rfl
  ·intro vs W1 m1 hE hM hV hD;obtain ⟨⟨_,_,-,-,f6⟩,-⟩ := hD
   rw [(f6 : vs 6 = _)];clear f6;exact sLe
  ·intro vs W1 m1 hE hM hV hD;obtain ⟨⟨_,_,-,-,f7⟩,-⟩ := hD
   rw [(f7 : vs 7 = _)]
   clear f7
   go_wp2_with fail
   refine (i_trim _ z.natAbs _ _ hV (hd.le leX)).mono ?_
   rintro e W2 ⟨v,m2,rfl,hE2,hM2,hV2,h⟩
   go_wp2_with fail
   refine One.call hE2 hM2 hV2 ?_;first | exact h | exact rfl
  ·intro vs W1 m1 hE hM hV hD;obtain ⟨⟨_,_,-,i8,f8⟩,-,-⟩ := hD;have f8 : DigV _ (vs 8) (digs z.natAbs) := f8;replace f8 := f8.le i8.le;clear i8
   go_wp2_with fail
   refine (i_Clone _ z.natAbs _ _ hV f8 lz).mono ?_
   rintro e W2 ⟨v,m2,rfl,hE2,hM2,hV2,h⟩
   go_wp2_with fail
   refine One.call hE2 hM2 hV2 ?_;first | exact h | exact rfl
  ·intro vs W1 m1 hE hM hV hD;obtain ⟨⟨_,_,-,-,f5⟩,⟨_,_,-,i9,f9⟩,-,-⟩ := hD
   rw [(f5 : vs 5 = _)]
   clear f5
   have f9 : DigV _ (vs 9) (digs z.natAbs) := f9
   replace f9 := f9.le i9.le
   clear i9
   go_wp2_with fail
   refine (i_wrap _ _ z.natAbs _ _ hV (f9.toA lz)).mono ?_
   rintro e W2 ⟨v,m2,rfl,hE2,hM2,hV2,h⟩
   go_wp2_with fail
   refine One.call hE2 hM2 hV2 ?_;first | exact h | exact rfl
 intro vs W1 m1 hE hM hV hF hD
 clear hD
 obtain ⟨-,-,-,-,-,⟨_,_,-,i8,f8⟩,⟨_,_,-,i9,f9⟩,⟨_,_,-,i10,f10⟩,-⟩ := hF
 replace hL := hL.call hE hM hV
 replace f8 : DigV _ (vs 8) (digs z.natAbs) := f8
 replace f8 := f8.le i8.le
 clear i8
 replace f9 : DigV _ (vs 9) (digs z.natAbs) := f9
 replace f9 := f9.le i9.le
 clear i9
 replace f10 : IntC _ (vs 10) (sgn (!g) z.natAbs) := f10
 replace f10 := f10.le i10.le
 clear i10
 obtain ⟨g10,A10,n10,c10,e10,f10⟩ := f10.lit
 generalize vs 10 = x10 at e10 ⊢
 subst x10
 clear hE hV
 simp only [List.drop_succ_cons,List.drop_zero]
 go_wp2_with (first | go_skip | refine tO ?_ | (refine tS ?_;clear hL;intro _ hL) | (refine tB ?_;clear hL;intro _ _ hL _))
 refine fin_agg hL Tryz.results154 rfl rfl loX AgC.h (by exact rfl) ?_
 rw [← E.out];exact f10

theorem i_gcdMag (a b : Value) (x y : Nat) (w m : World) (hV : Vw m w) (ha : DigV m a (digs x)) (hb : DigV m b (digs y)) (hx : x < 18446744073709551616) (hy : y < 18446744073709551616) :
  Calls Tryz.prog 218 #[a,b] w (RetV w m fun m' r => DigV m' r (digs (Nat.gcd x y))) := by
 have lx := len2 hx
 have ly := len2 hy
 have HG : Hid (Nat.gcd x y < 18446744073709551616) := by
  show _ < _
  by_cases h0 : x = 0
  ·subst h0;rw [Nat.gcd_zero_left];exact hy
  ·exact Nat.lt_of_le_of_lt (Nat.gcd_le_left y (by omega)) hx
 have HX := Lib.hid hx
 have HY := Lib.hid hy
 clear hx hy
 obtain ⟨A,c,rfl,ha⟩ := ha.lit
 obtain ⟨B,d,rfl,hb⟩ := hb.lit
 have hL := Loc.start hV
 clear hV
 go_enter Tryz.func218,Tryz.ntmps218
 go_wp2_with (first | go_skip | refine tO ?_ | (refine tS ?_;clear hL;intro _ hL) | (refine tB ?_;clear hL;intro _ _ hL _))
 refine (i_compareMag _ _ x y _ _ hL.vw ha hb (by omega) (by omega)).mono ?_
 rintro e W1 ⟨_,m1,rfl,hE,hM1,hV,rfl⟩
 replace hL := hL.call hE (by assumption) hV;clear hE hV
 replace ha := ha.le (m' := m1) leX
 replace hb := hb.le (m' := m1) leX
 by_cases hlt : x < y
 ·rw [cmp3_lt hlt]
  have HC : Hid (Nat.gcd y x = Nat.gcd x y) := Nat.gcd_comm _ _
  have z0 : (digs x).length = 0 ↔ x = 0 := by rw [List.length_eq_zero_iff,digs_nil]
  have l1 : (digs y).length ≤ 2 := by omega
  have l2 : (digs x).length ≤ 2 := by omega
  generalize hnb : (digs y).length = nb at *
  generalize hns : (digs x).length = ns at *
  have Hb := Lib.hid hnb
  have Hs := Lib.hid hns
  have t1 : decide (2 < nb) = false := by simp;omega
  have t2 : decide (2 < ns) = false := by simp;omega
  have t3 : ¬ 2 < ns := by omega
  have t4 : ¬ 2 < nb := by omega
  clear hnb hns lx ly
  by_cases h0 : x = 0
  ·obtain rfl : ns = 0 := z0.2 h0
   have HR : Hid (Nat.gcd x y = y) := by show _ = _;rw [h0,Nat.gcd_zero_left]
   clear z0 h0 hlt
   go_wp2_with (first | go_skip | refine tO ?_ | (refine tS ?_;clear hL;intro _ hL) | (refine tB ?_;clear hL;intro _ _ hL _))
   refine wp_loop_once ?_
   go_wp2_with (first | go_skip | refine tO ?_ | (refine tS ?_;clear hL;intro _ hL) | (refine tB ?_;clear hL;intro _ _ hL _))
   refine (i_Clone _ y _ _ hL.vw (hb.le leX) (by rw [Hb.out];omega)).mono ?_
   rintro e W2 ⟨v2,m2,rfl,hE,hM2,hV,h2⟩
   replace hL := hL.call hE (by assumption) hV;clear hE hV
   go_wp2_with (first | go_skip | refine tO ?_ | (refine tS ?_;clear hL;intro _ hL) | (refine tB ?_;clear hL;intro _ _ hL _))
   go_ret
   exact RetV.mk hL (by rw [HR.out];exact h2)
  ·have t5 : ((ns : Int) == 0) = false := by simp;omega
   clear z0 h0 hlt
   go_wp2_with (first | go_skip | refine tO ?_ | (refine tS ?_;clear hL;intro _ hL) | (refine tB ?_;clear hL;intro _ _ hL _))
   refine wp_loop_once ?_
   go_wp2_with (first | go_skip | refine tO ?_ | (refine tS ?_;clear hL;intro _ hL) | (refine tB ?_;clear hL;intro _ _ hL _))
   refine (i_toWord _ y _ _ hL.vw (hb.le leX) HY.out).mono ?_
   rintro e W2 ⟨_,m2,rfl,hE,hM2,hV,rfl⟩
   replace hL := hL.call hE (by assumption) hV;clear hE hV
   go_wp2_with (first | go_skip | refine tO ?_ | (refine tS ?_;clear hL;intro _ hL) | (refine tB ?_;clear hL;intro _ _ hL _))
   refine (i_toWord _ x _ _ hL.vw (ha.le leX) HX.out).mono ?_
   rintro e W3 ⟨_,m3,rfl,hE,hM3,hV,rfl⟩
   replace hL := hL.call hE (by assumption) hV;clear hE hV
   go_wp2_with (first | go_skip | refine tO ?_ | (refine tS ?_;clear hL;intro _ hL) | (refine tB ?_;clear hL;intro _ _ hL _))
   refine ((i_gcdWord y x _ HY.out HX.out).mono fun _ _ h => RetV.val (m := m3) hL.vw h).mono ?_
   rintro e W4 ⟨_,m4,rfl,hE,hM4,hV,rfl⟩
   replace hL := hL.call hE (by assumption) hV;clear hE hV
   go_wp2_with (first | go_skip | refine tO ?_ | (refine tS ?_;clear hL;intro _ hL) | (refine tB ?_;clear hL;intro _ _ hL _))
   refine (i_fromWord (Nat.gcd y x) _ _ hL.vw (by rw [HC.out];exact HG.out)).mono ?_
   rintro e W5 ⟨v5,m5,rfl,hE,hM5,hV,h5⟩
   replace hL := hL.call hE (by assumption) hV;clear hE hV
   go_wp2_with (first | go_skip | refine tO ?_ | (refine tS ?_;clear hL;intro _ hL) | (refine tB ?_;clear hL;intro _ _ hL _))
   go_ret
   exact RetV.mk hL (by rw [← HC.out];exact h5)
 ·have hc0 : ¬ cmp3 x y < 0 := by have := cmp3_nonneg (Nat.le_of_not_lt hlt);omega
  generalize cmp3 x y = cc at *
  have z0 : (digs y).length = 0 ↔ y = 0 := by rw [List.length_eq_zero_iff,digs_nil]
  have l1 : (digs x).length ≤ 2 := by omega
  have l2 : (digs y).length ≤ 2 := by omega
  generalize hnb : (digs x).length = nb at *
  generalize hns : (digs y).length = ns at *
  have Hb := Lib.hid hnb
  have Hs := Lib.hid hns
  have t1 : decide (2 < nb) = false := by simp;omega
  have t2 : decide (2 < ns) = false := by simp;omega
  have t3 : ¬ 2 < ns := by omega
  have t4 : ¬ 2 < nb := by omega
  clear hnb hns lx ly
  by_cases h0 : y = 0
  ·obtain rfl : ns = 0 := z0.2 h0
   have HR : Hid (Nat.gcd x y = x) := by show _ = _;rw [h0,Nat.gcd_zero_right]
   clear z0 h0 hlt
   go_wp2_with (first | go_skip | refine tO ?_ | (refine tS ?_;clear hL;intro _ hL) | (refine tB ?_;clear hL;intro _ _ hL _))
   refine wp_loop_once ?_
   go_wp2_with (first | go_skip | refine tO ?_ | (refine tS ?_;clear hL;intro _ hL) | (refine tB ?_;clear hL;intro _ _ hL _))
   refine (i_Clone _ x _ _ hL.vw (ha.le leX) (by rw [Hb.out];omega)).mono ?_
   rintro e W2 ⟨v2,m2,rfl,hE,hM2,hV,h2⟩
   replace hL := hL.call hE (by assumption) hV;clear hE hV
   go_wp2_with (first | go_skip | refine tO ?_ | (refine tS ?_;clear hL;intro _ hL) | (refine tB ?_;clear hL;intro _ _ hL _))
   go_ret
   exact RetV.mk hL (by rw [HR.out];exact h2)
  ·have t5 : ((ns : Int) == 0) = false := by simp;omega
   clear z0 h0 hlt
   go_wp2_with (first | go_skip | refine tO ?_ | (refine tS ?_;clear hL;intro _ hL) | (refine tB ?_;clear hL;intro _ _ hL _))
   refine wp_loop_once ?_
   go_wp2_with (first | go_skip | refine tO ?_ | (refine tS ?_;clear hL;intro _ hL) | (refine tB ?_;clear hL;intro _ _ hL _))
   refine (i_toWord _ x _ _ hL.vw (ha.le leX) HX.out).mono ?_
   rintro e W2 ⟨_,m2,rfl,hE,hM2,hV,rfl⟩
   replace hL := hL.call hE (by assumption) hV;clear hE hV
   go_wp2_with (first | go_skip | refine tO ?_ | (refine tS ?_;clear hL;intro _ hL) | (refine tB ?_;clear hL;intro _ _ hL _))
   refine (i_toWord _ y _ _ hL.vw (hb.le leX) HY.out).mono ?_
   rintro e W3 ⟨_,m3,rfl,hE,hM3,hV,rfl⟩
   replace hL := hL.call hE (by assumption) hV;clear hE hV
   go_wp2_with (first | go_skip | refine tO ?_ | (refine tS ?_;clear hL;intro _ hL) | (refine tB ?_;clear hL;intro _ _ hL _))
   refine ((i_gcdWord x y _ HX.out HY.out).mono fun _ _ h => RetV.val (m := m3) hL.vw h).mono ?_
   rintro e W4 ⟨_,m4,rfl,hE,hM4,hV,rfl⟩
   replace hL := hL.call hE (by assumption) hV;clear hE hV
   go_wp2_with (first | go_skip | refine tO ?_ | (refine tS ?_;clear hL;intro _ hL) | (refine tB ?_;clear hL;intro _ _ hL _))
   refine (i_fromWord (Nat.gcd x y) _ _ hL.vw HG.out).mono ?_
   rintro e W5 ⟨v5,m5,rfl,hE,hM5,hV,h5⟩
   replace hL := hL.call hE (by assumption) hV;clear hE hV
   go_wp2_with (first | go_skip | refine tO ?_ | (refine tS ?_;clear hL;intro _ hL) | (refine tB ?_;clear hL;intro _ _ hL _))
   go_ret
   exact RetV.mk hL h5
end Go.Proofs.YtabmjadcoepbeaaGreat

/- Contracts of package integer: GCD, divMag, DivMod for numbers below 2^64 (DivMod: no negative remainder). -/
namespace Go.Proofs.YtabmjadcoepbeaaGreat
open Go.RowKit

theorem wrap64_nat (n : Nat) (h : n < 18446744073709551616) : IntKind.u64.wrap (n : Int) = n := by rw [IntKind.wrap_u64];omega
theorem i_fromWordI (z : Int) (n : Nat) (w m : World) (hV : Vw m w) (hz : z = n) (hn : n < 18446744073709551616) : Calls Tryz.prog 112 #[.int .u64 z] w (RetV w m fun m' r => DigV m' r (digs n)) := by
 subst hz;exact i_fromWord n w m hV hn

theorem i_GCD (a b : Value) (x y : Int) (w m : World) (hV : Vw m w) (ha : IntV m a x) (hb : IntV m b y) (hx : x.natAbs < 18446744073709551616) (hy : y.natAbs < 18446744073709551616) :
  Calls Tryz.prog 156 #[a,b] w (RetV w m fun m' r => IntC m' r (Int.gcd x y : Nat)) := by
 obtain ⟨g1,A1,l1,c1,rfl⟩ := ha.lit
 obtain ⟨g2,A2,l2,c2,rfl⟩ := hb.lit
 obtain ⟨d1,-⟩ := ha.digA
 obtain ⟨d2,-⟩ := hb.digA
 have HX := Lib.hid hx
 have HY := Lib.hid hy
 have lg : (digs (Nat.gcd x.natAbs y.natAbs)).length ≤ 1000 := by
  by_cases h0 : x.natAbs = 0
  ·rw [h0,Nat.gcd_zero_left];exact hb.length
  ·exact Nat.le_trans (length_digs_mono (Nat.gcd_le_left _ (by omega))) ha.length
 have E : Hid (sgn false (Nat.gcd x.natAbs y.natAbs) = (Int.gcd x y : Nat)) := by show _ = _;simp [sgn,Int.gcd]
 clear hx hy
 have hL := Loc.start hV
 clear hV
 go_enter Tryz.func156,Tryz.ntmps156
 go_upto_region 1 with ((first | go_skip | refine tO ?_ | (refine tS ?_;clear hL;intro _ hL) | (refine tB ?_;clear hL;intro _ _ hL _)))
 refine wp_region_by 8 [false,false,false,false,false,false,false,false] [(fun v _ _ => v = ?c1_0),(fun v _ _ => v = ?c1_1),Of (fun um v => DigV um v (digs x.natAbs)),(fun v _ _ => v = ?c1_3),(fun v _ _ => v = ?c1_4),Of (fun um v => DigV um v (digs y.natAbs)),Of (fun um v => DigV um v (digs (Nat.gcd x.natAbs y.natAbs))),Of (fun um v => IntC um v (sgn false (Nat.gcd x.natAbs y.natAbs)))] hL.vw mixed [5,6,7,8,9,10,11,12] _ (by kernel_rfl) (fun vs => by simp only [lay,Act.put,zq1,zq2,zq3];rfl) (by kernel_rfl) ?s1 ?r1
 case s1 =>
  refine ⟨?_,?_,?_,?_,?_,?_,?_,?_,trivial⟩
  ·intro vs W1 m1 hE hM hV hD;clear hD;replace hL := hL.call hE hM hV
   go_wp2_with (first | go_skip | refine tO ?_ | (refine tS ?_;clear hL;intro _ hL) | (refine tB ?_;clear hL;intro _ _ hL _))
   refine One.still hV ?_;exact rfl
  ·intro vs W1 m1 hE hM hV hD;obtain ⟨⟨_,_,-,-,f5⟩,-⟩ := hD
   rw [(f5 : vs 5 = _)];clear f5;exact sLe
  ·intro vs W1 m1 hE hM hV hD;obtain ⟨⟨_,_,-,-,f6⟩,-⟩ := hD
   rw [(f6 : vs 6 = _)]
   clear f6
   go_wp2_with fail
   refine (i_trim _ x.natAbs _ _ hV (d1.le leX)).mono ?_
   rintro e W2 ⟨v,m2,rfl,hE2,hM2,hV2,h⟩
   go_wp2_with fail
   refine One.call hE2 hM2 hV2 ?_;first | exact h | exact rfl
  ·intro vs W1 m1 hE hM hV hD;clear hD;replace hL := hL.call hE hM hV
   go_wp2_with (first | go_skip | refine tO ?_ | (refine tS ?_;clear hL;intro _ hL) | (refine tB ?_;clear hL;intro _ _ hL _))
   refine One.still hV ?_;exact rfl
  ·intro vs W1 m1 hE hM hV hD;obtain ⟨⟨_,_,-,-,f8⟩,-⟩ := hD
   rw [(f8 : vs 8 = _)];clear f8;exact sLe
  ·intro vs W1 m1 hE hM hV hD;obtain ⟨⟨_,_,-,-,f9⟩,-,-⟩ := hD
   rw [(f9 : vs 9 = _)]
   clear f9
   go_wp2_with fail
   refine (i_trim _ y.natAbs _ _ hV (d2.le leX)).mono ?_
   rintro e W2 ⟨v,m2,rfl,hE2,hM2,hV2,h⟩
   go_wp2_with fail
   refine One.call hE2 hM2 hV2 ?_;first | exact h | exact rfl
  ·intro vs W1 m1 hE hM hV hD;obtain ⟨⟨_,_,-,i7,f7⟩,⟨_,_,-,i10,f10⟩,-,-⟩ := hD;have f7 : DigV _ (vs 7) (digs x.natAbs) := f7;replace f7 := f7.le i7.le;clear i7;have f10 : DigV _ (vs 10) (digs y.natAbs) := f10;replace f10 := f10.le i10.le;clear i10
   go_wp2_with fail
   refine (i_gcdMag _ _ _ _ _ _ hV f7 f10 HX.out HY.out).mono ?_
   rintro e W2 ⟨v,m2,rfl,hE2,hM2,hV2,h⟩
   go_wp2_with fail
   refine One.call hE2 hM2 hV2 ?_;first | exact h | exact rfl
  ·intro vs W1 m1 hE hM hV hD;obtain ⟨⟨_,_,-,i11,f11⟩,-,-⟩ := hD;have f11 : DigV _ (vs 11) (digs (Nat.gcd x.natAbs y.natAbs)) := f11;replace f11 := f11.le i11.le;clear i11
   go_wp2_with fail
   refine (i_wrap _ _ _ _ _ hV (f11.toA lg)).mono ?_
   rintro e W2 ⟨v,m2,rfl,hE2,hM2,hV2,h⟩
   go_wp2_with fail
   refine One.call hE2 hM2 hV2 ?_;first | exact h | exact rfl
 intro vs W1 m1 hE hM hV hF hD
 clear hD
 obtain ⟨-,-,⟨_,_,-,i7,f7⟩,-,-,⟨_,_,-,i10,f10⟩,⟨_,_,-,i11,f11⟩,⟨_,_,-,i12,f12⟩,-⟩ := hF
 replace hL := hL.call hE hM hV
 replace f7 : DigV _ (vs 7) (digs x.natAbs) := f7
 replace f7 := f7.le i7.le
 clear i7
 replace f10 : DigV _ (vs 10) (digs y.natAbs) := f10
 replace f10 := f10.le i10.le
 clear i10
 replace f11 : DigV _ (vs 11) (digs (Nat.gcd x.natAbs y.natAbs)) := f11
 replace f11 := f11.le i11.le
 clear i11
 replace f12 : IntC _ (vs 12) (sgn false (Nat.gcd x.natAbs y.natAbs)) := f12
 replace f12 := f12.le i12.le
 clear i12
 obtain ⟨g12,A12,n12,c12,e12,f12⟩ := f12.lit
 generalize vs 12 = x12 at e12 ⊢
 subst x12
 clear hE hV
 simp only [List.drop_succ_cons,List.drop_zero]
 go_wp2_with (first | go_skip | refine tO ?_ | (refine tS ?_;clear hL;intro _ hL) | (refine tB ?_;clear hL;intro _ _ hL _))
 refine fin_agg hL Tryz.results156 rfl rfl loX AgC.h (by exact rfl) ?_
 rw [← E.out];exact f12

theorem i_divMag (a b : Value) (x y : Nat) (w m : World) (hV : Vw m w) (ha : DigV m a (digs x)) (hb : DigV m b (digs y)) (hx : x < 18446744073709551616) (hy : y < 18446744073709551616) (hy0 : y ≠ 0) :
  Calls Tryz.prog 219 #[a,b] w (RetV w m fun m' v => ∃ q r,v = .tuple #[q,r] ∧ DigV m' q (digs (x / y)) ∧ DigV m' r (digs (x % y))) := by
 have lx := len2 hx
 have ly := len2 hy
 have HQ : Hid (x / y < 18446744073709551616) := Nat.lt_of_le_of_lt (Nat.div_le_self _ _) hx
 have HR : Hid (x % y < 18446744073709551616) := Nat.lt_of_le_of_lt (Nat.mod_le _ _) hx
 have HX := Lib.hid hx
 have HY := Lib.hid hy
 clear hx hy
 obtain ⟨A,c,rfl,ha⟩ := ha.lit
 obtain ⟨B,d,rfl,hb⟩ := hb.lit
 have hL := Loc.start hV
 clear hV
 go_enter Tryz.func219,Tryz.ntmps219
 go_wp2_with (first | go_skip | refine tO ?_)
 refine (i_compareMag _ _ x y _ _ hL.vw ha hb (by omega) (by omega)).mono ?_
 rintro e W1 ⟨_,m1,rfl,hE,hM1,hV,rfl⟩
 replace hL := hL.call hE (by assumption) hV;clear hE hV
 by_cases hlt : x < y
 ·rw [cmp3_lt hlt]
  have H1 := Lib.hid (Nat.div_eq_of_lt hlt)
  have H2 := Lib.hid (Nat.mod_eq_of_lt hlt)
  clear hlt
  go_wp2_with (first | go_skip | refine tO ?_)
  refine (i_Clone _ x _ _ hL.vw (ha.le leX) (by omega)).mono ?_
  rintro e W2 ⟨v2,m2,rfl,hE,hM2,hV,h2⟩
  replace hL := hL.call hE (by assumption) hV;clear hE hV
  go_wp2_with (first | go_skip | refine tO ?_)
  go_ret2
  exact RetV.mk hL ⟨_,_,rfl,by rw [H1.out,digs_zero];exact ⟨none,0,rfl,Nat.le_refl _,Sl.nil⟩,by rw [H2.out];exact h2⟩
 ·have hc0 : ¬ cmp3 x y < 0 := by have := cmp3_nonneg (Nat.le_of_not_lt hlt);omega
  generalize cmp3 x y = cc at *
  have ha2 := Lib.hid ha
  have hb2 := Lib.hid hb
  clear ha hb hlt
  generalize hnx : (digs x).length = nx at *
  have Hnx := Lib.hid hnx
  have t1 : decide (nx ≤ 2) = true := by simp;omega
  clear hnx
  go_wp2_with (first | go_skip | refine tO ?_)
  have ha := ha2.out
  refine (i_toWord _ x _ _ hL.vw (ha.le leX) HX.out).mono ?_
  rintro e W2 ⟨_,m2,rfl,hE,hM2,hV,rfl⟩
  replace hL := hL.call hE (by assumption) hV;clear hE hV
  clear ha
  go_wp2_with (first | go_skip | refine tO ?_)
  have hb := hb2.out
  refine (i_toWord _ y _ _ hL.vw (hb.le leX) HY.out).mono ?_
  rintro e W3 ⟨_,m3,rfl,hE,hM3,hV,rfl⟩
  replace hL := hL.call hE (by assumption) hV;clear hE hV
  clear hb
  have ny : ¬ (y : Int) = 0 := by omega
  go_upto_region 5 with ((first | go_skip | refine tO ?_))
  refine wp_region_by 8 [false,false,false,false,false,false,false,false] [(fun v _ _ => v = ?c5_0),(fun v _ _ => v = ?c5_1),(fun v _ _ => v = ?c5_2),Of (fun um v => DigV um v (digs (x / y))),(fun v _ _ => v = ?c5_4),(fun v _ _ => v = ?c5_5),(fun v _ _ => v = ?c5_6),Of (fun um v => DigV um v (digs (x % y)))] hL.vw mixed [22,23,24,25,26,27,28,29] _ (by kernel_rfl) (fun vs => by simp only [lay,Act.put,zq1,zq2,zq3];rfl) (by kernel_rfl) ?s5 ?r5
  case s5 =>
   refine ⟨?_,?_,?_,?_,?_,?_,?_,?_,trivial⟩
   ·intro vs W1 m1 hE hM hV hD;clear hD
    exact sPw
   ·intro vs W1 m1 hE hM hV hD;clear hD
    exact sPw
   ·intro vs W1 m1 hE hM hV hD;obtain ⟨⟨_,_,-,-,f22⟩,⟨_,_,-,-,f23⟩,-⟩ := hD
    rw [(f22 : vs 22 = _),(f23 : vs 23 = _)];clear f22 f23;exact sPw
   ·intro vs W1 m1 hE hM hV hD;obtain ⟨⟨_,_,-,-,f24⟩,-⟩ := hD
    rw [(f24 : vs 24 = _)]
    clear f24
    go_wp2_with fail
    refine (i_fromWordI _ (x / y) _ _ hV (by rw [← Int.natCast_ediv];exact wrap64_nat _ HQ.out) HQ.out).mono ?_
    rintro e W2 ⟨v,m2,rfl,hE2,hM2,hV2,h⟩
    go_wp2_with fail
    refine One.call hE2 hM2 hV2 ?_;first | exact h | exact rfl
   ·intro vs W1 m1 hE hM hV hD;clear hD
    exact sPw
   ·intro vs W1 m1 hE hM hV hD;clear hD
    exact sPw
   ·intro vs W1 m1 hE hM hV hD;obtain ⟨⟨_,_,-,-,f26⟩,⟨_,_,-,-,f27⟩,-⟩ := hD
    rw [(f26 : vs 26 = _),(f27 : vs 27 = _)];clear f26 f27;exact sPw
   ·intro vs W1 m1 hE hM hV hD;obtain ⟨⟨_,_,-,-,f28⟩,-,-⟩ := hD
    rw [(f28 : vs 28 = _)]
    clear f28
    go_wp2_with fail
    refine (i_fromWordI _ (x % y) _ _ hV (by first | (simp;done) | (rw [← Int.natCast_emod];exact wrap64_nat _ HR.out)) HR.out).mono ?_
    rintro e W2 ⟨v,m2,rfl,hE2,hM2,hV2,h⟩
    go_wp2_with fail
    refine One.call hE2 hM2 hV2 ?_;first | exact h | exact rfl
  intro vs W1 m1 hE hM hV hF hD
  clear hD
  obtain ⟨-,-,-,⟨_,_,-,i25,f25⟩,-,-,-,⟨_,_,-,i29,f29⟩,-⟩ := hF
  replace hL := hL.call hE hM hV
  replace f25 : DigV _ (vs 25) (digs (x / y)) := f25
  replace f25 := f25.le i25.le
  clear i25
  replace f29 : DigV _ (vs 29) (digs (x % y)) := f29
  replace f29 := f29.le i29.le
  clear i29
  clear hE hV
  simp only [List.drop_succ_cons,List.drop_zero]
  go_wp2_with (first | go_skip | refine tO ?_)
  go_ret2
  exact RetV.mk hL ⟨_,_,rfl,f25,f29⟩

theorem dm_small {x y : Int} (hy : 0 < y) (h : 0 ≤ x ∨ x % y = 0) : x.natAbs % y.natAbs = 0 ∨ ¬ x < 0 := by
 rcases h with h | h
 ·exact .inr (by omega)
 ·left
  have hd : y ∣ x := Int.dvd_of_emod_eq_zero h
  exact Nat.mod_eq_zero_of_dvd (Int.natAbs_dvd_natAbs.2 hd)
theorem dm_res {x y : Int} {g : Bool} (hy : 0 < y) (hg : x ≠ 0 → g = decide (x < 0)) (h : x.natAbs % y.natAbs = 0 ∨ ¬ x < 0) : sgn g (x.natAbs / y.natAbs) = x / y ∧ sgn false (x.natAbs % y.natAbs) = x % y := by
 by_cases hx0 : x = 0
 ·subst hx0;simp [sgn]
 ·rw [hg hx0]
  by_cases hx : x < 0
  ·rcases h with h | h
   ·have := dm_neg0' hy hx h
    simp only [hx,decide_true]
    exact ⟨this.1.symm,by rw [h,this.2,h];simp [sgn]⟩
   ·exact absurd hx h
  ·have := dm_pos' hy hx
   simp only [hx,decide_false]
   exact ⟨this.1.symm,this.2.symm⟩
 where
 dm_of' {x y q r : Int} (hy : 0 < y) (h : r + y * q = x) (h0 : 0 ≤ r) (h1 : r < y) : x / y = q ∧ x % y = r := (Int.ediv_emod_unique hy).2 ⟨h,h0,h1⟩
 dm_pos' {x y : Int} (hy : 0 < y) (hx : ¬ x < 0) : x / y = sgn false (x.natAbs / y.natAbs) ∧ x % y = sgn false (x.natAbs % y.natAbs) := by
  obtain ⟨a,rfl⟩ : ∃ a : Nat,x = a := ⟨x.natAbs,by omega⟩
  obtain ⟨b,rfl⟩ : ∃ b : Nat,y = b := ⟨y.natAbs,by omega⟩
  simp [sgn]
 dm_neg0' {x y : Int} (hy : 0 < y) (hx : x < 0) (hr : x.natAbs % y.natAbs = 0) : x / y = sgn true (x.natAbs / y.natAbs) ∧ x % y = sgn true (x.natAbs % y.natAbs) := by
  obtain ⟨a,rfl⟩ : ∃ a : Nat,x = -(a : Int) := ⟨x.natAbs,by omega⟩
  obtain ⟨b,rfl⟩ : ∃ b : Nat,y = b := ⟨y.natAbs,by omega⟩
  simp only [Int.natAbs_neg,Int.natAbs_natCast] at hr ⊢
  refine dm_of' hy ?_ (by simp [sgn,hr]) (by simp [sgn,hr];omega)
  have h := Nat.mod_add_div a b
  rw [hr] at h ⊢
  have h2 : (b : Int) * ((a / b : Nat) : Int) = a := by rw [← Int.natCast_mul];congr 1;omega
  simp only [sgn,if_true,Int.mul_neg,h2];simp
end Go.Proofs.YtabmjadcoepbeaaGreat

/- Contract of integer.DivMod for numbers below 2^64 (no negative remainder). -/
namespace Go.Proofs.YtabmjadcoepbeaaGreat
open Go.RowKit

theorem i_DivMod (a b : Value) (x y : Int) (w m : World) (hV : Vw m w) (ha : IntV m a x) (hb : IntV m b y) (hx : x.natAbs < 18446744073709551616) (hy : y.natAbs < 18446744073709551616) (hy0 : 0 < y) (hxy : 0 ≤ x ∨ x % y = 0) :
  Calls Tryz.prog 157 #[a,b] w (RetV w m fun m' v => ∃ q r,v = .tuple #[q,r,.int .i64 0] ∧ IntC m' q (x / y) ∧ IntC m' r (x % y)) := by
 obtain ⟨g1,A1,l1,c1,rfl⟩ := ha.lit
 obtain ⟨g2,A2,l2,c2,rfl⟩ := hb.lit
 obtain ⟨d1,hg1⟩ := ha.digA
 obtain ⟨d2,hg2⟩ := hb.digA
 obtain rfl : g2 = false := by rw [hg2 (by omega)];simp;omega
 have hs := dm_small hy0 hxy
 have HF := Lib.hid (dm_res hy0 hg1 hs)
 have HX := Lib.hid hx
 have HY := Lib.hid hy
 have lq : (digs (x.natAbs / y.natAbs)).length ≤ 1000 := Nat.le_trans (length_digs_mono (Nat.div_le_self _ _)) ha.length
 have lr : (digs (x.natAbs % y.natAbs)).length ≤ 1000 := Nat.le_trans (length_digs_mono (Nat.mod_le _ _)) ha.length
 have hyn : y.natAbs ≠ 0 := by omega
 have hcase : x.natAbs % y.natAbs = 0 ∨ g1 = false ∨ x.natAbs % y.natAbs ≠ 0 ∧ x = 0 := by
  rcases hs with h | h
  ·exact .inl h
  ·by_cases h0 : x = 0
   ·subst h0;simp
   ·exact .inr (.inl (by rw [hg1 h0];simp [h]))
 replace hcase : x.natAbs % y.natAbs = 0 ∨ g1 = false := by
  rcases hcase with h | h | ⟨h1,rfl⟩
  ·exact .inl h
  ·exact .inr h
  ·simp at h1
 clear hx hy hg1 hg2 hs hxy
 have hL := Loc.start hV
 clear hV
 go_enter Tryz.func157,Tryz.ntmps157
 go_upto_region 1 with ((first | go_skip | refine tO ?_ | (refine tS ?_;clear hL;intro _ hL) | (refine tB ?_;clear hL;intro _ _ hL _)))
 refine wp_region_by 6 [false,false,false,false,false,false] [(fun v _ _ => v = ?c1_0),(fun v _ _ => v = ?c1_1),Of (fun um v => DigV um v (digs x.natAbs)),(fun v _ _ => v = ?c1_3),(fun v _ _ => v = ?c1_4),Of (fun um v => DigV um v (digs y.natAbs))] hL.vw mixed [11,12,13,14,15,16] _ (by kernel_rfl) (fun vs => by simp only [lay,Act.put,zq1,zq2,zq3];rfl) (by kernel_rfl) ?s1 ?r1
 case s1 =>
  refine ⟨?_,?_,?_,?_,?_,?_,trivial⟩
  ·intro vs W1 m1 hE hM hV hD;clear hD;replace hL := hL.call hE hM hV
   go_wp2_with (first | go_skip | refine tO ?_ | (refine tS ?_;clear hL;intro _ hL) | (refine tB ?_;clear hL;intro _ _ hL _))
   refine One.still hV ?_;exact rfl
  ·intro vs W1 m1 hE hM hV hD;obtain ⟨⟨_,_,-,-,f11⟩,-⟩ := hD
   rw [(f11 : vs 11 = _)];clear f11;exact sLe
  ·intro vs W1 m1 hE hM hV hD;obtain ⟨⟨_,_,-,-,f12⟩,-⟩ := hD
   rw [(f12 : vs 12 = _)]
   clear f12
   go_wp2_with fail
   refine (i_trim _ x.natAbs _ _ hV (d1.le leX)).mono ?_
   rintro e W2 ⟨v,m2,rfl,hE2,hM2,hV2,h⟩
   go_wp2_with fail
   refine One.call hE2 hM2 hV2 ?_;first | exact h | exact rfl
  ·intro vs W1 m1 hE hM hV hD;clear hD;replace hL := hL.call hE hM hV
   go_wp2_with (first | go_skip | refine tO ?_ | (refine tS ?_;clear hL;intro _ hL) | (refine tB ?_;clear hL;intro _ _ hL _))
   refine One.still hV ?_;exact rfl
  ·intro vs W1 m1 hE hM hV hD;obtain ⟨⟨_,_,-,-,f14⟩,-⟩ := hD
   rw [(f14 : vs 14 = _)];clear f14;exact sLe
  ·intro vs W1 m1 hE hM hV hD;obtain ⟨⟨_,_,-,-,f15⟩,-,-⟩ := hD
   rw [(f15 : vs 15 = _)]
   clear f15
   go_wp2_with fail
   refine (i_trim _ y.natAbs _ _ hV (d2.le leX)).mono ?_
   rintro e W2 ⟨v,m2,rfl,hE2,hM2,hV2,h⟩
   go_wp2_with fail
   refine One.call hE2 hM2 hV2 ?_;first | exact h | exact rfl
 intro vs W1 m1 hE hM hV hF hD
 clear hD
 obtain ⟨-,-,⟨_,_,-,i13,f13⟩,-,-,⟨_,_,-,i16,f16⟩,-⟩ := hF
 replace hL := hL.call hE hM hV
 replace f13 : DigV _ (vs 13) (digs x.natAbs) := f13
 replace f13 := f13.le i13.le
 clear i13
 replace f16 : DigV _ (vs 16) (digs y.natAbs) := f16
 replace f16 := f16.le i16.le
 clear i16
 clear hE hV
 simp only [List.drop_succ_cons,List.drop_zero]
 obtain ⟨A16,c16,e16,f16⟩ := f16.lit
 generalize vs 16 = x16 at e16 ⊢
 subst x16
 have t1 : (((digs y.natAbs).length : Int) == 0) = false := by
  have := mt digs_nil.1 hyn
  simp [List.length_eq_zero_iff,this]
 go_wp2_with (first | go_skip | refine tO ?_ | (refine tS ?_;clear hL;intro _ hL) | (refine tB ?_;clear hL;intro _ _ hL _))
 refine (i_divMag _ _ x.natAbs y.natAbs _ _ hL.vw (f13.le leX) (f16.le leX) HX.out HY.out hyn).mono ?_
 rintro e W2 ⟨_,m2,rfl,hE,hM2,hV,qv,rv,rfl,h1,h2⟩
 replace hL := hL.call hE (by assumption) hV;clear hE hV
 obtain ⟨A4,c4,rfl,h1⟩ := h1.lit
 obtain ⟨A5,c5,rfl,h2⟩ := h2.lit
 have hfin : ((digs (x.natAbs % y.natAbs)).length = 0 ∨ (digs (x.natAbs % y.natAbs)).length ≠ 0 ∧ g1 = false) := by
  rcases hcase with h | h
  ·left;rw [h,digs_zero];rfl
  ·by_cases h0 : (digs (x.natAbs % y.natAbs)).length = 0
   ·exact .inl h0
   ·exact .inr ⟨h0,h⟩
 have H1 := Lib.hid h1
 have H2 := Lib.hid h2
 have LR : Hid (DigA m2 (.slice A5 (digs (x.natAbs % y.natAbs)).length c5) (x.natAbs % y.natAbs)) := h2.toA lr
 clear h1 h2 hcase t1 lr
 generalize hnr : (digs (x.natAbs % y.natAbs)).length = nr at *
 clear hnr
 rcases hfin with h0 | ⟨h0,rfl⟩
 ·subst h0
  go_upto_region 8 with ((first | go_skip | refine tO ?_ | (refine tS ?_;clear hL;intro _ hL) | (refine tB ?_;clear hL;intro _ _ hL _)))
  have h1 := H1.out
  have h2 := LR.out
  refine wp_region_by 11 [false,false,false,false,false,false,false,false,false,false,false] [(fun v _ _ => v = ?c8_0a),(fun v _ _ => v = ?c8_1a),(fun v _ _ => v = ?c8_2a),(fun v _ _ => v = ?c8_3a),(fun v _ _ => v = ?c8_4a),(fun v _ _ => v = ?c8_5a),Of (fun um v => IntC um v (sgn g1 (x.natAbs / y.natAbs))),(fun v _ _ => v = ?c8_7a),(fun v _ _ => v = ?c8_8a),(fun v _ _ => v = ?c8_9a),Of (fun um v => IntC um v (sgn false (x.natAbs % y.natAbs)))] hL.vw mixed [44,45,46,47,48,49,50,51,52,53,54] _ (by kernel_rfl) (fun vs => by simp only [lay,Act.put,zq1,zq2,zq3];rfl) (by kernel_rfl) ?s8a ?r8a
  case s8a =>
   refine ⟨?_,?_,?_,?_,?_,?_,?_,?_,?_,?_,?_,trivial⟩
   ·intro vs W1 m1 hE hM hV hD;clear hD;replace hL := hL.call hE hM hV
    go_wp2_with (first | go_skip | refine tO ?_ | (refine tS ?_;clear hL;intro _ hL) | (refine tB ?_;clear hL;intro _ _ hL _))
    refine One.still hV ?_;exact rfl
   ·intro vs W1 m1 hE hM hV hD;obtain ⟨⟨_,_,-,-,f44⟩,-⟩ := hD
    rw [(f44 : vs 44 = _)];clear f44;exact sLe
   ·intro vs W1 m1 hE hM hV hD;clear hD;replace hL := hL.call hE hM hV
    go_wp2_with (first | go_skip | refine tO ?_ | (refine tS ?_;clear hL;intro _ hL) | (refine tB ?_;clear hL;intro _ _ hL _))
    refine One.still hV ?_;exact rfl
   ·intro vs W1 m1 hE hM hV hD;obtain ⟨⟨_,_,-,-,f46⟩,-⟩ := hD
    rw [(f46 : vs 46 = _)];clear f46;exact sLe
   ·intro vs W1 m1 hE hM hV hD;obtain ⟨⟨_,_,-,-,f45⟩,⟨_,_,-,-,f47⟩,-⟩ := hD
    rw [(f45 : vs 45 = _),(f47 : vs 47 = _)];clear f45 f47;exact sPw
   ·intro vs W1 m1 hE hM hV hD;clear hD
    exact sPw
   ·intro vs W1 m1 hE hM hV hD;obtain ⟨⟨_,_,-,-,f48⟩,⟨_,_,-,-,f49⟩,-⟩ := hD
    rw [(f48 : vs 48 = _),(f49 : vs 49 = _)]
    clear f48 f49
    go_wp2_with fail
    refine (i_wrap _ _ _ _ _ hV ((h1.toA lq).le leX)).mono ?_
    rintro e W2 ⟨v,m2,rfl,hE2,hM2,hV2,h⟩
    go_wp2_with fail
    refine One.call hE2 hM2 hV2 ?_;first | exact h | exact rfl
   ·intro vs W1 m1 hE hM hV hD;clear hD;replace hL := hL.call hE hM hV
    go_wp2_with (first | go_skip | refine tO ?_ | (refine tS ?_;clear hL;intro _ hL) | (refine tB ?_;clear hL;intro _ _ hL _))
    refine One.still hV ?_;exact rfl
   ·intro vs W1 m1 hE hM hV hD;obtain ⟨⟨_,_,-,-,f51⟩,-⟩ := hD
    rw [(f51 : vs 51 = _)];clear f51;exact sLe
   ·intro vs W1 m1 hE hM hV hD;clear hD
    exact sPw
   ·intro vs W1 m1 hE hM hV hD;obtain ⟨⟨_,_,-,-,f52⟩,⟨_,_,-,-,f53⟩,-,-⟩ := hD
    rw [(f52 : vs 52 = _),(f53 : vs 53 = _)]
    clear f52 f53
    go_wp2_with fail
    refine (i_wrap _ _ _ _ _ hV (h2.le leX)).mono ?_
    rintro e W2 ⟨v,m2,rfl,hE2,hM2,hV2,h⟩
    go_wp2_with fail
    refine One.call hE2 hM2 hV2 ?_;first | exact h | exact rfl
  intro vs W1 m1 hE hM hV hF hD
  clear hD
  obtain ⟨-,-,-,-,-,-,⟨_,_,-,i50,f50⟩,-,-,-,⟨_,_,-,i54,f54⟩,-⟩ := hF
  replace hL := hL.call hE hM hV
  replace f50 : IntC _ (vs 50) (sgn g1 (x.natAbs / y.natAbs)) := f50
  replace f50 := f50.le i50.le
  clear i50
  obtain ⟨g50,A50,n50,c50,e50,f50⟩ := f50.lit
  generalize vs 50 = x50 at e50 ⊢
  subst x50
  replace f54 : IntC _ (vs 54) (sgn false (x.natAbs % y.natAbs)) := f54
  replace f54 := f54.le i54.le
  clear i54
  obtain ⟨g54,A54,n54,c54,e54,f54⟩ := f54.lit
  generalize vs 54 = x54 at e54 ⊢
  subst x54
  clear hE hV
  simp only [List.drop_succ_cons,List.drop_zero]
  go_wp2_with (first | go_skip | refine tO ?_ | (refine tS ?_;clear hL;intro _ hL) | (refine tB ?_;clear hL;intro _ _ hL _))
  obtain ⟨p1,p2,_⟩ := (hL.at_ lo0).facts2
  obtain ⟨p3,p4,_⟩ := (hL.at_ lo1).facts2
  refine bodyPost_ret (v := .tuple #[.agg #[.bool g50,.slice A50 n50 c50],.agg #[.bool g54,.slice A54 n54 c54],.int .i64 0]) (by simp [results,Tryz.results157,go_sem,p1,p2,p3,p4]) rfl (RetV.mk hL ⟨_,_,rfl,?_,?_⟩)
  ·rw [← HF.out.1];exact f50
  ·rw [← HF.out.2];exact f54
 ·have t2 : decide (0 < nr) = true := by simp;omega
  have t3 : 0 < nr := by omega
  go_upto_region 8 with ((first | go_skip | refine tO ?_ | (refine tS ?_;clear hL;intro _ hL) | (refine tB ?_;clear hL;intro _ _ hL _)))
  have h1 := H1.out
  have h2 := LR.out
  refine wp_region_by 11 [false,false,false,false,false,false,false,false,false,false,false] [(fun v _ _ => v = ?c8_0b),(fun v _ _ => v = ?c8_1b),(fun v _ _ => v = ?c8_2b),(fun v _ _ => v = ?c8_3b),(fun v _ _ => v = ?c8_4b),(fun v _ _ => v = ?c8_5b),Of (fun um v => IntC um v (sgn false (x.natAbs / y.natAbs))),(fun v _ _ => v = ?c8_7b),(fun v _ _ => v = ?c8_8b),(fun v _ _ => v = ?c8_9b),Of (fun um v => IntC um v (sgn false (x.natAbs % y.natAbs)))] hL.vw mixed [44,45,46,47,48,49,50,51,52,53,54] _ (by kernel_rfl) (fun vs => by simp only [lay,Act.put,zq1,zq2,zq3];rfl) (by kernel_rfl) ?s8b ?r8b
  case s8b =>
   refine ⟨?_,?_,?_,?_,?_,?_,?_,?_,?_,?_,?_,trivial⟩
   ·intro vs W1 m1 hE hM hV hD;clear hD;replace hL := hL.call hE hM hV
    go_wp2_with (first | go_skip | refine tO ?_ | (refine tS ?_;clear hL;intro _ hL) | (refine tB ?_;clear hL;intro _ _ hL _))
    refine One.still hV ?_;exact rfl
   ·intro vs W1 m1 hE hM hV hD;obtain ⟨⟨_,_,-,-,f44⟩,-⟩ := hD
    rw [(f44 : vs 44 = _)];clear f44;exact sLe
   ·intro vs W1 m1 hE hM hV hD;clear hD;replace hL := hL.call hE hM hV
    go_wp2_with (first | go_skip | refine tO ?_ | (refine tS ?_;clear hL;intro _ hL) | (refine tB ?_;clear hL;intro _ _ hL _))
    refine One.still hV ?_;exact rfl
   ·intro vs W1 m1 hE hM hV hD;obtain ⟨⟨_,_,-,-,f46⟩,-⟩ := hD
    rw [(f46 : vs 46 = _)];clear f46;exact sLe
   ·intro vs W1 m1 hE hM hV hD;obtain ⟨⟨_,_,-,-,f45⟩,⟨_,_,-,-,f47⟩,-⟩ := hD
    rw [(f45 : vs 45 = _),(f47 : vs 47 = _)];clear f45 f47;exact sPw
   ·intro vs W1 m1 hE hM hV hD;clear hD
    exact sPw
   ·intro vs W1 m1 hE hM hV hD;obtain ⟨⟨_,_,-,-,f48⟩,⟨_,_,-,-,f49⟩,-⟩ := hD
    rw [(f48 : vs 48 = _),(f49 : vs 49 = _)]
    clear f48 f49
    go_wp2_with fail
    refine (i_wrap _ _ _ _ _ hV ((h1.toA lq).le leX)).mono ?_
    rintro e W2 ⟨v,m2,rfl,hE2,hM2,hV2,h⟩
    go_wp2_with fail
    refine One.call hE2 hM2 hV2 ?_;first | exact h | exact rfl
   ·intro vs W1 m1 hE hM hV hD;clear hD;replace hL := hL.call hE hM hV
    go_wp2_with (first | go_skip | refine tO ?_ | (refine tS ?_;clear hL;intro _ hL) | (refine tB ?_;clear hL;intro _ _ hL _))
    refine One.still hV ?_;exact rfl
   ·intro vs W1 m1 hE hM hV hD;obtain ⟨⟨_,_,-,-,f51⟩,-⟩ := hD
    rw [(f51 : vs 51 = _)];clear f51;exact sLe
   ·intro vs W1 m1 hE hM hV hD;clear hD
    exact sPw
   ·intro vs W1 m1 hE hM hV hD;obtain ⟨⟨_,_,-,-,f52⟩,⟨_,_,-,-,f53⟩,-,-⟩ := hD
    rw [(f52 : vs 52 = _),(f53 : vs 53 = _)]
    clear f52 f53
    go_wp2_with fail
    refine (i_wrap _ _ _ _ _ hV (h2.le leX)).mono ?_
    rintro e W2 ⟨v,m2,rfl,hE2,hM2,hV2,h⟩
    go_wp2_with fail
    refine One.call hE2 hM2 hV2 ?_;first | exact h | exact rfl
  intro vs W1 m1 hE hM hV hF hD
  clear hD
  obtain ⟨-,-,-,-,-,-,⟨_,_,-,i50,f50⟩,-,-,-,⟨_,_,-,i54,f54⟩,-⟩ := hF
  replace hL := hL.call hE hM hV
  replace f50 : IntC _ (vs 50) (sgn false (x.natAbs / y.natAbs)) := f50
  replace f50 := f50.le i50.le
  clear i50
  obtain ⟨g50,A50,n50,c50,e50,f50⟩ := f50.lit
  generalize vs 50 = x50 at e50 ⊢
  subst x50
  replace f54 : IntC _ (vs 54) (sgn false (x.natAbs % y.natAbs)) := f54
  replace f54 := f54.le i54.le
  clear i54
  obtain ⟨g54,A54,n54,c54,e54,f54⟩ := f54.lit
  generalize vs 54 = x54 at e54 ⊢
  subst x54
  clear hE hV
  simp only [List.drop_succ_cons,List.drop_zero]
  go_wp2_with (first | go_skip | refine tO ?_ | (refine tS ?_;clear hL;intro _ hL) | (refine tB ?_;clear hL;intro _ _ hL _))
  obtain ⟨p1,p2,_⟩ := (hL.at_ lo0).facts2
  obtain ⟨p3,p4,_⟩ := (hL.at_ lo1).facts2
  refine bodyPost_ret (v := .tuple #[.agg #[.bool g50,.slice A50 n50 c50],.agg #[.bool g54,.slice A54 n54 c54],.int .i64 0]) (by simp [results,Tryz.results157,go_sem,p1,p2,p3,p4]) rfl (RetV.mk hL ⟨_,_,rfl,?_,?_⟩)
  ·rw [← HF.out.1];exact f50
  ·rw [← HF.out.2];exact f54
end Go.Proofs.YtabmjadcoepbeaaGreat

/- Contracts of package rational: smallWord, smallParts. -/
namespace Go.Proofs.YtabmjadcoepbeaaGreat
open Go.RowKit

def IntS (m : World) (v : Value) (z : Int) : Prop := ∃ g A c ds,v = .agg #[.bool g,.slice A ds.length c] ∧ ds.length ≤ c ∧ Sl m A (ds.map U) ∧ Dg ds ∧ ds.length ≤ 1 ∧ z = sgn g (val ds)
theorem IntS.le {m m' : World} {v : Value} {z : Int} (h : IntS m v z) (hb : Le m m') : IntS m' v z := by
 obtain ⟨g,A,c,ds,e,hc,hs,r⟩ := h
 exact ⟨g,A,c,ds,e,hc,hs.le hb,r⟩
theorem IntS.toV {m : World} {v : Value} {z : Int} (h : IntS m v z) : IntV m v z := by
 obtain ⟨g,A,c,ds,e,hc,hs,hd,hl,hz⟩ := h
 exact ⟨g,A,c,ds,e,hc,hs,hd,by omega,hz⟩
theorem IntC.toS {m : World} {v : Value} {z : Int} (h : IntC m v z) (hz : z.natAbs < 4294967296) : IntS m v z := by
 obtain ⟨A,c,e,hc,hs⟩ := h
 refine ⟨_,A,c,digs z.natAbs,e,hc,hs,Dg_digs _,length_digs_le (k := 1) (by simpa using hz),?_⟩
 rw [val_digs,sgn_canon]
theorem IntS.parts' {m : World} {a b : Value} {z : Int} (h : IntS m (.agg #[a,b]) z) : ∃ g A n c,a = .bool g ∧ b = .slice A n c := by
 obtain ⟨g,A,c,ds,e,_⟩ := h
 simp only [Value.agg.injEq,Array.mk.injEq,List.cons.injEq,and_true] at e
 exact ⟨_,_,_,_,e.1,e.2⟩

theorem q_smallWord (v : Value) (z : Int) (w m : World) (hV : Vw m w) (h : IntS m v z) (hz : z.natAbs < 2147483648) :
  Calls Tryz.prog 216 #[v] w (RetV w m fun _ r => r = .tuple #[.int .i64 z,.bool true]) := by
 obtain ⟨g,A,c,ds,rfl,hc,hs,hd,hl,rfl⟩ := h
 have hL := Loc.start hV
 match ds,hl with
 | [],_ =>
  have E : Hid (sgn g (val []) = 0) := by show _ = _;cases g <;> rfl
  rw [E.out]
  simp only [List.length_nil] at *
  clear hV hz hs hc hd E
  go_enter Tryz.func216,Tryz.ntmps216
  go_wp2_with (first | go_skip | refine tO ?_ | (refine tB ?_;clear hL;intro _ _ hL _))
  go_ret2
  exact RetV.mk hL rfl
 | [d],_ =>
  have hv : val [d] = d := by simp [val]
  rw [hv] at hz ⊢
  have hd1 : d < 2147483648 := by rw [sgn_natAbs] at hz;exact hz
  obtain ⟨b,off,rfl,hb,hcell⟩ := hs.dig (k := 0) (by simp)
  simp only [List.length_cons,List.length_nil,Nat.zero_add,List.getD_cons_zero,Nat.add_zero] at *
  have hw1 : IntKind.i64.wrap (d : Int) = (d : Int) := by rw [IntKind.wrap_i64];omega
  have hw2 : IntKind.i64.wrap (-(d : Int)) = -(d : Int) := by rw [IntKind.wrap_i64];omega
  have hlt : decide ((d : Int) < 2147483648) = true := by simp;omega
  clear hV hz hs hc hd hv hd1
  cases g
  ·have e : Hid ((d : Int) = sgn false d) := rfl
   go_enter Tryz.func216,Tryz.ntmps216
   go_upto_region 1 with ((first | go_skip | refine tO ?_ | (refine tB ?_;clear hL;intro _ _ hL _)))
   have hq := hL.vw.cell _ _ ((Ext.le (by assumption)).cell _ _ hcell)
   go_wp2_with (first | go_skip | refine tO ?_ | (refine tB ?_;clear hL;intro _ _ hL _))
   go_ret2
   exact RetV.mk hL (congrArg (fun t => Value.tuple #[.int .i64 t,.bool true]) e.out)
  ·have e : Hid (-(d : Int) = sgn true d) := rfl
   go_enter Tryz.func216,Tryz.ntmps216
   go_upto_region 1 with ((first | go_skip | refine tO ?_ | (refine tB ?_;clear hL;intro _ _ hL _)))
   have hq := hL.vw.cell _ _ ((Ext.le (by assumption)).cell _ _ hcell)
   go_wp2_with (first | go_skip | refine tO ?_ | (refine tB ?_;clear hL;intro _ _ hL _))
   go_ret2
   exact RetV.mk hL (congrArg (fun t => Value.tuple #[.int .i64 t,.bool true]) e.out)

def FracS (m : World) (v : Value) (x y : Int) : Prop :=
 ∃ a b c d,v = .agg #[a,b,c,d] ∧ IntS m (.agg #[a,b]) x ∧ IntS m (.agg #[c,d]) y ∧ x.natAbs < 2147483648 ∧ y.natAbs < 2147483648
theorem FracS.le {m m' : World} {v : Value} {x y : Int} (h : FracS m v x y) (hb : Le m m') : FracS m' v x y := by
 obtain ⟨a,b,c,d,e,h1,h2,r⟩ := h
 exact ⟨a,b,c,d,e,h1.le hb,h2.le hb,r⟩
def pN (x y : Int) : Int := if y = 0 then 0 else if y < 0 then -x else x
def pD (y : Int) : Int := if y = 0 then 1 else if y < 0 then -y else y
theorem IntC.parts' {m : World} {a b : Value} {z : Int} (h : IntC m (.agg #[a,b]) z) : ∃ g A n c,a = .bool g ∧ b = .slice A n c := by
 obtain ⟨A,c,e,_⟩ := h
 simp only [Value.agg.injEq,Array.mk.injEq,List.cons.injEq,and_true] at e
 exact ⟨_,_,_,_,e.1,e.2⟩
theorem zc_words : zc Tryz.prog 184 = some #[.int .i64 0,.int .i64 0] := by kernel_rfl
instance iQ1_1 : ZcC Tryz.prog 184 #[.int .i64 0,.int .i64 0] := ⟨zc_words⟩
theorem ag_words : agS Tryz.prog 184 = some 2 := by kernel_rfl
instance iQ1_2 : AgC Tryz.prog 184 2 := ⟨ag_words⟩

theorem q_smallParts (v : Value) (x y : Int) (w m : World) (hV : Vw m w) (h : FracS m v x y) :
  Calls Tryz.prog 153 #[v] w (RetV w m fun _ r => r = .tuple #[.agg #[.int .i64 (pN x y),.int .i64 (pD y)],.bool true]) := by
 obtain ⟨_,_,_,_,rfl,hx,hy,lx,ly⟩ := h
 obtain ⟨g1,A1,n1,c1,rfl,rfl⟩ := hx.parts'
 obtain ⟨g2,A2,n2,c2,rfl,rfl⟩ := hy.parts'
 have hL := Loc.start hV
 clear hV
 go_enter Tryz.func153,Tryz.ntmps153
 go_wp2_with (first | go_skip | refine tO ?_ | (refine tS ?_;clear hL;intro _ hL) | (refine tB ?_;clear hL;intro _ _ hL _))
 refine (q_smallWord _ y _ _ hL.vw (hy.le leX) ly).mono ?_
 rintro e W1 ⟨_,m1,rfl,hE,hM1,hV,rfl⟩
 replace hL := hL.call hE (by assumption) hV;clear hE hV
 go_wp2_with (first | go_skip | refine tO ?_ | (refine tS ?_;clear hL;intro _ hL) | (refine tB ?_;clear hL;intro _ _ hL _))
 refine (q_smallWord _ x _ _ hL.vw (hx.le leX) lx).mono ?_
 rintro e W2 ⟨_,m2,rfl,hE,hM2,hV,rfl⟩
 replace hL := hL.call hE (by assumption) hV;clear hE hV
 by_cases h0 : y = 0
 ·subst h0
  have E1 : Hid (pN x 0 = 0) := by show _ = _;simp [pN]
  have E2 : Hid (pD 0 = 1) := by show _ = _;simp [pD]
  go_wp2_with (first | go_skip | refine tO ?_ | (refine tS ?_;clear hL;intro _ hL) | (refine tB ?_;clear hL;intro _ _ hL _))
  obtain ⟨p1,p2,_⟩ := (hL.at_ lo0).facts2
  refine bodyPost_ret (v := .tuple #[.agg #[.int .i64 0,.int .i64 1],.bool true]) (by simp [results,Tryz.results153,go_sem,p1,p2]) rfl (RetV.mk hL ?_)
  rw [E1.out,E2.out]
 ·have t0 : (y == 0) = false := by simp [h0]
  by_cases hn : y < 0
  ·have E1 : Hid (pN x y = -x) := by show _ = _;simp [pN,h0,hn]
   have E2 : Hid (pD y = -y) := by show _ = _;simp [pD,h0,hn]
   have hw1 : IntKind.i64.wrap (-x) = -x := by rw [IntKind.wrap_i64];omega
   have hw2 : IntKind.i64.wrap (-y) = -y := by rw [IntKind.wrap_i64];omega
   go_wp2_with (first | go_skip | refine tO ?_ | (refine tS ?_;clear hL;intro _ hL) | (refine tB ?_;clear hL;intro _ _ hL _))
   obtain ⟨p1,p2,_⟩ := (hL.at_ lo0).facts2
   refine bodyPost_ret (v := .tuple #[.agg #[.int .i64 (-x),.int .i64 (-y)],.bool true]) (by simp [results,Tryz.results153,go_sem,p1,p2]) rfl (RetV.mk hL ?_)
   rw [E1.out,E2.out]
  ·have E1 : Hid (pN x y = x) := by show _ = _;simp [pN,h0,hn]
   have E2 : Hid (pD y = y) := by show _ = _;simp [pD,h0,hn]
   go_wp2_with (first | go_skip | refine tO ?_ | (refine tS ?_;clear hL;intro _ hL) | (refine tB ?_;clear hL;intro _ _ hL _))
   obtain ⟨p1,p2,_⟩ := (hL.at_ lo0).facts2
   refine bodyPost_ret (v := .tuple #[.agg #[.int .i64 x,.int .i64 y],.bool true]) (by simp [results,Tryz.results153,go_sem,p1,p2]) rfl (RetV.mk hL ?_)
   rw [E1.out,E2.out]
end Go.Proofs.YtabmjadcoepbeaaGreat

/- Contracts of package rational: small, fromWords. -/
namespace Go.Proofs.YtabmjadcoepbeaaGreat
open Go.RowKit

theorem q_small (a b : Value) (x y x' y' : Int) (w m : World) (hV : Vw m w) (ha : FracS m a x y) (hb : FracS m b x' y') :
  Calls Tryz.prog 101 #[a,b] w (RetV w m fun _ r => r = .tuple #[.agg #[.int .i64 (pN x y),.int .i64 (pD y)],.agg #[.int .i64 (pN x' y'),.int .i64 (pD y')],.bool true]) := by
 have ha' := ha
 have hb' := hb
 obtain ⟨_,_,_,_,rfl,h1,h2,-,-⟩ := ha'
 obtain ⟨g1,A1,n1,c1,rfl,rfl⟩ := h1.parts'
 obtain ⟨g2,A2,n2,c2,rfl,rfl⟩ := h2.parts'
 obtain ⟨_,_,_,_,rfl,h3,h4,-,-⟩ := hb'
 obtain ⟨g3,A3,n3,c3,rfl,rfl⟩ := h3.parts'
 obtain ⟨g4,A4,n4,c4,rfl,rfl⟩ := h4.parts'
 have hL := Loc.start hV
 clear hV h1 h2 h3 h4
 go_enter Tryz.func101,Tryz.ntmps101
 go_upto_region 0 with (fail)
 refine wp_region_lit ?_
 refine t_box hL rfl rfl ?_;clear hL;intro W2 m2 hL e2;simp only [Act.put,zq1,zq2,zq3]
 refine t_box hL rfl rfl ?_;clear hL;intro W3 m3 hL e3;simp only [Act.put,zq1,zq2,zq3]
 refine t_alloc hL rfl ?_;clear hL;intro W4 m4 hL e4;simp only [Act.put,zq1,zq2,zq3]
 refine t_alloc hL rfl ?_;clear hL;intro W5 m5 hL e5;simp only [Act.put,zq1,zq2,zq3]
 go_wp2_with (first | go_skip | refine tO ?_ | (refine tS ?_;clear hL;intro _ hL) | (refine tB ?_;clear hL;intro _ _ hL _))
 refine (q_smallParts _ x y _ _ hL.vw (ha.le leX)).mono ?_
 rintro e W11 ⟨_,m11,rfl,hE,hM11,hV,rfl⟩
 replace hL := hL.call hE (by assumption) hV;clear hE hV
 go_wp2_with (first | go_skip | refine tO ?_ | (refine tS ?_;clear hL;intro _ hL) | (refine tB ?_;clear hL;intro _ _ hL _))
 refine (q_smallParts _ x' y' _ _ hL.vw (hb.le leX)).mono ?_
 rintro e W12 ⟨_,m12,rfl,hE,hM12,hV,rfl⟩
 replace hL := hL.call hE (by assumption) hV;clear hE hV
 go_upto_region 5 with ((first | go_skip | refine tO ?_ | (refine tS ?_;clear hL;intro _ hL) | (refine tB ?_;clear hL;intro _ _ hL _)))
 have B0 := hL.at_ lo0
 have B1 := hL.at_ lo1
 obtain ⟨q1,q2,q3,q4⟩ := B0.facts2
 obtain ⟨q5,q6,q7,q8⟩ := B1.facts2
 obtain ⟨n1,n2⟩ := hL.ne lo0 lo1 (by omega)
 go_region_held3 (fun w' => w'.cell? ⟨W4.heap.size,0,none⟩ = some (.int .i64 (pN x' y')) ∧ w'.cell? ⟨W4.heap.size,1,none⟩ = some (.int .i64 (pD y')) ∧ w'.cell? ⟨W3.heap.size,0,none⟩ = some (.int .i64 (pN x y)) ∧ w'.cell? ⟨W3.heap.size,1,none⟩ = some (.int .i64 (pD y)))
  ((first
   | (have X1 := (B1.set2 (.int .i64 (pN x y)) (.int .i64 (pD y))).drew.facts2;have X0 := (B0.far2 n1 (.int .i64 (pN x y)) (.int .i64 (pD y))).drew.facts2;exact ⟨X0.1,X0.2.1,X1.1,X1.2.1⟩)
   | (have X1 := ((B1.set2 (.int .i64 (pN x y)) (.int .i64 (pD y))).far2 n2 (.int .i64 (pN x' y')) (.int .i64 (pD y'))).drew.facts2;have X0 := ((B0.far2 n1 (.int .i64 (pN x y)) (.int .i64 (pD y))).set2 (.int .i64 (pN x' y')) (.int .i64 (pD y'))).drew.facts2;exact ⟨X0.1,X0.2.1,X1.1,X1.2.1⟩)
   | go_keep)) (fail)
 go_wp2_with fail
 refine bodyPost_ret (v := .tuple #[.agg #[.int .i64 (pN x y),.int .i64 (pD y)],.agg #[.int .i64 (pN x' y'),.int .i64 (pD y')],.bool true]) (by have X1 := ((B1.set2 (.int .i64 (pN x y)) (.int .i64 (pD y))).far2 n2 (.int .i64 (pN x' y')) (.int .i64 (pD y'))).facts2;have X0 := ((B0.far2 n1 (.int .i64 (pN x y)) (.int .i64 (pD y))).set2 (.int .i64 (pN x' y')) (.int .i64 (pD y'))).facts2;obtain ⟨y1,y2,_⟩ := X0;obtain ⟨y3,y4,_⟩ := X1;simp [results,Tryz.results101,go_sem,y1,y2,y3,y4]) rfl (RetV.mk ((hL.drew.store lo1 0 [.int .i64 (pN x y),.int .i64 (pD y)]).store lo0 0 [.int .i64 (pN x' y'),.int .i64 (pD y')]) rfl)
end Go.Proofs.YtabmjadcoepbeaaGreat

/- Contract of rational.fromWords. -/
namespace Go.Proofs.YtabmjadcoepbeaaGreat
open Go.RowKit

theorem i_FromInt64' (z z' : Int) (w m : World) (hV : Vw m w) (hz : z = z') (h1 : -9223372036854775808 ≤ z') (h2 : z' ≤ 9223372036854775807) : Calls Tryz.prog 80 #[.int .i64 z] w (RetV w m fun m' r => IntC m' r z') := by
 subst hz;exact i_FromInt64 z w m hV h1 h2

theorem w64_eq (z : Int) : wrap64 z = IntKind.i64.wrap z := by first | rfl | (rw [IntKind.wrap_i64];unfold wrap64;first | rfl | omega)
theorem quo_le (n : Int) (q : Nat) : (n / (q : Int)).natAbs ≤ n.natAbs := Int.natAbs_ediv_le_natAbs _ _
theorem quo_bd (n : Int) (q : Nat) (hb : n.natAbs ≤ 4611686018427387904) : -9223372036854775808 ≤ n / (q : Int) ∧ n / (q : Int) ≤ 9223372036854775807 := by
 have := quo_le n q
 generalize n / (q : Int) = z at *
 omega
theorem quo_eq {n : Int} {q : Nat} (hq : (q : Int) ∣ n) (hb : n.natAbs ≤ 4611686018427387904) : IntKind.i64.wrap (n.tdiv q) = n / (q : Int) := by
 rw [Int.tdiv_eq_ediv_of_dvd hq,IntKind.wrap_i64]
 have := quo_bd n q hb
 generalize n / (q : Int) = z at *
 omega
theorem quo_call (n : Int) (q : Nat) (hq : (q : Int) ∣ n) (hb : n.natAbs ≤ 4611686018427387904) : ∀ (z : Int) (w m : World),Vw m w → (z = wrap64 (n.tdiv q) ∨ z = wrap64 (n / (q : Int)) ∨ z = n / (q : Int)) →
  Calls Tryz.prog 80 #[.int .i64 z] w (RetV w m fun m' r => IntC m' r (n / (q : Int))) := by
 intro z w m hV hz
 have hb' := quo_bd n q hb
 refine i_FromInt64' z (n / (q : Int)) w m hV ?_ hb'.1 hb'.2
 rcases hz with hz | hz | hz
 ·rw [hz,w64_eq];exact quo_eq hq hb
 ·rw [hz,w64_eq]
  have := quo_eq hq hb
  rw [Int.tdiv_eq_ediv_of_dvd hq] at this
  exact this
 ·exact hz
theorem q_fromWords (n d : Int) (w m : World) (hV : Vw m w) (hd : 0 < d) (h1 : n.natAbs ≤ 4611686018427387904) (h2 : d ≤ 4611686018427387904) :
  Calls Tryz.prog 102 #[.int .i64 n,.int .i64 d] w (RetV w m fun m' r => FracC m' r (Rat.divInt n d)) := by
 have HQ := Lib.hid (frac_pos (x := n) hd)
 obtain ⟨D,rfl⟩ : ∃ D : Nat,d = D := ⟨d.natAbs,by omega⟩
 have hL := Loc.start hV
 clear hV
 have H1 := Lib.hid h1
 have H2 := Lib.hid h2
 by_cases hn : n < 0
 ·obtain ⟨N,hN⟩ : ∃ N : Nat,n = -(N : Int) := ⟨n.natAbs,by omega⟩
  have hw : IntKind.i64.wrap (-n) = (N : Int) := by rw [hN,IntKind.wrap_i64];omega
  have HN : Hid (N = n.natAbs) := by show _ = _;omega
  clear hN h1 h2
  have hd' : 0 < D := by omega
  go_enter Tryz.func102,Tryz.ntmps102
  go_wp2_with (first | go_skip | refine tO ?_ | (refine tS ?_;clear hL;intro _ hL) | (refine tB ?_;clear hL;intro _ _ hL _))
  go_loop [5,6] (fun s5 s6 => ∃ p q : Nat,s5 = .int .i64 p ∧ s6 = .int .i64 q ∧ 0 < q ∧ Hid (Nat.gcd p q = Nat.gcd n.natAbs D)) (fun s5 _ => (intOf s5).toNat)
  case atStart => exact ⟨N,D,rfl,rfl,by omega,by show _ = _;exact congrArg (fun t => Nat.gcd t D) HN.out⟩
  case round =>
   obtain ⟨p,q,rfl,rfl,hq,hg⟩ := hrel
   by_cases h0 : p = 0
   ·subst h0
    have hG := hg.out
    rw [Nat.gcd_zero_left] at hG
    have HG := Lib.hid hG
    clear hG hg
    have hq0 : ¬ (q : Int) = 0 := by omega
    have hdv1 : (q : Int) ∣ n := by rw [HG.out];exact Int.ofNat_dvd_left.2 (Nat.gcd_dvd_left _ _)
    have hdv2 : (q : Int) ∣ (D : Int) := by rw [HG.out];exact Int.natCast_dvd_natCast.2 (Nat.gcd_dvd_right _ _)
    have K1 := Lib.hid (quo_call _ q hdv1 H1.out)
    have K2 := Lib.hid (quo_call (D : Int) q hdv2 (by have := H2.out;omega))
    clear hdv1 hdv2 H1 H2
    go_upto_region 6 with ((first | go_skip | refine tO ?_ | (refine tS ?_;clear hL;intro _ hL) | (refine tB ?_;clear hL;intro _ _ hL _)))
    (try simp only [eq_self] at *)
    refine wp_region_by 8 [false,false,false,false,false,false,false,false] [(fun v _ _ => v = ?c6_0a),(fun v _ _ => v = ?c6_1a),(fun v _ _ => v = ?c6_2a),Of (fun um v => IntC um v (n / (q : Int))),(fun v _ _ => v = ?c6_4a),(fun v _ _ => v = ?c6_5a),(fun v _ _ => v = ?c6_6a),Of (fun um v => IntC um v ((D : Int) / (q : Int)))] hL.vw mixed [19,20,21,22,23,24,25,26] _ (by kernel_rfl) (fun vs => by simp only [lay,Act.put,zq1,zq2,zq3];rfl) (by kernel_rfl) ?s6a ?r6a
    case s6a =>
     refine ⟨?_,?_,?_,?_,?_,?_,?_,?_,trivial⟩
     ·intro vs W1 m1 hE hM hV hD;clear hD
      exact sPw
     ·intro vs W1 m1 hE hM hV hD;clear hD
      exact sPw
     ·intro vs W1 m1 hE hM hV hD;obtain ⟨⟨_,_,-,-,f19⟩,⟨_,_,-,-,f20⟩,-⟩ := hD
      rw [(f19 : vs 19 = _),(f20 : vs 20 = _)];clear f19 f20;exact sPw
     ·intro vs W1 m1 hE hM hV hD;obtain ⟨⟨_,_,-,-,f21⟩,-⟩ := hD
      rw [(f21 : vs 21 = _)]
      clear f21
      go_wp2_with fail
      refine (K1.out _ _ _ hV (by first | with_reducible exact .inl rfl | with_reducible exact .inr (.inl rfl) | with_reducible exact .inr (.inr rfl))).mono ?_
      rintro e W2 ⟨v,m2,rfl,hE2,hM2,hV2,h⟩
      go_wp2_with fail
      refine One.call hE2 hM2 hV2 ?_;first | exact h | exact rfl
     ·intro vs W1 m1 hE hM hV hD;clear hD
      exact sPw
     ·intro vs W1 m1 hE hM hV hD;clear hD
      exact sPw
     ·intro vs W1 m1 hE hM hV hD;obtain ⟨⟨_,_,-,-,f23⟩,⟨_,_,-,-,f24⟩,-⟩ := hD
      rw [(f23 : vs 23 = _),(f24 : vs 24 = _)];clear f23 f24;exact sPw
     ·intro vs W1 m1 hE hM hV hD;obtain ⟨⟨_,_,-,-,f25⟩,-,-⟩ := hD
      rw [(f25 : vs 25 = _)]
      clear f25
      go_wp2_with fail
      refine (K2.out _ _ _ hV (by first | with_reducible exact .inl rfl | with_reducible exact .inr (.inl rfl) | with_reducible exact .inr (.inr rfl))).mono ?_
      rintro e W2 ⟨v,m2,rfl,hE2,hM2,hV2,h⟩
      go_wp2_with fail
      refine One.call hE2 hM2 hV2 ?_;first | exact h | exact rfl
    intro vs W1 m1 hE hM hV hF hD
    clear hD
    obtain ⟨-,-,-,⟨_,_,-,i22,f22⟩,-,-,-,⟨_,_,-,i26,f26⟩,-⟩ := hF
    replace hL := hL.call hE hM hV
    replace f22 : IntC _ (vs 22) (n / (q : Int)) := f22
    replace f22 := f22.le i22.le
    clear i22
    obtain ⟨g22,A22,n22,c22,e22,f22⟩ := f22.lit
    generalize vs 22 = x22 at e22 ⊢
    subst x22
    replace f26 : IntC _ (vs 26) ((D : Int) / (q : Int)) := f26
    replace f26 := f26.le i26.le
    clear i26
    obtain ⟨g26,A26,n26,c26,e26,f26⟩ := f26.lit
    generalize vs 26 = x26 at e26 ⊢
    subst x26
    clear hE hV
    simp only [List.drop_succ_cons,List.drop_zero]
    go_wp2_with (first | go_skip | refine tO ?_ | (refine tS ?_;clear hL;intro _ hL) | (refine tB ?_;clear hL;intro _ _ hL _))
    refine fin_agg hL Tryz.results102 rfl rfl loX AgC.h (by exact rfl) ?_
    have e := HQ.out
    rw [show Int.gcd n (D : Int) = q from HG.out.symm] at e
    exact ⟨_,_,_,_,rfl,by rw [e.1];exact f22,by rw [e.2];exact f26⟩
   ·have h1 : ((p : Int) != 0) = true := by simp [h0]
    have h2 : ¬ (p : Int) = 0 := by omega
    go_wp2_with (first | go_skip | refine tO ?_ | (refine tS ?_;clear hL;intro _ hL) | (refine tB ?_;clear hL;intro _ _ hL _))
    have e : ((q : Int) % (p : Int)) = ((q % p : Nat) : Int) := by simp
    refine ⟨⟨q % p,p,by rw [e],rfl,by omega,?_⟩,?_⟩
    ·show Nat.gcd (q % p) p = _
     rw [← hg.out,← Nat.gcd_rec]
    ·rw [e]
     have := Nat.mod_lt q (show p > 0 by omega)
     simp [intOf];omega
 ·obtain ⟨N,rfl⟩ : ∃ N : Nat,n = (N : Int) := ⟨n.natAbs,by omega⟩
  have HN : Hid (N = (N : Int).natAbs) := by show _ = _;omega
  clear h1 h2
  have hd' : 0 < D := by omega
  go_enter Tryz.func102,Tryz.ntmps102
  go_wp2_with (first | go_skip | refine tO ?_ | (refine tS ?_;clear hL;intro _ hL) | (refine tB ?_;clear hL;intro _ _ hL _))
  go_loop [5,6] (fun s5 s6 => ∃ p q : Nat,s5 = .int .i64 p ∧ s6 = .int .i64 q ∧ 0 < q ∧ Hid (Nat.gcd p q = Nat.gcd (N : Int).natAbs D)) (fun s5 _ => (intOf s5).toNat)
  case atStart => exact ⟨N,D,rfl,rfl,by omega,by show _ = _;exact congrArg (fun t => Nat.gcd t D) HN.out⟩
  case round =>
   obtain ⟨p,q,rfl,rfl,hq,hg⟩ := hrel
   by_cases h0 : p = 0
   ·subst h0
    have hG := hg.out
    rw [Nat.gcd_zero_left] at hG
    have HG := Lib.hid hG
    clear hG hg
    have hq0 : ¬ (q : Int) = 0 := by omega
    have hdv1 : (q : Int) ∣ (N : Int) := by rw [HG.out];exact Int.ofNat_dvd_left.2 (Nat.gcd_dvd_left _ _)
    have hdv2 : (q : Int) ∣ (D : Int) := by rw [HG.out];exact Int.natCast_dvd_natCast.2 (Nat.gcd_dvd_right _ _)
    have K1 := Lib.hid (quo_call _ q hdv1 H1.out)
    have K2 := Lib.hid (quo_call (D : Int) q hdv2 (by have := H2.out;omega))
    clear hdv1 hdv2 H1 H2
    go_upto_region 6 with ((first | go_skip | refine tO ?_ | (refine tS ?_;clear hL;intro _ hL) | (refine tB ?_;clear hL;intro _ _ hL _)))
    (try simp only [eq_self] at *)
    refine wp_region_by 8 [false,false,false,false,false,false,false,false] [(fun v _ _ => v = ?c6_0b),(fun v _ _ => v = ?c6_1b),(fun v _ _ => v = ?c6_2b),Of (fun um v => IntC um v ((N : Int) / (q : Int))),(fun v _ _ => v = ?c6_4b),(fun v _ _ => v = ?c6_5b),(fun v _ _ => v = ?c6_6b),Of (fun um v => IntC um v ((D : Int) / (q : Int)))] hL.vw mixed [19,20,21,22,23,24,25,26] _ (by kernel_rfl) (fun vs => by simp only [lay,Act.put,zq1,zq2,zq3];rfl) (by kernel_rfl) ?s6b ?r6b
    case s6b =>
     refine ⟨?_,?_,?_,?_,?_,?_,?_,?_,trivial⟩
     ·intro vs W1 m1 hE hM hV hD;clear hD
      exact sPw
     ·intro vs W1 m1 hE hM hV hD;clear hD
      exact sPw
     ·intro vs W1 m1 hE hM hV hD;obtain ⟨⟨_,_,-,-,f19⟩,⟨_,_,-,-,f20⟩,-⟩ := hD
      rw [(f19 : vs 19 = _),(f20 : vs 20 = _)];clear f19 f20;exact sPw
     ·intro vs W1 m1 hE hM hV hD;obtain ⟨⟨_,_,-,-,f21⟩,-⟩ := hD
      rw [(f21 : vs 21 = _)]
      clear f21
      go_wp2_with fail
      refine (K1.out _ _ _ hV (by first | with_reducible exact .inl rfl | with_reducible exact .inr (.inl rfl) | with_reducible exact .inr (.inr rfl))).mono ?_
      rintro e W2 ⟨v,m2,rfl,hE2,hM2,hV2,h⟩
      go_wp2_with fail
      refine One.call hE2 hM2 hV2 ?_;first | exact h | exact rfl
     ·intro vs W1 m1 hE hM hV hD;clear hD
      exact sPw
     ·intro vs W1 m1 hE hM hV hD;clear hD
      exact sPw
     ·intro vs W1 m1 hE hM hV hD;obtain ⟨⟨_,_,-,-,f23⟩,⟨_,_,-,-,f24⟩,-⟩ := hD
      rw [(f23 : vs 23 = _),(f24 : vs 24 = _)];clear f23 f24;exact sPw
     ·intro vs W1 m1 hE hM hV hD;obtain ⟨⟨_,_,-,-,f25⟩,-,-⟩ := hD
      rw [(f25 : vs 25 = _)]
      clear f25
      go_wp2_with fail
      refine (K2.out _ _ _ hV (by first | with_reducible exact .inl rfl | with_reducible exact .inr (.inl rfl) | with_reducible exact .inr (.inr rfl))).mono ?_
      rintro e W2 ⟨v,m2,rfl,hE2,hM2,hV2,h⟩
      go_wp2_with fail
      refine One.call hE2 hM2 hV2 ?_;first | exact h | exact rfl
    intro vs W1 m1 hE hM hV hF hD
    clear hD
    obtain ⟨-,-,-,⟨_,_,-,i22,f22⟩,-,-,-,⟨_,_,-,i26,f26⟩,-⟩ := hF
    replace hL := hL.call hE hM hV
    replace f22 : IntC _ (vs 22) ((N : Int) / (q : Int)) := f22
    replace f22 := f22.le i22.le
    clear i22
    obtain ⟨g22,A22,n22,c22,e22,f22⟩ := f22.lit
    generalize vs 22 = x22 at e22 ⊢
    subst x22
    replace f26 : IntC _ (vs 26) ((D : Int) / (q : Int)) := f26
    replace f26 := f26.le i26.le
    clear i26
    obtain ⟨g26,A26,n26,c26,e26,f26⟩ := f26.lit
    generalize vs 26 = x26 at e26 ⊢
    subst x26
    clear hE hV
    simp only [List.drop_succ_cons,List.drop_zero]
    go_wp2_with (first | go_skip | refine tO ?_ | (refine tS ?_;clear hL;intro _ hL) | (refine tB ?_;clear hL;intro _ _ hL _))
    refine fin_agg hL Tryz.results102 rfl rfl loX AgC.h (by exact rfl) ?_
    have e := HQ.out
    rw [show Int.gcd (N : Int) (D : Int) = q from HG.out.symm] at e
    exact ⟨_,_,_,_,rfl,by rw [e.1];exact f22,by rw [e.2];exact f26⟩
   ·have h1 : ((p : Int) != 0) = true := by simp [h0]
    have h2 : ¬ (p : Int) = 0 := by omega
    go_wp2_with (first | go_skip | refine tO ?_ | (refine tS ?_;clear hL;intro _ hL) | (refine tB ?_;clear hL;intro _ _ hL _))
    have e : ((q : Int) % (p : Int)) = ((q % p : Nat) : Int) := by simp
    refine ⟨⟨q % p,p,by rw [e],rfl,by omega,?_⟩,?_⟩
    ·show Nat.gcd (q % p) p = _
     rw [← hg.out,← Nat.gcd_rec]
    ·rw [e]
     have := Nat.mod_lt q (show p > 0 by omega)
     simp [intOf];omega
end Go.Proofs.YtabmjadcoepbeaaGreat

/- Contracts of package rational for small fractions: Add, Mul. -/
namespace Go.Proofs.YtabmjadcoepbeaaGreat
open Go.RowKit

theorem lf_i64 : lfB Tryz.prog 2 = true := by kernel_rfl
instance iQ4_1 : LfC Tryz.prog 2 := ⟨lf_i64⟩
def Sm (x y : Int) : Prop := x.natAbs < 1073741824 ∧ y.natAbs < 1073741824
theorem pN_spec {x y : Int} (h : Sm x y) : (pN x y).natAbs < 1073741824 ∧ 0 < pD y ∧ (pD y).natAbs < 1073741824 ∧ Rat.divInt (pN x y) (pD y) = Rat.divInt x y := by
 obtain ⟨h1,h2⟩ := h
 unfold pN pD
 by_cases h0 : y = 0
 ·subst h0;simp
 ·by_cases hn : y < 0
  ·simp only [h0,hn,if_false,if_true]
   exact ⟨by omega,by omega,by omega,Rat.neg_divInt_neg x y⟩
  ·simp only [h0,hn,if_false]
   exact ⟨by omega,by omega,by omega,trivial⟩
theorem prod_bd {a b : Int} (ha : a.natAbs < 1073741824) (hb : b.natAbs < 1073741824) : (a * b).natAbs < 1152921504606846976 := by
 rw [Int.natAbs_mul]
 exact Nat.lt_of_lt_of_le (Nat.mul_lt_mul'' ha hb) (by decide)
theorem w64_of {z : Int} (h : z.natAbs < 4611686018427387904) : wrap64 z = z := by unfold wrap64;omega

theorem q_Add (a b : Value) (x y x' y' : Int) (w m : World) (hV : Vw m w) (ha : FracS m a x y) (hb : FracS m b x' y') (hs : Sm x y) (hs' : Sm x' y') :
  Calls Tryz.prog 71 #[a,b] w (RetV w m fun m' r => FracC m' r (Rat.divInt x y + Rat.divInt x' y')) := by
 have ha' := ha
 have hb' := hb
 obtain ⟨_,_,_,_,rfl,h1,h2,-,-⟩ := ha'
 obtain ⟨g1,A1,n1,c1,rfl,rfl⟩ := h1.parts'
 obtain ⟨g2,A2,n2,c2,rfl,rfl⟩ := h2.parts'
 obtain ⟨_,_,_,_,rfl,h3,h4,-,-⟩ := hb'
 obtain ⟨g3,A3,n3,c3,rfl,rfl⟩ := h3.parts'
 obtain ⟨g4,A4,n4,c4,rfl,rfl⟩ := h4.parts'
 obtain ⟨u1,u2,u3,u4⟩ := pN_spec hs
 obtain ⟨v1,v2,v3,v4⟩ := pN_spec hs'
 have E : Hid (Rat.divInt (pN x y * pD y' + pN x' y' * pD y) (pD y * pD y') = Rat.divInt x y + Rat.divInt x' y') := by
  show _ = _;rw [← u4,← v4,Rat.divInt_add_divInt _ _ (by omega) (by omega)]
 have K : Hid (∀ w m,Vw m w → Calls Tryz.prog 102 #[.int .i64 (pN x y * pD y' + pN x' y' * pD y),.int .i64 (pD y * pD y')] w (RetV w m fun m' r => FracC m' r (Rat.divInt x y + Rat.divInt x' y'))) := by
  show ∀ w m,_
  intro w m hV
  rw [← E.out]
  exact q_fromWords _ _ w m hV (Int.mul_pos u2 v2) (by have := prod_bd u1 v3;have := prod_bd v1 u3;omega) (by have := prod_bd u3 v3;omega)
 have w1 := w64_of (z := pN x y * pD y' + pN x' y' * pD y) (by have := prod_bd u1 v3;have := prod_bd v1 u3;omega)
 have w3 := w64_of (z := pN x y * pD y') (by have := prod_bd u1 v3;omega)
 have w4 := w64_of (z := pN x' y' * pD y) (by have := prod_bd v1 u3;omega)
 have w2 := w64_of (z := pD y * pD y') (by have := prod_bd u3 v3;omega)
 have hL := Loc.start hV
 clear hV h1 h2 h3 h4 u1 u2 u3 u4 v1 v2 v3 v4 E hs hs'
 go_enter Tryz.func71,Tryz.ntmps71
 go_wp2_with (first | go_skip | refine tO ?_ | (refine tS ?_;clear hL;intro _ hL) | (refine tB ?_;clear hL;intro _ _ hL _))
 refine (q_small _ _ x y x' y' _ _ hL.vw (ha.le leX) (hb.le leX)).mono ?_
 rintro e W1 ⟨_,m1,rfl,hE,hM1,hV,rfl⟩
 replace hL := hL.call hE (by assumption) hV;clear hE hV
 generalize pN x y = P1 at *
 generalize pD y = P2 at *
 generalize pN x' y' = P3 at *
 generalize pD y' = P4 at *
 go_wp2_with (first | go_skip | refine tO ?_ | (refine tS ?_;clear hL;intro _ hL) | (refine tB ?_;clear hL;intro _ _ hL _))
 refine (K.out _ _ hL.vw).mono ?_
 rintro e W2 ⟨v2,m2,rfl,hE,hM2,hV,h2⟩
 replace hL := hL.call hE (by assumption) hV;clear hE hV
 obtain ⟨g2',A2',n2',c2',h2',B2',k2',d2',rfl,h2⟩ := h2.lit
 go_wp2_with (first | go_skip | refine tO ?_ | (refine tS ?_;clear hL;intro _ hL) | (refine tB ?_;clear hL;intro _ _ hL _))
 refine fin_agg hL Tryz.results71 rfl rfl loX AgC.h (by exact rfl) ?_
 exact h2
end Go.Proofs.YtabmjadcoepbeaaGreat

/- Contracts of package rational: reduce, New, FromInts (positive denominator, numbers below 2^63). -/
namespace Go.Proofs.YtabmjadcoepbeaaGreat
open Go.RowKit

theorem q_reduce (a b : Value) (x y : Int) (w m : World) (hV : Vw m w) (hn : IntV m a x) (hd : IntV m b y) (hx : x.natAbs < 18446744073709551616) (hy : y.natAbs < 18446744073709551616) (hy' : 0 < y) :
  Calls Tryz.prog 105 #[a,b] w (RetV w m fun m' r => FracC m' r (Rat.divInt x y)) := by
 obtain ⟨na,A,la,ca,rfl⟩ := hn.lit
 obtain ⟨nb,B',lb,cb,rfl⟩ := hd.lit
 have lx := hn.length
 have ly := hd.length
 have HX := Lib.hid hx
 have HY := Lib.hid hy
 clear hx hy
 have hL := Loc.start hV
 clear hV
 go_enter Tryz.func105,Tryz.ntmps105
 go_wp2_with (first | go_skip | refine tO ?_ | (refine tS ?_;clear hL;intro _ hL) | (refine tB ?_;clear hL;intro _ _ hL _))
 refine (i_Sign _ x _ _ hL.vw (hn.le leX)).mono ?_
 rintro e W11 ⟨_,m11,rfl,hE,hM11,hV,rfl⟩
 replace hL := hL.call hE (by assumption) hV;clear hE hV
 by_cases h0 : x = 0
 ·subst h0
  rw [show icmp 0 0 = 0 from rfl]
  go_wp2_with (first | go_skip | refine tO ?_ | (refine tS ?_;clear hL;intro _ hL) | (refine tB ?_;clear hL;intro _ _ hL _))
  refine (q_fromWords 0 1 _ _ hL.vw (by omega) (by omega) (by omega)).mono ?_
  rintro e W12 ⟨v12,m12,rfl,hE,hM12,hV,h12⟩
  replace hL := hL.call hE (by assumption) hV;clear hE hV
  obtain ⟨g12',A12',n12',c12',h12',B12',k12',d12',rfl,h12⟩ := h12.lit
  go_wp2_with (first | go_skip | refine tO ?_ | (refine tS ?_;clear hL;intro _ hL) | (refine tB ?_;clear hL;intro _ _ hL _))
  refine fin_agg hL Tryz.results105 rfl rfl loX AgC.h (by exact rfl) ?_
  rw [Rat.zero_divInt] at h12 ⊢
  exact h12
 ·have hxb : (icmp x 0 == 0) = false := by
   unfold icmp;by_cases h : x < 0 <;> simp [h,h0]
  go_wp2_with (first | go_skip | refine tO ?_ | (refine tS ?_;clear hL;intro _ hL) | (refine tB ?_;clear hL;intro _ _ hL _))
  refine (i_Sign _ y _ _ hL.vw (hd.le leX)).mono ?_
  rintro e W12 ⟨_,m12,rfl,hE,hM12,hV,rfl⟩
  replace hL := hL.call hE (by assumption) hV;clear hE hV
  rw [icmp_gt hy']
  clear hxb
  go_wp2_with (first | go_skip | refine tO ?_ | (refine tS ?_;clear hL;intro _ hL) | (refine tB ?_;clear hL;intro _ _ hL _))
  have hgp : 0 < Int.gcd x y := Int.gcd_pos_of_ne_zero_right _ (by omega)
  have hgle : Int.gcd x y ≤ y.natAbs := Nat.le_of_dvd (by omega) (Int.gcd_dvd_natAbs_right x y)
  have hgl : (digs (((Int.gcd x y : Nat) : Int)).natAbs).length ≤ 1000 := Nat.le_trans (length_digs_mono (by simpa using hgle)) ly
  have HGL : Hid (((Int.gcd x y : Nat) : Int).natAbs < 18446744073709551616) := by
   show _ < _
   have := HY.out
   simp only [Int.natAbs_natCast];omega
  have hgq := frac_pos (x := x) hy'
  have E1 : x % ((Int.gcd x y : Nat) : Int) = 0 := Int.emod_eq_zero_of_dvd (Int.gcd_dvd_left x y)
  have E2 : y % ((Int.gcd x y : Nat) : Int) = 0 := Int.emod_eq_zero_of_dvd (Int.gcd_dvd_right x y)
  have HE1 := Lib.hid E1
  have HE2 := Lib.hid E2
  clear hgle E1 E2
  refine (i_GCD _ _ x y _ _ hL.vw (hn.le leX) (hd.le leX) HX.out HY.out).mono ?_
  rintro e W13 ⟨v13,m13,rfl,hE,hM13,hV,h13⟩
  replace hL := hL.call hE (by assumption) hV;clear hE hV
  obtain ⟨g13',A13',n13',c13',rfl,h13⟩ := h13.lit
  generalize Int.gcd x y = gg at *
  go_wp2_with (first | go_skip | refine tO ?_ | (refine tS ?_;clear hL;intro _ hL) | (refine tB ?_;clear hL;intro _ _ hL _))
  refine (i_DivMod _ _ x gg _ _ hL.vw (hn.le leX) ((h13.toV hgl).le leX) HX.out HGL.out (by omega) (.inr HE1.out)).mono ?_
  rintro e W14 ⟨_,m14,rfl,hE,hM14,hV,q6,r6,rfl,h6,k6⟩
  replace hL := hL.call hE (by assumption) hV;clear hE hV
  obtain ⟨g6,A6,n6,c6,rfl,h6⟩ := h6.lit
  obtain ⟨g7,A7,n7,c7,rfl,k6⟩ := k6.lit
  have HQ := Lib.hid hgq
  clear hgq k6
  go_wp2_with (first | go_skip | refine tO ?_ | (refine tS ?_;clear hL;intro _ hL) | (refine tB ?_;clear hL;intro _ _ hL _))
  refine (i_DivMod _ _ y gg _ _ hL.vw (hd.le leX) ((h13.toV hgl).le leX) HY.out HGL.out (by omega) (.inr HE2.out)).mono ?_
  rintro e W15 ⟨_,m15,rfl,hE,hM15,hV,q8,r8,rfl,h8,k8⟩
  replace hL := hL.call hE (by assumption) hV;clear hE hV
  obtain ⟨g8,A8,n8,c8,rfl,h8⟩ := h8.lit
  obtain ⟨g9,A9,n9,c9,rfl,k8⟩ := k8.lit
  clear k8
  go_wp2_with (first | go_skip | refine tO ?_ | (refine tS ?_;clear hL;intro _ hL) | (refine tB ?_;clear hL;intro _ _ hL _))
  refine fin_agg hL Tryz.results105 rfl rfl loX AgC.h (by exact rfl) ?_
  exact ⟨_,_,_,_,rfl,by rw [HQ.out.1];exact h6.le leX,by rw [HQ.out.2];exact h8.le leX⟩

theorem q_New (a b : Value) (x y : Int) (w m : World) (hV : Vw m w) (hn : IntV m a x) (hd : IntV m b y) (hx : x.natAbs < 18446744073709551616) (hy : y.natAbs < 18446744073709551616) (hy' : 0 < y) :
  Calls Tryz.prog 79 #[a,b] w (RetV w m fun m' v => ∃ r,v = .tuple #[r,.int .i64 0] ∧ FracC m' r (Rat.divInt x y)) := by
 obtain ⟨na,A,la,ca,rfl⟩ := hn.lit
 obtain ⟨nb,B',lb,cb,rfl⟩ := hd.lit
 have HX := Lib.hid hx
 have HY := Lib.hid hy
 clear hx hy
 have hL := Loc.start hV
 clear hV
 go_enter Tryz.func79,Tryz.ntmps79
 go_wp2_with (first | go_skip | refine tO ?_ | (refine tS ?_;clear hL;intro _ hL) | (refine tB ?_;clear hL;intro _ _ hL _))
 refine (i_Sign _ y _ _ hL.vw (hd.le leX)).mono ?_
 rintro e W11 ⟨_,m11,rfl,hE,hM11,hV,rfl⟩
 replace hL := hL.call hE (by assumption) hV;clear hE hV
 rw [icmp_gt hy']
 go_wp2_with (first | go_skip | refine tO ?_ | (refine tS ?_;clear hL;intro _ hL) | (refine tB ?_;clear hL;intro _ _ hL _))
 refine (q_reduce _ _ x y _ _ hL.vw (hn.le leX) (hd.le leX) HX.out HY.out hy').mono ?_
 rintro e W12 ⟨v12,m12,rfl,hE,hM12,hV,h12⟩
 replace hL := hL.call hE (by assumption) hV;clear hE hV
 obtain ⟨g12',A12',n12',c12',h12',B12',k12',d12',rfl,h12⟩ := h12.lit
 go_wp2_with (first | go_skip | refine tO ?_ | (refine tS ?_;clear hL;intro _ hL) | (refine tB ?_;clear hL;intro _ _ hL _))
 obtain ⟨p1,p2,p3,p4,_⟩ := (hL.at_ lo0).facts4
 refine bodyPost_ret (v := .tuple #[.agg #[.bool g12',.slice A12' n12' c12',.bool h12',.slice B12' k12' d12'],.int .i64 0]) (by simp [results,Tryz.results79,go_sem,p1,p2,p3,p4]) rfl (RetV.mk hL ⟨_,rfl,h12⟩)

theorem q_FromInts (x y : Int) (w m : World) (hV : Vw m w) (hx : x.natAbs < 9223372036854775808) (hy : y.natAbs < 9223372036854775808) (hy' : 0 < y) :
  Calls Tryz.prog 58 #[.int .i64 x,.int .i64 y] w (RetV w m fun m' v => ∃ r,v = .tuple #[r,.int .i64 0] ∧ FracC m' r (Rat.divInt x y)) := by
 have K1 : Hid (∀ w m,Vw m w → Calls Tryz.prog 80 #[.int .i64 x] w (RetV w m fun m' r => IntC m' r x)) := by
  show ∀ w m,_
  exact fun w m hV => i_FromInt64 x w m hV (by omega) (by omega)
 have K2 : Hid (∀ w m,Vw m w → Calls Tryz.prog 80 #[.int .i64 y] w (RetV w m fun m' r => IntC m' r y)) := by
  show ∀ w m,_
  exact fun w m hV => i_FromInt64 y w m hV (by omega) (by omega)
 have lx : (digs x.natAbs).length ≤ 1000 := Nat.le_trans (len2 (by omega)) (by omega)
 have ly : (digs y.natAbs).length ≤ 1000 := Nat.le_trans (len2 (by omega)) (by omega)
 have HX : Hid (x.natAbs < 18446744073709551616) := by show _ < _;omega
 have HY : Hid (y.natAbs < 18446744073709551616) := by show _ < _;omega
 clear hx hy
 have hL := Loc.start hV
 clear hV
 go_enter Tryz.func58,Tryz.ntmps58
 go_wp2_with (first | go_skip | refine tO ?_ | (refine tS ?_;clear hL;intro _ hL) | (refine tB ?_;clear hL;intro _ _ hL _))
 refine (K1.out _ _ hL.vw).mono ?_
 rintro e W11 ⟨v11,m11,rfl,hE,hM11,hV,h11⟩
 replace hL := hL.call hE (by assumption) hV;clear hE hV
 obtain ⟨g11',A11',n11',c11',rfl,h11⟩ := h11.lit
 go_wp2_with (first | go_skip | refine tO ?_ | (refine tS ?_;clear hL;intro _ hL) | (refine tB ?_;clear hL;intro _ _ hL _))
 refine (K2.out _ _ hL.vw).mono ?_
 rintro e W12 ⟨v12,m12,rfl,hE,hM12,hV,h12⟩
 replace hL := hL.call hE (by assumption) hV;clear hE hV
 obtain ⟨g12',A12',n12',c12',rfl,h12⟩ := h12.lit
 go_wp2_with (first | go_skip | refine tO ?_ | (refine tS ?_;clear hL;intro _ hL) | (refine tB ?_;clear hL;intro _ _ hL _))
 refine (q_New _ _ x y _ _ hL.vw ((h11.toV lx).le leX) (h12.toV ly) HX.out HY.out hy').mono ?_
 rintro e W13 ⟨_,m13,rfl,hE,hM13,hV,v13,rfl,h13⟩
 replace hL := hL.call hE (by assumption) hV;clear hE hV
 obtain ⟨g,A,n,c,h,B,k,d,rfl,h13⟩ := h13.lit
 go_wp2_with (first | go_skip | refine tO ?_ | (refine tS ?_;clear hL;intro _ hL) | (refine tB ?_;clear hL;intro _ _ hL _))
 obtain ⟨p1,p2,p3,p4,_⟩ := (hL.at_ lo0).facts4
 refine bodyPost_ret (v := .tuple #[.agg #[.bool g,.slice A n c,.bool h,.slice B k d],.int .i64 0]) (by simp [results,Tryz.results58,go_sem,p1,p2,p3,p4]) rfl (RetV.mk hL ⟨_,rfl,h13⟩)
end Go.Proofs.YtabmjadcoepbeaaGreat

/- Contract of lagrange.whole. -/
namespace Go.Proofs.YtabmjadcoepbeaaGreat
open Go.RowKit

theorem FracC.toS {m : World} {v : Value} {q : Rat} (h : FracC m v q) (hs : Sm q.num q.den) : FracS m v q.num q.den := by
 obtain ⟨a,b,c,d,e,h1,h2⟩ := h
 exact ⟨a,b,c,d,e,h1.toS (by have := hs.1;omega),h2.toS (by have := hs.2;omega),by have := hs.1;omega,by have := hs.2;omega⟩
end Go.Proofs.YtabmjadcoepbeaaGreat

/- Contract of pairingdata.At. -/
namespace Go.Proofs.YtabmjadcoepbeaaGreat
open Go.RowKit

theorem i64_and16 (n : Int) : bits .and .i64 n 65535 = n % 65536 := by
 have h127 : (BitVec.ofInt 64 65535).toNat = 2 ^ 16 - 1 := by decide
 have key : (BitVec.ofInt 64 n &&& BitVec.ofInt 64 65535).toNat = (n % ((2 ^ 64 : Nat) : Int)).toNat % 2 ^ 16 := by
  rw [BitVec.toNat_and,BitVec.toNat_ofInt,h127,Nat.and_two_pow_sub_one_eq_mod]
 show IntKind.i64.wrap ((BitVec.ofInt 64 n &&& BitVec.ofInt 64 65535).toNat : Nat) = n % 65536
 rw [key,IntKind.wrap_i64]
 omega

def I64 (z : Int) : Value := .int .i64 z
def atF (l : List Int) (i : Nat) : Int := if l.length = 0 then (i : Int) % 65536 else l.getD (i % l.length) 0 % 65536 + ((i / l.length : Nat) : Int)
theorem Sl.int {w : World} {A : Option Addr} {l : List Int} {k : Nat} (h : Sl w A (l.map I64)) (hk : k < l.length) :
  ∃ b off,A = some ⟨b,off,none⟩ ∧ b < w.heap.size ∧ w.cell? ⟨b,off + k,none⟩ = some (.int .i64 (l.getD k 0)) := by
 obtain ⟨b,off,e,hlt,hc⟩ := h.at_ (k := k) (by simpa using hk)
 refine ⟨b,off,e,hlt,hc.trans ?_⟩
 simp [I64,hk]

theorem at_val (z : Int) (i n : Nat) (h : i / n ≤ 1000) : wrap64 (z % 65536 + wrap64 ((i : Int) / (n : Int))) = z % 65536 + ((i / n : Nat) : Int) := by
 have e : (i : Int) / (n : Int) = ((i / n : Nat) : Int) := by simp
 rw [e]
 generalize i / n = k at *
 unfold wrap64
 omega
theorem d_At (A : Option Addr) (c : Nat) (l : List Int) (i : Nat) (w m : World) (hV : Vw m w) (h : Sl m A (l.map I64)) (hi : i ≤ 1000) :
  Calls Tryz.prog 23 #[.slice A l.length c,.int .i64 i] w (RetV w m fun _ r => r = .int .i64 (atF l i)) := by
 replace h := h.le hV.le
 by_cases h0 : l.length = 0
 ·have E : Hid (atF l i = (i : Int) % 65536) := if_pos h0
  have e := i64_and16 (i : Int)
  rw [h0]
  go_enter Tryz.func23,Tryz.ntmps23
  go_wp2
  go_ret
  exact RetV.val hV ⟨congrArg (fun t => Ending.returned (Value.int .i64 t)) E.out.symm,Ext.refl _⟩
 ·have E : Hid (atF l i = l.getD (i % l.length) 0 % 65536 + ((i / l.length : Nat) : Int)) := if_neg h0
  have hlt : i % l.length < l.length := Nat.mod_lt _ (by omega)
  obtain ⟨b,off,rfl,hb,hc⟩ := h.int hlt
  have e := i64_and16 (l.getD (i % l.length) 0)
  generalize l.getD (i % l.length) 0 = z at *
  have hq : i / l.length ≤ 1000 := Nat.le_trans (Nat.div_le_self _ _) hi
  have h1 : ((l.length : Int) == 0) = false := by simp [h0]
  have h2 : ¬ (l.length : Int) = 0 := by omega
  have HQ := Lib.hid hq
  clear h0 hq
  generalize l.length = n at *
  go_enter Tryz.func23,Tryz.ntmps23
  go_wp2_with fail
  go_quiet (fail)
  go_wp2_with fail
  go_ret
  exact RetV.val hV ⟨congrArg (fun t => Ending.returned (Value.int .i64 t)) ((at_val z i n HQ.out).trans E.out.symm),(Ext.refl _).drewN _⟩
end Go.Proofs.YtabmjadcoepbeaaGreat

/- Contract of pairingdata.Frac. -/
namespace Go.Proofs.YtabmjadcoepbeaaGreat
open Go.RowKit

theorem i64_and4 (n : Int) : bits .and .i64 n 15 = n % 16 := by
 have h127 : (BitVec.ofInt 64 15).toNat = 2 ^ 4 - 1 := by decide
 have key : (BitVec.ofInt 64 n &&& BitVec.ofInt 64 15).toNat = (n % ((2 ^ 64 : Nat) : Int)).toNat % 2 ^ 4 := by
  rw [BitVec.toNat_and,BitVec.toNat_ofInt,h127,Nat.and_two_pow_sub_one_eq_mod]
 show IntKind.i64.wrap ((BitVec.ofInt 64 n &&& BitVec.ofInt 64 15).toNat : Nat) = n % 16
 rw [key,IntKind.wrap_i64]
 omega
theorem i64_and2 (n : Int) : bits .and .i64 n 3 = n % 4 := by
 have h127 : (BitVec.ofInt 64 3).toNat = 2 ^ 2 - 1 := by decide
 have key : (BitVec.ofInt 64 n &&& BitVec.ofInt 64 3).toNat = (n % ((2 ^ 64 : Nat) : Int)).toNat % 2 ^ 2 := by
  rw [BitVec.toNat_and,BitVec.toNat_ofInt,h127,Nat.and_two_pow_sub_one_eq_mod]
 show IntKind.i64.wrap ((BitVec.ofInt 64 n &&& BitVec.ofInt 64 3).toNat : Nat) = n % 4
 rw [key,IntKind.wrap_i64]
 omega
def fN (n : Int) : Int := n % 16 - 5
def fD (n : Int) : Int := 1 + n / 16 % 4
def frF (n : Int) : Rat := (fN n : Rat) / (fD n : Rat)
theorem fN_bd (n : Int) : -5 ≤ fN n ∧ fN n ≤ 10 := by unfold fN;omega
theorem fD_bd (n : Int) : 1 ≤ fD n ∧ fD n ≤ 4 := by unfold fD;omega
theorem fit_int (z : Int) (h : z.natAbs < 4294967296) : Fit 200 (z : Rat) := by
 refine Fit.mono (k := 1) ⟨?_,?_⟩ (by omega)
 ·simpa using h
 ·simp

theorem d_Frac (n : Int) (w m : World) (hV : Vw m w) (h1 : -9223372036854775808 ≤ n) (h2 : n ≤ 9223372036854775807) :
  Calls Tryz.prog 47 #[.int .i64 n] w (RetV w m fun m' r => FracC m' r (frF n)) := by
 have e1 := i64_and4 n
 have e2 := i64_and2 (n / 16)
 have k1 := fit_int (n % 16 - 5) (by omega)
 have k2 := fit_int (1 + n / 16 % 4) (by omega)
 have hL := Loc.start hV
 clear hV h1 h2
 go_enter Tryz.func47,Tryz.ntmps47
 go_wp2_with (first | go_skip | refine tO ?_ | (refine tS ?_;clear hL;intro _ hL) | (refine tB ?_;clear hL;intro _ _ hL _))
 refine (r_Int (n % 16 - 5) _ _ hL.vw (by omega) (by omega)).mono ?_
 rintro e W11 ⟨v11,m11,rfl,hE,hM11,hV,h11⟩
 replace hL := hL.call hE (by assumption) hV;clear hE hV
 obtain ⟨g11',A11',n11',c11',h11',B11',k11',d11',rfl,h11⟩ := h11.lit
 go_wp2_with (first | go_skip | refine tO ?_ | (refine tS ?_;clear hL;intro _ hL) | (refine tB ?_;clear hL;intro _ _ hL _))
 refine (r_Int (1 + n / 16 % 4) _ _ hL.vw (by omega) (by omega)).mono ?_
 rintro e W12 ⟨v12,m12,rfl,hE,hM12,hV,h12⟩
 replace hL := hL.call hE (by assumption) hV;clear hE hV
 obtain ⟨g12',A12',n12',c12',h12',B12',k12',d12',rfl,h12⟩ := h12.lit
 go_wp2_with (first | go_skip | refine tO ?_ | (refine tS ?_;clear hL;intro _ hL) | (refine tB ?_;clear hL;intro _ _ hL _))
 refine (r_Div _ _ _ _ _ _ hL.vw ((h11.toV k1 (by omega)).le leX) (h12.toV k2 (by omega)) k1 k2).mono ?_
 rintro e W13 ⟨v13,m13,rfl,hE,hM13,hV,h13⟩
 replace hL := hL.call hE (by assumption) hV;clear hE hV
 obtain ⟨g13',A13',n13',c13',h13',B13',k13',d13',rfl,h13⟩ := h13.lit
 go_wp2_with (first | go_skip | refine tO ?_ | (refine tS ?_;clear hL;intro _ hL) | (refine tB ?_;clear hL;intro _ _ hL _))
 refine fin_agg hL Tryz.results47 rfl rfl loX AgC.h (by exact rfl) ?_
 exact h13
end Go.Proofs.YtabmjadcoepbeaaGreat

/- The rule for regions that draw their order, with pure operations which nothing waits for ('late'): each is taken first as soon as it may come. No program. -/
namespace Go.Proofs.YtabmjadcoepbeaaGreat
open Go.RowKit

def blkOf : Value → Option Nat
 | .pointer (some a) => some a.block
 | .slice (some a) _ _ => some a.block
 | .agg cs => match cs.toList with
  | [_,.slice (some a) _ _] => some a.block
  | _ => none
 | _ => none
section
variable {P : Program} {ops : Array Oper} {Q : Exit → Act → World → Prop}
def Mid2 (ops : Array Oper) (n : Nat) (fl : Nat → Bool) (Φ : Nat → Value → World → World → Prop) (a0 : Act) (w0 m0 : World) (L : Array Bool) (a : Act) (w : World) : Prop :=
 ∃ vs m,a = lay (dsts ops n) vs a0 ∧ Ext w0 w ∧ Ext m0 m ∧ Vw m w ∧
  (∀ i o d,i < n → ops[i]? = some o → o.dst = some d → L.getD i false = true → ∃ u um,Ext u w ∧ Ext um m ∧ Φ i (vs d) u um) ∧
  (∀ i o d,i < n → ops[i]? = some o → o.dst = some d → L.getD i false = true → fl i = true → ∀ k,blkOf (vs d) = some k → k < w.heap.size) ∧
  (∀ i j o p d c,i < n → j < n → i ≠ j → ops[i]? = some o → ops[j]? = some p → o.dst = some d → p.dst = some c → L.getD i false = true → L.getD j false = true → fl i = true → fl j = true → ∀ k,blkOf (vs d) = some k → blkOf (vs c) ≠ some k)

def One2 (Φ : Value → World → World → Prop) (fl : Bool) (a : Act) (dst : Option Nat) (w m : World) (e : Exit) (a' : Act) (w' : World) : Prop :=
 e = .normal ∧ Ext w w' ∧ ∃ m' v,Ext m m' ∧ Vw m' w' ∧ a' = a.put dst v ∧ Φ v w' m' ∧ (fl = true → ∀ k,blkOf v = some k → w.heap.size ≤ k ∧ k < w'.heap.size)

theorem Mid2.step {n : Nat} {fl : Nat → Bool} {Φ : Nat → Value → World → World → Prop} {a0 : Act} {w0 m0 : World} {L : Array Bool} {a : Act} {w : World} (hdis : distinctB ops n = true)
  (hstep : ∀ i o,i < n → ops[i]? = some o → ∀ vs w m,Ext w0 w → Ext m0 m → Vw m w →
   (∀ e ∈ o.after,Region.binds .any e = true → ∀ p d,e.on < n → ops[e.on]? = some p → p.dst = some d → ∃ u um,Ext u w ∧ Ext um m ∧ Φ e.on (vs d) u um) →
   wpList P ops (One2 (Φ i) (fl i) (lay (dsts ops n) vs a0) o.dst w m) [o] (lay (dsts ops n) vs a0) w)
  (hM : Mid2 ops n fl Φ a0 w0 m0 L a w) {i : Nat} (hr : i ∈ Region.ready .any ops L) (hin : i < n) : wpOp P ops Q i (Mid2 ops n fl Φ a0 w0 m0 (L.setIfInBounds i true)) a w := by
 obtain ⟨vs,m,rfl,hE,hM,hV,hF,hG,hD⟩ := hM
 obtain ⟨hun,o,ho,hdep⟩ := mem_ready.1 hr
 refine wpOp_of_one ho (fun _ _ _ h => h.1) ?_ (hstep i o hin ho vs w m hE hM hV fun e he hb p d hen hp hd => hF _ _ _ hen hp hd (hdep e he hb))
 rintro a' w' ⟨_,hE',m',v,hM',hV',rfl,hv,hfl⟩
 cases hd : o.dst with
 | none =>
  have back : ∀ j p d,ops[j]? = some p → p.dst = some d → (L.setIfInBounds i true).getD j false = true → L.getD j false = true := by
   intro j p d hp hpd hL
   have hne : i ≠ j := by
    rintro rfl
    rw [ho] at hp
    obtain rfl := Option.some.inj hp
    rw [hd] at hpd
    cases hpd
   rw [Go.getD_set_ne false hne] at hL
   exact hL
  refine ⟨vs,m',rfl,hE.trans hE',hM.trans hM',hV',fun j p d hj hp hpd hL => ?_,fun j p d hj hp hpd hL hf => ?_,fun j k p q d c hj hk hjk hp hq hpd hqd hLj hLk hfj hfk => ?_⟩
  ·obtain ⟨u,um,h1,h2,h3⟩ := hF j p d hj hp hpd (back j p d hp hpd hL)
   exact ⟨u,um,h1.trans hE',h2.trans hM',h3⟩
  ·intro k h1
   exact Nat.lt_of_lt_of_le (hG j p d hj hp hpd (back j p d hp hpd hL) hf k h1) hE'.size
  ·exact hD j k p q d c hj hk hjk hp hq hpd hqd (back j p d hp hpd hLj) (back k q c hq hqd hLk) hfj hfk
 | some di =>
  have other : ∀ j p d,j < n → i ≠ j → ops[j]? = some p → p.dst = some d → upd vs di v d = vs d := by
   intro j p d hj hne hp hpd
   have : d ≠ di := by
    rintro rfl
    exact distinct_spec hdis ho hp hin hj hne hd hpd
   simp [upd,this]
  have self : upd vs di v di = v := by simp [upd]
  have new : ∀ j p d,j < n → i ≠ j → ops[j]? = some p → p.dst = some d → L.getD j false = true → fl i = true → fl j = true → ∀ k,blkOf v = some k → blkOf (vs d) ≠ some k := by
   intro j p d hj hne hp hpd hL hfi hfj k h3 h1
   have h2 := hG j p d hj hp hpd hL hfj k h1
   have h4 := (hfl hfi k h3).1
   omega
  refine ⟨upd vs di v,m',lay_put (mem_dsts ho hin hd) vs a0 v,hE.trans hE',hM.trans hM',hV',fun j p d hj hp hpd hL => ?_,fun j p d hj hp hpd hL hf => ?_,fun j k p q d c hj hk hjk hp hq hpd hqd hLj hLk hfj hfk => ?_⟩
  ·by_cases hne : i = j
   ·subst hne
    rw [ho] at hp
    obtain rfl := Option.some.inj hp
    rw [hd] at hpd
    obtain rfl := Option.some.inj hpd
    exact ⟨w',m',Ext.refl _,Ext.refl _,by rw [self];exact hv⟩
   ·rw [Go.getD_set_ne false hne] at hL
    obtain ⟨u,um,h1,h2,h3⟩ := hF j p d hj hp hpd hL
    exact ⟨u,um,h1.trans hE',h2.trans hM',by rw [other j p d hj hne hp hpd];exact h3⟩
  ·by_cases hne : i = j
   ·subst hne
    rw [ho] at hp
    obtain rfl := Option.some.inj hp
    rw [hd] at hpd
    obtain rfl := Option.some.inj hpd
    intro k hk
    rw [self] at hk
    exact (hfl hf k hk).2
   ·rw [Go.getD_set_ne false hne] at hL
    intro k hk
    rw [other j p d hj hne hp hpd] at hk
    exact Nat.lt_of_lt_of_le (hG j p d hj hp hpd hL hf k hk) hE'.size
  ·by_cases hij : i = j
   ·subst hij
    rw [ho] at hp
    obtain rfl := Option.some.inj hp
    rw [hd] at hpd
    obtain rfl := Option.some.inj hpd
    rw [Go.getD_set_ne false hjk] at hLk
    rw [self,other k q c hk hjk hq hqd]
    exact new k q c hk hjk hq hqd hLk hfj hfk
   ·by_cases hik : i = k
    ·subst hik
     rw [ho] at hq
     obtain rfl := Option.some.inj hq
     rw [hd] at hqd
     obtain rfl := Option.some.inj hqd
     rw [Go.getD_set_ne false hij] at hLj
     rw [self,other j p d hj hij hp hpd]
     exact fun k h1 h2 => new j p d hj hij hp hpd hLj hfk hfj k h2 h1
    ·rw [Go.getD_set_ne false hij] at hLj
     rw [Go.getD_set_ne false hik] at hLk
     rw [other j p d hj hij hp hpd,other k q c hk hik hq hqd]
     exact hD j k p q d c hj hk hjk hp hq hpd hqd hLj hLk hfj hfk

def sinkL (ops : Array Oper) (n : Nat) (lt : Nat → Bool) : Bool :=
 (List.range n).all fun i => lt i || (List.range (n + 1)).any fun j => decide (i < j) && !lt j && Region.waitsFor .any ops j i
def freeL (ops : Array Oper) (n : Nat) (lt : Nat → Bool) : Bool :=
 (List.range n).all fun i => !lt i || match ops[i]? with
  | none => false
  | some oi => (List.range ops.size).all fun j => j == i || oi.after.any (fun e => Region.binds .any e && e.on == j) || match ops[j]? with
   | some oj => oj.after.any (fun e => Region.binds .any e && e.on == i) || oi.apart ops oj
   | none => true
def lateB (ops : Array Oper) (n : Nat) (lt : Nat → Bool) : Bool :=
 ((decide (n = ops.size) && (List.range n).all fun i => !lt i) || (decide (n < ops.size) && sinkL ops n lt && Region.chainB .any ops n)) && freeL ops n lt && Region.noSelect ops && !lt n &&
  Region.seqB .any ops (ops.size - n) n ((List.range n).foldl (fun l i => l.setIfInBounds i true) (Array.replicate ops.size false))

theorem tail_waitsL {n : Nat} {lt : Nat → Bool} {listed : Array Bool} (hs : sinkL ops n lt = true) (hc : Region.chainB .any ops n = true) (hn : n < ops.size) (inv : HeadInv .any ops n listed) :
  ∀ (d i : Nat),n - i = d → i < n → lt i = false → listed.getD i true = false → ∀ t,n ≤ t → t ∉ Region.ready .any ops listed := by
 intro d
 induction d using Nat.strongRecOn with
 | _ d ih =>
  intro i hd hi hlt hun t ht hr
  obtain ⟨_,ot,hot,hall⟩ := mem_ready.1 hr
  have htlt : t < ops.size := (Array.getElem?_eq_some_iff.1 hot).1
  by_cases htn : t = n
  ·subst htn
   have h1 := List.all_eq_true.1 hs i (List.mem_range.2 hi)
   simp only [hlt,Bool.false_or] at h1
   obtain ⟨j,hj,hj2⟩ := List.any_eq_true.1 h1
   simp only [Bool.and_eq_true,decide_eq_true_eq,Bool.not_eq_true'] at hj2
   obtain ⟨oj,hoj,e,he,hb,hon⟩ := Region.waitsFor_spec hj2.2
   have hjle : j ≤ t := by have := List.mem_range.1 hj;omega
   by_cases hjt : j = t
   ·subst hjt
    have : oj = ot := Option.some.inj (hoj.symm.trans hot)
    subst this
    have h2 := hall e he hb
    rw [hon,getD_both hun] at h2
    cases h2
   ·cases hl : listed.getD j false with
    | true =>
     have h2 := inv.closed j oj hoj hl e he hb
     rw [hon,getD_both hun] at h2
     cases h2
    | false =>
     have hjs : j < listed.size := by rw [inv.size];omega
     exact ih (t - j) (by omega) j rfl (by omega) hj2.1.2 (getD_in hjs hl) t (Nat.le_refl _) hr
  ·have h1 := List.all_eq_true.1 hc t (List.mem_range.2 htlt)
   simp only [Bool.or_eq_true,decide_eq_true_eq] at h1
   rcases h1 with h1 | h1
   ·omega
   ·obtain ⟨o',ho',e,he,hb,hon⟩ := Region.waitsFor_spec h1
    have : o' = ot := Option.some.inj (ho'.symm.trans hot)
    subst this
    have h2 := hall e he hb
    rw [hon,getD_both (inv.tail (t - 1) (by omega) (by omega))] at h2
    cases h2

theorem least_unlisted {n : Nat} {L : Array Bool} : ∀ i,i < n → L.getD i true = false → ∃ j,j ≤ i ∧ L.getD j true = false ∧ ∀ k,k < j → L.getD k true = true := by
 intro i
 induction i using Nat.strongRecOn with
 | _ i ih =>
  intro hi hs
  by_cases h : ∀ k,k < i → L.getD k true = true
  ·exact ⟨i,Nat.le_refl _,hs,h⟩
  ·simp only [Classical.not_forall] at h
   obtain ⟨k,hk,hn⟩ := h
   obtain ⟨j,h1,h2,h3⟩ := ih k hk (by omega) (by simpa using hn)
   exact ⟨j,by omega,h2,h3⟩
theorem least_ready {L : Array Bool} (ht : textB ops = true) (hL : L.size = ops.size) {j : Nat} (hj : j < ops.size) (h2 : L.getD j true = false) (h3 : ∀ k,k < j → L.getD k true = true) : j ∈ Region.ready .any ops L := by
 obtain ⟨o,ho⟩ : ∃ o,ops[j]? = some o := ⟨_,Array.getElem?_eq_getElem hj⟩
 refine mem_ready.2 ⟨h2,o,ho,fun e he hb => ?_⟩
 have h1 := List.all_eq_true.1 ht j (List.mem_range.2 hj)
 simp only [ho] at h1
 have h4 := Array.all_eq_true'.1 h1 e he
 simp [hb] at h4
 have h5 := h3 e.on h4
 have h6 : e.on < L.size := by omega
 simpa [h6] using h5

theorem Mid2.take {n : Nat} {fl : Nat → Bool} {Φ : Nat → Value → World → World → Prop} {a0 : Act} {w0 m0 : World} {L : Array Bool} {a : Act} {w : World} (hdis : distinctB ops n = true)
  (hM : Mid2 ops n fl Φ a0 w0 m0 L a w) {i : Nat} (hin : i < n) {o : Oper} (ho : ops[i]? = some o) (hfl : fl i = false)
  (hF : ∀ vs m,a = lay (dsts ops n) vs a0 → Ext w0 w → Ext m0 m → Vw m w → (∀ j p d,j < n → ops[j]? = some p → p.dst = some d → L.getD j false = true → ∃ u um,Ext u w ∧ Ext um m ∧ Φ j (vs d) u um) →
   ∃ v,Yields P ops o v a ∧ Φ i v w m) :
  ∃ v,Yields P ops o v a ∧ Mid2 ops n fl Φ a0 w0 m0 (L.setIfInBounds i true) (a.put o.dst v) w := by
 obtain ⟨vs,m,rfl,hE,hMm,hV,hFa,hG,hD⟩ := hM
 obtain ⟨v,hy,hv⟩ := hF vs m rfl hE hMm hV hFa
 refine ⟨v,hy,?_⟩
 cases hd : o.dst with
 | none =>
  have back : ∀ j p d,ops[j]? = some p → p.dst = some d → (L.setIfInBounds i true).getD j false = true → L.getD j false = true := by
   intro j p d hp hpd hL
   have hne : i ≠ j := by
    rintro rfl
    rw [ho] at hp
    obtain rfl := Option.some.inj hp
    rw [hd] at hpd
    cases hpd
   rw [Go.getD_set_ne false hne] at hL
   exact hL
  exact ⟨vs,m,rfl,hE,hMm,hV,fun j p d hj hp hpd hL => hFa j p d hj hp hpd (back j p d hp hpd hL),fun j p d hj hp hpd hL => hG j p d hj hp hpd (back j p d hp hpd hL),
   fun j k p q d c hj hk hjk hp hq hpd hqd hLj hLk => hD j k p q d c hj hk hjk hp hq hpd hqd (back j p d hp hpd hLj) (back k q c hq hqd hLk)⟩
 | some di =>
  have other : ∀ j p d,j < n → i ≠ j → ops[j]? = some p → p.dst = some d → upd vs di v d = vs d := by
   intro j p d hj hne hp hpd
   have : d ≠ di := by
    rintro rfl
    exact distinct_spec hdis ho hp hin hj hne hd hpd
   simp [upd,this]
  have self : upd vs di v di = v := by simp [upd]
  refine ⟨upd vs di v,m,lay_put (mem_dsts ho hin hd) vs a0 v,hE,hMm,hV,fun j p d hj hp hpd hL => ?_,fun j p d hj hp hpd hL hf => ?_,fun j k p q d c hj hk hjk hp hq hpd hqd hLj hLk hfj hfk => ?_⟩
  ·by_cases hne : i = j
   ·subst hne
    rw [ho] at hp
    obtain rfl := Option.some.inj hp
    rw [hd] at hpd
    obtain rfl := Option.some.inj hpd
    exact ⟨w,m,Ext.refl _,Ext.refl _,by rw [self];exact hv⟩
   ·rw [Go.getD_set_ne false hne] at hL
    rw [other j p d hj hne hp hpd]
    exact hFa j p d hj hp hpd hL
  ·have hne : i ≠ j := by rintro rfl;rw [hfl] at hf;cases hf
   rw [Go.getD_set_ne false hne] at hL
   rw [other j p d hj hne hp hpd]
   exact hG j p d hj hp hpd hL hf
  ·have hij : i ≠ j := by rintro rfl;rw [hfl] at hfj;cases hfj
   have hik : i ≠ k := by rintro rfl;rw [hfl] at hfk;cases hfk
   rw [Go.getD_set_ne false hij] at hLj
   rw [Go.getD_set_ne false hik] at hLk
   rw [other j p d hj hij hp hpd,other k q c hk hik hq hqd]
   exact hD j k p q d c hj hk hjk hp hq hpd hqd hLj hLk hfj hfk

theorem region_late {a0 : Act} {w0 m0 : World} (n : Nat) (fl lt : Nat → Bool) (Φ : Nat → Value → World → World → Prop) (hV0 : Vw m0 w0) (hm : P.follows .mixedOrders = true)
  (hdis : distinctB ops n = true) (htx : textB ops = true) (htl : lateB ops n lt = true) (hQ : ∀ c a w d v,Q (.panic c) (a.put d v) w → Q (.panic c) a w) (hfl : ∀ i,lt i = true → fl i = false)
  (hstep : ∀ i o,i < n → ops[i]? = some o → ∀ vs w m,Ext w0 w → Ext m0 m → Vw m w →
   (∀ e ∈ o.after,Region.binds .any e = true → ∀ p d,e.on < n → ops[e.on]? = some p → p.dst = some d → ∃ u um,Ext u w ∧ Ext um m ∧ Φ e.on (vs d) u um) →
   wpList P ops (One2 (Φ i) (fl i) (lay (dsts ops n) vs a0) o.dst w m) [o] (lay (dsts ops n) vs a0) w)
  (hlate : ∀ i o,i < n → lt i = true → ops[i]? = some o → ∀ vs w m,Ext w0 w → Ext m0 m → Vw m w →
   (∀ e ∈ o.after,Region.binds .any e = true → ∀ p d,e.on < n → ops[e.on]? = some p → p.dst = some d → ∃ u um,Ext u w ∧ Ext um m ∧ Φ e.on (vs d) u um) →
   ∃ v,Yields P ops o v (lay (dsts ops n) vs a0) ∧ Φ i v w m)
  (hrest : ∀ vs w m,Ext w0 w → Ext m0 m → Vw m w → (∀ i o d,i < n → ops[i]? = some o → o.dst = some d → ∃ u um,Ext u w ∧ Ext um m ∧ Φ i (vs d) u um) →
   (∀ i j o p d c,i < n → j < n → i ≠ j → ops[i]? = some o → ops[j]? = some p → o.dst = some d → p.dst = some c → fl i = true → fl j = true → ∀ k,blkOf (vs d) = some k → blkOf (vs c) ≠ some k) →
   wpList P ops Q (ops.toList.drop n) (lay (dsts ops n) vs a0) w) :
  wpAny P .any ops Q ops.size (Array.replicate ops.size false) a0 w0.drew := by
 unfold lateB at htl
 simp only [Bool.and_eq_true,Bool.or_eq_true,decide_eq_true_eq] at htl
 obtain ⟨⟨⟨⟨hsc,hfr⟩,hns⟩,_⟩,hseq⟩ := htl
 have hn : n ≤ ops.size := by
  rcases hsc with h | h
  ·omega
  ·omega
 have main : ∀ f L a w,HeadInv .any ops n L → left n L = f → Mid2 ops n fl Φ a0 w0 m0 L a w → wpAny P .any ops Q (f + (ops.size - n)) L a w := by
  intro f
  induction f with
  | zero =>
   intro L a w inv hl hM
   obtain ⟨vs,m,rfl,hE,hM,hV,hF,_,hD⟩ := hM
   have hL : L = (List.range n).foldl (fun l i => l.setIfInBounds i true) (Array.replicate ops.size false) := full_eq inv.size hn (fun i hi => left_zero hl hi) inv.tail
   have hon : ∀ i,i < n → L.getD i false = true := fun i hi => by
    have := left_zero hl hi
    have h2 : i < L.size := by rw [inv.size];omega
    simpa [h2] using this
   have hw := hrest vs w m hE hM hV (fun i o d hi ho hd => hF i o d hi ho hd (hon i hi)) (fun i j o p d c hi hj hij ho hp hod hpd hfi hfj => hD i j o p d c hi hj hij ho hp hod hpd (hon i hi) (hon j hj) hfi hfj)
   have := wpAny_of_seq (P := P) (md := .any) (Q' := Q) (ops.toList.drop n) n L _ w (fun j => by simp) (by rw [hL];simpa using hseq) hw
   simpa using this
  | succ f ih =>
   intro L a w inv hl hM
   have : ∃ i,i < n ∧ L.getD i true = false := by
    apply Classical.byContradiction
    intro hno
    have : left n L = 0 := by
     unfold left
     rw [List.length_eq_zero_iff,List.filter_eq_nil_iff]
     intro i hi
     have hi' := List.mem_range.1 hi
     cases e : L.getD i true with
     | true => simp
     | false => exact absurd ⟨i,hi',e⟩ hno
    omega
   obtain ⟨i0,hi0,hs0⟩ := this
   obtain ⟨i,hii,hs,hmin⟩ := least_unlisted i0 hi0 hs0
   have hin : i < n := by omega
   have hr := least_ready htx inv.size (by omega) hs hmin
   have hsz : i < L.size := by rw [inv.size];omega
   rw [show f + 1 + (ops.size - n) = (f + (ops.size - n)) + 1 by omega]
   cases hlt : lt i with
   | true =>
    obtain ⟨_,o,ho,hdep⟩ := mem_ready.1 hr
    obtain ⟨v,hy,hM'⟩ := Mid2.take (P := P) hdis hM hin ho (hfl i hlt) (fun vs m ha hE hMm hV hF => by
     rw [ha]
     exact hlate i o hin hlt ho vs w m hE hMm hV fun e he hb p d hen hp hd => hF _ _ _ hen hp hd (hdep e he hb))
    refine wpAny_first ho (Region.noSelect_spec hns) (fun c a w h => hQ c a w _ _ h) _ L a w (fun j oj hj hne hun hnb => ?_) hr hy (ih _ _ _ (inv.set hr hin) (by have := left_set hin hs hsz;omega) hM')
    have h1 := List.all_eq_true.1 hfr i (List.mem_range.2 hin)
    simp only [hlt,Bool.not_true,Bool.false_or,ho] at h1
    have h2 := List.all_eq_true.1 h1 j (List.mem_range.2 (Array.getElem?_eq_some_iff.1 hj).1)
    simp only [hj,Bool.or_eq_true,beq_iff_eq,hne,false_or] at h2
    rcases h2 with h2 | h2 | h2
    ·obtain ⟨k,hk,he⟩ := Array.any_eq_true.1 h2
     simp only [Bool.and_eq_true,beq_iff_eq] at he
     have h3 := hdep _ (Array.getElem_mem hk) he.1
     rw [he.2,getD_both hun] at h3
     cases h3
    ·obtain ⟨k,hk,he⟩ := Array.any_eq_true.1 h2
     simp only [Bool.and_eq_true,beq_iff_eq] at he
     exact absurd he.2 (hnb _ (Array.getElem_mem hk) he.1)
    ·exact h2
   | false =>
    refine ⟨fun h => (by rw [h] at hr;cases hr),fun k hk => ?_⟩
    have hkn : k < n := by
     rcases Nat.lt_or_ge k n with h | h
     ·exact h
     ·rcases hsc with ⟨he,_⟩ | ⟨⟨hnlt,hsk⟩,hch⟩
      ·obtain ⟨_,o,ho,_⟩ := mem_ready.1 hk
       exact absurd (Array.getElem?_eq_some_iff.1 ho).1 (by omega)
      ·exact absurd hk (tail_waitsL hsk hch hnlt inv _ i rfl hin hlt hs k h)
    have hks := (mem_ready.1 hk).1
    have hksz : k < L.size := by rw [inv.size];omega
    exact wpOp_mono (fun a' w' h' => ih _ a' w' (inv.set hk hkn) (by have := left_set hkn hks hksz;omega) h') (Mid2.step hdis hstep hM hk hkn)
 have h0 : left n (Array.replicate ops.size false) = n := by
  unfold left
  have : (List.range n).filter (fun i => !(Array.replicate ops.size false).getD i true) = List.range n := by
   rw [List.filter_eq_self]
   intro i hi
   have := List.mem_range.1 hi
   have h2 : i < ops.size := by omega
   simp [h2]
  rw [this];simp
 have := main n (Array.replicate ops.size false) a0 w0.drew ⟨by simp,fun j oj hj hl => (by rw [getD_replicate_false] at hl;cases hl),fun t h1 h2 => (by simp [h2])⟩ h0
  ⟨_,m0,(lay_self _ _).symm,(Ext.refl _).drew,Ext.refl _,⟨hV0.os,hV0.tape,hV0.output,hV0.size,hV0.cell⟩,fun i o d _ _ _ hl => (by rw [getD_replicate_false] at hl;cases hl),
   fun i o d _ _ _ hl => (by rw [getD_replicate_false] at hl;cases hl),fun i j o p d c _ _ _ _ _ _ _ hl => (by rw [getD_replicate_false] at hl;cases hl)⟩
 rw [show n + (ops.size - n) = ops.size by omega] at this
 exact this

def allLate (C : Oper → Fct → Prop) : List Oper → List Fct → List Bool → Prop
 | o :: l,f :: m,b :: n => (b = true → C o f) ∧ allLate C l m n
 | [],_,_ => True
 | _,_,_ => False
theorem allLate_at {C : Oper → Fct → Prop} : ∀ {l : List Oper} {m : List Fct} {n : List Bool},allLate C l m n → ∀ {i : Nat} {o : Oper},l[i]? = some o → n.getD i false = true → C o (fct m i)
 | [],_,_,_,_,_,h,_ => by simp at h
 | o :: l,f :: m,b :: n,⟨h0,hl⟩,0,p,h,hb => by simp at h hb;subst h;exact h0 hb
 | o :: l,f :: m,b :: n,⟨h0,hl⟩,i + 1,p,h,hb => by simp at h hb;exact allLate_at hl h (by simpa using hb)
 | o :: l,[],_,h,_,_,_,_ => by cases h
 | o :: l,f :: m,[],h,_,_,_,_ => by cases h

def QN (Q : Exit → Act → World → Prop) (e : Exit) (a : Act) (w : World) : Prop := e = .normal ∧ Q .normal a w
theorem QN.mk {Q : Exit → Act → World → Prop} {a : Act} {w : World} (h : Q .normal a w) : QN Q .normal a w := ⟨rfl,h⟩
def RegAny (P : Program) (ops : Array Oper) (Q : Exit → Act → World → Prop) (a : Act) (w : World) : Prop := wpAny P .any ops (QN Q) ops.size (Array.replicate ops.size false) a w.drew
theorem wp_of_any {id : Nat} {a : Act} {w : World} (hm : P.follows .mixedOrders = true) (h : RegAny P ops Q a w) : (Code.region id ops true).wp P Q a w := by
 refine Code.wp_mono (Q := QN Q) ?_ (wp_region_any hm h)
 rintro e a w ⟨rfl,h⟩;exact h
theorem region_by2 {a0 : Act} {w0 m0 : World} (n : Nat) (fl lt : List Bool) (Φ : List Fct) (hV0 : Vw m0 w0) (hm : P.follows .mixedOrders = true)
  (ds : List Nat) (A : (Nat → Value) → Act) (hds : dsts ops n = ds) (hA : ∀ vs,lay ds vs a0 = A vs) (hchk : (distinctB ops n && textB ops && lateB ops n (lt.getD · false)) = true)
  (hfl : ((List.range n).all fun i => !lt.getD i false || !fl.getD i false) = true) (hll : lt.length ≤ n)
  (hstep : allSteps2 (fun o f b => ∀ vs w m,Ext w0 w → Ext m0 m → Vw m w → depFacts ops n (fun j d => ∃ u um,Ext u w ∧ Ext um m ∧ fct Φ j (vs d) u um) o.after.toList →
   wpList P ops (One2 f b (A vs) o.dst w m) [o] (A vs) w) (ops.toList.take n) Φ fl)
  (hlate : allLate (fun o f => ∀ vs w m,Ext w0 w → Ext m0 m → Vw m w → depFacts ops n (fun j d => ∃ u um,Ext u w ∧ Ext um m ∧ fct Φ j (vs d) u um) o.after.toList →
   ∃ v,Yields P ops o v (A vs) ∧ f v w m) (ops.toList.take n) Φ lt)
  (hrest : ∀ vs w m,Ext w0 w → Ext m0 m → Vw m w → headFacts (fun j d => ∃ u um,Ext u w ∧ Ext um m ∧ fct Φ j (vs d) u um) 0 (ops.toList.take n) →
   (∀ i j o p d c,i < n → j < n → i ≠ j → ops[i]? = some o → ops[j]? = some p → o.dst = some d → p.dst = some c → fl.getD i false = true → fl.getD j false = true → ∀ k,blkOf (vs d) = some k → blkOf (vs c) ≠ some k) →
   wpList P ops (QN Q) (ops.toList.drop n) (A vs) w) : RegAny P ops Q a0 w0 := by
 simp only [Bool.and_eq_true] at hchk
 refine region_late (Q := QN Q) n (fl.getD · false) (lt.getD · false) (fct Φ) hV0 hm hchk.1.1 hchk.1.2 hchk.2 (fun c a w d v h => by cases h.1) ?_ ?_ ?_ ?_
 ·intro i hi
  have hin : i < n := by
   rcases Nat.lt_or_ge i lt.length with h | h
   ·omega
   ·simp [List.getD,List.getElem?_eq_none h] at hi
  have := List.all_eq_true.1 hfl i (List.mem_range.2 hin)
  simp only [hi,Bool.not_true,Bool.false_or,Bool.not_eq_true'] at this
  exact this
 ·intro i o hi ho vs w m hE hM hV hD
  rw [hds,hA]
  have ho' : (ops.toList.take n)[i]? = some o := by rw [List.getElem?_take_of_lt hi];simpa using ho
  exact allSteps2_at hstep ho' vs w m hE hM hV (depFacts_of fun e he => hD e (by simpa using he))
 ·intro i o hi hl ho vs w m hE hM hV hD
  rw [hds,hA]
  have ho' : (ops.toList.take n)[i]? = some o := by rw [List.getElem?_take_of_lt hi];simpa using ho
  exact allLate_at hlate ho' hl vs w m hE hM hV (depFacts_of fun e he => hD e (by simpa using he))
 ·intro vs w m hE hM hV hF hD
  rw [hds,hA]
  refine hrest vs w m hE hM hV (headFacts_of fun i o d ho hd => ?_) hD
  rw [Nat.zero_add]
  have hlt : i < (ops.toList.take n).length := (List.getElem?_eq_some_iff.1 ho).1
  have hi : i < n := by rw [List.length_take] at hlt;omega
  rw [List.getElem?_take_of_lt hi] at ho
  exact hF i o d hi (by simpa using ho) hd
theorem wp_region_by2 {id : Nat} {a0 : Act} {w0 m0 : World} (n : Nat) (fl lt : List Bool) (Φ : List Fct) (hV0 : Vw m0 w0) (hm : P.follows .mixedOrders = true)
  (ds : List Nat) (A : (Nat → Value) → Act) (hds : dsts ops n = ds) (hA : ∀ vs,lay ds vs a0 = A vs) (hchk : (distinctB ops n && textB ops && lateB ops n (lt.getD · false)) = true)
  (hfl : ((List.range n).all fun i => !lt.getD i false || !fl.getD i false) = true) (hll : lt.length ≤ n)
  (hstep : allSteps2 (fun o f b => ∀ vs w m,Ext w0 w → Ext m0 m → Vw m w → depFacts ops n (fun j d => ∃ u um,Ext u w ∧ Ext um m ∧ fct Φ j (vs d) u um) o.after.toList →
   wpList P ops (One2 f b (A vs) o.dst w m) [o] (A vs) w) (ops.toList.take n) Φ fl)
  (hlate : allLate (fun o f => ∀ vs w m,Ext w0 w → Ext m0 m → Vw m w → depFacts ops n (fun j d => ∃ u um,Ext u w ∧ Ext um m ∧ fct Φ j (vs d) u um) o.after.toList →
   ∃ v,Yields P ops o v (A vs) ∧ f v w m) (ops.toList.take n) Φ lt)
  (hrest : ∀ vs w m,Ext w0 w → Ext m0 m → Vw m w → headFacts (fun j d => ∃ u um,Ext u w ∧ Ext um m ∧ fct Φ j (vs d) u um) 0 (ops.toList.take n) →
   (∀ i j o p d c,i < n → j < n → i ≠ j → ops[i]? = some o → ops[j]? = some p → o.dst = some d → p.dst = some c → fl.getD i false = true → fl.getD j false = true → ∀ k,blkOf (vs d) = some k → blkOf (vs c) ≠ some k) →
   wpList P ops (QN Q) (ops.toList.drop n) (A vs) w) : (Code.region id ops true).wp P Q a0 w0 :=
 wp_of_any hm (region_by2 n fl lt Φ hV0 hm ds A hds hA hchk hfl hll hstep hlate hrest)

theorem One2.still {Φ : Value → World → World → Prop} {a : Act} {dst : Option Nat} {w m : World} {v : Value} (hV : Vw m w) (h : Φ v w m) : One2 Φ false a dst w m .normal (a.put dst v) w :=
 ⟨rfl,Ext.refl _,m,v,Ext.refl _,hV,rfl,h,(fun h => by cases h)⟩
theorem One2.call {Φ : Value → World → World → Prop} {a : Act} {dst : Option Nat} {w m w' m' : World} {v : Value} (hE : Ext w w') (hM : Ext m m') (hV : Vw m' w') (h : Φ v w' m') : One2 Φ false a dst w m .normal (a.put dst v) w' :=
 ⟨rfl,hE,m',v,hM,hV,rfl,h,(fun h => by cases h)⟩
theorem one2_alloc {o : Oper} {a : Act} {dst : Option Nat} {B : Nat} {W1 m1 : World} {t : TypeId} {cs : Array Value} (hV : Vw m1 W1) (hE : B ≤ W1.heap.size) (hd : o.dst = dst) (hgd : o.guard = none) (ho : o.op = .alloc t) (hz : zc P t = some cs) :
  wpList P ops (One2 (NewBlk B t cs) true a dst W1 m1) [o] a W1 := by
 subst hd
 refine wpList_plain hgd fun _ hK => op_alloc ho hz (hK _ _ ?_)
 have h := (Loc.start hV).alloc cs t
 refine ⟨rfl,h.ext,_,_,h.mext,h.vw,rfl,⟨W1.heap.size,rfl,hE,by simp [hV.size],h.at_ (n := 0) rfl,fun a ha => h.hid (W1.heap.size,t,cs) (by simp) a ha⟩,fun _ k hk => ?_⟩
 have e : W1.heap.size = k := Option.some.inj hk
 subst e
 exact ⟨Nat.le_refl _,by simp⟩
def NewRow (B : Nat) (e : TypeId) (cs : Array Value) (n : Nat) (v : Value) (u um : World) : Prop :=
 ∃ g,v = .slice (some ⟨g,0,none⟩) n n ∧ B ≤ g ∧ g < um.heap.size ∧ Blk u g e cs ∧ ∀ a : Addr,a.block = g → um.cell? a = none
theorem Loc.add2 {w0 m0 W m u um : World} {B : Nat} {Ls Lt : List Lo} (hB1 : ∀ x ∈ Ls,x.1 < B) (hB2 : w0.heap.size ≤ B) (hL : Loc w0 m0 W m (Lt ++ Ls)) {t : TypeId} {cs : Array Value} {g : Nat}
  (h1 : B ≤ g) (h2 : g < um.heap.size) (h3 : Blk u g t cs) (h4 : ∀ a : Addr,a.block = g → um.cell? a = none) (hu : Ext u W) (hum : Ext um m) (hne : ∀ x ∈ Lt,some g ≠ some x.1) : Loc w0 m0 W m (((g,t,cs) :: Lt) ++ Ls) := by
 refine ⟨hL.size0,hL.ext,hL.mext,hL.vw,?_,?_,?_,?_⟩
 ·intro x hx
  rcases List.mem_cons.1 hx with rfl | hx
  ·exact Nat.le_trans hB2 h1
  ·exact hL.low x hx
 ·intro x hx
  rcases List.mem_cons.1 hx with rfl | hx
  ·exact h3.ext hu
  ·exact hL.blk x hx
 ·intro x hx a ha
  rcases List.mem_cons.1 hx with rfl | hx
  ·rw [hum.cell (p := a) (by rw [ha];exact h2)]
   exact h4 a ha
  ·exact hL.hid x hx a ha
 ·refine List.Pairwise.cons (fun y hy => ?_) hL.apart
  rcases List.mem_append.1 hy with hy | hy
  ·intro e
   exact hne y hy (congrArg some e)
  ·have := hB1 y hy
   show g ≠ y.1
   omega
theorem Loc.addB {w0 m0 W m u um : World} {B : Nat} {Ls Lt : List Lo} (hB1 : ∀ x ∈ Ls,x.1 < B) (hB2 : w0.heap.size ≤ B) (hL : Loc w0 m0 W m (Lt ++ Ls)) {t : TypeId} {cs : Array Value} {v : Value} (f : NewBlk B t cs v u um)
  (hu : Ext u W) (hum : Ext um m) (hne : ∀ x ∈ Lt,blkOf v ≠ some x.1) : ∃ g,v = .pointer (some ⟨g,0,none⟩) ∧ Loc w0 m0 W m (((g,t,cs) :: Lt) ++ Ls) := by
 obtain ⟨g,rfl,h1,h2,h3,h4⟩ := f
 exact ⟨g,rfl,Loc.add2 hB1 hB2 hL h1 h2 h3 h4 hu hum hne⟩
theorem ad0 {v : Value} : ∀ y ∈ ([] : List Lo),blkOf v ≠ some y.1 := fun _ h => by cases h
end
end Go.Proofs.YtabmjadcoepbeaaGreat

/- Rows that a function builds by append, hidden from the view until they are shown; slices of values under a view. No program. -/
namespace Go.Proofs.YtabmjadcoepbeaaGreat
open Go.RowKit

def Row (e : TypeId) (size : Nat) (v : Value) (n : Nat) (xs : List Value) (R : List Lo) : Prop :=
 xs.length = n * size ∧
  ((v = .slice none 0 0 ∧ n = 0 ∧ R = []) ∨
   ∃ g cap cur,v = .slice (some ⟨g,0,none⟩) n cap ∧ R = [(g,e,cur)] ∧ n ≤ cap ∧ cap ≤ maxLen ∧ cur.size = cap * size ∧ cur.toList.take (n * size) = xs)
theorem Row.nil (e : TypeId) (size : Nat) : Row e size (.slice none 0 0) 0 [] [] := ⟨by simp,.inl ⟨rfl,rfl,rfl⟩⟩
theorem Row.lit {e : TypeId} {size : Nat} {v : Value} {n : Nat} {xs : List Value} {R : List Lo} (h : Row e size v n xs R) : ∃ A c,v = .slice A n c ∧ n ≤ c := by
 obtain ⟨_,⟨rfl,rfl,_⟩ | ⟨g,cap,cur,rfl,_,h,_⟩⟩ := h
 ·exact ⟨_,_,rfl,Nat.le_refl _⟩
 ·exact ⟨_,_,rfl,h⟩
theorem Row.len {e : TypeId} {size : Nat} {v : Value} {n : Nat} {xs : List Value} {R : List Lo} (h : Row e size v n xs R) : xs.length = n * size := h.1

theorem Loc.perm {w0 m0 W m : World} {A B : List Lo} (h : Loc w0 m0 W m A) (hp : A.Perm B) : Loc w0 m0 W m B :=
 ⟨h.size0,h.ext,h.mext,h.vw,fun x hx => h.low x (hp.mem_iff.2 hx),fun x hx => h.blk x (hp.mem_iff.2 hx),fun x hx => h.hid x (hp.mem_iff.2 hx),
  hp.pairwise h.apart fun h => fun e => h e.symm⟩
theorem Loc.tail {w0 m0 W m : World} {x : Lo} {A : List Lo} (h : Loc w0 m0 W m (x :: A)) : Loc w0 m0 W m A :=
 ⟨h.size0,h.ext,h.mext,h.vw,fun y hy => h.low y (List.mem_cons_of_mem _ hy),fun y hy => h.blk y (List.mem_cons_of_mem _ hy),fun y hy => h.hid y (List.mem_cons_of_mem _ hy),(List.pairwise_cons.1 h.apart).2⟩
theorem Loc.own {w0 m0 W m : World} {A R : List Lo} (hL : Loc w0 m0 W m (A ++ R)) {e : TypeId} {size : Nat} {v : Value} {n : Nat} {xs : List Value} (hR : Row e size v n xs R) : W.ownsRow w0.heap.size e size v n xs := by
 obtain ⟨h1,⟨rfl,rfl,_⟩ | ⟨g,cap,cur,rfl,rfl,h⟩⟩ := hR
 ·exact ⟨h1,.inl ⟨rfl,rfl⟩⟩
 ·have hm : (g,e,cur) ∈ A ++ [(g,e,cur)] := by simp
  exact ⟨h1,.inr ⟨g,cap,cur,rfl,hL.low _ hm,hL.blk _ hm,h⟩⟩

def hidTo (m : World) (n : Nat) : World := { m with heap := m.heap ++ Array.replicate (n - m.heap.size) (.cells #[] 0 (0,0)) }
theorem hidTo_size {m : World} {n : Nat} (h : m.heap.size ≤ n) : (hidTo m n).heap.size = n := by simp [hidTo];omega
theorem hidTo_old {m : World} {n k : Nat} (h : k < m.heap.size) : (hidTo m n).heap[k]? = m.heap[k]? := by simp [hidTo,Array.getElem?_append,h]
theorem hidTo_ext {m : World} {n : Nat} (h : m.heap.size ≤ n) : Ext m (hidTo m n) := ⟨rfl,rfl,rfl,by rw [hidTo_size h];exact h,fun _ hk => hidTo_old hk⟩
theorem hidTo_new {m : World} {n : Nat} {a : Addr} (h : m.heap.size ≤ a.block) : (hidTo m n).cell? a = none := by
 obtain ⟨b,o,s⟩ := a
 simp only at h
 unfold World.cell?
 by_cases hb : b < n
 ·have : (hidTo m n).heap[b]? = some (.cells #[] 0 (0,0)) := by
   simp only [hidTo,Array.getElem?_append,Nat.not_lt.2 h,if_false]
   rw [Array.getElem?_replicate];rw [if_pos (by omega)]
  rw [this];cases s <;> simp
 ·have : (hidTo m n).heap[b]? = none := by
   apply Array.getElem?_eq_none
   simp [hidTo];omega
  rw [this]

theorem Loc.grown {w0 m0 W m W' : World} {A R R' : List Lo} (hL : Loc w0 m0 W m (A ++ R)) {row : Option Nat} (hg : W.grownBy W' row) (hrow : ∀ k,row = some k → ∃ x ∈ R,x.1 = k)
  (hR' : ∀ x ∈ R',Blk W' x.1 x.2.1 x.2.2 ∧ ((∃ y ∈ R,y.1 = x.1) ∨ x.1 = W.heap.size)) (hone : R'.length ≤ 1) : Loc w0 m0 W' (hidTo m W'.heap.size) (A ++ R') := by
 have hs : m.heap.size ≤ W'.heap.size := by rw [hL.vw.size];exact hg.size
 have hrow' : ∀ k,row = some k → w0.heap.size ≤ k := fun k hk => by
  obtain ⟨x,hx,rfl⟩ := hrow k hk
  exact hL.low x (List.mem_append_right _ hx)
 have hap := List.pairwise_append.1 hL.apart
 refine ⟨hL.size0,hL.ext.grown hg hrow',hL.mext.trans (hidTo_ext hs),⟨hL.vw.os.trans hg.os.symm,hL.vw.tape.trans hg.tape.symm,hL.vw.output.trans hg.output.symm,hidTo_size hs,fun a u hu => ?_⟩,?_,?_,?_,?_⟩
 ·rcases Nat.lt_or_ge a.block m.heap.size with h | h
  ·have h2 : (hidTo m W'.heap.size).cell? a = m.cell? a := cell_of_heap (hidTo_old h)
   rw [h2] at hu
   have hne : some a.block ≠ row := fun he => by
    obtain ⟨x,hx,hxa⟩ := hrow a.block he.symm
    rw [hL.hid x (List.mem_append_right _ hx) a hxa.symm] at hu;cases hu
   rw [cell_of_heap (hg.block a.block (by rw [← hL.vw.size];exact h) hne)]
   exact hL.vw.cell _ _ hu
  ·rw [hidTo_new h] at hu;cases hu
 ·intro x hx
  rcases List.mem_append.1 hx with hx | hx
  ·exact hL.low x (List.mem_append_left _ hx)
  ·rcases (hR' x hx).2 with ⟨y,hy,e⟩ | e
   ·rw [← e];exact hL.low y (List.mem_append_right _ hy)
   ·rw [e];exact hL.ext.size
 ·intro x hx
  rcases List.mem_append.1 hx with hx | hx
  ·have hb := hL.blk x (List.mem_append_left _ hx)
   refine (hg.block x.1 hb.lt fun he => ?_).trans hb
   obtain ⟨y,hy,e⟩ := hrow x.1 he.symm
   exact hap.2.2 x hx y hy e.symm
  ·exact (hR' x hx).1
 ·intro x hx a ha
  have old : ∀ y ∈ A ++ R,y.1 = x.1 → (hidTo m W'.heap.size).cell? a = none := fun y hy e => by
   have hlt : a.block < m.heap.size := by rw [ha,← e,hL.vw.size];exact (hL.blk y hy).lt
   rw [cell_of_heap (hidTo_old hlt)]
   exact hL.hid y hy a (ha.trans e.symm)
  rcases List.mem_append.1 hx with hx | hx
  ·exact old x (List.mem_append_left _ hx) rfl
  ·rcases (hR' x hx).2 with ⟨y,hy,e⟩ | e
   ·exact old y (List.mem_append_right _ hy) e
   ·exact hidTo_new (by rw [ha,e,hL.vw.size];exact Nat.le_refl _)
 ·refine List.pairwise_append.2 ⟨hap.1,?_,fun x hx y hy => ?_⟩
  ·match R',hone with
   | [],_ => exact List.Pairwise.nil
   | [x],_ => exact List.pairwise_singleton _ _
  ·rcases (hR' y hy).2 with ⟨z,hz,e⟩ | e
   ·rw [← e];exact hap.2.2 x hx z hz
   ·have := (hL.blk x (List.mem_append_left _ hx)).lt
    rw [e];exact Nat.ne_of_lt this

def apS (P : Program) (t : TypeId) : Option (TypeId × Nat × Nat × Nat) :=
 match P.underlying t with
 | some (.slice e) => (P.info? e).bind fun i => i.zero.map fun z => (e,i.size,i.bytes,z.cells.size)
 | _ => none
theorem ap_desc {P : Program} {t e : TypeId} {size bytes zs : Nat} (h : apS P t = some (e,size,bytes,zs)) : ∃ i z,P.underlying t = some (.slice e) ∧ P.info? e = some i ∧ i.zero = some z ∧ i.size = size ∧ i.bytes = bytes ∧ z.cells.size = zs := by
 unfold apS at h
 split at h
 ·rename_i e' he
  cases hi : P.info? e' with
  | none => simp [hi] at h
  | some i =>
   cases hz : i.zero with
   | none => simp [hi,hz] at h
   | some z =>
    simp [hi,hz] at h
    obtain ⟨rfl,rfl,rfl,rfl⟩ := h
    exact ⟨i,z,he,hi,hz,rfl,rfl,rfl⟩
 ·cases h

section
variable {P : Program} {ops : Array Oper} {Q : Exit → Act → World → Prop} {rest : List Oper} {o : Oper} {a : Act} {w0 m0 W m : World}
theorem wl_append {A R : List Lo} (hL : Loc w0 m0 W m (A ++ R)) {e : TypeId} {size : Nat} {v : Value} {n : Nat} {xs : List Value} (hR : Row e size v n xs R)
  (hw : Region.wanted o (yielded ops a.tmps) = true) {s x : Operand} {t : TypeId} (ho : o.op = .call { callee := .builtin .append,args := #[s,x],argTypes := #[t,t] })
  {bytes : Nat} (hap : apS P t = some (e,size,bytes,size)) (hsz : 0 < size) (hs : a.eval s = v) {B : Option Addr} {k c : Nat} (hx : a.eval x = .slice B k c) {news : List Value}
  (hl : news.length = k * size) (hr : Sl W B news) (h1 : news.all (·.oneCell') = true) (hn : n + k ≤ 1000000) (hb : bytes ≤ 1000000)
  (h : ∀ v' W' m' R',Loc w0 m0 W' m' (A ++ R') → Row e size v' (n + k) (xs ++ news) R' → Ext m m' → wpList P ops Q rest (a.put o.dst v') W') : wpList P ops Q (o :: rest) a W := by
 obtain ⟨i,z,ht,hi,hz,hs1,hb1,hz1⟩ := ap_desc hap
 refine wpList_wanted hw fun K hK => ?_
 have hbb : (n + k) * bytes ≤ 140737488355328 := Nat.le_trans (Nat.mul_le_mul hn hb) (by decide)
 refine wp_append_any W s x t ho w0.heap.size e i z size bytes ht hi hz hs1 hb1 hz1 hsz v n xs hs (hL.own hR) B k c news hx hl hr (fun u hu => List.all_eq_true.1 h1 u hu) (Nat.le_trans hn (by decide)) hbb hL.ext.size ?_
 intro v' W' ho' hg hob
 refine hK _ _ ?_
 have hrow : ∀ j,v.ownBlock = some j → ∃ x ∈ R,x.1 = j := by
  intro j hj
  obtain ⟨_,⟨rfl,_,_⟩ | ⟨g,cap,cur,rfl,rfl,_⟩⟩ := hR
  ·simp [Value.ownBlock] at hj
  ·simp [Value.ownBlock] at hj
   exact ⟨_,List.mem_singleton.2 rfl,hj⟩
 have hE : Ext m (hidTo m W'.heap.size) := hidTo_ext (by rw [hL.vw.size];exact hg.size)
 obtain ⟨hlen,⟨rfl,h0⟩ | ⟨g,cap,cur,rfl,hge,hh,hnc,hcm,hcs,htk⟩⟩ := ho'
 ·exact h _ W' _ [] (hL.grown hg hrow (fun x hx => by cases hx) (by simp)) ⟨hlen,.inl ⟨rfl,h0,rfl⟩⟩ hE
 ·refine h _ W' _ [(g,e,cur)] (hL.grown hg hrow (fun x hx => ?_) (by simp)) ⟨hlen,.inr ⟨g,cap,cur,rfl,rfl,hnc,hcm,hcs,htk⟩⟩ hE
  rcases List.mem_singleton.1 hx with rfl
  refine ⟨hh,?_⟩
  rcases hob with hob | hob
  ·left
   obtain ⟨x,hx,hxe⟩ := hrow g (by rw [← hob];rfl)
   exact ⟨x,hx,hxe⟩
  ·right
   simpa [Value.ownBlock] using hob
end

def shown (m : World) (g : Nat) (t : TypeId) (cs : Array Value) : World := { m with heap := m.heap.setIfInBounds g (.cells cs t (0,0)) }
theorem shown_size (m : World) (g : Nat) (t : TypeId) (cs : Array Value) : (shown m g t cs).heap.size = m.heap.size := by simp [shown]
theorem shown_other (m : World) {g k : Nat} (t : TypeId) (cs : Array Value) (h : k ≠ g) : (shown m g t cs).heap[k]? = m.heap[k]? := by
 simp only [shown,Array.getElem?_setIfInBounds]
 rw [if_neg (by omega)]
theorem shown_at (m : World) {g : Nat} (t : TypeId) (cs : Array Value) (h : g < m.heap.size) : Blk (shown m g t cs) g t cs := by
 unfold Blk shown
 simp [h]
theorem Loc.show1 {w0 m0 W m : World} {A : List Lo} {g : Nat} {t : TypeId} {cur : Array Value} (hL : Loc w0 m0 W m (A ++ [(g,t,cur)])) (k : Nat) :
  ∃ m',Loc w0 m0 W m' A ∧ Le m m' ∧ Sl m' (some ⟨g,0,none⟩) (cur.toList.take k) := by
 have hm : (g,t,cur) ∈ A ++ [(g,t,cur)] := by simp
 have hb := hL.blk _ hm
 have hlt : g < m.heap.size := by rw [hL.vw.size];exact hb.lt
 have hap := List.pairwise_append.1 hL.apart
 have hle : Le m (shown m g t (cur.toList.take k).toArray) := ⟨by rw [shown_size];exact Nat.le_refl _,fun a u hu => by
  have hne : a.block ≠ g := fun e => by rw [hL.hid _ hm a e] at hu;cases hu
  rw [cell_of_heap (shown_other m t _ hne)];exact hu⟩
 have hbs := shown_at m t (cur.toList.take k).toArray hlt
 refine ⟨shown m g t (cur.toList.take k).toArray,⟨hL.size0,hL.ext,⟨hL.mext.os,hL.mext.tape,hL.mext.output,by rw [shown_size];exact hL.mext.size,fun j hj => ?_⟩,⟨hL.vw.os,hL.vw.tape,hL.vw.output,by rw [shown_size];exact hL.vw.size,fun a u hu => ?_⟩,
  fun x hx => hL.low x (List.mem_append_left _ hx),fun x hx => hL.blk x (List.mem_append_left _ hx),fun x hx a ha => ?_,hap.1⟩,hle,hbs.sl (n := k) (by simp [List.take_take])⟩
 ·rw [shown_other m t _ (by have := hL.low _ hm;have := hL.size0;simp only at *;omega)]
  exact hL.mext.block j hj
 ·by_cases e : a.block = g
  ·obtain ⟨b,o,s⟩ := a
   simp only at e
   subst e
   unfold World.cell? at hu ⊢
   rw [hbs] at hu
   have hb' : W.heap[b]? = some (.cells cur t (0,0)) := hb
   rw [hb']
   have key : ∀ v,(List.take k cur.toList).toArray[o]? = some v → cur[o]? = some v := fun v hv => by
    rw [List.getElem?_toArray,List.getElem?_take] at hv
    by_cases ho : o < k
    ·rw [if_pos ho] at hv;simpa using hv
    ·rw [if_neg ho] at hv;cases hv
   cases hq : (List.take k cur.toList).toArray[o]? with
   | none => cases s <;> simp [hq] at hu
   | some v =>
    have := key v hq
    simp only [hq] at hu
    simp only [this]
    exact hu
  ·rw [cell_of_heap (shown_other m t _ e)] at hu
   exact hL.vw.cell _ _ hu
 ·have hne : a.block ≠ g := by rw [ha];exact hap.2.2 x hx _ (List.mem_singleton.2 rfl)
  rw [cell_of_heap (shown_other m t _ hne)]
  exact hL.hid x (List.mem_append_left _ hx) a ha
theorem Loc.show {w0 m0 W m : World} {A R : List Lo} (hL : Loc w0 m0 W m (A ++ R)) {e : TypeId} {size : Nat} {v : Value} {n : Nat} {xs : List Value} (hR : Row e size v n xs R) :
  ∃ m' B c,Loc w0 m0 W m' A ∧ Le m m' ∧ v = .slice B n c ∧ n ≤ c ∧ Sl m' B xs ∧ W.ownsRow w0.heap.size e size v n xs := by
 have ho := hL.own hR
 obtain ⟨h1,⟨rfl,rfl,rfl⟩ | ⟨g,cap,cur,rfl,rfl,hn,_,_,ht⟩⟩ := hR
 ·rw [List.append_nil] at hL
  have : xs = [] := List.eq_nil_of_length_eq_zero (by simpa using h1)
  subst this
  exact ⟨m,none,0,hL,Le.refl _,rfl,Nat.le_refl _,Sl.nil,ho⟩
 ·obtain ⟨m',h1,h2,h3⟩ := hL.show1 (n * size)
  rw [ht] at h3
  exact ⟨m',_,_,h1,h2,rfl,hn,h3,ho⟩

def RetW (w m : World) (R : World → World → Value → Prop) (e : Ending) (w' : World) : Prop :=
 ∃ v m',e = .returned v ∧ Ext w w' ∧ Ext m m' ∧ Vw m' w' ∧ R w' m' v
theorem RetW.mk {w m W m' : World} {R : World → World → Value → Prop} {v : Value} {Ls : List Lo} (hL : Loc w m W m' Ls) (h : R W m' v) : RetW w m R (.returned v) W := ⟨v,m',rfl,hL.ext,hL.mext,hL.vw,h⟩

def cellsOf (vs : List Value) : List Value := vs.flatMap fun v => v.cells.toList
theorem cellsOf_append (a b : List Value) : cellsOf (a ++ b) = cellsOf a ++ cellsOf b := by simp [cellsOf]
theorem cellsOf_one (v : Value) : cellsOf [v] = v.cells.toList := by simp [cellsOf]
theorem cellsOf_at {size : Nat} : ∀ {vs : List Value} {k : Nat} {v : Value},(∀ u ∈ vs,u.cells.size = size) → vs[k]? = some v → ∀ j,j < size → (cellsOf vs)[k * size + j]? = v.cells.toList[j]?
 | [],k,v,_,h,_,_ => by simp at h
 | u :: vs,0,v,hs,h,j,hj => by
  simp at h;subst h
  have : j < u.cells.toList.length := by simpa [hs u (by simp)] using hj
  simp only [cellsOf,List.flatMap_cons,Nat.zero_mul,Nat.zero_add]
  rw [List.getElem?_append_left this]
 | u :: vs,k + 1,v,hs,h,j,hj => by
  simp at h
  have hl : u.cells.toList.length = size := by simpa using hs u (by simp)
  have ih := cellsOf_at (vs := vs) (k := k) (fun x hx => hs x (by simp [hx])) h j hj
  simp only [cellsOf,List.flatMap_cons]
  rw [List.getElem?_append_right (by rw [hl,Nat.succ_mul];omega),hl,show (k + 1) * size + j - size = k * size + j by rw [Nat.succ_mul];omega]
  exact ih
theorem cellsOf_length {size : Nat} : ∀ {vs : List Value},(∀ u ∈ vs,u.cells.size = size) → (cellsOf vs).length = vs.length * size
 | [],_ => by simp [cellsOf]
 | u :: vs,h => by
  have ih := cellsOf_length (vs := vs) fun x hx => h x (by simp [hx])
  have hl : u.cells.toList.length = size := by simpa using h u (by simp)
  simp only [cellsOf,List.flatMap_cons,List.length_append,hl,List.length_cons,Nat.succ_mul]
  simp only [cellsOf] at ih
  omega

def All2 {α : Type} (R : Value → α → Prop) : List Value → List α → Prop
 | [],[] => True
 | v :: vs,x :: xs => R v x ∧ All2 R vs xs
 | _,_ => False
theorem All2.length {α : Type} {R : Value → α → Prop} : ∀ {vs : List Value} {xs : List α},All2 R vs xs → vs.length = xs.length
 | [],[],_ => rfl
 | _ :: _,_ :: _,h => by simp [All2.length h.2]
 | [],_ :: _,h => h.elim
 | _ :: _,[],h => h.elim
theorem All2.at_ {α : Type} {R : Value → α → Prop} : ∀ {vs : List Value} {xs : List α},All2 R vs xs → ∀ {k : Nat} {x : α},xs[k]? = some x → ∃ v,vs[k]? = some v ∧ R v x
 | v :: vs,x :: xs,h,0,y,e => by simp at e;subst e;exact ⟨v,rfl,h.1⟩
 | v :: vs,x :: xs,h,k + 1,y,e => by simp at e;simpa using All2.at_ h.2 e
 | [],[],_,_,_,e => by simp at e
 | [],_ :: _,h,_,_,_ => h.elim
 | _ :: _,[],h,_,_,_ => h.elim
theorem All2.left {α : Type} {R : Value → α → Prop} : ∀ {vs : List Value} {xs : List α},All2 R vs xs → ∀ {k : Nat} {v : Value},vs[k]? = some v → ∃ x,R v x
 | v :: vs,x :: xs,h,0,y,e => by simp at e;subst e;exact ⟨x,h.1⟩
 | v :: vs,x :: xs,h,k + 1,y,e => by simp at e;exact All2.left h.2 e
 | [],[],_,_,_,e => by simp at e
 | [],_ :: _,h,_,_,_ => h.elim
 | _ :: _,[],h,_,_,_ => h.elim
theorem All2.mono {α : Type} {R S : Value → α → Prop} (hRS : ∀ v x,R v x → S v x) : ∀ {vs : List Value} {xs : List α},All2 R vs xs → All2 S vs xs
 | [],[],_ => trivial
 | _ :: _,_ :: _,h => ⟨hRS _ _ h.1,All2.mono hRS h.2⟩
 | [],_ :: _,h => h.elim
 | _ :: _,[],h => h.elim
theorem All2.snoc {α : Type} {R : Value → α → Prop} {v : Value} {x : α} (hv : R v x) : ∀ {vs : List Value} {xs : List α},All2 R vs xs → All2 R (vs ++ [v]) (xs ++ [x])
 | [],[],_ => ⟨hv,trivial⟩
 | _ :: _,_ :: _,h => ⟨h.1,All2.snoc hv h.2⟩
 | [],_ :: _,h => h.elim
 | _ :: _,[],h => h.elim

def ListV {α : Type} (size : Nat) (R : World → Value → α → Prop) (m : World) (v : Value) (xs : List α) : Prop :=
 ∃ A c vs,v = .slice A xs.length c ∧ xs.length ≤ c ∧ (∀ u ∈ vs,u.cells.size = size) ∧ Sl m A (cellsOf vs) ∧ All2 (R m) vs xs
theorem ListV.lit {α : Type} {size : Nat} {R : World → Value → α → Prop} {m : World} {v : Value} {xs : List α} (h : ListV size R m v xs) : ∃ A c,v = .slice A xs.length c ∧ xs.length ≤ c ∧ ListV size R m (.slice A xs.length c) xs := by
 have h' := h
 obtain ⟨A,c,vs,rfl,hc,_⟩ := h
 exact ⟨A,c,rfl,hc,h'⟩
theorem ListV.le {α : Type} {size : Nat} {R : World → Value → α → Prop} (hR : ∀ m m' v x,R m v x → Le m m' → R m' v x) {m m' : World} {v : Value} {xs : List α} (h : ListV size R m v xs) (hb : Le m m') : ListV size R m' v xs := by
 obtain ⟨A,c,vs,e,hc,h1,h2,h3⟩ := h
 exact ⟨A,c,vs,e,hc,h1,h2.le hb,h3.mono fun v x hv => hR m m' v x hv hb⟩
theorem ListV.at_ {α : Type} {size : Nat} {R : World → Value → α → Prop} {m : World} {A : Option Addr} {n c : Nat} {xs : List α} (h : ListV size R m (.slice A n c) xs) (h0 : 0 < size) {k : Nat} {x : α} (hk : xs[k]? = some x) :
  ∃ b off v,A = some ⟨b,off,none⟩ ∧ R m v x ∧ v.cells.size = size ∧ m.rangeAt b (off + k * size) v.cells.toList := by
 obtain ⟨A',c',vs,e,hc,h1,h2,h3⟩ := h
 injection e with e1 e2 e3
 subst e1
 obtain ⟨v,hv,hR⟩ := h3.at_ hk
 have hvm : v ∈ vs := List.mem_of_getElem? hv
 have hkl : k < vs.length := (List.getElem?_eq_some_iff.1 hv).1
 have hlen := cellsOf_length h1
 have hpos : 0 < (cellsOf vs).length := by rw [hlen];exact Nat.mul_pos (by omega) h0
 obtain ⟨b,off,rfl,hlt,hcell⟩ := h2 hpos
 refine ⟨b,off,v,rfl,hR,h1 v hvm,fun j u hu => ?_⟩
 have hj : j < size := by
  have := (List.getElem?_eq_some_iff.1 hu).1
  simpa [h1 v hvm] using this
 rw [Nat.add_assoc]
 exact hcell (k * size + j) u ((cellsOf_at h1 hv j hj).trans hu)
theorem ListV.nil {α : Type} {size : Nat} {R : World → Value → α → Prop} {m : World} {A : Option Addr} {c : Nat} : ListV size R m (.slice A 0 c) [] := ⟨A,c,[],rfl,Nat.zero_le _,(fun _ h => by cases h),Sl.nil,trivial⟩
theorem ListV.mk {α : Type} {size : Nat} {R : World → Value → α → Prop} {m : World} {A : Option Addr} {n c : Nat} {vs : List Value} {xs : List α} (hn : n ≤ c) (hl : vs.length = n) (h1 : ∀ u ∈ vs,u.cells.size = size) (h2 : Sl m A (cellsOf vs)) (h3 : All2 (R m) vs xs) :
  ListV size R m (.slice A n c) xs := by
 have := h3.length
 have e : n = xs.length := by omega
 subst e
 exact ⟨A,c,vs,rfl,hn,h1,h2,h3⟩
class ApC (P : Program) (t : TypeId) (e : outParam TypeId) (size bytes : outParam Nat) : Prop where
 h : apS P t = some (e,size,bytes,size)
section
variable {P : Program} {ops : Array Oper} {Q : Exit → Act → World → Prop} {rest : List Oper} {o : Oper} {a : Act} {W m : World}
theorem wl_loadV (hV : Vw m W) (hw : Region.wanted o (yielded ops a.tmps) = true) {ty : TypeId} {x : Operand} (ho : o.op = .load ty x) {g off : Nat} (hx : a.eval x = .pointer (some ⟨g,off,none⟩))
  {k : Nat} (hty : agS P ty = some k) {vs : List Value} (hr : m.rangeAt g off vs) (hk : vs.length = k)
  (h : wpList P ops Q rest (a.put o.dst (.agg vs.toArray)) W) : wpList P ops Q (o :: rest) a W :=
 wpList_wanted hw fun _ hK => op_load ho hx (vs := vs) (hk ▸ hty) (fun j v hv => hV.cell _ _ (hr j v hv)) (hK _ _ h)
theorem wl_loadV1 (hV : Vw m W) (hw : Region.wanted o (yielded ops a.tmps) = true) {ty : TypeId} {x : Operand} (ho : o.op = .load ty x) {g off : Nat} (hx : a.eval x = .pointer (some ⟨g,off,none⟩))
  (hty : lfB P ty = true) {v : Value} (hr : m.cell? ⟨g,off,none⟩ = some v)
  (h : wpList P ops Q rest (a.put o.dst v) W) : wpList P ops Q (o :: rest) a W :=
 wpList_wanted hw fun _ hK => op_load1 ho hx hty (hV.cell _ _ hr) (hK _ _ h)
theorem wl_indexAddr (hw : Region.wanted o (yielded ops a.tmps) = true) {t : TypeId} {s i : Operand} (ho : o.op = .indexAddr t s i) {e : TypeId} {size bytes zs : Nat} (hap : apS P t = some (e,size,bytes,zs))
  {b off n c k : Nat} {kd : IntKind} (hs : a.eval s = .slice (some ⟨b,off,none⟩) n c) (hi : a.eval i = .int kd k) (hk : k < n)
  (h : wpList P ops Q rest (a.put o.dst (.pointer (some ⟨b,off + k * size,none⟩))) W) : wpList P ops Q (o :: rest) a W := by
 obtain ⟨ti,z,ht,hti,hz,hs1,hb1,hz1⟩ := ap_desc hap
 have hrun : (Instr.indexAt t (.slice (some ⟨b,off,none⟩) n c) (.int kd k)).run P W = .ok (.pointer (some ⟨b,off + k * size,none⟩)) W := by
  unfold Instr.indexAt
  have h1 : (0 : Int) ≤ (k : Int) ∧ (k : Int) < n := by omega
  simp [asIntOf,Sem.run_bind,run_underlying ht,sizeOf,typeInfo,hti,hs1,h1,Addr.add,hk]
 refine wpList_wanted hw fun _ hK => ?_
 unfold Oper.wp execOp
 simp only [ho,hs,hi,Sem.run_bind,hrun,Result.andThen_ok,Sem.run_pure]
 exact hK _ _ h
theorem cell_le {m m' : World} {p : Addr} {v : Value} (h : m.cell? p = some v) (hl : Le m m') : m'.cell? p = some v := hl.cell _ _ h
theorem rangeAt_le {m m' : World} {g off : Nat} {vs : List Value} (h : m.rangeAt g off vs) (hl : Le m m') : m'.rangeAt g off vs := fun j v hv => hl.cell _ _ (h j v hv)
def fdS (P : Program) (t : TypeId) (k : Nat) : Option Nat :=
 match P.underlying t with
 | some (.struct fs) => (fs[k]?).bind fun f => match P.info? f.type with | some i => if i.size = 0 then none else some f.offset | none => none
 | _ => none
theorem run_fieldAt {t : TypeId} {k fo : Nat} (hf : fdS P t k = some fo) (g off : Nat) (w : World) : (Instr.fieldAt t (.pointer (some ⟨g,off,none⟩)) k).run P w = .ok (.pointer (some ⟨g,off + fo,none⟩)) w := by
 unfold fdS at hf
 split at hf
 ·rename_i fs hu
  cases hk : fs[k]? with
  | none => simp [hk] at hf
  | some f =>
   cases hi : P.info? f.type with
   | none => simp [hk,hi] at hf
   | some i =>
    simp only [hk,hi,Option.bind_some] at hf
    split at hf
    ·cases hf
    ·rename_i hne
     injection hf with hf
     subst hf
     unfold Instr.fieldAt fieldPlace
     rw [Sem.run_bind,run_underlying hu w]
     simp [hk,Instr.sureAddr,sizeOf,typeInfo,hi,hne,Addr.add]
 ·cases hf
theorem wl_fieldAddr (hw : Region.wanted o (yielded ops a.tmps) = true) {t : TypeId} {x : Operand} {k : Nat} (ho : o.op = .fieldAddr t x k) {fo : Nat} (hf : fdS P t k = some (fo + 1)) {g off : Nat} (hx : a.eval x = .pointer (some ⟨g,off,none⟩))
  (h : wpList P ops Q rest (a.put o.dst (.pointer (some ⟨g,off + (fo + 1),none⟩))) W) : wpList P ops Q (o :: rest) a W := by
 refine wpList_wanted hw fun _ hK => ?_
 unfold Oper.wp execOp
 simp only [ho,hx,Sem.run_bind,run_fieldAt hf,Result.andThen_ok,Sem.run_pure]
 exact hK _ _ h
theorem wl_fieldAddr0 (hw : Region.wanted o (yielded ops a.tmps) = true) {t : TypeId} {x : Operand} {k : Nat} (ho : o.op = .fieldAddr t x k) (hf : fdS P t k = some 0) {g off : Nat} (hx : a.eval x = .pointer (some ⟨g,off,none⟩))
  (h : wpList P ops Q rest (a.put o.dst (.pointer (some ⟨g,off,none⟩))) W) : wpList P ops Q (o :: rest) a W := by
 refine wpList_wanted hw fun _ hK => ?_
 unfold Oper.wp execOp
 simp only [ho,hx,Sem.run_bind,run_fieldAt hf,Result.andThen_ok,Sem.run_pure,Nat.add_zero]
 exact hK _ _ h
theorem op_make {K : Act → World → Prop} {t : TypeId} {x : Operand} (ho : o.op = .makeSlice t x x) {e : TypeId} {size bytes : Nat} (hap : apS P t = some (e,size,bytes,size)) {z : Array Value} (hz : zc P e = some z) {n : Nat} (hx : a.eval x = .int .i64 n)
  (hn : n ≤ 1000000) (hb : bytes ≤ 1000000) (h : K (a.put o.dst (.slice (some ⟨W.heap.size,0,none⟩) n n)) (W.alloc (.cells (madeCells z (n * size)) e))) : o.wp P a W K Q := by
 obtain ⟨i,z',ht,hi,hz',hs1,hb1,hz1⟩ := ap_desc hap
 have e1 : z = z'.cells := by
  unfold zc at hz
  rw [hi] at hz
  simp [hz'] at hz
  exact hz.symm
 subst e1
 have hbb : (i.bytes : Int) * (n : Int) ≤ 281474976710656 := by
  have : i.bytes * n ≤ 1000000 * 1000000 := Nat.mul_le_mul (by omega) hn
  have h2 : ((i.bytes * n : Nat) : Int) ≤ 281474976710656 := by omega
  rwa [Int.natCast_mul] at h2
 have hr := run_make (P := P) W t e i z' ht hi hz' .i64 .i64 n n (by omega) (Int.le_refl _) hbb (by omega)
 simp only [Int.toNat_natCast,hs1] at hr
 unfold Oper.wp execOp
 simp only [ho,hx,Sem.run_bind,hr,Result.andThen_ok,Sem.run_pure]
 exact h
theorem wl_make {w0 m0 : World} {Ls : List Lo} (hL : Loc w0 m0 W m Ls) (hw : Region.wanted o (yielded ops a.tmps) = true) {t : TypeId} {x : Operand} (ho : o.op = .makeSlice t x x) {e : TypeId} {size bytes : Nat} (hap : apS P t = some (e,size,bytes,size)) {z : Array Value} (hz : zc P e = some z)
  {n : Nat} (hx : a.eval x = .int .i64 n) (hn : n ≤ 1000000) (hb : bytes ≤ 1000000)
  (h : ∀ W' m',Loc w0 m0 W' m' ((W.heap.size,e,madeCells z (n * size)) :: Ls) → Ext m m' → wpList P ops Q rest (a.put o.dst (.slice (some ⟨W.heap.size,0,none⟩) n n)) W') : wpList P ops Q (o :: rest) a W :=
 wpList_wanted hw fun _ hK => op_make ho hap hz hx hn hb (hK _ _ (h _ _ (hL.alloc _ e) (Ext.new _ _)))
theorem one2_make {b : Bool} {dst : Option Nat} {B : Nat} {W1 m1 : World} (hV : Vw m1 W1) (hE : B ≤ W1.heap.size) (hd : o.dst = dst) (hgd : o.guard = none) {t : TypeId} {x : Operand} (ho : o.op = .makeSlice t x x) {e : TypeId} {size bytes : Nat} (hap : apS P t = some (e,size,bytes,size)) {z : Array Value} (hz : zc P e = some z)
  {n : Nat} (hx : a.eval x = .int .i64 n) (hn : n ≤ 1000000) (hb : bytes ≤ 1000000) :
  wpList P ops (One2 (NewRow B e (madeCells z (n * size)) n) b a dst W1 m1) [o] a W1 := by
 subst hd
 refine wpList_plain hgd fun _ hK => op_make ho hap hz hx hn hb (hK _ _ ?_)
 have h := (Loc.start hV).alloc (madeCells z (n * size)) e
 refine ⟨rfl,h.ext,_,_,h.mext,h.vw,rfl,⟨W1.heap.size,rfl,hE,by simp [hV.size],h.at_ (n := 0) rfl,fun a ha => h.hid (W1.heap.size,e,madeCells z (n * size)) (by simp) a ha⟩,fun _ k hk => ?_⟩
 have e : W1.heap.size = k := Option.some.inj hk
 subst e
 exact ⟨Nat.le_refl _,by simp⟩
theorem NewRow.ext {B : Nat} {e : TypeId} {cs : Array Value} {n : Nat} {v : Value} {u um u' um' : World} (h : NewRow B e cs n v u um) (hu : Ext u u') (hm : Ext um um') : NewRow B e cs n v u' um' := by
 obtain ⟨g,rfl,h1,h2,h3,h4⟩ := h
 exact ⟨g,rfl,h1,Nat.lt_of_lt_of_le h2 hm.size,h3.ext hu,fun a ha => by rw [hm.cell (p := a) (by rw [ha];exact h2)];exact h4 a ha⟩
theorem blk_ne {w : World} {g g' : Nat} {t t' : TypeId} {cs cs' : Array Value} (h : Blk w g t cs) (h' : Blk w g' t' cs') (hne : t ≠ t' ∨ cs.size ≠ cs'.size) : g ≠ g' := by
 rintro rfl
 unfold Blk at h h'
 rw [h] at h'
 simp only [Option.some.injEq,Obj.cells.injEq] at h'
 rcases hne with hne | hne
 ·exact hne h'.2.1
 ·exact hne (by rw [h'.1])
class FdC (P : Program) (t : TypeId) (k : Nat) (off : outParam Nat) : Prop where
 h : fdS P t k = some off
theorem t_ixa {t : TypeId} {s i : Operand} (ho : o.op = .indexAddr t s i) {e : TypeId} {size bytes : Nat} [hap : ApC P t e size bytes] {b off n c k : Nat} {kd : IntKind} (hs : a.eval s = .slice (some ⟨b,off,none⟩) n c) (hi : a.eval i = .int kd k)
  (h : wpList P ops Q rest (a.put o.dst (.pointer (some ⟨b,off + k * size,none⟩))) W) (hk : k < n := by first | with_reducible assumption | omega)
  (hw : Region.wanted o (yielded ops a.tmps) = true := by first | exact wanted_none rfl | exact wanted_some rfl rfl rfl rfl) : wpList P ops Q (o :: rest) a W := wl_indexAddr hw ho hap.h hs hi hk h
theorem t_fda {t : TypeId} {x : Operand} {k : Nat} (ho : o.op = .fieldAddr t x k) {fo : Nat} [hf : FdC P t k (fo + 1)] {g off : Nat} (hx : a.eval x = .pointer (some ⟨g,off,none⟩))
  (h : wpList P ops Q rest (a.put o.dst (.pointer (some ⟨g,off + (fo + 1),none⟩))) W)
  (hw : Region.wanted o (yielded ops a.tmps) = true := by first | exact wanted_none rfl | exact wanted_some rfl rfl rfl rfl) : wpList P ops Q (o :: rest) a W := wl_fieldAddr hw ho hf.h hx h
theorem t_fda0 {t : TypeId} {x : Operand} {k : Nat} (ho : o.op = .fieldAddr t x k) [hf : FdC P t k 0] {g off : Nat} (hx : a.eval x = .pointer (some ⟨g,off,none⟩))
  (h : wpList P ops Q rest (a.put o.dst (.pointer (some ⟨g,off,none⟩))) W)
  (hw : Region.wanted o (yielded ops a.tmps) = true := by first | exact wanted_none rfl | exact wanted_some rfl rfl rfl rfl) : wpList P ops Q (o :: rest) a W := wl_fieldAddr0 hw ho hf.h hx h
theorem t_loadV (hV : Vw m W) {ty : TypeId} {x : Operand} (ho : o.op = .load ty x) {g off : Nat} (hx : a.eval x = .pointer (some ⟨g,off,none⟩)) {k : Nat} [hty : AgC P ty k] {vs : List Value}
  (h : wpList P ops Q rest (a.put o.dst (.agg vs.toArray)) W) (hr : m.rangeAt g off vs ∧ vs.length = k := by refine ⟨?_,?_⟩;exact rangeAt_le (by with_reducible assumption) (by repeat' (first | with_reducible exact Le.refl _ | (with_reducible refine Le.trans ?_ (Ext.le (by assumption)))));exact rfl)
  (hw : Region.wanted o (yielded ops a.tmps) = true := by first | exact wanted_none rfl | exact wanted_some rfl rfl rfl rfl) : wpList P ops Q (o :: rest) a W := wl_loadV hV hw ho hx hty.h hr.1 hr.2 h
theorem t_loadV1 (hV : Vw m W) {ty : TypeId} {x : Operand} (ho : o.op = .load ty x) {g off : Nat} (hx : a.eval x = .pointer (some ⟨g,off,none⟩)) [hty : LfC P ty] {v : Value}
  (h : wpList P ops Q rest (a.put o.dst v) W) (hr : m.cell? ⟨g,off,none⟩ = some v := by exact cell_le (by with_reducible assumption) (by repeat' (first | with_reducible exact Le.refl _ | (with_reducible refine Le.trans ?_ (Ext.le (by assumption))))))
  (hw : Region.wanted o (yielded ops a.tmps) = true := by first | exact wanted_none rfl | exact wanted_some rfl rfl rfl rfl) : wpList P ops Q (o :: rest) a W := wl_loadV1 hV hw ho hx hty.h hr h
end
end Go.Proofs.YtabmjadcoepbeaaGreat

/- Facts on the program's types. -/
namespace Go.Proofs.YtabmjadcoepbeaaGreat
open Go.RowKit

theorem ap_Fracs : apS Tryz.prog 28 = some (55,4,64,4) := by kernel_rfl
instance iTy_1 : ApC Tryz.prog 28 55 4 64 := ⟨ap_Fracs⟩
theorem ap_ints : apS Tryz.prog 22 = some (3,1,8,1) := by kernel_rfl
instance iTy_2 : ApC Tryz.prog 22 3 1 8 := ⟨ap_ints⟩
theorem ap_Cuts : apS Tryz.prog 24 = some (69,2,32,2) := by kernel_rfl
instance iTy_3 : ApC Tryz.prog 24 69 2 32 := ⟨ap_Cuts⟩
theorem ap_Decs : apS Tryz.prog 42 = some (117,3,24,3) := by kernel_rfl
instance iTy_4 : ApC Tryz.prog 42 117 3 24 := ⟨ap_Decs⟩
theorem ap_Cols : apS Tryz.prog 23 = some (66,3,48,3) := by kernel_rfl
instance iTy_5 : ApC Tryz.prog 23 66 3 48 := ⟨ap_Cols⟩
theorem ag_Cut : agS Tryz.prog 69 = some 2 := by kernel_rfl
instance iTy_6 : AgC Tryz.prog 69 2 := ⟨ag_Cut⟩
theorem ag_Dec : agS Tryz.prog 117 = some 3 := by kernel_rfl
instance iTy_7 : AgC Tryz.prog 117 3 := ⟨ag_Dec⟩
theorem ag_Col : agS Tryz.prog 66 = some 3 := by kernel_rfl
instance iTy_8 : AgC Tryz.prog 66 3 := ⟨ag_Col⟩
theorem ag_Prices : agS Tryz.prog 44 = some 5 := by kernel_rfl
instance iTy_9 : AgC Tryz.prog 44 5 := ⟨ag_Prices⟩
theorem ag_Master : agS Tryz.prog 26 = some 5 := by kernel_rfl
instance iTy_10 : AgC Tryz.prog 26 5 := ⟨ag_Master⟩
theorem lf_ints : lfB Tryz.prog 22 = true := by kernel_rfl
instance iTy_11 : LfC Tryz.prog 22 := ⟨lf_ints⟩
theorem lf_Fracs : lfB Tryz.prog 28 = true := by kernel_rfl
instance iTy_12 : LfC Tryz.prog 28 := ⟨lf_Fracs⟩
theorem lf_Cuts : lfB Tryz.prog 24 = true := by kernel_rfl
instance iTy_13 : LfC Tryz.prog 24 := ⟨lf_Cuts⟩
theorem lf_Decs : lfB Tryz.prog 42 = true := by kernel_rfl
instance iTy_14 : LfC Tryz.prog 42 := ⟨lf_Decs⟩
theorem lf_Cols : lfB Tryz.prog 23 = true := by kernel_rfl
instance iTy_15 : LfC Tryz.prog 23 := ⟨lf_Cols⟩
theorem lf_Errno : lfB Tryz.prog 32 = true := by kernel_rfl
instance iTy_16 : LfC Tryz.prog 32 := ⟨lf_Errno⟩
theorem zc_Cut : zc Tryz.prog 69 = some #[.slice none 0 0,.int .i64 0] := by kernel_rfl
instance iTy_17 : ZcC Tryz.prog 69 #[.slice none 0 0,.int .i64 0] := ⟨zc_Cut⟩
theorem zc_Dec : zc Tryz.prog 117 = some #[.int .i64 0,.int .i64 0,.bool false] := by kernel_rfl
instance iTy_18 : ZcC Tryz.prog 117 #[.int .i64 0,.int .i64 0,.bool false] := ⟨zc_Dec⟩
theorem zc_Prices : zc Tryz.prog 44 = some #[.slice none 0 0,.slice none 0 0,.slice none 0 0,.slice none 0 0,.bool false] := by kernel_rfl
instance iTy_19 : ZcC Tryz.prog 44 #[.slice none 0 0,.slice none 0 0,.slice none 0 0,.slice none 0 0,.bool false] := ⟨zc_Prices⟩
theorem zc_Master : zc Tryz.prog 26 = some #[.int .i64 0,.slice none 0 0,.int .i64 0,.slice none 0 0,.slice none 0 0] := by kernel_rfl
instance iTy_20 : ZcC Tryz.prog 26 #[.int .i64 0,.slice none 0 0,.int .i64 0,.slice none 0 0,.slice none 0 0] := ⟨zc_Master⟩
theorem fd_Cut0 : fdS Tryz.prog 69 0 = some 0 := by kernel_rfl
instance iTy_21 : FdC Tryz.prog 69 0 0 := ⟨fd_Cut0⟩
theorem fd_Cut1 : fdS Tryz.prog 69 1 = some 1 := by kernel_rfl
instance iTy_22 : FdC Tryz.prog 69 1 1 := ⟨fd_Cut1⟩
theorem fd_Dec0 : fdS Tryz.prog 117 0 = some 0 := by kernel_rfl
instance iTy_23 : FdC Tryz.prog 117 0 0 := ⟨fd_Dec0⟩
theorem fd_Dec1 : fdS Tryz.prog 117 1 = some 1 := by kernel_rfl
instance iTy_24 : FdC Tryz.prog 117 1 1 := ⟨fd_Dec1⟩
theorem fd_Dec2 : fdS Tryz.prog 117 2 = some 2 := by kernel_rfl
instance iTy_25 : FdC Tryz.prog 117 2 2 := ⟨fd_Dec2⟩
theorem fd_Prices0 : fdS Tryz.prog 44 0 = some 0 := by kernel_rfl
instance iTy_26 : FdC Tryz.prog 44 0 0 := ⟨fd_Prices0⟩
theorem fd_Prices1 : fdS Tryz.prog 44 1 = some 1 := by kernel_rfl
instance iTy_27 : FdC Tryz.prog 44 1 1 := ⟨fd_Prices1⟩
theorem fd_Prices2 : fdS Tryz.prog 44 2 = some 2 := by kernel_rfl
instance iTy_28 : FdC Tryz.prog 44 2 2 := ⟨fd_Prices2⟩
theorem fd_Prices3 : fdS Tryz.prog 44 3 = some 3 := by kernel_rfl
instance iTy_29 : FdC Tryz.prog 44 3 3 := ⟨fd_Prices3⟩
theorem fd_Prices4 : fdS Tryz.prog 44 4 = some 4 := by kernel_rfl
instance iTy_30 : FdC Tryz.prog 44 4 4 := ⟨fd_Prices4⟩
theorem fd_Master0 : fdS Tryz.prog 26 0 = some 0 := by kernel_rfl
instance iTy_31 : FdC Tryz.prog 26 0 0 := ⟨fd_Master0⟩
theorem fd_Master1 : fdS Tryz.prog 26 1 = some 1 := by kernel_rfl
instance iTy_32 : FdC Tryz.prog 26 1 1 := ⟨fd_Master1⟩
theorem fd_Master2 : fdS Tryz.prog 26 2 = some 2 := by kernel_rfl
instance iTy_33 : FdC Tryz.prog 26 2 2 := ⟨fd_Master2⟩
theorem fd_Master3 : fdS Tryz.prog 26 3 = some 3 := by kernel_rfl
instance iTy_34 : FdC Tryz.prog 26 3 3 := ⟨fd_Master3⟩
theorem fd_Master4 : fdS Tryz.prog 26 4 = some 4 := by kernel_rfl
instance iTy_35 : FdC Tryz.prog 26 4 4 := ⟨fd_Master4⟩
theorem fd_Frac0 : fdS Tryz.prog 55 0 = some 0 := by kernel_rfl
instance iTy_36 : FdC Tryz.prog 55 0 0 := ⟨fd_Frac0⟩
theorem fd_Frac1 : fdS Tryz.prog 55 1 = some 2 := by kernel_rfl
instance iTy_37 : FdC Tryz.prog 55 1 2 := ⟨fd_Frac1⟩
theorem fd_Int0 : fdS Tryz.prog 53 0 = some 0 := by kernel_rfl
instance iTy_38 : FdC Tryz.prog 53 0 0 := ⟨fd_Int0⟩
theorem fd_Int1 : fdS Tryz.prog 53 1 = some 1 := by kernel_rfl
instance iTy_39 : FdC Tryz.prog 53 1 1 := ⟨fd_Int1⟩
end Go.Proofs.YtabmjadcoepbeaaGreat

/- Contract of rational.Ceil where the negated numerator is not negative. -/
namespace Go.Proofs.YtabmjadcoepbeaaGreat
open Go.RowKit

def DMr (m : World) (v : Value) (x y : Int) : Prop := ∃ q r,v = .tuple #[q,r,.int .i64 0] ∧ IntC m q (x / y) ∧ IntC m r (x % y)
theorem DMr.le {m m' : World} {v : Value} {x y : Int} (h : DMr m v x y) (hb : Le m m') : DMr m' v x y := by
 obtain ⟨q,r,e,h1,h2⟩ := h
 exact ⟨q,r,e,h1.le hb,h2.le hb⟩
end Go.Proofs.YtabmjadcoepbeaaGreat

/- Contracts of pairingref27.SameInts (equal lists). -/
namespace Go.Proofs.YtabmjadcoepbeaaGreat
open Go.RowKit

def IsI (_ : World) (v : Value) (x : Int) : Prop := v = .int .i64 x
abbrev IntL := ListV (α := Int) 1 IsI
theorem IntL.le {m m' : World} {v : Value} {xs : List Int} (h : IntL m v xs) (hb : Le m m') : IntL m' v xs := ListV.le (fun _ _ _ _ h _ => h) h hb
theorem IntL.at_ {m : World} {A : Option Addr} {n c : Nat} {xs : List Int} (h : IntL m (.slice A n c) xs) {k : Nat} {x : Int} (hk : xs[k]? = some x) :
  ∃ b off,A = some ⟨b,off,none⟩ ∧ m.cell? ⟨b,off + k,none⟩ = some (.int .i64 x) := by
 obtain ⟨b,off,v,e,rfl,_,hr⟩ := ListV.at_ h (by omega) hk
 exact ⟨b,off,e,by simpa using hr 0 _ rfl⟩
theorem at_some {α : Type} {l : List α} {k n : Nat} (hn : Hid (l.length = n)) (hk : k < n) : ∃ x,l[k]? = some x := ⟨_,List.getElem?_eq_getElem (by rw [hn.out];exact hk)⟩

theorem r_SameInts (a b : Value) (xs : List Int) (w m : World) (hV : Vw m w) (ha : IntL m a xs) (hb : IntL m b xs) (hl : xs.length ≤ 1000000) :
  Calls Tryz.prog 78 #[a,b] w (RetV w m fun _ r => r = .bool true) := by
 obtain ⟨A,c,rfl,hc,ha⟩ := ha.lit
 obtain ⟨B,d,rfl,hd,hb⟩ := hb.lit
 have hL := Loc.start hV
 clear hV
 generalize hn : xs.length = n at *
 have HN := Lib.hid hn
 clear hn
 have hnn : ((n : Int) != (n : Int)) = false := by simp
 go_enter Tryz.func78,Tryz.ntmps78
 go_wp2_with (first | go_skip | refine tN ?_)
 go_loopw [5] (fun i wr => ∃ (k : Nat) (mm : World),k ≤ n ∧ i = .int .i64 k ∧ Loc w m wr mm [] ∧ Ext m mm) (fun i _ => n - (intOf i).toNat)
 case atStart => exact ⟨0,m,Nat.zero_le _,rfl,hL,Ext.refl _⟩
 case round =>
  clear hL
  obtain ⟨k,mm,hk,rfl,hL,hM⟩ := hrel
  by_cases hlt : k < n
  ·obtain ⟨x,hx⟩ := at_some HN hlt
   obtain ⟨b1,o1,rfl,hc1⟩ := IntL.at_ ha hx
   obtain ⟨b2,o2,rfl,hc2⟩ := IntL.at_ hb hx
   clear hx
   have hxx : ((x : Int) != (x : Int)) = false := by simp
   go_upto_region 6 with ((first | go_skip | refine tN ?_))
   (try simp only [eq_self] at *)
   refine wp_region_by2 9 [false,false,false,false,false,false,false,false,false] [false,false,false,false,false,false,false,false,false] [(fun v _ _ => v = ?c6_0),(fun v _ _ => v = ?c6_1),(fun v _ _ => v = ?c6_2),(fun v _ _ => v = ?c6_3),(fun v _ _ => v = ?c6_4),(fun v _ _ => v = ?c6_5),(fun v _ _ => v = ?c6_6),(fun v _ _ => v = ?c6_7),(fun v _ _ => v = ?c6_8)] hL.vw mixed [17,18,19,20,21,22,23,24,25] _ (by kernel_rfl) (fun vs => by simp only [lay,Act.put,zq1,zq2,zq3];rfl) (by kernel_rfl) (by decide) (by decide) ?s6 ?l6 ?r6
   case s6 =>
    refine ⟨?_,?_,?_,?_,?_,?_,?_,?_,?_,trivial⟩
    ·intro vs W1 m1 hE hM hV hD;clear hD
     exact sPw
    ·intro vs W1 m1 hE hM hV hD;clear hD
     exact sPw
    ·intro vs W1 m1 hE hM hV hD;obtain ⟨⟨_,_,-,-,f17⟩,⟨_,_,-,-,f18⟩,-⟩ := hD
     rw [(f17 : vs 17 = _),(f18 : vs 18 = _)];clear f17 f18;exact sIy
    ·intro vs W1 m1 hE hM hV hD;obtain ⟨⟨_,_,-,-,f19⟩,-⟩ := hD
     rw [(f19 : vs 19 = _)];clear f19;exact sLe
    ·intro vs W1 m1 hE hM hV hD;clear hD
     exact sPw
    ·intro vs W1 m1 hE hM hV hD;clear hD
     exact sPw
    ·intro vs W1 m1 hE hM hV hD;obtain ⟨⟨_,_,-,-,f21⟩,⟨_,_,-,-,f22⟩,-⟩ := hD
     rw [(f21 : vs 21 = _),(f22 : vs 22 = _)];clear f21 f22;exact sIy
    ·intro vs W1 m1 hE hM hV hD;obtain ⟨⟨_,_,-,-,f23⟩,-⟩ := hD
     rw [(f23 : vs 23 = _)];clear f23;exact sLe
    ·intro vs W1 m1 hE hM hV hD;obtain ⟨⟨_,_,-,-,f20⟩,⟨_,_,-,-,f24⟩,-⟩ := hD
     rw [(f20 : vs 20 = _),(f24 : vs 24 = _)];clear f20 f24;exact sPw
   case l6 =>
    refine ⟨nF,nF,nF,nF,nF,nF,nF,nF,nF,trivial⟩
   intro vs W1 m1 hE hM hV hF hD
   clear hD
   obtain ⟨⟨_,_,-,-,f17⟩,⟨_,_,-,-,f18⟩,⟨_,_,-,-,f19⟩,⟨_,_,-,-,f20⟩,⟨_,_,-,-,f21⟩,⟨_,_,-,-,f22⟩,⟨_,_,-,-,f23⟩,⟨_,_,-,-,f24⟩,⟨_,_,-,-,f25⟩,-⟩ := hF
   replace hL := hL.call hE hM hV
   have f17 : vs 17 = _ := f17
   generalize vs 17 = x17 at f17 ⊢
   subst x17
   have f18 : vs 18 = _ := f18
   generalize vs 18 = x18 at f18 ⊢
   subst x18
   have f19 : vs 19 = _ := f19
   generalize vs 19 = x19 at f19 ⊢
   subst x19
   have f20 : vs 20 = _ := f20
   generalize vs 20 = x20 at f20 ⊢
   subst x20
   have f21 : vs 21 = _ := f21
   generalize vs 21 = x21 at f21 ⊢
   subst x21
   have f22 : vs 22 = _ := f22
   generalize vs 22 = x22 at f22 ⊢
   subst x22
   have f23 : vs 23 = _ := f23
   generalize vs 23 = x23 at f23 ⊢
   subst x23
   have f24 : vs 24 = _ := f24
   generalize vs 24 = x24 at f24 ⊢
   subst x24
   have f25 : vs 25 = _ := f25
   generalize vs 25 = x25 at f25 ⊢
   subst x25
   clear hE hV
   simp only [List.drop_succ_cons,List.drop_zero]
   go_wp2_with (first | go_skip | refine tN ?_)
   refine QN.mk ?_
   go_wp2_with (first | go_skip | refine tN ?_)
   go_roundw
   case rel => exact ⟨k + 1,_,by omega,by go_num,hL,hL.mext⟩
   case measure => simp [intOf] <;> omega
  ·go_wp2_with (first | go_skip | refine tN ?_)
   go_ret
   exact RetV.mk hL rfl
end Go.Proofs.YtabmjadcoepbeaaGreat
