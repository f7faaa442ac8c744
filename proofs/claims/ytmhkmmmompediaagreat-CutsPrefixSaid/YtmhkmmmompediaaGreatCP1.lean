/- Part 1 of 2 of the proof: the law CutsPrefix returns true for every input, and its arguments read as before; there is no condition. -/
import Derived.WalkKit
import Derived.LoopTactic
import Derived.Lib.Hide
import Derived.Laws.MakeOwn
import Derived.Deep.AppendLies
import Derived.Deep.Draws
import Derived.Deep.LoopGhost
import Derived.Deep.QuietTactic
import Derived.BigQuiet
import Derived.Outline
import Derived.Maps.AppendAt
import Derived.RegionTactic
import Derived.WalkSpells
import Derived.Deep.DeepCutAuto
import Derived.Deep.CutBlock
import Derived.Deep.RegionHeld3
import Derived.StillTailTactics
import Derived.Deep.RegionLaw
import Derived.Deep.RegionWith
import Derived.Deep.DeepFit
import Derived.Laws.Rows
import Derived.Laws.Tables
import Derived.Test.YtmhkmmmompediaaGreatProg
import Derived.Lib.SliceRun
import Derived.Laws.Bits128
import Derived.Laws.StructEq
import Derived.ProofKit
import Derived.OpenShut
import Derived.Maps.Own
import Derived.Maps.Views
import Derived.DeepKeys4
import Derived.Maps.RangeWalk
import Derived.Shelf.SlSortCmp.NoneTotal
import Derived.Laws.IdiomCopy
import Derived.Maps.OwnSet
import Derived.RangeFuncNested
import Derived.RangeFuncBound
import Derived.RangeFuncCalls
import Derived.RangeFuncLeaves
import Derived.OwnWalkIn
import Derived.TacticsInMore
import Derived.LoopNIn
import Derived.LoopIn
import Derived.Test.YtmhkmmmompediaaGreatCQ6
set_option linter.unusedVariables false
set_option linter.unusedSimpArgs false
/- Contract of rational.Compare for small fractions. -/
namespace Go.Proofs.YtmhkmmmompediaaGreat
open Go.RowKit

set_option maxRecDepth 100000 in
set_option maxHeartbeats 8000000 in
theorem q_Compare (a b : Value) (x y x' y' : Int) (w m : World) (hV : Vw m w) (ha : FracS m a x y) (hb : FracS m b x' y') (hs : Sm x y) (hs' : Sm x' y') :
    Calls Tryz.prog 83 #[a, b] w (RetV w m fun _ r => r = .int .i64 (icmp (pN x y * pD y') (pN x' y' * pD y))) := by
  have ha' := ha
  have hb' := hb
  obtain ⟨_, _, _, _, rfl, h1, h2, -, -⟩ := ha'
  obtain ⟨g1, A1, n1, c1, rfl, rfl⟩ := h1.parts'
  obtain ⟨g2, A2, n2, c2, rfl, rfl⟩ := h2.parts'
  obtain ⟨_, _, _, _, rfl, h3, h4, -, -⟩ := hb'
  obtain ⟨g3, A3, n3, c3, rfl, rfl⟩ := h3.parts'
  obtain ⟨g4, A4, n4, c4, rfl, rfl⟩ := h4.parts'
  obtain ⟨u1, u2, u3, u4⟩ := pN_spec hs
  obtain ⟨v1, v2, v3, v4⟩ := pN_spec hs'
  have w3 := w64_of (z := pN x y * pD y') (by have := prod_bd u1 v3; omega)
  have w4 := w64_of (z := pN x' y' * pD y) (by have := prod_bd v1 u3; omega)
  have hL := Loc.start hV
  clear hV h1 h2 h3 h4 u1 u2 u3 u4 v1 v2 v3 v4 hs hs'
  by_cases hlt : pN x y * pD y' < pN x' y' * pD y
  · have E := Lib.hid (icmp_lt hlt)
    go_enter Tryz.func83, Tryz.ntmps83
    go_wp2_with (first | ((with_reducible refine kAny ?_); go_skip) | ((first | refine tLo ?_ | (refine tSt ?_; clear hL; intro _ hL; simp only [splice, zq1, zq2, zq3] at hL) | ((first | refine tBx ?_ | refine tAl ?_); clear hL; intro _ _ hL _)); simp only [Act.put, zq1, zq2, zq3]))
    refine (q_small _ _ x y x' y' _ _ hL.vw (ha.le leX) (hb.le leX)).mono ?_
    rintro e W1 ⟨_, m1, rfl, hE, hM1, hV, rfl⟩
    replace hL := hL.call hE (by assumption) hV; clear hE hV
    go_upto_region 3 with ((first | ((with_reducible refine kAny ?_); go_skip) | ((first | refine tLo ?_ | (refine tSt ?_; clear hL; intro _ hL; simp only [splice, zq1, zq2, zq3] at hL) | ((first | refine tBx ?_ | refine tAl ?_); clear hL; intro _ _ hL _)); simp only [Act.put, zq1, zq2, zq3])))
    refine wp_region_by 12 [false, false, false, false, false, false, false, false, false, false, false, false] [(fun v _ _ => v = ?c3_0a), (fun v _ _ => v = ?c3_1a), (fun v _ _ => v = ?c3_2a), (fun v _ _ => v = ?c3_3a), (fun v _ _ => v = ?c3_4a), (fun v _ _ => v = ?c3_5a), (fun v _ _ => v = ?c3_6a), (fun v _ _ => v = ?c3_7a), (fun v _ _ => v = ?c3_8a), (fun v _ _ => v = ?c3_9a), (fun v _ _ => v = ?c3_10a), (fun v _ _ => v = ?c3_11a)] hL.vw mixed [22, 23, 24, 25, 26, 27, 28, 29, 30, 31, 8, 9] _ (by kernel_rfl) (fun vs => by simp only [lay, Act.put, zq1, zq2, zq3]; rfl) (by kernel_rfl) ?s3a ?r3a
    case s3a =>
      refine ⟨?_, ?_, ?_, ?_, ?_, ?_, ?_, ?_, ?_, ?_, ?_, ?_, trivial⟩
      · intro vs W1 m1 hE hM hV hD; clear hD; replace hL := hL.call hE hM hV
        go_wp2_with (first | ((with_reducible refine kAny ?_); go_skip) | ((first | refine tLo ?_ | (refine tSt ?_; clear hL; intro _ hL; simp only [splice, zq1, zq2, zq3] at hL) | ((first | refine tBx ?_ | refine tAl ?_); clear hL; intro _ _ hL _)); simp only [Act.put, zq1, zq2, zq3]))
        refine One.still hV ?_; exact rfl
      · intro vs W1 m1 hE hM hV hD; obtain ⟨⟨_, _, -, -, f22⟩, -⟩ := hD; have f22 : vs 22 = _ := f22; generalize vs 22 = x22 at f22 ⊢; subst x22; replace hL := hL.call hE hM hV
        exact sLd
      · intro vs W1 m1 hE hM hV hD; clear hD; replace hL := hL.call hE hM hV
        go_wp2_with (first | ((with_reducible refine kAny ?_); go_skip) | ((first | refine tLo ?_ | (refine tSt ?_; clear hL; intro _ hL; simp only [splice, zq1, zq2, zq3] at hL) | ((first | refine tBx ?_ | refine tAl ?_); clear hL; intro _ _ hL _)); simp only [Act.put, zq1, zq2, zq3]))
        refine One.still hV ?_; exact rfl
      · intro vs W1 m1 hE hM hV hD; obtain ⟨⟨_, _, -, -, f24⟩, -⟩ := hD; have f24 : vs 24 = _ := f24; generalize vs 24 = x24 at f24 ⊢; subst x24; replace hL := hL.call hE hM hV
        exact sLd
      · intro vs W1 m1 hE hM hV hD; obtain ⟨⟨_, _, -, -, f23⟩, ⟨_, _, -, -, f25⟩, -⟩ := hD; have f23 : vs 23 = _ := f23; generalize vs 23 = x23 at f23 ⊢; subst x23; have f25 : vs 25 = _ := f25; generalize vs 25 = x25 at f25 ⊢; subst x25; replace hL := hL.call hE hM hV
        exact sPu
      · intro vs W1 m1 hE hM hV hD; clear hD; replace hL := hL.call hE hM hV
        go_wp2_with (first | ((with_reducible refine kAny ?_); go_skip) | ((first | refine tLo ?_ | (refine tSt ?_; clear hL; intro _ hL; simp only [splice, zq1, zq2, zq3] at hL) | ((first | refine tBx ?_ | refine tAl ?_); clear hL; intro _ _ hL _)); simp only [Act.put, zq1, zq2, zq3]))
        refine One.still hV ?_; exact rfl
      · intro vs W1 m1 hE hM hV hD; obtain ⟨⟨_, _, -, -, f27⟩, -, -⟩ := hD; have f27 : vs 27 = _ := f27; generalize vs 27 = x27 at f27 ⊢; subst x27; replace hL := hL.call hE hM hV
        exact sLd
      · intro vs W1 m1 hE hM hV hD; clear hD; replace hL := hL.call hE hM hV
        go_wp2_with (first | ((with_reducible refine kAny ?_); go_skip) | ((first | refine tLo ?_ | (refine tSt ?_; clear hL; intro _ hL; simp only [splice, zq1, zq2, zq3] at hL) | ((first | refine tBx ?_ | refine tAl ?_); clear hL; intro _ _ hL _)); simp only [Act.put, zq1, zq2, zq3]))
        refine One.still hV ?_; exact rfl
      · intro vs W1 m1 hE hM hV hD; obtain ⟨⟨_, _, -, -, f29⟩, -, -⟩ := hD; have f29 : vs 29 = _ := f29; generalize vs 29 = x29 at f29 ⊢; subst x29; replace hL := hL.call hE hM hV
        exact sLd
      · intro vs W1 m1 hE hM hV hD; obtain ⟨⟨_, _, -, -, f28⟩, ⟨_, _, -, -, f30⟩, -, -⟩ := hD; have f28 : vs 28 = _ := f28; generalize vs 28 = x28 at f28 ⊢; subst x28; have f30 : vs 30 = _ := f30; generalize vs 30 = x30 at f30 ⊢; subst x30; replace hL := hL.call hE hM hV
        exact sPu
      · intro vs W1 m1 hE hM hV hD; obtain ⟨⟨_, _, -, -, f26⟩, -, -, -, -, -, -, -, -, -, -, -⟩ := hD; have f26 : vs 26 = _ := f26; generalize vs 26 = x26 at f26 ⊢; subst x26; replace hL := hL.call hE hM hV
        go_wp2_with (first | ((with_reducible refine kAny ?_); go_skip) | ((first | refine tLo ?_ | (refine tSt ?_; clear hL; intro _ hL; simp only [splice, zq1, zq2, zq3] at hL) | ((first | refine tBx ?_ | refine tAl ?_); clear hL; intro _ _ hL _)); simp only [Act.put, zq1, zq2, zq3]))
        refine One.still hV ?_; exact rfl
      · intro vs W1 m1 hE hM hV hD; obtain ⟨⟨_, _, -, -, f31⟩, -, -, -, -, -, -, -, -, -, -, -, -, -⟩ := hD; have f31 : vs 31 = _ := f31; generalize vs 31 = x31 at f31 ⊢; subst x31; replace hL := hL.call hE hM hV
        go_wp2_with (first | ((with_reducible refine kAny ?_); go_skip) | ((first | refine tLo ?_ | (refine tSt ?_; clear hL; intro _ hL; simp only [splice, zq1, zq2, zq3] at hL) | ((first | refine tBx ?_ | refine tAl ?_); clear hL; intro _ _ hL _)); simp only [Act.put, zq1, zq2, zq3]))
        refine One.still hV ?_; exact rfl
    intro vs W1 m1 hE hM hV hF hD
    clear hD
    obtain ⟨⟨_, _, -, -, f22⟩, ⟨_, _, -, -, f23⟩, ⟨_, _, -, -, f24⟩, ⟨_, _, -, -, f25⟩, ⟨_, _, -, -, f26⟩, ⟨_, _, -, -, f27⟩, ⟨_, _, -, -, f28⟩, ⟨_, _, -, -, f29⟩, ⟨_, _, -, -, f30⟩, ⟨_, _, -, -, f31⟩, ⟨_, _, -, -, f8⟩, ⟨_, _, -, -, f9⟩, -⟩ := hF
    replace hL := hL.call hE hM hV
    have f22 : vs 22 = _ := f22
    generalize vs 22 = x22 at f22 ⊢
    subst x22
    have f23 : vs 23 = _ := f23
    generalize vs 23 = x23 at f23 ⊢
    subst x23
    have f24 : vs 24 = _ := f24
    generalize vs 24 = x24 at f24 ⊢
    subst x24
    have f25 : vs 25 = _ := f25
    generalize vs 25 = x25 at f25 ⊢
    subst x25
    have f26 : vs 26 = _ := f26
    generalize vs 26 = x26 at f26 ⊢
    subst x26
    have f27 : vs 27 = _ := f27
    generalize vs 27 = x27 at f27 ⊢
    subst x27
    have f28 : vs 28 = _ := f28
    generalize vs 28 = x28 at f28 ⊢
    subst x28
    have f29 : vs 29 = _ := f29
    generalize vs 29 = x29 at f29 ⊢
    subst x29
    have f30 : vs 30 = _ := f30
    generalize vs 30 = x30 at f30 ⊢
    subst x30
    have f31 : vs 31 = _ := f31
    generalize vs 31 = x31 at f31 ⊢
    subst x31
    have f8 : vs 8 = _ := f8
    generalize vs 8 = x8 at f8 ⊢
    subst x8
    have f9 : vs 9 = _ := f9
    generalize vs 9 = x9 at f9 ⊢
    subst x9
    clear hE hV
    simp only [List.drop_succ_cons, List.drop_zero]
    go_wp2_with (first | ((with_reducible refine kAny ?_); go_skip) | ((first | refine tLo ?_ | (refine tSt ?_; clear hL; intro _ hL; simp only [splice, zq1, zq2, zq3] at hL) | ((first | refine tBx ?_ | refine tAl ?_); clear hL; intro _ _ hL _)); simp only [Act.put, zq1, zq2, zq3]))
    go_ret
    exact RetV.mk hL (by rw [E.out]; rfl)
  · by_cases hgt : pN x' y' * pD y < pN x y * pD y'
    · have E := Lib.hid (icmp_gt hgt)
      go_enter Tryz.func83, Tryz.ntmps83
      go_wp2_with (first | ((with_reducible refine kAny ?_); go_skip) | ((first | refine tLo ?_ | (refine tSt ?_; clear hL; intro _ hL; simp only [splice, zq1, zq2, zq3] at hL) | ((first | refine tBx ?_ | refine tAl ?_); clear hL; intro _ _ hL _)); simp only [Act.put, zq1, zq2, zq3]))
      refine (q_small _ _ x y x' y' _ _ hL.vw (ha.le leX) (hb.le leX)).mono ?_
      rintro e W1 ⟨_, m1, rfl, hE, hM1, hV, rfl⟩
      replace hL := hL.call hE (by assumption) hV; clear hE hV
      go_upto_region 3 with ((first | ((with_reducible refine kAny ?_); go_skip) | ((first | refine tLo ?_ | (refine tSt ?_; clear hL; intro _ hL; simp only [splice, zq1, zq2, zq3] at hL) | ((first | refine tBx ?_ | refine tAl ?_); clear hL; intro _ _ hL _)); simp only [Act.put, zq1, zq2, zq3])))
      refine wp_region_by 12 [false, false, false, false, false, false, false, false, false, false, false, false] [(fun v _ _ => v = ?c3_0b), (fun v _ _ => v = ?c3_1b), (fun v _ _ => v = ?c3_2b), (fun v _ _ => v = ?c3_3b), (fun v _ _ => v = ?c3_4b), (fun v _ _ => v = ?c3_5b), (fun v _ _ => v = ?c3_6b), (fun v _ _ => v = ?c3_7b), (fun v _ _ => v = ?c3_8b), (fun v _ _ => v = ?c3_9b), (fun v _ _ => v = ?c3_10b), (fun v _ _ => v = ?c3_11b)] hL.vw mixed [22, 23, 24, 25, 26, 27, 28, 29, 30, 31, 8, 9] _ (by kernel_rfl) (fun vs => by simp only [lay, Act.put, zq1, zq2, zq3]; rfl) (by kernel_rfl) ?s3b ?r3b
      case s3b =>
        refine ⟨?_, ?_, ?_, ?_, ?_, ?_, ?_, ?_, ?_, ?_, ?_, ?_, trivial⟩
        · intro vs W1 m1 hE hM hV hD; clear hD; replace hL := hL.call hE hM hV
          go_wp2_with (first | ((with_reducible refine kAny ?_); go_skip) | ((first | refine tLo ?_ | (refine tSt ?_; clear hL; intro _ hL; simp only [splice, zq1, zq2, zq3] at hL) | ((first | refine tBx ?_ | refine tAl ?_); clear hL; intro _ _ hL _)); simp only [Act.put, zq1, zq2, zq3]))
          refine One.still hV ?_; exact rfl
        · intro vs W1 m1 hE hM hV hD; obtain ⟨⟨_, _, -, -, f22⟩, -⟩ := hD; have f22 : vs 22 = _ := f22; generalize vs 22 = x22 at f22 ⊢; subst x22; replace hL := hL.call hE hM hV
          exact sLd
        · intro vs W1 m1 hE hM hV hD; clear hD; replace hL := hL.call hE hM hV
          go_wp2_with (first | ((with_reducible refine kAny ?_); go_skip) | ((first | refine tLo ?_ | (refine tSt ?_; clear hL; intro _ hL; simp only [splice, zq1, zq2, zq3] at hL) | ((first | refine tBx ?_ | refine tAl ?_); clear hL; intro _ _ hL _)); simp only [Act.put, zq1, zq2, zq3]))
          refine One.still hV ?_; exact rfl
        · intro vs W1 m1 hE hM hV hD; obtain ⟨⟨_, _, -, -, f24⟩, -⟩ := hD; have f24 : vs 24 = _ := f24; generalize vs 24 = x24 at f24 ⊢; subst x24; replace hL := hL.call hE hM hV
          exact sLd
        · intro vs W1 m1 hE hM hV hD; obtain ⟨⟨_, _, -, -, f23⟩, ⟨_, _, -, -, f25⟩, -⟩ := hD; have f23 : vs 23 = _ := f23; generalize vs 23 = x23 at f23 ⊢; subst x23; have f25 : vs 25 = _ := f25; generalize vs 25 = x25 at f25 ⊢; subst x25; replace hL := hL.call hE hM hV
          exact sPu
        · intro vs W1 m1 hE hM hV hD; clear hD; replace hL := hL.call hE hM hV
          go_wp2_with (first | ((with_reducible refine kAny ?_); go_skip) | ((first | refine tLo ?_ | (refine tSt ?_; clear hL; intro _ hL; simp only [splice, zq1, zq2, zq3] at hL) | ((first | refine tBx ?_ | refine tAl ?_); clear hL; intro _ _ hL _)); simp only [Act.put, zq1, zq2, zq3]))
          refine One.still hV ?_; exact rfl
        · intro vs W1 m1 hE hM hV hD; obtain ⟨⟨_, _, -, -, f27⟩, -, -⟩ := hD; have f27 : vs 27 = _ := f27; generalize vs 27 = x27 at f27 ⊢; subst x27; replace hL := hL.call hE hM hV
          exact sLd
        · intro vs W1 m1 hE hM hV hD; clear hD; replace hL := hL.call hE hM hV
          go_wp2_with (first | ((with_reducible refine kAny ?_); go_skip) | ((first | refine tLo ?_ | (refine tSt ?_; clear hL; intro _ hL; simp only [splice, zq1, zq2, zq3] at hL) | ((first | refine tBx ?_ | refine tAl ?_); clear hL; intro _ _ hL _)); simp only [Act.put, zq1, zq2, zq3]))
          refine One.still hV ?_; exact rfl
        · intro vs W1 m1 hE hM hV hD; obtain ⟨⟨_, _, -, -, f29⟩, -, -⟩ := hD; have f29 : vs 29 = _ := f29; generalize vs 29 = x29 at f29 ⊢; subst x29; replace hL := hL.call hE hM hV
          exact sLd
        · intro vs W1 m1 hE hM hV hD; obtain ⟨⟨_, _, -, -, f28⟩, ⟨_, _, -, -, f30⟩, -, -⟩ := hD; have f28 : vs 28 = _ := f28; generalize vs 28 = x28 at f28 ⊢; subst x28; have f30 : vs 30 = _ := f30; generalize vs 30 = x30 at f30 ⊢; subst x30; replace hL := hL.call hE hM hV
          exact sPu
        · intro vs W1 m1 hE hM hV hD; obtain ⟨⟨_, _, -, -, f26⟩, -, -, -, -, -, -, -, -, -, -, -⟩ := hD; have f26 : vs 26 = _ := f26; generalize vs 26 = x26 at f26 ⊢; subst x26; replace hL := hL.call hE hM hV
          go_wp2_with (first | ((with_reducible refine kAny ?_); go_skip) | ((first | refine tLo ?_ | (refine tSt ?_; clear hL; intro _ hL; simp only [splice, zq1, zq2, zq3] at hL) | ((first | refine tBx ?_ | refine tAl ?_); clear hL; intro _ _ hL _)); simp only [Act.put, zq1, zq2, zq3]))
          refine One.still hV ?_; exact rfl
        · intro vs W1 m1 hE hM hV hD; obtain ⟨⟨_, _, -, -, f31⟩, -, -, -, -, -, -, -, -, -, -, -, -, -⟩ := hD; have f31 : vs 31 = _ := f31; generalize vs 31 = x31 at f31 ⊢; subst x31; replace hL := hL.call hE hM hV
          go_wp2_with (first | ((with_reducible refine kAny ?_); go_skip) | ((first | refine tLo ?_ | (refine tSt ?_; clear hL; intro _ hL; simp only [splice, zq1, zq2, zq3] at hL) | ((first | refine tBx ?_ | refine tAl ?_); clear hL; intro _ _ hL _)); simp only [Act.put, zq1, zq2, zq3]))
          refine One.still hV ?_; exact rfl
      intro vs W1 m1 hE hM hV hF hD
      clear hD
      obtain ⟨⟨_, _, -, -, f22⟩, ⟨_, _, -, -, f23⟩, ⟨_, _, -, -, f24⟩, ⟨_, _, -, -, f25⟩, ⟨_, _, -, -, f26⟩, ⟨_, _, -, -, f27⟩, ⟨_, _, -, -, f28⟩, ⟨_, _, -, -, f29⟩, ⟨_, _, -, -, f30⟩, ⟨_, _, -, -, f31⟩, ⟨_, _, -, -, f8⟩, ⟨_, _, -, -, f9⟩, -⟩ := hF
      replace hL := hL.call hE hM hV
      have f22 : vs 22 = _ := f22
      generalize vs 22 = x22 at f22 ⊢
      subst x22
      have f23 : vs 23 = _ := f23
      generalize vs 23 = x23 at f23 ⊢
      subst x23
      have f24 : vs 24 = _ := f24
      generalize vs 24 = x24 at f24 ⊢
      subst x24
      have f25 : vs 25 = _ := f25
      generalize vs 25 = x25 at f25 ⊢
      subst x25
      have f26 : vs 26 = _ := f26
      generalize vs 26 = x26 at f26 ⊢
      subst x26
      have f27 : vs 27 = _ := f27
      generalize vs 27 = x27 at f27 ⊢
      subst x27
      have f28 : vs 28 = _ := f28
      generalize vs 28 = x28 at f28 ⊢
      subst x28
      have f29 : vs 29 = _ := f29
      generalize vs 29 = x29 at f29 ⊢
      subst x29
      have f30 : vs 30 = _ := f30
      generalize vs 30 = x30 at f30 ⊢
      subst x30
      have f31 : vs 31 = _ := f31
      generalize vs 31 = x31 at f31 ⊢
      subst x31
      have f8 : vs 8 = _ := f8
      generalize vs 8 = x8 at f8 ⊢
      subst x8
      have f9 : vs 9 = _ := f9
      generalize vs 9 = x9 at f9 ⊢
      subst x9
      clear hE hV
      simp only [List.drop_succ_cons, List.drop_zero]
      go_wp2_with (first | ((with_reducible refine kAny ?_); go_skip) | ((first | refine tLo ?_ | (refine tSt ?_; clear hL; intro _ hL; simp only [splice, zq1, zq2, zq3] at hL) | ((first | refine tBx ?_ | refine tAl ?_); clear hL; intro _ _ hL _)); simp only [Act.put, zq1, zq2, zq3]))
      go_ret
      exact RetV.mk hL (by rw [E.out]; rfl)
    · have E : Hid (icmp (pN x y * pD y') (pN x' y' * pD y) = 0) := by
        show _ = _
        unfold icmp; rw [if_neg hlt, if_pos (by omega)]
      go_enter Tryz.func83, Tryz.ntmps83
      go_wp2_with (first | ((with_reducible refine kAny ?_); go_skip) | ((first | refine tLo ?_ | (refine tSt ?_; clear hL; intro _ hL; simp only [splice, zq1, zq2, zq3] at hL) | ((first | refine tBx ?_ | refine tAl ?_); clear hL; intro _ _ hL _)); simp only [Act.put, zq1, zq2, zq3]))
      refine (q_small _ _ x y x' y' _ _ hL.vw (ha.le leX) (hb.le leX)).mono ?_
      rintro e W1 ⟨_, m1, rfl, hE, hM1, hV, rfl⟩
      replace hL := hL.call hE (by assumption) hV; clear hE hV
      go_upto_region 3 with ((first | ((with_reducible refine kAny ?_); go_skip) | ((first | refine tLo ?_ | (refine tSt ?_; clear hL; intro _ hL; simp only [splice, zq1, zq2, zq3] at hL) | ((first | refine tBx ?_ | refine tAl ?_); clear hL; intro _ _ hL _)); simp only [Act.put, zq1, zq2, zq3])))
      refine wp_region_by 12 [false, false, false, false, false, false, false, false, false, false, false, false] [(fun v _ _ => v = ?c3_0c), (fun v _ _ => v = ?c3_1c), (fun v _ _ => v = ?c3_2c), (fun v _ _ => v = ?c3_3c), (fun v _ _ => v = ?c3_4c), (fun v _ _ => v = ?c3_5c), (fun v _ _ => v = ?c3_6c), (fun v _ _ => v = ?c3_7c), (fun v _ _ => v = ?c3_8c), (fun v _ _ => v = ?c3_9c), (fun v _ _ => v = ?c3_10c), (fun v _ _ => v = ?c3_11c)] hL.vw mixed [22, 23, 24, 25, 26, 27, 28, 29, 30, 31, 8, 9] _ (by kernel_rfl) (fun vs => by simp only [lay, Act.put, zq1, zq2, zq3]; rfl) (by kernel_rfl) ?s3c ?r3c
      case s3c =>
        refine ⟨?_, ?_, ?_, ?_, ?_, ?_, ?_, ?_, ?_, ?_, ?_, ?_, trivial⟩
        · intro vs W1 m1 hE hM hV hD; clear hD; replace hL := hL.call hE hM hV
          go_wp2_with (first | ((with_reducible refine kAny ?_); go_skip) | ((first | refine tLo ?_ | (refine tSt ?_; clear hL; intro _ hL; simp only [splice, zq1, zq2, zq3] at hL) | ((first | refine tBx ?_ | refine tAl ?_); clear hL; intro _ _ hL _)); simp only [Act.put, zq1, zq2, zq3]))
          refine One.still hV ?_; exact rfl
        · intro vs W1 m1 hE hM hV hD; obtain ⟨⟨_, _, -, -, f22⟩, -⟩ := hD; have f22 : vs 22 = _ := f22; generalize vs 22 = x22 at f22 ⊢; subst x22; replace hL := hL.call hE hM hV
          exact sLd
        · intro vs W1 m1 hE hM hV hD; clear hD; replace hL := hL.call hE hM hV
          go_wp2_with (first | ((with_reducible refine kAny ?_); go_skip) | ((first | refine tLo ?_ | (refine tSt ?_; clear hL; intro _ hL; simp only [splice, zq1, zq2, zq3] at hL) | ((first | refine tBx ?_ | refine tAl ?_); clear hL; intro _ _ hL _)); simp only [Act.put, zq1, zq2, zq3]))
          refine One.still hV ?_; exact rfl
        · intro vs W1 m1 hE hM hV hD; obtain ⟨⟨_, _, -, -, f24⟩, -⟩ := hD; have f24 : vs 24 = _ := f24; generalize vs 24 = x24 at f24 ⊢; subst x24; replace hL := hL.call hE hM hV
          exact sLd
        · intro vs W1 m1 hE hM hV hD; obtain ⟨⟨_, _, -, -, f23⟩, ⟨_, _, -, -, f25⟩, -⟩ := hD; have f23 : vs 23 = _ := f23; generalize vs 23 = x23 at f23 ⊢; subst x23; have f25 : vs 25 = _ := f25; generalize vs 25 = x25 at f25 ⊢; subst x25; replace hL := hL.call hE hM hV
          exact sPu
        · intro vs W1 m1 hE hM hV hD; clear hD; replace hL := hL.call hE hM hV
          go_wp2_with (first | ((with_reducible refine kAny ?_); go_skip) | ((first | refine tLo ?_ | (refine tSt ?_; clear hL; intro _ hL; simp only [splice, zq1, zq2, zq3] at hL) | ((first | refine tBx ?_ | refine tAl ?_); clear hL; intro _ _ hL _)); simp only [Act.put, zq1, zq2, zq3]))
          refine One.still hV ?_; exact rfl
        · intro vs W1 m1 hE hM hV hD; obtain ⟨⟨_, _, -, -, f27⟩, -, -⟩ := hD; have f27 : vs 27 = _ := f27; generalize vs 27 = x27 at f27 ⊢; subst x27; replace hL := hL.call hE hM hV
          exact sLd
        · intro vs W1 m1 hE hM hV hD; clear hD; replace hL := hL.call hE hM hV
          go_wp2_with (first | ((with_reducible refine kAny ?_); go_skip) | ((first | refine tLo ?_ | (refine tSt ?_; clear hL; intro _ hL; simp only [splice, zq1, zq2, zq3] at hL) | ((first | refine tBx ?_ | refine tAl ?_); clear hL; intro _ _ hL _)); simp only [Act.put, zq1, zq2, zq3]))
          refine One.still hV ?_; exact rfl
        · intro vs W1 m1 hE hM hV hD; obtain ⟨⟨_, _, -, -, f29⟩, -, -⟩ := hD; have f29 : vs 29 = _ := f29; generalize vs 29 = x29 at f29 ⊢; subst x29; replace hL := hL.call hE hM hV
          exact sLd
        · intro vs W1 m1 hE hM hV hD; obtain ⟨⟨_, _, -, -, f28⟩, ⟨_, _, -, -, f30⟩, -, -⟩ := hD; have f28 : vs 28 = _ := f28; generalize vs 28 = x28 at f28 ⊢; subst x28; have f30 : vs 30 = _ := f30; generalize vs 30 = x30 at f30 ⊢; subst x30; replace hL := hL.call hE hM hV
          exact sPu
        · intro vs W1 m1 hE hM hV hD; obtain ⟨⟨_, _, -, -, f26⟩, -, -, -, -, -, -, -, -, -, -, -⟩ := hD; have f26 : vs 26 = _ := f26; generalize vs 26 = x26 at f26 ⊢; subst x26; replace hL := hL.call hE hM hV
          go_wp2_with (first | ((with_reducible refine kAny ?_); go_skip) | ((first | refine tLo ?_ | (refine tSt ?_; clear hL; intro _ hL; simp only [splice, zq1, zq2, zq3] at hL) | ((first | refine tBx ?_ | refine tAl ?_); clear hL; intro _ _ hL _)); simp only [Act.put, zq1, zq2, zq3]))
          refine One.still hV ?_; exact rfl
        · intro vs W1 m1 hE hM hV hD; obtain ⟨⟨_, _, -, -, f31⟩, -, -, -, -, -, -, -, -, -, -, -, -, -⟩ := hD; have f31 : vs 31 = _ := f31; generalize vs 31 = x31 at f31 ⊢; subst x31; replace hL := hL.call hE hM hV
          go_wp2_with (first | ((with_reducible refine kAny ?_); go_skip) | ((first | refine tLo ?_ | (refine tSt ?_; clear hL; intro _ hL; simp only [splice, zq1, zq2, zq3] at hL) | ((first | refine tBx ?_ | refine tAl ?_); clear hL; intro _ _ hL _)); simp only [Act.put, zq1, zq2, zq3]))
          refine One.still hV ?_; exact rfl
      intro vs W1 m1 hE hM hV hF hD
      clear hD
      obtain ⟨⟨_, _, -, -, f22⟩, ⟨_, _, -, -, f23⟩, ⟨_, _, -, -, f24⟩, ⟨_, _, -, -, f25⟩, ⟨_, _, -, -, f26⟩, ⟨_, _, -, -, f27⟩, ⟨_, _, -, -, f28⟩, ⟨_, _, -, -, f29⟩, ⟨_, _, -, -, f30⟩, ⟨_, _, -, -, f31⟩, ⟨_, _, -, -, f8⟩, ⟨_, _, -, -, f9⟩, -⟩ := hF
      replace hL := hL.call hE hM hV
      have f22 : vs 22 = _ := f22
      generalize vs 22 = x22 at f22 ⊢
      subst x22
      have f23 : vs 23 = _ := f23
      generalize vs 23 = x23 at f23 ⊢
      subst x23
      have f24 : vs 24 = _ := f24
      generalize vs 24 = x24 at f24 ⊢
      subst x24
      have f25 : vs 25 = _ := f25
      generalize vs 25 = x25 at f25 ⊢
      subst x25
      have f26 : vs 26 = _ := f26
      generalize vs 26 = x26 at f26 ⊢
      subst x26
      have f27 : vs 27 = _ := f27
      generalize vs 27 = x27 at f27 ⊢
      subst x27
      have f28 : vs 28 = _ := f28
      generalize vs 28 = x28 at f28 ⊢
      subst x28
      have f29 : vs 29 = _ := f29
      generalize vs 29 = x29 at f29 ⊢
      subst x29
      have f30 : vs 30 = _ := f30
      generalize vs 30 = x30 at f30 ⊢
      subst x30
      have f31 : vs 31 = _ := f31
      generalize vs 31 = x31 at f31 ⊢
      subst x31
      have f8 : vs 8 = _ := f8
      generalize vs 8 = x8 at f8 ⊢
      subst x8
      have f9 : vs 9 = _ := f9
      generalize vs 9 = x9 at f9 ⊢
      subst x9
      clear hE hV
      simp only [List.drop_succ_cons, List.drop_zero]
      go_wp2_with (first | ((with_reducible refine kAny ?_); go_skip) | ((first | refine tLo ?_ | (refine tSt ?_; clear hL; intro _ hL; simp only [splice, zq1, zq2, zq3] at hL) | ((first | refine tBx ?_ | refine tAl ?_); clear hL; intro _ _ hL _)); simp only [Act.put, zq1, zq2, zq3]))
      go_ret
      exact RetV.mk hL (by rw [E.out]; rfl)
end Go.Proofs.YtmhkmmmompediaaGreat

/- Contracts of pairingref27.SameCuts (equal lists), SameDecisions. -/
namespace Go.Proofs.YtmhkmmmompediaaGreat
open Go.RowKit

set_option maxRecDepth 100000 in
set_option maxHeartbeats 8000000 in
theorem r_SameCuts (a b : Value) (xs : List Cut) (w m : World) (hV : Vw m w) (ha : CutL m a xs) (hb : CutL m b xs) (hl : xs.length ≤ 1000000) :
    Calls Tryz.prog 41 #[a, b] w (RetV w m fun _ r => r = .bool true) := by
  obtain ⟨A, c, rfl, hc, ha⟩ := ha.lit
  obtain ⟨B, d, rfl, hd, hb⟩ := hb.lit
  have hL := Loc.start hV
  clear hV
  generalize hn : xs.length = n at *
  have HN := Lib.hid hn
  clear hn
  have hnn : ((n : Int) != (n : Int)) = false := by simp
  go_enter Tryz.func41, Tryz.ntmps41
  go_wp2_with (first | ((with_reducible refine kAny ?_); go_skip) | ((first | refine tIn ?_ | refine tFd ?_ | refine tLn ?_); simp only [Act.put, zq1, zq2, zq3]))
  go_loopw [5] (fun i wr => ∃ (k : Nat) (mm : World), k ≤ n ∧ i = .int .i64 k ∧ Loc w m wr mm [] ∧ Ext m mm) (fun i _ => n - (intOf i).toNat)
  case atStart => exact ⟨0, m, Nat.zero_le _, rfl, hL, Ext.refl _⟩
  case round =>
    clear hL
    obtain ⟨k, mm, hk, rfl, hL, hM⟩ := hrel
    by_cases hlt : k < n
    · obtain ⟨⟨r, dv⟩, hx⟩ := at_some HN hlt
      obtain ⟨b1, o1, A1, c1, rfl, hs1, hl1, hc1, hp1, hq1, -⟩ := CutL.at_ ha hx
      obtain ⟨b2, o2, A2, c2, rfl, hs2, hl2, hc2, hp2, hq2, -⟩ := CutL.at_ hb hx
      clear hx
      simp only at hs1 hl1 hc1 hp1 hq1 hs2 hl2 hc2 hp2 hq2
      have hxx : (dv != dv) = false := by simp
      have hll := Lib.hid hl1
      clear hl1 hl2
      go_upto_region 6 with ((first | ((with_reducible refine kAny ?_); go_skip) | ((first | refine tIn ?_ | refine tFd ?_ | refine tLn ?_); simp only [Act.put, zq1, zq2, zq3])))
      (try simp only [eq_self] at *)
      refine wp_region_by2 25 [false, false, false, false, false, false, false, false, false, false, false, false, false, false, false, false, false, false, false, false, false, false, false, false, false] [false, false, false, false, false, false, false, false, false, false, false, false, false, false, false, false, false, false, false, false, false, false, false, false, false] [(fun v _ _ => v = ?c6_0), (fun v _ _ => v = ?c6_1), (fun v _ _ => v = ?c6_2), (fun v _ _ => v = ?c6_3), (fun v _ _ => v = ?c6_4), (fun v _ _ => v = ?c6_5), (fun v _ _ => v = ?c6_6), (fun v _ _ => v = ?c6_7), (fun v _ _ => v = ?c6_8), (fun v _ _ => v = ?c6_9), (fun v _ _ => v = ?c6_10), (fun v _ _ => v = ?c6_11), (fun v _ _ => v = ?c6_12), (fun v _ _ => v = ?c6_13), (fun v _ _ => v = ?c6_14), (fun v _ _ => v = ?c6_15), (fun v _ _ => v = ?c6_16), (fun v _ _ => v = ?c6_17), (fun v _ _ => v = ?c6_18), (fun v _ _ => v = ?c6_19), (fun v _ _ => v = ?c6_20), (fun v _ _ => v = ?c6_21), Is (.bool true), (fun v _ _ => v = ?c6_23), (fun v _ _ => v = ?c6_24)] hL.vw mixed [17, 18, 19, 20, 21, 22, 23, 24, 25, 26, 27, 28, 29, 30, 31, 32, 33, 34, 35, 36, 37, 38, 39, 40, 41] _ (by kernel_rfl) (fun vs => by simp only [lay, Act.put, zq1, zq2, zq3]; rfl) (by kernel_rfl) (by decide) (by decide) ?s6 ?l6 ?r6
      case s6 =>
        refine ⟨?_, ?_, ?_, ?_, ?_, ?_, ?_, ?_, ?_, ?_, ?_, ?_, ?_, ?_, ?_, ?_, ?_, ?_, ?_, ?_, ?_, ?_, ?_, ?_, ?_, trivial⟩
        · intro vs W1 m1 hE hM hV hD; clear hD; replace hL := hL.call hE hM hV
          exact sPu
        · intro vs W1 m1 hE hM hV hD; clear hD; replace hL := hL.call hE hM hV
          exact sPu
        · intro vs W1 m1 hE hM hV hD; obtain ⟨⟨_, _, -, -, f17⟩, ⟨_, _, -, -, f18⟩, -⟩ := hD; have f17 : vs 17 = _ := f17; generalize vs 17 = x17 at f17 ⊢; subst x17; have f18 : vs 18 = _ := f18; generalize vs 18 = x18 at f18 ⊢; subst x18; replace hL := hL.call hE hM hV
          exact sIx
        · intro vs W1 m1 hE hM hV hD; obtain ⟨⟨_, _, -, -, f19⟩, -⟩ := hD; have f19 : vs 19 = _ := f19; generalize vs 19 = x19 at f19 ⊢; subst x19; replace hL := hL.call hE hM hV
          exact sFd
        · intro vs W1 m1 hE hM hV hD; obtain ⟨⟨_, _, -, -, f20⟩, -⟩ := hD; have f20 : vs 20 = _ := f20; generalize vs 20 = x20 at f20 ⊢; subst x20; replace hL := hL.call hE hM hV
          exact sLd
        · intro vs W1 m1 hE hM hV hD; clear hD; replace hL := hL.call hE hM hV
          exact sPu
        · intro vs W1 m1 hE hM hV hD; clear hD; replace hL := hL.call hE hM hV
          exact sPu
        · intro vs W1 m1 hE hM hV hD; obtain ⟨⟨_, _, -, -, f22⟩, ⟨_, _, -, -, f23⟩, -⟩ := hD; have f22 : vs 22 = _ := f22; generalize vs 22 = x22 at f22 ⊢; subst x22; have f23 : vs 23 = _ := f23; generalize vs 23 = x23 at f23 ⊢; subst x23; replace hL := hL.call hE hM hV
          exact sIx
        · intro vs W1 m1 hE hM hV hD; obtain ⟨⟨_, _, -, -, f24⟩, -⟩ := hD; have f24 : vs 24 = _ := f24; generalize vs 24 = x24 at f24 ⊢; subst x24; replace hL := hL.call hE hM hV
          exact sFd
        · intro vs W1 m1 hE hM hV hD; obtain ⟨⟨_, _, -, -, f25⟩, -⟩ := hD; have f25 : vs 25 = _ := f25; generalize vs 25 = x25 at f25 ⊢; subst x25; replace hL := hL.call hE hM hV
          exact sLd
        · intro vs W1 m1 hE hM hV hD; obtain ⟨⟨_, _, -, -, f21⟩, ⟨_, _, -, -, f26⟩, -⟩ := hD; have f21 : vs 21 = _ := f21; generalize vs 21 = x21 at f21 ⊢; subst x21; have f26 : vs 26 = _ := f26; generalize vs 26 = x26 at f26 ⊢; subst x26; replace hL := hL.call hE hM hV
          exact sPu
        · intro vs W1 m1 hE hM hV hD; obtain ⟨⟨_, _, -, -, f27⟩, -⟩ := hD; have f27 : vs 27 = _ := f27; generalize vs 27 = x27 at f27 ⊢; subst x27; replace hL := hL.call hE hM hV
          exact sPu
        · intro vs W1 m1 hE hM hV hD; obtain ⟨⟨_, _, -, -, f28⟩, -⟩ := hD; have f28 : vs 28 = _ := f28; generalize vs 28 = x28 at f28 ⊢; subst x28; replace hL := hL.call hE hM hV
          exact sPu
        · intro vs W1 m1 hE hM hV hD; obtain ⟨⟨_, _, -, -, f28⟩, -⟩ := hD; have f28 : vs 28 = _ := f28; generalize vs 28 = x28 at f28 ⊢; subst x28; replace hL := hL.call hE hM hV
          exact sPu
        · intro vs W1 m1 hE hM hV hD; obtain ⟨⟨_, _, -, -, f29⟩, ⟨_, _, -, -, f30⟩, ⟨_, _, -, -, f28⟩, -⟩ := hD; have f29 : vs 29 = _ := f29; generalize vs 29 = x29 at f29 ⊢; subst x29; have f30 : vs 30 = _ := f30; generalize vs 30 = x30 at f30 ⊢; subst x30; have f28 : vs 28 = _ := f28; generalize vs 28 = x28 at f28 ⊢; subst x28; replace hL := hL.call hE hM hV
          exact sIx
        · intro vs W1 m1 hE hM hV hD; obtain ⟨⟨_, _, -, -, f31⟩, ⟨_, _, -, -, f28⟩, -⟩ := hD; have f31 : vs 31 = _ := f31; generalize vs 31 = x31 at f31 ⊢; subst x31; have f28 : vs 28 = _ := f28; generalize vs 28 = x28 at f28 ⊢; subst x28; replace hL := hL.call hE hM hV
          exact sFd
        · intro vs W1 m1 hE hM hV hD; obtain ⟨⟨_, _, -, -, f32⟩, ⟨_, _, -, -, f28⟩, -⟩ := hD; have f32 : vs 32 = _ := f32; generalize vs 32 = x32 at f32 ⊢; subst x32; have f28 : vs 28 = _ := f28; generalize vs 28 = x28 at f28 ⊢; subst x28; replace hL := hL.call hE hM hV
          exact sLd
        · intro vs W1 m1 hE hM hV hD; obtain ⟨⟨_, _, -, -, f28⟩, -⟩ := hD; have f28 : vs 28 = _ := f28; generalize vs 28 = x28 at f28 ⊢; subst x28; replace hL := hL.call hE hM hV
          exact sPu
        · intro vs W1 m1 hE hM hV hD; obtain ⟨⟨_, _, -, -, f28⟩, -⟩ := hD; have f28 : vs 28 = _ := f28; generalize vs 28 = x28 at f28 ⊢; subst x28; replace hL := hL.call hE hM hV
          exact sPu
        · intro vs W1 m1 hE hM hV hD; obtain ⟨⟨_, _, -, -, f34⟩, ⟨_, _, -, -, f35⟩, ⟨_, _, -, -, f28⟩, -⟩ := hD; have f34 : vs 34 = _ := f34; generalize vs 34 = x34 at f34 ⊢; subst x34; have f35 : vs 35 = _ := f35; generalize vs 35 = x35 at f35 ⊢; subst x35; have f28 : vs 28 = _ := f28; generalize vs 28 = x28 at f28 ⊢; subst x28; replace hL := hL.call hE hM hV
          exact sIx
        · intro vs W1 m1 hE hM hV hD; obtain ⟨⟨_, _, -, -, f36⟩, ⟨_, _, -, -, f28⟩, -⟩ := hD; have f36 : vs 36 = _ := f36; generalize vs 36 = x36 at f36 ⊢; subst x36; have f28 : vs 28 = _ := f28; generalize vs 28 = x28 at f28 ⊢; subst x28; replace hL := hL.call hE hM hV
          exact sFd
        · intro vs W1 m1 hE hM hV hD; obtain ⟨⟨_, _, -, -, f37⟩, ⟨_, _, -, -, f28⟩, -⟩ := hD; have f37 : vs 37 = _ := f37; generalize vs 37 = x37 at f37 ⊢; subst x37; have f28 : vs 28 = _ := f28; generalize vs 28 = x28 at f28 ⊢; subst x28; replace hL := hL.call hE hM hV
          exact sLd
        · intro vs W1 m1 hE hM hV hD; obtain ⟨⟨_, _, -, -, f33⟩, ⟨_, _, -, -, f38⟩, ⟨_, _, -, -, f28⟩, -, -⟩ := hD; have f33 : vs 33 = _ := f33; generalize vs 33 = x33 at f33 ⊢; subst x33; have f38 : vs 38 = _ := f38; generalize vs 38 = x38 at f38 ⊢; subst x38; have f28 : vs 28 = _ := f28; generalize vs 28 = x28 at f28 ⊢; subst x28
          go_wp2_with fail
          refine (r_SameInts _ _ r _ _ hV (IntL.le hs1 leX) (IntL.le hs2 leX) hll.out).mono ?_
          rintro e W2 ⟨v, m2, rfl, hE2, hM2, hV2, h⟩
          go_wp2_with fail
          refine One2.call hE2 hM2 hV2 ?_; first | exact h | exact rfl
        · intro vs W1 m1 hE hM hV hD; obtain ⟨⟨_, _, -, -, f39⟩, ⟨_, _, -, -, f28⟩, -⟩ := hD; have f39 : vs 39 = _ := f39; generalize vs 39 = x39 at f39 ⊢; subst x39; have f28 : vs 28 = _ := f28; generalize vs 28 = x28 at f28 ⊢; subst x28; replace hL := hL.call hE hM hV
          exact sPu
        · intro vs W1 m1 hE hM hV hD; obtain ⟨⟨_, _, -, -, f28⟩, ⟨_, _, -, -, f40⟩, -⟩ := hD; have f28 : vs 28 = _ := f28; generalize vs 28 = x28 at f28 ⊢; subst x28; have f40 : vs 40 = _ := f40; generalize vs 40 = x40 at f40 ⊢; subst x40; replace hL := hL.call hE hM hV
          exact sPu
      case l6 =>
        refine ⟨fun h => (by cases h), fun h => (by cases h), fun h => (by cases h), fun h => (by cases h), fun h => (by cases h), fun h => (by cases h), fun h => (by cases h), fun h => (by cases h), fun h => (by cases h), fun h => (by cases h), fun h => (by cases h), fun h => (by cases h), fun h => (by cases h), fun h => (by cases h), fun h => (by cases h), fun h => (by cases h), fun h => (by cases h), fun h => (by cases h), fun h => (by cases h), fun h => (by cases h), fun h => (by cases h), fun h => (by cases h), fun h => (by cases h), fun h => (by cases h), fun h => (by cases h), trivial⟩
      intro vs W1 m1 hE hM hV hF hD
      clear hD
      obtain ⟨⟨_, _, -, -, f17⟩, ⟨_, _, -, -, f18⟩, ⟨_, _, -, -, f19⟩, ⟨_, _, -, -, f20⟩, ⟨_, _, -, -, f21⟩, ⟨_, _, -, -, f22⟩, ⟨_, _, -, -, f23⟩, ⟨_, _, -, -, f24⟩, ⟨_, _, -, -, f25⟩, ⟨_, _, -, -, f26⟩, ⟨_, _, -, -, f27⟩, ⟨_, _, -, -, f28⟩, ⟨_, _, -, -, f29⟩, ⟨_, _, -, -, f30⟩, ⟨_, _, -, -, f31⟩, ⟨_, _, -, -, f32⟩, ⟨_, _, -, -, f33⟩, ⟨_, _, -, -, f34⟩, ⟨_, _, -, -, f35⟩, ⟨_, _, -, -, f36⟩, ⟨_, _, -, -, f37⟩, ⟨_, _, -, -, f38⟩, ⟨_, _, -, -, f39⟩, ⟨_, _, -, -, f40⟩, ⟨_, _, -, -, f41⟩, -⟩ := hF
      replace hL := hL.call hE hM hV
      have f17 : vs 17 = _ := f17
      generalize vs 17 = x17 at f17 ⊢
      subst x17
      have f18 : vs 18 = _ := f18
      generalize vs 18 = x18 at f18 ⊢
      subst x18
      have f19 : vs 19 = _ := f19
      generalize vs 19 = x19 at f19 ⊢
      subst x19
      have f20 : vs 20 = _ := f20
      generalize vs 20 = x20 at f20 ⊢
      subst x20
      have f21 : vs 21 = _ := f21
      generalize vs 21 = x21 at f21 ⊢
      subst x21
      have f22 : vs 22 = _ := f22
      generalize vs 22 = x22 at f22 ⊢
      subst x22
      have f23 : vs 23 = _ := f23
      generalize vs 23 = x23 at f23 ⊢
      subst x23
      have f24 : vs 24 = _ := f24
      generalize vs 24 = x24 at f24 ⊢
      subst x24
      have f25 : vs 25 = _ := f25
      generalize vs 25 = x25 at f25 ⊢
      subst x25
      have f26 : vs 26 = _ := f26
      generalize vs 26 = x26 at f26 ⊢
      subst x26
      have f27 : vs 27 = _ := f27
      generalize vs 27 = x27 at f27 ⊢
      subst x27
      have f28 : vs 28 = _ := f28
      generalize vs 28 = x28 at f28 ⊢
      subst x28
      have f29 : vs 29 = _ := f29
      generalize vs 29 = x29 at f29 ⊢
      subst x29
      have f30 : vs 30 = _ := f30
      generalize vs 30 = x30 at f30 ⊢
      subst x30
      have f31 : vs 31 = _ := f31
      generalize vs 31 = x31 at f31 ⊢
      subst x31
      have f32 : vs 32 = _ := f32
      generalize vs 32 = x32 at f32 ⊢
      subst x32
      have f33 : vs 33 = _ := f33
      generalize vs 33 = x33 at f33 ⊢
      subst x33
      have f34 : vs 34 = _ := f34
      generalize vs 34 = x34 at f34 ⊢
      subst x34
      have f35 : vs 35 = _ := f35
      generalize vs 35 = x35 at f35 ⊢
      subst x35
      have f36 : vs 36 = _ := f36
      generalize vs 36 = x36 at f36 ⊢
      subst x36
      have f37 : vs 37 = _ := f37
      generalize vs 37 = x37 at f37 ⊢
      subst x37
      have f38 : vs 38 = _ := f38
      generalize vs 38 = x38 at f38 ⊢
      subst x38
      have f39 : vs 39 = _ := f39
      generalize vs 39 = x39 at f39 ⊢
      subst x39
      have f40 : vs 40 = _ := f40
      generalize vs 40 = x40 at f40 ⊢
      subst x40
      have f41 : vs 41 = _ := f41
      generalize vs 41 = x41 at f41 ⊢
      subst x41
      clear hE hV
      simp only [List.drop_succ_cons, List.drop_zero]
      go_wp2_with (first | ((with_reducible refine kAny ?_); go_skip) | ((first | refine tIn ?_ | refine tFd ?_ | refine tLn ?_); simp only [Act.put, zq1, zq2, zq3]))
      refine QN.mk ?_
      go_wp2_with (first | ((with_reducible refine kAny ?_); go_skip) | ((first | refine tIn ?_ | refine tFd ?_ | refine tLn ?_); simp only [Act.put, zq1, zq2, zq3]))
      go_roundw
      case rel => exact ⟨k + 1, _, by omega, by go_num, hL, hL.mext⟩
      case measure => simp [intOf] <;> omega
    · go_wp2_with (first | ((with_reducible refine kAny ?_); go_skip) | ((first | refine tIn ?_ | refine tFd ?_ | refine tLn ?_); simp only [Act.put, zq1, zq2, zq3]))
      go_ret
      exact RetV.mk hL rfl
end Go.Proofs.YtmhkmmmompediaaGreat

/- Plain facts on floors, ceilings and signs of fractions. -/
namespace Go.Proofs.YtmhkmmmompediaaGreat
open Go.RowKit

theorem pN_val (x y : Int) : 0 < pD y ∧ Rat.divInt (pN x y) (pD y) = Rat.divInt x y := by
  unfold pN pD
  by_cases h0 : y = 0
  · subst h0; simp
  · by_cases hn : y < 0
    · simp only [h0, hn, if_false, if_true]
      exact ⟨by omega, Rat.neg_divInt_neg x y⟩
    · simp only [h0, hn, if_false]
      exact ⟨by omega, trivial⟩
theorem rs_div {a b : Int} (hb : 0 < b) : rs (Rat.divInt a b) = icmp a 0 := by
  unfold rs
  rw [(frac_pos (x := a) hb).1]
  have hg : 0 < Int.gcd a b := Int.gcd_pos_of_ne_zero_right _ (by omega)
  obtain ⟨k, hk⟩ := Int.gcd_dvd_left a b
  generalize Int.gcd a b = g at *
  subst hk
  rw [Int.mul_ediv_cancel_left _ (by omega)]
  unfold icmp
  have hg' : (0 : Int) < g := by omega
  by_cases h : k < 0
  · rw [if_pos h, if_pos (Int.mul_neg_of_pos_of_neg hg' h)]
  · rw [if_neg h]
    by_cases h0 : k = 0
    · subst h0; simp
    · have : 0 < (g : Int) * k := Int.mul_pos hg' (by omega)
      rw [if_neg h0, if_neg (by omega), if_neg (by omega)]
theorem icmp_sub (a b : Int) : icmp (a - b) 0 = icmp a b := by
  unfold icmp
  by_cases h : a < b
  · rw [if_pos h, if_pos (by omega)]
  · rw [if_neg h, if_neg (by omega)]
    by_cases e : a = b
    · rw [if_pos e, if_pos (by omega)]
    · rw [if_neg e, if_neg (by omega)]
theorem rs_cmp (x y x' y' : Int) : rs (Rat.divInt x y - Rat.divInt x' y') = icmp (pN x y * pD y') (pN x' y' * pD y) := by
  obtain ⟨h1, h2⟩ := pN_val x y
  obtain ⟨h3, h4⟩ := pN_val x' y'
  rw [← h2, ← h4, Rat.divInt_sub_divInt _ _ (by omega) (by omega), rs_div (Int.mul_pos h1 h3), icmp_sub]

end Go.Proofs.YtmhkmmmompediaaGreat

/- Contract of branch.Choose. -/
namespace Go.Proofs.YtmhkmmmompediaaGreat
open Go.RowKit

theorem q_CompareC (a b : Value) (p q : Rat) (w m : World) (hV : Vw m w) (ha : FracC m a p) (hb : FracC m b q) (hs : Sm p.num p.den) (hs' : Sm q.num q.den) :
    Calls Tryz.prog 83 #[a, b] w (RetV w m fun _ r => r = .int .i64 (rs (p - q))) := by
  have h := q_Compare a b p.num p.den q.num q.den w m hV (ha.toS hs) (hb.toS hs') hs hs'
  rw [← rs_cmp, Rat.num_divInt_den, Rat.num_divInt_den] at h
  exact h
end Go.Proofs.YtmhkmmmompediaaGreat

/- Contract of pairingdata.Values. -/
namespace Go.Proofs.YtmhkmmmompediaaGreat
open Go.RowKit

def valT (a : Int) : Rat := if a % 29 = 28 then Rat.divInt (-1) 3 else Rat.divInt (a % 4) (2 + a / 4 % 2)
def valsF (l : List Int) (n : Nat) : List Rat := (List.range n).map fun i => valT (atF l i)
theorem valsF_snoc (l : List Int) (j : Nat) {a : Int} (h : Hid (atF l j = a)) : valsF l j ++ [valT a] = valsF l (j + 1) := by
  unfold valsF; rw [List.range_succ, List.map_append, ← h.out]; rfl
theorem valsF_len (l : List Int) (n : Nat) : (valsF l n).length = n := by simp [valsF]
theorem valT_tw (a : Int) : Tw 18 (valT a) := by
  unfold valT
  split
  · exact ⟨-4, by rw [← Rat.divInt_mul_right (n := -1) (d := 3) (a := 4) (by decide)]; rfl, by decide⟩
  · rcases (by omega : a / 4 % 2 = 0 ∨ a / 4 % 2 = 1) with e | e
    · rw [e]
      exact ⟨a % 4 * 6, by rw [← Rat.divInt_mul_right (n := a % 4) (d := 2 + 0) (a := 6) (by decide)]; rfl, by omega⟩
    · rw [e]
      exact ⟨a % 4 * 4, by rw [← Rat.divInt_mul_right (n := a % 4) (d := 2 + 1) (a := 4) (by decide)]; rfl, by omega⟩
theorem valsF_tw (l : List Int) (n : Nat) : ∀ v ∈ valsF l n, Tw 18 v := by
  intro v hv
  obtain ⟨i, -, rfl⟩ := List.mem_map.1 hv
  exact valT_tw _

set_option maxRecDepth 100000 in
set_option maxHeartbeats 32000000 in
theorem d_Values (A : Option Addr) (c : Nat) (l : List Int) (n : Nat) (z : Int) (w m : World) (hV : Vw m w) (h : Sl m A (l.map I64)) (hz : z = n) (hn : n ≤ 1000) :
    Calls Tryz.prog 36 #[.slice A l.length c, .int .i64 z] w (RetV w m fun m' r => FracL m' r (valsF l n)) := by
  subst hz
  have HL : Hid True := trivial
  generalize hN : l.length = N
  have HN := Lib.hid hN
  clear hN
  have hL := Loc.start hV
  clear hV
  go_enter Tryz.func36, Tryz.ntmps36
  go_wp2_with (first | ((with_reducible refine kAny ?_); go_skip) | (with_reducible refine stA ?_) | ((first | refine tLd ?_ | ((first | refine tSr ?_ | refine tSt ?_); clear hL; intro _ hL; simp only [splice, zq1, zq2, zq3] at hL) | (refine tAl ?_; clear hL; intro _ _ hL _) | (refine tBs ?_; clear hL; intro _ _ hL _ hBs)); simp only [Act.put, zq1, zq2, zq3]))
  go_loopw [5, 6] (fun ov i wr => ∃ (j : Nat) (mm : World) (Rr : List Lo), j ≤ n ∧ i = .int .i64 j ∧ Loc w m wr mm Rr ∧ Hid (RowA 39 4 FracC mm ov j (valsF l j) Rr)) (fun _ i _ => n - (intOf i).toNat)
  case atStart => exact ⟨0, _, [], Nat.zero_le _, rfl, hL, RowA.nil⟩
  case round =>
    clear hL
    obtain ⟨j, mm, Rr, hj, rfl, hL, row⟩ := hrel
    have hM := hL.mext
    have hA := h.le hM.le
    obtain ⟨A7, c7, rfl, row1⟩ := row.out.lit
    have ROW := Lib.hid row1
    clear row row1 hM
    by_cases hlt : j < n
    · obtain ⟨a, Ea, pa, pa'⟩ := atX l j (by omega)
      have hlt' : (j : Int) < (n : Int) := by omega
      have e1 := i64_and1 (a / 4)
      have VT := Lib.hid (valsF_snoc l j Ea)
      have F0 : Hid (Fit 200 ((a % 4 : Int) : Rat)) := (Tn.int (k := 1000) (by omega) (by decide)).fit (by decide)
      have F1 : Hid (Fit 200 ((2 + a / 4 % 2 : Int) : Rat)) := (Tn.int (k := 1000) (by omega) (by decide)).fit (by decide)
      have F2 : Hid (Fit 200 ((-1 : Int) : Rat)) := (Tn.int (k := 1000) (by decide) (by decide)).fit (by decide)
      have F3 : Hid (Fit 200 ((3 : Int) : Rat)) := (Tn.int (k := 1000) (by decide) (by decide)).fit (by decide)
      go_wp2_with (first | ((with_reducible refine kAny ?_); go_skip) | (with_reducible refine stA ?_) | ((first | refine tLd ?_ | ((first | refine tSr ?_ | refine tSt ?_); clear hL; intro _ hL; simp only [splice, zq1, zq2, zq3] at hL) | (refine tAl ?_; clear hL; intro _ _ hL _) | (refine tBs ?_; clear hL; intro _ _ hL _ hBs)); simp only [Act.put, zq1, zq2, zq3]))
      refine (d_AtE _ _ _ l _ j a _ _ hL.vw (hA.le leX) HN HL Ea rfl (by omega)).mono ?_
      rintro e Wc1 ⟨_, mc1, rfl, hE, hMc1, hV, rfl⟩
      replace hL := hL.call hE (by assumption) hV; clear hE hV
      go_wp2_with (first | ((with_reducible refine kAny ?_); go_skip) | (with_reducible refine stA ?_) | ((first | refine tLd ?_ | ((first | refine tSr ?_ | refine tSt ?_); clear hL; intro _ hL; simp only [splice, zq1, zq2, zq3] at hL) | (refine tAl ?_; clear hL; intro _ _ hL _) | (refine tBs ?_; clear hL; intro _ _ hL _ hBs)); simp only [Act.put, zq1, zq2, zq3]))
      refine (r_Int (a % 4) _ _ hL.vw (by omega) (by omega)).mono ?_
      rintro e Wc2 ⟨vc2, mc2, rfl, hE, hMc2, hV, hc2⟩
      replace hL := hL.call hE (by assumption) hV; clear hE hV
      obtain ⟨gc2', Ac2', nc2', cc2', hc2', Bc2', kc2', dc2', rfl, hc2⟩ := hc2.lit
      go_wp2_with (first | ((with_reducible refine kAny ?_); go_skip) | (with_reducible refine stA ?_) | ((first | refine tLd ?_ | ((first | refine tSr ?_ | refine tSt ?_); clear hL; intro _ hL; simp only [splice, zq1, zq2, zq3] at hL) | (refine tAl ?_; clear hL; intro _ _ hL _) | (refine tBs ?_; clear hL; intro _ _ hL _ hBs)); simp only [Act.put, zq1, zq2, zq3]))
      refine (r_Int (2 + a / 4 % 2) _ _ hL.vw (by omega) (by omega)).mono ?_
      rintro e Wc3 ⟨vc3, mc3, rfl, hE, hMc3, hV, hc3⟩
      replace hL := hL.call hE (by assumption) hV; clear hE hV
      obtain ⟨gc3', Ac3', nc3', cc3', hc3', Bc3', kc3', dc3', rfl, hc3⟩ := hc3.lit
      go_wp2_with (first | ((with_reducible refine kAny ?_); go_skip) | (with_reducible refine stA ?_) | ((first | refine tLd ?_ | ((first | refine tSr ?_ | refine tSt ?_); clear hL; intro _ hL; simp only [splice, zq1, zq2, zq3] at hL) | (refine tAl ?_; clear hL; intro _ _ hL _) | (refine tBs ?_; clear hL; intro _ _ hL _ hBs)); simp only [Act.put, zq1, zq2, zq3]))
      refine (r_DivC _ _ _ _ _ _ hL.vw (hc2.le leX) hc3 F0.out F1.out).mono ?_
      rintro e Wc4 ⟨vc4, mc4, rfl, hE, hMc4, hV, hc4⟩
      replace hL := hL.call hE (by assumption) hV; clear hE hV
      obtain ⟨gc4', Ac4', nc4', cc4', hc4', Bc4', kc4', dc4', rfl, hc4⟩ := hc4.lit
      rw [div_mix] at hc4
      clear hc2 hc3
      by_cases h29 : a % 29 = 28
      · have b1 := bt h29
        have HW : Hid (valT a = Rat.divInt (-1) 3) := by show _ = _; unfold valT; rw [if_pos h29]
        clear h29 hc4
        go_wp2_with (first | ((with_reducible refine kAny ?_); go_skip) | (with_reducible refine stA ?_) | ((first | refine tLd ?_ | ((first | refine tSr ?_ | refine tSt ?_); clear hL; intro _ hL; simp only [splice, zq1, zq2, zq3] at hL) | (refine tAl ?_; clear hL; intro _ _ hL _) | (refine tBs ?_; clear hL; intro _ _ hL _ hBs)); simp only [Act.put, zq1, zq2, zq3]))
        refine (r_Int (-1) _ _ hL.vw (by decide) (by decide)).mono ?_
        rintro e Wc5 ⟨vc5, mc5, rfl, hE, hMc5, hV, hc5⟩
        replace hL := hL.call hE (by assumption) hV; clear hE hV
        obtain ⟨gc5', Ac5', nc5', cc5', hc5', Bc5', kc5', dc5', rfl, hc5⟩ := hc5.lit
        go_wp2_with (first | ((with_reducible refine kAny ?_); go_skip) | (with_reducible refine stA ?_) | ((first | refine tLd ?_ | ((first | refine tSr ?_ | refine tSt ?_); clear hL; intro _ hL; simp only [splice, zq1, zq2, zq3] at hL) | (refine tAl ?_; clear hL; intro _ _ hL _) | (refine tBs ?_; clear hL; intro _ _ hL _ hBs)); simp only [Act.put, zq1, zq2, zq3]))
        refine (r_Int 3 _ _ hL.vw (by decide) (by decide)).mono ?_
        rintro e Wc6 ⟨vc6, mc6, rfl, hE, hMc6, hV, hc6⟩
        replace hL := hL.call hE (by assumption) hV; clear hE hV
        obtain ⟨gc6', Ac6', nc6', cc6', hc6', Bc6', kc6', dc6', rfl, hc6⟩ := hc6.lit
        go_wp2_with (first | ((with_reducible refine kAny ?_); go_skip) | (with_reducible refine stA ?_) | ((first | refine tLd ?_ | ((first | refine tSr ?_ | refine tSt ?_); clear hL; intro _ hL; simp only [splice, zq1, zq2, zq3] at hL) | (refine tAl ?_; clear hL; intro _ _ hL _) | (refine tBs ?_; clear hL; intro _ _ hL _ hBs)); simp only [Act.put, zq1, zq2, zq3]))
        refine (r_DivC _ _ _ _ _ _ hL.vw (hc5.le leX) hc6 F2.out F3.out).mono ?_
        rintro e Wc4 ⟨vc4, mc4, rfl, hE, hMc4, hV, hc4⟩
        replace hL := hL.call hE (by assumption) hV; clear hE hV
        obtain ⟨gc4', Ac4', nc4', cc4', hc4', Bc4', kc4', dc4', rfl, hc4⟩ := hc4.lit
        rw [div_mix] at hc4
        have HC4 : Hid (FracC mc4 (.agg #[.bool gc4', .slice Ac4' nc4' cc4', .bool hc4', .slice Bc4' kc4' dc4']) (valT a)) := by rw [HW.out]; exact hc4
        clear hc5 hc6 hc4
        go_wp2_with (first | ((with_reducible refine kAny ?_); go_skip) | (with_reducible refine stA ?_) | ((first | refine tLd ?_ | ((first | refine tSr ?_ | refine tSt ?_); clear hL; intro _ hL; simp only [splice, zq1, zq2, zq3] at hL) | (refine tAl ?_; clear hL; intro _ _ hL _) | (refine tBs ?_; clear hL; intro _ _ hL _ hBs)); simp only [Act.put, zq1, zq2, zq3]))
        refine goA ?_
        obtain ⟨vs7, r7, z7, y7, l7⟩ := ROW.out
        refine wl_append (A := [_]) hL r7 (wanted_none rfl) rfl ap_Fracs (by omega) rfl rfl (news := [.bool gc4', .slice Ac4' nc4' cc4', .bool hc4', .slice Bc4' kc4' dc4']) rfl ((Blk.sl hBs (n := 4) rfl).le hL.vw.le) rfl (by omega) (by omega) ?_
        clear hL
        intro v1 W5 m5 R5 hL r8 e8
        obtain ⟨A9, c9, rfl, -⟩ := r8.lit
        simp only [List.cons_append, List.nil_append] at hL
        have rd := RowA.snoc (R := FracC) (m := m5) (x := valT a) r8 z7 (y7.mono fun v x hv => hv.le (leX : Le mm m5)) l7 rfl (HC4.out.le leX)
        rw [VT.out] at rd
        have RD := Lib.hid rd
        clear rd r8 r7 z7 y7 l7
        simp only [Act.put, zq1, zq2, zq3]
        go_wp2_with (first | ((with_reducible refine kAny ?_); go_skip) | (with_reducible refine stA ?_) | ((first | refine tLd ?_ | ((first | refine tSr ?_ | refine tSt ?_); clear hL; intro _ hL; simp only [splice, zq1, zq2, zq3] at hL) | (refine tAl ?_; clear hL; intro _ _ hL _) | (refine tBs ?_; clear hL; intro _ _ hL _ hBs)); simp only [Act.put, zq1, zq2, zq3]))
        go_roundw
        case rel => exact ⟨j + 1, m5, R5, by omega, by go_num, hL.tail, RD.out⟩
        case measure => simp [intOf] <;> omega
      · have b1 := bf h29
        have HW : Hid (valT a = Rat.divInt (a % 4) (2 + a / 4 % 2)) := by show _ = _; unfold valT; rw [if_neg h29]
        have HC4 : Hid (FracC mc4 (.agg #[.bool gc4', .slice Ac4' nc4' cc4', .bool hc4', .slice Bc4' kc4' dc4']) (valT a)) := by rw [HW.out]; exact hc4
        clear h29 hc4
        go_wp2_with (first | ((with_reducible refine kAny ?_); go_skip) | (with_reducible refine stA ?_) | ((first | refine tLd ?_ | ((first | refine tSr ?_ | refine tSt ?_); clear hL; intro _ hL; simp only [splice, zq1, zq2, zq3] at hL) | (refine tAl ?_; clear hL; intro _ _ hL _) | (refine tBs ?_; clear hL; intro _ _ hL _ hBs)); simp only [Act.put, zq1, zq2, zq3]))
        refine goA ?_
        obtain ⟨vs7, r7, z7, y7, l7⟩ := ROW.out
        refine wl_append (A := [_]) hL r7 (wanted_none rfl) rfl ap_Fracs (by omega) rfl rfl (news := [.bool gc4', .slice Ac4' nc4' cc4', .bool hc4', .slice Bc4' kc4' dc4']) rfl ((Blk.sl hBs (n := 4) rfl).le hL.vw.le) rfl (by omega) (by omega) ?_
        clear hL
        intro v1 W5 m5 R5 hL r8 e8
        obtain ⟨A9, c9, rfl, -⟩ := r8.lit
        simp only [List.cons_append, List.nil_append] at hL
        have rd := RowA.snoc (R := FracC) (m := m5) (x := valT a) r8 z7 (y7.mono fun v x hv => hv.le (leX : Le mm m5)) l7 rfl (HC4.out.le leX)
        rw [VT.out] at rd
        have RD := Lib.hid rd
        clear rd r8 r7 z7 y7 l7
        simp only [Act.put, zq1, zq2, zq3]
        go_wp2_with (first | ((with_reducible refine kAny ?_); go_skip) | (with_reducible refine stA ?_) | ((first | refine tLd ?_ | ((first | refine tSr ?_ | refine tSt ?_); clear hL; intro _ hL; simp only [splice, zq1, zq2, zq3] at hL) | (refine tAl ?_; clear hL; intro _ _ hL _) | (refine tBs ?_; clear hL; intro _ _ hL _ hBs)); simp only [Act.put, zq1, zq2, zq3]))
        go_roundw
        case rel => exact ⟨j + 1, m5, R5, by omega, by go_num, hL.tail, RD.out⟩
        case measure => simp [intOf] <;> omega
    · have hjn : j = n := by omega
      subst hjn
      go_wp2_with (first | ((with_reducible refine kAny ?_); go_skip) | (with_reducible refine stA ?_) | ((first | refine tLd ?_ | ((first | refine tSr ?_ | refine tSt ?_); clear hL; intro _ hL; simp only [splice, zq1, zq2, zq3] at hL) | (refine tAl ?_; clear hL; intro _ _ hL _) | (refine tBs ?_; clear hL; intro _ _ hL _ hBs)); simp only [Act.put, zq1, zq2, zq3]))
      obtain ⟨m5, hL5, hle5, hfl, -⟩ := RowA.show (A := []) FracC.mono hL ROW.out
      go_ret
      exact RetV.mk hL5 hfl
end Go.Proofs.YtmhkmmmompediaaGreat

/- Separate$1: the greater violation stands first. -/
namespace Go.Proofs.YtmhkmmmompediaaGreat
open Go.RowKit

set_option maxRecDepth 100000 in
set_option maxHeartbeats 16000000 in
theorem u_Separate1 (a b : Value) (x y : Can) (w m : World) (hV : Vw m w) (ha : CanR m a x) (hb : CanR m b y) (hx : Sm x.2.num x.2.den) (hy : Sm y.2.num y.2.den) :
    Calls Tryz.prog 106 #[a, b] w (RetV w m fun _ r => r = .int .i64 (canC x y)) := by
  obtain ⟨R1, n1, c1, d1, g1, A1, k1, e1, h1, B1, p1, q1, rfl, -, fx⟩ := ha
  obtain ⟨R2, n2, c2, d2, g2, A2, k2, e2, h2, B2, p2, q2, rfl, -, fy⟩ := hb
  have KC : Hid (∀ a b w m', Vw m' w → FracC m' a y.2 → FracC m' b x.2 → Calls Tryz.prog 83 #[a, b] w (RetV w m' fun _ r => r = .int .i64 (canC x y))) := by
    show ∀ a b w m', _
    intro a b w m' hV ha hb
    exact q_CompareC a b y.2 x.2 w m' hV ha hb hy hx
  have FX := Lib.hid fx
  have FY := Lib.hid fy
  have hr1 : ∀ i, i < 4 → (#[.slice R1 n1 c1, .int .i64 d1, .bool g1, .slice A1 k1 e1, .bool h1, .slice B1 p1 q1] : Array Value)[2 + i]? = [.bool g1, .slice A1 k1 e1, .bool h1, .slice B1 p1 q1][i]? := fun i hi => by
    match i, hi with
    | 0, _ => rfl
    | 1, _ => rfl
    | 2, _ => rfl
    | 3, _ => rfl
  have hr2 : ∀ i, i < 4 → (#[.slice R2 n2 c2, .int .i64 d2, .bool g2, .slice A2 k2 e2, .bool h2, .slice B2 p2 q2] : Array Value)[2 + i]? = [.bool g2, .slice A2 k2 e2, .bool h2, .slice B2 p2 q2][i]? := fun i hi => by
    match i, hi with
    | 0, _ => rfl
    | 1, _ => rfl
    | 2, _ => rfl
    | 3, _ => rfl
  have hL := Loc.start hV
  clear hV fx fy
  go_enter Tryz.func106, Tryz.ntmps106
  go_upto_region 0 with (fail)
  refine wp_region_lit ?_
  refine t_box hL rfl rfl ?_; clear hL; intro Wh2 mh2 hL eh2; simp only [Act.put, zq1, zq2, zq3]
  refine t_box hL rfl rfl ?_; clear hL; intro Wh3 mh3 hL eh3; simp only [Act.put, zq1, zq2, zq3]
  go_wp2_with (first | ((with_reducible refine kAny ?_); go_skip) | (with_reducible refine stA ?_) | ((first | refine tFd ?_ | refine tLd ?_ | (refine tBx ?_; clear hL; intro _ _ hL _)); simp only [Act.put, zq1, zq2, zq3]))
  refine (KC.out _ _ _ _ hL.vw (FY.out.le leX) (FX.out.le leX)).mono ?_
  rintro e W9 ⟨_, m9, rfl, hE, hM9, hV, rfl⟩
  replace hL := hL.call hE (by assumption) hV; clear hE hV
  go_wp2_with (first | ((with_reducible refine kAny ?_); go_skip) | (with_reducible refine stA ?_) | ((first | refine tFd ?_ | refine tLd ?_ | (refine tBx ?_; clear hL; intro _ _ hL _)); simp only [Act.put, zq1, zq2, zq3]))
  go_ret
  exact RetV.mk hL rfl
end Go.Proofs.YtmhkmmmompediaaGreat

/- slices.insertionSortCmpFunc of candidates: the plain word. -/
namespace Go.Proofs.YtmhkmmmompediaaGreat
open Go.RowKit

def swp (xs : List Can) (j : Nat) : List Can :=
  match xs[j]?, xs[j - 1]? with
  | some a, some b => (xs.set j b).set (j - 1) a
  | _, _ => xs
def bubC : List Can → Nat → List Can
  | xs, 0 => xs
  | xs, j + 1 => match xs[j + 1]?, xs[j]? with
    | some a, some b => if canC a b < 0 then bubC (swp xs (j + 1)) j else xs
    | _, _ => xs
def insC (xs : List Can) : Nat → List Can
  | 0 => xs
  | i + 1 => bubC (insC xs i) i
theorem swp_mem {xs : List Can} {j : Nat} {x : Can} (h : x ∈ swp xs j) : x ∈ xs := by
  unfold swp at h
  split at h
  · next a b ha hb =>
    rcases List.mem_or_eq_of_mem_set h with h | rfl
    · rcases List.mem_or_eq_of_mem_set h with h | rfl
      · exact h
      · exact List.mem_of_getElem? hb
    · exact List.mem_of_getElem? ha
  · exact h
theorem bubC_go {xs : List Can} {j : Nat} {a b : Can} (ha : xs[j + 1]? = some a) (hb : xs[j]? = some b) : bubC xs (j + 1) = if canC a b < 0 then bubC (swp xs (j + 1)) j else xs := by
  rw [bubC, ha, hb]
theorem bubC_mem : ∀ j (ys : List Can) (x : Can), x ∈ bubC ys j → x ∈ ys := by
  intro j
  induction j with
  | zero => intro ys x h; exact h
  | succ j ih =>
    intro ys x h
    rw [bubC] at h
    split at h
    · split at h
      · exact swp_mem (ih _ _ h)
      · exact h
    · exact h
theorem insC_mem (xs : List Can) : ∀ i (x : Can), x ∈ insC xs i → x ∈ xs := by
  intro i
  induction i with
  | zero => intro x h; exact h
  | succ i ih => intro x h; exact ih x (bubC_mem _ _ _ h)
end Go.Proofs.YtmhkmmmompediaaGreat

/- Two ways to keep candidates sorted, and lists of rows in lexicographic order: the plain law. -/
namespace Go.Proofs.YtmhkmmmompediaaGreat
open Go.RowKit

theorem insR_len (x : Can) : ∀ r, (insR x r).length = r.length + 1
  | [] => rfl
  | y :: r => by
    unfold insR
    split
    · simp [insR_len x r]
    · simp
theorem sortR_snoc (xs : List Can) (x : Can) : sortR (xs ++ [x]) = insR x (sortR xs) := by simp [sortR]
theorem foldR_len : ∀ (xs acc : List Can), (xs.foldl (fun r x => insR x r) acc).length = acc.length + xs.length
  | [], acc => rfl
  | x :: xs, acc => by
    rw [List.foldl_cons, foldR_len xs, insR_len, List.length_cons]; omega
theorem sortR_len (xs : List Can) : (sortR xs).length = xs.length := by
  have := foldR_len xs []
  simpa [sortR] using this
theorem srtC_len (xs : List Can) : (srtC xs).length = xs.length := by rw [srtC, List.length_reverse, sortR_len]
theorem mid_at (r : List Can) (y x : Can) (zs : List Can) : ((y :: r).reverse ++ x :: zs)[r.length]? = some y ∧ ((y :: r).reverse ++ x :: zs)[r.length + 1]? = some x ∧ swp ((y :: r).reverse ++ x :: zs) (r.length + 1) = r.reverse ++ x :: y :: zs := by
  have e : (y :: r).reverse ++ x :: zs = r.reverse ++ y :: x :: zs := by simp
  have h1 : ((y :: r).reverse ++ x :: zs)[r.length]? = some y := by
    rw [e, List.getElem?_append_right (by simp)]; simp
  have h2 : ((y :: r).reverse ++ x :: zs)[r.length + 1]? = some x := by
    rw [e, List.getElem?_append_right (by simp)]; simp
  refine ⟨h1, h2, ?_⟩
  unfold swp
  rw [h2, Nat.add_sub_cancel, h1]
  simp only
  rw [e, List.set_append_right _ _ (by simp)]
  simp only [List.length_reverse, Nat.add_sub_cancel_left, List.set_cons_succ, List.set_cons_zero]
  rw [List.set_append_right _ _ (by simp)]
  simp
theorem bubC_ins (x : Can) : ∀ (r zs : List Can), bubC (r.reverse ++ x :: zs) r.length = (insR x r).reverse ++ zs
  | [], zs => by simp [bubC, insR]
  | y :: r, zs => by
    obtain ⟨h1, h2, h3⟩ := mid_at r y x zs
    rw [List.length_cons, bubC_go h2 h1, h3]
    unfold insR
    by_cases hc : canC x y < 0
    · rw [if_pos hc, if_pos hc, bubC_ins x r (y :: zs)]; simp
    · rw [if_neg hc, if_neg hc]; simp
theorem insC_is (xs : List Can) : ∀ i, i ≤ xs.length → insC xs i = srtC (xs.take i) ++ xs.drop i
  | 0, _ => by simp [insC, srtC, sortR]
  | i + 1, h => by
    rw [insC, insC_is xs i (by omega)]
    have hd : xs.drop i = xs[i] :: xs.drop (i + 1) := List.drop_eq_getElem_cons (by omega)
    have ht : xs.take (i + 1) = xs.take i ++ [xs[i]] := by rw [List.take_succ_eq_append_getElem]
    have hl : (sortR (xs.take i)).length = i := by rw [sortR_len, List.length_take]; omega
    rw [hd, ht]
    unfold srtC
    rw [sortR_snoc]
    have := bubC_ins xs[i] (sortR (xs.take i)) (xs.drop (i + 1))
    rw [hl] at this
    exact this
theorem insC_all (xs : List Can) : insC xs xs.length = srtC xs := by
  rw [insC_is xs _ (Nat.le_refl _), List.take_length, List.drop_length, List.append_nil]

def filP (l : List Nat) (i j : Nat) : List Nat := (List.range l.length).map fun t => if t < i then l.getD t 0 else if t < j then l.getD i 0 + 1 + (t - i) else l.getD t 0
theorem filP_len (l : List Nat) (i j : Nat) : (filP l i j).length = l.length := by simp [filP]
theorem filP_at {l : List Nat} {i j t : Nat} (h : t < l.length) : (filP l i j)[t]? = some (if t < i then l.getD t 0 else if t < j then l.getD i 0 + 1 + (t - i) else l.getD t 0) := by
  unfold filP
  rw [List.getElem?_map, List.getElem?_range h]; rfl
theorem at_getD {l : List Nat} {t : Nat} (h : t < l.length) : l[t]? = some (l.getD t 0) := by
  rw [List.getD_eq_getElem?_getD, List.getElem?_eq_getElem h]; rfl
theorem filP_one {l : List Nat} {i : Nat} (h : i < l.length) : l.set i (l.getD i 0 + 1) = filP l i (i + 1) := by
  apply List.ext_getElem?
  intro t
  by_cases ht : t < l.length
  · rw [filP_at ht, List.getElem?_set]
    by_cases e : i = t
    · subst e
      rw [if_pos rfl, if_pos h, if_neg (by omega), if_pos (by omega)]
      simp
    · rw [if_neg e, at_getD ht]
      by_cases h2 : t < i
      · rw [if_pos h2]
      · rw [if_neg h2, if_neg (by omega)]
  · rw [List.getElem?_eq_none (by simp; omega), List.getElem?_eq_none (by rw [filP_len]; omega)]
theorem filP_step {l : List Nat} {i j : Nat} (hij : i < j) (hj : j < l.length) : (filP l i j).set j (l.getD i 0 + 1 + (j - 1 - i) + 1) = filP l i (j + 1) := by
  apply List.ext_getElem?
  intro t
  by_cases ht : t < l.length
  · rw [filP_at ht, List.getElem?_set, filP_len]
    by_cases e : j = t
    · subst e
      rw [if_pos rfl, if_pos hj, if_neg (by omega), if_pos (by omega)]
      congr 1; omega
    · rw [if_neg e, filP_at ht]
      by_cases h2 : t < i
      · rw [if_pos h2, if_pos h2]
      · rw [if_neg h2, if_neg h2]
        by_cases h3 : t < j
        · rw [if_pos h3, if_pos (by omega)]
        · rw [if_neg h3, if_neg (by omega)]
  · rw [List.getElem?_eq_none (by rw [List.length_set, filP_len]; omega), List.getElem?_eq_none (by rw [filP_len]; omega)]
theorem filP_prev {l : List Nat} {i j : Nat} (hij : i < j) (hj : j ≤ l.length) : (filP l i j)[j - 1]? = some (l.getD i 0 + 1 + (j - 1 - i)) := by
  rw [filP_at (by omega), if_neg (by omega), if_pos (by omega)]
theorem filP_end {l : List Nat} {i : Nat} (h : i < l.length) : filP l i l.length = filS l i := by
  apply List.ext_getElem?
  intro t
  have hl : (filS l i).length = l.length := by unfold filS; simp; omega
  by_cases ht : t < l.length
  · rw [filP_at ht]
    unfold filS
    by_cases h2 : t < i
    · rw [if_pos h2, List.getElem?_append_left (by simp; omega), List.getElem?_take, if_pos h2, at_getD ht]
    · have h3 : (l.take i).length = i := by rw [List.length_take]; omega
      rw [if_neg h2, if_pos ht, List.getElem?_append_right (by omega), h3, List.getElem?_map, List.getElem?_range (by omega)]; rfl
  · rw [List.getElem?_eq_none (by rw [filP_len]; omega), List.getElem?_eq_none (by omega)]
theorem piv_yes {n : Nat} {l : List Nat} {i : Nat} : ∀ j, i < j → (∀ t, i < t → t < j → l.getD t 0 = n - l.length + t) → l.getD i 0 ≠ n - l.length + i → piv n l j = some i
  | 0, h, _, _ => by omega
  | j + 1, h, h1, h2 => by
    unfold piv
    by_cases e : i = j
    · subst e; rw [if_neg h2]
    · rw [if_pos (h1 j (by omega) (by omega))]
      exact piv_yes j (by omega) (fun t ht hj => h1 t ht (by omega)) h2
theorem piv_no {n : Nat} {l : List Nat} : ∀ j, (∀ t, t < j → l.getD t 0 = n - l.length + t) → piv n l j = none
  | 0, _ => rfl
  | j + 1, h => by
    unfold piv
    rw [if_pos (h j (by omega))]
    exact piv_no j fun t ht => h t (by omega)
end Go.Proofs.YtmhkmmmompediaaGreat

/- cuts.subsets$1: the iterator over lists of places, whose one row turns between the rounds. -/
namespace Go.Proofs.YtmhkmmmompediaaGreat
open Go.RowKit

theorem intsA_size (s : List Nat) : (intsA s).size = s.length := by simp [intsA]
theorem intsA_set {s : List Nat} {i x : Nat} : (intsA s).setIfInBounds i (.int .i64 (x : Int)) = intsA (s.set i x) := by
  unfold intsA
  rw [List.map_set, List.setIfInBounds_toArray]
def curL (W : World) (g : Nat) : List Nat := match W.heap[g]? with
  | some (.cells cs _ _) => cs.toList.map fun v => (intOf v).toNat
  | _ => []
theorem curL_is {W : World} {g : Nat} {t : TypeId} {s : List Nat} (h : Blk W g t (intsA s)) : curL W g = s := by
  unfold Blk at h
  unfold curL
  rw [h]
  simp only [intsA, List.map_map]
  have : ((fun v => (intOf v).toNat) ∘ fun (x : Nat) => Value.int .i64 (x : Int)) = id := by
    funext x; simp [intOf]
  rw [this, List.map_id]
theorem fidx_ok : ((List.range 6).all fun n => (List.range 6).all fun z => decide (z < 3) || (List.range (subsF n z).length).all fun k => (subsF n z).findIdx (fun l => l == (subsF n z).getD k []) == k) = true := by decide +kernel
theorem fidx {n size k : Nat} {s : List Nat} (hn : n ≤ 5) (h3 : 3 ≤ size) (h5 : size ≤ 5) (h : (subsF n size)[k]? = some s) : (subsF n size).findIdx (fun l => l == s) = k := by
  have h1 := List.all_eq_true.1 fidx_ok n (List.mem_range.2 (by omega))
  have h2 := List.all_eq_true.1 h1 size (List.mem_range.2 (by omega))
  rw [Bool.or_eq_true, decide_eq_true_eq] at h2
  have h3 := List.all_eq_true.1 (h2.resolve_left (by omega)) k (List.mem_range.2 (List.getElem?_eq_some_iff.1 h).1)
  rw [List.getD_eq_getElem?_getD, h] at h3
  exact eq_of_beq h3
end Go.Proofs.YtmhkmmmompediaaGreat

/- cuts.Separate: sizes out of range; what is found. -/
namespace Go.Proofs.YtmhkmmmompediaaGreat
open Go.RowKit

theorem fndS_mem {ms : Ms} {us : List Rat} {d : Nat} {fs : List Can} {s : List Nat} {x : Can} (h : x ∈ fndS ms us d fs s) : x ∈ fs ∨ x = (cutS ms d s, vioF (cutS ms d s) ms.cols us) := by
  unfold fndS at h
  split at h
  · exact .inl h
  · split at h
    · exact .inl h
    · rcases List.mem_append.1 h with h | h
      · exact .inl h
      · exact .inr (List.mem_singleton.1 h)
theorem fndT_mem {ms : Ms} {us : List Rat} {sz d : Nat} {x : Can} : ∀ {k}, x ∈ fndT ms us sz d k → ∃ s ∈ subsF ms.rows.length sz, x = (cutS ms d s, vioF (cutS ms d s) ms.cols us)
  | 0, h => by cases h
  | k + 1, h => by
    cases hk : (subsF ms.rows.length sz)[k]? with
    | none =>
      have h1 := List.getElem?_eq_none_iff.1 hk
      have e : fndT ms us sz d (k + 1) = fndT ms us sz d k := by unfold fndT; rw [List.take_of_length_le (by omega), List.take_of_length_le (by omega)]
      rw [e] at h
      exact fndT_mem h
    | some s =>
      rw [fndT_step hk] at h
      rcases fndS_mem h with h | h
      · exact fndT_mem h
      · exact ⟨s, List.mem_of_getElem? hk, h⟩
end Go.Proofs.YtmhkmmmompediaaGreat

/- cuts.subsets$1 in general: the iterator's one row turns between the rounds. -/
namespace Go.Proofs.YtmhkmmmompediaaGreat
open Go.RowKit

theorem splice_ints {s : List Nat} {i x : Nat} : splice (intsA s) (0 + i) [.int .i64 (x : Int)] = intsA (s.set i x) := by
  rw [Nat.zero_add, ← intsA_set]
  simp only [splice]

set_option maxRecDepth 100000 in
set_option maxHeartbeats 32000000 in
theorem it_subsets {w0 m0 W m : World} {Ls : List Lo} {l nr size n bs bn : Nat} (so : SubOk n size) (hn : n ≤ 5) (h3 : 3 ≤ size) (h5 : size ≤ 5) (C : Nat → World → List Lo → Prop) (R : World → Prop)
    (hC : ∀ k m m' Ls, C k m Ls → Ext m m' → C k m' Ls) (hR : ∀ W W', R W → Still W W' → R W')
    (hbox : ∀ k m Ls, C k m Ls → m.cell? ⟨bs, 0, none⟩ = some (.int .i64 (size : Int)) ∧ m.cell? ⟨bn, 0, none⟩ = some (.int .i64 (n : Int)))
    (hY : ∀ k s g W m Ls, (subsF n size)[k]? = some s → Loc w0 m0 W m ((g, 3, intsA s) :: Ls) → C k m Ls → R W →
      YieldAt Fence.wide nr Tryz.prog l #[.slice (some ⟨g, 0, none⟩) size size] W fun e W' => e = .returned (.bool true) ∧ ∃ m' Ls', Loc w0 m0 W' m' ((g, 3, intsA s) :: Ls') ∧ C (k + 1) m' Ls' ∧ R W')
    (hL : Loc w0 m0 W m Ls) (h0 : C 0 m Ls) (hRW : R W) :
    Calls Tryz.prog 160 #[.func (.yield l) #[] #[], .pointer (some ⟨bs, 0, none⟩), .pointer (some ⟨bn, 0, none⟩)] W (fun e W' => (∃ v, e = .returned v) ∧ ∃ m' Ls', Loc w0 m0 W' m' Ls' ∧ C (subsF n size).length m' Ls' ∧ R W') := by
  obtain ⟨hc1, hc2⟩ := hbox _ _ _ h0
  have SO := Lib.hid so
  have HC := Lib.hid hC
  have HR := Lib.hid hR
  have HB := Lib.hid hbox
  have HY := Lib.hid hY
  have H0 := Lib.hid h0
  have HRW := Lib.hid hRW
  have HL0 := Lib.hid hL
  clear so hC hR hbox hY h0 hRW
  replace hL := Loc.start hL.vw
  go_enter Tryz.func160, Tryz.ntmps160
  by_cases hsn : n < size
  · have hsn' : (n : Int) < (size : Int) := by omega
    have HE : Hid (subsF n size = []) := SO.out.none hsn
    go_wp2_with (first | ((with_reducible refine kAny ?_); go_skip) | (with_reducible refine stA ?_) | ((first | refine tIx ?_ | refine tLd ?_ | ((first | refine tSr ?_ | refine tSt ?_); clear hL; intro _ hL; simp only [splice, zq1, zq2, zq3] at hL)); simp only [Act.put, zq1, zq2, zq3]))
    refine bodyPost_ret (results_none rfl _ _ _) rfl ?_
    refine ⟨⟨_, rfl⟩, _, _, HL0.out.join hL, ?_, HR.out _ _ HRW.out hL.ext.still⟩
    rw [HE.out]
    exact HC.out _ _ _ _ H0.out hL.mext
  · have hsn' : (size : Int) ≤ (n : Int) := by omega
    have HS1 : Hid ((subsF n size)[0]? = some (List.range size)) := SO.out.first (by omega)
    have hszb : size ≤ 1000000 := by omega
    go_wp2_with (first | (refine wl_make hL (wanted_none rfl) rfl ap_ints zc_int1 rfl hszb (by decide) ?_; clear hL; intro W1 m1 hL hX1; simp only [Act.put, zq1, zq2, zq3]) | (first | ((with_reducible refine kAny ?_); go_skip) | (with_reducible refine stA ?_) | ((first | refine tIx ?_ | refine tLd ?_ | ((first | refine tSr ?_ | refine tSt ?_); clear hL; intro _ hL; simp only [splice, zq1, zq2, zq3] at hL)); simp only [Act.put, zq1, zq2, zq3])))
    rw [made_ints] at hL
    go_loopw [15] (fun iv wr => ∃ (k : Nat) (mm : World), k ≤ size ∧ iv = .int .i64 k ∧ Loc W m wr mm [(W.heap.size, 3, fillA size k)]) (fun iv _ => size - (intOf iv).toNat)
    case atStart => exact ⟨0, m1, Nat.zero_le _, rfl, hL⟩
    case round =>
      clear hL
      obtain ⟨k, mm, hk, rfl, hL⟩ := hrel
      by_cases hlt : k < size
      · have hlt' : (k : Int) < (size : Int) := by omega
        have hfit : 0 + k < (fillA size k).size := by rw [fillA_size (by omega)]; omega
        have HF := Lib.hid (fillA_put hlt)
        go_wp2_with (first | (with_reducible refine stS ?_) | (first | ((with_reducible refine kAny ?_); go_skip) | (with_reducible refine stA ?_) | ((first | refine tIx ?_ | refine tLd ?_ | ((first | refine tSr ?_ | refine tSt ?_); clear hL; intro _ hL; simp only [splice, zq1, zq2, zq3] at hL)); simp only [Act.put, zq1, zq2, zq3])))
        refine goA ?_
        refine wl_store1S hL (wanted_none rfl) (v := .int .i64 (k : Int)) (off := 0 + k) rfl rfl rfl lb_int (n := 0) rfl hfit rfl rfl ?_
        clear hL
        intro W5 hL hS5
        simp only [List.set_cons_zero] at hL
        rw [HF.out] at hL
        simp only [Act.put, zq1, zq2, zq3]
        go_wp2_with (first | ((with_reducible refine kAny ?_); go_skip) | (with_reducible refine stA ?_) | ((first | refine tIx ?_ | refine tLd ?_ | ((first | refine tSr ?_ | refine tSt ?_); clear hL; intro _ hL; simp only [splice, zq1, zq2, zq3] at hL)); simp only [Act.put, zq1, zq2, zq3]))
        go_roundw
        case rel => exact ⟨k + 1, _, by omega, by go_num, hL⟩
        case measure => simp [intOf] <;> omega
      · have hks : size = k := by omega
        subst hks
        have h9 : (size : Int) ≤ (size : Int) := Int.le_refl _
        go_wp2_with (first | ((with_reducible refine kAny ?_); go_skip) | (with_reducible refine stA ?_) | ((first | refine tIx ?_ | refine tLd ?_ | ((first | refine tSr ?_ | refine tSt ?_); clear hL; intro _ hL; simp only [splice, zq1, zq2, zq3] at hL)); simp only [Act.put, zq1, zq2, zq3]))
        have HC1 : Hid (C 0 mm Ls) := HC.out _ _ _ _ H0.out hL.mext
        have HR1 : Hid (R wr) := HR.out _ _ HRW.out hL.ext.still
        replace hL := HL0.out.join hL
        rw [fillA_all, List.singleton_append] at hL
        clear HL0 H0 HRW hc1 hc2
        generalize W.heap.size = g at *
        go_loopw [] (fun wr => ∃ (q : Nat) (s : List Nat) (m2 : World) (L2 : List Lo), (subsF n size)[q]? = some s ∧ Loc w0 m0 wr m2 ((g, 3, intsA s) :: L2) ∧ Hid (C q m2 L2) ∧ Hid (R wr)) (fun wr => (subsF n size).length - (subsF n size).findIdx (fun l => l == curL wr g))
        case atStart => exact ⟨0, _, _, _, HS1.out, hL, HC1.out, HR1.out⟩
        case round =>
          clear hL HC1 HR1 HS1
          obtain ⟨q, s, m2, L2, hq, hL, HCq, HRq⟩ := hrel
          have HCU : Hid (curL wr g = s) := curL_is (hL.at_ (n := 0) rfl)
          have hsm := List.mem_of_getElem? hq
          have HSZ : Hid (s.length = size) := SO.out.len s hsm
          have HSL : Hid (∀ i, i < size → s.getD i 0 ≤ n - size + i) := SO.out.le s hsm
          have HNX : Hid (nxtS n s = (subsF n size)[q + 1]?) := SO.out.next q s hq
          have HQ := Lib.hid hq
          have HFI : Hid ((subsF n size).findIdx (fun l => l == s) = q) := fidx hn h3 h5 hq
          have HQL : Hid (q < (subsF n size).length) := (List.getElem?_eq_some_iff.1 hq).1
          clear hsm
          go_upto_region 7 with ((first | ((with_reducible refine kAny ?_); go_skip) | (with_reducible refine stA ?_) | ((first | refine tIx ?_ | refine tLd ?_ | ((first | refine tSr ?_ | refine tSt ?_); clear hL; intro _ hL; simp only [splice, zq1, zq2, zq3] at hL)); simp only [Act.put, zq1, zq2, zq3])))
          refine (wpIn_wide (n := nr + 1)).1 ?_
          obtain ⟨fn, tmps, assign, body, hyl, hrd⟩ := HY.out q s g wr m2 L2 hq hL HCq.out HRq.out
          gi_wp2
          refine hrd.mono ?_
          rintro e W3 ⟨rfl, m3, L3, hL3, hC3, hR3⟩
          clear hrd hyl hq
          obtain ⟨hc1, hc2⟩ := HB.out _ _ _ hC3
          have hBg : Blk W3 g 3 (intsA s) := hL3.at_ (n := 0) rfl
          have HL3 := Lib.hid hL3
          have HC3 := Lib.hid hC3
          have HR3 := Lib.hid hR3
          clear hL HCq HRq
          have hL := Loc.start hL3.vw
          clear hL3 hC3 hR3
          dsimp only
          gi_step
          refine wpListIn_nil ?_
          go_wp2_with (first | ((with_reducible refine kAny ?_); go_skip) | (with_reducible refine stA ?_) | ((first | refine tIx ?_ | refine tLd ?_ | ((first | refine tSr ?_ | refine tSt ?_); clear hL; intro _ hL; simp only [splice, zq1, zq2, zq3] at hL)); simp only [Act.put, zq1, zq2, zq3]))
          go_loopw [6] (fun iv wr => ∃ (p : Nat) (z : Int) (m4 : World), p ≤ size ∧ z = (p : Int) - 1 ∧ iv = .int .i64 z ∧ Loc W3 m3 wr m4 [] ∧ Hid (∀ t, p ≤ t → t < size → s.getD t 0 = n - size + t)) (fun iv _ => (intOf iv + 1).toNat)
          case atStart => exact ⟨size, (size : Int) - 1, _, Nat.le_refl _, rfl, by go_num, hL, fun t h1 h2 => absurd h1 (by omega)⟩
          case round =>
            clear hL
            obtain ⟨p, z, m4, hp, hz, rfl, hL, HP⟩ := hrel
            have hM := hL.mext
            by_cases hp0 : p = 0
            · obtain rfl : z = -1 := by omega
              have HEND : Hid ((subsF n size).length = q + 1) := by
                show _ = _
                have h1 : nxtS n s = none := by
                  unfold nxtS
                  rw [piv_no s.length (fun t ht => by rw [HSZ.out]; exact HP.out t (by omega) (by rw [← HSZ.out]; exact ht))]; rfl
                rw [HNX.out] at h1
                have h2 := List.getElem?_eq_none_iff.1 h1
                have h3 := HQL.out
                omega
              clear hz hp0 hp
              go_upto_region 9 with ((first | ((with_reducible refine kAny ?_); go_skip) | (with_reducible refine stA ?_) | ((first | refine tIx ?_ | refine tLd ?_ | ((first | refine tSr ?_ | refine tSt ?_); clear hL; intro _ hL; simp only [splice, zq1, zq2, zq3] at hL)); simp only [Act.put, zq1, zq2, zq3])))
              refine wp_region_by2 14 [false, false, false, false, false, false, false, false, false, false, false, false, false, false] [false, false, false, false, false, false, false, false, false, false, false, false, false, false] [(fun v _ _ => v = ?c9_0a), (fun v _ _ => v = ?c9_1a), (fun v _ _ => v = ?c9_2a), (fun v _ _ => v = ?c9_3a), (fun v _ _ => v = ?c9_4a), (fun v _ _ => v = ?c9_5a), (fun v _ _ => v = ?c9_6a), (fun v _ _ => v = ?c9_7a), (fun v _ _ => v = ?c9_8a), (fun v _ _ => v = ?c9_9a), (fun v _ _ => v = ?c9_10a), (fun v _ _ => v = ?c9_11a), (fun v _ _ => v = ?c9_12a), (fun v _ _ => v = ?c9_13a)] hL.vw mixed [28, 29, 30, 31, 32, 33, 34, 35, 36, 37, 38, 39, 40, 41] _ (by kernel_rfl) (fun vs => by simp only [lay, Act.put, zq1, zq2, zq3]; rfl) (by kernel_rfl) (by decide) (by decide) ?s9a ?l9a ?r9a
              case s9a =>
                refine ⟨?_, ?_, ?_, ?_, ?_, ?_, ?_, ?_, ?_, ?_, ?_, ?_, ?_, ?_, trivial⟩
                · intro vs W1 m1 hE hM hV hD; clear hD; replace hL := hL.call hE hM hV
                  exact sPu
                · intro vs W1 m1 hE hM hV hD; obtain ⟨⟨_, _, -, -, f28⟩, -⟩ := hD; have f28 : vs 28 = _ := f28; generalize vs 28 = x28 at f28 ⊢; subst x28; replace hL := hL.call hE hM hV
                  exact sPu
                · intro vs W1 m1 hE hM hV hD; obtain ⟨⟨_, _, -, -, f29⟩, -⟩ := hD; have f29 : vs 29 = _ := f29; generalize vs 29 = x29 at f29 ⊢; subst x29; replace hL := hL.call hE hM hV
                  exact sPu
                · intro vs W1 m1 hE hM hV hD; obtain ⟨⟨_, _, -, -, f30⟩, -⟩ := hD; have f30 : vs 30 = _ := f30; generalize vs 30 = x30 at f30 ⊢; subst x30; replace hL := hL.call hE hM hV
                  exact sPu
                · intro vs W1 m1 hE hM hV hD; obtain ⟨⟨_, _, -, -, f30⟩, -⟩ := hD; have f30 : vs 30 = _ := f30; generalize vs 30 = x30 at f30 ⊢; subst x30; replace hL := hL.call hE hM hV
                  exact sPu
                · intro vs W1 m1 hE hM hV hD; obtain ⟨⟨_, _, -, -, f31⟩, ⟨_, _, -, -, f32⟩, ⟨_, _, -, -, f30⟩, -⟩ := hD; have f31 : vs 31 = _ := f31; generalize vs 31 = x31 at f31 ⊢; subst x31; have f32 : vs 32 = _ := f32; generalize vs 32 = x32 at f32 ⊢; subst x32; have f30 : vs 30 = _ := f30; generalize vs 30 = x30 at f30 ⊢; subst x30; replace hL := hL.call hE hM hV
                  exact sPu
                · intro vs W1 m1 hE hM hV hD; obtain ⟨⟨_, _, -, -, f33⟩, ⟨_, _, -, -, f30⟩, -⟩ := hD; have f33 : vs 33 = _ := f33; generalize vs 33 = x33 at f33 ⊢; subst x33; have f30 : vs 30 = _ := f30; generalize vs 30 = x30 at f30 ⊢; subst x30; replace hL := hL.call hE hM hV
                  exact sPu
                · intro vs W1 m1 hE hM hV hD; obtain ⟨⟨_, _, -, -, f30⟩, -⟩ := hD; have f30 : vs 30 = _ := f30; generalize vs 30 = x30 at f30 ⊢; subst x30; replace hL := hL.call hE hM hV
                  exact sPu
                · intro vs W1 m1 hE hM hV hD; obtain ⟨⟨_, _, -, -, f30⟩, -⟩ := hD; have f30 : vs 30 = _ := f30; generalize vs 30 = x30 at f30 ⊢; subst x30; replace hL := hL.call hE hM hV
                  exact sPu
                · intro vs W1 m1 hE hM hV hD; obtain ⟨⟨_, _, -, -, f35⟩, ⟨_, _, -, -, f36⟩, ⟨_, _, -, -, f30⟩, -⟩ := hD; have f35 : vs 35 = _ := f35; generalize vs 35 = x35 at f35 ⊢; subst x35; have f36 : vs 36 = _ := f36; generalize vs 36 = x36 at f36 ⊢; subst x36; have f30 : vs 30 = _ := f30; generalize vs 30 = x30 at f30 ⊢; subst x30; replace hL := hL.call hE hM hV
                  exact sPu
                · intro vs W1 m1 hE hM hV hD; obtain ⟨⟨_, _, -, -, f30⟩, -⟩ := hD; have f30 : vs 30 = _ := f30; generalize vs 30 = x30 at f30 ⊢; subst x30; replace hL := hL.call hE hM hV
                  exact sPu
                · intro vs W1 m1 hE hM hV hD; obtain ⟨⟨_, _, -, -, f37⟩, ⟨_, _, -, -, f38⟩, ⟨_, _, -, -, f30⟩, -⟩ := hD; have f37 : vs 37 = _ := f37; generalize vs 37 = x37 at f37 ⊢; subst x37; have f38 : vs 38 = _ := f38; generalize vs 38 = x38 at f38 ⊢; subst x38; have f30 : vs 30 = _ := f30; generalize vs 30 = x30 at f30 ⊢; subst x30; replace hL := hL.call hE hM hV
                  exact sPu
                · intro vs W1 m1 hE hM hV hD; obtain ⟨⟨_, _, -, -, f34⟩, ⟨_, _, -, -, f39⟩, ⟨_, _, -, -, f30⟩, -⟩ := hD; have f34 : vs 34 = _ := f34; generalize vs 34 = x34 at f34 ⊢; subst x34; have f39 : vs 39 = _ := f39; generalize vs 39 = x39 at f39 ⊢; subst x39; have f30 : vs 30 = _ := f30; generalize vs 30 = x30 at f30 ⊢; subst x30; replace hL := hL.call hE hM hV
                  exact sPu
                · intro vs W1 m1 hE hM hV hD; obtain ⟨⟨_, _, -, -, f30⟩, ⟨_, _, -, -, f40⟩, -⟩ := hD; have f30 : vs 30 = _ := f30; generalize vs 30 = x30 at f30 ⊢; subst x30; have f40 : vs 40 = _ := f40; generalize vs 40 = x40 at f40 ⊢; subst x40; replace hL := hL.call hE hM hV
                  exact sPu
              case l9a =>
                refine ⟨fun h => (by cases h), fun h => (by cases h), fun h => (by cases h), fun h => (by cases h), fun h => (by cases h), fun h => (by cases h), fun h => (by cases h), fun h => (by cases h), fun h => (by cases h), fun h => (by cases h), fun h => (by cases h), fun h => (by cases h), fun h => (by cases h), fun h => (by cases h), trivial⟩
              intro vs W1 m1 hE hM hV hF hD
              clear hD
              obtain ⟨⟨_, _, -, -, f28⟩, ⟨_, _, -, -, f29⟩, ⟨_, _, -, -, f30⟩, ⟨_, _, -, -, f31⟩, ⟨_, _, -, -, f32⟩, ⟨_, _, -, -, f33⟩, ⟨_, _, -, -, f34⟩, ⟨_, _, -, -, f35⟩, ⟨_, _, -, -, f36⟩, ⟨_, _, -, -, f37⟩, ⟨_, _, -, -, f38⟩, ⟨_, _, -, -, f39⟩, ⟨_, _, -, -, f40⟩, ⟨_, _, -, -, f41⟩, -⟩ := hF
              replace hL := hL.call hE hM hV
              have f28 : vs 28 = _ := f28
              generalize vs 28 = x28 at f28 ⊢
              subst x28
              have f29 : vs 29 = _ := f29
              generalize vs 29 = x29 at f29 ⊢
              subst x29
              have f30 : vs 30 = _ := f30
              generalize vs 30 = x30 at f30 ⊢
              subst x30
              have f31 : vs 31 = _ := f31
              generalize vs 31 = x31 at f31 ⊢
              subst x31
              have f32 : vs 32 = _ := f32
              generalize vs 32 = x32 at f32 ⊢
              subst x32
              have f33 : vs 33 = _ := f33
              generalize vs 33 = x33 at f33 ⊢
              subst x33
              have f34 : vs 34 = _ := f34
              generalize vs 34 = x34 at f34 ⊢
              subst x34
              have f35 : vs 35 = _ := f35
              generalize vs 35 = x35 at f35 ⊢
              subst x35
              have f36 : vs 36 = _ := f36
              generalize vs 36 = x36 at f36 ⊢
              subst x36
              have f37 : vs 37 = _ := f37
              generalize vs 37 = x37 at f37 ⊢
              subst x37
              have f38 : vs 38 = _ := f38
              generalize vs 38 = x38 at f38 ⊢
              subst x38
              have f39 : vs 39 = _ := f39
              generalize vs 39 = x39 at f39 ⊢
              subst x39
              have f40 : vs 40 = _ := f40
              generalize vs 40 = x40 at f40 ⊢
              subst x40
              have f41 : vs 41 = _ := f41
              generalize vs 41 = x41 at f41 ⊢
              subst x41
              clear hE hV
              simp only [List.drop_succ_cons, List.drop_zero]
              go_wp2_with (first | ((with_reducible refine kAny ?_); go_skip) | (with_reducible refine stA ?_) | ((first | refine tIx ?_ | refine tLd ?_ | ((first | refine tSr ?_ | refine tSt ?_); clear hL; intro _ hL; simp only [splice, zq1, zq2, zq3] at hL)); simp only [Act.put, zq1, zq2, zq3]))
              refine QN.mk ?_
              go_wp2_with (first | ((with_reducible refine kAny ?_); go_skip) | (with_reducible refine stA ?_) | ((first | refine tIx ?_ | refine tLd ?_ | ((first | refine tSr ?_ | refine tSt ?_); clear hL; intro _ hL; simp only [splice, zq1, zq2, zq3] at hL)); simp only [Act.put, zq1, zq2, zq3]))
              refine bodyPost_ret (results_none rfl _ _ _) rfl ?_
              refine ⟨⟨_, rfl⟩, _, _, (HL3.out.join hL).tail, ?_, HR.out _ _ HR3.out hL.ext.still⟩
              rw [HEND.out]
              exact HC.out _ _ _ _ HC3.out hL.mext
            · obtain ⟨p1, rfl⟩ : ∃ p1, p = p1 + 1 := ⟨p - 1, by omega⟩
              obtain rfl : z = (p1 : Int) := by omega
              have hpn : p1 < size := by omega
              have hge : (0 : Int) ≤ (p1 : Int) := by omega
              obtain ⟨y, hy⟩ : ∃ y, s[p1]? = some y := ⟨_, List.getElem?_eq_getElem (by rw [HSZ.out]; exact hpn)⟩
              have hyd : s.getD p1 0 = y := by rw [List.getD_eq_getElem?_getD, hy]; rfl
              have hyl : y ≤ n - size + p1 := by rw [← hyd]; exact HSL.out p1 hpn
              have hy10 : y ≤ 10 := by omega
              have hsn0 : size ≤ n := by omega
              have hcell : (intsA s)[0 + p1]? = some (.int .i64 (y : Int)) := by rw [Nat.zero_add]; exact intsA_at hy
              have HYD := Lib.hid hyd
              clear hz hp0 hy hyd hyl
              by_cases hyn : y = n - size + p1
              · have hbe : ((y : Int) == (n : Int) - (size : Int) + (p1 : Int)) = true := by simp; omega
                have HP2 : Hid (∀ t, p1 ≤ t → t < size → s.getD t 0 = n - size + t) := by
                  show ∀ t, _
                  intro t h1 h2
                  by_cases e : t = p1
                  · rw [e, HYD.out]; exact hyn
                  · exact HP.out t (by omega) h2
                clear hyn
                go_upto_region 9 with ((first | ((with_reducible refine kAny ?_); go_skip) | (with_reducible refine stA ?_) | ((first | refine tIx ?_ | refine tLd ?_ | ((first | refine tSr ?_ | refine tSt ?_); clear hL; intro _ hL; simp only [splice, zq1, zq2, zq3] at hL)); simp only [Act.put, zq1, zq2, zq3])))
                refine wp_region_by2 14 [false, false, false, false, false, false, false, false, false, false, false, false, false, false] [false, false, false, false, false, false, false, false, false, false, false, false, false, false] [(fun v _ _ => v = ?c9_0b), (fun v _ _ => v = ?c9_1b), (fun v _ _ => v = ?c9_2b), (fun v _ _ => v = ?c9_3b), (fun v _ _ => v = ?c9_4b), (fun v _ _ => v = ?c9_5b), Is (.int .i64 (y : Int)), (fun v _ _ => v = ?c9_7b), (fun v _ _ => v = ?c9_8b), (fun v _ _ => v = ?c9_9b), (fun v _ _ => v = ?c9_10b), (fun v _ _ => v = ?c9_11b), (fun v _ _ => v = ?c9_12b), (fun v _ _ => v = ?c9_13b)] hL.vw mixed [28, 29, 30, 31, 32, 33, 34, 35, 36, 37, 38, 39, 40, 41] _ (by kernel_rfl) (fun vs => by simp only [lay, Act.put, zq1, zq2, zq3]; rfl) (by kernel_rfl) (by decide) (by decide) ?s9b ?l9b ?r9b
                case s9b =>
                  refine ⟨?_, ?_, ?_, ?_, ?_, ?_, ?_, ?_, ?_, ?_, ?_, ?_, ?_, ?_, trivial⟩
                  · intro vs W1 m1 hE hM hV hD; clear hD; replace hL := hL.call hE hM hV
                    exact sPu
                  · intro vs W1 m1 hE hM hV hD; obtain ⟨⟨_, _, -, -, f28⟩, -⟩ := hD; have f28 : vs 28 = _ := f28; generalize vs 28 = x28 at f28 ⊢; subst x28; replace hL := hL.call hE hM hV
                    exact sPu
                  · intro vs W1 m1 hE hM hV hD; obtain ⟨⟨_, _, -, -, f29⟩, -⟩ := hD; have f29 : vs 29 = _ := f29; generalize vs 29 = x29 at f29 ⊢; subst x29; replace hL := hL.call hE hM hV
                    exact sPu
                  · intro vs W1 m1 hE hM hV hD; obtain ⟨⟨_, _, -, -, f30⟩, -⟩ := hD; have f30 : vs 30 = _ := f30; generalize vs 30 = x30 at f30 ⊢; subst x30; replace hL := hL.call hE hM hV
                    exact sPu
                  · intro vs W1 m1 hE hM hV hD; obtain ⟨⟨_, _, -, -, f30⟩, -⟩ := hD; have f30 : vs 30 = _ := f30; generalize vs 30 = x30 at f30 ⊢; subst x30; replace hL := hL.call hE hM hV
                    exact sPu
                  · intro vs W1 m1 hE hM hV hD; obtain ⟨⟨_, _, -, -, f31⟩, ⟨_, _, -, -, f32⟩, ⟨_, _, -, -, f30⟩, -⟩ := hD; have f31 : vs 31 = _ := f31; generalize vs 31 = x31 at f31 ⊢; subst x31; have f32 : vs 32 = _ := f32; generalize vs 32 = x32 at f32 ⊢; subst x32; have f30 : vs 30 = _ := f30; generalize vs 30 = x30 at f30 ⊢; subst x30; replace hL := hL.call hE hM hV
                    exact sIx
                  · intro vs W1 m1 hE hM hV hD; obtain ⟨⟨_, _, -, -, f33⟩, ⟨_, _, -, -, f30⟩, -⟩ := hD; have f33 : vs 33 = _ := f33; generalize vs 33 = x33 at f33 ⊢; subst x33; have f30 : vs 30 = _ := f30; generalize vs 30 = x30 at f30 ⊢; subst x30
                    (replace hL := hL.call hE hM hV; refine wl_loadB hL (by first | exact wanted_none rfl | exact wanted_some rfl rfl rfl rfl) rfl rfl lb_int hBg hcell ?_; simp only [Act.put, zq1, zq2, zq3]; refine One2.still hV ?_; exact rfl)
                  · intro vs W1 m1 hE hM hV hD; obtain ⟨⟨_, _, -, -, f30⟩, -⟩ := hD; have f30 : vs 30 = _ := f30; generalize vs 30 = x30 at f30 ⊢; subst x30; replace hL := hL.call hE hM hV
                    exact sLd
                  · intro vs W1 m1 hE hM hV hD; obtain ⟨⟨_, _, -, -, f30⟩, -⟩ := hD; have f30 : vs 30 = _ := f30; generalize vs 30 = x30 at f30 ⊢; subst x30; replace hL := hL.call hE hM hV
                    exact sLd
                  · intro vs W1 m1 hE hM hV hD; obtain ⟨⟨_, _, -, -, f35⟩, ⟨_, _, -, -, f36⟩, ⟨_, _, -, -, f30⟩, -⟩ := hD; have f35 : vs 35 = _ := f35; generalize vs 35 = x35 at f35 ⊢; subst x35; have f36 : vs 36 = _ := f36; generalize vs 36 = x36 at f36 ⊢; subst x36; have f30 : vs 30 = _ := f30; generalize vs 30 = x30 at f30 ⊢; subst x30; replace hL := hL.call hE hM hV
                    exact sPu
                  · intro vs W1 m1 hE hM hV hD; obtain ⟨⟨_, _, -, -, f30⟩, -⟩ := hD; have f30 : vs 30 = _ := f30; generalize vs 30 = x30 at f30 ⊢; subst x30; replace hL := hL.call hE hM hV
                    exact sPu
                  · intro vs W1 m1 hE hM hV hD; obtain ⟨⟨_, _, -, -, f37⟩, ⟨_, _, -, -, f38⟩, ⟨_, _, -, -, f30⟩, -⟩ := hD; have f37 : vs 37 = _ := f37; generalize vs 37 = x37 at f37 ⊢; subst x37; have f38 : vs 38 = _ := f38; generalize vs 38 = x38 at f38 ⊢; subst x38; have f30 : vs 30 = _ := f30; generalize vs 30 = x30 at f30 ⊢; subst x30; replace hL := hL.call hE hM hV
                    exact sPu
                  · intro vs W1 m1 hE hM hV hD; obtain ⟨⟨_, _, -, -, f34⟩, ⟨_, _, -, -, f39⟩, ⟨_, _, -, -, f30⟩, -⟩ := hD; have f34 : vs 34 = _ := f34; generalize vs 34 = x34 at f34 ⊢; subst x34; have f39 : vs 39 = _ := f39; generalize vs 39 = x39 at f39 ⊢; subst x39; have f30 : vs 30 = _ := f30; generalize vs 30 = x30 at f30 ⊢; subst x30; replace hL := hL.call hE hM hV
                    exact sPu
                  · intro vs W1 m1 hE hM hV hD; obtain ⟨⟨_, _, -, -, f30⟩, ⟨_, _, -, -, f40⟩, -⟩ := hD; have f30 : vs 30 = _ := f30; generalize vs 30 = x30 at f30 ⊢; subst x30; have f40 : vs 40 = _ := f40; generalize vs 40 = x40 at f40 ⊢; subst x40; replace hL := hL.call hE hM hV
                    exact sPu
                case l9b =>
                  refine ⟨fun h => (by cases h), fun h => (by cases h), fun h => (by cases h), fun h => (by cases h), fun h => (by cases h), fun h => (by cases h), fun h => (by cases h), fun h => (by cases h), fun h => (by cases h), fun h => (by cases h), fun h => (by cases h), fun h => (by cases h), fun h => (by cases h), fun h => (by cases h), trivial⟩
                intro vs W1 m1 hE hM hV hF hD
                clear hD
                obtain ⟨⟨_, _, -, -, f28⟩, ⟨_, _, -, -, f29⟩, ⟨_, _, -, -, f30⟩, ⟨_, _, -, -, f31⟩, ⟨_, _, -, -, f32⟩, ⟨_, _, -, -, f33⟩, ⟨_, _, -, -, f34⟩, ⟨_, _, -, -, f35⟩, ⟨_, _, -, -, f36⟩, ⟨_, _, -, -, f37⟩, ⟨_, _, -, -, f38⟩, ⟨_, _, -, -, f39⟩, ⟨_, _, -, -, f40⟩, ⟨_, _, -, -, f41⟩, -⟩ := hF
                replace hL := hL.call hE hM hV
                have f28 : vs 28 = _ := f28
                generalize vs 28 = x28 at f28 ⊢
                subst x28
                have f29 : vs 29 = _ := f29
                generalize vs 29 = x29 at f29 ⊢
                subst x29
                have f30 : vs 30 = _ := f30
                generalize vs 30 = x30 at f30 ⊢
                subst x30
                have f31 : vs 31 = _ := f31
                generalize vs 31 = x31 at f31 ⊢
                subst x31
                have f32 : vs 32 = _ := f32
                generalize vs 32 = x32 at f32 ⊢
                subst x32
                have f33 : vs 33 = _ := f33
                generalize vs 33 = x33 at f33 ⊢
                subst x33
                have f34 : vs 34 = _ := f34
                generalize vs 34 = x34 at f34 ⊢
                subst x34
                have f35 : vs 35 = _ := f35
                generalize vs 35 = x35 at f35 ⊢
                subst x35
                have f36 : vs 36 = _ := f36
                generalize vs 36 = x36 at f36 ⊢
                subst x36
                have f37 : vs 37 = _ := f37
                generalize vs 37 = x37 at f37 ⊢
                subst x37
                have f38 : vs 38 = _ := f38
                generalize vs 38 = x38 at f38 ⊢
                subst x38
                have f39 : vs 39 = _ := f39
                generalize vs 39 = x39 at f39 ⊢
                subst x39
                have f40 : vs 40 = _ := f40
                generalize vs 40 = x40 at f40 ⊢
                subst x40
                have f41 : vs 41 = _ := f41
                generalize vs 41 = x41 at f41 ⊢
                subst x41
                clear hE hV
                simp only [List.drop_succ_cons, List.drop_zero]
                go_wp2_with (first | ((with_reducible refine kAny ?_); go_skip) | (with_reducible refine stA ?_) | ((first | refine tIx ?_ | refine tLd ?_ | ((first | refine tSr ?_ | refine tSt ?_); clear hL; intro _ hL; simp only [splice, zq1, zq2, zq3] at hL)); simp only [Act.put, zq1, zq2, zq3]))
                refine QN.mk ?_
                go_wp2_with (first | ((with_reducible refine kAny ?_); go_skip) | (with_reducible refine stA ?_) | ((first | refine tIx ?_ | refine tLd ?_ | ((first | refine tSr ?_ | refine tSt ?_); clear hL; intro _ hL; simp only [splice, zq1, zq2, zq3] at hL)); simp only [Act.put, zq1, zq2, zq3]))
                go_roundw
                case rel => exact ⟨p1, (p1 : Int) - 1, _, by omega, rfl, by go_num, hL, HP2.out⟩
                case measure => simp [intOf] <;> omega
              · have hbe : ((y : Int) == (n : Int) - (size : Int) + (p1 : Int)) = false := by simp; omega
                have HNS : Hid ((subsF n size)[q + 1]? = some (filS s p1)) := by
                  show _ = _
                  rw [← HNX.out]
                  unfold nxtS
                  rw [piv_yes s.length (by rw [HSZ.out]; exact hpn) (fun t h1 h2 => by rw [HSZ.out]; exact HP.out t (by omega) (by rw [← HSZ.out]; exact h2)) (by rw [HSZ.out, HYD.out]; exact hyn)]; rfl
                clear hyn HP
                go_upto_region 9 with ((first | ((with_reducible refine kAny ?_); go_skip) | (with_reducible refine stA ?_) | ((first | refine tIx ?_ | refine tLd ?_ | ((first | refine tSr ?_ | refine tSt ?_); clear hL; intro _ hL; simp only [splice, zq1, zq2, zq3] at hL)); simp only [Act.put, zq1, zq2, zq3])))
                refine wp_region_by2 14 [false, false, false, false, false, false, false, false, false, false, false, false, false, false] [false, false, false, false, false, false, false, false, false, false, false, false, false, false] [(fun v _ _ => v = ?c9_0c), (fun v _ _ => v = ?c9_1c), (fun v _ _ => v = ?c9_2c), (fun v _ _ => v = ?c9_3c), (fun v _ _ => v = ?c9_4c), (fun v _ _ => v = ?c9_5c), Is (.int .i64 (y : Int)), (fun v _ _ => v = ?c9_7c), (fun v _ _ => v = ?c9_8c), (fun v _ _ => v = ?c9_9c), (fun v _ _ => v = ?c9_10c), (fun v _ _ => v = ?c9_11c), (fun v _ _ => v = ?c9_12c), (fun v _ _ => v = ?c9_13c)] hL.vw mixed [28, 29, 30, 31, 32, 33, 34, 35, 36, 37, 38, 39, 40, 41] _ (by kernel_rfl) (fun vs => by simp only [lay, Act.put, zq1, zq2, zq3]; rfl) (by kernel_rfl) (by decide) (by decide) ?s9c ?l9c ?r9c
                case s9c =>
                  refine ⟨?_, ?_, ?_, ?_, ?_, ?_, ?_, ?_, ?_, ?_, ?_, ?_, ?_, ?_, trivial⟩
                  · intro vs W1 m1 hE hM hV hD; clear hD; replace hL := hL.call hE hM hV
                    exact sPu
                  · intro vs W1 m1 hE hM hV hD; obtain ⟨⟨_, _, -, -, f28⟩, -⟩ := hD; have f28 : vs 28 = _ := f28; generalize vs 28 = x28 at f28 ⊢; subst x28; replace hL := hL.call hE hM hV
                    exact sPu
                  · intro vs W1 m1 hE hM hV hD; obtain ⟨⟨_, _, -, -, f29⟩, -⟩ := hD; have f29 : vs 29 = _ := f29; generalize vs 29 = x29 at f29 ⊢; subst x29; replace hL := hL.call hE hM hV
                    exact sPu
                  · intro vs W1 m1 hE hM hV hD; obtain ⟨⟨_, _, -, -, f30⟩, -⟩ := hD; have f30 : vs 30 = _ := f30; generalize vs 30 = x30 at f30 ⊢; subst x30; replace hL := hL.call hE hM hV
                    exact sPu
                  · intro vs W1 m1 hE hM hV hD; obtain ⟨⟨_, _, -, -, f30⟩, -⟩ := hD; have f30 : vs 30 = _ := f30; generalize vs 30 = x30 at f30 ⊢; subst x30; replace hL := hL.call hE hM hV
                    exact sPu
                  · intro vs W1 m1 hE hM hV hD; obtain ⟨⟨_, _, -, -, f31⟩, ⟨_, _, -, -, f32⟩, ⟨_, _, -, -, f30⟩, -⟩ := hD; have f31 : vs 31 = _ := f31; generalize vs 31 = x31 at f31 ⊢; subst x31; have f32 : vs 32 = _ := f32; generalize vs 32 = x32 at f32 ⊢; subst x32; have f30 : vs 30 = _ := f30; generalize vs 30 = x30 at f30 ⊢; subst x30; replace hL := hL.call hE hM hV
                    exact sIx
                  · intro vs W1 m1 hE hM hV hD; obtain ⟨⟨_, _, -, -, f33⟩, ⟨_, _, -, -, f30⟩, -⟩ := hD; have f33 : vs 33 = _ := f33; generalize vs 33 = x33 at f33 ⊢; subst x33; have f30 : vs 30 = _ := f30; generalize vs 30 = x30 at f30 ⊢; subst x30
                    (replace hL := hL.call hE hM hV; refine wl_loadB hL (by first | exact wanted_none rfl | exact wanted_some rfl rfl rfl rfl) rfl rfl lb_int hBg hcell ?_; simp only [Act.put, zq1, zq2, zq3]; refine One2.still hV ?_; exact rfl)
                  · intro vs W1 m1 hE hM hV hD; obtain ⟨⟨_, _, -, -, f30⟩, -⟩ := hD; have f30 : vs 30 = _ := f30; generalize vs 30 = x30 at f30 ⊢; subst x30; replace hL := hL.call hE hM hV
                    exact sLd
                  · intro vs W1 m1 hE hM hV hD; obtain ⟨⟨_, _, -, -, f30⟩, -⟩ := hD; have f30 : vs 30 = _ := f30; generalize vs 30 = x30 at f30 ⊢; subst x30; replace hL := hL.call hE hM hV
                    exact sLd
                  · intro vs W1 m1 hE hM hV hD; obtain ⟨⟨_, _, -, -, f35⟩, ⟨_, _, -, -, f36⟩, ⟨_, _, -, -, f30⟩, -⟩ := hD; have f35 : vs 35 = _ := f35; generalize vs 35 = x35 at f35 ⊢; subst x35; have f36 : vs 36 = _ := f36; generalize vs 36 = x36 at f36 ⊢; subst x36; have f30 : vs 30 = _ := f30; generalize vs 30 = x30 at f30 ⊢; subst x30; replace hL := hL.call hE hM hV
                    exact sPu
                  · intro vs W1 m1 hE hM hV hD; obtain ⟨⟨_, _, -, -, f30⟩, -⟩ := hD; have f30 : vs 30 = _ := f30; generalize vs 30 = x30 at f30 ⊢; subst x30; replace hL := hL.call hE hM hV
                    exact sPu
                  · intro vs W1 m1 hE hM hV hD; obtain ⟨⟨_, _, -, -, f37⟩, ⟨_, _, -, -, f38⟩, ⟨_, _, -, -, f30⟩, -⟩ := hD; have f37 : vs 37 = _ := f37; generalize vs 37 = x37 at f37 ⊢; subst x37; have f38 : vs 38 = _ := f38; generalize vs 38 = x38 at f38 ⊢; subst x38; have f30 : vs 30 = _ := f30; generalize vs 30 = x30 at f30 ⊢; subst x30; replace hL := hL.call hE hM hV
                    exact sPu
                  · intro vs W1 m1 hE hM hV hD; obtain ⟨⟨_, _, -, -, f34⟩, ⟨_, _, -, -, f39⟩, ⟨_, _, -, -, f30⟩, -⟩ := hD; have f34 : vs 34 = _ := f34; generalize vs 34 = x34 at f34 ⊢; subst x34; have f39 : vs 39 = _ := f39; generalize vs 39 = x39 at f39 ⊢; subst x39; have f30 : vs 30 = _ := f30; generalize vs 30 = x30 at f30 ⊢; subst x30; replace hL := hL.call hE hM hV
                    exact sPu
                  · intro vs W1 m1 hE hM hV hD; obtain ⟨⟨_, _, -, -, f30⟩, ⟨_, _, -, -, f40⟩, -⟩ := hD; have f30 : vs 30 = _ := f30; generalize vs 30 = x30 at f30 ⊢; subst x30; have f40 : vs 40 = _ := f40; generalize vs 40 = x40 at f40 ⊢; subst x40; replace hL := hL.call hE hM hV
                    exact sPu
                case l9c =>
                  refine ⟨fun h => (by cases h), fun h => (by cases h), fun h => (by cases h), fun h => (by cases h), fun h => (by cases h), fun h => (by cases h), fun h => (by cases h), fun h => (by cases h), fun h => (by cases h), fun h => (by cases h), fun h => (by cases h), fun h => (by cases h), fun h => (by cases h), fun h => (by cases h), trivial⟩
                intro vs W1 m1 hE hM hV hF hD
                clear hD
                obtain ⟨⟨_, _, -, -, f28⟩, ⟨_, _, -, -, f29⟩, ⟨_, _, -, -, f30⟩, ⟨_, _, -, -, f31⟩, ⟨_, _, -, -, f32⟩, ⟨_, _, -, -, f33⟩, ⟨_, _, -, -, f34⟩, ⟨_, _, -, -, f35⟩, ⟨_, _, -, -, f36⟩, ⟨_, _, -, -, f37⟩, ⟨_, _, -, -, f38⟩, ⟨_, _, -, -, f39⟩, ⟨_, _, -, -, f40⟩, ⟨_, _, -, -, f41⟩, -⟩ := hF
                replace hL := hL.call hE hM hV
                have f28 : vs 28 = _ := f28
                generalize vs 28 = x28 at f28 ⊢
                subst x28
                have f29 : vs 29 = _ := f29
                generalize vs 29 = x29 at f29 ⊢
                subst x29
                have f30 : vs 30 = _ := f30
                generalize vs 30 = x30 at f30 ⊢
                subst x30
                have f31 : vs 31 = _ := f31
                generalize vs 31 = x31 at f31 ⊢
                subst x31
                have f32 : vs 32 = _ := f32
                generalize vs 32 = x32 at f32 ⊢
                subst x32
                have f33 : vs 33 = _ := f33
                generalize vs 33 = x33 at f33 ⊢
                subst x33
                have f34 : vs 34 = _ := f34
                generalize vs 34 = x34 at f34 ⊢
                subst x34
                have f35 : vs 35 = _ := f35
                generalize vs 35 = x35 at f35 ⊢
                subst x35
                have f36 : vs 36 = _ := f36
                generalize vs 36 = x36 at f36 ⊢
                subst x36
                have f37 : vs 37 = _ := f37
                generalize vs 37 = x37 at f37 ⊢
                subst x37
                have f38 : vs 38 = _ := f38
                generalize vs 38 = x38 at f38 ⊢
                subst x38
                have f39 : vs 39 = _ := f39
                generalize vs 39 = x39 at f39 ⊢
                subst x39
                have f40 : vs 40 = _ := f40
                generalize vs 40 = x40 at f40 ⊢
                subst x40
                have f41 : vs 41 = _ := f41
                generalize vs 41 = x41 at f41 ⊢
                subst x41
                clear hE hV
                simp only [List.drop_succ_cons, List.drop_zero]
                go_wp2_with (first | ((with_reducible refine kAny ?_); go_skip) | (with_reducible refine stA ?_) | ((first | refine tIx ?_ | refine tLd ?_ | ((first | refine tSr ?_ | refine tSt ?_); clear hL; intro _ hL; simp only [splice, zq1, zq2, zq3] at hL)); simp only [Act.put, zq1, zq2, zq3]))
                refine QN.mk ?_
                have hfit : 0 + p1 < (intsA s).size := by rw [intsA_size, HSZ.out]; omega
                have HF1 : Hid (splice (intsA s) (0 + p1) [.int .i64 ((y : Int) + 1)] = intsA (filP s p1 (p1 + 1))) := by
                  show _ = _
                  rw [← filP_one (by rw [HSZ.out]; exact hpn), HYD.out]
                  exact splice_ints (x := y + 1)
                have HS5 := Lib.hid hL.ext.still
                have HM5 := Lib.hid hL.mext
                replace hL := HL3.out.join hL
                rw [List.nil_append] at hL
                clear hbe
                go_wp2_with (first | (with_reducible refine stS ?_) | (refine wl_load1 hL (wanted_none rfl) rfl rfl lb_int (n := 0) rfl hcell ?_; simp only [Act.put, zq1, zq2, zq3]) | (first | ((with_reducible refine kAny ?_); go_skip) | (with_reducible refine stA ?_) | ((first | refine tIx ?_ | refine tLd ?_ | ((first | refine tSr ?_ | refine tSt ?_); clear hL; intro _ hL; simp only [splice, zq1, zq2, zq3] at hL)); simp only [Act.put, zq1, zq2, zq3])))
                refine goA ?_
                refine wl_store1S hL (wanted_none rfl) (v := .int .i64 ((y : Int) + 1)) (off := 0 + p1) rfl rfl rfl lb_int (n := 0) rfl hfit rfl rfl ?_
                clear hL
                intro W6 hL hS6
                simp only [List.set_cons_zero] at hL
                rw [HF1.out] at hL
                have HS6 := Lib.hid (HS5.out.trans hS6)
                clear hS6 HS5 hcell hfit hBg
                simp only [Act.put, zq1, zq2, zq3]
                go_wp2_with (first | ((with_reducible refine kAny ?_); go_skip) | (with_reducible refine stA ?_) | ((first | refine tIx ?_ | refine tLd ?_ | ((first | refine tSr ?_ | refine tSt ?_); clear hL; intro _ hL; simp only [splice, zq1, zq2, zq3] at hL)); simp only [Act.put, zq1, zq2, zq3]))
                go_loopw [7] (fun jv wr => ∃ (j : Nat) (mm : World), p1 + 1 ≤ j ∧ j ≤ size ∧ jv = .int .i64 (j : Int) ∧ Loc w0 m0 wr mm ((g, 3, intsA (filP s p1 j)) :: L3) ∧ Hid (Ext m3 mm) ∧ Hid (Still W3 wr)) (fun jv _ => size - (intOf jv).toNat)
                case atStart => exact ⟨p1 + 1, _, Nat.le_refl _, by omega, by go_num, hL, HM5.out, HS6.out⟩
                case round =>
                  clear hL HS6 HM5 hM
                  obtain ⟨j, mm5, hj1, hj, rfl, hL, HX5, HS7⟩ := hrel
                  have hX5 := HX5.out
                  by_cases hltj : j < size
                  · have hltj' : (j : Int) < (size : Int) := by omega
                    obtain ⟨j0, hj0⟩ : ∃ j0, j0 + 1 = j := ⟨j - 1, by omega⟩
                    have hw1 : wrap64 ((j : Int) - 1) = (j0 : Int) := by unfold wrap64; omega
                    have hw2 : (j : Int) - 1 = (j0 : Int) := by omega
                    have hj0s : j0 < size := by omega
                    have hv : s.getD p1 0 + 1 + (j - 1 - p1) = y + 1 + (j0 - p1) := by rw [HYD.out]; omega
                    have hcell : (intsA (filP s p1 j))[0 + j0]? = some (.int .i64 ((y + 1 + (j0 - p1) : Nat) : Int)) := by
                      rw [Nat.zero_add, ← hv, show j0 = j - 1 by omega]
                      exact intsA_at (filP_prev (by omega) (by rw [HSZ.out]; exact hj))
                    have hfit : 0 + j < (intsA (filP s p1 j)).size := by rw [intsA_size, filP_len, HSZ.out]; omega
                    have HF2 : Hid (splice (intsA (filP s p1 j)) (0 + j) [.int .i64 (((y + 1 + (j0 - p1) : Nat) : Int) + 1)] = intsA (filP s p1 (j + 1))) := by
                      show _ = _
                      rw [← filP_step (by omega : p1 < j) (by rw [HSZ.out]; exact hltj), hv]
                      exact splice_ints (x := y + 1 + (j0 - p1) + 1)
                    have hb20 : ((y + 1 + (j0 - p1) : Nat) : Int) ≤ 100 := by omega
                    have hb21 : (0 : Int) ≤ ((y + 1 + (j0 - p1) : Nat) : Int) := by omega
                    generalize y + 1 + (j0 - p1) = y2 at *
                    clear hv
                    go_wp2_with (first | (with_reducible refine stS ?_) | (refine wl_load1 hL (wanted_none rfl) rfl rfl lb_int (n := 0) rfl hcell ?_; simp only [Act.put, zq1, zq2, zq3]) | (first | ((with_reducible refine kAny ?_); go_skip) | (with_reducible refine stA ?_) | ((first | refine tIx ?_ | refine tLd ?_ | ((first | refine tSr ?_ | refine tSt ?_); clear hL; intro _ hL; simp only [splice, zq1, zq2, zq3] at hL)); simp only [Act.put, zq1, zq2, zq3])))
                    refine goA ?_
                    refine wl_store1S hL (wanted_none rfl) (v := .int .i64 ((y2 : Int) + 1)) (off := 0 + j) rfl rfl rfl lb_int (n := 0) rfl hfit rfl rfl ?_
                    clear hL
                    intro W7 hL hS8
                    simp only [List.set_cons_zero] at hL
                    rw [HF2.out] at hL
                    have HS8 := Lib.hid (HS7.out.trans hS8)
                    clear hcell hw1 hw2 hj0
                    simp only [Act.put, zq1, zq2, zq3]
                    go_wp2_with (first | ((with_reducible refine kAny ?_); go_skip) | (with_reducible refine stA ?_) | ((first | refine tIx ?_ | refine tLd ?_ | ((first | refine tSr ?_ | refine tSt ?_); clear hL; intro _ hL; simp only [splice, zq1, zq2, zq3] at hL)); simp only [Act.put, zq1, zq2, zq3]))
                    go_roundw
                    case rel => exact ⟨j + 1, _, by omega, by omega, by go_num, hL, HX5.out, HS8.out⟩
                    case measure => simp [intOf] <;> omega
                  · have hjs : size = j := by omega
                    have HFE : Hid (filP s p1 j = filS s p1) := by
                      show _ = _
                      rw [← hjs, ← HSZ.out]
                      exact filP_end (by rw [HSZ.out]; exact hpn)
                    rw [HFE.out] at hL
                    subst hjs
                    have h8 : (size : Int) ≤ (size : Int) := Int.le_refl _
                    have HFJ : Hid ((subsF n size).findIdx (fun l => l == filS s p1) = q + 1) := fidx hn h3 h5 HNS.out
                    have HCW := Lib.hid (curL_is (hL.at_ (n := 0) rfl))
                    go_wp2_with (first | ((with_reducible refine kAny ?_); go_skip) | (with_reducible refine stA ?_) | ((first | refine tIx ?_ | refine tLd ?_ | ((first | refine tSr ?_ | refine tSt ?_); clear hL; intro _ hL; simp only [splice, zq1, zq2, zq3] at hL)); simp only [Act.put, zq1, zq2, zq3]))
                    go_roundw
                    case rel => exact ⟨q + 1, filS s p1, _, _, HNS.out, hL, HC.out _ _ _ _ HC3.out HX5.out, HR.out _ _ HR3.out HS7.out⟩
                    case measure =>
                      have h1 := HCW.out
                      have h2 := HCU.out
                      have h4 := HQL.out
                      simp only [h1, h2, HFJ.out, HFI.out]
                      omega
end Go.Proofs.YtmhkmmmompediaaGreat

/- slices.insertionSortCmpFunc of candidates, over a hidden row. -/
namespace Go.Proofs.YtmhkmmmompediaaGreat
open Go.RowKit

theorem can_at {m : World} {v : Value} {n g : Nat} {cur : Array Value} {xs : List Can} {e : TypeId} (h : RowA e 6 CanR m v n xs [(g, e, cur)]) {k : Nat} {x : Can} (hk : xs[k]? = some x) :
    ∃ R a c d gv A' n' c' f B p q, CanR m (.agg #[.slice R a c, .int .i64 d, .bool gv, .slice A' n' c', .bool f, .slice B p q]) x ∧ ∀ j, j < 6 → cur[0 + k * 6 + j]? = [.slice R a c, .int .i64 d, .bool gv, .slice A' n' c', .bool f, .slice B p q][j]? := by
  obtain ⟨u, hu, -, hr⟩ := h.at_ hk
  have hu' := hu
  obtain ⟨R, a, c, d, gv, A', n', c', f, B, p, q, rfl, -, -⟩ := hu'
  refine ⟨R, a, c, d, gv, A', n', c', f, B, p, q, hu, fun j hj => ?_⟩
  rw [hr j hj]
  simp [Value.cells]
set_option maxRecDepth 100000 in
set_option maxHeartbeats 32000000 in
theorem s_InsCan {w0 m0 W m : World} {A : List Lo} {g n cap : Nat} {cur : Array Value} {xs : List Can} (hL : Loc w0 m0 W m ((g, 128, cur) :: A)) (row : RowA 128 6 CanR m (.slice (some ⟨g, 0, none⟩) n cap) n xs [(g, 128, cur)]) (hn1 : 1 ≤ n) (hn : n ≤ 1000) (hs : ∀ x ∈ xs, Sm x.2.num x.2.den) :
    Calls Tryz.prog 194 #[.slice (some ⟨g, 0, none⟩) n cap, .int .i64 0, .int .i64 n, .func (.func 106) #[] #[]] W (fun e W' => ∃ (m' : World) (cur' : Array Value), (∃ v, e = .returned v) ∧ Loc w0 m0 W' m' ((g, 128, cur') :: A) ∧ Ext m m' ∧ Still W W' ∧
      RowA 128 6 CanR m' (.slice (some ⟨g, 0, none⟩) n cap) n (insC xs n) [(g, 128, cur')]) := by
  have hlen := row.len
  have HN : Hid (xs.length = n) := hlen.symm
  have ROW := Lib.hid row
  have HS := Lib.hid hs
  have hX0 : Ext m m := Ext.refl _
  clear row hs hlen
  go_enter Tryz.func194, Tryz.ntmps194
  go_wp2_with (first | ((with_reducible refine kAny ?_); go_skip) | (with_reducible refine stA ?_) | ((first | refine tIx ?_ | refine tLd ?_ | ((first | refine tSr ?_ | refine tSt ?_); clear hL; intro _ hL; simp only [splice, zq1, zq2, zq3] at hL)); simp only [Act.put, zq1, zq2, zq3]))
  go_loopw [8] (fun iv wr => ∃ (i : Nat) (mm : World) (cur' : Array Value), 1 ≤ i ∧ i ≤ n ∧ iv = .int .i64 i ∧ Loc w0 m0 wr mm ((g, 128, cur') :: A) ∧ Ext m mm ∧ Hid (RowA 128 6 CanR mm (.slice (some ⟨g, 0, none⟩) n cap) n (insC xs i) [(g, 128, cur')]) ∧ Hid (Still W wr)) (fun iv _ => n - (intOf iv).toNat)
  case atStart => exact ⟨1, m, cur, by omega, hn1, by go_num, hL, hX0, ROW.out, Still.refl W⟩
  case round =>
    clear hL hX0 ROW
    obtain ⟨i, mm, cur1, hi1, hi, rfl, hL, hX, ROW1, HS1⟩ := hrel
    by_cases hlt : i < n
    · have hlt' : (i : Int) < (n : Int) := by omega
      have HY0 : Hid (∀ y ∈ insC xs i, Sm y.2.num y.2.den) := by
        show ∀ y ∈ _, _
        exact fun y hy => HS.out y (insC_mem xs i y hy)
      have HE0 : Hid (bubC (insC xs i) i = insC xs (i + 1)) := rfl
      generalize insC xs i = ys0 at *
      obtain ⟨zs, hzs⟩ : ∃ zs, zs = insC xs (i + 1) := ⟨_, rfl⟩
      rw [← hzs] at HE0
      have HZS := Lib.hid hzs
      clear hzs
      go_wp2_with (first | ((with_reducible refine kAny ?_); go_skip) | (with_reducible refine stA ?_) | ((first | refine tIx ?_ | refine tLd ?_ | ((first | refine tSr ?_ | refine tSt ?_); clear hL; intro _ hL; simp only [splice, zq1, zq2, zq3] at hL)); simp only [Act.put, zq1, zq2, zq3]))
      go_loopw [9] (fun jv wr => ∃ (j : Nat) (m2 : World) (ys : List Can) (cur2 : Array Value), j ≤ i ∧ jv = .int .i64 j ∧ Loc w0 m0 wr m2 ((g, 128, cur2) :: A) ∧ Hid (Ext m m2) ∧ Hid (RowA 128 6 CanR m2 (.slice (some ⟨g, 0, none⟩) n cap) n ys [(g, 128, cur2)]) ∧ Hid (bubC ys j = zs) ∧ Hid (∀ y ∈ ys, Sm y.2.num y.2.den) ∧ Hid (Still W wr)) (fun jv _ => (intOf jv).toNat)
      case atStart => exact ⟨i, _, ys0, cur1, Nat.le_refl _, rfl, hL, hX, ROW1.out, HE0.out, HY0.out, HS1.out⟩
      case round =>
        clear hL ROW1 HE0 HY0 hX HS1
        obtain ⟨j, m2, ys, cur2, hj, rfl, hL, HX2, ROW2, HB, HY, HS2⟩ := hrel
        have hX := HX2.out
        by_cases hj0 : j = 0
        · subst hj0
          have HZ : Hid (ys = zs) := HB.out
          clear HB
          go_upto_region 4 with ((first | ((with_reducible refine kAny ?_); go_skip) | (with_reducible refine stA ?_) | ((first | refine tIx ?_ | refine tLd ?_ | ((first | refine tSr ?_ | refine tSt ?_); clear hL; intro _ hL; simp only [splice, zq1, zq2, zq3] at hL)); simp only [Act.put, zq1, zq2, zq3])))
          (try simp only [eq_self] at *)
          refine wp_region_by2 17 [false, false, false, false, false, false, false, false, false, false, false, false, false, false, false, false, false] [false, false, false, false, false, false, false, false, false, false, false, false, false, false, false, false, false] [(fun v _ _ => v = ?c4_0a), (fun v _ _ => v = ?c4_1a), (fun v _ _ => v = ?c4_2a), (fun v _ _ => v = ?c4_3a), (fun v _ _ => v = ?c4_4a), (fun v _ _ => v = ?c4_5a), (fun v _ _ => v = ?c4_6a), (fun v _ _ => v = ?c4_7a), (fun v _ _ => v = ?c4_8a), (fun v _ _ => v = ?c4_9a), (fun v _ _ => v = ?c4_10a), (fun v _ _ => v = ?c4_11a), (fun v _ _ => v = ?c4_12a), (fun v _ _ => v = ?c4_13a), (fun v _ _ => v = ?c4_14a), (fun v _ _ => v = ?c4_15a), (fun v _ _ => v = ?c4_16a)] hL.vw mixed [18, 19, 20, 21, 22, 23, 24, 25, 26, 27, 28, 29, 30, 31, 32, 33, 34] _ (by kernel_rfl) (fun vs => by simp only [lay, Act.put, zq1, zq2, zq3]; rfl) (by kernel_rfl) (by decide) (by decide) ?s4a ?l4a ?r4a
          case s4a =>
            refine ⟨?_, ?_, ?_, ?_, ?_, ?_, ?_, ?_, ?_, ?_, ?_, ?_, ?_, ?_, ?_, ?_, ?_, trivial⟩
            · intro vs W1 m1 hE hM hV hD; clear hD; replace hL := hL.call hE hM hV
              exact sPu
            · intro vs W1 m1 hE hM hV hD; clear hD; replace hL := hL.call hE hM hV
              exact sPu
            · intro vs W1 m1 hE hM hV hD; obtain ⟨⟨_, _, -, -, f18⟩, ⟨_, _, -, -, f19⟩, -⟩ := hD; have f18 : vs 18 = _ := f18; generalize vs 18 = x18 at f18 ⊢; subst x18; have f19 : vs 19 = _ := f19; generalize vs 19 = x19 at f19 ⊢; subst x19; replace hL := hL.call hE hM hV
              exact sPu
            · intro vs W1 m1 hE hM hV hD; obtain ⟨⟨_, _, -, -, f20⟩, -⟩ := hD; have f20 : vs 20 = _ := f20; generalize vs 20 = x20 at f20 ⊢; subst x20; replace hL := hL.call hE hM hV
              exact sPu
            · intro vs W1 m1 hE hM hV hD; obtain ⟨⟨_, _, -, -, f21⟩, -⟩ := hD; have f21 : vs 21 = _ := f21; generalize vs 21 = x21 at f21 ⊢; subst x21; replace hL := hL.call hE hM hV
              exact sPu
            · intro vs W1 m1 hE hM hV hD; obtain ⟨⟨_, _, -, -, f21⟩, -⟩ := hD; have f21 : vs 21 = _ := f21; generalize vs 21 = x21 at f21 ⊢; subst x21; replace hL := hL.call hE hM hV
              exact sPu
            · intro vs W1 m1 hE hM hV hD; obtain ⟨⟨_, _, -, -, f21⟩, -⟩ := hD; have f21 : vs 21 = _ := f21; generalize vs 21 = x21 at f21 ⊢; subst x21; replace hL := hL.call hE hM hV
              exact sPu
            · intro vs W1 m1 hE hM hV hD; obtain ⟨⟨_, _, -, -, f23⟩, ⟨_, _, -, -, f24⟩, ⟨_, _, -, -, f21⟩, -⟩ := hD; have f23 : vs 23 = _ := f23; generalize vs 23 = x23 at f23 ⊢; subst x23; have f24 : vs 24 = _ := f24; generalize vs 24 = x24 at f24 ⊢; subst x24; have f21 : vs 21 = _ := f21; generalize vs 21 = x21 at f21 ⊢; subst x21; replace hL := hL.call hE hM hV
              exact sPu
            · intro vs W1 m1 hE hM hV hD; obtain ⟨⟨_, _, -, -, f25⟩, ⟨_, _, -, -, f21⟩, -⟩ := hD; have f25 : vs 25 = _ := f25; generalize vs 25 = x25 at f25 ⊢; subst x25; have f21 : vs 21 = _ := f21; generalize vs 21 = x21 at f21 ⊢; subst x21; replace hL := hL.call hE hM hV
              exact sPu
            · intro vs W1 m1 hE hM hV hD; obtain ⟨⟨_, _, -, -, f21⟩, -⟩ := hD; have f21 : vs 21 = _ := f21; generalize vs 21 = x21 at f21 ⊢; subst x21; replace hL := hL.call hE hM hV
              exact sPu
            · intro vs W1 m1 hE hM hV hD; obtain ⟨⟨_, _, -, -, f21⟩, -⟩ := hD; have f21 : vs 21 = _ := f21; generalize vs 21 = x21 at f21 ⊢; subst x21; replace hL := hL.call hE hM hV
              exact sPu
            · intro vs W1 m1 hE hM hV hD; obtain ⟨⟨_, _, -, -, f28⟩, ⟨_, _, -, -, f21⟩, -⟩ := hD; have f28 : vs 28 = _ := f28; generalize vs 28 = x28 at f28 ⊢; subst x28; have f21 : vs 21 = _ := f21; generalize vs 21 = x21 at f21 ⊢; subst x21; replace hL := hL.call hE hM hV
              exact sPu
            · intro vs W1 m1 hE hM hV hD; obtain ⟨⟨_, _, -, -, f27⟩, ⟨_, _, -, -, f29⟩, ⟨_, _, -, -, f21⟩, -⟩ := hD; have f27 : vs 27 = _ := f27; generalize vs 27 = x27 at f27 ⊢; subst x27; have f29 : vs 29 = _ := f29; generalize vs 29 = x29 at f29 ⊢; subst x29; have f21 : vs 21 = _ := f21; generalize vs 21 = x21 at f21 ⊢; subst x21; replace hL := hL.call hE hM hV
              exact sPu
            · intro vs W1 m1 hE hM hV hD; obtain ⟨⟨_, _, -, -, f30⟩, ⟨_, _, -, -, f21⟩, -⟩ := hD; have f30 : vs 30 = _ := f30; generalize vs 30 = x30 at f30 ⊢; subst x30; have f21 : vs 21 = _ := f21; generalize vs 21 = x21 at f21 ⊢; subst x21; replace hL := hL.call hE hM hV
              exact sPu
            · intro vs W1 m1 hE hM hV hD; obtain ⟨⟨_, _, -, -, f22⟩, ⟨_, _, -, -, f26⟩, ⟨_, _, -, -, f31⟩, ⟨_, _, -, -, f21⟩, -, -⟩ := hD; have f22 : vs 22 = _ := f22; generalize vs 22 = x22 at f22 ⊢; subst x22; have f26 : vs 26 = _ := f26; generalize vs 26 = x26 at f26 ⊢; subst x26; have f31 : vs 31 = _ := f31; generalize vs 31 = x31 at f31 ⊢; subst x31; have f21 : vs 21 = _ := f21; generalize vs 21 = x21 at f21 ⊢; subst x21; replace hL := hL.call hE hM hV
              exact sPu
            · intro vs W1 m1 hE hM hV hD; obtain ⟨⟨_, _, -, -, f32⟩, ⟨_, _, -, -, f21⟩, -⟩ := hD; have f32 : vs 32 = _ := f32; generalize vs 32 = x32 at f32 ⊢; subst x32; have f21 : vs 21 = _ := f21; generalize vs 21 = x21 at f21 ⊢; subst x21; replace hL := hL.call hE hM hV
              exact sPu
            · intro vs W1 m1 hE hM hV hD; obtain ⟨⟨_, _, -, -, f21⟩, ⟨_, _, -, -, f33⟩, -⟩ := hD; have f21 : vs 21 = _ := f21; generalize vs 21 = x21 at f21 ⊢; subst x21; have f33 : vs 33 = _ := f33; generalize vs 33 = x33 at f33 ⊢; subst x33; replace hL := hL.call hE hM hV
              exact sPu
          case l4a =>
            refine ⟨fun h => (by cases h), fun h => (by cases h), fun h => (by cases h), fun h => (by cases h), fun h => (by cases h), fun h => (by cases h), fun h => (by cases h), fun h => (by cases h), fun h => (by cases h), fun h => (by cases h), fun h => (by cases h), fun h => (by cases h), fun h => (by cases h), fun h => (by cases h), fun h => (by cases h), fun h => (by cases h), fun h => (by cases h), trivial⟩
          intro vs W1 m1 hE hM hV hF hD
          clear hD
          obtain ⟨⟨_, _, -, -, f18⟩, ⟨_, _, -, -, f19⟩, ⟨_, _, -, -, f20⟩, ⟨_, _, -, -, f21⟩, ⟨_, _, -, -, f22⟩, ⟨_, _, -, -, f23⟩, ⟨_, _, -, -, f24⟩, ⟨_, _, -, -, f25⟩, ⟨_, _, -, -, f26⟩, ⟨_, _, -, -, f27⟩, ⟨_, _, -, -, f28⟩, ⟨_, _, -, -, f29⟩, ⟨_, _, -, -, f30⟩, ⟨_, _, -, -, f31⟩, ⟨_, _, -, -, f32⟩, ⟨_, _, -, -, f33⟩, ⟨_, _, -, -, f34⟩, -⟩ := hF
          replace hL := hL.call hE hM hV
          have f18 : vs 18 = _ := f18
          generalize vs 18 = x18 at f18 ⊢
          subst x18
          have f19 : vs 19 = _ := f19
          generalize vs 19 = x19 at f19 ⊢
          subst x19
          have f20 : vs 20 = _ := f20
          generalize vs 20 = x20 at f20 ⊢
          subst x20
          have f21 : vs 21 = _ := f21
          generalize vs 21 = x21 at f21 ⊢
          subst x21
          have f22 : vs 22 = _ := f22
          generalize vs 22 = x22 at f22 ⊢
          subst x22
          have f23 : vs 23 = _ := f23
          generalize vs 23 = x23 at f23 ⊢
          subst x23
          have f24 : vs 24 = _ := f24
          generalize vs 24 = x24 at f24 ⊢
          subst x24
          have f25 : vs 25 = _ := f25
          generalize vs 25 = x25 at f25 ⊢
          subst x25
          have f26 : vs 26 = _ := f26
          generalize vs 26 = x26 at f26 ⊢
          subst x26
          have f27 : vs 27 = _ := f27
          generalize vs 27 = x27 at f27 ⊢
          subst x27
          have f28 : vs 28 = _ := f28
          generalize vs 28 = x28 at f28 ⊢
          subst x28
          have f29 : vs 29 = _ := f29
          generalize vs 29 = x29 at f29 ⊢
          subst x29
          have f30 : vs 30 = _ := f30
          generalize vs 30 = x30 at f30 ⊢
          subst x30
          have f31 : vs 31 = _ := f31
          generalize vs 31 = x31 at f31 ⊢
          subst x31
          have f32 : vs 32 = _ := f32
          generalize vs 32 = x32 at f32 ⊢
          subst x32
          have f33 : vs 33 = _ := f33
          generalize vs 33 = x33 at f33 ⊢
          subst x33
          have f34 : vs 34 = _ := f34
          generalize vs 34 = x34 at f34 ⊢
          subst x34
          have HEX := Lib.hid hE
          clear hE hV
          simp only [List.drop_succ_cons, List.drop_zero]
          go_wp2_with (first | ((with_reducible refine kAny ?_); go_skip) | (with_reducible refine stA ?_) | ((first | refine tIx ?_ | refine tLd ?_ | ((first | refine tSr ?_ | refine tSt ?_); clear hL; intro _ hL; simp only [splice, zq1, zq2, zq3] at hL)); simp only [Act.put, zq1, zq2, zq3]))
          refine QN.mk ?_
          have HS3 := Lib.hid (HS2.out.trans HEX.out.still)
          clear HEX HS2
          go_wp2_with (first | ((with_reducible refine kAny ?_); go_skip) | (with_reducible refine stA ?_) | ((first | refine tIx ?_ | refine tLd ?_ | ((first | refine tSr ?_ | refine tSt ?_); clear hL; intro _ hL; simp only [splice, zq1, zq2, zq3] at hL)); simp only [Act.put, zq1, zq2, zq3]))
          go_roundw
          case rel => exact ⟨i + 1, _, _, by omega, by omega, by go_num, hL, exX, by rw [← HZS.out, ← HZ.out]; exact RowA.le CanR.mono ROW2.out leX, HS3.out⟩
          case measure => simp [intOf] <;> omega
        · obtain ⟨j1, hj1⟩ : ∃ j1, j1 + 1 = j := ⟨j - 1, by omega⟩
          have HYN : Hid (ys.length = n) := ROW2.out.len.symm
          have hjn : j < n := by omega
          have hjn1 : j1 < n := by omega
          obtain ⟨xa, hxa⟩ := at_some HYN hjn
          obtain ⟨xb, hxb⟩ := at_some HYN hjn1
          obtain ⟨R1, a1, c1, d1, g1, A1, n1, e1, f1, B1, p1, q1, hca, hra⟩ := can_at ROW2.out hxa
          obtain ⟨R2, a2, c2, d2, g2, A2, n2, e2, f2, B2, p2, q2, hcb, hrb⟩ := can_at ROW2.out hxb
          have HCA := Lib.hid hca
          have HCB := Lib.hid hcb
          have HST : Hid (bubC ys (j1 + 1) = if canC xa xb < 0 then bubC (swp ys (j1 + 1)) j1 else ys) := bubC_go (by rw [hj1]; exact hxa) hxb
          have HSW : Hid (swp ys j = (ys.set j xb).set j1 xa) := by
            show _ = _
            unfold swp
            rw [hxa, ← hj1, Nat.add_sub_cancel, hxb]
          have HSA : Hid (Sm xa.2.num xa.2.den) := HY.out _ (List.mem_of_getElem? hxa)
          have HSB : Hid (Sm xb.2.num xb.2.den) := HY.out _ (List.mem_of_getElem? hxb)
          have KC : Hid (∀ w m', Vw m' w → Le m2 m' → Calls Tryz.prog 106 #[.agg #[.slice R1 a1 c1, .int .i64 d1, .bool g1, .slice A1 n1 e1, .bool f1, .slice B1 p1 q1], .agg #[.slice R2 a2 c2, .int .i64 d2, .bool g2, .slice A2 n2 e2, .bool f2, .slice B2 p2 q2]] w (RetV w m' fun _ r => r = .int .i64 (canC xa xb))) := by
            show ∀ w m', _
            exact fun w m' hV hle => u_Separate1 _ _ xa xb w m' hV (CanR.mono _ _ _ _ HCA.out hle) (CanR.mono _ _ _ _ HCB.out hle) HSA.out HSB.out
          have hjd : decide (0 < j) = true := decide_eq_true (by omega)
          have hjp : decide ((0 : Int) < (j : Int)) = true := decide_eq_true (by omega)
          have hw1 : wrap64 ((j : Int) - 1) = (j1 : Int) := by unfold wrap64; omega
          have hw2 : (j : Int) - 1 = (j1 : Int) := by omega
          have hw3 : IntKind.i64.wrap ((j : Int) - 1) = (j1 : Int) := by rw [IntKind.wrap_i64]; omega
          have HJ := Lib.hid hj1
          have HXA := Lib.hid hxa
          have HXB := Lib.hid hxb
          generalize hce : canC xa xb = c at *
          clear hce hxa hxb hca hcb hj1 hj0 HSA HSB
          have hin : j < ys.length := by rw [HYN.out]; exact hjn
          have hin1 : j1 < ys.length := by rw [HYN.out]; exact hjn1
          have HIN := Lib.hid hin
          have HIN1 := Lib.hid hin1
          clear hin hin1
          by_cases hc : c < 0
          · rw [if_pos hc] at HST
            have hbc : decide (c < 0) = true := decide_eq_true hc
            clear hc
            go_upto_region 4 with ((first | ((with_reducible refine kAny ?_); go_skip) | (with_reducible refine stA ?_) | ((first | refine tIx ?_ | refine tLd ?_ | ((first | refine tSr ?_ | refine tSt ?_); clear hL; intro _ hL; simp only [splice, zq1, zq2, zq3] at hL)); simp only [Act.put, zq1, zq2, zq3])))
            (try simp only [Nat.zero_add])
            (try simp only [eq_self] at *)
            refine wp_region_by2 17 [false, false, false, false, false, false, false, false, false, false, false, false, false, false, false, false, false] [false, false, false, false, false, false, false, false, false, false, false, false, false, false, false, false, false] [(fun v _ _ => v = ?c4_0b), (fun v _ _ => v = ?c4_1b), (fun v _ _ => v = ?c4_2b), (fun v _ _ => v = ?c4_3b), (fun v _ _ => v = ?c4_4b), (fun v _ _ => v = ?c4_5b), (fun v _ _ => v = ?c4_6b), (fun v _ _ => v = ?c4_7b), (fun v _ _ => v = ?c4_8b), (fun v _ _ => v = ?c4_9b), (fun v _ _ => v = ?c4_10b), (fun v _ _ => v = ?c4_11b), (fun v _ _ => v = ?c4_12b), (fun v _ _ => v = ?c4_13b), Is (.int .i64 c), (fun v _ _ => v = ?c4_15b), (fun v _ _ => v = ?c4_16b)] hL.vw mixed [18, 19, 20, 21, 22, 23, 24, 25, 26, 27, 28, 29, 30, 31, 32, 33, 34] _ (by kernel_rfl) (fun vs => by simp only [lay, Act.put, zq1, zq2, zq3]; rfl) (by kernel_rfl) (by decide) (by decide) ?s4b ?l4b ?r4b
            case s4b =>
              refine ⟨?_, ?_, ?_, ?_, ?_, ?_, ?_, ?_, ?_, ?_, ?_, ?_, ?_, ?_, ?_, ?_, ?_, trivial⟩
              · intro vs W1 m1 hE hM hV hD; clear hD; replace hL := hL.call hE hM hV
                exact sPu
              · intro vs W1 m1 hE hM hV hD; clear hD; replace hL := hL.call hE hM hV
                exact sPu
              · intro vs W1 m1 hE hM hV hD; obtain ⟨⟨_, _, -, -, f18⟩, ⟨_, _, -, -, f19⟩, -⟩ := hD; have f18 : vs 18 = _ := f18; generalize vs 18 = x18 at f18 ⊢; subst x18; have f19 : vs 19 = _ := f19; generalize vs 19 = x19 at f19 ⊢; subst x19; replace hL := hL.call hE hM hV
                exact sPu
              · intro vs W1 m1 hE hM hV hD; obtain ⟨⟨_, _, -, -, f20⟩, -⟩ := hD; have f20 : vs 20 = _ := f20; generalize vs 20 = x20 at f20 ⊢; subst x20; replace hL := hL.call hE hM hV
                exact sPu
              · intro vs W1 m1 hE hM hV hD; obtain ⟨⟨_, _, -, -, f21⟩, -⟩ := hD; have f21 : vs 21 = _ := f21; generalize vs 21 = x21 at f21 ⊢; subst x21; replace hL := hL.call hE hM hV
                exact sPu
              · intro vs W1 m1 hE hM hV hD; obtain ⟨⟨_, _, -, -, f21⟩, -⟩ := hD; have f21 : vs 21 = _ := f21; generalize vs 21 = x21 at f21 ⊢; subst x21; replace hL := hL.call hE hM hV
                exact sPu
              · intro vs W1 m1 hE hM hV hD; obtain ⟨⟨_, _, -, -, f21⟩, -⟩ := hD; have f21 : vs 21 = _ := f21; generalize vs 21 = x21 at f21 ⊢; subst x21; replace hL := hL.call hE hM hV
                exact sPu
              · intro vs W1 m1 hE hM hV hD; obtain ⟨⟨_, _, -, -, f23⟩, ⟨_, _, -, -, f24⟩, ⟨_, _, -, -, f21⟩, -⟩ := hD; have f23 : vs 23 = _ := f23; generalize vs 23 = x23 at f23 ⊢; subst x23; have f24 : vs 24 = _ := f24; generalize vs 24 = x24 at f24 ⊢; subst x24; have f21 : vs 21 = _ := f21; generalize vs 21 = x21 at f21 ⊢; subst x21; replace hL := hL.call hE hM hV
                exact sIx
              · intro vs W1 m1 hE hM hV hD; obtain ⟨⟨_, _, -, -, f25⟩, ⟨_, _, -, -, f21⟩, -⟩ := hD; have f25 : vs 25 = _ := f25; generalize vs 25 = x25 at f25 ⊢; subst x25; have f21 : vs 21 = _ := f21; generalize vs 21 = x21 at f21 ⊢; subst x21; replace hL := hL.call hE hM hV
                exact sLd
              · intro vs W1 m1 hE hM hV hD; obtain ⟨⟨_, _, -, -, f21⟩, -⟩ := hD; have f21 : vs 21 = _ := f21; generalize vs 21 = x21 at f21 ⊢; subst x21; replace hL := hL.call hE hM hV
                exact sPu
              · intro vs W1 m1 hE hM hV hD; obtain ⟨⟨_, _, -, -, f21⟩, -⟩ := hD; have f21 : vs 21 = _ := f21; generalize vs 21 = x21 at f21 ⊢; subst x21; replace hL := hL.call hE hM hV
                exact sPu
              · intro vs W1 m1 hE hM hV hD; obtain ⟨⟨_, _, -, -, f28⟩, ⟨_, _, -, -, f21⟩, -⟩ := hD; have f28 : vs 28 = _ := f28; generalize vs 28 = x28 at f28 ⊢; subst x28; have f21 : vs 21 = _ := f21; generalize vs 21 = x21 at f21 ⊢; subst x21; replace hL := hL.call hE hM hV
                exact sPu
              · intro vs W1 m1 hE hM hV hD; obtain ⟨⟨_, _, -, -, f27⟩, ⟨_, _, -, -, f29⟩, ⟨_, _, -, -, f21⟩, -⟩ := hD; have f27 : vs 27 = _ := f27; generalize vs 27 = x27 at f27 ⊢; subst x27; have f29 : vs 29 = _ := f29; generalize vs 29 = x29 at f29 ⊢; subst x29; have f21 : vs 21 = _ := f21; generalize vs 21 = x21 at f21 ⊢; subst x21; replace hL := hL.call hE hM hV
                exact sIx
              · intro vs W1 m1 hE hM hV hD; obtain ⟨⟨_, _, -, -, f30⟩, ⟨_, _, -, -, f21⟩, -⟩ := hD; have f30 : vs 30 = _ := f30; generalize vs 30 = x30 at f30 ⊢; subst x30; have f21 : vs 21 = _ := f21; generalize vs 21 = x21 at f21 ⊢; subst x21; replace hL := hL.call hE hM hV
                exact sLd
              · intro vs W1 m1 hE hM hV hD; obtain ⟨⟨_, _, -, -, f22⟩, ⟨_, _, -, -, f26⟩, ⟨_, _, -, -, f31⟩, ⟨_, _, -, -, f21⟩, -, -⟩ := hD; have f22 : vs 22 = _ := f22; generalize vs 22 = x22 at f22 ⊢; subst x22; have f26 : vs 26 = _ := f26; generalize vs 26 = x26 at f26 ⊢; subst x26; have f31 : vs 31 = _ := f31; generalize vs 31 = x31 at f31 ⊢; subst x31; have f21 : vs 21 = _ := f21; generalize vs 21 = x21 at f21 ⊢; subst x21
                go_wp2_with fail
                refine (KC.out _ _ hV leX).mono ?_
                rintro e W2 ⟨v, m2, rfl, hE2, hM2, hV2, h⟩
                go_wp2_with fail
                refine One2.call hE2 hM2 hV2 ?_; first | exact h | exact rfl
              · intro vs W1 m1 hE hM hV hD; obtain ⟨⟨_, _, -, -, f32⟩, ⟨_, _, -, -, f21⟩, -⟩ := hD; have f32 : vs 32 = _ := f32; generalize vs 32 = x32 at f32 ⊢; subst x32; have f21 : vs 21 = _ := f21; generalize vs 21 = x21 at f21 ⊢; subst x21; replace hL := hL.call hE hM hV
                exact sPu
              · intro vs W1 m1 hE hM hV hD; obtain ⟨⟨_, _, -, -, f21⟩, ⟨_, _, -, -, f33⟩, -⟩ := hD; have f21 : vs 21 = _ := f21; generalize vs 21 = x21 at f21 ⊢; subst x21; have f33 : vs 33 = _ := f33; generalize vs 33 = x33 at f33 ⊢; subst x33; replace hL := hL.call hE hM hV
                exact sPu
            case l4b =>
              refine ⟨fun h => (by cases h), fun h => (by cases h), fun h => (by cases h), fun h => (by cases h), fun h => (by cases h), fun h => (by cases h), fun h => (by cases h), fun h => (by cases h), fun h => (by cases h), fun h => (by cases h), fun h => (by cases h), fun h => (by cases h), fun h => (by cases h), fun h => (by cases h), fun h => (by cases h), fun h => (by cases h), fun h => (by cases h), trivial⟩
            intro vs W1 m1 hE hM hV hF hD
            clear hD
            obtain ⟨⟨_, _, -, -, f18⟩, ⟨_, _, -, -, f19⟩, ⟨_, _, -, -, f20⟩, ⟨_, _, -, -, f21⟩, ⟨_, _, -, -, f22⟩, ⟨_, _, -, -, f23⟩, ⟨_, _, -, -, f24⟩, ⟨_, _, -, -, f25⟩, ⟨_, _, -, -, f26⟩, ⟨_, _, -, -, f27⟩, ⟨_, _, -, -, f28⟩, ⟨_, _, -, -, f29⟩, ⟨_, _, -, -, f30⟩, ⟨_, _, -, -, f31⟩, ⟨_, _, -, -, f32⟩, ⟨_, _, -, -, f33⟩, ⟨_, _, -, -, f34⟩, -⟩ := hF
            replace hL := hL.call hE hM hV
            have f18 : vs 18 = _ := f18
            generalize vs 18 = x18 at f18 ⊢
            subst x18
            have f19 : vs 19 = _ := f19
            generalize vs 19 = x19 at f19 ⊢
            subst x19
            have f20 : vs 20 = _ := f20
            generalize vs 20 = x20 at f20 ⊢
            subst x20
            have f21 : vs 21 = _ := f21
            generalize vs 21 = x21 at f21 ⊢
            subst x21
            have f22 : vs 22 = _ := f22
            generalize vs 22 = x22 at f22 ⊢
            subst x22
            have f23 : vs 23 = _ := f23
            generalize vs 23 = x23 at f23 ⊢
            subst x23
            have f24 : vs 24 = _ := f24
            generalize vs 24 = x24 at f24 ⊢
            subst x24
            have f25 : vs 25 = _ := f25
            generalize vs 25 = x25 at f25 ⊢
            subst x25
            have f26 : vs 26 = _ := f26
            generalize vs 26 = x26 at f26 ⊢
            subst x26
            have f27 : vs 27 = _ := f27
            generalize vs 27 = x27 at f27 ⊢
            subst x27
            have f28 : vs 28 = _ := f28
            generalize vs 28 = x28 at f28 ⊢
            subst x28
            have f29 : vs 29 = _ := f29
            generalize vs 29 = x29 at f29 ⊢
            subst x29
            have f30 : vs 30 = _ := f30
            generalize vs 30 = x30 at f30 ⊢
            subst x30
            have f31 : vs 31 = _ := f31
            generalize vs 31 = x31 at f31 ⊢
            subst x31
            have f32 : vs 32 = _ := f32
            generalize vs 32 = x32 at f32 ⊢
            subst x32
            have f33 : vs 33 = _ := f33
            generalize vs 33 = x33 at f33 ⊢
            subst x33
            have f34 : vs 34 = _ := f34
            generalize vs 34 = x34 at f34 ⊢
            subst x34
            have HEX := Lib.hid hE
            clear hE hV
            simp only [List.drop_succ_cons, List.drop_zero]
            go_wp2_with (first | ((with_reducible refine kAny ?_); go_skip) | (with_reducible refine stA ?_) | ((first | refine tIx ?_ | refine tLd ?_ | ((first | refine tSr ?_ | refine tSt ?_); clear hL; intro _ hL; simp only [splice, zq1, zq2, zq3] at hL)); simp only [Act.put, zq1, zq2, zq3]))
            refine QN.mk ?_
            have HS3 := Lib.hid (HS2.out.trans HEX.out.still)
            clear HEX HS2
            have HM1 : Hid (Ext m2 m1) := exX
            have HXB1 := Lib.hid hX
            clear hX
            go_upto_region 6 with ((first | ((with_reducible refine kAny ?_); go_skip) | (with_reducible refine stA ?_) | ((first | refine tIx ?_ | refine tLd ?_ | ((first | refine tSr ?_ | refine tSt ?_); clear hL; intro _ hL; simp only [splice, zq1, zq2, zq3] at hL)); simp only [Act.put, zq1, zq2, zq3])))
            (try simp only [eq_self] at *)
            refine wp_region_by2 14 [false, false, false, false, false, false, false, false, false, false, false, false, false, false] [false, false, true, true, true, false, false, false, false, false, false, false, false, false] [(fun v _ _ => v = ?c6_0b), (fun v _ _ => v = ?c6_1b), (fun v _ _ => v = ?c6_2b), (fun v _ _ => v = ?c6_3b), (fun v _ _ => v = ?c6_4b), (fun v _ _ => v = ?c6_5b), (fun v _ _ => v = ?c6_6b), (fun v _ _ => v = ?c6_7b), (fun v _ _ => v = ?c6_8b), (fun v _ _ => v = ?c6_9b), (fun v _ _ => v = ?c6_10b), (fun v _ _ => v = ?c6_11b), (fun v _ _ => v = ?c6_12b), (fun v _ _ => v = ?c6_13b)] hL.vw mixed [37, 38, 39, 40, 41, 42, 43, 44, 45, 46, 47, 48, 49, 50] _ (by kernel_rfl) (fun vs => by simp only [lay, Act.put, zq1, zq2, zq3]; rfl) (by kernel_rfl) (by decide) (by decide) ?s6b ?l6b ?r6b
            case s6b =>
              refine ⟨?_, ?_, ?_, ?_, ?_, ?_, ?_, ?_, ?_, ?_, ?_, ?_, ?_, ?_, trivial⟩
              · intro vs W1 m1 hE hM hV hD; clear hD; replace hL := hL.call hE hM hV
                exact sPu
              · intro vs W1 m1 hE hM hV hD; clear hD; replace hL := hL.call hE hM hV
                exact sPu
              · intro vs W1 m1 hE hM hV hD; clear hD; replace hL := hL.call hE hM hV
                exact sPu
              · intro vs W1 m1 hE hM hV hD; clear hD; replace hL := hL.call hE hM hV
                exact sPu
              · intro vs W1 m1 hE hM hV hD; obtain ⟨⟨_, _, -, -, f40⟩, -, -⟩ := hD; have f40 : vs 40 = _ := f40; generalize vs 40 = x40 at f40 ⊢; subst x40; replace hL := hL.call hE hM hV
                exact sPu
              · intro vs W1 m1 hE hM hV hD; clear hD; replace hL := hL.call hE hM hV
                exact sPu
              · intro vs W1 m1 hE hM hV hD; clear hD; replace hL := hL.call hE hM hV
                exact sPu
              · intro vs W1 m1 hE hM hV hD; obtain ⟨⟨_, _, -, -, f43⟩, -⟩ := hD; have f43 : vs 43 = _ := f43; generalize vs 43 = x43 at f43 ⊢; subst x43; replace hL := hL.call hE hM hV
                exact sPu
              · intro vs W1 m1 hE hM hV hD; obtain ⟨⟨_, _, -, -, f42⟩, ⟨_, _, -, -, f44⟩, -⟩ := hD; have f42 : vs 42 = _ := f42; generalize vs 42 = x42 at f42 ⊢; subst x42; have f44 : vs 44 = _ := f44; generalize vs 44 = x44 at f44 ⊢; subst x44; replace hL := hL.call hE hM hV
                exact sIx
              · intro vs W1 m1 hE hM hV hD; obtain ⟨⟨_, _, -, -, f45⟩, -⟩ := hD; have f45 : vs 45 = _ := f45; generalize vs 45 = x45 at f45 ⊢; subst x45; replace hL := hL.call hE hM hV
                exact sLd
              · intro vs W1 m1 hE hM hV hD; clear hD; replace hL := hL.call hE hM hV
                exact sPu
              · intro vs W1 m1 hE hM hV hD; clear hD; replace hL := hL.call hE hM hV
                exact sPu
              · intro vs W1 m1 hE hM hV hD; obtain ⟨⟨_, _, -, -, f47⟩, ⟨_, _, -, -, f48⟩, -⟩ := hD; have f47 : vs 47 = _ := f47; generalize vs 47 = x47 at f47 ⊢; subst x47; have f48 : vs 48 = _ := f48; generalize vs 48 = x48 at f48 ⊢; subst x48; replace hL := hL.call hE hM hV
                exact sIx
              · intro vs W1 m1 hE hM hV hD; obtain ⟨⟨_, _, -, -, f49⟩, -⟩ := hD; have f49 : vs 49 = _ := f49; generalize vs 49 = x49 at f49 ⊢; subst x49; replace hL := hL.call hE hM hV
                exact sLd
            case l6b =>
              refine ⟨fun h => (by cases h), fun h => (by cases h), fun _ => ?_, fun _ => ?_, fun _ => ?_, fun h => (by cases h), fun h => (by cases h), fun h => (by cases h), fun h => (by cases h), fun h => (by cases h), fun h => (by cases h), fun h => (by cases h), fun h => (by cases h), fun h => (by cases h), trivial⟩
              · intro vs W1 m1 hE hM hV hD; clear hD
                exact ⟨_, Or.inl ⟨(by rfl), fun w => (by rfl)⟩, (by first | exact rfl | exact congrArg (Value.int .i64) hw3)⟩
              · intro vs W1 m1 hE hM hV hD; clear hD
                exact ⟨_, Or.inl ⟨(by rfl), fun w => (by rfl)⟩, (by first | exact rfl | exact congrArg (Value.int .i64) hw3)⟩
              · intro vs W1 m1 hE hM hV hD; obtain ⟨⟨_, _, -, -, f40⟩, -, -⟩ := hD; have f40 : vs 40 = _ := f40; generalize vs 40 = x40 at f40 ⊢; subst x40
                exact ⟨_, Or.inl ⟨(by rfl), fun w => (by rfl)⟩, (by first | exact rfl | exact congrArg (Value.int .i64) hw3)⟩
            intro vs W1 m1 hE hM hV hF hD
            clear hD
            obtain ⟨⟨_, _, -, -, f37⟩, ⟨_, _, -, -, f38⟩, ⟨_, _, -, -, f39⟩, -, ⟨_, _, -, -, f41⟩, -, -, -, -, ⟨_, _, -, -, f46⟩, -, -, -, ⟨_, _, -, -, f50⟩, -⟩ := hF
            replace hL := hL.call hE hM hV
            have f37 : vs 37 = _ := f37
            generalize vs 37 = x37 at f37 ⊢
            subst x37
            have f38 : vs 38 = _ := f38
            generalize vs 38 = x38 at f38 ⊢
            subst x38
            have f39 : vs 39 = _ := f39
            generalize vs 39 = x39 at f39 ⊢
            subst x39
            have f41 : vs 41 = _ := f41
            generalize vs 41 = x41 at f41 ⊢
            subst x41
            have f46 : vs 46 = _ := f46
            generalize vs 46 = x46 at f46 ⊢
            subst x46
            have f50 : vs 50 = _ := f50
            generalize vs 50 = x50 at f50 ⊢
            subst x50
            have HEX := Lib.hid hE
            clear hE hV
            simp only [List.drop_succ_cons, List.drop_zero]
            have HS4 := Lib.hid (HS3.out.trans HEX.out.still)
            have hfit := ROW2.out.fit
            have hfj : 0 + j * 6 + 6 ≤ cur2.size := by omega
            have hfj1 : 0 + j1 * 6 + 6 ≤ cur2.size := by omega
            clear HEX HS3 hfit
            go_wp2_with (first | (with_reducible refine stS ?_) | (first | ((with_reducible refine kAny ?_); go_skip) | (with_reducible refine stA ?_) | ((first | refine tIx ?_ | refine tLd ?_ | ((first | refine tSr ?_ | refine tSt ?_); clear hL; intro _ hL; simp only [splice, zq1, zq2, zq3] at hL)); simp only [Act.put, zq1, zq2, zq3])))
            refine goA ?_
            refine wl_storeS hL (wanted_none rfl) (vs := [.slice R2 a2 c2, .int .i64 d2, .bool g2, .slice A2 n2 e2, .bool f2, .slice B2 p2 q2]) rfl rfl rfl ag_Can rfl (n := 0) rfl (by omega) rfl ?_
            have hra1 := RowA.putW (k := j) (x := xb) (ws := [.slice R2 a2 c2, .int .i64 d2, .bool g2, .slice A2 n2 e2, .bool f2, .slice B2 p2 q2]) ROW2.out HIN.out rfl HCB.out
            simp only [Nat.zero_add] at hra1
            clear hL
            intro W7 hL hS7
            simp only [List.set_cons_zero, Nat.zero_add] at hL
            simp only [Act.put, zq1, zq2, zq3]
            go_wp2_with (first | (with_reducible refine stS ?_) | (first | ((with_reducible refine kAny ?_); go_skip) | (with_reducible refine stA ?_) | ((first | refine tIx ?_ | refine tLd ?_ | ((first | refine tSr ?_ | refine tSt ?_); clear hL; intro _ hL; simp only [splice, zq1, zq2, zq3] at hL)); simp only [Act.put, zq1, zq2, zq3])))
            refine goA ?_
            refine wl_storeS hL (wanted_none rfl) (vs := [.slice R1 a1 c1, .int .i64 d1, .bool g1, .slice A1 n1 e1, .bool f1, .slice B1 p1 q1]) rfl rfl rfl ag_Can rfl (n := 0) rfl (by rw [splice_size]; omega) rfl ?_
            have hra2 := RowA.putW (k := j1) (x := xa) (ws := [.slice R1 a1 c1, .int .i64 d1, .bool g1, .slice A1 n1 e1, .bool f1, .slice B1 p1 q1]) hra1 (by rw [List.length_set]; exact HIN1.out) rfl HCA.out
            rw [← HSW.out] at hra2
            simp only [Nat.zero_add] at hra2
            clear hL hra1
            intro W8 hL hS8
            simp only [List.set_cons_zero, Nat.zero_add] at hL
            have RA2 := Lib.hid hra2
            have HS8 := Lib.hid ((HS4.out.trans hS7).trans hS8)
            have HB2 : Hid (bubC (swp ys j) j1 = zs) := by
              show _ = _
              rw [← HB.out, ← HJ.out, HST.out]
            have HY2 : Hid (∀ y ∈ swp ys j, Sm y.2.num y.2.den) := by
              show ∀ y ∈ _, _
              exact fun y hy => HY.out y (swp_mem hy)
            clear hra2 hS7 hS8 HS4
            simp only [Act.put, zq1, zq2, zq3]
            go_wp2_with (first | ((with_reducible refine kAny ?_); go_skip) | (with_reducible refine stA ?_) | ((first | refine tIx ?_ | refine tLd ?_ | ((first | refine tSr ?_ | refine tSt ?_); clear hL; intro _ hL; simp only [splice, zq1, zq2, zq3] at hL)); simp only [Act.put, zq1, zq2, zq3]))
            refine QN.mk ?_
            go_wp2_with (first | ((with_reducible refine kAny ?_); go_skip) | (with_reducible refine stA ?_) | ((first | refine tIx ?_ | refine tLd ?_ | ((first | refine tSr ?_ | refine tSt ?_); clear hL; intro _ hL; simp only [splice, zq1, zq2, zq3] at hL)); simp only [Act.put, zq1, zq2, zq3]))
            go_roundw
            case rel => exact ⟨j1, _, _, _, by omega, by go_num, hL, HXB1.out.trans exX, RowA.le CanR.mono RA2.out leX, HB2.out, HY2.out, HS8.out⟩
            case measure => simp [intOf] <;> omega
          · rw [if_neg hc] at HST
            have hbc : decide (c < 0) = false := decide_eq_false hc
            have HZ : Hid (ys = zs) := by
              show _ = _
              rw [← HB.out, ← HJ.out, HST.out]
            clear hc
            go_upto_region 4 with ((first | ((with_reducible refine kAny ?_); go_skip) | (with_reducible refine stA ?_) | ((first | refine tIx ?_ | refine tLd ?_ | ((first | refine tSr ?_ | refine tSt ?_); clear hL; intro _ hL; simp only [splice, zq1, zq2, zq3] at hL)); simp only [Act.put, zq1, zq2, zq3])))
            (try simp only [Nat.zero_add])
            (try simp only [eq_self] at *)
            refine wp_region_by2 17 [false, false, false, false, false, false, false, false, false, false, false, false, false, false, false, false, false] [false, false, false, false, false, false, false, false, false, false, false, false, false, false, false, false, false] [(fun v _ _ => v = ?c4_0c), (fun v _ _ => v = ?c4_1c), (fun v _ _ => v = ?c4_2c), (fun v _ _ => v = ?c4_3c), (fun v _ _ => v = ?c4_4c), (fun v _ _ => v = ?c4_5c), (fun v _ _ => v = ?c4_6c), (fun v _ _ => v = ?c4_7c), (fun v _ _ => v = ?c4_8c), (fun v _ _ => v = ?c4_9c), (fun v _ _ => v = ?c4_10c), (fun v _ _ => v = ?c4_11c), (fun v _ _ => v = ?c4_12c), (fun v _ _ => v = ?c4_13c), Is (.int .i64 c), (fun v _ _ => v = ?c4_15c), (fun v _ _ => v = ?c4_16c)] hL.vw mixed [18, 19, 20, 21, 22, 23, 24, 25, 26, 27, 28, 29, 30, 31, 32, 33, 34] _ (by kernel_rfl) (fun vs => by simp only [lay, Act.put, zq1, zq2, zq3]; rfl) (by kernel_rfl) (by decide) (by decide) ?s4c ?l4c ?r4c
            case s4c =>
              refine ⟨?_, ?_, ?_, ?_, ?_, ?_, ?_, ?_, ?_, ?_, ?_, ?_, ?_, ?_, ?_, ?_, ?_, trivial⟩
              · intro vs W1 m1 hE hM hV hD; clear hD; replace hL := hL.call hE hM hV
                exact sPu
              · intro vs W1 m1 hE hM hV hD; clear hD; replace hL := hL.call hE hM hV
                exact sPu
              · intro vs W1 m1 hE hM hV hD; obtain ⟨⟨_, _, -, -, f18⟩, ⟨_, _, -, -, f19⟩, -⟩ := hD; have f18 : vs 18 = _ := f18; generalize vs 18 = x18 at f18 ⊢; subst x18; have f19 : vs 19 = _ := f19; generalize vs 19 = x19 at f19 ⊢; subst x19; replace hL := hL.call hE hM hV
                exact sPu
              · intro vs W1 m1 hE hM hV hD; obtain ⟨⟨_, _, -, -, f20⟩, -⟩ := hD; have f20 : vs 20 = _ := f20; generalize vs 20 = x20 at f20 ⊢; subst x20; replace hL := hL.call hE hM hV
                exact sPu
              · intro vs W1 m1 hE hM hV hD; obtain ⟨⟨_, _, -, -, f21⟩, -⟩ := hD; have f21 : vs 21 = _ := f21; generalize vs 21 = x21 at f21 ⊢; subst x21; replace hL := hL.call hE hM hV
                exact sPu
              · intro vs W1 m1 hE hM hV hD; obtain ⟨⟨_, _, -, -, f21⟩, -⟩ := hD; have f21 : vs 21 = _ := f21; generalize vs 21 = x21 at f21 ⊢; subst x21; replace hL := hL.call hE hM hV
                exact sPu
              · intro vs W1 m1 hE hM hV hD; obtain ⟨⟨_, _, -, -, f21⟩, -⟩ := hD; have f21 : vs 21 = _ := f21; generalize vs 21 = x21 at f21 ⊢; subst x21; replace hL := hL.call hE hM hV
                exact sPu
              · intro vs W1 m1 hE hM hV hD; obtain ⟨⟨_, _, -, -, f23⟩, ⟨_, _, -, -, f24⟩, ⟨_, _, -, -, f21⟩, -⟩ := hD; have f23 : vs 23 = _ := f23; generalize vs 23 = x23 at f23 ⊢; subst x23; have f24 : vs 24 = _ := f24; generalize vs 24 = x24 at f24 ⊢; subst x24; have f21 : vs 21 = _ := f21; generalize vs 21 = x21 at f21 ⊢; subst x21; replace hL := hL.call hE hM hV
                exact sIx
              · intro vs W1 m1 hE hM hV hD; obtain ⟨⟨_, _, -, -, f25⟩, ⟨_, _, -, -, f21⟩, -⟩ := hD; have f25 : vs 25 = _ := f25; generalize vs 25 = x25 at f25 ⊢; subst x25; have f21 : vs 21 = _ := f21; generalize vs 21 = x21 at f21 ⊢; subst x21; replace hL := hL.call hE hM hV
                exact sLd
              · intro vs W1 m1 hE hM hV hD; obtain ⟨⟨_, _, -, -, f21⟩, -⟩ := hD; have f21 : vs 21 = _ := f21; generalize vs 21 = x21 at f21 ⊢; subst x21; replace hL := hL.call hE hM hV
                exact sPu
              · intro vs W1 m1 hE hM hV hD; obtain ⟨⟨_, _, -, -, f21⟩, -⟩ := hD; have f21 : vs 21 = _ := f21; generalize vs 21 = x21 at f21 ⊢; subst x21; replace hL := hL.call hE hM hV
                exact sPu
              · intro vs W1 m1 hE hM hV hD; obtain ⟨⟨_, _, -, -, f28⟩, ⟨_, _, -, -, f21⟩, -⟩ := hD; have f28 : vs 28 = _ := f28; generalize vs 28 = x28 at f28 ⊢; subst x28; have f21 : vs 21 = _ := f21; generalize vs 21 = x21 at f21 ⊢; subst x21; replace hL := hL.call hE hM hV
                exact sPu
              · intro vs W1 m1 hE hM hV hD; obtain ⟨⟨_, _, -, -, f27⟩, ⟨_, _, -, -, f29⟩, ⟨_, _, -, -, f21⟩, -⟩ := hD; have f27 : vs 27 = _ := f27; generalize vs 27 = x27 at f27 ⊢; subst x27; have f29 : vs 29 = _ := f29; generalize vs 29 = x29 at f29 ⊢; subst x29; have f21 : vs 21 = _ := f21; generalize vs 21 = x21 at f21 ⊢; subst x21; replace hL := hL.call hE hM hV
                exact sIx
              · intro vs W1 m1 hE hM hV hD; obtain ⟨⟨_, _, -, -, f30⟩, ⟨_, _, -, -, f21⟩, -⟩ := hD; have f30 : vs 30 = _ := f30; generalize vs 30 = x30 at f30 ⊢; subst x30; have f21 : vs 21 = _ := f21; generalize vs 21 = x21 at f21 ⊢; subst x21; replace hL := hL.call hE hM hV
                exact sLd
              · intro vs W1 m1 hE hM hV hD; obtain ⟨⟨_, _, -, -, f22⟩, ⟨_, _, -, -, f26⟩, ⟨_, _, -, -, f31⟩, ⟨_, _, -, -, f21⟩, -, -⟩ := hD; have f22 : vs 22 = _ := f22; generalize vs 22 = x22 at f22 ⊢; subst x22; have f26 : vs 26 = _ := f26; generalize vs 26 = x26 at f26 ⊢; subst x26; have f31 : vs 31 = _ := f31; generalize vs 31 = x31 at f31 ⊢; subst x31; have f21 : vs 21 = _ := f21; generalize vs 21 = x21 at f21 ⊢; subst x21
                go_wp2_with fail
                refine (KC.out _ _ hV leX).mono ?_
                rintro e W2 ⟨v, m2, rfl, hE2, hM2, hV2, h⟩
                go_wp2_with fail
                refine One2.call hE2 hM2 hV2 ?_; first | exact h | exact rfl
              · intro vs W1 m1 hE hM hV hD; obtain ⟨⟨_, _, -, -, f32⟩, ⟨_, _, -, -, f21⟩, -⟩ := hD; have f32 : vs 32 = _ := f32; generalize vs 32 = x32 at f32 ⊢; subst x32; have f21 : vs 21 = _ := f21; generalize vs 21 = x21 at f21 ⊢; subst x21; replace hL := hL.call hE hM hV
                exact sPu
              · intro vs W1 m1 hE hM hV hD; obtain ⟨⟨_, _, -, -, f21⟩, ⟨_, _, -, -, f33⟩, -⟩ := hD; have f21 : vs 21 = _ := f21; generalize vs 21 = x21 at f21 ⊢; subst x21; have f33 : vs 33 = _ := f33; generalize vs 33 = x33 at f33 ⊢; subst x33; replace hL := hL.call hE hM hV
                exact sPu
            case l4c =>
              refine ⟨fun h => (by cases h), fun h => (by cases h), fun h => (by cases h), fun h => (by cases h), fun h => (by cases h), fun h => (by cases h), fun h => (by cases h), fun h => (by cases h), fun h => (by cases h), fun h => (by cases h), fun h => (by cases h), fun h => (by cases h), fun h => (by cases h), fun h => (by cases h), fun h => (by cases h), fun h => (by cases h), fun h => (by cases h), trivial⟩
            intro vs W1 m1 hE hM hV hF hD
            clear hD
            obtain ⟨⟨_, _, -, -, f18⟩, ⟨_, _, -, -, f19⟩, ⟨_, _, -, -, f20⟩, ⟨_, _, -, -, f21⟩, ⟨_, _, -, -, f22⟩, ⟨_, _, -, -, f23⟩, ⟨_, _, -, -, f24⟩, ⟨_, _, -, -, f25⟩, ⟨_, _, -, -, f26⟩, ⟨_, _, -, -, f27⟩, ⟨_, _, -, -, f28⟩, ⟨_, _, -, -, f29⟩, ⟨_, _, -, -, f30⟩, ⟨_, _, -, -, f31⟩, ⟨_, _, -, -, f32⟩, ⟨_, _, -, -, f33⟩, ⟨_, _, -, -, f34⟩, -⟩ := hF
            replace hL := hL.call hE hM hV
            have f18 : vs 18 = _ := f18
            generalize vs 18 = x18 at f18 ⊢
            subst x18
            have f19 : vs 19 = _ := f19
            generalize vs 19 = x19 at f19 ⊢
            subst x19
            have f20 : vs 20 = _ := f20
            generalize vs 20 = x20 at f20 ⊢
            subst x20
            have f21 : vs 21 = _ := f21
            generalize vs 21 = x21 at f21 ⊢
            subst x21
            have f22 : vs 22 = _ := f22
            generalize vs 22 = x22 at f22 ⊢
            subst x22
            have f23 : vs 23 = _ := f23
            generalize vs 23 = x23 at f23 ⊢
            subst x23
            have f24 : vs 24 = _ := f24
            generalize vs 24 = x24 at f24 ⊢
            subst x24
            have f25 : vs 25 = _ := f25
            generalize vs 25 = x25 at f25 ⊢
            subst x25
            have f26 : vs 26 = _ := f26
            generalize vs 26 = x26 at f26 ⊢
            subst x26
            have f27 : vs 27 = _ := f27
            generalize vs 27 = x27 at f27 ⊢
            subst x27
            have f28 : vs 28 = _ := f28
            generalize vs 28 = x28 at f28 ⊢
            subst x28
            have f29 : vs 29 = _ := f29
            generalize vs 29 = x29 at f29 ⊢
            subst x29
            have f30 : vs 30 = _ := f30
            generalize vs 30 = x30 at f30 ⊢
            subst x30
            have f31 : vs 31 = _ := f31
            generalize vs 31 = x31 at f31 ⊢
            subst x31
            have f32 : vs 32 = _ := f32
            generalize vs 32 = x32 at f32 ⊢
            subst x32
            have f33 : vs 33 = _ := f33
            generalize vs 33 = x33 at f33 ⊢
            subst x33
            have f34 : vs 34 = _ := f34
            generalize vs 34 = x34 at f34 ⊢
            subst x34
            have HEX := Lib.hid hE
            clear hE hV
            simp only [List.drop_succ_cons, List.drop_zero]
            go_wp2_with (first | ((with_reducible refine kAny ?_); go_skip) | (with_reducible refine stA ?_) | ((first | refine tIx ?_ | refine tLd ?_ | ((first | refine tSr ?_ | refine tSt ?_); clear hL; intro _ hL; simp only [splice, zq1, zq2, zq3] at hL)); simp only [Act.put, zq1, zq2, zq3]))
            refine QN.mk ?_
            have HS3 := Lib.hid (HS2.out.trans HEX.out.still)
            clear HEX HS2
            go_wp2_with (first | ((with_reducible refine kAny ?_); go_skip) | (with_reducible refine stA ?_) | ((first | refine tIx ?_ | refine tLd ?_ | ((first | refine tSr ?_ | refine tSt ?_); clear hL; intro _ hL; simp only [splice, zq1, zq2, zq3] at hL)); simp only [Act.put, zq1, zq2, zq3]))
            go_roundw
            case rel => exact ⟨i + 1, _, _, by omega, by omega, by go_num, hL, exX, by rw [← HZS.out, ← HZ.out]; exact RowA.le CanR.mono ROW2.out leX, HS3.out⟩
            case measure => simp [intOf] <;> omega
    · have hin : i = n := by omega
      subst hin
      have h9 : (i : Int) ≤ (i : Int) := Int.le_refl _
      go_wp2_with (first | ((with_reducible refine kAny ?_); go_skip) | (with_reducible refine stA ?_) | ((first | refine tIx ?_ | refine tLd ?_ | ((first | refine tSr ?_ | refine tSt ?_); clear hL; intro _ hL; simp only [splice, zq1, zq2, zq3] at hL)); simp only [Act.put, zq1, zq2, zq3]))
      refine bodyPost_end (results_none rfl _ _ _) rfl ?_
      exact ⟨_, cur1, ⟨_, rfl⟩, hL, hX, HS1.out, ROW1.out⟩
end Go.Proofs.YtmhkmmmompediaaGreat

/- slices.SortStableFunc of at most ten candidates: one insertion sort. -/
namespace Go.Proofs.YtmhkmmmompediaaGreat
open Go.RowKit

set_option maxRecDepth 100000 in
set_option maxHeartbeats 32000000 in
theorem s_StableCan {w0 m0 W m : World} {A : List Lo} {g n cap : Nat} {cur : Array Value} {xs : List Can} (hL : Loc w0 m0 W m ((g, 128, cur) :: A)) (row : RowA 128 6 CanR m (.slice (some ⟨g, 0, none⟩) n cap) n xs [(g, 128, cur)]) (hn1 : 1 ≤ n) (hn : n ≤ 10) (hs : ∀ x ∈ xs, Sm x.2.num x.2.den) :
    Calls Tryz.prog 165 #[.slice (some ⟨g, 0, none⟩) n cap, .int .i64 n, .func (.func 106) #[] #[]] W (fun e W' => ∃ (m' : World) (cur' : Array Value), (∃ v, e = .returned v) ∧ Loc w0 m0 W' m' ((g, 128, cur') :: A) ∧ Ext m m' ∧ Still W W' ∧
      RowA 128 6 CanR m' (.slice (some ⟨g, 0, none⟩) n cap) n (insC xs n) [(g, 128, cur')]) := by
  have ROW := Lib.hid row
  have HS := Lib.hid hs
  have h20 : (n : Int) < 20 := by omega
  have h21 : (n : Int) ≤ 20 := by omega
  clear row hs
  go_enter Tryz.func165, Tryz.ntmps165
  go_wp2_with ((with_reducible refine kAny ?_); go_skip)
  refine wp_loop_once ?_
  go_wp2_with ((with_reducible refine kAny ?_); go_skip)
  refine (s_InsCan hL ROW.out hn1 (by omega) HS.out).mono ?_
  rintro e W1 ⟨m1, cur1, ⟨v, rfl⟩, hL1, hX1, hS1, row1⟩
  clear hL
  have hL := hL1
  have ROW1 := Lib.hid row1
  have HS1 := Lib.hid hS1
  clear hL1 row1 hS1
  go_wp2_with ((with_reducible refine kAny ?_); go_skip)
  refine wp_loop_once ?_
  go_wp2_with ((with_reducible refine kAny ?_); go_skip)
  first | refine bodyPost_end (results_none rfl _ _ _) rfl ?_ | refine bodyPost_ret (results_none rfl _ _ _) rfl ?_
  exact ⟨_, cur1, ⟨_, rfl⟩, hL, hX1, HS1.out, ROW1.out⟩
set_option maxRecDepth 100000 in
set_option maxHeartbeats 32000000 in
theorem s_SortCan {w0 m0 W m : World} {A : List Lo} {g n cap : Nat} {cur : Array Value} {xs : List Can} (hL : Loc w0 m0 W m ((g, 128, cur) :: A)) (row : RowA 128 6 CanR m (.slice (some ⟨g, 0, none⟩) n cap) n xs [(g, 128, cur)]) (hn1 : 1 ≤ n) (hn : n ≤ 10) (hs : ∀ x ∈ xs, Sm x.2.num x.2.den) :
    Calls Tryz.prog 105 #[.slice (some ⟨g, 0, none⟩) n cap, .func (.func 106) #[] #[]] W (fun e W' => ∃ (m' : World) (cur' : Array Value), (∃ v, e = .returned v) ∧ Loc w0 m0 W' m' ((g, 128, cur') :: A) ∧ Ext m m' ∧ Still W W' ∧
      RowA 128 6 CanR m' (.slice (some ⟨g, 0, none⟩) n cap) n (srtC xs) [(g, 128, cur')]) := by
  have HSR : Hid (insC xs n = srtC xs) := by
    show _ = _
    rw [row.len]; exact insC_all xs
  have ROW := Lib.hid row
  have HS := Lib.hid hs
  clear row hs
  go_enter Tryz.func105, Tryz.ntmps105
  go_wp2_with ((with_reducible refine kAny ?_); go_skip)
  refine (s_StableCan hL ROW.out hn1 hn HS.out).mono ?_
  rintro e W1 ⟨m1, cur1, ⟨v, rfl⟩, hL1, hX1, hS1, row1⟩
  clear hL
  have hL := hL1
  rw [HSR.out] at row1
  have ROW1 := Lib.hid row1
  have HS1 := Lib.hid hS1
  clear hL1 row1 hS1
  go_wp2_with ((with_reducible refine kAny ?_); go_skip)
  first | refine bodyPost_end (results_none rfl _ _ _) rfl ?_ | refine bodyPost_ret (results_none rfl _ _ _) rfl ?_
  exact ⟨_, cur1, ⟨_, rfl⟩, hL, hX1, HS1.out, ROW1.out⟩
end Go.Proofs.YtmhkmmmompediaaGreat

/- cuts.Separate in general. -/
namespace Go.Proofs.YtmhkmmmompediaaGreat
open Go.RowKit

theorem s_SortAny {w0 m0 W m : World} {x : Lo} {R : List Lo} {A : Option Addr} {n c : Nat} {xs : List Can} (hL : Loc w0 m0 W m (x :: R)) (row : RowA 128 6 CanR m (.slice A n c) n xs R) (hn : n ≤ 10) (hs : ∀ x ∈ xs, Sm x.2.num x.2.den) :
    Calls Tryz.prog 105 #[.slice A n c, .func (.func 106) #[] #[]] W (fun e W' => ∃ (v : Value) (m' : World) (R' : List Lo), e = .returned v ∧ Loc w0 m0 W' m' (x :: R') ∧ Ext m m' ∧ Still W W' ∧
      RowA 128 6 CanR m' (.slice A n c) n (srtC xs) R') := by
  by_cases h0 : n = 0
  · have hx : xs = [] := List.length_eq_zero_iff.1 (by rw [← row.len]; exact h0)
    subst hx
    refine (s_Sort1 A n c (by omega) W m hL.vw).mono ?_
    rintro e W1 ⟨v, m1, rfl, hE, hM, hV, -⟩
    exact ⟨v, m1, R, rfl, hL.call hE hM hV, hM, hE.still, RowA.le CanR.mono row hM.le⟩
  · obtain ⟨g, cap, cur, e, rfl, hc, hz⟩ := row.block (by omega)
    injection e with e1 e2 e3
    subst e1 e3
    have hP := hL.perm (List.Perm.swap _ _ _)
    refine (s_SortCan hP row (by omega) hn hs).mono ?_
    rintro e W1 ⟨m1, cur1, ⟨v, rfl⟩, hL1, hX1, hS1, row1⟩
    exact ⟨v, m1, _, rfl, hL1.perm (List.Perm.swap _ _ _), hX1, hS1, row1⟩

set_option maxRecDepth 100000 in
set_option maxHeartbeats 64000000 in
theorem u_Separate (mv vv : Value) (ms : Ms) (us : List Rat) (sz d most : Nat) (w m : World) (hV : Vw m w) (hm : MasterR m mv ms) (hvv : FracL m vv us) (ok : VOk ms us) (h5 : ms.rows.length ≤ 5) (h6 : ms.cols.length ≤ 6) (hs3 : 3 ≤ sz) (hs5 : sz ≤ 5) (hd2 : 2 ≤ d) (hdz : d < sz) (hmo : most ≤ 1000) :
    Calls Tryz.prog 39 #[mv, vv, .int .i64 sz, .int .i64 d, .int .i64 most] w (RetV w m fun m' r => ∃ v, r = .tuple #[v, .int .i64 0] ∧ CutL m' v (sepF ms us sz d most)) := by
  have HM := Lib.hid hm
  have HVV := Lib.hid hvv
  have OK := Lib.hid ok
  have SG := Lib.hid (sepG ok h5 h6)
  obtain ⟨A, nr, ca, B, nc, cb, C, nk, cc, rfl, hm1⟩ := hm.lit
  obtain ⟨V, cv, rfl, hcv, hvv1⟩ := hvv.lit
  obtain ⟨p1, p2, p3⟩ := hm1.parts
  have hnr := p1.n_is
  have hul : us.length = nc := ok.len.trans p2.n_is.symm
  have SO := Lib.hid (subs_ok (n := nr) (size := sz) (by omega) hs3 hs5)
  have HRO := Lib.hid p1
  have HCU := Lib.hid p3
  have KV : Hid (∀ w m', Vw m' w → Le m m' → Calls Tryz.prog 68 #[.agg #[.int .i64 ms.nf, .slice A nr ca, .int .i64 ms.pen, .slice B nc cb, .slice C nk cc]] w (RetV w m' fun _ r => r = .int .i64 0)) := by
    show ∀ w m', _
    exact fun w m' hV hle => m_ValidateMaster _ _ w m' hV (HM.out.le hle) ok.ms
  have KG : Hid (∀ w m', Vw m' w → Le m m' → Calls Tryz.prog 99 #[.agg #[.int .i64 ms.nf, .slice A nr ca, .int .i64 ms.pen, .slice B nc cb, .slice C nk cc], .slice V us.length cv] w (GrpPost w m' (grpF ms.rows ms.cols us))) := by
    show ∀ w m', _
    exact fun w m' hV hle => u_groups _ _ _ us w m' hV (HM.out.le hle) (FracL.le HVV.out hle) ok h5 h6
  have HGT : Hid (∀ x ∈ grpF ms.rows ms.cols us, Tw 108 x.2.1) := by
    show ∀ x ∈ _, _
    exact fun x hx => (grpT_tw ms.rows ok.tw _ x (List.mem_filter.1 hx |>.1)).mono (by omega)
  have HGL : Hid ((grpF ms.rows ms.cols us).length ≤ 6) := Nat.le_trans (grpF_len ms.rows ms.cols us) h6
  have HNR := Lib.hid hnr
  have hL := Loc.start hV
  have hz3 : (3 : Int) ≤ (sz : Int) := by omega
  have hz5 : (sz : Int) ≤ 5 := by omega
  have hz2 : (2 : Int) ≤ (d : Int) := by omega
  have hzd : (d : Int) < (sz : Int) := by omega
  have hz0 : (0 : Int) ≤ (most : Int) := by omega
  have hb1 : decide ((sz : Int) < 3) = false := decide_eq_false (by omega)
  have hb2 : decide ((5 : Int) < (sz : Int)) = false := decide_eq_false (by omega)
  have hb3 : decide ((d : Int) < 2) = false := decide_eq_false (by omega)
  have hb4 : decide ((sz : Int) ≤ (d : Int)) = false := decide_eq_false (by omega)
  have hb5 : decide ((most : Int) < 0) = false := decide_eq_false (by omega)
  have hnr5 : nr ≤ 5 := by omega
  rw [hul] at KG hcv ⊢
  clear hV ok hvv1 HM HVV hul p1 p2 p3 hm1 hnr h5 h6
  refine callsIn_wide.1 (callsIn_of_wp_marks (n := 0) (F := Fence.wide) Tryz.func39 rfl trivial ?_)
  refine wpIn_wide.2 ?_
  simp only [Tryz.ntmps39, List.size_toArray, List.length_cons, List.length_nil, Nat.reduceAdd, Nat.reduceSub, Array.replicate_succ, Array.replicate_zero, List.push_toArray, List.append_toArray, List.nil_append, List.cons_append]
  generalize ms.nf = nf at *
  generalize ms.pen = pen at *
  go_upto_region 0 with (fail)
  refine wp_region_lit ?_
  refine t_box hL rfl rfl ?_
  clear hL
  intro W5 m5 hL e5
  simp only [Act.put, zq1, zq2, zq3]
  refine wl_box1 hL (wanted_none rfl) (v := .int .i64 (sz : Int)) rfl rfl rfl ?_
  clear hL
  intro W7 m7 hL e7
  simp only [Act.put, zq1, zq2, zq3]
  refine wl_box1 hL (wanted_none rfl) (v := .int .i64 (d : Int)) rfl rfl rfl ?_
  clear hL
  intro W8 m8 hL e8
  simp only [Act.put, zq1, zq2, zq3]
  obtain ⟨m9, hL9, hle9, hsl9⟩ := Loc.show1 (A := [(_, _, _), (_, _, _)]) hL 5
  obtain ⟨m10, hL10, hle10, hsl10⟩ := Loc.show1 (A := [(_, _, _)]) hL9 1
  obtain ⟨m11, hL11, hle11, hsl11⟩ := Loc.show1 (A := []) hL10 1
  have hr5 := Sl.range ((hsl9.le hle10).le hle11)
  have hc5 := (((hsl9.le hle10).le hle11).cell (j := 1) rfl)
  have hc6 := (((hsl9.le hle10).le hle11).cell (j := 3) rfl)
  have hc9 := (((hsl9.le hle10).le hle11).cell (j := 4) rfl)
  have hc7 := ((hsl10.le hle11).cell (j := 0) rfl)
  have hc8 := (hsl11.cell (j := 0) rfl)
  clear hL hL9 hL10 hsl9 hsl10 hsl11 hle9 hle10 hle11 e5 e7 e8
  have hL := hL11
  clear hL11
  have hX11 := hL.mext
  generalize w.heap.size = b5 at *
  generalize W5.heap.size = b7 at *
  generalize W7.heap.size = b8 at *
  go_wp2_with (first | ((with_reducible refine kAny ?_); go_skip) | (with_reducible refine stA ?_) | ((first | refine tIx ?_ | refine tFd ?_ | refine tLd ?_ | ((first | refine tSr ?_ | refine tSt ?_); clear hL; intro _ hL; simp only [splice, zq1, zq2, zq3] at hL) | ((first | refine tBx ?_ | refine tAl ?_); clear hL; intro _ _ hL _) | (refine tBs ?_; clear hL; intro _ _ hL _ hBs)); simp only [Act.put, zq1, zq2, zq3]))
  refine (KV.out _ _ hL.vw leX).mono ?_
  rintro e Wc1 ⟨_, mc1, rfl, hE, hMc1, hV, rfl⟩
  replace hL := hL.call hE (by assumption) hV; clear hE hV
  go_wp2_with (first | ((with_reducible refine kAny ?_); go_skip) | (with_reducible refine stA ?_) | ((first | refine tIx ?_ | refine tFd ?_ | refine tLd ?_ | ((first | refine tSr ?_ | refine tSt ?_); clear hL; intro _ hL; simp only [splice, zq1, zq2, zq3] at hL) | ((first | refine tBx ?_ | refine tAl ?_); clear hL; intro _ _ hL _) | (refine tBs ?_; clear hL; intro _ _ hL _ hBs)); simp only [Act.put, zq1, zq2, zq3]))
  refine (KG.out _ _ hL.vw leX).mono ?_
  rintro e Wg ⟨vg, mg, Rg, ng, rfl, hLg, rowg⟩
  have hXg := hLg.mext
  have hJ := hL.join hLg
  rw [List.append_nil] at hJ
  obtain ⟨Ag, cg, rfl, rowg1⟩ := rowg.lit
  have hng : ng ≤ 6 := by have := rowg1.len; have := HGL.out; omega
  have HROW := Lib.hid rowg1
  clear hL hLg rowg rowg1
  have hL := hJ
  clear hJ KG KV
  go_wp2_with (first | ((with_reducible refine kAny ?_); go_skip) | (with_reducible refine stA ?_) | ((first | refine tIx ?_ | refine tFd ?_ | refine tLd ?_ | ((first | refine tSr ?_ | refine tSt ?_); clear hL; intro _ hL; simp only [splice, zq1, zq2, zq3] at hL) | ((first | refine tBx ?_ | refine tAl ?_); clear hL; intro _ _ hL _) | (refine tBs ?_; clear hL; intro _ _ hL _ hBs)); simp only [Act.put, zq1, zq2, zq3]))
  have hP := hL.perm (List.perm_append_singleton _ _).symm
  refine (u_scale (A := [_]) hP (RowA.le GrpR.mono HROW.out leX) (by omega) HGT.out).mono ?_
  rintro e Ws ⟨m12, Rs, rfl, hLs, hXs, rows⟩
  have hP2 := hLs.perm (List.perm_append_singleton _ _)
  obtain ⟨m13, hL13, hle13, hgl, -⟩ := RowA.show (A := [_]) GrpR.mono hP2 rows
  have HGLS := Lib.hid hgl
  clear hL hP hLs hP2 rows HROW HGT
  have hL := hL13
  have HLE13 : Hid (Le m11 m13) := (leX : Le m11 m12).trans hle13
  clear hL13 hle13 hXs hXg hgl
  replace hr5 := rangeAt_le hr5 HLE13.out
  replace hc5 := HLE13.out.cell _ _ hc5
  replace hc6 := HLE13.out.cell _ _ hc6
  replace hc9 := HLE13.out.cell _ _ hc9
  replace hc7 := HLE13.out.cell _ _ hc7
  replace hc8 := HLE13.out.cell _ _ hc8
  generalize hcm : cmF (grpF ms.rows ms.cols us) = cm at *
  generalize hls : (grpF ms.rows ms.cols us).map (scF cm) = ls at *
  clear hcm hls
  go_upto_region 10 with ((first | ((with_reducible refine kAny ?_); go_skip) | (with_reducible refine stA ?_) | ((first | refine tIx ?_ | refine tFd ?_ | refine tLd ?_ | ((first | refine tSr ?_ | refine tSt ?_); clear hL; intro _ hL; simp only [splice, zq1, zq2, zq3] at hL) | ((first | refine tBx ?_ | refine tAl ?_); clear hL; intro _ _ hL _) | (refine tBs ?_; clear hL; intro _ _ hL _ hBs)); simp only [Act.put, zq1, zq2, zq3])))
  obtain ⟨w16, rfl⟩ := hL.world
  obtain ⟨m14, hL14, hle14, hs14⟩ := Loc.show1 (A := [_, _]) hL 1
  obtain ⟨m15, hL15, hle15, hs15⟩ := Loc.show1 (A := [_]) hL14 1
  obtain ⟨m16, hL16, hle16, hs16⟩ := Loc.show1 (A := []) hL15 1
  have hc13 := ((hs14.le hle15).le hle16).cell (j := 0) rfl
  have hc14 := (hs15.le hle16).cell (j := 0) rfl
  have hc15 := hs16.cell (j := 0) rfl
  have HLE16 : Hid (Le m13 m16) := Le.trans leX (hle14.trans (hle15.trans hle16))
  clear hL hL14 hL15 hle14 hle15 hle16 hs14 hs15 hs16
  have hL := hL16
  clear hL16
  replace hr5 := rangeAt_le hr5 HLE16.out
  replace hc5 := HLE16.out.cell _ _ hc5
  replace hc6 := HLE16.out.cell _ _ hc6
  replace hc9 := HLE16.out.cell _ _ hc9
  replace hc7 := HLE16.out.cell _ _ hc7
  replace hc8 := HLE16.out.cell _ _ hc8
  have HGL16 := Lib.hid (ListV.le GrpR.mono HGLS.out HLE16.out)
  have HLE0 : Hid (Le m m16) := hL.mext.le
  go_wp2_with (first | ((with_reducible refine kAny ?_); go_skip) | (with_reducible refine stA ?_) | ((first | refine tIx ?_ | refine tFd ?_ | refine tLd ?_ | ((first | refine tSr ?_ | refine tSt ?_); clear hL; intro _ hL; simp only [splice, zq1, zq2, zq3] at hL) | ((first | refine tBx ?_ | refine tAl ?_); clear hL; intro _ _ hL _) | (refine tBs ?_; clear hL; intro _ _ hL _ hBs)); simp only [Act.put, zq1, zq2, zq3]))
  refine (u_subsets (nr : Int) (sz : Int) _ _ hL.vw).mono ?_
  rintro e W3 ⟨_, m3, rfl, hE, hM3, hV, bs, bn, rfl, hbs, hbn⟩
  replace hL := hL.call hE (by assumption) hV; clear hE hV
  go_wp2_with (first | ((with_reducible refine kAny ?_); go_skip) | (with_reducible refine stA ?_) | ((first | refine tIx ?_ | refine tFd ?_ | refine tLd ?_ | ((first | refine tSr ?_ | refine tSt ?_); clear hL; intro _ hL; simp only [splice, zq1, zq2, zq3] at hL) | ((first | refine tBx ?_ | refine tAl ?_); clear hL; intro _ _ hL _) | (refine tBs ?_; clear hL; intro _ _ hL _ hBs)); simp only [Act.put, zq1, zq2, zq3]))
  have hlow : w.heap.size ≤ W3.heap.size := hL.ext.size
  have HLE3 : Hid (Le m16 m3) := leX
  replace hc5 := HLE3.out.cell _ _ hc5
  replace hc9 := HLE3.out.cell _ _ hc9
  replace hc7 := HLE3.out.cell _ _ hc7
  replace hc8 := HLE3.out.cell _ _ hc8
  replace hc13 := HLE3.out.cell _ _ hc13
  replace hc14 := HLE3.out.cell _ _ hc14
  replace hc15 := HLE3.out.cell _ _ hc15
  have HRO3 := Lib.hid (IntL.le HRO.out (HLE0.out.trans HLE3.out))
  have HCU3 := Lib.hid (CutL.le HCU.out (HLE0.out.trans HLE3.out))
  have HGL3 := Lib.hid (ListV.le GrpR.mono HGL16.out HLE3.out)
  generalize w16.heap.size = b16 at *
  refine wp_rangeF (n := 0) (gf := 160) rfl (fun args w => enter_subs args w) rfl
    (fun k v W => ∃ s g, (subsF nr sz)[k]? = some s ∧ v = .slice (some ⟨g, 0, none⟩) sz sz ∧ SepE w m m3 g b16 s (fndT ms us sz d k) W)
    (fun k v W => ∃ s g, (subsF nr sz)[k]? = some s ∧ v = .slice (some ⟨g, 0, none⟩) sz sz ∧ SepE w m m3 g b16 s (fndT ms us sz d (k + 1)) W)
    (fun W => ∃ m', Loc w m W m' [(b16, 121, #[.slice none 0 0])] ∧ Ext m3 m')
    (SepO w m m3 b16 (fndF ms us sz d)) ?_ ?_ ?_ ?_ ?_ ?_ ?_
  · rintro k v W b o o' ⟨s, g, hk, hv, h⟩ hb ho hn
    exact ⟨s, g, hk, hv, h.putObj o' ho (Nat.le_trans hlow hb) hn⟩
  · rintro k v W b o o' ⟨s, g, hk, hv, h⟩ hb ho hn
    exact ⟨s, g, hk, hv, h.putObj o' ho (Nat.le_trans hlow hb) hn⟩
  · exact fun W b o o' h hb ho hn => h.putObj o' ho (Nat.le_trans hlow hb) hn
  · intro o o'
    obtain ⟨m1, h1, e1⟩ := hL.allocO o
    obtain ⟨m2, h2, e2⟩ := h1.allocO o'
    exact ⟨m2, h2, e1.trans e2⟩
  · intro l R hR hy W1 hS1 hR1
    obtain ⟨m1, hL1, hX1⟩ := hS1
    have ez : (#[Value.func (.yield l) #[] #[]] ++ #[Value.pointer (some ⟨bs, 0, none⟩), .pointer (some ⟨bn, 0, none⟩)] : Array Value) = #[.func (.yield l) #[] #[], .pointer (some ⟨bs, 0, none⟩), .pointer (some ⟨bn, 0, none⟩)] := rfl
    rw [ez]
    refine (it_subsets (nr := 0) (l := l) (n := nr) (size := sz) (bs := bs) (bn := bn) SO.out hnr5 hs3 hs5 (fun k m' Ls => ∃ fd Rf n, Ls = (b16, 121, #[fd]) :: Rf ∧ Ext m3 m' ∧ RowA 128 6 CanR m' fd n (fndT ms us sz d k) Rf ∧ (n = 0 → fd = .slice none 0 0)) R ?_ hR ?_ ?_ hL1 ⟨_, [], 0, rfl, hX1, RowA.nil, fun _ => rfl⟩ hR1).mono ?_
    · rintro k m' m'' Ls ⟨fd, Rf, n, rfl, hX, row, h0⟩ hX'
      exact ⟨fd, Rf, n, rfl, hX.trans hX', RowA.le CanR.mono row hX'.le, h0⟩
    · rintro k m' Ls ⟨fd, Rf, n, -, hX, -, -⟩
      exact ⟨hX.le.cell _ _ hbs, hX.le.cell _ _ hbn⟩
    · rintro k s g W m' Ls hk hL' ⟨fd, Rf, n, rfl, hX, row, h0⟩ hRW
      obtain ⟨fn, tmps, assign, body, hyl, hrd⟩ := hy k (.slice (some ⟨g, 0, none⟩) sz sz) W ⟨s, g, hk, rfl, m', fd, Rf, n, hL', hX, row, h0⟩ hRW
      refine ⟨fn, tmps, assign, body, hyl, hrd.mono ?_⟩
      rintro e W' ⟨rfl, ⟨s', g', hk', hv, m2, fd2, Rf2, n2, hL2, hX2, row2, h02⟩, hRW'⟩
      rw [hk] at hk'
      injection hk' with hk'
      subst hk'
      injection hv with hv
      injection hv with hv
      injection hv with hv
      subst hv
      exact ⟨rfl, m2, _, hL2, ⟨fd2, Rf2, n2, rfl, hX2, row2, h02⟩, hRW'⟩
    · rintro e W' ⟨hv, m', Ls', hL', ⟨fd, Rf, n, rfl, hX, row, h0⟩, hR'⟩
      refine ⟨hv, ⟨m', fd, Rf, n, hL', hX, ?_, h0⟩, hR'⟩
      rw [HNR.out] at row
      exact row
  · intro l k v W
    simp only [zq1, zq2, zq3]
    refine wpIn_lit (fun _ _ h => h) rfl ?_
    go_wp2_with (first | ((with_reducible refine kAny ?_); go_skip) | (with_reducible refine stA ?_) | ((first | refine tIx ?_ | refine tFd ?_ | refine tLd ?_ | ((first | refine tSr ?_ | refine tSt ?_); clear hL; intro _ hL; simp only [splice, zq1, zq2, zq3] at hL) | ((first | refine tBx ?_ | refine tAl ?_); clear hL; intro _ _ hL _) | (refine tBs ?_; clear hL; intro _ _ hL _ hBs)); simp only [Act.put, zq1, zq2, zq3]))
    refine And.intro (by trivial) ?_
    rintro W2 ⟨s, g, hk, rfl, mm, fd, Rf, n', hL2, hX2, row2, h02⟩
    have hsm := List.mem_of_getElem? hk
    have hn' : n' ≤ 1000 := by
      have h1 := row2.len
      have h2 := fndT_len ms us sz d k
      have h3 := SO.out.few
      have h4 := (List.getElem?_eq_some_iff.1 hk).1
      omega
    have hlt : ∀ i ∈ s, i < nr := SO.out.lt s hsm
    refine wpIn_mono (sep_round (n := 0) (ms := ms) (us := us) rfl hL2 row2 h02 hn' (hX2.le.cell _ _ hc5) (hX2.le.cell _ _ hc9) (hX2.le.cell _ _ hc7) (hX2.le.cell _ _ hc8) (hX2.le.cell _ _ hc13) (hX2.le.cell _ _ hc14) (hX2.le.cell _ _ hc15)
      (IntL.le HRO3.out hX2.le) (CutL.le HCU3.out hX2.le) (ListV.le GrpR.mono HGL3.out hX2.le) SG.out OK.out (SO.out.len s hsm) hlt HNR.out hnr5 hs3 hs5 hd2 hdz (cutS_ok OK.out.ms (SO.out.len s hsm) (SO.out.asc s hsm) (fun i hi => by have := hlt i hi; have := HNR.out; omega) hd2 hdz hs5)) ?_
    rintro e a W' h
    cases e with
    | normal =>
      obtain ⟨hs, m', fd', Rf', n2, h1, h2, h3, h4⟩ := h
      refine And.intro hs ⟨s, g, hk, rfl, m', fd', Rf', n2, h1, hX2.trans h2, ?_, h4⟩
      rw [HNR.out] at hk
      rw [fndT_step hk]
      exact h3
    | ret => exact h.elim
    | exit id => exact h.elim
    | goto t => exact h.elim
    | panic ch => exact h.elim
    | outgrown => exact h.elim
  · intro D W hD hE hK
    obtain ⟨m', fd, Rf, n', hL', hX', row, h0⟩ := hE
    have hn1 : n' ≤ 10 := by
      have h1 := row.len
      have h2 := fndT_len ms us sz d (subsF ms.rows.length sz).length
      have h3 := SO.out.few
      rw [HNR.out] at h3
      have h4 : (fndF ms us sz d).length = (fndT ms us sz d (subsF ms.rows.length sz).length).length := rfl
      omega
    obtain ⟨k, hk0, hkn⟩ : ∃ k : Nat, k = min most n' ∧ k ≤ n' := ⟨_, rfl, Nat.min_le_right _ _⟩
    have HSF : Hid (sepF ms us sz d most = ((srtC (fndF ms us sz d)).map Prod.fst).take k) := by
      show _ = _
      unfold sepF
      have h1 := row.len
      have h2 := srtC_len (fndF ms us sz d)
      rcases Nat.le_total most n' with h | h
      · rw [hk0, Nat.min_eq_left h]
      · rw [hk0, Nat.min_eq_right h, List.take_of_length_le (by rw [List.length_map]; omega), List.take_of_length_le (by rw [List.length_map]; omega)]
    have HSM : Hid (∀ x ∈ fndF ms us sz d, Sm x.2.num x.2.den) := by
      show ∀ x ∈ _, _
      intro x hx
      obtain ⟨s, hs, rfl⟩ := fndT_mem hx
      rw [← HNR.out] at hs
      exact (OK.out.vio (cutS_ok OK.out.ms (SO.out.len s hs) (SO.out.asc s hs) (fun i hi => by have := SO.out.lt s hs i hi; have := HNR.out; omega) hd2 hdz hs5)).sm (by decide)
    generalize fndF ms us sz d = fs at *
    obtain ⟨A11, c11, rfl, row1⟩ := row.lit
    have ROW := Lib.hid row1
    clear hL row row1
    have hL := hL'
    clear hL'
    have hnn : ∀ cs t fr, Obj.deferred (some []) ≠ .cells cs t fr := fun _ _ _ e => by cases e
    dsimp only
    go_wp2_with (first | ((with_reducible refine kAny ?_); go_skip) | (with_reducible refine stA ?_) | ((first | refine tIx ?_ | refine tFd ?_ | refine tLd ?_ | ((first | refine tSr ?_ | refine tSt ?_); clear hL; intro _ hL; simp only [splice, zq1, zq2, zq3] at hL) | ((first | refine tBx ?_ | refine tAl ?_); clear hL; intro _ _ hL _) | (refine tBs ?_; clear hL; intro _ _ hL _ hBs)); simp only [Act.put, zq1, zq2, zq3]))
    refine (s_SortAny hL ROW.out hn1 HSM.out).mono ?_
    rintro e W4 ⟨_, m4, Rf4, rfl, hL4, hX4, hS4, row4⟩
    have HK4 := Lib.hid (hS4 _ _ hK hnn)
    clear hL ROW
    have hL := hL4
    clear hL4 hS4
    generalize srtC fs = gs at *
    have HFN : Hid (gs.length = n') := row4.len.symm
    obtain ⟨m9, hL9, hle9, hl9, -⟩ := RowA.show (A := [_]) CanR.mono hL row4
    have HL9 := Lib.hid hl9
    have hcap : (n' : Int) ≤ (c11 : Int) := by
      obtain ⟨_, _, _, e, hc, _⟩ := hl9
      injection e with e1 e2 e3
      subst e2 e3
      omega
    have hmin : min (most : Int) (n' : Int) = (k : Int) := by omega
    have hcap2 : (k : Int) ≤ (c11 : Int) := by omega
    have hn0 : (0 : Int) ≤ (k : Int) := by omega
    clear hL hle9 hl9 row4 hK hX4 h0 hcap
    have hL := hL9
    clear hL9
    go_wp2_with (first | ((with_reducible refine kAny ?_); go_skip) | (with_reducible refine stA ?_) | ((first | refine tIx ?_ | refine tFd ?_ | refine tLd ?_ | ((first | refine tSr ?_ | refine tSt ?_); clear hL; intro _ hL; simp only [splice, zq1, zq2, zq3] at hL) | ((first | refine tBx ?_ | refine tAl ?_); clear hL; intro _ _ hL _) | (refine tBs ?_; clear hL; intro _ _ hL _ hBs)); simp only [Act.put, zq1, zq2, zq3]))
    have HLK := Lib.hid hL
    replace hL := Loc.start hL.vw
    go_loopw [25, 132] (fun ov iv wr => ∃ (j : Nat) (mm : World) (Ro : List Lo), j ≤ k ∧ iv = .int .i64 j ∧ Loc W4 m9 wr mm Ro ∧ Hid (RowA 34 2 CutR mm ov j ((gs.map Prod.fst).take j) Ro)) (fun _ iv _ => k - (intOf iv).toNat)
    case atStart => exact ⟨0, _, [], Nat.zero_le _, rfl, hL, RowA.nil⟩
    case round =>
      clear hL
      obtain ⟨j, mm, Ro, hj, rfl, hL, RO⟩ := hrel
      have hM := hL.mext
      obtain ⟨A12, c12, rfl, ro1⟩ := RO.out.lit
      have RO1 := Lib.hid ro1
      clear RO ro1
      by_cases hlt : j < k
      · have hlt' : (j : Int) < (k : Int) := by omega
        obtain ⟨x, hx⟩ := at_some HFN (by omega : j < n')
        have hl9 := HL9.out
        obtain ⟨b0, o0, R0, a0, e0, d0, g0, A0, k9, q0, f0, B0, p0, s0, rfl, hcu0, hr0⟩ := CanL.at_ hl9 hx
        have HCU0 := Lib.hid hcu0
        have HT : Hid ((gs.map Prod.fst).take j ++ [x.1] = (gs.map Prod.fst).take (j + 1)) := by
          show _ = _
          exact take_snoc (by rw [List.getElem?_map, hx]; rfl)
        clear hx hl9 hcu0
        go_wp2_with (first | ((with_reducible refine kAny ?_); go_skip) | (with_reducible refine stA ?_) | ((first | refine tIx ?_ | refine tFd ?_ | refine tLd ?_ | ((first | refine tSr ?_ | refine tSt ?_); clear hL; intro _ hL; simp only [splice, zq1, zq2, zq3] at hL) | ((first | refine tBx ?_ | refine tAl ?_); clear hL; intro _ _ hL _) | (refine tBs ?_; clear hL; intro _ _ hL _ hBs)); simp only [Act.put, zq1, zq2, zq3]))
        refine goA ?_
        obtain ⟨vs7, r7, z7, y7, l7⟩ := RO1.out
        refine wl_append (A := [_]) hL r7 (wanted_none rfl) rfl ap_Cuts (by omega) rfl rfl (news := [.slice R0 a0 e0, .int .i64 d0]) rfl ((Blk.sl hBs (n := 2) rfl).le hL.vw.le) rfl (by omega) (by omega) ?_
        clear hL
        intro v1 W5 m5 R5 hL r8 e8
        obtain ⟨A13, c13, rfl, -⟩ := r8.lit
        simp only [List.cons_append, List.nil_append] at hL
        have rd := RowA.snoc (R := CutR) (m := m5) (x := x.1) r8 z7 (y7.mono fun v x hv => hv.le leX) l7 rfl (HCU0.out.le leX)
        rw [HT.out] at rd
        have RD := Lib.hid rd
        clear rd r8 r7 z7 y7 l7
        simp only [Act.put, zq1, zq2, zq3]
        go_wp2_with (first | ((with_reducible refine kAny ?_); go_skip) | (with_reducible refine stA ?_) | ((first | refine tIx ?_ | refine tFd ?_ | refine tLd ?_ | ((first | refine tSr ?_ | refine tSt ?_); clear hL; intro _ hL; simp only [splice, zq1, zq2, zq3] at hL) | ((first | refine tBx ?_ | refine tAl ?_); clear hL; intro _ _ hL _) | (refine tBs ?_; clear hL; intro _ _ hL _ hBs)); simp only [Act.put, zq1, zq2, zq3]))
        go_roundw
        case rel => exact ⟨j + 1, m5, R5, by omega, by go_num, hL.tail, RD.out⟩
        case measure => simp [intOf] <;> omega
      · have hjn : k = j := by omega
        subst hjn
        have h9 : (k : Int) ≤ (k : Int) := Int.le_refl _
        obtain ⟨m8, hL8, hle8, hl8, -⟩ := RowA.show (A := []) (R := CutR) (fun m m' v x h hb => CutR.le h hb) hL RO1.out
        have HL8 := Lib.hid hl8
        clear hL RO1 hle8 hl8
        have hL := hL8
        clear hL8
        go_wp2_with (first | ((with_reducible refine kAny ?_); go_skip) | (with_reducible refine stA ?_) | ((first | refine tIx ?_ | refine tFd ?_ | refine tLd ?_ | ((first | refine tSr ?_ | refine tSt ?_); clear hL; intro _ hL; simp only [splice, zq1, zq2, zq3] at hL) | ((first | refine tBx ?_ | refine tAl ?_); clear hL; intro _ _ hL _) | (refine tBs ?_; clear hL; intro _ _ hL _ hBs)); simp only [Act.put, zq1, zq2, zq3]))
        have hKf := hL.ext.still _ _ HK4.out hnn
        obtain ⟨m7, hL7, hX7⟩ := (HLK.out.join hL).putObj (.deferred none) hKf (Nat.le_trans hlow hD) (fun cs t fr e => by rw [hKf] at e; cases e)
        refine And.intro (by simp) (Or.inl ⟨_, _, rfl, run_takeDeferred hKf, ?_⟩)
        exact ⟨_, results_tmp2 rfl _ _ _, RetV.mk hL7 ⟨_, rfl, by rw [HSF.out]; exact CutL.le HL8.out leX⟩⟩
end Go.Proofs.YtmhkmmmompediaaGreat

/- The walk through the law CutsPrefix. -/
namespace Go.Proofs.YtmhkmmmompediaaGreat
open Go.RowKit

theorem sl_cut {m : World} {A : Option Addr} {vs : List Value} (h : Sl m A vs) (k : Nat) : Sl m A (vs.take k) := by
  intro h0
  obtain ⟨b, off, e, hb, hc⟩ := h (by rw [List.length_take] at h0; omega)
  refine ⟨b, off, e, hb, fun j v hj => hc j v ?_⟩
  rw [List.getElem?_take] at hj
  by_cases hlt : j < k
  · rwa [if_pos hlt] at hj
  · rw [if_neg hlt] at hj; cases hj
theorem ListV.take {α : Type} {size : Nat} {R : World → Value → α → Prop} {m : World} {A : Option Addr} {n c k : Nat} {xs : List α} (h : ListV size R m (.slice A n c) xs) (hk : k ≤ n) : ListV size R m (.slice A k c) (xs.take k) := by
  obtain ⟨A', c', vs, e, hc, h1, h2, h3⟩ := h
  injection e with e1 e2 e3
  subst e1 e3
  have hl : (xs.take k).length = k := by rw [List.length_take]; omega
  have hz : Value.slice A k c = .slice A (xs.take k).length c := by rw [hl]
  rw [hz]
  refine ⟨A, c, vs.take k, rfl, by omega, fun u hu => h1 u (List.mem_of_mem_take hu), ?_, h3.takes k⟩
  have h9 := cellsOf_length (size := size) (vs := vs.take k) fun u hu => h1 u (List.mem_of_mem_take hu)
  have h8 : (cellsOf vs).take ((vs.take k).length * size) = cellsOf (vs.take k) := by
    have e : cellsOf vs = cellsOf (vs.take k) ++ cellsOf (vs.drop k) := by rw [← cellsOf_append, List.take_append_drop]
    rw [e]
    exact List.take_left' h9
  rw [← h8]
  exact sl_cut h2 _

set_option maxRecDepth 100000 in
set_option maxHeartbeats 32000000 in
theorem law_CutsPrefix (Al Aa : Option Addr) (cl ca : Nat) (l a : List Int) (n : Int) (w m : World) (hV : Vw m w) (hl : Sl m Al (l.map I64)) (ha : Sl m Aa (a.map I64)) (n1 : -9223372036854775808 ≤ n) (n2 : n ≤ 9223372036854775807) :
    Calls Tryz.prog 10 #[.slice Al l.length cl, .slice Aa a.length ca, .int .i64 n] w (RetV w m fun _ r => r = .bool true) := by
  have KM : Hid (∀ w m', Vw m' w → Le m m' → Calls Tryz.prog 15 #[.slice Al l.length cl] w (RetV w m' fun m'' r => MasterR m'' r (masF l))) := by
    show ∀ w m', _
    exact fun w m' hV hle => d_Master Al cl l w m' hV (hl.le hle) trivial
  have KA : Hid (∀ (z : Int) (k : Nat) w m', Vw m' w → Le m m' → z = k → k ≤ 1000 → Calls Tryz.prog 36 #[.slice Aa a.length ca, .int .i64 z] w (RetV w m' fun m'' r => FracL m'' r (valsF a k))) := by
    show ∀ z k w m', _
    exact fun z k w m' hV hle hz hk => d_Values Aa ca a k z w m' hV (ha.le hle) hz hk
  have OK : Hid (MsOk (masF l)) := masF_ok l
  have HFEW : Hid ((masF l).cols.length ≤ 6) := masF_cols6 l
  have HR5 : Hid ((masF l).rows.length ≤ 5) := (rowsF_ok l).l5
  have e1 := i64_and3 n
  obtain ⟨k, hk⟩ : ∃ k : Nat, n % 8 = (k : Int) := ⟨(n % 8).toNat, by omega⟩
  have hk8 : k < 8 := by omega
  rw [hk] at e1
  have hL := Loc.start hV
  clear hV hl ha n1 n2 hk
  generalize l.length = N1 at *
  generalize a.length = N2 at *
  generalize masF l = x at *
  go_enter Tryz.func10, Tryz.ntmps10
  go_wp2_with (first | ((with_reducible refine kAny ?_); go_skip) | (with_reducible refine stA ?_) | ((first | refine tFd ?_ | refine tLd ?_ | ((first | refine tSr ?_ | refine tSt ?_); clear hL; intro _ hL; simp only [splice, zq1, zq2, zq3] at hL) | (refine tAl ?_; clear hL; intro _ _ hL _)); simp only [Act.put, zq1, zq2, zq3]))
  refine (KM.out _ _ hL.vw leX).mono ?_
  rintro e Wc1 ⟨vc1, mc1, rfl, hE, hMc1, hV, hc1⟩
  replace hL := hL.call hE (by assumption) hV; clear hE hV
  obtain ⟨M1, nr, d1, M2, nc, d2, M3, nk, d3, rfl, hx1⟩ := hc1.lit
  have hnc := master_nc hx1
  have HM := Lib.hid hx1
  have hn6 : nc ≤ 6 := by have := HFEW.out; omega
  have HNC := Lib.hid hnc
  clear hx1 KM hnc
  generalize x.nf = nf at *
  generalize x.pen = pen at *
  go_wp2_with (first | ((with_reducible refine kAny ?_); go_skip) | (with_reducible refine stA ?_) | ((first | refine tFd ?_ | refine tLd ?_ | ((first | refine tSr ?_ | refine tSt ?_); clear hL; intro _ hL; simp only [splice, zq1, zq2, zq3] at hL) | (refine tAl ?_; clear hL; intro _ _ hL _)); simp only [Act.put, zq1, zq2, zq3]))
  refine (KA.out (nc : Int) nc _ _ hL.vw leX rfl (by omega)).mono ?_
  rintro e Wc2 ⟨vc2, mc2, rfl, hE, hMc2, hV, hc2⟩
  replace hL := hL.call hE (by assumption) hV; clear hE hV
  have VK : Hid (VOk x (valsF a nc)) := ⟨OK.out, by rw [valsF_len, HNC.out], valsF_tw a nc, by rw [← HNC.out]; omega⟩
  obtain ⟨V, cv, rfl, hcv, hc2⟩ := hc2.lit
  have HV := Lib.hid hc2
  clear hc2 hcv KA hn6
  generalize valsF a nc = us at *
  generalize us.length = nu at *
  have KS : Hid (∀ (k : Nat) u m', k ≤ 1000 → Vw m' u → Le mc2 m' → Calls Tryz.prog 39 #[.agg #[.int .i64 nf, .slice M1 nr d1, .int .i64 pen, .slice M2 nc d2, .slice M3 nk d3], .slice V nu cv, .int .i64 3, .int .i64 2, .int .i64 (k : Int)] u (RetV u m' fun m'' r => ∃ v, r = .tuple #[v, .int .i64 0] ∧ CutL m'' v (sepF x us 3 2 k))) := by
    show ∀ k u m', _
    exact fun k u m' hk hV hle => u_Separate _ _ x us 3 2 k u m' hV (HM.out.le (Le.trans leX hle)) (FracL.le HV.out hle) VK.out HR5.out HFEW.out (by decide) (by decide) (by decide) (by decide) hk
  obtain ⟨L, hLL⟩ : ∃ L, L = (srtC (fndF x us 3 2)).map Prod.fst := ⟨_, rfl⟩
  have hll : L.length ≤ 10 := by
    rw [hLL, List.length_map, srtC_len]
    have h1 := fndT_len x us 3 2 (subsF x.rows.length 3).length
    have h2 := (subs_ok (n := x.rows.length) (size := 3) HR5.out (by decide) (by decide)).few
    show (fndT x us 3 2 _).length ≤ 10
    omega
  have HS1 : Hid (sepF x us 3 2 100 = L) := by
    show _ = _
    rw [hLL] at hll ⊢
    unfold sepF
    exact List.take_of_length_le (by omega)
  obtain ⟨N, hN⟩ : ∃ N, N = L.length := ⟨_, rfl⟩
  obtain ⟨q, hq⟩ : ∃ q, q = min k N := ⟨_, rfl⟩
  have HS2 : Hid (sepF x us 3 2 k = L.take q) := by
    show _ = _
    rw [hq, hN, ← List.take_take, List.take_length, hLL]; rfl
  have HQL : Hid ((L.take q).length = q) := by show _ = _; rw [List.length_take, ← hN]; omega
  have hmin : min (k : Int) (N : Int) = (q : Int) := by omega
  have hqN : q ≤ N := by omega
  have HN := Lib.hid hN
  have hN10 : N ≤ 10 := by omega
  clear hLL hq hN hll
  go_wp2_with (first | ((with_reducible refine kAny ?_); go_skip) | (with_reducible refine stA ?_) | ((first | refine tFd ?_ | refine tLd ?_ | ((first | refine tSr ?_ | refine tSt ?_); clear hL; intro _ hL; simp only [splice, zq1, zq2, zq3] at hL) | (refine tAl ?_; clear hL; intro _ _ hL _)); simp only [Act.put, zq1, zq2, zq3]))
  refine (KS.out 100 _ _ (by decide) hL.vw leX).mono ?_
  rintro e Wc3 ⟨_, mc3, rfl, hE, hMc3, hV, v3, rfl, hv3⟩
  replace hL := hL.call hE (by assumption) hV; clear hE hV
  rw [HS1.out] at hv3
  obtain ⟨PX, cx, rfl, hcx, hv3⟩ := hv3.lit
  rw [← HN.out] at hcx hv3 ⊢
  have HX := Lib.hid hv3
  have hcx2 : (q : Int) ≤ (cx : Int) := by omega
  clear hv3 hcx
  go_wp2_with (first | ((with_reducible refine kAny ?_); go_skip) | (with_reducible refine stA ?_) | ((first | refine tFd ?_ | refine tLd ?_ | ((first | refine tSr ?_ | refine tSt ?_); clear hL; intro _ hL; simp only [splice, zq1, zq2, zq3] at hL) | (refine tAl ?_; clear hL; intro _ _ hL _)); simp only [Act.put, zq1, zq2, zq3]))
  refine (KS.out k _ _ (by omega) hL.vw leX).mono ?_
  rintro e Wc4 ⟨_, mc4, rfl, hE, hMc4, hV, v4, rfl, hv4⟩
  replace hL := hL.call hE (by assumption) hV; clear hE hV
  rw [HS2.out] at hv4
  obtain ⟨PY, cy, rfl, -, hv4⟩ := hv4.lit
  rw [HQL.out] at hv4 ⊢
  have HY := Lib.hid hv4
  have hq0 : (0 : Int) ≤ (q : Int) := by omega
  clear hv4 KS
  go_wp2_with (first | ((with_reducible refine kAny ?_); go_skip) | (with_reducible refine stA ?_) | ((first | refine tFd ?_ | refine tLd ?_ | ((first | refine tSr ?_ | refine tSt ?_); clear hL; intro _ hL; simp only [splice, zq1, zq2, zq3] at hL) | (refine tAl ?_; clear hL; intro _ _ hL _)); simp only [Act.put, zq1, zq2, zq3]))
  refine (r_SameCuts _ _ (L.take q) _ _ hL.vw (CutL.le HY.out leX) (CutL.le (HX.out.take hqN) leX) (by rw [HQL.out]; omega)).mono ?_
  rintro e Wc5 ⟨_, mc5, rfl, hE, hMc5, hV, rfl⟩
  replace hL := hL.call hE (by assumption) hV; clear hE hV
  go_wp2_with (first | ((with_reducible refine kAny ?_); go_skip) | (with_reducible refine stA ?_) | ((first | refine tFd ?_ | refine tLd ?_ | ((first | refine tSr ?_ | refine tSt ?_); clear hL; intro _ hL; simp only [splice, zq1, zq2, zq3] at hL) | (refine tAl ?_; clear hL; intro _ _ hL _)); simp only [Act.put, zq1, zq2, zq3]))
  refine (kc_known _ _ hL.vw).mono ?_
  rintro e Wc6 ⟨_, mc6, rfl, hE, hMc6, hV, rfl⟩
  replace hL := hL.call hE (by assumption) hV; clear hE hV
  go_wp2_with (first | ((with_reducible refine kAny ?_); go_skip) | (with_reducible refine stA ?_) | ((first | refine tFd ?_ | refine tLd ?_ | ((first | refine tSr ?_ | refine tSt ?_); clear hL; intro _ hL; simp only [splice, zq1, zq2, zq3] at hL) | (refine tAl ?_; clear hL; intro _ _ hL _)); simp only [Act.put, zq1, zq2, zq3]))
  go_ret
  exact RetV.mk hL rfl
end Go.Proofs.YtmhkmmmompediaaGreat
