/- The runner of closed calls, part 3 of 3: the tables of types and functions that the check known reaches. -/
import Derived.Test.YtabmjadcoepbeaaGreatProg
import Derived.Test.YtabmjadcoepbeaaGreatEVG2
set_option linter.unusedVariables false
set_option linter.unusedSimpArgs false
namespace Go.Proofs.YtabmjadcoepbeaaGreat.Ev

noncomputable def tiL : List (Nat × TI) := [(2, ⟨1, false, .int .i64, [.int .i64 0]⟩), (3, ⟨1, false, .int .i64, [.int .i64 0]⟩), (4, ⟨1, false, .bool, [.bool false]⟩), (5, ⟨1, false, .int .u8, [.int .u8 0]⟩), (9, ⟨1, false, .str, [.str []]⟩), (22, ⟨1, false, .slice 3 1 8, [.nils]⟩), (23, ⟨1, false, .slice 66 3 48, [.nils]⟩), (24, ⟨1, false, .slice 69 2 32, [.nils]⟩), (26, ⟨5, true, .struct [(0, 1, false), (1, 1, false), (2, 1, false), (3, 1, false), (4, 1, false)], [.int .i64 0, .nils, .int .i64 0, .nils, .nils]⟩), (28, ⟨1, false, .slice 55 4 64, [.nils]⟩), (29, ⟨1, false, .slice 73 1 24, [.nils]⟩), (31, ⟨3, true, .struct [(0, 1, false), (1, 1, false), (2, 1, false)], [.nils, .nils, .nils]⟩), (32, ⟨1, false, .int .i64, [.int .i64 0]⟩), (49, ⟨1, false, .int .u64, [.int .u64 0]⟩), (51, ⟨1, false, .slice 121 1 4, [.nils]⟩), (53, ⟨2, true, .struct [(0, 1, false), (1, 1, false)], [.bool false, .nils]⟩), (55, ⟨4, true, .struct [(0, 2, true), (2, 2, true)], [.bool false, .nils, .bool false, .nils]⟩), (64, ⟨2, true, .struct [(0, 1, false), (1, 1, false)], [.str [], .nils]⟩), (66, ⟨3, true, .struct [(0, 2, true), (2, 1, false)], [.str [], .nils, .int .i64 0]⟩), (69, ⟨2, true, .struct [(0, 1, false), (1, 1, false)], [.nils, .int .i64 0]⟩), (71, ⟨5, true, .struct [(0, 1, false), (1, 4, true)], [.int .i64 0, .bool false, .nils, .bool false, .nils]⟩), (73, ⟨1, false, .slice 71 5 72, [.nils]⟩), (79, ⟨1, false, .slice 159 3 48, [.nils]⟩), (80, ⟨1, false, .slice 163 2 32, [.nils]⟩), (81, ⟨1, false, .slice 137 9 104, [.nils]⟩), (83, ⟨3, true, .struct [(0, 1, false), (1, 1, false), (2, 1, false)], [.nils, .nils, .nils]⟩), (84, ⟨1, false, .slice 280 5 72, [.nils]⟩), (85, ⟨1, false, .slice 228 6 80, [.nils]⟩), (86, ⟨1, false, .slice 235 5 64, [.nils]⟩), (87, ⟨1, false, .slice 226 4 56, [.nils]⟩), (88, ⟨1, false, .slice 283 4 48, [.nils]⟩), (89, ⟨1, false, .slice 285 3 32, [.nils]⟩), (91, ⟨14, true, .struct [(0, 1, false), (1, 1, false), (2, 1, false), (3, 1, false), (4, 1, false), (5, 1, false), (6, 1, false), (7, 1, false), (8, 1, false), (9, 1, false), (10, 1, false), (11, 1, false), (12, 1, false), (13, 1, false)], [.int .i64 0, .int .i64 0, .int .i64 0, .int .i64 0, .int .i64 0, .int .i64 0, .int .i64 0, .nils, .nils, .nils, .nils, .nils, .nils, .int .i64 0]⟩), (92, ⟨1, false, .slice 9 1 16, [.nils]⟩), (94, ⟨21, true, .struct [(0, 3, true), (3, 14, true), (17, 1, false), (18, 1, false), (19, 1, false), (20, 1, false)], [.nils, .nils, .nils, .int .i64 0, .int .i64 0, .int .i64 0, .int .i64 0, .int .i64 0, .int .i64 0, .int .i64 0, .nils, .nils, .nils, .nils, .nils, .nils, .int .i64 0, .nils, .nils, .int .i64 0, .int .i64 0]⟩), (96, ⟨1, false, .slice 64 2 40, [.nils]⟩), (98, ⟨3, true, .struct [(0, 1, false), (1, 1, false), (2, 1, false)], [.nils, .nils, .int .i64 0]⟩), (109, ⟨1, false, .map .int 3 4, [.nilm]⟩), (121, ⟨1, false, .int .u32, [.int .u32 0]⟩), (135, ⟨3, true, .arr 3 3 1, [.int .i64 0, .int .i64 0, .int .i64 0]⟩), (137, ⟨9, true, .struct [(0, 1, false), (1, 1, false), (2, 1, false), (3, 1, false), (4, 1, false), (5, 1, false), (6, 3, true)], [.str [], .str [], .str [], .int .i64 0, .int .i64 0, .str [], .int .i64 0, .int .i64 0, .int .i64 0]⟩), (155, ⟨1, false, .int .u64, [.int .u64 0]⟩), (157, ⟨1, false, .slice 161 2 16, [.nils]⟩), (159, ⟨3, true, .struct [(0, 1, false), (1, 1, false), (2, 1, false)], [.str [], .int .i64 0, .nils]⟩), (161, ⟨2, true, .struct [(0, 1, false), (1, 1, false)], [.int .i64 0, .int .i64 0]⟩), (163, ⟨2, true, .struct [(0, 1, false), (1, 1, false)], [.str [], .str []]⟩), (164, ⟨1, false, .slice 92 1 24, [.nils]⟩), (174, ⟨22, true, .struct [(0, 1, false), (1, 21, true)], [.nilp, .nils, .nils, .nils, .int .i64 0, .int .i64 0, .int .i64 0, .int .i64 0, .int .i64 0, .int .i64 0, .int .i64 0, .nils, .nils, .nils, .nils, .nils, .nils, .int .i64 0, .nils, .nils, .int .i64 0, .int .i64 0]⟩), (195, ⟨1, false, .int .i64, [.int .i64 0]⟩), (207, ⟨7, true, .arr 7 4 1, [.bool false, .bool false, .bool false, .bool false, .bool false, .bool false, .bool false]⟩), (208, ⟨1, false, .slice 268 4 40, [.nils]⟩), (216, ⟨1, false, .map .str 9 159, [.nilm]⟩), (217, ⟨1, false, .slice 233 4 56, [.nils]⟩), (218, ⟨4, true, .arr 4 217 1, [.nils, .nils, .nils, .nils]⟩), (219, ⟨1, false, .slice 230 3 40, [.nils]⟩), (220, ⟨4, true, .arr 4 219 1, [.nils, .nils, .nils, .nils]⟩), (222, ⟨28, true, .struct [(0, 3, true), (3, 14, true), (17, 1, false), (18, 4, true), (22, 4, true), (26, 1, false), (27, 1, false)], [.nils, .nils, .nils, .int .i64 0, .int .i64 0, .int .i64 0, .int .i64 0, .int .i64 0, .int .i64 0, .int .i64 0, .nils, .nils, .nils, .nils, .nils, .nils, .int .i64 0, .nilm, .nils, .nils, .nils, .nils, .nils, .nils, .nils, .nils, .nils, .bool false]⟩), (226, ⟨4, true, .struct [(0, 1, false), (1, 1, false), (2, 1, false), (3, 1, false)], [.int .i64 0, .int .i64 0, .str [], .nils]⟩), (228, ⟨6, true, .struct [(0, 1, false), (1, 1, false), (2, 4, true)], [.int .i64 0, .str [], .int .i64 0, .int .i64 0, .str [], .nils]⟩), (230, ⟨3, true, .struct [(0, 1, false), (1, 1, false), (2, 1, false)], [.int .i64 0, .int .i64 0, .nils]⟩), (233, ⟨4, true, .struct [(0, 1, false), (1, 3, true)], [.str [], .int .i64 0, .int .i64 0, .nils]⟩), (235, ⟨5, true, .struct [(0, 1, false), (1, 4, true)], [.int .i64 0, .int .i64 0, .int .i64 0, .str [], .nils]⟩), (268, ⟨4, true, .struct [(0, 1, false), (1, 1, false), (2, 1, false), (3, 1, false)], [.int .i64 0, .str [], .int .i64 0, .int .i64 0]⟩), (280, ⟨5, true, .struct [(0, 1, false), (1, 4, true)], [.str [], .int .i64 0, .int .i64 0, .str [], .nils]⟩), (283, ⟨4, true, .struct [(0, 1, false), (1, 1, false), (2, 1, false), (3, 1, false)], [.str [], .str [], .int .i64 0, .int .i64 0]⟩), (285, ⟨3, true, .struct [(0, 1, false), (1, 1, false), (2, 1, false)], [.str [], .int .i64 0, .int .i64 0]⟩), (288, ⟨1, false, .map .str 9 4, [.nilm]⟩), (297, ⟨1, false, .map .str 9 3, [.nilm]⟩), (298, ⟨1, false, .map .int 3 3, [.nilm]⟩), (299, ⟨4, true, .arr 4 297 1, [.nilm, .nilm, .nilm, .nilm]⟩), (301, ⟨7, true, .struct [(0, 1, false), (1, 1, false), (2, 1, false), (3, 4, true)], [.nils, .nilm, .nilm, .nilm, .nilm, .nilm, .nilm]⟩), (334, ⟨3, true, .struct [(0, 1, false), (1, 1, false), (2, 1, false)], [.nils, .int .i64 0, .int .i64 0]⟩), (341, ⟨3, true, .struct [(0, 1, false), (1, 1, false), (2, 1, false)], [.nils, .nilm, .nilm]⟩), (358, ⟨5, true, .struct [(0, 1, false), (1, 1, false), (2, 1, false), (3, 1, false), (4, 1, false)], [.int .u64 0, .int .u64 0, .int .u64 0, .int .u64 0, .bool false]⟩), (365, ⟨1, false, .map .pair 367 4, [.nilm]⟩), (367, ⟨2, true, .struct [(0, 1, false), (1, 1, false)], [.int .i64 0, .str []]⟩)]
noncomputable def fnL : List (Nat × Func) := [(7, Go.Proofs.Tryz.f7), (10, Go.Proofs.Tryz.f10), (13, Go.Proofs.Tryz.f13), (23, Go.Proofs.Tryz.f23), (25, Go.Proofs.Tryz.f25), (32, Go.Proofs.Tryz.f32), (33, Go.Proofs.Tryz.f33), (34, Go.Proofs.Tryz.f34), (35, Go.Proofs.Tryz.f35), (45, Go.Proofs.Tryz.f45), (58, Go.Proofs.Tryz.f58), (63, Go.Proofs.Tryz.f63), (64, Go.Proofs.Tryz.f64), (65, Go.Proofs.Tryz.f65), (66, Go.Proofs.Tryz.f66), (67, Go.Proofs.Tryz.f67), (72, Go.Proofs.Tryz.f72), (79, Go.Proofs.Tryz.f79), (80, Go.Proofs.Tryz.f80), (82, Go.Proofs.Tryz.f82), (88, Go.Proofs.Tryz.f88), (89, Go.Proofs.Tryz.f89), (90, Go.Proofs.Tryz.f90), (91, Go.Proofs.Tryz.f91), (92, Go.Proofs.Tryz.f92), (93, Go.Proofs.Tryz.f93), (105, Go.Proofs.Tryz.f105), (108, Go.Proofs.Tryz.f108), (111, Go.Proofs.Tryz.f111), (112, Go.Proofs.Tryz.f112), (122, Go.Proofs.Tryz.f122), (127, Go.Proofs.Tryz.f127), (128, Go.Proofs.Tryz.f128), (129, Go.Proofs.Tryz.f129), (130, Go.Proofs.Tryz.f130), (131, Go.Proofs.Tryz.f131), (132, Go.Proofs.Tryz.f132), (133, Go.Proofs.Tryz.f133), (134, Go.Proofs.Tryz.f134), (135, Go.Proofs.Tryz.f135), (136, Go.Proofs.Tryz.f136), (155, Go.Proofs.Tryz.f155), (156, Go.Proofs.Tryz.f156), (157, Go.Proofs.Tryz.f157), (171, Go.Proofs.Tryz.f171), (172, Go.Proofs.Tryz.f172), (173, Go.Proofs.Tryz.f173), (174, Go.Proofs.Tryz.f174), (175, Go.Proofs.Tryz.f175), (176, Go.Proofs.Tryz.f176), (177, Go.Proofs.Tryz.f177), (178, Go.Proofs.Tryz.f178), (179, Go.Proofs.Tryz.f179), (180, Go.Proofs.Tryz.f180), (181, Go.Proofs.Tryz.f181), (182, Go.Proofs.Tryz.f182), (183, Go.Proofs.Tryz.f183), (184, Go.Proofs.Tryz.f184), (185, Go.Proofs.Tryz.f185), (186, Go.Proofs.Tryz.f186), (187, Go.Proofs.Tryz.f187), (188, Go.Proofs.Tryz.f188), (189, Go.Proofs.Tryz.f189), (190, Go.Proofs.Tryz.f190), (191, Go.Proofs.Tryz.f191), (193, Go.Proofs.Tryz.f193), (194, Go.Proofs.Tryz.f194), (196, Go.Proofs.Tryz.f196), (218, Go.Proofs.Tryz.f218), (219, Go.Proofs.Tryz.f219), (224, Go.Proofs.Tryz.f224), (225, Go.Proofs.Tryz.f225), (226, Go.Proofs.Tryz.f226), (227, Go.Proofs.Tryz.f227), (228, Go.Proofs.Tryz.f228), (230, Go.Proofs.Tryz.f230), (231, Go.Proofs.Tryz.f231), (232, Go.Proofs.Tryz.f232), (233, Go.Proofs.Tryz.f233), (234, Go.Proofs.Tryz.f234), (235, Go.Proofs.Tryz.f235), (236, Go.Proofs.Tryz.f236), (237, Go.Proofs.Tryz.f237), (238, Go.Proofs.Tryz.f238), (239, Go.Proofs.Tryz.f239), (240, Go.Proofs.Tryz.f240), (241, Go.Proofs.Tryz.f241), (242, Go.Proofs.Tryz.f242), (243, Go.Proofs.Tryz.f243), (244, Go.Proofs.Tryz.f244), (247, Go.Proofs.Tryz.f247), (266, Go.Proofs.Tryz.f266), (267, Go.Proofs.Tryz.f267), (270, Go.Proofs.Tryz.f270), (271, Go.Proofs.Tryz.f271), (272, Go.Proofs.Tryz.f272), (273, Go.Proofs.Tryz.f273), (274, Go.Proofs.Tryz.f274), (275, Go.Proofs.Tryz.f275), (276, Go.Proofs.Tryz.f276), (277, Go.Proofs.Tryz.f277), (278, Go.Proofs.Tryz.f278), (279, Go.Proofs.Tryz.f279), (280, Go.Proofs.Tryz.f280), (281, Go.Proofs.Tryz.f281), (283, Go.Proofs.Tryz.f283), (297, Go.Proofs.Tryz.f297), (298, Go.Proofs.Tryz.f298), (299, Go.Proofs.Tryz.f299), (300, Go.Proofs.Tryz.f300), (301, Go.Proofs.Tryz.f301), (303, Go.Proofs.Tryz.f303), (308, Go.Proofs.Tryz.f308), (309, Go.Proofs.Tryz.f309), (311, Go.Proofs.Tryz.f311), (312, Go.Proofs.Tryz.f312), (313, Go.Proofs.Tryz.f313), (314, Go.Proofs.Tryz.f314), (315, Go.Proofs.Tryz.f315), (316, Go.Proofs.Tryz.f316), (317, Go.Proofs.Tryz.f317), (318, Go.Proofs.Tryz.f318), (319, Go.Proofs.Tryz.f319), (320, Go.Proofs.Tryz.f320), (321, Go.Proofs.Tryz.f321), (325, Go.Proofs.Tryz.f325), (328, Go.Proofs.Tryz.f328)]
def keysL : List (Nat × KS) := [(3, .int), (9, .str), (367, .pair)]
theorem tab_ok : allB (fun p : Nat × TI => tiB Tryz.prog keysL p.1 p.2) tiL = true := by kernel_rfl
theorem fn_ok : fnL.map (fun p => Tryz.prog.funcs[p.1]?) = fnL.map fun p => some p.2 := by kernel_rfl
theorem name_ok : allB (fun p : Nat × Func => not (p.2.name == "runtime.NumGoroutine")) fnL = true := by kernel_rfl
theorem mixed_ok : Tryz.prog.follows .mixedOrders = true := by kernel_rfl
end Go.Proofs.YtabmjadcoepbeaaGreat.Ev
namespace Go.Proofs.YtabmjadcoepbeaaGreat.Ev
noncomputable def keyF (k : Nat) : Field := match Tryz.prog.underlying 367 with
 | some (.struct F) => (F[k]?).getD default
 | _ => default
theorem und_key : Tryz.prog.underlying 367 = some (.struct #[keyF 0, keyF 1]) := by kernel_rfl
theorem key_n0 : ((keyF 0).name == "_") = false := by kernel_rfl
theorem key_n1 : ((keyF 1).name == "_") = false := by kernel_rfl
theorem key_o0 : (keyF 0).offset = 0 := by kernel_rfl
theorem key_o1 : (keyF 1).offset = 1 := by kernel_rfl
theorem key_u0 : Tryz.prog.underlying (keyF 0).type = some (.int .i64) := by kernel_rfl
theorem key_u1 : Tryz.prog.underlying (keyF 1).type = some .string := by kernel_rfl
theorem key_held : Tryz.prog.stoodInHeld 367 = false := by kernel_rfl
theorem und3 : Tryz.prog.underlying 3 = some (.int .i64) := by kernel_rfl
theorem und9 : Tryz.prog.underlying 9 = some .string := by kernel_rfl
theorem keys_ok : ∀ p ∈ keysL, KeyOk Tryz.prog p.1 p.2 := by
 intro p m
 rcases List.mem_cons.1 m with rfl | m
 ·exact key_int und3
 ·rcases List.mem_cons.1 m with rfl | m
  ·exact key_str und9
  ·rw [List.mem_singleton.1 m]
   exact key_pair und_key (by simpa using key_n0) (by simpa using key_n1) key_o0 key_o1 key_u0 key_u1 key_held
theorem und135 : Tryz.prog.underlying 135 = some (.array 3 3) := by kernel_rfl
theorem guard135 : Tryz.prog.eqGuardType Tryz.prog.depth 135 = false := by kernel_rfl
theorem size3 : (Tryz.prog.info? 3).map (·.size) = some 1 := by kernel_rfl
theorem eqs_ok : ∀ t ∈ [135], EqA Tryz.prog t := by
 intro t m
 rw [List.mem_singleton.1 m]
 cases h : Tryz.prog.info? 3 with
 | none => have := size3; rw [h] at this; cases this
 | some te =>
  have h1 := size3
  rw [h] at h1
  exact eqA_3 guard135 und135 und3 h (Option.some.inj h1)
theorem envs_ok (hook : Nat → List AV → HS → Option (AV × HS)) : EnvOk Tryz.prog ⟨mkT tiL, mkT fnL, [135], hook⟩ := env_ok keys_ok eqs_ok tab_ok fn_ok name_ok
end Go.Proofs.YtabmjadcoepbeaaGreat.Ev
namespace Go.Proofs.YtabmjadcoepbeaaGreat.Ev
noncomputable section
def idxGo (c : Nat) (l : List UInt8) : Nat → Int := lrec (fun _ => .negSucc 0) (fun x _ ih i => match Nat.beq x.toNat c with
 | true => .ofNat i
 | false => ih (i + 1)) l
def hookX (f : Nat) (args : List AV) (s : HS) : Option (AV × HS) := match Nat.beq f 326 with
 | true => match args with
  | [a, b] => match a with
   | .w (.c (.str l)) => match b with
    | .w (.c (.int k n)) => match decide (k = .u8) with
     | true => match n with
      | .ofNat c => match Nat.blt c 256 with
       | true => some (.w (.c (.int .i64 (idxGo c l 0))), s)
       | false => none
      | .negSucc _ => none
     | false => none
    | _ => none
   | _ => none
  | _ => none
 | false => none
end
theorem find_idx (s : List UInt8) (c : UInt8) : ∀ (l : List UInt8) (k : Nat), s.drop k = l →
  (match (List.range' k l.length).find? (fun i => (ByteArray.mk ⟨s⟩)[i]! == c) with | some i => goInt i | none => goInt (-1)) = .int .i64 (idxGo c.toNat l k)
 | [], k, _ => rfl
 | x :: l, k, h => by
  have hx : s[k]? = some x := by
   have := congrArg (fun l : List UInt8 => l[0]?) h
   simpa using this
  have hl : s.drop (k + 1) = l := by
   have := congrArg List.tail h
   simpa using this
  have hk : k < s.length := (List.getElem?_eq_some_iff.1 hx).1
  have hb : (ByteArray.mk ⟨s⟩)[k]! = x := by
   rw [getElem!_pos (ByteArray.mk ⟨s⟩) k (by simpa [ByteArray.size] using hk)]
   have := (List.getElem?_eq_some_iff.1 hx).2
   rw [← this]; rfl
  have hi : idxGo c.toNat (x :: l) k = (match Nat.beq x.toNat c.toNat with | true => .ofNat k | false => idxGo c.toNat l (k + 1)) := rfl
  have e1 : Nat.beq x.toNat c.toNat = (x == c) := beq8_eq x c
  rw [List.length_cons, List.range'_succ, List.find?_cons, hb, hi, e1]
  cases x == c with
  | true => rfl
  | false => exact find_idx s c l (k + 1) hl
theorem fx_fn : Tryz.prog.funcs[(326 : Nat)]? = some Tryz.f326 := by kernel_rfl
theorem fx_name : (Tryz.f326.name == "runtime.NumGoroutine") = false := by kernel_rfl
theorem fx_body : Tryz.f326.body.isNone = true := by kernel_rfl
theorem fx_next : Extern.findNext Tryz.f326 = none := by kernel_rfl
theorem fx_find : Extern.find Tryz.f326 = some Extern.BytealgIndexByte.indexByte := by kernel_rfl
theorem hookX_ok {f : Nat} {args : List AV} {s : HS} {v : AV} {s' : HS} (h : hookX f args s = some (v, s')) : CallS Tryz.prog f args s v s' := by
 unfold hookX at h
 split at h <;> try (cases h; done)
 rename_i hf
 have hf' := Nat.eq_of_beq_eq_true hf
 split at h <;> try (cases h; done)
 rename_i a b
 split at h <;> try (cases h; done)
 rename_i l
 split at h <;> try (cases h; done)
 rename_i k n
 split at h <;> try (cases h; done)
 rename_i hk
 have hk' : k = .u8 := of_decide_eq_true hk
 split at h <;> try (cases h; done)
 rename_i c
 split at h <;> try (cases h; done)
 rename_i hc
 have hc' := blt_lt hc
 cases h
 subst hf' hk'
 refine ⟨Nat.le_refl _, fun φ w _ _ _ => .inl ⟨?_, okV_c trivial, rfl⟩⟩
 have hn : ¬ Tryz.f326.name = "runtime.NumGoroutine" := by simpa using fx_name
 have e0 : (Int.ofNat c).toNat.toUInt8.toNat = c := by
  show c.toUInt8.toNat = c
  simp; omega
 have e1 := find_idx l (Int.ofNat c).toNat.toUInt8 l 0 rfl
 rw [e0] at e1
 have hr : (Extern.BytealgIndexByte.indexByte #[.string ⟨⟨l⟩⟩, .int .u8 (Int.ofNat c)]).run Tryz.prog w = .ok (.int .i64 (idxGo c l 0)) w := by
  rw [← e1]
  have e3 : Extern.BytealgIndexByte.indexByte #[.string ⟨⟨l⟩⟩, .int .u8 (Int.ofNat c)] = (Extern.Bytes.bytesOf (.string ⟨⟨l⟩⟩) >>= fun b => Extern.Bytes.asByte (.int .u8 (Int.ofNat c)) >>= fun c =>
    match (List.range b.size).find? fun i => b[i]! == c with
    | some i => pure (goInt i)
    | none => pure (goInt (-1))) := rfl
  rw [e3]
  simp only [Extern.Bytes.bytesOf, Extern.Bytes.asByte, Sem.run_bind, Sem.run_pure, Result.andThen_ok]
  have e2 : (ByteArray.mk ⟨l⟩).size = l.length := rfl
  rw [e2, List.range_eq_range']
  cases (List.range' 0 l.length).find? (fun i => (ByteArray.mk ⟨l⟩)[i]! == (Int.ofNat c).toNat.toUInt8) <;> rfl
 simp only [callFunc, Sem.run_bind, run_program, Result.andThen_ok, fx_fn]
 simp [hn, fx_body, fx_next, fx_find, concV, concW, conc]
 have hr' : (Extern.BytealgIndexByte.indexByte #[.string ⟨⟨l⟩⟩, .int .u8 (c : Int)]).run Tryz.prog w = .ok (.int .i64 (idxGo c l 0)) w := hr
 rw [hr']
 rfl
end Go.Proofs.YtabmjadcoepbeaaGreat.Ev
