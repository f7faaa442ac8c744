/- The runner of closed calls, part 1 of 3: what it does, and that its single steps are right; there is no condition. -/
import Derived.Orders
import Derived.KernelRfl
import Derived.Laws.Strings
import Derived.Laws.Rows
import Derived.Laws.Tables
import Derived.Laws.Append
import Derived.Laws.Slices
import Derived.Laws.Build
import Derived.Laws.MakeOwn
set_option linter.unusedVariables false
set_option linter.unusedSimpArgs false
namespace Go.Proofs.YtabmjadcoepbeaaGreat.Ev
noncomputable section
noncomputable def nrec {β : Type} (z : β) (s : Nat → β → β) (n : Nat) : β := Nat.rec (motive := fun _ => β) z s n
noncomputable def lrec {α β : Type} (z : β) (s : α → List α → β → β) (l : List α) : β := List.rec (motive := fun _ => β) z s l
theorem nrec_zero {β : Type} (z : β) (s : Nat → β → β) : nrec z s 0 = z := rfl
theorem nrec_succ {β : Type} (z : β) (s : Nat → β → β) (n : Nat) : nrec z s (n + 1) = s n (nrec z s n) := rfl
theorem lrec_nil {α β : Type} (z : β) (s : α → List α → β → β) : lrec z s [] = z := rfl
theorem lrec_cons {α β : Type} (z : β) (s : α → List α → β → β) (a : α) (l : List α) : lrec z s (a :: l) = s a l (lrec z s l) := rfl
def bnd {α β : Type} (x : Option α) (f : α → Option β) : Option β := match x with
 | none => none
 | some a => f a
theorem bnd_some {α β : Type} {x : Option α} {f : α → Option β} {b : β} (h : bnd x f = some b) : ∃ a, x = some a ∧ f a = some b := by
 cases x with
 | none => cases h
 | some a => exact ⟨a, rfl, h⟩

inductive AC where
 | bool (b : Bool) | int (k : IntKind) (n : Int) | str (s : List UInt8)
 | nilp | ptr (i off : Nat)
 | nils | slice (i off len k : Nat) | full (i off len cap : Nat)
 | nilm | map (i : Nat)
 | fn (f : FuncId) | nilf | nili
 deriving DecidableEq
inductive AW where
 | c (x : AC) | agg (cs : List AC)
 deriving DecidableEq
inductive AV where
 | w (x : AW) | tup (vs : List AW)
 deriving DecidableEq
inductive KS where
 | int | str | pair
 deriving DecidableEq
inductive AB where
 | row (esz : Nat) (cs : List AC)
 | map (ks : KS) (es : List (AW × AW))
 deriving DecidableEq

inductive PT (α : Type) where
 | nil | node (l : PT α) (v : Option α) (r : PT α)
noncomputable def prec {α β : Type} (z : β) (s : PT α → Option α → PT α → β → β → β) (t : PT α) : β := PT.rec (motive := fun _ => β) z s t
def fork {β : Type} (n : Nat) (z : β) (l r : Nat → β) : β := match n with
 | 0 => z
 | m + 1 => match Nat.beq (Nat.mod m 2) 0 with
  | true => l (Nat.div m 2)
  | false => r (Nat.div m 2)
def PT.get {α : Type} (t : PT α) : Nat → Option α := prec (fun _ => none) (fun _ v _ gl gr n => fork n v gl gr) t
def PT.fc {α β : Type} (t : PT α) (k : PT α → β) : β := match t with
 | .nil => k .nil
 | .node l v r => k (.node l v r)
def PT.open_ {α β : Type} (t : PT α) (k : PT α → Option α → PT α → β) : β := match t with
 | .nil => k .nil none .nil
 | .node l v r => k l v r
def PT.setF {α : Type} (v : Option α) (f : Nat) : PT α → Nat → PT α :=
 nrec (fun _ _ => .nil) (fun _ ih t n => t.open_ fun l u r => fork n (.node l v r) (fun m => (ih l m).fc fun l => .node l u r) (fun m => (ih r m).fc fun r => .node l u r)) f
def PT.set {α : Type} (t : PT α) (n : Nat) (v : Option α) : PT α := PT.setF v 24 t n

inductive TK where
 | bool | int (k : IntKind) | str | slice (e esz eb : Nat) | arr (len e esz : Nat) | struct (fs : List (Nat × Nat × Bool)) | map (ks : KS) (key elem : Nat) | ptr | other
structure TI where
 size : Nat
 agg : Bool
 k : TK
 zero : List AC
def fnat {β : Type} (n : Nat) (k : Nat → β) : β := match n with
 | 0 => k 0
 | m + 1 => k (Nat.succ m)
def fint {β : Type} (n : Int) (k : Int → β) : β := match n with
 | .ofNat m => fnat m fun m => k (.ofNat m)
 | .negSucc m => fnat m fun m => k (.negSucc m)
def fbool {β : Type} (b : Bool) (k : Bool → β) : β := match b with
 | true => k true
 | false => k false
def fzC {β : Type} (x : AC) (k : AC → β) : β := match x with
 | .bool b => fbool b fun b => k (.bool b)
 | .int i n => fint n fun n => k (.int i n)
 | .str s => k (.str s)
 | .nilp => k .nilp
 | .ptr i o => fnat i fun i => fnat o fun o => k (.ptr i o)
 | .nils => k .nils
 | .slice i o l c => fnat i fun i => fnat o fun o => fnat l fun l => fnat c fun c => k (.slice i o l c)
 | .full i o l c => fnat i fun i => fnat o fun o => fnat l fun l => fnat c fun c => k (.full i o l c)
 | .nilm => k .nilm
 | .map i => fnat i fun i => k (.map i)
 | .fn f => k (.fn f)
 | .nilf => k .nilf
 | .nili => k .nili
def fzW {β : Type} (x : AW) (k : AW → β) : β := match x with
 | .c x => fzC x fun x => k (.c x)
 | .agg cs => k (.agg cs)
def fz {β : Type} (x : AV) (k : AV → β) : β := match x with
 | .w x => fzW x fun x => k (.w x)
 | .tup vs => k (.tup vs)

structure HS where
 h : PT AB
 nx : Nat
def HS.fc {β : Type} (s : HS) (k : HS → β) : β := match s with
 | .mk h n => h.fc fun h => fnat n fun n => k (.mk h n)
def HS.put (s : HS) (i : Nat) (b : Option AB) : HS := ⟨s.h.set i b, s.nx⟩
def HS.new (s : HS) (b : AB) : HS := ⟨s.h.set s.nx (some b), s.nx + 1⟩

structure Env where
 ti : PT TI
 fn : PT Func
 eqs : List Nat
 hook : Nat → List AV → HS → Option (AV × HS)

/- Values of operands. -/
def absC (v : Value) : Option AC := match v with
 | .bool b => some (.bool b)
 | .int k n => some (.int k n)
 | .string s => some (.str s.data.toList)
 | .pointer none => some .nilp
 | .slice none 0 0 => some .nils
 | .map none => some .nilm
 | .nilFunc => some .nilf
 | .nilIface => some .nili
 | _ => none
def absCs (l : List Value) : Option (List AC) := lrec (some []) (fun v _ r => bnd (absC v) fun c => bnd r fun cs => some (c :: cs)) l
def absW (v : Value) : Option AW := match v with
 | .agg cs => bnd (absCs cs.toList) fun cs => some (.agg cs)
 | v => bnd (absC v) fun c => some (.c c)
def ev (tm : PT AV) (x : Operand) : Option AV := match x with
 | .tmp t => tm.get t
 | .const v => bnd (absW v) fun w => some (.w w)
 | .global _ => none
 | .func f => some (.w (.c (.fn f)))
def evs (tm : PT AV) (l : List Operand) : Option (List AV) := lrec (some []) (fun x _ r => bnd (ev tm x) fun v => bnd r fun vs => some (v :: vs)) l
def asW {β : Type} (v : AV) (k : AW → Option β) : Option β := match v with
 | .w x => k x
 | .tup _ => none
def evw {β : Type} (tm : PT AV) (x : Operand) (k : AW → Option β) : Option β := bnd (ev tm x) fun v => asW v k
def asC {β : Type} (v : AW) (k : AC → Option β) : Option β := match v with
 | .c x => k x
 | .agg _ => none
def evc {β : Type} (tm : PT AV) (x : Operand) (k : AC → Option β) : Option β := evw tm x fun v => asC v k
def evn {β : Type} (tm : PT AV) (x : Operand) (k : Nat → Option β) : Option β := evc tm x fun c => match c with
 | .int _ n => match n with
  | .ofNat m => k m
  | .negSucc _ => none
 | _ => none
def vc (x : AC) : Option AV := some (.w (.c x))
def AW.cells (x : AW) : List AC := match x with
 | .c x => [x]
 | .agg cs => cs
def cut (l : List AC) (o n : Nat) : Option (List AC) := match Nat.ble (o + n) l.length with
 | true => some ((l.drop o).take n)
 | false => none
def splice (l : List AC) (o : Nat) (n : List AC) : Option (List AC) := match Nat.ble (o + n.length) l.length with
 | true => some (l.take o ++ n ++ l.drop (o + n.length))
 | false => none
def TI.part (size : Nat) (agg : Bool) (cs : List AC) (off : Nat) : Option AW := match agg with
 | true => bnd (cut cs off size) fun l => some (.agg l)
 | false => bnd (cs[off]?) fun c => some (.c c)

/- Operators. -/
def ile (a b : Int) : Bool := match a, b with
 | .ofNat a, .ofNat b => Nat.ble a b
 | .ofNat _, .negSucc _ => false
 | .negSucc _, .ofNat _ => true
 | .negSucc a, .negSucc b => Nat.ble b a
def ieq (a b : Int) : Bool := match a, b with
 | .ofNat a, .ofNat b => Nat.beq a b
 | .ofNat _, .negSucc _ => false
 | .negSucc _, .ofNat _ => false
 | .negSucc a, .negSucc b => Nat.beq a b
def lim (k : IntKind) : Nat := match k with
 | .i8 => 127 | .i16 => 32767 | .i32 => 2147483647 | .i64 => 9223372036854775807 | .u8 => 255 | .u16 => 65535 | .u32 => 4294967295 | .u64 => 18446744073709551615
def wrp (k : IntKind) (n : Int) : Int := match n with
 | .ofNat m => match Nat.ble m (lim k) with
  | true => .ofNat m
  | false => k.wrap (.ofNat m)
 | .negSucc m => k.wrap (.negSucc m)
def iadd (a b : Int) : Int := match a, b with
 | .ofNat a, .ofNat b => .ofNat (Nat.add a b)
 | a, b => a + b
def isub (a b : Int) : Int := match a, b with
 | .ofNat a, .ofNat b => match Nat.ble b a with
  | true => .ofNat (Nat.sub a b)
  | false => .negSucc (Nat.pred (Nat.sub b a))
 | a, b => a - b
def imul (a b : Int) : Int := match a, b with
 | .ofNat a, .ofNat b => .ofNat (Nat.mul a b)
 | a, b => a * b
def vb (b : Bool) : Option AV := some (.w (.c (.bool b)))
def binI (op : BinOp) (k : IntKind) (a b : Int) : Option AV := match op with
 | .add => vc (.int k (wrp k (iadd a b)))
 | .sub => vc (.int k (wrp k (isub a b)))
 | .mul => vc (.int k (wrp k (imul a b)))
 | .quo => match ieq b 0 with
  | true => none
  | false => vc (.int k (k.wrap (a.tdiv b)))
 | .rem => match ieq b 0 with
  | true => none
  | false => vc (.int k (a.tmod b))
 | .and => vc (.int k (k.wrap (BitVec.ofInt k.bits a &&& BitVec.ofInt k.bits b).toNat))
 | .or => vc (.int k (k.wrap (BitVec.ofInt k.bits a ||| BitVec.ofInt k.bits b).toNat))
 | .shl => match ile 0 b with
  | true => vc (.int k (k.wrap (a * 2 ^ (min b.toNat k.bits))))
  | false => none
 | .shr => match ile 0 b with
  | true => vc (.int k (a.fdiv (2 ^ (min b.toNat k.bits))))
  | false => none
 | .eql => vb (ieq a b)
 | .neq => vb (not (ieq a b))
 | .lss => vb (not (ile b a))
 | .leq => vb (ile a b)
 | .gtr => vb (not (ile a b))
 | .geq => vb (ile b a)
 | _ => none
def beq8 (a b : UInt8) : Bool := Nat.beq a.toNat b.toNat
def seq_ (a : List UInt8) : List UInt8 → Bool := lrec (fun b => match b with | [] => true | _ :: _ => false) (fun x _ ih b => match b with | [] => false | y :: b => match beq8 x y with | true => ih b | false => false) a
def slt (a : List UInt8) : List UInt8 → Bool := lrec (fun b => match b with | [] => false | _ :: _ => true) (fun x _ ih b => match b with | [] => false | y :: b => match Nat.ble y.toNat x.toNat with | false => true | true => match beq8 x y with | true => ih b | false => false) a
def binS (op : BinOp) (a b : List UInt8) : Option AV := match op with
 | .add => match Nat.ble (a.length + b.length) 1000000 with
  | true => vc (.str (a ++ b))
  | false => none
 | .eql => vb (seq_ a b)
 | .neq => vb (not (seq_ a b))
 | .lss => vb (slt a b)
 | .leq => vb (or (slt a b) (seq_ a b))
 | .gtr => vb (not (or (slt a b) (seq_ a b)))
 | .geq => vb (not (slt a b))
 | _ => none
def eqC (a b : AC) : Option Bool := match a, b with
 | .bool a, .bool b => some (match a with | true => b | false => not b)
 | .int k a, .int j b => match decide (k = j) with
  | true => some (ieq a b)
  | false => none
 | .str a, .str b => some (seq_ a b)
 | _, _ => none
def eqN (k : TK) (a b : AC) : Option Bool := match k with
 | .bool => match a, b with
  | .bool a, .bool b => some (match a with | true => b | false => not b)
  | _, _ => none
 | .ptr => match a, b with
  | .nilp, .nilp => some true
  | .nilp, .ptr _ _ => some false
  | .ptr _ _, .nilp => some false
  | _, _ => none
 | .slice _ _ _ => match a, b with
  | .nils, .nils => some true
  | .nils, .slice _ _ _ _ => some false
  | .slice _ _ _ _, .nils => some false
  | .nils, .full _ _ _ _ => some false
  | .full _ _ _ _, .nils => some false
  | _, _ => none
 | _ => none
def eqL (a : List AC) : List AC → Option Bool := lrec (fun b => match b with | [] => some true | _ :: _ => none) (fun x _ ih b => match b with
 | [] => none
 | y :: b => bnd (eqC x y) fun t => match t with
  | true => ih b
  | false => some false) a
def memN (n : Nat) (l : List Nat) : Bool := lrec false (fun m _ r => match Nat.beq n m with | true => true | false => r) l
def eqV (op : BinOp) (r : Bool) : Option AV := match op with
 | .eql => vb r
 | .neq => vb (not r)
 | _ => none
def binSh (op : BinOp) (k : IntKind) (a b : Int) : Option AV := match op with
 | .shl => binI op k a b
 | .shr => binI op k a b
 | _ => none
def i64B (k : IntKind) : Bool := match k with
 | .i64 => true
 | _ => false
def isI (c : AC) : Bool := match c with
 | .int k _ => i64B k
 | _ => false
def isS (c : AC) : Bool := match c with
 | .str _ => true
 | _ => false
def isN3 (l : List AC) : Bool := match l with
 | [a, b, c] => and (isI a) (and (isI b) (isI c))
 | _ => false
def binA (E : Env) (op : BinOp) (t : Nat) (a b : List AC) : Option AV := match memN t E.eqs with
 | true => match and (isN3 a) (isN3 b) with
  | true => bnd (eqL a b) fun r => eqV op r
  | false => none
 | false => none
def binC (E : Env) (op : BinOp) (t : Nat) (a b : AC) : Option AV := bnd (E.ti.get t) fun i => bnd (eqN i.k a b) fun r => eqV op r
def bin (E : Env) (op : BinOp) (t : Nat) (x y : AW) : Option AV := match x, y with
 | .c (.int k a), .c (.int j b) => match decide (k = j) with
  | true => binI op k a b
  | false => binSh op k a b
 | .c (.str a), .c (.str b) => binS op a b
 | .c a, .c b => binC E op t a b
 | .agg a, .agg b => binA E op t a b
 | _, _ => none
def opBin (E : Env) (tm : PT AV) (op : BinOp) (t : Nat) (x y : Operand) : Option AV := evw tm x fun a => evw tm y fun b => bin E op t a b
def opUn (tm : PT AV) (op : UnOp) (x : Operand) : Option AV := evc tm x fun c => match op with
 | .not => match c with
  | .bool b => vb (not b)
  | _ => none
 | .neg => match c with
  | .int k n => vc (.int k (k.wrap (0 - n)))
  | _ => none
 | _ => none
def opPick (tm : PT AV) (c a b : Operand) : Option AV := evc tm c fun c => match c with
 | .bool t => match t with
  | true => ev tm a
  | false => ev tm b
 | _ => none
def opNil (tm : PT AV) (x : Operand) : Option AV := evc tm x fun c => match c with
 | .ptr i o => vc (.ptr i o)
 | .fn f => vc (.fn f)
 | _ => none
def opConv (E : Env) (tm : PT AV) (src dst : Nat) (x : Operand) : Option AV := evc tm x fun c => match c with
 | .int _ n => bnd (E.ti.get src) fun _ => bnd (E.ti.get dst) fun i => match i.k with
  | .int k => vc (.int k (wrp k n))
  | _ => none
 | _ => none
def evo (tm : PT AV) (x : Option Operand) (d : Nat) (k : Nat → Option AV) : Option AV := match x with
 | none => k d
 | some x => evn tm x k
def slStr (tm : PT AV) (s : List UInt8) (lo : Nat) (hi : Option Operand) : Option AV := evo tm hi s.length fun h => match Nat.ble lo h with
 | true => match Nat.ble h s.length with
  | true => vc (.str ((s.take h).drop lo))
  | false => none
 | false => none
def slNil (tm : PT AV) (lo : Nat) (hi mx : Option Operand) : Option AV := evo tm hi 0 fun h => evo tm mx 0 fun m => match Nat.beq (lo + h + m) 0 with
 | true => vc .nils
 | false => none
def slSl (tm : PT AV) (i off len k esz lo : Nat) (hi mx : Option Operand) : Option AV := evo tm hi len fun h => match Nat.ble h len with
 | true => match mx with
  | none => match Nat.blt lo h with
   | true => vc (.slice i (off + lo * esz) (h - lo) (k + lo))
   | false => none
  | some m => evn tm m fun m => match Nat.beq m h with
   | true => match Nat.blt lo h with
    | true => vc (.full i (off + lo * esz) (h - lo) (h - lo))
    | false => match Nat.beq (lo + h) 0 with
     | true => vc (.full i off 0 0)
     | false => none
   | false => none
 | false => none
def slFull (tm : PT AV) (i off len cap esz lo : Nat) (hi mx : Option Operand) : Option AV := evo tm hi len fun h => match Nat.ble h len with
 | true => evo tm mx cap fun m => match Nat.ble h m with
  | true => match Nat.ble m cap with
   | true => match Nat.blt lo h with
    | true => vc (.full i (off + lo * esz) (h - lo) (m - lo))
    | false => match Nat.beq (lo + h) 0 with
     | true => vc (.full i off 0 m)
     | false => none
   | false => none
  | false => none
 | false => none
def hasHi (hi mx : Option Operand) : Bool := match mx with
 | none => true
 | some _ => match hi with
  | none => false
  | some _ => true
def opSl (E : Env) (tm : PT AV) (t : Nat) (x : Operand) (lo hi mx : Option Operand) : Option AV := evc tm x fun c => evo tm lo 0 fun lo => bnd (E.ti.get t) fun ti => match ti.k with
 | .str => match c with
  | .str s => match mx with
   | none => slStr tm s lo hi
   | some _ => none
  | _ => none
 | .slice _ esz _ => match c with
  | .nils => slNil tm lo hi mx
  | .slice i off len k => slSl tm i off len k esz lo hi mx
  | .full i off len cap => slFull tm i off len cap esz lo hi mx
  | _ => none
 | _ => none
def opSlice (E : Env) (tm : PT AV) (t : Nat) (x : Operand) (lo hi mx : Option Operand) : Option AV := match hasHi hi mx with
 | false => none
 | true => opSl E tm t x lo hi mx
def opFieldAddr (E : Env) (tm : PT AV) (s : Nat) (x : Operand) (f : Nat) : Option AV := evc tm x fun c => bnd (E.ti.get s) fun ti => match ti.k with
 | .struct fs => bnd fs[f]? fun p => match c with
  | .ptr i off => vc (.ptr i (off + p.1))
  | _ => none
 | _ => none
def opField (E : Env) (tm : PT AV) (s : Nat) (x : Operand) (f : Nat) : Option AV := evw tm x fun w => bnd (E.ti.get s) fun ti => match ti.k with
 | .struct fs => bnd fs[f]? fun p => match w with
  | .agg cs => bnd (TI.part p.2.1 p.2.2 cs p.1) fun w => some (.w w)
  | _ => none
 | _ => none
def opIndexAddr (E : Env) (tm : PT AV) (t : Nat) (x ix : Operand) : Option AV := evc tm x fun c => evn tm ix fun n => bnd (E.ti.get t) fun ti => match ti.k with
 | .slice _ esz _ => match c with
  | .slice i off len _ => match Nat.blt n len with
   | true => vc (.ptr i (off + n * esz))
   | false => none
  | .full i off len _ => match Nat.blt n len with
   | true => vc (.ptr i (off + n * esz))
   | false => none
  | _ => none
 | .arr len _ esz => match c with
  | .ptr i off => match Nat.blt n len with
   | true => vc (.ptr i (off + n * esz))
   | false => none
  | _ => none
 | _ => none
def opIndex (E : Env) (tm : PT AV) (t : Nat) (x ix : Operand) : Option AV := evw tm x fun w => evn tm ix fun n => match w with
 | .c c => bnd (E.ti.get t) fun ti => match ti.k with
  | .str => match c with
   | .str s => bnd s[n]? fun b => vc (.int .u8 (.ofNat b.toNat))
   | _ => none
  | _ => none
 | .agg cs => bnd (E.ti.get t) fun ti => match ti.k with
  | .arr len e esz => match Nat.blt n len with
   | true => bnd (E.ti.get e) fun te => bnd (TI.part esz te.agg cs (n * esz)) fun w => some (.w w)
   | false => none
  | _ => none
def opExtract (tm : PT AV) (x : Operand) (n : Nat) : Option AV := bnd (ev tm x) fun v => match v with
 | .w _ => none
 | .tup vs => bnd vs[n]? fun w => some (.w w)
def fillS (place : Nat → Option (Nat × Nat)) (cs : List AC) (ps : List (Nat × AW)) : Option (List AC) :=
 lrec (fun cs => some cs) (fun p _ ih cs => bnd (place p.1) fun q => match Nat.beq p.2.cells.length q.2 with
  | true => bnd (splice cs q.1 p.2.cells) ih
  | false => none) ps cs
def evp (tm : PT AV) (l : List (Nat × Operand)) : Option (List (Nat × AW)) := lrec (some []) (fun p _ r => evw tm p.2 fun v => bnd r fun vs => some ((p.1, v) :: vs)) l
def opBuild (E : Env) (tm : PT AV) (t : Nat) (ps : Array (Nat × Operand)) : Option AV := bnd (E.ti.get t) fun ti => bnd (evp tm ps.toList) fun ps => match ti.k with
 | .struct fs => bnd (fillS (fun i => bnd fs[i]? fun p => some (p.1, p.2.1)) ti.zero ps) fun cs => some (.w (.agg cs))
 | .arr _ _ esz => bnd (fillS (fun i => some (i * esz, esz)) ti.zero ps) fun cs => some (.w (.agg cs))
 | _ => none
def mx2 (mn : Bool) (a b : Int) : Int := match mn with
 | true => match ile a b with
  | true => a
  | false => b
 | false => match ile b a with
  | true => a
  | false => b
def opMin (tm : PT AV) (mn : Bool) (l : List Operand) : Option AV := match l with
 | [x, y] => evc tm x fun a => evc tm y fun b => match a with
  | .int k a => match b with
   | .int _ b => vc (.int k (mx2 mn a b))
   | _ => none
  | _ => none
 | _ => none
def opLen (E : Env) (tm : PT AV) (t : Nat) (x : Operand) : Option AV := evw tm x fun w => match w with
 | .c c => bnd (E.ti.get t) fun ti => match ti.k with
  | .str => match c with
   | .str s => vc (.int .i64 (.ofNat s.length))
   | _ => none
  | .slice _ _ _ => match c with
   | .nils => vc (.int .i64 0)
   | .slice _ _ n _ => vc (.int .i64 (.ofNat n))
   | .full _ _ n _ => vc (.int .i64 (.ofNat n))
   | _ => none
  | _ => none
 | .agg _ => bnd (E.ti.get t) fun ti => match ti.k with
  | .arr n _ _ => vc (.int .i64 (.ofNat n))
  | _ => none
/- Operations that read memory. -/
def cellsOf (b : AB) : Option (List AC) := match b with
 | .row _ cs => some cs
 | .map _ _ => none
def opLoad (E : Env) (tm : PT AV) (h : PT AB) (t : Nat) (x : Operand) : Option AV := evc tm x fun c => match c with
 | .ptr i off => bnd (h.get i) fun b => bnd (cellsOf b) fun cs => bnd (E.ti.get t) fun ti => bnd (TI.part ti.size ti.agg cs off) fun w => some (.w w)
 | _ => none
def shapeB (ks : KS) (k : AW) : Bool := match ks with
 | .int => match k with
  | .c c => isI c
  | .agg _ => false
 | .str => match k with
  | .c c => isS c
  | .agg _ => false
 | .pair => match k with
  | .c _ => false
  | .agg l => match l with
   | [a, b] => and (isI a) (isS b)
   | _ => false
def eqD (a b : AC) : Bool := match eqC a b with
 | some r => r
 | none => false
def eqK (a b : AW) : Bool := match a with
 | .c a => match b with
  | .c b => eqD a b
  | .agg _ => false
 | .agg a => match b with
  | .agg b => match eqL a b with
   | some r => r
   | none => false
  | .c _ => false
def findK (k : AW) (es : List (AW × AW)) : Option AW := lrec none (fun e _ r => match eqK k e.1 with
 | true => some e.2
 | false => r) es
def putK (k v : AW) (es : List (AW × AW)) : List (AW × AW) := lrec [(k, v)] (fun e l r => match eqK k e.1 with
 | true => (k, v) :: l
 | false => e :: r) es
def zeroW (ti : TI) : Option AW := match ti.agg with
 | true => some (.agg ti.zero)
 | false => match ti.zero with
  | [c] => some (.c c)
  | _ => none
def sameK (a b : KS) : Bool := match a, b with
 | .int, .int => true
 | .str, .str => true
 | .pair, .pair => true
 | _, _ => false
def mapEs (b : AB) (ks : KS) : Option (List (AW × AW)) := match b with
 | .map j es => match sameK j ks with
  | true => some es
  | false => none
 | .row _ _ => none
def lookEs (h : PT AB) (ks : KS) (c : AC) : Option (List (AW × AW)) := match c with
 | .nilm => some []
 | .map i => bnd (h.get i) fun b => mapEs b ks
 | _ => none
def opLookup (E : Env) (tm : PT AV) (h : PT AB) (t : Nat) (x k : Operand) (ok : Bool) : Option AV := bnd (E.ti.get t) fun ti => match ti.k with
 | .map ks _ e => evw tm k fun k => match shapeB ks k with
  | true => evc tm x fun c => bnd (lookEs h ks c) fun es => bnd (match findK k es with
    | some v => some (v, true)
    | none => bnd (E.ti.get e) fun te => bnd (zeroW te) fun z => some (z, false)) fun p => match ok with
   | true => some (.tup [p.1, .c (.bool p.2)])
   | false => some (.w p.1)
  | false => none
 | _ => none
/- Operations that make a block. -/
inductive NK where
 | ptr | slice (len : Nat) | map
def NK.val (k : NK) (i : Nat) : AV := match k with
 | .ptr => .w (.c (.ptr i 0))
 | .slice len => .w (.c (.slice i 0 len 0))
 | .map => .w (.c (.map i))
def reps (n : Nat) (z : List AC) : List AC := nrec [] (fun _ r => z ++ r) n
def opAlloc (E : Env) (t : Nat) : Option (AB × NK) := bnd (E.ti.get t) fun ti => some (.row 0 ti.zero, .ptr)
def opBox (tm : PT AV) (x : Operand) : Option (AB × NK) := evw tm x fun w => some (.row 0 w.cells, .ptr)
def opBuildSlice (E : Env) (tm : PT AV) (t len : Nat) (ps : Array (Nat × Operand)) : Option (AB × NK) := bnd (E.ti.get t) fun ti => match ti.k with
 | .slice e esz _ => bnd (E.ti.get e) fun te => bnd (evp tm ps.toList) fun ps => match Nat.ble (len * esz) 1000000 with
  | true => bnd (fillS (fun i => some (i * esz, esz)) (reps len te.zero) ps) fun cs => some (.row esz cs, .slice len)
  | false => none
 | _ => none
def opMakeSlice (E : Env) (tm : PT AV) (t : Nat) (l c : Operand) : Option (AB × NK) := bnd (E.ti.get t) fun ti => match ti.k with
 | .slice e esz eb => bnd (E.ti.get e) fun te => evn tm l fun l => evn tm c fun c => match Nat.ble l c with
  | true => match Nat.ble (c * (eb + 1)) 1000000 with
   | true => some (.row esz (reps l te.zero), .slice l)
   | false => none
  | false => none
 | _ => none
/- Operations that turn a block. -/
def opStore (E : Env) (tm : PT AV) (s : HS) (t : Nat) (x y : Operand) : Option HS := bnd (E.ti.get t) fun ti => evc tm x fun c => evw tm y fun w => match Nat.beq w.cells.length ti.size with
 | true => match c with
  | .ptr i off => bnd (s.h.get i) fun b => match b with
   | .row e cs => bnd (splice cs off w.cells) fun cs => some (s.put i (some (.row e cs)))
   | .map _ _ => none
  | _ => none
 | false => none
def opMapUpdate (E : Env) (tm : PT AV) (s : HS) (t : Nat) (m k x : Operand) : Option HS := bnd (E.ti.get t) fun ti => match ti.k with
 | .map ks _ _ => evc tm m fun c => evw tm k fun k => match shapeB ks k with
  | true => evw tm x fun w => match c with
   | .map i => bnd (s.h.get i) fun b => bnd (mapEs b ks) fun es => some (s.put i (some (.map ks (putK k w es))))
   | _ => none
  | false => none
 | _ => none
def opMakeMap (E : Env) (t : Nat) : Option (AB × NK) := bnd (E.ti.get t) fun ti => match ti.k with
 | .map ks _ _ => some (.map ks [], .map)
 | _ => none
def srcCells (h : PT AB) (esz : Nat) (c : AC) : Option (Nat × List AC) := match c with
 | .nils => some (0, [])
 | .slice i off len _ => bnd (h.get i) fun b => bnd (cellsOf b) fun cs => bnd (cut cs off (len * esz)) fun l => some (len, l)
 | .full i off len _ => bnd (h.get i) fun b => bnd (cellsOf b) fun cs => bnd (cut cs off (len * esz)) fun l => some (len, l)
 | _ => none
def appRow (s : HS) (esz i off len k n : Nat) (new : List AC) : Option (AV × HS) := bnd (s.h.get i) fun b => match b with
 | .row e cs => match Nat.beq e esz with
  | true => match Nat.beq off (k * esz) with
   | true => match Nat.beq cs.length (off + len * esz) with
    | true => some (.w (.c (.slice s.nx 0 (len + (n + 1)) 0)), (s.put i none).new (.row esz (cs.drop off ++ new)))
    | false => none
   | false => none
  | false => none
 | .map _ _ => none
def app (s : HS) (esz eb : Nat) (c : AC) (m : Nat) (new : List AC) : Option (AV × HS) := match m with
 | 0 => match c with
  | .nils => some (.w (.c c), s)
  | .slice _ _ _ _ => some (.w (.c c), s)
  | .full _ _ _ _ => some (.w (.c c), s)
  | _ => none
 | n + 1 => match c with
  | .nils => match Nat.ble ((n + 1) * eb) 1000000 with
   | true => some (.w (.c (.slice s.nx 0 (n + 1) 0)), s.new (.row esz new))
   | false => none
  | .slice i off len k => match Nat.ble ((len + (n + 1)) * eb) 1000000 with
   | true => appRow s esz i off len k n new
   | false => none
  | _ => none
def opAppend (E : Env) (tm : PT AV) (s : HS) (t : Nat) (x y : Operand) : Option (AV × HS) := evc tm x fun c => evc tm y fun d => bnd (E.ti.get t) fun ti => match ti.k with
 | .slice e esz eb => bnd (E.ti.get e) fun _ => bnd (srcCells s.h esz d) fun p => app s esz eb c p.1 p.2
 | _ => none
inductive Res where
 | val (v : AV) (s : HS)
 | call (f : Nat) (args : List AV)
def rv (s : HS) (v : Option AV) : Option Res := bnd v fun v => some (.val v s)
def undV : AV := .tup []
def rs (s : Option HS) : Option Res := bnd s fun s => some (.val undV s)
def rn (s : HS) (r : Option (AB × NK)) : Option Res := bnd r fun p => some (.val (p.2.val s.nx) (s.new p.1))
def ra (r : Option (AV × HS)) : Option Res := bnd r fun p => some (.val p.1 p.2)
def opCall (E : Env) (tm : PT AV) (s : HS) (c : Call) : Option Res := match c.callee with
 | .builtin b => match b with
  | .len => match c.args.toList with
   | [x] => match c.argTypes.toList with
    | [t] => rv s (opLen E tm t x)
    | _ => none
   | _ => none
  | .append => match c.args.toList with
   | [x, y] => match c.argTypes.toList with
    | [t, u] => match Nat.beq t u with
     | true => ra (opAppend E tm s t x y)
     | false => none
    | _ => none
   | _ => none
  | .min => rv s (opMin tm true c.args.toList)
  | .max => rv s (opMin tm false c.args.toList)
  | _ => none
 | .value f => evc tm f fun c' => match c' with
  | .fn f => bnd (evs tm c.args.toList) fun l => some (.call f l)
  | _ => none
 | .invoke _ _ => none
def opRun (E : Env) (tm : PT AV) (s : HS) (o : Op) : Option Res := match o with
 | .move x => rv s (ev tm x)
 | .assign x => rv s (ev tm x)
 | .pick c a b => rv s (opPick tm c a b)
 | .alloc t => rn s (opAlloc E t)
 | .box _ x => rn s (opBox tm x)
 | .build t ps => rv s (opBuild E tm t ps)
 | .buildSlice t n ps => rn s (opBuildSlice E tm t n ps)
 | .insert t m k x => rs (opMapUpdate E tm s t m k x)
 | .load t x => rv s (opLoad E tm s.h t x)
 | .store t x y => rs (opStore E tm s t x y)
 | .nilCheck x => rv s (opNil tm x)
 | .binOp op t x y _ => rv s (opBin E tm op t x y)
 | .unOp op _ x => rv s (opUn tm op x)
 | .convert t d x => rv s (opConv E tm t d x)
 | .makeMap t r => match r with
  | none => rn s (opMakeMap E t)
  | some _ => none
 | .makeSlice t l c => rn s (opMakeSlice E tm t l c)
 | .slice t x lo hi mx => rv s (opSlice E tm t x lo hi mx)
 | .fieldAddr t x f => rv s (opFieldAddr E tm t x f)
 | .field t x f => rv s (opField E tm t x f)
 | .indexAddr t x i => rv s (opIndexAddr E tm t x i)
 | .index t x i => rv s (opIndex E tm t x i)
 | .lookup t x k ok => rv s (opLookup E tm s.h t x k ok)
 | .mapUpdate t m k x => rs (opMapUpdate E tm s t m k x)
 | .extract x n => rv s (opExtract tm x n)
 | .call c => opCall E tm s c
 | _ => none
abbrev CallT := Nat → List AV → HS → Option (AV × HS)
def opDo (E : Env) (K : CallT) (tm : PT AV) (s : HS) (o : Op) : Option (AV × HS) := bnd (opRun E tm s o) fun r => match r with
 | .val v s => some (v, s)
 | .call f args => K f args s
def want (all : List Oper) (tm : PT AV) (g : Option (Nat × Bool)) : Option Bool := match g with
 | none => some true
 | some (j, b) => bnd all[j]? fun o => bnd o.dst fun t => bnd (tm.get t) fun v => match v with
  | .w x => match x with
   | .c c => match c with
    | .bool a => some (match a with | true => b | false => not b)
    | _ => none
   | .agg _ => none
  | .tup l => match l with
   | [] => some false
   | _ :: _ => none
def putD {β : Type} (sz : Nat) (tm : PT AV) (d : Option Nat) (v : AV) (k : PT AV → Option β) : Option β := match d with
 | none => k tm
 | some d => match Nat.blt d sz with
  | true => fz v fun v => (tm.set d (some v)).fc k
  | false => none
def runOps (E : Env) (K : CallT) (sz : Nat) (all l : List Oper) : PT AV → HS → Option (PT AV × HS) :=
 lrec (fun tm s => some (tm, s)) (fun o _ ih tm s => bnd (want all tm o.guard) fun b => match b with
  | true => bnd (opDo E K tm s o.op) fun p => p.2.fc fun s => putD sz tm o.dst p.1 fun tm => ih tm s
  | false => putD sz tm o.dst undV fun tm => ih tm s) l
/- Regions that draw their order. -/
def bindsB (e : Edge) : Bool := match e.ground with
 | .textOnly _ => false
 | .gcOnly _ => false
 | _ => true
def testB (m i : Nat) : Bool := Nat.beq (Nat.land (Nat.shiftRight m i) 1) 1
def bit (i : Nat) : Nat := Nat.shiftLeft 1 i
def maskOf (acc : List Nat) (es : List Edge) : Option Nat := lrec (some 0) (fun e _ r => match bindsB e with
 | false => r
 | true => bnd acc[e.on]? fun m => bnd r fun n => some (Nat.lor (Nat.lor n (bit e.on)) m)) es
def masks (ops : List Oper) : List Nat → Option (List Nat) := lrec (fun acc => some acc) (fun o _ ih acc => bnd (maskOf acc o.after.toList) fun m => ih (acc ++ [m])) ops
def opTmps (x : Operand) : Option Nat := match x with
 | .tmp t => some t
 | _ => none
def readsT (l : List Operand) (t : Nat) : Bool := lrec false (fun x _ r => match x with
 | .tmp u => match Nat.beq u t with
  | true => true
  | false => r
 | _ => r) l
def looks (ops : List Oper) (o : Oper) (t : Nat) : Bool := match readsT o.op.operands.toList t with
 | true => true
 | false => match o.guard with
  | none => false
  | some g => match ops[g.1]? with
   | none => true
   | some p => match p.dst with
    | none => false
    | some u => Nat.beq u t
def clash (ops : List Oper) (Bs : List Nat) (i : Nat) (o : Oper) (bi : Nat) (l : List Oper) : Nat → Bool := lrec (fun _ => true) (fun p _ ih k => match p.dst with
 | none => ih (k + 1)
 | some t => match Nat.beq k i with
  | true => ih (k + 1)
  | false => match (match o.dst with | none => false | some u => Nat.beq u t) with
   | true => false
   | false => match looks ops o t with
    | false => ih (k + 1)
    | true => match Nat.blt k i with
     | true => match testB bi k with
      | true => ih (k + 1)
      | false => false
     | false => match Bs[k]? with
      | none => false
      | some bk => match testB bk i with
       | true => ih (k + 1)
       | false => false) l
def clashAll (ops : List Oper) (Bs : List Nat) (l : List Oper) : Nat → Bool := lrec (fun _ => true) (fun o _ ih i => match Bs[i]? with
 | none => false
 | some bi => match clash ops Bs i o bi ops 0 with
  | true => ih (i + 1)
  | false => false) l
def plan (ops : List Oper) : Option (List Nat) := bnd (masks ops []) fun Bs => match clashAll ops Bs ops 0 with
 | true => some Bs
 | false => none
inductive RK where
 | skip | pure | new (b : AB) | load | eff (s : HS) | late (id : Nat) (b : AB)
structure Rd where
 kd : RK
 v : AV
structure LdR where
 i : Nat
 op : Op
 tm : PT AV
 v : AV
 b : Nat
structure SS where
 don : Nat
 ins : Nat
 h : PT AB
structure DS where
 tm : PT AV
 cur : HS
 don : Nat
 ins : Nat
 pend : List (Nat × AB)
 sts : List SS
 lds : List LdR
 effs : List (Nat × Nat × Option Nat)
 late : Option (Nat × Nat × AB)
def addP (base : Nat) (b ins : Nat) (h : PT AB) (pend : List (Nat × AB)) : PT AB := lrec h (fun p _ r => match testB b p.1 with
 | true => match testB ins p.1 with
  | true => r
  | false => r.fc fun r => r.set (base + p.1) (some p.2)
 | false => r) pend
def pendMask (b : Nat) (pend : List (Nat × AB)) : Nat := lrec 0 (fun p _ r => match testB b p.1 with
 | true => Nat.lor r (bit p.1)
 | false => r) pend
def clsOf (o : Op) : Nat := match o with
 | .alloc _ => 1 | .box _ _ => 1 | .buildSlice _ _ _ => 1 | .makeMap _ _ => 1 | .makeSlice _ _ _ => 1
 | .load _ _ => 2 | .lookup _ _ _ _ => 2
 | .store _ _ _ => 3 | .mapUpdate _ _ _ _ => 3 | .insert _ _ _ _ => 3
 | .call c => match c.callee with
  | .builtin b => match b with
   | .append => 3
   | _ => 0
  | _ => 3
 | _ => 0
def opLd (E : Env) (tm : PT AV) (h : PT AB) (o : Op) : Option AV := match o with
 | .load t x => opLoad E tm h t x
 | .lookup t x k ok => opLookup E tm h t x k ok
 | _ => none
def incl (a b : Nat) : Bool := Nat.beq (Nat.lor a b) b
def storeId (tm : PT AV) (o : Op) : Option Nat := match o with
 | .store _ x _ => evc tm x fun c => match c with
  | .ptr i _ => some i
  | _ => none
 | _ => none
def allB {α : Type} (f : α → Bool) (l : List α) : Bool := lrec true (fun x _ r => match f x with
 | true => r
 | false => false) l
def lateOf (E : Env) (base : Nat) (d : DS) (b : Nat) (o : Op) : Option Rd := match d.effs with
 | [] => none
 | e :: _ => bnd e.2.2 fun ip => bnd (storeId d.tm o) fun id => match Nat.beq id ip with
  | true => none
  | false => match incl d.don (Nat.lor b (bit e.1)) with
   | false => none
   | true => match allB (fun x : LdR => testB b x.i) d.lds with
    | false => none
    | true => bnd (opRun E d.tm ⟨addP base b d.ins d.cur.h d.pend, 0⟩ o) fun r => match r with
     | .call _ _ => none
     | .val v s => bnd (s.h.get id) fun x => some ⟨.late id x, v⟩
def noLate {α : Type} (d : DS) (x : Option α) : Option α := match d.late with
 | none => x
 | some _ => none
def rcOf (E : Env) (K : CallT) (base : Nat) (all : List Oper) (d : DS) (i b : Nat) (o : Oper) : Option Rd := bnd (want all d.tm o.guard) fun t => match t with
 | false => some ⟨.skip, undV⟩
 | true => match clsOf o.op with
  | 0 => bnd (opRun E d.tm ⟨.nil, 0⟩ o.op) fun r => match r with
   | .call _ _ => none
   | .val v s => match Nat.beq s.nx 0 with
    | true => some ⟨.pure, v⟩
    | false => none
  | 1 => bnd (opRun E d.tm ⟨.nil, base + i⟩ o.op) fun r => match r with
   | .call _ _ => none
   | .val v s => match Nat.beq s.nx (base + i + 1) with
    | true => bnd (s.h.get (base + i)) fun b => some ⟨.new b, v⟩
    | false => none
  | 2 => noLate d (bnd (opLd E d.tm (addP base b d.ins d.cur.h d.pend) o.op) fun v => some ⟨.load, v⟩)
  | _ => noLate d (match incl d.don b with
   | true => bnd (opDo E K d.tm ⟨addP base b d.ins d.cur.h d.pend, d.cur.nx⟩ o.op) fun p => p.2.fc fun s => some ⟨.eff s, p.1⟩
   | false => lateOf E base d b o.op)
def dUpd (d : DS) (tm : PT AV) (i b : Nat) (o : Oper) (r : Rd) : DS := match r.kd with
 | .skip => { d with tm := tm }
 | .pure => { d with tm := tm }
 | .new x => { d with tm := tm, pend := (i, x) :: d.pend }
 | .load => { d with tm := tm, lds := ⟨i, o.op, d.tm, r.v, b⟩ :: d.lds }
 | .eff s => ⟨tm, s, Nat.lor d.don (bit i), Nat.lor d.ins (pendMask b d.pend), d.pend, ⟨Nat.lor d.don (bit i), Nat.lor d.ins (pendMask b d.pend), s.h⟩ :: d.sts, d.lds, (i, b, storeId d.tm o.op) :: d.effs, d.late⟩
 | .late id x => { d with tm := tm, late := some (i, id, x) }
def dStep (E : Env) (K : CallT) (sz base : Nat) (all : List Oper) (d : DS) (i b : Nat) (o : Oper) : Option DS := bnd (rcOf E K base all d i b o) fun r => putD sz d.tm o.dst r.v fun tm => some (dUpd d tm i b o r)
def dGo (E : Env) (K : CallT) (sz base : Nat) (all : List Oper) (Bs : List Nat) (l : List Oper) : Nat → DS → Option DS := lrec (fun _ d => some d) (fun o _ ih i d => bnd Bs[i]? fun b => bnd (dStep E K sz base all d i b o) fun d => ih (i + 1) d) l
def clean (base ins : Nat) (h : PT AB) (n : Nat) : Bool := nrec true (fun k r => match testB ins k with
 | true => r
 | false => match h.get (base + k) with
  | none => r
  | some _ => false) n
def hitB (i don : Nat) (effs : List (Nat × Nat × Option Nat)) : Bool := lrec false (fun e _ r => match testB don e.1 with
 | true => match testB e.2.1 i with
  | true => true
  | false => r
 | false => r) effs
def ldOk (E : Env) (base : Nat) (d : DS) (x : LdR) (t : SS) : Bool := match incl (Nat.land x.b d.don) t.don with
 | false => true
 | true => match hitB x.i t.don d.effs with
  | true => true
  | false => match opLd E x.tm (addP base x.b t.ins t.h d.pend) x.op with
   | none => false
   | some v => decide (v = x.v)
def lateH (h : PT AB) (l : Option (Nat × Nat × AB)) : PT AB := match l with
 | none => h
 | some x => h.set x.2.1 (some x.2.2)
def roomOf (n : Nat) : Nat := match Nat.ble n 32 with
 | true => 32
 | false => n
def drawOps (E : Env) (K : CallT) (sz : Nat) (ops : List Oper) (tm : PT AV) (s : HS) : Option (PT AV × HS) := bnd (plan ops) fun Bs =>
 bnd (dGo E K sz s.nx ops Bs ops 0 ⟨tm, ⟨s.h, s.nx + roomOf ops.length⟩, 0, 0, [], [⟨0, 0, s.h⟩], [], [], none⟩) fun d =>
  match allB (fun t => clean s.nx t.ins t.h ops.length) d.sts with
  | false => none
  | true => match allB (fun x => allB (fun t => ldOk E s.nx d x t) d.sts) d.lds with
   | false => none
   | true => (lateH (addP s.nx (Nat.sub (bit ops.length) 1) d.ins d.cur.h d.pend) d.late).fc fun h => some (d.tm, ⟨h, d.cur.nx⟩)
/- A drawn truth value: a variable that two stores without an order fill. -/
def meetV {α : Type} (eq : α → α → Bool) (v w : Option α) : Option α := match v with
 | none => none
 | some x => match w with
  | none => none
  | some y => match eq x y with
   | true => some x
   | false => none
def PT.meet {α : Type} (eq : α → α → Bool) (t : PT α) : PT α → PT α := prec (fun _ => .nil) (fun _ v _ ml mr u => u.open_ fun l w r => (ml l).fc fun l => (mr r).fc fun r => .node l (meetV eq v w) r) t
def isStB (ty t1 : Nat) (o : Oper) : Bool := match o.op with
 | .store t x y => match x with
  | .tmp u => match y with
   | .const v => match v with
    | .bool _ => match o.dst with
     | none => match o.guard with
      | none => and (Nat.beq t ty) (Nat.beq u t1)
      | some _ => false
     | some _ => false
    | _ => false
   | _ => false
  | _ => false
 | _ => false
def onB (l : List Edge) : List Nat := lrec [] (fun e _ r => match bindsB e with
 | true => e.on :: r
 | false => r) l
def only0 (l : List Nat) : Bool := match l with
 | [x] => Nat.beq x 0
 | _ => false
def coinOps (E : Env) (l : List Oper) : Option (Nat × Nat) := match l with
 | [o0, o1, o2, o3] => match o0.op with
  | .alloc ty => match o0.dst with
   | some t1 => match o3.op with
    | .load ty2 x => match x with
     | .tmp u => match o3.dst with
      | some t2 => match o0.guard with
       | none => match o3.guard with
        | none => bnd (E.ti.get ty) fun ti => match ti.k with
         | .bool => match and (and (and (isStB ty t1 o1) (isStB ty t1 o2)) (and (Nat.beq ty ty2) (Nat.beq u t1))) (and (and (only0 (onB o1.after.toList)) (only0 (onB o2.after.toList))) (and (and (Nat.beq ti.size 1) (Nat.beq (onB o0.after.toList).length 0)) (and (and (memN 1 (onB o3.after.toList)) (memN 2 (onB o3.after.toList))) (allB (fun k => Nat.blt k 3) (onB o3.after.toList))))) with
          | true => match Nat.beq t1 t2 with
           | true => none
           | false => some (t1, t2)
          | false => none
         | _ => none
        | some _ => none
       | some _ => none
      | none => none
     | _ => none
    | _ => none
   | none => none
  | _ => none
 | _ => none
def coinOf (E : Env) (c : Code) : Option (Nat × Nat) := match c with
 | .region _ ops d => match d with
  | true => coinOps E ops.toList
  | false => none
 | _ => none
def eqV_ (x y : AV) : Bool := decide (x = y)
def eqB_ (x y : AB) : Bool := decide (x = y)
inductive Ex where
 | normal | exit (id : Nat) | ret
abbrev CodeT := Nat → Code → PT AV → HS → Option (Ex × PT AV × HS)
def coinTm (sz t1 t2 : Nat) (b : Bool) (tm : PT AV) : Option (PT AV) := match and (Nat.blt t1 sz) (Nat.blt t2 sz) with
 | true => some ((tm.set t1 none).set t2 (some (.w (.c (.bool b)))))
 | false => none
def coinStep (C : CodeT) (sz t1 t2 : Nat) (c : Code) (tm : PT AV) (s : HS) : Option (Ex × PT AV × HS) := match c with
 | .cond x a b => match x with
  | .tmp u => match Nat.beq u t2 with
   | true => bnd (coinTm sz t1 t2 true tm) fun tm1 => bnd (C sz a tm1 s) fun p => bnd (coinTm sz t1 t2 false tm) fun tm2 => bnd (C sz b tm2 s) fun q => match p.1 with
    | .normal => match q.1 with
     | .normal => some (.normal, p.2.1.meet eqV_ q.2.1, ⟨p.2.2.h.meet eqB_ q.2.2.h, Nat.add p.2.2.nx (Nat.sub q.2.2.nx p.2.2.nx)⟩)
     | _ => none
    | _ => none
   | false => none
  | _ => none
 | _ => none
def codeStep (E : Env) (K : CallT) (C : CodeT) : CodeT := fun sz c tm s => match c with
 | .skip => some (.normal, tm, s)
 | .label _ => some (.normal, tm, s)
 | .ret => some (.ret, tm, s)
 | .exit i => some (.exit i, tm, s)
 | .region _ ops d => match d with
  | false => bnd (runOps E K sz ops.toList ops.toList tm s) fun p => some (.normal, p.1, p.2)
  | true => bnd (drawOps E K sz ops.toList tm s) fun p => some (.normal, p.1, p.2)
 | .seq a b => match coinOf E a with
  | some t => coinStep C sz t.1 t.2 b tm s
  | none => bnd (C sz a tm s) fun r => match r.1 with
   | .normal => C sz b r.2.1 r.2.2
   | .exit _ => some r
   | .ret => some r
 | .cond c a b => evc tm c fun c => match c with
  | .bool t => match t with
   | true => C sz a tm s
   | false => C sz b tm s
  | _ => none
 | .block id b => bnd (C sz b tm s) fun r => match r.1 with
  | .normal => some r
  | .exit j => match Nat.beq j id with
   | true => some (.normal, r.2)
   | false => some r
  | .ret => some r
 | .loop b => bnd (C sz b tm s) fun r => match r.1 with
  | .normal => C sz c r.2.1 r.2.2
  | .exit _ => some r
  | .ret => some r
 | _ => none
def tmGo (args : List AV) : PT AV → Nat → PT AV := lrec (fun tm _ => tm) (fun v _ ih tm n => (PT.set tm n (some v)).fc fun tm => ih tm (n + 1)) args
def tmOf (args : List AV) : PT AV := tmGo args .nil 0
def resOf (E : Env) (tm : PT AV) (h : PT AB) (r : ResultVar) : Option AW := match r with
 | .tmp t => bnd (tm.get t) fun v => asW v some
 | .cell a t => bnd (tm.get a) fun v => asW v fun w => asC w fun c => match c with
  | .ptr i off => bnd (h.get i) fun b => bnd (cellsOf b) fun cs => bnd (E.ti.get t) fun ti => TI.part ti.size ti.agg cs off
  | _ => none
def resList (E : Env) (tm : PT AV) (h : PT AB) (l : List ResultVar) : Option (List AW) := lrec (some []) (fun r _ ih => bnd (resOf E tm h r) fun w => bnd ih fun ws => some (w :: ws)) l
def resV (l : List AW) : AV := match l with
 | [] => .tup []
 | w :: r => match r with
  | [] => .w w
  | _ :: _ => .tup l
def callStep (E : Env) (C : CodeT) : CallT := fun f args s => match E.hook f args s with
 | some p => some p
 | none => bnd (E.fn.get f) fun fn => bnd fn.body fun body => bnd (match Nat.ble args.length fn.ntmps with | true => C fn.ntmps body (tmOf args) s | false => none) fun r => match r.1 with
  | .exit _ => none
  | .normal => bnd (resList E r.2.1 r.2.2.h fn.results.toList) fun l => some (resV l, r.2.2)
  | .ret => bnd (resList E r.2.1 r.2.2.h fn.results.toList) fun l => some (resV l, r.2.2)
def run (E : Env) (n : Nat) : CallT × CodeT := nrec (fun _ _ _ => none, fun _ _ _ _ => none) (fun _ ih => (callStep E ih.2, codeStep E ih.1 ih.2)) n
end
end Go.Proofs.YtabmjadcoepbeaaGreat.Ev
namespace Go.Proofs.YtabmjadcoepbeaaGreat.Ev

/- The tree. -/
theorem PT.fc_eq {α β : Type} (t : PT α) (k : PT α → β) : t.fc k = k t := by cases t <;> rfl
theorem fork_zero {β : Type} (z : β) (l r : Nat → β) : fork 0 z l r = z := rfl
theorem fork_succ {β : Type} (m : Nat) (z : β) (l r : Nat → β) : fork (m + 1) z l r = if m % 2 = 0 then l (m / 2) else r (m / 2) := by
 show (match Nat.beq (m % 2) 0 with | true => l (m / 2) | false => r (m / 2)) = _
 cases h : Nat.beq (m % 2) 0 with
 | true => rw [if_pos (Nat.eq_of_beq_eq_true h)]
 | false => rw [if_neg (Nat.ne_of_beq_eq_false h)]
theorem PT.get_nil {α : Type} (m : Nat) : (PT.nil : PT α).get m = none := rfl
theorem PT.get_node {α : Type} (l r : PT α) (v : Option α) (m : Nat) : (PT.node l v r).get m = fork m v l.get r.get := rfl
theorem PT.setF_get {α : Type} {v : Option α} : ∀ (f : Nat) (t : PT α) (n m : Nat) {a : α}, (PT.setF v f t n).get m = some a → (m = n ∧ v = some a) ∨ (m ≠ n ∧ t.get m = some a)
 | 0, t, n, m, a, h => by cases (show (PT.nil : PT α).get m = some a from h)
 | f + 1, t, n, m, a, h => by
  have key : ∀ (l r : PT α) (u : Option α), (fork n (PT.node l v r) (fun k => (PT.setF v f l k).fc fun l => .node l u r) (fun k => (PT.setF v f r k).fc fun r => .node l u r)).get m = some a →
    (m = n ∧ v = some a) ∨ (m ≠ n ∧ (PT.node l u r).get m = some a) := by
   intro l r u h
   simp only [PT.fc_eq] at h
   cases n with
   | zero =>
    rw [fork_zero, PT.get_node] at h
    cases m with
    | zero => exact .inl ⟨rfl, h⟩
    | succ m => exact .inr ⟨by omega, by rw [PT.get_node]; rw [fork_succ] at h ⊢; exact h⟩
   | succ n =>
    rw [fork_succ] at h
    cases m with
    | zero => exact .inr ⟨by omega, by split at h <;> exact h⟩
    | succ m =>
     rw [PT.get_node, fork_succ]
     split at h
     ·rename_i hn
      rw [PT.get_node, fork_succ] at h
      split at h
      ·rename_i hm
       rw [if_pos hm]
       rcases PT.setF_get f l (n / 2) (m / 2) h with ⟨e, hv⟩ | ⟨e, hg⟩
       ·exact .inl ⟨by omega, hv⟩
       ·exact .inr ⟨by omega, hg⟩
      ·rename_i hm
       rw [if_neg hm]
       exact .inr ⟨by omega, h⟩
     ·rename_i hn
      rw [PT.get_node, fork_succ] at h
      split at h
      ·rename_i hm
       rw [if_pos hm]
       exact .inr ⟨by omega, h⟩
      ·rename_i hm
       rw [if_neg hm]
       rcases PT.setF_get f r (n / 2) (m / 2) h with ⟨e, hv⟩ | ⟨e, hg⟩
       ·exact .inl ⟨by omega, hv⟩
       ·exact .inr ⟨by omega, hg⟩
  have h' : (t.open_ fun l u r => fork n (PT.node l v r) (fun m => (PT.setF v f l m).fc fun l => PT.node l u r) (fun m => (PT.setF v f r m).fc fun r => PT.node l u r)).get m = some a := h
  cases t with
  | nil =>
   rcases key .nil .nil none h' with h1 | ⟨h1, h2⟩
   ·exact .inl h1
   ·refine .inr ⟨h1, ?_⟩
    rw [PT.get_node] at h2
    cases m with
    | zero => cases h2
    | succ m => rw [fork_succ] at h2; split at h2 <;> cases h2
  | node l u r => exact key l r u h'
theorem PT.get_set {α : Type} {t : PT α} {n m : Nat} {v : Option α} {a : α} (h : (t.set n v).get m = some a) : (m = n ∧ v = some a) ∨ (m ≠ n ∧ t.get m = some a) := PT.setF_get 24 t n m h

/- Where blocks lie. -/
structure Pl where
 blk : Nat
 base : Nat
 cap : Nat
abbrev Phi := Nat → Option Pl
def conc (φ : Phi) (c : AC) : Value := match c with
 | .bool b => .bool b
 | .int k n => .int k n
 | .str s => .string ⟨⟨s⟩⟩
 | .nilp => .pointer none
 | .ptr i off => match φ i with
  | some p => .pointer (some ⟨p.blk, p.base + off, none⟩)
  | none => undef
 | .nils => .slice none 0 0
 | .slice i off len k => match φ i with
  | some p => .slice (some ⟨p.blk, p.base + off, none⟩) len (p.cap - k)
  | none => undef
 | .full i off len cap => match φ i with
  | some p => .slice (some ⟨p.blk, p.base + off, none⟩) len cap
  | none => undef
 | .nilm => .map none
 | .map i => match φ i with
  | some p => .map (some p.blk)
  | none => undef
 | .fn f => .func (.func f) #[] #[]
 | .nilf => .nilFunc
 | .nili => .nilIface
def okC (φ : Phi) (c : AC) : Prop := match c with
 | .ptr i _ => ∃ p, φ i = some p
 | .slice i _ len k => ∃ p, φ i = some p ∧ k + len ≤ p.cap
 | .full i _ len cap => (∃ p, φ i = some p) ∧ len ≤ cap
 | .map i => ∃ p, φ i = some p
 | _ => True
def okCs (φ : Phi) (cs : List AC) : Prop := ∀ c ∈ cs, okC φ c
def concW (φ : Phi) (w : AW) : Value := match w with
 | .c x => conc φ x
 | .agg cs => .agg (cs.map (conc φ)).toArray
def okW (φ : Phi) (w : AW) : Prop := okCs φ w.cells
def concV (φ : Phi) (v : AV) : Value := match v with
 | .w x => concW φ x
 | .tup vs => .tuple (vs.map (concW φ)).toArray
def okV (φ : Phi) (v : AV) : Prop := match v with
 | .w x => okW φ x
 | .tup vs => ∀ x ∈ vs, okW φ x
def Phi.le (φ ψ : Phi) : Prop := ∀ i p, φ i = some p → ψ i = some p
theorem Phi.le_refl (φ : Phi) : φ.le φ := fun _ _ h => h
theorem Phi.le_trans {φ ψ χ : Phi} (h : φ.le ψ) (k : ψ.le χ) : φ.le χ := fun i p e => k i p (h i p e)
section
variable {φ ψ : Phi}
theorem conc_le (h : φ.le ψ) {c : AC} (hc : okC φ c) : conc ψ c = conc φ c := by
 cases c <;> first | rfl | skip
 case ptr i off => obtain ⟨p, hp⟩ := hc; simp only [conc, hp, h i p hp]
 case slice i off len k => obtain ⟨p, hp, _⟩ := hc; simp only [conc, hp, h i p hp]
 case full i off len cap => obtain ⟨⟨p, hp⟩, _⟩ := hc; simp only [conc, hp, h i p hp]
 case map i => obtain ⟨p, hp⟩ := hc; simp only [conc, hp, h i p hp]
theorem okC.le (h : φ.le ψ) {c : AC} (hc : okC φ c) : okC ψ c := by
 cases c <;> first | exact trivial | skip
 case ptr i off => obtain ⟨p, hp⟩ := hc; exact ⟨p, h i p hp⟩
 case slice i off len k => obtain ⟨p, hp, hl⟩ := hc; exact ⟨p, h i p hp, hl⟩
 case full i off len cap => obtain ⟨⟨p, hp⟩, hl⟩ := hc; exact ⟨⟨p, h i p hp⟩, hl⟩
 case map i => obtain ⟨p, hp⟩ := hc; exact ⟨p, h i p hp⟩
theorem okCs.le (h : φ.le ψ) {cs : List AC} (hc : okCs φ cs) : okCs ψ cs := fun c m => (hc c m).le h
theorem concs_le (h : φ.le ψ) {cs : List AC} (hc : okCs φ cs) : cs.map (conc ψ) = cs.map (conc φ) := List.map_congr_left fun c m => conc_le h (hc c m)
theorem okW.le (h : φ.le ψ) {w : AW} (hc : okW φ w) : okW ψ w := okCs.le h hc
theorem concW_le (h : φ.le ψ) {w : AW} (hc : okW φ w) : concW ψ w = concW φ w := by
 cases w with
 | c x => exact conc_le h (hc x (by simp [AW.cells]))
 | agg cs => simp only [concW]; rw [concs_le h (cs := cs) hc]
theorem okV.le (h : φ.le ψ) {v : AV} (hc : okV φ v) : okV ψ v := by
 cases v with
 | w x => exact okW.le h hc
 | tup vs => exact fun x m => okW.le h (hc x m)
theorem concV_le (h : φ.le ψ) {v : AV} (hc : okV φ v) : concV ψ v = concV φ v := by
 cases v with
 | w x => exact concW_le h hc
 | tup vs => simp only [concV]; rw [List.map_congr_left fun x m => concW_le h (hc x m)]
theorem concW_cells (φ : Phi) (w : AW) : (concW φ w).cells = (w.cells.map (conc φ)).toArray := by
 cases w with
 | agg cs => rfl
 | c x =>
  cases x <;> first
   | rfl
   | (simp only [concW, conc, AW.cells, List.map]; split <;> rfl)
end
def oneV (v : Value) : Bool := match v with
 | .agg _ => false
 | .tuple _ => false
 | _ => true
section
variable {φ ψ : Phi}
theorem conc_oneV (φ : Phi) (c : AC) (hc : okC φ c) : oneV (conc φ c) = true := by
 cases c <;> first | rfl | skip
 case ptr i off => obtain ⟨p, hp⟩ := hc; simp only [conc, hp]; rfl
 case slice i off len k => obtain ⟨p, hp, _⟩ := hc; simp only [conc, hp]; rfl
 case full i off len cap => obtain ⟨⟨p, hp⟩, _⟩ := hc; simp only [conc, hp]; rfl
 case map i => obtain ⟨p, hp⟩ := hc; simp only [conc, hp]; rfl
end

def bok (φ : Phi) (w : World) (p : Pl) (b : AB) : Prop := match b with
 | .row e cs => ∃ C t, w.heap[p.blk]? = some (.cells C t (0, 0)) ∧ (∀ k c, cs[k]? = some c → C[p.base + k]? = some (conc φ c) ∧ okC φ c) ∧
   (e ≠ 0 → cs.length ≤ p.cap * e ∧ p.base + p.cap * e ≤ C.size)
 | .map ks es => ∃ E clock, w.heap[p.blk]? = some (.map E clock) ∧ E.toList.map (fun e => (e.key, e.val)) = es.map (fun e => (concW φ e.1, concW φ e.2)) ∧
   ∀ e ∈ es, okW φ e.1 ∧ okW φ e.2 ∧ shapeB ks e.1 = true
abbrev Hp := Nat → Option AB
structure Sim (φ : Phi) (h : Hp) (w : World) : Prop where
 ok : ∀ i b, h i = some b → ∃ p, φ i = some p ∧ bok φ w p b
 inj : ∀ i j b c p q, h i = some b → h j = some c → φ i = some p → φ j = some q → i ≠ j → p.blk ≠ q.blk
def foot (φ : Phi) (h : Hp) (n : Nat) : Prop := ∃ i b p, h i = some b ∧ φ i = some p ∧ p.blk = n
structure Stp (φ : Phi) (h : Hp) (nx : Nat) (w : World) (ψ : Phi) (g : Hp) (mx : Nat) (u : World) : Prop where
 sim : Sim ψ g u
 old : ∀ i, i < nx ∨ mx ≤ i → ψ i = φ i
 size : w.heap.size ≤ u.heap.size
 fr : ∀ b, b < w.heap.size → ¬ foot φ h b → u.heap[b]? = w.heap[b]?
 own : ∀ b, foot ψ g b → foot φ h b ∨ w.heap.size ≤ b
 os : u.os = w.os
 tape : u.tape = w.tape
 output : u.output = w.output
def Fresh (φ : Phi) (nx mx : Nat) : Prop := ∀ i, nx ≤ i → i < mx → φ i = none
theorem Stp.le {φ : Phi} {h : Hp} {nx : Nat} {w : World} {ψ : Phi} {g : Hp} {mx : Nat} {u : World} (s : Stp φ h nx w ψ g mx u) (hf : Fresh φ nx mx) : φ.le ψ := fun i p hp => by
 rcases Nat.lt_or_ge i nx with h1 | h1
 ·rw [s.old i (.inl h1)]; exact hp
 ·rcases Nat.lt_or_ge i mx with h2 | h2
  ·rw [hf i h1 h2] at hp; cases hp
  ·rw [s.old i (.inr h2)]; exact hp
theorem bok.lt {φ : Phi} {w : World} {p : Pl} {b : AB} (h : bok φ w p b) : p.blk < w.heap.size := by
 have key : ∀ o, w.heap[p.blk]? = some o → p.blk < w.heap.size := fun o h => by
  rcases Nat.lt_or_ge p.blk w.heap.size with hl | hl
  ·exact hl
  ·rw [Array.getElem?_eq_none hl] at h; cases h
 cases b with
 | row e cs => obtain ⟨C, t, h, _⟩ := h; exact key _ h
 | map ks es => obtain ⟨E, k, h, _⟩ := h; exact key _ h
theorem foot.lt {φ : Phi} {h : Hp} {w : World} (s : Sim φ h w) {b : Nat} (hb : foot φ h b) : b < w.heap.size := by
 obtain ⟨i, x, p, hi, hp, rfl⟩ := hb
 obtain ⟨q, hq, hb⟩ := s.ok i x hi
 rw [hp] at hq; cases hq
 exact hb.lt
theorem Stp.refl {φ : Phi} {h : Hp} {nx : Nat} {w : World} (s : Sim φ h w) : Stp φ h nx w φ h nx w := ⟨s, fun _ _ => rfl, Nat.le_refl _, fun _ _ _ => rfl, fun _ h => .inl h, rfl, rfl, rfl⟩
theorem Stp.trans {φ : Phi} {h : Hp} {nx : Nat} {w : World} {ψ : Phi} {g : Hp} {mx : Nat} {u : World} {χ : Phi} {k : Hp} {ox : Nat} {v : World}
  (a : Stp φ h nx w ψ g mx u) (b : Stp ψ g mx u χ k ox v) (h1 : nx ≤ mx) (h2 : mx ≤ ox) : Stp φ h nx w χ k ox v where
 sim := b.sim
 old i hi := by rw [b.old i (by omega), a.old i (by omega)]
 size := Nat.le_trans a.size b.size
 fr n hn hf := by
  rw [b.fr n (Nat.lt_of_lt_of_le hn a.size) (fun hg => ?_), a.fr n hn hf]
  rcases a.own n hg with h3 | h3
  ·exact hf h3
  ·omega
 own n hn := by
  rcases b.own n hn with h3 | h3
  ·exact a.own n h3
  ·exact .inr (Nat.le_trans a.size h3)
 os := b.os.trans a.os
 tape := b.tape.trans a.tape
 output := b.output.trans a.output
theorem Fresh.left {φ : Phi} {a b c : Nat} (h : Fresh φ a c) (hb : b ≤ c) : Fresh φ a b := fun i h1 h2 => h i h1 (by omega)
theorem Fresh.right {φ : Phi} {h : Hp} {a b c : Nat} {w : World} {ψ : Phi} {g : Hp} {u : World} (hf : Fresh φ a c) (s : Stp φ h a w ψ g b u) (hab : a ≤ b) : Fresh ψ b c := fun i h1 h2 => by
 rw [s.old i (.inr h1)]; exact hf i (by omega) h2
end Go.Proofs.YtabmjadcoepbeaaGreat.Ev
namespace Go.Proofs.YtabmjadcoepbeaaGreat.Ev

def aggB (u : TypeDesc) : Bool := match u with
 | .struct _ => true
 | .array _ _ => true
 | _ => false
def noPhi : Phi := fun _ => none
structure KeyOk (P : Program) (kt : Nat) (ks : KS) : Prop where
 chk : ∀ (φ : Phi) (k : AW) (b : Bool) (w : World), shapeB ks k = true → (Instr.checkKey b 10000 kt (concW φ k)).run P w = .ok () w
 und : ∃ u, P.underlying kt = some u ∧ ((∀ (φ : Phi) (a b : AW), shapeB ks a = true → shapeB ks b = true → Instr.sameNow u (concW φ a) (concW φ b) = some (eqK a b)) ∨
  ∀ (φ : Phi) (a b : AW), shapeB ks a = true → shapeB ks b = true → Instr.sameNow u (concW φ a) (concW φ b) = none)
 eq : ∀ (φ : Phi) (a b : AW) (w : World), shapeB ks a = true → shapeB ks b = true → (Op.equal kt (concW φ a) (concW φ b)).run P w = .ok (eqK a b) w
 bits : ∀ (φ : Phi) (a b : AW), shapeB ks a = true → shapeB ks b = true → eqK a b = true → Instr.sameBits 10000 (concW φ b) (concW φ a) = true
def kindOk (P : Program) (u : TypeDesc) (k : TK) : Prop := match k with
 | .bool => u = .bool
 | .int k => u = .int k
 | .str => u = .string
 | .slice e esz eb => u = .slice e ∧ ∃ te, P.info? e = some te ∧ te.size = esz ∧ te.bytes = eb ∧ esz ≠ 0 ∧ eb ≠ 0
 | .arr n e esz => u = .array n e ∧ ∃ te, P.info? e = some te ∧ te.size = esz
 | .struct fs => ∃ F : Array Field, u = .struct F ∧ F.toList.mapM (fun f => (P.info? f.type).map fun i => (f.offset, i.size)) = some (fs.map fun p => (p.1, p.2.1)) ∧ ∀ (k : Nat) (p : Nat × Nat × Bool), fs[k]? = some p → ∃ (f : Field) (tf : TypeInfo) (uf : TypeDesc), F[k]? = some f ∧ f.offset = p.1 ∧ P.info? f.type = some tf ∧ tf.size = p.2.1 ∧ p.2.1 ≠ 0 ∧ P.underlying f.type = some uf ∧ aggB uf = p.2.2
 | .map ks a b => u = .map a b ∧ KeyOk P a ks
 | .ptr => ∃ e, u = .pointer e
 | .other => True
structure TIok (P : Program) (t : Nat) (i : TI) : Prop where
 ok : ∃ ti u z zw, P.info? t = some ti ∧ P.underlying t = some u ∧ ti.size = i.size ∧ aggB u = i.agg ∧ ti.zero = some z ∧ zeroW i = some zw ∧ z = concW noPhi zw ∧ okW noPhi zw ∧ kindOk P u i.k ∧ i.zero.length = i.size
structure EqA (P : Program) (t : Nat) : Prop where
 guard : P.eqGuardType P.depth t = false
 eq : ∀ (φ : Phi) (a b : List AC) (r : Bool) (w : World), isN3 a = true → isN3 b = true → eqL a b = some r → (Op.equal t (.agg (a.map (conc φ)).toArray) (.agg (b.map (conc φ)).toArray)).run P w = .ok r w
structure EnvOk (P : Program) (E : Env) : Prop where
 eqs : ∀ t ∈ E.eqs, EqA P t
 ti : ∀ t i, E.ti.get t = some i → TIok P t i
 fn : ∀ f fn, E.fn.get f = some fn → P.funcs[f]? = some fn ∧ (fn.name == "runtime.NumGoroutine") = false
theorem TIok.kind {P : Program} {t : Nat} {i : TI} (h : TIok P t i) : ∃ u, P.underlying t = some u ∧ kindOk P u i.k ∧ aggB u = i.agg := by
 obtain ⟨ti, u, z, zw, _, hu, _, ha, _, _, _, _, hk, _⟩ := h.ok
 exact ⟨u, hu, hk, ha⟩

def EvOk (φ : Phi) (tm : PT AV) (ρ : Operand → Value) (l : Array Operand) : Prop := ∀ x ∈ l, ∀ v, ev tm x = some v → ρ x = concV φ v ∧ okV φ v
section
variable {φ : Phi} {tm : PT AV} {ρ : Operand → Value} {l : Array Operand} {β : Type}
theorem evw_some {x : Operand} {k : AW → Option β} {r : β} (h : evw tm x k = some r) : ∃ w, ev tm x = some (.w w) ∧ k w = some r := by
 replace h := bnd_some h; obtain ⟨v, hv, h⟩ := h
 cases v with
 | w x => exact ⟨x, hv, h⟩
 | tup vs => cases h
theorem evc_some {x : Operand} {k : AC → Option β} {r : β} (h : evc tm x k = some r) : ∃ c, ev tm x = some (.w (.c c)) ∧ k c = some r := by
 replace h := evw_some h; obtain ⟨w, hw, h⟩ := h
 cases w with
 | c x => exact ⟨x, hw, h⟩
 | agg cs => cases h
theorem evn_some {x : Operand} {k : Nat → Option β} {r : β} (h : evn tm x k = some r) : ∃ j m, ev tm x = some (.w (.c (.int j (.ofNat m)))) ∧ k m = some r := by
 replace h := evc_some h; obtain ⟨c, hc, h⟩ := h
 cases c with
 | int j n =>
  cases n with
  | ofNat m => exact ⟨j, m, hc, h⟩
  | negSucc m => cases h
 | _ => cases h
theorem EvOk.w (h : EvOk φ tm ρ l) {x : Operand} (hx : x ∈ l) {w : AW} (he : ev tm x = some (.w w)) : ρ x = concW φ w ∧ okW φ w := h x hx _ he
theorem EvOk.c (h : EvOk φ tm ρ l) {x : Operand} (hx : x ∈ l) {c : AC} (he : ev tm x = some (.w (.c c))) : ρ x = conc φ c ∧ okC φ c := ⟨(h x hx _ he).1, (h x hx _ he).2 c (by simp [AW.cells])⟩
theorem okV_c {c : AC} (h : okC φ c) : okV φ (.w (.c c)) := fun x m => by
 simp only [AW.cells, List.mem_singleton] at m
 subst m; exact h
end
def Pu (P : Program) (φ : Phi) (ρ : Operand → Value) (o : Oper) (v : AV) : Prop := (∀ w, (execOp ρ o).run P w = .ok (.value (concV φ v)) w) ∧ okV φ v

theorem ieq_eq (a b : Int) : ieq a b = decide (a = b) := by
 cases a with
 | ofNat a =>
  cases b with
  | ofNat b =>
   show Nat.beq a b = _
   rw [Bool.eq_iff_iff, Nat.beq_eq, decide_eq_true_iff]
   exact ⟨fun h => by rw [h], fun h => by injection h⟩
  | negSucc b => simp [ieq]
 | negSucc a =>
  cases b with
  | ofNat b => simp [ieq]
  | negSucc b =>
   show Nat.beq a b = _
   rw [Bool.eq_iff_iff, Nat.beq_eq, decide_eq_true_iff]
   exact ⟨fun h => by rw [h], fun h => by injection h⟩
theorem ile_eq (a b : Int) : ile a b = decide (a ≤ b) := by
 cases a with
 | ofNat a =>
  cases b with
  | ofNat b =>
   show Nat.ble a b = _
   rw [Bool.eq_iff_iff, Nat.ble_eq, decide_eq_true_iff]
   show a ≤ b ↔ (a : Int) ≤ (b : Int)
   omega
  | negSucc b =>
   show false = _
   rw [Bool.eq_iff_iff, decide_eq_true_iff]
   constructor
   ·intro h; cases h
   ·intro h
    have h1 : (a : Int) ≤ Int.negSucc b := h
    have h2 : Int.negSucc b < 0 := Int.negSucc_lt_zero b
    omega
 | negSucc a =>
  cases b with
  | ofNat b =>
   show true = _
   rw [Bool.eq_iff_iff, decide_eq_true_iff]
   have h2 : Int.negSucc a < 0 := Int.negSucc_lt_zero a
   have h3 : (0 : Int) ≤ Int.ofNat b := Int.natCast_nonneg b
   simp only [true_iff]
   omega
  | negSucc b =>
   show Nat.ble b a = _
   rw [Bool.eq_iff_iff, Nat.ble_eq, decide_eq_true_iff]
   have h1 : Int.negSucc a = -((a : Int) + 1) := by rw [Int.negSucc_eq]
   have h2 : Int.negSucc b = -((b : Int) + 1) := by rw [Int.negSucc_eq]
   rw [h1, h2]
   omega
theorem wrp_eq (k : IntKind) (n : Int) : wrp k n = k.wrap n := by
 cases n with
 | negSucc m => rfl
 | ofNat m =>
  show (match Nat.ble m (lim k) with | true => Int.ofNat m | false => k.wrap (.ofNat m)) = _
  cases h : Nat.ble m (lim k) with
  | false => rfl
  | true =>
   have h1 : m ≤ lim k := Nat.le_of_ble_eq_true h
   have h2 : (Int.ofNat m) = (m : Int) := rfl
   rw [h2]
   cases k <;> simp only [lim] at h1 <;> simp only [IntKind.wrap, IntKind.bits, IntKind.signed] <;> simp <;> omega
theorem iadd_eq (a b : Int) : iadd a b = a + b := by cases a <;> cases b <;> rfl
theorem imul_eq (a b : Int) : imul a b = a * b := by cases a <;> cases b <;> rfl
theorem isub_eq (a b : Int) : isub a b = a - b := by
 cases a with
 | negSucc a => rfl
 | ofNat a =>
  cases b with
  | negSucc b => rfl
  | ofNat b =>
   show (match Nat.ble b a with | true => Int.ofNat (a - b) | false => Int.negSucc (Nat.pred (b - a))) = _
   have h1 : (Int.ofNat a) = (a : Int) := rfl
   have h2 : (Int.ofNat b) = (b : Int) := rfl
   cases h : Nat.ble b a with
   | true =>
    have := Nat.le_of_ble_eq_true h
    show ((a - b : Nat) : Int) = _
    rw [h1, h2]; omega
   | false =>
    have : ¬ b ≤ a := fun hl => by rw [Nat.ble_eq_true_of_le hl] at h; cases h
    show Int.negSucc (Nat.pred (b - a)) = _
    rw [h1, h2, Int.negSucc_eq, Nat.pred_eq_sub_one]
    omega

section
variable {P : Program} {φ : Phi} {ρ : Operand → Value} {tm : PT AV} {o : Oper}
theorem pu_binI {op : BinOp} {t yt : TypeId} {x y : Operand} {k : IntKind} {a b : Int} {v : AV} (ho : o.op = .binOp op t x y yt) (hx : ρ x = .int k a) (hy : ρ y = .int k b)
  (h : binI op k a b = some v) : Pu P φ ρ o v := by
 have e0 : ∀ b : Int, ieq b 0 = true → b = 0 := fun b hb => by rw [ieq_eq] at hb; exact of_decide_eq_true hb
 have n0 : ∀ b : Int, ieq b 0 = false → b ≠ 0 := fun b hb => by rw [ieq_eq] at hb; exact of_decide_eq_false hb
 cases op <;> simp only [binI, vc, vb, ieq_eq, ile_eq, wrp_eq, iadd_eq, isub_eq, imul_eq] at h
 case add | sub | mul =>
  cases h
  exact ⟨fun w => by simp [execOp, ho, hx, hy, eqGuard, Go.binOp, Op.intArith, bind, Sem.bind, pure, Sem.run, concV, concW, conc], okV_c trivial⟩
 case quo | rem =>
  split at h
  ·cases h
  ·rename_i hb
   have hb' := of_decide_eq_false hb
   cases h
   exact ⟨fun w => by simp [execOp, ho, hx, hy, eqGuard, Go.binOp, Op.intDiv, hb', bind, Sem.bind, pure, Sem.run, concV, concW, conc], okV_c trivial⟩
 case and | or =>
  cases h
  exact ⟨fun w => by simp [execOp, ho, hx, hy, eqGuard, Go.binOp, Op.intBits, bind, Sem.bind, pure, Sem.run, concV, concW, conc], okV_c trivial⟩
 case shl | shr =>
  split at h
  ·rename_i hb
   have hb' : ¬ b < 0 := by have := of_decide_eq_true hb; omega
   cases h
   exact ⟨fun w => by simp [execOp, ho, hx, hy, eqGuard, Go.binOp, Op.shift, hb', bind, Sem.bind, pure, Sem.run, concV, concW, conc], okV_c trivial⟩
  ·cases h
 case eql | neq | lss | leq | gtr | geq =>
  cases h
  refine ⟨fun w => ?_, okV_c trivial⟩
  simp [execOp, ho, hx, hy, eqGuard, Go.binOp, Op.intCmp, bind, Sem.bind, pure, Sem.run, concV, concW, conc] <;> (try (rw [Bool.eq_iff_iff]; simp [bne])) <;> (try omega)
 all_goals cases h
end
end Go.Proofs.YtabmjadcoepbeaaGreat.Ev
namespace Go.Proofs.YtabmjadcoepbeaaGreat.Ev

theorem beq8_eq (a b : UInt8) : beq8 a b = (a == b) := by
 rw [Bool.eq_iff_iff, beq_iff_eq]
 show Nat.beq a.toNat b.toNat = true ↔ a = b
 rw [Nat.beq_eq]
 exact ⟨UInt8.toNat_inj.1, fun h => by rw [h]⟩
theorem seq_eq : ∀ a b : List UInt8, seq_ a b = (a == b)
 | [], [] => rfl
 | [], _ :: _ => rfl
 | _ :: _, [] => rfl
 | x :: a, y :: b => by
  show (match beq8 x y with | true => seq_ a b | false => false) = _
  rw [beq8_eq, seq_eq a b, List.cons_beq_cons]
  cases x == y <;> rfl
theorem slt_eq : ∀ a b : List UInt8, slt a b = Op.bytesLess a b
 | [], [] => rfl
 | [], _ :: _ => rfl
 | _ :: _, [] => rfl
 | x :: a, y :: b => by
  show (match Nat.ble y.toNat x.toNat with | false => true | true => match beq8 x y with | true => slt a b | false => false) = (decide (x < y) || (x == y && Op.bytesLess a b))
  rw [beq8_eq, slt_eq a b]
  cases h : Nat.ble y.toNat x.toNat with
  | false =>
   have h1 : ¬ y.toNat ≤ x.toNat := fun hl => by rw [Nat.ble_eq_true_of_le hl] at h; cases h
   have h2 : x < y := by rw [UInt8.lt_iff_toNat_lt]; omega
   simp [h2]
  | true =>
   have h1 := Nat.le_of_ble_eq_true h
   have h2 : ¬ x < y := by rw [UInt8.lt_iff_toNat_lt]; omega
   simp only [h2, decide_false, Bool.false_or]
   cases x == y <;> rfl
section
variable {P : Program} {φ : Phi} {ρ : Operand → Value} {tm : PT AV} {o : Oper} {E : Env}
theorem pu_binS {op : BinOp} {t yt : TypeId} {x y : Operand} {a b : List UInt8} {v : AV} (ho : o.op = .binOp op t x y yt) (hx : ρ x = .string ⟨⟨a⟩⟩) (hy : ρ y = .string ⟨⟨b⟩⟩)
  (h : binS op a b = some v) : Pu P φ ρ o v := by
 cases op <;> simp only [binS, vc, vb, seq_eq, slt_eq] at h
 case add =>
  split at h
  ·rename_i hl
   have hl' := Nat.le_of_ble_eq_true hl
   cases h
   have h9 : ¬ (9223372036854775807 < (a.length : Int) + (b.length : Int)) := by omega
   have h8 : (ByteArray.mk ⟨a⟩ ++ ByteArray.mk ⟨b⟩) = ⟨⟨a ++ b⟩⟩ := by apply ByteArray.ext; simp
   refine ⟨fun w => ?_, okV_c trivial⟩
   simp only [execOp, ho, hx, hy, eqGuard, Go.binOp, Op.stringOp, bind, Sem.bind, pure, concV, concW, conc]
   simp only [ByteArray.size, List.size_toArray]
   simp [h9, h8, bind, Sem.bind, pure, Sem.run]
  ·cases h
 case eql | neq | lss | leq | gtr | geq =>
  cases h
  exact ⟨fun w => by simp [execOp, ho, hx, hy, eqGuard, Go.binOp, Op.stringOp, bind, Sem.bind, pure, Sem.run, concV, concW, conc, ByteArray.toList_eq], okV_c trivial⟩
 all_goals cases h
theorem memN_mem {n : Nat} : ∀ {l : List Nat}, memN n l = true → n ∈ l
 | [], h => by cases h
 | m :: l, h => by
  have h' : (match Nat.beq n m with | true => true | false => memN n l) = true := h
  split at h'
  ·rename_i e; rw [Nat.eq_of_beq_eq_true e]; exact List.mem_cons_self
  ·exact List.mem_cons_of_mem _ (memN_mem h')
theorem pu_binA (hE : EnvOk P E) {op : BinOp} {t yt : TypeId} {x y : Operand} {a b : List AC} {v : AV} (ho : o.op = .binOp op t x y yt) (hx : ρ x = concW φ (.agg a)) (hy : ρ y = concW φ (.agg b))
  (h : binA E op t a b = some v) : Pu P φ ρ o v := by
 unfold binA at h
 split at h
 ·rename_i hm
  split at h <;> try (cases h; done)
  rename_i hn3
  rw [Bool.and_eq_true] at hn3
  replace h := bnd_some h; obtain ⟨r, hr, h⟩ := h
  have hq := hE.eqs t (memN_mem hm)
  have hg := hq.guard
  have he := fun w => hq.eq φ a b r w hn3.1 hn3.2 hr
  simp only [concW] at hx hy
  cases op <;> simp only [eqV, vb] at h
  case eql | neq =>
   cases h
   refine ⟨fun w => ?_, okV_c trivial⟩
   simp [execOp, ho, hx, hy, eqGuard, Go.binOp, hg, he w, concV, concW, conc]
  all_goals cases h
 ·cases h
end
end Go.Proofs.YtabmjadcoepbeaaGreat.Ev
namespace Go.Proofs.YtabmjadcoepbeaaGreat.Ev
section
variable {P : Program} {φ : Phi} {ρ : Operand → Value} {tm : PT AV} {o : Oper} {E : Env} {v : AV}
theorem r_und {t : TypeId} {u : TypeDesc} (h : P.underlying t = some u) (w : World) : (underlying t).run P w = .ok u w := by simp [underlying, h]
theorem r_ti {t : TypeId} {i : TypeInfo} (h : P.info? t = some i) (w : World) : (typeInfo t).run P w = .ok i w := by simp [typeInfo, h]
theorem r_size {t : TypeId} {i : TypeInfo} (h : P.info? t = some i) (w : World) : (sizeOf t).run P w = .ok i.size w := by simp [sizeOf, r_ti h]
theorem r_agg {t : TypeId} {u : TypeDesc} (h : P.underlying t = some u) (w : World) : (isAgg t).run P w = .ok (aggB u) w := by
 simp only [isAgg, Sem.run_bind, r_und h, Result.andThen_ok]
 cases u <;> rfl
theorem cut_some {l r : List AC} {o n : Nat} (h : cut l o n = some r) : o + n ≤ l.length ∧ r = (l.drop o).take n := by
 unfold cut at h
 split at h
 ·rename_i hb; cases h; exact ⟨Nat.le_of_ble_eq_true hb, rfl⟩
 ·cases h
theorem splice_some {l n r : List AC} {o : Nat} (h : splice l o n = some r) : o + n.length ≤ l.length ∧ r = l.take o ++ n ++ l.drop (o + n.length) := by
 unfold splice at h
 split at h
 ·rename_i hb; cases h; exact ⟨Nat.le_of_ble_eq_true hb, rfl⟩
 ·cases h
theorem okCs_of_mem {cs ds : List AC} (h : okCs φ cs) (hs : ∀ c ∈ ds, c ∈ cs) : okCs φ ds := fun c m => h c (hs c m)
theorem part_some {cs : List AC} {size off : Nat} {agg : Bool} {x : AW} (h : TI.part size agg cs off = some x) :
  (agg = true ∧ off + size ≤ cs.length ∧ x = .agg ((cs.drop off).take size)) ∨ (agg = false ∧ ∃ c, cs[off]? = some c ∧ x = .c c) := by
 unfold TI.part at h
 cases agg with
 | true =>
  replace h := bnd_some h; obtain ⟨l, hl, h⟩ := h
  cases h
  obtain ⟨h1, rfl⟩ := cut_some hl
  exact .inl ⟨rfl, h1, rfl⟩
 | false =>
  replace h := bnd_some h; obtain ⟨c, hc, h⟩ := h
  cases h
  exact .inr ⟨rfl, c, hc, rfl⟩
theorem part_ok {cs : List AC} {size off : Nat} {agg : Bool} {x : AW} (h : TI.part size agg cs off = some x) (hc : okCs φ cs) : okW φ x := by
 rcases part_some h with ⟨_, _, rfl⟩ | ⟨_, c, h1, rfl⟩
 ·exact okCs_of_mem hc fun c m => List.mem_of_mem_drop (List.mem_of_mem_take m)
 ·exact fun d m => by simp only [AW.cells, List.mem_singleton] at m; subst m; exact hc _ (List.mem_of_getElem? h1)
theorem r_part {cs : List AC} {size off : Nat} {agg : Bool} {x : AW} (h : TI.part size agg cs off = some x) {t : TypeId} {tf : TypeInfo} {uf : TypeDesc} (h1 : P.info? t = some tf) (h2 : tf.size = size)
  (h3 : P.underlying t = some uf) (h4 : aggB uf = agg) (w : World) : (part t (cs.map (conc φ)).toArray off).run P w = .ok (concW φ x) w := by
 subst h2 h4
 simp only [part, Sem.run_bind, r_agg h3, Result.andThen_ok]
 rcases part_some h with ⟨ha, hl, rfl⟩ | ⟨ha, c, h5, rfl⟩
 ·simp only [ha, if_true, Sem.run_bind, r_size h1, Result.andThen_ok, Sem.run_pure, concW]
  congr 3
  rw [List.extract_toArray, List.extract_eq_take_drop, Nat.add_sub_cancel_left, List.map_take, List.map_drop]
 ·simp [ha, h5, concW]

theorem pu_move {x : Operand} (ho : o.op = .move x ∨ o.op = .assign x) (hev : EvOk φ tm ρ o.op.operands) (h : ev tm x = some v) : Pu P φ ρ o v := by
 rcases ho with ho | ho <;> rw [ho] at hev <;> (have hx := hev x (by simp [Op.operands]) v h; exact ⟨fun w => by simp [execOp, ho, hx.1], hx.2⟩)
theorem pu_pick {c a b : Operand} (ho : o.op = .pick c a b) (hev : EvOk φ tm ρ o.op.operands) (h : opPick tm c a b = some v) : Pu P φ ρ o v := by
 rw [ho] at hev
 replace h := evc_some h; obtain ⟨x, hc, h⟩ := h
 have hx := (hev.c (by simp [Op.operands]) hc).1
 cases x <;> try (cases h; done)
 rename_i t
 cases t with
 | true => have ha := hev a (by simp [Op.operands]) v h; exact ⟨fun w => by simp [execOp, ho, hx, conc, asBool, ha.1], ha.2⟩
 | false => have ha := hev b (by simp [Op.operands]) v h; exact ⟨fun w => by simp [execOp, ho, hx, conc, asBool, ha.1], ha.2⟩
theorem pu_nil {x : Operand} (ho : o.op = .nilCheck x) (hev : EvOk φ tm ρ o.op.operands) (h : opNil tm x = some v) : Pu P φ ρ o v := by
 rw [ho] at hev
 replace h := evc_some h; obtain ⟨c, hc, h⟩ := h
 obtain ⟨hx, hk⟩ := hev.c (by simp [Op.operands]) hc
 cases c <;> try (cases h; done)
 case ptr i off =>
  obtain ⟨p, hp⟩ := hk
  cases h
  exact ⟨fun w => by simp [execOp, ho, hx, conc, hp, concV, concW], okV_c ⟨p, hp⟩⟩
 case fn f =>
  cases h
  exact ⟨fun w => by simp [execOp, ho, hx, conc, concV, concW], okV_c trivial⟩
theorem pu_un {op : UnOp} {t : TypeId} {x : Operand} (ho : o.op = .unOp op t x) (hev : EvOk φ tm ρ o.op.operands) (h : opUn tm op x = some v) : Pu P φ ρ o v := by
 rw [ho] at hev
 replace h := evc_some h; obtain ⟨c, hc, h⟩ := h
 have hx := (hev.c (by simp [Op.operands]) hc).1
 cases op <;> try (cases h; done)
 case neg =>
  cases c <;> (try (cases h; done))
  cases h
  exact ⟨fun w => by simp [execOp, ho, hx, conc, concV, concW, Op.unary, Op.intArith], okV_c trivial⟩
 case not =>
  cases c <;> (try (cases h; done))
  cases h
  exact ⟨fun w => by simp [execOp, ho, hx, conc, concV, concW, Op.unary], okV_c trivial⟩
theorem pu_conv (hE : EnvOk P E) {s d : TypeId} {x : Operand} (ho : o.op = .convert s d x) (hev : EvOk φ tm ρ o.op.operands) (h : opConv E tm s d x = some v) : Pu P φ ρ o v := by
 rw [ho] at hev
 replace h := evc_some h; obtain ⟨c, hc, h⟩ := h
 have hx := (hev.c (by simp [Op.operands]) hc).1
 cases c <;> try (cases h; done)
 rename_i k0 n
 replace h := bnd_some h; obtain ⟨is, his, h⟩ := h
 obtain ⟨us, hus, _⟩ := (hE.ti s is his).kind
 replace h := bnd_some h; obtain ⟨i, hi, h⟩ := h
 obtain ⟨u, hu, hk, _⟩ := (hE.ti d i hi).kind
 cases hik : i.k <;> rw [hik] at h hk <;> try (cases h; done)
 rename_i k
 have hk' : u = .int k := hk
 subst hk'
 cases h
 rw [wrp_eq]
 refine ⟨fun w => ?_, okV_c trivial⟩
 simp [execOp, ho, hx, conc, concV, concW, Go.convert, r_und hu, r_und hus, Conv.intToInt]
theorem pu_fieldAddr (hE : EnvOk P E) {t : TypeId} {x : Operand} {f : Nat} (ho : o.op = .fieldAddr t x f) (hev : EvOk φ tm ρ o.op.operands) (h : opFieldAddr E tm t x f = some v) : Pu P φ ρ o v := by
 rw [ho] at hev
 replace h := evc_some h; obtain ⟨c, hc, h⟩ := h
 obtain ⟨hx, hok⟩ := hev.c (by simp [Op.operands]) hc
 replace h := bnd_some h; obtain ⟨i, hi, h⟩ := h
 obtain ⟨u, hu, hk, _⟩ := (hE.ti t i hi).kind
 cases hik : i.k <;> rw [hik] at h hk <;> try (cases h; done)
 rename_i fs
 obtain ⟨F, rfl, _, hF⟩ := hk
 replace h := bnd_some h; obtain ⟨p, hp, h⟩ := h
 obtain ⟨fd, tf, uf, h1, h2, h3, h4, h5, h6, h7⟩ := hF f p hp
 cases c <;> try (cases h; done)
 rename_i b off
 obtain ⟨pl, hpl⟩ := hok
 cases h
 refine ⟨fun w => ?_, okV_c ⟨pl, hpl⟩⟩
 have hz : ¬ tf.size = 0 := by rw [h4]; exact h5
 simp only [execOp, ho, hx, conc, hpl, concV, concW, Instr.fieldAt, Sem.run_bind, r_und hu, Result.andThen_ok, h1, Instr.sureAddr, Sem.run_pure, fieldPlace, r_size h3, hz, if_false]
 simp only [Addr.add]
 split
 ·rename_i h8; rw [h2] at h8; simp [h8]
 ·simp [h2, Nat.add_assoc]
theorem pu_field (hE : EnvOk P E) {t : TypeId} {x : Operand} {f : Nat} (ho : o.op = .field t x f) (hev : EvOk φ tm ρ o.op.operands) (h : opField E tm t x f = some v) : Pu P φ ρ o v := by
 rw [ho] at hev
 replace h := evw_some h; obtain ⟨c, hc, h⟩ := h
 obtain ⟨hx, hok⟩ := hev.w (by simp [Op.operands]) hc
 replace h := bnd_some h; obtain ⟨i, hi, h⟩ := h
 obtain ⟨u, hu, hk, _⟩ := (hE.ti t i hi).kind
 cases hik : i.k <;> rw [hik] at h hk <;> try (cases h; done)
 rename_i fs
 obtain ⟨F, rfl, _, hF⟩ := hk
 replace h := bnd_some h; obtain ⟨p, hp, h⟩ := h
 obtain ⟨fd, tf, uf, h1, h2, h3, h4, h5, h6, h7⟩ := hF f p hp
 cases c <;> try (cases h; done)
 rename_i cs
 replace h := bnd_some h; obtain ⟨y, hy, h⟩ := h
 cases h
 refine ⟨fun w => ?_, part_ok hy hok⟩
 simp [execOp, ho, hx, concV, concW, Instr.field, r_und hu, h1, asAgg, h2, r_part (φ := φ) hy h3 h4 h6 h7]
end
end Go.Proofs.YtabmjadcoepbeaaGreat.Ev
namespace Go.Proofs.YtabmjadcoepbeaaGreat.Ev
section
variable {P : Program} {φ : Phi} {ρ : Operand → Value} {tm : PT AV} {o : Oper} {E : Env} {v : AV}
theorem blt_lt {a b : Nat} (h : Nat.blt a b = true) : a < b := Nat.le_of_ble_eq_true h
theorem add_off (b n k : Nat) : (Addr.add ⟨b, n, none⟩ k) = ⟨b, n + k, none⟩ := by unfold Addr.add; split <;> simp_all
theorem EvOk.n {l : Array Operand} (h : EvOk φ tm ρ l) {x : Operand} (hx : x ∈ l) {j : IntKind} {m : Nat} (he : ev tm x = some (.w (.c (.int j (.ofNat m))))) : ρ x = .int j (m : Int) := (h.c hx he).1
theorem pu_indexAddr (hE : EnvOk P E) {t : TypeId} {x ix : Operand} (ho : o.op = .indexAddr t x ix) (hev : EvOk φ tm ρ o.op.operands) (h : opIndexAddr E tm t x ix = some v) : Pu P φ ρ o v := by
 rw [ho] at hev
 replace h := evc_some h; obtain ⟨c, hc, h⟩ := h
 obtain ⟨hx, hok⟩ := hev.c (by simp [Op.operands]) hc
 replace h := evn_some h; obtain ⟨j, n, hn, h⟩ := h
 have hi := (hev.c (x := ix) (by simp [Op.operands]) hn).1
 replace h := bnd_some h; obtain ⟨i, hi', h⟩ := h
 obtain ⟨u, hu, hk, _⟩ := (hE.ti t i hi').kind
 cases hik : i.k <;> rw [hik] at h hk <;> try (cases h; done)
 case slice e esz eb =>
  obtain ⟨rfl, te, hte, rfl, _⟩ := hk
  have key : ∀ b off len, (match Nat.blt n len with | true => vc (.ptr b (off + n * te.size)) | false => none) = some v → (∃ p, φ b = some p ∧ ∃ cap, conc φ c = .slice (some ⟨p.blk, p.base + off, none⟩) len cap) → Pu P φ ρ o v := by
   intro b off len h ⟨p, hp, cap, hcc⟩
   rw [hcc] at hx
   split at h
   ·rename_i hb
    have hlt := blt_lt hb
    cases h
    refine ⟨fun w => ?_, okV_c ⟨p, hp⟩⟩
    have h1 : (0 : Int) ≤ Int.ofNat n ∧ Int.ofNat n < (len : Int) := ⟨Int.natCast_nonneg n, Int.ofNat_lt.2 hlt⟩
    simp [execOp, ho, hx, hi, conc, concV, concW, hp, Instr.indexAt, asIntOf, r_und hu, h1, r_size hte, add_off, Nat.add_assoc, hlt]
   ·cases h
  cases c <;> try (cases h; done)
  case slice b off len k => obtain ⟨p, hp, _⟩ := hok; exact key b off len h ⟨p, hp, p.cap - k, by simp only [conc, hp]⟩
  case full b off len cap => obtain ⟨⟨p, hp⟩, _⟩ := hok; exact key b off len h ⟨p, hp, cap, by simp only [conc, hp]⟩
 case arr len e esz =>
  obtain ⟨rfl, te, hte, rfl⟩ := hk
  cases c <;> try (cases h; done)
  rename_i b off
  obtain ⟨p, hp⟩ := hok
  dsimp only at h
  split at h
  ·rename_i hb
   have hlt := blt_lt hb
   cases h
   refine ⟨fun w => ?_, okV_c ⟨p, hp⟩⟩
   simp [execOp, ho, hx, hi, conc, concV, concW, hp, Instr.indexAt, asIntOf, r_und hu, r_size hte, Instr.sureAddr, add_off, Nat.add_assoc, hlt]
  ·cases h
theorem pu_index (hE : EnvOk P E) {t : TypeId} {x ix : Operand} (ho : o.op = .index t x ix) (hev : EvOk φ tm ρ o.op.operands) (h : opIndex E tm t x ix = some v) : Pu P φ ρ o v := by
 rw [ho] at hev
 replace h := evw_some h; obtain ⟨c, hc, h⟩ := h
 obtain ⟨hx, hok⟩ := hev.w (by simp [Op.operands]) hc
 replace h := evn_some h; obtain ⟨j, n, hn, h⟩ := h
 have hi := (hev.c (x := ix) (by simp [Op.operands]) hn).1
 cases c with
 | c c =>
  replace h := bnd_some h; obtain ⟨i, hi', h⟩ := h
  obtain ⟨u, hu, hk, _⟩ := (hE.ti t i hi').kind
  cases hik : i.k <;> rw [hik] at h hk <;> try (cases h; done)
  have hk' : u = .string := hk
  subst hk'
  cases c <;> try (cases h; done)
  rename_i s
  replace h := bnd_some h; obtain ⟨b, hb, h⟩ := h
  cases h
  refine ⟨fun w => ?_, okV_c trivial⟩
  have h1 : (ByteArray.mk ⟨s⟩)[n]? = some b := by
   have hlt := (List.getElem?_eq_some_iff.1 hb)
   obtain ⟨hlt, hb'⟩ := hlt
   rw [getElem?_pos (ByteArray.mk ⟨s⟩) n (by simpa [ByteArray.size] using hlt)]
   simp only [Option.some.injEq]
   rw [← hb']; rfl
  simp [execOp, ho, hx, hi, conc, concV, concW, Instr.index, asIntOf, r_und hu, h1]
 | agg cs =>
  replace h := bnd_some h; obtain ⟨i, hi', h⟩ := h
  obtain ⟨u, hu, hk, _⟩ := (hE.ti t i hi').kind
  cases hik : i.k <;> rw [hik] at h hk <;> try (cases h; done)
  rename_i len e esz
  obtain ⟨rfl, te, hte, rfl⟩ := hk
  dsimp only at h
  split at h
  ·rename_i hb
   have hlt := blt_lt hb
   replace h := bnd_some h; obtain ⟨ie, hie, h⟩ := h
   replace h := bnd_some h; obtain ⟨y, hy, h⟩ := h
   cases h
   obtain ⟨ue, hue, _, hae⟩ := (hE.ti e ie hie).kind
   refine ⟨fun w => ?_, part_ok hy hok⟩
   simp [execOp, ho, hx, hi, conc, concV, concW, Instr.index, asIntOf, r_und hu, r_size hte, hlt, r_part (φ := φ) hy hte rfl hue hae]
  ·cases h
theorem pu_extract {x : Operand} {n : Nat} (ho : o.op = .extract x n) (hev : EvOk φ tm ρ o.op.operands) (h : opExtract tm x n = some v) : Pu P φ ρ o v := by
 rw [ho] at hev
 replace h := bnd_some h; obtain ⟨c, hc, h⟩ := h
 obtain ⟨hx, hok⟩ := hev x (by simp [Op.operands]) c hc
 cases c with
 | w y => cases h
 | tup vs =>
  replace h := bnd_some h; obtain ⟨y, hy, h⟩ := h
  cases h
  exact ⟨fun w => by simp [execOp, ho, hx, concV, Instr.extract, hy], hok y (List.mem_of_getElem? hy)⟩
theorem op_equal (t : TypeId) (x y : Value) : Op.equal t x y = Op.equalIn (9999 + 1) t x y := rfl
theorem eq_bool {d : Nat} {t : TypeId} (hu : P.underlying t = some .bool) (a b : Bool) (w : World) : (Op.equalIn (d + 1) t (.bool a) (.bool b)).run P w = .ok (a == b) w := by simp [Op.equalIn, r_und hu]
theorem eq_ptr1 {d : Nat} {t e : TypeId} (hu : P.underlying t = some (.pointer e)) (b : Option Addr) (w : World) : (Op.equalIn (d + 1) t (.pointer none) (.pointer b)).run P w = .ok b.isNone w := by simp [Op.equalIn, r_und hu]
theorem eq_ptr2 {d : Nat} {t e : TypeId} (hu : P.underlying t = some (.pointer e)) (b : Addr) (w : World) : (Op.equalIn (d + 1) t (.pointer (some b)) (.pointer none)).run P w = .ok false w := by simp [Op.equalIn, r_und hu]
theorem eq_sl1 {d : Nat} {t e : TypeId} (hu : P.underlying t = some (.slice e)) (b : Option Addr) (n c : Nat) (w : World) : (Op.equalIn (d + 1) t (.slice none 0 0) (.slice b n c)).run P w = .ok b.isNone w := by simp [Op.equalIn, r_und hu]
theorem eq_sl2 {d : Nat} {t e : TypeId} (hu : P.underlying t = some (.slice e)) (b : Addr) (n c : Nat) (w : World) : (Op.equalIn (d + 1) t (.slice (some b) n c) (.slice none 0 0)).run P w = .ok false w := by simp [Op.equalIn, r_und hu]
theorem pu_eq {op : BinOp} {t yt : TypeId} {x y : Operand} {X Y : Value} {r : Bool} (ho : o.op = .binOp op t x y yt) (hx : ρ x = X) (hy : ρ y = Y)
  (h : eqV op r = some v)
  (g1 : eqGuard .eql t x y X Y = pure ()) (g2 : eqGuard .neq t x y X Y = pure ())
  (b1 : Go.binOp .eql t X Y = do pure (.bool (← Op.equal t X Y))) (b2 : Go.binOp .neq t X Y = do pure (.bool (!(← Op.equal t X Y))))
  (he : ∀ w, (Op.equal t X Y).run P w = .ok r w) : Pu P φ ρ o v := by
 cases op <;> try (cases h; done)
 ·cases h
  exact ⟨fun w => by simp only [execOp, ho, hx, hy, g1, b1, Sem.run_bind, Sem.run_pure, Result.andThen_ok, he w]; rfl, okV_c trivial⟩
 ·cases h
  exact ⟨fun w => by simp only [execOp, ho, hx, hy, g2, b2, Sem.run_bind, Sem.run_pure, Result.andThen_ok, he w]; rfl, okV_c trivial⟩
theorem pu_binC (hE : EnvOk P E) {op : BinOp} {t yt : TypeId} {x y : Operand} {a b : AC} (ho : o.op = .binOp op t x y yt) (hx : ρ x = conc φ a) (hxo : okC φ a) (hy : ρ y = conc φ b) (hyo : okC φ b)
  (h : binC E op t a b = some v) : Pu P φ ρ o v := by
 unfold binC at h
 replace h := bnd_some h; obtain ⟨i, hi, h⟩ := h
 replace h := bnd_some h; obtain ⟨r, hr, h⟩ := h
 obtain ⟨u, hu, hk, _⟩ := (hE.ti t i hi).kind
 cases hik : i.k <;> rw [hik] at hr hk <;> try (cases hr; done)
 case bool =>
  have hk' : u = .bool := hk
  subst hk'
  cases a <;> try (cases hr; done)
  cases b <;> try (cases hr; done)
  rename_i x y
  have hr' : r = (x == y) := by cases hr; cases x <;> cases y <;> rfl
  exact pu_eq ho hx hy h rfl rfl rfl rfl fun w => by rw [op_equal]; subst hr'; exact eq_bool hu x y w
 case ptr =>
  obtain ⟨e, rfl⟩ := hk
  cases a <;> try (cases hr; done)
  ·cases b <;> try (cases hr; done)
   ·cases hr
    exact pu_eq ho hx hy h rfl rfl rfl rfl fun w => eq_ptr1 hu none w
   ·cases hr
    obtain ⟨p, hp⟩ := hyo
    simp only [conc, hp] at hy
    exact pu_eq ho hx hy h rfl rfl rfl rfl fun w => eq_ptr1 hu _ w
  ·cases b <;> try (cases hr; done)
   cases hr
   obtain ⟨p, hp⟩ := hxo
   simp only [conc, hp] at hx
   exact pu_eq ho hx hy h rfl rfl rfl rfl fun w => eq_ptr2 hu _ w
 case slice e1 e2 e3 =>
  obtain ⟨rfl, _⟩ := hk
  cases a <;> try (cases hr; done)
  ·cases b <;> try (cases hr; done)
   ·cases hr
    exact pu_eq ho hx hy h rfl rfl rfl rfl fun w => eq_sl1 hu none 0 0 w
   ·cases hr
    obtain ⟨p, hp, _⟩ := hyo
    simp only [conc, hp] at hy
    exact pu_eq ho hx hy h rfl rfl rfl rfl fun w => eq_sl1 hu _ _ _ w
   ·cases hr
    obtain ⟨⟨p, hp⟩, _⟩ := hyo
    simp only [conc, hp] at hy
    exact pu_eq ho hx hy h rfl rfl rfl rfl fun w => eq_sl1 hu _ _ _ w
  ·cases b <;> try (cases hr; done)
   cases hr
   obtain ⟨p, hp, _⟩ := hxo
   simp only [conc, hp] at hx
   exact pu_eq ho hx hy h rfl rfl rfl rfl fun w => eq_sl2 hu _ _ _ w
  ·cases b <;> try (cases hr; done)
   cases hr
   obtain ⟨⟨p, hp⟩, _⟩ := hxo
   simp only [conc, hp] at hx
   exact pu_eq ho hx hy h rfl rfl rfl rfl fun w => eq_sl2 hu _ _ _ w
theorem pu_shift {op : BinOp} {t yt : TypeId} {x y : Operand} {k j : IntKind} {a b : Int} (ho : o.op = .binOp op t x y yt) (hx : ρ x = .int k a) (hy : ρ y = .int j b)
  (h : binSh op k a b = some v) : Pu P φ ρ o v := by
 cases op <;> try (cases h; done)
 all_goals
  simp only [binSh, binI, vc, ile_eq] at h
  split at h
  ·rename_i hb
   have hb' : ¬ b < 0 := by have := of_decide_eq_true hb; omega
   cases h
   exact ⟨fun w => by simp [execOp, ho, hx, hy, eqGuard, Go.binOp, Op.shift, hb', concV, concW, conc], okV_c trivial⟩
  ·cases h
theorem pu_bin (hE : EnvOk P E) {op : BinOp} {t yt : TypeId} {x y : Operand} (ho : o.op = .binOp op t x y yt) (hev : EvOk φ tm ρ o.op.operands) (h : opBin E tm op t x y = some v) : Pu P φ ρ o v := by
 rw [ho] at hev
 replace h := evw_some h; obtain ⟨a, ha, h⟩ := h
 replace h := evw_some h; obtain ⟨b, hb, h⟩ := h
 obtain ⟨hx, hxo⟩ := hev.w (x := x) (by simp [Op.operands]) ha
 obtain ⟨hy, hyo⟩ := hev.w (x := y) (by simp [Op.operands]) hb
 cases a with
 | agg a =>
  cases b with
  | c b => cases a <;> cases h
  | agg b => exact pu_binA hE ho hx hy h
 | c a =>
  cases b with
  | agg b => cases a <;> cases h
  | c b =>
   have gen : binC E op t a b = some v → Pu P φ ρ o v := pu_binC hE ho hx (hxo _ (List.mem_singleton.2 rfl)) hy (hyo _ (List.mem_singleton.2 rfl))
   cases a <;> try (exact gen h)
   case int k m =>
    cases b <;> try (exact gen h)
    rename_i j n
    have h' : (match decide (k = j) with | true => binI op k m n | false => binSh op k m n) = some v := h
    by_cases hkj : k = j
    ·subst hkj
     simp only [decide_true] at h'
     exact pu_binI ho hx hy h'
    ·simp only [hkj, decide_false] at h'
     exact pu_shift ho hx hy h'
   case str a =>
    cases b <;> try (exact gen h)
    exact pu_binS ho hx hy h
end
end Go.Proofs.YtabmjadcoepbeaaGreat.Ev
namespace Go.Proofs.YtabmjadcoepbeaaGreat.Ev
theorem fold_set : ∀ (n : List Value) (k off : Nat) (l : List Value), off + k + n.length ≤ l.length →
  ((n.zipIdx k).foldl (fun (cs : Array Value) (p : Value × Nat) => cs.setIfInBounds (off + p.2) p.1) l.toArray) = (l.take (off + k) ++ n ++ l.drop (off + k + n.length)).toArray
 | [], k, off, l, h => by simp
 | c :: n, k, off, l, h => by
  simp only [List.length_cons] at h
  rw [List.zipIdx_cons, List.foldl_cons]
  simp only [List.setIfInBounds_toArray]
  rw [fold_set n (k + 1) off (l.set (off + k) c) (by rw [List.length_set]; omega)]
  congr 1
  have h1 : (l.set (off + k) c).take (off + (k + 1)) = l.take (off + k) ++ [c] := by
   rw [List.set_eq_take_append_cons_drop, if_pos (by omega), show off + (k + 1) = (l.take (off + k)).length + 1 by rw [List.length_take]; omega, List.take_length_add_append]
   simp
  have h2 : (l.set (off + k) c).drop (off + (k + 1) + n.length) = l.drop (off + k + (c :: n).length) := by
   rw [List.drop_set, if_pos (by omega), List.length_cons]
   congr 1; omega
  rw [h1, h2]
  simp
theorem toArray_size (l : List Value) : l.toArray.size = l.length := by simp
section
variable {P : Program} {φ : Phi} {ρ : Operand → Value} {tm : PT AV} {o : Oper} {E : Env} {v : AV}
theorem fill_ok {place : Nat → Option (Nat × Nat)} : ∀ {ps : List (Nat × AW)} {cs ds : List AC}, fillS place cs ps = some ds → okCs φ cs → (∀ p ∈ ps, okW φ p.2) →
  Instr.fill place (cs.map (conc φ)).toArray (ps.map fun p => (p.1, concW φ p.2)) = some (ds.map (conc φ)).toArray ∧ okCs φ ds
 | [], cs, ds, h, hc, _ => by cases h; exact ⟨rfl, hc⟩
 | p :: ps, cs, ds, h, hc, hp => by
  have h' : (bnd (place p.1) fun q => match Nat.beq p.2.cells.length q.2 with | true => bnd (splice cs q.1 p.2.cells) (fun cs => fillS place cs ps) | false => none) = some ds := h
  clear h
  replace h' := bnd_some h'; obtain ⟨q, hq, h'⟩ := h'
  split at h'
  ·rename_i hl
   have hl' := Nat.eq_of_beq_eq_true hl
   replace h' := bnd_some h'; obtain ⟨es, hes, h'⟩ := h'
   obtain ⟨h1, rfl⟩ := splice_some hes
   have hw : okW φ p.2 := hp p List.mem_cons_self
   have hok : okCs φ (cs.take q.1 ++ p.2.cells ++ cs.drop (q.1 + p.2.cells.length)) := fun c m => by
    rcases List.mem_append.1 m with m | m
    ·rcases List.mem_append.1 m with m | m
     ·exact hc c (List.mem_of_mem_take m)
     ·exact hw c m
    ·exact hc c (List.mem_of_mem_drop m)
   obtain ⟨ih, hds⟩ := fill_ok h' hok (fun r m => hp r (List.mem_cons_of_mem _ m))
   refine ⟨?_, hds⟩
   simp only [List.map_cons, Instr.fill, hq, concW_cells]
   have e1 : (p.2.cells.map (conc φ)).toArray.size = q.2 := by simp [hl']
   have e2 : ¬ (q.1 + (p.2.cells.map (conc φ)).toArray.size > (cs.map (conc φ)).toArray.size) := by simp; omega
   simp only [e1, ne_eq, not_true_eq_false, false_or, if_false]
   rw [e1] at e2
   simp only [decide_false, Bool.false_or, decide_eq_true_eq]
   rw [if_neg e2]
   have e3 := fold_set (p.2.cells.map (conc φ)) 0 q.1 (cs.map (conc φ)) (by simp; omega)
   have e4 : (p.2.cells.map (conc φ)).toArray.zipIdx.foldl (fun (cs : Array Value) (p : Value × Nat) => cs.setIfInBounds (q.1 + p.2) p.1) (cs.map (conc φ)).toArray = (((p.2.cells.map (conc φ)).zipIdx 0).foldl (fun (cs : Array Value) (p : Value × Nat) => cs.setIfInBounds (q.1 + p.2) p.1) (cs.map (conc φ)).toArray) := by
    simp [← Array.foldl_toList]
   have e5 : (((cs.map (conc φ)).take (q.1 + 0) ++ (p.2.cells.map (conc φ)) ++ (cs.map (conc φ)).drop (q.1 + 0 + (p.2.cells.map (conc φ)).length))) = (cs.take q.1 ++ p.2.cells ++ cs.drop (q.1 + p.2.cells.length)).map (conc φ) := by
    simp [List.map_append, List.map_take, List.map_drop]
   rw [e5] at e3
   refine Eq.trans ?_ ih
   congr 1
   exact e4.trans e3
  ·cases h'
theorem evp_ok {l : List (Nat × Operand)} (hev : ∀ p ∈ l, ∀ v, ev tm p.2 = some v → ρ p.2 = concV φ v ∧ okV φ v) : ∀ {ps : List (Nat × AW)}, evp tm l = some ps →
  (l.map fun p => (p.1, ρ p.2)) = (ps.map fun p => (p.1, concW φ p.2)) ∧ ∀ p ∈ ps, okW φ p.2 := by
 induction l with
 | nil => intro ps h; cases h; exact ⟨rfl, fun p m => by cases m⟩
 | cons p l ih =>
  intro ps h
  have h' : (evw tm p.2 fun v => bnd (evp tm l) fun vs => some ((p.1, v) :: vs)) = some ps := h
  clear h
  replace h' := evw_some h'; obtain ⟨w, hw, h'⟩ := h'
  replace h' := bnd_some h'; obtain ⟨vs, hvs, h'⟩ := h'
  cases h'
  obtain ⟨i1, i2⟩ := ih (fun q m => hev q (List.mem_cons_of_mem _ m)) hvs
  obtain ⟨h1, h2⟩ := hev p List.mem_cons_self _ hw
  refine ⟨by simp only [List.map_cons, i1]; rw [h1]; rfl, fun q m => ?_⟩
  rcases List.mem_cons.1 m with rfl | m
  ·exact h2
  ·exact i2 q m
theorem zero_cells {i : TI} {zw : AW} (h : zeroW i = some zw) : zw.cells = i.zero := by
 unfold zeroW at h
 split at h
 ·cases h; rfl
 ·split at h
  ·rename_i c hc; cases h; rw [hc]; rfl
  ·cases h
theorem okW_no {w : AW} (h : okW noPhi w) : okW φ w := okW.le (fun i p hp => by cases hp) h
theorem concW_no {w : AW} (h : okW noPhi w) : concW φ w = concW noPhi w := concW_le (fun i p hp => by cases hp) h
theorem pu_build (hE : EnvOk P E) {t : TypeId} {ps : Array (Nat × Operand)} (ho : o.op = .build t ps) (hev : EvOk φ tm ρ o.op.operands) (h : opBuild E tm t ps = some v) : Pu P φ ρ o v := by
 rw [ho] at hev
 replace h := bnd_some h; obtain ⟨i, hi, h⟩ := h
 replace h := bnd_some h; obtain ⟨qs, hqs, h⟩ := h
 obtain ⟨ti, u, z, zw, h1, h2, h3, h4, h5, h6, rfl, h8, hk, _⟩ := (hE.ti t i hi).ok
 obtain ⟨e1, e2⟩ := evp_ok (ρ := ρ) (φ := φ) (fun p m v hv => hev p.2 (by simp only [Op.operands, List.mem_toArray, List.mem_map]; exact ⟨p, m, rfl⟩) v hv) hqs
 have hz : (concW noPhi zw).cells = (i.zero.map (conc φ)).toArray := by rw [← concW_no (φ := φ) h8, concW_cells, zero_cells h6]
 have hzo : okCs φ i.zero := by have := okW_no (φ := φ) h8; unfold okW at this; rw [zero_cells h6] at this; exact this
 have fin : ∀ cs, P.built t (qs.map fun p => (p.1, concW φ p.2)) = some (cs.map (conc φ)).toArray → okCs φ cs → v = .w (.agg cs) → Pu P φ ρ o v := by
  intro cs hb hcs hv
  subst hv
  refine ⟨fun w => ?_, hcs⟩
  have hr := run_build (P := P) w t (ps.map fun p => (p.1, ρ p.2)) (cs.map (conc φ)).toArray (by rw [Array.toList_map, e1]; exact hb)
  simp only [execOp, ho, Sem.run_bind]
  rw [show (ps.map fun x : Nat × Operand => match x with | (i, x) => (i, ρ x)) = ps.map fun p => (p.1, ρ p.2) from rfl, hr]
  rfl
 cases hik : i.k <;> rw [hik] at h hk <;> try (cases h; done)
 case arr n e esz =>
  obtain ⟨rfl, te, hte, rfl⟩ := hk
  replace h := bnd_some h; obtain ⟨cs, hcs, h⟩ := h
  cases h
  obtain ⟨f1, f2⟩ := fill_ok (φ := φ) hcs hzo e2
  refine fin cs ?_ f2 rfl
  simp only [Program.built, h1, h2, h5, hte, hz, f1]
 case struct fs =>
  obtain ⟨F, rfl, hm, _⟩ := hk
  replace h := bnd_some h; obtain ⟨cs, hcs, h⟩ := h
  cases h
  obtain ⟨f1, f2⟩ := fill_ok (φ := φ) hcs hzo e2
  refine fin cs ?_ f2 rfl
  simp only [Program.built, h1, h2, h5, hm, hz]
  rw [← f1]
  congr 1
  funext k
  simp only [List.getElem?_toArray, List.getElem?_map]
  cases fs[k]? <;> rfl
theorem pu_builtin {c : Call} {b : Builtin} {l : List Operand} (ho : o.op = .call c) (hc : c.callee = .builtin b) (ha : c.args.toList = l) (w : World) :
  (execOp ρ o).run P w = (builtin b c.argTypes o.type (c.args.map fun | .const _ => true | _ => false) (l.map ρ).toArray).run P w := by
 subst ha
 have : (c.args.toList.map ρ).toArray = c.args.map ρ := by rw [← Array.toList_map]
 rw [this]
 simp [execOp, ho, resolve, hc, invoke]
 rfl
theorem headD_eq {l : List TypeId} {t : TypeId} (h : l.headD 0 = t) (hl : l ≠ []) : l[0]? = some t := by
 cases l with
 | nil => exact absurd rfl hl
 | cons a l => simpa using h
theorem args_mem {c : Call} {b : Builtin} {l : List Operand} (ho : o.op = .call c) (hc : c.callee = .builtin b) (ha : c.args.toList = l) {x : Operand} (hx : x ∈ l) : x ∈ o.op.operands := by
 subst ha
 rw [ho]
 simp only [Op.operands, Call.operands, hc]
 simpa using hx
theorem pu_len (hE : EnvOk P E) {c : Call} {t : TypeId} {x : Operand} (ho : o.op = .call c) (hc : c.callee = .builtin .len) (ha : c.args.toList = [x]) (ht : c.argTypes[0]? = some t) (hev : EvOk φ tm ρ o.op.operands)
  (h : opLen E tm t x = some v) : Pu P φ ρ o v := by
 have hm : x ∈ o.op.operands := args_mem ho hc ha List.mem_cons_self
 replace h := evw_some h; obtain ⟨c1, hc1, h⟩ := h
 obtain ⟨hx, hok⟩ := hev.w hm hc1
 have key : ∀ n : Nat, (∀ w, (Builtin.len_ c.argTypes o.type #[concW φ c1]).run P w = .ok (goInt n) w) → v = .w (.c (.int .i64 (.ofNat n))) → Pu P φ ρ o v := fun n hl hv => by
  subst hv
  refine ⟨fun w => ?_, okV_c trivial⟩
  rw [pu_builtin ho hc ha]
  simp only [List.map_cons, List.map_nil, hx, builtin, Sem.run_bind, hl w, Result.andThen_ok, Sem.run_pure]
  rfl
 cases c1 with
 | c c1 =>
  replace h := bnd_some h; obtain ⟨i, hi, h⟩ := h
  obtain ⟨u, hu, hk, _⟩ := (hE.ti t i hi).kind
  cases hik : i.k <;> rw [hik] at h hk <;> try (cases h; done)
  case str =>
   have hk' : u = .string := hk
   subst hk'
   cases c1 <;> try (cases h; done)
   rename_i s
   cases h
   have hs : (ByteArray.mk ⟨s⟩).size = s.length := rfl
   exact key s.length (fun w => by simp [Builtin.len_, ht, r_und hu, concW, conc, hs]) rfl
  case slice e1 e2 e3 =>
   obtain ⟨rfl, _⟩ := hk
   cases c1 <;> try (cases h; done)
   ·cases h
    exact key 0 (fun w => by simp [Builtin.len_, ht, r_und hu, concW, conc]) rfl
   ·rename_i b off n k
    cases h
    obtain ⟨p, hp, _⟩ := hok _ (List.mem_singleton.2 rfl)
    exact key n (fun w => by simp [Builtin.len_, ht, r_und hu, concW, conc, hp]) rfl
   ·rename_i b off n k
    cases h
    obtain ⟨⟨p, hp⟩, _⟩ := hok _ (List.mem_singleton.2 rfl)
    exact key n (fun w => by simp [Builtin.len_, ht, r_und hu, concW, conc, hp]) rfl
 | agg cs =>
  replace h := bnd_some h; obtain ⟨i, hi, h⟩ := h
  obtain ⟨u, hu, hk, _⟩ := (hE.ti t i hi).kind
  cases hik : i.k <;> rw [hik] at h hk <;> try (cases h; done)
  rename_i n e esz
  obtain ⟨rfl, _⟩ := hk
  cases h
  exact key n (fun w => by simp [Builtin.len_, ht, r_und hu, concW]) rfl
theorem mx2_min (a b : Int) : mx2 true a b = if b < a then b else a := by
 simp only [mx2, ile_eq]
 by_cases h : a ≤ b
 ·rw [decide_eq_true h, if_neg (by omega)]
 ·rw [decide_eq_false h, if_pos (by omega)]
theorem mx2_max (a b : Int) : mx2 false a b = if b > a then b else a := by
 simp only [mx2, ile_eq]
 by_cases h : b ≤ a
 ·rw [decide_eq_true h, if_neg (by omega)]
 ·rw [decide_eq_false h, if_pos (by omega)]
theorem pu_min {c : Call} {mn : Bool} (ho : o.op = .call c) (hc : c.callee = .builtin (if mn then .min else .max)) (hev : EvOk φ tm ρ o.op.operands)
  (h : opMin tm mn c.args.toList = some v) : Pu P φ ρ o v := by
 have hev' : ∀ l, c.args.toList = l → ∀ x ∈ l, x ∈ o.op.operands := fun l hl x hx => args_mem ho hc hl hx
 generalize hl : c.args.toList = l at h hev'
 have hev'' := hev' l rfl
 match l, h, hl, hev'' with
 | [x, y], h, hl, hm =>
  replace h := evc_some h; obtain ⟨a, hxa, h⟩ := h
  replace h := evc_some h; obtain ⟨b, hyb, h⟩ := h
  have hx := (hev.c (hm x (by simp)) hxa).1
  have hy := (hev.c (hm y (by simp)) hyb).1
  cases a <;> try (cases h; done)
  cases b <;> try (cases h; done)
  rename_i k a j b
  cases h
  refine ⟨fun w => ?_, okV_c trivial⟩
  rw [pu_builtin ho hc hl]
  cases mn
  ·simp [hx, hy, conc, builtin, Builtin.max_, Builtin.max2, mx2_max, concV, concW]
  ·simp [hx, hy, conc, builtin, Builtin.min_, Builtin.min2, mx2_min, concV, concW]
theorem evo_some {x : Option Operand} {d : Nat} {k : Nat → Option AV} (h : evo tm x d k = some v) : ∃ m, k m = some v ∧ ((x = none ∧ m = d) ∨ ∃ y j, x = some y ∧ ev tm y = some (.w (.c (.int j (.ofNat m))))) := by
 cases x with
 | none => exact ⟨d, h, .inl ⟨rfl, rfl⟩⟩
 | some y =>
  replace h := evn_some h; obtain ⟨j, m, hm, h⟩ := h
  exact ⟨m, h, .inr ⟨y, j, rfl, hm⟩⟩
def BndV (ρ : Operand → Value) (x : Option Operand) (d m : Nat) : Prop := (x.map ρ = none ∧ m = d) ∨ ∃ j : IntKind, x.map ρ = some (.int j (m : Int))
theorem bnd_v {x : Option Operand} {d m : Nat} {l : Array Operand} (hev : EvOk φ tm ρ l) (hm : ∀ y, x = some y → y ∈ l) (h : (x = none ∧ m = d) ∨ ∃ y j, x = some y ∧ ev tm y = some (.w (.c (.int j (.ofNat m))))) : BndV ρ x d m := by
 rcases h with ⟨rfl, rfl⟩ | ⟨y, j, rfl, hy⟩
 ·exact .inl ⟨rfl, rfl⟩
 ·exact .inr ⟨j, congrArg some (hev.c (hm y rfl) hy).1⟩
theorem r_sb {m y : Nat} {j : IntKind} {code : BoundsCode} (h : m ≤ y) (w : World) : (Instr.sliceBound (.int j (m : Int)) y code).run P w = .ok m w := by
 have h1 : (0 : Int) ≤ (m : Int) ∧ (m : Int) ≤ (y : Int) := ⟨Int.natCast_nonneg m, Int.ofNat_le.2 h⟩
 simp [Instr.sliceBound, asIntOf, h1]
theorem r_bounds {b : Bool} {len cap lo h : Nat} {L H : Option Operand} (hL : BndV ρ L 0 lo) (hH : BndV ρ H len h) (h1 : lo ≤ h) (h2 : h ≤ cap) (w : World) :
  (Instr.sliceBounds b len cap (L.map ρ) (H.map ρ) none).run P w = .ok (lo, h, cap) w := by
 rcases hL with ⟨eL, rfl⟩ | ⟨j, eL⟩ <;> rcases hH with ⟨eH, rfl⟩ | ⟨i, eH⟩ <;> simp [Instr.sliceBounds, eL, eH, r_sb h1, r_sb h2]
theorem r_bounds3 {b : Bool} {len cap lo h m : Nat} {j i : IntKind} {L : Option Operand} (hL : BndV ρ L 0 lo) (h1 : lo ≤ h) (h2 : h ≤ m) (h3 : m ≤ cap) (w : World) :
  (Instr.sliceBounds b len cap (L.map ρ) (some (.int i (h : Int))) (some (.int j (m : Int)))).run P w = .ok (lo, h, m) w := by
 rcases hL with ⟨eL, rfl⟩ | ⟨j, eL⟩ <;> simp [Instr.sliceBounds, eL, r_sb h1, r_sb h2, r_sb h3]
theorem r_sliceAt {t e : TypeId} {te : TypeInfo} (hu : P.underlying t = some (.slice e)) (hte : P.info? e = some te) {a : Option Addr} {len cap lo h m : Nat} {L H M : Option Value}
  (hb : ∀ w, (Instr.sliceBounds true len cap L H M).run P w = .ok (lo, h, m) w) (w : World) :
  (Instr.sliceAt t (.slice a len cap) L H M).run P w = .ok (.slice (if m = lo then a else a.map (·.add (lo * te.size))) (h - lo) (m - lo)) w := by
 simp [Instr.sliceAt, Instr.slice, r_und hu, hb, r_size hte]
theorem pu_slice (hE : EnvOk P E) {t : TypeId} {x : Operand} {lo hi mx : Option Operand} (ho : o.op = .slice t x lo hi mx) (hev : EvOk φ tm ρ o.op.operands) (h : opSlice E tm t x lo hi mx = some v) : Pu P φ ρ o v := by
 rw [ho] at hev
 have m1 : x ∈ Op.operands (.slice t x lo hi mx) := by simp [Op.operands]
 have m2 : ∀ y, lo = some y → y ∈ Op.operands (.slice t x lo hi mx) := fun y e => by subst e; simp [Op.operands]
 have m3 : ∀ y, hi = some y → y ∈ Op.operands (.slice t x lo hi mx) := fun y e => by subst e; simp [Op.operands]
 have m4 : ∀ y, mx = some y → y ∈ Op.operands (.slice t x lo hi mx) := fun y e => by subst e; simp [Op.operands]
 have hh : hasHi hi mx = true ∧ opSl E tm t x lo hi mx = some v := by
  unfold opSlice at h
  split at h
  ·cases h
  ·rename_i e; exact ⟨e, h⟩
 clear h
 obtain ⟨hh, h⟩ := hh
 have hhi : ∀ m, mx = some m → ∃ y, hi = some y := fun m e => by
  subst e
  cases hi with
  | none => cases hh
  | some y => exact ⟨y, rfl⟩
 replace h := evc_some h; obtain ⟨c, hc, h⟩ := h
 obtain ⟨hx, hok⟩ := hev.c m1 hc
 replace h := evo_some h; obtain ⟨l, h, hl⟩ := h
 have hL := bnd_v hev m2 hl
 replace h := bnd_some h; obtain ⟨i, hi', h⟩ := h
 obtain ⟨u, hu, hk, _⟩ := (hE.ti t i hi').kind
 have run : ∀ w, (execOp ρ o).run P w = ((Instr.sliceAt t (ρ x) (lo.map ρ) (hi.map ρ) (mx.map ρ)).run P w).andThen fun a w' => .ok (.value a) w' := fun w => by simp [execOp, ho]
 cases hik : i.k <;> rw [hik] at h hk <;> try (cases h; done)
 case str =>
  have hk' : u = .string := hk
  subst hk'
  cases c <;> try (cases h; done)
  rename_i s
  cases mx <;> try (cases h; done)
  replace h := evo_some h; obtain ⟨n, h, hn⟩ := h
  have hH := bnd_v hev m3 hn
  split at h
  ·rename_i b1
   split at h
   ·rename_i b2
    cases h
    refine ⟨fun w => ?_, okV_c trivial⟩
    have hs : (ByteArray.mk ⟨s⟩).size = s.length := rfl
    have he : (ByteArray.mk ⟨s⟩).extract l n = ⟨⟨(s.take n).drop l⟩⟩ := by apply ByteArray.ext; simp [ByteArray.data_extract, List.drop_take]
    rw [run]
    simp only [hx, conc, Option.map_none, Instr.sliceAt, Sem.run_bind, r_und hu, Result.andThen_ok, Instr.slice]
    simp [r_bounds (P := P) hL hH (Nat.le_of_ble_eq_true b1) (Nat.le_of_ble_eq_true b2), hs, he, concV, concW, conc]
   ·cases h
  ·cases h
 case slice e esz eb =>
  obtain ⟨rfl, te, hte, rfl, _⟩ := hk
  cases c <;> try (cases h; done)
  ·replace h := evo_some h; obtain ⟨n, h, hn⟩ := h
   have hH := bnd_v hev m3 hn
   replace h := evo_some h; obtain ⟨m, h, hm⟩ := h
   have hM := bnd_v hev m4 hm
   split at h
   ·rename_i b1
    have hz := Nat.eq_of_beq_eq_true b1
    have z1 : l = 0 := by omega
    have z2 : n = 0 := by omega
    have z3 : m = 0 := by omega
    subst z1 z2 z3
    cases h
    refine ⟨fun w => ?_, okV_c trivial⟩
    rw [run, hx]
    have hb : ∀ w, (Instr.sliceBounds true 0 0 (lo.map ρ) (hi.map ρ) (mx.map ρ)).run P w = .ok (0, 0, 0) w := by
     intro w
     rcases hM with ⟨eM, _⟩ | ⟨j3, eM⟩
     ·rw [eM]; exact r_bounds hL hH (Nat.le_refl _) (Nat.le_refl _) w
     ·cases hmx : mx with
      | none => rw [hmx] at eM; cases eM
      | some m =>
       obtain ⟨y, rfl⟩ := hhi m hmx
       rcases hH with ⟨eH, _⟩ | ⟨j2, eH⟩
       ·cases eH
       ·rw [← hmx, eM, eH]; exact r_bounds3 (m := 0) (h := 0) hL (Nat.le_refl _) (Nat.le_refl _) (Nat.le_refl _) w
    simp only [conc, r_sliceAt hu hte hb]
    simp [concV, concW, conc]
   ·cases h
  ·rename_i b off len k
   obtain ⟨p, hp, hpc⟩ := hok
   simp only [conc, hp] at hx
   replace h := evo_some h; obtain ⟨n, h, hn⟩ := h
   have hH := bnd_v hev m3 hn
   split at h
   ·rename_i b1
    have l1 := Nat.le_of_ble_eq_true b1
    cases hmx : mx with
    | none =>
     rw [hmx] at h
     dsimp only at h
     split at h
     ·rename_i b2
      have l2 := blt_lt b2
      cases h
      refine ⟨fun w => ?_, okV_c ⟨p, hp, by omega⟩⟩
      have ne : ¬ (p.cap - k = l) := by omega
      have e3 : p.cap - k - l = p.cap - (k + l) := by omega
      rw [run, hx, hmx, Option.map_none]
      rw [r_sliceAt hu hte (fun w => r_bounds hL hH (Nat.le_of_lt l2) (by omega) w)]
      simp [concV, concW, conc, hp, ne, e3, add_off, Nat.add_assoc]
     ·cases h
    | some m =>
     rw [hmx] at h
     dsimp only at h
     replace h := evn_some h; obtain ⟨j, q, hq, h⟩ := h
     have hM := (hev.c (m4 m hmx) hq).1
     obtain ⟨y, hy⟩ := hhi m hmx
     rcases hH with ⟨eH, _⟩ | ⟨j2, eH⟩
     ·rw [hy] at eH; cases eH
     split at h
     ·rename_i b3
      have e4 := Nat.eq_of_beq_eq_true b3
      subst e4
      split at h
      ·rename_i b2
       have l2 := blt_lt b2
       cases h
       refine ⟨fun w => ?_, okV_c ⟨⟨p, hp⟩, Nat.le_refl _⟩⟩
       have ne : ¬ (q = l) := by omega
       rw [run, hx, hmx, eH, Option.map_some, hM, conc]
       have hb := fun w => r_bounds3 (P := P) (b := true) (len := len) (cap := p.cap - k) (m := q) (h := q) (j := j) (i := j2) hL (Nat.le_of_lt l2) (Nat.le_refl _) (by omega) w
       have := r_sliceAt (P := P) hu hte (a := some ⟨p.blk, p.base + off, none⟩) hb w
       rw [show (Int.ofNat q) = (q : Int) from rfl, this]
       simp [concV, concW, conc, hp, ne, add_off, Nat.add_assoc]
      ·split at h
       ·rename_i b2
        have hz := Nat.eq_of_beq_eq_true b2
        have z1 : l = 0 := by omega
        have z2 : q = 0 := by omega
        subst z1 z2
        cases h
        refine ⟨fun w => ?_, okV_c ⟨⟨p, hp⟩, Nat.le_refl _⟩⟩
        rw [run, hx, hmx, eH, Option.map_some, hM, conc]
        have hb := fun w => r_bounds3 (P := P) (b := true) (len := len) (cap := p.cap - k) (m := 0) (h := 0) (j := j) (i := j2) hL (Nat.le_refl _) (Nat.le_refl _) (by omega) w
        have := r_sliceAt (P := P) hu hte (a := some ⟨p.blk, p.base + off, none⟩) hb w
        rw [show (Int.ofNat 0) = ((0 : Nat) : Int) from rfl, this]
        simp [concV, concW, conc, hp]
       ·cases h
     ·cases h
   ·cases h
  ·rename_i b off len cap
   obtain ⟨⟨p, hp⟩, hpc⟩ := hok
   simp only [conc, hp] at hx
   replace h := evo_some h; obtain ⟨n, h, hn⟩ := h
   have hH := bnd_v hev m3 hn
   split at h
   ·rename_i b1
    have l1 := Nat.le_of_ble_eq_true b1
    replace h := evo_some h; obtain ⟨m, h, hm⟩ := h
    have hM := bnd_v hev m4 hm
    split at h
    ·rename_i b2
     have l2 := Nat.le_of_ble_eq_true b2
     split at h
     ·rename_i b3
      have l3 := Nat.le_of_ble_eq_true b3
      have hb : l ≤ n → ∀ w, (Instr.sliceBounds true len cap (lo.map ρ) (hi.map ρ) (mx.map ρ)).run P w = .ok (l, n, m) w := by
       intro l4 w
       rcases hM with ⟨eM, e5⟩ | ⟨j3, eM⟩
       ·rw [eM, e5]; exact r_bounds hL hH l4 (by omega) w
       ·cases hmx : mx with
        | none => rw [hmx] at eM; cases eM
        | some y =>
         obtain ⟨z, hz⟩ := hhi y hmx
         rcases hH with ⟨eH, _⟩ | ⟨j2, eH⟩
         ·rw [hz] at eH; cases eH
         ·rw [← hmx, eM, eH]; exact r_bounds3 hL l4 l2 l3 w
      split at h
      ·rename_i b4
       have l4 := blt_lt b4
       cases h
       refine ⟨fun w => ?_, okV_c ⟨⟨p, hp⟩, by omega⟩⟩
       have ne : ¬ (m = l) := by omega
       rw [run, hx, r_sliceAt hu hte (hb (Nat.le_of_lt l4))]
       simp [concV, concW, conc, hp, ne, add_off, Nat.add_assoc]
      ·split at h
       ·rename_i b5
        have hz := Nat.eq_of_beq_eq_true b5
        have z1 : l = 0 := by omega
        have z2 : n = 0 := by omega
        subst z1 z2
        cases h
        refine ⟨fun w => ?_, okV_c ⟨⟨p, hp⟩, Nat.zero_le _⟩⟩
        rw [run, hx, r_sliceAt hu hte (hb (Nat.le_refl _))]
        simp [concV, concW, conc, hp, Addr.add]
       ·cases h
     ·cases h
    ·cases h
   ·cases h
end
end Go.Proofs.YtabmjadcoepbeaaGreat.Ev
namespace Go.Proofs.YtabmjadcoepbeaaGreat.Ev
noncomputable def findIx (k : AW) : List (AW × AW) → Nat → Option (Nat × AW)
 | [], _ => none
 | e :: es, i => if eqK k e.1 = true then some (i, e.2) else findIx k es (i + 1)
theorem findIx_findK (k : AW) : ∀ (es : List (AW × AW)) (i : Nat), (findIx k es i).map (·.2) = findK k es
 | [], _ => rfl
 | e :: es, i => by
  show (if eqK k e.1 = true then some (i, e.2) else findIx k es (i + 1)).map (·.2) = (match eqK k e.1 with | true => some e.2 | false => findK k es)
  cases h : eqK k e.1 with
  | true => rfl
  | false => rw [if_neg (by simp)]; exact findIx_findK k es (i + 1)
section
variable {P : Program} {φ : Phi} {ρ : Operand → Value} {tm : PT AV} {o : Oper} {E : Env} {v : AV}
def conc2 (φ : Phi) (e : AW × AW) : Value × Value := (concW φ e.1, concW φ e.2)
theorem now_some {u : TypeDesc} {k : AW} {ks : KS} (hn : ∀ b : AW, shapeB ks b = true → Instr.sameNow u (concW φ k) (concW φ b) = some (eqK k b)) :
  ∀ (es : List (AW × AW)) (L : List MapEntry) (i : Nat), L.map (fun e => (e.key, e.val)) = es.map (conc2 φ) → (∀ e ∈ es, shapeB ks e.1 = true) →
   Instr.findNow u (concW φ k) L i = some ((findIx k es i).map fun p => (p.1, concW φ p.2))
 | [], [], i, _, _ => rfl
 | [], _ :: _, i, h, _ => by cases h
 | _ :: _, [], i, h, _ => by cases h
 | e :: es, m :: L, i, h, hs => by
  simp only [List.map_cons, List.cons.injEq, conc2, Prod.mk.injEq] at h
  obtain ⟨⟨h1, h2⟩, h3⟩ := h
  simp only [Instr.findNow, h1, hn e.1 (hs e List.mem_cons_self), findIx]
  cases h4 : eqK k e.1 with
  | true => simp [h2]
  | false => simp only [Bool.false_eq_true, if_false]; exact now_some hn es L (i + 1) h3 fun x m => hs x (List.mem_cons_of_mem _ m)
theorem ask_some {kt : Nat} {k : AW} {ks : KS} (hn : ∀ (b : AW) (w : World), shapeB ks b = true → (Op.equal kt (concW φ k) (concW φ b)).run P w = .ok (eqK k b) w) (w : World) :
  ∀ (es : List (AW × AW)) (L : List MapEntry) (i : Nat), L.map (fun e => (e.key, e.val)) = es.map (conc2 φ) → (∀ e ∈ es, shapeB ks e.1 = true) →
   (Instr.findAsking kt (concW φ k) L i).run P w = .ok ((findIx k es i).map fun p => (p.1, concW φ p.2)) w
 | [], [], i, _, _ => rfl
 | [], _ :: _, i, h, _ => by cases h
 | _ :: _, [], i, h, _ => by cases h
 | e :: es, m :: L, i, h, hs => by
  simp only [List.map_cons, List.cons.injEq, conc2, Prod.mk.injEq] at h
  obtain ⟨⟨h1, h2⟩, h3⟩ := h
  simp only [Instr.findAsking, h1, Sem.run_bind, hn e.1 w (hs e List.mem_cons_self), Result.andThen_ok, findIx]
  cases h4 : eqK k e.1 with
  | true => simp [h2]
  | false => simp only [Bool.false_eq_true, if_false]; exact ask_some hn w es L (i + 1) h3 fun x m => hs x (List.mem_cons_of_mem _ m)
theorem find_ok {kt : Nat} {ks : KS} (hk : KeyOk P kt ks) {k : AW} (hs : shapeB ks k = true) (es : List (AW × AW)) (L : List MapEntry) (h : L.map (fun e => (e.key, e.val)) = es.map (conc2 φ)) (hes : ∀ e ∈ es, shapeB ks e.1 = true) (w : World) :
  (Instr.findKey kt (concW φ k) L).run P w = .ok ((findIx k es 0).map fun p => (p.1, concW φ p.2)) w := by
 obtain ⟨u, hu, hn⟩ := hk.und
 simp only [Instr.findKey, Sem.run_bind, r_und hu, Result.andThen_ok]
 rcases hn with hn | hn
 ·rw [now_some (φ := φ) (fun b hb => hn φ k b hs hb) es L 0 h hes]; rfl
 ·cases es with
  | nil =>
   cases L with
   | nil => rfl
   | cons m L => cases h
  | cons e es =>
   cases L with
   | nil => cases h
   | cons m L =>
    have h0 := h
    simp only [List.map_cons, List.cons.injEq, conc2, Prod.mk.injEq] at h0
    have : Instr.findNow u (concW φ k) (m :: L) 0 = none := by simp only [Instr.findNow, h0.1.1, hn φ k e.1 hs (hes e List.mem_cons_self)]
    rw [this]
    exact ask_some (fun b w hb => hk.eq φ k b w hs hb) w (e :: es) (m :: L) 0 h hes
def Ld (P : Program) (φ : Phi) (ρ : Operand → Value) (o : Oper) (v : AV) (w : World) : Prop := (execOp ρ o).run P w = .ok (.value (concV φ v)) w ∧ okV φ v
theorem row_cell {w : World} {p : Pl} {e : Nat} {cs : List AC} (h : bok φ w p (.row e cs)) {k : Nat} {c : AC} (hc : cs[k]? = some c) : w.cell? ⟨p.blk, p.base + k, none⟩ = some (conc φ c) := by
 obtain ⟨C, t, h1, h2, _⟩ := h
 rw [cell_of_row w _ _ _ _ _ h1]; exact (h2 k c hc).1
theorem row_ok {w : World} {p : Pl} {e : Nat} {cs : List AC} (h : bok φ w p (.row e cs)) : okCs φ cs := fun c m => by
 obtain ⟨C, t, _, h2, _⟩ := h
 obtain ⟨k, hk⟩ := List.getElem?_of_mem m
 exact (h2 k c hk).2
theorem cells_row {b : AB} {cs : List AC} (h : cellsOf b = some cs) : ∃ e, b = .row e cs := by
 cases b with
 | row e ds => cases h; exact ⟨e, rfl⟩
 | map ks es => cases h
theorem r_loadVar {w : World} {p : Pl} {e : Nat} {cs : List AC} (h : bok φ w p (.row e cs)) {size off : Nat} {agg : Bool} {x : AW} (hx : TI.part size agg cs off = some x) {t : TypeId} {tf : TypeInfo} {uf : TypeDesc} (h1 : P.info? t = some tf) (h2 : tf.size = size)
  (h3 : P.underlying t = some uf) (h4 : aggB uf = agg) : (loadVar t ⟨p.blk, p.base + off, none⟩).run P w = .ok (concW φ x) w := by
 subst h2 h4
 simp only [loadVar, Sem.run_bind, r_agg h3, Result.andThen_ok]
 rcases part_some hx with ⟨ha, hl, rfl⟩ | ⟨ha, c, h5, rfl⟩
 ·have e1 : ((((cs.drop off).take tf.size).map (conc φ))).length = tf.size := by simp; omega
  have e2 := run_loadCells_list (P := P) (w := w) ⟨p.blk, p.base + off, none⟩ (((cs.drop off).take tf.size).map (conc φ)) (fun j v hv => by
   rw [add_off]
   rw [List.getElem?_map, List.getElem?_take] at hv
   split at hv
   ·rw [List.getElem?_drop] at hv
    cases hc : cs[off + j]? with
    | none => rw [hc] at hv; cases hv
    | some c =>
     rw [hc] at hv
     cases hv
     rw [Nat.add_assoc]
     exact row_cell h hc
   ·cases hv)
  rw [e1] at e2
  simp only [ha, if_true, Sem.run_bind, r_size h1, Result.andThen_ok, e2, Sem.run_pure, concW]
 ·simp only [ha, Bool.false_eq_true, if_false]
  simp [row_cell h h5, concW]
theorem ld_load (hE : EnvOk P E) {h : PT AB} {w : World} (hS : Sim φ h.get w) {t : TypeId} {x : Operand} (ho : o.op = .load t x) (hev : EvOk φ tm ρ o.op.operands) (hv : opLoad E tm h t x = some v) : Ld P φ ρ o v w := by
 rw [ho] at hev
 replace hv := evc_some hv; obtain ⟨c, hc, hv⟩ := hv
 obtain ⟨hx, hok⟩ := hev.c (by simp [Op.operands]) hc
 cases c <;> try (cases hv; done)
 rename_i i off
 replace hv := bnd_some hv; obtain ⟨b, hb, hv⟩ := hv
 replace hv := bnd_some hv; obtain ⟨cs, hcs, hv⟩ := hv
 replace hv := bnd_some hv; obtain ⟨ti, hti, hv⟩ := hv
 replace hv := bnd_some hv; obtain ⟨y, hy, hv⟩ := hv
 cases hv
 obtain ⟨e, rfl⟩ := cells_row hcs
 obtain ⟨p, hp, hbk⟩ := hS.ok i _ hb
 obtain ⟨tf, u, _, _, h1, h2, h3, h4, _⟩ := (hE.ti t ti hti).ok
 have hl := r_loadVar (P := P) hbk hy h1 h3 h2 h4
 refine ⟨?_, part_ok hy (row_ok hbk)⟩
 simp only [conc, hp] at hx
 simp [execOp, ho, hx, Instr.loadAt, Instr.sureAddr, hl, concV]
theorem sameK_eq {a b : KS} (h : sameK a b = true) : a = b := by cases a <;> cases b <;> first | rfl | cases h
theorem mapEs_some {b : AB} {ks : KS} {es : List (AW × AW)} (h : mapEs b ks = some es) : b = .map ks es := by
 cases b with
 | row e cs => cases h
 | map j fs =>
  simp only [mapEs] at h
  split at h
  ·rename_i e; cases h; rw [sameK_eq e]
  ·cases h
theorem ld_lookup (hE : EnvOk P E) {h : PT AB} {w : World} (hS : Sim φ h.get w) {t : TypeId} {x k : Operand} {ok : Bool} (ho : o.op = .lookup t x k ok) (hev : EvOk φ tm ρ o.op.operands) (hv : opLookup E tm h t x k ok = some v) : Ld P φ ρ o v w := by
 rw [ho] at hev
 replace hv := bnd_some hv; obtain ⟨ti, hti, hv⟩ := hv
 obtain ⟨u, hu, hkd, _⟩ := (hE.ti t ti hti).kind
 cases hik : ti.k <;> rw [hik] at hv hkd <;> try (cases hv; done)
 rename_i ks kt et
 obtain ⟨rfl, hko⟩ := hkd
 replace hv := evw_some hv; obtain ⟨kk, hkk, hv⟩ := hv
 split at hv
 ·rename_i hsh
  replace hv := evc_some hv; obtain ⟨c, hc, hv⟩ := hv
  replace hv := bnd_some hv; obtain ⟨es, hes, hv⟩ := hv
  replace hv := bnd_some hv; obtain ⟨pr, hpr, hv⟩ := hv
  have hx := (hev.c (x := x) (by simp [Op.operands]) hc).1
  obtain ⟨hk, _⟩ := hev.w (x := k) (by simp [Op.operands]) hkk
  -- the entries
  have ent : ∃ L : Array MapEntry, (match conc φ c with | .map none => some #[] | .map (some r) => (match w.heap[r]? with | some (.map E _) => some E | _ => none) | _ => none) = some L ∧
    L.toList.map (fun e => (e.key, e.val)) = es.map (conc2 φ) ∧ ∀ e ∈ es, okW φ e.1 ∧ okW φ e.2 ∧ shapeB ks e.1 = true := by
   cases c <;> try (cases hes; done)
   ·cases hes; exact ⟨#[], rfl, rfl, fun e m => by cases m⟩
   ·rename_i i
    replace hes := bnd_some hes; obtain ⟨b, hb, hes⟩ := hes
    have := mapEs_some hes
    subst this
    obtain ⟨p, hp, L, clock, h1, h2, h3⟩ := hS.ok i _ hb
    exact ⟨L, by simp only [conc, hp, h1], h2, h3⟩
  obtain ⟨L, hL, hm, hall⟩ := ent
  have hf := find_ok (φ := φ) hko hsh es L.toList hm (fun e m => (hall e m).2.2)
  have hrun : (execOp ρ o).run P w = ((do
    Instr.checkKey L.isEmpty 10000 kt (concW φ kk)
    let r ← Instr.findKey kt (concW φ kk) L.toList
    let p ← (match r with
     | some (_, v) => pure (v, true)
     | none => do pure (← zeroValue et, false) : Sem (Value × Bool))
    pure (if ok = true then Value.tuple #[p.1, .bool p.2] else p.1) : Sem Value).run P w).andThen fun a w' => .ok (.value a) w' := by
   simp only [execOp, ho, Instr.lookup, Sem.run_bind, r_und hu, Result.andThen_ok, hx, hk]
   congr 1
   cases hcv : conc φ c <;> rw [hcv] at hL <;> try (cases hL; done)
   rename_i r
   cases r with
   | none =>
    cases hL
    simp only [Sem.run_bind, Sem.run_pure, Result.andThen_ok]
    congr 1; funext _ w; congr 1; funext r w
    cases r with
    | some q => simp
    | none => simp only [Sem.run_bind]; cases (zeroValue et).run P w <;> simp
   | some r =>
    dsimp only at hL
    cases hh : w.heap[r]? with
    | none => rw [hh] at hL; cases hL
    | some ob =>
     rw [hh] at hL
     cases ob <;> try (cases hL; done)
     cases hL
     rename_i clk
     have hg : (getObj r).run P w = .ok (.map L clk) w := by unfold getObj; simp only [Sem.run, hh]
     simp only [Sem.run_bind, hg, Sem.run_pure, Result.andThen_ok]
     congr 1; funext _ w; congr 1; funext r w
     cases r with
     | some q => simp
     | none => simp only [Sem.run_bind]; cases (zeroValue et).run P w <;> simp
  have hz : ∀ w', pr.1 = pr.1 → (match (findIx kk es 0).map fun p => (p.1, concW φ p.2) with
    | some (_, v) => pure (v, true)
    | none => do pure (← zeroValue et, false) : Sem (Value × Bool)).run P w' = .ok (concW φ pr.1, pr.2) w' ∧ okW φ pr.1 := by
   intro w' _
   have hfk := findIx_findK kk es 0
   cases hix : findIx kk es 0 with
   | some q =>
    rw [hix] at hfk
    rw [← hfk] at hpr
    cases hpr
    refine ⟨rfl, ?_⟩
    have : ∀ (l : List (AW × AW)) (n : Nat) (q : Nat × AW), findIx kk l n = some q → ∃ e ∈ l, e.2 = q.2 := by
     intro l
     induction l with
     | nil => intro n q h; cases h
     | cons e l ih =>
      intro n q h
      simp only [findIx] at h
      split at h
      ·cases h; exact ⟨e, List.mem_cons_self, rfl⟩
      ·obtain ⟨e', m, he⟩ := ih _ _ h; exact ⟨e', List.mem_cons_of_mem _ m, he⟩
    obtain ⟨e, m, he⟩ := this es 0 q hix
    show okW φ q.2
    rw [← he]; exact (hall e m).2.1
   | none =>
    rw [hix] at hfk
    rw [← hfk] at hpr
    replace hpr := bnd_some hpr; obtain ⟨te, hte, hpr⟩ := hpr
    replace hpr := bnd_some hpr; obtain ⟨z, hz, hpr⟩ := hpr
    cases hpr
    obtain ⟨tf, u2, zv, zw, h1, _, _, _, h5, h6, rfl, h8, _⟩ := (hE.ti et te hte).ok
    rw [hz] at h6; cases h6
    refine ⟨?_, okW_no h8⟩
    simp [zeroValue, typeInfo, h1, h5, concW_no (φ := φ) h8]
  obtain ⟨z1, z2⟩ := hz w rfl
  refine ⟨?_, ?_⟩
  ·rw [hrun]
   simp only [Sem.run_bind, hko.chk φ kk _ w hsh, Result.andThen_ok, hf w, z1, Sem.run_pure]
   cases ok
   ·cases hv; rfl
   ·cases hv; rfl
  ·cases ok
   ·cases hv; exact z2
   ·cases hv
    intro q m
    rcases List.mem_cons.1 m with rfl | m
    ·exact z2
    ·rw [List.mem_singleton.1 m]; exact fun c mc => by rw [List.mem_singleton.1 mc]; exact trivial
 ·cases hv
end
end Go.Proofs.YtabmjadcoepbeaaGreat.Ev
namespace Go.Proofs.YtabmjadcoepbeaaGreat.Ev
def upd (φ : Phi) (i : Nat) (p : Pl) : Phi := fun j => if j = i then some p else φ j
section
variable {φ ψ : Phi} {w u : World}
theorem upd_same (φ : Phi) (i : Nat) (p : Pl) : upd φ i p i = some p := if_pos rfl
theorem upd_other (φ : Phi) {i j : Nat} (p : Pl) (h : j ≠ i) : upd φ i p j = φ j := if_neg h
theorem upd_le {φ : Phi} {i : Nat} {p : Pl} (h : φ i = none) : φ.le (upd φ i p) := fun j q hq => by
 by_cases e : j = i
 ·subst e; rw [h] at hq; cases hq
 ·rw [upd_other φ p e]; exact hq
theorem bok.mono {p : Pl} {b : AB} (h : bok φ w p b) (hl : φ.le ψ) (hh : u.heap[p.blk]? = w.heap[p.blk]?) : bok ψ u p b := by
 cases b with
 | row e cs =>
  obtain ⟨C, t, h1, h2, h3⟩ := h
  refine ⟨C, t, hh.trans h1, fun k c hk => ?_, h3⟩
  obtain ⟨g1, g2⟩ := h2 k c hk
  rw [conc_le hl g2]
  exact ⟨g1, g2.le hl⟩
 | map ks es =>
  obtain ⟨E, k, h1, h2, h3⟩ := h
  refine ⟨E, k, hh.trans h1, h2.trans (List.map_congr_left fun e m => ?_), fun e m => ⟨(h3 e m).1.le hl, (h3 e m).2.1.le hl, (h3 e m).2.2⟩⟩
  rw [concW_le hl (h3 e m).1, concW_le hl (h3 e m).2.1]
theorem stp_newG {h g : Hp} {nx : Nat} {o : Obj} {b : AB} {p : Pl} (hS : Sim φ h w) (hf : φ nx = none) (hp : p.blk = w.heap.size) (hu : u.heap = (w.alloc o).heap) (h1 : u.os = w.os) (h2 : u.tape = w.tape) (h3 : u.output = w.output)
  (hb : bok (upd φ nx p) u p b) (hold : ∀ i x, g i = some x → (i = nx ∧ x = b) ∨ (i ≠ nx ∧ h i = some x)) : Stp φ h nx w (upd φ nx p) g (nx + 1) u := by
 have hl : φ.le (upd φ nx p) := upd_le hf
 have hsz : u.heap.size = w.heap.size + 1 := by rw [hu]; simp
 have hkeep : ∀ n, n < w.heap.size → u.heap[n]? = w.heap[n]? := fun n hn => by rw [hu]; exact heap_alloc_old w o n hn
 have hblk : ∀ i x q, h i = some x → φ i = some q → q.blk < w.heap.size := fun i x q h1 h2 => by
  obtain ⟨q', e, hb⟩ := hS.ok i x h1
  rw [h2] at e; cases e
  exact hb.lt
 refine ⟨⟨fun i x h => ?_, fun i j x y q r hi hj hq hr hne => ?_⟩, fun i hi => ?_, by omega, fun n hn _ => hkeep n hn, fun n hn => ?_, h1, h2, h3⟩
 ·rcases hold i x h with ⟨rfl, rfl⟩ | ⟨e, h⟩
  ·exact ⟨p, upd_same _ _ _, hb⟩
  ·obtain ⟨q, hq, hbk⟩ := hS.ok i x h
   exact ⟨q, by rw [upd_other _ _ e]; exact hq, hbk.mono hl (hkeep _ hbk.lt)⟩
 ·rcases hold i x hi with ⟨e, _⟩ | ⟨e, hi'⟩ <;> rcases hold j y hj with ⟨e', _⟩ | ⟨e', hj'⟩
  ·exact absurd (e.trans e'.symm) hne
  ·rw [e, upd_same] at hq; cases hq
   rw [upd_other _ _ e'] at hr
   have := hblk j y r hj' hr
   omega
  ·rw [e', upd_same] at hr; cases hr
   rw [upd_other _ _ e] at hq
   have := hblk i x q hi' hq
   omega
  ·rw [upd_other _ _ e] at hq
   rw [upd_other _ _ e'] at hr
   exact hS.inj i j x y q r hi' hj' hq hr hne
 ·exact upd_other _ _ (by omega)
 ·obtain ⟨i, x, q, hi, hq, rfl⟩ := hn
  rcases hold i x hi with ⟨rfl, rfl⟩ | ⟨e, hi⟩
  ·rw [upd_same] at hq; cases hq
   exact .inr (by omega)
  ·rw [upd_other _ _ e] at hq
   exact .inl ⟨i, x, q, hi, hq, rfl⟩
end
theorem new_hold {s : HS} {b : AB} (i : Nat) (x : AB) (h : (s.new b).h.get i = some x) : (i = s.nx ∧ x = b) ∨ (i ≠ s.nx ∧ s.h.get i = some x) := by
 rcases PT.get_set (t := s.h) h with ⟨e, hv⟩ | ⟨e, hv⟩
 ·cases hv; exact .inl ⟨e, rfl⟩
 ·exact .inr ⟨e, hv⟩
section
variable {P : Program} {φ : Phi} {ρ : Operand → Value} {tm : PT AV} {o : Oper} {E : Env} {v : AV}
def Nw (P : Program) (φ : Phi) (ρ : Operand → Value) (o : Oper) (b : AB) (k : NK) (i : Nat) (w : World) : Prop :=
 ∃ (ob : Obj) (p : Pl), p.blk = w.heap.size ∧ (execOp ρ o).run P w = .ok (.value (concV (upd φ i p) (k.val i))) (w.alloc ob) ∧ okV (upd φ i p) (k.val i) ∧ bok (upd φ i p) (w.alloc ob) p b
theorem new_row {w : World} {C : Array Value} {t : TypeId} {p : Pl} {i e : Nat} {cs : List AC} (hf : φ i = none) (hp : p.blk = w.heap.size) (hb : p.base = 0) (hok : okCs φ cs) (hC : ∀ (k : Nat) (c : AC), cs[k]? = some c → C[k]? = some (conc φ c))
  (he : e ≠ 0 → cs.length ≤ p.cap * e ∧ p.cap * e ≤ C.size) : bok (upd φ i p) (w.alloc (.cells C t)) p (.row e cs) := by
 refine ⟨C, t, by rw [hp]; exact heap_alloc_new w _, fun k c hk => ?_, fun h => by rw [hb]; simpa using he h⟩
 have h1 := hok c (List.mem_of_getElem? hk)
 rw [conc_le (upd_le hf) h1, hb, Nat.zero_add]
 exact ⟨hC k c hk, h1.le (upd_le hf)⟩
theorem map_cells (cs : List AC) (k : Nat) (c : AC) (h : cs[k]? = some c) : ((cs.map (conc φ)).toArray)[k]? = some (conc φ c) := by simp [h]
theorem zero_ok (hE : EnvOk P E) {t : TypeId} {i : TI} (hi : E.ti.get t = some i) : ∃ ti z, P.info? t = some ti ∧ ti.zero = some z ∧ z.cells = (i.zero.map (conc φ)).toArray ∧ okCs φ i.zero ∧ ti.size = i.size ∧ i.zero.length = i.size := by
 obtain ⟨ti, u, z, zw, h1, h2, h3, h4, h5, h6, rfl, h8, _, h9⟩ := (hE.ti t i hi).ok
 refine ⟨ti, _, h1, h5, ?_, ?_, h3, h9⟩
 ·rw [← concW_no (φ := φ) h8, concW_cells, zero_cells h6]
 ·have := okW_no (φ := φ) h8; unfold okW at this; rw [zero_cells h6] at this; exact this
theorem nw_alloc (hE : EnvOk P E) {t : TypeId} {b : AB} {k : NK} (ho : o.op = .alloc t) (h : opAlloc E t = some (b, k)) {i : Nat} (hf : φ i = none) (w : World) : Nw P φ ρ o b k i w := by
 replace h := bnd_some h; obtain ⟨ti, hti, h⟩ := h
 cases h
 obtain ⟨tf, z, h1, h2, h3, h4, _⟩ := zero_ok (φ := φ) hE hti
 refine ⟨.cells (ti.zero.map (conc φ)).toArray t, ⟨w.heap.size, 0, 0⟩, rfl, ?_, okV_c ⟨_, upd_same _ _ _⟩, new_row hf rfl rfl h4 (map_cells _) (fun h => absurd rfl h)⟩
 simp [execOp, ho, Instr.alloc, zeroValue, typeInfo, h1, h2, newVar, newRow, h3, NK.val, concV, concW, conc, upd_same]
theorem nw_box {t : TypeId} {x : Operand} {b : AB} {k : NK} (ho : o.op = .box t x) (hev : EvOk φ tm ρ o.op.operands) (h : opBox tm x = some (b, k)) {i : Nat} (hf : φ i = none) (w : World) : Nw P φ ρ o b k i w := by
 rw [ho] at hev
 replace h := evw_some h; obtain ⟨y, hy, h⟩ := h
 cases h
 obtain ⟨h1, h2⟩ := hev.w (by simp [Op.operands]) hy
 refine ⟨.cells (y.cells.map (conc φ)).toArray t, ⟨w.heap.size, 0, 0⟩, rfl, ?_, okV_c ⟨_, upd_same _ _ _⟩, new_row hf rfl rfl h2 (map_cells _) (fun h => absurd rfl h)⟩
 have e1 : (execOp ρ o).run P w = .ok (.value (.pointer (some ⟨w.heap.size, 0, none⟩))) (w.alloc (.cells (concW φ y).cells t)) := by simp [execOp, ho, h1, Instr.box, newVar, newRow]
 rw [e1, concW_cells]
 simp [NK.val, concV, concW, conc, upd_same]
theorem nw_map {t : TypeId} {b : AB} {k : NK} (ho : o.op = .makeMap t none) (h : opMakeMap E t = some (b, k)) {i : Nat} (w : World) : Nw P φ ρ o b k i w := by
 replace h := bnd_some h; obtain ⟨ti, hti, h⟩ := h
 split at h <;> try (cases h; done)
 cases h
 refine ⟨.map #[] 0, ⟨w.heap.size, 0, 0⟩, rfl, ?_, okV_c ⟨_, upd_same _ _ _⟩, #[], 0, heap_alloc_new w _, rfl, fun e m => by cases m⟩
 simp [execOp, ho, Instr.makeMap, NK.val, concV, concW, conc, upd_same]
theorem reps_len (n : Nat) (z : List AC) : (reps n z).length = n * z.length := by
 induction n with
 | zero => show ([] : List AC).length = _; simp
 | succ n ih => show (z ++ reps n z).length = _; rw [List.length_append, ih, Nat.succ_mul]; omega
theorem reps_get (z : List AC) : ∀ (n k : Nat), k < n * z.length → (reps n z)[k]? = z[k % z.length]?
 | 0, k, h => by omega
 | n + 1, k, h => by
  show (z ++ reps n z)[k]? = _
  rcases Nat.lt_or_ge k z.length with hk | hk
  ·rw [List.getElem?_append_left hk, Nat.mod_eq_of_lt hk]
  ·rw [List.getElem?_append_right hk, reps_get z n (k - z.length) (by rw [Nat.succ_mul] at h; omega), ← Nat.mod_eq_sub_mod hk]
theorem reps_mem {n : Nat} {z : List AC} {c : AC} (h : c ∈ reps n z) : c ∈ z := by
 induction n with
 | zero => cases h
 | succ n ih =>
  rcases List.mem_append.1 (show c ∈ z ++ reps n z from h) with m | m
  ·exact m
  ·exact ih m
theorem made_reps (z : List AC) (n : Nat) : madeCells (z.map (conc φ)).toArray (n * z.length) = ((reps n z).map (conc φ)).toArray := by
 apply Array.ext
 ·simp [size_madeCells, reps_len]
 ·intro k h1 h2
  rw [size_madeCells] at h1
  have hz : 0 < z.length := by
   rcases Nat.eq_zero_or_pos z.length with e | e
   ·rw [e] at h1; omega
   ·exact e
  have hm : k % z.length < z.length := Nat.mod_lt _ hz
  have e1 := reps_get z n k h1
  rw [List.getElem?_eq_getElem hm] at e1
  have h2' : k < (reps n z).length := by rw [reps_len]; exact h1
  rw [List.getElem?_eq_getElem h2'] at e1
  simp only [Option.some.injEq] at e1
  simp [madeCells, e1, hm]
theorem nw_makeSlice (hE : EnvOk P E) {t : TypeId} {l c : Operand} {b : AB} {k : NK} (ho : o.op = .makeSlice t l c) (hev : EvOk φ tm ρ o.op.operands) (h : opMakeSlice E tm t l c = some (b, k)) {i : Nat} (hf : φ i = none) (w : World) : Nw P φ ρ o b k i w := by
 rw [ho] at hev
 replace h := bnd_some h; obtain ⟨ti, hti, h⟩ := h
 obtain ⟨u, hu, hk, _⟩ := (hE.ti t ti hti).kind
 cases hik : ti.k <;> rw [hik] at h hk <;> try (cases h; done)
 rename_i e esz eb
 obtain ⟨rfl, te, hte, rfl, rfl, hz1, _⟩ := hk
 replace h := bnd_some h; obtain ⟨ie, hie, h⟩ := h
 replace h := evn_some h; obtain ⟨j1, n, hn, h⟩ := h
 replace h := evn_some h; obtain ⟨j2, m, hm, h⟩ := h
 have e1 := (hev.c (x := l) (by simp [Op.operands]) hn).1
 have e2 := (hev.c (x := c) (by simp [Op.operands]) hm).1
 split at h
 ·rename_i b1
  split at h
  ·rename_i b2
   have l1 := Nat.le_of_ble_eq_true b1
   have l2 := Nat.le_of_ble_eq_true b2
   cases h
   obtain ⟨tf, z, h1, h2, h3, h4, h5, h6⟩ := zero_ok (φ := φ) hE hie
   rw [hte] at h1; cases h1
   have l3 : te.bytes * m ≤ 1000000 := by rw [Nat.mul_comm]; exact Nat.le_trans (Nat.mul_le_mul_left m (Nat.le_succ _)) l2
   have l4 : m ≤ 1000000 := by
    rcases Nat.eq_zero_or_pos m with e | e
    ·omega
    ·exact Nat.le_trans (Nat.le_mul_of_pos_right m (Nat.succ_pos _)) l2
   have l5 : (te.bytes : Int) * (m : Int) ≤ 281474976710656 := by
    have : ((te.bytes * m : Nat) : Int) ≤ 281474976710656 := by omega
    rwa [Int.natCast_mul] at this
   have hr := run_make (P := P) w t e te z hu hte h2 j1 j2 (n : Int) (m : Int) (Int.natCast_nonneg n) (Int.ofNat_le.2 l1) l5 (by omega)
   have hsz : te.size = ie.zero.length := by omega
   simp only [Int.toNat_natCast] at hr
   rw [h3, hsz, made_reps] at hr
   have hme : n * ie.zero.length ≤ m * ie.zero.length := Nat.mul_le_mul_right _ l1
   refine ⟨.cells ((reps m ie.zero).map (conc φ)).toArray e, ⟨w.heap.size, 0, m⟩, rfl, ?_, okV_c ⟨_, upd_same _ _ _, by simpa using l1⟩, new_row (C := ((reps m ie.zero).map (conc φ)).toArray) hf rfl rfl (fun c hc => h4 c (reps_mem hc)) (fun k c hk => ?_) (fun _ => ?_)⟩
   ·simp only [execOp, ho, Sem.run_bind]
    rw [e1, e2]
    simp only [conc]
    rw [show (Int.ofNat n) = (n : Int) from rfl, show (Int.ofNat m) = (m : Int) from rfl, hr]
    simp [NK.val, concV, concW, conc, upd_same]
   ·have hkl : k < n * ie.zero.length := by rw [← reps_len]; exact (List.getElem?_eq_some_iff.1 hk).1
    have : (reps m ie.zero)[k]? = some c := by rw [reps_get _ _ _ (by omega), ← reps_get _ _ _ hkl]; exact hk
    simp [this]
   ·dsimp only
    rw [reps_len, hsz]
    exact ⟨hme, by simp [reps_len]⟩
  ·cases h
 ·cases h
theorem fill_len {place : Nat → Option (Nat × Nat)} : ∀ {ps : List (Nat × AW)} {cs ds : List AC}, fillS place cs ps = some ds → ds.length = cs.length
 | [], cs, ds, h => by cases h; rfl
 | p :: ps, cs, ds, h => by
  have h' : (bnd (place p.1) fun q => match Nat.beq p.2.cells.length q.2 with | true => bnd (splice cs q.1 p.2.cells) (fun cs => fillS place cs ps) | false => none) = some ds := h
  replace h' := bnd_some h'; obtain ⟨q, hq, h'⟩ := h'
  split at h'
  ·replace h' := bnd_some h'; obtain ⟨es, hes, h'⟩ := h'
   obtain ⟨h1, rfl⟩ := splice_some hes
   rw [fill_len h']
   simp; omega
  ·cases h'
theorem nw_buildSlice (hE : EnvOk P E) {t len : Nat} {ps : Array (Nat × Operand)} {b : AB} {k : NK} (ho : o.op = .buildSlice t len ps) (hev : EvOk φ tm ρ o.op.operands) (h : opBuildSlice E tm t len ps = some (b, k)) {i : Nat} (hf : φ i = none) (w : World) : Nw P φ ρ o b k i w := by
 rw [ho] at hev
 replace h := bnd_some h; obtain ⟨ti, hti, h⟩ := h
 obtain ⟨u, hu, hk, _⟩ := (hE.ti t ti hti).kind
 cases hik : ti.k <;> rw [hik] at h hk <;> try (cases h; done)
 rename_i e esz eb
 obtain ⟨rfl, te, hte, rfl, rfl, hz1, _⟩ := hk
 replace h := bnd_some h; obtain ⟨ie, hie, h⟩ := h
 replace h := bnd_some h; obtain ⟨qs, hqs, h⟩ := h
 split at h
 ·rename_i b1
  have l1 := Nat.le_of_ble_eq_true b1
  replace h := bnd_some h; obtain ⟨cs, hcs, h⟩ := h
  cases h
  obtain ⟨tf, z, h1, h2, h3, h4, h5, h6⟩ := zero_ok (φ := φ) hE hie
  rw [hte] at h1; cases h1
  have hsz : te.size = ie.zero.length := by omega
  obtain ⟨e1, e2⟩ := evp_ok (ρ := ρ) (φ := φ) (fun p m v hv => hev p.2 (by simp only [Op.operands, List.mem_toArray, List.mem_map]; exact ⟨p, m, rfl⟩) v hv) hqs
  obtain ⟨f1, f2⟩ := fill_ok (φ := φ) hcs (fun c hc => h4 c (reps_mem hc)) e2
  have hlen := fill_len hcs
  rw [reps_len] at hlen
  refine ⟨.cells (cs.map (conc φ)).toArray e, ⟨w.heap.size, 0, len⟩, rfl, ?_, okV_c ⟨_, upd_same _ _ _, by simp⟩, new_row hf rfl rfl f2 (map_cells _) (fun _ => ?_)⟩
  ·have l2 : ¬ (len * te.size > 2 ^ 24) := by omega
   have e3 : (Array.map (fun x : Nat × Operand => match x with | (i, x) => (i, ρ x)) ps).toList = qs.map fun p => (p.1, concW φ p.2) := by
    rw [← e1, Array.toList_map]
   have e4 : ((Array.range (len * te.size)).map fun x => z.cells[x % z.cells.size]!) = ((reps len ie.zero).map (conc φ)).toArray := by
    rw [h3, hsz]; exact made_reps ie.zero len
   have e5 : (Array.range 0).map (fun x => (#[] : Array Value)[x % (#[] : Array Value).size]!) = #[] := by simp
   have key : (Instr.buildSlice t len (Array.map (fun x : Nat × Operand => match x with | (i, x) => (i, ρ x)) ps)).run P w = .ok (.slice (some ⟨w.heap.size, 0, none⟩) len len) (w.alloc (.cells (cs.map (conc φ)).toArray e)) := by
    simp only [Instr.buildSlice, Sem.run_bind, r_und hu, Result.andThen_ok, r_size hte, l2, if_false]
    by_cases hn : len * te.size = 0
    ·have e6 : ((reps len ie.zero).map (conc φ)).toArray = #[] := by
      have : (reps len ie.zero).length = 0 := by rw [reps_len, ← hsz]; exact hn
      rw [List.eq_nil_of_length_eq_zero this]; rfl
     rw [e6] at f1
     have e7 : ∀ f : Nat → Value, Array.map f (Array.range 0) = #[] := fun f => by rw [Array.range_zero']; simp
     simp [hn, e1, e7, f1, newRow]
    ·have hz : ∀ w, (zeroValue e).run P w = .ok z w := fun w => by simp [zeroValue, typeInfo, hte, h2]
     simp only [hn, if_false, Sem.run_bind, hz, Result.andThen_ok, Sem.run_pure, e4, e3, f1]
     simp [newRow]
   simp only [execOp, ho, Sem.run_bind]
   rw [key]
   simp [NK.val, concV, concW, conc, upd_same]
  ·dsimp only
   rw [hlen, hsz]
   exact ⟨Nat.le_refl _, by simp [hlen]⟩
 ·cases h
end
end Go.Proofs.YtabmjadcoepbeaaGreat.Ev
namespace Go.Proofs.YtabmjadcoepbeaaGreat.Ev
structure Wr (g : Nat) (o : Obj) (w u : World) : Prop where
 at_ : u.heap[g]? = some o
 far : ∀ k, k ≠ g → u.heap[k]? = w.heap[k]?
 size : u.heap.size = w.heap.size
 os : u.os = w.os
 tape : u.tape = w.tape
 output : u.output = w.output
theorem Wr.trans {g : Nat} {o o' : Obj} {w u v : World} (h : Wr g o w u) (k : Wr g o' u v) : Wr g o' w v :=
 ⟨k.at_, fun n hn => (k.far n hn).trans (h.far n hn), k.size.trans h.size, k.os.trans h.os, k.tape.trans h.tape, k.output.trans h.output⟩
theorem wr_setRow {w : World} {g : Nat} {old : Array Value} {t : TypeId} (hg : w.heap[g]? = some (.cells old t (0, 0))) (cs : Array Value) : Wr g (.cells cs t (0, 0)) w (w.setRow g cs) :=
 ⟨setRow_heap w g old cs t _ hg, fun k hk => setRow_other w g k cs hk, setRow_size w g cs, setRow_os w g cs, setRow_tape w g cs, setRow_output w g cs⟩
theorem one_conc (φ : Phi) (c : AC) (hc : okC φ c) : (conc φ c).oneCell' = true := by
 cases c <;> first | rfl | skip
 case ptr i off => obtain ⟨p, hp⟩ := hc; simp only [conc, hp]; rfl
 case slice i off len k => obtain ⟨p, hp, _⟩ := hc; simp only [conc, hp]; rfl
 case full i off len cap => obtain ⟨⟨p, hp⟩, _⟩ := hc; simp only [conc, hp]; rfl
 case map i => obtain ⟨p, hp⟩ := hc; simp only [conc, hp]; rfl
theorem run_cells_at {P : Program} (g : Nat) (t : TypeId) : ∀ (vs : List Value) (off j : Nat) (cur : Array Value) (w : World), w.heap[g]? = some (.cells cur t (0, 0)) → off + j + vs.length ≤ cur.size → (∀ v ∈ vs, v.oneCell' = true) →
  ∃ u new, (storeCells ⟨g, off, none⟩ vs j).run P w = .ok () u ∧ Wr g (.cells new t (0, 0)) w u ∧ new.size = cur.size ∧
   ∀ k : Nat, new[k]? = if k < off + j then cur[k]? else if k < off + j + vs.length then vs[k - (off + j)]? else cur[k]?
 | [], off, j, cur, w, hg, hl, _ => ⟨w, cur, by simp [storeCells], ⟨hg, fun _ _ => rfl, rfl, rfl, rfl, rfl⟩, rfl, fun k => by
   split
   ·rfl
   ·rw [if_neg (by simp; omega)]⟩
 | v :: rest, off, j, cur, w, hg, hl, h1 => by
  simp only [List.length_cons] at hl
  have hi : off + j < cur.size := by omega
  have hcell : w.cell? ⟨g, off + j, none⟩ = some cur[off + j] := by simp [World.cell?, hg, hi]
  have hfro : w.frozen? ⟨g, off + j, none⟩ = false := by simp [World.frozen?, hg]
  have hst : (store ((⟨g, off, none⟩ : Addr).add j) v).run P w = .ok () (w.setRow g (cur.setIfInBounds (off + j) v)) := by
   rw [add_off, run_store P w _ v _ (h1 v (by simp)), hcell]
   simp [hfro, setCell_eq_setRow w g (off + j) cur t (0, 0) v hg]
  have hw1 := wr_setRow hg (cur.setIfInBounds (off + j) v)
  obtain ⟨u, new, r1, r2, r3, r4⟩ := run_cells_at (P := P) g t rest off (j + 1) (cur.setIfInBounds (off + j) v) (w.setRow g (cur.setIfInBounds (off + j) v)) hw1.at_ (by simp; omega) (fun x hx => h1 x (by simp [hx]))
  refine ⟨u, new, by simp [storeCells, hst, r1], hw1.trans r2, by rw [r3]; simp, fun k => ?_⟩
  rw [r4 k]
  simp only [List.length_cons]
  by_cases c1 : k < off + j
  ·rw [if_pos c1, if_pos (by omega)]
   simp [show off + j ≠ k by omega]
  ·rw [if_neg c1]
   by_cases c2 : k = off + j
   ·subst c2
    rw [if_pos (by omega), if_pos (by omega)]
    simp [hi]
   ·rw [if_neg (by omega)]
    by_cases c3 : k < off + (j + 1) + rest.length
    ·rw [if_pos c3, if_pos (by omega), show k - (off + j) = (k - (off + (j + 1))) + 1 by omega]
     simp
    ·rw [if_neg c3, if_neg (by omega)]
     simp [show off + j ≠ k by omega]
section
variable {φ : Phi} {w u : World}
theorem stp_put {s : HS} {i : Nat} {b0 b : AB} {p : Pl} {o : Obj} (hS : Sim φ s.h.get w) (hi : s.h.get i = some b0) (hp : φ i = some p) (hw : Wr p.blk o w u) (hb : bok φ u p b) :
  Stp φ s.h.get s.nx w φ (s.put i (some b)).h.get (s.put i (some b)).nx u := by
 have hold : ∀ j x, (s.put i (some b)).h.get j = some x → (j = i ∧ x = b) ∨ (j ≠ i ∧ s.h.get j = some x) := fun j x h => by
  rcases PT.get_set (t := s.h) h with ⟨e, hv⟩ | ⟨e, hv⟩
  ·cases hv; exact .inl ⟨e, rfl⟩
  ·exact .inr ⟨e, hv⟩
 have hex : ∀ j x, (s.put i (some b)).h.get j = some x → ∃ y, s.h.get j = some y := fun j x h => by
  rcases hold j x h with ⟨rfl, _⟩ | ⟨_, h⟩
  ·exact ⟨_, hi⟩
  ·exact ⟨_, h⟩
 refine ⟨⟨fun j x h => ?_, fun j k x y q r hj hk hq hr hne => ?_⟩, fun _ _ => rfl, by rw [hw.size]; exact Nat.le_refl _, fun n hn hf => ?_, fun n hn => ?_, hw.os, hw.tape, hw.output⟩
 ·rcases hold j x h with ⟨rfl, rfl⟩ | ⟨e, h⟩
  ·exact ⟨p, hp, hb⟩
  ·obtain ⟨q, hq, hbk⟩ := hS.ok j x h
   exact ⟨q, hq, hbk.mono (Phi.le_refl φ) (hw.far _ (hS.inj j i x b0 q p h hi hq hp e))⟩
 ·obtain ⟨x', hj⟩ := hex j x hj
  obtain ⟨y', hk⟩ := hex k y hk
  exact hS.inj j k x' y' q r hj hk hq hr hne
 ·exact hw.far n (fun e => hf ⟨i, b0, p, hi, hp, e.symm⟩)
 ·obtain ⟨j, x, q, hj, hq, rfl⟩ := hn
  obtain ⟨x', hj⟩ := hex j x hj
  exact .inl ⟨j, x', q, hj, hq, rfl⟩
theorem stp_move {s : HS} {i : Nat} {b0 b : AB} {p q : Pl} {o : Obj} (hS : Sim φ s.h.get w) (hf : φ s.nx = none) (hi : s.h.get i = some b0) (hp : φ i = some p) (hq : q.blk = p.blk) (hw : Wr p.blk o w u) (hb : bok (upd φ s.nx q) u q b) :
  Stp φ s.h.get s.nx w (upd φ s.nx q) ((s.put i none).new b).h.get ((s.put i none).new b).nx u := by
 have hl : φ.le (upd φ s.nx q) := upd_le hf
 have hne : i ≠ s.nx := fun e => by rw [e, hf] at hp; cases hp
 have hold : ∀ j x, ((s.put i none).new b).h.get j = some x → (j = s.nx ∧ x = b) ∨ (j ≠ s.nx ∧ j ≠ i ∧ s.h.get j = some x) := fun j x h => by
  rcases PT.get_set (t := (s.put i none).h) h with ⟨e, hv⟩ | ⟨e, hv⟩
  ·cases hv; exact .inl ⟨e, rfl⟩
  ·rcases PT.get_set (t := s.h) hv with ⟨e', hv'⟩ | ⟨e', hv'⟩
   ·cases hv'
   ·exact .inr ⟨e, e', hv'⟩
 refine ⟨⟨fun j x h => ?_, fun j k x y r1 r2 hj hk hr1 hr2 hjk => ?_⟩, fun j hj => ?_, by rw [hw.size]; exact Nat.le_refl _, fun n hn hfo => ?_, fun n hn => ?_, hw.os, hw.tape, hw.output⟩
 ·rcases hold j x h with ⟨rfl, rfl⟩ | ⟨e, e', h⟩
  ·exact ⟨q, upd_same _ _ _, hb⟩
  ·obtain ⟨r, hr, hbk⟩ := hS.ok j x h
   exact ⟨r, by rw [upd_other _ _ e]; exact hr, hbk.mono hl (hw.far _ (hS.inj j i x b0 r p h hi hr hp e'))⟩
 ·rcases hold j x hj with ⟨e, _⟩ | ⟨e, e1, hj'⟩ <;> rcases hold k y hk with ⟨e', _⟩ | ⟨e', e2, hk'⟩
  ·exact absurd (e.trans e'.symm) hjk
  ·rw [e, upd_same] at hr1; cases hr1
   rw [upd_other _ _ e'] at hr2
   rw [hq]
   exact fun h => hS.inj i k b0 y p r2 hi hk' hp hr2 (Ne.symm e2) h
  ·rw [e', upd_same] at hr2; cases hr2
   rw [upd_other _ _ e] at hr1
   rw [hq]
   exact fun h => hS.inj j i x b0 r1 p hj' hi hr1 hp e1 h
  ·rw [upd_other _ _ e] at hr1
   rw [upd_other _ _ e'] at hr2
   exact hS.inj j k x y r1 r2 hj' hk' hr1 hr2 hjk
 ·refine upd_other _ _ ?_
  have : ((s.put i none).new b).nx = s.nx + 1 := rfl
  omega
 ·exact hw.far n (fun e => hfo ⟨i, b0, p, hi, hp, e.symm⟩)
 ·obtain ⟨j, x, r, hj, hr, rfl⟩ := hn
  rcases hold j x hj with ⟨e, _⟩ | ⟨e, e1, hj'⟩
  ·rw [e, upd_same] at hr; cases hr
   exact .inl ⟨i, b0, p, hi, hp, hq.symm⟩
  ·rw [upd_other _ _ e] at hr
   exact .inl ⟨j, x, r, hj', hr, rfl⟩
theorem Stp.forget {h : Hp} {nx : Nat} {ψ : Phi} {g : Hp} {mx : Nat} (s : Stp φ h nx w ψ g mx u) {k : Hp} (hk : ∀ i b, k i = some b → g i = some b) : Stp φ h nx w ψ k mx u :=
 ⟨⟨fun i b e => s.sim.ok i b (hk i b e), fun i j b c p q e1 e2 => s.sim.inj i j b c p q (hk _ _ e1) (hk _ _ e2)⟩, s.old, s.size, s.fr, fun n hn => by
  obtain ⟨i, b, p, e1, e2, e3⟩ := hn
  exact s.own n ⟨i, b, p, hk _ _ e1, e2, e3⟩, s.os, s.tape, s.output⟩
end
section
variable {P : Program} {φ : Phi} {ρ : Operand → Value} {tm : PT AV} {o : Oper} {E : Env} {v : AV}
theorem splice_get {l n r : List AC} {o : Nat} (h : splice l o n = some r) (k : Nat) : r[k]? = if k < o then l[k]? else if k < o + n.length then n[k - o]? else l[k]? := by
 obtain ⟨h1, rfl⟩ := splice_some h
 rw [List.append_assoc]
 by_cases c1 : k < o
 ·rw [if_pos c1, List.getElem?_append_left (by rw [List.length_take]; omega), List.getElem?_take, if_pos c1]
 ·have e : (l.take o).length = o := by rw [List.length_take]; omega
  rw [if_neg c1, List.getElem?_append_right (by omega), e]
  by_cases c2 : k < o + n.length
  ·rw [if_pos c2, List.getElem?_append_left (by omega)]
  ·rw [if_neg c2, List.getElem?_append_right (by omega), List.getElem?_drop]
   congr 1; omega
theorem splice_len {l n r : List AC} {o : Nat} (h : splice l o n = some r) : r.length = l.length := by
 obtain ⟨h1, rfl⟩ := splice_some h
 simp; omega
theorem row_write {w : World} {p : Pl} {e off : Nat} {cs ds new : List AC} (h : bok φ w p (.row e cs)) (hs : splice cs off new = some ds) (hn : okCs φ new) :
  ∃ u ob, (storeCells ⟨p.blk, p.base + off, none⟩ (new.map (conc φ))).run P w = .ok () u ∧ Wr p.blk ob w u ∧ bok φ u p (.row e ds) := by
 obtain ⟨C, t, h1, h2, h3⟩ := h
 obtain ⟨hl, _⟩ := splice_some hs
 by_cases hne : new = []
 ·subst hne
  have hd : ds = cs := by
   obtain ⟨_, e⟩ := splice_some hs
   rw [e]; simp
  subst hd
  exact ⟨w, _, by simp [storeCells], ⟨h1, fun _ _ => rfl, rfl, rfl, rfl, rfl⟩, C, t, h1, h2, h3⟩
 have hnl : 0 < new.length := List.length_pos_iff.2 hne
 have hC : p.base + cs.length ≤ C.size := by
  have hk : cs.length - 1 < cs.length := by omega
  obtain ⟨hc, _⟩ := h2 (cs.length - 1) _ (List.getElem?_eq_getElem hk)
  have := (Array.getElem?_eq_some_iff.1 hc).1
  omega
 obtain ⟨u, D, r1, r2, r3, r4⟩ := run_cells_at (P := P) p.blk t (new.map (conc φ)) (p.base + off) 0 C w h1 (by simp; omega) (fun v hv => by
  obtain ⟨c, hc, rfl⟩ := List.mem_map.1 hv
  exact one_conc φ c (hn c hc))
 refine ⟨u, _, r1, r2, D, t, r2.at_, fun k c hk => ?_, fun he => by rw [r3, splice_len hs]; exact h3 he⟩
 rw [splice_get hs] at hk
 rw [r4]
 simp only [Nat.add_zero, List.length_map]
 by_cases c1 : k < off
 ·rw [if_pos c1] at hk
  rw [if_pos (by omega)]
  exact h2 k c hk
 ·rw [if_neg c1] at hk
  rw [if_neg (by omega)]
  by_cases c2 : k < off + new.length
  ·rw [if_pos c2] at hk
   rw [if_pos (by omega), show p.base + k - (p.base + off) = k - off by omega]
   exact ⟨by simp [hk], hn c (List.mem_of_getElem? hk)⟩
  ·rw [if_neg c2] at hk
   rw [if_neg (by omega)]
   exact h2 k c hk
def Ef (P : Program) (φ : Phi) (ρ : Operand → Value) (o : Oper) (s : HS) (r : Option AV) (s' : HS) (w : World) : Prop :=
 ∃ ψ u, (execOp ρ o).run P w = .ok (match r with | none => .skip | some v => .value (concV ψ v)) u ∧ Stp φ s.h.get s.nx w ψ s'.h.get s'.nx u ∧ ∀ v, r = some v → okV ψ v
theorem ef_store (hE : EnvOk P E) {s s' : HS} {w : World} (hS : Sim φ s.h.get w) {t : TypeId} {x y : Operand} (ho : o.op = .store t x y) (hev : EvOk φ tm ρ o.op.operands) (h : opStore E tm s t x y = some s') : Ef P φ ρ o s none s' w := by
 rw [ho] at hev
 replace h := bnd_some h; obtain ⟨ti, hti, h⟩ := h
 replace h := evc_some h; obtain ⟨c, hc, h⟩ := h
 replace h := evw_some h; obtain ⟨y1, hy, h⟩ := h
 obtain ⟨hx, hok⟩ := hev.c (x := x) (by simp [Op.operands]) hc
 obtain ⟨e2, hyo⟩ := hev.w (x := y) (by simp [Op.operands]) hy
 split at h
 ·rename_i hlen
  have hlen' := Nat.eq_of_beq_eq_true hlen
  cases c <;> try (cases h; done)
  rename_i i off
  replace h := bnd_some h; obtain ⟨b, hb, h⟩ := h
  cases b with
  | map ks es => cases h
  | row e cs =>
   replace h := bnd_some h; obtain ⟨ds, hds, h⟩ := h
   cases h
   obtain ⟨p, hp, hbk⟩ := hS.ok i _ hb
   obtain ⟨u, ob, r1, r2, r3⟩ := row_write (P := P) hbk hds hyo
   obtain ⟨tf, ut, z, zw, h1, _, h3, _⟩ := (hE.ti t ti hti).ok
   simp only [conc, hp] at hx
   refine ⟨φ, u, ?_, stp_put hS hb hp r2 r3, fun v hv => by cases hv⟩
   have hsz : ¬ ((concW φ y1).cells.size ≠ tf.size) := by rw [concW_cells]; simp; omega
   simp only [execOp, ho, hx, e2, Instr.storeAt, Instr.sureAddr, storeVar, Sem.run_bind, Sem.run_pure, Result.andThen_ok, r_size h1, hsz, if_false]
   have e4 : (concW φ y1).cells.toList = y1.cells.map (conc φ) := by rw [concW_cells]
   rw [e4, r1]
   rfl
 ·cases h
end
end Go.Proofs.YtabmjadcoepbeaaGreat.Ev
namespace Go.Proofs.YtabmjadcoepbeaaGreat.Ev
section
variable {P : Program} {φ : Phi} {ρ : Operand → Value} {tm : PT AV} {o : Oper} {E : Env} {v : AV}
theorem findIx_spec (k : AW) : ∀ (es : List (AW × AW)) (n i : Nat) (q : AW), findIx k es n = some (i, q) → ∃ e, n ≤ i ∧ es[i - n]? = some e ∧ eqK k e.1 = true ∧ ∀ x, putK k x es = es.set (i - n) (k, x)
 | [], n, i, q, h => by cases h
 | e :: es, n, i, q, h => by
  simp only [findIx] at h
  have hp : ∀ x, putK k x (e :: es) = (match eqK k e.1 with | true => (k, x) :: es | false => e :: putK k x es) := fun x => rfl
  split at h
  ·rename_i he
   cases h
   exact ⟨e, Nat.le_refl _, by simp, he, fun x => by rw [hp, he]; simp⟩
  ·rename_i he
   have he' : eqK k e.1 = false := by simpa using he
   obtain ⟨e', h1, h2, h3, h4⟩ := findIx_spec k es (n + 1) i q h
   refine ⟨e', by omega, ?_, h3, fun x => ?_⟩
   ·rw [show i - n = (i - (n + 1)) + 1 by omega]; simpa using h2
   ·rw [hp, he', h4 x, show i - n = (i - (n + 1)) + 1 by omega]; simp
theorem findIx_none (k x : AW) : ∀ (es : List (AW × AW)) (n : Nat), findIx k es n = none → putK k x es = es ++ [(k, x)]
 | [], n, h => rfl
 | e :: es, n, h => by
  simp only [findIx] at h
  split at h
  ·cases h
  ·rename_i he
   have he' : eqK k e.1 = false := by simpa using he
   show (match eqK k e.1 with | true => (k, x) :: es | false => e :: putK k x es) = _
   rw [he', findIx_none k x es (n + 1) h]; rfl
theorem wr_map {w : World} {g : Nat} {ob : Obj} (hg : g < w.heap.size) : Wr g ob w { w with heap := w.heap.setIfInBounds g ob } :=
 ⟨by simp [hg], fun k hk => by simp [Array.getElem?_setIfInBounds, Ne.symm hk], by simp, rfl, rfl, rfl⟩
theorem ef_mapUpdate (hE : EnvOk P E) {s s' : HS} {w : World} (hS : Sim φ s.h.get w) {t : TypeId} {m k x : Operand} (ho : o.op = .mapUpdate t m k x ∨ o.op = .insert t m k x) (hev : EvOk φ tm ρ o.op.operands) (h : opMapUpdate E tm s t m k x = some s') : Ef P φ ρ o s none s' w := by
 have hops : o.op.operands = #[m, k, x] := by rcases ho with ho | ho <;> rw [ho] <;> rfl
 rw [hops] at hev
 replace h := bnd_some h; obtain ⟨ti, hti, h⟩ := h
 obtain ⟨u, hu, hkd, _⟩ := (hE.ti t ti hti).kind
 cases hik : ti.k <;> rw [hik] at h hkd <;> try (cases h; done)
 rename_i ks kt et
 obtain ⟨rfl, hko⟩ := hkd
 replace h := evc_some h; obtain ⟨c, hc, h⟩ := h
 replace h := evw_some h; obtain ⟨kk, hkk, h⟩ := h
 split at h
 ·rename_i hsh
  replace h := evw_some h; obtain ⟨y, hy, h⟩ := h
  cases c <;> try (cases h; done)
  rename_i i
  replace h := bnd_some h; obtain ⟨b, hb, h⟩ := h
  replace h := bnd_some h; obtain ⟨es, hes, h⟩ := h
  have := mapEs_some hes
  subst this
  cases h
  have e1 := (hev.c (x := m) (by simp) hc).1
  obtain ⟨e2, ok2⟩ := hev.w (x := k) (by simp) hkk
  obtain ⟨e3, ok3⟩ := hev.w (x := x) (by simp) hy
  obtain ⟨p, hp, L, clock, h1, h2, h3⟩ := hS.ok i _ hb
  simp only [conc, hp] at e1
  have hlt : p.blk < w.heap.size := (Array.getElem?_eq_some_iff.1 h1).1
  have hg : (getObj p.blk).run P w = .ok (.map L clock) w := by unfold getObj; simp only [Sem.run, h1]
  have hset : ∀ ob, (setObj p.blk ob).run P w = .ok () { w with heap := w.heap.setIfInBounds p.blk ob } := fun ob => by unfold setObj; simp only [Sem.run, h1]
  have hf := find_ok (φ := φ) hko hsh es L.toList h2 (fun e m => (h3 e m).2.2) w
  have hrun : (execOp ρ o).run P w = ((Instr.mapUpdate t (.map (some p.blk)) (concW φ kk) (concW φ y)).run P w).andThen fun _ w' => .ok .skip w' := by
   rcases ho with ho | ho <;> simp [execOp, ho, e1, e2, e3]
  have hput : ∀ e ∈ putK kk y es, okW φ e.1 ∧ okW φ e.2 ∧ shapeB ks e.1 = true := by
   have : ∀ l : List (AW × AW), (∀ e ∈ l, okW φ e.1 ∧ okW φ e.2 ∧ shapeB ks e.1 = true) → ∀ e ∈ putK kk y l, okW φ e.1 ∧ okW φ e.2 ∧ shapeB ks e.1 = true := by
    intro l
    induction l with
    | nil => intro _ e me; rw [List.mem_singleton.1 (show e ∈ [(kk, y)] from me)]; exact ⟨ok2, ok3, hsh⟩
    | cons a l ih =>
     intro hl e me
     have me' : e ∈ (match eqK kk a.1 with | true => (kk, y) :: l | false => a :: putK kk y l) := me
     split at me'
     ·rcases List.mem_cons.1 me' with rfl | me'
      ·exact ⟨ok2, ok3, hsh⟩
      ·exact hl e (List.mem_cons_of_mem _ me')
     ·rcases List.mem_cons.1 me' with rfl | me'
      ·exact hl _ List.mem_cons_self
      ·exact ih (fun e m => hl e (List.mem_cons_of_mem _ m)) e me'
   exact this es h3
  have fin : ∀ (D : Array MapEntry) (cl : Nat), (Instr.mapUpdate t (.map (some p.blk)) (concW φ kk) (concW φ y)).run P w = .ok () { w with heap := w.heap.setIfInBounds p.blk (.map D cl) } →
    D.toList.map (fun e => (e.key, e.val)) = (putK kk y es).map (conc2 φ) → Ef P φ ρ o s none (s.put i (some (.map ks (putK kk y es)))) w := fun D cl hr hD =>
   ⟨φ, _, by rw [hrun, hr]; rfl, stp_put hS hb hp (wr_map hlt) ⟨D, cl, (wr_map hlt).at_, hD, hput⟩, fun v hv => by cases hv⟩
  cases hix : findIx kk es 0 with
  | none =>
   rw [hix] at hf
   have e9 := findIx_none kk y es 0 hix
   refine fin (L.push { key := concW φ kk, val := concW φ y, born := clock }) (clock + 1) ?_ ?_
   ·simp [Instr.mapUpdate, r_und hu, hg, hko.chk φ kk _ w hsh, hf, hset]
   ·rw [e9]; simp [h2, conc2]
  | some q =>
   obtain ⟨j, qv⟩ := q
   rw [hix] at hf
   obtain ⟨e, g1, g2, g3, g4⟩ := findIx_spec kk es 0 j qv hix
   have g5 := g4 y
   rw [Nat.sub_zero] at g2 g5
   have hjl : j < es.length := (List.getElem?_eq_some_iff.1 g2).1
   have hLl : L.toList.length = es.length := by have := congrArg List.length h2; simpa using this
   have hjL : j < L.size := by simpa using (show j < L.toList.length by omega)
   have hkey : L[j].key = concW φ e.1 := by
    have := congrArg (fun l : List (Value × Value) => l[j]?) h2
    simp only [List.getElem?_map, g2, Option.map_some, conc2] at this
    rw [List.getElem?_eq_getElem (by simpa using hjL)] at this
    simp only [Option.map_some, Option.some.injEq, Prod.mk.injEq] at this
    simpa using this.1
   have hb1 := hko.bits φ kk e.1 hsh (h3 e (List.mem_of_getElem? g2)).2.2 g3
   refine fin (L.modify j fun e => { e with key := concW φ kk, val := concW φ y }) clock ?_ ?_
   ·simp [Instr.mapUpdate, r_und hu, hg, hko.chk φ kk _ w hsh, hf, hset, Instr.keyThatStays, hjL, hkey, hb1]
   ·rw [g5]
    apply List.ext_getElem?
    intro n
    have hn := congrArg (fun l : List (Value × Value) => l[n]?) h2
    simp only [List.getElem?_map, Array.getElem?_toList] at hn
    simp only [List.getElem?_map, Array.getElem?_toList, Array.getElem?_modify, List.getElem?_set]
    by_cases hjn : j = n
    ·subst hjn
     simp [hjL, hjl, conc2]
    ·simp only [hjn, if_false]
     exact hn
 ·cases h
theorem src_ok {h : PT AB} {w : World} (hS : Sim φ h.get w) {esz : Nat} {c : AC} {n : Nat} {l : List AC} (hs : srcCells h esz c = some (n, l)) :
  ∃ (A : Option Addr) (cap : Nat), conc φ c = .slice A n cap ∧ l.length = n * esz ∧ okCs φ l ∧ (0 < n → ∃ a, A = some a ∧ ∀ (j : Nat) v, (l.map (conc φ))[j]? = some v → w.cell? (a.add j) = some v) := by
 have key : ∀ i off len (p : Pl), φ i = some p → (bnd (h.get i) fun b => bnd (cellsOf b) fun cs => bnd (cut cs off (len * esz)) fun l => some (len, l)) = some (n, l) →
   n = len ∧ l.length = n * esz ∧ okCs φ l ∧ ∀ (j : Nat) v, (l.map (conc φ))[j]? = some v → w.cell? ((⟨p.blk, p.base + off, none⟩ : Addr).add j) = some v := by
  intro i off len p hp hs
  replace hs := bnd_some hs; obtain ⟨b, hb, hs⟩ := hs
  replace hs := bnd_some hs; obtain ⟨cs, hcs, hs⟩ := hs
  replace hs := bnd_some hs; obtain ⟨l', hl', hs⟩ := hs
  cases hs
  obtain ⟨e, rfl⟩ := cells_row hcs
  obtain ⟨q, hq, hbk⟩ := hS.ok i _ hb
  rw [hp] at hq; cases hq
  obtain ⟨h1, rfl⟩ := cut_some hl'
  refine ⟨rfl, by rw [List.length_take, List.length_drop]; omega, okCs_of_mem (row_ok hbk) fun c m => List.mem_of_mem_drop (List.mem_of_mem_take m), fun j v hv => ?_⟩
  rw [List.getElem?_map, List.getElem?_take] at hv
  split at hv
  ·rw [List.getElem?_drop] at hv
   cases hc : cs[off + j]? with
   | none => rw [hc] at hv; cases hv
   | some c =>
    rw [hc] at hv; cases hv
    rw [add_off, Nat.add_assoc]
    exact row_cell hbk hc
  ·cases hv
 cases c <;> try (cases hs; done)
 ·cases hs; exact ⟨none, 0, rfl, by simp, fun c m => (by cases m), fun h => absurd h (by simp)⟩
 ·rename_i i off len k
  have hs' := hs
  replace hs' := bnd_some hs'; obtain ⟨b, hb, _⟩ := hs'
  obtain ⟨p, hp, _⟩ := hS.ok i b hb
  obtain ⟨rfl, h1, h2, h3⟩ := key i off len p hp hs
  exact ⟨_, _, by simp only [conc, hp]; rfl, h1, h2, fun _ => ⟨_, rfl, h3⟩⟩
 ·rename_i i off len cap
  have hs' := hs
  replace hs' := bnd_some hs'; obtain ⟨b, hb, _⟩ := hs'
  obtain ⟨p, hp, _⟩ := hS.ok i b hb
  obtain ⟨rfl, h1, h2, h3⟩ := key i off len p hp hs
  exact ⟨_, _, by simp only [conc, hp]; rfl, h1, h2, fun _ => ⟨_, rfl, h3⟩⟩
theorem r_append0 {t e : TypeId} {te : TypeInfo} {ty : TypeId} (hu : P.underlying t = some (.slice e)) (hte : P.info? e = some te) {A B : Option Addr} {n c d : Nat} (h : n ≤ c) (w : World) :
  (Builtin.append_ #[t, t] ty #[.slice A n c, .slice B 0 d]).run P w = .ok (.slice A n c) w := by
 have hf : (Builtin.firstCells te.size 0 (.slice B 0 d)).run P w = .ok #[] w := by
  cases B with
  | none => simp [Builtin.firstCells]
  | some b => simp [Builtin.firstCells, loadCells, loadCellsFrom]
 cases A with
 | none => simp [Builtin.append_, r_und hu, r_size hte, Builtin.lenOf, h, hf]
 | some a => simp [Builtin.append_, r_und hu, r_size hte, Builtin.lenOf, h, hf, storeCells]
theorem r_appendIn {t e : TypeId} {te : TypeInfo} {ty : TypeId} (hu : P.underlying t = some (.slice e)) (hte : P.info? e = some te) {a b : Addr} {n c m d : Nat} {news : List Value} {w u : World} (h : n + m ≤ c)
  (hl : news.length = m * te.size) (hn : ∀ j v, news[j]? = some v → w.cell? (b.add j) = some v) (hst : (storeCells (a.add (n * te.size)) news).run P w = .ok () u) :
  (Builtin.append_ #[t, t] ty #[.slice (some a) n c, .slice (some b) m d]).run P w = .ok (.slice (some a) (n + m) c) u := by
 have hf := run_firstCells_some (P := P) w te.size m b m d news hl hn
 simp [Builtin.append_, r_und hu, r_size hte, Builtin.lenOf, h, hf, hst]
theorem grown_row {w : World} {C : Array Value} {t : TypeId} {i e n m : Nat} {cs : List AC} {p : Pl} (hf : φ i = none) (hp : p.blk = w.heap.size) (hb : p.base = 0) (hc : p.cap = n) (hok : okCs φ cs)
  (hC : ∀ (k : Nat) (c : AC), cs[k]? = some c → C[k]? = some (conc φ c)) (hl : cs.length = m * e) (hm : m ≤ n) (hs : C.size = n * e) : bok (upd φ i p) (w.alloc (.cells C t)) p (.row e cs) :=
 new_row hf hp hb hok hC fun _ => by rw [hc, hl, hs]; exact ⟨Nat.mul_le_mul_right e hm, Nat.le_refl _⟩
theorem ef_append (hE : EnvOk P E) {s s' : HS} {w : World} (hS : Sim φ s.h.get w) (hfr : s.nx < s'.nx → φ s.nx = none) {cl : Call} {t : TypeId} {x y : Operand} (ho : o.op = .call cl) (hcl : cl.callee = .builtin .append) (hargs : cl.args.toList = [x, y])
  (hts : cl.argTypes = #[t, t]) (hev : EvOk φ tm ρ o.op.operands) (h : opAppend E tm s t x y = some (v, s')) : Ef P φ ρ o s (some v) s' w := by
 have mx : x ∈ o.op.operands := args_mem ho hcl hargs (by simp)
 have my : y ∈ o.op.operands := args_mem ho hcl hargs (by simp)
 replace h := evc_some h; obtain ⟨c, hc, h⟩ := h
 replace h := evc_some h; obtain ⟨d, hd, h⟩ := h
 replace h := bnd_some h; obtain ⟨ti, hti, h⟩ := h
 obtain ⟨u, hu, hkd, _⟩ := (hE.ti t ti hti).kind
 cases hik : ti.k <;> rw [hik] at h hkd <;> try (cases h; done)
 rename_i e esz eb
 obtain ⟨rfl, te, hte, rfl, rfl, hz1, hz2⟩ := hkd
 replace h := bnd_some h; obtain ⟨ie, hie, h⟩ := h
 replace h := bnd_some h; obtain ⟨pr, hpr, h⟩ := h
 obtain ⟨m, new⟩ := pr
 dsimp only at h
 obtain ⟨e1, k1⟩ := hev.c mx hc
 obtain ⟨e2, k2⟩ := hev.c my hd
 obtain ⟨B, dcap, g1, g2, g3, g4⟩ := src_ok (φ := φ) hS hpr
 obtain ⟨tf, z, z1, z2, z3, z4, z5, z6⟩ := zero_ok (φ := φ) hE hie
 rw [hte] at z1; cases z1
 have hz0 : te.size = ie.zero.length := by omega
 have hrun : ∀ w, (execOp ρ o).run P w = ((Builtin.append_ #[t, t] o.type #[conc φ c, .slice B m dcap]).run P w).andThen fun a w' => .ok (.value a) w' := fun w => by
  rw [pu_builtin ho hcl hargs]
  simp [builtin, hts, e1, e2, g1]
 cases m with
 | zero =>
  have key : ∀ A n cap, conc φ c = .slice A n cap → n ≤ cap → Ef P φ ρ o s (some (.w (.c c))) s w := fun A n cap hA hle =>
   ⟨φ, w, by rw [hrun, hA, r_append0 hu hte hle]; simp only [Result.andThen_ok, concV, concW, hA], Stp.refl hS, fun v hv => by cases hv; exact okV_c k1⟩
  cases c <;> try (cases h; done)
  ·cases h; exact key none 0 0 rfl (Nat.le_refl _)
  ·cases h
   obtain ⟨p, hp, hl⟩ := k1
   exact key _ _ _ (by simp only [conc, hp]; rfl) (by omega)
  ·cases h
   obtain ⟨⟨p, hp⟩, hl⟩ := k1
   exact key _ _ _ (by simp only [conc, hp]; rfl) hl
 | succ n =>
  obtain ⟨b, rfl, g5⟩ := g4 (Nat.succ_pos n)
  have hnl : (new.map (conc φ)).length = (n + 1) * te.size := by simpa using g2
  have eb1 : ∀ q, q * te.bytes ≤ 1000000 → q ≤ 1000000 := fun q hq => Nat.le_trans (Nat.le_mul_of_pos_right q (by omega)) hq
  cases c <;> try (cases h; done)
  ·simp only [app] at h
   split at h
   ·rename_i b1
    have l1 := Nat.le_of_ble_eq_true b1
    have l2 := eb1 _ l1
    cases h
    replace hfr := hfr (Nat.lt_succ_self _)
    have hr := run_append_nil (P := P) w t o.type e te z hu hte z2 b (n + 1) dcap (new.map (conc φ)) hnl g5 (Nat.succ_pos n) (by omega) (by omega)
    generalize hgc : grownCap w (n + 1) 0 e = G at hr
    have hG : n + 1 ≤ G := by rw [← hgc]; unfold grownCap; simp only [Question.cut]; omega
    have hcs : (Builtin.zeroCells z.cells (G - (n + 1))).size = (G - (n + 1)) * te.size := by
     rw [hz0]; simp [Builtin.zeroCells, z3]
    have hsz : ((new.map (conc φ)).toArray ++ Builtin.zeroCells z.cells (G - (n + 1))).size = G * te.size := by
     rw [Array.size_append, hcs]; simp only [List.size_toArray, hnl]; rw [← Nat.add_mul]; congr 1; omega
    have hb := grown_row (φ := φ) (w := w.drew) (C := (new.map (conc φ)).toArray ++ Builtin.zeroCells z.cells (G - (n + 1))) (t := e) (i := s.nx) (e := te.size) (n := G) (m := n + 1) (cs := new) (p := ⟨w.heap.size, 0, G⟩) hfr rfl rfl rfl g3
     (fun k c hk => by rw [Array.getElem?_append_left (by simpa using (List.getElem?_eq_some_iff.1 hk).1)]; simp [hk]) g2 hG hsz
    refine ⟨upd φ s.nx ⟨w.heap.size, 0, G⟩, _, ?_, stp_newG (o := .cells ((new.map (conc φ)).toArray ++ Builtin.zeroCells z.cells (G - (n + 1))) e) (u := w.drew.alloc (.cells ((new.map (conc φ)).toArray ++ Builtin.zeroCells z.cells (G - (n + 1))) e)) hS hfr rfl rfl rfl rfl rfl hb new_hold, fun v hv => ?_⟩
    ·rw [hrun]
     simp only [conc]
     rw [hr]
     simp [concV, concW, conc, upd_same]
    ·cases hv; exact okV_c ⟨_, upd_same _ _ _, by simpa using hG⟩
   ·cases h
  ·rename_i i off len k
   obtain ⟨p, hp, hpc⟩ := k1
   simp only [app] at h
   split at h
   ·rename_i b1
    have l1 := Nat.le_of_ble_eq_true b1
    have l2 := eb1 _ l1
    replace h := bnd_some h; obtain ⟨bk, hbk, h⟩ := h
    cases bk with
    | map ks es => cases h
    | row e' cs =>
     dsimp only at h
     split at h
     ·rename_i b2
      have := Nat.eq_of_beq_eq_true b2
      subst this
      split at h
      ·rename_i b3
       have ho1 := Nat.eq_of_beq_eq_true b3
       split at h
       ·rename_i b4
        have ho2 := Nat.eq_of_beq_eq_true b4
        cases h
        replace hfr := hfr (Nat.lt_succ_self _)
        obtain ⟨q, hq, hrow⟩ := hS.ok i _ hbk
        rw [hp] at hq; cases hq
        have hA : conc φ (.slice i off len k) = .slice (some ⟨p.blk, p.base + off, none⟩) len (p.cap - k) := by simp only [conc, hp]
        have hokcs := row_ok hrow
        have hdl : (cs.drop off).length = len * te.size := by rw [List.length_drop]; omega
        have hall : okCs φ (cs.drop off ++ new) := fun c m => by
         rcases List.mem_append.1 m with m | m
         ·exact hokcs c (List.mem_of_mem_drop m)
         ·exact g3 c m
        have hold : ∀ (j : Nat) v, ((cs.drop off).map (conc φ))[j]? = some v → w.cell? ((⟨p.blk, p.base + off, none⟩ : Addr).add j) = some v := by
         intro j v hv
         rw [List.getElem?_map, List.getElem?_drop] at hv
         cases hcc : cs[off + j]? with
         | none => rw [hcc] at hv; cases hv
         | some c' =>
          rw [hcc] at hv; cases hv
          rw [add_off, Nat.add_assoc]
          exact row_cell hrow hcc
        by_cases hin : len + (n + 1) ≤ p.cap - k
        ·-- in place
         obtain ⟨C, tt, r1, r2, r3⟩ := hrow
         obtain ⟨r4, r5⟩ := r3 hz1
         have hmul : (k + (len + (n + 1))) * te.size ≤ p.cap * te.size := Nat.mul_le_mul_right _ (by omega)
         have hexp : (k + (len + (n + 1))) * te.size = off + len * te.size + (n + 1) * te.size := by rw [Nat.add_mul, Nat.add_mul, ho1]; omega
         obtain ⟨u', D, q1, q2, q3, q4⟩ := run_cells_at (P := P) p.blk tt (new.map (conc φ)) (p.base + off + len * te.size) 0 C w r1 (by rw [hnl]; omega) (fun v hv => by
          obtain ⟨c', hc', rfl⟩ := List.mem_map.1 hv
          exact one_conc φ c' (g3 c' hc'))
         have hr := r_appendIn (P := P) (ty := o.type) hu hte (a := ⟨p.blk, p.base + off, none⟩) (b := b) (d := dcap) (w := w) (u := u') hin hnl g5 (by rw [add_off]; exact q1)
         refine ⟨upd φ s.nx ⟨p.blk, p.base + off, p.cap - k⟩, u', ?_, stp_move hS hfr hbk hp rfl q2 ⟨D, tt, q2.at_, fun kk c' hk => ?_, fun _ => ⟨?_, ?_⟩⟩, fun v hv => ?_⟩
         ·rw [hrun, hA, hr]
          simp [concV, concW, conc, upd_same]
         ·have hokc := hall c' (List.mem_of_getElem? hk)
          rw [conc_le (upd_le hfr) hokc]
          refine ⟨?_, hokc.le (upd_le hfr)⟩
          dsimp only
          rw [q4]
          simp only [Nat.add_zero, List.length_map]
          rcases Nat.lt_or_ge kk (len * te.size) with c1 | c1
          ·rw [if_pos (by omega)]
           rw [List.getElem?_append_left (by omega), List.getElem?_drop] at hk
           have := (r2 _ _ hk).1
           rw [show p.base + off + kk = p.base + (off + kk) by omega]
           exact this
          ·rw [List.getElem?_append_right (by omega), hdl] at hk
           have hlt := (List.getElem?_eq_some_iff.1 hk).1
           rw [if_neg (by omega), if_pos (by omega), show p.base + off + kk - (p.base + off + len * te.size) = kk - len * te.size by omega]
           simp [hk]
         ·dsimp only
          rw [List.length_append, hdl, g2, ← Nat.add_mul]
          exact Nat.mul_le_mul_right _ hin
         ·dsimp only
          rw [q3, Nat.sub_mul, ← ho1]
          omega
         ·cases hv; exact okV_c ⟨_, upd_same _ _ _, by simpa using hin⟩
        ·-- grown
         have hgt : p.cap - k < len + (n + 1) := by omega
         have hfit : Builtin.nextslicecap (len + (n + 1)) (p.cap - k) * te.bytes ≤ 281474976710656 := growslice_fits hgt (by omega)
         have hr := run_append_grow (P := P) w t o.type e te z hu hte z2 ⟨p.blk, p.base + off, none⟩ len (p.cap - k) ((cs.drop off).map (conc φ)) (by simpa using hdl) hold b (n + 1) dcap (new.map (conc φ)) hnl g5 hgt (by omega) hfit
         generalize hgc : grownCap w (len + (n + 1)) (p.cap - k) e = G at hr
         have hG : len + (n + 1) ≤ G := by rw [← hgc]; unfold grownCap; simp only [Question.cut]; omega
         have hcs : (Builtin.zeroCells z.cells (G - (len + (n + 1)))).size = (G - (len + (n + 1))) * te.size := by
          rw [hz0]; simp [Builtin.zeroCells, z3]
         have hsz : (((cs.drop off).map (conc φ)).toArray ++ (new.map (conc φ)).toArray ++ Builtin.zeroCells z.cells (G - (len + (n + 1)))).size = G * te.size := by
          rw [Array.size_append, Array.size_append, hcs]; simp only [List.size_toArray, hnl, List.length_map, hdl]; rw [← Nat.add_mul, ← Nat.add_mul]; congr 1; omega
         have hal : (cs.drop off ++ new).length = (len + (n + 1)) * te.size := by rw [List.length_append, hdl, g2, ← Nat.add_mul]
         have hb := grown_row (φ := φ) (w := w.drew) (C := ((cs.drop off).map (conc φ)).toArray ++ (new.map (conc φ)).toArray ++ Builtin.zeroCells z.cells (G - (len + (n + 1)))) (t := e) (i := s.nx) (e := te.size) (n := G) (m := len + (n + 1)) (cs := cs.drop off ++ new) (p := ⟨w.heap.size, 0, G⟩) hfr rfl rfl rfl hall
          (fun kk c' hk => by
           have hlt := (List.getElem?_eq_some_iff.1 hk).1
           have e5 : ((cs.drop off).map (conc φ)).toArray ++ (new.map (conc φ)).toArray = ((cs.drop off ++ new).map (conc φ)).toArray := by simp
           rw [e5, Array.getElem?_append_left (by simpa using hlt)]
           simp only [List.getElem?_toArray, List.getElem?_map, hk, Option.map_some]) hal hG hsz
         have hst := stp_newG (g := ((s.put i none).new (.row te.size (cs.drop off ++ new))).h.get) (o := .cells (((cs.drop off).map (conc φ)).toArray ++ (new.map (conc φ)).toArray ++ Builtin.zeroCells z.cells (G - (len + (n + 1)))) e) (u := w.drew.alloc (.cells (((cs.drop off).map (conc φ)).toArray ++ (new.map (conc φ)).toArray ++ Builtin.zeroCells z.cells (G - (len + (n + 1)))) e)) (p := ⟨w.heap.size, 0, G⟩) hS hfr rfl rfl rfl rfl rfl hb (fun j x hj => by
          rcases new_hold (s := s.put i none) j x hj with h9 | ⟨h9, h8⟩
          ·exact .inl h9
          ·rcases PT.get_set (t := s.h) h8 with ⟨_, hv⟩ | ⟨_, hv⟩
           ·cases hv
           ·exact .inr ⟨h9, hv⟩)
         refine ⟨upd φ s.nx ⟨w.heap.size, 0, G⟩, _, ?_, hst, fun v hv => ?_⟩
         ·rw [hrun, hA, hr]
          simp [concV, concW, conc, upd_same]
         ·cases hv; exact okV_c ⟨_, upd_same _ _ _, by simpa using hG⟩
       ·cases h
      ·cases h
     ·cases h
   ·cases h
end
end Go.Proofs.YtabmjadcoepbeaaGreat.Ev
namespace Go.Proofs.YtabmjadcoepbeaaGreat.Ev
structure TmOk (φ : Phi) (sz : Nat) (tm : PT AV) (a : Act) : Prop where
 size : a.tmps.size = sz
 val : ∀ t v, tm.get t = some v → a.tmps[t]? = some (concV φ v) ∧ okV φ v
 dfr : a.defers = []
theorem absC_ok (φ : Phi) {v : Value} {c : AC} (h : absC v = some c) : v = conc φ c ∧ okC φ c := by
 unfold absC at h
 split at h <;> first
  | (cases h; exact ⟨rfl, trivial⟩)
  | cases h
theorem absCs_ok (φ : Phi) : ∀ {l : List Value} {cs : List AC}, absCs l = some cs → l = cs.map (conc φ) ∧ okCs φ cs
 | [], cs, h => by cases h; exact ⟨rfl, fun c m => by cases m⟩
 | v :: l, cs, h => by
  have h' : (bnd (absC v) fun c => bnd (absCs l) fun cs => some (c :: cs)) = some cs := h
  replace h' := bnd_some h'; obtain ⟨c, hc, h'⟩ := h'
  replace h' := bnd_some h'; obtain ⟨ds, hds, h'⟩ := h'
  cases h'
  obtain ⟨e1, e2⟩ := absC_ok φ hc
  obtain ⟨e3, e4⟩ := absCs_ok φ hds
  refine ⟨by rw [List.map_cons, ← e1, ← e3], fun d m => ?_⟩
  rcases List.mem_cons.1 m with rfl | m
  ·exact e2
  ·exact e4 d m
theorem absW_ok (φ : Phi) {v : Value} {x : AW} (h : absW v = some x) : v = concW φ x ∧ okW φ x := by
 unfold absW at h
 split at h
 ·rename_i cs
  replace h := bnd_some h; obtain ⟨ds, hds, h⟩ := h
  cases h
  obtain ⟨e1, e2⟩ := absCs_ok φ hds
  exact ⟨by simp only [concW]; rw [← e1], e2⟩
 ·replace h := bnd_some h; obtain ⟨c, hc, h⟩ := h
  cases h
  obtain ⟨e1, e2⟩ := absC_ok φ hc
  exact ⟨e1, fun d m => by rw [List.mem_singleton.1 m]; exact e2⟩
section
variable {P : Program} {φ ψ : Phi} {E : Env} {sz : Nat} {tm : PT AV} {a : Act}
theorem TmOk.ev (h : TmOk φ sz tm a) (l : Array Operand) : EvOk φ tm a.eval l := fun x _ v hv => by
 cases x with
 | tmp t =>
  obtain ⟨h1, h2⟩ := h.val t v hv
  exact ⟨by simp [Act.eval, h1], h2⟩
 | const c =>
  replace hv := bnd_some hv; obtain ⟨w, hw, hv⟩ := hv
  cases hv
  exact absW_ok φ hw
 | global g => cases hv
 | func f => cases hv; exact ⟨rfl, okV_c trivial⟩
theorem TmOk.le (h : TmOk φ sz tm a) (hl : φ.le ψ) : TmOk ψ sz tm a := ⟨h.size, fun t v hv => by
 obtain ⟨h1, h2⟩ := h.val t v hv
 exact ⟨by rw [concV_le hl h2]; exact h1, h2.le hl⟩, h.dfr⟩
theorem fint_eq {β : Type} (n : Int) (k : Int → β) : fint n k = k n := by
 cases n with
 | ofNat m => cases m <;> rfl
 | negSucc m => cases m <;> rfl
theorem fnat_eq {β : Type} (n : Nat) (k : Nat → β) : fnat n k = k n := by cases n <;> rfl
theorem fbool_eq {β : Type} (n : Bool) (k : Bool → β) : fbool n k = k n := by cases n <;> rfl
theorem fz_eq {β : Type} (v : AV) (k : AV → β) : fz v k = k v := by
 cases v with
 | tup vs => rfl
 | w x =>
  cases x with
  | agg cs => rfl
  | c x => cases x <;> simp only [fz, fzW, fzC, fint_eq, fnat_eq, fbool_eq]
theorem HS.fc_eq {β : Type} (s : HS) (k : HS → β) : s.fc k = k s := by
 cases s with
 | mk h n => simp only [HS.fc, PT.fc_eq, fnat_eq]
theorem putD_some {β : Type} {d : Option Nat} {v : AV} {k : PT AV → Option β} {r : β} (h : putD sz tm d v k = some r) :
  ∃ tm', k tm' = some r ∧ ((d = none ∧ tm' = tm) ∨ ∃ n, d = some n ∧ n < sz ∧ tm' = tm.set n (some v)) := by
 cases d with
 | none => exact ⟨tm, h, .inl ⟨rfl, rfl⟩⟩
 | some n =>
  simp only [putD] at h
  split at h
  ·rename_i hb
   rw [fz_eq, PT.fc_eq] at h
   exact ⟨_, h, .inr ⟨n, rfl, blt_lt hb, rfl⟩⟩
  ·cases h
theorem TmOk.put (h : TmOk φ sz tm a) {d : Option Nat} {v : AV} {tm' : PT AV} (hd : (d = none ∧ tm' = tm) ∨ ∃ n, d = some n ∧ n < sz ∧ tm' = tm.set n (some v)) (hv : okV φ v) : TmOk φ sz tm' (a.put d (concV φ v)) := by
 rcases hd with ⟨rfl, rfl⟩ | ⟨n, rfl, hn, rfl⟩
 ·exact h
 ·refine ⟨by simp [Act.put, h.size], fun t u hu => ?_, h.dfr⟩
  rcases PT.get_set hu with ⟨rfl, e⟩ | ⟨e, hg⟩
  ·cases e
   exact ⟨by simp [Act.put, h.size, hn], hv⟩
  ·obtain ⟨h1, h2⟩ := h.val t u hg
   exact ⟨by simp only [Act.put]; rw [Array.getElem?_setIfInBounds_ne (Ne.symm e)]; exact h1, h2⟩
theorem undV_conc (φ : Phi) : concV φ undV = undef := rfl
theorem undV_ok (φ : Phi) : okV φ undV := fun x m => by cases m
theorem want_ok (h : TmOk φ sz tm a) {ops : Array Oper} {o : Oper} {b : Bool} (hw : want ops.toList tm o.guard = some b) : Region.wanted o (yielded ops a.tmps) = b := by
 unfold Region.wanted
 cases hg : o.guard with
 | none => rw [hg] at hw; cases hw; rfl
 | some g =>
  obtain ⟨j, c⟩ := g
  rw [hg] at hw
  replace hw := bnd_some hw; obtain ⟨oj, hj, hw⟩ := hw
  replace hw := bnd_some hw; obtain ⟨t, ht, hw⟩ := hw
  replace hw := bnd_some hw; obtain ⟨v, hv, hw⟩ := hw
  have h1 := (h.val t v hv).1
  have hj' : ops[j]? = some oj := by simpa using hj
  have hy : ∀ r, (match a.tmps[t]? with | some (.bool b) => some b | _ => none) = r → yielded ops a.tmps j = r := fun r hr => by
   unfold yielded
   rw [hj']
   simp only [Option.bind_some, ht]
   exact hr
  cases v with
  | tup l =>
   cases l with
   | nil => cases hw; dsimp only; rw [hy none (by rw [h1]; rfl)]; rfl
   | cons x l => cases hw
  | w x =>
   cases x with
   | agg cs => cases hw
   | c x =>
    cases x <;> try (cases hw; done)
    rename_i p
    cases hw
    dsimp only
    rw [hy (some p) (by rw [h1]; rfl)]
    cases p <;> cases c <;> rfl
end
def Rt (φ : Phi) (s : HS) (w : World) (v : AV) (s' : HS) : Ending → World → Prop := fun e u => ∃ ψ, e = .returned (concV ψ v) ∧ okV ψ v ∧ Stp φ s.h.get s.nx w ψ s'.h.get s'.nx u
def CallS (P : Program) (f : Nat) (args : List AV) (s : HS) (v : AV) (s' : HS) : Prop := s.nx ≤ s'.nx ∧ ∀ φ w, Sim φ s.h.get w → Fresh φ s.nx s'.nx → (∀ x ∈ args, okV φ x) →
 ((callFunc f (args.map (concV φ)).toArray).run P w = .ok (.value (concV φ v)) w ∧ okV φ v ∧ s' = s) ∨
 ((callFunc f (args.map (concV φ)).toArray).run P w = .ok (.enter f (args.map (concV φ)).toArray) w ∧ Calls P f (args.map (concV φ)).toArray w (Rt φ s w v s'))
def KOk (P : Program) (K : CallT) : Prop := ∀ f args s v s', K f args s = some (v, s') → CallS P f args s v s'
section
variable {P : Program} {E : Env} {K : CallT}
theorem evs_ok {φ : Phi} {tm : PT AV} {ρ : Operand → Value} : ∀ {l : List Operand} {vs : List AV}, evs tm l = some vs → (∀ x ∈ l, ∀ v, ev tm x = some v → ρ x = concV φ v ∧ okV φ v) → l.map ρ = vs.map (concV φ) ∧ ∀ v ∈ vs, okV φ v
 | [], vs, h, _ => by cases h; exact ⟨rfl, fun v m => by cases m⟩
 | x :: l, vs, h, hev => by
  have h' : (bnd (ev tm x) fun v => bnd (evs tm l) fun vs => some (v :: vs)) = some vs := h
  replace h' := bnd_some h'; obtain ⟨v, hv, h'⟩ := h'
  replace h' := bnd_some h'; obtain ⟨us, hus, h'⟩ := h'
  cases h'
  obtain ⟨e1, e2⟩ := hev x List.mem_cons_self v hv
  obtain ⟨e3, e4⟩ := evs_ok hus fun y m => hev y (List.mem_cons_of_mem _ m)
  refine ⟨by rw [List.map_cons, List.map_cons, e1, e3], fun u m => ?_⟩
  rcases List.mem_cons.1 m with rfl | m
  ·exact e2
  ·exact e4 u m
def OpV (P : Program) (φ : Phi) (ρ : Operand → Value) (o : Oper) (s : HS) (v : AV) (s' : HS) (w : World) : Prop :=
 ∃ ψ u, ((execOp ρ o).run P w = .ok (.value (concV ψ v)) u ∨ ((execOp ρ o).run P w = .ok .skip u ∧ v = undV)) ∧ okV ψ v ∧ Stp φ s.h.get s.nx w ψ s'.h.get s'.nx u
theorem OpV.pu {φ : Phi} {ρ : Operand → Value} {o : Oper} {s : HS} {v : AV} {w : World} (hS : Sim φ s.h.get w) (h : Pu P φ ρ o v) : OpV P φ ρ o s v s w := ⟨φ, w, .inl (h.1 w), h.2, Stp.refl hS⟩
theorem OpV.ld {φ : Phi} {ρ : Operand → Value} {o : Oper} {s : HS} {v : AV} {w : World} (hS : Sim φ s.h.get w) (h : Ld P φ ρ o v w) : OpV P φ ρ o s v s w := ⟨φ, w, .inl h.1, h.2, Stp.refl hS⟩
theorem OpV.nw {φ : Phi} {ρ : Operand → Value} {o : Oper} {s : HS} {b : AB} {k : NK} {w : World} (hS : Sim φ s.h.get w) (hf : φ s.nx = none) (h : Nw P φ ρ o b k s.nx w) : OpV P φ ρ o s (k.val s.nx) (s.new b) w := by
 obtain ⟨ob, p, h1, h2, h3, h4⟩ := h
 exact ⟨_, _, .inl h2, h3, stp_newG hS hf h1 rfl rfl rfl rfl h4 new_hold⟩
theorem rv_some {s : HS} {x : Option AV} {v : AV} {s' : HS} (h : rv s x = some (.val v s')) : x = some v ∧ s' = s := by
 replace h := bnd_some h; obtain ⟨y, hy, h⟩ := h
 cases h; exact ⟨hy, rfl⟩
theorem rs_some {x : Option HS} {v : AV} {s' : HS} (h : rs x = some (.val v s')) : x = some s' ∧ v = undV := by
 replace h := bnd_some h; obtain ⟨y, hy, h⟩ := h
 cases h; exact ⟨hy, rfl⟩
theorem rn_some {s : HS} {x : Option (AB × NK)} {v : AV} {s' : HS} (h : rn s x = some (.val v s')) : ∃ b k, x = some (b, k) ∧ v = k.val s.nx ∧ s' = s.new b := by
 replace h := bnd_some h; obtain ⟨y, hy, h⟩ := h
 cases h; exact ⟨y.1, y.2, hy, rfl, rfl⟩
theorem ra_some {x : Option (AV × HS)} {v : AV} {s' : HS} (h : ra x = some (.val v s')) : x = some (v, s') := by
 replace h := bnd_some h; obtain ⟨y, hy, h⟩ := h
 cases h; exact hy
theorem OpV.ef {φ : Phi} {ρ : Operand → Value} {o : Oper} {s s' : HS} {v : AV} {w : World} (h : Ef P φ ρ o s (some v) s' w) : OpV P φ ρ o s v s' w := by
 obtain ⟨ψ, u, h1, h2, h3⟩ := h
 exact ⟨ψ, u, .inl h1, h3 v rfl, h2⟩
theorem OpV.es {φ : Phi} {ρ : Operand → Value} {o : Oper} {s s' : HS} {w : World} (h : Ef P φ ρ o s none s' w) : OpV P φ ρ o s undV s' w := by
 obtain ⟨ψ, u, h1, h2, h3⟩ := h
 exact ⟨ψ, u, .inr ⟨h1, rfl⟩, undV_ok ψ, h2⟩
theorem op_val (hE : EnvOk P E) {φ : Phi} {tm : PT AV} {ρ : Operand → Value} {o : Oper} {s s' : HS} {v : AV} {w : World} (h : opRun E tm s o.op = some (.val v s')) (hS : Sim φ s.h.get w) (hf : Fresh φ s.nx s'.nx) (hev : EvOk φ tm ρ o.op.operands) : OpV P φ ρ o s v s' w := by
 have fr : ∀ {b : AB}, s' = s.new b → φ s.nx = none := fun {b} e => hf s.nx (Nat.le_refl _) (by rw [e]; exact Nat.lt_succ_self _)
 cases ho : o.op <;> rw [ho] at h <;> try (cases h; done)
 case move x => obtain ⟨h2, rfl⟩ := rv_some h; exact .pu hS (pu_move (.inl ho) hev h2)
 case assign x => obtain ⟨h2, rfl⟩ := rv_some h; exact .pu hS (pu_move (.inr ho) hev h2)
 case pick c a b => obtain ⟨h2, rfl⟩ := rv_some h; exact .pu hS (pu_pick ho hev h2)
 case alloc t => obtain ⟨b, k, h2, rfl, e⟩ := rn_some h; have := fr e; subst e; exact .nw hS this (nw_alloc hE ho h2 this w)
 case box t x => obtain ⟨b, k, h2, rfl, e⟩ := rn_some h; have := fr e; subst e; exact .nw hS this (nw_box ho hev h2 this w)
 case build t ps => obtain ⟨h2, rfl⟩ := rv_some h; exact .pu hS (pu_build hE ho hev h2)
 case buildSlice t n ps => obtain ⟨b, k, h2, rfl, e⟩ := rn_some h; have := fr e; subst e; exact .nw hS this (nw_buildSlice hE ho hev h2 this w)
 case insert t m k x => obtain ⟨h2, rfl⟩ := rs_some h; exact .es (ef_mapUpdate hE hS (.inr ho) hev h2)
 case load t x => obtain ⟨h2, rfl⟩ := rv_some h; exact .ld hS (ld_load hE hS ho hev h2)
 case store t x y => obtain ⟨h2, rfl⟩ := rs_some h; exact .es (ef_store hE hS ho hev h2)
 case nilCheck x => obtain ⟨h2, rfl⟩ := rv_some h; exact .pu hS (pu_nil ho hev h2)
 case binOp op t x y yt => obtain ⟨h2, rfl⟩ := rv_some h; exact .pu hS (pu_bin hE ho hev h2)
 case unOp op t x => obtain ⟨h2, rfl⟩ := rv_some h; exact .pu hS (pu_un ho hev h2)
 case convert t d x => obtain ⟨h2, rfl⟩ := rv_some h; exact .pu hS (pu_conv hE ho hev h2)
 case makeMap t r =>
  cases r with
  | none => obtain ⟨b, k, h2, rfl, e⟩ := rn_some h; have := fr e; subst e; exact .nw hS this (nw_map ho h2 w)
  | some r => cases h
 case makeSlice t l c => obtain ⟨b, k, h2, rfl, e⟩ := rn_some h; have := fr e; subst e; exact .nw hS this (nw_makeSlice hE ho hev h2 this w)
 case slice t x lo hi mx => obtain ⟨h2, rfl⟩ := rv_some h; exact .pu hS (pu_slice hE ho hev h2)
 case fieldAddr t x f => obtain ⟨h2, rfl⟩ := rv_some h; exact .pu hS (pu_fieldAddr hE ho hev h2)
 case field t x f => obtain ⟨h2, rfl⟩ := rv_some h; exact .pu hS (pu_field hE ho hev h2)
 case indexAddr t x i => obtain ⟨h2, rfl⟩ := rv_some h; exact .pu hS (pu_indexAddr hE ho hev h2)
 case index t x i => obtain ⟨h2, rfl⟩ := rv_some h; exact .pu hS (pu_index hE ho hev h2)
 case lookup t x k ok => obtain ⟨h2, rfl⟩ := rv_some h; exact .ld hS (ld_lookup hE hS ho hev h2)
 case mapUpdate t m k x => obtain ⟨h2, rfl⟩ := rs_some h; exact .es (ef_mapUpdate hE hS (.inl ho) hev h2)
 case extract x n => obtain ⟨h2, rfl⟩ := rv_some h; exact .pu hS (pu_extract ho hev h2)
 case call c =>
  have h' : opCall E tm s c = some (.val v s') := h
  clear h
  unfold opCall at h'
  split at h'
  ·rename_i b hb
   split at h' <;> try (cases h'; done)
   ·split at h' <;> try (cases h'; done)
    rename_i x hx
    split at h' <;> try (cases h'; done)
    rename_i t ht
    obtain ⟨h2, rfl⟩ := rv_some h'
    have ht' : c.argTypes[0]? = some t := by rw [← Array.getElem?_toList, ht]; rfl
    exact .pu hS (pu_len hE ho hb hx ht' hev h2)
   ·split at h' <;> try (cases h'; done)
    rename_i x y hx
    split at h' <;> try (cases h'; done)
    rename_i t t2 ht
    split at h' <;> try (cases h'; done)
    rename_i he
    have he' := Nat.eq_of_beq_eq_true he
    subst he'
    have h9 := ra_some h'
    have ht' : c.argTypes = #[t, t] := by apply Array.ext'; simpa using ht
    exact .ef (ef_append hE hS (fun hlt => hf s.nx (Nat.le_refl _) hlt) ho hb hx ht' hev h9)
   ·obtain ⟨h2, rfl⟩ := rv_some h'
    exact .pu hS (pu_min (mn := true) ho hb hev h2)
   ·obtain ⟨h2, rfl⟩ := rv_some h'
    exact .pu hS (pu_min (mn := false) ho hb hev h2)
  ·replace h' := evc_some h'; obtain ⟨cc, hcc, h'⟩ := h'
   split at h'
   ·replace h' := bnd_some h'; obtain ⟨l, hl, h'⟩ := h'
    cases h'
   ·cases h'
  ·cases h'
theorem val_nx {tm : PT AV} {o : Op} {s s' : HS} {v : AV} (h : opRun E tm s o = some (.val v s')) : s.nx ≤ s'.nx := by
 have g1 : ∀ {x : Option AV}, rv s x = some (.val v s') → s.nx ≤ s'.nx := fun h => by rw [(rv_some h).2]; exact Nat.le_refl _
 have g2 : ∀ {x : Option (AB × NK)}, rn s x = some (.val v s') → s.nx ≤ s'.nx := fun h => by obtain ⟨b, k, _, _, e⟩ := rn_some h; rw [e]; exact Nat.le_succ _
 have g3 : ∀ {t : Nat} {m k x : Operand}, opMapUpdate E tm s t m k x = some s' → s.nx ≤ s'.nx := fun h => by
  replace h := bnd_some h; obtain ⟨ti, hti, h⟩ := h
  split at h <;> try (cases h; done)
  replace h := evc_some h; obtain ⟨c, hc, h⟩ := h
  replace h := evw_some h; obtain ⟨kk, hkk, h⟩ := h
  split at h <;> try (cases h; done)
  replace h := evw_some h; obtain ⟨y, hy, h⟩ := h
  split at h <;> try (cases h; done)
  replace h := bnd_some h; obtain ⟨b, hb, h⟩ := h
  replace h := bnd_some h; obtain ⟨es, hes, h⟩ := h
  cases h; exact Nat.le_refl _
 cases o <;> try (cases h; done)
 case move | assign | pick | build | load | nilCheck | binOp | unOp | convert | slice | fieldAddr | field | indexAddr | index | lookup | extract => exact g1 h
 case alloc | box | buildSlice | makeSlice => exact g2 h
 case insert | mapUpdate => exact g3 (rs_some h).1
 case makeMap t r =>
  cases r with
  | none => exact g2 h
  | some r => cases h
 case store t x y =>
  have h' := (rs_some h).1
  clear h
  replace h' := bnd_some h'; obtain ⟨ti, hti, h'⟩ := h'
  replace h' := evc_some h'; obtain ⟨c, hc, h'⟩ := h'
  replace h' := evw_some h'; obtain ⟨y1, hy, h'⟩ := h'
  split at h' <;> try (cases h'; done)
  split at h' <;> try (cases h'; done)
  replace h' := bnd_some h'; obtain ⟨b, hb, h'⟩ := h'
  cases b with
  | map ks es => cases h'
  | row e cs =>
   replace h' := bnd_some h'; obtain ⟨ds, hds, h'⟩ := h'
   cases h'; exact Nat.le_refl _
 case call c =>
  have h' : opCall E tm s c = some (.val v s') := h
  clear h
  unfold opCall at h'
  split at h'
  ·split at h' <;> try (cases h'; done)
   ·split at h' <;> try (cases h'; done)
    split at h' <;> try (cases h'; done)
    exact g1 h'
   ·split at h' <;> try (cases h'; done)
    split at h' <;> try (cases h'; done)
    split at h' <;> try (cases h'; done)
    have h9 := ra_some h'
    clear h'
    replace h9 := evc_some h9; obtain ⟨c1, hc, h9⟩ := h9
    replace h9 := evc_some h9; obtain ⟨d, hd, h9⟩ := h9
    replace h9 := bnd_some h9; obtain ⟨ti, hti, h9⟩ := h9
    split at h9 <;> try (cases h9; done)
    replace h9 := bnd_some h9; obtain ⟨ie, hie, h9⟩ := h9
    replace h9 := bnd_some h9; obtain ⟨pr, hpr, h9⟩ := h9
    unfold app at h9
    split at h9
    ·split at h9 <;> first | (cases h9; exact Nat.le_refl _) | cases h9
    ·split at h9 <;> try (cases h9; done)
     ·split at h9 <;> first | (cases h9; exact Nat.le_succ _) | cases h9
     ·split at h9 <;> try (cases h9; done)
      replace h9 := bnd_some h9; obtain ⟨b, hb, h9⟩ := h9
      split at h9 <;> try (cases h9; done)
      split at h9 <;> try (cases h9; done)
      split at h9 <;> try (cases h9; done)
      split at h9 <;> first | (cases h9; exact Nat.le_succ _) | cases h9
   ·exact g1 h'
   ·exact g1 h'
  ·replace h' := evc_some h'; obtain ⟨cc, hcc, h'⟩ := h'
   split at h'
   ·replace h' := bnd_some h'; obtain ⟨l, hl, h'⟩ := h'
    cases h'
   ·cases h'
  ·cases h'
theorem op_call {φ : Phi} {tm : PT AV} {ρ : Operand → Value} {o : Oper} {s : HS} {f : Nat} {args : List AV} (h : opRun E tm s o.op = some (.call f args)) (hev : EvOk φ tm ρ o.op.operands) :
  (∀ w, (execOp ρ o).run P w = (callFunc f (args.map (concV φ)).toArray).run P w) ∧ ∀ x ∈ args, okV φ x := by
 have n1 : ∀ x : Option AV, rv s x ≠ some (.call f args) := fun x h => by replace h := bnd_some h; obtain ⟨_, _, h⟩ := h; cases h
 have n2 : ∀ x : Option HS, rs x ≠ some (.call f args) := fun x h => by replace h := bnd_some h; obtain ⟨_, _, h⟩ := h; cases h
 have n3 : ∀ x : Option (AB × NK), rn s x ≠ some (.call f args) := fun x h => by replace h := bnd_some h; obtain ⟨_, _, h⟩ := h; cases h
 have n4 : ∀ x : Option (AV × HS), ra x ≠ some (.call f args) := fun x h => by replace h := bnd_some h; obtain ⟨_, _, h⟩ := h; cases h
 cases ho : o.op <;> rw [ho] at h <;> try (first | (cases h; done) | exact absurd h (n1 _) | exact absurd h (n2 _) | exact absurd h (n3 _))
 case makeMap t r =>
  cases r with
  | none => exact absurd h (n3 _)
  | some r => cases h
 case call c =>
  have h' : opCall E tm s c = some (.call f args) := h
  clear h
  unfold opCall at h'
  split at h'
  ·split at h' <;> try (cases h'; done)
   ·split at h' <;> try (cases h'; done)
    split at h' <;> try (cases h'; done)
    exact absurd h' (n1 _)
   ·split at h' <;> try (cases h'; done)
    split at h' <;> try (cases h'; done)
    split at h' <;> try (cases h'; done)
    exact absurd h' (n4 _)
   ·exact absurd h' (n1 _)
   ·exact absurd h' (n1 _)
  ·rename_i x hx
   replace h' := evc_some h'; obtain ⟨cc, hcc, h'⟩ := h'
   rw [ho] at hev
   have hfx := (hev.c (x := x) (by simp [Op.operands, Call.operands, hx]) hcc).1
   split at h'
   ·rename_i g
    replace h' := bnd_some h'; obtain ⟨l, hl, h'⟩ := h'
    cases h'
    obtain ⟨e1, e2⟩ := evs_ok (ρ := ρ) (φ := φ) hl (fun y m v hv => hev y (by simp only [Op.operands, Call.operands, hx]; simp; exact .inr (by simpa using m)) v hv)
    refine ⟨fun w => ?_, e2⟩
    have e3 : c.args.map ρ = (args.map (concV φ)).toArray := by rw [← e1, ← Array.toList_map]
    have e4 : ρ x = .func (.func f) #[] #[] := hfx
    simp only [execOp, ho, resolve, hx, e4, Deferred.ofValue, Sem.run_bind, Sem.run_pure, Result.andThen_ok, invoke, e3]
    simp
   ·cases h'
  ·cases h'
theorem opDo_some {tm : PT AV} {s s' : HS} {o : Op} {v : AV} (h : opDo E K tm s o = some (v, s')) : opRun E tm s o = some (.val v s') ∨ ∃ f args, opRun E tm s o = some (.call f args) ∧ K f args s = some (v, s') := by
 replace h := bnd_some h; obtain ⟨r, hr, h⟩ := h
 cases r with
 | val v' s1 => cases h; exact .inl hr
 | call f args => exact .inr ⟨f, args, hr, h⟩
theorem opDo_nx (hK : KOk P K) {tm : PT AV} {s s' : HS} {o : Op} {v : AV} (h : opDo E K tm s o = some (v, s')) : s.nx ≤ s'.nx := by
 rcases opDo_some h with h | ⟨f, args, _, h⟩
 ·exact val_nx h
 ·exact (hK f args s v s' h).1
theorem op_do (hE : EnvOk P E) (hK : KOk P K) {φ : Phi} {tm : PT AV} {o : Oper} {s s' : HS} {v : AV} {w : World} {a : Act} (h : opDo E K tm s o.op = some (v, s')) (hS : Sim φ s.h.get w) (hf : Fresh φ s.nx s'.nx) (hev : EvOk φ tm a.eval o.op.operands)
  {next : Act → World → Prop} {Q : Exit → Act → World → Prop} (hn : ∀ ψ u, okV ψ v → Stp φ s.h.get s.nx w ψ s'.h.get s'.nx u → next (a.put o.dst (concV ψ v)) u) : o.wp P a w next Q := by
 unfold Oper.wp
 rcases opDo_some h with h | ⟨f, args, h, hk⟩
 ·obtain ⟨ψ, u, h1, h2, h3⟩ := op_val hE h hS hf hev
  rcases h1 with h1 | ⟨h1, rfl⟩
  ·rw [h1]; exact hn ψ u h2 h3
  ·rw [h1]; exact hn ψ u h2 h3
 ·obtain ⟨h1, h2⟩ := op_call (P := P) h hev
  rw [h1]
  rcases (hK f args s v s' hk).2 φ w hS hf h2 with ⟨g1, g2, rfl⟩ | ⟨g1, g2⟩
  ·rw [g1]; exact hn φ w g2 (Stp.refl hS)
  ·rw [g1]
   refine Calls.mono g2 fun e u he => ?_
   obtain ⟨ψ, rfl, k1, k2⟩ := he
   exact hn ψ u k1 k2
end
end Go.Proofs.YtabmjadcoepbeaaGreat.Ev
namespace Go.Proofs.YtabmjadcoepbeaaGreat.Ev
theorem meetV_some {α : Type} {eq : α → α → Bool} {v w : Option α} {x : α} (h : meetV eq v w = some x) : v = some x ∧ ∃ y, w = some y ∧ eq x y = true := by
 cases v with
 | none => cases h
 | some v =>
  cases w with
  | none => cases h
  | some y =>
   simp only [meetV] at h
   split at h
   ·rename_i e; cases h; exact ⟨rfl, y, rfl, e⟩
   ·cases h
theorem PT.meet_get {α : Type} {eq : α → α → Bool} : ∀ {t u : PT α} {n : Nat} {x : α}, (t.meet eq u).get n = some x → t.get n = some x ∧ ∃ y, u.get n = some y ∧ eq x y = true
 | .nil, u, n, x, h => by cases h
 | .node l v r, u, n, x, h => by
  have key : ∀ (ul ur : PT α) (uv : Option α), (PT.node (l.meet eq ul) (meetV eq v uv) (r.meet eq ur)).get n = some x → (PT.node l v r).get n = some x ∧ ∃ y, (PT.node ul uv ur).get n = some y ∧ eq x y = true := by
   intro ul ur uv h
   rw [PT.get_node] at h ⊢
   rw [PT.get_node]
   cases n with
   | zero =>
    rw [fork_zero] at h ⊢
    rw [fork_zero]
    exact meetV_some h
   | succ n =>
    rw [fork_succ] at h ⊢
    rw [fork_succ]
    split at h
    ·rename_i e; rw [if_pos e, if_pos e]; exact PT.meet_get h
    ·rename_i e; rw [if_neg e, if_neg e]; exact PT.meet_get h
  have h' : (u.open_ fun ul uv ur => (l.meet eq ul).fc fun l' => (r.meet eq ur).fc fun r' => PT.node l' (meetV eq v uv) r').get n = some x := h
  cases u with
  | nil =>
   have h2 := h'
   simp only [PT.open_, PT.fc_eq] at h2
   obtain ⟨g1, y, g2, g3⟩ := key .nil .nil none h2
   rw [PT.get_node] at g2
   cases n with
   | zero => cases g2
   | succ n => rw [fork_succ] at g2; split at g2 <;> cases g2
  | node ul uv ur =>
   have h2 := h'
   simp only [PT.open_, PT.fc_eq] at h2
   exact key ul ur uv h2
section
variable {P : Program} {E : Env}
theorem isStB_spec {ty t1 : Nat} {o : Oper} (h : isStB ty t1 o = true) : ∃ b, o.op = .store ty (.tmp t1) (.const (.bool b)) ∧ o.dst = none ∧ o.guard = none := by
 unfold isStB at h
 split at h <;> try (cases h; done)
 rename_i t x y ho
 split at h <;> try (cases h; done)
 split at h <;> try (cases h; done)
 split at h <;> try (cases h; done)
 rename_i b
 split at h <;> try (cases h; done)
 rename_i hd
 split at h <;> try (cases h; done)
 rename_i hg
 rw [Bool.and_eq_true] at h
 have e1 := Nat.eq_of_beq_eq_true h.1
 have e2 := Nat.eq_of_beq_eq_true h.2
 subst e1 e2
 exact ⟨b, ho, hd, hg⟩
theorem onB_mem {l : List Edge} {k : Nat} : k ∈ onB l ↔ ∃ e ∈ l, bindsB e = true ∧ e.on = k := by
 induction l with
 | nil => exact ⟨fun h => (by cases h), fun ⟨_, h, _⟩ => (by cases h)⟩
 | cons e l ih =>
  have hd : onB (e :: l) = (match bindsB e with | true => e.on :: onB l | false => onB l) := rfl
  rw [hd]
  cases hb : bindsB e with
  | true =>
   dsimp only
   rw [List.mem_cons, ih]
   constructor
   ·rintro (rfl | ⟨e', m, h⟩)
    ·exact ⟨e, List.mem_cons_self, hb, rfl⟩
    ·exact ⟨e', List.mem_cons_of_mem _ m, h⟩
   ·rintro ⟨e', m, h1, h2⟩
    rcases List.mem_cons.1 m with rfl | m
    ·exact .inl h2.symm
    ·exact .inr ⟨e', m, h1, h2⟩
  | false =>
   dsimp only
   rw [ih]
   constructor
   ·rintro ⟨e', m, h⟩; exact ⟨e', List.mem_cons_of_mem _ m, h⟩
   ·rintro ⟨e', m, h1, h2⟩
    rcases List.mem_cons.1 m with rfl | m
    ·rw [hb] at h1; cases h1
    ·exact ⟨e', m, h1, h2⟩
theorem bindsB_any (e : Edge) : bindsB e = Region.binds .any e := by
 unfold bindsB Region.binds
 cases e.ground <;> rfl
theorem only0_spec {l : List Nat} (h : only0 l = true) : 0 ∈ l := by
 unfold only0 at h
 split at h
 ·have := Nat.eq_of_beq_eq_true h; subst this; exact List.mem_cons_self
 ·cases h
theorem coin_all {α : Type} {f : α → Bool} : ∀ {l : List α}, allB f l = true → ∀ x ∈ l, f x = true
 | [], _, x, m => by cases m
 | y :: l, h, x, m => by
  have h' : (match f y with | true => allB f l | false => false) = true := h
  split at h'
  ·rename_i e
   rcases List.mem_cons.1 m with rfl | m
   ·exact e
   ·exact coin_all h' x m
  ·cases h'
structure CoinW (w u : World) (ty : Nat) (x : Value) : Prop where
 at_ : u.heap[w.heap.size]? = some (.cells #[x] ty (0, 0))
 far : ∀ k, k < w.heap.size → u.heap[k]? = w.heap[k]?
 size : u.heap.size = w.heap.size + 1
 os : u.os = w.os
 tape : u.tape = w.tape
 output : u.output = w.output
theorem coin_ok (hE : EnvOk P E) (hm : P.follows .mixedOrders = true) {ops : Array Oper} {t1 t2 : Nat} (h : coinOps E ops.toList = some (t1, t2)) {id : Nat} {a : Act} {w : World} {Q : Exit → Act → World → Prop}
  (hQ : ∀ (b : Bool) (u : World) (g : Value), (∀ k, k < w.heap.size → u.heap[k]? = w.heap[k]?) → w.heap.size ≤ u.heap.size → u.os = w.os → u.tape = w.tape → u.output = w.output → Q .normal ((a.put (some t1) g).put (some t2) (.bool b)) u) (ht1 : t1 < a.tmps.size) :
  (Code.region id ops true).wp P Q a w := by
 unfold coinOps at h
 split at h <;> try (cases h; done)
 rename_i o0 o1 o2 o3 hops
 split at h <;> try (cases h; done)
 rename_i ty ho0
 split at h <;> try (cases h; done)
 rename_i t1' hd0
 split at h <;> try (cases h; done)
 rename_i ty2 x ho3
 split at h <;> try (cases h; done)
 rename_i u0
 split at h <;> try (cases h; done)
 rename_i t2' hd3
 split at h <;> try (cases h; done)
 rename_i hg0
 split at h <;> try (cases h; done)
 rename_i hg3
 replace h := bnd_some h; obtain ⟨ti, hti, h⟩ := h
 split at h <;> try (cases h; done)
 rename_i hk
 split at h <;> try (cases h; done)
 rename_i hc
 split at h <;> try (cases h; done)
 rename_i hne
 cases h
 simp only [Bool.and_eq_true] at hc
 obtain ⟨⟨⟨c1, c2⟩, c3, c4⟩, ⟨⟨c5, c6⟩, ⟨c7, c8⟩, ⟨c9, c10⟩, c11⟩⟩ := hc
 obtain ⟨b1, s1, d1, g1⟩ := isStB_spec c1
 obtain ⟨b2, s2, d2, g2⟩ := isStB_spec c2
 have e3 := Nat.eq_of_beq_eq_true c3
 have e4 := Nat.eq_of_beq_eq_true c4
 subst e3 e4
 have hsz1 := Nat.eq_of_beq_eq_true c7
 have hn0 : onB o0.after.toList = [] := List.eq_nil_of_length_eq_zero (Nat.eq_of_beq_eq_true c8)
 have hne' := Nat.ne_of_beq_eq_false hne
 have hopsA : ops = #[o0, o1, o2, o3] := by apply Array.ext'; simpa using hops
 subst hopsA
 -- the type
 obtain ⟨tf, u, z, zw, i1, i2, i3, i4, i5, i6, i7, i8, hkd, i9⟩ := (hE.ti ty ti hti).ok
 rw [hk] at hkd
 have hu : u = .bool := hkd
 subst hu
 have hzc : ∃ z0, z.cells = #[z0] := by
  have h1 : z.cells.toList.length = 1 := by
   rw [i7, concW_cells, zero_cells i6]; simp [i9, hsz1]
  match hz : z.cells.toList, h1 with
  | [z0], _ => exact ⟨z0, by apply Array.ext'; simpa using hz⟩
 obtain ⟨z0, hz0⟩ := hzc
 -- one store
 have store : ∀ (oo : Oper) (b : Bool) (aa : Act) (v : World) (xx : Value), oo.op = .store ty (.tmp u0) (.const (.bool b)) → oo.dst = none → aa.eval (.tmp u0) = .pointer (some ⟨w.heap.size, 0, none⟩) → CoinW w v ty xx →
   ∃ v', (execOp aa.eval oo).run P v = .ok .skip v' ∧ CoinW w v' ty (.bool b) := by
  intro oo b aa v xx hoo _ hev hv
  obtain ⟨v', new, r1, r2, r3, r4⟩ := run_cells_at (P := P) w.heap.size ty [.bool b] 0 0 #[xx] v hv.at_ (by simp) (fun v hv => by rw [List.mem_singleton.1 hv]; rfl)
  have hnew : new = #[.bool b] := by
   apply Array.ext
   ·rw [r3]; rfl
   ·intro k k1 k2
    have hk0 : k = 0 := by simp at k2; exact k2
    subst hk0
    have := r4 0
    simp at this
    rw [Array.getElem?_eq_getElem k1] at this
    simpa using this
  subst hnew
  refine ⟨v', ?_, ⟨r2.at_, fun k hk => (r2.far k (by omega)).trans (hv.far k hk), r2.size.trans hv.size, r2.os.trans hv.os, r2.tape.trans hv.tape, r2.output.trans hv.output⟩⟩
  have hsz : ¬ ((Value.bool b).cells.size ≠ tf.size) := by rw [i3, hsz1]; simp [Value.cells]
  have e9 : aa.eval (.const (.bool b)) = .bool b := rfl
  simp only [execOp, hoo, hev, e9, Instr.storeAt, Instr.sureAddr, storeVar, Sem.run_bind, Sem.run_pure, Result.andThen_ok, r_size i1, hsz, if_false]
  have e10 : (Value.bool b).cells.toList = [.bool b] := rfl
  rw [e10, r1]
  rfl
 -- which may come next
 have hwt : ∀ (oo : Oper) (y : Nat → Option Bool), oo.guard = none → Region.wanted oo y = true := fun oo y h => by unfold Region.wanted; rw [h]
 have ed1 : ∀ e ∈ o1.after, Region.binds .any e = true → e.on = 0 := fun e me hb => by
  have hmm := (onB_mem (l := o1.after.toList) (k := e.on)).2 ⟨e, by simpa using me, by rw [bindsB_any]; exact hb, rfl⟩
  unfold only0 at c5
  split at c5
  ·rename_i x hx; rw [hx] at hmm; rw [List.mem_singleton.1 hmm]; exact Nat.eq_of_beq_eq_true c5
  ·cases c5
 have ed2 : ∀ e ∈ o2.after, Region.binds .any e = true → e.on = 0 := fun e me hb => by
  have hmm := (onB_mem (l := o2.after.toList) (k := e.on)).2 ⟨e, by simpa using me, by rw [bindsB_any]; exact hb, rfl⟩
  unfold only0 at c6
  split at c6
  ·rename_i x hx; rw [hx] at hmm; rw [List.mem_singleton.1 hmm]; exact Nat.eq_of_beq_eq_true c6
  ·cases c6
 have ed0 : ∀ e ∈ o0.after, Region.binds .any e = true → False := fun e me hb => by
  have hmm := (onB_mem (l := o0.after.toList) (k := e.on)).2 ⟨e, by simpa using me, by rw [bindsB_any]; exact hb, rfl⟩
  rw [hn0] at hmm; cases hmm
 have ed3 : ∀ e ∈ o3.after, Region.binds .any e = true → e.on < 3 := fun e me hb => by
  have hmm := (onB_mem (l := o3.after.toList) (k := e.on)).2 ⟨e, by simpa using me, by rw [bindsB_any]; exact hb, rfl⟩
  have := coin_all c11 _ hmm
  exact blt_lt this
 have on1 : ∃ e ∈ o1.after, Region.binds .any e = true ∧ e.on = 0 := by
  obtain ⟨e, me, hb, ho⟩ := onB_mem.1 (only0_spec c5)
  exact ⟨e, by simpa using me, by rw [← bindsB_any]; exact hb, ho⟩
 have on2 : ∃ e ∈ o2.after, Region.binds .any e = true ∧ e.on = 0 := by
  obtain ⟨e, me, hb, ho⟩ := onB_mem.1 (only0_spec c6)
  exact ⟨e, by simpa using me, by rw [← bindsB_any]; exact hb, ho⟩
 have on31 : ∃ e ∈ o3.after, Region.binds .any e = true ∧ e.on = 1 := by
  obtain ⟨e, me, hb, ho⟩ := onB_mem.1 (memN_mem c9)
  exact ⟨e, by simpa using me, by rw [← bindsB_any]; exact hb, ho⟩
 have on32 : ∃ e ∈ o3.after, Region.binds .any e = true ∧ e.on = 2 := by
  obtain ⟨e, me, hb, ho⟩ := onB_mem.1 (memN_mem c10)
  exact ⟨e, by simpa using me, by rw [← bindsB_any]; exact hb, ho⟩
 have rdy : ∀ (l : Array Bool) (j : Nat), j ∈ Region.ready .any #[o0, o1, o2, o3] l → l.getD j true = false ∧ ((j = 0) ∨ (j = 1 ∧ l.getD 0 false = true) ∨ (j = 2 ∧ l.getD 0 false = true) ∨ (j = 3 ∧ l.getD 1 false = true ∧ l.getD 2 false = true)) := by
  intro l j hj
  obtain ⟨h0, oj, h1, h2⟩ := mem_ready.1 hj
  refine ⟨h0, ?_⟩
  match j, h1 with
  | 0, _ => exact .inl rfl
  | 1, h1 => cases h1; obtain ⟨e, me, hb, he⟩ := on1; have := h2 e me hb; rw [he] at this; exact .inr (.inl ⟨rfl, this⟩)
  | 2, h1 => cases h1; obtain ⟨e, me, hb, he⟩ := on2; have := h2 e me hb; rw [he] at this; exact .inr (.inr (.inl ⟨rfl, this⟩))
  | 3, h1 =>
   cases h1
   obtain ⟨e, me, hb, he⟩ := on31
   have g1 := h2 e me hb
   rw [he] at g1
   obtain ⟨e, me, hb, he⟩ := on32
   have g2 := h2 e me hb
   rw [he] at g2
   exact .inr (.inr (.inr ⟨rfl, g1, g2⟩))
  | j + 4, h1 => simp at h1
 have ne_nil : ∀ {l : Array Bool} {j : Nat}, j ∈ Region.ready .any #[o0, o1, o2, o3] l → Region.ready .any #[o0, o1, o2, o3] l ≠ [] := fun h e => by rw [e] at h; cases h
 let ap : Act := a.put (some u0) (.pointer (some ⟨w.heap.size, 0, none⟩))
 have hap : ap.eval (.tmp u0) = .pointer (some ⟨w.heap.size, 0, none⟩) := by simp [ap, Act.eval, Act.put, ht1]
 have K3 : ∀ (b : Bool) (v : World), CoinW w v ty (.bool b) → wpAny P .any #[o0, o1, o2, o3] Q 1 #[true, true, true, false] ap v := by
  intro b v hv
  refine ⟨fun h => absurd h (ne_nil (j := 3) (mem_ready.2 ⟨rfl, o3, rfl, fun e me hb => ?_⟩)), fun j hj => ?_⟩
  ·have := ed3 e me hb
   match h9 : e.on, this with
   | 0, _ => rfl
   | 1, _ => rfl
   | 2, _ => rfl
  ·obtain ⟨q0, q⟩ := rdy _ _ hj
   have hj3 : j = 3 := by
    rcases q with rfl | ⟨rfl, _⟩ | ⟨rfl, _⟩ | ⟨rfl, _⟩ <;> first | rfl | cases q0
   subst hj3
   show wpOp P _ Q 3 _ ap v
   unfold wpOp
   simp only [show (#[o0, o1, o2, o3] : Array Oper)[3]? = some o3 from rfl, hwt o3 _ hg3, if_true]
   refine .inl ?_
   unfold Oper.wp
   have hl : (execOp ap.eval o3).run P v = .ok (.value (.bool b)) v := by
    have hc : v.cell? ⟨w.heap.size, 0, none⟩ = some (.bool b) := by rw [cell_of_row v _ _ _ _ _ hv.at_]; rfl
    simp [execOp, ho3, hap, Instr.loadAt, Instr.sureAddr, loadVar, r_agg i2, aggB, hc]
   rw [hl]
   show wpAny P .any _ Q 0 _ (ap.put o3.dst (.bool b)) v
   rw [hd3]
   refine ⟨?_, hQ b v _ hv.far (by rw [hv.size]; omega) hv.os hv.tape hv.output⟩
   cases hr : Region.ready .any #[o0, o1, o2, o3] (#[true, true, true, false].setIfInBounds 3 true) with
   | nil => rfl
   | cons j l =>
    have hj : j ∈ Region.ready .any #[o0, o1, o2, o3] (#[true, true, true, false].setIfInBounds 3 true) := by rw [hr]; exact List.mem_cons_self
    obtain ⟨q0, q⟩ := rdy _ _ hj
    rcases q with rfl | ⟨rfl, _⟩ | ⟨rfl, _⟩ | ⟨rfl, _⟩ <;> cases q0
 have st : ∀ (oo : Oper) (j : Nat) (b : Bool) (v : World) (xx : Value) (K : Act → World → Prop), (#[o0, o1, o2, o3] : Array Oper)[j]? = some oo → oo.op = .store ty (.tmp u0) (.const (.bool b)) → oo.dst = none → oo.guard = none → CoinW w v ty xx →
   (∀ v', CoinW w v' ty (.bool b) → K ap v') → wpOp P #[o0, o1, o2, o3] Q j K ap v := by
  intro oo j b v xx K hj hoo hdd hgg hv hK
  unfold wpOp
  simp only [hj, hwt oo _ hgg, if_true]
  refine .inl ?_
  obtain ⟨v', r1, r2⟩ := store oo b ap v xx hoo hdd hap hv
  unfold Oper.wp
  rw [r1]
  show K (ap.put oo.dst undef) v'
  rw [hdd]
  exact hK v' r2
 have K2a : ∀ (xx : Value) (v : World), CoinW w v ty xx → wpAny P .any #[o0, o1, o2, o3] Q 2 #[true, true, false, false] ap v := by
  intro xx v hv
  refine ⟨fun h => absurd h (ne_nil (j := 2) (mem_ready.2 ⟨rfl, o2, rfl, fun e me hb => by rw [ed2 e me hb]; rfl⟩)), fun j hj => ?_⟩
  obtain ⟨q0, q⟩ := rdy _ _ hj
  have hj2 : j = 2 := by
   rcases q with rfl | ⟨rfl, _⟩ | ⟨rfl, _⟩ | ⟨rfl, _, q⟩ <;> first | rfl | (cases q; done) | (cases q0; done)
  subst hj2
  exact st o2 2 b2 v xx _ rfl s2 d2 g2 hv fun v' h => K3 b2 v' h
 have K2b : ∀ (xx : Value) (v : World), CoinW w v ty xx → wpAny P .any #[o0, o1, o2, o3] Q 2 #[true, false, true, false] ap v := by
  intro xx v hv
  refine ⟨fun h => absurd h (ne_nil (j := 1) (mem_ready.2 ⟨rfl, o1, rfl, fun e me hb => by rw [ed1 e me hb]; rfl⟩)), fun j hj => ?_⟩
  obtain ⟨q0, q⟩ := rdy _ _ hj
  have hj2 : j = 1 := by
   rcases q with rfl | ⟨rfl, _⟩ | ⟨rfl, _⟩ | ⟨rfl, q, _⟩ <;> first | rfl | (cases q; done) | (cases q0; done)
  subst hj2
  exact st o1 1 b1 v xx _ rfl s1 d1 g1 hv fun v' h => K3 b1 v' h
 have K1 : ∀ (xx : Value) (v : World), CoinW w v ty xx → wpAny P .any #[o0, o1, o2, o3] Q 3 #[true, false, false, false] ap v := by
  intro xx v hv
  refine ⟨fun h => absurd h (ne_nil (j := 1) (mem_ready.2 ⟨rfl, o1, rfl, fun e me hb => by rw [ed1 e me hb]; rfl⟩)), fun j hj => ?_⟩
  obtain ⟨q0, q⟩ := rdy _ _ hj
  rcases q with rfl | ⟨rfl, _⟩ | ⟨rfl, _⟩ | ⟨rfl, q, _⟩
  ·cases q0
  ·exact st o1 1 b1 v xx _ rfl s1 d1 g1 hv fun v' h => K2a _ v' h
  ·exact st o2 2 b2 v xx _ rfl s2 d2 g2 hv fun v' h => K2b _ v' h
  ·cases q
 refine wp_region_any hm ?_
 show wpAny P .any #[o0, o1, o2, o3] Q 4 #[false, false, false, false] a w.drew
 refine ⟨fun h => absurd h (ne_nil (j := 0) (mem_ready.2 ⟨rfl, o0, rfl, fun e me hb => (ed0 e me hb).elim⟩)), fun j hj => ?_⟩
 obtain ⟨q0, q⟩ := rdy _ _ hj
 have hj0 : j = 0 := by
  rcases q with rfl | ⟨rfl, q⟩ | ⟨rfl, q⟩ | ⟨rfl, q, _⟩ <;> first | rfl | cases q
 subst hj0
 unfold wpOp
 simp only [show (#[o0, o1, o2, o3] : Array Oper)[0]? = some o0 from rfl, hwt o0 _ hg0, if_true]
 refine .inl ?_
 unfold Oper.wp
 have hal : (execOp a.eval o0).run P w.drew = .ok (.value (.pointer (some ⟨w.heap.size, 0, none⟩))) (w.drew.alloc (.cells #[z0] ty)) := by
  simp [execOp, ho0, Instr.alloc, zeroValue, typeInfo, i1, i5, newVar, newRow, hz0]
 rw [hal]
 show wpAny P .any _ Q 3 _ (a.put o0.dst (.pointer (some ⟨w.heap.size, 0, none⟩))) _
 rw [hd0]
 exact K1 z0 _ ⟨heap_alloc_new w.drew _, fun k hk => heap_alloc_old w.drew _ k hk, by simp, rfl, rfl, rfl⟩
end
end Go.Proofs.YtabmjadcoepbeaaGreat.Ev
namespace Go.Proofs.YtabmjadcoepbeaaGreat.Ev
section
variable {P : Program} {E : Env} {K : CallT} {sz : Nat}
theorem runOps_cons (all : List Oper) (o : Oper) (l : List Oper) (tm : PT AV) (s : HS) : runOps E K sz all (o :: l) tm s = bnd (want all tm o.guard) fun b => match b with
  | true => bnd (opDo E K tm s o.op) fun p => p.2.fc fun s => putD sz tm o.dst p.1 fun tm => runOps E K sz all l tm s
  | false => putD sz tm o.dst undV fun tm => runOps E K sz all l tm s := rfl
theorem ops_ok (hE : EnvOk P E) (hK : KOk P K) (ops : Array Oper) : ∀ (l : List Oper) (n : Nat), ops.toList.drop n = l → ∀ (tm : PT AV) (s : HS) (tm' : PT AV) (s' : HS), runOps E K sz ops.toList l tm s = some (tm', s') →
  s.nx ≤ s'.nx ∧ ∀ (φ : Phi) (w : World) (a : Act) (Q : Exit → Act → World → Prop), Sim φ s.h.get w → Fresh φ s.nx s'.nx → TmOk φ sz tm a → (∀ ψ u a', TmOk ψ sz tm' a' → Stp φ s.h.get s.nx w ψ s'.h.get s'.nx u → Q .normal a' u) →
   wpOps P ops Q (List.range' n l.length) a w
 | [], n, hl, tm, s, tm', s', h => by
  cases h
  exact ⟨Nat.le_refl _, fun φ w a Q hS _ hT hQ => hQ φ w a hT (Stp.refl hS)⟩
 | o :: l, n, hl, tm, s, tm', s', h => by
  rw [runOps_cons] at h
  replace h := bnd_some h; obtain ⟨b, hb, h⟩ := h
  have ho : ops[n]? = some o := by
   have := congrArg (fun l : List Oper => l[0]?) hl
   simpa using this
  have hl' : ops.toList.drop (n + 1) = l := by
   have := congrArg List.tail hl
   simpa using this
  cases b with
  | true =>
   replace h := bnd_some h; obtain ⟨p, hp, h⟩ := h
   obtain ⟨v, s1⟩ := p
   rw [HS.fc_eq] at h
   obtain ⟨tm1, h, hd⟩ := putD_some h
   have hx := opDo_nx hK hp
   obtain ⟨hx2, ih⟩ := ops_ok hE hK ops l (n + 1) hl' tm1 s1 tm' s' h
   refine ⟨Nat.le_trans hx hx2, fun φ w a Q hS hf hT hQ => ?_⟩
   simp only [List.length_cons, List.range'_succ, wpOps, ho, want_ok hT hb, if_true]
   refine .inl (op_do hE hK hp hS (hf.left hx2) (hT.ev _) fun ψ u hv hst => ?_)
   exact ih ψ u _ Q hst.sim (hf.right hst hx) ((hT.le (hst.le (hf.left hx2))).put hd hv) fun χ u' a' hT' hst' => hQ χ u' a' hT' (hst.trans hst' hx hx2)
  | false =>
   obtain ⟨tm1, h, hd⟩ := putD_some h
   obtain ⟨hx2, ih⟩ := ops_ok hE hK ops l (n + 1) hl' tm1 s tm' s' h
   refine ⟨hx2, fun φ w a Q hS hf hT hQ => ?_⟩
   simp only [List.length_cons, List.range'_succ, wpOps, ho, want_ok hT hb, Bool.false_eq_true, if_false]
   exact ih φ w _ Q hS hf (hT.put hd (undV_ok φ)) hQ
def exOf (x : Ex) : Exit := match x with
 | .normal => .normal
 | .exit i => .exit i
 | .ret => .ret
def loopWp (P : Program) (b : Code) (Q : Exit → Act → World → Prop) (a : Act) (w : World) : Prop := ∀ (B : Frame) (k : List Item) (cs : List Frame), ∃ e a' w', Q e a' w' ∧ Arrives P (lone (B.at a (.code b :: .inLoop b :: k)) cs w) B k cs e a' w'
def Cw (P : Program) (c : Code) (Q : Exit → Act → World → Prop) (a : Act) (w : World) : Prop := match c with
 | .loop b => loopWp P b Q a w
 | c => c.wp P Q a w
theorem Cw.wp {c : Code} {Q : Exit → Act → World → Prop} {a : Act} {w : World} (h : Cw P c Q a w) : c.wp P Q a w := by
 cases c <;> try exact h
 intro B k cs
 obtain ⟨e, a', w', hq, harr⟩ := h B k cs
 exact ⟨e, a', w', hq, .of_steps (.one step_loop) harr⟩
theorem loop_round {b : Code} {Q : Exit → Act → World → Prop} {a : Act} {w : World} (h : b.wp P (Exit.then (loopWp P b Q) Q) a w) : loopWp P b Q a w := by
 intro B k cs
 obtain ⟨e, a₁, w₁, hq, harr⟩ := h B (.inLoop b :: k) cs
 cases e with
 | normal =>
  obtain ⟨e₂, a₂, w₂, hq₂, harr₂⟩ := hq B k cs
  exact ⟨e₂, a₂, w₂, hq₂, .of_steps (Steps.trans harr (.one step_inLoop)) harr₂⟩
 | exit id => exact ⟨_, a₁, w₁, hq, .pass (x := .inLoop b) rfl (fun _ _ => .inl (by simp)) harr⟩
 | goto l => exact ⟨_, a₁, w₁, hq, .pass (x := .inLoop b) rfl (fun _ _ => .inl (by simp)) harr⟩
 | ret => exact ⟨_, a₁, w₁, hq, .pass (x := .inLoop b) rfl (fun _ _ => .inl (by simp)) harr⟩
 | panic ch => exact ⟨_, a₁, w₁, hq, .pass (x := .inLoop b) rfl (fun _ _ => .inl (by simp)) harr⟩
 | outgrown => exact ⟨_, a₁, w₁, hq, .pass (x := .inLoop b) rfl (fun _ _ => .inl (by simp)) harr⟩
def CodeS (P : Program) (sz : Nat) (c : Code) (tm : PT AV) (s : HS) (x : Ex) (tm' : PT AV) (s' : HS) : Prop := s.nx ≤ s'.nx ∧ ∀ (φ : Phi) (w : World) (a : Act) (Q : Exit → Act → World → Prop), Sim φ s.h.get w → Fresh φ s.nx s'.nx → TmOk φ sz tm a →
 (∀ ψ u a', TmOk ψ sz tm' a' → Stp φ s.h.get s.nx w ψ s'.h.get s'.nx u → Q (exOf x) a' u) → Cw P c Q a w
def COk (P : Program) (C : CodeT) : Prop := ∀ sz c tm s x tm' s', C sz c tm s = some (x, tm', s') → CodeS P sz c tm s x tm' s'
def DOk (P : Program) (E : Env) (K : CallT) : Prop := ∀ (sz id : Nat) (ops : Array Oper) (tm : PT AV) (s : HS) (tm' : PT AV) (s' : HS), drawOps E K sz ops.toList tm s = some (tm', s') → CodeS P sz (.region id ops true) tm s .normal tm' s'
theorem Sim.far {φ : Phi} {h : Hp} {w u : World} (hS : Sim φ h w) (hf : ∀ k, k < w.heap.size → u.heap[k]? = w.heap[k]?) : Sim φ h u :=
 ⟨fun i b hi => by obtain ⟨p, hp, hb⟩ := hS.ok i b hi; exact ⟨p, hp, hb.mono (Phi.le_refl φ) (hf _ hb.lt)⟩, hS.inj⟩
theorem Stp.wide {φ ψ : Phi} {h g k : Hp} {nx mx ox : Nat} {w u : World} (s : Stp φ h nx w ψ g mx u) (hk : ∀ i b, k i = some b → g i = some b) (ho : mx ≤ ox) : Stp φ h nx w ψ k ox u :=
 have s' := s.forget hk
 ⟨s'.sim, fun i hi => s'.old i (by omega), s'.size, s'.fr, s'.own, s'.os, s'.tape, s'.output⟩
theorem coinTm_some {t1 t2 : Nat} {b : Bool} {tm tm1 : PT AV} (h : coinTm sz t1 t2 b tm = some tm1) : t1 < sz ∧ t2 < sz ∧ tm1 = (tm.set t1 none).set t2 (some (.w (.c (.bool b)))) := by
 unfold coinTm at h
 split at h
 ·rename_i hc
  rw [Bool.and_eq_true] at hc
  cases h
  exact ⟨blt_lt hc.1, blt_lt hc.2, rfl⟩
 ·cases h
theorem coinOf_some {c : Code} {t : Nat × Nat} (h : coinOf E c = some t) : ∃ id ops, c = .region id ops true ∧ coinOps E ops.toList = some t := by
 cases c <;> try (cases h; done)
 rename_i id ops d
 cases d with
 | false => cases h
 | true => exact ⟨id, ops, rfl, h⟩
theorem coin_step (hE : EnvOk P E) (hm : P.follows .mixedOrders = true) {C : CodeT} (hC : COk P C) {c d : Code} {t : Nat × Nat} (hco : coinOf E c = some t) {tm tm' : PT AV} {s s' : HS} {x : Ex} (h : coinStep C sz t.1 t.2 d tm s = some (x, tm', s')) : CodeS P sz (.seq c d) tm s x tm' s' := by
 obtain ⟨id, ops, rfl, hops⟩ := coinOf_some hco
 unfold coinStep at h
 split at h <;> try (cases h; done)
 rename_i xo ca cb
 split at h <;> try (cases h; done)
 rename_i u0
 split at h <;> try (cases h; done)
 rename_i hu
 have hu' := Nat.eq_of_beq_eq_true hu
 replace h := bnd_some h; obtain ⟨tm1, htm1, h⟩ := h
 replace h := bnd_some h; obtain ⟨p, hp, h⟩ := h
 replace h := bnd_some h; obtain ⟨tm2, htm2, h⟩ := h
 replace h := bnd_some h; obtain ⟨q, hq, h⟩ := h
 obtain ⟨x1, tma, sa⟩ := p
 obtain ⟨x2, tmb, sb⟩ := q
 cases x1 <;> try (cases h; done)
 cases x2 <;> try (cases h; done)
 cases h
 obtain ⟨l1, l2, rfl⟩ := coinTm_some htm1
 obtain ⟨_, _, rfl⟩ := coinTm_some htm2
 obtain ⟨n1, ih1⟩ := hC sz ca _ s _ tma sa hp
 obtain ⟨n2, ih2⟩ := hC sz cb _ s _ tmb sb hq
 have e0 : Nat.add sa.nx (Nat.sub sb.nx sa.nx) = sa.nx + (sb.nx - sa.nx) := rfl
 refine ⟨by show s.nx ≤ Nat.add sa.nx (Nat.sub sb.nx sa.nx); rw [e0]; omega, fun φ w a Q hS hf hT hQ => wp_seq (coin_ok (t1 := t.1) (t2 := t.2) hE hm hops (fun b u g hfar hsize hos htape hout => ?_) (by rw [hT.size]; exact l1))⟩
 have st0 : Stp φ s.h.get s.nx w φ s.h.get s.nx u := ⟨hS.far hfar, fun _ _ => rfl, hsize, fun b hb _ => hfar b hb, fun b hb => .inl hb, hos, htape, hout⟩
 have hT1 : TmOk φ sz ((tm.set t.1 none).set t.2 (some (.w (.c (.bool b))))) ((a.put (some t.1) g).put (some t.2) (.bool b)) := by
  refine ⟨by simp [Act.put, hT.size], fun k v hv => ?_, hT.dfr⟩
  rcases PT.get_set hv with ⟨rfl, e⟩ | ⟨e, hv⟩
  ·cases e; exact ⟨by simp [Act.put, hT.size, l2, concV, concW, conc], okV_c trivial⟩
  ·rcases PT.get_set hv with ⟨_, e'⟩ | ⟨e', hv⟩
   ·cases e'
   ·obtain ⟨g1, g2⟩ := hT.val k v hv
    refine ⟨?_, g2⟩
    simp only [Act.put]
    rw [Array.getElem?_setIfInBounds_ne (Ne.symm e), Array.getElem?_setIfInBounds_ne (Ne.symm e')]
    exact g1
 have hev : ((a.put (some t.1) g).put (some t.2) (.bool b)).eval (.tmp u0) = .bool b := by
  rw [hu']; simp [Act.eval, Act.put, hT.size, l2]
 show (Code.cond (.tmp u0) ca cb).wp P Q _ u
 cases b with
 | true =>
  refine wp_cond_true hev (Cw.wp (ih1 φ u _ Q st0.sim (fun i h1 h2 => hf i h1 (by show i < Nat.add sa.nx (Nat.sub sb.nx sa.nx); rw [e0]; omega)) hT1 fun ψ u' a' hT' hst => hQ ψ u' a' ⟨hT'.size, fun k v hv => hT'.val k v (PT.meet_get hv).1, hT'.dfr⟩ ?_))
  exact (st0.trans hst (Nat.le_refl _) n1).wide (fun i b hb => (PT.meet_get hb).1) (by show sa.nx ≤ Nat.add sa.nx (Nat.sub sb.nx sa.nx); rw [e0]; omega)
 | false =>
  refine wp_cond_false hev (Cw.wp (ih2 φ u _ Q st0.sim (fun i h1 h2 => hf i h1 (by show i < Nat.add sa.nx (Nat.sub sb.nx sa.nx); rw [e0]; omega)) hT1 fun ψ u' a' hT' hst => hQ ψ u' a' ⟨hT'.size, fun k v hv => ?_, hT'.dfr⟩ ?_))
  ·obtain ⟨_, y, h1, h2⟩ := PT.meet_get hv
   have : v = y := of_decide_eq_true h2
   subst this
   exact hT'.val k v h1
  ·refine (st0.trans hst (Nat.le_refl _) n2).wide (fun i b hb => ?_) (by show sb.nx ≤ Nat.add sa.nx (Nat.sub sb.nx sa.nx); rw [e0]; omega)
   obtain ⟨_, y, h1, h2⟩ := PT.meet_get hb
   have : b = y := of_decide_eq_true h2
   subst this
   exact h1
theorem code_ok (hm : P.follows .mixedOrders = true) (hE : EnvOk P E) (hK : KOk P K) (hD : DOk P E K) {C : CodeT} (hC : COk P C) : COk P (codeStep E K C) := by
 intro sz c tm s x tm' s' h
 cases c <;> try (cases h; done)
 case skip => cases h; exact ⟨Nat.le_refl _, fun φ w a Q hS _ hT hQ => wp_skip (hQ φ w a hT (Stp.refl hS))⟩
 case label l => cases h; exact ⟨Nat.le_refl _, fun φ w a Q hS _ hT hQ => wp_label (hQ φ w a hT (Stp.refl hS))⟩
 case ret => cases h; exact ⟨Nat.le_refl _, fun φ w a Q hS _ hT hQ => wp_ret (hQ φ w a hT (Stp.refl hS))⟩
 case exit i => cases h; exact ⟨Nat.le_refl _, fun φ w a Q hS _ hT hQ => wp_exit (hQ φ w a hT (Stp.refl hS))⟩
 case region id ops d =>
  cases d with
  | true =>
   replace h := bnd_some h; obtain ⟨p, hp, h⟩ := h
   cases h
   exact hD sz id ops tm s _ _ hp
  | false =>
   replace h := bnd_some h; obtain ⟨p, hp, h⟩ := h
   cases h
   obtain ⟨hx, ih⟩ := ops_ok (sz := sz) hE hK ops ops.toList 0 rfl tm s p.1 p.2 hp
   refine ⟨hx, fun φ w a Q hS hf hT hQ => wp_region ?_⟩
   have := ih φ w a Q hS hf hT hQ
   rwa [Array.length_toList, ← List.range_eq_range'] at this
 case seq c d =>
  have h' : (match coinOf E c with
   | some t => coinStep C sz t.1 t.2 d tm s
   | none => bnd (C sz c tm s) fun r => match r.1 with
    | .normal => C sz d r.2.1 r.2.2
    | .exit _ => some r
    | .ret => some r) = some (x, tm', s') := h
  clear h
  have h := h'
  clear h'
  split at h
  ·rename_i t hco
   exact coin_step hE hm hC hco h
  replace h := bnd_some h; obtain ⟨r, hr, h⟩ := h
  obtain ⟨x1, tm1, s1⟩ := r
  obtain ⟨hx, ih⟩ := hC sz c tm s x1 tm1 s1 hr
  cases x1 with
  | normal =>
   obtain ⟨hx2, ih2⟩ := hC sz d tm1 s1 x tm' s' h
   exact ⟨Nat.le_trans hx hx2, fun φ w a Q hS hf hT hQ => wp_seq (Cw.wp (ih φ w a _ hS (hf.left hx2) hT fun ψ u a' hT' hst => Cw.wp (ih2 ψ u a' Q hst.sim (hf.right hst hx) hT' fun χ u' a2 hT2 hst2 => hQ χ u' a2 hT2 (hst.trans hst2 hx hx2))))⟩
  | exit i => cases h; exact ⟨hx, fun φ w a Q hS hf hT hQ => wp_seq (Cw.wp (ih φ w a _ hS hf hT hQ))⟩
  | ret => cases h; exact ⟨hx, fun φ w a Q hS hf hT hQ => wp_seq (Cw.wp (ih φ w a _ hS hf hT hQ))⟩
 case cond c b1 b2 =>
  replace h := evc_some h; obtain ⟨y, hy, h⟩ := h
  cases y <;> try (cases h; done)
  rename_i t
  cases t with
  | true =>
   obtain ⟨hx, ih⟩ := hC sz b1 tm s x tm' s' h
   exact ⟨hx, fun φ w a Q hS hf hT hQ => wp_cond_true ((hT.ev #[c]).c (by simp) hy).1 (Cw.wp (ih φ w a Q hS hf hT hQ))⟩
  | false =>
   obtain ⟨hx, ih⟩ := hC sz b2 tm s x tm' s' h
   exact ⟨hx, fun φ w a Q hS hf hT hQ => wp_cond_false ((hT.ev #[c]).c (by simp) hy).1 (Cw.wp (ih φ w a Q hS hf hT hQ))⟩
 case block id b =>
  replace h := bnd_some h; obtain ⟨r, hr, h⟩ := h
  obtain ⟨x1, tm1, s1⟩ := r
  obtain ⟨hx, ih⟩ := hC sz b tm s x1 tm1 s1 hr
  cases x1 with
  | normal => cases h; exact ⟨hx, fun φ w a Q hS hf hT hQ => wp_block (Cw.wp (ih φ w a _ hS hf hT hQ))⟩
  | ret => cases h; exact ⟨hx, fun φ w a Q hS hf hT hQ => wp_block (Cw.wp (ih φ w a _ hS hf hT hQ))⟩
  | exit j =>
   dsimp only at h
   split at h
   ·rename_i e
    have e' := Nat.eq_of_beq_eq_true e
    cases h
    exact ⟨hx, fun φ w a Q hS hf hT hQ => wp_block (Cw.wp (ih φ w a _ hS hf hT fun ψ u a' hT' hst => by
     simp only [exOf, Exit.inBlock, e', if_true]; exact hQ ψ u a' hT' hst))⟩
   ·rename_i e
    have e' := Nat.ne_of_beq_eq_false e
    cases h
    exact ⟨hx, fun φ w a Q hS hf hT hQ => wp_block (Cw.wp (ih φ w a _ hS hf hT fun ψ u a' hT' hst => by
     simp only [exOf, Exit.inBlock, e', if_false]; exact hQ ψ u a' hT' hst))⟩
 case loop b =>
  replace h := bnd_some h; obtain ⟨r, hr, h⟩ := h
  obtain ⟨x1, tm1, s1⟩ := r
  obtain ⟨hx, ih⟩ := hC sz b tm s x1 tm1 s1 hr
  cases x1 with
  | normal =>
   obtain ⟨hx2, ih2⟩ := hC sz (.loop b) tm1 s1 x tm' s' h
   exact ⟨Nat.le_trans hx hx2, fun φ w a Q hS hf hT hQ => loop_round (Cw.wp (ih φ w a _ hS (hf.left hx2) hT fun ψ u a' hT' hst => ih2 ψ u a' Q hst.sim (hf.right hst hx) hT' fun χ u' a2 hT2 hst2 => hQ χ u' a2 hT2 (hst.trans hst2 hx hx2)))⟩
  | exit i => cases h; exact ⟨hx, fun φ w a Q hS hf hT hQ => loop_round (Cw.wp (ih φ w a _ hS hf hT hQ))⟩
  | ret => cases h; exact ⟨hx, fun φ w a Q hS hf hT hQ => loop_round (Cw.wp (ih φ w a _ hS hf hT hQ))⟩
theorem tmGo_get : ∀ {args : List AV} {tm : PT AV} {n t : Nat} {v : AV}, (tmGo args tm n).get t = some v → (n ≤ t ∧ args[t - n]? = some v) ∨ tm.get t = some v
 | [], tm, n, t, v, h => .inr h
 | x :: args, tm, n, t, v, h => by
  have h' : ((PT.set tm n (some x)).fc fun tm => tmGo args tm (n + 1)).get t = some v := h
  rw [PT.fc_eq] at h'
  rcases tmGo_get h' with ⟨h1, h2⟩ | h1
  ·exact .inl ⟨by omega, by rw [show t - n = (t - (n + 1)) + 1 by omega]; simpa using h2⟩
  ·rcases PT.get_set h1 with ⟨rfl, e⟩ | ⟨_, h2⟩
   ·cases e; exact .inl ⟨Nat.le_refl _, by simp⟩
   ·exact .inr h2
theorem tm_start {φ : Phi} {args : List AV} {n : Nat} (hl : args.length ≤ n) (hok : ∀ x ∈ args, okV φ x) :
  TmOk φ n (tmOf args) { tmps := (args.map (concV φ)).toArray ++ Array.replicate (n - (args.map (concV φ)).toArray.size) undef, defers := [] } := by
 refine ⟨by simp; omega, fun t v h => ?_, rfl⟩
 rcases tmGo_get h with ⟨_, h2⟩ | h2
 ·rw [Nat.sub_zero] at h2
  have hlt := (List.getElem?_eq_some_iff.1 h2).1
  refine ⟨?_, hok v (List.mem_of_getElem? h2)⟩
  rw [Array.getElem?_append_left (by simpa using hlt)]
  simp [h2]
 ·cases h2
def resF (tmps : Array Value) (r : ResultVar) : Sem Value := match r with
 | .tmp t => pure (tmps.getD t undef)
 | .cell c t => do loadVar t (← asAddr (tmps.getD c undef))
theorem res_ok (hE : EnvOk P E) {φ : Phi} {tm : PT AV} {h : PT AB} {a : Act} {w : World} (hT : TmOk φ sz tm a) (hS : Sim φ h.get w) : ∀ {l : List ResultVar} {ws : List AW}, resList E tm h l = some ws →
  (l.mapM (resF a.tmps)).run P w = .ok (ws.map (concW φ)) w ∧ ∀ x ∈ ws, okW φ x
 | [], ws, hr => by cases hr; exact ⟨rfl, fun x m => by cases m⟩
 | r :: l, ws, hr => by
  have h' : (bnd (resOf E tm h r) fun w => bnd (resList E tm h l) fun ws => some (w :: ws)) = some ws := hr
  replace h' := bnd_some h'; obtain ⟨x, hx, h'⟩ := h'
  replace h' := bnd_some h'; obtain ⟨xs, hxs, h'⟩ := h'
  cases h'
  obtain ⟨e1, e2⟩ := res_ok hE hT hS hxs
  have key : ((resF a.tmps r).run P w = .ok (concW φ x) w) ∧ okW φ x := by
   cases r with
   | tmp t =>
    replace hx := bnd_some hx; obtain ⟨v, hv, hx⟩ := hx
    obtain ⟨g1, g2⟩ := hT.val t v hv
    cases v with
    | tup vs => cases hx
    | w y => cases hx; exact ⟨by simp [resF, g1, concV], g2⟩
   | cell c t =>
    replace hx := bnd_some hx; obtain ⟨v, hv, hx⟩ := hx
    obtain ⟨g1, g2⟩ := hT.val c v hv
    cases v with
    | tup vs => cases hx
    | w y =>
     cases y with
     | agg cs => cases hx
     | c y =>
      cases y <;> try (cases hx; done)
      rename_i i off
      have hx' : (bnd (h.get i) fun b => bnd (cellsOf b) fun cs => bnd (E.ti.get t) fun ti => TI.part ti.size ti.agg cs off) = some x := hx
      replace hx' := bnd_some hx'; obtain ⟨b, hb, hx'⟩ := hx'
      replace hx' := bnd_some hx'; obtain ⟨cs, hcs, hx'⟩ := hx'
      replace hx' := bnd_some hx'; obtain ⟨ti, hti, hx'⟩ := hx'
      obtain ⟨e, rfl⟩ := cells_row hcs
      obtain ⟨p, hp, hbk⟩ := hS.ok i _ hb
      obtain ⟨tf, u, _, _, h1, h2, h3, h4, _⟩ := (hE.ti t ti hti).ok
      refine ⟨?_, part_ok hx' (row_ok hbk)⟩
      have e5 : a.tmps.getD c undef = .pointer (some ⟨p.blk, p.base + off, none⟩) := by simp [g1, concV, concW, conc, hp]
      simp only [resF, e5, asAddr, Sem.run_bind, Sem.run_pure, Result.andThen_ok, r_loadVar (P := P) hbk hx' h1 h3 h2 h4]
  refine ⟨?_, fun y m => ?_⟩
  ·rw [List.mapM_cons]
   simp only [Sem.run_bind, key.1, Result.andThen_ok, e1, Sem.run_pure, List.map_cons]
  ·rcases List.mem_cons.1 m with rfl | m
   ·exact key.2
   ·exact e2 y m
def HookOk (P : Program) (E : Env) : Prop := ∀ f args s v s', E.hook f args s = some (v, s') → CallS P f args s v s'
theorem call_ok (hE : EnvOk P E) (hH : HookOk P E) {C : CodeT} (hC : COk P C) : KOk P (callStep E C) := by
 intro f args s v s' h
 unfold callStep at h
 split at h
 ·rename_i u hu
  cases h
  exact hH f args s v s' hu
 ·replace h := bnd_some h; obtain ⟨fn, hfn, h⟩ := h
  replace h := bnd_some h; obtain ⟨body, hbody, h⟩ := h
  replace h := bnd_some h; obtain ⟨r, hr, h⟩ := h
  obtain ⟨x, tm1, s1⟩ := r
  split at hr
  ·rename_i hle
   have hle' := Nat.le_of_ble_eq_true hle
   obtain ⟨hx, ih⟩ := hC fn.ntmps body (tmOf args) s x tm1 s1 hr
   obtain ⟨hf1, hf2⟩ := hE.fn f fn hfn
   have fin : (x = .normal ∨ x = .ret) → (bnd (resList E tm1 s1.h fn.results.toList) fun l => some (resV l, s1)) = some (v, s') → CallS P f args s v s' := by
    intro hxx h
    replace h := bnd_some h; obtain ⟨l, hl, h⟩ := h
    cases h
    refine ⟨hx, fun φ w hS hf hok => .inr ⟨?_, ?_⟩⟩
    ·have hf3 : ¬ fn.name = "runtime.NumGoroutine" := by simpa using hf2
     simp [callFunc, hf1, hbody, hf3]
    ·refine calls_of_wp hf1 hbody (Cw.wp (ih φ w _ _ hS hf (tm_start hle' hok) fun ψ u a' hT' hst => ?_))
     obtain ⟨e1, e2⟩ := res_ok hE hT' hst.sim hl
     have hres : (results fn a'.tmps).run P u = .ok (concV ψ (resV l)) u := by
      have e3 : results fn a'.tmps = (fn.results.mapM (resF a'.tmps)) >>= fun vs => pure (if h : vs.size = 1 then vs[0] else .tuple vs) := by
       unfold results
       have e4 : (fun x : ResultVar => (match x with | .tmp t => pure (a'.tmps.getD t undef) | .cell c t => do loadVar t (← asAddr (a'.tmps.getD c undef)) : Sem Value)) = resF a'.tmps := by funext x; cases x <;> rfl
       rw [← e4]
       rfl
      rw [e3, Array.mapM_eq_mapM_toList]
      simp only [Sem.run_bind, Sem.run_map, e1, Result.andThen_ok, Sem.run_pure]
      congr 1
      cases l with
      | nil => rfl
      | cons y l =>
       cases l with
       | nil => rfl
       | cons z l => simp [resV, concV]
     have hrok : okV ψ (resV l) := by
      cases l with
      | nil => exact fun x m => by cases m
      | cons y l =>
       cases l with
       | nil => exact e2 y (by simp)
       | cons z l => exact e2
     rcases hxx with rfl | rfl <;> exact ⟨hT'.dfr, _, hres, ψ, rfl, hrok, hst⟩
   cases x with
   | exit i => cases h
   | normal => exact fin (.inl rfl) h
   | ret => exact fin (.inr rfl) h
  ·cases hr
theorem run_ok (hm : P.follows .mixedOrders = true) (hE : EnvOk P E) (hH : HookOk P E) (hD : ∀ K, KOk P K → DOk P E K) : ∀ n, KOk P (run E n).1 ∧ COk P (run E n).2
 | 0 => ⟨fun f args s v s' h => (by cases h), fun sz c tm s x tm' s' h => (by cases h)⟩
 | n + 1 => by
  obtain ⟨h1, h2⟩ := run_ok hm hE hH hD n
  exact ⟨call_ok hE hH h2, code_ok hm hE h1 (hD _ h1) h2⟩
end
end Go.Proofs.YtabmjadcoepbeaaGreat.Ev
