/- An abstract interpreter of the model's code, proved right against the model: part 1. By an AI agent. -/
import Derived.WalkKit
import Derived.Orders
import Derived.Laws.FloatArith
import Derived.Laws.AppendOwn
import Derived.Laws.CopyRow
import Derived.Deep.AppendSrc
import Derived.Laws.StructEq
set_option linter.unusedVariables false
namespace Go.Shal
inductive Tr (α : Type) where
 | mk (val : α) (sub : List (Tr α))
def Tr.val {α : Type} : Tr α → α
 | ⟨x, _⟩ => x
def Tr.sub {α : Type} : Tr α → List (Tr α)
 | ⟨_, l⟩ => l
inductive Kd where
 | int (k : IntKind) | bool | flt | str | slice (k : Kd) | unit | pair (a b : Kd) | arr (n : Nat) (k : Kd) | np | nsl | tre (k : Kd) | rp (k : Kd)
 deriving DecidableEq
@[reducible] def Kd.T : Kd → Type
 | .int _ => Int
 | .bool => Bool
 | .flt => Nat
 | .str => List Int
 | .slice k => List k.T
 | .unit => Unit
 | .pair a b => a.T × b.T
 | .arr _ k => List k.T
 | .np => Unit
 | .nsl => Unit
 | .tre k => Tr k.T
 | .rp k => k.T
def Kd.size : Kd → Nat
 | .int _ | .bool | .flt | .str | .slice _ | .np | .nsl | .rp _ => 1
 | .tre k => k.size + 1
 | .unit => 0
 | .pair a b => a.size + b.size
 | .arr n k => n * k.size
def Kd.agg : Kd → Bool
 | .unit | .pair _ _ | .arr _ _ | .tre _ => true
 | _ => false
def Kd.isPair : Kd → Bool
 | .pair _ _ | .tre _ => true
 | _ => false
def Kd.zero : (k : Kd) → k.T
 | .int _ => (0 : Int)
 | .bool => false
 | .flt => (0 : Nat)
 | .str => ([] : List Int)
 | .slice k => ([] : List k.T)
 | .unit => ()
 | .pair a b => (a.zero, b.zero)
 | .arr n k => List.replicate n k.zero
 | .np => ()
 | .nsl => ()
 | .tre k => ⟨k.zero, []⟩
 | .rp k => k.zero
@[reducible] def Kd.struct : List Kd → Kd
 | [] => .unit
 | k :: ks => .pair k (Kd.struct ks)
inductive SV where
 | undef
 | cst (v : Value)
 | dat (k : Kd) (x : k.T)
 | own (tok : Nat) (k : Kd) (xs : List k.T)
 | fresh (k : Kd) (xs : List k.T)
 | ptr (b off : Nat)
 | rptr (k : Kd) (x : k.T)
 | tup (l : List SV)
 | agg (cs : List SV)
 | func (f : FuncId) (caps : List SV)
 | sl (b : Nat) (k : Kd) (n : Nat)
 | eptr (b : Nat) (k : Kd) (n : Nat) (i : Int)
 | raw (tok : Nat) (k : Kd) (n : Nat)
 | mp (b : Nat)
 | rm (b : Nat) (k : Kd) (n c : Nat)
 | jk (k : Kd) (n : Nat)
 | jp (k : Kd)
 | mo (k : Kd) (xs : List k.T)
 | mq (k : Kd) (i : Int) (path : List Nat)
inductive Blk where
 | cells (cs : List SV)
 | arr (k : Kd) (xs : List k.T)
 | mp (k : IntKind) (es : List (Int × Bool))
structure St where
 slots : List SV
 heap : List Blk
structure TyInfo where
 kd : Kd
 bytes : Nat
structure Cut where
 keep : List Nat
 shut : List (Nat × Kd)
 retag : List (Nat × Nat × Kd)
 heap : Nat
 dead : List Nat
 cshut : List (Nat × Nat × Kd)
 cretag : List (Nat × Nat × Nat × Kd)
 swaps : List Nat := []
structure Norm where
 into : Cut
 outs : List (Nat × Cut)
inductive Ob where
 | nil | dat (k : Kd) (r : Ob) | own (k : Kd) (r : Ob) | ref (o : Ob) (r : Ob)
 | mo (k : Kd) (r : Ob)
@[reducible] def Ob.T : Ob → Type
 | .nil => Unit
 | .dat k r => k.T × r.T
 | .own k r => List k.T × r.T
 | .ref o r => o.T × r.T
 | .mo k r => List k.T × r.T
def Ob.hasOwn : Ob → Bool
 | .nil => false
 | .dat _ r => r.hasOwn
 | .own _ _ => true
 | .ref o r => o.hasOwn || r.hasOwn
 | .mo _ _ => true
def Ob.hasMo : Ob → Bool
 | .nil => false
 | .dat _ r => r.hasMo
 | .own _ r => r.hasMo
 | .ref o r => o.hasMo || r.hasMo
 | .mo _ _ => true
inductive Pk where
 | dat (k : Kd) | own (k : Kd) | obj (o : Ob) | nil | fn (g : Nat)
 | room (k : Kd)
@[reducible] def Pk.T : Pk → Type
 | .dat k => k.T
 | .own k => List k.T
 | .obj o => o.T
 | .nil => Unit
 | .fn _ => Unit
 | .room k => List k.T × Nat × Nat
@[reducible] def PT : List Pk → Type
 | [] => Unit
 | k :: ks => k.T × PT ks
inductive Jc where
 | dat (k : Kd) | jk (k : Kd)
@[reducible] def Jc.T : Jc → Type
 | .dat k => k.T
 | .jk _ => Nat
@[reducible] def JT : List Jc → Type
 | [] => Unit
 | c :: l => c.T × JT l
inductive Rk where
 | dat (k : Kd) | own (k : Kd) | ref (o : Ob)
 | rin (j : Nat) (k : Kd) | row (k : Kd)
 | jk (k : Kd)
 | js (l : List Jc)
@[reducible] def Rk.T : Rk → Type
 | .dat k => k.T
 | .own k => List k.T
 | .ref o => Option o.T
 | .rin _ _ => Nat × Nat
 | .jk _ => Nat
 | .js l => JT l
 | .row k => List k.T × Nat × Nat
@[reducible] def RT : List Rk → Type
 | [] => Unit
 | k :: ks => k.T × RT ks
@[reducible] def BT : List Pk → Type
 | [] => Unit
 | .obj o :: r => o.T × BT r
 | .dat _ :: r => BT r
 | .own _ :: r => BT r
 | .nil :: r => BT r
 | .fn _ :: r => BT r
 | .room k :: r => List k.T × BT r
structure OCon where
 ps : List Pk
 rs : List Rk
 f : Nat → PT ps → Option (RT rs × BT ps)
structure Con where
 ps : List Kd
 rs : List Kd
 f : Nat → (Kd.struct ps).T → Option (Kd.struct rs).T
def look {α : Type} : List (Nat × α) → Nat → Option α
 | [], _ => none
 | (i, x) :: r, j => cond (Nat.beq i j) (some x) (look r j)
structure GV where
 k : Kd
 x : k.T
abbrev ZhW := List (Nat × GV)
structure Env where
 tys : List (Nat × TyInfo)
 elems : List (Nat × Nat)
 ptrs : List (Nat × Nat)
 cons : List (Nat × Con)
 objs : List (Nat × List OCon)
 loops : List (Nat × Norm)
 cuts : List (Nat × Norm)
 globs : ZhW
 base : Nat
 muts : List Nat := []
 raws : List Nat := []
 tails : List Nat := []
 twos : List (Nat × Nat × Nat × Nat × List Nat) := []
 parts : Bool := false
 shuts : List Nat := []
 maps : List (Nat × IntKind) := []
 lays : List (Nat × Kd) := []
 rooms : List Nat := []
 firsts : List (Nat × Nat) := []
 grows : Bool := false
def ZbD {a b : Kd} (x : a.T) : Option b.T :=
 match decEq a b with
 | isTrue h => some (h ▸ x)
 | isFalse _ => none
def bytesOf (s : ByteArray) : List Int := s.data.toList.map fun b => (b.toNat : Int)
def cInt (k : IntKind) : List Value → Option (Int × List Value)
 | .int k' n :: r => match decide (k = k') && (decide (k.min ≤ n) && decide (n ≤ k.max)) with
  | true => some (n, r)
  | false => none
 | _ => none
def ZoQ : List Value → Option (Bool × List Value)
 | .bool b :: r => some (b, r)
 | _ => none
def cFlt : List Value → Option (Nat × List Value)
 | .float .f64 n :: r => some (n, r)
 | _ => none
def cStr : List Value → Option (List Int × List Value)
 | .string s :: r => match decide (s.size ≤ maxLen) with
  | true => some (bytesOf s, r)
  | false => none
 | _ => none
def cNil (α : Type) : List Value → Option (List α × List Value)
 | .slice none 0 0 :: r => some ([], r)
 | _ => none
def cNp : List Value → Option (Unit × List Value)
 | .pointer none :: r => some ((), r)
 | _ => none
def cNsl : List Value → Option (Unit × List Value)
 | .slice none 0 0 :: r => some ((), r)
 | _ => none
def Zls {α β : Type} (f : List β → Option (α × List β)) : Nat → List β → Option (List α × List β)
 | 0, r => some ([], r)
 | n + 1, r => (f r).bind fun x => (Zls f n x.2).bind fun y => some (x.1 :: y.1, y.2)
def Kd.ofCells : (k : Kd) → List Value → Option (k.T × List Value)
 | .int k, r => cInt k r
 | .bool, r => ZoQ r
 | .flt, r => cFlt r
 | .str, r => cStr r
 | .slice k, r => cNil k.T r
 | .unit, r => some ((), r)
 | .pair a b, r => (a.ofCells r).bind fun x => (b.ofCells x.2).bind fun y => some ((x.1, y.1), y.2)
 | .arr n k, r => Zls k.ofCells n r
 | .np, r => cNp r
 | .nsl, r => cNsl r
 | .rp _, _ => none
 | .tre k, r => (k.ofCells r).bind fun x => (cNil (Tr k.T) x.2).bind fun y => some (⟨x.1, y.1⟩, y.2)
def only {α : Type} {β : Type} : Option (α × List β) → Option α
 | some (x, []) => some x
 | _ => none
def Kd.ofVal (k : Kd) (v : Value) : Option k.T :=
 match k.agg with
 | true => match v with
  | .agg cs => only (k.ofCells cs.toList)
  | _ => none
 | false => only (k.ofCells [v])
def Kd.split : (k : Kd) → k.T → List SV
 | .unit, _ => []
 | .pair a b, (x, y) => a.split x ++ b.split y
 | .arr n k, xs => (List.range n).flatMap fun i => k.split (xs.getD i k.zero)
 | .int k, x => [.dat (.int k) x]
 | .bool, x => [.dat .bool x]
 | .flt, x => [.dat .flt x]
 | .str, x => [.dat .str x]
 | .slice k, x => [.dat (.slice k) x]
 | .np, _ => [.cst (.pointer none)]
 | .nsl, _ => [.cst (.slice none 0 0)]
 | .rp k, x => [.dat (.rp k) x]
 | .tre k, x => k.split x.val ++ [.dat (.slice (.tre k)) x.sub]
def Kd.zsplit : Kd → List SV
 | .unit => []
 | .pair a b => a.zsplit ++ b.zsplit
 | .arr n k => (List.range n).flatMap fun _ => k.zsplit
 | .int k => [.dat (.int k) (0 : Int)]
 | .bool => [.dat .bool false]
 | .flt => [.dat .flt (0 : Nat)]
 | .str => [.dat .str ([] : List Int)]
 | .slice _ => [.cst (.slice none 0 0)]
 | .np => [.cst (.pointer none)]
 | .nsl => [.cst (.slice none 0 0)]
 | .rp _ => []
 | .tre k => k.zsplit ++ [.cst (.slice none 0 0)]
def SV.zeroOf (k : Kd) : SV :=
 match k.agg with
 | true => .agg k.zsplit
 | false => match k.zsplit with
  | [v] => v
  | _ => .undef
def SV.one (k : Kd) : SV → Option k.T
 | .dat k' x => ZbD x
 | .own _ k' xs => ZbD (a := .slice k') xs
 | .fresh k' xs => ZbD (a := .slice k') xs
 | .cst v => k.ofVal v
 | _ => none
def Zdc (k : Kd) : List SV → Option (k.T × List SV)
 | c :: r => (c.one k).bind fun x => some (x, r)
 | [] => none
def Zix : List SV → Option (Unit × List SV)
 | .cst (.pointer none) :: r => some ((), r)
 | _ => none
def ZfU : List SV → Option (Unit × List SV)
 | .cst (.slice none 0 0) :: r => some ((), r)
 | _ => none
def Kd.join : (k : Kd) → List SV → Option (k.T × List SV)
 | .unit, r => some ((), r)
 | .pair a b, r => (a.join r).bind fun x => (b.join x.2).bind fun y => some ((x.1, y.1), y.2)
 | .arr n k, r => Zls k.join n r
 | .np, r => Zix r
 | .nsl, r => ZfU r
 | .rp k, r => Zdc (.rp k) r
 | .tre k, r => (k.join r).bind fun x => (Zdc (.slice (.tre k)) x.2).bind fun y => some (⟨x.1, y.1⟩, y.2)
 | .int k, r => Zdc (.int k) r
 | .bool, r => Zdc .bool r
 | .flt, r => Zdc .flt r
 | .str, r => Zdc .str r
 | .slice k, r => Zdc (.slice k) r
def SV.as (k : Kd) : SV → Option k.T
 | .dat k' x => ZbD x
 | .own _ k' xs => ZbD (a := .slice k') xs
 | .fresh k' xs => ZbD (a := .slice k') xs
 | .cst v => k.ofVal v
 | .agg cs => match k.agg with
  | true => only (k.join cs)
  | false => none
 | _ => none
def SV.cells : SV → Option (List SV)
 | .dat k x => some (k.split x)
 | .cst v => match v.cells.toList.all (·.oneCell') with
  | true => some (v.cells.toList.map .cst)
  | false => none
 | .agg cs => some cs
 | .own t k xs => some [.own t k xs]
 | .fresh k xs => some [.fresh k xs]
 | .ptr b o => some [.ptr b o]
 | .jk k n => some [.jk k n]
 | .mo k xs => some [.mo k xs]
 | _ => none
def asInt : SV → Option (IntKind × Int)
 | .dat (.int k) x => some (k, x)
 | .cst (.int k n) => match decide (k.min ≤ n) && decide (n ≤ k.max) with
  | true => some (k, n)
  | false => none
 | _ => none
def asBool : SV → Option Bool
 | .dat .bool x => some x
 | .cst (.bool b) => some b
 | _ => none
def asFlt : SV → Option Nat
 | .dat .flt x => some x
 | .cst (.float .f64 n) => some n
 | _ => none
def asStr : SV → Option (List Int)
 | .dat .str x => some x
 | .cst (.string s) => match decide (s.size ≤ maxLen) with
  | true => some (bytesOf s)
  | false => none
 | _ => none
inductive SL where
 | mk (k : Kd) (xs : List k.T)
def asSlice : SV → Option SL
 | .dat (.slice k) xs => some ⟨k, xs⟩
 | .own _ k xs => some ⟨k, xs⟩
 | .fresh k xs => some ⟨k, xs⟩
 | _ => none
def getN : List SV → Nat → SV
 | [], _ => .undef
 | x :: _, 0 => x
 | _ :: r, n + 1 => getN r n
def setN : List SV → Nat → SV → List SV
 | [], _, _ => []
 | _ :: r, 0, v => v :: r
 | x :: r, n + 1, v => x :: setN r n v
def St.put (s : St) (d : Option Nat) (v : SV) : St :=
 match d with
 | some d => { s with slots := setN s.slots d v }
 | none => s
def St.eval (s : St) : Operand → SV
 | .tmp t => getN s.slots t
 | .const v => .cst v
 | .func f => .func f []
 | .global g => .cst (.pointer (some ⟨g, 0, none⟩))
def SV.scrub1 (t : Nat) : SV → SV
 | .own t' k xs => cond (Nat.beq t t') (.dat (.slice k) xs) (.own t' k xs)
 | v => v
def moTok : Nat := 1100000000000
def SV.scrub (t : Nat) : SV → SV
 | .raw t' k n => cond (Nat.beq t t') .undef (.raw t' k n)
 | .mo k xs => cond (Nat.beq t 1100000000000) .undef (.mo k xs)
 | .mq k i p => cond (Nat.beq t 1100000000000) .undef (.mq k i p)
 | .own t' k xs => cond (Nat.beq t t') (.dat (.slice k) xs) (.own t' k xs)
 | .tup l => .tup (l.map (SV.scrub1 t))
 | v => v
def Blk.scrub (t : Nat) : Blk → Blk
 | .cells cs => .cells (cs.map (·.scrub t))
 | b => b
def St.scrub (s : St) (t : Nat) : St := { slots := s.slots.map (·.scrub t), heap := s.heap.map (·.scrub t) }
def Env.ty (E : Env) (t : Nat) : Option TyInfo := look E.tys t
def SV.typed (i : Option TyInfo) : SV → SV
 | .cst v => match i with
  | none => .cst v
  | some i => match i.kd with
   | .slice _ => .cst v
   | .np => .cst v
   | k => match k.ofVal v with
    | some x => .dat k x
    | none => .cst v
 | v => v
inductive OpRes where
 | fail
 | go (ok : Bool) (s : St)
 | call (rs : List Kd) (m : Option (Kd.struct rs).T) (k : (Kd.struct rs).T → St)
def Env.elem (E : Env) (t : Nat) : Option (Nat × TyInfo) := (look E.elems t).bind fun e => (E.ty e).bind fun i => some (e, i)
def ZpS (op : BinOp) (k : IntKind) (x y : Int) : Option (Bool × SV) :=
 match op with
 | .add => some (true, .dat (.int k) (k.wrap (x + y)))
 | .sub => some (true, .dat (.int k) (k.wrap (x - y)))
 | .mul => some (true, .dat (.int k) (k.wrap (x * y)))
 | .quo => some (y != 0, .dat (.int k) (k.wrap (x.tdiv y)))
 | .rem => some (y != 0, .dat (.int k) (x.tmod y))
 | .and => some (true, .dat (.int k) (k.wrap (BitVec.ofInt k.bits x &&& BitVec.ofInt k.bits y).toNat))
 | .or => some (true, .dat (.int k) (k.wrap (BitVec.ofInt k.bits x ||| BitVec.ofInt k.bits y).toNat))
 | .xor => some (true, .dat (.int k) (k.wrap (BitVec.ofInt k.bits x ^^^ BitVec.ofInt k.bits y).toNat))
 | .andNot => some (true, .dat (.int k) (k.wrap (BitVec.ofInt k.bits x &&& ~~~BitVec.ofInt k.bits y).toNat))
 | .eql => some (true, .dat .bool (x == y))
 | .neq => some (true, .dat .bool (x != y))
 | .lss => some (true, .dat .bool (decide (x < y)))
 | .leq => some (true, .dat .bool (decide (x ≤ y)))
 | .gtr => some (true, .dat .bool (decide (x > y)))
 | .geq => some (true, .dat .bool (decide (x ≥ y)))
 | _ => none
def Zlf (op : BinOp) (k : IntKind) (x y : Int) : Option (Bool × SV) :=
 match op with
 | .shl => some (!decide (y < 0), .dat (.int k) (k.wrap (x * 2 ^ (min y.toNat k.bits))))
 | .shr => some (!decide (y < 0), .dat (.int k) (x.fdiv (2 ^ (min y.toNat k.bits))))
 | _ => none
def Zna : BinOp → Bool
 | .shl | .shr => true
 | _ => false
def ZpR (op : BinOp) (x y : Nat) : Option (Bool × SV) :=
 match op with
 | .eql => some (true, .dat .bool (FloatKind.f64.format.order x y == some .eq))
 | .neq => some (true, .dat .bool (FloatKind.f64.format.order x y != some .eq))
 | .lss => some (true, .dat .bool (FloatKind.f64.format.order x y == some .lt))
 | .leq => some (true, .dat .bool (FloatKind.f64.format.order x y == some .lt || FloatKind.f64.format.order x y == some .eq))
 | .gtr => some (true, .dat .bool (FloatKind.f64.format.order x y == some .gt))
 | .geq => some (true, .dat .bool (FloatKind.f64.format.order x y == some .gt || FloatKind.f64.format.order x y == some .eq))
 | _ => none
def ZmJ (op : BinOp) (a b : Bool) : Option (Bool × SV) :=
 match op with
 | .eql => some (true, .dat .bool (a == b))
 | .neq => some (true, .dat .bool (!(a == b)))
 | _ => none
def ZpU (op : BinOp) (a b : List Int) : Option (Bool × SV) :=
 match op with
 | .eql => some (true, .dat .bool (a == b))
 | .neq => some (true, .dat .bool (!(a == b)))
 | .add => some (decide (a.length + b.length ≤ 9223372036854775807), .dat .str (a ++ b))
 | _ => none
def asNil : SV → Option Bool
 | .ptr _ _ => some false
 | .rptr _ _ => some false
 | .cst (.pointer none) => some true
 | .dat (.rp _) _ => some false
 | _ => none
def ZpT (op : BinOp) (a b : Bool) : Option (Bool × SV) :=
 match op, a, b with
 | .eql, true, b => some (true, .dat .bool b)
 | .eql, a, true => some (true, .dat .bool a)
 | .neq, true, b => some (true, .dat .bool (!b))
 | .neq, a, true => some (true, .dat .bool (!a))
 | _, _, _ => none
def Env.isBool (E : Env) (t : Nat) : Bool :=
 match look E.tys t with
 | some i => match i.kd with
  | .bool => true
  | _ => false
 | none => false
def Env.isStr (E : Env) (t : Nat) : Bool :=
 match look E.tys t with
 | some i => match i.kd with
  | .str => true
  | _ => false
 | none => false
def Kd.flat : Kd → Bool
 | .pair (.int _) b => b.flat
 | .pair .bool b => b.flat
 | .unit => true
 | _ => false
def Kd.eqv : (k : Kd) → k.T → k.T → Bool
 | .pair (.int _) b, (x, r), (y, q) => (show Int from x) == (show Int from y) && b.eqv r q
 | .pair .bool b, (x, r), (y, q) => (show Bool from x) == (show Bool from y) && b.eqv r q
 | _, _, _ => true
def ZpQ (k : Kd) (op : BinOp) (a b : k.T) : Option (Bool × SV) :=
 match op with
 | .eql => some (true, .dat .bool (k.eqv a b))
 | .neq => some (true, .dat .bool (!(k.eqv a b)))
 | _ => none
def Zqh (E : Env) (op : BinOp) (t : Nat) (x y : SV) : Option (Bool × SV) :=
 match look E.tys t with
 | some i => match i.kd.flat, x, y with
  | true, .dat k a, .dat k' b => match decEq i.kd k, decEq i.kd k' with
   | isTrue h, isTrue h' => ZpQ i.kd op (h ▸ a) (h' ▸ b)
   | _, _ => none
  | _, _, _ => none
 | none => none
def ZrR (E : Env) (op : BinOp) (t : Nat) (x y : SV) : Option (Bool × SV) :=
 match asInt x, asInt y with
 | some (k, a), some (k', b) => match Zna op with
  | true => Zlf op k a b
  | false => match decEq k k' with
   | isTrue _ => ZpS op k a b
   | isFalse _ => none
 | _, _ => match asBool x, asBool y with
  | some a, some b => match E.isBool t with
   | true => ZmJ op a b
   | false => none
  | _, _ => match asStr x, asStr y with
   | some a, some b => ZpU op a b
   | _, _ => match asFlt x, asFlt y with
    | some a, some b => ZpR op a b
    | _, _ => match asNil x, asNil y with
     | some a, some b => match look E.ptrs t with
      | some _ => ZpT op a b
      | none => none
     | _, _ => Zqh E op t x y
def evUn (op : UnOp) (x : SV) : Option SV :=
 match op with
 | .not => (asBool x).map fun b => .dat .bool (!b)
 | .neg => (asInt x).map fun (k, n) => .dat (.int k) (k.wrap (0 - n))
 | .xor => (asInt x).map fun (k, n) => .dat (.int k) (k.wrap (BitVec.ofInt k.bits (if k.signed then -1 else k.max) ^^^ BitVec.ofInt k.bits n).toNat)
 | .plus => none
def Kd.fieldAt : Kd → Nat → Option (Nat × Kd)
 | .pair a _, 0 => some (0, a)
 | .pair a b, n + 1 => (b.fieldAt n).map fun (o, k) => (a.size + o, k)
 | .tre k, 0 => some (0, k)
 | .tre k, 1 => some (k.size + 0, .slice (.tre k))
 | _, _ => none
structure Lens (k : Kd) where
 o : Nat
 f : Kd
 u : f.T → k.T → k.T
def Kd.lens : (k : Kd) → List Nat → Option (Lens k)
 | .pair a b, p => match p with
  | [] => some ⟨0, .pair a b, fun y _ => y⟩
  | j :: r => match j with
   | 0 => (a.lens r).map fun l => ⟨l.o, l.f, fun y e => (l.u y e.1, e.2)⟩
   | j + 1 => (b.lens (j :: r)).map fun l => ⟨a.size + l.o, l.f, fun y e => (e.1, l.u y e.2)⟩
 | k, p => match p with
  | [] => some ⟨0, k, fun y _ => y⟩
  | _ :: _ => none
def modL {α : Type} (l : List α) (i : Int) (f : α → α) : List α := l.modify i.toNat f
def Kd.field : (k : Kd) → k.T → Nat → Option SV
 | .pair a _, (x, _), 0 => some (.dat a x)
 | .pair _ b, (_, y), n + 1 => b.field y n
 | .tre k, x, 0 => some (.dat k x.val)
 | .tre k, x, 1 => some (.dat (.slice (.tre k)) x.sub)
 | _, _, _ => none
def Kd.fieldPtr : (k : Kd) → k.T → Nat → Option SV
 | .pair a _, (x, _), 0 => match a.size with
  | 0 => none
  | _ + 1 => some (.rptr a x)
 | .pair _ b, (_, y), n + 1 => b.fieldPtr y n
 | .tre k, x, 0 => match k.size with
  | 0 => none
  | _ + 1 => some (.rptr k x.val)
 | .tre k, x, 1 => some (.rptr (.slice (.tre k)) x.sub)
 | _, _, _ => none
def Zrv : Nat → List SV → Option (List SV)
 | 0, _ => some []
 | _ + 1, [] => none
 | n + 1, x :: r => (Zrv n r).map (x :: ·)
def Zlx : Nat → List SV → List SV
 | 0, l => l
 | _ + 1, [] => []
 | n + 1, _ :: r => Zlx n r
def Zjs : List SV → Nat → List SV → List SV
 | l, _, [] => l
 | l, o, v :: vs => Zjs (setN l o v) (o + 1) vs
def getB : List Blk → Nat → Option Blk
 | [], _ => none
 | x :: _, 0 => some x
 | _ :: r, n + 1 => getB r n
def setB : List Blk → Nat → Blk → List Blk
 | [], _, _ => []
 | _ :: r, 0, v => v :: r
 | x :: r, n + 1, v => x :: setB r n v
def SV.shut : SV → SV
 | .own _ k xs => .dat (.slice k) xs
 | .fresh k xs => .dat (.slice k) xs
 | .mo _ _ => .undef
 | v => v
def ZkJ : List SV → Bool
 | [] => true
 | .undef :: _ => false
 | .mo _ _ :: _ => false
 | _ :: r => ZkJ r
def ZsR : List SV → Bool
 | [] => false
 | .cst (.slice none 0 0) :: _ => true
 | _ :: r => ZsR r
def pack (k : Kd) (cs : List SV) : SV :=
 match k.agg with
 | true => match k.join cs with
  | some (x, []) => .dat k x
  | _ => match ZkJ cs with
   | true => .agg (cs.map SV.shut)
   | false => .undef
 | false => match cs with
  | [c] => c
  | _ => .undef
def packZ (k : Kd) (cs : List SV) : SV :=
 match ZsR cs && ZkJ cs with
 | true => match k.agg with
  | true => .agg (cs.map SV.shut)
  | false => pack k cs
 | false => pack k cs
def Zhd (E : Env) (s : St) (t : Nat) (a : SV) : Option SV :=
 match a with
 | .ptr b o => match getB s.heap b, E.ty t with
  | some (.cells cs), some i => (Zrv i.kd.size (Zlx o cs)).map fun l => cond E.parts (packZ i.kd l) (pack i.kd l)
  | _, _ => none
 | .rptr k x => match E.ty t with
  | some i => match decEq k i.kd with
   | isTrue _ => some (.dat k x)
   | isFalse _ => none
  | none => none
 | _ => none
def Zgt (k : Kd) (n : Nat) : Option Blk → Option (Bool × List k.T)
 | some (.arr k' xs) => (ZbD (a := .slice k') (b := .slice k) xs).map fun xs => (Nat.beq xs.length n, xs)
 | _ => none
def ZgK (E : Env) (s : St) (t : Nat) (a : SV) : Option (Bool × SV) :=
 match E.ty t with
 | none => none
 | some it => match a with
  | .eptr b k n i => match Zgt k n (getB s.heap b) with
   | some (ok, xs) => match decEq it.kd k with
    | isTrue _ => some (ok, .dat k (xs.getD i.toNat k.zero))
    | isFalse _ => none
   | none => none
  | .ptr b 0 => match it.kd with
   | .arr n k => match Zgt k n (getB s.heap b) with
    | some (ok, xs) => some (ok, .dat (.arr n k) xs)
    | none => none
   | _ => none
  | _ => none
def Zdk (E : Env) (s : St) (t : Nat) (a : SV) : Option (Bool × SV) :=
 match Zhd E s t a with
 | some v => some (true, v)
 | none => ZgK E s t a
def SV.modMo (k : Kd) (i : Int) (u : k.T → k.T) : SV → SV
 | .mo k' xs => match decEq k' k with
  | isTrue h => .mo k' (modL xs i (h ▸ u))
  | isFalse _ => .undef
 | v => v
def Blk.modMo (k : Kd) (i : Int) (u : k.T → k.T) : Blk → Blk
 | .cells cs => .cells (cs.map (SV.modMo k i u))
 | b => b
def Zea (E : Env) (s : St) (t : Nat) (a v : SV) : Option St :=
 match a with
 | .mq k i p => match E.grows, E.ty t, k.lens p with
  | true, some it, some l => match decEq it.kd l.f, v.as l.f with
   | isTrue _, some y => some { slots := s.slots.map (SV.modMo k i (l.u y)), heap := s.heap.map (Blk.modMo k i (l.u y)) }
   | _, _ => none
  | _, _, _ => none
 | .ptr b o => match getB s.heap b, E.ty t, v.cells with
  | some (.cells cs), some i, some vs =>
   match Nat.beq vs.length i.kd.size && Nat.ble (o + vs.length) cs.length with
   | true => some { s with heap := setB s.heap b (.cells (Zjs cs o vs)) }
   | false => none
  | _, _, _ => none
 | _ => none
def Zig (s : St) (d : Option Nat) (v : SV) : Option St :=
 v.cells.map fun cs => { s with heap := s.heap ++ [Blk.cells cs] }.put d (.ptr s.heap.length 0)
def tokC (b i : Nat) : Nat := 1000 + 50 * b + i
def Ob.put : (o : Ob) → o.T → Nat → Nat → Nat → List SV × List Blk
 | .nil, _, _, _, _ => ([], [])
 | .dat k r, x, self, pos, nx => (k.split x.1 ++ (r.put x.2 self (pos + k.size) nx).1, (r.put x.2 self (pos + k.size) nx).2)
 | .own k r, x, self, pos, nx => (.own (tokC self pos) k x.1 :: (r.put x.2 self (pos + 1) nx).1, (r.put x.2 self (pos + 1) nx).2)
 | .mo k r, x, self, pos, nx => (.mo k x.1 :: (r.put x.2 self (pos + 1) nx).1, (r.put x.2 self (pos + 1) nx).2)
 | .ref o r, x, self, pos, nx => (.ptr nx 0 :: (r.put x.2 self (pos + 1) (nx + (1 + (o.put x.1 nx 0 (nx + 1)).2.length))).1, (.cells (o.put x.1 nx 0 (nx + 1)).1 :: (o.put x.1 nx 0 (nx + 1)).2) ++ (r.put x.2 self (pos + 1) (nx + (1 + (o.put x.1 nx 0 (nx + 1)).2.length))).2)
def Ob.get : (o : Ob) → List Blk → List SV → Nat → Nat → Option (o.T × List Nat)
 | .nil, _, cs, _, _ => match cs with
  | [] => some ((), [])
  | _ => none
 | .dat k r, h, cs, self, pos => (k.join cs).bind fun x => (r.get h x.2 self (pos + k.size)).map fun y => ((x.1, y.1), y.2)
 | .own k r, h, cs, self, pos => match cs with
  | .own t k' xs :: cs => match Nat.beq t (tokC self pos) with
   | true => (ZbD (a := .slice k') (b := .slice k) xs).bind fun xs => (r.get h cs self (pos + 1)).map fun y => ((xs, y.1), y.2)
   | false => none
  | _ => none
 | .mo k r, h, cs, self, pos => match cs with
  | .mo k' xs :: cs => (ZbD (a := .slice k') (b := .slice k) xs).bind fun xs => (r.get h cs self (pos + 1)).map fun y => ((xs, y.1), y.2)
  | .cst (.slice none 0 0) :: cs => (r.get h cs self (pos + 1)).map fun y => (([], y.1), y.2)
  | _ => none
 | .ref o r, h, cs, self, pos => match cs with
  | .ptr b 0 :: cs => match getB h b with
   | some (.cells cs') => match Nat.ble cs'.length 50 with
    | true => (o.get h cs' b 0).bind fun x => (r.get h cs self (pos + 1)).map fun y => ((x.1, y.1), (b :: x.2) ++ y.2)
    | false => none
   | _ => none
  | _ => none
def SV.scrubQ (P : Nat → Bool) : SV → SV
 | .own t k xs => cond (P t) (.dat (.slice k) xs) (.own t k xs)
 | v => v
def SV.scrubP (P : Nat → Bool) : SV → SV
 | .raw t k n => cond (P t) .undef (.raw t k n)
 | .mo k xs => cond (P 1100000000000) .undef (.mo k xs)
 | .mq k i p => cond (P 1100000000000) .undef (.mq k i p)
 | .own t k xs => cond (P t) (.dat (.slice k) xs) (.own t k xs)
 | .tup l => .tup (l.map (SV.scrubQ P))
 | v => v
def Blk.scrubP (P : Nat → Bool) : Blk → Blk
 | .cells cs => .cells (cs.map (·.scrubP P))
 | b => b
def St.scrubP (s : St) (P : Nat → Bool) : St := { slots := s.slots.map (·.scrubP P), heap := s.heap.map (·.scrubP P) }
def tokP (j : Nat) : Nat := 1099511627776 + j
def tokR (j : Nat) : Nat := 2199023255552 + j
def tokD (d j : Nat) : Nat := 4398046511104 + 100 * d + j
def Ob.owns : Ob → List Blk → List SV → Nat → Nat → List (Nat × Nat × Kd)
 | .nil, _, _, _, _ => []
 | .dat k r, h, cs, self, pos => r.owns h (Zlx k.size cs) self (pos + k.size)
 | .own k r, h, cs, self, pos => (self, pos, k) :: r.owns h (Zlx 1 cs) self (pos + 1)
 | .mo _ r, h, cs, self, pos => r.owns h (Zlx 1 cs) self (pos + 1)
 | .ref o r, h, cs, self, pos => (match cs with
  | .ptr b 0 :: _ => match getB h b with
   | some (.cells cs') => o.owns h cs' b 0
   | _ => []
  | _ => []) ++ r.owns h (Zlx 1 cs) self (pos + 1)
def Zcm : (ps : List Pk) → Nat → List Blk → List SV → Option (PT ps × List Nat)
 | [], _, _, vs => match vs with
  | [] => some ((), [])
  | _ => none
 | .dat k :: ps, j, h, vs => match vs with
  | v :: vs => (v.as k).bind fun x => (Zcm ps (j + 1) h vs).map fun y => ((x, y.1), y.2)
  | [] => none
 | .own k :: ps, j, h, vs => match vs with
  | .own t k' xs :: vs => match Nat.beq t (tokP j) with
   | true => (ZbD (a := .slice k') (b := .slice k) xs).bind fun xs => (Zcm ps (j + 1) h vs).map fun y => ((xs, y.1), y.2)
   | false => none
  | _ => none
 | .obj o :: ps, j, h, vs => match vs with
  | .ptr b 0 :: vs => match getB h b with
   | some (.cells cs) => match Nat.ble cs.length 50 with
    | true => (o.get h cs b 0).bind fun x => (Zcm ps (j + 1) h vs).map fun y => ((x.1, y.1), (b :: x.2) ++ y.2)
    | false => none
   | _ => none
  | _ => none
 | .nil :: ps, j, h, vs => match vs with
  | .cst (.pointer none) :: vs => (Zcm ps (j + 1) h vs).map fun y => (((), y.1), y.2)
  | _ => none
 | .fn g :: ps, j, h, vs => match vs with
  | .func g' [] :: vs => match Nat.beq g g' with
   | true => (Zcm ps (j + 1) h vs).map fun y => (((), y.1), y.2)
   | false => none
  | _ => none
 | .room k :: ps, j, h, vs => match vs with
  | .rm b k' n c :: vs => match decEq k' k, getB h b with
   | isTrue _, some (.arr k'' xs) => (ZbD (a := .slice k'') (b := .slice k) xs).bind fun xs => (Zcm ps (j + 1) h vs).map fun y => (((xs, n, c), y.1), b :: y.2)
   | _, _ => none
  | _ => none
def ZbF : (ps : List Pk) → PT ps → Nat → Nat → List SV × List Blk
 | [], _, _, _ => ([], [])
 | .dat k :: ps, x, j, nx => (.dat k x.1 :: (ZbF ps x.2 (j + 1) nx).1, (ZbF ps x.2 (j + 1) nx).2)
 | .own k :: ps, x, j, nx => (.own (tokP j) k x.1 :: (ZbF ps x.2 (j + 1) nx).1, (ZbF ps x.2 (j + 1) nx).2)
 | .obj o :: ps, x, j, nx => (.ptr nx 0 :: (ZbF ps x.2 (j + 1) (nx + (1 + (o.put x.1 nx 0 (nx + 1)).2.length))).1, (.cells (o.put x.1 nx 0 (nx + 1)).1 :: (o.put x.1 nx 0 (nx + 1)).2) ++ (ZbF ps x.2 (j + 1) (nx + (1 + (o.put x.1 nx 0 (nx + 1)).2.length))).2)
 | .nil :: ps, x, j, nx => (.cst (.pointer none) :: (ZbF ps x.2 (j + 1) nx).1, (ZbF ps x.2 (j + 1) nx).2)
 | .fn g :: ps, x, j, nx => (.func g [] :: (ZbF ps x.2 (j + 1) nx).1, (ZbF ps x.2 (j + 1) nx).2)
 | .room k :: ps, x, j, nx => (.rm nx k x.1.2.1 x.1.2.2 :: (ZbF ps x.2 (j + 1) (nx + 1)).1, .arr k x.1.1 :: (ZbF ps x.2 (j + 1) (nx + 1)).2)
def endB : (ps : List Pk) → BT ps → Nat → List Blk
 | [], _, _ => []
 | .obj o :: ps, x, nx => (.cells (o.put x.1 nx 0 (nx + 1)).1 :: (o.put x.1 nx 0 (nx + 1)).2) ++ endB ps x.2 (nx + (1 + (o.put x.1 nx 0 (nx + 1)).2.length))
 | .dat _ :: ps, x, nx => endB ps x nx
 | .own _ :: ps, x, nx => endB ps x nx
 | .nil :: ps, x, nx => endB ps x nx
 | .fn _ :: ps, x, nx => endB ps x nx
 | .room k :: ps, x, nx => .arr k x.1 :: endB ps x.2 (nx + 1)
def ZlQ : (l : List Jc) → JT l → List SV
 | [], _ => []
 | .dat k :: l, x => .dat k x.1 :: ZlQ l x.2
 | .jk k :: l, x => .jk k x.1 :: ZlQ l x.2
def ZlN : (l : List Jc) → List SV → Option (JT l)
 | [], cs => match cs with
  | [] => some ()
  | _ => none
 | .dat k :: l, cs => match cs with
  | .dat k' y :: cs => match k.agg with
   | true => none
   | false => (ZbD (a := k') (b := k) y).bind fun x => (ZlN l cs).map fun y => (x, y)
  | _ => none
 | .jk k :: l, cs => match cs with
  | .jk k' n :: cs => match decEq k' k with
   | isTrue _ => (ZlN l cs).map fun y => (n, y)
   | isFalse _ => none
  | _ => none
def resV : (rs : List Rk) → RT rs → Nat → Nat → List SV × List Blk
 | [], _, _, _ => ([], [])
 | .dat k :: rs, x, j, nx => (.dat k x.1 :: (resV rs x.2 (j + 1) nx).1, (resV rs x.2 (j + 1) nx).2)
 | .own k :: rs, x, j, nx => (.own (tokR j) k x.1 :: (resV rs x.2 (j + 1) nx).1, (resV rs x.2 (j + 1) nx).2)
 | .ref o :: rs, x, j, nx => match x.1 with
  | none => (.cst (.pointer none) :: (resV rs x.2 (j + 1) nx).1, (resV rs x.2 (j + 1) nx).2)
  | some c => (.ptr nx 0 :: (resV rs x.2 (j + 1) (nx + (1 + (o.put c nx 0 (nx + 1)).2.length))).1, (.cells (o.put c nx 0 (nx + 1)).1 :: (o.put c nx 0 (nx + 1)).2) ++ (resV rs x.2 (j + 1) (nx + (1 + (o.put c nx 0 (nx + 1)).2.length))).2)
 | .jk k :: rs, x, j, nx => (.jk k x.1 :: (resV rs x.2 (j + 1) nx).1, (resV rs x.2 (j + 1) nx).2)
 | .js l :: rs, x, j, nx => (.agg (ZlQ l x.1) :: (resV rs x.2 (j + 1) nx).1, (resV rs x.2 (j + 1) nx).2)
 | .rin i k :: rs, x, j, nx => (.rm i k x.1.1 x.1.2 :: (resV rs x.2 (j + 1) nx).1, (resV rs x.2 (j + 1) nx).2)
 | .row k :: rs, x, j, nx => (.rm nx k x.1.2.1 x.1.2.2 :: (resV rs x.2 (j + 1) (nx + 1)).1, .arr k x.1.1 :: (resV rs x.2 (j + 1) (nx + 1)).2)
def resC {β : Type} : (rs : List Rk) → RT rs → Nat → Nat → (List SV → List Blk → Option β) → Option β
 | [], _, _, _, K => K [] []
 | .dat k :: rs, x, j, nx, K => resC rs x.2 (j + 1) nx fun vs bl => K (.dat k x.1 :: vs) bl
 | .own k :: rs, x, j, nx, K => resC rs x.2 (j + 1) nx fun vs bl => K (.own (tokR j) k x.1 :: vs) bl
 | .ref o :: rs, x, j, nx, K => match x.1 with
  | none => resC rs x.2 (j + 1) nx fun vs bl => K (.cst (.pointer none) :: vs) bl
  | some c => resC rs x.2 (j + 1) (nx + (1 + (o.put c nx 0 (nx + 1)).2.length)) fun vs bl => K (.ptr nx 0 :: vs) ((.cells (o.put c nx 0 (nx + 1)).1 :: (o.put c nx 0 (nx + 1)).2) ++ bl)
 | .jk k :: rs, x, j, nx, K => resC rs x.2 (j + 1) nx fun vs bl => K (.jk k x.1 :: vs) bl
 | .js l :: rs, x, j, nx, K => resC rs x.2 (j + 1) nx fun vs bl => K (.agg (ZlQ l x.1) :: vs) bl
 | .rin i k :: rs, x, j, nx, K => resC rs x.2 (j + 1) nx fun vs bl => K (.rm i k x.1.1 x.1.2 :: vs) bl
 | .row k :: rs, x, j, nx, K => resC rs x.2 (j + 1) (nx + 1) fun vs bl => K (.rm nx k x.1.2.1 x.1.2.2 :: vs) (.arr k x.1.1 :: bl)
def LIM : Nat := 140737488355328
def Zge (E : Env) (u : Nat) (k : Kd) (y : SV) : Option (List k.T) :=
 match asSlice y with
 | some ⟨k', ys⟩ => match E.elem u with
  | some _ => ZbD (a := .slice k') (b := .slice k) ys
  | none => none
 | none => match asStr y, E.isStr u with
  | some l, true => ZbD (a := .slice (.int .u8)) (b := .slice k) l
  | _, _ => match y with
   | .cst (.slice none 0 0) => match E.elem u with
    | some _ => some []
    | none => none
   | _ => none
def ZlF (k : Kd) (d : Nat) (x : SV) : Option (Nat × List k.T) :=
 match x with
 | .own t k' xs => match Nat.beq t 1100000000000 with
  | true => none
  | false => (ZbD (a := .slice k') (b := .slice k) xs).map fun xs => (t, xs)
 | .fresh k' xs => match Nat.beq d 1100000000000 with
  | true => none
  | false => (ZbD (a := .slice k') (b := .slice k) xs).map fun xs => (d, xs)
 | .mo k' xs => (ZbD (a := .slice k') (b := .slice k) xs).map fun xs => (1100000000000, xs)
 | .cst (.slice none 0 0) => match Nat.beq d 1100000000000 with
  | true => none
  | false => some (d, [])
 | _ => none
def ZqT (t : Nat) (k : Kd) (xs : List k.T) : SV := cond (Nat.beq t 1100000000000) (.mo k xs) (.own t k xs)
def ZdB (E : Env) (s : St) (d : Nat) (st u : Nat) (x y : SV) : OpRes :=
 match E.elem st with
 | none => .fail
 | some (_, i) => match Zge E u i.kd y, ZlF i.kd d x, i.bytes with
  | some ys, some (t, xs), b + 1 => .go (decide ((xs.length + ys.length) * (b + 1) ≤ LIM)) ((s.scrub t).put (some d) (ZqT t i.kd (xs ++ ys)))
  | _, _, _ => .fail
def Zik (E : Env) (s : St) (d : Nat) (t : Nat) (len cap : SV) : OpRes :=
 match E.elem t with
 | none => .fail
 | some (_, i) => match asInt len, asInt cap, i.bytes with
  | some (.i64, l), some (.i64, c), b + 1 => .go (decide (0 ≤ l) && (decide (l ≤ c) && decide (c * (b + 1 : Nat) ≤ LIM))) ((s.scrub d).put (some d) (.own d i.kd (List.replicate l.toNat i.kd.zero)))
  | _, _, _ => .fail
def ZfI : (ks : List Kd) → List SV → Option (Kd.struct ks).T
 | [], [] => some ()
 | k :: ks, v :: vs => (v.as k).bind fun x => (ZfI ks vs).bind fun y => some (x, y)
 | _, _ => none
def ZeW : (ks : List Kd) → (Kd.struct ks).T → List SV
 | [], _ => []
 | k :: ks, (x, y) => .dat k x :: ZeW ks y
def Zfm (d : Option Nat) (s : St) : (rs : List Kd) → (Kd.struct rs).T → St
 | [k], (x, _) => s.put d (.dat k x)
 | rs, x => s.put d (.tup (ZeW rs x))
def ZsK : List SV → Nat → Option SV
 | v :: _, 0 => some v
 | _ :: l, n + 1 => ZsK l n
 | [], _ => none
def min2 (x y : Int) : Int := if y < x then y else x
def max2 (x y : Int) : Int := if y > x then y else x
def Zsk : SV → Option Nat
 | .mo _ xs => some xs.length
 | _ => none
def Zdj (E : Env) (s : St) (d : Option Nat) (b : Builtin) (ts : List Nat) (args : List SV) : OpRes :=
 match b, ts, args with
 | .len, t :: _, [x] => match asSlice x with
  | some ⟨_, xs⟩ => match E.elem t with
   | some _ => .go true (s.put d (.dat (.int .i64) (xs.length : Int)))
   | none => .fail
  | none => match asStr x, E.isStr t with
   | some l, true => .go true (s.put d (.dat (.int .i64) (l.length : Int)))
   | _, _ => match Zsk x, E.elem t with
    | some n, some _ => .go true (s.put d (.dat (.int .i64) (n : Int)))
    | _, _ => .fail
 | .append, [t, u], [x, y] => match d with
  | some d => ZdB E s d t u x y
  | none => .fail
 | .min, _, [x, y] => match asInt x, asInt y with
  | some (k, a), some (k', b) => match decEq k k' with
   | isTrue _ => .go true (s.put d (.dat (.int k) (min2 a b)))
   | isFalse _ => .fail
  | _, _ => .fail
 | .max, _, [x, y] => match asInt x, asInt y with
  | some (k, a), some (k', b) => match decEq k k' with
   | isTrue _ => .go true (s.put d (.dat (.int k) (max2 a b)))
   | isFalse _ => .fail
  | _, _ => .fail
 | _, _, _ => .fail
def val (s : St) (d : Option Nat) : Option SV → OpRes
 | some v => .go true (s.put d v)
 | none => .fail
def ZgY (s : St) (d : Option Nat) : Option (Bool × SV) → OpRes
 | some (ok, v) => .go ok (s.put d v)
 | none => .fail
def Zih (E : Env) (t u : Nat) (x : SV) : Option SV :=
 match E.ty t, E.ty u with
 | some it, some i => match i.kd with
  | .int k => (asInt x).map fun (_, n) => .dat (.int k) (k.wrap n)
  | .str => match asStr x with
   | some l => some (.dat .str l)
   | none => match E.elem t with
    | some (_, e) => match e.kd with
     | .int .u8 => match asSlice x with
      | some ⟨.int .u8, xs⟩ => some (.dat .str xs)
      | some _ => none
      | none => match x with
       | .cst (.slice none 0 0) => some (.dat .str [])
       | _ => none
     | _ => none
    | none => none
  | .slice (.int .u8) => match x with
   | .fresh (.int .u8) xs => match Nat.beq t u, E.elem u with
    | true, some (_, e) => match e.kd with
     | .int .u8 => some (.dat (.slice (.int .u8)) xs)
     | _ => none
    | _, _ => none
   | _ => none
  | _ => none
 | _, _ => none
def ZmN (E : Env) (t u : Nat) (x : SV) : Option (Bool × SV) :=
 match E.ty t, E.ty u with
 | some _, some i => match i.kd with
  | .int k => match asFlt x with
   | some b => some ((floatToIntVal .f64 b k).isSome, .dat (.int k) ((floatToIntVal .f64 b k).getD 0))
   | none => none
  | .flt => match asInt x with
   | some (_, n) => some (true, .dat .flt (floatOfInt .f64 n))
   | none => none
  | _ => none
 | _, _ => none
def Zob (E : Env) (t u : Nat) (x : SV) : Option (Bool × SV) :=
 match Zih E t u x with
 | some v => some (true, v)
 | none => ZmN E t u x
def ZeI (E : Env) (t : Nat) (x ix : SV) : Option (Bool × SV) :=
 match asInt ix with
 | none => none
 | some (_, i) => match asSlice x with
  | some ⟨k, xs⟩ => match E.elem t with
   | some (_, ie) => match decEq ie.kd k with
    | isTrue _ => some (decide (0 ≤ i) && decide (i < (xs.length : Int)), .rptr k (xs.getD i.toNat k.zero))
    | isFalse _ => none
   | none => none
  | none => match x with
   | .rptr (.arr n k) xs => match E.ty t with
    | some it => match decEq it.kd (.arr n k) with
     | isTrue _ => some (decide (0 ≤ i) && decide (i < (n : Int)), .rptr k (xs.getD i.toNat k.zero))
     | isFalse _ => none
    | none => none
   | .mo k xs => match E.elem t with
    | some (_, ie) => match decEq ie.kd k with
     | isTrue _ => some (decide (0 ≤ i) && decide (i < (xs.length : Int)), .mq k i [])
     | isFalse _ => none
    | none => none
   | .sl b k n => match E.elem t with
    | some (_, ie) => match decEq ie.kd k with
     | isTrue _ => some (decide (0 ≤ i) && decide (i < (n : Int)), .eptr b k n i)
     | isFalse _ => none
    | none => none
   | .ptr b 0 => match E.ty t with
    | some it => match it.kd with
     | .arr n k => some (decide (0 ≤ i) && decide (i < (n : Int)), .eptr b k n i)
     | _ => none
    | none => none
   | _ => none
def ZeH (E : Env) (t : Nat) (x : SV) (j : Nat) : Option SV :=
 match x with
 | .mq k i p => match E.ty t, k.lens p, k.lens (p ++ [j]) with
  | some it, some l, some l' => match decEq it.kd l.f, l'.f.size with
   | isTrue _, _ + 1 => some (.mq k i (p ++ [j]))
   | _, _ => none
  | _, _, _ => none
 | .ptr b o => match E.ty t with
  | some i => match i.kd.fieldAt j with
   | some (p, f) => match f.size with
    | 0 => none
    | _ + 1 => some (.ptr b (o + p))
   | none => none
  | none => none
 | .rptr k x => match look E.lays t with
  | some k' => match decEq k' k with
   | isTrue _ => k.fieldPtr x j
   | isFalse _ => none
  | none => match E.ty t with
   | some i => match decEq i.kd k with
    | isTrue _ => k.fieldPtr x j
    | isFalse _ => none
   | none => none
 | _ => none
def Zfb (x : Option SV) (dflt : Int) : Option Int :=
 match x with
 | none => some dflt
 | some v => (asInt v).map (·.2)
def Zks (E : Env) (t : Nat) (x : SV) (lo hi : Option SV) : Option (Bool × SV) :=
 match asSlice x with
 | some ⟨k, xs⟩ => match Zfb lo 0, Zfb hi xs.length with
  | some l, some h => match E.elem t with
   | some (_, ie) => match decEq ie.kd k with
    | isTrue _ => some (decide (0 ≤ l) && (decide (l ≤ h) && decide (h ≤ (xs.length : Int))), .dat (.slice k) ((xs.drop l.toNat).take (h - l).toNat))
    | isFalse _ => none
   | none => none
  | _, _ => none
 | none => match asStr x with
  | some xs => match Zfb lo 0, Zfb hi xs.length with
   | some l, some h => match E.isStr t with
    | true => some (decide (0 ≤ l) && (decide (l ≤ h) && decide (h ≤ (xs.length : Int))), .dat .str ((xs.drop l.toNat).take (h - l).toNat))
    | false => none
   | _, _ => none
  | none => none
def ZhG (E : Env) (t : Nat) (x : SV) (lo : Option SV) (hi mx : SV) : Option (Bool × SV) :=
 match asSlice x with
 | some ⟨k, xs⟩ => match Zfb lo 0, asInt hi, asInt mx with
  | some l, some (_, h), some (_, m) => match E.elem t with
   | some (_, ie) => match decEq ie.kd k with
    | isTrue _ => some (decide (0 ≤ l) && (decide (l ≤ h) && (decide (h ≤ m) && decide (m ≤ (xs.length : Int)))), .dat (.slice k) ((xs.drop l.toNat).take (h - l).toNat))
    | isFalse _ => none
   | none => none
  | _, _, _ => none
 | none => none
def Zeb : Kd → List SV → List (Nat × SV) → Option (List SV)
 | _, cs, [] => some cs
 | k, cs, (j, v) :: r => match k.fieldAt j, v.cells with
  | some (o, f), some vs => match Nat.beq vs.length f.size with
   | true => Zeb k (Zjs cs o vs) r
   | false => none
  | _, _ => none
def setAt {α : Type} : List α → Nat → α → Option (List α)
 | [], _, _ => none
 | _ :: r, 0, v => some (v :: r)
 | x :: r, n + 1, v => (setAt r n v).map (x :: ·)
def Zdl (k : Kd) : List k.T → List (Nat × SV) → Option (List k.T)
 | xs, [] => some xs
 | xs, (j, v) :: r => (v.as k).bind fun x => (setAt xs j x).bind fun xs => Zdl k xs r
def Zkn (E : Env) (t : Nat) (x : SV) (j : Nat) : Option SV :=
 match x, E.ty t with
 | .dat k x, some i => match decEq i.kd k with
  | isTrue _ => k.field x j
  | isFalse _ => none
 | .agg cs, some i => match i.kd.fieldAt j with
  | some (o, f) => match Nat.ble (o + f.size) cs.length with
   | true => (Zrv f.size (Zlx o cs)).map (pack f)
   | false => none
  | none => none
 | _, _ => none
def Env.asR (E : Env) (v : SV) : SV :=
 match v with
 | .cst (.pointer (some ⟨b, 0, none⟩)) => match look E.globs b with
  | some q => .rptr q.k q.x
  | none => .cst (.pointer (some ⟨b, 0, none⟩))
 | .dat (.rp k) x => .rptr k x
 | v => v
def mset : List (Int × Bool) → Int → Bool → List (Int × Bool)
 | [], n, v => [(n, v)]
 | (m, u) :: r, n, v => cond (decide (n = m)) ((n, v) :: r) ((m, u) :: mset r n v)
def mget : List (Int × Bool) → Int → Bool
 | [], _ => false
 | (m, u) :: r, n => cond (decide (n = m)) u (mget r n)
def Zhj (E : Env) (s : St) (t : Nat) (m k : SV) : Option SV :=
 match m with
 | .mp b => match getB s.heap b, look E.maps t, asInt k with
  | some (.mp q es), some q', some (q'', n) => match decEq q q', decEq q q'' with
   | isTrue _, isTrue _ => some (.dat .bool (mget es n))
   | _, _ => none
  | _, _, _ => none
 | _ => none
def Kd.bare : Kd → Bool
 | .int _ | .bool | .flt | .str | .unit | .np | .nsl => true
 | .pair a b => a.bare && b.bare
 | .arr _ k => k.bare
 | .slice _ | .tre _ | .rp _ => false
def Kd.joinH (h : List Blk) : (k : Kd) → List SV → Option (k.T × List SV)
 | .pair a b, r => (a.joinH h r).bind fun x => (b.joinH h x.2).bind fun y => some ((x.1, y.1), y.2)
 | .rp k, r => match r with
  | .ptr b 0 :: r' => match getB h b with
   | some (.cells cs) => match k.joinH h cs with
    | some (x, []) => some (x, r')
    | _ => none
   | _ => none
  | r => Zdc (.rp k) r
 | .int k, r => Zdc (.int k) r
 | .bool, r => Zdc .bool r
 | .flt, r => Zdc .flt r
 | .str, r => Zdc .str r
 | .slice k, r => Zdc (.slice k) r
 | .unit, r => some ((), r)
 | .np, r => Zix r
 | .nsl, r => ZfU r
 | .arr n k, r => (Kd.arr n k).join r
 | .tre k, r => (Kd.tre k).join r
def ZkD (s : St) (k : Kd) (v : SV) : Option k.T :=
 match v, k with
 | .ptr b 0, .rp k' => match getB s.heap b with
  | some (.cells cs) => only (k'.joinH s.heap cs)
  | _ => none
 | v, k => v.as k
def ZdE (s : St) : (ks : List Kd) → List SV → Option (Kd.struct ks).T
 | [], [] => some ()
 | k :: ks, v :: vs => (ZkD s k v).bind fun x => (ZdE s ks vs).bind fun y => some (x, y)
 | _, _ => none
def SV.isPtr : SV → Bool
 | .ptr _ _ => true
 | _ => false
def anyB {α : Type} (f : α → Bool) : List α → Bool
 | [] => false
 | x :: r => cond (f x) true (anyB f r)
def allB {α : Type} (f : α → Bool) : List α → Bool
 | [] => true
 | x :: r => cond (f x) (allB f r) false
def Zdm (E : Env) (n : Nat) (s : St) (d : Option Nat) (C : Con) (args : List SV) : OpRes :=
 match anyB SV.isPtr args with
 | false => .fail
 | true => match allB Kd.bare C.rs with
  | false => .fail
  | true => match ZdE s C.ps args with
   | some x => .call C.rs (C.f n x) (Zfm d s C.rs)
   | none => .fail
def SV.isThere : SV → Bool
 | .ptr _ _ => true
 | .rptr _ _ => true
 | .dat (.rp _) _ => true
 | _ => false
def evOp (E : Env) (n : Nat) (o : Oper) (s : St) : OpRes :=
 let d := o.dst
 match o.op with
 | .move x | .assign x => .go true (s.put d ((s.eval x).typed (E.ty o.type)))
 | .box t x => match Zig s d ((s.eval x).typed (E.ty t)) with
  | some s => .go true s
  | none => .fail
 | .alloc t => match E.ty t with
  | some i => match Zig s d (SV.zeroOf i.kd) with
   | some s => .go true s
   | none => .fail
  | none => .fail
 | .build t parts => match E.ty t with
  | some i => match i.kd.isPair with
   | true => match Zeb i.kd i.kd.zsplit (parts.toList.map fun (j, x) => (j, (s.eval x).shut)) with
    | some cs => .go true (s.put d (packZ i.kd cs))
    | none => .fail
   | false => .fail
  | none => .fail
 | .buildSlice t len parts => match E.elem t, d with
  | some (_, i), some d => match Nat.ble (len * (i.kd.size + 1)) 16777216 with
   | false => .fail
   | true => match Zdl i.kd (List.replicate len i.kd.zero) (parts.toList.map fun (j, x) => (j, s.eval x)) with
    | some xs => .go true (s.put (some d) (.fresh i.kd xs))
    | none => .fail
  | _, _ => .fail
 | .makeSlice t len cap => match d with
  | some d => Zik E s d t (s.eval len) (s.eval cap)
  | none => .fail
 | .load t a => ZgY s d (Zdk E s t (E.asR (s.eval a)))
 | .store t a x => match Zea E s t (s.eval a) ((s.eval x).typed (E.ty t)) with
  | some s => .go true (s.put d .undef)
  | none => .fail
 | .nilCheck x => match (s.eval x).isThere with
  | true => .go true (s.put d (s.eval x))
  | false => .fail
 | .binOp op xt x y _ => ZgY s d (ZrR E op xt (s.eval x) (s.eval y))
 | .unOp op _ x => val s d (evUn op (s.eval x))
 | .convert t u x => ZgY s d (Zob E t u (s.eval x))
 | .makeFunc _ _ _ => .fail
 | .slice t x lo hi mx => match mx with
  | none => ZgY s d (Zks E t (s.eval x) (lo.map s.eval) (hi.map s.eval))
  | some m => match hi with
   | some hh => ZgY s d (ZhG E t (s.eval x) (lo.map s.eval) (s.eval hh) (s.eval m))
   | none => .fail
 | .fieldAddr t x j => val s d (ZeH E t (E.asR (s.eval x)) j)
 | .field t x j => val s d (Zkn E t (s.eval x) j)
 | .indexAddr t x ix => ZgY s d (ZeI E t (E.asR (s.eval x)) (s.eval ix))
 | .index t x ix => match asStr (s.eval x), asInt (s.eval ix), E.isStr t with
  | some l, some (_, i), true => .go (decide (0 ≤ i) && decide (i < (l.length : Int))) (s.put d (.dat (.int .u8) (l.getD i.toNat 0)))
  | _, _, _ => .fail
 | .extract x j => match s.eval x with
  | .tup l => val s d (ZsK l j)
  | _ => .fail
 | .call c => match c.callee with
  | .builtin b => Zdj E s d b c.argTypes.toList (c.args.toList.map s.eval)
  | .value f => match s.eval f with
   | .func g [] => match look E.cons g with
    | some C => match ZfI C.ps (c.args.toList.map s.eval) with
     | some x => .call C.rs (C.f n x) (Zfm d s C.rs)
     | none => Zdm E n s d C (c.args.toList.map s.eval)
    | none => .fail
   | _ => .fail
  | _ => .fail
 | .lookup t m k ok => match ok with
  | false => val s d (Zhj E s t (s.eval m) (s.eval k))
  | true => .fail
 | _ => .fail
inductive Pl where
 | slot (i : Nat) | cell (b i : Nat)
def St.at (s : St) : Pl → SV
 | .slot i => getN s.slots i
 | .cell b i => match getB s.heap b with
  | some (.cells cs) => getN cs i
  | _ => .undef
def St.setAt (s : St) (v : SV) : Pl → St
 | .slot i => s.put (some i) v
 | .cell b i => match getB s.heap b with
  | some (.cells cs) => { s with heap := setB s.heap b (.cells (setN cs i v)) }
  | _ => s
def Pl.as (pl : Pl) (k : Kd) (v : SV) : Option k.T :=
 match pl with
 | .slot _ => v.as k
 | .cell _ _ => match k.agg with
  | true => none
  | false => v.one k
def St.retag (s : St) (pl : Pl) (tok : Nat) (k : Kd) : Option St :=
 match s.at pl with
 | .own t k' xs => match ZbD (a := .slice k') (b := .slice k) xs with
  | some xs => match Nat.beq t tok with
   | true => some s
   | false => some ((((s.scrub tok).scrub t).scrub tok).setAt (.own tok k xs) pl)
  | none => none
 | .fresh k' xs => match ZbD (a := .slice k') (b := .slice k) xs with
  | some xs => some ((s.scrub tok).setAt (.own tok k xs) pl)
  | none => none
 | .cst (.slice none 0 0) => some ((s.scrub tok).setAt (.own tok k []) pl)
 | _ => none
def St.retags (s : St) : List (Pl × Nat × Kd) → Option St
 | [] => some s
 | (i, t, k) :: r => match s.retag i t k with
  | some s => s.retags r
  | none => none
def St.shuts (s : St) : List (Pl × Kd) → Option St
 | [] => some s
 | (i, k) :: r => match i.as k (s.at i) with
  | some x => St.shuts (s.setAt (.dat k x) i) r
  | none => none
def prepV : List Pk → Nat → List Operand → St → Option St
 | [], _, _, s => some s
 | .dat _ :: ps, j, xs, s => match xs with
  | _ :: xs => prepV ps (j + 1) xs s
  | [] => none
 | .room _ :: ps, j, xs, s => match xs with
  | _ :: xs => prepV ps (j + 1) xs s
  | [] => none
 | .own k :: ps, j, xs, s => match xs with
  | .tmp t :: xs => match s.retag (.slot t) (tokP j) k with
   | some s => prepV ps (j + 1) xs s
   | none => none
  | _ => none
 | .obj o :: ps, j, xs, s => match xs with
  | x :: xs => match o.hasOwn with
   | false => prepV ps (j + 1) xs s
   | true => match s.eval x with
    | .ptr b 0 => match getB s.heap b with
     | some (.cells cs) => match s.retags ((o.owns s.heap cs b 0).map fun q => (.cell q.1 q.2.1, tokC q.1 q.2.1, q.2.2)) with
      | some s => prepV ps (j + 1) xs s
      | none => none
     | _ => none
    | _ => none
  | [] => none
 | .nil :: ps, j, xs, s => match xs with
  | _ :: xs => prepV ps (j + 1) xs s
  | [] => none
 | .fn _ :: ps, j, xs, s => match xs with
  | _ :: xs => prepV ps (j + 1) xs s
  | [] => none
def ZcM (ops : List Oper) (j : Nat) : Option Nat :=
 match ops[j]? with
 | some o => o.dst
 | none => none
def SV.force {β : Type} (v : SV) (K : SV → β) : β :=
 match v with
 | .undef => K .undef
 | .cst c => K (.cst c)
 | .dat k x => K (.dat k x)
 | .own t k xs => K (.own t k xs)
 | .fresh k xs => K (.fresh k xs)
 | .ptr b o => K (.ptr b o)
 | .rptr k x => K (.rptr k x)
 | .tup l => K (.tup l)
 | .agg cs => K (.agg cs)
 | .func f cs => K (.func f cs)
 | .sl b k n => K (.sl b k n)
 | .eptr b k n i => K (.eptr b k n i)
 | .raw t k n => K (.raw t k n)
 | .mp b => K (.mp b)
 | .rm b k n c => K (.rm b k n c)
 | .jk k n => K (.jk k n)
 | .jp k => K (.jp k)
 | .mo k xs => K (.mo k xs)
 | .mq k i p => K (.mq k i p)
def Zim {β : Type} : List SV → (List SV → β) → β
 | [], K => K []
 | v :: r, K => v.force fun v => Zim r fun r => K (v :: r)
def Blk.force {β : Type} (b : Blk) (K : Blk → β) : β :=
 match b with
 | .cells cs => Zim cs fun cs => K (.cells cs)
 | .arr k xs => K (.arr k xs)
 | .mp k es => K (.mp k es)
def ZlJ {β : Type} : List Blk → (List Blk → β) → β
 | [], K => K []
 | v :: r, K => v.force fun v => ZlJ r fun r => K (v :: r)
def St.force {β : Type} (s : St) (K : St → β) : β := Zim s.slots fun l => ZlJ s.heap fun h => K ⟨l, h⟩
def isIn (d : Nat) : List Nat → Bool
 | [] => false
 | x :: r => cond (Nat.beq d x) true (isIn d r)
def Pk.inn : Pk → Bool
 | .own _ => true
 | .obj o => o.hasOwn
 | .dat _ => false
 | .nil => false
 | .fn _ => false
 | .room _ => false
def Pk.isObj : Pk → Bool
 | .obj _ => true
 | .own _ => false
 | .dat _ => false
 | .nil => false
 | .fn _ => false
 | .room _ => true
def Rk.isOwn : Rk → Bool
 | .own _ => true
 | .dat _ => false
 | .ref _ => false
 | .rin _ _ => false
 | .jk _ => false
 | .js _ => false
 | .row _ => false
def Rk.refOwn : Rk → Bool
 | .ref o => o.hasOwn
 | .own _ => false
 | .dat _ => false
 | .rin _ _ => false
 | .jk _ => false
 | .js _ => false
 | .row _ => false
def Rk.isRef : Rk → Bool
 | .ref _ => true
 | .own _ => false
 | .dat _ => false
 | .rin _ _ => false
 | .jk _ => false
 | .js _ => false
 | .row _ => true
def Rk.isRin : Rk → Bool
 | .rin _ _ => true
 | .jk _ => false
 | .js _ => false
 | .ref _ => false
 | .own _ => false
 | .dat _ => false
 | .row _ => false
def OCon.inn (C : OCon) : Bool := anyB Pk.inn C.ps
def OCon.out (C : OCon) : Bool := anyB Rk.refOwn C.rs
def OCon.res (C : OCon) : Bool := anyB Rk.isOwn C.rs
def OCon.refs (C : OCon) : Bool := anyB Rk.isRef C.rs
def OCon.any (C : OCon) : Bool := C.inn || (C.out || C.res)
def OCon.level (C : OCon) : Nat :=
 match anyB Rk.isRin C.rs with
 | true => 2
 | false => match C.inn || C.out with
  | true => 2
  | false => match C.res with
   | false => 0
   | true => match anyB Pk.isObj C.ps || C.refs with
    | true => 2
    | false => 1
def ZfG (inn out res : Bool) (ms : List Nat) (n d t : Nat) : Bool :=
 cond (Nat.ble t 999) false (cond (Nat.ble t 1099511627775) ((out && Nat.ble n ((t - 1000) / 50)) || (inn && isIn ((t - 1000) / 50) ms))
  (cond (Nat.ble t 2199023255551) inn (res && (Nat.ble (tokD d 0) t && Nat.ble t (tokD d 99)))))
def renB (ms : List Nat) (L j : Nat) : Nat := cond (Nat.blt j ms.length) (ms.getD j 0) (L + (j - ms.length))
def renT (ms : List Nat) (L d t : Nat) : Nat := cond (Nat.ble t 1099511627775) (tokC (renB ms L ((t - 1000) / 50)) ((t - 1000) % 50)) (cond (Nat.beq t 1100000000000) t (tokD d (t - tokR 0)))
def SV.ren (ms : List Nat) (L d : Nat) : SV → SV
 | .ptr b o => .ptr (renB ms L b) o
 | .own t k xs => .own (renT ms L d t) k xs
 | .rm b k n c => .rm (renB ms L b) k n c
 | v => v
def Blk.ren (ms : List Nat) (L d : Nat) : Blk → Blk
 | .cells cs => .cells (cs.map (SV.ren ms L d))
 | b => b
def setL : List Blk → List Nat → List Blk → List Blk
 | h, m :: ms, b :: bs => setL (setB h m b) ms bs
 | h, _, _ => h
def ZcA (L : Nat) : Nat → List Nat
 | 0 => []
 | n + 1 => L :: ZcA (L + 1) n
def ZiG : List Nat → Bool
 | [] => true
 | x :: r => !(isIn x r) && ZiG r
def Ob.width : Ob → Nat
 | .nil => 0
 | .dat k r => k.size + r.width
 | .own _ r => 1 + r.width
 | .ref _ r => 1 + r.width
 | .mo _ r => 1 + r.width
def Ob.smallIn : Ob → Bool
 | .nil => true
 | .dat _ r => r.smallIn
 | .own _ r => r.smallIn
 | .mo _ r => r.smallIn
 | .ref o r => (Nat.ble o.width 50 && o.smallIn) && r.smallIn
def Ob.small (o : Ob) : Bool := Nat.ble o.width 50 && o.smallIn
def Ob.cnt : Ob → Nat
 | .nil => 0
 | .dat _ r => r.cnt
 | .own _ r => r.cnt
 | .mo _ r => r.cnt
 | .ref o r => (1 + o.cnt) + r.cnt
def Pk.small : Pk → Bool
 | .obj o => o.small
 | .own _ => true
 | .dat _ => true
 | .nil => true
 | .fn _ => true
 | .room _ => true
def Rk.small : Rk → Bool
 | .ref o => o.small && (Nat.ble o.cnt 1000 && !o.hasMo)
 | .own _ => true
 | .dat _ => true
 | .rin _ _ => true
 | .jk _ => true
 | .js _ => true
 | .row _ => true
def OCon.small (C : OCon) : Bool := allB Pk.small C.ps && (allB Rk.small C.rs && (Nat.ble C.rs.length 99 && Nat.ble C.ps.length 1000))
structure Zer where
 C : OCon
 s : St
 x : PT C.ps
 ms : List Nat
def Zkj (C : OCon) (args : List Operand) (s : St) : Option Zer :=
 match prepV C.ps 0 args s with
 | none => none
 | some s => match Zcm C.ps 0 s.heap (args.map s.eval) with
  | none => none
  | some (x, ms) => match ZiG ms && (C.small && (!(C.inn || C.out) || (Nat.blt s.heap.length 1000000 && Nat.ble ms.length s.heap.length))) with
   | true => some ⟨C, s, x, ms⟩
   | false => none
def ZfZ : List Pk → List SV → Bool
 | [], vs => match vs with
  | [] => true
  | _ => false
 | .dat _ :: ps, vs => match vs with
  | _ :: vs => ZfZ ps vs
  | [] => false
 | .own _ :: ps, vs => match vs with
  | _ :: vs => ZfZ ps vs
  | [] => false
 | .room _ :: ps, vs => match vs with
  | .rm _ _ _ _ :: vs => ZfZ ps vs
  | _ => false
 | .obj _ :: ps, vs => match vs with
  | .ptr _ 0 :: vs => ZfZ ps vs
  | _ => false
 | .nil :: ps, vs => match vs with
  | .cst (.pointer none) :: vs => ZfZ ps vs
  | _ => false
 | .fn g :: ps, vs => match vs with
  | .func g' [] :: vs => match Nat.beq g g' with
   | true => ZfZ ps vs
   | false => false
  | _ => false
def ZeZ : List OCon → List Operand → St → Option Zer
 | [], _, _ => none
 | C :: r, args, s => match ZfZ C.ps (args.map s.eval) with
  | true => Zkj C args s
  | false => ZeZ r args s
def tupV : List SV → SV
 | [v] => v
 | l => .tup l
def scrC (C : OCon) (ms : List Nat) (L d : Nat) (s : St) : St :=
 match C.any with
 | true => s.scrubP (ZfG C.inn C.out C.res ms L d)
 | false => s
def Zer.state (q : Zer) (dst : Option Nat) (b : BT q.C.ps) (vs : List SV) (bl : List Blk) : St :=
 ({ slots := (scrC q.C q.ms q.s.heap.length (dst.getD 0) q.s).slots, heap := setL (scrC q.C q.ms q.s.heap.length (dst.getD 0) q.s).heap q.ms ((endB q.C.ps b 0).map (Blk.ren q.ms q.s.heap.length (dst.getD 0))) ++ bl.map (Blk.ren q.ms q.s.heap.length (dst.getD 0)) } : St).put dst (tupV (vs.map (SV.ren q.ms q.s.heap.length (dst.getD 0))))
def Zqk {β : Type} (q : Zer) (n : Nat) (dst : Option Nat) (K : St → Option β) : Option β :=
 (q.C.f n q.x).bind fun r => resC q.C.rs r.1 0 q.ms.length fun vs bl => (q.state dst r.2 vs bl).force K
def Zer.run (q : Zer) (n : Nat) (dst : Option Nat) : Option St :=
 (q.C.f n q.x).map fun r => q.state dst r.2 (resV q.C.rs r.1 0 q.ms.length).1 (resV q.C.rs r.1 0 q.ms.length).2
def Zch (E : Env) (o : Oper) : Option (List OCon × Array Operand) :=
 match o.op with
 | .call c => match c.callee with
  | .value (.func g) => match look E.objs g with
   | some Cs => some (Cs, c.args)
   | none => none
  | _ => none
 | _ => none
def after {β : Type} (r : OpRes) (K : St → Option β) : Option β :=
 match r with
 | .fail => none
 | .go ok s => match ok with
  | true => s.force K
  | false => none
 | .call _ m k => m.bind fun x => (k x).force K
def evDo {β : Type} (E : Env) (n : Nat) (o : Oper) (s : St) (K : St → Option β) : Option β :=
 match o.op with
 | .pick c a b => match asBool (s.eval c) with
  | none => none
  | some t => match t with
   | true => (s.put o.dst ((s.eval a).typed (E.ty o.type))).force K
   | false => (s.put o.dst ((s.eval b).typed (E.ty o.type))).force K
 | _ => match Zch E o with
  | some (Cs, args) => match ZeZ Cs args.toList s with
   | some q => Zqk q n o.dst K
   | none => none
  | none => after (evOp E n o s) K
def St.learn (s : St) (d : Nat) (b : Bool) : St :=
 match getN s.slots d with
 | .dat .bool _ => s.put (some d) (.dat .bool b)
 | _ => s
def Zjx : SV := .tup []
def Zhg : SV → Option (Option Bool)
 | .tup [] => some none
 | v => match asBool v with
  | some b => some (some b)
  | none => none
def Zkp {β : Type} (ops : List Oper) (s : St) (j : Nat) (want : Bool) (go skip : St → Option β) : Option β :=
 match ZcM ops j with
 | none => none
 | some d => match Zhg (getN s.slots d) with
  | none => none
  | some none => skip s
  | some (some b) => match b with
   | true => (s.learn d true).force fun s => match want with
    | true => go s
    | false => skip s
   | false => (s.learn d false).force fun s => match want with
    | true => skip s
    | false => go s
noncomputable def both {β : Type} (a b : Option β) : Option β := open Classical in if a = b then a else none
noncomputable def nilQ {α β : Type} (xs : List α) (a b : Option β) : Option β :=
 match xs with
 | [] => both a b
 | _ :: _ => b
def ZqQ (E : Env) (o : Oper) (s : St) : Option (Bool × SL) :=
 match o.op with
 | .binOp op t x (.const (.slice none 0 0)) _ => match look E.elems t with
  | none => none
  | some _ => match asSlice (s.eval x) with
   | none => none
   | some sl => match op with
    | .eql => some (true, sl)
    | .neq => some (false, sl)
    | _ => none
 | _ => none
noncomputable def ZrS {β : Type} (o : Oper) (is : Bool) (sl : SL) (s : St) (K : St → Option β) : Option β :=
 match sl with
 | ⟨_, xs⟩ => nilQ xs ((s.put o.dst (.dat .bool is)).force K) ((s.put o.dst (.dat .bool (!is))).force K)
def ZkI (E : Env) (s : St) (d : Nat) (t : Nat) (len cap : SV) : OpRes :=
 match E.elem t with
 | none => .fail
 | some (_, i) => match asInt len, asInt cap, i.bytes with
  | some (.i64, l), some (.i64, c), b + 1 => .go (decide (0 ≤ l) && (decide (c = l) && decide (c * (b + 1 : Nat) ≤ LIM))) (({ s with heap := s.heap ++ [Blk.arr i.kd (List.replicate l.toNat i.kd.zero)] } : St).put (some d) (.sl s.heap.length i.kd l.toNat))
  | _, _, _ => .fail
def ZhK (E : Env) (s : St) (d : Nat) (t : Nat) : OpRes :=
 match E.ty t with
 | some i => match i.kd with
  | .arr n k => .go true (({ s with heap := s.heap ++ [Blk.arr k (List.replicate n k.zero)] } : St).put (some d) (.ptr s.heap.length 0))
  | _ => .fail
 | none => .fail
def ZkR (E : Env) (s : St) (d : Nat) (t : Nat) (len cap : SV) : OpRes :=
 match E.elem t with
 | none => .fail
 | some (_, i) => match asInt len, asInt cap, i.bytes with
  | some (.i64, l), some (.i64, c), b + 1 => .go (decide (0 ≤ l) && (decide (l ≤ c) && (decide (0 < c) && decide (c * (b + 1 : Nat) ≤ LIM)))) ((s.scrub d).put (some d) (.raw d i.kd l.toNat))
  | _, _, _ => .fail
def ZhL (E : Env) (s : St) (d : Nat) (t : Nat) (len : Nat) (parts : List (Nat × SV)) : OpRes :=
 match E.elem t with
 | none => .fail
 | some (_, i) => match Nat.ble (len * (i.kd.size + 1)) 16777216 with
  | false => .fail
  | true => match Zdl i.kd (List.replicate len i.kd.zero) parts with
   | some xs => .go true (({ s with heap := s.heap ++ [Blk.arr i.kd xs] } : St).put (some d) (.sl s.heap.length i.kd len))
   | none => .fail
def Zfz (E : Env) (s : St) (d : Option Nat) (t b : Nat) (k : Kd) (n : Nat) (ix : SV) : OpRes :=
 match asInt ix, E.elem t with
 | some (_, i), some (_, ie) => match decEq ie.kd k with
  | isTrue _ => .go (decide (0 ≤ i) && decide (i < (n : Int))) (s.put d (.eptr b k n i))
  | isFalse _ => .fail
 | _, _ => .fail
def ZkH (E : Env) (s : St) (d : Option Nat) (t b : Nat) (k : Kd) (n : Nat) (i : Int) : OpRes :=
 match Zgt k n (getB s.heap b), E.ty t with
 | some (ok, xs), some it => match decEq it.kd k with
  | isTrue _ => .go ok (s.put d (.dat k (xs.getD i.toNat k.zero)))
  | isFalse _ => .fail
 | _, _ => .fail
def ZhM (E : Env) (s : St) (d : Option Nat) (t b : Nat) (k : Kd) (n : Nat) (i : Int) (v : SV) : OpRes :=
 match Zgt k n (getB s.heap b), E.ty t, v.as k with
 | some (ok, xs), some it, some x => match decEq it.kd k with
  | isTrue _ => .go ok (({ s with heap := setB s.heap b (.arr k (xs.set i.toNat x)) } : St).put d .undef)
  | isFalse _ => .fail
 | _, _, _ => .fail
def SV.fill (t : Nat) (k : Kd) (ys : List k.T) : SV → SV
 | .raw t' k' n' => cond (Nat.beq t t') (.own t k ys) (.raw t' k' n')
 | v => v.scrub t
def Zhn (t m : Nat) : List SV → Bool
 | [] => true
 | .raw t' _ n' :: r => cond (Nat.beq t t') (Nat.beq m n' && Zhn t m r) (Zhn t m r)
 | _ :: r => Zhn t m r
def ZkQ (E : Env) (s : St) (d : Option Nat) (st u tk : Nat) (k : Kd) (n : Nat) (y : SV) : OpRes :=
 match E.elem st with
 | none => .fail
 | some (_, i) => match decEq i.kd k, Zge E u k y with
  | isTrue _, some ys => .go (Nat.beq ys.length n && Zhn tk ys.length s.slots) (({ slots := s.slots.map (SV.fill tk k ys), heap := s.heap.map (·.scrub tk) } : St).put d (.dat (.int .i64) (n : Int)))
  | _, _ => .fail
def Zgo (E : Env) (s : St) (d : Nat) (t u : Nat) (y : SV) : OpRes :=
 match E.elem t with
 | none => .fail
 | some (_, i) => match Zge E u i.kd y, i.bytes with
  | some ys, b + 1 => .go (Nat.ble 1 ys.length && decide (ys.length * (b + 1) ≤ LIM)) (({ s with heap := s.heap ++ [Blk.arr i.kd ys] } : St).put (some d) (.sl s.heap.length i.kd ys.length))
  | _, _ => .fail
def ZkG (E : Env) (s : St) (d : Option Nat) (b : Builtin) (ts : List Nat) (args : List SV) : Option OpRes :=
 match b, ts, args with
 | .len, [t], [.sl _ _ n] => some (match E.elem t with
  | some _ => .go true (s.put d (.dat (.int .i64) (n : Int)))
  | none => .fail)
 | .append, [t, u], [x, .sl b k n] => match d with
  | some d => match Zgt k n (getB s.heap b) with
   | some (ok, xs) => match ZdB E s d t u x (.dat (.slice k) xs) with
    | .go ok' s' => some (.go (ok && ok') s')
    | _ => some .fail
   | none => some .fail
  | none => some .fail
 | .copy, [t, u], [.raw tk k n, y] => some (ZkQ E s d t u tk k n y)
 | .append, [t, u], [.fresh _ [], y] => match d with
  | some d => match isIn d E.muts with
   | true => some (Zgo E s d t u y)
   | false => none
  | none => none
 | _, _, _ => none
def ZhC (s : St) (d : Option Nat) : Kd → List (Nat × SV) → Option OpRes
 | .arr n k, parts => some (match Zdl k (List.replicate n k.zero) parts with
  | some xs => .go true (s.put d (.dat (.arr n k) xs))
  | none => .fail)
 | _, _ => none
def Kd.two : Kd → Option (Nat × IntKind)
 | .arr n k => match Nat.beq n 2 || Nat.beq n 4, k with
  | true, .int q => some (n, q)
  | _, _ => none
 | _ => none
def asTwo (k : Kd) (q : Nat × IntKind) (x : k.T) : Option (List Int) := ZbD (a := k) (b := .arr q.1 (.int q.2)) x
def ZrH (E : Env) (s : St) (d : Option Nat) (op : BinOp) (t : Nat) (x y : SV) : Option OpRes :=
 match look E.tys t with
 | some i => match i.kd.two, x, y with
  | some q, .dat k a, .dat k' b => some (match asTwo k q a, asTwo k' q b with
   | some xs, some ys => match op with
    | .eql => .go true (s.put d (.dat .bool (xs == ys)))
    | .neq => .go true (s.put d (.dat .bool (!(xs == ys))))
    | _ => .fail
   | _, _ => .fail)
  | _, _, _ => none
 | none => none
def ZhD (E : Env) (s : St) (d : Option Nat) (t : Nat) (x ix : SV) : Option OpRes :=
 match x with
 | .dat (.arr n k) xs => match asInt ix, E.ty t with
  | some (_, i), some it => match decEq it.kd (.arr n k), k.agg with
   | isTrue _, false => some (.go (decide (0 ≤ i) && decide (i < (n : Int))) (s.put d (.dat k (xs.getD i.toNat k.zero))))
   | _, _ => none
  | _, _ => none
 | _ => none
def ZhT (E : Env) (s : St) (d : Option Nat) (t u : Nat) (x : SV) : Option OpRes :=
 match E.ty t, E.elem u with
 | some it, some (_, ie) => match it.kd, ie.kd with
  | .str, .int .u8 => match asStr x with
   | some l => some (.go true (s.put d (.dat (.slice (.int .u8)) l)))
   | none => none
  | _, _ => none
 | _, _ => none
def Zod (E : Env) (s : St) (d : Nat) (t : Nat) (x : SV) (lo : Option SV) : Option OpRes :=
 match x with
 | .own tk k xs => match Zfb lo 0, E.elem t with
  | some l, some (_, ie) => match decEq ie.kd k with
   | isTrue _ => some (.go (decide (0 ≤ l) && decide (l ≤ (xs.length : Int))) ((((s.scrub d).scrub tk).scrub d).put (some d) (.own d k (xs.drop l.toNat))))
   | isFalse _ => none
  | _, _ => none
 | _ => none
def Zom (E : Env) (s : St) (d : Option Nat) (t : Nat) : Option OpRes :=
 match look E.maps t with
 | some k => some (.go true (({ s with heap := s.heap ++ [Blk.mp k []] } : St).put d (.mp s.heap.length)))
 | none => none
def Zsf (E : Env) (s : St) (d : Option Nat) (t b : Nat) (k x : SV) : OpRes :=
 match getB s.heap b, look E.maps t, asInt k, asBool x with
 | some (.mp q es), some q', some (q'', n), some v => match decEq q q', decEq q q'' with
  | isTrue _, isTrue _ => .go true (({ s with heap := setB s.heap b (.mp q (mset es n v)) } : St).put d .undef)
  | _, _ => .fail
 | _, _, _, _ => .fail
def Zqj (E : Env) (o : Oper) (s : St) : Option OpRes :=
 match o.op with
 | .slice t x lo hi mx => match o.dst, hi, mx with
  | some d, none, none => match isIn d E.tails with
   | true => Zod E s d t (s.eval x) (lo.map s.eval)
   | false => none
  | _, _, _ => none
 | .alloc t => match o.dst with
  | none => none
  | some d => match isIn d E.muts with
   | true => some (ZhK E s d t)
   | false => none
 | .makeSlice t len cap => match o.dst with
  | none => none
  | some d => match isIn d E.muts with
   | true => some (ZkI E s d t (s.eval len) (s.eval cap))
   | false => match isIn d E.raws with
    | true => some (ZkR E s d t (s.eval len) (s.eval cap))
    | false => none
 | .buildSlice t len parts => match o.dst with
  | none => none
  | some d => match isIn d E.muts with
   | true => some (ZhL E s d t len (parts.toList.map fun (j, x) => (j, s.eval x)))
   | false => none
 | .indexAddr t x ix => match s.eval x with
  | .sl b k n => some (Zfz E s o.dst t b k n (s.eval ix))
  | _ => none
 | .load t a => match s.eval a with
  | .eptr b k n i => some (ZkH E s o.dst t b k n i)
  | _ => none
 | .store t a x => match s.eval a with
  | .eptr b k n i => some (ZhM E s o.dst t b k n i ((s.eval x).typed (E.ty t)))
  | _ => none
 | .call c => match c.callee with
  | .builtin b => ZkG E s o.dst b c.argTypes.toList (c.args.toList.map s.eval)
  | _ => none
 | .build t parts => match E.ty t with
  | some i => ZhC s o.dst i.kd (parts.toList.map fun (j, x) => (j, s.eval x))
  | none => none
 | .binOp op t x y _ => ZrH E s o.dst op t (s.eval x) (s.eval y)
 | .convert t u x => ZhT E s o.dst t u (s.eval x)
 | .index t x ix => ZhD E s o.dst t (s.eval x) (s.eval ix)
 | .makeMap t r => match r with
  | none => Zom E s o.dst t
  | some _ => none
 | .mapUpdate t m k x => match s.eval m with
  | .mp b => some (Zsf E s o.dst t b (s.eval k) (s.eval x))
  | _ => none
 | _ => none
def rowC (k : Kd) (n : Nat) (b : Option Blk) : Option (Bool × List k.T) :=
 match b with
 | some (.cells cs) => match (Kd.arr n k).join cs with
  | some (x, []) => some (true, x)
  | _ => none
 | b => Zgt k n b
def Zsc (s : St) (k : Kd) (v : SV) : Option (Bool × k.T) :=
 match v, k with
 | .ptr b 0, .rp (.arr n k') => rowC k' n (getB s.heap b)
 | .sl b _ n, .slice k' => Zgt k' n (getB s.heap b)
 | .rm b _ n c, .slice k' => (Zgt k' c (getB s.heap b)).map fun q => (q.1, q.2.take n)
 | v, k => (v.as k).map fun x => (true, x)
def ZhI (s : St) : (ks : List Kd) → List SV → Option (Bool × (Kd.struct ks).T)
 | [], [] => some (true, ())
 | k :: ks, v :: vs => (Zsc s k v).bind fun x => (ZhI s ks vs).bind fun y => some (x.1 && y.1, x.2, y.2)
 | _, _ => none
def isLent : SV → Bool
 | .ptr _ _ => true
 | .sl _ _ _ => true
 | .rm _ _ _ _ => true
 | _ => false
def ZlC (E : Env) (n : Nat) (o : Oper) (s : St) : Option (Bool × OpRes) :=
 match o.op with
 | .call c => match c.callee with
  | .value f => match s.eval f with
   | .func g [] => match anyB isLent (c.args.toList.map s.eval) with
    | false => none
    | true => match look E.cons g with
     | none => none
     | some C => match allB Kd.bare C.rs with
      | false => none
      | true => match ZhI s C.ps (c.args.toList.map s.eval) with
       | none => none
       | some (ok, x) => some (ok, .call C.rs (C.f n x) (Zfm o.dst s C.rs))
   | _ => none
  | _ => none
 | _ => none
def SV.cut (m : Nat) : SV → SV
 | .ptr b o => match Nat.ble m b with
  | true => .undef
  | false => .ptr b o
 | .sl b k n => match Nat.ble m b with
  | true => .undef
  | false => .sl b k n
 | .eptr _ _ _ _ => .undef
 | .mp b => match Nat.ble m b with
  | true => .undef
  | false => .mp b
 | .rm b k n c => match Nat.ble m b with
  | true => .undef
  | false => .rm b k n c
 | .agg _ => .undef
 | .tup _ => .undef
 | .func f l => match l with
  | [] => .func f []
  | _ :: _ => .undef
 | v => v
def Blk.cut (m : Nat) : Blk → Blk
 | .cells cs => .cells (cs.map (·.cut m))
 | b => b
def ZeD : Nat → List Blk → List Blk
 | 0, _ => []
 | _ + 1, [] => []
 | n + 1, b :: r => b :: ZeD n r
def ZhQ (E : Env) (s : St) (d : Nat) (t : Nat) (len cap : SV) : OpRes :=
 match E.elem t with
 | none => .fail
 | some (_, i) => match asInt len, asInt cap, i.bytes with
  | some (.i64, l), some (.i64, c), b + 1 => .go (decide (0 ≤ l) && (decide (l ≤ c) && decide (c * (b + 1 : Nat) ≤ LIM))) (({ s with heap := s.heap ++ [Blk.arr i.kd (List.replicate c.toNat i.kd.zero)] } : St).put (some d) (.rm s.heap.length i.kd l.toNat c.toNat))
  | _, _, _ => .fail
def ZfB (E : Env) (s : St) (d : Option Nat) (t u b : Nat) (k : Kd) (n c : Nat) (y : SV) : OpRes :=
 match E.elem t, Zgt k c (getB s.heap b), Zge E u k y with
 | some (_, i), some (ok, xs), some ys => match decEq i.kd k with
  | isTrue _ => .go (ok && Nat.ble (n + ys.length) c) (({ s with heap := setB s.heap b (.arr k (xs.take n ++ ys ++ xs.drop (n + ys.length))) } : St).put d (.rm b k (n + ys.length) c))
  | isFalse _ => .fail
 | _, _, _ => .fail
def SV.frz (b : Nat) (k : Kd) (xs : List k.T) : SV → SV
 | .rm b' k' n c => cond (Nat.beq b b') (.dat (.slice k) (xs.take n)) ((SV.rm b' k' n c).cut b)
 | v => v.cut b
def Zjw (b m : Nat) : List SV → Bool
 | [] => true
 | .rm b' _ n' _ :: r => cond (Nat.beq b b') (Nat.ble n' m && Zjw b m r) (Zjw b m r)
 | _ :: r => Zjw b m r
def ZhR (E : Env) (s : St) (d : Option Nat) (t b : Nat) (k : Kd) (c : Nat) (h : SV) : OpRes :=
 match E.elem t, Zgt k c (getB s.heap b), asInt h with
 | some (_, i), some (ok, xs), some (_, q) => match decEq i.kd k with
  | isTrue _ => .go (ok && (decide (q = (c : Int)) && ((Nat.beq (b + 1) s.heap.length && Nat.ble E.base b) && Zjw b xs.length s.slots))) (({ slots := s.slots.map (SV.frz b k xs), heap := (ZeD b s.heap).map (Blk.cut b) } : St).put d (.dat (.slice k) xs))
  | isFalse _ => .fail
 | _, _, _ => .fail
def Zla (E : Env) (s : St) (d : Option Nat) (b : Nat) (k : Kd) (n c : Nat) : OpRes :=
 match Zgt k c (getB s.heap b) with
 | some (ok, xs) => .go (ok && ((Nat.beq (b + 1) s.heap.length && Nat.ble E.base b) && Zjw b xs.length s.slots)) (({ slots := s.slots.map (SV.frz b k xs), heap := (ZeD b s.heap).map (Blk.cut b) } : St).put d (.dat (.slice k) (xs.take n)))
 | none => .fail
def ZhP (E : Env) (s : St) (d : Option Nat) (b : Nat) (k : Kd) (n : Nat) : OpRes :=
 match Zgt k n (getB s.heap b) with
 | some (ok, _) => .go (ok && (Nat.beq (b + 1) s.heap.length && Nat.ble E.base b)) (({ slots := s.slots.map (SV.cut b), heap := (ZeD b s.heap).map (Blk.cut b) } : St).put d (.jk k n))
 | none => .fail
def ZhO (E : Env) (s : St) (d : Option Nat) (t : Nat) (k : Kd) (u : Nat) (y : SV) : OpRes :=
 match E.elem t with
 | none => .fail
 | some (_, i) => match decEq i.kd k, Zge E u k y with
  | isTrue _, some ys => .go (Nat.beq ys.length 0) (s.put d (.dat (.int .i64) 0))
  | _, _ => .fail
def Zgk (E : Env) (s : St) (d : Option Nat) (t : Nat) (k : Kd) (n : Nat) (ix : SV) : OpRes :=
 match asInt ix, E.elem t with
 | some (_, i), some (_, ie) => match decEq ie.kd k with
  | isTrue _ => .go (decide (0 ≤ i) && decide (i < (n : Int))) (s.put d (.jp k))
  | isFalse _ => .fail
 | _, _ => .fail
def Zgl (E : Env) (s : St) (d : Option Nat) (t : Nat) (k : Kd) (v : SV) : OpRes :=
 match E.ty t, v.as k with
 | some it, some _ => match decEq it.kd k with
  | isTrue _ => .go true (s.put d .undef)
  | isFalse _ => .fail
 | _, _ => .fail
def ZkX (E : Env) (s : St) (d : Option Nat) (t b : Nat) (k : Kd) (n c : Nat) (lo : SV) : OpRes :=
 match E.elem t, asInt lo with
 | some _, some (_, l) => .go (decide (l = 0)) (s.put d (.rm b k n c))
 | _, _ => .fail
def Zfx (E : Env) (s : St) (d : Nat) (t u : Nat) (y : SV) : OpRes :=
 match E.elem t with
 | none => .fail
 | some (_, i) => match Zge E u i.kd y, i.bytes with
  | some ys, b + 1 => .go (decide (ys.length * (b + 1) ≤ LIM)) (s.put (some d) (.jk i.kd ys.length))
  | _, _ => .fail
def ZkZ (E : Env) (s : St) (d : Option Nat) (b : Builtin) (ts : List Nat) (args : List SV) : Option OpRes :=
 match b, ts, args with
 | .append, [t, u], [.fresh _ [], y] => match d with
  | some d => match isIn d E.shuts with
   | true => some (Zfx E s d t u y)
   | false => none
  | none => none
 | .append, [t, u], [.rm b k n c, y] => some (ZfB E s d t u b k n c y)
 | .len, [t], [.rm _ _ n _] => some (match E.elem t with
  | some _ => .go true (s.put d (.dat (.int .i64) (n : Int)))
  | none => .fail)
 | .len, [t], [.jk _ n] => some (match E.elem t with
  | some _ => .go true (s.put d (.dat (.int .i64) (n : Int)))
  | none => .fail)
 | .copy, [t, u], [.rm _ k _ _, y] => some (ZhO E s d t k u y)
 | .cap, [t], [.rm _ _ _ c] => some (match E.elem t with
  | some _ => .go true (s.put d (.dat (.int .i64) (c : Int)))
  | none => .fail)
 | _, _, _ => none
def moFrz (s : St) (d : Nat) (k : Kd) (xs : List k.T) : OpRes := .go true ((s.scrub 1100000000000).put (some d) (.dat (.slice k) xs))
def ZlG (E : Env) (o : Oper) (s : St) : Option OpRes :=
 match E.rooms with
 | [] => none
 | _ :: _ => match o.op with
  | .load t x => match o.dst with
   | some d => match isIn d E.shuts with
    | true => match Zhd E s t (E.asR (s.eval x)) with
     | some (.mo k xs) => some (moFrz s d k xs)
     | _ => none
    | false => none
   | none => none
  | .makeSlice t len cap => match o.dst with
   | some d => match isIn d E.rooms with
    | true => some (ZhQ E s d t (s.eval len) (s.eval cap))
    | false => none
   | none => none
  | .call c => match c.callee with
   | .builtin b => ZkZ E s o.dst b c.argTypes.toList (c.args.toList.map s.eval)
   | _ => none
  | .slice t x lo hi mx => match s.eval x, lo, hi, mx with
   | .rm b k _ c, none, some h, none => some (ZhR E s o.dst t b k c (s.eval h))
   | .rm b k n c, some l, none, none => some (ZkX E s o.dst t b k n c (s.eval l))
   | _, _, _, _ => none
  | .indexAddr t x ix => match s.eval x with
   | .rm b k n _ => some (Zfz E s o.dst t b k n (s.eval ix))
   | .jk k n => some (Zgk E s o.dst t k n (s.eval ix))
   | _ => none
  | .store t x y => match s.eval x with
   | .jp k => some (Zgl E s o.dst t k ((s.eval y).typed (E.ty t)))
   | _ => none
  | .move x => match o.dst with
   | some d => match isIn d E.shuts with
    | true => match s.eval x with
     | .rm b k n c => some (Zla E s (some d) b k n c)
     | .sl b k n => some (ZhP E s (some d) b k n)
     | _ => none
    | false => none
   | none => none
  | _ => none
noncomputable def Zoc {β : Type} (E : Env) (n : Nat) (o : Oper) (s : St) (K : St → Option β) : Option β :=
 match ZlG E o s with
 | some r => after r K
 | none => match Zqj E o s with
  | some r => after r K
  | none => match ZlC E n o s with
   | some (ok, r) => match ok with
    | true => after r K
    | false => none
   | none => evDo E n o s K
noncomputable def Zjl {β : Type} (E : Env) (n : Nat) (ops : List Oper) : List Oper → St → (St → Option β) → Option β
 | [], s, K => K s
 | o :: rest, s, K => match o.guard with
  | none => match ZqQ E o s with
   | some (is, sl) => ZrS o is sl s fun s => Zjl E n ops rest s K
   | none => Zoc E n o s fun s => Zjl E n ops rest s K
  | some (j, want) => Zkp ops s j want (fun s => Zoc E n o s fun s => Zjl E n ops rest s K)
    (fun s => (s.put o.dst Zjx).force fun s => Zjl E n ops rest s K)
def Zcq : Nat → Bool := fun _ => false
def SV.toksQ : SV → List Nat
 | .own t _ _ => [t]
 | _ => []
def SV.toks : SV → List Nat
 | .own t _ _ => [t]
 | .raw t _ _ => [t]
 | .mo _ _ => [1100000000000]
 | .mq _ _ _ => [1100000000000]
 | .tup l => l.flatMap SV.toksQ
 | _ => []
def Blk.toks : Blk → List Nat
 | .cells cs => cs.flatMap SV.toks
 | .arr _ _ => []
 | .mp _ _ => []
def Zhq (h : List Blk) (b : Nat) : List Nat :=
 match getB h b with
 | some blk => blk.toks
 | none => []
structure Ft where
 rd : List Nat
 wr : List Nat
 new : Bool
 hard : Bool
 P : Nat → Bool
 chS : List Nat
 chB : List Nat
 lk : List Nat
 ow : List Nat
def meet (l m : List Nat) : Bool := anyB (fun x => isIn x m) l
def Ft.bad (F G : Ft) : Bool := F.hard && (G.hard || (anyB F.P G.ow || (meet G.lk F.chS || (meet G.rd F.chB || meet G.wr F.chB))))
def Ft.clash (F G : Ft) : Bool :=
 (F.new && G.new) || ((F.wr.any (fun b => G.rd.any (Nat.beq b) || G.wr.any (Nat.beq b)) || F.rd.any fun b => G.wr.any (Nat.beq b)) || (F.bad G || G.bad F))
def lev (E : Env) (o : Oper) : Nat :=
 match Zch E o with
 | some (Cs, _) => cond (allB (fun C => Nat.beq C.level 0) Cs) 0 (cond (allB (fun C => Nat.beq C.level 1) Cs) 1 2)
 | none => match o.op with
  | .makeSlice _ _ _ => 1
  | .select _ _ => 2
  | .store _ _ _ => cond E.grows 2 0
  | .call c => match c.callee with
   | .builtin .append => 1
   | _ => 0
  | _ => 0
def ZcI (E : Env) (o : Oper) (s s1 : St) : List Nat × List Nat :=
 match Zch E o with
 | some (Cs, args) => match ZeZ Cs args.toList s with
  | some q => ([], q.ms ++ ZcA s.heap.length (s1.heap.length - s.heap.length))
  | none => ([], [])
 | none => match o.op with
  | .load _ a => match s.eval a with
   | .ptr b _ => ([b], [])
   | .eptr b _ _ _ => ([b], [])
   | _ => ([], [])
  | .store _ a _ => match s.eval a with
   | .ptr b _ => ([], [b])
   | _ => ([], [])
  | .box _ _ | .alloc _ => ([], [s.heap.length])
  | .lookup _ m _ _ => match s.eval m with
   | .mp b => ([b], [])
   | _ => ([], [])
  | .call c => match c.callee with
   | .value _ => match anyB SV.isPtr (c.args.toList.map s.eval) with
    | true => (ZcA 0 s.heap.length, [])
    | false => ([], [])
   | _ => ([], [])
  | _ => ([], [])
def ZtS : Operand → List Nat
 | .tmp t => [t]
 | _ => []
def ZcG (ops : List Oper) (o : Oper) : List Nat :=
 o.op.operands.toList.flatMap ZtS ++ (match o.guard with
 | some (j, _) => (ZcM ops j).toList
 | none => [])
def Zhv (E : Env) (o : Oper) (s : St) : Nat → Bool :=
 match Zch E o with
 | some (Cs, args) => match ZeZ Cs args.toList s with
  | some q => cond q.C.res (ZfG false false true [] 0 (o.dst.getD 0)) Zcq
  | none => Zcq
 | none => match o.op with
  | .makeSlice _ _ _ => Nat.beq (o.dst.getD 0)
  | .call c => match c.args.toList with
   | x :: _ => match s.eval x with
    | .own t _ _ => Nat.beq t
    | .mo _ _ => Nat.beq 1100000000000
    | _ => Nat.beq (o.dst.getD 0)
   | [] => Zcq
  | _ => Zcq
def hitS (P : Nat → Bool) : List SV → Nat → List Nat
 | [], _ => []
 | v :: r, i => cond (anyB P v.toks) (i :: hitS P r (i + 1)) (hitS P r (i + 1))
def hitB (P : Nat → Bool) : List Blk → Nat → List Nat
 | [], _ => []
 | v :: r, i => cond (anyB P v.toks) (i :: hitB P r (i + 1)) (hitB P r (i + 1))
def dstL (d : Option Nat) : List Nat :=
 match d with
 | some d => [d]
 | none => []
def ZtT (lk : List Nat) (d : Option Nat) (bs : List Nat) (s s1 : St) : List Nat :=
 lk.flatMap (fun t => (getN s.slots t).toks) ++ ((dstL d).flatMap (fun t => (getN s1.slots t).toks) ++ (bs.flatMap (Zhq s.heap) ++ bs.flatMap (Zhq s1.heap)))
def foot (E : Env) (ops : List Oper) (o : Oper) (s s1 : St) : Ft :=
 {rd := (ZcI E o s s1).1, wr := (ZcI E o s s1).2, new := Nat.blt s.heap.length s1.heap.length, hard := Nat.ble 1 (lev E o),
  P := cond (Nat.ble 1 (lev E o)) (Zhv E o s) Zcq, chS := cond (Nat.ble 1 (lev E o)) (hitS (Zhv E o s) s.slots 0) [], chB := cond (Nat.ble 1 (lev E o)) (hitB (Zhv E o s) s.heap 0) [],
  lk := ZcG ops o ++ dstL o.dst, ow := ZtT (ZcG ops o ++ dstL o.dst) o.dst ((ZcI E o s s1).1 ++ (ZcI E o s s1).2) s s1 }
def Zro (s : St) (d : Nat) (dst : Option Nat) : Ft := { rd := [], wr := [], new := false, hard := false, P := Zcq, chS := [], chB := [], lk := d :: dstL dst, ow := (d :: dstL dst).flatMap fun t => (getN s.slots t).toks }
def apart (dx : Option Nat) (lx : List Nat) (dy : Option Nat) (ly : List Nat) : Bool :=
 (match dx with
 | some d => !(isIn d ly) && (match dy with
  | some e => !(Nat.beq d e)
  | none => true)
 | none => true) && (match dy with
 | some e => !(isIn e lx)
 | none => true)
def ZkF (L : List Nat) : List Edge → Nat
 | [] => 0
 | e :: r => cond (Region.binds .any e) ((1 <<< e.on) ||| (L.getD e.on 0 ||| ZkF L r)) (ZkF L r)
def Zcn : List Oper → List Nat → List Nat
 | [], L => L
 | o :: r, L => Zcn r (L ++ [ZkF L o.after.toList])
def Zie (i : Nat) : List Edge → Bool
 | [] => true
 | e :: r => (!(Region.binds .any e) || Nat.blt e.on i) && Zie i r
def ZqS (E : Env) (ops : List Oper) (o : Oper) (lo : List Nat) (m : Nat) (sk : Nat) : List Oper → Nat → Bool
 | [], _ => true
 | x :: r, i => ((Nat.testBit m i || Nat.beq i sk) || (!(Nat.ble 2 (lev E o)) && (!(Nat.ble 2 (lev E x)) && apart x.dst (ZcG ops x) o.dst lo))) && ZqS E ops o lo m sk r (i + 1)
def ZfL (E : Env) (ops : List Oper) (ms : List Nat) (sk : Nat) : List Oper → Nat → Bool
 | [], _ => true
 | o :: r, i => (Zie i o.after.toList && (Nat.beq i sk || ZqS E ops o (ZcG ops o) (ms.getD i 0) sk (ops.take i) 0)) && ZfL E ops ms sk r (i + 1)
structure First where
 j : Nat
 d : Nat
 c : Value
 t : TypeId
def Zos : List Edge → Bool
 | [] => true
 | e :: r => !(Region.binds .any e) && Zos r
def ZiI (o : Oper) : Bool :=
 match o.op with
 | .select _ _ => false
 | _ => true
def ZrJ (ops : List Oper) (j d : Nat) : List Oper → Nat → Bool
 | [], _ => true
 | o :: r, i => (Nat.beq i j || (!(isIn d (ZcG ops o)) && (match o.dst with
  | some e => !(Nat.beq e d)
  | none => true))) && (ZiI o && ZrJ ops j d r (i + 1))
def ZmT (E : Env) (id : Nat) (ops : List Oper) : Option First :=
 match look E.firsts id with
 | none => none
 | some j => match ops[j]? with
  | none => none
  | some o => match o.op, o.guard, o.dst with
   | .move (.const c), none, some d => match Zos o.after.toList && ZrJ ops j d ops 0 with
    | true => some ⟨j, d, c, o.type⟩
    | false => none
   | _, _, _ => none
def ZdF (j : Nat) : List (Nat × Oper) → List (Nat × Oper)
 | [] => []
 | q :: r => cond (Nat.beq q.1 j) (ZdF j r) (q :: ZdF j r)
def ZmS (ms : List Nat) (ex : Nat × Nat) : List (Nat × Ft) → Bool
 | [] => true
 | (i, F) :: r => allB (fun q : Nat × Ft => Nat.testBit (ms.getD i 0) q.1 || ((Nat.beq q.1 ex.1 && Nat.beq i ex.2) || !(q.2.clash F))) r && ZmS ms ex r
def Zem {β : Type} (E : Env) (n : Nat) (ops : List Oper) (ms : List Nat) (ex : Nat × Nat) : List (Nat × Oper) → St → List (Nat × Ft) → (St → Option β) → Option β
 | [], s, fs, K => match ZmS ms ex fs with
  | true => K s
  | false => none
 | (i, o) :: rest, s, fs, K => match o.guard with
  | none => evDo E n o s fun s1 => Zem E n ops ms ex rest s1 ((i, foot E ops o s s1) :: fs) K
  | some (j, want) => match ZcM ops j with
   | none => none
   | some d => Zkp ops s j want (fun s => evDo E n o s fun s1 => Zem E n ops ms ex rest s1 ((i, foot E ops o s s1) :: fs) K)
    (fun s => (s.put o.dst Zjx).force fun s1 => Zem E n ops ms ex rest s1 ((i, Zro s d o.dst) :: fs) K)
def Zhw : List Oper → Nat → List (Nat × Oper)
 | [], _ => []
 | o :: r, i => (i, o) :: Zhw r (i + 1)
def Zes (ops : List Oper) : List Nat → List (Nat × Oper)
 | [] => []
 | i :: r => match ops[i]? with
  | some o => (i, o) :: Zes ops r
  | none => Zes ops r
def ordB (ms : List Nat) : List Nat → Bool
 | [] => true
 | k :: r => allB (fun i => !(Nat.testBit (ms.getD k 0) i) && !(Nat.beq k i)) r && ordB ms r
def ordOk (ms : List Nat) (n : Nat) (l : List Nat) : Bool := Nat.beq l.length n && (allB (fun i => isIn i l) (List.range n) && ordB ms l)
def ZcH (i b : Nat) : Nat := cond (Nat.beq b i) (i + 1) (cond (Nat.beq b (i + 1)) i b)
def SV.swap1 (i : Nat) : SV → SV
 | .ptr b o => .ptr (ZcH i b) o
 | .rm b k n c => .rm (ZcH i b) k n c
 | v => v
def SV.swap (i : Nat) : SV → SV
 | .ptr b o => .ptr (ZcH i b) o
 | .sl b k n => .sl (ZcH i b) k n
 | .eptr b k n q => .eptr (ZcH i b) k n q
 | .mp b => .mp (ZcH i b)
 | .rm b k n c => .rm (ZcH i b) k n c
 | .tup l => .tup (l.map (SV.swap1 i))
 | .agg l => .agg (l.map (SV.swap1 i))
 | .func f l => .func f (l.map (SV.swap1 i))
 | v => v
def Blk.swap (i : Nat) : Blk → Blk
 | .cells cs => .cells (cs.map (SV.swap1 i))
 | b => b
def Zmv : Nat → List Blk → List Blk
 | 0, x :: y :: r => y :: x :: r
 | n + 1, x :: r => x :: Zmv n r
 | _, l => l
def St.swap (s : St) (i : Nat) : St := { slots := s.slots.map (SV.swap i), heap := (Zmv i s.heap).map (Blk.swap i) }
noncomputable def Zkq {β : Type} (E : Env) (n : Nat) (id : Nat) (ops : List Oper) (draw : Bool) (s : St) (K : St → Option β) : Option β :=
 match draw with
 | false => Zjl E n ops ops s K
 | true => match ZmT E id ops with
  | some q => match ZfL E ops (Zcn ops []) q.j ops 0 with
   | true => Zem E n ops (Zcn ops []) (0, 0) (ZdF q.j (Zhw ops 0)) (s.put (some q.d) ((SV.cst q.c).typed (E.ty q.t))) [] K
   | false => none
  | none => match ZfL E ops (Zcn ops []) ops.length ops 0 with
   | true => match look E.twos id with
    | none => Zem E n ops (Zcn ops []) (0, 0) (Zhw ops 0) s [] K
    | some (x, y, i, l) => match ordOk (Zcn ops []) ops.length l && Nat.ble E.base i with
     | true => both (Zem E n ops (Zcn ops []) (x, y) (Zhw ops 0) s [] K) (Zem E n ops (Zcn ops []) (y, x) (Zes ops l) s [] fun s => match Nat.ble (i + 2) s.heap.length with
      | true => (s.swap i).force K
      | false => none)
     | false => none
   | false => none
inductive Ex where
 | normal | exit (id : Nat) | ret
def Ex.tag : Ex → Nat
 | .normal => 0
 | .ret => 1
 | .exit id => id + 2
def key : Code → Nat
 | .region id _ _ => id
 | .seq a _ => key a
 | .block _ c => key c
 | .loop c => key c
 | .scope c => key c
 | .cond (.tmp t) a b => 1000 * (t + 1) + (match key a with
  | 0 => key b
  | k => k)
 | _ => 0
def ZdD (m : Nat) (keep : List Nat) : Nat → List SV → List SV
 | _, [] => []
 | i, v :: r => (match keep.any (Nat.beq i) with
  | true => v.cut m
  | false => .undef) :: ZdD m keep (i + 1) r
def Blk.clear : Blk → Blk
 | .cells cs => .cells (cs.map fun _ => .undef)
 | b => b
def clearAll : List Nat → List Blk → List Blk
 | [], h => h
 | b :: r, h => clearAll r (match getB h b with
  | some x => setB h b x.clear
  | none => h)
def Cut.apply1 (nm : Cut) (s : St) : Option St :=
 match St.shuts { slots := ZdD nm.heap nm.keep 0 s.slots, heap := clearAll nm.dead ((ZeD nm.heap s.heap).map (·.cut nm.heap)) } (nm.shut.map (fun x => (.slot x.1, x.2)) ++ nm.cshut.map (fun x => (.cell x.1 x.2.1, x.2.2))) with
 | some s => s.retags (nm.retag.map (fun x => (.slot x.1, x.2)) ++ nm.cretag.map (fun x => (.cell x.1 x.2.1, x.2.2)))
 | none => none
def minL : Nat → List Nat → Nat
 | h, [] => h
 | h, i :: l => minL (cond (Nat.ble i h) i h) l
def Cut.floor (nm : Cut) : Nat := minL nm.heap nm.swaps
def St.swapAll : List Nat → St → St
 | [], s => s
 | i :: l, s => St.swapAll l (cond (Nat.blt (i + 1) s.heap.length) (s.swap i) s)
def Cut.apply (nm : Cut) (s : St) : Option St := nm.apply1 (s.swapAll nm.swaps)
def ZoV {β : Type} (nm : Cut) (s : St) (K : St → Option β) : Option β :=
 match nm.apply s with
 | some s => s.force K
 | none => none
def Zpm {β : Type} (nm : Norm) (e : Ex) (s : St) (K : Ex → St → Option β) : Option β :=
 match look nm.outs e.tag with
 | some c => ZoV c s (K e)
 | none => none
def Zij {β : Type} (body : St → (Ex → St → Option β) → Option β) (nm : Norm) (K : Ex → St → Option β) : Nat → St → Option β
 | 0, _ => none
 | n + 1, s => s.force fun s => body s fun e s => match e with
   | .normal => ZoV nm.into s (Zij body nm K n)
   | e => Zpm nm e s K
abbrev LP (β : Type) := Bool → Nat → (St → (Ex → St → Option β) → Option β) → Norm → (Ex → St → Option β) → St → Option β
noncomputable def evK {β : Type} (E : Env) (lp : LP β) (n : Nat) : Code → St → (Ex → St → Option β) → Option β
 | .skip, s, K => K .normal s
 | .region id ops draw, s, K => Zkq E n id ops.toList draw s (K .normal)
 | .seq a b, s, K => evK E lp n a s fun e s => match e with
  | .normal => match look E.cuts (key b) with
   | none => evK E lp n b s K
   | some nm => ZoV nm.into s fun s => lp false (key b) (evK E lp n b) nm K s
  | e => K e s
 | .cond c a b, s, K => match asBool (s.eval c) with
  | none => none
  | some t => match t with
   | true => evK E lp n a s K
   | false => evK E lp n b s K
 | .block id c, s, K => evK E lp n c s fun e s => match e with
  | .exit j => match Nat.beq j id with
   | true => K .normal s
   | false => K (.exit j) s
  | e => K e s
 | .loop c, s, K => match look E.loops (key c) with
  | some nm => ZoV nm.into s fun s => lp true (key c) (evK E lp n c) nm K s
  | none => none
 | .exit id, s, K => K (.exit id) s
 | .ret, s, K => K .ret s
 | .label _, s, K => K .normal s
 | .scope c, s, K => evK E lp n c s K
 | _, _, _ => none
def ZdL (E : Env) (s : St) : ResultVar → Option SV
 | .tmp t => some (getN s.slots t)
 | .cell a t => Zhd E s t (getN s.slots a)
def ZpA (E : Env) (s : St) : (rs : List Kd) → List ResultVar → Option (Kd.struct rs).T
 | [], [] => some ()
 | k :: ks, r :: l => (ZdL E s r).bind fun v => (v.as k).bind fun x => (ZpA E s ks l).bind fun y => some (x, y)
 | _, _ => none
def start (fn : Func) (ps : List Kd) (x : (Kd.struct ps).T) : St :=
 {slots := ZeW ps x ++ List.replicate (fn.ntmps - ps.length) .undef, heap := [] }
noncomputable def ZjG (E : Env) (fn : Func) (c : Code) (ps rs : List Kd) (lp : LP (Kd.struct rs).T) (n : Nat) (x : (Kd.struct ps).T) : Option (Kd.struct rs).T :=
 (start fn ps x).force fun s => evK E lp n c s fun e s => match e with
  | .exit _ => none
  | _ => ZpA E s rs fn.results.toList
def Ztj (fn : Func) (ps : List Pk) (x : PT ps) : St :=
 {slots := (ZbF ps x 0 0).1 ++ List.replicate (fn.ntmps - ps.length) .undef, heap := (ZbF ps x 0 0).2 }
def beqN : List Nat → List Nat → Bool
 | [], [] => true
 | x :: l, y :: m => Nat.beq x y && beqN l m
 | _, _ => false
def ZfJ : (ps : List Pk) → List Blk → Nat → Option (BT ps)
 | [], _, _ => some ()
 | .obj o :: ps, h, nx => match getB h nx with
  | some (.cells cs) => (o.get h cs nx 0).bind fun c => match beqN c.2 (ZcA (nx + 1) o.cnt) && Nat.ble cs.length 50 with
   | true => (ZfJ ps h (nx + (1 + o.cnt))).map fun y => (c.1, y)
   | false => none
  | _ => none
 | .dat _ :: ps, h, nx => ZfJ ps h nx
 | .own _ :: ps, h, nx => ZfJ ps h nx
 | .nil :: ps, h, nx => ZfJ ps h nx
 | .fn _ :: ps, h, nx => ZfJ ps h nx
 | .room k :: ps, h, nx => match getB h nx with
  | some (.arr k' xs) => (ZbD (a := .slice k') (b := .slice k) xs).bind fun xs => (ZfJ ps h (nx + 1)).map fun y => (xs, y)
  | _ => none
def ZhY : List Pk → List Blk → Nat → List (Pl × Nat × Kd)
 | [], _, _ => []
 | .obj o :: ps, h, nx => (match getB h nx with
  | some (.cells cs) => (o.owns h cs nx 0).map fun q => (Pl.cell q.1 q.2.1, tokC q.1 q.2.1, q.2.2)
  | _ => []) ++ ZhY ps h (nx + (1 + o.cnt))
 | .dat _ :: ps, h, nx => ZhY ps h nx
 | .own _ :: ps, h, nx => ZhY ps h nx
 | .nil :: ps, h, nx => ZhY ps h nx
 | .fn _ :: ps, h, nx => ZhY ps h nx
 | .room _ :: ps, h, nx => ZhY ps h (nx + 1)
def resPl (s : St) : ResultVar → Option Pl
 | .tmp t => some (.slot t)
 | .cell a _ => match getN s.slots a with
  | .ptr b o => some (.cell b o)
  | _ => none
def resP (s : St) : List Rk → List ResultVar → Nat → List (Pl × Nat × Kd)
 | .own k :: rs, r :: l, j => (match resPl s r with
  | some pl => [(pl, tokR j, k)]
  | none => []) ++ resP s rs l (j + 1)
 | .ref o :: rs, r :: l, j => (match resPl s r with
  | some pl => match s.at pl with
   | .ptr b 0 => match getB s.heap b with
    | some (.cells cs) => (o.owns s.heap cs b 0).map fun q => (Pl.cell q.1 q.2.1, tokC q.1 q.2.1, q.2.2)
    | _ => []
   | _ => []
  | none => []) ++ resP s rs l (j + 1)
 | .dat _ :: rs, _ :: l, j => resP s rs l (j + 1)
 | .jk _ :: rs, _ :: l, j => resP s rs l (j + 1)
 | .js _ :: rs, _ :: l, j => resP s rs l (j + 1)
 | .rin _ _ :: rs, _ :: l, j => resP s rs l (j + 1)
 | .row _ :: rs, _ :: l, j => resP s rs l (j + 1)
 | _, _, _ => []
def resG (E : Env) (s : St) : (rs : List Rk) → List ResultVar → Nat → Option (RT rs × List Nat)
 | [], l, _ => match l with
  | [] => some ((), [])
  | _ => none
 | .dat k :: rs, l, j => match l with
  | r :: l => (ZdL E s r).bind fun v => (v.as k).bind fun x => (resG E s rs l (j + 1)).map fun y => ((x, y.1), y.2)
  | [] => none
 | .own k :: rs, l, j => match l with
  | r :: l => match ZdL E s r with
   | some (.own t k' xs) => match Nat.beq t (tokR j) with
    | true => (ZbD (a := .slice k') (b := .slice k) xs).bind fun xs => (resG E s rs l (j + 1)).map fun y => ((xs, y.1), y.2)
    | false => none
   | _ => none
  | [] => none
 | .ref o :: rs, l, j => match l with
  | r :: l => match ZdL E s r with
   | some (.ptr b 0) => match getB s.heap b with
    | some (.cells cs) => match Nat.ble cs.length 50 with
     | true => (o.get s.heap cs b 0).bind fun c => (resG E s rs l (j + 1)).map fun y => ((some c.1, y.1), (b :: c.2) ++ y.2)
     | false => none
    | _ => none
   | some (.cst (.pointer none)) => (resG E s rs l (j + 1)).map fun y => ((none, y.1), y.2)
   | _ => none
  | [] => none
 | .jk k :: rs, l, j => match l with
  | r :: l => match ZdL E s r with
   | some (.jk k' n) => match decEq k' k with
    | isTrue _ => (resG E s rs l (j + 1)).map fun y => ((n, y.1), y.2)
    | isFalse _ => none
   | some (.cst (.slice none 0 0)) => (resG E s rs l (j + 1)).map fun y => ((0, y.1), y.2)
   | _ => none
  | [] => none
 | .js q :: rs, l, j => match l with
  | r :: l => match ZdL E s r with
   | some (.agg cs) => (ZlN q cs).bind fun x => (resG E s rs l (j + 1)).map fun y => ((x, y.1), y.2)
   | _ => none
  | [] => none
 | .rin i k :: rs, l, j => match l with
  | r :: l => match ZdL E s r with
   | some (.rm b k' n c) => match Nat.beq b i, decEq k' k with
    | true, isTrue _ => (resG E s rs l (j + 1)).map fun y => (((n, c), y.1), y.2)
    | _, _ => none
   | _ => none
  | [] => none
 | .row k :: rs, l, j => match l with
  | r :: l => match ZdL E s r with
   | some (.rm b k' n c) => match decEq k' k, getB s.heap b with
    | isTrue _, some (.arr k'' xs) => (ZbD (a := .slice k'') (b := .slice k) xs).bind fun xs => (resG E s rs l (j + 1)).map fun y => (((xs, n, c), y.1), b :: y.2)
    | _, _ => none
   | _ => none
  | [] => none
def Rk.inN (N : Nat) : Rk → Bool
 | .rin i _ => Nat.blt i N
 | .jk _ => true
 | .js _ => true
 | .dat _ => true
 | .own _ => true
 | .ref _ => true
 | .row _ => true
def Zqq (E : Env) (ps : List Pk) (rs : List Rk) (N : Nat) (results : List ResultVar) (s : St) : Option (RT rs × BT ps) :=
 match s.retags (ZhY ps s.heap 0 ++ resP s rs results 0) with
 | none => none
 | some s => (ZfJ ps s.heap 0).bind fun b => (resG E s rs results 0).bind fun r => match ZiG (ZcA 0 N ++ r.2) && (Nat.blt s.heap.length 1000000 && (Nat.ble (N + r.2.length) s.heap.length && (Nat.ble N E.base && allB (Rk.inN N) rs))) with
  | true => some (r.1, b)
  | false => none
noncomputable def ZgJ (E : Env) (fn : Func) (c : Code) (ps : List Pk) (rs : List Rk) (lp : LP (RT rs × BT ps)) (n : Nat) (x : PT ps) : Option (RT rs × BT ps) :=
 (Ztj fn ps x).force fun s => evK E lp n c s fun e s => match e with
  | .exit _ => none
  | _ => Zqq E ps rs (ZbF ps x 0 0).2.length fn.results.toList s
end Go.Shal
set_option linter.unusedVariables false
namespace Go.Shal
open Go.RowKit
abbrev RO := Nat → Nat → Option Value
def RO.le (R R' : RO) : Prop := ∀ b o v, R b o = some v → R' b o = some v
theorem RO.le_refl (R : RO) : R.le R := fun _ _ _ h => h
theorem RO.le_trans {R R' R'' : RO} (h : R.le R') (k : R'.le R'') : R.le R'' := fun b o v e => k b o v (h b o v e)
def inR (k : IntKind) (x : Int) : Prop := k.min ≤ x ∧ x ≤ k.max
theorem ZcZ (k : IntKind) (x : Int) : inR k (k.wrap x) := wrap_within k x
mutual
def ZhX {α : Type} (R : RO) (Q : α → List Value → Prop) (n : Nat) : Tr α → List Value → Prop
 | ⟨x, l⟩, cs => ∃ c a cap, cs = c ++ [.slice a l.length cap] ∧ Q x c ∧ l.length ≤ cap ∧ cap ≤ maxLen ∧ (l = [] ∨ ∃ b o, a = some ⟨b, o, none⟩ ∧ ZeV R Q n b l o)
def ZeV {α : Type} (R : RO) (Q : α → List Value → Prop) (n : Nat) (b : Nat) : List (Tr α) → Nat → Prop
 | [], _ => True
 | t :: r, o => (∃ c, ZhX R Q n t c ∧ ∀ j v, c[j]? = some v → R b (o + j) = some v) ∧ ZeV R Q n b r (o + n)
end
theorem Zga {α : Type} {R : RO} {Q : α → List Value → Prop} {n b : Nat} : ∀ {l : List (Tr α)} {o : Nat},
  ZeV R Q n b l o ↔ ∀ i x, l[i]? = some x → ∃ c, ZhX R Q n x c ∧ ∀ j v, c[j]? = some v → R b (o + (i * n + j)) = some v
 | [], o => by simp [ZeV]
 | t :: r, o => by
  rw [ZeV, Zga (l := r)]
  constructor
  ·rintro ⟨h1, h2⟩ i x hx
   cases i with
   | zero => obtain rfl : t = x := by simpa using hx
             simpa using h1
   | succ i =>
    obtain ⟨c, h3, h4⟩ := h2 i x (by simpa using hx)
    refine ⟨c, h3, fun j v hv => ?_⟩
    have := h4 j v hv
    rwa [show o + ((i + 1) * n + j) = o + n + (i * n + j) by rw [Nat.add_mul]; omega]
  ·intro h
   refine ⟨by simpa using h 0 t rfl, fun i x hx => ?_⟩
   obtain ⟨c, h3, h4⟩ := h (i + 1) x (by simpa using hx)
   refine ⟨c, h3, fun j v hv => ?_⟩
   have := h4 j v hv
   rwa [show o + n + (i * n + j) = o + ((i + 1) * n + j) by rw [Nat.add_mul]; omega]
mutual
theorem ZhX.mono {α : Type} {R R' : RO} {Q Q' : α → List Value → Prop} {n : Nat} (hR : R.le R') (hQ : ∀ x c, Q x c → Q' x c) : ∀ (t : Tr α) (cs : List Value), ZhX R Q n t cs → ZhX R' Q' n t cs
 | ⟨x, l⟩, cs, h => by
  rw [ZhX] at h ⊢
  obtain ⟨c, a, cap, h1, h2, h3, h4, h5⟩ := h
  exact ⟨c, a, cap, h1, hQ _ _ h2, h3, h4, h5.imp id fun ⟨b, o, e, h⟩ => ⟨b, o, e, ZeV.mono hR hQ l o h⟩⟩
theorem ZeV.mono {α : Type} {R R' : RO} {Q Q' : α → List Value → Prop} {n b : Nat} (hR : R.le R') (hQ : ∀ x c, Q x c → Q' x c) : ∀ (l : List (Tr α)) (o : Nat), ZeV R Q n b l o → ZeV R' Q' n b l o
 | [], _, _ => by rw [ZeV]; trivial
 | t :: r, o, h => by
  rw [ZeV] at h ⊢
  obtain ⟨⟨c, h1, h2⟩, h3⟩ := h
  exact ⟨⟨c, ZhX.mono hR hQ t c h1, fun j v hv => hR _ _ _ (h2 j v hv)⟩, ZeV.mono hR hQ r _ h3⟩
end
def Rep (R : RO) : (k : Kd) → k.T → List Value → Prop
 | .int k, x, cs => cs = [.int k x] ∧ inR k x
 | .bool, b, cs => cs = [.bool b]
 | .flt, n, cs => cs = [.float .f64 n]
 | .str, xs, cs => ∃ s : ByteArray, cs = [.string s] ∧ xs = bytesOf s ∧ s.size ≤ maxLen
 | .slice k, xs, cs => ∃ a cap, cs = [.slice a xs.length cap] ∧ xs.length ≤ cap ∧ cap ≤ maxLen ∧
   (xs = [] ∨ ∃ b o, a = some ⟨b, o, none⟩ ∧ ∀ i x, xs[i]? = some x → ∃ c, Rep R k x c ∧ ∀ j v, c[j]? = some v → R b (o + (i * k.size + j)) = some v)
 | .np, _, cs => cs = [.pointer none]
 | .nsl, _, cs => cs = [.slice none 0 0]
 | .rp k, x, cs => ∃ b o c, cs = [.pointer (some ⟨b, o, none⟩)] ∧ Rep R k x c ∧ ∀ j v, c[j]? = some v → R b (o + j) = some v
 | .tre k, x, cs => ZhX R (Rep R k) (k.size + 1) x cs
 | .unit, _, cs => cs = []
 | .pair a b, x, cs => ∃ c d, cs = c ++ d ∧ Rep R a x.1 c ∧ Rep R b x.2 d
 | .arr n k, xs, cs => xs.length = n ∧ ∃ f : Nat → List Value, (∀ i x, xs[i]? = some x → Rep R k x (f i)) ∧ cs = (List.range n).flatMap f
theorem ZfY {R : RO} {k : Kd} {x : Tr k.T} {cs : List Value} : Rep R (.tre k) x cs ↔ ∃ c d, cs = c ++ d ∧ Rep R k x.val c ∧ Rep R (.slice (.tre k)) x.sub d := by
 obtain ⟨x, l⟩ := x
 show ZhX R (Rep R k) (k.size + 1) ⟨x, l⟩ cs ↔ _
 rw [ZhX]
 constructor
 ·rintro ⟨c, a, cap, h1, h2, h3, h4, h5⟩
  exact ⟨c, _, h1, h2, a, cap, rfl, h3, h4, h5.imp id fun ⟨b, o, e, h⟩ => ⟨b, o, e, Zga.1 h⟩⟩
 ·rintro ⟨c, d, h1, h2, a, cap, rfl, h3, h4, h5⟩
  exact ⟨c, a, cap, h1, h2, h3, h4, h5.imp id fun ⟨b, o, e, h⟩ => ⟨b, o, e, Zga.2 h⟩⟩
theorem Rep.mono {R R' : RO} (hR : R.le R') : ∀ {k : Kd} {x : k.T} {cs : List Value}, Rep R k x cs → Rep R' k x cs
 | .int _, _, _, h => h
 | .bool, _, _, h => h
 | .np, _, _, h => h
 | .nsl, _, _, h => h
 | .rp _, _, _, ⟨b, o, c, e, h1, h2⟩ => ⟨b, o, c, e, Rep.mono hR h1, fun j v hv => hR _ _ _ (h2 j v hv)⟩
 | .tre _, _, _, h => ZhX.mono hR (fun _ _ h => Rep.mono hR h) _ _ h
 | .flt, _, _, h => h
 | .str, _, _, h => h
 | .slice k, xs, cs, ⟨a, cap, h1, h2, h3, h4⟩ => ⟨a, cap, h1, h2, h3, h4.imp id fun ⟨b, o, e, h⟩ => ⟨b, o, e, fun i x hx => let ⟨c, hc, hj⟩ := h i x hx; ⟨c, Rep.mono hR hc, fun j v hv => hR _ _ _ (hj j v hv)⟩⟩⟩
 | .unit, _, _, h => h
 | .pair _ _, _, _, ⟨c, d, e, h1, h2⟩ => ⟨c, d, e, Rep.mono hR h1, Rep.mono hR h2⟩
 | .arr n k, xs, cs, ⟨hn, f, h1, h2⟩ => ⟨hn, f, fun i x hx => Rep.mono hR (h1 i x hx), h2⟩
theorem ZcV {α : Type} (f : Nat → List α) (m : Nat) : ∀ n, (∀ i, i < n → (f i).length = m) → ((List.range n).flatMap f).length = n * m
 | 0, _ => by simp
 | n + 1, h => by
  rw [List.range_succ, List.flatMap_append, List.length_append, ZcV f m n (fun i hi => h i (by omega))]
  simp [h n (by omega), Nat.add_mul]
theorem Rep.length {R : RO} : ∀ {k : Kd} {x : k.T} {cs : List Value}, Rep R k x cs → cs.length = k.size
 | .int _, _, _, h => by rw [h.1]; rfl
 | .bool, _, _, h => by rw [show _ = _ from h]; rfl
 | .np, _, _, h => by rw [show _ = _ from h]; rfl
 | .nsl, _, _, h => by rw [show _ = _ from h]; rfl
 | .rp _, _, _, ⟨b, o, c, e, h1, h2⟩ => by rw [e]; rfl
 | .tre k, x, _, h => by
  obtain ⟨c, d, e, h1, a, cap, h2, _⟩ := ZfY.1 h
  rw [e, h2, List.length_append, Rep.length h1]; rfl
 | .flt, _, _, h => by rw [show _ = _ from h]; rfl
 | .str, _, _, ⟨s, h, _⟩ => by rw [h]; rfl
 | .slice k, xs, cs, ⟨a, cap, h1, _⟩ => by rw [h1]; rfl
 | .unit, _, _, h => by rw [show _ = _ from h]; rfl
 | .pair _ _, _, _, ⟨c, d, e, h1, h2⟩ => by rw [e, List.length_append, Rep.length h1, Rep.length h2]; rfl
 | .arr n k, xs, cs, ⟨hn, f, h1, h2⟩ => by
  rw [h2, ZcV f k.size n (fun i hi => Rep.length (h1 i (xs[i]'(by omega)) (by simp [hn ▸ hi])))]; rfl
theorem Rep.oneCells {R : RO} : ∀ {k : Kd} {x : k.T} {cs : List Value}, Rep R k x cs → ∀ v ∈ cs, v.oneCell' = true
 | .int _, _, _, h => by rw [h.1]; simp [Value.oneCell']
 | .bool, _, _, h => by rw [show _ = _ from h]; simp [Value.oneCell']
 | .np, _, _, h => by rw [show _ = _ from h]; simp [Value.oneCell']
 | .nsl, _, _, h => by rw [show _ = _ from h]; simp [Value.oneCell']
 | .rp _, _, _, ⟨b, o, c, e, h1, h2⟩ => by rw [e]; simp [Value.oneCell']
 | .tre k, x, _, h => by
  obtain ⟨c, d, e, h1, a, cap, h2, _⟩ := ZfY.1 h
  rw [e, h2]; intro v hv; rcases List.mem_append.1 hv with h | h
  ·exact Rep.oneCells h1 v h
  ·obtain rfl := List.mem_singleton.1 h; rfl
 | .flt, _, _, h => by rw [show _ = _ from h]; simp [Value.oneCell']
 | .str, _, _, ⟨s, h, _⟩ => by rw [h]; simp [Value.oneCell']
 | .slice k, xs, cs, ⟨a, cap, h1, _⟩ => by rw [h1]; simp [Value.oneCell']
 | .unit, _, _, h => by rw [show _ = _ from h]; simp
 | .pair _ _, _, _, ⟨c, d, e, h1, h2⟩ => by
  rw [e]; intro v hv; rcases List.mem_append.1 hv with h | h
  ·exact Rep.oneCells h1 v h
  ·exact Rep.oneCells h2 v h
 | .arr n k, xs, cs, ⟨hn, f, h1, h2⟩ => by
  rw [h2]; intro v hv
  obtain ⟨i, hi, hv⟩ := List.mem_flatMap.1 hv
  have hi' : i < n := by simpa using hi
  exact Rep.oneCells (h1 i (xs[i]'(by omega)) (by simp [hn ▸ hi'])) v hv
def Kd.val (k : Kd) (cs : List Value) : Value :=
 match k.agg with
 | true => .agg cs.toArray
 | false => match cs with
  | [v] => v
  | _ => undef
def DRep (R : RO) (k : Kd) (x : k.T) (v : Value) : Prop := ∃ cs, Rep R k x cs ∧ v = k.val cs
theorem DRep.mono {R R' : RO} (hR : R.le R') {k : Kd} {x : k.T} {v : Value} (h : DRep R k x v) : DRep R' k x v :=
 let ⟨cs, h1, h2⟩ := h; ⟨cs, h1.mono hR, h2⟩
theorem ZgZ {k : Kd} (h : k.agg = false) (v : Value) : k.val [v] = v := by unfold Kd.val; rw [h]
theorem ZeT {k : Kd} (h : k.agg = false) : k.size = 1 := by cases k <;> simp_all [Kd.agg, Kd.size]
theorem DRep.one {R : RO} {k : Kd} {x : k.T} {v : Value} (hk : k.agg = false) (h : DRep R k x v) : Rep R k x [v] := by
 obtain ⟨cs, h1, rfl⟩ := h
 have hl := h1.length
 rw [ZeT hk] at hl
 obtain ⟨u, rfl⟩ := List.length_eq_one_iff.1 hl
 rwa [ZgZ hk]
theorem DRep.of_one {R : RO} {k : Kd} {x : k.T} {v : Value} (hk : k.agg = false) (h : Rep R k x [v]) : DRep R k x v := ⟨[v], h, (ZgZ hk v).symm⟩
theorem DRep.cells {R : RO} {k : Kd} {x : k.T} {v : Value} (h : DRep R k x v) : Rep R k x v.cells.toList := by
 obtain ⟨cs, h1, rfl⟩ := h
 cases hk : k.agg with
 | true => unfold Kd.val; rw [hk]; simpa [Value.cells] using h1
 | false =>
  have hl := h1.length
  rw [ZeT hk] at hl
  obtain ⟨u, rfl⟩ := List.length_eq_one_iff.1 hl
  rw [ZgZ hk]
  have := h1.oneCells u (by simp)
  cases u <;> simp_all [Value.cells, Value.oneCell']
structure MB where
 b : Nat
 n : Nat
 c : Nat
 sz : Nat
 cs : List Value
structure Gh where
 R : RO
 β : Nat → Nat
 ν : Nat → Value
 σ : Nat → Nat
 N : Nat
 φ : Nat → Prop
 ψ : Nat → Nat → Prop
 κ : Option MB
def TRep (R : RO) : (ks : List Kd) → (Kd.struct ks).T → List Value → Prop
 | [], _, vs => vs = []
 | k :: ks, x, vs => ∃ v r, vs = v :: r ∧ DRep R k x.1 v ∧ TRep R ks x.2 r
theorem TRep.mono {R R' : RO} (hR : R.le R') : ∀ {ks : List Kd} {x : (Kd.struct ks).T} {vs : List Value}, TRep R ks x vs → TRep R' ks x vs
 | [], _, _, h => h
 | _ :: _, _, _, ⟨v, r, e, h1, h2⟩ => ⟨v, r, e, h1.mono hR, TRep.mono hR h2⟩
def JRep (g : Gh) (k : Kd) (n : Nat) (v : Value) : Prop := (∃ b c, v = .slice (some ⟨b, 0, none⟩) n c ∧ n ≤ c ∧ c ≤ maxLen ∧ g.ψ b (n * k.size)) ∨ (n = 0 ∧ ∃ a c, v = .slice a 0 c)
def ZdG (g : Gh) (k : Kd) (xs : List k.T) (v : Value) : Prop := (xs = [] ∧ v = .slice none 0 0) ∨
 ∃ m, g.κ = some m ∧ v = .slice (some ⟨m.b, 0, none⟩) m.n m.c ∧ m.sz = k.size ∧ m.n = xs.length ∧
  m.cs.length = xs.length * k.size ∧ ∀ i x, xs[i]? = some x → ∃ c, Rep g.R k x c ∧ ∀ j v, c[j]? = some v → m.cs[i * k.size + j]? = some v
def ZgE (g : Gh) (k : Kd) (i : Int) (path : List Nat) (v : Value) : Prop :=
 ∃ m l, g.κ = some m ∧ k.lens path = some l ∧ v = .pointer (some ⟨m.b, i.toNat * k.size + l.o, none⟩) ∧ m.sz = k.size ∧ 0 ≤ i ∧ i.toNat < m.n
theorem ZdG.mono {g g' : Gh} (hR : g.R.le g'.R) (hκ : g'.κ = g.κ) {k : Kd} {xs : List k.T} {v : Value} (h : ZdG g k xs v) : ZdG g' k xs v :=
 h.imp id fun ⟨m, e, h1, h2, h3, h4, h5⟩ => ⟨m, by rw [hκ]; exact e, h1, h2, h3, h4, fun i x hx => let ⟨c, q1, q2⟩ := h5 i x hx; ⟨c, q1.mono hR, q2⟩⟩
theorem ZgE.mono {g g' : Gh} (hκ : g'.κ = g.κ) {k : Kd} {i : Int} {p : List Nat} {v : Value} (h : ZgE g k i p v) : ZgE g' k i p v :=
 let ⟨m, l, e, h⟩ := h; ⟨m, l, by rw [hκ]; exact e, h⟩
def CRep (g : Gh) : SV → Value → Prop
 | .cst c, v => v = c ∧ c.oneCell' = true
 | .dat k x, v => k.agg = false ∧ Rep g.R k x [v]
 | .own t k xs, v => Rep g.R (.slice k) xs [v] ∧ v = g.ν t ∧ g.σ t = k.size
 | .fresh k xs, v => Rep g.R (.slice k) xs [v] ∧ ∃ b n, v = .slice (some ⟨b, 0, none⟩) n n ∧ g.φ b
 | .ptr b o, v => v = .pointer (some ⟨g.β b, o, none⟩) ∧ b < g.N
 | .jk k n, v => JRep g k n v
 | .mo k xs, v => ZdG g k xs v
 | _, _ => False
inductive All2 {α β : Type} (P : α → β → Prop) : List α → List β → Prop
 | nil : All2 P [] []
 | cons {a b l m} : P a b → All2 P l m → All2 P (a :: l) (b :: m)
theorem All2.imp {α β : Type} {P Q : α → β → Prop} {l : List α} {m : List β} (h : All2 P l m) (hq : ∀ a b, P a b → Q a b) : All2 Q l m := by
 induction h with
 | nil => exact .nil
 | cons h _ ih => exact .cons (hq _ _ h) ih
theorem All2.length {α β : Type} {P : α → β → Prop} {l : List α} {m : List β} (h : All2 P l m) : l.length = m.length := by
 induction h with
 | nil => rfl
 | cons _ _ ih => simp [ih]
theorem All2.append {α β : Type} {P : α → β → Prop} {l l' : List α} {m m' : List β} (h : All2 P l m) (h' : All2 P l' m') : All2 P (l ++ l') (m ++ m') := by
 induction h with
 | nil => exact h'
 | cons h _ ih => exact .cons h ih
def SV.plain : SV → Bool
 | .own _ _ _ => false
 | .mo _ _ => false
 | _ => true
def PRep (g : Gh) (s : SV) (v : Value) : Prop := s.plain = true ∧ CRep g s v
def SV.dj : SV → Bool
 | .dat _ _ => true
 | .jk _ _ => true
 | _ => false
def YRep (g : Gh) (s : SV) (v : Value) : Prop := s.dj = true ∧ CRep g s v
def QRep (g : Gh) : SV → Value → Prop
 | .cst c, v => v = c
 | .dat k x, v => DRep g.R k x v
 | .own t k xs, v => CRep g (.own t k xs) v
 | .fresh k xs, v => CRep g (.fresh k xs) v
 | .ptr b o, v => CRep g (.ptr b o) v
 | .rm b _ n c, v => v = .slice (some ⟨g.β b, 0, none⟩) n c ∧ b < g.N ∧ n ≤ c ∧ c ≤ maxLen
 | .jk k n, v => JRep g k n v
 | .agg cs, v => ∃ vs, v = .agg vs.toArray ∧ All2 (YRep g) cs vs
 | _, _ => False
def SRep (g : Gh) : SV → Value → Prop
 | .undef, _ => True
 | .cst c, v => v = c
 | .dat k x, v => DRep g.R k x v
 | .own t k xs, v => CRep g (.own t k xs) v
 | .fresh k xs, v => CRep g (.fresh k xs) v
 | .ptr b o, v => CRep g (.ptr b o) v
 | .rptr k x, v => ∃ b o cs, v = .pointer (some ⟨b, o, none⟩) ∧ Rep g.R k x cs ∧ ∀ j c, cs[j]? = some c → g.R b (o + j) = some c
 | .tup l, v => ∃ vs, v = .tuple vs.toArray ∧ All2 (QRep g) l vs
 | .agg cs, v => ∃ vs, v = .agg vs.toArray ∧ All2 (PRep g) cs vs
 | .func f cs, v => ∃ vs, v = .func (.func f) #[] vs.toArray ∧ All2 (PRep g) cs vs
 | .sl b _ n, v => ∃ c, v = .slice (some ⟨g.β b, 0, none⟩) n c ∧ b < g.N ∧ n ≤ c ∧ c ≤ maxLen
 | .eptr b k n i, v => v = .pointer (some ⟨g.β b, i.toNat * k.size, none⟩) ∧ b < g.N ∧ 0 ≤ i ∧ i < (n : Int)
 | .raw t k n, v => ∃ b c, g.ν t = .slice (some ⟨b, 0, none⟩) 0 c ∧ 0 < c ∧ v = .slice (some ⟨b, 0, none⟩) n c ∧ n ≤ c ∧ g.σ t = k.size
 | .mp b, v => v = .map (some (g.β b)) ∧ b < g.N
 | .rm b _ n c, v => v = .slice (some ⟨g.β b, 0, none⟩) n c ∧ b < g.N ∧ n ≤ c ∧ c ≤ maxLen
 | .jk k n, v => JRep g k n v
 | .jp k, v => ∃ b o m, v = .pointer (some ⟨b, o, none⟩) ∧ g.ψ b m ∧ o + k.size ≤ m
 | .mo k xs, v => ZdG g k xs v
 | .mq k i p, v => ZgE g k i p v
structure Gh.ext (g g' : Gh) : Prop where
 R : g.R.le g'.R
 β : ∀ b, b < g.N → g'.β b = g.β b
 N : g.N ≤ g'.N
 ν : g'.ν = g.ν
 σ : g'.σ = g.σ
 φ : ∀ b, g.φ b → g'.φ b
 ψ : ∀ b m, g.ψ b m → g'.ψ b m
 κ : g'.κ = g.κ
theorem Gh.ext.refl (g : Gh) : g.ext g := ⟨RO.le_refl _, fun _ _ => rfl, Nat.le_refl _, rfl, rfl, fun _ h => h, fun _ _ h => h, rfl⟩
theorem JRep.ext {g g' : Gh} (h : ∀ b m, g.ψ b m → g'.ψ b m) {k : Kd} {n : Nat} {v : Value} (q : JRep g k n v) : JRep g' k n v :=
 q.imp (fun ⟨b, c, e, h1, h2, h3⟩ => ⟨b, c, e, h1, h2, h _ _ h3⟩) id
theorem CRep.ext {g g' : Gh} (h : g.ext g') : ∀ {s : SV} {v : Value}, CRep g s v → CRep g' s v
 | .cst _, _, k => k
 | .dat _ _, _, k => ⟨k.1, k.2.mono h.R⟩
 | .own _ _ _, _, k => ⟨k.1.mono h.R, by rw [h.ν]; exact k.2.1, by rw [h.σ]; exact k.2.2⟩
 | .fresh _ _, _, ⟨k, b, n, e, q⟩ => ⟨k.mono h.R, b, n, e, h.φ b q⟩
 | .ptr b _, _, k => ⟨by rw [h.β b k.2]; exact k.1, Nat.lt_of_lt_of_le k.2 h.N⟩
 | .undef, _, k => k
 | .rptr _ _, _, k => k
 | .tup _, _, k => k
 | .agg _, _, k => k
 | .func _ _, _, k => k
 | .sl _ _ _, _, k => k
 | .eptr _ _ _ _, _, k => k
 | .raw _ _ _, _, k => k
 | .mp _, _, k => k
 | .rm _ _ _ _, _, k => k
 | .jk _ _, _, k => JRep.ext h.ψ k
 | .jp _, _, k => k
 | .mo _ _, _, k => ZdG.mono h.R h.κ k
 | .mq _ _ _, _, k => k
theorem YRep.ext {g g' : Gh} (h : g.ext g') {s : SV} {v : Value} (k : YRep g s v) : YRep g' s v := ⟨k.1, k.2.ext h⟩
theorem YRep.prep {g : Gh} {s : SV} {v : Value} (k : YRep g s v) : PRep g s v := ⟨by (cases s <;> first | rfl | (cases k.1)), k.2⟩
theorem YRep.of {g g' : Gh} (hR : g.R.le g'.R) (hψ : ∀ b m, g.ψ b m → g'.ψ b m) {s : SV} {v : Value} (k : YRep g s v) : YRep g' s v := by
 obtain ⟨h1, h2⟩ := k
 cases s with
 | dat _ _ => exact ⟨rfl, h2.1, h2.2.mono hR⟩
 | jk _ _ => exact ⟨rfl, JRep.ext hψ h2⟩
 | _ => cases h1
theorem QRep.ext {g g' : Gh} (h : g.ext g') : ∀ {s : SV} {v : Value}, QRep g s v → QRep g' s v
 | .undef, _, k => k
 | .cst _, _, k => k
 | .dat _ _, _, k => DRep.mono h.R k
 | .own a b c, _, k => CRep.ext (s := .own a b c) h k
 | .fresh a b, _, k => CRep.ext (s := .fresh a b) h k
 | .ptr a b, _, k => CRep.ext (s := .ptr a b) h k
 | .rptr _ _, _, k => k
 | .tup _, _, k => k
 | .agg _, _, ⟨vs, e, k⟩ => ⟨vs, e, k.imp fun _ _ q => q.ext h⟩
 | .func _ _, _, k => k
 | .sl _ _ _, _, k => k
 | .eptr _ _ _ _, _, k => k
 | .raw _ _ _, _, k => k
 | .mp _, _, k => k
 | .rm b _ _ _, _, k => ⟨by rw [h.β b k.2.1]; exact k.1, Nat.lt_of_lt_of_le k.2.1 h.N, k.2.2⟩
 | .jk _ _, _, k => JRep.ext h.ψ k
 | .jp _, _, k => k
 | .mo _ _, _, k => k
 | .mq _ _ _, _, k => k
theorem QRep.srep {g : Gh} : ∀ {s : SV} {v : Value}, QRep g s v → SRep g s v
 | .undef, _, k => k.elim
 | .cst _, _, k => k
 | .dat _ _, _, k => k
 | .own _ _ _, _, k => k
 | .fresh _ _, _, k => k
 | .ptr _ _, _, k => k
 | .rptr _ _, _, k => k.elim
 | .tup _, _, k => k.elim
 | .agg _, _, ⟨vs, e, k⟩ => ⟨vs, e, k.imp fun _ _ q => q.prep⟩
 | .func _ _, _, k => k.elim
 | .sl _ _ _, _, k => k.elim
 | .eptr _ _ _ _, _, k => k.elim
 | .raw _ _ _, _, k => k.elim
 | .mp _, _, k => k.elim
 | .rm _ _ _ _, _, k => k
 | .jk _ _, _, k => k
 | .jp _, _, k => k.elim
 | .mo _ _, _, k => k.elim
 | .mq _ _ _, _, k => k.elim
theorem SRep.ext {g g' : Gh} (h : g.ext g') : ∀ {s : SV} {v : Value}, SRep g s v → SRep g' s v
 | .undef, _, _ => trivial
 | .cst _, _, k => k
 | .dat _ _, _, k => DRep.mono h.R k
 | .own a b c, _, k => CRep.ext (s := .own a b c) h k
 | .fresh a b, _, k => CRep.ext (s := .fresh a b) h k
 | .ptr a b, _, k => CRep.ext (s := .ptr a b) h k
 | .rptr _ _, _, ⟨b, o, cs, e, k1, k2⟩ => ⟨b, o, cs, e, k1.mono h.R, fun j c hc => h.R _ _ _ (k2 j c hc)⟩
 | .tup _, _, ⟨vs, e, k⟩ => ⟨vs, e, k.imp fun _ _ q => QRep.ext h q⟩
 | .agg _, _, ⟨vs, e, k⟩ => ⟨vs, e, k.imp fun _ _ q => ⟨q.1, CRep.ext h q.2⟩⟩
 | .func _ _, _, ⟨vs, e, k⟩ => ⟨vs, e, k.imp fun _ _ q => ⟨q.1, CRep.ext h q.2⟩⟩
 | .sl b _ _, _, ⟨c, k⟩ => ⟨c, by rw [h.β b k.2.1]; exact k.1, Nat.lt_of_lt_of_le k.2.1 h.N, k.2.2⟩
 | .eptr b _ _ _, _, k => ⟨by rw [h.β b k.2.1]; exact k.1, Nat.lt_of_lt_of_le k.2.1 h.N, k.2.2⟩
 | .raw _ _ _, _, ⟨b, c, e1, e2, e3, e4, e5⟩ => ⟨b, c, by rw [h.ν]; exact e1, e2, e3, e4, by rw [h.σ]; exact e5⟩
 | .mp b, _, k => ⟨by rw [h.β b k.2]; exact k.1, Nat.lt_of_lt_of_le k.2 h.N⟩
 | .rm b _ _ _, _, k => ⟨by rw [h.β b k.2.1]; exact k.1, Nat.lt_of_lt_of_le k.2.1 h.N, k.2.2⟩
 | .jk _ _, _, k => JRep.ext h.ψ k
 | .jp _, _, ⟨b, o, m, e, q, r⟩ => ⟨b, o, m, e, h.ψ _ _ q, r⟩
 | .mo _ _, _, k => ZdG.mono h.R h.κ k
 | .mq _ _ _, _, k => ZgE.mono h.κ k
structure Gh.turn (t : Nat) (g g' : Gh) : Prop where
 R : g.R.le g'.R
 β : ∀ b, b < g.N → g'.β b = g.β b
 N : g.N ≤ g'.N
 ν : ∀ u, u ≠ t → g'.ν u = g.ν u ∧ g'.σ u = g.σ u
 φ : ∀ b, g.φ b → g'.φ b
 ψ : ∀ b m, g.ψ b m → g'.ψ b m
 κ : t ≠ 1100000000000 → g'.κ = g.κ
theorem ZdG.scrub {t : Nat} {g g' : Gh} (hR : g.R.le g'.R) (hκ : t ≠ 1100000000000 → g'.κ = g.κ) {k : Kd} {xs : List k.T} {v : Value} (h : ZdG g k xs v) : SRep g' (cond (Nat.beq t 1100000000000) .undef (.mo k xs)) v := by
 cases e : Nat.beq t 1100000000000 with
 | true => trivial
 | false => exact h.mono hR (hκ fun x => by rw [x] at e; cases e)
theorem ZgE.scrub {t : Nat} {g g' : Gh} (hκ : t ≠ 1100000000000 → g'.κ = g.κ) {k : Kd} {i : Int} {p : List Nat} {v : Value} (h : ZgE g k i p v) : SRep g' (cond (Nat.beq t 1100000000000) .undef (.mq k i p)) v := by
 cases e : Nat.beq t 1100000000000 with
 | true => trivial
 | false => exact h.mono (hκ fun x => by rw [x] at e; cases e)
def SV.noMo : SV → Bool
 | .mo _ _ => false
 | _ => true
theorem CRep.scrub {t : Nat} {g g' : Gh} (h : g.turn t g') {s : SV} {v : Value} (k : CRep g s v) (hm : s.noMo = true) : CRep g' (s.scrub t) v := by
 cases s with
 | mo _ _ => cases hm
 | mq _ _ _ => exact k.elim
 | own t' kd xs =>
  show CRep g' (cond (Nat.beq t t') (.dat (.slice kd) xs) (.own t' kd xs)) v
  cases e : Nat.beq t t' with
  | true => exact ⟨rfl, k.1.mono h.R⟩
  | false =>
   have hne : t' ≠ t := fun x => by subst x; simp at e
   exact ⟨k.1.mono h.R, by rw [(h.ν t' hne).1]; exact k.2.1, by rw [(h.ν t' hne).2]; exact k.2.2⟩
 | cst c => exact k
 | dat _ _ => exact ⟨k.1, k.2.mono h.R⟩
 | fresh _ _ => obtain ⟨k, b, n, e, q⟩ := k; exact ⟨k.mono h.R, b, n, e, h.φ b q⟩
 | ptr b o => exact ⟨by rw [h.β b k.2]; exact k.1, Nat.lt_of_lt_of_le k.2 h.N⟩
 | undef => exact k
 | rptr _ _ => exact k
 | tup _ => exact k
 | agg _ => exact k
 | func _ _ => exact k
 | sl _ _ _ => exact k.elim
 | eptr _ _ _ _ => exact k.elim
 | raw _ _ _ => exact k.elim
 | mp _ => exact k.elim
 | jk _ _ => exact JRep.ext h.ψ k
 | jp _ => exact k.elim
 | rm _ _ _ _ => exact k.elim
theorem CRep.scrubU {t : Nat} {g g' : Gh} (h : g.turn t g') {s : SV} {v : Value} (k : CRep g s v) : s.scrub t = .undef ∨ CRep g' (s.scrub t) v := by
 cases s with
 | mo kd xs =>
  show cond (Nat.beq t 1100000000000) SV.undef (.mo kd xs) = .undef ∨ CRep g' (cond (Nat.beq t 1100000000000) .undef (.mo kd xs)) v
  cases e : Nat.beq t 1100000000000 with
  | true => exact .inl rfl
  | false => exact .inr (ZdG.mono h.R (h.κ fun x => by rw [x] at e; cases e) k)
 | _ => exact .inr (CRep.scrub h k rfl)
theorem PRep.turn {t : Nat} {g g' : Gh} (h : g.turn t g') {s : SV} {v : Value} (k : PRep g s v) : PRep g' s v := by
 obtain ⟨k1, k2⟩ := k
 have := CRep.scrub h k2 (by cases s <;> first | rfl | cases k1)
 cases s <;> first | exact ⟨k1, this⟩ | (cases k1; done) | exact k2.elim
theorem QRep.scrub {t : Nat} {g g' : Gh} (h : g.turn t g') {s : SV} {v : Value} (k : QRep g s v) : QRep g' (s.scrub1 t) v := by
 cases s with
 | own t' kd xs =>
  have k' := CRep.scrub (s := .own t' kd xs) h k rfl
  show QRep g' (cond (Nat.beq t t') (.dat (.slice kd) xs) (.own t' kd xs)) v
  change CRep g' (cond (Nat.beq t t') (.dat (.slice kd) xs) (.own t' kd xs)) v at k'
  cases e : Nat.beq t t' with
  | true => rw [e] at k'; exact DRep.of_one rfl k'.2
  | false => rw [e] at k'; exact k'
 | cst c => exact k
 | dat _ _ => exact DRep.mono h.R k
 | fresh _ _ => obtain ⟨k, b, n, e, q⟩ := k; exact ⟨k.mono h.R, b, n, e, h.φ b q⟩
 | ptr b o => exact ⟨by rw [h.β b k.2]; exact k.1, Nat.lt_of_lt_of_le k.2 h.N⟩
 | undef => exact k.elim
 | rptr _ _ => exact k.elim
 | tup _ => exact k.elim
 | agg _ => obtain ⟨vs, e, k⟩ := k; exact ⟨vs, e, k.imp fun _ _ q => q.of h.R h.ψ⟩
 | func _ _ => exact k.elim
 | sl _ _ _ => exact k.elim
 | eptr _ _ _ _ => exact k.elim
 | raw _ _ _ => exact k.elim
 | mo _ _ => exact k.elim
 | mq _ _ _ => exact k.elim
 | mp _ => exact k.elim
 | jk _ _ => exact JRep.ext h.ψ k
 | jp _ => exact k.elim
 | rm b _ _ _ => exact ⟨by rw [h.β b k.2.1]; exact k.1, Nat.lt_of_lt_of_le k.2.1 h.N, k.2.2⟩
theorem All2.mapL {α α' β : Type} {P : α → β → Prop} {Q : α' → β → Prop} {f : α → α'} {l : List α} {m : List β} (h : All2 P l m) (hq : ∀ a b, P a b → Q (f a) b) : All2 Q (l.map f) m := by
 induction h with
 | nil => exact .nil
 | cons h _ ih => exact .cons (hq _ _ h) ih
theorem SRep.scrub {t : Nat} {g g' : Gh} (h : g.turn t g') {s : SV} {v : Value} (k : SRep g s v) : SRep g' (s.scrub t) v := by
 cases s with
 | own t' kd xs =>
  have k' := CRep.scrub (s := .own t' kd xs) h k rfl
  show SRep g' (cond (Nat.beq t t') (.dat (.slice kd) xs) (.own t' kd xs)) v
  change CRep g' (cond (Nat.beq t t') (.dat (.slice kd) xs) (.own t' kd xs)) v at k'
  cases e : Nat.beq t t' with
  | true => rw [e] at k'; exact DRep.of_one rfl k'.2
  | false => rw [e] at k'; exact k'
 | cst c => exact k
 | dat _ _ => exact DRep.mono h.R k
 | fresh _ _ => obtain ⟨k, b, n, e, q⟩ := k; exact ⟨k.mono h.R, b, n, e, h.φ b q⟩
 | ptr b o => exact ⟨by rw [h.β b k.2]; exact k.1, Nat.lt_of_lt_of_le k.2 h.N⟩
 | undef => trivial
 | rptr _ _ => obtain ⟨b, o, cs, e, k1, k2⟩ := k; exact ⟨b, o, cs, e, k1.mono h.R, fun j c hc => h.R _ _ _ (k2 j c hc)⟩
 | tup l => obtain ⟨vs, e, k⟩ := k; exact ⟨vs, e, All2.mapL k fun _ _ q => QRep.scrub h q⟩
 | agg _ => obtain ⟨vs, e, k⟩ := k; exact ⟨vs, e, k.imp fun _ _ q => q.turn h⟩
 | func _ _ => obtain ⟨vs, e, k⟩ := k; exact ⟨vs, e, k.imp fun _ _ q => q.turn h⟩
 | sl b _ _ => obtain ⟨c, k⟩ := k; exact ⟨c, by rw [h.β b k.2.1]; exact k.1, Nat.lt_of_lt_of_le k.2.1 h.N, k.2.2⟩
 | eptr b _ _ _ => exact ⟨by rw [h.β b k.2.1]; exact k.1, Nat.lt_of_lt_of_le k.2.1 h.N, k.2.2⟩
 | mo _ _ => exact ZdG.scrub h.R h.κ k
 | mq _ _ _ => exact ZgE.scrub h.κ k
 | mp b => exact ⟨by rw [h.β b k.2]; exact k.1, Nat.lt_of_lt_of_le k.2 h.N⟩
 | jk _ _ => exact JRep.ext h.ψ k
 | jp _ => obtain ⟨b, o, m, e, q, r⟩ := k; exact ⟨b, o, m, e, h.ψ _ _ q, r⟩
 | rm b _ _ _ => exact ⟨by rw [h.β b k.2.1]; exact k.1, Nat.lt_of_lt_of_le k.2.1 h.N, k.2.2⟩
 | raw t' kd n =>
  obtain ⟨b, c, e1, e2, e3, e4, e5⟩ := k
  show SRep g' (cond (Nat.beq t t') .undef (.raw t' kd n)) v
  cases e : Nat.beq t t' with
  | true => trivial
  | false =>
   have hne : t' ≠ t := fun x => by subst x; simp at e
   exact ⟨b, c, by rw [(h.ν t' hne).1]; exact e1, e2, e3, e4, by rw [(h.ν t' hne).2]; exact e5⟩
def BRep (g : Gh) : Blk → List Value → Prop
 | .cells cs, vs => All2 (fun s v => s = .undef ∨ CRep g s v) cs vs
 | .arr k xs, vs => xs.length * k.size ≤ vs.length ∧ ∀ i x, xs[i]? = some x → ∃ c, Rep g.R k x c ∧ ∀ (j : Nat) v, c[j]? = some v → vs[i * k.size + j]? = some v
 | .mp _ _, _ => False
theorem BRep.ext {g g' : Gh} (h : g.ext g') {b : Blk} {vs : List Value} (k : BRep g b vs) : BRep g' b vs := by
 cases b with
 | cells cs => exact All2.imp k fun _ _ q => q.imp id (CRep.ext h)
 | arr _ _ => exact ⟨k.1, fun i x hx => let ⟨c, h1, h2⟩ := k.2 i x hx; ⟨c, h1.mono h.R, h2⟩⟩
 | mp _ _ => exact k
theorem BRep.scrub {t : Nat} {g g' : Gh} (h : g.turn t g') {b : Blk} {vs : List Value} (k : BRep g b vs) : BRep g' (b.scrub t) vs := by
 cases b with
 | cells cs =>
  show All2 _ (cs.map (·.scrub t)) vs
  replace k : All2 _ cs vs := k
  induction k with
  | nil => exact .nil
  | cons q _ ih =>
   refine .cons ?_ ih
   rcases q with rfl | q
   ·exact .inl rfl
   ·exact CRep.scrubU h q
 | arr _ _ => exact ⟨k.1, fun i x hx => let ⟨c, h1, h2⟩ := k.2 i x hx; ⟨c, h1.mono h.R, h2⟩⟩
 | mp _ _ => exact k
def MRep (k : IntKind) (es : List (Int × Bool)) (mes : Array MapEntry) : Prop := mes.toList.map (fun e => (e.key, e.val)) = es.map fun x => (Value.int k x.1, Value.bool x.2)
def ARep (g : Gh) : Blk → Option Obj → Prop
 | .cells cs, o => ∃ cur ty, o = some (.cells cur ty (0, 0)) ∧ BRep g (.cells cs) cur.toList
 | .arr k xs, o => ∃ cur ty, o = some (.cells cur ty (0, 0)) ∧ BRep g (.arr k xs) cur.toList
 | .mp k es, o => ∃ mes c, o = some (.map mes c) ∧ MRep k es mes
theorem ARep.of {g : Gh} {b : Blk} {o : Option Obj} (h : ∃ cur ty, o = some (.cells cur ty (0, 0)) ∧ BRep g b cur.toList) : ARep g b o := by
 cases b with
 | cells _ => exact h
 | arr _ _ => exact h
 | mp _ _ => obtain ⟨_, _, _, h⟩ := h; exact h.elim
theorem ARep.some {g : Gh} {b : Blk} {o : Option Obj} (h : ARep g b o) : ∃ x, o = Option.some x := by
 cases b <;> obtain ⟨_, _, h, _⟩ := h <;> exact ⟨_, h⟩
theorem ARep.imp {g g' : Gh} {b b' : Blk} {o : Option Obj} (h : ARep g b o) (hb : ∀ vs, BRep g b vs → BRep g' b' vs) (hm : ∀ k es, b = .mp k es → b' = .mp k es) : ARep g' b' o := by
 cases b with
 | cells _ => obtain ⟨cur, ty, h1, h2⟩ := h; exact ARep.of ⟨cur, ty, h1, hb _ h2⟩
 | arr _ _ => obtain ⟨cur, ty, h1, h2⟩ := h; exact ARep.of ⟨cur, ty, h1, hb _ h2⟩
 | mp k es => rw [hm k es rfl]; exact h
theorem ARep.ext {g g' : Gh} (h : g.ext g') {b : Blk} {o : Option Obj} (k : ARep g b o) : ARep g' b o := k.imp (fun _ => BRep.ext h) fun _ _ e => e
theorem ARep.scrub {t : Nat} {g g' : Gh} (h : g.turn t g') {b : Blk} {o : Option Obj} (k : ARep g b o) : ARep g' (b.scrub t) o := k.imp (fun _ => BRep.scrub h) fun _ _ e => by subst e; rfl
structure Pr where
 p : Nat → Prop
 M : Nat
 b0 : Nat → Nat
instance : CoeFun Pr (fun _ => Nat → Prop) := ⟨Pr.p⟩
def Zht (g : Gh) (p : Pr) (w : World) (t : Nat) : Prop :=
 (∃ a n, g.ν t = .slice a n n) ∨
 ∃ b n c cur ty z, g.ν t = .slice (some ⟨b, z, none⟩) n c ∧ n < c ∧ c ≤ maxLen ∧ w.heap[b]? = some (.cells cur ty (0, 0)) ∧ cur.size = z + c * g.σ t ∧
  (∀ o, z + n * g.σ t ≤ o → g.R b o = none) ∧ (∀ i, i < g.N → g.β i ≠ b) ∧ ¬ p b
def live (g : Gh) (t b : Nat) : Prop := ∃ n c z, g.ν t = .slice (some ⟨b, z, none⟩) n c ∧ n < c
structure MoAt (g : Gh) (p : Pr) (w : World) (m : MB) : Prop where
 heap : ∃ cur ty, w.heap[m.b]? = some (.cells cur ty (0, 0)) ∧ m.c * m.sz ≤ cur.size ∧ ∀ (j : Nat) v, m.cs[j]? = some v → cur[j]? = some v
 le : m.n ≤ m.c ∧ m.c ≤ maxLen
 len : m.cs.length = m.n * m.sz
 R : ∀ o, g.R m.b o = none
 β : ∀ i, i < g.N → g.β i ≠ m.b
 np : ¬ p m.b
 nl : ∀ t, ¬ live g t m.b
 nφ : ¬ g.φ m.b
 nψ : ∀ n, ¬ g.ψ m.b n
theorem MoAt.mono {g g' : Gh} {p p' : Pr} {w w' : World} {m : MB} (h : MoAt g p w m) (hw : w'.heap[m.b]? = w.heap[m.b]?) (hR : ∀ o, g'.R m.b o = none) (hβ : ∀ i, i < g'.N → g'.β i ≠ m.b) (hp : ¬ p' m.b)
  (hν : ∀ t, ¬ live g' t m.b) (hφ : ¬ g'.φ m.b) (hψ : ∀ n, ¬ g'.ψ m.b n) : MoAt g' p' w' m :=
 ⟨by rw [hw]; exact h.heap, h.le, h.len, hR, hβ, hp, hν, hφ, hψ⟩
structure Mem (w0 : World) (R0 : RO) (p : Pr) (g : Gh) (heap : List Blk) (w : World) : Prop where
 n : g.N = heap.length
 ro : ∀ b o v, g.R b o = some v → w.cell? ⟨b, o, none⟩ = some v
 blk : ∀ i b, getB heap i = some b → ARep g b w.heap[g.β i]?
 sepB : ∀ i, i < g.N → ∀ o, g.R (g.β i) o = none
 inj : ∀ i j, i < g.N → j < g.N → g.β i = g.β j → i = j
 tok : ∀ t, Zht g p w t
 tokInj : ∀ t u b, live g t b → live g u b → t = u
 np : ∀ i, i < g.N → ¬ p (g.β i)
 fr : ∀ b, (g.φ b ∨ ∃ m, g.ψ b m) → b < w.heap.size ∧ ¬ p b ∧ (∀ i, i < g.N → g.β i ≠ b) ∧ ∀ t, ¬ live g t b
 old : ∀ b, p b → b < w0.heap.size ∧ w.heap[b]? = w0.heap[b]?
 oldR : ∀ b o, p b → g.R b o = R0 b o
 leR : R0.le g.R
 size : w0.heap.size ≤ w.heap.size
 os : w.os = w0.os
 tape : w.tape = w0.tape
 output : w.output = w0.output
 keep : ∀ i, i < p.M → i < g.N ∧ g.β i = p.b0 i
 jk : ∀ b m, g.ψ b m → (∃ cur ty, w.heap[b]? = some (.cells cur ty (0, 0)) ∧ m ≤ cur.size) ∧ (∀ o, g.R b o = none) ∧ ¬ g.φ b
 mo : ∀ m, g.κ = some m → MoAt g p w m
structure Inv (w0 : World) (R0 : RO) (p : Pr) (g : Gh) (s : St) (a : Act) (w : World) : Prop extends Mem w0 R0 p g s.heap w where
 defers : a.defers = []
 slots : ∀ i, SRep g (getN s.slots i) (a.tmps.getD i undef)
 len : a.tmps.size = s.slots.length
end Go.Shal
set_option linter.unusedVariables false
namespace Go.Shal
open Go.RowKit
section
variable {w0 : World} {R0 : RO} {p : Pr}
theorem ZaV {w : World} {b : Nat} {o : Obj} (h : w.heap[b]? = some o) : b < w.heap.size := (Array.getElem?_eq_some_iff.1 h).1
theorem ZbQ {w : World} {b o : Nat} {v : Value} (h : w.cell? ⟨b, o, none⟩ = some v) : b < w.heap.size := by
 unfold World.cell? at h
 split at h
 ·rename_i hb; exact ZaV hb
 ·cases h
theorem ZcK {w w' : World} {b o : Nat} (h : w'.heap[b]? = w.heap[b]?) : w'.cell? ⟨b, o, none⟩ = w.cell? ⟨b, o, none⟩ := by simp [World.cell?, h]
theorem Mem.drew {g : Gh} {h : List Blk} {w : World} (m : Mem w0 R0 p g h w) : Mem w0 R0 p g h w.drew :=
 ⟨m.n, m.ro, m.blk, m.sepB, m.inj, m.tok, m.tokInj, m.np, m.fr, m.old, m.oldR, m.leR, m.size, m.os, m.tape, m.output, m.keep, m.jk, fun q hq => (m.mo q hq).mono rfl (m.mo q hq).R (m.mo q hq).β (m.mo q hq).np (m.mo q hq).nl (m.mo q hq).nφ (m.mo q hq).nψ⟩
theorem Mem.blkLt {g : Gh} {h : List Blk} {w : World} (m : Mem w0 R0 p g h w) (i : Nat) (hi : i < g.N) : g.β i < w.heap.size := by
 have : i < h.length := m.n ▸ hi
 have hb : ∃ b, getB h i = some b := by
  clear hi m
  induction h generalizing i with
  | nil => simp at this
  | cons x r ih => cases i with
   | zero => exact ⟨x, rfl⟩
   | succ i => exact ih i (by simpa using this)
 obtain ⟨b, hb⟩ := hb
 obtain ⟨x, hh⟩ := (m.blk i b hb).some
 exact ZaV hh
theorem Mem.roNew {g : Gh} {h : List Blk} {w : World} (m : Mem w0 R0 p g h w) {b : Nat} (hb : w.heap.size ≤ b) (o : Nat) : g.R b o = none := by
 cases e : g.R b o with
 | none => rfl
 | some v => have := ZbQ (m.ro b o v e); omega
theorem Mem.pLt {g : Gh} {h : List Blk} {w : World} (m : Mem w0 R0 p g h w) {b : Nat} (hb : p b) : b < w.heap.size := Nat.lt_of_lt_of_le (m.old b hb).1 m.size
theorem Mem.moLt {g : Gh} {h : List Blk} {w : World} (m : Mem w0 R0 p g h w) {q : MB} (hq : g.κ = some q) : q.b < w.heap.size :=
 let ⟨_, _, hh, _⟩ := (m.mo q hq).heap; ZaV hh
theorem ZfV {g : Gh} {h : List Blk} {w : World} (m : Mem w0 R0 p g h w) {t b : Nat} (hl : live g t b) : b < w.heap.size := by
 obtain ⟨n, c, z, e, hc⟩ := hl
 rcases m.tok t with ⟨a, k, e'⟩ | ⟨b', n', c', cur, ty, z, e', _, _, hh, _⟩
 ·rw [e] at e'; injection e' with _ h1 h2; omega
 ·rw [e] at e'; injection e' with h1 _ _; injection h1 with h1; injection h1 with h1; subst h1; exact ZaV hh
theorem ZmV {l m : List Blk} {i : Nat} {b : Blk} (h : getB (l ++ m) i = some b) : getB l i = some b ∨ l.length ≤ i ∧ getB m (i - l.length) = some b := by
 induction l generalizing i with
 | nil => exact .inr ⟨by simp, by simpa using h⟩
 | cons x l ih => cases i with
  | zero => exact .inl h
  | succ i => rcases ih (i := i) h with h | ⟨h1, h2⟩
              ·exact .inl h
              ·exact .inr ⟨by simp; omega, by simpa [Nat.add_sub_add_right] using h2⟩
theorem ZbT {l : List Blk} {i : Nat} {b : Blk} (h : getB l i = some b) : i < l.length := by
 induction l generalizing i with
 | nil => cases h
 | cons x l ih => cases i with
  | zero => simp
  | succ i => have := ih (i := i) h; simp; omega
theorem Zbm (w : World) (o : Obj) (b : Nat) (h : b < w.heap.size) : (w.alloc o).heap[b]? = w.heap[b]? := Below.heap_alloc w o b h
def Gh.newB (g : Gh) (b : Nat) : Gh := { g with β := fun i => if i = g.N then b else g.β i, N := g.N + 1 }
theorem Gh.newB_ext (g : Gh) (b : Nat) : g.ext (g.newB b) :=
 ⟨RO.le_refl _, fun i hi => by simp [Gh.newB]; omega, by simp [Gh.newB], rfl, rfl, fun _ h => h, fun _ _ h => h, rfl⟩
theorem Zht.alloc {g g' : Gh} {h : List Blk} {w : World} (m : Mem w0 R0 p g h w) (o : Obj) {t : Nat} (hν : g'.ν t = g.ν t) (hσ : g'.σ t = g.σ t)
  (hR : ∀ b o, b < w.heap.size → g'.R b o = g.R b o) (hβ : ∀ i, i < g'.N → g'.β i = g.β i ∧ i < g.N ∨ w.heap.size ≤ g'.β i) (k : Zht g p w t) : Zht g' p (w.alloc o) t := by
 rcases k with ⟨a, n, e⟩ | ⟨b, n, c, cur, ty, z, e, h1, h2, h3, h4, h5, h6, h7⟩
 ·exact .inl ⟨a, n, by rw [hν, e]⟩
 ·have hb := ZaV h3
  refine .inr ⟨b, n, c, cur, ty, z, by rw [hν, e], h1, h2, by rw [Zbm w o b hb]; exact h3, by rw [hσ]; exact h4, fun o ho => by rw [hR b o hb]; exact h5 o (by rwa [hσ] at ho), fun i hi => ?_, h7⟩
  rcases hβ i hi with ⟨e, hi'⟩ | e
  ·rw [e]; exact h6 i hi'
  ·omega
theorem Mem.allocO {g : Gh} {h : List Blk} {w : World} (m : Mem w0 R0 p g h w) (ob : Obj) (b : Blk) (hb : ARep (g.newB w.heap.size) b (some ob)) :
  Mem w0 R0 p (g.newB w.heap.size) (h ++ [b]) (w.alloc ob) := by
 have hβ : ∀ i, i < (g.newB w.heap.size).N → (g.newB w.heap.size).β i = g.β i ∧ i < g.N ∨ w.heap.size ≤ (g.newB w.heap.size).β i := fun i hi => by
  simp only [Gh.newB] at hi ⊢
  split
  ·exact .inr (Nat.le_refl _)
  ·exact .inl ⟨rfl, by omega⟩
 constructor
 ·simp [Gh.newB, m.n]
 ·intro b' o v e
  have hc := m.ro b' o v e
  rw [ZcK (Zbm w _ b' (ZbQ hc))]; exact hc
 ·intro i b' hi
  rcases ZmV hi with hi | ⟨h1, hi⟩
  ·have hl := ZbT hi
   have : (g.newB w.heap.size).β i = g.β i := (Gh.newB_ext g w.heap.size).β i (m.n ▸ hl)
   rw [this, Zbm _ _ _ (m.blkLt i (m.n ▸ hl))]
   exact (m.blk i b' hi).ext (Gh.newB_ext _ _)
  ·have hl := ZbT hi
   simp only [List.length_singleton] at hl
   have hi0 : i = h.length := by omega
   subst hi0
   rw [Nat.sub_self] at hi
   obtain rfl : b = b' := Option.some.inj hi
   have : (g.newB w.heap.size).β h.length = w.heap.size := by simp [Gh.newB, m.n]
   rw [this]
   have e2 : (w.alloc ob).heap[w.heap.size]? = some ob := by
    show (w.heap.push _)[w.heap.size]? = _
    simp
   rw [e2]; exact hb
 ·intro i hi o
  rcases hβ i hi with ⟨e, hi'⟩ | e
  ·rw [e]; exact m.sepB i hi' o
  ·exact m.roNew e o
 ·intro i j hi hj e
  simp only [Gh.newB] at hi hj e
  split at e <;> split at e
  ·omega
  ·have := m.blkLt j (by omega); omega
  ·have := m.blkLt i (by omega); omega
  ·exact m.inj i j (by omega) (by omega) e
 ·intro t; exact Zht.alloc m _ rfl rfl (fun _ _ _ => rfl) hβ (m.tok t)
 ·intro t u b h1 h2; exact m.tokInj t u b h1 h2
 ·intro i hi
  rcases hβ i hi with ⟨e, hi'⟩ | e
  ·rw [e]; exact m.np i hi'
  ·intro hp; have := m.pLt hp; omega
 ·intro b hf
  obtain ⟨h1, h2, h3, h4⟩ := m.fr b hf
  refine ⟨by simp; omega, h2, fun i hi => ?_, h4⟩
  rcases hβ i hi with ⟨e, hi'⟩ | e
  ·rw [e]; exact h3 i hi'
  ·omega
 ·intro b hp; exact ⟨(m.old b hp).1, by rw [Zbm _ _ _ (m.pLt hp)]; exact (m.old b hp).2⟩
 ·exact m.oldR
 ·exact m.leR
 ·have := m.size; simp; omega
 ·exact m.os
 ·exact m.tape
 ·exact m.output
 ·intro i hi; obtain ⟨h1, h2⟩ := m.keep i hi; exact ⟨by simp [Gh.newB]; omega, by rw [← h2]; exact (Gh.newB_ext g w.heap.size).β i h1⟩
 ·intro b' n hf
  obtain ⟨⟨cu, t', h1, hs⟩, h2⟩ := m.jk b' n hf
  exact ⟨⟨cu, t', by rw [Zbm _ _ _ (ZaV h1)]; exact h1, hs⟩, h2⟩
 ·intro q hq
  have k := m.mo q hq
  obtain ⟨cur', ty', hh, _⟩ := k.heap
  refine k.mono (Zbm _ _ _ (ZaV hh)) k.R (fun i hi => ?_) k.np k.nl k.nφ k.nψ
  rcases hβ i hi with ⟨e, hi'⟩ | e
  ·rw [e]; exact k.β i hi'
  ·have := ZaV hh; omega
theorem Mem.alloc {g : Gh} {h : List Blk} {w : World} (m : Mem w0 R0 p g h w) (cur : Array Value) (ty : TypeId) (b : Blk) (hb : BRep (g.newB w.heap.size) b cur.toList) :
  Mem w0 R0 p (g.newB w.heap.size) (h ++ [b]) (w.alloc (.cells cur ty)) := m.allocO _ b (ARep.of ⟨cur, ty, rfl, hb⟩)
theorem Mem.allocJ {g : Gh} {h : List Blk} {w : World} (m : Mem w0 R0 p g h w) (cur : Array Value) (ty : TypeId) :
  Mem w0 R0 p { g with ψ := fun b n => g.ψ b n ∨ (b = w.heap.size ∧ n ≤ cur.size) } h (w.alloc (.cells cur ty)) ∧ g.ext { g with ψ := fun b n => g.ψ b n ∨ (b = w.heap.size ∧ n ≤ cur.size) } := by
 have hext : g.ext { g with ψ := fun b n => g.ψ b n ∨ (b = w.heap.size ∧ n ≤ cur.size) } := ⟨RO.le_refl _, fun _ _ => rfl, Nat.le_refl _, rfl, rfl, fun _ h => h, fun _ _ h => .inl h, rfl⟩
 have hnl : ∀ t, ¬ live g t w.heap.size := fun t hl => by have := ZfV m hl; omega
 refine ⟨?_, hext⟩
 constructor
 ·exact m.n
 ·intro b' o v e
  have hc := m.ro b' o v e
  rw [ZcK (Zbm w _ b' (ZbQ hc))]; exact hc
 ·intro i b' hi
  rw [Zbm _ _ _ (m.blkLt i (m.n ▸ ZbT hi))]
  exact (m.blk i b' hi).ext hext
 ·exact m.sepB
 ·exact m.inj
 ·intro t; exact Zht.alloc m _ rfl rfl (fun _ _ _ => rfl) (fun i hi => .inl ⟨rfl, hi⟩) (m.tok t)
 ·exact m.tokInj
 ·exact m.np
 ·intro b' hf
  have hf : (g.φ b' ∨ ∃ n, g.ψ b' n) ∨ b' = w.heap.size := by
   rcases hf with hf | ⟨n, hf | ⟨hf, _⟩⟩
   ·exact .inl (.inl hf)
   ·exact .inl (.inr ⟨n, hf⟩)
   ·exact .inr hf
  rcases hf with hf | rfl
  ·obtain ⟨h1, h2⟩ := m.fr b' hf
   exact ⟨by simp; omega, h2⟩
  ·exact ⟨by simp, fun hp => by have := m.pLt hp; omega, fun i hi e => by have := m.blkLt i hi; have e : g.β i = w.heap.size := e; omega, hnl⟩
 ·intro b' hp'; exact ⟨(m.old b' hp').1, by rw [Zbm _ _ _ (m.pLt hp')]; exact (m.old b' hp').2⟩
 ·exact m.oldR
 ·exact m.leR
 ·have := m.size; simp; omega
 ·exact m.os
 ·exact m.tape
 ·exact m.output
 ·exact m.keep
 ·rintro b' n (hf | ⟨rfl, hn⟩)
  ·obtain ⟨⟨cu, t', h1, hs'⟩, h2⟩ := m.jk b' n hf
   exact ⟨⟨cu, t', by rw [Zbm _ _ _ (ZaV h1)]; exact h1, hs'⟩, h2⟩
  ·refine ⟨⟨cur, ty, ?_, hn⟩, fun o => m.roNew (Nat.le_refl _) o, fun hf => by have := (m.fr _ (.inl hf)).1; omega⟩
   show (w.heap.push _)[w.heap.size]? = _
   simp
 ·intro q hq
  have k := m.mo q hq
  obtain ⟨cur', ty', hh, _⟩ := k.heap
  have hlt := ZaV hh
  exact k.mono (Zbm _ _ _ hlt) k.R k.β k.np k.nl k.nφ (fun n hn => hn.elim (k.nψ n) fun e => by omega)
def RO.with (R : RO) (b : Nat) (cs : List Value) : RO := fun b' o => if b' = b then cs[o]? else R b' o
theorem RO.with_same (R : RO) (b : Nat) (cs : List Value) (o : Nat) : R.with b cs b o = cs[o]? := by simp [RO.with]
theorem RO.with_other (R : RO) (b : Nat) (cs : List Value) {b' : Nat} (h : b' ≠ b) (o : Nat) : R.with b cs b' o = R b' o := by simp [RO.with, h]
theorem Mem.freshRow {g : Gh} {h : List Blk} {w : World} (m : Mem w0 R0 p g h w) (cur : Array Value) (ty : TypeId) (cs : List Value) (hcs : ∀ (j : Nat) (v : Value), cs[j]? = some v → cur[j]? = some v) :
  Mem w0 R0 p { g with R := RO.with g.R w.heap.size cs } h (w.alloc (.cells cur ty)) ∧ RO.le g.R (RO.with g.R w.heap.size cs) := by
 have hle : RO.le g.R (RO.with g.R w.heap.size cs) := fun b o v e => by
  have := ZbQ (m.ro b o v e)
  rw [RO.with_other _ _ _ (by omega)]; exact e
 have hext : g.ext { g with R := RO.with g.R w.heap.size cs } := ⟨hle, fun _ _ => rfl, Nat.le_refl _, rfl, rfl, fun _ h => h, fun _ _ h => h, rfl⟩
 refine ⟨?_, hle⟩
 constructor
 ·exact m.n
 ·intro b o v e
  by_cases hb : b = w.heap.size
  ·subst hb
   replace e : RO.with g.R w.heap.size cs w.heap.size o = some v := e
   rw [RO.with_same] at e
   rw [World.cell?_alloc_new]; exact hcs o v e
  ·replace e : RO.with g.R w.heap.size cs b o = some v := e
   rw [RO.with_other _ _ _ hb] at e
   have hc := m.ro b o v e
   rw [ZcK (Zbm w _ b (ZbQ hc))]; exact hc
 ·intro i b hi
  rw [show ({ g with R := RO.with g.R w.heap.size cs } : Gh).β i = g.β i from rfl, Zbm _ _ _ (m.blkLt i (m.n ▸ ZbT hi))]
  exact (m.blk i b hi).ext hext
 ·intro i hi o
  show RO.with g.R w.heap.size cs (g.β i) o = none
  rw [RO.with_other _ _ _ (by have := m.blkLt i hi; omega)]
  exact m.sepB i hi o
 ·exact m.inj
 ·intro t
  exact Zht.alloc m _ rfl rfl (fun b o hb => RO.with_other _ _ _ (by omega) o) (fun i hi => .inl ⟨rfl, hi⟩) (m.tok t)
 ·exact m.tokInj
 ·exact m.np
 ·intro b hf
  obtain ⟨h1, h2⟩ := m.fr b hf
  exact ⟨by simp; omega, h2⟩
 ·intro b hp; exact ⟨(m.old b hp).1, by rw [Zbm _ _ _ (m.pLt hp)]; exact (m.old b hp).2⟩
 ·intro b o hp
  show RO.with g.R w.heap.size cs b o = _
  rw [RO.with_other _ _ _ (by have := m.pLt hp; omega)]; exact m.oldR b o hp
 ·exact RO.le_trans m.leR hle
 ·have := m.size; simp; omega
 ·exact m.os
 ·exact m.tape
 ·exact m.output
 ·exact m.keep
 ·intro b' n hf
  obtain ⟨⟨cu, t', h1, hs⟩, h3, h6⟩ := m.jk b' n hf
  have hlt := ZaV h1
  exact ⟨⟨cu, t', by rw [Zbm _ _ _ hlt]; exact h1, hs⟩, fun o => by show RO.with g.R w.heap.size cs b' o = none; rw [RO.with_other _ _ _ (by omega)]; exact h3 o, h6⟩
 ·intro q hq
  have k := m.mo q hq
  obtain ⟨cur', ty', hh, _⟩ := k.heap
  have hlt := ZaV hh
  exact k.mono (Zbm _ _ _ hlt) (fun o => by show RO.with g.R w.heap.size cs q.b o = none; rw [RO.with_other _ _ _ (by omega)]; exact k.R o) k.β k.np k.nl k.nφ k.nψ
theorem Zkk (w : World) (c : Array Value) (t : TypeId) (fr : Nat × Nat) (i : Nat) : (w.alloc (.cells c t fr)).cell? ⟨w.heap.size, i, none⟩ = c[i]? := by
 have h : (w.alloc (.cells c t fr)).heap[w.heap.size]? = some (.cells c t fr) := by
  show (w.heap.push _)[w.heap.size]? = _
  simp
 unfold World.cell?
 simp only [h]
 rfl
theorem Mem.freshRowF {g : Gh} {h : List Blk} {w : World} (m : Mem w0 R0 p g h w) (cur : Array Value) (ty : TypeId) (fr : Nat × Nat) (cs : List Value) (hcs : ∀ (j : Nat) (v : Value), cs[j]? = some v → cur[j]? = some v) :
  Mem w0 R0 p { g with R := RO.with g.R w.heap.size cs } h (w.alloc (.cells cur ty fr)) ∧ RO.le g.R (RO.with g.R w.heap.size cs) := by
 have hle : RO.le g.R (RO.with g.R w.heap.size cs) := fun b o v e => by
  have := ZbQ (m.ro b o v e)
  rw [RO.with_other _ _ _ (by omega)]; exact e
 have hext : g.ext { g with R := RO.with g.R w.heap.size cs } := ⟨hle, fun _ _ => rfl, Nat.le_refl _, rfl, rfl, fun _ h => h, fun _ _ h => h, rfl⟩
 refine ⟨?_, hle⟩
 constructor
 ·exact m.n
 ·intro b o v e
  by_cases hb : b = w.heap.size
  ·subst hb
   replace e : RO.with g.R w.heap.size cs w.heap.size o = some v := e
   rw [RO.with_same] at e
   rw [Zkk]; exact hcs o v e
  ·replace e : RO.with g.R w.heap.size cs b o = some v := e
   rw [RO.with_other _ _ _ hb] at e
   have hc := m.ro b o v e
   rw [ZcK (Zbm w _ b (ZbQ hc))]; exact hc
 ·intro i b hi
  rw [show ({ g with R := RO.with g.R w.heap.size cs } : Gh).β i = g.β i from rfl, Zbm _ _ _ (m.blkLt i (m.n ▸ ZbT hi))]
  exact (m.blk i b hi).ext hext
 ·intro i hi o
  show RO.with g.R w.heap.size cs (g.β i) o = none
  rw [RO.with_other _ _ _ (by have := m.blkLt i hi; omega)]
  exact m.sepB i hi o
 ·exact m.inj
 ·intro t
  exact Zht.alloc m _ rfl rfl (fun b o hb => RO.with_other _ _ _ (by omega) o) (fun i hi => .inl ⟨rfl, hi⟩) (m.tok t)
 ·exact m.tokInj
 ·exact m.np
 ·intro b hf
  obtain ⟨h1, h2⟩ := m.fr b hf
  exact ⟨by simp; omega, h2⟩
 ·intro b hp; exact ⟨(m.old b hp).1, by rw [Zbm _ _ _ (m.pLt hp)]; exact (m.old b hp).2⟩
 ·intro b o hp
  show RO.with g.R w.heap.size cs b o = _
  rw [RO.with_other _ _ _ (by have := m.pLt hp; omega)]; exact m.oldR b o hp
 ·exact RO.le_trans m.leR hle
 ·have := m.size; simp; omega
 ·exact m.os
 ·exact m.tape
 ·exact m.output
 ·exact m.keep
 ·intro b' n hf
  obtain ⟨⟨cu, t', h1, hs⟩, h3, h6⟩ := m.jk b' n hf
  have hlt := ZaV h1
  exact ⟨⟨cu, t', by rw [Zbm _ _ _ hlt]; exact h1, hs⟩, fun o => by show RO.with g.R w.heap.size cs b' o = none; rw [RO.with_other _ _ _ (by omega)]; exact h3 o, h6⟩
 ·intro q hq
  have k := m.mo q hq
  obtain ⟨cur', ty', hh, _⟩ := k.heap
  have hlt := ZaV hh
  exact k.mono (Zbm _ _ _ hlt) (fun o => by show RO.with g.R w.heap.size cs q.b o = none; rw [RO.with_other _ _ _ (by omega)]; exact k.R o) k.β k.np k.nl k.nφ k.nψ
theorem ZcB {l : List Blk} {i : Nat} {b c : Blk} (h : getB l i = some c) : getB (setB l i b) i = some b := by
 induction l generalizing i with
 | nil => cases h
 | cons x l ih => cases i with
  | zero => rfl
  | succ i => exact ih h
theorem Zcr {l : List Blk} {i j : Nat} {b : Blk} (h : j ≠ i) : getB (setB l i b) j = getB l j := by
 induction l generalizing i j with
 | nil => rfl
 | cons x l ih => cases i with
  | zero => cases j with
   | zero => omega
   | succ j => rfl
  | succ i => cases j with
   | zero => rfl
   | succ j => exact ih (by omega)
theorem Zcx (l : List Blk) (i : Nat) (b : Blk) : (setB l i b).length = l.length := by
 induction l generalizing i with
 | nil => rfl
 | cons x l ih => cases i <;> simp [setB, ih]
theorem Mem.setO {g : Gh} {h : List Blk} {w w' : World} (m : Mem w0 R0 p g h w) {i : Nat} {b b' : Blk} (hi : getB h i = some b) (hw : ∀ j, j ≠ g.β i → w'.heap[j]? = w.heap[j]?) (hb : ARep g b' w'.heap[g.β i]?)
  (hsz : w'.heap.size = w.heap.size) (hos : w'.os = w.os) (htp : w'.tape = w.tape) (hou : w'.output = w.output) : Mem w0 R0 p g (setB h i b') w' := by
 have hN : i < g.N := m.n ▸ ZbT hi
 constructor
 ·rw [Zcx]; exact m.n
 ·intro b'' o v e
  have hne : b'' ≠ g.β i := fun x => by subst x; rw [m.sepB i hN o] at e; cases e
  rw [ZcK (hw _ hne)]; exact m.ro _ _ _ e
 ·intro j b'' hj
  by_cases hji : j = i
  ·subst hji
   rw [ZcB hi] at hj
   obtain rfl := Option.some.inj hj
   exact hb
  ·rw [Zcr hji] at hj
   rw [hw _ (fun e => hji (m.inj j i (m.n ▸ ZbT hj) hN e))]; exact m.blk j b'' hj
 ·exact m.sepB
 ·exact m.inj
 ·intro t
  rcases m.tok t with ⟨a, n, e⟩ | ⟨b, n, c, cur, ty, z, e, h1, h2, h3, h4, h5, h6, h7⟩
  ·exact .inl ⟨a, n, e⟩
  ·refine .inr ⟨b, n, c, cur, ty, z, e, h1, h2, ?_, h4, h5, h6, h7⟩
   rw [hw _ (fun (e : b = g.β i) => h6 i hN e.symm)]; exact h3
 ·exact m.tokInj
 ·exact m.np
 ·intro b hf
  obtain ⟨h1, h2⟩ := m.fr b hf
  exact ⟨by rw [hsz]; exact h1, h2⟩
 ·intro b hp
  exact ⟨(m.old b hp).1, by rw [hw _ (fun (e : b = g.β i) => m.np i hN (by rw [← e]; exact hp))]; exact (m.old b hp).2⟩
 ·exact m.oldR
 ·exact m.leR
 ·rw [hsz]; exact m.size
 ·rw [hos]; exact m.os
 ·rw [htp]; exact m.tape
 ·rw [hou]; exact m.output
 ·exact m.keep
 ·intro b'' n hf
  obtain ⟨⟨cu, t', h1, hs⟩, h2⟩ := m.jk b'' n hf
  exact ⟨⟨cu, t', by rw [hw _ (fun (e : b'' = g.β i) => (m.fr b'' (.inr ⟨n, hf⟩)).2.2.1 i hN e.symm)]; exact h1, hs⟩, h2⟩
 ·intro q hq
  have k := m.mo q hq
  exact k.mono (hw _ (fun e => k.β i hN e.symm)) k.R k.β k.np k.nl k.nφ k.nψ
theorem Mem.store {g : Gh} {h : List Blk} {w : World} (m : Mem w0 R0 p g h w) {i : Nat} {b b' : Blk} (hi : getB h i = some b) {cur : Array Value} {ty : TypeId} (hh : w.heap[g.β i]? = some (.cells cur ty (0, 0))) (cs : Array Value) (hb : BRep g b' cs.toList) :
  Mem w0 R0 p g (setB h i b') (w.setRow (g.β i) cs) := by
 have hN : i < g.N := m.n ▸ ZbT hi
 constructor
 ·rw [Zcx]; exact m.n
 ·intro b'' o v e
  have hne : b'' ≠ g.β i := fun x => by subst x; rw [m.sepB i hN o] at e; cases e
  rw [cell_setRow_other _ _ _ _ hne]; exact m.ro _ _ _ e
 ·intro j b'' hj
  by_cases hji : j = i
  ·subst hji
   rw [ZcB hi] at hj
   obtain rfl := Option.some.inj hj
   exact ARep.of ⟨cs, ty, setRow_heap _ _ _ _ _ _ hh, hb⟩
  ·rw [Zcr hji] at hj
   rw [setRow_other _ _ _ _ (fun e => hji (m.inj j i (m.n ▸ ZbT hj) hN e))]; exact m.blk j b'' hj
 ·exact m.sepB
 ·exact m.inj
 ·intro t
  rcases m.tok t with ⟨a, n, e⟩ | ⟨b, n, c, cur, ty, z, e, h1, h2, h3, h4, h5, h6, h7⟩
  ·exact .inl ⟨a, n, e⟩
  ·refine .inr ⟨b, n, c, cur, ty, z, e, h1, h2, ?_, h4, h5, h6, h7⟩
   rw [setRow_other _ _ _ _ (fun (e : b = g.β i) => h6 i hN e.symm)]; exact h3
 ·exact m.tokInj
 ·exact m.np
 ·intro b hf
  obtain ⟨h1, h2⟩ := m.fr b hf
  exact ⟨by simpa using h1, h2⟩
 ·intro b hp
  exact ⟨(m.old b hp).1, by rw [setRow_other _ _ _ _ (fun (e : b = g.β i) => m.np i hN (by rw [← e]; exact hp))]; exact (m.old b hp).2⟩
 ·exact m.oldR
 ·exact m.leR
 ·simpa using m.size
 ·exact m.os
 ·exact m.tape
 ·exact m.output
 ·exact m.keep
 ·intro b'' n hf
  obtain ⟨⟨cu, t', h1, hs⟩, h2⟩ := m.jk b'' n hf
  exact ⟨⟨cu, t', by rw [setRow_other _ _ _ _ (fun (e : b'' = g.β i) => (m.fr b'' (.inr ⟨n, hf⟩)).2.2.1 i hN e.symm)]; exact h1, hs⟩, h2⟩
 ·intro q hq
  have k := m.mo q hq
  exact k.mono (setRow_other _ _ _ _ (fun e => k.β i hN e.symm)) k.R k.β k.np k.nl k.nφ k.nψ
theorem Mem.setJ {g : Gh} {h : List Blk} {w : World} (m : Mem w0 R0 p g h w) {b n : Nat} (hf : g.ψ b n) {cur : Array Value} {ty : TypeId} (hh : w.heap[b]? = some (.cells cur ty (0, 0))) (cs : Array Value) (hs : cs.size = cur.size) :
  Mem w0 R0 p g h (w.setRow b cs) := by
 obtain ⟨hb, hp, hβ, hl⟩ := m.fr b (.inr ⟨n, hf⟩)
 obtain ⟨_, hR, _⟩ := m.jk b n hf
 constructor
 ·exact m.n
 ·intro b'' o v e
  have hne : b'' ≠ b := fun x => by subst x; rw [hR o] at e; cases e
  rw [cell_setRow_other _ _ _ _ hne]; exact m.ro _ _ _ e
 ·intro j b'' hj
  rw [setRow_other _ _ _ _ (hβ j (m.n ▸ ZbT hj))]; exact m.blk j b'' hj
 ·exact m.sepB
 ·exact m.inj
 ·intro t
  rcases m.tok t with ⟨a, n, e⟩ | ⟨b', n, c, cur, ty, z, e, h1, h2, h3, h4, h5, h6, h7⟩
  ·exact .inl ⟨a, n, e⟩
  ·refine .inr ⟨b', n, c, cur, ty, z, e, h1, h2, ?_, h4, h5, h6, h7⟩
   rw [setRow_other _ _ _ _ (fun (x : b' = b) => hl t ⟨n, c, z, by rw [← x]; exact e, h1⟩)]; exact h3
 ·exact m.tokInj
 ·exact m.np
 ·intro b' hf'
  obtain ⟨h1, h2⟩ := m.fr b' hf'
  exact ⟨by simpa using h1, h2⟩
 ·intro b' hp'
  exact ⟨(m.old b' hp').1, by rw [setRow_other _ _ _ _ (fun (x : b' = b) => hp (by rw [← x]; exact hp'))]; exact (m.old b' hp').2⟩
 ·exact m.oldR
 ·exact m.leR
 ·simpa using m.size
 ·exact m.os
 ·exact m.tape
 ·exact m.output
 ·exact m.keep
 ·intro b' k hf'
  obtain ⟨⟨cu, t', h1, hs'⟩, h2⟩ := m.jk b' k hf'
  by_cases hb' : b' = b
  ·subst hb'
   rw [hh] at h1
   injection h1 with h1
   injection h1 with h1
   exact ⟨⟨cs, ty, setRow_heap _ _ _ _ _ _ hh, by rw [hs, h1]; exact hs'⟩, h2⟩
  ·exact ⟨⟨cu, t', by rw [setRow_other _ _ _ _ hb']; exact h1, hs'⟩, h2⟩
 ·intro q hq
  have k := m.mo q hq
  exact k.mono (setRow_other _ _ _ _ (fun e => k.nψ n (e ▸ hf))) k.R k.β k.np k.nl k.nφ k.nψ
theorem Mem.chg {g : Gh} {h : List Blk} {w : World} (m : Mem w0 R0 p g h w) {h' : List Blk} {w' : World} {κ' : Option MB} (hlen : h'.length = h.length)
  (hblk : ∀ i b, getB h' i = some b → ∃ b0, getB h i = some b0 ∧ (∀ vs, BRep g b0 vs → BRep { g with κ := κ' } b vs) ∧ ∀ k es, b0 = .mp k es → b = .mp k es)
  (hsame : ∀ b, b < w.heap.size → (∀ q, g.κ = some q → q.b ≠ b) → w'.heap[b]? = w.heap[b]?) (hsz : w.heap.size ≤ w'.heap.size) (hos : w'.os = w.os) (htp : w'.tape = w.tape) (hou : w'.output = w.output)
  (hκ : ∀ q, κ' = some q → (∃ cur ty, w'.heap[q.b]? = some (.cells cur ty (0, 0)) ∧ q.c * q.sz ≤ cur.size ∧ ∀ (j : Nat) v, q.cs[j]? = some v → cur[j]? = some v) ∧ (q.n ≤ q.c ∧ q.c ≤ maxLen) ∧ q.cs.length = q.n * q.sz ∧
   ((∃ q0, g.κ = some q0 ∧ q.b = q0.b) ∨ w.heap.size ≤ q.b)) : Mem w0 R0 p { g with κ := κ' } h' w' := by
 constructor
 ·rw [hlen]; exact m.n
 ·intro b o v e
  have hc := m.ro b o v e
  have hb := ZbQ hc
  rw [ZcK (hsame b hb fun q hq x => by have := (m.mo q hq).R o; rw [x, e] at this; cases this)]; exact hc
 ·intro i b hi
  obtain ⟨b0, h0, h1, h2⟩ := hblk i b hi
  have hN : i < g.N := m.n ▸ ZbT h0
  have hb : w'.heap[g.β i]? = w.heap[g.β i]? := hsame _ (m.blkLt i hN) fun q hq x => (m.mo q hq).β i hN x.symm
  show ARep _ b w'.heap[g.β i]?
  rw [hb]
  exact (m.blk i b0 h0).imp h1 h2
 ·exact m.sepB
 ·exact m.inj
 ·intro t
  rcases m.tok t with ⟨a, n, e⟩ | ⟨b', n, c, cur, ty, z, e, h1, h2, h3, h4, h5, h6, h7⟩
  ·exact .inl ⟨a, n, e⟩
  ·exact .inr ⟨b', n, c, cur, ty, z, e, h1, h2, by rw [hsame b' (ZaV h3) fun q hq x => (m.mo q hq).nl t ⟨n, c, z, by rw [x]; exact e, h1⟩]; exact h3, h4, h5, h6, h7⟩
 ·exact m.tokInj
 ·exact m.np
 ·intro b hf
  obtain ⟨h1, h2⟩ := m.fr b hf
  exact ⟨Nat.lt_of_lt_of_le h1 hsz, h2⟩
 ·intro b hp; exact ⟨(m.old b hp).1, by rw [hsame b (m.pLt hp) fun q hq x => (m.mo q hq).np (x ▸ hp)]; exact (m.old b hp).2⟩
 ·exact m.oldR
 ·exact m.leR
 ·exact Nat.le_trans m.size hsz
 ·rw [hos]; exact m.os
 ·rw [htp]; exact m.tape
 ·rw [hou]; exact m.output
 ·exact m.keep
 ·intro b n hf
  obtain ⟨⟨cu, t', h1, hs⟩, h2⟩ := m.jk b n hf
  exact ⟨⟨cu, t', by rw [hsame b (ZaV h1) fun q hq x => (m.mo q hq).nψ n (x ▸ hf)]; exact h1, hs⟩, h2⟩
 ·intro q hq
  obtain ⟨k1, k2, k3, k4⟩ := hκ q hq
  rcases k4 with ⟨q0, e0, e1⟩ | hge
  ·have k := m.mo q0 e0
   exact ⟨k1, k2, k3, fun o => by rw [e1]; exact k.R o, fun i hi => by rw [e1]; exact k.β i hi, by rw [e1]; exact k.np, fun t => by rw [e1]; exact k.nl t, by rw [e1]; exact k.nφ, fun n => by rw [e1]; exact k.nψ n⟩
  ·exact ⟨k1, k2, k3, fun o => m.roNew hge o, fun i hi e => by have := m.blkLt i hi; have e : g.β i = q.b := e; omega, fun hp => by have := m.pLt hp; omega, fun t hl => by have : q.b < w.heap.size := ZfV m hl; omega, fun hφ => by have := (m.fr _ (.inl hφ)).1; omega, fun n hψ => by have := (m.fr _ (.inr ⟨n, hψ⟩)).1; omega⟩
theorem Mem.addFresh {g : Gh} {h : List Blk} {w : World} (m : Mem w0 R0 p g h w) {b : Nat} (hb : b < w.heap.size) (hp : ¬ p b) (hβ : ∀ i, i < g.N → g.β i ≠ b) (hl : ∀ t, ¬ live g t b) (hψ : ∀ n, ¬ g.ψ b n) (hκ : ∀ m, g.κ = some m → m.b ≠ b) :
  Mem w0 R0 p { g with φ := fun b' => g.φ b' ∨ b' = b } h w ∧ g.ext { g with φ := fun b' => g.φ b' ∨ b' = b } := by
 have hext : g.ext { g with φ := fun b' => g.φ b' ∨ b' = b } := ⟨RO.le_refl _, fun _ _ => rfl, Nat.le_refl _, rfl, rfl, fun _ h => .inl h, fun _ _ h => h, rfl⟩
 refine ⟨?_, hext⟩
 constructor
 ·exact m.n
 ·exact m.ro
 ·intro i b' hi
  exact (m.blk i b' hi).ext hext
 ·exact m.sepB
 ·exact m.inj
 ·exact m.tok
 ·exact m.tokInj
 ·exact m.np
 ·rintro b' ((hf | rfl) | hf)
  ·exact m.fr b' (.inl hf)
  ·exact ⟨hb, hp, hβ, hl⟩
  ·exact m.fr b' (.inr hf)
 ·exact m.old
 ·exact m.oldR
 ·exact m.leR
 ·exact m.size
 ·exact m.os
 ·exact m.tape
 ·exact m.output
 ·exact m.keep
 ·intro b' n hf
  obtain ⟨h1, h3, h6⟩ := m.jk b' n hf
  exact ⟨h1, h3, fun h => h.elim h6 fun e => hψ n (e ▸ hf)⟩
 ·intro q hq
  have k := m.mo q hq
  exact k.mono rfl k.R k.β k.np k.nl (fun hf => hf.elim k.nφ (hκ q hq)) k.nψ
theorem Mem.freeze {g : Gh} {h : List Blk} {w : World} (m : Mem w0 R0 p g h w) {b : Nat} (hf : g.φ b) (o n : Nat) : Mem w0 R0 p g h (w.freeze ⟨b, o, none⟩ n) := by
 have hne : ∀ k, k ≠ b → (w.freeze ⟨b, o, none⟩ n).heap[k]? = w.heap[k]? := fun k hk => by
  unfold World.freeze
  split
  ·rfl
  ·simp only [Array.getElem?_modify]; rw [if_neg (by omega)]
 have hcell : ∀ k q, (w.freeze ⟨b, o, none⟩ n).cell? ⟨k, q, none⟩ = w.cell? ⟨k, q, none⟩ := fun k q => by
  by_cases hk : k = b
  ·subst hk
   unfold World.freeze
   split
   ·rfl
   ·simp only [World.cell?, Array.getElem?_modify, if_true]
    cases e : w.heap[k]? with
    | none => rfl
    | some x => cases x <;> rfl
  ·exact ZcK (hne k hk)
 obtain ⟨hs, hp, hβ, hl⟩ := m.fr b (.inl hf)
 have hsz : (w.freeze ⟨b, o, none⟩ n).heap.size = w.heap.size := by
  unfold World.freeze
  split
  ·rfl
  ·simp
 have hrest : (w.freeze ⟨b, o, none⟩ n).os = w.os ∧ (w.freeze ⟨b, o, none⟩ n).tape = w.tape ∧ (w.freeze ⟨b, o, none⟩ n).output = w.output := by
  unfold World.freeze
  split <;> exact ⟨rfl, rfl, rfl⟩
 constructor
 ·exact m.n
 ·intro b' q v e; rw [hcell]; exact m.ro _ _ _ e
 ·intro i b' hi
  rw [hne _ (hβ i (m.n ▸ ZbT hi))]; exact m.blk i b' hi
 ·exact m.sepB
 ·exact m.inj
 ·intro t
  rcases m.tok t with ⟨a, k, e⟩ | ⟨b', k, c, cur, ty, z, e, h1, h2, h3, h4, h5, h6, h7⟩
  ·exact .inl ⟨a, k, e⟩
  ·have hb : b' ≠ b := fun x => hl t ⟨k, c, z, by rw [← x]; exact e, h1⟩
   exact .inr ⟨b', k, c, cur, ty, z, e, h1, h2, by rw [hne _ hb]; exact h3, h4, h5, h6, h7⟩
 ·exact m.tokInj
 ·exact m.np
 ·intro b' hf'
  obtain ⟨h1, h2⟩ := m.fr b' hf'
  exact ⟨by rw [hsz]; exact h1, h2⟩
 ·intro b' hp'
  exact ⟨(m.old b' hp').1, by rw [hne _ (fun (x : b' = b) => hp (by rw [← x]; exact hp'))]; exact (m.old b' hp').2⟩
 ·exact m.oldR
 ·exact m.leR
 ·rw [hsz]; exact m.size
 ·rw [hrest.1]; exact m.os
 ·rw [hrest.2.1]; exact m.tape
 ·rw [hrest.2.2]; exact m.output
 ·exact m.keep
 ·intro b' k hf'
  obtain ⟨⟨cu, t', h1, hs⟩, h3, h6⟩ := m.jk b' k hf'
  exact ⟨⟨cu, t', by rw [hne _ (fun (e : b' = b) => h6 (by rw [e]; exact hf))]; exact h1, hs⟩, h3, h6⟩
 ·intro q hq
  have k := m.mo q hq
  exact k.mono (hne _ (fun e => k.nφ (e ▸ hf))) k.R k.β k.np k.nl k.nφ k.nψ
end
end Go.Shal
set_option linter.unusedVariables false
namespace Go.Shal
open Go.RowKit
def Zbp (R : RO) (k : Kd) (xs : List k.T) (cells : List Value) : Prop :=
 cells.length = xs.length * k.size ∧ ∀ (i : Nat) x, xs[i]? = some x → ∃ c, Rep R k x c ∧ ∀ (j : Nat) u, c[j]? = some u → cells[i * k.size + j]? = some u
theorem Zbp.nil (R : RO) (k : Kd) : Zbp R k [] [] := ⟨by simp, fun i x h => by simp at h⟩
theorem Zbp.mono {R R' : RO} (h : R.le R') {k : Kd} {xs : List k.T} {cs : List Value} (r : Zbp R k xs cs) : Zbp R' k xs cs :=
 ⟨r.1, fun i x hx => let ⟨c, h1, h2⟩ := r.2 i x hx; ⟨c, h1.mono h, h2⟩⟩
theorem Zbp.append {R : RO} {k : Kd} {xs ys : List k.T} {cs ds : List Value} (h : Zbp R k xs cs) (h' : Zbp R k ys ds) : Zbp R k (xs ++ ys) (cs ++ ds) := by
 refine ⟨by rw [List.length_append, List.length_append, h.1, h'.1, Nat.add_mul], fun i x hx => ?_⟩
 rcases Nat.lt_or_ge i xs.length with hi | hi
 ·rw [List.getElem?_append_left hi] at hx
  obtain ⟨c, h1, h2⟩ := h.2 i x hx
  refine ⟨c, h1, fun j u hu => ?_⟩
  have := h2 j u hu
  rw [List.getElem?_append_left (List.getElem?_eq_some_iff.1 this).1]; exact this
 ·rw [List.getElem?_append_right hi] at hx
  obtain ⟨c, h1, h2⟩ := h'.2 _ x hx
  refine ⟨c, h1, fun j u hu => ?_⟩
  have := h2 j u hu
  have e : i * k.size + j = cs.length + ((i - xs.length) * k.size + j) := by
   rw [h.1, ← Nat.add_assoc, ← Nat.add_mul]; congr 2; omega
  rw [e, List.getElem?_append_right (by omega), Nat.add_sub_cancel_left]; exact this
theorem Zbp.one {R : RO} {k : Kd} {x : k.T} {c : List Value} (h : Rep R k x c) : Zbp R k [x] c := by
 refine ⟨by simp [h.length], fun i y hy => ?_⟩
 cases i with
 | zero => obtain rfl : x = y := by simpa using hy
           exact ⟨c, h, fun j u hu => by simpa using hu⟩
 | succ i => simp at hy
theorem Zho {R : RO} {k : Kd} {b : Nat} : ∀ (xs : List k.T) (o : Nat), (∀ (i : Nat) x, xs[i]? = some x → ∃ c, Rep R k x c ∧ ∀ (j : Nat) v, c[j]? = some v → R b (o + (i * k.size + j)) = some v) →
  ∃ cells, Zbp R k xs cells ∧ ∀ (j : Nat) u, cells[j]? = some u → R b (o + j) = some u
 | [], o, _ => ⟨[], Zbp.nil R k, fun j u h => by simp at h⟩
 | x :: xs, o, h => by
  obtain ⟨c, h1, h2⟩ := h 0 x rfl
  obtain ⟨cs, h3, h4⟩ := Zho xs (o + k.size) (fun i y hy => by
   obtain ⟨c, h1, h2⟩ := h (i + 1) y hy
   refine ⟨c, h1, fun j v hv => ?_⟩
   have := h2 j v hv
   rw [show o + k.size + (i * k.size + j) = o + ((i + 1) * k.size + j) by rw [Nat.add_mul]; omega]; exact this)
  refine ⟨c ++ cs, (Zbp.one h1).append h3, fun j u hu => ?_⟩
  rcases Nat.lt_or_ge j c.length with hj | hj
  ·rw [List.getElem?_append_left hj] at hu
   simpa using h2 j u hu
  ·rw [List.getElem?_append_right hj] at hu
   have := h4 _ u hu
   rw [h1.length] at this hj
   rw [show o + j = o + k.size + (j - k.size) by omega]; exact this
theorem ZcO {R : RO} {k : Kd} {xs : List k.T} {cells : List Value} (h : Zbp R k xs cells) {b o cap : Nat} (hR : ∀ (j : Nat) u, cells[j]? = some u → R b (o + j) = some u) (h1 : xs.length ≤ cap) (h2 : cap ≤ maxLen) :
  Rep R (.slice k) xs [.slice (some ⟨b, o, none⟩) xs.length cap] :=
 ⟨some ⟨b, o, none⟩, cap, rfl, h1, h2, .inr ⟨b, o, rfl, fun i x hx => let ⟨c, h3, h4⟩ := h.2 i x hx; ⟨c, h3, fun j v hv => hR _ _ (h4 j v hv)⟩⟩⟩
theorem Rep.row {R : RO} {k : Kd} {xs : List k.T} {v : Value} (h : Rep R (.slice k) xs [v]) :
  ∃ a cap cells, v = .slice a xs.length cap ∧ xs.length ≤ cap ∧ cap ≤ maxLen ∧ Zbp R k xs cells ∧ (cells = [] ∧ xs = [] ∨ ∃ b o, a = some ⟨b, o, none⟩ ∧ ∀ (j : Nat) u, cells[j]? = some u → R b (o + j) = some u) := by
 obtain ⟨a, cap, e, h1, h2, h3⟩ := h
 injection e with e _
 rcases h3 with rfl | ⟨b, o, e', h3⟩
 ·exact ⟨a, cap, [], e, h1, h2, Zbp.nil R k, .inl ⟨rfl, rfl⟩⟩
 ·obtain ⟨cells, h4, h5⟩ := Zho xs o h3
  exact ⟨a, cap, cells, e, h1, h2, h4, .inr ⟨b, o, e', h5⟩⟩
theorem Zbp.oneCells {R : RO} {k : Kd} {xs : List k.T} {cells : List Value} (h : Zbp R k xs cells) : ∀ u ∈ cells, u.oneCell' = true := by
 intro u hu
 obtain ⟨j, hj, rfl⟩ := List.mem_iff_getElem.1 hu
 rw [h.1] at hj
 have hs : 0 < k.size := by
  rcases Nat.eq_zero_or_pos k.size with e | e
  ·rw [e] at hj; omega
  ·exact e
 have hi : j / k.size < xs.length := (Nat.div_lt_iff_lt_mul hs).2 hj
 obtain ⟨c, h1, h2⟩ := h.2 (j / k.size) xs[j / k.size] (by simp [hi])
 have hm : j % k.size < c.length := by rw [h1.length]; exact Nat.mod_lt _ hs
 have h3 := h2 (j % k.size) c[j % k.size] (by simp [hm])
 have e : j / k.size * k.size + j % k.size = j := by rw [Nat.mul_comm]; exact Nat.div_add_mod j k.size
 rw [e] at h3
 have h4 : cells[j]'(by rw [h.1]; exact hj) = c[j % k.size] := by
  have := List.getElem?_eq_some_iff.1 h3
  exact this.2
 rw [h4]
 exact h1.oneCells _ (List.getElem_mem _)
section
variable {P : Program} {w0 : World} {R0 : RO} {p : Pr}
structure More (P : Program) (g : Gh) (w : World) (k : Kd) (tx : TypeId) (x : Value) (ys : List k.T) : Prop where
 src : ∃ news, Src P k.size tx x ys.length news w ∧ Zbp g.R k ys news
theorem Mem.firstCells {g : Gh} {h : List Blk} {w : World} (m : Mem w0 R0 p g h w) {b o n : Nat} {len cap : Nat} {size : Nat} {cells : List Value} (hl : cells.length = n * size) (hR : ∀ (j : Nat) u, cells[j]? = some u → g.R b (o + j) = some u) :
  (Builtin.firstCells size n (.slice (some ⟨b, o, none⟩) len cap)).run P w = .ok cells.toArray w :=
 run_firstCells_some w size n ⟨b, o, none⟩ len cap cells hl fun j v hv => by rw [Addr.add_lit]; exact m.ro _ _ _ (hR j v hv)
theorem More.ofSlice {g : Gh} {h : List Blk} {w : World} (m : Mem w0 R0 p g h w) {k : Kd} {ys : List k.T} {x : Value} (hx : Rep g.R (.slice k) ys [x]) {tx e : TypeId} (hk : P.underlying tx = some (.slice e)) : More P g w k tx x ys := by
 obtain ⟨a, cap, cells, rfl, h1, h2, h3, h4⟩ := hx.row
 rcases h4 with ⟨rfl, rfl⟩ | ⟨b, o, rfl, h5⟩
 ·refine ⟨[], ?_, Zbp.nil _ _⟩
  cases a with
  | none => exact Src.ofNil w hk cap
  | some a => exact Src.ofSlice w hk a 0 cap [] (by simp) (fun j v hv => by simp at hv) (by simp)
 ·exact ⟨cells, Src.ofSlice w hk ⟨b, o, none⟩ ys.length cap cells h3.1 (fun j v hv => by rw [Addr.add_lit]; exact m.ro _ _ _ (h5 j v hv)) h3.oneCells, h3⟩
theorem Zkg (R : RO) (s : ByteArray) : Zbp R (.int .u8) (bytesOf s) (byteCells s) := by
 have hl : (bytesOf s).length = s.size := by unfold bytesOf; rw [List.length_map, Array.length_toList]; rfl
 refine ⟨by rw [byteCells_length, hl]; simp [Kd.size], fun i x hx => ⟨[.int .u8 x], ⟨rfl, ?_⟩, fun j u hu => ?_⟩⟩
 ·unfold bytesOf at hx
  rw [List.getElem?_map] at hx
  cases e : s.data.toList[i]? with
  | none => rw [e] at hx; cases hx
  | some b =>
   rw [e] at hx
   obtain rfl := Option.some.inj hx
   have := b.toNat_lt
   exact ⟨by simp [IntKind.min, IntKind.signed], by simp [IntKind.max, IntKind.signed, IntKind.bits]; omega⟩
 ·cases j with
  | zero =>
   obtain rfl : .int .u8 x = u := by simpa using hu
   unfold bytesOf at hx
   unfold byteCells
   rw [List.getElem?_map] at hx ⊢
   simp only [Kd.size, Nat.mul_one, Nat.add_zero]
   cases e : s.data.toList[i]? with
   | none => rw [e] at hx; cases hx
   | some b => rw [e] at hx; obtain rfl := Option.some.inj hx; rfl
  | succ j => simp at hu
theorem More.ofString {g : Gh} {w : World} (s : ByteArray) {tx : TypeId} (hk : P.underlying tx = some .string) : More P g w (.int .u8) tx (.string s) (bytesOf s) := by
 have hl : (bytesOf s).length = s.size := by unfold bytesOf; rw [List.length_map, Array.length_toList]; rfl
 exact ⟨byteCells s, by rw [hl]; exact Src.ofString w hk s, Zkg _ s⟩
theorem Zdp (t tx ty e : TypeId) (i : TypeInfo) (ht : P.underlying t = some (.slice e)) (hi : P.info? e = some i) (w : World) (a : Option Addr) (n c : Nat) (x : Value) (news : List Value) (hs : Src P i.size tx x 0 news w) (hn : n ≤ c) :
  (Builtin.append_ #[t, tx] ty #[.slice a n c, x]).run P w = .ok (.slice a n c) w := by
 have hnil : news = [] := List.eq_nil_of_length_eq_zero (by have := hs.newsLen; simpa using this)
 subst hnil
 rcases hs.kind with ⟨e', hk⟩ | hk <;> cases a <;>
  simp [Builtin.append_, run_underlying ht, run_underlying hk, sizeOf, typeInfo, hi, hs.len, hn, hs.cells, storeCells]
def Gh.setTok (g : Gh) (t : Nat) (v : Value) (n : Nat) : Gh := { g with ν := fun u => if u = t then v else g.ν u, σ := fun u => if u = t then n else g.σ u }
theorem Gh.setTok_same (g : Gh) (t : Nat) (v : Value) (n : Nat) : (g.setTok t v n).ν t = v ∧ (g.setTok t v n).σ t = n := by simp [Gh.setTok]
theorem Gh.setTok_other (g : Gh) (t : Nat) (v : Value) (n : Nat) {u : Nat} (h : u ≠ t) : (g.setTok t v n).ν u = g.ν u ∧ (g.setTok t v n).σ u = g.σ u := by simp [Gh.setTok, h]
theorem Mem.setTok {g : Gh} {h : List Blk} {w : World} (m : Mem w0 R0 p g h w) (t : Nat) (v : Value) (n : Nat) (hn : Zht (g.setTok t v n) p w t)
  (hinj : ∀ u b, u ≠ t → live g u b → ¬ live (g.setTok t v n) t b) (hfr : ∀ b, (g.φ b ∨ ∃ m, g.ψ b m) → ¬ live (g.setTok t v n) t b) (hmo : ∀ m, g.κ = some m → ¬ live (g.setTok t v n) t m.b) : Mem w0 R0 p (g.setTok t v n) (h.map (·.scrub t)) w := by
 have hturn : g.turn t (g.setTok t v n) := ⟨RO.le_refl _, fun _ _ => rfl, Nat.le_refl _, fun u hu => Gh.setTok_other g t v n hu, fun _ h => h, fun _ _ h => h, fun _ => rfl⟩
 have hget : ∀ (l : List Blk) i, getB (l.map (·.scrub t)) i = (getB l i).map (·.scrub t) := by
  intro l
  induction l with
  | nil => intro i; rfl
  | cons x l ih => intro i; cases i with
   | zero => rfl
   | succ i => exact ih i
 have hlive : ∀ u b, u ≠ t → live (g.setTok t v n) u b → live g u b := fun u b hu ⟨n', c, z', e, hc⟩ => ⟨n', c, z', by rw [← (Gh.setTok_other g t v n hu).1]; exact e, hc⟩
 constructor
 ·simp only [List.length_map]; exact m.n
 ·exact m.ro
 ·intro i b hb
  rw [hget] at hb
  cases e : getB h i with
  | none => rw [e] at hb; cases hb
  | some b' =>
   rw [e] at hb
   obtain rfl := Option.some.inj hb
   exact (m.blk i b' e).scrub hturn
 ·exact m.sepB
 ·exact m.inj
 ·intro u
  by_cases hu : u = t
  ·subst hu; exact hn
  ·have := m.tok u
   unfold Zht at this ⊢
   rw [(Gh.setTok_other g t v n hu).1, (Gh.setTok_other g t v n hu).2]
   exact this
 ·intro u u' b h1 h2
  by_cases hu : u = t <;> by_cases hu' : u' = t
  ·rw [hu, hu']
  ·subst hu; exact absurd h1 (hinj u' b hu' (hlive _ _ hu' h2))
  ·subst hu'; exact absurd h2 (hinj u b hu (hlive _ _ hu h1))
  ·exact m.tokInj u u' b (hlive _ _ hu h1) (hlive _ _ hu' h2)
 ·exact m.np
 ·intro b hf
  obtain ⟨h1, h2, h3, h4⟩ := m.fr b hf
  refine ⟨h1, h2, h3, fun u hu => ?_⟩
  by_cases e : u = t
  ·subst e; exact hfr b hf hu
  ·exact h4 u (hlive u b e hu)
 ·exact m.old
 ·exact m.oldR
 ·exact m.leR
 ·exact m.size
 ·exact m.os
 ·exact m.tape
 ·exact m.output
 ·exact m.keep
 ·exact m.jk
 ·intro q hq
  have k := m.mo q hq
  refine k.mono rfl k.R k.β k.np (fun u hu => ?_) k.nφ k.nψ
  by_cases e : u = t
  ·subst e; exact hmo q hq hu
  ·exact k.nl u (hlive u _ e hu)
end
end Go.Shal
set_option linter.unusedVariables false
namespace Go.Shal
open Go.RowKit
theorem Zcp {b : Nat} {ty : TypeId} {fr : Nat × Nat} : ∀ (vs : List Value) (o : Nat) (w : World) (cur : Array Value), w.heap[b]? = some (.cells cur ty fr) →
  ∃ cur', (w.setCells b o vs).heap[b]? = some (.cells cur' ty fr) ∧ cur'.size = cur.size
 | [], o, w, cur, h => ⟨cur, h, rfl⟩
 | v :: vs, o, w, cur, h => by
  have h' : (w.setCell ⟨b, o, none⟩ v).heap[b]? = some (.cells (cur.setIfInBounds o v) ty fr) := by
   simp [World.setCell, Array.getElem?_modify, h]
  obtain ⟨cur', h1, h2⟩ := Zcp vs (o + 1) (w.setCell ⟨b, o, none⟩ v) _ h'
  exact ⟨cur', h1, by rw [h2]; simp⟩
theorem Zby {b : Nat} : ∀ (vs : List Value) (o : Nat) (w : World) (k : Nat), k ≠ b → (w.setCells b o vs).heap[k]? = w.heap[k]?
 | [], o, w, k, h => rfl
 | v :: vs, o, w, k, h => by
  show ((w.setCell ⟨b, o, none⟩ v).setCells b (o + 1) vs).heap[k]? = _
  rw [Zby vs (o + 1) _ k h, Below.heap_setCell _ _ _ _ h]
theorem ZdP (b : Nat) : ∀ (vs : List Value) (o : Nat) (w : World), (w.setCells b o vs).heap.size = w.heap.size ∧ (w.setCells b o vs).os = w.os ∧ (w.setCells b o vs).tape = w.tape ∧ (w.setCells b o vs).output = w.output
 | [], o, w => ⟨rfl, rfl, rfl, rfl⟩
 | v :: vs, o, w => by
  obtain ⟨h1, h2, h3, h4⟩ := ZdP b vs (o + 1) (w.setCell ⟨b, o, none⟩ v)
  exact ⟨by show ((w.setCell ⟨b, o, none⟩ v).setCells b (o + 1) vs).heap.size = _; rw [h1]; simp, h2, h3, h4⟩
def RO.behind (R : RO) (b q : Nat) (cs : List Value) : RO := fun b' o => if b' = b ∧ q ≤ o then cs[o - q]? else R b' o
section
variable {P : Program} {w0 : World} {R0 : RO} {p : Pr}
theorem Mem.inplace {g : Gh} {h : List Blk} {w : World} (m : Mem w0 R0 p g h w) {b q : Nat} {cur : Array Value} {ty : TypeId} (hb : w.heap[b]? = some (.cells cur ty (0, 0))) (hβ : ∀ i, i < g.N → g.β i ≠ b) (hp : ¬ p b)
  (hl : ∀ t, ¬ live g t b) (hR : ∀ o, q ≤ o → g.R b o = none) (news : List Value) (hfit : q + news.length ≤ cur.size) (hj : ∀ b' n, g.ψ b' n → b' ≠ b) (hκ : ∀ m, g.κ = some m → m.b ≠ b) :
  Mem w0 R0 p { g with R := RO.behind g.R b q news } h (w.setCells b q news) ∧ RO.le g.R (RO.behind g.R b q news) := by
 have hother : ∀ b' o, ¬ (b' = b ∧ q ≤ o) → RO.behind g.R b q news b' o = g.R b' o := fun b' o hn => by unfold RO.behind; rw [if_neg hn]
 have hle : RO.le g.R (RO.behind g.R b q news) := fun b' o v e => by
  by_cases hn : b' = b ∧ q ≤ o
  ·obtain ⟨rfl, ho⟩ := hn; rw [hR o ho] at e; cases e
  ·rw [hother _ _ hn]; exact e
 have hext : g.ext { g with R := RO.behind g.R b q news } := ⟨hle, fun _ _ => rfl, Nat.le_refl _, rfl, rfl, fun _ h => h, fun _ _ h => h, rfl⟩
 obtain ⟨hs1, hs2, hs3, hs4⟩ := ZdP b news q w
 refine ⟨?_, hle⟩
 constructor
 ·exact m.n
 ·intro b' o v e
  replace e : RO.behind g.R b q news b' o = some v := e
  by_cases hn : b' = b ∧ q ≤ o
  ·obtain ⟨rfl, ho⟩ := hn
   unfold RO.behind at e
   rw [if_pos ⟨rfl, ho⟩] at e
   obtain ⟨hj, e⟩ := List.getElem?_eq_some_iff.1 e
   have := World.cell?_setCells_in b' news q w (fun j hj => by simp [World.cell?, hb]; omega) (o - q) hj
   rw [show q + (o - q) = o by omega, e] at this
   exact this
  ·rw [hother _ _ hn] at e
   rw [World.cell?_setCells_out b news q w ⟨b', o, none⟩ (fun h1 _ => .inl (by
    rcases Nat.lt_or_ge o q with h2 | h2
    ·exact h2
    ·exact absurd ⟨h1, h2⟩ hn))]
   exact m.ro _ _ _ e
 ·intro i b' hi
  rw [show ({ g with R := RO.behind g.R b q news } : Gh).β i = g.β i from rfl, Zby _ _ _ _ (hβ i (m.n ▸ ZbT hi))]
  exact (m.blk i b' hi).ext hext
 ·intro i hi o
  show RO.behind g.R b q news (g.β i) o = none
  rw [hother _ _ (fun e => hβ i hi e.1)]; exact m.sepB i hi o
 ·exact m.inj
 ·intro t
  rcases m.tok t with ⟨a, n, e⟩ | ⟨b', n, c, cur', ty', z, e, h1, h2, h3, h4, h5, h6, h7⟩
  ·exact .inl ⟨a, n, e⟩
  ·have hne : b' ≠ b := fun e' => hl t ⟨n, c, z, by rw [← e']; exact e, h1⟩
   refine .inr ⟨b', n, c, cur', ty', z, e, h1, h2, by rw [Zby _ _ _ _ hne]; exact h3, h4, fun o ho => ?_, h6, h7⟩
   show RO.behind g.R b q news b' o = none
   rw [hother _ _ (fun e => hne e.1)]; exact h5 o ho
 ·exact m.tokInj
 ·exact m.np
 ·intro b' hf
  obtain ⟨h1, h2⟩ := m.fr b' hf
  exact ⟨by rw [hs1]; exact h1, h2⟩
 ·intro b' hp'
  exact ⟨(m.old b' hp').1, by rw [Zby _ _ _ _ (fun (e : b' = b) => hp (by rw [← e]; exact hp'))]; exact (m.old b' hp').2⟩
 ·intro b' o hp'
  show RO.behind g.R b q news b' o = _
  rw [hother _ _ (fun (e : b' = b ∧ q ≤ o) => hp (by rw [← e.1]; exact hp'))]; exact m.oldR b' o hp'
 ·exact RO.le_trans m.leR hle
 ·rw [hs1]; exact m.size
 ·rw [hs2]; exact m.os
 ·rw [hs3]; exact m.tape
 ·rw [hs4]; exact m.output
 ·exact m.keep
 ·intro b' n hf
  obtain ⟨⟨cu, t', h1, hs⟩, h3, h6⟩ := m.jk b' n hf
  have hne : b' ≠ b := hj b' n hf
  exact ⟨⟨cu, t', by rw [Zby _ _ _ _ hne]; exact h1, hs⟩, fun o => by show RO.behind g.R b q news b' o = none; rw [hother _ _ (fun e => hne e.1)]; exact h3 o, h6⟩
 ·intro q' hq
  have k := m.mo q' hq
  have hne := hκ q' hq
  exact k.mono (Zby _ _ _ _ hne) (fun o => by show RO.behind g.R b q news q'.b o = none; rw [hother _ _ (fun e => hne e.1)]; exact k.R o) k.β k.np k.nl k.nφ k.nψ
theorem Zfk (t : Nat) (h : List Blk) : (h.map (·.scrub t)).map (·.scrub t) = h.map (·.scrub t) := by
 have h1 : ∀ s : SV, (s.scrub1 t).scrub1 t = s.scrub1 t := by
  intro s
  cases s with
  | own t' k xs =>
   show (cond (Nat.beq t t') (SV.dat (.slice k) xs) (.own t' k xs)).scrub1 t = cond (Nat.beq t t') (.dat (.slice k) xs) (.own t' k xs)
   cases e : Nat.beq t t' with
   | true => rfl
   | false => show cond (Nat.beq t t') (SV.dat (.slice k) xs) (.own t' k xs) = _; rw [e]
  | _ => rfl
 have hc : ∀ s : SV, (s.scrub t).scrub t = s.scrub t := by
  intro s
  cases s with
  | tup l =>
   show SV.tup ((l.map (SV.scrub1 t)).map (SV.scrub1 t)) = SV.tup (l.map (SV.scrub1 t))
   rw [List.map_map]
   congr 1
   exact List.map_congr_left fun x _ => h1 x
  | own t' k xs =>
   show (cond (Nat.beq t t') (SV.dat (.slice k) xs) (.own t' k xs)).scrub t = cond (Nat.beq t t') (.dat (.slice k) xs) (.own t' k xs)
   cases e : Nat.beq t t' with
   | true => rfl
   | false => show cond (Nat.beq t t') (SV.dat (.slice k) xs) (.own t' k xs) = _; rw [e]
  | raw t' k n =>
   show (cond (Nat.beq t t') SV.undef (.raw t' k n)).scrub t = cond (Nat.beq t t') .undef (.raw t' k n)
   cases e : Nat.beq t t' with
   | true => rfl
   | false => show cond (Nat.beq t t') SV.undef (.raw t' k n) = _; rw [e]
  | mo k xs =>
   show (cond (Nat.beq t 1100000000000) SV.undef (.mo k xs)).scrub t = cond (Nat.beq t 1100000000000) .undef (.mo k xs)
   cases e : Nat.beq t 1100000000000 with
   | true => rfl
   | false => show cond (Nat.beq t 1100000000000) SV.undef (.mo k xs) = _; rw [e]
  | mq k i p =>
   show (cond (Nat.beq t 1100000000000) SV.undef (.mq k i p)).scrub t = cond (Nat.beq t 1100000000000) .undef (.mq k i p)
   cases e : Nat.beq t 1100000000000 with
   | true => rfl
   | false => show cond (Nat.beq t 1100000000000) SV.undef (.mq k i p) = _; rw [e]
  | _ => rfl
 have hb : ∀ b : Blk, (b.scrub t).scrub t = b.scrub t := by
  intro b
  cases b with
  | cells cs =>
   show Blk.cells ((cs.map (·.scrub t)).map (·.scrub t)) = Blk.cells (cs.map (·.scrub t))
   rw [List.map_map]
   congr 1
   exact List.map_congr_left fun s _ => hc s
  | arr _ _ => rfl
  | mp _ _ => rfl
 rw [List.map_map]
 exact List.map_congr_left fun b _ => hb b
theorem Gh.turn.trans {t : Nat} {g g' g'' : Gh} (h : g.turn t g') (k : g'.turn t g'') : g.turn t g'' :=
 ⟨RO.le_trans h.R k.R, fun b hb => (k.β b (Nat.lt_of_lt_of_le hb h.N)).trans (h.β b hb), Nat.le_trans h.N k.N, fun u hu => ⟨((k.ν u hu).1).trans (h.ν u hu).1, ((k.ν u hu).2).trans (h.ν u hu).2⟩, fun b q => k.φ b (h.φ b q), fun b m q => k.ψ b m (h.ψ b m q), fun ht => (k.κ ht).trans (h.κ ht)⟩
theorem Zcz (g : Gh) (t : Nat) (v : Value) (n : Nat) : g.turn t (g.setTok t v n) := ⟨RO.le_refl _, fun _ _ => rfl, Nat.le_refl _, fun u hu => Gh.setTok_other g t v n hu, fun _ h => h, fun _ _ h => h, fun _ => rfl⟩
theorem Gh.ext.turn {g g' : Gh} (h : g.ext g') (t : Nat) : g.turn t g' := ⟨h.R, h.β, h.N, fun u _ => ⟨by rw [h.ν], by rw [h.σ]⟩, h.φ, h.ψ, fun _ => h.κ⟩
theorem Zha (g : Gh) (R' : RO) (h : g.R.le R') (t : Nat) : g.turn t { g with R := R' } := ⟨h, fun _ _ => rfl, Nat.le_refl _, fun _ _ => ⟨rfl, rfl⟩, fun _ h => h, fun _ _ h => h, fun _ => rfl⟩
theorem ZmE {t tx ty e : TypeId} {i : TypeInfo} {z : Value} (ht : P.underlying t = some (.slice e)) (hi : P.info? e = some i) (hz : i.zero = some z) {k : Kd} (hsz : i.size = k.size) (hzc : z.cells.size = k.size) (hby : 1 ≤ i.bytes)
  {g : Gh} {h : List Blk} {w : World} (m : Mem w0 R0 p g h w) {v : Value} {xs : List k.T} (hx : Rep g.R (.slice k) xs [v]) {x : Value} {ys : List k.T} (hmore : More P g w k tx x ys)
  (hlim : (xs.length + ys.length) * i.bytes ≤ 140737488355328) (tk : Nat) (hown : (v = g.ν tk ∧ g.σ tk = k.size) ∨ ∃ a n, v = .slice a n n) :
  ∃ v' w' g', (Builtin.append_ #[t, tx] ty #[v, x]).run P w = .ok v' w' ∧ Mem w0 R0 p g' (h.map (·.scrub tk)) w' ∧ g.turn tk g' ∧ CRep g' (.own tk k (xs ++ ys)) v' := by
 obtain ⟨a, cap, cells, rfl, hn, hcm, hrow, hloc⟩ := hx.row
 obtain ⟨news, hs, hnr⟩ := hmore.src
 have hnm : xs.length + ys.length ≤ 140737488355328 := Nat.le_trans (Nat.le_mul_of_pos_right _ hby) hlim
 rcases Nat.eq_zero_or_pos ys.length with hm | hm
 ·
  have hy : ys = [] := List.eq_nil_of_length_eq_zero hm
  subst hy
  refine ⟨_, w, g.setTok tk (.slice a xs.length cap) k.size, Zdp t tx ty e i ht hi w a _ cap x news (hsz ▸ hs) hn, m.setTok tk _ _ ?_ ?_ ?_ ?_, Zcz _ _ _ _, ?_⟩
  ·rcases hown with ⟨ho, hσ⟩ | ⟨a', n', ho⟩
   ·have := m.tok tk
    unfold Zht at this ⊢
    rw [(Gh.setTok_same g tk _ _).1, (Gh.setTok_same g tk _ _).2, ho, ← hσ]
    exact this
   ·exact .inl ⟨a', n', by rw [(Gh.setTok_same g tk _ _).1]; exact ho⟩
  ·rintro u b hu h1 ⟨n', c', z', e', hc'⟩
   rw [(Gh.setTok_same g tk _ _).1] at e'
   rcases hown with ⟨ho, hσ⟩ | ⟨a', n'', ho⟩
   ·exact hu (m.tokInj u tk b h1 ⟨n', c', z', by rw [← ho]; exact e', hc'⟩)
   ·rw [ho] at e'; injection e' with _ e1 e2; omega
  ·rintro b hf ⟨n', c', z', e', hc'⟩
   rw [(Gh.setTok_same g tk _ _).1] at e'
   rcases hown with ⟨ho, hσ⟩ | ⟨a', n'', ho⟩
   ·exact (m.fr b hf).2.2.2 tk ⟨n', c', z', by rw [← ho]; exact e', hc'⟩
   ·rw [ho] at e'; injection e' with _ e1 e2; omega
  ·rintro q hq ⟨n', c', z', e', hc'⟩
   rw [(Gh.setTok_same g tk _ _).1] at e'
   rcases hown with ⟨ho, hσ⟩ | ⟨a', n'', ho⟩
   ·exact (m.mo q hq).nl tk ⟨n', c', z', by rw [← ho]; exact e', hc'⟩
   ·rw [ho] at e'; injection e' with _ e1 e2; omega
  ·refine ⟨?_, (Gh.setTok_same g tk _ _).1.symm, (Gh.setTok_same g tk _ _).2⟩
   rw [List.append_nil]
   exact hx
 ·by_cases hroom : xs.length + ys.length ≤ cap
  ·
   have hlt : xs.length < cap := by omega
   have hown' : Value.slice a xs.length cap = g.ν tk ∧ g.σ tk = k.size := by
    rcases hown with h | ⟨a', n', ho⟩
    ·exact h
    ·injection ho with _ e1 e2; omega
   obtain ⟨ho, hσ⟩ := hown'
   rcases m.tok tk with ⟨a', n', e'⟩ | ⟨b, n', c', cur, ty', z, e', h1, h2, h3, h4, h5, h6, h7⟩
   ·rw [← ho] at e'; injection e' with _ e1 e2; omega
   rw [← ho] at e'
   injection e' with e1 e2 e3
   subst e1 e2 e3
   rw [hσ] at h4 h5
   have hfit : z + xs.length * k.size + news.length ≤ cur.size := by
    rw [hs.newsLen, h4, Nat.add_assoc, ← Nat.add_mul]; exact Nat.add_le_add_left (Nat.mul_le_mul_right _ hroom) _
   have hrun := run_append_room_src (P := P) w t tx ty e i ht hi b z xs.length cap x ys.length news (hsz ▸ hs) hroom
    (fun j hj => by rw [hsz]; simp [World.cell?, h3]; omega) (fun j hj => by simp [World.frozen?, h3])
   rw [hsz] at hrun
   have m1 := m.setTok tk (.slice none 0 0) 0 (.inl ⟨none, 0, (Gh.setTok_same g tk _ _).1⟩) (by
    rintro u b' hu h1 ⟨n', c', z', e', hc'⟩
    rw [(Gh.setTok_same g tk _ _).1] at e'; cases e') (by
    rintro b' hf ⟨n', c', z', e', hc'⟩
    rw [(Gh.setTok_same g tk _ _).1] at e'; cases e') (by
    rintro q hq ⟨n', c', z', e', hc'⟩
    rw [(Gh.setTok_same g tk _ _).1] at e'; cases e')
   have hnl : ∀ u, ¬ live (g.setTok tk (.slice none 0 0) 0) u b := by
    rintro u ⟨n', c', z', e', hc'⟩
    by_cases hu : u = tk
    ·subst hu; rw [(Gh.setTok_same g u _ _).1] at e'; cases e'
    ·rw [(Gh.setTok_other g tk _ _ hu).1] at e'
     exact hu (m.tokInj u tk b ⟨n', c', z', e', hc'⟩ ⟨_, _, _, ho.symm, h1⟩)
   obtain ⟨m2, hle⟩ := m1.inplace h3 h6 h7 hnl h5 news hfit (fun b' n hf e => (m.fr b' (.inr ⟨n, hf⟩)).2.2.2 tk (by rw [e]; exact ⟨_, _, _, ho.symm, h1⟩)) (fun q hq e => (m.mo q hq).nl tk (by rw [e]; exact ⟨_, _, _, ho.symm, h1⟩))
   obtain ⟨cur', hc1, hc2⟩ := Zcp news (z + xs.length * k.size) w cur h3
   have hbeh : ∀ o, z + (xs.length + ys.length) * k.size ≤ o → RO.behind g.R b (z + xs.length * k.size) news b o = none := fun o hge => by
    unfold RO.behind
    rw [if_pos ⟨rfl, by rw [Nat.add_mul] at hge; omega⟩]
    exact List.getElem?_eq_none (by rw [hs.newsLen]; rw [Nat.add_mul] at hge; omega)
   have m3 := m2.setTok tk (.slice (some ⟨b, z, none⟩) (xs.length + ys.length) cap) k.size (by
    rcases Nat.lt_or_ge (xs.length + ys.length) cap with hl | hl
    ·exact .inr ⟨b, _, cap, cur', ty', z, (Gh.setTok_same _ _ _ _).1, hl, h2, hc1, by rw [hc2, h4, (Gh.setTok_same _ _ _ _).2], fun o ho' => by
      rw [(Gh.setTok_same _ _ _ _).2] at ho'; exact hbeh o ho', h6, h7⟩
    ·exact .inl ⟨_, cap, by rw [(Gh.setTok_same _ _ _ _).1, show xs.length + ys.length = cap by omega]⟩) (by
    rintro u b' hu hl' ⟨n', c', z', e', hc'⟩
    rw [(Gh.setTok_same _ _ _ _).1] at e'
    injection e' with e1 _ _
    injection e1 with e1
    injection e1 with e1
    subst e1
    exact hnl u hl') (by
    rintro b' hf ⟨n', c', z', e', hc'⟩
    rw [(Gh.setTok_same _ _ _ _).1] at e'
    injection e' with e1 _ _
    injection e1 with e1
    injection e1 with e1
    subst e1
    exact (m.fr b hf).2.2.2 tk ⟨_, _, _, ho.symm, h1⟩) (by
    rintro q hq ⟨n', c', z', e', hc'⟩
    rw [(Gh.setTok_same _ _ _ _).1] at e'
    injection e' with e1 _ _
    injection e1 with e1
    injection e1 with e1
    exact (m.mo q hq).nl tk (e1 ▸ ⟨_, _, _, ho.symm, h1⟩))
   rw [Zfk] at m3
   have t1 := Zcz g tk (.slice none 0 0) 0
   have t2 : (g.setTok tk (.slice none 0 0) 0).turn tk { g.setTok tk (.slice none 0 0) 0 with R := RO.behind (g.setTok tk (.slice none 0 0) 0).R b (z + xs.length * k.size) news } :=
    Zha _ _ hle tk
   refine ⟨_, _, _, hrun, m3, (t1.trans t2).trans (Zcz _ tk _ _), ?_⟩
   refine ⟨?_, (Gh.setTok_same _ _ _ _).1.symm, (Gh.setTok_same _ _ _ _).2⟩
   have hle' : RO.le g.R (RO.behind g.R b (z + xs.length * k.size) news) := hle
   have hall := (hrow.mono hle').append (hnr.mono hle')
   have key := ZcO (b := b) (o := z) (cap := cap) hall (fun j u hu => ?_) (by rw [List.length_append]; exact hroom) hcm
   ·rw [List.length_append] at key; exact key
   ·rcases Nat.lt_or_ge j cells.length with hj | hj
    ·rw [List.getElem?_append_left hj] at hu
     rcases hloc with ⟨rfl, _⟩ | ⟨b', o', e', hl'⟩
     ·simp at hj
     ·injection e' with e'
      injection e' with e1 e2
      subst e1 e2
      exact hle' _ _ _ (hl' j u hu)
    ·rw [List.getElem?_append_right hj] at hu
     show RO.behind g.R b (z + xs.length * k.size) news b (z + j) = some u
     unfold RO.behind
     rw [if_pos ⟨rfl, by rw [← hrow.1]; omega⟩, ← hrow.1, show z + j - (z + cells.length) = j - cells.length by omega]; exact hu
  ·
   have hold : (Builtin.firstCells i.size xs.length (.slice a xs.length cap)).run P w.drew = .ok cells.toArray w.drew := by
    rcases hloc with ⟨rfl, rfl⟩ | ⟨b, o, rfl, hl⟩
    ·cases a with
     | none => exact run_firstCells_none w.drew _ _ _ _
     | some a => exact run_firstCells_some w.drew i.size 0 a 0 cap [] (by simp) (fun j v hv => by simp at hv)
    ·exact m.drew.firstCells (by rw [hsz]; exact hrow.1) hl
   have hrun := run_append_grow_src (P := P) w t tx ty e i z ht hi hz a xs.length cap cells hold x ys.length news (hsz ▸ hs) (by omega) (by omega) (growslice_fits (by omega) hlim)
   have hge := grownCap_ge w (xs.length + ys.length) cap e
   have hle' := grownCap_le_maxLen w (xs.length + ys.length) cap e (by simp only [maxLen]; omega)
   obtain ⟨m1, hle⟩ := m.drew.freshRow ((cells ++ news).toArray ++ Builtin.zeroCells z.cells (grownCap w (xs.length + ys.length) cap e - (xs.length + ys.length))) e (cells ++ news) (fun j u hu => by
    have hj := (List.getElem?_eq_some_iff.1 hu).1
    rw [Array.getElem?_append_left (by simpa using hj)]; simpa using hu)
   have hlen : (cells ++ news).length = (xs.length + ys.length) * k.size := by rw [List.length_append, hrow.1, hs.newsLen, Nat.add_mul]
   have hnl : ∀ u b, live g u b → b ≠ w.heap.size := fun u b hl => by have := ZfV m hl; omega
   have m2 := m1.setTok tk (.slice (some ⟨w.heap.size, 0, none⟩) (xs.length + ys.length) (grownCap w (xs.length + ys.length) cap e)) k.size (by
    rcases Nat.lt_or_ge (xs.length + ys.length) (grownCap w (xs.length + ys.length) cap e) with hl | hl
    ·refine .inr ⟨w.heap.size, _, _, _, e, 0, (Gh.setTok_same _ _ _ _).1, hl, hle', by show (w.heap.push _)[w.heap.size]? = _; simp; rfl, ?_, fun o ho => ?_, fun i' hi' => ?_, fun hp => ?_⟩
     ·rw [(Gh.setTok_same _ _ _ _).2, Nat.zero_add, Array.size_append, List.size_toArray, size_zeroCells, hzc, hlen, ← Nat.add_mul]
      congr 1
      omega
     ·rw [(Gh.setTok_same _ _ _ _).2, Nat.zero_add] at ho
      show RO.with g.R w.heap.size (cells ++ news) w.heap.size o = none
      rw [RO.with_same]
      exact List.getElem?_eq_none (by omega)
     ·have := m.blkLt i' hi'
      show g.β i' ≠ w.heap.size
      omega
     ·have := m.pLt hp; omega
    ·have heq : xs.length + ys.length = grownCap w (xs.length + ys.length) cap e := by omega
     exact .inl ⟨some ⟨w.heap.size, 0, none⟩, grownCap w (xs.length + ys.length) cap e, (Gh.setTok_same _ _ _ _).1.trans (congrArg (fun n => Value.slice (some ⟨w.heap.size, 0, none⟩) n (grownCap w (xs.length + ys.length) cap e)) heq)⟩) (by
    rintro u b' hu hl' ⟨n', c', z', e', hc'⟩
    rw [(Gh.setTok_same _ _ _ _).1] at e'
    injection e' with e1 _ _
    injection e1 with e1
    injection e1 with e1
    exact hnl u b' hl' e1.symm) (by
    rintro b' hf ⟨n', c', z', e', hc'⟩
    rw [(Gh.setTok_same _ _ _ _).1] at e'
    injection e' with e1 _ _
    injection e1 with e1
    injection e1 with e1
    have := (m.fr b' hf).1
    omega) (by
    rintro q hq ⟨n', c', z', e', hc'⟩
    rw [(Gh.setTok_same _ _ _ _).1] at e'
    injection e' with e1 _ _
    injection e1 with e1
    injection e1 with e1
    have := m.moLt hq
    omega)
   refine ⟨_, _, _, hrun, m2, (Zha g (RO.with g.R w.heap.size (cells ++ news)) hle tk).trans (Zcz _ tk _ _), ?_⟩
   refine ⟨?_, (Gh.setTok_same _ _ _ _).1.symm, (Gh.setTok_same _ _ _ _).2⟩
   have hall := (hrow.mono hle).append (hnr.mono hle)
   have key := ZcO (b := w.heap.size) (o := 0) (cap := grownCap w (xs.length + ys.length) cap e) hall (fun j u hu => by
    rw [Nat.zero_add]
    exact (RO.with_same g.R w.heap.size (cells ++ news) j).trans hu) (by rw [List.length_append]; exact hge) hle'
   rw [List.length_append] at key
   exact key
theorem Znh (g : Gh) (κ' : Option MB) : g.turn 1100000000000 { g with κ := κ' } :=
 ⟨RO.le_refl _, fun _ _ => rfl, Nat.le_refl _, fun _ _ => ⟨rfl, rfl⟩, fun _ h => h, fun _ _ h => h, fun h => absurd rfl h⟩
theorem Zip (f : Blk → Blk) : ∀ (l : List Blk) (i : Nat), getB (l.map f) i = (getB l i).map f
 | [], _ => rfl
 | _ :: _, 0 => rfl
 | _ :: l, i + 1 => Zip f l i
theorem Mem.chgS {g : Gh} {h : List Blk} {w : World} (m : Mem w0 R0 p g h w) {w' : World} {κ' : Option MB}
  (hsame : ∀ b, b < w.heap.size → (∀ q, g.κ = some q → q.b ≠ b) → w'.heap[b]? = w.heap[b]?) (hsz : w.heap.size ≤ w'.heap.size) (hos : w'.os = w.os) (htp : w'.tape = w.tape) (hou : w'.output = w.output)
  (hκ : ∀ q, κ' = some q → (∃ cur ty, w'.heap[q.b]? = some (.cells cur ty (0, 0)) ∧ q.c * q.sz ≤ cur.size ∧ ∀ (j : Nat) v, q.cs[j]? = some v → cur[j]? = some v) ∧ (q.n ≤ q.c ∧ q.c ≤ maxLen) ∧ q.cs.length = q.n * q.sz ∧
   ((∃ q0, g.κ = some q0 ∧ q.b = q0.b) ∨ w.heap.size ≤ q.b)) : Mem w0 R0 p { g with κ := κ' } (h.map (·.scrub 1100000000000)) w' :=
 m.chg (by rw [List.length_map]) (fun i b hb => by
  rw [Zip] at hb
  obtain ⟨b0, e1, rfl⟩ := Option.map_eq_some_iff.1 hb
  exact ⟨b0, e1, fun vs hv => BRep.scrub (Znh g κ') hv, fun k es e => by subst e; rfl⟩) hsame hsz hos htp hou hκ
theorem Mem.chg0 {g : Gh} {h : List Blk} {w : World} (m : Mem w0 R0 p g h w) : Mem w0 R0 p { g with κ := g.κ } (h.map (·.scrub 1100000000000)) w :=
 m.chgS (fun _ _ _ => rfl) (Nat.le_refl _) rfl rfl rfl fun q hq => ⟨(m.mo q hq).heap, (m.mo q hq).le, (m.mo q hq).len, .inl ⟨q, hq, rfl⟩⟩
theorem ZqP {t tx ty e : TypeId} {i : TypeInfo} {z : Value} (ht : P.underlying t = some (.slice e)) (hi : P.info? e = some i) (hz : i.zero = some z) {k : Kd} (hsz : i.size = k.size) (hzc : z.cells.size = k.size) (hby : 1 ≤ i.bytes)
  {g : Gh} {h : List Blk} {w : World} (m : Mem w0 R0 p g h w) {v : Value} {xs : List k.T} (hx : ZdG g k xs v) {x : Value} {ys : List k.T} (hmore : More P g w k tx x ys)
  (hlim : (xs.length + ys.length) * i.bytes ≤ 140737488355328) :
  ∃ v' w' κ', (Builtin.append_ #[t, tx] ty #[v, x]).run P w = .ok v' w' ∧ Mem w0 R0 p { g with κ := κ' } (h.map (·.scrub 1100000000000)) w' ∧ ZdG { g with κ := κ' } k (xs ++ ys) v' := by
 obtain ⟨news, hs, hnr⟩ := hmore.src
 have hnm : xs.length + ys.length ≤ 140737488355328 := Nat.le_trans (Nat.le_mul_of_pos_right _ hby) hlim
 by_cases h0 : ys.length = 0
 ·have hys : ys = [] := List.eq_nil_of_length_eq_zero h0
  subst hys
  rcases hx with ⟨rfl, rfl⟩ | ⟨q, hκ, rfl, q2, q3, q4⟩
  ·exact ⟨_, w, g.κ, Zdp t tx ty e i ht hi w none 0 0 x news (hsz ▸ hs) (Nat.le_refl _), m.chg0, .inl ⟨rfl, rfl⟩⟩
  ·exact ⟨_, w, g.κ, Zdp t tx ty e i ht hi w (some ⟨q.b, 0, none⟩) q.n q.c x news (hsz ▸ hs) (m.mo q hκ).le.1, m.chg0, .inr ⟨q, hκ, rfl, q2, by rw [List.append_nil]; exact q3, by rw [List.append_nil]; exact q4⟩⟩
 ·
  have grow : ∀ (a : Option Addr) (n c : Nat) (cells : List Value), v = .slice a n c → n = xs.length → c < n + ys.length → Zbp g.R k xs cells → (Builtin.firstCells i.size n (.slice a n c)).run P w.drew = .ok cells.toArray w.drew →
    ∃ v' w' κ', (Builtin.append_ #[t, tx] ty #[v, x]).run P w = .ok v' w' ∧ Mem w0 R0 p { g with κ := κ' } (h.map (·.scrub 1100000000000)) w' ∧ ZdG { g with κ := κ' } k (xs ++ ys) v' := by
   intro a n c cells hv hn hc hrow hold
   subst hv hn
   have hrun := run_append_grow_src (P := P) w t tx ty e i z ht hi hz a xs.length c cells hold x ys.length news (hsz ▸ hs) hc (by omega) (growslice_fits (by omega) hlim)
   have hge := grownCap_ge w (xs.length + ys.length) c e
   have hle' := grownCap_le_maxLen w (xs.length + ys.length) c e (by simp only [maxLen]; omega)
   have hlen : (cells ++ news).length = (xs.length + ys.length) * k.size := by rw [List.length_append, hrow.1, hs.newsLen, Nat.add_mul]
   have hall := hrow.append hnr
   refine ⟨_, _, some ⟨w.heap.size, xs.length + ys.length, grownCap w (xs.length + ys.length) c e, k.size, cells ++ news⟩, hrun, m.chgS (fun b hb _ => Zbm w.drew _ b hb) (by simp) rfl rfl rfl (fun q hq => ?_), .inr ⟨_, rfl, rfl, rfl, by rw [List.length_append], hall.1, hall.2⟩⟩
   obtain rfl := Option.some.inj hq
   refine ⟨⟨(cells ++ news).toArray ++ Builtin.zeroCells z.cells (grownCap w (xs.length + ys.length) c e - (xs.length + ys.length)), e, ?_, ?_, fun j u hu => ?_⟩, ⟨hge, hle'⟩, hlen, .inr (Nat.le_refl _)⟩
   ·show (w.heap.push _)[w.heap.size]? = _
    simp
   ·show grownCap w (xs.length + ys.length) c e * k.size ≤ _
    rw [Array.size_append, List.size_toArray, size_zeroCells, hzc, hlen, ← Nat.add_mul]
    exact Nat.mul_le_mul_right _ (by omega)
   ·have hj := (List.getElem?_eq_some_iff.1 hu).1
    rw [Array.getElem?_append_left (by simpa using hj)]; simpa using hu
  rcases hx with ⟨rfl, rfl⟩ | ⟨q, hκ, rfl, q2, q3, q4⟩
  ·exact grow none 0 0 [] rfl rfl (by omega) (Zbp.nil _ _) (run_firstCells_none w.drew _ _ _ _)
  ·have hm := m.mo q hκ
   obtain ⟨cur, ty', hh, hcs, hcon⟩ := hm.heap
   by_cases hroom : q.n + ys.length ≤ q.c
   ·
    have hl4 : q.cs.length = xs.length * k.size := q4.1
    have hfit : q.n * k.size + news.length ≤ cur.size := by
     rw [hs.newsLen, ← Nat.add_mul]
     rw [q2] at hcs
     exact Nat.le_trans (Nat.mul_le_mul_right _ hroom) hcs
    have hsome : ∀ j, j < news.length → (w.cell? ⟨q.b, q.n * k.size + j, none⟩).isSome = true := fun j hj => by simp [World.cell?, hh]; omega
    have hrun := run_append_room_src (P := P) w t tx ty e i ht hi q.b 0 q.n q.c x ys.length news (hsz ▸ hs) hroom
     (fun j hj => by rw [hsz, Nat.zero_add]; exact hsome j hj) (fun j hj => by simp [World.frozen?, hh])
    rw [hsz, Nat.zero_add] at hrun
    obtain ⟨hs1, hs2, hs3, hs4⟩ := ZdP q.b news (q.n * k.size) w
    obtain ⟨cur', hc1, hc2⟩ := Zcp news (q.n * k.size) w cur hh
    have hall := Zbp.append (R := g.R) q4 hnr
    have hlen : (q.cs ++ news).length = (q.n + ys.length) * k.size := by rw [List.length_append, hl4, hs.newsLen, Nat.add_mul, q3]
    refine ⟨_, _, some { q with n := q.n + ys.length, cs := q.cs ++ news }, hrun, m.chgS (fun b hb hne => Zby _ _ _ _ (fun e => hne q hκ e.symm)) (by rw [hs1]; exact Nat.le_refl _) hs2 hs3 hs4 (fun q' hq' => ?_), .inr ⟨_, rfl, rfl, q2, by rw [List.length_append, ← q3], hall.1, hall.2⟩⟩
    obtain rfl := Option.some.inj hq'
    refine ⟨⟨cur', ty', hc1, by rw [hc2]; exact hcs, fun j u hu => ?_⟩, ⟨hroom, hm.le.2⟩, by rw [q2]; exact hlen, .inl ⟨q, hκ, rfl⟩⟩
    have hcell : (w.setCells q.b (q.n * k.size) news).cell? ⟨q.b, j, none⟩ = cur'[j]? := by simp [World.cell?, hc1]
    rw [← hcell]
    replace hu : (q.cs ++ news)[j]? = some u := hu
    rcases Nat.lt_or_ge j q.cs.length with hj | hj
    ·rw [List.getElem?_append_left hj] at hu
     rw [World.cell?_setCells_out q.b news _ w ⟨q.b, j, none⟩ (fun _ _ => .inl (by rw [hl4, ← q3] at hj; exact hj))]
     simpa [World.cell?, hh] using hcon j u hu
    ·rw [List.getElem?_append_right hj] at hu
     obtain ⟨hj2, hu⟩ := List.getElem?_eq_some_iff.1 hu
     have := World.cell?_setCells_in q.b news (q.n * k.size) w hsome (j - q.cs.length) hj2
     rw [show q.n * k.size + (j - q.cs.length) = j by rw [q3, ← hl4]; omega, hu] at this
     exact this
   ·exact grow (some ⟨q.b, 0, none⟩) q.n q.c q.cs rfl q3 (by omega) q4 (run_firstCells_some w.drew i.size q.n ⟨q.b, 0, none⟩ q.n q.c q.cs (by rw [hsz, q3]; exact q4.1) (fun j v hv => by
     rw [Addr.add_lit, Nat.zero_add]
     show w.cell? ⟨q.b, j, none⟩ = some v
     simpa [World.cell?, hh] using hcon j v hv))
end
end Go.Shal
set_option linter.unusedVariables false
namespace Go.Shal
open Go.RowKit
section
variable {P : Program} {w0 : World} {R0 : RO} {p : Pr}
def Zev (P : Program) (t : TypeId) : Bool :=
 match P.underlying t with
 | some (.struct _) | some (.array _ _) => true
 | _ => false
def ZhV (P : Program) (fs : Array Field) (j o : Nat) (f : Kd) : Prop :=
 ∃ fld inf, fs[j]? = some fld ∧ fld.offset = o ∧ P.info? fld.type = some inf ∧ inf.size = f.size ∧ (P.underlying fld.type).isSome = true ∧ Zev P fld.type = f.agg
def KOk (P : Program) (t : TypeId) : Kd → Prop
 | .int k => P.underlying t = some (.int k)
 | .bool => P.underlying t = some .bool
 | .flt => P.underlying t = some (.float .f64)
 | .str => P.underlying t = some .string
 | .np => ∃ e, P.underlying t = some (.pointer e)
 | .nsl => False
 | .rp _ => False
 | .slice _ => ∃ e, P.underlying t = some (.slice e)
 | .arr n k => ∃ e inf, P.underlying t = some (.array n e) ∧ P.info? e = some inf ∧ inf.size = k.size ∧ (P.underlying e).isSome = true ∧ Zev P e = k.agg
 | k => ∃ fs, P.underlying t = some (.struct fs) ∧ ∀ j, (j < fs.size → ∃ o f, k.fieldAt j = some (o, f)) ∧ ∀ o f, k.fieldAt j = some (o, f) → ZhV P fs j o f
def ZlI (P : Program) : List Field → Kd → Nat → Bool
 | [], .unit, _ => true
 | f :: r, .pair (.int k) b, o => (!(f.name == "_") && (Nat.beq f.offset o && (match P.underlying f.type with
  | some (.int k') => decide (k' = k)
  | _ => false))) && ZlI P r b (o + 1)
 | f :: r, .pair .bool b, o => (!(f.name == "_") && (Nat.beq f.offset o && (match P.underlying f.type with
  | some .bool => true
  | _ => false))) && ZlI P r b (o + 1)
 | _, _, _ => false
def eqB (P : Program) (t : TypeId) (k : Kd) : Bool :=
 match P.underlying t with
 | some (.struct fs) => (!P.stoodInHeld t && !P.eqGuardType P.depth t) && ZlI P fs.toList k 0
 | _ => false
def eqAB (P : Program) (t : TypeId) : Bool :=
 match P.underlying t with
 | some (.array n e) => (match P.underlying e with
  | some (.int _) => true
  | _ => false) && !P.eqGuardType P.depth t
 | _ => false
structure TyOk (P : Program) (t : TypeId) (i : TyInfo) (inf : TypeInfo) (z : Value) : Prop where
 info : P.info? t = some inf
 size : inf.size = i.kd.size
 bytes : inf.bytes = i.bytes
 zero : inf.zero = some z
 zeroIs : i.kd.ofVal z = some i.kd.zero
 kd : KOk P t i.kd
 eq : i.kd.flat = true → eqB P t i.kd = true
 eqA : i.kd.two.isSome = true → eqAB P t = true
theorem KOk.some {t : TypeId} {k : Kd} (h : KOk P t k) : (P.underlying t).isSome = true ∧ Zev P t = k.agg := by
 unfold Zev
 cases k <;> simp only [KOk] at h
 case arr => obtain ⟨e, inf, h, _⟩ := h; simp [h, Kd.agg]
 case slice => obtain ⟨e, h⟩ := h; simp [h, Kd.agg]
 case np => obtain ⟨e, h⟩ := h; simp [h, Kd.agg]
 case tre => obtain ⟨fs, h, _⟩ := h; simp [h, Kd.agg]
 case unit => obtain ⟨fs, h, _⟩ := h; simp [h, Kd.agg]
 case pair => obtain ⟨fs, h, _⟩ := h; simp [h, Kd.agg]
 all_goals simp [h, Kd.agg]
theorem ZeB {t : TypeId} (h : (P.underlying t).isSome = true) (w : World) : (isAgg t).run P w = .ok (Zev P t) w := by
 obtain ⟨d, hd⟩ := Option.isSome_iff_exists.1 h
 unfold isAgg Zev
 rw [Sem.run_bind, run_underlying hd, Result.andThen_ok, hd]
 cases d <;> rfl
theorem ZfP {α β : Type} {f : List β → Option (α × List β)} {γ : Type} {Q : α → List γ → Prop} {J : List β → List γ → Prop} (hf : ∀ r cs x r', f r = some (x, r') → J r cs → ∃ c d, cs = c ++ d ∧ Q x c ∧ J r' d) :
  ∀ (n : Nat) (r : List β) (cs : List γ) (xs : List α) (r' : List β), Zls f n r = some (xs, r') → J r cs → ∃ g : Nat → List γ, ∃ d, cs = (List.range n).flatMap g ++ d ∧ J r' d ∧ xs.length = n ∧ ∀ (i : Nat) x, xs[i]? = some x → Q x (g i)
 | 0, r, cs, xs, r', h, hJ => by cases h; exact ⟨fun _ => [], cs, by simp, hJ, rfl, fun i x hx => by simp at hx⟩
 | n + 1, r, cs, xs, r', h, hJ => by
  obtain ⟨⟨y, r1⟩, h1, h⟩ := Option.bind_eq_some_iff.1 h
  obtain ⟨⟨ys, r2⟩, h2, h⟩ := Option.bind_eq_some_iff.1 h
  cases h
  obtain ⟨c, d, rfl, hq, hJ1⟩ := hf _ _ _ _ h1 hJ
  obtain ⟨g, d', rfl, hJ2, hl, hg⟩ := ZfP hf n _ _ _ _ h2 hJ1
  refine ⟨fun i => match i with | 0 => c | i + 1 => g i, d', ?_, hJ2, by simp [hl], fun i x hx => ?_⟩
  ·rw [List.range_succ_eq_map, List.flatMap_cons, List.flatMap_map, List.append_assoc]
  ·cases i with
   | zero => simp at hx; subst hx; exact hq
   | succ i => exact hg i x (by simpa using hx)
theorem Rep.ofCells (R : RO) : ∀ {k : Kd} {cs : List Value} {x : k.T} {r : List Value}, k.ofCells cs = some (x, r) → ∃ c, cs = c ++ r ∧ Rep R k x c
 | .int k, cs, x, r, h => by
  replace h : cInt k cs = some (x, r) := h
  unfold cInt at h
  split at h
  ·split at h
   ·rename_i n _ _ hd
    simp only [Bool.and_eq_true, decide_eq_true_eq] at hd
    obtain ⟨rfl, h1, h2⟩ := hd
    cases h
    exact ⟨[.int _ _], rfl, rfl, h1, h2⟩
   ·cases h
  ·cases h
 | .bool, cs, x, r, h => by
  replace h : ZoQ cs = some (x, r) := h
  unfold ZoQ at h
  split at h
  ·cases h; exact ⟨[.bool _], rfl, rfl⟩
  ·cases h
 | .flt, cs, x, r, h => by
  replace h : cFlt cs = some (x, r) := h
  unfold cFlt at h
  split at h
  ·cases h; exact ⟨[.float .f64 _], rfl, rfl⟩
  ·cases h
 | .str, cs, x, r, h => by
  replace h : cStr cs = some (x, r) := h
  unfold cStr at h
  split at h
  ·split at h
   ·rename_i hd; cases h; exact ⟨[.string _], rfl, _, rfl, rfl, by simpa using hd⟩
   ·cases h
  ·cases h
 | .slice k, cs, x, r, h => by
  replace h : cNil k.T cs = some (x, r) := h
  unfold cNil at h
  split at h
  ·cases h; exact ⟨[.slice none 0 0], rfl, none, 0, rfl, Nat.le_refl _, Nat.zero_le _, .inl rfl⟩
  ·cases h
 | .unit, cs, x, r, h => by
  cases h
  exact ⟨[], rfl, rfl⟩
 | .pair a b, cs, x, r, h => by
  replace h : ((a.ofCells cs).bind fun x => (b.ofCells x.2).bind fun y => some ((x.1, y.1), y.2)) = some (x, r) := h
  obtain ⟨y, e, h⟩ := Option.bind_eq_some_iff.1 h
  obtain ⟨z, e2, h⟩ := Option.bind_eq_some_iff.1 h
  cases h
  obtain ⟨c, h1, h2⟩ := Rep.ofCells R (x := y.1) (r := y.2) e
  obtain ⟨d, h3, h4⟩ := Rep.ofCells R (x := z.1) (r := z.2) e2
  exact ⟨c ++ d, by rw [h1, h3, List.append_assoc], c, d, rfl, h2, h4⟩
 | .np, cs, x, r, h => by
  replace h : cNp cs = some (x, r) := h
  unfold cNp at h
  split at h
  ·cases h; exact ⟨[.pointer none], rfl, rfl⟩
  ·cases h
 | .nsl, cs, x, r, h => by
  replace h : cNsl cs = some (x, r) := h
  unfold cNsl at h
  split at h
  ·cases h; exact ⟨[.slice none 0 0], rfl, rfl⟩
  ·cases h
 | .rp _, cs, x, r, h => by cases h
 | .tre k, cs, x, r, h => by
  replace h : ((k.ofCells cs).bind fun x => (cNil (Tr k.T) x.2).bind fun y => some (Tr.mk x.1 y.1, y.2)) = some (x, r) := h
  obtain ⟨y, e, h⟩ := Option.bind_eq_some_iff.1 h
  obtain ⟨z, e2, h⟩ := Option.bind_eq_some_iff.1 h
  cases h
  obtain ⟨c, h1, h2⟩ := Rep.ofCells R (x := y.1) (r := y.2) e
  unfold cNil at e2
  split at e2
  ·rename_i r' hy
   cases e2
   refine ⟨c ++ [.slice none 0 0], by rw [h1, hy]; simp, ZfY.2 ⟨c, _, rfl, h2, none, 0, rfl, Nat.le_refl _, Nat.zero_le _, .inl rfl⟩⟩
  ·cases e2
 | .arr n k, cs, x, r, h => by
  obtain ⟨g, d, h1, h2, h3, h4⟩ := ZfP (f := k.ofCells) (Q := fun x c => Rep R k x c) (J := fun r cs => r = cs) (fun r cs x r' hf hJ => by
   subst hJ
   obtain ⟨c, e, hr⟩ := Rep.ofCells R hf
   exact ⟨c, r', e, hr, rfl⟩) n cs cs x r h rfl
  subst h2
  exact ⟨_, h1, h3, g, h4, rfl⟩
theorem ZgP {α β : Type} {m : Option (α × List β)} {x : α} (h : only m = some x) : m = some (x, []) := by
 unfold only at h
 split at h
 ·cases h; rfl
 ·cases h
theorem ZbN {k : Kd} {cs : List Value} (hk : k.agg = true) : k.val cs = .agg cs.toArray := by unfold Kd.val; rw [hk]
theorem DRep.ofVal (R : RO) {k : Kd} {v : Value} {x : k.T} (h : k.ofVal v = some x) : DRep R k x v := by
 unfold Kd.ofVal at h
 split at h
 ·rename_i hk
  split at h
  ·obtain ⟨c, h1, h2⟩ := Rep.ofCells R (ZgP h)
   rw [List.append_nil] at h1
   exact ⟨c, h2, by rw [ZbN hk, ← h1]⟩
  ·cases h
 ·rename_i hk
  obtain ⟨c, h1, h2⟩ := Rep.ofCells R (ZgP h)
  rw [List.append_nil] at h1
  exact DRep.of_one hk (h1 ▸ h2)
theorem ZdY {v : Value} (h : v.oneCell' = true) : v.cells.toList = [v] := by cases v <;> simp_all [Value.cells, Value.oneCell']
theorem Zbr {a b : Kd} {x : a.T} {y : b.T} (h : ZbD x = some y) : ∃ e : a = b, e ▸ x = y := by
 unfold ZbD at h
 split at h
 ·rename_i e _; cases h; exact ⟨e, rfl⟩
 ·cases h
theorem SRep.asInt {g : Gh} {s : SV} {v : Value} {k : IntKind} {n : Int} (h : SRep g s v) (e : asInt s = some (k, n)) : v = .int k n ∧ inR k n := by
 unfold Shal.asInt at e
 split at e
 ·rename_i k' x
  cases e
  have := DRep.one (k := .int k) rfl h
  exact ⟨by simpa using this.1, this.2⟩
 ·rename_i k' n'
  split at e
  ·rename_i hd
   cases e
   simp only [Bool.and_eq_true, decide_eq_true_eq] at hd
   exact ⟨h, hd⟩
  ·cases e
 ·cases e
theorem SRep.asBool {g : Gh} {s : SV} {v : Value} {b : Bool} (h : SRep g s v) (e : asBool s = some b) : v = .bool b := by
 unfold Shal.asBool at e
 split at e
 ·cases e
  have := DRep.one (k := .bool) rfl h
  simpa [Rep] using this
 ·cases e; exact h
 ·cases e
theorem SRep.asFlt {g : Gh} {s : SV} {v : Value} {n : Nat} (h : SRep g s v) (e : asFlt s = some n) : v = .float .f64 n := by
 unfold Shal.asFlt at e
 split at e
 ·cases e
  have := DRep.one (k := .flt) rfl h
  simpa [Rep] using this
 ·cases e; exact h
 ·cases e
theorem SRep.asStr {g : Gh} {s : SV} {v : Value} {l : List Int} (h : SRep g s v) (e : asStr s = some l) : ∃ t : ByteArray, v = .string t ∧ l = bytesOf t ∧ t.size ≤ maxLen := by
 unfold Shal.asStr at e
 split at e
 ·cases e
  obtain ⟨t, h1, h2⟩ := DRep.one (k := .str) rfl h
  exact ⟨t, by simpa using h1, h2⟩
 ·split at e
  ·rename_i hd; cases e; exact ⟨_, h, rfl, by simpa using hd⟩
  ·cases e
 ·cases e
theorem SRep.asSlice {g : Gh} {s : SV} {v : Value} {k : Kd} {xs : List k.T} (h : SRep g s v) (e : asSlice s = some ⟨k, xs⟩) : Rep g.R (.slice k) xs [v] := by
 unfold Shal.asSlice at e
 split at e
 ·cases e; exact DRep.one (k := .slice k) rfl h
 ·cases e; exact h.1
 ·cases e; exact h.1
 ·cases e
theorem CRep.srep {g : Gh} {s : SV} {v : Value} (h : CRep g s v) : SRep g s v := by
 cases s with
 | cst c => exact h.1
 | dat k x => exact DRep.of_one h.1 h.2
 | own _ _ _ => exact h
 | fresh _ _ => exact h
 | ptr _ _ => exact h
 | undef => exact h.elim
 | rptr _ _ => exact h.elim
 | tup _ => exact h.elim
 | agg _ => exact h.elim
 | func _ _ => exact h.elim
 | sl _ _ _ => exact h.elim
 | eptr _ _ _ _ => exact h.elim
 | mq _ _ _ => exact h.elim
 | mo _ _ => exact h
 | jk _ _ => exact h
 | jp _ => exact h.elim
 | raw _ _ _ => exact h.elim
 | mp _ => exact h.elim
 | rm _ _ _ _ => exact h.elim
theorem CRep.oneCell {g : Gh} {s : SV} {v : Value} (h : CRep g s v) : v.oneCell' = true := by
 cases s with
 | cst c => rw [h.1]; exact h.2
 | dat k x => exact h.2.oneCells v (by simp)
 | own _ _ _ => exact h.1.oneCells v (by simp)
 | fresh _ _ => exact h.1.oneCells v (by simp)
 | ptr _ _ => rw [h.1]; rfl
 | undef => exact h.elim
 | rptr _ _ => exact h.elim
 | tup _ => exact h.elim
 | agg _ => exact h.elim
 | func _ _ => exact h.elim
 | sl _ _ _ => exact h.elim
 | eptr _ _ _ _ => exact h.elim
 | mq _ _ _ => exact h.elim
 | mo _ _ => rcases h with ⟨_, e⟩ | ⟨m, _, e, _⟩ <;> (rw [e]; simp [Value.oneCell'])
 | jk _ _ => rcases h with ⟨b, c, e, _⟩ | ⟨_, a, c, e⟩ <;> (rw [e]; simp [Value.oneCell'])
 | jp _ => exact h.elim
 | raw _ _ _ => exact h.elim
 | mp _ => exact h.elim
 | rm _ _ _ _ => exact h.elim
theorem Rep.split {g : Gh} : ∀ {k : Kd} {x : k.T} {cs : List Value}, Rep g.R k x cs → All2 (PRep g) (k.split x) cs
 | .int _, _, _, h => by rw [h.1]; exact .cons ⟨rfl, rfl, rfl, h.2⟩ .nil
 | .bool, _, _, h => by rw [show _ = _ from h]; exact .cons ⟨rfl, rfl, rfl⟩ .nil
 | .flt, _, _, h => by rw [show _ = _ from h]; exact .cons ⟨rfl, rfl, rfl⟩ .nil
 | .str, _, _, ⟨s, h1, h2⟩ => by rw [h1]; exact .cons ⟨rfl, rfl, s, rfl, h2⟩ .nil
 | .slice k, xs, cs, ⟨a, cap, h1, h2⟩ => by rw [h1]; exact .cons ⟨rfl, rfl, a, cap, rfl, h2⟩ .nil
 | .np, _, _, h => by rw [show _ = _ from h]; exact .cons ⟨rfl, rfl, rfl⟩ .nil
 | .nsl, _, _, h => by rw [show _ = _ from h]; exact .cons ⟨rfl, rfl, rfl⟩ .nil
 | .rp _, _, _, ⟨b, o, c, e, h1, h2⟩ => by rw [e]; exact .cons ⟨rfl, rfl, b, o, c, rfl, h1, h2⟩ .nil
 | .tre k, x, _, h => by
  obtain ⟨c, d, e, h1, a, cap, h2, h3⟩ := ZfY.1 h
  rw [e, h2]; exact (Rep.split h1).append (.cons ⟨rfl, rfl, a, cap, rfl, h3⟩ .nil)
 | .unit, _, _, h => by rw [show _ = _ from h]; exact .nil
 | .pair a b, x, _, ⟨c, d, e, h1, h2⟩ => by rw [e]; exact (Rep.split h1).append (Rep.split h2)
 | .arr n k, xs, cs, ⟨hn, f, h1, h2⟩ => by
  rw [h2]
  show All2 (PRep g) ((List.range n).flatMap fun i => k.split (xs.getD i k.zero)) _
  have key : ∀ m, m ≤ n → All2 (PRep g) ((List.range m).flatMap fun i => k.split (xs.getD i k.zero)) ((List.range m).flatMap f) := by
   intro m
   induction m with
   | zero => intro _; exact .nil
   | succ m ih =>
    intro hm
    rw [List.range_succ, List.flatMap_append, List.flatMap_append]
    refine (ih (by omega)).append ?_
    have hl : m < xs.length := by omega
    simp only [List.flatMap_cons, List.flatMap_nil, List.append_nil]
    have e : xs.getD m k.zero = xs[m] := by simp [List.getD, hl]
    rw [e]
    exact Rep.split (h1 m xs[m] (by simp [hl]))
  exact key n (Nat.le_refl n)
theorem Zlw {g : Gh} : ∀ l : List Value, l.all (·.oneCell') = true → All2 (CRep g) (l.map .cst) l
 | [], _ => .nil
 | u :: l, hl => by simp only [List.all_cons, Bool.and_eq_true] at hl; exact .cons ⟨rfl, hl.1⟩ (Zlw l hl.2)
theorem SRep.cells {g : Gh} {s : SV} {v : Value} {cs : List SV} (h : SRep g s v) (e : s.cells = some cs) : All2 (CRep g) cs v.cells.toList := by
 cases s with
 | dat k x => cases e; exact (Rep.split (DRep.cells h)).imp fun _ _ q => q.2
 | cst c =>
  obtain rfl : v = c := h
  replace e : (match v.cells.toList.all (·.oneCell') with
   | true => some (v.cells.toList.map SV.cst)
   | false => none) = some cs := e
  split at e
  ·rename_i hd; cases e; exact Zlw _ hd
  ·cases e
 | agg cs' =>
  cases e
  obtain ⟨vs, rfl, h⟩ := h
  exact (show All2 (PRep g) _ vs from h).imp fun _ _ q => q.2
 | own a b c =>
  cases e
  have h' : CRep g (.own a b c) v := h
  rw [ZdY h'.oneCell]; exact .cons h' .nil
 | fresh a b =>
  cases e
  have h' : CRep g (.fresh a b) v := h
  rw [ZdY h'.oneCell]; exact .cons h' .nil
 | ptr a b =>
  cases e
  have h' : CRep g (.ptr a b) v := h
  rw [ZdY h'.oneCell]; exact .cons h' .nil
 | undef => cases e
 | rptr _ _ => cases e
 | tup _ => cases e
 | func _ _ => cases e
 | sl _ _ _ => cases e
 | eptr _ _ _ _ => cases e
 | mq _ _ _ => cases e
 | mo a b =>
  cases e
  have h' : CRep g (.mo a b) v := h
  rw [ZdY h'.oneCell]; exact .cons h' .nil
 | jk a b =>
  cases e
  have h' : CRep g (.jk a b) v := h
  rw [ZdY h'.oneCell]; exact .cons h' .nil
 | jp _ => cases e
 | raw _ _ _ => cases e
 | mp _ => cases e
 | rm _ _ _ _ => cases e
theorem CRep.one {g : Gh} {s : SV} {v : Value} {k : Kd} {x : k.T} (hk : k.agg = false) (h : CRep g s v) (e : s.one k = some x) : Rep g.R k x [v] := by
 unfold SV.one at e
 split at e
 ·obtain ⟨rfl, rfl⟩ := Zbr e; exact h.2
 ·obtain ⟨rfl, rfl⟩ := Zbr e; exact h.1
 ·obtain ⟨rfl, rfl⟩ := Zbr e; exact h.1
 ·rw [h.1]; exact (DRep.ofVal g.R e).one hk
 ·cases e
theorem Rep.join {g : Gh} : ∀ {k : Kd} {cs : List SV} {vs : List Value} {x : k.T} {r : List SV}, All2 (fun s v => s = .undef ∨ CRep g s v) cs vs → k.join cs = some (x, r) →
  ∃ c d, vs = c ++ d ∧ Rep g.R k x c ∧ All2 (fun s v => s = .undef ∨ CRep g s v) r d := by
 have one : ∀ {k : Kd} {c : SV} {r : List SV} {vs : List Value} {x : k.T}, k.agg = false → All2 (fun s v => s = .undef ∨ CRep g s v) (c :: r) vs → c.one k = some x →
   ∃ c d, vs = c ++ d ∧ Rep g.R k x c ∧ All2 (fun s v => s = .undef ∨ CRep g s v) r d := by
  intro k c r vs x hk h e
  cases h with
  | cons h1 h2 =>
   rename_i u m
   rcases h1 with rfl | h1
   ·simp [SV.one] at e
   ·exact ⟨[u], m, rfl, h1.one hk e, h2⟩
 have jone : ∀ {k : Kd} {cs : List SV} {r : List SV} {vs : List Value} {x : k.T}, k.agg = false → All2 (fun s v => s = .undef ∨ CRep g s v) cs vs → Zdc k cs = some (x, r) →
   ∃ c d, vs = c ++ d ∧ Rep g.R k x c ∧ All2 (fun s v => s = .undef ∨ CRep g s v) r d := by
  intro k cs r vs x hk h e
  cases cs with
  | nil => cases e
  | cons c cs =>
   obtain ⟨y, e1, e⟩ := Option.bind_eq_some_iff.1 (show (c.one k).bind (fun x => some (x, cs)) = some (x, r) from e)
   cases e
   exact one hk h e1
 intro k
 induction k with
 | int k => exact fun h e => jone rfl h e
 | bool => exact fun h e => jone rfl h e
 | flt => exact fun h e => jone rfl h e
 | str => exact fun h e => jone rfl h e
 | slice k _ => exact fun h e => jone rfl h e
 | rp k _ => exact fun h e => jone rfl h e
 | unit =>
  intro cs vs x r h e
  cases e
  exact ⟨[], vs, rfl, rfl, h⟩
 | pair a b iha ihb =>
  intro cs vs x r h e
  replace e : ((a.join cs).bind fun x => (b.join x.2).bind fun y => some ((x.1, y.1), y.2)) = some (x, r) := e
  obtain ⟨y, e1, e⟩ := Option.bind_eq_some_iff.1 e
  obtain ⟨z, e2, e⟩ := Option.bind_eq_some_iff.1 e
  cases e
  obtain ⟨c, d, rfl, h1, h2⟩ := iha (x := y.1) (r := y.2) h e1
  obtain ⟨c', d', rfl, h3, h4⟩ := ihb (x := z.1) (r := z.2) h2 e2
  exact ⟨c ++ c', d', by rw [List.append_assoc], ⟨c, c', rfl, h1, h3⟩, h4⟩
 | np =>
  intro cs vs x r h e
  replace e : Zix cs = some (x, r) := e
  unfold Zix at e
  split at e
  ·cases e
   cases h with
   | cons h1 h2 =>
    rename_i u m
    have h1 : CRep g (.cst (.pointer none)) u := h1.resolve_left (by simp)
    obtain rfl : u = _ := h1.1
    exact ⟨[.pointer none], m, rfl, rfl, h2⟩
  ·cases e
 | nsl =>
  intro cs vs x r h e
  replace e : ZfU cs = some (x, r) := e
  unfold ZfU at e
  split at e
  ·cases e
   cases h with
   | cons h1 h2 =>
    rename_i u m
    have h1 : CRep g (.cst (.slice none 0 0)) u := h1.resolve_left (by simp)
    obtain rfl : u = _ := h1.1
    exact ⟨[.slice none 0 0], m, rfl, rfl, h2⟩
  ·cases e
 | tre k ih =>
  intro cs vs x r h e
  replace e : ((k.join cs).bind fun x => (Zdc (.slice (.tre k)) x.2).bind fun y => some (Tr.mk x.1 y.1, y.2)) = some (x, r) := e
  obtain ⟨y, e1, e⟩ := Option.bind_eq_some_iff.1 e
  obtain ⟨z, e2, e⟩ := Option.bind_eq_some_iff.1 e
  cases e
  obtain ⟨c, d, rfl, h1, h2⟩ := ih (x := y.1) (r := y.2) h e1
  obtain ⟨c', d', rfl, h3, h4⟩ := jone (k := .slice (.tre k)) (x := z.1) (r := z.2) rfl h2 e2
  exact ⟨c ++ c', d', by rw [List.append_assoc], ZfY.2 ⟨c, c', rfl, h1, h3⟩, h4⟩
 | arr n k ih =>
  intro cs vs x r h e
  obtain ⟨f, d, h1, h2, h3, h4⟩ := ZfP (f := k.join) (Q := fun x c => Rep g.R k x c) (J := fun r cs => All2 (fun s v => s = .undef ∨ CRep g s v) r cs) (fun r cs x r' hf hJ => ih hJ hf) n cs vs x r e h
  exact ⟨_, d, h1, ⟨h3, f, h4, rfl⟩, h2⟩
theorem SRep.as {g : Gh} {s : SV} {v : Value} {k : Kd} {x : k.T} (h : SRep g s v) (e : s.as k = some x) : DRep g.R k x v := by
 unfold SV.as at e
 split at e
 ·obtain ⟨rfl, rfl⟩ := Zbr e; exact h
 ·obtain ⟨rfl, rfl⟩ := Zbr e; exact DRep.of_one rfl h.1
 ·obtain ⟨rfl, rfl⟩ := Zbr e; exact DRep.of_one rfl h.1
 ·obtain rfl : v = _ := h
  exact DRep.ofVal g.R e
 ·split at e
  ·rename_i cs _ hk
   obtain ⟨vs, rfl, h⟩ := h
   obtain ⟨c, d, h1, h2, h3⟩ := Rep.join ((show All2 (PRep g) _ vs from h).imp fun _ _ q => .inr q.2) (ZgP e)
   cases h3
   rw [List.append_nil] at h1
   subst h1
   exact ⟨_, h2, (ZbN hk).symm⟩
  ·cases e
 ·cases e
end
end Go.Shal
set_option linter.unusedVariables false
namespace Go.Shal
open Go.RowKit
structure EnvTy (P : Program) (E : Env) : Prop where
 ty : ∀ t i, look E.tys t = some i → ∃ inf z, TyOk P t i inf z
 elem : ∀ t e, look E.elems t = some e → P.underlying t = some (.slice e)
 ptr : ∀ t e, look E.ptrs t = some e → P.underlying t = some (.pointer e)
 map : ∀ t k, look E.maps t = some k → ∃ kt et i, P.underlying t = some (.map kt et) ∧ P.underlying kt = some (.int k) ∧ look E.tys et = some i ∧ i.kd = .bool
 lay : ∀ t k, look E.lays t = some k → KOk P t k
theorem ZiC (k : IntKind) : k.min ≤ 0 := by cases k <;> decide
theorem Zje (k : IntKind) : 0 ≤ k.max := by cases k <;> decide
theorem ZrY {k : IntKind} {x : Int} (h : inR k x) (y : Int) : inR k (x.tmod y) := by
 have h0 := ZiC k
 have h1 := Zje k
 obtain ⟨h2, h3⟩ := h
 have ha : (x.tmod y).natAbs ≤ x.natAbs := by rw [Int.natAbs_tmod]; exact Nat.mod_le _ _
 have hp : 0 ≤ x → 0 ≤ x.tmod y := Int.tmod_nonneg y
 have hn : x ≤ 0 → x.tmod y ≤ 0 := fun hx => by
  have := Int.tmod_nonneg y (show 0 ≤ -x by omega)
  rw [Int.neg_tmod] at this
  omega
 rcases Int.le_total 0 x with hx | hx
 ·have := hp hx; exact ⟨by omega, by omega⟩
 ·have := hn hx; exact ⟨by omega, by omega⟩
theorem ZtG {k : IntKind} {x : Int} (h : inR k x) (n : Nat) : inR k (x.fdiv (2 ^ n)) := by
 have h0 := ZiC k
 have h1 := Zje k
 obtain ⟨h2, h3⟩ := h
 have hpos : (0 : Int) < 2 ^ n := Int.pow_pos (by omega)
 rw [Int.fdiv_eq_ediv_of_nonneg _ (Int.le_of_lt hpos)]
 have hone : (1 : Int) ≤ 2 ^ n := by omega
 rcases Int.le_total 0 x with hx | hx
 ·have a : 0 ≤ x / 2 ^ n := Int.ediv_nonneg hx (Int.le_of_lt hpos)
  have b : x / 2 ^ n ≤ x := Int.ediv_le_self _ hx
  exact ⟨by omega, by omega⟩
 ·have a : x / 2 ^ n ≤ 0 := by
   have := Int.ediv_le_ediv hpos hx
   simpa using this
  have b : x ≤ x / 2 ^ n := by
   rw [Int.le_ediv_iff_mul_le hpos]
   have := Int.mul_le_mul_of_nonneg_left hone (show 0 ≤ -x by omega)
   simp only [Int.neg_mul, Int.mul_one] at this
   omega
  exact ⟨by omega, by omega⟩
section
variable {P : Program} {E : Env}
theorem SRep.int {g : Gh} {k : IntKind} {x : Int} (h : inR k x) : SRep g (.dat (.int k) x) (.int k x) := DRep.of_one (k := .int k) rfl ⟨rfl, h⟩
theorem SRep.bool {g : Gh} {b : Bool} : SRep g (.dat .bool b) (.bool b) := DRep.of_one (k := .bool) rfl rfl
theorem SRep.flt {g : Gh} {n : Nat} : SRep g (.dat .flt n) (.float .f64 n) := DRep.of_one (k := .flt) rfl rfl
theorem SRep.str {g : Gh} {s : ByteArray} (h : s.size ≤ maxLen) : SRep g (.dat .str (bytesOf s)) (.string s) := DRep.of_one (k := .str) rfl ⟨s, rfl, rfl, h⟩
theorem ZdH {op : BinOp} {k : IntKind} {x y : Int} {t : TypeId} (hop : Zna op = false) : binOp op t (.int k x) (.int k y) = (match op with
  | .add | .sub | .mul => Op.intArith op k x y
  | .quo | .rem => Op.intDiv op k x y
  | .and | .or | .xor | .andNot => Op.intBits op k x y
  | _ => Op.intCmp op x y) := by
 cases op <;> first | (cases hop; done) | (simp only [binOp]; rw [if_neg (by simp)])
theorem ZoM {g : Gh} {op : BinOp} {k : IntKind} {x y : Int} {sv : SV} {w : World} (hop : Zna op = false) (hx : inR k x) (h : ZpS op k x y = some (true, sv)) (t : TypeId) :
  ∃ v, (binOp op t (.int k x) (.int k y)).run P w = .ok v w ∧ SRep g sv v := by
 unfold ZpS at h
 cases op <;> simp only [Option.some.injEq, Prod.mk.injEq, true_and, reduceCtorEq, bne_iff_ne, ne_eq] at h
 case quo => obtain ⟨h1, rfl⟩ := h; exact ⟨_, by first | (simp [binOp, Op.intDiv, h1]; done) | (simp [binOp, Op.intDiv, h1]; rfl), SRep.int (ZcZ _ _)⟩
 case rem => obtain ⟨h1, rfl⟩ := h; exact ⟨_, by first | (simp [binOp, Op.intDiv, h1]; done) | (simp [binOp, Op.intDiv, h1]; rfl), SRep.int (ZrY hx _)⟩
 all_goals subst h
 case add => exact ⟨_, by rw [ZdH rfl]; rfl, SRep.int (ZcZ _ _)⟩
 case sub => exact ⟨_, by rw [ZdH rfl]; rfl, SRep.int (ZcZ _ _)⟩
 case mul => exact ⟨_, by rw [ZdH rfl]; rfl, SRep.int (ZcZ _ _)⟩
 case and => exact ⟨_, by rw [ZdH rfl]; rfl, SRep.int (ZcZ _ _)⟩
 case or => exact ⟨_, by rw [ZdH rfl]; rfl, SRep.int (ZcZ _ _)⟩
 case xor => exact ⟨_, by rw [ZdH rfl]; rfl, SRep.int (ZcZ _ _)⟩
 case andNot => exact ⟨_, by rw [ZdH rfl]; rfl, SRep.int (ZcZ _ _)⟩
 all_goals exact ⟨_, by rw [ZdH rfl]; rfl, SRep.bool⟩
theorem Zmr {g : Gh} {op : BinOp} {k k' : IntKind} {x y : Int} {sv : SV} {w : World} (hx : inR k x) (h : Zlf op k x y = some (true, sv)) (t : TypeId) :
  ∃ v, (binOp op t (.int k x) (.int k' y)).run P w = .ok v w ∧ SRep g sv v := by
 unfold Zlf at h
 cases op <;> simp only [Option.some.injEq, Prod.mk.injEq, reduceCtorEq, Bool.not_eq_true', decide_eq_false_iff_not] at h
 ·obtain ⟨h1, rfl⟩ := h
  exact ⟨_, by first | (simp [binOp, Op.shift, h1]; done) | (simp [binOp, Op.shift, h1]; rfl), SRep.int (ZcZ _ _)⟩
 ·obtain ⟨h1, rfl⟩ := h
  exact ⟨_, by first | (simp [binOp, Op.shift, h1]; done) | (simp [binOp, Op.shift, h1]; rfl), SRep.int (ZtG hx _)⟩
theorem ZoL {g : Gh} {op : BinOp} {x y : Nat} {sv : SV} {w : World} {ok : Bool} (h : ZpR op x y = some (ok, sv)) (t : TypeId) :
  ∃ v, (binOp op t (.float .f64 x) (.float .f64 y)).run P w = .ok v w ∧ SRep g sv v := by
 unfold ZpR at h
 cases op <;> simp only [Option.some.injEq, Prod.mk.injEq, reduceCtorEq] at h
 all_goals obtain ⟨_, rfl⟩ := h
 all_goals exact ⟨_, by first | (simp [binOp, Op.floatCmp]; done) | (simp [binOp, Op.floatCmp]; rfl), SRep.bool⟩
theorem ZjF {t : TypeId} (ht : P.underlying t = some .bool) (x y : Bool) (w : World) : (Op.equal t (.bool x) (.bool y)).run P w = .ok (x == y) w := by
 show (Op.equalIn (9999 + 1) t (.bool x) (.bool y)).run P w = _
 unfold Op.equalIn
 rw [Sem.run_bind, run_underlying ht]
 rfl
theorem Zly {t e : TypeId} (ht : P.underlying t = some (.pointer e)) (a b : Option Addr) (h : a = none ∨ b = none) (w : World) : (Op.equal t (.pointer a) (.pointer b)).run P w = .ok (a.isNone && b.isNone) w := by
 show (Op.equalIn (9999 + 1) t (.pointer a) (.pointer b)).run P w = _
 unfold Op.equalIn
 rw [Sem.run_bind, run_underlying ht]
 cases a <;> cases b <;> first | rfl | (rcases h with h | h <;> cases h)
theorem ZmK {g : Gh} {op : BinOp} {x y : Bool} {sv : SV} {w : World} {ok : Bool} {t : TypeId} (ht : P.underlying t = some .bool) (h : ZmJ op x y = some (ok, sv)) :
  ∃ v, (binOp op t (.bool x) (.bool y)).run P w = .ok v w ∧ SRep g sv v := by
 unfold ZmJ at h
 cases op <;> simp only [Option.some.injEq, Prod.mk.injEq, reduceCtorEq] at h
 all_goals obtain ⟨_, rfl⟩ := h
 ·exact ⟨_, by simp only [binOp]; rw [Sem.run_bind, ZjF ht]; rfl, SRep.bool⟩
 ·exact ⟨_, by simp only [binOp]; rw [Sem.run_bind, ZjF ht]; rfl, SRep.bool⟩
theorem ZmL {a b : ByteArray} (h : bytesOf a = bytesOf b) : a = b := by
 have hl : a.data.toList = b.data.toList := by
  unfold bytesOf at h
  refine List.map_inj_right (f := fun b : UInt8 => (b.toNat : Int)) ?_ |>.1 h
  intro x y e
  exact UInt8.toNat_inj.1 (by omega)
 have : a.data = b.data := Array.toList_inj.1 hl
 cases a; cases b; simp_all
theorem ZbI (s : ByteArray) : (bytesOf s).length = s.size := by unfold bytesOf; rw [List.length_map, Array.length_toList]; rfl
theorem Zjh (a b : ByteArray) : bytesOf (a ++ b) = bytesOf a ++ bytesOf b := by
 unfold bytesOf
 rw [← List.map_append]
 congr 1
theorem Zlp (a b : ByteArray) : (a.toList == b.toList) = (bytesOf a == bytesOf b) := by
 have ha : ∀ s : ByteArray, s.toList = s.data.toList := fun s => Go.ByteArray.toList_eq s
 rw [ha, ha, Bool.eq_iff_iff]
 simp only [beq_iff_eq]
 constructor
 ·intro h; unfold bytesOf; rw [h]
 ·intro h; rw [ZmL h]
theorem ZoO {g : Gh} {op : BinOp} {a b : ByteArray} {sv : SV} {w : World} (h : ZpU op (bytesOf a) (bytesOf b) = some (true, sv)) (t : TypeId) :
  ∃ v, (binOp op t (.string a) (.string b)).run P w = .ok v w ∧ SRep g sv v := by
 unfold ZpU at h
 cases op <;> simp only [Option.some.injEq, Prod.mk.injEq, reduceCtorEq, decide_eq_true_eq] at h
 ·obtain ⟨h1, rfl⟩ := h
  rw [ZbI, ZbI] at h1
  have h2 : ¬ (((a.size + b.size : Nat) : Int) > IntKind.i64.max) := by
   have : IntKind.i64.max = 9223372036854775807 := by decide
   rw [this]; omega
  refine ⟨.string (a ++ b), ?_, ?_⟩
  ·simp only [binOp, Op.stringOp]
   rw [if_neg h2]; rfl
  ·rw [← Zjh]
   exact SRep.str (by rw [ByteArray.size_append]; simp only [maxLen]; omega)
 ·obtain ⟨_, rfl⟩ := h
  refine ⟨_, by simp only [binOp, Op.stringOp]; rfl, ?_⟩
  rw [Zlp]; exact SRep.bool
 ·obtain ⟨_, rfl⟩ := h
  refine ⟨_, by simp only [binOp, Op.stringOp]; rfl, ?_⟩
  rw [Zlp]; exact SRep.bool
theorem SRep.asNil {g : Gh} {s : SV} {v : Value} {b : Bool} (h : SRep g s v) (e : asNil s = some b) : ∃ a, v = .pointer a ∧ a.isNone = b := by
 unfold Shal.asNil at e
 split at e
 ·cases e; have h' : CRep g (.ptr _ _) v := h; exact ⟨_, h'.1, rfl⟩
 ·cases e; obtain ⟨b, o, cs, rfl, _⟩ := h; exact ⟨_, rfl, rfl⟩
 ·cases e; exact ⟨none, h, rfl⟩
 ·cases e
  rename_i k x
  obtain ⟨b, o, cs, e1, _⟩ := DRep.one (k := .rp k) rfl h
  injection e1 with e1
  exact ⟨_, e1, rfl⟩
 ·cases e
theorem ZoN {g : Gh} {op : BinOp} {a b : Option Addr} {sv : SV} {w : World} {ok : Bool} {t e : TypeId} (ht : P.underlying t = some (.pointer e)) (h : ZpT op a.isNone b.isNone = some (ok, sv)) :
  ∃ v, (binOp op t (.pointer a) (.pointer b)).run P w = .ok v w ∧ SRep g sv v := by
 have key : ∀ a b : Option Addr, (a = none ∨ b = none) → ∀ op, (op = .eql ∨ op = .neq) → (binOp op t (.pointer a) (.pointer b)).run P w = .ok (.bool (if op = .eql then (a.isNone && b.isNone) else !(a.isNone && b.isNone))) w := by
  intro a b hab op hop
  rcases hop with rfl | rfl
  ·simp only [binOp]; rw [Sem.run_bind, Zly ht a b hab]; rfl
  ·simp only [binOp]; rw [Sem.run_bind, Zly ht a b hab]; rfl
 unfold ZpT at h
 cases op <;> cases a <;> cases b <;> simp only [Option.isNone_none, Option.isNone_some, Option.some.injEq, Prod.mk.injEq, reduceCtorEq] at h
 all_goals obtain ⟨_, rfl⟩ := h
 all_goals exact ⟨_, key _ _ (by simp) _ (by simp), SRep.bool⟩
theorem ZqA (hE : EnvTy P E) {t : Nat} (h : E.isBool t = true) : P.underlying t = some .bool := by
 unfold Env.isBool at h
 split at h
 ·rename_i i hi
  obtain ⟨inf, z, ht⟩ := hE.ty t i hi
  have := ht.kd
  split at h
  ·rename_i hk; rw [hk] at this; exact this
  ·cases h
 ·cases h
def calm : Value → Bool
 | .nilIface | .agg _ => false
 | _ => true
theorem ZcL {op : BinOp} {t : TypeId} {x y : Operand} {a b : Value} {w : World} (h : calm a = true) : (eqGuard op t x y a b).run P w = .ok () w := by
 unfold eqGuard
 cases op <;> cases a <;> first | rfl | cases h | (cases b <;> rfl)
theorem ZtC {R : RO} {w : World} (d : Nat) : ∀ (fs : List Field) (k : Kd) (o : Nat) (x y : k.T) (cx cy : List Value) (xs ys : Array Value), k.flat = true → ZlI P fs k o = true → Rep R k x cx → Rep R k y cy → xs.toList.drop o = cx → ys.toList.drop o = cy →
  (Op.eqFields (d + 1) xs ys fs).run P w = .ok (k.eqv x y) w := by
 intro fs
 induction fs with
 | nil =>
  intro k o x y cx cy xs ys hf hb hx hy h1 h2
  cases k with
  | unit => simp [Op.eqFields, Kd.eqv]
  | pair a b => cases a <;> simp [ZlI] at hb
  | _ => cases hf
 | cons f r ih =>
  intro k o x y cx cy xs ys hf hb hx hy h1 h2
  have at' : ∀ {xs : Array Value} {v : Value} {l : List Value}, xs.toList.drop o = v :: l → xs[o]? = some v ∧ xs.toList.drop (o + 1) = l := fun {xs v l} h => by
   have h0 : (xs.toList.drop o)[0]? = some v := by rw [h]; rfl
   rw [List.getElem?_drop] at h0
   refine ⟨by simpa using h0, ?_⟩
   rw [← List.drop_drop, h]; rfl
  have part' : ∀ {e : TypeId} {xs : Array Value} {v : Value}, Zev P e = false → (P.underlying e).isSome = true → xs[o]? = some v → (part e xs o).run P w = .ok v w := fun {e xs v} ha hs h => by
   unfold part
   rw [Sem.run_bind, ZeB hs, Result.andThen_ok, ha]
   simp [h]
  cases k with
  | unit => simp [ZlI] at hb
  | pair a b =>
   cases a with
   | int k =>
    simp only [ZlI, Bool.and_eq_true] at hb
    obtain ⟨⟨q1, q2, q3⟩, q4⟩ := hb
    obtain ⟨c, d', rfl, ⟨rfl, _⟩, hx2⟩ := hx
    obtain ⟨c', e', rfl, ⟨rfl, _⟩, hy2⟩ := hy
    obtain ⟨a1, a2⟩ := at' h1
    obtain ⟨b1, b2⟩ := at' h2
    have ho : f.offset = o := Nat.eq_of_beq_eq_true q2
    have hn : f.name ≠ "_" := by simpa using q1
    split at q3
    ·rename_i k' hu
     obtain rfl := of_decide_eq_true q3
     have ha : Zev P f.type = false := by unfold Zev; rw [hu]
     have hs : (P.underlying f.type).isSome = true := by rw [hu]; rfl
     have hi := ih b (o + 1) x.2 y.2 d' e' xs ys hf q4 hx2 hy2 a2 b2
     unfold Op.eqFields
     rw [if_pos hn, ho, Sem.run_bind, part' ha hs a1, Result.andThen_ok, Sem.run_bind, part' ha hs b1, Result.andThen_ok, Sem.run_bind, run_equalIn_int w d f.type _ _ _ _ hu, Result.andThen_ok]
     show _ = Result.ok ((x.1 == y.1) && b.eqv x.2 y.2) w
     cases hxy : (x.1 == y.1) with
     | true => simpa using hi
     | false => simp
    ·cases q3
   | bool =>
    simp only [ZlI, Bool.and_eq_true] at hb
    obtain ⟨⟨q1, q2, q3⟩, q4⟩ := hb
    obtain ⟨c, d', rfl, rfl, hx2⟩ := hx
    obtain ⟨c', e', rfl, rfl, hy2⟩ := hy
    obtain ⟨a1, a2⟩ := at' h1
    obtain ⟨b1, b2⟩ := at' h2
    have ho : f.offset = o := Nat.eq_of_beq_eq_true q2
    have hn : f.name ≠ "_" := by simpa using q1
    split at q3
    ·rename_i hu
     have ha : Zev P f.type = false := by unfold Zev; rw [hu]
     have hs : (P.underlying f.type).isSome = true := by rw [hu]; rfl
     have hi := ih b (o + 1) x.2 y.2 d' e' xs ys hf q4 hx2 hy2 a2 b2
     unfold Op.eqFields
     rw [if_pos hn, ho, Sem.run_bind, part' ha hs a1, Result.andThen_ok, Sem.run_bind, part' ha hs b1, Result.andThen_ok, Sem.run_bind, run_equalIn_bool' w d f.type _ _ hu, Result.andThen_ok]
     show _ = Result.ok ((x.1 == y.1) && b.eqv x.2 y.2) w
     cases hxy : (x.1 == y.1) with
     | true => simpa using hi
     | false => simp
    ·cases q3
   | _ => cases hf
  | _ => cases hf
theorem ZoX (hE : EnvTy P E) {g : Gh} {op : BinOp} {t : TypeId} {x y : SV} {vx vy : Value} {sv : SV} {w : World} (hx : SRep g x vx) (hy : SRep g y vy) (h : Zqh E op t x y = some (true, sv)) (ox oy : Operand) :
  ∃ v, ((eqGuard op t ox oy vx vy).run P w = .ok () w) ∧ (binOp op t vx vy).run P w = .ok v w ∧ SRep g sv v := by
 unfold Zqh at h
 split at h
 ·rename_i i hi
  split at h
  ·rename_i k a k' b hf
   split at h
   ·rename_i h1 h2 _ _
    subst h1
    obtain rfl := h2
    obtain ⟨inf, z, hT⟩ := hE.ty t i hi
    have hq := hT.eq hf
    obtain ⟨cx, rx, rfl⟩ := hx
    obtain ⟨cy, ry, rfl⟩ := hy
    have hag : i.kd.agg = true := by
     cases hk : i.kd <;> rw [hk] at hf <;> first | rfl | cases hf
    have hv : ∀ cs, i.kd.val cs = .agg cs.toArray := fun cs => by unfold Kd.val; rw [hag]
    unfold eqB at hq
    split at hq
    ·rename_i fs hu
     simp only [Bool.and_eq_true, Bool.not_eq_true'] at hq
     obtain ⟨⟨q1, q2⟩, q3⟩ := hq
     have hfo : P.fieldsOf t = fs := by unfold Program.fieldsOf; rw [hu]
     have hrun : (Op.equalIn 10000 t (.agg cx.toArray) (.agg cy.toArray)).run P w = .ok (i.kd.eqv a b) w := by
      rw [show (10000 : Nat) = 9999 + 1 from rfl, run_equalIn_struct w 9999 t _ _ (by rw [hfo]; exact hu) q1, hfo]
      exact ZtC 9998 fs.toList i.kd 0 a b cx cy _ _ hf q3 rx ry (by simp) (by simp)
     rw [hv, hv]
     unfold ZpQ at h
     split at h
     ·cases h
      refine ⟨.bool (i.kd.eqv a b), run_eqGuard_agg w _ t ox oy _ _ q2, ?_, SRep.bool⟩
      rw [run_eql_struct, hrun]; rfl
     ·cases h
      refine ⟨.bool (!(i.kd.eqv a b)), run_eqGuard_agg w _ t ox oy _ _ q2, ?_, SRep.bool⟩
      rw [run_neq_struct, hrun]; rfl
     ·cases h
    ·cases hq
   ·cases h
  ·cases h
 ·cases h
theorem Zqf (hE : EnvTy P E) {g : Gh} {op : BinOp} {t : TypeId} {x y : SV} {vx vy : Value} {sv : SV} {w : World} (hx : SRep g x vx) (hy : SRep g y vy) (h : ZrR E op t x y = some (true, sv)) (ox oy : Operand) :
  ∃ v, ((eqGuard op t ox oy vx vy).run P w = .ok () w) ∧ (binOp op t vx vy).run P w = .ok v w ∧ SRep g sv v := by
 unfold ZrR at h
 split at h
 ·rename_i k a k' b e1 e2
  obtain ⟨rfl, r1⟩ := hx.asInt e1
  obtain ⟨rfl, r2⟩ := hy.asInt e2
  split at h
  ·obtain ⟨v, h1, h2⟩ := Zmr (P := P) (g := g) (w := w) (k' := k') r1 h t
   exact ⟨v, ZcL rfl, h1, h2⟩
  ·rename_i hs
   split at h
   ·rename_i hk _
    subst hk
    obtain ⟨v, h1, h2⟩ := ZoM (P := P) (g := g) (w := w) hs r1 h t
    exact ⟨v, ZcL rfl, h1, h2⟩
   ·cases h
 ·split at h
  ·rename_i a b e1 e2
   obtain rfl := hx.asBool e1
   obtain rfl := hy.asBool e2
   split at h
   ·rename_i ht
    obtain ⟨v, h1, h2⟩ := ZmK (P := P) (g := g) (w := w) (ZqA hE ht) h
    exact ⟨v, ZcL rfl, h1, h2⟩
   ·cases h
  ·split at h
   ·rename_i a b e1 e2
    obtain ⟨s, rfl, rfl, _⟩ := hx.asStr e1
    obtain ⟨s', rfl, rfl, _⟩ := hy.asStr e2
    obtain ⟨v, h1, h2⟩ := ZoO (P := P) (g := g) (w := w) h t
    exact ⟨v, ZcL rfl, h1, h2⟩
   ·split at h
    ·rename_i a b e1 e2
     obtain rfl := hx.asFlt e1
     obtain rfl := hy.asFlt e2
     obtain ⟨v, h1, h2⟩ := ZoL (P := P) (g := g) (w := w) h t
     exact ⟨v, ZcL rfl, h1, h2⟩
    ·split at h
     ·rename_i a b e1 e2
      obtain ⟨a', rfl, rfl⟩ := hx.asNil e1
      obtain ⟨b', rfl, rfl⟩ := hy.asNil e2
      split at h
      ·rename_i e he
       obtain ⟨v, h1, h2⟩ := ZoN (P := P) (g := g) (w := w) (hE.ptr t e he) h
       exact ⟨v, ZcL rfl, h1, h2⟩
      ·cases h
     ·exact ZoX hE hx hy h ox oy
theorem ZrU {g : Gh} {op : UnOp} {x : SV} {vx : Value} {sv : SV} {w : World} (hx : SRep g x vx) (h : evUn op x = some sv) : ∃ v, (Op.unary op vx).run P w = .ok v w ∧ SRep g sv v := by
 unfold evUn at h
 cases op
 ·obtain ⟨⟨k, n⟩, e, h⟩ := Option.map_eq_some_iff.1 h
  subst h
  obtain ⟨rfl, _⟩ := hx.asInt e
  exact ⟨_, by first | (simp [Op.unary, Op.intArith]; done) | (simp [Op.unary, Op.intArith]; rfl), SRep.int (ZcZ _ _)⟩
 ·obtain ⟨⟨k, n⟩, e, h⟩ := Option.map_eq_some_iff.1 h
  subst h
  obtain ⟨rfl, _⟩ := hx.asInt e
  exact ⟨_, by first | (simp only [Op.unary, Op.intBits]; done) | (simp only [Op.unary, Op.intBits]; rfl), SRep.int (ZcZ _ _)⟩
 ·obtain ⟨b, e, h⟩ := Option.map_eq_some_iff.1 h
  subst h
  obtain rfl := hx.asBool e
  exact ⟨_, by first | (simp [Op.unary]; done) | (simp [Op.unary]; rfl), SRep.bool⟩
 ·cases h
end
end Go.Shal
set_option linter.unusedVariables false
namespace Go.Shal
open Go.RowKit
section
variable {P : Program} {E : Env} {w0 : World} {R0 : RO} {p : Pr}
theorem Zff (l : List SV) (i j : Nat) (v : SV) : getN (setN l i v) j = if i = j ∧ i < l.length then v else getN l j := by
 induction l generalizing i j with
 | nil => simp [setN, getN]
 | cons x l ih =>
  cases i with
  | zero => cases j with
   | zero => simp [setN, getN]
   | succ j => simp [setN, getN]
  | succ i => cases j with
   | zero => simp [setN, getN]
   | succ j => simp [setN, getN, ih]
theorem ZeO (l : List SV) (i : Nat) (v : SV) : (setN l i v).length = l.length := by
 induction l generalizing i with
 | nil => rfl
 | cons x l ih => cases i <;> simp [setN, ih]
theorem Inv.eval {g : Gh} {s : St} {a : Act} {w : World} (h : Inv w0 R0 p g s a w) (x : Operand) : SRep g (s.eval x) (a.eval x) := by
 cases x with
 | tmp t => exact h.slots t
 | const v => rfl
 | global _ => rfl
 | func f => exact ⟨[], rfl, .nil⟩
theorem Inv.put {g : Gh} {s : St} {a : Act} {w : World} (h : Inv w0 R0 p g s a w) {sv : SV} {v : Value} (hv : SRep g sv v) (d : Option Nat) : Inv w0 R0 p g (s.put d sv) (a.put d v) w := by
 cases d with
 | none => exact h
 | some d =>
  refine ⟨h.toMem, h.defers, fun i => ?_, ?_⟩
  ·show SRep g (getN (setN s.slots d sv) i) ((a.tmps.setIfInBounds d v).getD i undef)
   rw [Zff]
   by_cases hd : d = i ∧ d < s.slots.length
   ·obtain ⟨rfl, hl⟩ := hd
    rw [if_pos ⟨rfl, hl⟩]
    have : d < a.tmps.size := h.len ▸ hl
    simp [Array.getD, this, hv]
   ·rw [if_neg hd]
    have e : (a.tmps.setIfInBounds d v).getD i undef = a.tmps.getD i undef := by
     by_cases he : d = i
     ·subst he
      have : ¬ d < a.tmps.size := fun hl => hd ⟨rfl, h.len ▸ hl⟩
      simp [Array.getD, this]
     ·simp only [Array.getD_eq_getD_getElem?, Array.getElem?_setIfInBounds, he, if_false]
    rw [e]; exact h.slots i
  ·show (a.tmps.setIfInBounds d v).size = (setN s.slots d sv).length
   rw [ZeO, Array.size_setIfInBounds]; exact h.len
theorem Inv.ext {g g' : Gh} {s : St} {a : Act} {w w' : World} (h : Inv w0 R0 p g s a w) {heap : List Blk} (m : Mem w0 R0 p g' heap w') (e : g.ext g') : Inv w0 R0 p g' { s with heap := heap } a w' :=
 ⟨m, h.defers, fun i => (h.slots i).ext e, h.len⟩
theorem ZeM (f : SV → SV) (hf : f .undef = .undef) (l : List SV) (i : Nat) : getN (l.map f) i = f (getN l i) := by
 induction l generalizing i with
 | nil => exact hf.symm
 | cons x l ih => cases i with
  | zero => rfl
  | succ i => exact ih i
theorem Inv.turn {g g' : Gh} {s : St} {a : Act} {w w' : World} (h : Inv w0 R0 p g s a w) {t : Nat} (m : Mem w0 R0 p g' (s.heap.map (·.scrub t)) w') (e : g.turn t g') : Inv w0 R0 p g' (s.scrub t) a w' :=
 ⟨m, h.defers, fun i => by show SRep g' (getN (s.slots.map (·.scrub t)) i) _; rw [ZeM _ rfl]; exact (h.slots i).scrub e, by show _ = (s.slots.map _).length; rw [List.length_map]; exact h.len⟩
theorem Inv.drew {g : Gh} {s : St} {a : Act} {w : World} (h : Inv w0 R0 p g s a w) : Inv w0 R0 p g s a w.drew := ⟨h.toMem.drew, h.defers, h.slots, h.len⟩
def Goes (P : Program) (o : Oper) (a : Act) (w : World) (Φ : Act → World → Prop) : Prop := ∀ next Q, (∀ a' w', Φ a' w' → next a' w') → o.wp P a w next Q
theorem Goes.value {o : Oper} {a : Act} {w w' : World} {v : Value} {Φ : Act → World → Prop} (h : (execOp a.eval o).run P w = .ok (.value v) w') (hΦ : Φ (a.put o.dst v) w') : Goes P o a w Φ := fun next Q hn => by
 unfold Oper.wp; rw [h]; exact hn _ _ hΦ
theorem Goes.skip {o : Oper} {a : Act} {w w' : World} {Φ : Act → World → Prop} (h : (execOp a.eval o).run P w = .ok .skip w') (hΦ : Φ (a.put o.dst undef) w') : Goes P o a w Φ := fun next Q hn => by
 unfold Oper.wp; rw [h]; exact hn _ _ hΦ
def Then (w0 : World) (R0 : RO) (p : Pr) (s : St) (a : Act) (w : World) : Prop := ∃ g, Inv w0 R0 p g s a w
theorem ZbW {w w' : World} {s : Sem Value} {v : Value} (h : s.run P w = .ok v w') : (do pure (Next.value (← s)) : Sem Next).run P w = .ok (.value v) w' := by
 rw [Sem.run_bind, h]; rfl
theorem Zsy {w w' : World} {s : Sem Unit} (h : s.run P w = .ok () w') : (do s; pure Next.skip : Sem Next).run P w = .ok .skip w' := by
 rw [Sem.run_bind, h]; rfl
variable {g : Gh} {s : St} {a : Act} {w : World} {d : Option Nat}
theorem Inv.val (h : Inv w0 R0 p g s a w) {o : Oper} {sv : SV} {v : Value} (hr : (execOp a.eval o).run P w = .ok (.value v) w) (hv : SRep g sv v) : Goes P o a w (Then w0 R0 p (s.put o.dst sv)) :=
 Goes.value hr ⟨g, h.put hv o.dst⟩
theorem Zeq {t : TypeId} {inf : TypeInfo} (h : P.info? t = some inf) (w : World) : (typeInfo t).run P w = .ok inf w := by
 unfold typeInfo; rw [Sem.run_bind]; simp [h]
theorem ZaY {t : TypeId} {inf : TypeInfo} (h : P.info? t = some inf) (w : World) : (sizeOf t).run P w = .ok inf.size w := by
 unfold sizeOf; rw [Sem.run_bind, Zeq h]; rfl
theorem Zcj {t : TypeId} {inf : TypeInfo} {z : Value} (h : P.info? t = some inf) (hz : inf.zero = some z) (w : World) : (zeroValue t).run P w = .ok z w := by
 unfold zeroValue; rw [Sem.run_bind, Zeq h]; simp [hz]
theorem All2.drop {α β : Type} {Q : α → β → Prop} {l : List α} {m : List β} (h : All2 Q l m) (n : Nat) : All2 Q (l.drop n) (m.drop n) := by
 induction h generalizing n with
 | nil => simp; exact .nil
 | cons h h' ih => cases n with
  | zero => exact .cons h h'
  | succ n => exact ih n
theorem All2.take {α β : Type} {Q : α → β → Prop} {l : List α} {m : List β} (h : All2 Q l m) (n : Nat) : All2 Q (l.take n) (m.take n) := by
 induction h generalizing n with
 | nil => simp; exact .nil
 | cons h h' ih => cases n with
  | zero => exact .nil
  | succ n => exact .cons h (ih n)
theorem ZnZ (n : Nat) (l : List SV) : Zlx n l = l.drop n := by
 induction n generalizing l with
 | zero => rfl
 | succ n ih => cases l with
  | nil => rfl
  | cons x l => exact ih l
theorem ZoE {n : Nat} {l m : List SV} (h : Zrv n l = some m) : m = l.take n ∧ n ≤ l.length := by
 induction n generalizing l m with
 | zero => cases h; exact ⟨rfl, Nat.zero_le _⟩
 | succ n ih => cases l with
  | nil => cases h
  | cons x l =>
   obtain ⟨m', h', rfl⟩ := Option.map_eq_some_iff.1 (show (Zrv n l).map (x :: ·) = some m from h)
   obtain ⟨rfl, h2⟩ := ih h'
   exact ⟨rfl, by simp; omega⟩
theorem CRep.shut {s : SV} {v : Value} (h : CRep g s v) (hm : s.noMo = true) : PRep g s.shut v := by
 cases s with
 | own t k xs => exact ⟨rfl, rfl, h.1⟩
 | fresh k xs => exact ⟨rfl, rfl, h.1⟩
 | cst c => exact ⟨rfl, h⟩
 | dat _ _ => exact ⟨rfl, h⟩
 | ptr _ _ => exact ⟨rfl, h⟩
 | undef => exact h.elim
 | rptr _ _ => exact h.elim
 | tup _ => exact h.elim
 | agg _ => exact h.elim
 | func _ _ => exact h.elim
 | sl _ _ _ => exact h.elim
 | eptr _ _ _ _ => exact h.elim
 | mq _ _ _ => exact h.elim
 | mo _ _ => cases hm
 | jk _ _ => exact ⟨rfl, h⟩
 | jp _ => exact h.elim
 | rm _ _ _ _ => exact h.elim
 | raw _ _ _ => exact h.elim
 | mp _ => exact h.elim
theorem ZiF {cs : List SV} {vs : List Value} (h : All2 (fun s v => s = .undef ∨ CRep g s v) cs vs) (hn : ZkJ cs = true) : All2 (fun s v => CRep g s v ∧ s.noMo = true) cs vs := by
 induction h with
 | nil => exact .nil
 | @cons c v l m q _ ih =>
  rcases q with rfl | q
  ·cases hn
  ·have hm : c.noMo = true := by cases c <;> first | rfl | cases hn
   refine .cons ⟨q, hm⟩ (ih ?_)
   cases c <;> first | exact hn | exact q.elim | cases hm
theorem All2.map_shut {cs : List SV} {vs : List Value} (h : All2 (fun s v => CRep g s v ∧ s.noMo = true) cs vs) : All2 (PRep g) (cs.map SV.shut) vs := by
 induction h with
 | nil => exact .nil
 | cons q _ ih => exact .cons (q.1.shut q.2) ih
theorem SRep.pack {k : Kd} {cs : List SV} {vs : List Value} (h : All2 (fun s v => s = .undef ∨ CRep g s v) cs vs) (hl : cs.length = k.size) : SRep g (Shal.pack k cs) (k.val vs) := by
 unfold Shal.pack
 split
 ·rename_i hk
  split
  ·rename_i x hj
   obtain ⟨c, d, h1, h2, h3⟩ := Rep.join h hj
   cases h3
   rw [List.append_nil] at h1
   exact ⟨c, h2, by rw [h1]⟩
  ·split
   ·rename_i hn
    rw [ZbN hk]
    exact ⟨vs, rfl, (ZiF h hn).map_shut⟩
   ·trivial
 ·rename_i hk
  rw [ZeT hk] at hl
  obtain ⟨c, rfl⟩ := List.length_eq_one_iff.1 hl
  cases h with
  | cons q r =>
   cases r
   rw [ZgZ hk]
   rcases q with rfl | q
   ·trivial
   ·exact q.srep
theorem SRep.packW {k : Kd} {cs : List SV} {vs : List Value} (h : All2 (fun s v => s = .undef ∨ CRep g s v) cs vs) (hl : cs.length = k.size) : SRep g (Shal.packZ k cs) (k.val vs) := by
 unfold Shal.packZ
 split
 ·rename_i hn
  rw [Bool.and_eq_true] at hn
  split
  ·rename_i hk
   rw [ZbN hk]
   exact ⟨vs, rfl, (ZiF h hn.2).map_shut⟩
  ·exact SRep.pack h hl
 ·exact SRep.pack h hl
theorem Zef {t : TypeId} {k : Kd} {inf : TypeInfo} (hi : P.info? t = some inf) (hs : inf.size = k.size) (hk : KOk P t k) {b o : Nat} {vs : List Value} (hl : vs.length = k.size) (w : World) (hc : ∀ (j : Nat) u, vs[j]? = some u → w.cell? ⟨b, o + j, none⟩ = some u) :
  (loadVar t ⟨b, o, none⟩).run P w = .ok (k.val vs) w := by
 obtain ⟨h1, h2⟩ := hk.some
 unfold loadVar
 rw [Sem.run_bind, ZeB h1, Result.andThen_ok, h2]
 cases hka : k.agg with
 | true =>
  simp only [if_true]
  rw [Sem.run_bind, ZaY hi, Result.andThen_ok, Sem.run_bind, hs, ← hl, run_loadCells_list w ⟨b, o, none⟩ vs (fun j u hu => by rw [Addr.add_lit]; exact hc j u hu), ZbN hka]
  rfl
 | false =>
  rw [ZeT hka] at hl
  obtain ⟨u, rfl⟩ := List.length_eq_one_iff.1 hl
  simp only [Bool.false_eq_true, if_false]
  have := hc 0 u rfl
  rw [Nat.add_zero] at this
  rw [run_load, this, ZgZ hka]
theorem Zii (hE : EnvTy P E) (h : Mem w0 R0 p g s.heap w) {t : TypeId} {x : SV} {v : Value} {sv : SV} (hx : SRep g x v) (he : Zhd E s t x = some sv) :
  ∃ u, (Instr.loadAt t v).run P w = .ok u w ∧ SRep g sv u := by
 unfold Zhd at he
 split at he
 ·rename_i b o
  have hp : CRep g (.ptr b o) v := hx
  obtain ⟨rfl, hb⟩ := hp
  split at he
  ·rename_i cs i hblk hty
   obtain ⟨m, he1, rfl⟩ := Option.map_eq_some_iff.1 he
   obtain ⟨rfl, hlen⟩ := ZoE he1
   obtain ⟨inf, z, ht⟩ := hE.ty t i hty
   obtain ⟨cur, ty, hh, hrep⟩ := h.blk b _ hblk
   have hall : All2 (fun s v => s = .undef ∨ CRep g s v) cs cur.toList := hrep
   rw [ZnZ] at *
   have hpart := (hall.drop o).take i.kd.size
   have hl : ((cs.drop o).take i.kd.size).length = i.kd.size := by rw [List.length_take]; omega
   have hl2 : ((cur.toList.drop o).take i.kd.size).length = i.kd.size := by rw [← hpart.length]; exact hl
   refine ⟨i.kd.val ((cur.toList.drop o).take i.kd.size), ?_, by cases E.parts with | true => exact SRep.packW hpart hl | false => exact SRep.pack hpart hl⟩
   show (do loadVar t (← Instr.sureAddr (.pointer (some ⟨g.β b, o, none⟩)))).run P w = _
   rw [Sem.run_bind]
   show (loadVar t ⟨g.β b, o, none⟩).run P w = _
   refine Zef ht.info ht.size ht.kd hl2 w fun j u hu => ?_
   have hj : j < i.kd.size := by rw [← hl2]; exact (List.getElem?_eq_some_iff.1 hu).1
   rw [List.getElem?_take_of_lt hj, List.getElem?_drop, Array.getElem?_toList] at hu
   simp [World.cell?, hh, hu]
  ·cases he
 ·rename_i k x
  split at he
  ·rename_i i hty
   split at he
   ·rename_i hk _
    subst hk
    cases he
    obtain ⟨b, o, cs, rfl, h1, h2⟩ := hx
    obtain ⟨inf, z, ht⟩ := hE.ty t i hty
    refine ⟨i.kd.val cs, ?_, cs, h1, rfl⟩
    show (do loadVar t (← Instr.sureAddr (.pointer (some ⟨b, o, none⟩)))).run P w = _
    rw [Sem.run_bind]
    show (loadVar t ⟨b, o, none⟩).run P w = _
    exact Zef ht.info ht.size ht.kd h1.length w fun j u hu => h.ro _ _ _ (h2 j u hu)
   ·cases he
  ·cases he
 ·cases he
theorem Zmb {Q Q' : SV → Value → Prop} (hQ : ∀ a b, Q' a b → Q a b) {cs vs : List SV} {us ws : List Value} (h : All2 Q cs us) (h' : All2 Q' vs ws) {o : Nat} (hl : o + vs.length ≤ cs.length) :
  All2 Q (Zjs cs o vs) (us.take o ++ ws ++ us.drop (o + ws.length)) := by
 induction h' generalizing cs us o with
 | nil => simp only [Zjs, List.append_nil, List.length_nil, Nat.add_zero, List.take_append_drop]; exact h
 | @cons c v l m q r ih =>
  have hset : All2 Q (setN cs o c) (us.set o v) := by
   clear ih r hl
   induction h generalizing o with
   | nil => cases o <;> exact .nil
   | cons k k' ih' => cases o with
    | zero => exact .cons (hQ _ _ q) k'
    | succ o => exact .cons k ih'
  have hlu := h.length
  have := ih hset (o := o + 1) (by rw [ZeO]; simp at hl; omega)
  show All2 _ (Zjs (setN cs o c) (o + 1) l) _
  have ho : o < us.length := by simp at hl; omega
  have e : (us.set o v).take (o + 1) ++ m ++ (us.set o v).drop (o + 1 + m.length) = us.take o ++ (v :: m) ++ us.drop (o + (v :: m).length) := by
   rw [List.drop_set_of_lt (by omega), show o + 1 + m.length = o + (v :: m).length by simp; omega, List.take_succ_eq_append_getElem (by simpa using ho), List.take_set_of_le (Nat.le_refl _)]
   simp
  rwa [e] at this
def Zcu {α : Type} (l : List α) (a : Nat) (d : List α) : List α := l.take a ++ d ++ l.drop (a + d.length)
theorem ZgW {α : Type} {l d : List α} {a : Nat} (h : a + d.length ≤ l.length) : (Zcu l a d).length = l.length := by
 unfold Zcu
 simp
 omega
theorem Zfr {α : Type} {l d : List α} {a j : Nat} (h : a + d.length ≤ l.length) (hj : j < a) : (Zcu l a d)[j]? = l[j]? := by
 unfold Zcu
 rw [List.append_assoc, List.getElem?_append_left (by simp; omega), List.getElem?_take, if_pos hj]
theorem Zfq {α : Type} {l d : List α} {a j : Nat} (h : a + d.length ≤ l.length) (hj : a + d.length ≤ j) : (Zcu l a d)[j]? = l[j]? := by
 unfold Zcu
 rw [List.getElem?_append_right (by simp; omega), List.getElem?_drop]
 congr 1
 simp
 omega
theorem Zgv {α : Type} {l d : List α} {a j : Nat} (h : a + d.length ≤ l.length) (hj : j < d.length) : (Zcu l a d)[a + j]? = d[j]? := by
 unfold Zcu
 rw [List.append_assoc, List.getElem?_append_right (by simp; omega), List.getElem?_append_left (by simp; omega)]
 congr 1
 simp
 omega
theorem ZqE : ∀ (k : Kd) (p : List Nat) {l : Lens k}, k.lens p = some l → l.o + l.f.size ≤ k.size ∧ ∀ (R : RO) (x : k.T) (c : List Value) (y : l.f.T) (d : List Value), Rep R k x c → Rep R l.f y d → Rep R k (l.u y x) (Zcu c l.o d) := by
 intro k
 induction k with
 | pair a b iha ihb =>
  intro p l h
  cases p with
  | nil => cases h; exact ⟨by simp, fun R x c y d h1 h2 => by have e1 := h1.length; have e2 := h2.length; simp only [] at e2; unfold Zcu; rw [Nat.zero_add, e2, ← e1, List.drop_length]; simpa using h2⟩
  | cons j r =>
   cases j with
   | zero =>
    obtain ⟨l0, h0, rfl⟩ := Option.map_eq_some_iff.1 (show (a.lens r).map (fun l => (⟨l.o, l.f, fun y e => (l.u y e.1, e.2)⟩ : Lens (.pair a b))) = some l from h)
    obtain ⟨k1, k2⟩ := iha r h0
    refine ⟨by show l0.o + l0.f.size ≤ a.size + b.size; omega, ?_⟩
    rintro R x c y d ⟨c1, c2, rfl, h1, h2⟩ h3
    have e1 := h1.length
    have e3 : d.length = l0.f.size := Rep.length h3
    refine ⟨Zcu c1 l0.o d, c2, ?_, k2 R x.1 c1 y d h1 h3, h2⟩
    show Zcu (c1 ++ c2) l0.o d = _
    unfold Zcu
    rw [List.take_append_of_le_length (by omega), List.drop_append_of_le_length (by omega)]
    simp
   | succ j =>
    obtain ⟨l0, h0, rfl⟩ := Option.map_eq_some_iff.1 (show (b.lens (j :: r)).map (fun l => (⟨a.size + l.o, l.f, fun y e => (e.1, l.u y e.2)⟩ : Lens (.pair a b))) = some l from h)
    obtain ⟨k1, k2⟩ := ihb (j :: r) h0
    refine ⟨by show a.size + l0.o + l0.f.size ≤ a.size + b.size; omega, ?_⟩
    rintro R x c y d ⟨c1, c2, rfl, h1, h2⟩ h3
    have e1 := h1.length
    have e3 : d.length = l0.f.size := Rep.length h3
    refine ⟨c1, Zcu c2 l0.o d, ?_, h1, k2 R x.2 c2 y d h2 h3⟩
    show Zcu (c1 ++ c2) (a.size + l0.o) d = _
    unfold Zcu
    rw [← e1, List.take_length_add_append, Nat.add_assoc, List.drop_length_add_append]
    simp
 | _ =>
  intro p l h
  cases p with
  | nil => cases h; exact ⟨by simp, fun R x c y d h1 h2 => by have e1 := h1.length; have e2 := h2.length; simp only [] at e2; unfold Zcu; rw [Nat.zero_add, e2, ← e1, List.drop_length]; simpa using h2⟩
  | cons j r => cases h
theorem ZqF : ∀ (k : Kd) (p : List Nat) (j : Nat) {l l' : Lens k}, k.lens p = some l → k.lens (p ++ [j]) = some l' → ∃ o, l.f.fieldAt j = some (o, l'.f) ∧ l'.o = l.o + o := by
 intro k
 induction k with
 | pair a b iha ihb =>
  intro p j l l' h h'
  cases p with
  | nil =>
   cases h
   have one : ∀ (b : Kd) (j : Nat) {l' : Lens b}, b.lens [j] = some l' → b.fieldAt j = some (l'.o, l'.f) := by
    intro b
    induction b with
    | pair a b _ ihb =>
     intro j l' h'
     cases j with
     | zero =>
      obtain ⟨l0, h0, rfl⟩ := Option.map_eq_some_iff.1 (show (a.lens []).map (fun l => (⟨l.o, l.f, fun y e => (l.u y e.1, e.2)⟩ : Lens (.pair a b))) = some l' from h')
      cases a <;> (cases h0; rfl)
     | succ j =>
      obtain ⟨l0, h0, rfl⟩ := Option.map_eq_some_iff.1 (show (b.lens [j]).map (fun l => (⟨a.size + l.o, l.f, fun y e => (e.1, l.u y e.2)⟩ : Lens (.pair a b))) = some l' from h')
      show (b.fieldAt j).map (fun (o, k) => (a.size + o, k)) = _
      rw [ihb j h0]; rfl
    | _ => intro j l' h'; cases h'
   exact ⟨l'.o, one _ j h', (Nat.zero_add _).symm⟩
  | cons i r =>
   cases i with
   | zero =>
    obtain ⟨l0, h0, rfl⟩ := Option.map_eq_some_iff.1 (show (a.lens r).map (fun l => (⟨l.o, l.f, fun y e => (l.u y e.1, e.2)⟩ : Lens (.pair a b))) = some l from h)
    obtain ⟨l1, h1, rfl⟩ := Option.map_eq_some_iff.1 (show (a.lens (r ++ [j])).map (fun l => (⟨l.o, l.f, fun y e => (l.u y e.1, e.2)⟩ : Lens (.pair a b))) = some l' from h')
    exact iha r j h0 h1
   | succ i =>
    obtain ⟨l0, h0, rfl⟩ := Option.map_eq_some_iff.1 (show (b.lens (i :: r)).map (fun l => (⟨a.size + l.o, l.f, fun y e => (e.1, l.u y e.2)⟩ : Lens (.pair a b))) = some l from h)
    obtain ⟨l1, h1, rfl⟩ := Option.map_eq_some_iff.1 (show (b.lens (i :: (r ++ [j]))).map (fun l => (⟨a.size + l.o, l.f, fun y e => (e.1, l.u y e.2)⟩ : Lens (.pair a b))) = some l' from h')
    obtain ⟨o, k1, k2⟩ := ihb (i :: r) j h0 h1
    exact ⟨o, k1, by show a.size + l1.o = a.size + l0.o + o; omega⟩
 | tre k _ =>
  intro p j l l' h h'
  cases p with
  | nil => cases h'
  | cons i r => cases h
 | _ =>
  intro p j l l' h h'
  cases p with
  | nil => cases h'
  | cons i r => cases h
theorem CRep.setκ {s : SV} {v : Value} (κ' : Option MB) (h : CRep g s v) (hm : s.noMo = true) : CRep { g with κ := κ' } s v := by
 cases s <;> first | exact h | cases hm
theorem PRep.setκ {s : SV} {v : Value} (κ' : Option MB) (h : PRep g s v) : PRep { g with κ := κ' } s v :=
 ⟨h.1, h.2.setκ κ' (by have := h.1; cases s <;> first | rfl | cases this)⟩
theorem QRep.setκ {s : SV} {v : Value} (κ' : Option MB) (h : QRep g s v) : QRep { g with κ := κ' } s v := by
 cases s with
 | agg _ => obtain ⟨vs, e, k⟩ := h; exact ⟨vs, e, k.imp fun _ _ q => q.of (g := g) (g' := { g with κ := κ' }) (RO.le_refl _) (fun _ _ h => h)⟩
 | _ => exact h
theorem ZdG.mod {k : Kd} {xs : List k.T} {v : Value} {i : Int} {q : MB} (hκ : g.κ = some q) {l : Lens k} {p : List Nat} (hl : k.lens p = some l) {y : l.f.T} {d : List Value} (hd : Rep g.R l.f y d) (hi : i.toNat < q.n) (hsz : q.sz = k.size) (hlen : q.cs.length = q.n * q.sz) (h : ZdG g k xs v) :
  ZdG { g with κ := some { q with cs := Zcu q.cs (i.toNat * k.size + l.o) d } } k (modL xs i (l.u y)) v := by
 obtain ⟨l1, l2⟩ := ZqE k p hl
 have e3 : d.length = l.f.size := Rep.length hd
 rcases h with ⟨rfl, e⟩ | ⟨m, e, h1, h2, h3, h4, h5⟩
 ·left
  exact ⟨by simp [modL], e⟩
 ·rw [hκ] at e
  obtain rfl := Option.some.inj e
  have hfit : i.toNat * k.size + l.o + d.length ≤ q.cs.length := by
   rw [hlen, hsz]
   have : (i.toNat + 1) * k.size ≤ q.n * k.size := Nat.mul_le_mul_right _ (by omega)
   rw [Nat.succ_mul] at this
   omega
  right
  refine ⟨_, rfl, h1, h2, by rw [modL, List.length_modify]; exact h3, by rw [ZgW hfit, modL, List.length_modify]; exact h4, fun j x hx => ?_⟩
  rw [modL, List.getElem?_modify] at hx
  by_cases hj : i.toNat = j
  ·subst hj
   cases hq : xs[i.toNat]? with
   | none => rw [hq] at hx; cases hx
   | some x0 =>
    rw [hq] at hx
    simp only [if_true, Option.map_eq_map, Option.map_some] at hx
    obtain rfl := Option.some.inj hx
    obtain ⟨c, q1, q2⟩ := h5 _ _ hq
    have hc := q1.length
    refine ⟨Zcu c l.o d, l2 _ _ _ _ _ q1 hd, fun j v hv => ?_⟩
    have hcl : l.o + d.length ≤ c.length := by omega
    rcases Nat.lt_or_ge j l.o with hj | hj
    ·rw [Zfr hcl hj] at hv
     rw [Zfr hfit (by omega)]
     exact q2 j v hv
    ·rcases Nat.lt_or_ge j (l.o + d.length) with hj2 | hj2
     ·obtain ⟨j', rfl⟩ : ∃ j', j = l.o + j' := ⟨j - l.o, by omega⟩
      rw [Zgv hcl (by omega)] at hv
      rw [← Nat.add_assoc, Zgv hfit (by omega)]
      exact hv
     ·rw [Zfq hcl hj2] at hv
      rw [Zfq hfit (by omega)]
      exact q2 j v hv
  ·have hx : xs[j]? = some x := by simpa [hj] using hx
   obtain ⟨c, q1, q2⟩ := h5 _ _ hx
   have hc := q1.length
   refine ⟨c, q1, fun t v hv => ?_⟩
   have ht := (List.getElem?_eq_some_iff.1 hv).1
   rcases Nat.lt_or_ge j i.toNat with hlt | hge
   ·have : (j + 1) * k.size ≤ i.toNat * k.size := Nat.mul_le_mul_right _ hlt
    rw [Nat.succ_mul] at this
    rw [Zfr hfit (by omega)]
    exact q2 t v hv
   ·have : (i.toNat + 1) * k.size ≤ j * k.size := Nat.mul_le_mul_right _ (by omega)
    rw [Nat.succ_mul] at this
    rw [Zfq hfit (by omega)]
    exact q2 t v hv
theorem ZgE.mod {k : Kd} {i : Int} {p : List Nat} {v : Value} {q : MB} (hκ : g.κ = some q) (cs : List Value) (h : ZgE g k i p v) : ZgE { g with κ := some { q with cs := cs } } k i p v := by
 obtain ⟨m, l, e, h1, h2, h3, h4⟩ := h
 rw [hκ] at e
 obtain rfl := Option.some.inj e
 exact ⟨_, l, rfl, h1, h2, h3, h4⟩
theorem SRep.mod {k : Kd} {i : Int} {q : MB} (hκ : g.κ = some q) {l : Lens k} {p : List Nat} (hl : k.lens p = some l) {y : l.f.T} {d : List Value} (hd : Rep g.R l.f y d) (hi : i.toNat < q.n) (hsz : q.sz = k.size) (hlen : q.cs.length = q.n * q.sz) {s : SV} {v : Value} (h : SRep g s v) :
  SRep { g with κ := some { q with cs := Zcu q.cs (i.toNat * k.size + l.o) d } } (s.modMo k i (l.u y)) v := by
 cases s with
 | mo k' xs =>
  show SRep _ (match decEq k' k with
   | isTrue h => .mo k' (modL xs i (h ▸ (l.u y)))
   | isFalse _ => .undef) v
  split
  ·rename_i hk _
   subst hk
   exact ZdG.mod hκ hl hd hi hsz hlen h
  ·trivial
 | mq k' i' p' => exact ZgE.mod hκ _ h
 | tup _ => obtain ⟨vs, e, k⟩ := h; exact ⟨vs, e, k.imp fun _ _ q => q.setκ _⟩
 | agg _ => obtain ⟨vs, e, k⟩ := h; exact ⟨vs, e, k.imp fun _ _ q => q.setκ _⟩
 | func _ _ => obtain ⟨vs, e, k⟩ := h; exact ⟨vs, e, k.imp fun _ _ q => q.setκ _⟩
 | _ => exact h
theorem CRep.mod {k : Kd} {i : Int} {q : MB} (hκ : g.κ = some q) {l : Lens k} {p : List Nat} (hl : k.lens p = some l) {y : l.f.T} {d : List Value} (hd : Rep g.R l.f y d) (hi : i.toNat < q.n) (hsz : q.sz = k.size) (hlen : q.cs.length = q.n * q.sz) {s : SV} {v : Value} (h : s = .undef ∨ CRep g s v) :
  s.modMo k i (l.u y) = .undef ∨ CRep { g with κ := some { q with cs := Zcu q.cs (i.toNat * k.size + l.o) d } } (s.modMo k i (l.u y)) v := by
 rcases h with rfl | h
 ·exact .inl rfl
 cases s with
 | mo k' xs =>
  show (match decEq k' k with
   | isTrue h => SV.mo k' (modL xs i (h ▸ (l.u y)))
   | isFalse _ => .undef) = .undef ∨ CRep _ (match decEq k' k with
   | isTrue h => .mo k' (modL xs i (h ▸ (l.u y)))
   | isFalse _ => .undef) v
  split
  ·rename_i hk _
   subst hk
   exact .inr (ZdG.mod hκ hl hd hi hsz hlen h)
  ·exact .inl rfl
 | _ => exact .inr (h.setκ _ rfl)
theorem BRep.mod {k : Kd} {i : Int} {q : MB} (hκ : g.κ = some q) {l : Lens k} {p : List Nat} (hl : k.lens p = some l) {y : l.f.T} {d : List Value} (hd : Rep g.R l.f y d) (hi : i.toNat < q.n) (hsz : q.sz = k.size) (hlen : q.cs.length = q.n * q.sz) {b : Blk} {vs : List Value} (h : BRep g b vs) :
  BRep { g with κ := some { q with cs := Zcu q.cs (i.toNat * k.size + l.o) d } } (b.modMo k i (l.u y)) vs := by
 cases b with
 | cells cs => exact All2.mapL h fun _ _ q => CRep.mod hκ hl hd hi hsz hlen q
 | arr _ _ => exact h
 | mp _ _ => exact h
theorem ZlL (f : Blk → Blk) : ∀ (l : List Blk) (i : Nat), getB (l.map f) i = (getB l i).map f
 | [], _ => rfl
 | _ :: _, 0 => rfl
 | _ :: l, i + 1 => ZlL f l i
theorem Zpt (hE : EnvTy P E) (h : Inv w0 R0 p g s a w) {t : TypeId} {k : Kd} {i : Int} {pa : List Nat} {y : SV} {v u : Value} {s' : St} (hx : SRep g (.mq k i pa) v) (hy : SRep g y u) (he : Zea E s t (.mq k i pa) y = some s') :
  ∃ w' g', (Instr.storeAt t v u).run P w = .ok () w' ∧ Inv w0 R0 p g' s' a w' := by
 replace he : (match E.grows, E.ty t, k.lens pa with
  | true, some it, some l => match decEq it.kd l.f, y.as l.f with
   | isTrue _, some y => some ({ slots := s.slots.map (SV.modMo k i (l.u y)), heap := s.heap.map (Blk.modMo k i (l.u y)) } : St)
   | _, _ => none
  | _, _, _ => none) = some s' := he
 split at he
 ·rename_i it l _ hty hl
  split at he
  ·rename_i hk yv _ has
   cases he
   obtain ⟨q, l', hκ, hl', rfl, hsz, h0, hi⟩ := hx
   rw [hl] at hl'
   obtain rfl := Option.some.inj hl'
   obtain ⟨inf, z, ht⟩ := hE.ty t it hty
   have hm := h.mo q hκ
   obtain ⟨cur, ty, hh, hcs, hcon⟩ := hm.heap
   have hc := (hy.as has).cells
   have hlen := hc.length
   obtain ⟨l1, _⟩ := ZqE k pa hl
   have hn1 : (i.toNat + 1) * k.size ≤ q.n * k.size := Nat.mul_le_mul_right _ (by omega)
   have hn2 : q.n * k.size ≤ q.c * k.size := Nat.mul_le_mul_right _ hm.le.1
   rw [Nat.succ_mul] at hn1
   rw [hsz] at hcs
   have hfit : i.toNat * k.size + l.o + u.cells.toList.length ≤ cur.size := by omega
   have hfit2 : i.toNat * k.size + l.o + u.cells.toList.length ≤ q.cs.length := by rw [hm.len, hsz]; omega
   have hst := run_storeCells_at P q.b (i.toNat * k.size + l.o) ty u.cells.toList 0 cur w hh (by simpa using hfit) hc.oneCells
   simp only [Nat.add_zero] at hst
   have hm' := h.toMem.chg (h' := s.heap.map (Blk.modMo k i (l.u yv))) (w' := w.setRow q.b (cur.toList.take (i.toNat * k.size + l.o) ++ u.cells.toList ++ cur.toList.drop (i.toNat * k.size + l.o + u.cells.toList.length)).toArray)
    (κ' := some { q with cs := Zcu q.cs (i.toNat * k.size + l.o) u.cells.toList }) (by rw [List.length_map]) (fun j b hb => by
     rw [ZlL] at hb
     obtain ⟨b0, e1, rfl⟩ := Option.map_eq_some_iff.1 hb
     exact ⟨b0, e1, fun vs hv => BRep.mod hκ hl hc hi hsz hm.len hv, fun k' es e => by subst e; rfl⟩) (fun b hb hne => setRow_other _ _ _ _ (fun e => hne q hκ e.symm)) (by simp) rfl rfl rfl (fun q' hq' => by
     obtain rfl := Option.some.inj hq'
     refine ⟨⟨_, ty, setRow_heap _ _ _ _ _ _ hh, ?_, fun j v' hv => ?_⟩, hm.le, ?_, .inl ⟨q, hκ, rfl⟩⟩
     ·show q.c * q.sz ≤ _
      rw [hsz]
      have hl2 := ZgW (l := cur.toList) (d := u.cells.toList) (a := i.toNat * k.size + l.o) (by rw [Array.length_toList]; exact hfit)
      unfold Zcu at hl2
      rw [List.size_toArray, hl2, Array.length_toList]
      exact hcs
     ·replace hv : (Zcu q.cs (i.toNat * k.size + l.o) u.cells.toList)[j]? = some v' := hv
      show (Zcu cur.toList (i.toNat * k.size + l.o) u.cells.toList).toArray[j]? = some v'
      rw [List.getElem?_toArray]
      have hf : i.toNat * k.size + l.o + u.cells.toList.length ≤ cur.toList.length := by rw [Array.length_toList]; exact hfit
      rcases Nat.lt_or_ge j (i.toNat * k.size + l.o) with hj | hj
      ·rw [Zfr hfit2 hj] at hv
       rw [Zfr hf hj, Array.getElem?_toList]; exact hcon j v' hv
      ·rcases Nat.lt_or_ge j (i.toNat * k.size + l.o + u.cells.toList.length) with hj2 | hj2
       ·obtain ⟨j', rfl⟩ : ∃ j', j = i.toNat * k.size + l.o + j' := ⟨j - (i.toNat * k.size + l.o), by omega⟩
        rw [Zgv hfit2 (by omega)] at hv
        rw [Zgv hf (by omega)]; exact hv
       ·rw [Zfq hfit2 hj2] at hv
        rw [Zfq hf hj2, Array.getElem?_toList]; exact hcon j v' hv
     ·show (Zcu q.cs _ _).length = _
      rw [ZgW hfit2]; exact hm.len)
   refine ⟨_, _, ?_, ⟨hm', h.defers, fun j => ?_, by rw [List.length_map]; exact h.len⟩⟩
   ·show (do storeVar t (← Instr.sureAddr (.pointer (some ⟨q.b, i.toNat * k.size + l.o, none⟩))) u).run P w = _
    rw [Sem.run_bind]
    show (storeVar t ⟨q.b, i.toNat * k.size + l.o, none⟩ u).run P w = _
    unfold storeVar
    rw [Sem.run_bind, ZaY ht.info, Result.andThen_ok]
    have hsz2 : ¬ u.cells.size ≠ inf.size := by rw [ht.size, hk, ← hlen]; simp
    rw [if_neg hsz2]
    exact hst
   ·show SRep _ (getN (s.slots.map (SV.modMo k i (l.u yv))) j) _
    rw [ZeM _ (show SV.modMo k i (l.u yv) .undef = .undef from rfl)]
    exact SRep.mod hκ hl hc hi hsz hm.len (h.slots j)
  ·cases he
 ·cases he
theorem Zpd (hE : EnvTy P E) (h : Inv w0 R0 p g s a w) {t : TypeId} {x y : SV} {v u : Value} {s' : St} (hx : SRep g x v) (hy : SRep g y u) (he : Zea E s t x y = some s') :
  ∃ w' g', (Instr.storeAt t v u).run P w = .ok () w' ∧ Inv w0 R0 p g' s' a w' := by
 by_cases hmq : ∃ k i pa, x = .mq k i pa
 ·obtain ⟨k, i, pa, rfl⟩ := hmq
  exact Zpt hE h hx hy he
 unfold Zea at he
 split at he
 ·exact (hmq ⟨_, _, _, rfl⟩).elim
 ·rename_i b o
  have hp : CRep g (.ptr b o) v := hx
  obtain ⟨rfl, hb⟩ := hp
  split at he
  ·rename_i cs i vs hblk hty hcells
   split at he
   ·rename_i hc
    cases he
    simp only [Bool.and_eq_true, Nat.beq_eq, Nat.ble_eq] at hc
    obtain ⟨hc1, hc2⟩ := hc
    obtain ⟨inf, z, ht⟩ := hE.ty t i hty
    obtain ⟨cur, ty, hh, hrep⟩ := h.blk b _ hblk
    have hall : All2 (fun s v => s = .undef ∨ CRep g s v) cs cur.toList := hrep
    have hvs := hy.cells hcells
    have hlv := hvs.length
    have hlc := hall.length
    have hone : ∀ x ∈ u.cells.toList, x.oneCell' = true := by
     clear hlv hc1 hc2 hcells
     generalize u.cells.toList = us at hvs
     intro x hx
     induction hvs with
     | nil => cases hx
     | cons q r ih => rcases List.mem_cons.1 hx with rfl | hx
                      ·exact q.oneCell
                      ·exact ih hx
    have hst := run_storeCells_at P (g.β b) o ty u.cells.toList 0 cur w hh (by simp at hlc hlv ⊢; omega) hone
    simp only [Nat.add_zero] at hst
    have hnew : BRep g (.cells (Zjs cs o vs)) (cur.toList.take o ++ u.cells.toList ++ cur.toList.drop (o + u.cells.toList.length)).toArray.toList := by
     show All2 _ _ _
     rw [List.toList_toArray]
     exact Zmb (fun _ _ q => .inr q) hall hvs hc2
    refine ⟨_, g, ?_, h.toMem.store hblk hh _ hnew, h.defers, h.slots, h.len⟩
    show (do storeVar t (← Instr.sureAddr (.pointer (some ⟨g.β b, o, none⟩))) u).run P w = _
    rw [Sem.run_bind]
    show (storeVar t ⟨g.β b, o, none⟩ u).run P w = _
    unfold storeVar
    rw [Sem.run_bind, ZaY ht.info, Result.andThen_ok]
    have hsz : ¬ u.cells.size ≠ inf.size := by rw [ht.size, ← hc1, hlv]; simp
    rw [if_neg hsz]
    exact hst
   ·cases he
  ·cases he
 ·cases he
end
end Go.Shal
