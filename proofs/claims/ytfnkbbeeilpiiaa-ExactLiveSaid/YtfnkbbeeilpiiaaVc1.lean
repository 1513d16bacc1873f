/- Vc, part 1: abstract values, abstract states, and what each operation of the model does to them (definitions only). -/
import Derived.WalkKit
namespace Go.Vc

/-- Abstract values. `bool` is a literal, `sb` a boolean that may be symbolic. `lst sz full xs`: a slice whose elements (each a list of sz cells) are never written again; `full`: its capacity is its length. `own t`: a slice of the call's own, its elements stand under the token t. `ptr id off`: a pointer into box id. `rp cs`: a pointer to cells that are never written again. `elt t i j`: a pointer to cell j of element i of the slice under token t. -/
inductive AV where
  | int (k : IntKind) (n : Int)
  | bool (b : Bool)
  | sb (b : Bool)
  | agg (cs : List AV)
  | tup (vs : List AV)
  | lst (sz : Nat) (full : Bool) (xs : List (List AV))
  | own (t : Nat)
  | ptr (id off : Nat)
  | rp (cs : List AV)
  | elt (t i j : Nat)
  | fn (f : FuncId)
  | nilp
  | nilS
  | junk
  deriving Inhabited

inductive Loc where
  | tmp (n : Nat)
  | box (n : Nat)
  | tok (n : Nat)

def Loc.beq : Loc → Loc → Bool
  | .tmp a, .tmp b => Nat.beq a b
  | .box a, .box b => Nat.beq a b
  | .tok a, .tok b => Nat.beq a b
  | _, _ => false

inductive Cont where
  | none
  | av (v : AV)
  | box (cs : List AV)
  | tok (e : TypeId) (sz : Nat) (xs : List (List AV))

/-- A state: what stands at each location; the first row of a location counts. -/
abbrev St := List (Loc × Cont)

def St.get : St → Loc → Cont
  | [], _ => .none
  | (l, c) :: s, m => match Loc.beq m l with
    | true => c
    | false => St.get s m

abbrev AS := Loc → Cont

/-- What an operation does: rows that are laid on the state. -/
abbrev Eff := List (Loc × Cont)

def AS.put (s : AS) (l : Loc) (c : Cont) : AS := fun m => match Loc.beq m l with
  | true => c
  | false => s m

def AS.apply (s : AS) : Eff → AS
  | [] => s
  | (l, c) :: e => (AS.apply s e).put l c

/-- What is asked of a type of the program. -/
inductive TK where
  | int (k : IntKind)
  | bool
  | struct (fs : List (Nat × Nat))
  | slice (e : TypeId)
  | pointer (e : TypeId)
  | array (n : Nat) (e : TypeId)
  | other

structure TI where
  kind : TK
  size : Nat
  bytes : Nat
  zero : List AV
  plain : List Bool

def TI.agg (t : TI) : Bool := match t.kind with
  | .struct _ | .array _ _ => true
  | _ => false

/-- The table of types. -/
abbrev Tab := List (Nat × TI)

def Tab.find : Tab → Nat → Option TI
  | [], _ => .none
  | (n, t) :: r, m => match Nat.beq m n with
    | true => some t
    | false => Tab.find r m

def constCells : List Value → Option (List AV)
  | [] => some []
  | .int k n :: r => match constCells r with
    | some l => some (.int k n :: l)
    | none => none
  | .bool b :: r => match constCells r with
    | some l => some (.bool b :: l)
    | none => none
  | .slice none 0 0 :: r => match constCells r with
    | some l => some (.nilS :: l)
    | none => none
  | .pointer none :: r => match constCells r with
    | some l => some (.nilp :: l)
    | none => none
  | _ :: _ => none

/-- The literal value of a constant. -/
def ofConst : Value → AV
  | .int k n => .int k n
  | .bool b => .bool b
  | .slice none 0 0 => .nilS
  | .pointer none => .nilp
  | .agg cs => match constCells cs.toList with
    | some l => .agg l
    | none => .junk
  | _ => .junk

def AS.tmp (s : AS) (t : Tmp) : AV := match s (.tmp t) with
  | .av v => v
  | _ => .junk

def AS.val (s : AS) : Operand → AV
  | .tmp t => s.tmp t
  | .const v => ofConst v
  | .global _ => .junk
  | .func f => .fn f

/-- The cells of a value. -/
def AV.cells : AV → List AV
  | .agg cs => cs
  | v => [v]

/-- The value of a type out of its cells. -/
def ofCells (t : TI) (cs : List AV) : AV := match t.agg with
  | true => .agg cs
  | false => match cs with
    | [c] => c
    | _ => .junk

/-- An operation's outcome. -/
inductive OpRes where
  | bad
  | ok (e : Eff)
  | side (p : Prop) (e : Eff)
  | elem (xs : List (List AV)) (i : Int) (f : List AV → Eff)
  | call (f : FuncId) (args : List AV) (d : Option Tmp)

/-- One row: the result into the temporary. -/
def dst (d : Option Tmp) (v : AV) : Eff := match d with
  | some d => [(.tmp d, .av v)]
  | none => []

def boolOf : AV → Option Bool
  | .bool b => some b
  | .sb b => some b
  | _ => none

/-- A one-cell value that may stand in a list: persistent. -/
def persist (s : AS) : AV → Option (AV × List Nat)
  | .int k n => some (.int k n, [])
  | .bool b => some (.sb b, [])
  | .sb b => some (.sb b, [])
  | .lst sz f xs => some (.lst sz f xs, [])
  | .own t => match s (.tok t) with
    | .tok _ sz xs => some (.lst sz false xs, [t])
    | _ => none
  | .nilp => some (.nilp, [])
  | .nilS => some (.nilS, [])
  | _ => none

def persistAll (s : AS) : List AV → Option (List AV × List Nat)
  | [] => some ([], [])
  | c :: cs => match persist s c with
    | some (d, ks) => match persistAll s cs with
      | some (ds, ks') => some (d :: ds, ks ++ ks')
      | none => none
    | none => none

def kills : List Nat → Eff
  | [] => []
  | t :: ts => (.tok t, .none) :: kills ts

def solid : List AV → Bool
  | [] => true
  | .junk :: _ | .agg _ :: _ | .tup _ :: _ => false
  | _ :: r => solid r

/-- Equality of cells, for structs of numbers (true) and bools (false). -/
def eqCells : List Bool → List AV → List AV → Option Bool
  | [], [], [] => some true
  | true :: ks, .int k a :: as, .int k' b :: bs => match decide (k = k'), eqCells ks as bs with
    | true, some r => some (a == b && r)
    | _, _ => none
  | false :: ks, a :: as, b :: bs => match boolOf a, boolOf b, eqCells ks as bs with
    | some x, some y, some r => some ((x == y) && r)
    | _, _, _ => none
  | _, _, _ => none

def intOp (op : BinOp) (k : IntKind) (a b : Int) : Option AV := match op with
  | .add => some (.int k (k.wrap (a + b)))
  | .sub => some (.int k (k.wrap (a - b)))
  | .mul => some (.int k (k.wrap (a * b)))
  | .and => some (.int k (k.wrap (BitVec.ofInt k.bits a &&& BitVec.ofInt k.bits b).toNat))
  | .or => some (.int k (k.wrap (BitVec.ofInt k.bits a ||| BitVec.ofInt k.bits b).toNat))
  | .xor => some (.int k (k.wrap (BitVec.ofInt k.bits a ^^^ BitVec.ofInt k.bits b).toNat))
  | .andNot => some (.int k (k.wrap (BitVec.ofInt k.bits a &&& ~~~ BitVec.ofInt k.bits b).toNat))
  | .eql => some (.sb (a == b))
  | .neq => some (.sb (a != b))
  | .lss => some (.sb (decide (a < b)))
  | .leq => some (.sb (decide (a ≤ b)))
  | .gtr => some (.sb (decide (a > b)))
  | .geq => some (.sb (decide (a ≥ b)))
  | _ => none

def binSem (T : Tab) (op : BinOp) (t : TypeId) (d : Option Tmp) (x y : AV) : OpRes :=
  match x, y with
  | .int k a, .int k' b => match op with
    | .shl => .side (0 ≤ b) (dst d (.int k (k.wrap (a * 2 ^ (min b.toNat k.bits)))))
    | .shr => .side (0 ≤ b) (dst d (.int k (a.fdiv (2 ^ (min b.toNat k.bits)))))
    | .quo => match decide (k = k') with
      | true => .side (b ≠ 0) (dst d (.int k (k.wrap (a.tdiv b))))
      | false => .bad
    | .rem => match decide (k = k') with
      | true => .side (b ≠ 0) (dst d (.int k (a.tmod b)))
      | false => .bad
    | op => match decide (k = k'), intOp op k a b with
      | true, some v => .ok (dst d v)
      | _, _ => .bad
  | .agg as, .agg bs => match Tab.find T t with
    | some ti => match ti.plain, op, eqCells ti.plain as bs with
      | _ :: _, .eql, some r => .ok (dst d (.sb r))
      | _ :: _, .neq, some r => .ok (dst d (.sb (!r)))
      | _, _, _ => .bad
    | none => .bad
  | x, y => match boolOf x, boolOf y, Tab.find T t with
    | some a, some b, some ti => match ti.kind, op with
      | .bool, .eql => .ok (dst d (.sb (a == b)))
      | .bool, .neq => .ok (dst d (.sb (!(a == b))))
      | _, _ => .bad
    | _, _, _ => .bad

def unSem (op : UnOp) (d : Option Tmp) (x : AV) : OpRes := match op, x with
  | .not, .bool b => .ok (dst d (.bool (!b)))
  | .not, .sb b => .ok (dst d (.sb (!b)))
  | .neg, .int k n => .ok (dst d (.int k (k.wrap (0 - n))))
  | .xor, .int k n => .ok (dst d (.int k (k.wrap (BitVec.ofInt k.bits (if k.signed then -1 else k.max) ^^^ BitVec.ofInt k.bits n).toNat)))
  | _, _ => .bad

/-- The elements of a slice value, as they stand. -/
def elems (s : AS) : AV → Option (List (List AV))
  | .lst _ _ xs => some xs
  | .nilS => some []
  | .own t => match s (.tok t) with
    | .tok _ _ xs => some xs
    | _ => none
  | _ => none

def splice (cs : List AV) (off : Nat) (news : List AV) : List AV := cs.take off ++ (news ++ cs.drop (off + news.length))

/-- The place of a field: (offset, cells). -/
def fieldOf (t : TI) (f : Nat) : Option (Nat × Nat) := match t.kind with
  | .struct fs => fs[f]?
  | _ => none

/-- The parts of a struct laid over the zero value. -/
def fillStruct (t : TI) (cs : List AV) (s : AS) : List (Nat × Operand) → Option (List AV)
  | [] => some cs
  | (i, x) :: r => match fieldOf t i with
    | some (off, size) => match Nat.beq (s.val x).cells.length size && (solid (s.val x).cells && Nat.ble (off + size) cs.length) with
      | true => fillStruct t (splice cs off (s.val x).cells) s r
      | false => none
    | none => none

def fillRow (size : Nat) (xs : List (List AV)) (ks : List Nat) (s : AS) : List (Nat × Operand) → Option (List (List AV) × List Nat)
  | [] => some (xs, ks)
  | (i, x) :: r => match persistAll s (s.val x).cells with
    | some (cs, k) => match Nat.beq cs.length size with
      | true => match Nat.blt i xs.length with
        | true => fillRow size (xs.set i cs) (ks ++ k) s r
        | false => none
      | false => none
    | none => none

def litInt : AV → Option Int
  | .int _ n => some n
  | _ => none

end Go.Vc
