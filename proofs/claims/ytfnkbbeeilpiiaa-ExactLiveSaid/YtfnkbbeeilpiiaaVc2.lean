/- Vc, part 2: operations (opSem), and what it means that a concrete state is as an abstract one says. -/
import Derived.Test.YtfnkbbeeilpiiaaVc1
namespace Go.Vc

/-- An argument as the callee sees it: slices of the call's own become plain lists; which tokens that were. -/
def view0 (s : AS) : AV → Option (AV × List Nat)
  | .ptr _ _ => none
  | .fn f => some (.fn f, [])
  | v => persist s v

def viewAll (s : AS) : List AV → Option (List AV × List Nat)
  | [] => some ([], [])
  | c :: cs => match view0 s c with
    | some (d, ks) => match viewAll s cs with
      | some (ds, ks') => some (d :: ds, ks ++ ks')
      | none => none
    | none => none

def view (s : AS) : AV → Option (AV × List Nat)
  | .agg cs => match viewAll s cs with
    | some (ds, ks) => some (.agg ds, ks)
    | none => none
  | v => view0 s v

/-- The arguments of a call: pointers to boxes are numbered anew; the boxes' contents; the tokens that were seen (in arguments; in boxes). -/
def viewArgs (s : AS) : (n : Nat) → List AV → Option (List AV × List (Nat × List AV) × List Nat × List Nat)
  | _, [] => some ([], [], [], [])
  | n, .ptr id 0 :: r => match s (.box id) with
    | .box cs => match persistAll s cs with
      | some (ds, ks) => match viewArgs s (n + 1) r with
        | some (as, bs, ka, kb) => some (.ptr n 0 :: as, (id, ds) :: bs, ka, ks ++ kb)
        | none => none
      | none => none
    | _ => none
  | n, v :: r => match view s v with
    | some (d, ks) => match viewArgs s n r with
      | some (as, bs, ka, kb) => some (d :: as, bs, ks ++ ka, kb)
      | none => none
    | none => none

def nodup : List Nat → Bool
  | [] => true
  | a :: l => (!l.any (Nat.beq a)) && nodup l

/-- No slice and no pointer in it. -/
def flat0 : AV → Bool
  | .int _ _ | .bool _ | .sb _ | .fn _ | .nilS => true
  | _ => false

def flat1 : AV → Bool
  | .agg cs => cs.all flat0
  | v => flat0 v

def flat : AV → Bool
  | .tup vs => vs.all flat1
  | v => flat1 v

/-- A result as the caller holds it: pointers to boxes that came in get their elder numbers, one to a new box gets the number id. -/
def back0 (ids : List Nat) (id : Nat) : AV → AV
  | .ptr j o => match ids[j]? with
    | some i => .ptr i o
    | none => .ptr id o
  | v => v

def back1 (ids : List Nat) (id : Nat) : AV → AV
  | .agg cs => .agg (cs.map (back0 ids id))
  | v => back0 ids id v

def back (ids : List Nat) (id : Nat) : AV → AV
  | .tup vs => .tup (vs.map (back1 ids id))
  | v => back1 ids id v

/-- The boxes behind a call: those that came in, and at most one that is new. -/
def layBoxes (id : Nat) : List Nat → List (List AV) → Eff
  | i :: is, cs :: r => (.box i, .box cs) :: layBoxes id is r
  | [], [cs] => [(.box id, .box cs)]
  | _, _ => []

inductive CallRes where
  | bad
  | go (args : List AV) (ids : List Nat) (bx : List (List AV)) (ka kb : List Nat)

def callSem (s : AS) (args : List AV) : CallRes := match viewArgs s 0 args with
  | some (as, bs, ka, kb) => match nodup (bs.map (·.1)) with
    | true => .go as (bs.map (·.1)) (bs.map (·.2)) ka kb
    | false => .bad
  | none => .bad

/-- What a call does, given its result and the boxes behind it. -/
def callEff (id : Nat) (d : Option Tmp) (ids : List Nat) (ka kb : List Nat) (r : AV) (bx' : List (List AV)) : Eff :=
  match flat r && ids.isEmpty with
  | true => dst d r
  | false => dst d (back ids id r) ++ (layBoxes id ids bx' ++ kills (kb ++ ka))

/-- A cell that a box may hold behind a call. -/
def boxCell : AV → Bool
  | .int _ _ | .bool _ | .sb _ | .lst _ _ _ | .nilS | .nilp | .fn _ | .junk => true
  | _ => false

def retCell : AV → Bool
  | .ptr _ _ => true
  | v => boxCell v

def ret1 : AV → Bool
  | .agg cs => cs.all retCell
  | v => retCell v

def retFit : AV → Bool
  | .tup vs => vs.all ret1
  | v => ret1 v

def boxesFit (ids : List Nat) (r : AV) (bx' : List (List AV)) : Bool :=
  (Nat.beq bx'.length ids.length || Nat.beq bx'.length (ids.length + 1)) && (bx'.all (fun cs => cs.all boxCell) && retFit r)

/-- The elements of a slice, of this size. -/
def elemsSz (s : AS) (sz : Nat) : AV → Option (List (List AV))
  | .lst sz' _ xs => match Nat.beq sz' sz with
    | true => some xs
    | false => none
  | .nilS => some []
  | .own t => match s (.tok t) with
    | .tok _ sz' xs => match Nat.beq sz' sz with
      | true => some xs
      | false => none
    | _ => none
  | _ => none

def appendSem (s : AS) (T : Tab) (id : Nat) (d : Option Tmp) (t : TypeId) (x y : AV) : OpRes :=
  match Tab.find T t with
  | some ti => match ti.kind with
    | .slice e => match Tab.find T e with
      | some ei => match Nat.blt 0 ei.size, elemsSz s ei.size y with
        | true, some ys => match x with
          | .own k => match s (.tok k) with
            | .tok e' sz xs => match Nat.beq e' e && Nat.beq sz ei.size with
              | true => .side ((xs.length + ys.length) * ei.bytes ≤ 140737488355328 ∧ xs.length + ys.length ≤ 140737488355328)
                  (dst d (.own id) ++ [(.tok id, .tok e ei.size (xs ++ ys)), (.tok k, .none)])
              | false => .bad
            | _ => .bad
          | .nilS => .side (ys.length * ei.bytes ≤ 140737488355328 ∧ ys.length ≤ 140737488355328)
              (dst d (.own id) ++ [(.tok id, .tok e ei.size ys)])
          | .lst sz true xs => match Nat.beq sz ei.size with
            | true => .side (ys ≠ [] ∧ (xs.length + ys.length) * ei.bytes ≤ 140737488355328 ∧ xs.length + ys.length ≤ 140737488355328)
              (dst d (.own id) ++ [(.tok id, .tok e ei.size (xs ++ ys))])
            | false => .bad
          | _ => .bad
        | _, _ => .bad
      | none => .bad
    | _ => .bad
  | none => .bad

def builtinSem (s : AS) (T : Tab) (id : Nat) (d : Option Tmp) (b : Builtin) (ts : Array TypeId) (args : List AV) : OpRes :=
  match b with
  | .len => match args, ts.toList with
    | [x], [t] => match Tab.find T t, elems s x with
      | some ti, some xs => match ti.kind with
        | .slice _ => .ok (dst d (.int .i64 xs.length))
        | _ => .bad
      | _, _ => .bad
    | _, _ => .bad
  | .min => match args with
    | [.int k a, .int k' b] => match decide (k = k') with
      | true => .ok (dst d (.int k (if b < a then b else a)))
      | false => .bad
    | _ => .bad
  | .max => match args with
    | [.int k a, .int k' b] => match decide (k = k') with
      | true => .ok (dst d (.int k (if b > a then b else a)))
      | false => .bad
    | _ => .bad
  | .append => match args, ts.toList with
    | [x, y], [t, t'] => match Nat.beq t t' with
      | true => appendSem s T id d t x y
      | false => .bad
    | _, _ => .bad
  | _ => .bad

def sliceSem (s : AS) (id : Nat) (d : Option Tmp) (esz : Nat) (x : AV) (lo hi mx : Option AV) : OpRes :=
  match x with
  | .lst sz _ xs => match Nat.beq sz esz with
    | true => match lo, hi, mx with
      | none, some (.int _ h), none => .side (0 ≤ h ∧ h ≤ xs.length) (dst d (.lst sz false (xs.take h.toNat)))
      | some (.int _ l), none, none => .side (0 ≤ l ∧ l ≤ xs.length) (dst d (.lst sz false (xs.drop l.toNat)))
      | some (.int _ l), some (.int _ h), none => .side (0 ≤ l ∧ l ≤ h ∧ h ≤ xs.length) (dst d (.lst sz false ((xs.take h.toNat).drop l.toNat)))
      | none, some (.int _ h), some (.int _ m) => .side (0 ≤ h ∧ h = m ∧ h ≤ xs.length) (dst d (.lst sz true (xs.take h.toNat)))
      | _, _, _ => .bad
    | false => .bad
  | .own k => match s (.tok k) with
    | .tok e sz xs => match Nat.beq sz esz with
      | true => match lo, hi, mx with
        | none, some (.int _ h), none => .side (0 ≤ h ∧ h ≤ xs.length) (dst d (.own id) ++ [(.tok id, .tok e sz (xs.take h.toNat)), (.tok k, .none)])
        | some (.int _ l), none, none => .side (0 ≤ l ∧ l ≤ xs.length) (dst d (.own id) ++ [(.tok id, .tok e sz (xs.drop l.toNat)), (.tok k, .none)])
        | _, _, _ => .bad
      | false => .bad
    | _ => .bad
  | _ => .bad

/-- THE OPERATIONS. id: the number of whatever this operation makes. -/
def opSem (T : Tab) (id : Nat) (s : AS) (o : Oper) : OpRes :=
  match o.op with
  | .move x | .assign x => .ok (dst o.dst (s.val x))
  | .pick c a b => match s.val c with
    | .bool true => .ok (dst o.dst (s.val a))
    | .bool false => .ok (dst o.dst (s.val b))
    | _ => .bad
  | .alloc t => match Tab.find T t with
    | some ti => .ok (dst o.dst (.ptr id 0) ++ [(.box id, .box ti.zero)])
    | none => .bad
  | .box _ x => match solid (s.val x).cells with
    | true => .ok (dst o.dst (.ptr id 0) ++ [(.box id, .box (s.val x).cells)])
    | false => .bad
  | .build t ps => match Tab.find T t with
    | some ti => match ti.kind with
      | .struct _ => match fillStruct ti ti.zero s ps.toList with
        | some cs => .ok (dst o.dst (.agg cs))
        | none => .bad
      | _ => .bad
    | none => .bad
  | .buildSlice t n ps => match Tab.find T t with
    | some ti => match ti.kind with
      | .slice e => match Tab.find T e with
        | some ei => match fillRow ei.size (List.replicate n ei.zero) [] s ps.toList with
          | some (xs, ks) => match Nat.ble (n * ei.size) 16777216 && (Nat.blt 0 ei.size && solid ei.zero) with
            | true => .ok (dst o.dst (.own id) ++ ((.tok id, .tok e ei.size xs) :: kills ks))
            | false => .bad
          | none => .bad
        | none => .bad
      | _ => .bad
    | none => .bad
  | .load t x => match Tab.find T t with
    | some ti => match s.val x with
      | .ptr b off => match s (.box b) with
        | .box cs => match Nat.ble (off + ti.size) cs.length && Nat.blt 0 ti.size with
          | true => .ok (dst o.dst (ofCells ti ((cs.drop off).take ti.size)))
          | false => .bad
        | _ => .bad
      | .rp cs => match Nat.ble ti.size cs.length && Nat.blt 0 ti.size with
        | true => .ok (dst o.dst (ofCells ti (cs.take ti.size)))
        | false => .bad
      | .elt t i j => match s (.tok t) with
        | .tok _ sz xs => match Nat.ble (j + ti.size) sz && Nat.blt 0 ti.size with
          | true => .elem xs i fun c => dst o.dst (ofCells ti ((c.drop j).take ti.size))
          | false => .bad
        | _ => .bad
      | _ => .bad
    | none => .bad
  | .store t x y => match Tab.find T t with
    | some ti => match Nat.beq (s.val y).cells.length ti.size && solid (s.val y).cells with
      | true => match s.val x with
        | .ptr b off => match s (.box b) with
          | .box cs => match Nat.ble (off + ti.size) cs.length with
            | true => .ok (dst o.dst .junk ++ [(.box b, .box (splice cs off (s.val y).cells))])
            | false => .bad
          | _ => .bad
        | .elt t i j => match s (.tok t), persistAll s (s.val y).cells with
          | .tok e sz xs, some (ds, []) => match Nat.ble (j + ti.size) sz with
            | true => .elem xs i fun c => dst o.dst .junk ++ [(.tok t, .tok e sz (xs.set i (splice c j ds)))]
            | false => .bad
          | _, _ => .bad
        | _ => .bad
      | false => .bad
    | none => .bad
  | .nilCheck x => match s.val x with
    | .ptr i j => match s (.box i) with
      | .box _ => .ok (dst o.dst (.ptr i j))
      | _ => .bad
    | .rp cs => .ok (dst o.dst (.rp cs))
    | .fn f => .ok (dst o.dst (.fn f))
    | _ => .bad
  | .binOp op t x y _ => binSem T op t o.dst (s.val x) (s.val y)
  | .unOp op _ x => unSem op o.dst (s.val x)
  | .convert a b x => match s.val x, Tab.find T a, Tab.find T b with
    | .int _ n, some _, some ti => match ti.kind with
      | .int k => .ok (dst o.dst (.int k (k.wrap n)))
      | _ => .bad
    | _, _, _ => .bad
  | .makeSlice t l c => match Tab.find T t, s.val l, s.val c with
    | some ti, .int k n, .int _ m => match ti.kind with
      | .slice e => match Tab.find T e, persistAll (fun _ => .none) ((Tab.find T e).map (·.zero) |>.getD []) with
        | some ei, some (zs, []) => match Nat.blt 0 ei.size && Nat.beq zs.length ei.size && decide (k = .i64) with
          | true => .side (0 ≤ n ∧ n ≤ m ∧ m * ei.bytes ≤ 140737488355328 ∧ m ≤ 140737488355328)
              (dst o.dst (.own id) ++ [(.tok id, .tok e ei.size (List.replicate n.toNat zs))])
          | false => .bad
        | _, _ => .bad
      | _ => .bad
    | _, _, _ => .bad
  | .slice t x lo hi mx => match Tab.find T t with
    | some ti => match ti.kind with
      | .slice e => match Tab.find T e with
        | some ei => sliceSem s id o.dst ei.size (s.val x) (lo.map s.val) (hi.map s.val) (mx.map s.val)
        | none => .bad
      | _ => .bad
    | none => .bad
  | .fieldAddr t x f => match Tab.find T t with
    | some ti => match fieldOf ti f with
      | some (fo, sz) => match Nat.blt 0 sz, s.val x with
        | true, .ptr i j => match s (.box i) with
          | .box _ => .ok (dst o.dst (.ptr i (j + fo)))
          | _ => .bad
        | true, .rp cs => .ok (dst o.dst (.rp (cs.drop fo)))
        | true, .elt t i j => match s (.tok t) with
          | .tok _ _ _ => .ok (dst o.dst (.elt t i (j + fo)))
          | _ => .bad
        | _, _ => .bad
      | none => .bad
    | none => .bad
  | .indexAddr t x i => match Tab.find T t with
    | some ti => match ti.kind with
      | .slice e => match Tab.find T e, s.val x, s.val i with
        | some ei, .lst sz _ xs, .int _ n => match Nat.beq sz ei.size && Nat.blt 0 sz with
          | true => .elem xs n fun c => dst o.dst (.rp c)
          | false => .bad
        | some ei, .own t, .int _ n => match s (.tok t) with
          | .tok _ sz xs => match Nat.beq sz ei.size with
            | true => .side (0 ≤ n ∧ n < xs.length) (dst o.dst (.elt t n.toNat 0))
            | false => .bad
          | _ => .bad
        | _, _, _ => .bad
      | _ => .bad
    | none => .bad
  | .extract x i => match s.val x with
    | .tup vs => match vs[i]? with
      | some v => .ok (dst o.dst v)
      | none => .bad
    | _ => .bad
  | .call c => match c.callee with
    | .builtin b => builtinSem s T id o.dst b c.argTypes (c.args.toList.map s.val)
    | .value f => match s.val f with
      | .fn f => .call f (c.args.toList.map s.val) o.dst
      | _ => .bad
    | _ => .bad
  | _ => .bad

/-! ### The concrete side -/

/-- In the world w an abstract value that is persistent (its slices lie in blocks that `ok` lets, and whose cells read so). -/
inductive PR (w : World) (ok : Nat → Prop) : AV → Value → Prop
  | int (k : IntKind) (n : Int) : PR w ok (.int k n) (.int k n)
  | bool (b : Bool) : PR w ok (.bool b) (.bool b)
  | sb (b : Bool) : PR w ok (.sb b) (.bool b)
  | nilp : PR w ok .nilp (.pointer none)
  | nilS : PR w ok .nilS (.slice none 0 0)
  | lst (sz : Nat) (full : Bool) (xs : List (List AV)) (a : Option Addr) (cap : Nat) (u : Nat → Nat → Value)
      (hcap : xs.length ≤ cap) (hmax : cap ≤ maxLen) (hfull : full = true → cap = xs.length)
      (hsz : ∀ c ∈ xs, c.length = sz)
      (hnone : a = none → cap = 0)
      (hcell : ∀ (i j : Nat) (c : List AV) (x : AV), xs[i]? = some c → c[j]? = some x →
        ∀ ad, a = some ad → ad.spot = none ∧ ok ad.block ∧ w.cell? ⟨ad.block, ad.off + (i * sz + j), none⟩ = some (u i j))
      (hrec : ∀ (i j : Nat) (c : List AV) (x : AV), xs[i]? = some c → c[j]? = some x → PR w ok x (u i j)) :
      PR w ok (.lst sz full xs) (.slice a xs.length cap)

end Go.Vc
