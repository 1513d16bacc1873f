/- The framework, part a: values, operations, memory. -/
import Derived.Carry
import Derived.MapKept
import Derived.WalkKit
set_option linter.unusedVariables false
set_option linter.unusedSimpArgs false
namespace Go.Vc
theorem D8a:type_of% @Option.bind_some:=@Option.bind_some
theorem D8b:type_of% @Eq.symm:=@Eq.symm
theorem D8c:type_of% @decide_eq_true_eq:=@decide_eq_true_eq
theorem D8d:type_of% @cond_false:=@cond_false
theorem D8e:type_of% @cond_true:=@cond_true
theorem D8f:type_of% @decide_eq_true:=@decide_eq_true
theorem D8g:type_of% @List.length_append:=@List.length_append
theorem D8h:type_of% @decide_eq_false:=@decide_eq_false
theorem D8i:type_of% @Bool.and_eq_true:=@Bool.and_eq_true
theorem D8j:type_of% @Nat.eq_of_beq_eq_true:=@Nat.eq_of_beq_eq_true
theorem D8k:type_of% @List.getElem?_eq_some_iff:=@List.getElem?_eq_some_iff
theorem D8l:type_of% @Bool.or_eq_true:=@Bool.or_eq_true
theorem D8m:type_of% @Bool.not_true:=@Bool.not_true
theorem D8n:type_of% @Bool.not_false:=@Bool.not_false
theorem D8o:type_of% @List.getElem?_eq_getElem:=@List.getElem?_eq_getElem
theorem D8p:type_of% @List.mem_of_getElem?:=@List.mem_of_getElem?
theorem D8q:type_of% @Bool.eq_false_iff:=@Bool.eq_false_iff
theorem D8r:type_of% @decide_eq_false_iff_not:=@decide_eq_false_iff_not
theorem D8s:type_of% @Nat.lt_succ_self:=@Nat.lt_succ_self
theorem D8t:type_of% @List.length_cons:=@List.length_cons
theorem D8u:type_of% @List.getElem?_drop:=@List.getElem?_drop
theorem D8v:type_of% @Bool.eq_iff_iff:=@Bool.eq_iff_iff
theorem D8w:type_of% @Bool.not_eq_true':=@Bool.not_eq_true'
theorem D8x:type_of% @List.getElem?_take:=@List.getElem?_take
theorem D8y:type_of% @Nat.mul_le_mul_right:=@Nat.mul_le_mul_right
theorem D8z:type_of% @List.getElem?_append_left:=@List.getElem?_append_left
theorem D8A:type_of% @List.getElem?_append_right:=@List.getElem?_append_right
theorem D8B:type_of% @Bool.false_or:=@Bool.false_or
theorem D8C:type_of% @List.length_take:=@List.length_take
theorem D8D:type_of% @Int.lt_irrefl:=@Int.lt_irrefl
theorem D8E:type_of% @List.append_assoc:=@List.append_assoc
theorem D8F:type_of% @Bool.false_and:=@Bool.false_and
theorem D8G:type_of% @List.length_nil:=@List.length_nil
theorem D8H:type_of% @Nat.le_of_ble_eq_true:=@Nat.le_of_ble_eq_true
theorem D8I:type_of% @List.length_drop:=@List.length_drop
theorem D8J:type_of% @List.getElem?_map:=@List.getElem?_map
theorem D8K:type_of% @Bool.or_eq_false_iff:=@Bool.or_eq_false_iff
theorem D8L:type_of% @Bool.true_and:=@Bool.true_and
theorem D8M:type_of% @List.all_eq_true:=@List.all_eq_true
theorem D8N:type_of% @bne_self_eq_false:=@bne_self_eq_false
theorem D8O:type_of% @List.mem_flatMap:=@List.mem_flatMap
theorem D8P:type_of% @List.length_singleton:=@List.length_singleton
theorem D8Q:type_of% @Int.toNat_natCast:=@Int.toNat_natCast
theorem D8R:type_of% @Nat.add_sub_cancel:=@Nat.add_sub_cancel
theorem D8S:type_of% @Nat.le_refl:=@Nat.le_refl
theorem D8T:type_of% @Option.some.inj:=@Option.some.inj
theorem D8U:type_of% @Bool.true_or:=@Bool.true_or
theorem D8V:type_of% @List.eq_nil_of_length_eq_zero:=@List.eq_nil_of_length_eq_zero
theorem D8W:type_of% @List.mem_append:=@List.mem_append
theorem D8X:type_of% @List.length_map:=@List.length_map
theorem D8Y:type_of% @Array.getElem?_eq_some_iff:=@Array.getElem?_eq_some_iff
theorem D8Z:type_of% @List.getElem_mem:=@List.getElem_mem
theorem D80:type_of% @beq_eq_false_iff_ne:=@beq_eq_false_iff_ne
theorem D81:type_of% @Bool.and_eq_false_iff:=@Bool.and_eq_false_iff
theorem D82:type_of% @Option.some.injEq:=@Option.some.injEq
theorem D83:type_of% @List.map_cons:=@List.map_cons
theorem D84:type_of% @beq_iff_eq:=@beq_iff_eq
theorem D85:type_of% @Classical.byContradiction:=@Classical.byContradiction
theorem D86:type_of% @List.getD_eq_getElem?_getD:=@List.getD_eq_getElem?_getD
theorem D87:type_of% @List.getElem?_eq_none:=@List.getElem?_eq_none
theorem D88:type_of% @List.drop_drop:=@List.drop_drop
theorem D89:type_of% @List.map_append:=@List.map_append
theorem D9a:type_of% @List.length_set:=@List.length_set
theorem D9b:type_of% @List.length_replicate:=@List.length_replicate
inductive AV where
 |int (k:IntKind) (n:Int)
 |bool (b:Bool)
 |sb (b:Bool)
 |agg (cs:List AV)
 |tup (vs:List AV)
 |lst (sz:Nat) (full:Bool) (xs:List (List AV))
 |own (t:Nat)
 |ptr (id off:Nat)
 |rp (cs:List AV)
 |elt (t i j:Nat)
 |pix (id i:Nat)
 |fn (f:FuncId)
 |clo (f:FuncId) (bs cs:List AV)
 |bsl (b n:Nat)
 |ali (t:Nat)
 |vw (t i n:Nat)
 |mp (base:Int) (fs:List FuncId)
 |nilp
 |nilS
 |junk
 deriving Inhabited
inductive Loc where
 |tmp (n:Nat)
 |box (n:Nat)
 |tok (n:Nat)
def Loc.beq:Loc->Loc->Bool
 | .tmp a, .tmp b=>Nat.beq a b
 | .box a, .box b=>Nat.beq a b
 | .tok a, .tok b=>Nat.beq a b
 |_,_=>false
inductive P2 where
 |none
 |av (v:AV)
 |box (cs:List AV)
 |tok (e:TypeId) (sz:Nat) (xs:List (List AV))
abbrev St:=List (Loc×P2)
def St.get:St->Loc->P2
 | [],_=> .none
 |(l,c)::s,m=>match Loc.beq m l with
  |true=>c
  |false=>St.get s m
abbrev AS:=Loc->P2
abbrev U5:=List (Loc×P2)
def AS.put (s:AS) (l:Loc) (c:P2):AS:=fun m=>match Loc.beq m l with
 |true=>c
 |false=>s m
def AS.apply (s:AS):U5->AS
 | []=>s
 |(l,c)::e=>(AS.apply s e).put l c
inductive TK where
 |int (k:IntKind)
 |bool
 |struct (fs:List (Nat×Nat))
 |slice (e:TypeId)
 |pointer (e:TypeId)
 |array (n:Nat) (e:TypeId)
 |imap
 |other
structure TI where
 kind:TK
 size:Nat
 bytes:Nat
 zero:List AV
 plain:List Bool
 pz:List AV
def TI.agg (t:TI):Bool:=match t.kind with
 | .struct _| .array _ _=>true
 |_=>false
abbrev I4:=List (Nat×TI)
def I4.find:I4->Nat->Option TI
 | [],_=> .none
 |(n,t)::r,m=>match Nat.beq m n with
  |true=>some t
  |false=>I4.find r m
def A2C:List Value->Option (List AV)
 | []=>some []
 | .int k n::r=>match A2C r with
  |some l=>some (.int k n::l)
  |none=>none
 | .bool b::r=>match A2C r with
  |some l=>some (.bool b::l)
  |none=>none
 | .slice none 0 0::r=>match A2C r with
  |some l=>some (.nilS::l)
  |none=>none
 | .pointer none::r=>match A2C r with
  |some l=>some (.nilp::l)
  |none=>none
 |_::_=>none
def C2z:Value->AV
 | .int k n=> .int k n
 | .bool b=> .bool b
 | .slice none 0 0=> .nilS
 | .pointer none=> .nilp
 | .agg cs=>match A2C cs.toList with
  |some l=> .agg l
  |none=> .junk
 |_=> .junk
def AS.tmp (s:AS) (t:Tmp):AV:=match s (.tmp t) with
 | .av v=>v
 |_=> .junk
def AS.val (s:AS):Operand->AV
 | .tmp t=>s.tmp t
 | .const v=>C2z v
 | .global _=> .junk
 | .func f=> .fn f
def AV.cells:AV->List AV
 | .agg cs=>cs
 |v=> [v]
def A5N (t:TI) (cs:List AV):AV:=match t.agg with
 |true=> .agg cs
 |false=>match cs with
  | [c]=>c
  |_=> .junk
inductive B03 where
 |bad
 |ok (e:U5)
 |side (p:Prop) (e:U5)
 |elem (xs:List (List AV)) (i:Int) (f:List AV->U5)
 |call (f:FuncId) (args:List AV) (d:Option Tmp)
def dst (d:Option Tmp) (v:AV):U5:=match d with
 |some d=> [(.tmp d, .av v)]
 |none=> []
def T3:AV->Option Bool
 | .bool b=>some b
 | .sb b=>some b
 |_=>none
def A4R (s:AS):AV->Option (AV×List Nat)
 | .int k n=>some (.int k n, [])
 | .bool b=>some (.sb b, [])
 | .sb b=>some (.sb b, [])
 | .lst sz f xs=>some (.lst sz f xs, [])
 | .own t=>match s (.tok t) with
  | .tok _ sz xs=>some (.lst sz false xs, [t])
  |_=>none
 | .nilp=>some (.nilp, [])
 | .nilS=>some (.nilS, [])
 |_=>none
def Q5 (s:AS):List AV->Option (List AV×List Nat)
 | []=>some ([], [])
 |c::cs=>match A4R s c with
  |some (d,ks)=>match Q5 s cs with
   |some (ds,ks')=>some (d::ds,ks++ks')
   |none=>none
  |none=>none
def kills:List Nat->U5
 | []=> []
 |t::ts=>(.tok t, .none)::kills ts
def A2L:List AV->Bool
 | []=>true
 | .junk::_| .agg _::_| .tup _::_=>false
 |_::r=>A2L r
def O8:List Bool->List AV->List AV->Option Bool
 | [], [], []=>some true
 |true::ks, .int k a::as, .int k' b::bs=>match decide (k=k'),O8 ks as bs with
  |true,some r=>some (a==b&&r)
  |_,_=>none
 |false::ks,a::as,b::bs=>match T3 a,T3 b,O8 ks as bs with
  |some x,some y,some r=>some ((x==y)&&r)
  |_,_,_=>none
 |_,_,_=>none
def C4J (op:BinOp) (k:IntKind) (a b:Int):Option AV:=match op with
 | .add=>some (.int k (k.wrap (a+b)))
 | .sub=>some (.int k (k.wrap (a-b)))
 | .mul=>some (.int k (k.wrap (a*b)))
 | .and=>some (.int k (k.wrap (BitVec.ofInt k.bits a&&&BitVec.ofInt k.bits b).toNat))
 | .or=>some (.int k (k.wrap (BitVec.ofInt k.bits a|||BitVec.ofInt k.bits b).toNat))
 | .xor=>some (.int k (k.wrap (BitVec.ofInt k.bits a^^^BitVec.ofInt k.bits b).toNat))
 | .andNot=>some (.int k (k.wrap (BitVec.ofInt k.bits a&&& ~~~BitVec.ofInt k.bits b).toNat))
 | .eql=>some (.sb (a==b))
 | .neq=>some (.sb (a !=b))
 | .lss=>some (.sb (decide (a<b)))
 | .leq=>some (.sb (decide (a<=b)))
 | .gtr=>some (.sb (decide (a>b)))
 | .geq=>some (.sb (decide (a>=b)))
 |_=>none
def C45 (T:I4) (op:BinOp) (t:TypeId) (d:Option Tmp) (x y:AV):B03:=
 match x,y with
 | .int k a, .int k' b=>match op with
  | .shl=> .side (0<=b) (dst d (.int k (k.wrap (a*2^(min b.toNat k.bits)))))
  | .shr=> .side (0<=b) (dst d (.int k (a.fdiv (2^(min b.toNat k.bits)))))
  | .quo=>match decide (k=k') with
   |true=> .side (b≠0) (dst d (.int k (k.wrap (a.tdiv b))))
   |false=> .bad
  | .rem=>match decide (k=k') with
   |true=> .side (b≠0) (dst d (.int k (a.tmod b)))
   |false=> .bad
  |op=>match decide (k=k'),C4J op k a b with
   |true,some v=> .ok (dst d v)
   |_,_=> .bad
 | .agg as, .agg bs=>match I4.find T t with
  |some ti=>match ti.plain,op,O8 ti.plain as bs with
   |_::_, .eql,some r=> .ok (dst d (.sb r))
   |_::_, .neq,some r=> .ok (dst d (.sb (!r)))
   |_,_,_=> .bad
  |none=> .bad
 |x,y=>match T3 x,T3 y,I4.find T t with
  |some a,some b,some ti=>match ti.kind,op with
   | .bool, .eql=> .ok (dst d (.sb (a==b)))
   | .bool, .neq=> .ok (dst d (.sb (!(a==b))))
   |_,_=> .bad
  |_,_,_=> .bad
def C90 (op:UnOp) (d:Option Tmp) (x:AV):B03:=match op,x with
 | .not, .bool b=> .ok (dst d (.bool (!b)))
 | .not, .sb b=> .ok (dst d (.sb (!b)))
 | .neg, .int k n=> .ok (dst d (.int k (k.wrap (0-n))))
 | .xor, .int k n=> .ok (dst d (.int k (k.wrap (BitVec.ofInt k.bits (if k.signed then-1 else k.max)^^^BitVec.ofInt k.bits n).toNat)))
 |_,_=> .bad
def B6q (s:AS):AV->Option (List (List AV))
 | .lst _ _ xs=>some xs
 | .nilS=>some []
 | .own t=>match s (.tok t) with
  | .tok _ _ xs=>some xs
  |_=>none
 |_=>none
def P0 (xs:List (List AV)) (i:Nat) (zs:List (List AV)):List (List AV):=xs.take i++(zs++xs.drop (i+zs.length))
def S1 (cs:List AV) (off:Nat) (news:List AV):List AV:=cs.take off++(news++cs.drop (off+news.length))
def A5K (t:TI) (f:Nat):Option (Nat×Nat):=match t.kind with
 | .struct fs=>fs[f]?
 |_=>none
def A0A (t:TI) (cs:List AV) (s:AS):List (Nat×Operand)->Option (List AV)
 | []=>some cs
 |(i,x)::r=>match A5K t i with
  |some (off,size)=>match Nat.beq (s.val x).cells.length size&&(A2L (s.val x).cells&&Nat.ble (off+size) cs.length) with
   |true=>A0A t (S1 cs off (s.val x).cells) s r
   |false=>none
  |none=>none
def A3D (size:Nat) (xs:List (List AV)) (ks:List Nat) (s:AS):List (Nat×Operand)->Option (List (List AV)×List Nat)
 | []=>some (xs,ks)
 |(i,x)::r=>match Q5 s (s.val x).cells with
  |some (cs,k)=>match Nat.beq cs.length size with
   |true=>match Nat.blt i xs.length with
    |true=>A3D size (xs.set i cs) (ks++k) s r
    |false=>none
   |false=>none
  |none=>none
def B0O (k:IntKind) (n:Int) (i:Nat):Nat->List AV->Option (List AV)
 |_, []=>some []
 |j, .int k' a::r=>match decide (k=k'),B0O k n i (j+1) r with
  |true,some r' =>some (.int k (if i=j then n else a)::r')
  |_,_=>none
 |_,_::_=>none
def A5d:AV->Bool
 | .junk| .agg _| .tup _| .clo _ _ _=>false
 |_=>true
def C4Q (n:Nat):TI:=⟨.struct ((List.range n).map fun i=>(i,1)),n,0, [], [], []⟩
end Go.Vc
namespace Go.Vc
def C1f:AV->Bool
 | .int _ _| .bool _| .sb _| .fn _| .nilS=>true
 |_=>false
def C1g:AV->Bool
 | .agg cs=>cs.all C1f
 |v=>C1f v
def D2q:AV->Bool
 | .tup vs=>vs.all C1g
 |v=>C1g v
def A4H (s:AS) (sz:Nat):AV->Option (List (List AV))
 | .lst sz' _ xs=>match Nat.beq sz' sz with
  |true=>some xs
  |false=>none
 | .nilS=>some []
 | .own t=>match s (.tok t) with
  | .tok _ sz' xs=>match Nat.beq sz' sz with
   |true=>some xs
   |false=>none
  |_=>none
 | .vw t i n=>match s (.tok t) with
  | .tok _ sz' xs=>match Nat.beq sz' sz with
   |true=>some ((xs.drop i).take n)
   |false=>none
  |_=>none
 |_=>none
def A3I (s:AS) (T:I4) (id:Nat) (d:Option Tmp) (t:TypeId) (x y:AV):B03:=
 match I4.find T t with
 |some ti=>match ti.kind with
  | .slice e=>match I4.find T e with
   |some ei=>match Nat.blt 0 ei.size,A4H s ei.size y with
    |true,some ys=>match x with
     | .own k=>match s (.tok k) with
      | .tok e' sz xs=>match Nat.beq e' e&&Nat.beq sz ei.size with
       |true=> .side ((xs.length+ys.length)*ei.bytes<=140737488355328/\xs.length+ys.length<=140737488355328)
         (dst d (.own id)++ [(.tok id, .tok e ei.size (xs++ys)),(.tok k, .none)])
       |false=> .bad
      |_=> .bad
     | .nilS=> .side (ys.length*ei.bytes<=140737488355328/\ys.length<=140737488355328)
       (dst d (.own id)++ [(.tok id, .tok e ei.size ys)])
     | .lst sz true xs=>match Nat.beq sz ei.size with
      |true=> .side (ys≠ []/\(xs.length+ys.length)*ei.bytes<=140737488355328/\xs.length+ys.length<=140737488355328)
       (dst d (.own id)++ [(.tok id, .tok e ei.size (xs++ys))])
      |false=> .bad
     | .vw k i n=>match s (.tok k) with
      | .tok e' sz xs=>match Nat.beq i 0&&(Nat.beq e' e&&Nat.beq sz ei.size) with
       |true=> .side (0<n/\n+ys.length<=xs.length)
         (dst d (.own id)++ [(.tok id, .tok e ei.size (xs.take n++ys)),(.tok k, .none)])
       |false=> .bad
      |_=> .bad
     |_=> .bad
    |_,_=> .bad
   |none=> .bad
  |_=> .bad
 |none=> .bad
def C9y:List AV->AV
 | [v]=>v
 |_=> .junk
def A61 (s:AS) (T:I4) (id:Nat) (d:Option Tmp) (b:Builtin) (ts:Array TypeId) (args:List AV):B03:=
 match b with
 | .len=>match args,ts.toList with
  | [.bsl b n], [t]=>match s (.box b),I4.find T t with
   | .box _,some ti=>match ti.kind with
    | .slice _=> .ok (dst d (.int .i64 n))
    |_=> .bad
   |_,_=> .bad
  | [x], [t]=>match I4.find T t,B6q s x with
   |some ti,some xs=>match ti.kind with
    | .slice _=> .elem [[.int .i64 xs.length]] 0 fun c=>dst d (C9y c)
    |_=> .bad
   |_,_=> .bad
  |_,_=> .bad
 | .min=>match args with
  | [.int k a, .int k' b]=>match decide (k=k') with
   |true=> .ok (dst d (.int k (if b<a then b else a)))
   |false=> .bad
  |_=> .bad
 | .max=>match args with
  | [.int k a, .int k' b]=>match decide (k=k') with
   |true=> .ok (dst d (.int k (if b>a then b else a)))
   |false=> .bad
  |_=> .bad
 | .append=>match args,ts.toList with
  | [x,y], [t,t']=>match Nat.beq t t' with
   |true=>A3I s T id d t x y
   |false=> .bad
  |_,_=> .bad
 | .copy=>match args,ts.toList with
  | [.vw k i n, .lst sz' _ ys], [t,_]=>match s (.tok k),I4.find T t with
   | .tok e sz xs,some ti=>match ti.kind with
    | .slice e' =>match I4.find T e' with
     |some ei=>match Nat.beq sz 1&&(Nat.beq sz' 1&&Nat.beq ei.size 1) with
      |true=> .ok (dst d (.int .i64 ((ys.take n).length:Nat))++ [(.tok k, .tok e sz (P0 xs i (ys.take n)))])
      |false=> .bad
     |none=> .bad
    |_=> .bad
   |_,_=> .bad
  | [.own k,y], [t,_]=>match s (.tok k),I4.find T t with
   | .tok e sz xs,some ti=>match ti.kind with
    | .slice e' =>match I4.find T e' with
     |some ei=>match Nat.beq ei.size sz,A4H s sz y with
      |true,some ys=> .ok (dst d (.int .i64 ((ys.take xs.length).length:Nat))++ [(.tok k, .tok e sz (P0 xs 0 (ys.take xs.length)))])
      |_,_=> .bad
     |none=> .bad
    |_=> .bad
   |_,_=> .bad
  |_,_=> .bad
 | .clear=>match args,ts.toList with
  | [.vw k i n], [t]=>match s (.tok k),I4.find T t with
   | .tok e sz xs,some ti=>match ti.kind with
    | .slice e' =>match I4.find T e' with
     |some ei=>match ei.zero with
      | [.int kk z]=>match Nat.beq sz 1&&Nat.beq ei.size 1 with
       |true=> .ok (dst d (.tup [])++ [(.tok k, .tok e sz (P0 xs i (List.replicate n [.int kk z])))])
       |false=> .bad
      |_=> .bad
     |none=> .bad
    |_=> .bad
   |_,_=> .bad
  |_,_=> .bad
 |_=> .bad
def A80 (s:AS) (id:Nat) (d:Option Tmp) (esz:Nat) (x:AV) (lo hi mx:Option AV):B03:=
 match x with
 | .lst sz _ xs=>match Nat.beq sz esz with
  |true=>match lo,hi,mx with
   |none,some (.int _ h),none=> .side (0<=h/\h<=xs.length) (dst d (.lst sz false (xs.take h.toNat)))
   |some (.int _ l),none,none=> .side (0<=l/\l<=xs.length) (dst d (.lst sz false (xs.drop l.toNat)))
   |some (.int _ l),some (.int _ h),none=> .side (0<=l/\l<=h/\h<=xs.length) (dst d (.lst sz false ((xs.take h.toNat).drop l.toNat)))
   |none,some (.int _ h),some (.int _ m)=> .side (0<=h/\h=m/\h<=xs.length) (dst d (.lst sz true (xs.take h.toNat)))
   |_,_,_=> .bad
  |false=> .bad
 | .own k=>match s (.tok k) with
  | .tok e sz xs=>match Nat.beq sz esz with
   |true=>match lo,hi,mx with
    |none,some (.int _ h),none=> .side (0<=h/\h<=xs.length) (dst d (.own id)++ [(.tok id, .tok e sz (xs.take h.toNat)),(.tok k, .none)])
    |some (.int _ l),none,none=> .side (0<=l/\l<=xs.length) (dst d (.own id)++ [(.tok id, .tok e sz (xs.drop l.toNat)),(.tok k, .none)])
    |_,_,_=> .bad
   |false=> .bad
  |_=> .bad
 | .ali k=>match s (.tok k) with
  | .tok _ sz xs=>match Nat.beq sz esz with
   |true=>match lo,hi,mx with
    |none,some (.int _ h),none=> .side (0<=h/\h<=xs.length) (dst d (.vw k 0 h.toNat))
    |some (.int _ l),none,none=> .side (0<=l/\l<=xs.length) (dst d (.vw k l.toNat (xs.length-l.toNat)))
    |_,_,_=> .bad
   |false=> .bad
  |_=> .bad
 |_=> .bad
def B1F (T:I4) (id:Nat) (s:AS) (o:Oper):B03:=
 match o.op with
 | .move x| .assign x=> .ok (dst o.dst (s.val x))
 | .pick c a b=>match s.val c with
  | .bool true=> .ok (dst o.dst (s.val a))
  | .bool false=> .ok (dst o.dst (s.val b))
  |_=> .bad
 | .alloc t=>match I4.find T t with
  |some ti=> .ok (dst o.dst (.ptr id 0)++ [(.box id, .box ti.zero)])
  |none=> .bad
 | .box _ x=>match A2L (s.val x).cells with
  |true=> .ok (dst o.dst (.ptr id 0)++ [(.box id, .box (s.val x).cells)])
  |false=> .bad
 | .build t ps=>match I4.find T t with
  |some ti=>match ti.kind with
   | .struct _=>match A0A ti ti.zero s ps.toList with
    |some cs=> .ok (dst o.dst (.agg cs))
    |none=> .bad
   |_=> .bad
  |none=> .bad
 | .buildSlice t n ps=>match I4.find T t with
  |some ti=>match ti.kind with
   | .slice e=>match I4.find T e with
    |some ei=>match A3D ei.size (List.replicate n ei.zero) [] s ps.toList with
     |some (xs,ks)=>match Nat.ble (n*ei.size) 16777216&&(Nat.blt 0 ei.size&&A2L ei.zero) with
      |true=> .ok (dst o.dst (.own id)++((.tok id, .tok e ei.size xs)::kills ks))
      |false=> .bad
     |none=>match ei.zero with
      | [z]=>match A0A (C4Q n) (List.replicate n z) s ps.toList with
       |some cs=>match Nat.beq ei.size 1&&(Nat.ble n 16777216&&A2L ei.zero) with
        |true=> .ok (dst o.dst (.bsl id n)++ [(.box id, .box cs)])
        |false=> .bad
       |none=> .bad
      |_=> .bad
    |none=> .bad
   |_=> .bad
  |none=> .bad
 | .load t x=>match I4.find T t with
  |some ti=>match s.val x with
   | .ptr b off=>match s (.box b) with
    | .box cs=>match Nat.ble (off+ti.size) cs.length&&Nat.blt 0 ti.size with
     |true=> .ok (dst o.dst (A5N ti ((cs.drop off).take ti.size)))
     |false=> .bad
    |_=> .bad
   | .rp cs=>match Nat.ble ti.size cs.length&&Nat.blt 0 ti.size with
    |true=> .ok (dst o.dst (A5N ti (cs.take ti.size)))
    |false=> .bad
   | .elt t i j=>match s (.tok t) with
    | .tok _ sz xs=>match Nat.ble (j+ti.size) sz&&Nat.blt 0 ti.size with
     |true=> .elem xs i fun c=>dst o.dst (A5N ti ((c.drop j).take ti.size))
     |false=> .bad
    |_=> .bad
   | .pix b i=>match s (.box b) with
    | .box cs=>match Nat.beq ti.size 1 with
     |true=> .elem (cs.map fun c=> [c]) i fun c=>dst o.dst (A5N ti c)
     |false=> .bad
    |_=> .bad
   |_=> .bad
  |none=> .bad
 | .store t x y=>match I4.find T t with
  |some ti=>match Nat.beq (s.val y).cells.length ti.size&&A2L (s.val y).cells with
   |true=>match s.val x with
    | .ptr b off=>match s (.box b) with
     | .box cs=>match Nat.ble (off+ti.size) cs.length with
      |true=> .ok (dst o.dst .junk++ [(.box b, .box (S1 cs off (s.val y).cells))])
      |false=> .bad
     |_=> .bad
    | .elt t i j=>match s (.tok t),Q5 s (s.val y).cells with
     | .tok e sz xs,some (ds, [])=>match Nat.ble (j+ti.size) sz with
      |true=> .elem xs i fun c=>dst o.dst .junk++ [(.tok t, .tok e sz (xs.set i (S1 c j ds)))]
      |false=> .bad
     |_,_=> .bad
    | .pix b i=>match s (.box b),s.val y with
     | .box cs, .int k n=>match B0O k n i 0 cs with
      |some cs' => .side (i<cs.length) (dst o.dst .junk++ [(.box b, .box cs')])
      |none=> .bad
     |_,_=> .bad
    |_=> .bad
   |false=> .bad
  |none=> .bad
 | .nilCheck x=>match s.val x with
  | .ptr i j=>match s (.box i) with
   | .box _=> .ok (dst o.dst (.ptr i j))
   |_=> .bad
  | .elt t i j=>match s (.tok t) with
   | .tok _ _ _=> .ok (dst o.dst (.elt t i j))
   |_=> .bad
  | .rp cs=> .ok (dst o.dst (.rp cs))
  | .fn f=> .ok (dst o.dst (.fn f))
  |_=> .bad
 | .binOp op t x y _=>C45 T op t o.dst (s.val x) (s.val y)
 | .unOp op _ x=>C90 op o.dst (s.val x)
 | .convert a b x=>match s.val x,I4.find T a,I4.find T b with
  | .int _ n,some _,some ti=>match ti.kind with
   | .int k=> .ok (dst o.dst (.int k (k.wrap n)))
   |_=> .bad
  |_,_,_=> .bad
 | .makeSlice t l c=>match I4.find T t,s.val l,s.val c with
  |some ti, .int k n, .int _ m=>match ti.kind with
   | .slice e=>match I4.find T e,Q5 (fun _=> .none) ((I4.find T e).map (·.zero)|>.getD []) with
    |some ei,some (zs, [])=>match Nat.blt 0 ei.size&&Nat.beq zs.length ei.size&&decide (k= .i64) with
     |true=> .side (0<=n/\n<=m/\m*ei.bytes<=140737488355328/\m<=140737488355328)
       (dst o.dst (.own id)++ [(.tok id, .tok e ei.size (List.replicate n.toNat zs))])
     |false=> .bad
    |_,_=> .bad
   |_=> .bad
  |_,_,_=> .bad
 | .slice t x lo hi mx=>match I4.find T t with
  |some ti=>match ti.kind with
   | .slice e=>match I4.find T e with
    |some ei=>A80 s id o.dst ei.size (s.val x) (lo.map s.val) (hi.map s.val) (mx.map s.val)
    |none=> .bad
   |_=> .bad
  |none=> .bad
 | .fieldAddr t x f=>match I4.find T t with
  |some ti=>match A5K ti f with
   |some (fo,sz)=>match Nat.blt 0 sz,s.val x with
    |true, .ptr i j=>match s (.box i) with
     | .box _=> .ok (dst o.dst (.ptr i (j+fo)))
     |_=> .bad
    |true, .rp cs=> .ok (dst o.dst (.rp (cs.drop fo)))
    |true, .elt t i j=>match s (.tok t) with
     | .tok _ _ _=> .ok (dst o.dst (.elt t i (j+fo)))
     |_=> .bad
    |_,_=> .bad
   |none=> .bad
  |none=> .bad
 | .indexAddr t x i=>match I4.find T t with
  |some ti=>match ti.kind with
   | .slice e=>match I4.find T e,s.val x,s.val i with
    |some ei, .lst sz _ xs, .int _ n=>match Nat.beq sz ei.size&&Nat.blt 0 sz with
     |true=> .elem xs n fun c=>dst o.dst (.rp c)
     |false=> .bad
    |some ei, .own t, .int _ n=>match s (.tok t) with
     | .tok _ sz xs=>match Nat.beq sz ei.size with
      |true=> .side (0<=n/\n<xs.length) (dst o.dst (.elt t n.toNat 0))
      |false=> .bad
     |_=> .bad
    |some ei, .bsl b n', .int _ n=>match s (.box b) with
     | .box _=>match Nat.beq ei.size 1 with
      |true=> .side (0<=n/\n<n') (dst o.dst (.pix b n.toNat))
      |false=> .bad
     |_=> .bad
    |_,_,_=> .bad
   | .array len e=>match I4.find T e,s.val x,s.val i with
    |some ei, .ptr b 0, .int _ n=>match s (.box b) with
     | .box _=>match Nat.beq ei.size 1&&Nat.ble 2 len with
      |true=> .side (0<=n/\n<len) (dst o.dst (.pix b n.toNat))
      |false=> .bad
     |_=> .bad
    |_,_,_=> .bad
   |_=> .bad
  |none=> .bad
 | .makeFunc (.func f) first captured=>match (first.toList.map s.val++captured.toList.map s.val).all A5d with
  |true=>match first.toList,captured.toList with
   | [], []=> .ok (dst o.dst (.fn f))
   |_,_=> .ok (dst o.dst (.clo f (first.toList.map s.val) (captured.toList.map s.val)))
  |false=> .bad
 | .lookup t x k ok=>match ok,I4.find T t with
  |false,some ti=>match ti.kind,s.val x,s.val k with
   | .imap, .mp b fs, .int .i64 n=> .elem (fs.map fun f=> [.fn f]) (n-b) fun c=>dst o.dst (C9y c)
   |_,_,_=> .bad
  |_,_=> .bad
 | .extract x i=>match s.val x with
  | .tup vs=>match vs[i]? with
   |some v=> .ok (dst o.dst v)
   |none=> .bad
  |_=> .bad
 | .call c=>match c.callee with
  | .builtin b=>A61 s T id o.dst b c.argTypes (c.args.toList.map s.val)
  | .value f=>match s.val f with
   | .fn f=> .call f (c.args.toList.map s.val) o.dst
   | .clo f bs cs=>match (bs++cs).all A5d with
    |true=> .call f (bs++(c.args.toList.map s.val++cs)) o.dst
    |false=> .bad
   |_=> .bad
  |_=> .bad
 |_=> .bad
def A5u:List AV->List AV->List AV
 | .lst sz f []::p, .nilS::c=> .lst sz f []::A5u p c
 |_::p,v::c=>v::A5u p c
 |_,c=>c
def A5L (T:I4) (e:TypeId) (xs:List (List AV)):List (List AV):=match I4.find T e with
 |some ei=>match ei.pz with
  | []=>xs
  |p::ps=>xs.map (A5u (p::ps))
 |none=>xs
def A9C (T:I4):U5->U5
 | []=> []
 |(l,c)::r=>match l,c with
  | .tok t, .tok e sz xs=>(.tok t, .tok e sz (A5L T e xs))::A9C T r
  |l,c=>(l,c)::A9C T r
def D5K (T:I4):B03->B03
 | .ok e=> .ok (A9C T e)
 | .side p e=> .side p (A9C T e)
 | .elem xs i f=> .elem xs i f
 | .call f as d=> .call f as d
 | .bad=> .bad
def D6T:Op->Bool
 | .buildSlice _ _ _=>true
 | .makeSlice _ _ _=>true
 |_=>false
def B2R (T:I4) (id:Nat) (s:AS) (o:Oper):B03:=match D6T o.op with
 |true=>D5K T (B1F T id s o)
 |false=>B1F T id s o
inductive PR (w:World) (ok:Nat->Prop):AV->Value->Prop
 |int (k:IntKind) (n:Int):PR w ok (.int k n) (.int k n)
 |bool (b:Bool):PR w ok (.bool b) (.bool b)
 |sb (b:Bool):PR w ok (.sb b) (.bool b)
 |nilp:PR w ok .nilp (.pointer none)
 |nilS:PR w ok .nilS (.slice none 0 0)
 |lst (sz:Nat) (full:Bool) (xs:List (List AV)) (a:Option Addr) (cap:Nat) (u:Nat->Nat->Value)
   (hcap:xs.length<=cap) (hmax:cap<=maxLen) (hfull:full=true->cap=xs.length)
   (hsz: ∀c∈xs,c.length=sz)
   (hnone:a=none->cap=0)
   (hcell: ∀(i j:Nat) (c:List AV) (x:AV),xs[i]? =some c->c[j]? =some x->
    ∀ad,a=some ad->ad.spot=none/\ok ad.block/\w.cell? ⟨ad.block,ad.off+(i*sz+j),none⟩=some (u i j))
   (hrec: ∀(i j:Nat) (c:List AV) (x:AV),xs[i]? =some c->c[j]? =some x->PR w ok x (u i j)):
   PR w ok (.lst sz full xs) (.slice a xs.length cap)
end Go.Vc
namespace Go.Vc
open Go.RowKit
theorem PR.ext {w w' :World} {ok ok' :Nat->Prop} {x:AV} {v:Value} (h:PR w ok x v) (hok:∀b,ok b->ok' b)
  (hc:∀b off,ok b->w'.cell? ⟨b,off,none⟩=w.cell? ⟨b,off,none⟩):PR w' ok' x v:=by
 induction h with
 |int k n=>exact .int k n
 |bool b=>exact .bool b
 |sb b=>exact .sb b
 |nilp=>exact .nilp
 |nilS=>exact .nilS
 |lst sz full xs a cap u hcap hmax hfull hsz hnone hcell hrec ih=>
  refine .lst sz full xs a cap u hcap hmax hfull hsz hnone (fun i j c x hi hj ad ha=> ?_) ih;obtain ⟨h1,h2,h3⟩:=hcell i j c x hi hj ad ha;exact ⟨h1,hok _ h2,by rw [hc _ _ h2];exact h3⟩
theorem PR.oneCell {w:World} {ok:Nat->Prop} {x:AV} {v:Value} (h:PR w ok x v):v.oneCell' =true:=by
 cases h<;>rfl
structure G7 where
 s:AS
 β:Nat->Nat×Nat
 τ:Nat->Option (Nat×Nat×Nat)
 A:Nat->Prop
 ok:Nat->Prop
 w:World
def VRs (m:G7):AV->Value->Prop
 | .int k n,v=>v= .int k n
 | .bool b,v=>v= .bool b
 | .sb b,v=>v= .bool b
 | .lst sz f xs,v=>PR m.w m.ok (.lst sz f xs) v
 | .own t,v=>m.A t/\v.oneCell' =true/\ ∀e sz xs,m.s (.tok t)= .tok e sz xs->
   (m.τ t=none->v= .slice none 0 0)/\ ∀b o cap,m.τ t=some (b,o,cap)->v= .slice (some ⟨b,o,none⟩) xs.length cap
 | .ptr id off,v=>m.A id/\v.oneCell' =true/\((∃cs,m.s (.box id)= .box cs)->v= .pointer (some ⟨(m.β id).1,(m.β id).2+off,none⟩))
 | .pix id off,v=>m.A id/\v.oneCell' =true/\((∃cs,m.s (.box id)= .box cs)->v= .pointer (some ⟨(m.β id).1,(m.β id).2+off,none⟩))
 | .rp cs,v=> ∃ad:Addr,v= .pointer (some ad)/\ad.spot=none/\ ∀(j:Nat) (x:AV),cs[j]? =some x->
   m.ok ad.block/\ ∃u,m.w.cell? ⟨ad.block,ad.off+j,none⟩=some u/\PR m.w m.ok x u
 | .ali t,v=>m.A t/\v.oneCell' =true/\ ∀e sz xs,m.s (.tok t)= .tok e sz xs->
   (m.τ t=none->v= .slice none 0 0)/\ ∀b o cap,m.τ t=some (b,o,cap)->v= .slice (some ⟨b,o,none⟩) xs.length cap
 | .vw t i n,v=>m.A t/\v.oneCell' =true/\ ∀e sz xs,m.s (.tok t)= .tok e sz xs->i+n<=xs.length/\
   (m.τ t=none->v= .slice none 0 0)/\ ∀b o cap,m.τ t=some (b,o,cap)-> ∃o' cap',v= .slice (some ⟨b,o',none⟩) n cap' /\n<=cap' /\(0<n->o' =o+i*sz/\cap' =cap-i)
 | .elt t i j,v=>m.A t/\v.oneCell' =true/\ ∀e sz xs,m.s (.tok t)= .tok e sz xs->i<xs.length/\ ∀b o cap,m.τ t=some (b,o,cap)->
   v= .pointer (some ⟨b,o+(i*sz+j),none⟩)
 | .fn f,v=>v= .func (.func f) #[] #[]
 | .mp b fs,v=> ∃(k:Nat) (es:Array MapEntry) (clock:Nat),v= .map (some k)/\m.ok k/\m.w.heap[k]? =some (.map es clock)/\
   ∀(i:Nat) (f:FuncId),fs[i]? =some f-> ∃j,Instr.findNow (.int .i64) (.int .i64 (b+i)) es.toList 0=some (some (j, .func (.func f) #[] #[]))
 | .clo _ _ _,_=>False
 | .bsl id n,v=>m.A id/\v.oneCell' =true/\((∃cs,m.s (.box id)= .box cs)->v= .slice (some ⟨(m.β id).1,(m.β id).2,none⟩) n n)
 | .nilp,v=>v= .pointer none
 | .nilS,v=>v= .slice none 0 0
 | .junk,_=>True
 | .agg _,_=>False
 | .tup _,_=>False
def VRl (m:G7) (cs:List AV) (vs:Array Value):Prop:=vs.size=cs.length/\ ∀(j:Nat) (c:AV),cs[j]? =some c-> ∃u,vs[j]? =some u/\u.oneCell' =true/\VRs m c u
def J8 (m:G7):AV->Value->Prop
 | .clo f bs cs,v=> ∃vb vc,v= .func (.func f) vb vc/\VRl m bs vb/\VRl m cs vc
 |c,v=>VRs m c v
def VR1 (m:G7):AV->Value->Prop
 | .agg cs,v=> ∃vs:Array Value,v= .agg vs/\vs.size=cs.length/\
   ∀(j:Nat) (c:AV),cs[j]? =some c-> ∃u,vs[j]? =some u/\u.oneCell' =true/\J8 m c u
 |c,v=>J8 m c v
def VR (m:G7):AV->Value->Prop
 | .tup as,v=> ∃vs:Array Value,v= .tuple vs/\vs.size=as.length/\
   ∀(j:Nat) (c:AV),as[j]? =some c-> ∃u,vs[j]? =some u/\VR1 m c u
 |c,v=>VR1 m c v
structure W4 (m m' :G7):Prop where
 tok: ∀t e sz xs',m'.s (.tok t)= .tok e sz xs' ->m.A t->
  ∃xs,m.s (.tok t)= .tok e sz xs/\xs.length=xs'.length/\m'.τ t=m.τ t
 box: ∀id cs',m'.s (.box id)= .box cs' ->m.A id->(∃cs,m.s (.box id)= .box cs)/\m'.β id=m.β id
 A: ∀i,m.A i->m'.A i
 ok: ∀b,m.ok b->m'.ok b
 cell: ∀b off,m.ok b->m'.w.cell? ⟨b,off,none⟩=m.w.cell? ⟨b,off,none⟩
 map: ∀b es c,m.ok b->m.w.heap[b]? =some (.map es c)->m'.w.heap[b]? =some (.map es c)
theorem VRs.ext {m m' :G7} (h:W4 m m') {c:AV} {v:Value} (hv:VRs m c v):VRs m' c v:=by
 cases c<;>simp only [VRs] at hv⊢ <;>try exact hv
 case bsl id n=>
  refine ⟨h.A _ hv.1,hv.2.1,fun ⟨cs,hcs⟩=> ?_⟩;obtain ⟨h1,h2⟩:=h.box id cs hcs hv.1;rw [h2];exact hv.2.2 h1
 case lst sz f xs=>exact hv.ext h.ok h.cell
 case mp b fs=>
  obtain ⟨k,es,c,h1,h2,h3,h4⟩:=hv;exact ⟨k,es,c,h1,h.ok _ h2,h.map _ _ _ h2 h3,h4⟩
 case own t=>
  refine ⟨h.A _ hv.1,hv.2.1,fun e sz xs' hs=> ?_⟩;obtain ⟨xs,h1,h2,h3⟩:=h.tok t e sz xs' hs hv.1;obtain ⟨g1,g2⟩:=hv.2.2 e sz xs h1;rw [h3,<-h2];exact ⟨g1,g2⟩
 case ptr id off=>
  refine ⟨h.A _ hv.1,hv.2.1,fun ⟨cs,hcs⟩=> ?_⟩;obtain ⟨h1,h2⟩:=h.box id cs hcs hv.1;rw [h2];exact hv.2.2 h1
 case pix id off=>
  refine ⟨h.A _ hv.1,hv.2.1,fun ⟨cs,hcs⟩=> ?_⟩;obtain ⟨h1,h2⟩:=h.box id cs hcs hv.1;rw [h2];exact hv.2.2 h1
 case rp cs=>
  obtain ⟨ad,h1,h2,h3⟩:=hv;refine ⟨ad,h1,h2,fun j x hj=> ?_⟩;obtain ⟨g1,u,g2,g3⟩:=h3 j x hj;exact ⟨h.ok _ g1,u,by rw [h.cell _ _ g1];exact g2,g3.ext h.ok h.cell⟩
 case ali t=>
  refine ⟨h.A _ hv.1,hv.2.1,fun e sz xs' hs=> ?_⟩;obtain ⟨xs,h1,h2,h3⟩:=h.tok t e sz xs' hs hv.1;obtain ⟨g1,g2⟩:=hv.2.2 e sz xs h1;rw [h3,<-h2];exact ⟨g1,g2⟩
 case vw t i n=>
  refine ⟨h.A _ hv.1,hv.2.1,fun e sz xs' hs=> ?_⟩;obtain ⟨xs,h1,h2,h3⟩:=h.tok t e sz xs' hs hv.1;obtain ⟨g0,g1,g2⟩:=hv.2.2 e sz xs h1;rw [h3,<-h2];exact ⟨g0,g1,g2⟩
 case elt t i j=>
  refine ⟨h.A _ hv.1,hv.2.1,fun e sz xs' hs=> ?_⟩;obtain ⟨xs,h1,h2,h3⟩:=h.tok t e sz xs' hs hv.1;obtain ⟨g1,g2⟩:=hv.2.2 e sz xs h1;exact ⟨h2▸g1,fun b o cap hb=>g2 b o cap (h3▸hb)⟩
theorem VRl.ext {m m' :G7} (h:W4 m m') {cs:List AV} {vs:Array Value} (hv:VRl m cs vs):VRl m' cs vs:=
 ⟨hv.1,fun j c hj=>let ⟨u,g1,g2,g3⟩:=hv.2 j c hj;⟨u,g1,g2,g3.ext h⟩⟩
theorem J8.ext {m m' :G7} (h:W4 m m') {c:AV} {v:Value} (hv:J8 m c v):J8 m' c v:=by
 cases c<;>simp only [J8] at hv⊢ <;>try exact hv.ext h
 case clo f bs cs=>
  obtain ⟨vb,vc,h1,h2,h3⟩:=hv;exact ⟨vb,vc,h1,h2.ext h,h3.ext h⟩
theorem VR1.ext {m m' :G7} (h:W4 m m') {c:AV} {v:Value} (hv:VR1 m c v):VR1 m' c v:=by
 cases c<;>simp only [VR1] at hv⊢ <;>try exact J8.ext h hv
 case agg cs=>
  obtain ⟨vs,h1,h2,h3⟩:=hv;refine ⟨vs,h1,h2,fun j c hj=> ?_⟩;obtain ⟨u,g1,g2,g3⟩:=h3 j c hj;exact ⟨u,g1,g2,g3.ext h⟩
theorem VR.ext {m m' :G7} (h:W4 m m') {c:AV} {v:Value} (hv:VR m c v):VR m' c v:=by
 cases c<;>simp only [VR] at hv⊢ <;>try exact VR1.ext h hv
 case tup cs=>
  obtain ⟨vs,h1,h2,h3⟩:=hv;refine ⟨vs,h1,h2,fun j c hj=> ?_⟩;obtain ⟨u,g1,g3⟩:=h3 j c hj;exact ⟨u,g1,g3.ext h⟩
def C0V (p:Nat×Nat) (n:Nat) (q:Nat×Nat) (k:Nat):Prop:=p.1=q.1->p.2+n<=q.2\/q.2+k<=p.2
structure MR (m:G7):Prop where
 okLt: ∀b,m.ok b->b<m.w.heap.size
 box: ∀id cs,m.s (.box id)= .box cs->m.A id/\ ¬m.ok (m.β id).1/\ ∃cur e,m.w.heap[(m.β id).1]? =some (.cells cur e (0,0))/\(m.β id).2+cs.length<=cur.size/\
  ∀(j:Nat) (c:AV),cs[j]? =some c-> ∃u,cur[(m.β id).2+j]? =some u/\u.oneCell' =true/\J8 m c u
 tok: ∀t e sz xs,m.s (.tok t)= .tok e sz xs->m.A t/\0<sz/\(∀c∈xs,c.length=sz)/\(m.τ t=none->xs= [])/\
  ∀b o cap,m.τ t=some (b,o,cap)-> ¬m.ok b/\xs.length<=cap/\cap<=maxLen/\ ∃cur,m.w.heap[b]? =some (.cells cur e (0,0))/\o+cap*sz<=cur.size/\
   ∀(i j:Nat) (c:List AV) (x:AV),xs[i]? =some c->c[j]? =some x-> ∃u,cur[o+(i*sz+j)]? =some u/\PR m.w m.ok x u
 sepB: ∀i j ci cj,m.s (.box i)= .box ci->m.s (.box j)= .box cj->i≠j->C0V (m.β i) ci.length (m.β j) cj.length
 sepT: ∀i j ei ej si sj xi xj p q,m.s (.tok i)= .tok ei si xi->m.s (.tok j)= .tok ej sj xj->m.τ i=some p->m.τ j=some q->i≠j->p.1≠q.1
 sepM: ∀i j ci ej sj xj q,m.s (.box i)= .box ci->m.s (.tok j)= .tok ej sj xj->m.τ j=some q->(m.β i).1≠q.1
structure Fr where
 P:Program
 N:Nat
 w0:World
 ok0:Nat->Prop
 β0:Nat->Nat×Nat
 m:Nat
 n0:Nat->Nat:=fun _=>0
 tb:Nat->Prop:=fun _=>False
structure A8C (F:Fr) (w:World):Prop where
 os:w.os=F.w0.os
 tape:w.tape=F.w0.tape
 output:w.output=F.w0.output
 size:F.w0.heap.size<=w.heap.size
 block: ∀k,k<F.w0.heap.size->(∀j,j<F.m->0<F.n0 j->k≠(F.β0 j).1)-> ¬F.tb k->w.heap[k]? =F.w0.heap[k]?
 win: ∀k cur e,k<F.w0.heap.size-> ¬F.tb k->F.w0.heap[k]? =some (.cells cur e (0,0))-> ∃cur',w.heap[k]? =some (.cells cur' e (0,0))/\cur'.size=cur.size/\
  ∀o,(∀j,j<F.m->(F.β0 j).1=k-> ¬((F.β0 j).2<=o/\o<(F.β0 j).2+F.n0 j))->cur'[o]? =cur[o]?
 fz: ∀a:Addr,a.block<F.w0.heap.size->w.frozen? a=F.w0.frozen? a
structure M4 (F:Fr) (a:Act) (m:G7):Prop where
 mr:MR m
 defers:a.defers= []
 size:a.tmps.size=F.N
 env: ∀l v,m.s (.tmp l)= .av v->VR m v (a.tmps.getD l undef)
 keep:A8C F m.w
 par: ∀j,j<F.m->m.β j=F.β0 j
 parA: ∀j,j<F.m->m.A j
 newB: ∀id cs,m.s (.box id)= .box cs->F.m<=id->F.w0.heap.size<=(m.β id).1
 parL: ∀id cs,m.s (.box id)= .box cs->id<F.m->cs.length=F.n0 id
 newT: ∀t e sz xs p,m.s (.tok t)= .tok e sz xs->m.τ t=some p->F.w0.heap.size<=p.1\/F.tb p.1
 ok0: ∀b,F.ok0 b->m.ok b
 okNew: ∀b,m.ok b->F.ok0 b\/(F.w0.heap.size<=b\/F.tb b)
def T1 (F:Fr) (A:Nat->Prop) (s:AS) (a:Act) (w:World):Prop:= ∃β τ ok,M4 F a ⟨s,β,τ,A,ok,w⟩
theorem A2U (d:Nat):Nat.beq d d=true:=Nat.beq_refl d
theorem A9c {l d:Nat} (h:l≠d):Nat.beq l d=false:=by
 cases hb:Nat.beq l d
 ·rfl
 ·exact absurd (D8j hb) h
theorem A9M (s:AS) (d:Nat) (c:P2):(s.put (.tmp d) c) (.tmp d)=c:=by
 simp only [AS.put,Loc.beq,A2U]
theorem B6L (s:AS) (d l:Nat) (c:P2) (h:l≠d):(s.put (.tmp d) c) (.tmp l)=s (.tmp l):=by
 simp only [AS.put,Loc.beq,A9c h]
@[simp] theorem D6G (s:AS) (d i:Nat) (c:P2):(s.put (.tmp d) c) (.box i)=s (.box i):=rfl
@[simp] theorem D6H (s:AS) (d i:Nat) (c:P2):(s.put (.tmp d) c) (.tok i)=s (.tok i):=rfl
@[simp] theorem D6E (s:AS) (d i:Nat) (c:P2):(s.put (.box d) c) (.tmp i)=s (.tmp i):=rfl
@[simp] theorem D6F (s:AS) (d i:Nat) (c:P2):(s.put (.box d) c) (.tok i)=s (.tok i):=rfl
@[simp] theorem D6J (s:AS) (d i:Nat) (c:P2):(s.put (.tok d) c) (.tmp i)=s (.tmp i):=rfl
@[simp] theorem D6I (s:AS) (d i:Nat) (c:P2):(s.put (.tok d) c) (.box i)=s (.box i):=rfl
theorem A1H (s:AS) (d:Nat) (c:P2):(s.put (.box d) c) (.box d)=c:=by
 simp only [AS.put,Loc.beq,A2U]
theorem A0b (s:AS) (d l:Nat) (c:P2) (h:l≠d):(s.put (.box d) c) (.box l)=s (.box l):=by
 simp only [AS.put,Loc.beq,A9c h]
theorem W7 (s:AS) (d:Nat) (c:P2):(s.put (.tok d) c) (.tok d)=c:=by
 simp only [AS.put,Loc.beq,A2U]
theorem A0D (s:AS) (d l:Nat) (c:P2) (h:l≠d):(s.put (.tok d) c) (.tok l)=s (.tok l):=by
 simp only [AS.put,Loc.beq,A9c h]
theorem W4.tmp (m:G7) (d:Nat) (c:P2):W4 m { m with s:=m.s.put (.tmp d) c} where
 tok:=fun _ _ _ xs' h _=>⟨xs',h,rfl,rfl⟩
 box:=fun _ cs' h _=>⟨⟨cs',h⟩,rfl⟩
 A:=fun _ h=>h
 ok:=fun _ h=>h
 cell:=fun _ _ _=>rfl
 map:=fun _ _ _ _ h=>h
theorem MR.tmp {m:G7} (h:MR m) (d:Nat) (c:P2):MR { m with s:=m.s.put (.tmp d) c} where
 okLt:=h.okLt
 box:=fun id cs hs=>by
  obtain ⟨h1,h2,cur,e,h3,h4,h5⟩:=h.box id cs hs;exact ⟨h1,h2,cur,e,h3,h4,fun j c' hj=>let ⟨u,g1,g2,g3⟩:=h5 j c' hj;⟨u,g1,g2,g3.ext (W4.tmp m d c)⟩⟩
 tok:=h.tok
 sepB:=h.sepB
 sepT:=h.sepT
 sepM:=h.sepM
theorem M4.tmp {F:Fr} {a:Act} {m:G7} (h:M4 F a m) (d:Nat) (v:AV) (u:Value) (hd:d<F.N) (hv:VR m v u):
  M4 F (a.put (some d) u) { m with s:=m.s.put (.tmp d) (.av v)} where
 mr:=h.mr.tmp d _
 defers:=h.defers
 size:=by simp [Act.put,h.size]
 env:=fun l v' hl=>by
  dsimp only at hl
  by_cases hld:l=d
  ·subst hld;rw [A9M] at hl;cases hl;have:(a.put (some l) u).tmps.getD l undef=u:=by
    simp only [Act.put];rw [Array.getD_eq_getD_getElem?,Array.getElem?_setIfInBounds_self_of_lt (by rw [h.size];exact hd)]
    rfl
   rw [this];exact hv.ext (W4.tmp m l _)
  ·rw [B6L _ _ _ _ hld] at hl;have:(a.put (some d) u).tmps.getD l undef=a.tmps.getD l undef:=by
    simp only [Act.put];rw [Array.getD_eq_getD_getElem?,Array.getD_eq_getD_getElem?,Array.getElem?_setIfInBounds_ne (by omega)]
   rw [this];exact (h.env l v' hl).ext (W4.tmp m d _)
 keep:=h.keep
 par:=h.par
 parA:=h.parA
 newB:=h.newB
 parL:=h.parL
 newT:=h.newT
 ok0:=h.ok0
 okNew:=h.okNew
theorem M4.dst {F:Fr} {a:Act} {m:G7} (h:M4 F a m) (d:Option Nat) (v:AV) (u:Value) (hd:∀k,d=some k->k<F.N) (hv:VR m v u):
  M4 F (a.put d u) { m with s:=m.s.apply (dst d v)}:=by
 cases d with
 |none=>exact h
 |some k=>exact h.tmp k v u (hd k rfl) hv
theorem M4.mem {F:Fr} {a:Act} {m m' :G7} (h:M4 F a m) (hm:MR m') (he:W4 m m') (htmp:∀l,m'.s (.tmp l)=m.s (.tmp l))
  (hk:A8C F m'.w) (hp:∀j,j<F.m->m'.β j=m.β j)
  (hB:∀id cs,m'.s (.box id)= .box cs->F.m<=id->F.w0.heap.size<=(m'.β id).1)
  (hL:∀id cs,m'.s (.box id)= .box cs->id<F.m-> ∃cs',m.s (.box id)= .box cs' /\cs.length=cs'.length)
  (hT:∀t e sz xs p,m'.s (.tok t)= .tok e sz xs->m'.τ t=some p->F.w0.heap.size<=p.1\/F.tb p.1)
  (hok:∀b,m'.ok b->m.ok b\/(F.w0.heap.size<=b\/F.tb b)):M4 F a m' where
 mr:=hm
 defers:=h.defers
 size:=h.size
 env:=fun l v hl=>by rw [htmp] at hl;exact (h.env l v hl).ext he
 keep:=hk
 par:=fun j hj=>(hp j hj).trans (h.par j hj)
 parA:=fun j hj=>he.A _ (h.parA j hj)
 newB:=hB
 parL:=fun id cs h1 h2=>by obtain ⟨cs',h3,h4⟩:=hL id cs h1 h2;rw [h4];exact h.parL id cs' h3 h2
 newT:=hT
 ok0:=fun b hb=>he.ok _ (h.ok0 b hb)
 okNew:=fun b hb=>by
  rcases hok b hb with h1|h1
  ·exact h.okNew b h1
  ·exact .inr h1
end Go.Vc
namespace Go.Vc
open Go.RowKit
def L4 {α:Type} (f:Nat->α) (i:Nat) (x:α):Nat->α:=fun j=>if j=i then x else f j
theorem H3 {α:Type} (f:Nat->α) (i:Nat) (x:α):L4 f i x i=x:=by simp [L4]
theorem K1 {α:Type} (f:Nat->α) {i j:Nat} (x:α) (h:j≠i):L4 f i x j=f j:=by simp [L4,h]
theorem A5y (w:World) (g:Nat) (cs:Array Value) (a:Addr):(w.setRow g cs).frozen? a=w.frozen? a:=by
 simp only [World.frozen?,World.setRow,Array.getElem?_modify]
 by_cases h:g=a.block
 ·subst h;cases hb:w.heap[a.block]? with
  |none=>simp
  |some o=>cases o<;>simp
 ·simp [h]
theorem A8C.alloc {F:Fr} {w:World} (h:A8C F w) (c:Array Value) (t:TypeId):A8C F (w.alloc (.cells c t)) where
 fz:=fun a ha=>(frozen?_alloc_cells w c t a).trans (h.fz a ha)
 os:=h.os
 tape:=h.tape
 output:=h.output
 size:=by have:=h.size;simp;omega
 block:=fun k hk hj ht=>by
  have:=h.size;rw [Below.heap_alloc w _ k (by omega)]
  exact h.block k hk hj ht
 win:=fun k cur e hk ht hc=>by
  have:=h.size;rw [Below.heap_alloc w _ k (by omega)]
  exact h.win k cur e hk ht hc
theorem A8C.drew {F:Fr} {w:World} (h:A8C F w):A8C F w.drew:=⟨h.os,h.tape,h.output,h.size,h.block,h.win,h.fz⟩
theorem A8C.setRow {F:Fr} {w:World} (h:A8C F w) (g:Nat) (cur0 cs:Array Value) (e0:TypeId) (hcur:w.heap[g]? =some (.cells cur0 e0 (0,0))) (hsz:cs.size=cur0.size)
  (hg:(F.w0.heap.size<=g\/F.tb g)\/ ∃j,j<F.m/\g=(F.β0 j).1/\ ∀o,¬((F.β0 j).2<=o/\o<(F.β0 j).2+F.n0 j)->cs[o]? =cur0[o]?):A8C F (w.setRow g cs) where
 fz:=fun a ha=>(A5y w g cs a).trans (h.fz a ha)
 os:=h.os
 tape:=h.tape
 output:=h.output
 size:=by have:=h.size;simp;omega
 block:=fun k hk hj ht=>by
  by_cases hne:k=g
  ·subst hne;rcases hg with (hg|hg)|⟨j,h1,h2,h3⟩
   ·omega
   ·exact absurd hg ht
   ·rcases Nat.eq_zero_or_pos (F.n0 j) with h0|h0
    ·have:cs=cur0:=by
      apply Array.ext_getElem?;intro o;exact h3 o (by omega)
     rw [<-h.block k hk hj ht,hcur,setRow_heap _ _ _ _ _ _ hcur,this]
    ·exact absurd h2 (hj j h1 h0)
  ·rw [setRow_other w g k cs hne];exact h.block k hk hj ht
 win:=fun k cur e hk ht hc=>by
  obtain ⟨cur',h1,h2,h3⟩:=h.win k cur e hk ht hc
  by_cases hne:k=g
  ·subst hne;rw [hcur] at h1;cases h1;refine ⟨cs,setRow_heap _ _ _ _ _ _ hcur,hsz.trans h2,fun o ho=> ?_⟩;rw [<-h3 o ho];rcases hg with (hg|hg)|⟨j,g1,g2,g3⟩
   ·omega
   ·exact absurd hg ht
   ·exact g3 o (ho j g1 g2.symm)
  ·rw [setRow_other w g k cs hne];exact ⟨cur',h1,h2,h3⟩
def G7.newBox (m:G7) (id:Nat) (cs:List AV) (cur:Array Value) (e:TypeId):G7:=
 {s:=m.s.put (.box id) (.box cs),β:=L4 m.β id (m.w.heap.size,0),τ:=m.τ,A:=fun i=>m.A i\/i=id,ok:=m.ok,w:=m.w.alloc (.cells cur e)}
theorem C1e {m:G7} (hm:MR m) (id:Nat) (cs:List AV) (cur:Array Value) (e:TypeId) (hA:¬m.A id):W4 m (m.newBox id cs cur e) where
 tok:=fun _ _ _ xs' h _=>⟨xs',h,rfl,rfl⟩
 box:=fun i cs' h hi=>by
  have hne:i≠id:=by rintro rfl;exact hA hi
  have h' :(m.s.put (.box id) (.box cs)) (.box i)= .box cs' :=h;rw [A0b _ _ _ _ hne] at h';exact ⟨⟨cs',h'⟩,K1 _ _ hne⟩
 A:=fun _ h=> .inl h
 ok:=fun _ h=>h
 cell:=fun b off hb=>World.cell?_alloc_lt _ _ _ (hm.okLt b hb)
 map:=fun b _ _ hb h=>(Below.heap_alloc _ _ _ (hm.okLt b hb)).trans h
theorem D02 {m:G7} (hm:MR m) (id:Nat) (cs:List AV) (cur:Array Value) (e:TypeId) (hA:¬m.A id) (hsz:cur.size=cs.length)
  (hc:∀(j:Nat) (c:AV),cs[j]? =some c-> ∃u,cur[j]? =some u/\u.oneCell' =true/\J8 m c u):MR (m.newBox id cs cur e):=by
 have he:=C1e hm id cs cur e hA;have hbox: ∀i cs',(m.newBox id cs cur e).s (.box i)= .box cs' ->(i=id/\cs' =cs)\/(i≠id/\m.s (.box i)= .box cs'):=by
  intro i cs' h;have h' :(m.s.put (.box id) (.box cs)) (.box i)= .box cs' :=h
  by_cases hi:i=id
  ·subst hi;rw [A1H] at h';cases h';exact .inl ⟨rfl,rfl⟩
  ·rw [A0b _ _ _ _ hi] at h';exact .inr ⟨hi,h'⟩
 have hold: ∀i cs',m.s (.box i)= .box cs' ->(m.β i).1<m.w.heap.size:=fun i cs' h=>by
  obtain ⟨_,_,cur',e',h3,_⟩:=hm.box i cs' h;exact (D8Y.1 h3).1
 have holdT: ∀t e sz xs p,m.s (.tok t)= .tok e sz xs->m.τ t=some p->p.1<m.w.heap.size:=fun t e sz xs p h hp=>by
  obtain ⟨_,_,_,_,h5⟩:=hm.tok t e sz xs h;obtain ⟨b,o,cap⟩:=p;obtain ⟨_,_,_,cur',h3,_⟩:=h5 b o cap hp;exact (D8Y.1 h3).1
 refine ⟨fun b hb=> ?_,fun i cs' h=> ?_,fun t et sz xs h=> ?_,fun i j ci cj hi hj hne=> ?_,hm.sepT,fun i j ci ej sj xj q hi hj hq=> ?_⟩
 ·have:=hm.okLt b hb;show b<(m.w.alloc _).heap.size;simp;omega
 ·rcases hbox i cs' h with ⟨rfl,rfl⟩|⟨hne,h'⟩
  ·refine ⟨.inr rfl, ?_,cur,e, ?_, ?_,fun j c hj=> ?_⟩
   ·show¬m.ok (L4 m.β i (m.w.heap.size,0) i).1;rw [H3];intro hb;have:=hm.okLt _ hb;omega
   ·show (m.w.alloc _).heap[(L4 m.β i (m.w.heap.size,0) i).1]? =_;rw [H3];exact heap_alloc_new _ _
   ·show (L4 m.β i (m.w.heap.size,0) i).2+_<=_;rw [H3,hsz];show 0+_<=_;omega
   ·obtain ⟨u,g1,g2,g3⟩:=hc j c hj;refine ⟨u, ?_,g2,g3.ext he⟩;show cur[(L4 m.β i (m.w.heap.size,0) i).2+j]? =_;rw [H3];show cur[0+j]? =_;rw [Nat.zero_add];exact g1
  ·obtain ⟨h1,h2,cur',e',h3,h4,h5⟩:=hm.box i cs' h';have hb:L4 m.β id (m.w.heap.size,0) i=m.β i:=K1 _ _ hne;refine ⟨.inl h1, ?_,cur',e', ?_, ?_,fun j c hj=> ?_⟩
   ·show¬m.ok (L4 m.β id (m.w.heap.size,0) i).1;rw [hb];exact h2
   ·show (m.w.alloc _).heap[(L4 m.β id (m.w.heap.size,0) i).1]? =_;rw [hb,Below.heap_alloc _ _ _ (hold i cs' h')];exact h3
   ·show (L4 m.β id (m.w.heap.size,0) i).2+_<=_;rw [hb];exact h4
   ·obtain ⟨u,g1,g2,g3⟩:=h5 j c hj;refine ⟨u, ?_,g2,g3.ext he⟩;show cur'[(L4 m.β id (m.w.heap.size,0) i).2+j]? =_;rw [hb];exact g1
 ·obtain ⟨h1,h2,h3,h4,h5⟩:=hm.tok t et sz xs h;refine ⟨.inl h1,h2,h3,h4,fun b o cap hb=> ?_⟩;obtain ⟨g1,g2,g3,cur',g4,g5,g6⟩:=h5 b o cap hb;refine ⟨g1,g2,g3,cur', ?_,g5,fun i j c x hi hj=> ?_⟩
  ·show (m.w.alloc _).heap[b]? =_;rw [Below.heap_alloc _ _ _ (holdT t et sz xs _ h hb)];exact g4
  ·obtain ⟨u,q1,q2⟩:=g6 i j c x hi hj;exact ⟨u,q1,q2.ext he.ok he.cell⟩
 ·show C0V (L4 m.β id (m.w.heap.size,0) i) _ (L4 m.β id (m.w.heap.size,0) j) _;rcases hbox i ci hi with ⟨rfl,rfl⟩|⟨h1,h1'⟩<;>rcases hbox j cj hj with ⟨rfl,rfl⟩|⟨h2,h2'⟩
  ·exact absurd rfl hne
  ·rw [H3,K1 _ _ h2];have:=hold j cj h2';intro heq;dsimp only at heq;omega
  ·rw [H3,K1 _ _ h1];have:=hold i ci h1';intro heq;dsimp only at heq;omega
  ·rw [K1 _ _ h1,K1 _ _ h2];exact hm.sepB i j ci cj h1' h2' hne
 ·show (L4 m.β id (m.w.heap.size,0) i).1≠q.1;rcases hbox i ci hi with ⟨rfl,rfl⟩|⟨h1,h1'⟩
  ·rw [H3];have:=holdT j ej sj xj q hj hq;dsimp only;omega
  ·rw [K1 _ _ h1];exact hm.sepM i j ci ej sj xj q h1' hj hq
theorem M4.newBox {F:Fr} {a:Act} {m:G7} (h:M4 F a m) (id:Nat) (cs:List AV) (cur:Array Value) (e:TypeId) (hA:¬m.A id) (hsz:cur.size=cs.length)
  (hc:∀(j:Nat) (c:AV),cs[j]? =some c-> ∃u,cur[j]? =some u/\u.oneCell' =true/\J8 m c u):M4 F a (m.newBox id cs cur e):=by
 have he:=C1e h.mr id cs cur e hA;have hFm:F.m<=id:=by
  rcases Nat.lt_or_ge id F.m with h1|h1
  ·exact absurd (h.parA id h1) hA
  ·exact h1
 refine h.mem (D02 h.mr id cs cur e hA hsz hc) he (fun l=>rfl) (h.keep.alloc _ _) (fun j hj=>K1 _ _ (by omega)) (fun i cs' hi hm=> ?_) (fun i cs' hi hm=>⟨cs',by
  have h' :(m.s.put (.box id) (.box cs)) (.box i)= .box cs' :=hi
  rwa [A0b _ _ _ _ (by omega)] at h',rfl⟩) (fun t e' sz xs p ht hp=>h.newT t e' sz xs p ht hp) (fun b hb=> .inl hb)
 show F.w0.heap.size<=(L4 m.β id (m.w.heap.size,0) i).1
 by_cases hi' :i=id
 ·subst hi';rw [H3];exact h.keep.size
 ·rw [K1 _ _ hi'];exact h.newB i cs' (by
   have h' :(m.s.put (.box id) (.box cs)) (.box i)= .box cs' :=hi
   rwa [A0b _ _ _ _ hi'] at h') hm
def G7.setBox (m:G7) (b:Nat) (cs:List AV) (cur:Array Value):G7:=
 {m with s:=m.s.put (.box b) (.box cs),w:=m.w.setRow (m.β b).1 cur}
theorem B5Q (w:World) (g:Nat) (cs:Array Value) (b off:Nat) (h:b≠g):(w.setRow g cs).cell? ⟨b,off,none⟩=w.cell? ⟨b,off,none⟩:=
 World.cell?_of_block (w:=w) (a:=⟨b,off,none⟩) (setRow_other w g b cs h)
theorem C87 {m:G7} (hm:MR m) (b:Nat) (cs0 cs:List AV) (cur:Array Value) (hb:m.s (.box b)= .box cs0):W4 m (m.setBox b cs cur) where
 tok:=fun _ _ _ xs' h _=>⟨xs',h,rfl,rfl⟩
 box:=fun i cs' h _=>by
  by_cases hi:i=b
  ·subst hi;exact ⟨⟨cs0,hb⟩,rfl⟩
  ·have h' :(m.s.put (.box b) (.box cs)) (.box i)= .box cs' :=h;rw [A0b _ _ _ _ hi] at h';exact ⟨⟨cs',h'⟩,rfl⟩
 A:=fun _ h=>h
 ok:=fun _ h=>h
 cell:=fun k off hk=>B5Q _ _ _ _ _ (by rintro rfl;exact (hm.box b cs0 hb).2.1 hk)
 map:=fun k _ _ hk h=>(setRow_other _ _ _ _ (by rintro rfl;exact (hm.box b cs0 hb).2.1 hk)).trans h
theorem M4.setBox {F:Fr} {a:Act} {m:G7} (h:M4 F a m) (b:Nat) (cs0 cs:List AV) (cur0 cur:Array Value) (e0:TypeId) (hb:m.s (.box b)= .box cs0) (hlen:cs.length=cs0.length)
  (hcur0:m.w.heap[(m.β b).1]? =some (.cells cur0 e0 (0,0))) (hsz:cur.size=cur0.size) (hout:∀o,¬((m.β b).2<=o/\o<(m.β b).2+cs.length)->cur[o]? =cur0[o]?)
  (hc:∀(j:Nat) (c:AV),cs[j]? =some c-> ∃u,cur[(m.β b).2+j]? =some u/\u.oneCell' =true/\J8 m c u):M4 F a (m.setBox b cs cur):=by
 have hm:=h.mr;have he:=C87 hm b cs0 cs cur hb;obtain ⟨b1,b2,cur1,e1,b3,b4,b5⟩:=hm.box b cs0 hb;rw [hcur0] at b3;cases b3;have hbox: ∀i cs',(m.setBox b cs cur).s (.box i)= .box cs' ->(i=b/\cs' =cs)\/(i≠b/\m.s (.box i)= .box cs'):=by
  intro i cs' h;have h' :(m.s.put (.box b) (.box cs)) (.box i)= .box cs' :=h
  by_cases hi:i=b
  ·subst hi;rw [A1H] at h';cases h';exact .inl ⟨rfl,rfl⟩
  ·rw [A0b _ _ _ _ hi] at h';exact .inr ⟨hi,h'⟩
 have hlive: ∀i cs',(m.setBox b cs cur).s (.box i)= .box cs' -> ∃c,m.s (.box i)= .box c/\cs'.length=c.length:=fun i cs' h=>by
  rcases hbox i cs' h with ⟨rfl,rfl⟩|⟨_,h'⟩
  ·exact ⟨_,hb,hlen⟩
  ·exact ⟨_,h',rfl⟩
 refine h.mem ⟨fun k hk=> ?_,fun i cs' hi=> ?_,fun t et sz xs ht=> ?_,fun i j ci cj hi hj hne=> ?_,hm.sepT,fun i j ci ej sj xj q hi hj hq=> ?_⟩ he (fun l=>rfl)
  (h.keep.setRow _ cur0 _ e0 hcur0 hsz ?_) (fun _ _=>rfl) (fun i cs' hi hmi=> ?_) (fun i cs' hi _=>hlive i cs' hi) (fun t e' sz xs p ht hp=>h.newT t e' sz xs p ht hp) (fun k hk=> .inl hk)
 ·show k<(m.w.setRow _ _).heap.size;rw [size_setRow];exact hm.okLt k hk
 ·rcases hbox i cs' hi with ⟨rfl,rfl⟩|⟨hne,h'⟩
  ·refine ⟨b1,b2,cur,e0,setRow_heap _ _ _ _ _ _ hcur0,by rw [hsz,hlen];exact b4,fun j c hj=> ?_⟩
   obtain ⟨u,g1,g2,g3⟩:=hc j c hj;exact ⟨u,g1,g2,g3.ext he⟩
  ·obtain ⟨h1,h2,cur',e',h3,h4,h5⟩:=hm.box i cs' h'
   by_cases hsame:(m.β i).1=(m.β b).1
   ·rw [hsame,hcur0] at h3;cases h3;have hap:=hm.sepB i b cs' cs0 h' hb hne hsame;refine ⟨h1,h2,cur,e0, ?_,by rw [hsz];exact h4,fun j c hj=> ?_⟩
    ·show (m.w.setRow _ _).heap[(m.β i).1]? =_;rw [hsame];exact setRow_heap _ _ _ _ _ _ hcur0
    ·obtain ⟨u,g1,g2,g3⟩:=h5 j c hj;have hj' :j<cs'.length:=(D8k.1 hj).1;refine ⟨u, ?_,g2,g3.ext he⟩;show cur[(m.β i).2+j]? =_;rw [hout _ (by rw [hlen];omega)]
     exact g1
   ·refine ⟨h1,h2,cur',e', ?_,h4,fun j c hj=> ?_⟩
    ·show (m.w.setRow _ _).heap[(m.β i).1]? =_;rw [setRow_other _ _ _ _ hsame];exact h3
    ·obtain ⟨u,g1,g2,g3⟩:=h5 j c hj;exact ⟨u,g1,g2,g3.ext he⟩
 ·obtain ⟨h1,h2,h3,h4,h5⟩:=hm.tok t et sz xs ht;refine ⟨h1,h2,h3,h4,fun k o cap hk=> ?_⟩;obtain ⟨g1,g2,g3,cur',g4,g5,g6⟩:=h5 k o cap hk;refine ⟨g1,g2,g3,cur', ?_,g5,fun i j c x hi hj=> ?_⟩
  ·show (m.w.setRow _ _).heap[k]? =_;rw [setRow_other _ _ _ _ (fun e=>hm.sepM b t cs0 et sz xs _ hb ht hk e.symm)];exact g4
  ·obtain ⟨u,q1,q2⟩:=g6 i j c x hi hj;exact ⟨u,q1,q2.ext he.ok he.cell⟩
 ·obtain ⟨ci',hci,li⟩:=hlive i ci hi;obtain ⟨cj',hcj,lj⟩:=hlive j cj hj;rw [li,lj];exact hm.sepB i j ci' cj' hci hcj hne
 ·obtain ⟨ci',hci,_⟩:=hlive i ci hi;exact hm.sepM i j ci' ej sj xj q hci hj hq
 ·rcases Nat.lt_or_ge b F.m with h1|h1
  ·refine .inr ⟨b,h1,by rw [h.par b h1],fun o ho=>hout o ?_⟩
   rw [<-h.par b h1,<-h.parL b cs0 hb h1,<-hlen] at ho;exact ho
  ·exact .inl (.inl (h.newB b cs0 hb h1))
 ·obtain ⟨ci',hci,_⟩:=hlive i cs' hi;exact h.newB i ci' hci hmi
end Go.Vc
namespace Go.Vc
open Go.RowKit
def G7.dropTok (m:G7) (k:Nat):G7:= { m with s:=m.s.put (.tok k) .none}
theorem A2T {m:G7} {k t:Nat} {e sz xs} (h:(m.dropTok k).s (.tok t)= .tok e sz xs):t≠k/\m.s (.tok t)= .tok e sz xs:=by
 have h' :(m.s.put (.tok k) .none) (.tok t)= .tok e sz xs:=h
 by_cases ht:t=k
 ·subst ht;rw [W7] at h';cases h'
 ·rw [A0D _ _ _ _ ht] at h';exact ⟨ht,h'⟩
theorem A78 (m:G7) (k:Nat):W4 m (m.dropTok k) where
 tok:=fun _ _ _ xs' h _=>⟨xs',(A2T h).2,rfl,rfl⟩
 box:=fun _ cs' h _=>⟨⟨cs',h⟩,rfl⟩
 A:=fun _ h=>h
 ok:=fun _ h=>h
 cell:=fun _ _ _=>rfl
 map:=fun _ _ _ _ h=>h
theorem C9o {m:G7} (hm:MR m) (k:Nat):MR (m.dropTok k) where
 okLt:=hm.okLt
 box:=fun i cs h=>by
  obtain ⟨h1,h2,cur,e,h3,h4,h5⟩:=hm.box i cs h;exact ⟨h1,h2,cur,e,h3,h4,fun j c hj=>let ⟨u,g1,g2,g3⟩:=h5 j c hj;⟨u,g1,g2,g3.ext (A78 m k)⟩⟩
 tok:=fun t e sz xs h=>hm.tok t e sz xs (A2T h).2
 sepB:=hm.sepB
 sepT:=fun i j ei ej si sj xi xj p q hi hj hp hq hne=>hm.sepT i j ei ej si sj xi xj p q (A2T hi).2 (A2T hj).2 hp hq hne
 sepM:=fun i j ci ej sj xj q hi hj hq=>hm.sepM i j ci ej sj xj q hi (A2T hj).2 hq
theorem M4.dropTok {F:Fr} {a:Act} {m:G7} (h:M4 F a m) (k:Nat):M4 F a (m.dropTok k):=
 h.mem (C9o h.mr k) (A78 m k) (fun _=>rfl) h.keep (fun _ _=>rfl) h.newB (fun _ cs h _=>⟨cs,h,rfl⟩) (fun t e sz xs p ht hp=>h.newT t e sz xs p (A2T ht).2 hp) (fun _ hb=> .inl hb)
structure C4T (m:G7) (b:Nat):Prop where
 ok: ¬m.ok b
 box: ∀i cs,m.s (.box i)= .box cs->(m.β i).1≠b
 tok: ∀t e sz xs p,m.s (.tok t)= .tok e sz xs->m.τ t=some p->p.1≠b
def G7.claim (m:G7) (id:Nat) (p:Option (Nat×Nat×Nat)) (e sz:Nat) (xs:List (List AV)) (w':World):G7:=
 {s:=m.s.put (.tok id) (.tok e sz xs),β:=m.β,τ:=L4 m.τ id p,A:=fun i=>m.A i\/i=id,ok:=m.ok,w:=w' }
structure At (w w' :World) (b:Nat):Prop where
 size:w.heap.size<=w'.heap.size
 block: ∀k,k<w.heap.size->k≠b->w'.heap[k]? =w.heap[k]?
theorem At.refl (w:World) (b:Nat):At w w b:=⟨D8S _,fun _ _ _=>rfl⟩
theorem At.alloc (w:World) (o:Obj) (b:Nat):At w (w.alloc o) b:=⟨by simp,fun k hk _=>Below.heap_alloc _ _ _ hk⟩
theorem At.drewAlloc (w:World) (o:Obj) (b:Nat):At w (w.drew.alloc o) b:=⟨by simp,fun k hk _=>Below.heap_alloc w.drew _ _ hk⟩
theorem At.setRow (w:World) (b:Nat) (cs:Array Value):At w (w.setRow b cs) b:=⟨by simp,fun k _ hne=>setRow_other _ _ _ _ hne⟩
theorem At.cell {w w' :World} {b k off:Nat} (h:At w w' b) (hk:k<w.heap.size) (hne:k≠b):w'.cell? ⟨k,off,none⟩=w.cell? ⟨k,off,none⟩:=
 World.cell?_of_block (w:=w) (a:=⟨k,off,none⟩) (h.block k hk hne)
theorem A41 {m:G7} (hm:MR m) {i:Nat} {cs:List AV} (h:m.s (.box i)= .box cs):(m.β i).1<m.w.heap.size:=by
 obtain ⟨_,_,cur',e',h3,_⟩:=hm.box i cs h;exact (D8Y.1 h3).1
theorem A0V {m:G7} (hm:MR m) {t:Nat} {e sz xs p} (h:m.s (.tok t)= .tok e sz xs) (hp:m.τ t=some p):p.1<m.w.heap.size:=by
 obtain ⟨_,_,_,_,h5⟩:=hm.tok t e sz xs h;obtain ⟨b,o,cap⟩:=p;obtain ⟨_,_,_,cur',h3,_⟩:=h5 b o cap hp;exact (D8Y.1 h3).1
theorem A0i {m:G7} {id:Nat} {p e sz xs w' t et szt xt} (h:(m.claim id p e sz xs w').s (.tok t)= .tok et szt xt):
  (t=id/\et=e/\szt=sz/\xt=xs)\/(t≠id/\m.s (.tok t)= .tok et szt xt):=by
 have h' :(m.s.put (.tok id) (.tok e sz xs)) (.tok t)= .tok et szt xt:=h
 by_cases ht:t=id
 ·subst ht;rw [W7] at h';cases h';exact .inl ⟨rfl,rfl,rfl,rfl⟩
 ·rw [A0D _ _ _ _ ht] at h';exact .inr ⟨ht,h'⟩
theorem D0B {m:G7} (hm:MR m) {id:Nat} {p:Option (Nat×Nat×Nat)} {e sz:Nat} {xs:List (List AV)} {w' :World} {b:Nat} (hA:¬m.A id)
  (hat:At m.w w' b) (hf:¬m.ok b):W4 m (m.claim id p e sz xs w') where
 tok:=fun t e' sz' xs' h ht=>by
  rcases A0i h with ⟨rfl,_⟩|⟨hne,h'⟩
  ·exact absurd ht hA
  ·exact ⟨xs',h',rfl,K1 _ _ hne⟩
 box:=fun _ cs' h _=>⟨⟨cs',h⟩,rfl⟩
 A:=fun _ h=> .inl h
 ok:=fun _ h=>h
 cell:=fun k _ hk=>hat.cell (hm.okLt k hk) (by rintro rfl;exact hf hk)
 map:=fun k _ _ hk h=>(hat.2 k (hm.okLt k hk) (by rintro rfl;exact hf hk)).trans h
theorem M4.claim {F:Fr} {a:Act} {m:G7} (h:M4 F a m) (id b o cap e sz:Nat) (xs:List (List AV)) (w':World) (cur:Array Value) (hA:¬m.A id)
  (hat:At m.w w' b) (hf:C4T m b) (hk:A8C F w') (hbB:F.w0.heap.size<=b\/F.tb b)
  (hsz:0<sz) (hxs:∀c∈xs,c.length=sz) (hcap:xs.length<=cap) (hmax:cap<=maxLen) (hcur:w'.heap[b]? =some (.cells cur e (0,0))) (hfit:o+cap*sz<=cur.size)
  (hc:∀(i j:Nat) (c:List AV) (x:AV),xs[i]? =some c->c[j]? =some x-> ∃u,cur[o+(i*sz+j)]? =some u/\PR m.w m.ok x u):
  M4 F a (m.claim id (some (b,o,cap)) e sz xs w'):=by
 have hm:=h.mr;have he:=D0B (p:=some (b,o,cap)) (e:=e) (sz:=sz) (xs:=xs) hm hA hat hf.ok;refine h.mem ⟨fun k hk' => ?_,fun i cs' hi=> ?_,fun t et szt xt ht=> ?_,hm.sepB,fun i j ei ej si sj xi xj p q hi hj hp hq hne=> ?_,fun i j ci ej sj xj q hi hj hq=> ?_⟩ he (fun _=>rfl) hk
  (fun _ _=>rfl) h.newB (fun _ cs h _=>⟨cs,h,rfl⟩) (fun t et szt xt p ht hp=> ?_) (fun _ hb=> .inl hb)
 ·have:=hm.okLt k hk';have:=hat.size;show k<w'.heap.size;omega
 ·obtain ⟨h1,h2,cur',e',h3,h4,h5⟩:=hm.box i cs' hi;refine ⟨.inl h1,h2,cur',e', ?_,h4,fun j c hj=> ?_⟩
  ·exact (hat.block _ (A41 hm hi) (hf.box i cs' hi)).trans h3
  ·obtain ⟨u,g1,g2,g3⟩:=h5 j c hj;exact ⟨u,g1,g2,g3.ext he⟩
 ·rcases A0i ht with ⟨rfl,rfl,rfl,rfl⟩|⟨hne,h'⟩
  ·refine ⟨.inr rfl,hsz,hxs,fun hn=> ?_,fun b' o' cap' hb' => ?_⟩
   ·have hn' :L4 m.τ t (some (b,o,cap)) t=none:=hn;rw [H3] at hn';cases hn'
   ·have hb'' :L4 m.τ t (some (b,o,cap)) t=some (b',o',cap'):=hb';rw [H3] at hb'';cases hb'';refine ⟨hf.ok,hcap,hmax,cur,hcur,hfit,fun i j c x hi hj=> ?_⟩;obtain ⟨u,g1,g2⟩:=hc i j c x hi hj;exact ⟨u,g1,g2.ext he.ok he.cell⟩
  ·obtain ⟨h1,h2,h3,h4,h5⟩:=hm.tok t et szt xt h';have hτ:(m.claim id (some (b,o,cap)) e sz xs w').τ t=m.τ t:=K1 _ _ hne;refine ⟨.inl h1,h2,h3,fun hn=>h4 (hτ▸hn),fun b' o' cap' hb' => ?_⟩;rw [hτ] at hb';obtain ⟨g1,g2,g3,cur',g4,g5,g6⟩:=h5 b' o' cap' hb';refine ⟨g1,g2,g3,cur', ?_,g5,fun i j c x hi hj=> ?_⟩
   ·exact (hat.block _ (A0V hm h' hb') (hf.tok t et szt xt _ h' hb')).trans g4
   ·obtain ⟨u,q1,q2⟩:=g6 i j c x hi hj;exact ⟨u,q1,q2.ext he.ok he.cell⟩
 ·have hp' :L4 m.τ id (some (b,o,cap)) i=some p:=hp;have hq' :L4 m.τ id (some (b,o,cap)) j=some q:=hq;rcases A0i hi with ⟨rfl,rfl,rfl,rfl⟩|⟨h1,h1'⟩<;>rcases A0i hj with ⟨rfl,rfl,rfl,rfl⟩|⟨h2,h2'⟩
  ·exact absurd rfl hne
  ·rw [H3] at hp';rw [K1 _ _ h2] at hq';cases hp';exact fun e=>hf.tok j ej sj xj q h2' hq' e.symm
  ·rw [H3] at hq';rw [K1 _ _ h1] at hp';cases hq';exact hf.tok i ei si xi p h1' hp'
  ·rw [K1 _ _ h1] at hp';rw [K1 _ _ h2] at hq';exact hm.sepT i j ei ej si sj xi xj p q h1' h2' hp' hq' hne
 ·have hq' :L4 m.τ id (some (b,o,cap)) j=some q:=hq;rcases A0i hj with ⟨rfl,rfl,rfl,rfl⟩|⟨h2,h2'⟩
  ·rw [H3] at hq';cases hq';exact hf.box i ci hi
  ·rw [K1 _ _ h2] at hq';exact hm.sepM i j ci ej sj xj q hi h2' hq'
 ·have hp' :L4 m.τ id (some (b,o,cap)) t=some p:=hp;rcases A0i ht with ⟨rfl,rfl,rfl,rfl⟩|⟨h2,h2'⟩
  ·rw [H3] at hp';cases hp';exact hbB
  ·rw [K1 _ _ h2] at hp';exact h.newT t et szt xt p h2' hp'
theorem M4.claimNil {F:Fr} {a:Act} {m:G7} (h:M4 F a m) (id e sz:Nat) (hA:¬m.A id) (hsz:0<sz):
  M4 F a (m.claim id none e sz [] m.w):=by
 have hm:=h.mr;have he:W4 m (m.claim id none e sz [] m.w):=
  {tok:=fun t e' sz' xs' h ht=>by
    rcases A0i h with ⟨rfl,_⟩|⟨hne,h'⟩
    ·exact absurd ht hA
    ·exact ⟨xs',h',rfl,K1 _ _ hne⟩
   box:=fun _ cs' h _=>⟨⟨cs',h⟩,rfl⟩
   A:=fun _ h=> .inl h
   ok:=fun _ h=>h
   cell:=fun _ _ _=>rfl
   map:=fun _ _ _ _ h=>h}
 refine h.mem ⟨hm.okLt,fun i cs' hi=> ?_,fun t et szt xt ht=> ?_,hm.sepB,fun i j ei ej si sj xi xj p q hi hj hp hq hne=> ?_,fun i j ci ej sj xj q hi hj hq=> ?_⟩ he (fun _=>rfl) h.keep
  (fun _ _=>rfl) h.newB (fun _ cs h _=>⟨cs,h,rfl⟩) (fun t et szt xt p ht hp=> ?_) (fun _ hb=> .inl hb)
 ·obtain ⟨h1,h2,cur',e',h3,h4,h5⟩:=hm.box i cs' hi;refine ⟨.inl h1,h2,cur',e',h3,h4,fun j c hj=> ?_⟩;obtain ⟨u,g1,g2,g3⟩:=h5 j c hj;exact ⟨u,g1,g2,g3.ext he⟩
 ·rcases A0i ht with ⟨rfl,rfl,rfl,rfl⟩|⟨hne,h'⟩
  ·refine ⟨.inr rfl,hsz,by simp,fun _=>rfl,fun b' o' cap' hb' => ?_⟩
   have hb'' :L4 m.τ t none t=some (b',o',cap'):=hb';rw [H3] at hb'';cases hb''
  ·obtain ⟨h1,h2,h3,h4,h5⟩:=hm.tok t et szt xt h';have hτ:(m.claim id none e sz [] m.w).τ t=m.τ t:=K1 _ _ hne;exact ⟨.inl h1,h2,h3,fun hn=>h4 (hτ▸hn),fun b' o' cap' hb' =>h5 b' o' cap' (hτ▸hb')⟩
 ·have hp' :L4 m.τ id none i=some p:=hp;have hq' :L4 m.τ id none j=some q:=hq;rcases A0i hi with ⟨rfl,rfl,rfl,rfl⟩|⟨h1,h1'⟩
  ·rw [H3] at hp';cases hp'
  rcases A0i hj with ⟨rfl,rfl,rfl,rfl⟩|⟨h2,h2'⟩
  ·rw [H3] at hq';cases hq'
  rw [K1 _ _ h1] at hp';rw [K1 _ _ h2] at hq';exact hm.sepT i j ei ej si sj xi xj p q h1' h2' hp' hq' hne
 ·have hq' :L4 m.τ id none j=some q:=hq;rcases A0i hj with ⟨rfl,rfl,rfl,rfl⟩|⟨h2,h2'⟩
  ·rw [H3] at hq';cases hq'
  ·rw [K1 _ _ h2] at hq';exact hm.sepM i j ci ej sj xj q hi h2' hq'
 ·have hp' :L4 m.τ id none t=some p:=hp;rcases A0i ht with ⟨rfl,rfl,rfl,rfl⟩|⟨h2,h2'⟩
  ·rw [H3] at hp';cases hp'
  ·rw [K1 _ _ h2] at hp';exact h.newT t et szt xt p h2' hp'
theorem B2L {m:G7} (hm:MR m):C4T m m.w.heap.size where
 ok:=fun h=>by have:=hm.okLt _ h;omega
 box:=fun i cs h=>by have:=A41 hm h;omega
 tok:=fun t e sz xs p h hp=>by have:=A0V hm h hp;omega
theorem B1w {m:G7} (hm:MR m) {k e sz xs b o cap} (hk:m.s (.tok k)= .tok e sz xs) (hp:m.τ k=some (b,o,cap)):C4T (m.dropTok k) b where
 ok:=((hm.tok k e sz xs hk).2.2.2.2 b o cap hp).1
 box:=fun i cs h=>hm.sepM i k cs e sz xs (b,o,cap) h hk hp
 tok:=fun t et szt xt p h hpt=>hm.sepT t k et e szt sz xt xs p (b,o,cap) (A2T h).2 hk hpt hp (A2T h).1
def G7.openB (m:G7) (b:Nat):G7:= { m with ok:=fun k=>m.ok k\/k=b}
theorem B74 (m:G7) (b:Nat):W4 m (m.openB b) where
 tok:=fun _ _ _ xs' h _=>⟨xs',h,rfl,rfl⟩
 box:=fun _ cs' h _=>⟨⟨cs',h⟩,rfl⟩
 A:=fun _ h=>h
 ok:=fun _ h=> .inl h
 cell:=fun _ _ _=>rfl
 map:=fun _ _ _ _ h=>h
theorem M4.openB {F:Fr} {a:Act} {m:G7} (h:M4 F a m) (b:Nat) (hf:C4T m b) (hb:b<m.w.heap.size) (hB:F.w0.heap.size<=b\/F.tb b):M4 F a (m.openB b):=by
 have hm:=h.mr;have he:=B74 m b;refine h.mem ⟨fun k hk=> ?_,fun i cs' hi=> ?_,fun t et szt xt ht=> ?_,hm.sepB,hm.sepT,hm.sepM⟩ he (fun _=>rfl) h.keep (fun _ _=>rfl) h.newB (fun _ cs h _=>⟨cs,h,rfl⟩) h.newT (fun k hk=> ?_)
 ·rcases hk with hk|rfl
  ·exact hm.okLt k hk
  ·exact hb
 ·obtain ⟨h1,h2,cur',e',h3,h4,h5⟩:=hm.box i cs' hi;refine ⟨h1,fun hk=>hk.elim h2 (hf.box i cs' hi),cur',e',h3,h4,fun j c hj=> ?_⟩;obtain ⟨u,g1,g2,g3⟩:=h5 j c hj;exact ⟨u,g1,g2,g3.ext he⟩
 ·obtain ⟨h1,h2,h3,h4,h5⟩:=hm.tok t et szt xt ht;refine ⟨h1,h2,h3,h4,fun b' o' cap' hb' => ?_⟩;obtain ⟨g1,g2,g3,cur',g4,g5,g6⟩:=h5 b' o' cap' hb';refine ⟨fun hk=>hk.elim g1 (hf.tok t et szt xt _ ht hb'),g2,g3,cur',g4,g5,fun i j c x hi hj=> ?_⟩;obtain ⟨u,q1,q2⟩:=g6 i j c x hi hj;exact ⟨u,q1,q2.ext he.ok he.cell⟩
 ·rcases hk with hk|rfl
  ·exact .inl hk
  ·exact .inr hB
end Go.Vc
namespace Go.Vc
open Go.RowKit
def ZR:AV->Value->Prop
 | .int k n,v=>v= .int k n
 | .bool b,v=>v= .bool b
 | .nilS,v=>v= .slice none 0 0
 | .nilp,v=>v= .pointer none
 | .junk,_=>True
 |_,_=>False
def B7H (P:Program) (t:Nat):TK->Prop
 | .int k=>P.underlying t=some (.int k)
 | .bool=>P.underlying t=some .bool
 | .struct fs=> ∃flds:Array Field,P.underlying t=some (.struct flds)/\flds.toList.map (fun f=>(f.offset,P.cellsOf f.type))=fs/\ ∀f∈flds.toList,(P.info? f.type).isSome=true
 | .slice e=>P.underlying t=some (.slice e)
 | .pointer e=>P.underlying t=some (.pointer e)
 | .array n e=>P.underlying t=some (.array n e)
 | .imap=> ∃k e,P.underlying t=some (.map k e)/\P.underlying k=some (.int .i64)
 | .other=> ∃d,P.underlying t=some d/\(match d with| .struct _| .array _ _=>true|_=>false)=false
inductive EqT (P:Program):TypeId->List Bool->Nat->Prop
 |int (t:TypeId) (k:IntKind) (d:Nat):P.underlying t=some (.int k)->EqT P t [true] (d+1)
 |bool (t:TypeId) (d:Nat):P.underlying t=some .bool->EqT P t [false] (d+1)
 |struct (t:TypeId) (d:Nat) (kss:List (List Bool)) (hu:P.underlying t=some (.struct (P.fieldsOf t))) (hs:P.stoodInHeld t=false)
   (hl:kss.length=(P.fieldsOf t).toList.length)
   (hn: ∀(j:Nat) (f:Field) (ks:List Bool),(P.fieldsOf t).toList[j]? =some f->kss[j]? =some ks->
    f.name≠ "_" /\f.offset=(kss.take j).flatten.length/\(P.info? f.type).map (·.size)=some ks.length)
   (hf: ∀(j:Nat) (f:Field) (ks:List Bool),(P.fieldsOf t).toList[j]? =some f->kss[j]? =some ks->EqT P f.type ks d):
   EqT P t kss.flatten (d+1)
structure Q9 (P:Program) (t:Nat) (ti:TI):Prop where
 info: ∃i:TypeInfo,P.info? t=some i/\i.size=ti.size/\i.bytes=ti.bytes/\ ∃z,i.zero=some z/\z.cells.size=ti.size/\ti.zero.length=ti.size/\
  ∀(j:Nat) (c:AV),ti.zero[j]? =some c-> ∃u,z.cells[j]? =some u/\u.oneCell' =true/\ZR c u
 kind:B7H P t ti.kind
 plain:ti.plain≠ []->P.eqGuardType P.depth t=false/\ti.agg=true/\EqT P t ti.plain 100
def A0v (P:Program) (T:I4):Prop:= ∀t ti,I4.find T t=some ti->Q9 P t ti
section
variable {P:Program} {t:Nat} {ti:TI} (h:Q9 P t ti) (w:World)
include h
theorem Q9.size:(sizeOf t).run P w= .ok ti.size w:=by
 obtain ⟨i,h1,h2,_⟩:=h.info;simp [sizeOf,typeInfo,h1,h2]
theorem Q9.cellsOf:P.cellsOf t=ti.size:=by
 obtain ⟨i,h1,h2,_⟩:=h.info;simp [Program.cellsOf,h1,h2]
theorem Q9.isAgg:(isAgg t).run P w= .ok ti.agg w:=by
 have hk:=h.kind;unfold TI.agg;cases hki:ti.kind<;>rw [hki] at hk<;>simp only [B7H] at hk
 case struct fs=>obtain ⟨flds,hk,_⟩:=hk;simp [Go.isAgg,run_underlying hk]
 case imap=>obtain ⟨k,e,hk,_⟩:=hk;simp [Go.isAgg,run_underlying hk]
 case other=>
  obtain ⟨d,hk,hd⟩:=hk;simp only [Go.isAgg,Sem.run_bind,run_underlying hk,Result.andThen_ok];cases d<;>simp_all
 all_goals simp [Go.isAgg,run_underlying hk]
theorem Q9.zero: ∃z,(zeroValue t).run P w= .ok z w/\z.cells.size=ti.size/\ti.zero.length=ti.size/\
  ∀(j:Nat) (c:AV),ti.zero[j]? =some c-> ∃u,z.cells[j]? =some u/\u.oneCell' =true/\ZR c u:=by
 obtain ⟨i,h1,_,_,z,h4,h5⟩:=h.info;exact ⟨z,by simp [zeroValue,typeInfo,h1,h4],h5⟩
end
theorem ZR.vr {m:G7} {c:AV} {v:Value} (h:ZR c v):J8 m c v:=by
 unfold ZR at h;split at h<;>simp_all only [J8,VRs]
 all_goals exact absurd h id
theorem B7y (m:G7): ∀(cs:List Value) (l:List AV),A2C cs=some l->l.length=cs.length/\
  ∀(j:Nat) (c:AV),l[j]? =some c-> ∃u,cs[j]? =some u/\u.oneCell' =true/\J8 m c u
 | [],l,h=>by simp only [A2C,D82] at h;subst h;simp
 |v::r,l,h=>by
  have key: ∀(c:AV) (l' :List AV),A2C r=some l' ->l=c::l' ->v.oneCell' =true->J8 m c v->l.length=(v::r).length/\
    ∀(j:Nat) (c:AV),l[j]? =some c-> ∃u,(v::r)[j]? =some u/\u.oneCell' =true/\J8 m c u:=by
   intro c l' hl' hl h1 h2;obtain ⟨g1,g2⟩:=B7y m r l' hl';subst hl;refine ⟨by simp [g1],fun j c' hj=> ?_⟩
   cases j with
   |zero=>simp only [List.getElem?_cons_zero,D82] at hj;subst hj;exact ⟨v,rfl,h1,h2⟩
   |succ j=>simpa using g2 j c' (by simpa using hj)
  unfold A2C at h;split at h
  ·simp at*
  ·rename_i k n r' heq;cases heq;split at h
   ·rename_i l' hl';cases h;exact key _ l' hl' rfl rfl rfl
   ·cases h
  ·rename_i b r' heq;cases heq;split at h
   ·rename_i l' hl';cases h;exact key _ l' hl' rfl rfl rfl
   ·cases h
  ·rename_i r' heq;cases heq;split at h
   ·rename_i l' hl';cases h;exact key _ l' hl' rfl rfl rfl
   ·cases h
  ·rename_i r' heq;cases heq;split at h
   ·rename_i l' hl';cases h;exact key _ l' hl' rfl rfl rfl
   ·cases h
  ·cases h
theorem D3t (m:G7) (v:Value):VR m (C2z v) v:=by
 unfold C2z;split
 ·rfl
 ·rfl
 ·rfl
 ·rfl
 ·rename_i cs;split
  ·rename_i l hl;obtain ⟨h1,h2⟩:=B7y m _ _ hl;refine ⟨cs,rfl,by simpa using h1.symm,fun j c hj=> ?_⟩
   obtain ⟨u,g1,g2⟩:=h2 j c hj;exact ⟨u,by simpa using g1,g2⟩
  ·trivial
 ·trivial
theorem M4.val {F:Fr} {a:Act} {m:G7} (h:M4 F a m) (x:Operand):VR m (m.s.val x) (a.eval x):=by
 cases x with
 |tmp t=>
  show VR m (m.s.tmp t) (a.tmps.getD t undef);unfold AS.tmp;split
  ·rename_i v hv;exact h.env t v hv
  ·trivial
 |const v=>exact D3t m v
 |global g=>trivial
 |func f=>rfl
theorem C5l (m:G7) (A:Nat->Prop) (hA:∀i,m.A i->A i):W4 m { m with A:=A}:=
 ⟨fun _ _ _ xs' h _=>⟨xs',h,rfl,rfl⟩,fun _ cs' h _=>⟨⟨cs',h⟩,rfl⟩,hA,fun _ h=>h,fun _ _ _=>rfl,fun _ _ _ _ h=>h⟩
theorem M4.mono {F:Fr} {a:Act} {m:G7} (h:M4 F a m) (A:Nat->Prop) (hA:∀i,m.A i->A i):M4 F a { m with A:=A}:=by
 have he:=C5l m A hA;have hm:=h.mr;refine h.mem ⟨hm.okLt,fun i cs hi=> ?_,fun t e sz xs ht=> ?_,hm.sepB,hm.sepT,hm.sepM⟩ he (fun _=>rfl) h.keep (fun _ _=>rfl) h.newB (fun _ cs h _=>⟨cs,h,rfl⟩) h.newT (fun _ hb=> .inl hb)
 ·obtain ⟨h1,h2,cur,e,h3,h4,h5⟩:=hm.box i cs hi;exact ⟨hA _ h1,h2,cur,e,h3,h4,fun j c hj=>let ⟨u,g1,g2,g3⟩:=h5 j c hj;⟨u,g1,g2,g3.ext he⟩⟩
 ·obtain ⟨h1,h2⟩:=hm.tok t e sz xs ht;exact ⟨hA _ h1,h2⟩
def OpOk (F:Fr) (A:Nat->Prop) (id:Nat) (o:Oper) (s:AS) (e:U5):Prop:=
 ∀a w,T1 F A s a w-> ¬A id-> ∀(next:Act->World->Prop) (Q:Exit->Act->World->Prop),
  (∀a' w',T1 F (fun i=>A i\/i=id) (s.apply e) a' w' ->next a' w')->o.wp F.P a w next Q
theorem A5h {F:Fr} {A:Nat->Prop} {id:Nat} {o:Oper} {s:AS} {e:U5}
  (h:∀a m,M4 F a m->m.s=s->m.A=A-> ¬A id-> ∃v w',(execOp a.eval o).run F.P m.w= .ok (.value v) w' /\T1 F (fun i=>A i\/i=id) (s.apply e) (a.put o.dst v) w'):
  OpOk F A id o s e:=by
 rintro a w ⟨β,τ,ok,hx⟩ hA next Q hn
 obtain ⟨v,w',h1,h2⟩:=h a _ hx rfl rfl hA;simp only [Oper.wp,h1,Oper.upon_value];exact hn _ _ h2
theorem L2 {F:Fr} {A:Nat->Prop} {id:Nat} {o:Oper} {s:AS} {x:AV} (hd:∀k,o.dst=some k->k<F.N)
  (h:∀a m,M4 F a m->m.s=s-> ∃v,(execOp a.eval o).run F.P m.w= .ok (.value v) m.w/\VR m x v):OpOk F A id o s (dst o.dst x):=
 A5h fun a m hx hs hA _=>by
  obtain ⟨v,h1,h2⟩:=h a m hx hs;subst hs hA;have h3:=(hx.mono (fun i=>m.A i\/i=id) (fun _ h=>Or.inl h)).dst o.dst x v hd (h2.ext (C5l m _ (fun _ h=>Or.inl h)));exact ⟨v,m.w,h1,_,_,_,h3⟩
theorem D29 (P:Program) (a:Act) (o:Oper) (w:World) (x:Operand) (ho:o.op= .move x\/o.op= .assign x):(execOp a.eval o).run P w= .ok (.value (a.eval x)) w:=by
 rcases ho with ho|ho<;>simp only [execOp,ho]<;>rfl
theorem C8n {F:Fr} {A:Nat->Prop} {id:Nat} {o:Oper} {s:AS} (hd:∀k,o.dst=some k->k<F.N) (x:Operand) (ho:o.op= .move x\/o.op= .assign x):
  OpOk F A id o s (dst o.dst (s.val x)):=
 L2 hd fun a _ hx hs=>⟨a.eval x,D29 _ _ _ _ x ho,hs▸hx.val x⟩
theorem C8o {F:Fr} {A:Nat->Prop} {id:Nat} {o:Oper} {s:AS} (hd:∀k,o.dst=some k->k<F.N) (c x y:Operand) (ho:o.op= .pick c x y) (b:Bool) (hb:s.val c= .bool b):
  OpOk F A id o s (dst o.dst (s.val (bif b then x else y))):=
 L2 hd fun a m hx hs=>by
  have hc:=hx.val c;rw [hs,hb] at hc;have hc' :a.eval c= .bool b:=hc;refine ⟨a.eval (bif b then x else y), ?_,hs▸hx.val _⟩
  simp only [execOp,ho,hc',asBool,Sem.run_bind,Sem.run_pure,Result.andThen_ok];cases b<;>rfl
theorem B7Q {m:G7} {x:AV} {v:Value} {b:Bool} (h:T3 x=some b) (hv:VR m x v):v= .bool b:=by
 cases x<;>simp only [T3,D82] at h<;>first|(subst h;exact hv)|cases h
theorem C7A (P:Program) (w:World) (op:BinOp) (t:TypeId) (x y:Operand) (k:IntKind) (a b:Int) (v:AV) (hv:C4J op k a b=some v) (m:G7):
  ∃u,((do eqGuard op t x y (.int k a) (.int k b);binOp op t (.int k a) (.int k b):Sem Value)).run P w= .ok u w/\VR m v u:=by
 cases op<;>simp only [C4J,D82] at hv<;>cases hv
 all_goals
  refine ⟨_,by first|(simp [eqGuard,binOp,Op.intArith,Op.intCmp];rfl)|(simp [eqGuard,binOp];rfl), ?_⟩
  rfl
theorem D1e {F:Fr} {A:Nat->Prop} {id:Nat} {o:Oper} {s:AS} (hd:∀k,o.dst=some k->k<F.N) (op:BinOp) (t:TypeId) (x y:Operand) (t':TypeId) (ho:o.op= .binOp op t x y t')
  (k:IntKind) (p q:Int) (hx:s.val x= .int k p) (hy:s.val y= .int k q) (v:AV) (hv:C4J op k p q=some v):OpOk F A id o s (dst o.dst v):=
 L2 hd fun a m h hs=>by
  have h1:=h.val x;have h2:=h.val y;rw [hs,hx] at h1;rw [hs,hy] at h2;have h1' :a.eval x= .int k p:=h1;have h2' :a.eval y= .int k q:=h2;obtain ⟨u,h3,h4⟩:=C7A F.P m.w op t x y k p q v hv m;refine ⟨u, ?_,h4⟩;simp only [execOp,ho,h1',h2'];simp only [Sem.run_bind] at h3⊢;rw [h3]
  rfl
theorem D1c {F:Fr} {A:Nat->Prop} {id:Nat} {o:Oper} {s:AS} (hd:∀k,o.dst=some k->k<F.N) (op:BinOp) (t:TypeId) (x y:Operand) (t':TypeId) (ho:o.op= .binOp op t x y t')
  (k:IntKind) (p q:Int) (hx:s.val x= .int k p) (hy:s.val y= .int k q) (hq:q≠0) (hop:op= .quo\/op= .rem):
  OpOk F A id o s (dst o.dst (.int k (match op with| .quo=>k.wrap (p.tdiv q)|_=>p.tmod q))):=
 L2 hd fun a m h hs=>by
  have h1:=h.val x;have h2:=h.val y;rw [hs,hx] at h1;rw [hs,hy] at h2;have h1' :a.eval x= .int k p:=h1;have h2' :a.eval y= .int k q:=h2;rcases hop with rfl|rfl<;>exact ⟨_,by simp [execOp,ho,h1',h2',eqGuard,binOp,Op.intDiv,hq],rfl⟩
theorem C5T {F:Fr} {A:Nat->Prop} {id:Nat} {o:Oper} {s:AS} (hd:∀k,o.dst=some k->k<F.N) (op:BinOp) (t:TypeId) (x y:Operand) (t':TypeId) (ho:o.op= .binOp op t x y t')
  (k k':IntKind) (p q:Int) (hx:s.val x= .int k p) (hy:s.val y= .int k' q) (hq:0<=q) (hop:op= .shl\/op= .shr):
  OpOk F A id o s (dst o.dst (.int k (match op with| .shl=>k.wrap (p*2^(min q.toNat k.bits))|_=>p.fdiv (2^(min q.toNat k.bits))))):=
 L2 hd fun a m h hs=>by
  have h1:=h.val x;have h2:=h.val y;rw [hs,hx] at h1;rw [hs,hy] at h2;have h1' :a.eval x= .int k p:=h1;have h2' :a.eval y= .int k' q:=h2;have hn: ¬q<0:=by omega
  rcases hop with rfl|rfl
  ·exact ⟨_,by simp only [execOp,ho,h1',h2',eqGuard,binOp,Op.shift,hn,if_false,Sem.run_bind];rfl,rfl⟩
  ·exact ⟨_,by simp only [execOp,ho,h1',h2',eqGuard,binOp,Op.shift,hn,if_false,Sem.run_bind];rfl,rfl⟩
theorem C4O {F:Fr} {A:Nat->Prop} {id:Nat} {o:Oper} {s:AS} (hd:∀k,o.dst=some k->k<F.N) (op:UnOp) (t:TypeId) (x:Operand) (ho:o.op= .unOp op t x)
  (v:AV) (hv':∀(m:G7) (u:Value),VR m (s.val x) u-> ∃r,∀(P:Program) (w:World),(Op.unary op u).run P w= .ok r w/\VR m v r):
  OpOk F A id o s (dst o.dst v):=
 L2 hd fun a m h hs=>by
  obtain ⟨r,hr⟩:=hv' m (a.eval x) (hs▸h.val x);refine ⟨r, ?_,(hr F.P m.w).2⟩;simp only [execOp,ho,Sem.run_bind,(hr F.P m.w).1]
  rfl
theorem C9v {F:Fr} {A:Nat->Prop} {id:Nat} {o:Oper} {s:AS} (hd:∀k,o.dst=some k->k<F.N) (t t':TypeId) (x:Operand) (ho:o.op= .convert t t' x)
  (k k':IntKind) (n:Int) (hx:s.val x= .int k' n) (d:TypeDesc) (ht:F.P.underlying t=some d) (ht':F.P.underlying t' =some (.int k)):
  OpOk F A id o s (dst o.dst (.int k (k.wrap n))):=
 L2 hd fun a m h hs=>by
  have h1:=h.val x;rw [hs,hx] at h1;have h1' :a.eval x= .int k' n:=h1;refine ⟨.int k (k.wrap n), ?_,rfl⟩;simp only [execOp,ho,h1',convert,Sem.run_bind,run_underlying ht,run_underlying ht',Result.andThen_ok,Conv.intToInt];cases d<;>rfl
theorem C9w {F:Fr} {A:Nat->Prop} {id:Nat} {o:Oper} {s:AS} (hd:∀k,o.dst=some k->k<F.N) (x:Operand) (i:Nat) (ho:o.op= .extract x i)
  (vs:List AV) (hx:s.val x= .tup vs) (v:AV) (hv:vs[i]? =some v):OpOk F A id o s (dst o.dst v):=
 L2 hd fun a m h hs=>by
  have h1:=h.val x;rw [hs,hx] at h1;obtain ⟨us,h2,_,h4⟩:=h1;obtain ⟨u,h5,h6⟩:=h4 i v hv;refine ⟨u, ?_, ?_⟩
  ·simp only [execOp,ho,h2,Instr.extract,h5,Sem.run_bind];rfl
  ·cases v<;>first|exact h6|exact (show False from h6).elim
theorem D1g {F:Fr} {A:Nat->Prop} {id:Nat} {o:Oper} {s:AS} (hd:∀k,o.dst=some k->k<F.N) (t:TypeId) (x k:Operand) (ho:o.op= .lookup t x k false)
  (ht:∃kt e,F.P.underlying t=some (.map kt e)/\F.P.underlying kt=some (.int .i64)) (b:Int) (fs:List FuncId) (hx:s.val x= .mp b fs) (n:Int) (hn:s.val k= .int .i64 n)
  (c:List AV) (h0:0<=n-b) (hc:(fs.map fun f=> [AV.fn f])[(n-b).toNat]? =some c):OpOk F A id o s (dst o.dst (C9y c)):=by
 obtain ⟨f,hf,rfl⟩: ∃f,fs[(n-b).toNat]? =some f/\c= [.fn f]:=by
  rw [D8J] at hc;cases hq:fs[(n-b).toNat]? with
  |none=>rw [hq] at hc;cases hc
  |some f=>rw [hq] at hc;exact ⟨f,rfl,(D8T hc).symm⟩
 refine L2 hd fun a m h hs=> ?_;have hv:=h.val x;rw [hs,hx] at hv;obtain ⟨kk,es,clock,e1,e2,e3,e4⟩:=hv;have hk:=h.val k;rw [hs,hn] at hk;have hk:a.eval k= .int .i64 n:=hk;obtain ⟨j,e5⟩:=e4 _ _ hf;rw [show b+((n-b).toNat:Int)=n by omega] at e5
 obtain ⟨kt,e,h1,h2⟩:=ht;refine ⟨.func (.func f) #[] #[], ?_,rfl⟩;simp [execOp,ho,e1,hk,Instr.lookup,run_underlying h1,MapKept.run_getObj_map e3,MapKept.run_checkKey h2 (show MapKept.IsKey (.int .i64) (.int .i64 n) from rfl),MapKept.run_findKey h2 e5,Result.andThen]
end Go.Vc
namespace Go.Vc
open Go.RowKit
theorem B5d (ks:List Bool) (k k':IntKind) (a b:Int) (as bs:List AV) (r:Bool) (h:O8 (true::ks) (.int k a::as) (.int k' b::bs)=some r):
  k=k' /\ ∃r',O8 ks as bs=some r' /\r=(a==b&&r'):=by
 simp only [O8] at h;split at h
 ·rename_i r' h1 h2;cases h;exact ⟨by simpa using h1,r',h2,rfl⟩
 ·cases h
theorem B3F (ks:List Bool) (a b:AV) (as bs:List AV) (r:Bool) (h:O8 (false::ks) (a::as) (b::bs)=some r):
  ∃x y r',T3 a=some x/\T3 b=some y/\O8 ks as bs=some r' /\r=((x==y)&&r'):=by
 simp only [O8] at h;split at h
 ·rename_i x y r' h1 h2 h3;cases h;exact ⟨x,y,r',h1,h2,h3,rfl⟩
 ·cases h
theorem A8r (k:Bool) (ks:List Bool) (as bs:List AV) (r:Bool) (h:O8 (k::ks) as bs=some r):
  ∃a as' b bs',as=a::as' /\bs=b::bs' /\((k=true/\ ∃κ p κ' q,a= .int κ p/\b= .int κ' q)\/k=false):=by
 cases k with
 |true=>
  cases as with
  |nil=>simp [O8] at h
  |cons a as=>
   cases bs with
   |nil=>cases a<;>simp [O8] at h
   |cons b bs=>
    refine ⟨a,as,b,bs,rfl,rfl, .inl ⟨rfl, ?_⟩⟩;cases a<;>cases b<;>first|exact ⟨_,_,_,_,rfl,rfl⟩|(simp [O8] at h)
 |false=>
  cases as with
  |nil=>simp [O8] at h
  |cons a as=>
   cases bs with
   |nil=>simp [O8] at h
   |cons b bs=>exact ⟨a,as,b,bs,rfl,rfl, .inr rfl⟩
theorem B06 (as bs:List AV) (r:Bool) (h:O8 [] as bs=some r):as= []/\bs= []/\r=true:=by
 cases as<;>cases bs<;>simp [O8] at h
 simp [h]
theorem B5e: ∀(ks:List Bool) (as bs:List AV) (r:Bool),O8 ks as bs=some r->as.length=ks.length/\bs.length=ks.length
 | [],as,bs,r,h=>by obtain ⟨rfl,rfl,_⟩:=B06 as bs r h;simp
 |k::ks,as,bs,r,h=>by
  obtain ⟨a,as',b,bs',rfl,rfl,hk⟩:=A8r k ks as bs r h;rcases hk with ⟨rfl,κ,p,κ',q,rfl,rfl⟩|rfl
  ·obtain ⟨_,r',h1,_⟩:=B5d _ _ _ _ _ _ _ _ h;have:=B5e _ _ _ _ h1;simp [this.1,this.2]
  ·obtain ⟨_,_,r',_,_,h1,_⟩:=B3F _ _ _ _ _ _ h;have:=B5e _ _ _ _ h1;simp [this.1,this.2]
theorem B0z: ∀(k1 k2:List Bool) (as bs:List AV) (r:Bool),O8 (k1++k2) as bs=some r->
  ∃r1 r2,O8 k1 (as.take k1.length) (bs.take k1.length)=some r1/\O8 k2 (as.drop k1.length) (bs.drop k1.length)=some r2/\r=(r1&&r2)
 | [],k2,as,bs,r,h=>⟨true,r,by simp [O8],by simpa using h,by simp⟩
 |k::k1,k2,as,bs,r,h=>by
  simp only [List.cons_append] at h;obtain ⟨a,as',b,bs',rfl,rfl,hk⟩:=A8r k _ as bs r h;rcases hk with ⟨rfl,κ,p,κ',q,rfl,rfl⟩|rfl
  ·obtain ⟨rfl,r',h1,rfl⟩:=B5d _ _ _ _ _ _ _ _ h;obtain ⟨r1,r2,g1,g2,rfl⟩:=B0z _ _ _ _ _ h1;exact ⟨(p==q&&r1),r2,by simp [O8,g1],by simpa using g2,by simp [Bool.and_assoc]⟩
  ·obtain ⟨x,y,r',hx,hy,h1,rfl⟩:=B3F _ _ _ _ _ _ h;obtain ⟨r1,r2,g1,g2,rfl⟩:=B0z _ _ _ _ _ h1;exact ⟨((x==y)&&r1),r2,by simp [O8,g1,hx,hy],by simpa using g2,by simp [Bool.and_assoc]⟩
def CR (m:G7) (as:List AV) (vs:Array Value) (n:Nat):Prop:= ∀(j:Nat) (c:AV),as[j]? =some c-> ∃u,vs[n+j]? =some u/\J8 m c u
def C4V (P:Program) (m:G7) (t:TypeId) (as:List AV) (u:Value):Prop:=
 ((∃vs,u= .agg vs/\CR m as vs 0/\vs.size=as.length)/\ ∃fs,P.underlying t=some (.struct fs))\/
 ((∃c,as= [c]/\J8 m c u)/\ ∃d,P.underlying t=some d/\(match d with| .struct _| .array _ _=>true|_=>false)=false)
theorem C6k {P:Program} {m:G7} {w:World} {t:TypeId} {n:Nat} {as:List AV} {vs:Array Value} (hi:(P.info? t).map (·.size)=some as.length)
  (hk:(∃fs,P.underlying t=some (.struct fs))\/(as.length=1/\ ∃d,P.underlying t=some d/\(match d with| .struct _| .array _ _=>true|_=>false)=false))
  (h:CR m as vs n) (hn:n+as.length<=vs.size): ∃u,(part t vs n).run P w= .ok u w/\C4V P m t as u:=by
 rcases hk with ⟨fs,hf⟩|⟨h1,d,hd,hd'⟩
 ·cases hin:P.info? t with
  |none=>rw [hin] at hi;cases hi
  |some i=>
   rw [hin] at hi;simp only [Option.map_some,D82] at hi;refine ⟨.agg (vs.extract n (n+as.length)), ?_, .inl ⟨⟨_,rfl,fun j c hj=> ?_, ?_⟩,fs,hf⟩⟩
   ·simp [part,isAgg,run_underlying hf,sizeOf,typeInfo,hin,hi]
   ·obtain ⟨u,g1,g2⟩:=h j c hj;have hlt:j<as.length:=(D8k.1 hj).1;refine ⟨u, ?_,g2⟩;rw [Array.getElem?_extract];simp only [Nat.zero_add];rw [if_pos (by omega)]
    exact g1
   ·simp;omega
 ·match as,h1 with
  | [c],_=>
   obtain ⟨u,g1,g2⟩:=h 0 c rfl;refine ⟨u, ?_, .inr ⟨⟨c,rfl,g2⟩,d,hd,hd'⟩⟩;simp only [part,isAgg,Sem.run_bind,run_underlying hd,Result.andThen_ok];simp only [Nat.add_zero] at g1;cases d<;>simp_all
theorem B8J {P:Program} {w:World} {m:G7} {d:Nat} {xs ys:Array Value}: ∀(fs:List Field) (kss:List (List Bool)) (n:Nat) (as bs:List AV) (r:Bool),kss.length=fs.length->
  (∀(j:Nat) (f:Field) (ks:List Bool),fs[j]? =some f->kss[j]? =some ks->f.name≠ "_" /\f.offset=n+(kss.take j).flatten.length/\(P.info? f.type).map (·.size)=some ks.length/\
   ((∃fs,P.underlying f.type=some (.struct fs))\/(ks.length=1/\ ∃d,P.underlying f.type=some d/\(match d with| .struct _| .array _ _=>true|_=>false)=false))/\
   ∀(as bs:List AV) (r:Bool) (u v:Value),O8 ks as bs=some r->C4V P m f.type as u->C4V P m f.type bs v->(Op.equalIn d f.type u v).run P w= .ok r w)->
  CR m as xs n->CR m bs ys n->n+as.length<=xs.size->n+bs.length<=ys.size->O8 kss.flatten as bs=some r->(Op.eqFields d xs ys fs).run P w= .ok r w
 | [],kss,n,as,bs,r,hl,_,_,_,_,_,h=>by
  have:kss= []:=D8V (by simpa using hl)
  subst this;obtain ⟨_,_,rfl⟩:=B06 as bs r h
  rfl
 |f::fs, [],n,as,bs,r,hl,_,_,_,_,_,h=>by simp at hl
 |f::fs,ks::kss,n,as,bs,r,hl,hf,ha,hb,hna,hnb,h=>by
  rw [List.flatten_cons] at h;obtain ⟨la,lb⟩:=B5e _ _ _ _ h;rw [D8g] at la lb;obtain ⟨r1,r2,g1,g2,rfl⟩:=B0z _ _ _ _ _ h;obtain ⟨f1,f2,f3,f4,f5⟩:=hf 0 f ks rfl rfl;simp only [List.take_zero,List.flatten_nil,D8G,Nat.add_zero] at f2;have hta:(as.take ks.length).length=ks.length:=by simp;omega
  have htb:(bs.take ks.length).length=ks.length:=by simp;omega
  have ca:CR m (as.take ks.length) xs n:=fun j c hj=>ha j c (by
   rw [D8x] at hj;split at hj
   ·exact hj
   ·cases hj)
  have cb:CR m (bs.take ks.length) ys n:=fun j c hj=>hb j c (by
   rw [D8x] at hj;split at hj
   ·exact hj
   ·cases hj)
  obtain ⟨u,p1,p2⟩:=C6k (P:=P) (w:=w) (t:=f.type) (by rw [hta];exact f3) (by rw [hta];exact f4) ca (by omega)
  obtain ⟨v,q1,q2⟩:=C6k (P:=P) (w:=w) (t:=f.type) (by rw [htb];exact f3) (by rw [htb];exact f4) cb (by omega)
  have he:=f5 _ _ _ u v g1 p2 q2;have ih:=B8J (P:=P) (w:=w) (m:=m) (d:=d) (xs:=xs) (ys:=ys) fs kss (n+ks.length) (as.drop ks.length) (bs.drop ks.length) r2 (by simpa using hl)
   (fun j g kg hj hk=>by
    obtain ⟨e1,e2,e3⟩:=hf (j+1) g kg (by simpa using hj) (by simpa using hk)
    refine ⟨e1, ?_,e3⟩;rw [e2,List.take_succ_cons,List.flatten_cons,D8g];omega)
   (fun j c hj=>by rw [D8u] at hj;obtain ⟨x,e1,e2⟩:=ha _ c hj;exact ⟨x,by rw [show n+ks.length+j=n+(ks.length+j) by omega];exact e1,e2⟩)
   (fun j c hj=>by rw [D8u] at hj;obtain ⟨x,e1,e2⟩:=hb _ c hj;exact ⟨x,by rw [show n+ks.length+j=n+(ks.length+j) by omega];exact e1,e2⟩)
   (by simp;omega) (by simp;omega) g2
  simp only [Op.eqFields,f1,ne_eq,not_false_eq_true,if_true,Sem.run_bind,f2,p1,q1,he,Result.andThen_ok];cases r1
  ·simp
  ·simpa using ih
theorem EqT.kind {P:Program} {t:TypeId} {ks:List Bool} {d:Nat} (h:EqT P t ks d):
  (∃fs,P.underlying t=some (.struct fs))\/(ks.length=1/\ ∃d,P.underlying t=some d/\(match d with| .struct _| .array _ _=>true|_=>false)=false):=by
 cases h with
 |int _ k d hu=>exact .inr ⟨rfl,_,hu,rfl⟩
 |bool _ d hu=>exact .inr ⟨rfl,_,hu,rfl⟩
 |struct _ d kss hu=>exact .inl ⟨_,hu⟩
theorem D5I {P:Program} {t:TypeId} {ks:List Bool} {D:Nat} (h:EqT P t ks D): ∀(d:Nat),D<=d-> ∀(w:World) (m:G7) (as bs:List AV) (r:Bool) (u v:Value),O8 ks as bs=some r->
  C4V P m t as u->C4V P m t bs v->(Op.equalIn d t u v).run P w= .ok r w:=by
 induction h with
 |int t k D hu=>
  intro d hd w m as bs r u v he ha hb;obtain ⟨a,as',b,bs',rfl,rfl,hk⟩:=A8r _ _ as bs r he;rcases hk with ⟨_,κ,p,κ',q,rfl,rfl⟩|hk
  ·obtain ⟨rfl,r',h1,rfl⟩:=B5d _ _ _ _ _ _ _ _ he;obtain ⟨rfl,rfl,rfl⟩:=B06 _ _ _ h1;rcases ha with ⟨_,fs,hf⟩|⟨⟨c,hc,ha⟩,_⟩
   ·rw [hu] at hf;cases hf
   rcases hb with ⟨_,fs,hf⟩|⟨⟨c',hc',hb⟩,_⟩
   ·rw [hu] at hf;cases hf
   cases hc;cases hc';have ha' :u= .int κ p:=ha;have hb' :v= .int κ q:=hb;subst ha' hb';obtain ⟨d',rfl⟩: ∃d',d=d' +1:=⟨d-1,by omega⟩
   rw [run_equalIn_int w d' t κ k p q hu];simp
  ·cases hk
 |bool t D hu=>
  intro d hd w m as bs r u v he ha hb;obtain ⟨a,as',b,bs',rfl,rfl,hk⟩:=A8r _ _ as bs r he;obtain ⟨x,y,r',hx,hy,h1,rfl⟩:=B3F _ _ _ _ _ _ he;obtain ⟨rfl,rfl,rfl⟩:=B06 _ _ _ h1;rcases ha with ⟨_,fs,hf⟩|⟨⟨c,hc,ha⟩,_⟩
  ·rw [hu] at hf;cases hf
  rcases hb with ⟨_,fs,hf⟩|⟨⟨c',hc',hb⟩,_⟩
  ·rw [hu] at hf;cases hf
  cases hc;cases hc';have ha' :u= .bool x:=by cases a<;>simp only [T3,D82] at hx<;>first|(subst hx;exact ha)|cases hx
  have hb' :v= .bool y:=by cases b<;>simp only [T3,D82] at hy<;>first|(subst hy;exact hb)|cases hy
  subst ha' hb';obtain ⟨d',rfl⟩: ∃d',d=d' +1:=⟨d-1,by omega⟩
  rw [run_equalIn_bool' w d' t x y hu];simp
 |struct t D kss hu hs hl hn hf ih=>
  intro d hd w m as bs r u v he ha hb;obtain ⟨xs,rfl,ca,na⟩: ∃vs,u= .agg vs/\CR m as vs 0/\vs.size=as.length:=by
   rcases ha with ⟨h1,_⟩|⟨_,d',hd',hd''⟩
   ·exact h1
   ·rw [hu] at hd';cases hd';cases hd''
  obtain ⟨ys,rfl,cb,nb⟩: ∃vs,v= .agg vs/\CR m bs vs 0/\vs.size=bs.length:=by
   rcases hb with ⟨h1,_⟩|⟨_,d',hd',hd''⟩
   ·exact h1
   ·rw [hu] at hd';cases hd';cases hd''
  obtain ⟨d',rfl⟩: ∃d',d=d' +1:=⟨d-1,by omega⟩
  rw [run_equalIn_agg w d' t xs ys hu hs];exact B8J _ kss 0 as bs r hl (fun j f ks hj hk=>by
   obtain ⟨h1,h2,h3⟩:=hn j f ks hj hk;exact ⟨h1,by rw [h2,Nat.zero_add],h3,(hf j f ks hj hk).kind,fun as bs r u v he ha hb=>ih j f ks hj hk d' (by omega) w m as bs r u v he ha hb⟩) ca cb (by omega) (by omega) he
theorem C5Q {F:Fr} {A:Nat->Prop} {id:Nat} {o:Oper} {s:AS} (hd:∀k,o.dst=some k->k<F.N) (op:BinOp) (t:TypeId) (x y:Operand) (t':TypeId) (ho:o.op= .binOp op t x y t')
  (ti:TI) (ht:Q9 F.P t ti) (as bs:List AV) (hx:s.val x= .agg as) (hy:s.val y= .agg bs) (r:Bool) (hr:O8 ti.plain as bs=some r) (hne:ti.plain≠ []) (hop:op= .eql\/op= .neq):
  OpOk F A id o s (dst o.dst (.sb (match op with| .eql=>r|_=> !r))):=
 L2 hd fun a m h hs=>by
  have h1:=h.val x;have h2:=h.val y;rw [hs,hx] at h1;rw [hs,hy] at h2;obtain ⟨vs,g1,g2,g3⟩:=h1;obtain ⟨us,k1,k2,k3⟩:=h2;obtain ⟨p1,p2,p3⟩:=ht.plain hne;have hst: ∃fs,F.P.underlying t=some (.struct fs):=by
   cases hp:ti.plain with
   |nil=>exact absurd hp hne
   |cons k ks=>
    rcases p3.kind with h|⟨_,d,hd,hd'⟩
    ·exact h
    ·have hk:=ht.kind;unfold TI.agg at p2;cases hki:ti.kind<;>rw [hki] at hk p2<;>simp only [B7H] at hk<;>first|cases p2|skip
     ·obtain ⟨fl,hk,_⟩:=hk;exact ⟨fl,hk⟩
     ·rw [hk] at hd;cases hd;cases hd'
  have he:=D5I p3 10000 (by omega) m.w m as bs r (.agg vs) (.agg us) hr
   (.inl ⟨⟨vs,rfl,fun j c hj=>let ⟨u,e1,_,e3⟩:=g3 j c hj;⟨u,by simpa using e1,e3⟩,g2⟩,hst⟩)
   (.inl ⟨⟨us,rfl,fun j c hj=>let ⟨u,e1,_,e3⟩:=k3 j c hj;⟨u,by simpa using e1,e3⟩,k2⟩,hst⟩)
  rcases hop with rfl|rfl
  ·refine ⟨.bool r, ?_,rfl⟩;simp only [execOp,ho,g1,k1,Sem.run_bind,run_eqGuard_agg _ _ _ _ _ _ _ p1,Result.andThen_ok,run_eql_struct,he]
   rfl
  ·refine ⟨.bool (!r), ?_,rfl⟩;simp only [execOp,ho,g1,k1,Sem.run_bind,run_eqGuard_agg _ _ _ _ _ _ _ p1,Result.andThen_ok,run_neq_struct,he]
   rfl
theorem C3S {F:Fr} {A:Nat->Prop} {id:Nat} {o:Oper} {s:AS} (hd:∀k,o.dst=some k->k<F.N) (op:BinOp) (t:TypeId) (x y:Operand) (t':TypeId) (ho:o.op= .binOp op t x y t')
  (p q:Bool) (hx:T3 (s.val x)=some p) (hy:T3 (s.val y)=some q) (hu:F.P.underlying t=some .bool) (hop:op= .eql\/op= .neq):
  OpOk F A id o s (dst o.dst (.sb (match op with| .eql=>p==q|_=> !(p==q)))):=
 L2 hd fun a m h hs=>by
  have h1:a.eval x= .bool p:=B7Q (m:=m) hx (hs▸h.val x);have h2:a.eval y= .bool q:=B7Q (m:=m) hy (hs▸h.val y);rcases hop with rfl|rfl
  ·refine ⟨.bool (p==q), ?_,rfl⟩;simp [execOp,ho,h1,h2,eqGuard,binOp,Op.equal,Op.maxDepth,run_equalIn_bool' m.w _ t p q hu]
  ·refine ⟨.bool (!(p==q)), ?_,rfl⟩;simp [execOp,ho,h1,h2,eqGuard,binOp,Op.equal,Op.maxDepth,run_equalIn_bool' m.w _ t p q hu]
end Go.Vc
namespace Go.Vc
open Go.RowKit
theorem PR.vr0 {m:G7} {x:AV} {u:Value} (h:PR m.w m.ok x u):J8 m x u:=by
 cases x<;>first|exact h|(cases h;rfl)|cases h
theorem D1h {u:Value} (h:u.oneCell' =true):u.cells= #[u]:=by
 cases u<;>first|rfl|cases h
theorem C8x {m:G7} {c:AV} {u:Value} (h:J8 m c u) (hc:c≠ .junk):u.oneCell' =true:=by
 cases c<;>simp only [J8,VRs] at h<;>first|(obtain ⟨_,_,rfl,_⟩:=h;rfl)|(subst h;rfl)|exact h.2.1|exact h.oneCell|(obtain ⟨ad,rfl,_⟩:=h;rfl)|(obtain ⟨_,_,_,rfl,_⟩:=h;rfl)|exact absurd rfl hc|exact h.elim
theorem B34 {m:G7} {v:AV} {u:Value} (h:VR m v u) (hs:A2L v.cells=true):u.cells.size=v.cells.length/\
  ∀(j:Nat) (c:AV),v.cells[j]? =some c-> ∃x,u.cells[j]? =some x/\x.oneCell' =true/\J8 m c x:=by
 by_cases hv: ∃cs,v= .agg cs
 ·obtain ⟨cs,rfl⟩:=hv;obtain ⟨vs,rfl,h2,h3⟩:=h;exact ⟨h2,h3⟩
 ·have hcell:v.cells= [v]:=by
   cases v<;>first|rfl|exact absurd ⟨_,rfl⟩ hv
  have h0:J8 m v u/\v≠ .junk:=by
   rw [hcell] at hs;cases v
   case junk=>simp [A2L] at hs
   case tup=>simp [A2L] at hs
   case agg=>exact absurd ⟨_,rfl⟩ hv
   all_goals exact ⟨h,by simp⟩
  have h1:=C8x h0.1 h0.2;rw [hcell,D1h h1];refine ⟨rfl,fun j c hj=> ?_⟩;cases j with
  |zero=>cases hj;exact ⟨u,rfl,h1,h0.1⟩
  |succ j=>simp at hj
theorem B93 {F:Fr} {A:Nat->Prop} {id:Nat} {o:Oper} {s:AS} (hd:∀k,o.dst=some k->k<F.N) (cs:List AV)
  (h: ∀a m,M4 F a m->m.s=s-> ∃(cur:Array Value) (e:TypeId),(execOp a.eval o).run F.P m.w= .ok (.value (.pointer (some ⟨m.w.heap.size,0,none⟩))) (m.w.alloc (.cells cur e))/\
   cur.size=cs.length/\ ∀(j:Nat) (c:AV),cs[j]? =some c-> ∃u,cur[j]? =some u/\u.oneCell' =true/\J8 m c u):
  OpOk F A id o s (dst o.dst (.ptr id 0)++ [(.box id, .box cs)]):=
 A5h fun a m hx hs hA hid=>by
  obtain ⟨cur,e,h1,h2,h3⟩:=h a m hx hs;subst hs hA;refine ⟨_,_,h1, ?_⟩;have h4:=hx.newBox id cs cur e hid h2 h3;have hv:VR (m.newBox id cs cur e) (.ptr id 0) (.pointer (some ⟨m.w.heap.size,0,none⟩)):=
   ⟨Or.inr rfl,rfl,fun _=>by
    show _=Value.pointer (some ⟨(L4 m.β id (m.w.heap.size,0) id).1,(L4 m.β id (m.w.heap.size,0) id).2+0,none⟩);rw [H3]⟩
  have h5:=h4.dst o.dst _ _ hd hv;cases hod:o.dst with
  |none=>rw [hod] at h5;exact ⟨_,_,_,h5⟩
  |some d=>rw [hod] at h5;exact ⟨_,_,_,h5⟩
theorem D2R {F:Fr} {A:Nat->Prop} {id:Nat} {o:Oper} {s:AS} (hd:∀k,o.dst=some k->k<F.N) (t:TypeId) (ho:o.op= .alloc t) (ti:TI) (ht:Q9 F.P t ti):
  OpOk F A id o s (dst o.dst (.ptr id 0)++ [(.box id, .box ti.zero)]):=
 B93 hd ti.zero fun a m _ _=>by
  obtain ⟨z,h1,h2,h3,h4⟩:=ht.zero m.w;refine ⟨z.cells,t, ?_,by rw [h2,h3],fun j c hj=> ?_⟩
  ·simp only [execOp,ho,Instr.alloc,Sem.run_bind,h1,Result.andThen_ok,newVar,newRow,run_newObj]
   rfl
  ·obtain ⟨u,g1,g2,g3⟩:=h4 j c hj;exact ⟨u,g1,g2,g3.vr⟩
theorem D50 {F:Fr} {A:Nat->Prop} {id:Nat} {o:Oper} {s:AS} (hd:∀k,o.dst=some k->k<F.N) (t:TypeId) (x:Operand) (ho:o.op= .box t x) (hsol:A2L (s.val x).cells=true):
  OpOk F A id o s (dst o.dst (.ptr id 0)++ [(.box id, .box (s.val x).cells)]):=
 B93 hd _ fun a m hx hs=>by
  subst hs;obtain ⟨h1,h2⟩:=B34 (hx.val x) hsol;refine ⟨(a.eval x).cells,t, ?_,h1,h2⟩;simp only [execOp,ho,Instr.box,Sem.run_bind,Result.andThen_ok,newVar,newRow,run_newObj]
  rfl
theorem B2Q {m:G7} {ti:TI} (cs:List AV) (hl:cs.length=ti.size) (hp:0<ti.size) (vs:List Value) (hv:vs.length=cs.length)
  (h:∀(j:Nat) (c:AV),cs[j]? =some c-> ∃u,vs[j]? =some u/\u.oneCell' =true/\J8 m c u):
  VR m (A5N ti cs) (if ti.agg then .agg vs.toArray else vs.headD undef):=by
 unfold A5N;cases ha:ti.agg with
 |true=>
  simp only [if_true];exact ⟨vs.toArray,rfl,by simpa using hv,fun j c hj=>by simpa using h j c hj⟩
 |false=>
  simp only [Bool.false_eq_true,if_false]
  match cs,hl with
  | [],hl=>simp at hl;omega
  | [c],_=>
   obtain ⟨u,g1,_,g3⟩:=h 0 c rfl
   match vs,g1 with
   |v::_,g1=>
    cases g1;have hvr:VR m c u:=by cases c<;>first|exact g3|exact (show False from g3).elim
    exact hvr
  |_::_::_,_=>trivial
theorem A4k {P:Program} {t:TypeId} {ti:TI} (ht:Q9 P t ti) (w:World) (ad:Addr) (hp:0<ti.size) (vs:List Value) (hl:vs.length=ti.size)
  (h:∀(j:Nat) (u:Value),vs[j]? =some u->w.cell? (ad.add j)=some u):(loadVar t ad).run P w= .ok (if ti.agg then .agg vs.toArray else vs.headD undef) w:=by
 simp only [loadVar,Sem.run_bind,ht.isAgg,Result.andThen_ok];cases ti.agg with
 |true=>
  simp only [if_true,Sem.run_bind,ht.size,Result.andThen_ok];rw [<-hl,run_loadCells_list w ad vs h]
  rfl
 |false=>
  simp only [Bool.false_eq_true,if_false]
  match vs,hl with
  | [],hl=>simp at hl;omega
  |v::_,_=>
   have h0:=h 0 v rfl;have:ad.add 0=ad:=by simp [Addr.add]
   rw [this] at h0;simp [load,Sem.run,h0]
theorem C1B {F:Fr} {A:Nat->Prop} {id:Nat} {o:Oper} {s:AS} (hd:∀k,o.dst=some k->k<F.N) (t:TypeId) (x:Operand) (ho:o.op= .load t x) (ti:TI) (ht:Q9 F.P t ti)
  (b off:Nat) (hx:s.val x= .ptr b off\/s.val x= .pix b off) (cs:List AV) (hb:s (.box b)= .box cs) (hf:off+ti.size<=cs.length) (hp:0<ti.size):
  OpOk F A id o s (dst o.dst (A5N ti ((cs.drop off).take ti.size))):=
 L2 hd fun a m h hs=>by
  subst hs;have h1:=h.val x;have h0:J8 m (.ptr b off) (a.eval x):=by rcases hx with hx|hx<;>(rw [hx] at h1;exact h1)
  have h1' :=h0.2.2 ⟨cs,hb⟩;obtain ⟨_,_,cur,e,g3,g4,g5⟩:=h.mr.box b cs hb;have hlen:((cs.drop off).take ti.size).length=ti.size:=by simp;omega
  have hlen2:((cur.toList.drop ((m.β b).2+off)).take ti.size).length=ti.size:=by simp;omega
  refine ⟨_, ?_,B2Q _ hlen hp ((cur.toList.drop ((m.β b).2+off)).take ti.size) (hlen2.trans hlen.symm) (fun j c hj=> ?_)⟩
  ·simp only [execOp,ho,h1',Instr.loadAt,Instr.sureAddr,Sem.run_bind,Sem.run_pure,Result.andThen_ok];rw [A4k ht m.w _ hp ((cur.toList.drop ((m.β b).2+off)).take ti.size) hlen2 (fun j u hj=>by
    rw [Addr.add_lit,cell_of_row m.w _ _ cur e _ g3];rw [D8x] at hj;split at hj
    ·rw [D8u] at hj;simpa using hj
    ·cases hj)]
   rfl
  ·rw [D8x] at hj⊢;split at hj
   ·rename_i hlt;rw [D8u] at hj;rw [if_pos hlt,D8u];obtain ⟨u,e1,e2⟩:=g5 _ c hj;exact ⟨u,by rw [Nat.add_assoc];simpa using e1,e2⟩
   ·cases hj
theorem D1f {F:Fr} {A:Nat->Prop} {id:Nat} {o:Oper} {s:AS} (hd:∀k,o.dst=some k->k<F.N) (t:TypeId) (x:Operand) (ho:o.op= .load t x) (ti:TI) (ht:Q9 F.P t ti)
  (cs:List AV) (hx:s.val x= .rp cs) (hf:ti.size<=cs.length) (hp:0<ti.size):
  OpOk F A id o s (dst o.dst (A5N ti (cs.take ti.size))):=
 L2 hd fun a m h hs=>by
  subst hs;have h1:=h.val x;rw [hx] at h1;obtain ⟨ad,e1,e2,e3⟩:=(show J8 m (.rp cs) (a.eval x) from h1);obtain ⟨b,off,sp⟩:=ad;simp only at e2;subst e2;have hlen:(cs.take ti.size).length=ti.size:=by simp;omega
  have hvals: ∃vs:List Value,vs.length=ti.size/\ ∀j,j<ti.size-> ∃u x,vs[j]? =some u/\cs[j]? =some x/\m.w.cell? ⟨b,off+j,none⟩=some u/\PR m.w m.ok x u:=by
   refine ⟨(List.range ti.size).map (fun j=>(m.w.cell? ⟨b,off+j,none⟩).getD undef),by simp,fun j hj=> ?_⟩
   have hj' :j<cs.length:=by omega
   obtain ⟨_,u,q1,q2⟩:=e3 j cs[j] (by simp [hj'])
   exact ⟨u,cs[j],by simp [hj,q1],by simp [hj'],q1,q2⟩
  obtain ⟨vs,k1,k2⟩:=hvals;refine ⟨_, ?_,B2Q _ hlen hp vs (k1.trans hlen.symm) (fun j c hj=> ?_)⟩
  ·simp only [execOp,ho,e1,Instr.loadAt,Instr.sureAddr,Sem.run_bind,Sem.run_pure,Result.andThen_ok];rw [A4k ht m.w _ hp vs k1 (fun j u hj=>by
    have hlt:j<ti.size:=by rw [<-k1];exact (D8k.1 hj).1
    obtain ⟨u',x',q1,_,q3,_⟩:=k2 j hlt;rw [hj] at q1;cases q1;rw [Addr.add_lit];exact q3)]
   rfl
  ·rw [D8x] at hj;split at hj
   ·rename_i hlt;obtain ⟨u,x',q1,q2,_,q4⟩:=k2 j hlt;rw [hj] at q2;cases q2;exact ⟨u,q1,q4.oneCell,q4.vr0⟩
   ·cases hj
end Go.Vc
namespace Go.Vc
open Go.RowKit
theorem A3E (cs news:List AV) (off:Nat) (h:off+news.length<=cs.length):(S1 cs off news).length=cs.length:=by
 simp [S1];omega
theorem C1Z {R:AV->Value->Prop} (cs news:List AV) (vs us:List Value) (off:Nat) (hl:vs.length=cs.length) (hn:us.length=news.length) (hf:off+news.length<=cs.length)
  (h:∀(j:Nat) (c:AV),cs[j]? =some c-> ∃u,vs[j]? =some u/\R c u) (h':∀(j:Nat) (c:AV),news[j]? =some c-> ∃u,us[j]? =some u/\R c u):
  ∀(j:Nat) (c:AV),(S1 cs off news)[j]? =some c-> ∃u,(vs.take off++us++vs.drop (off+us.length))[j]? =some u/\R c u:=by
 intro j c hj;unfold S1 at hj;have htl:(cs.take off).length=off:=by simp;omega
 have htv:(vs.take off).length=off:=by simp;omega
 rw [D8E]
 by_cases h1:j<off
 ·rw [D8z (by omega),D8x,if_pos h1] at hj
  rw [D8z (by omega),D8x,if_pos h1]
  exact h j c hj
 ·rw [D8A (by omega),htl] at hj
  rw [D8A (by omega),htv]
  by_cases h2:j-off<news.length
  ·rw [D8z h2] at hj;rw [D8z (by omega)]
   exact h' _ c hj
  ·rw [D8A (by omega),D8u] at hj
   rw [D8A (by omega),D8u,hn]
   exact h _ c hj
theorem B40 {P:Program} {t:TypeId} {ti:TI} (ht:Q9 P t ti) (w:World) (g off:Nat) (e:TypeId) (cur:Array Value) (hg:w.heap[g]? =some (.cells cur e (0,0)))
  (v:Value) (hv:v.cells.size=ti.size) (h1:∀u∈v.cells.toList,u.oneCell' =true) (hf:off+ti.size<=cur.size):
  (storeVar t ⟨g,off,none⟩ v).run P w= .ok () (w.setRow g (cur.toList.take off++v.cells.toList++cur.toList.drop (off+v.cells.toList.length)).toArray):=by
 have:=run_storeCells_at P g off e v.cells.toList 0 cur w hg (by simp [hv];omega) h1
 simp only [Nat.add_zero] at this;simp only [storeVar,Sem.run_bind,ht.size,Result.andThen_ok,hv,ne_eq,not_true_eq_false,if_false,this]
theorem B3j {α:Type} (l:List α) (k:Nat) (vs:List α) (h:k+vs.length<=l.length) (o:Nat):(l.take k++vs++l.drop (k+vs.length))[o]? =if o<k then l[o]? else if o<k+vs.length then vs[o-k]? else l[o]? :=by
 have hk:(l.take k).length=k:=by rw [D8C];omega
 by_cases c1:o<k
 ·rw [if_pos c1,D8E,D8z (by omega),D8x,if_pos c1]
 ·rw [if_neg c1]
  by_cases c2:o<k+vs.length
  ·rw [if_pos c2,D8z (by rw [D8g];omega),D8A (by omega),hk]
  ·rw [if_neg c2,D8A (by rw [D8g];omega),D8g,hk,D8u]
   congr 1
   omega
theorem B92 {F:Fr} {A:Nat->Prop} {id:Nat} {o:Oper} {s:AS} (hd:∀k,o.dst=some k->k<F.N) (t:TypeId) (x y:Operand) (ho:o.op= .store t x y) (ti:TI) (ht:Q9 F.P t ti)
  (b off:Nat) (hx:s.val x= .ptr b off\/s.val x= .pix b off) (cs:List AV) (hb:s (.box b)= .box cs) (hsol:A2L (s.val y).cells=true) (hl:(s.val y).cells.length=ti.size) (hf:off+ti.size<=cs.length):
  OpOk F A id o s (dst o.dst .junk++ [(.box b, .box (S1 cs off (s.val y).cells))]):=by
 rintro a w ⟨β,τ,ok,hx0⟩ hA next Q hn
 generalize hm:(⟨s,β,τ,A,ok,w⟩:G7)=m at hx0
 have hs:m.s=s:=by rw [<-hm]
 have hw:m.w=w:=by rw [<-hm]
 subst hs;have h1:=hx0.val x;have h0:J8 m (.ptr b off) (a.eval x):=by rcases hx with hx|hx<;>(rw [hx] at h1;exact h1)
 have h1' :=h0.2.2 ⟨cs,hb⟩;obtain ⟨h2,h3⟩:=B34 (hx0.val y) hsol;obtain ⟨_,_,cur,e,g3,g4,g5⟩:=hx0.mr.box b cs hb;have hone: ∀u∈(a.eval y).cells.toList,u.oneCell' =true:=by
  intro u hu;obtain ⟨j,hj,rfl⟩:=List.mem_iff_getElem.1 hu;have hj' :j<(m.s.val y).cells.length:=by rw [<-h2];simpa using hj
  obtain ⟨x',q1,q2,_⟩:=h3 j _ (D8o hj');have:(a.eval y).cells[j]? =some (a.eval y).cells.toList[j]:=by simp at hj⊢
  rw [this] at q1;cases q1;exact q2
 have hvl:(a.eval y).cells.toList.length=(m.s.val y).cells.length:=by simpa using h2
 have hfit:(m.β b).2+off+(a.eval y).cells.toList.length<=cur.toList.length:=by simp only [Array.length_toList] at*;omega
 have hrun:(execOp a.eval o).run F.P w= .ok .skip (w.setRow (m.β b).1 (cur.toList.take ((m.β b).2+off)++(a.eval y).cells.toList++cur.toList.drop ((m.β b).2+off+(a.eval y).cells.toList.length)).toArray):=by
  rw [<-hw];simp only [execOp,ho,h1',Instr.storeAt,Instr.sureAddr,Sem.run_bind,Sem.run_pure,Result.andThen_ok];rw [B40 ht m.w (m.β b).1 ((m.β b).2+off) e cur g3 (a.eval y) (h2.trans hl) hone (by omega)]
  simp
 simp only [Oper.wp,hrun,Oper.upon_skip];apply hn;have hspl:(S1 cs off (m.s.val y).cells).length=cs.length:=A3E _ _ _ (by omega)
 have h4:=hx0.setBox b cs (S1 cs off (m.s.val y).cells) cur (cur.toList.take ((m.β b).2+off)++(a.eval y).cells.toList++cur.toList.drop ((m.β b).2+off+(a.eval y).cells.toList.length)).toArray e hb
  hspl g3 (by simp only [List.size_toArray,D8g,D8C,D8I];simp only [Array.length_toList] at*;omega)
  (fun o' ho' =>by
   rw [List.getElem?_toArray,B3j _ _ _ hfit];split
   ·simp
   ·split
    ·rw [hspl] at ho';omega
    ·simp)
  (fun j c hj=>by
   obtain ⟨u,q1,q2,q3⟩:=C1Z (R:=fun c u=>u.oneCell' =true/\J8 m c u) cs (m.s.val y).cells ((cur.toList.drop (m.β b).2).take cs.length) (a.eval y).cells.toList off (by simp only [D8C,D8I,Array.length_toList];omega) (by simpa using h2) (by omega)
    (fun j c hj=>by
     obtain ⟨u,r1,r2⟩:=g5 j c hj;have hjl:=(D8k.1 hj).1;refine ⟨u, ?_,r2⟩;rw [D8x,if_pos hjl,D8u];simpa using r1) (fun j c hj=>by simpa using h3 j c hj) j c hj
   have hjl:j<cs.length:=by rw [<-hspl];exact (D8k.1 hj).1
   refine ⟨u, ?_,q2,q3⟩;rw [<-q1,List.getElem?_toArray,B3j _ _ _ hfit,B3j _ _ _ (by simp only [D8C,D8I,Array.length_toList] at*;omega)]
   by_cases c1:j<off
   ·rw [if_pos (by omega),if_pos c1,D8x,if_pos hjl,D8u]
   ·rw [if_neg (by omega),if_neg c1]
    by_cases c2:j<off+(a.eval y).cells.toList.length
    ·rw [if_pos (by omega),if_pos c2]
     congr 1
     omega
    ·rw [if_neg (by omega),if_neg c2,D8x,if_pos hjl,D8u])
 have h5:=(h4.mono (fun i=>A i\/i=id) (fun i hi=>Or.inl (by rw [<-hm] at hi;exact hi))).dst o.dst .junk undef hd trivial
 have hw' :w.setRow (m.β b).1 (cur.toList.take ((m.β b).2+off)++(a.eval y).cells.toList++cur.toList.drop ((m.β b).2+off+(a.eval y).cells.toList.length)).toArray=(m.setBox b (S1 cs off (m.s.val y).cells) (cur.toList.take ((m.β b).2+off)++(a.eval y).cells.toList++cur.toList.drop ((m.β b).2+off+(a.eval y).cells.toList.length)).toArray).w:=by
  rw [<-hw];rfl
 rw [hw'];cases hod:o.dst with
 |none=>rw [hod] at h5;exact ⟨_,_,_,h5⟩
 |some d=>rw [hod] at h5;exact ⟨_,_,_,h5⟩
theorem C5o {P:Program} {t:TypeId} {ti:TI} (ht:Q9 P t ti) {f fo sz:Nat} (h:A5K ti f=some (fo,sz)):
  ∃(flds:Array Field) (fld:Field),P.underlying t=some (.struct flds)/\flds[f]? =some fld/\fld.offset=fo/\P.cellsOf fld.type=sz/\ ∃i,P.info? fld.type=some i/\i.size=sz:=by
 unfold A5K at h;have hk:=ht.kind;split at h
 ·rename_i fs hfs;rw [hfs] at hk;obtain ⟨flds,h1,h2,h3⟩:=hk;rw [<-h2,D8J] at h;cases hq:flds.toList[f]? with
  |none=>rw [hq] at h;cases h
  |some fld=>
   rw [hq] at h;simp only [Option.map_some,D82,Prod.mk.injEq] at h;have hmem:fld∈flds.toList:=D8p hq;have h4:=h3 fld hmem;cases hi:P.info? fld.type with
   |none=>rw [hi] at h4;cases h4
   |some i=>
    refine ⟨flds,fld,h1,by simpa using hq,h.1,h.2,i,hi, ?_⟩
    have:=h.2;simp only [Program.cellsOf,hi,Option.map_some,Option.getD_some] at this;exact this
 ·cases h
theorem C7z {P:Program} {t:TypeId} {ti:TI} (ht:Q9 P t ti) {f fo sz:Nat} (h:A5K ti f=some (fo,sz)) (hp:0<sz) (w:World) (ad:Addr):
  (Instr.fieldAt t (.pointer (some ad)) f).run P w= .ok (.pointer (some (ad.add fo))) w:=by
 obtain ⟨flds,fld,h1,h2,h3,_,i,h5,h6⟩:=C5o ht h;have h0: ¬i.size=0:=by omega
 simp only [Instr.fieldAt,Sem.run_bind,run_underlying h1,Result.andThen_ok,h2,Instr.sureAddr,Sem.run_pure,fieldPlace,sizeOf,typeInfo,run_program,h5,h0,if_false,h3]
theorem A15 (b o n:Nat):(⟨b,o,none⟩:Addr).add n=⟨b,o+n,none⟩:=Addr.add_lit b o n
theorem B3R {F:Fr} {A:Nat->Prop} {id:Nat} {o:Oper} {s:AS} (hd:∀k,o.dst=some k->k<F.N) (t:TypeId) (x:Operand) (f:Nat) (ho:o.op= .fieldAddr t x f) (ti:TI) (ht:Q9 F.P t ti)
  (fo sz:Nat) (hf:A5K ti f=some (fo,sz)) (hp:0<sz) (v:AV)
  (hv:(∃i j cs,s.val x= .ptr i j/\s (.box i)= .box cs/\v= .ptr i (j+fo))\/(∃cs,s.val x= .rp cs/\v= .rp (cs.drop fo))\/
   (∃k i j e sz xs,s.val x= .elt k i j/\s (.tok k)= .tok e sz xs/\v= .elt k i (j+fo))):
  OpOk F A id o s (dst o.dst v):=
 L2 hd fun a m h hs=>by
  subst hs;have h1:=h.val x;have key: ∀ad:Addr,a.eval x= .pointer (some ad)->(execOp a.eval o).run F.P m.w= .ok (.value (.pointer (some (ad.add fo)))) m.w:=by
   intro ad had;simp only [execOp,ho,had,Sem.run_bind,C7z ht hf hp,Result.andThen_ok]
   rfl
  rcases hv with ⟨i,j,cs,hx,hb,rfl⟩|⟨cs,hx,rfl⟩|⟨k,i,j,e,szz,xs,hx,hb,rfl⟩
  ·rw [hx] at h1;obtain ⟨g1,_,g2⟩:=(show J8 m (.ptr i j) (a.eval x) from h1);have:=g2 ⟨cs,hb⟩;refine ⟨_,key _ this, ?_⟩;rw [A15];exact ⟨g1,rfl,fun _=>by rw [Nat.add_assoc]⟩
  ·rw [hx] at h1;obtain ⟨ad,e1,e2,e3⟩:=(show J8 m (.rp cs) (a.eval x) from h1);obtain ⟨b,off,sp⟩:=ad;simp only at e2;subst e2;refine ⟨_,key _ e1, ?_⟩;rw [A15];refine ⟨_,rfl,rfl,fun j y hj=> ?_⟩;rw [D8u] at hj;obtain ⟨q1,u,q2,q3⟩:=e3 _ y hj;exact ⟨q1,u,by rw [show off+fo+j=off+(fo+j) by omega];exact q2,q3⟩
  ·rw [hx] at h1;obtain ⟨g1,_,g2'⟩:=(show J8 m (.elt k i j) (a.eval x) from h1);obtain ⟨hlt,g2⟩:=g2' e szz xs hb;obtain ⟨_,_,_,t4,t5⟩:=h.mr.tok k e szz xs hb;cases hτ:m.τ k with
   |none=>have:=t4 hτ;subst this;simp at hlt
   |some p=>
    obtain ⟨b,oo,cap⟩:=p;have:=g2 b oo cap hτ;refine ⟨_,key _ this, ?_⟩;rw [A15];refine ⟨g1,rfl,fun e' sz' xs' hb' => ?_⟩;rw [hb] at hb';cases hb';refine ⟨hlt,fun b' o' cap' hτ' => ?_⟩;rw [hτ] at hτ';cases hτ';rw [show oo+(i*szz+j)+fo=oo+(i*szz+(j+fo)) by omega]
theorem B1e {F:Fr} {A:Nat->Prop} {id:Nat} {o:Oper} {s:AS} (hd:∀k,o.dst=some k->k<F.N) (x:Operand) (ho:o.op= .nilCheck x)
  (hv:(∃i j cs,s.val x= .ptr i j/\s (.box i)= .box cs)\/(∃cs,s.val x= .rp cs)\/(∃f,s.val x= .fn f)\/(∃k i j e sz xs,s.val x= .elt k i j/\s (.tok k)= .tok e sz xs)):
  OpOk F A id o s (dst o.dst (s.val x)):=
 L2 hd fun a m h hs=>by
  subst hs;have h1:=h.val x;refine ⟨a.eval x, ?_,h1⟩;rcases hv with ⟨i,j,cs,hx,hb⟩|⟨cs,hx⟩|⟨f,hx⟩|⟨k,i,j,e,szz,xs,hx,hb⟩
  ·rw [hx] at h1;have:=(show J8 m (.ptr i j) (a.eval x) from h1).2.2 ⟨cs,hb⟩;simp only [execOp,ho,this];rfl
  ·rw [hx] at h1;obtain ⟨ad,e1,_⟩:=(show J8 m (.rp cs) (a.eval x) from h1);simp only [execOp,ho,e1];rfl
  ·rw [hx] at h1;have h1' :a.eval x= .func (.func f) #[] #[]:=h1;simp only [execOp,ho,h1'];rfl
  ·rw [hx] at h1;obtain ⟨g1,_,g2'⟩:=(show J8 m (.elt k i j) (a.eval x) from h1);obtain ⟨hlt,g2⟩:=g2' e szz xs hb;obtain ⟨_,_,_,t4,t5⟩:=h.mr.tok k e szz xs hb;cases hτ:m.τ k with
   |none=>have:=t4 hτ;subst this;simp at hlt
   |some p=>
    obtain ⟨b,oo,cap⟩:=p;have:=g2 b oo cap hτ;simp only [execOp,ho,this];rfl
end Go.Vc
namespace Go.Vc
open Go.RowKit
theorem C5q (off:Nat): ∀(l:List Value) (j:Nat) (cells:Array Value),off+j+l.length<=cells.size->
  ((l.zipIdx j).foldl (fun (cs:Array Value) (p:Value×Nat)=>cs.setIfInBounds (off+p.2) p.1) cells)=(cells.toList.take (off+j)++l++cells.toList.drop (off+j+l.length)).toArray
 | [],j,cells,_=>by simp
 |v::l,j,cells,h=>by
  simp only [D8t] at h;rw [List.zipIdx_cons,List.foldl_cons,C5q off l (j+1) _ (by simp;omega)]
  congr 1
  have:=list_seg_step cells.toList (off+j) v l (by simp;omega)
  simpa [Array.toList_setIfInBounds,Nat.add_assoc] using this
theorem C3E (place:Nat->Option (Nat×Nat)) (cells:Array Value) (i off:Nat) (v:Value) (rest:List (Nat×Value)) (hp:place i=some (off,v.cells.size)) (hf:off+v.cells.size<=cells.size):
  Instr.fill place cells ((i,v)::rest)=Instr.fill place (cells.toList.take off++v.cells.toList++cells.toList.drop (off+v.cells.toList.length)).toArray rest:=by
 have h1: ¬(v.cells.size≠v.cells.size\/off+v.cells.size>cells.size):=by omega
 have h2:=C5q off v.cells.toList 0 cells (by simpa using hf)
 simp only [Nat.add_zero] at h2;rw [<-h2];simp only [Instr.fill,hp];have h3:(decide (v.cells.size≠v.cells.size)||decide (off+v.cells.size>cells.size))=false:=by simp;omega
 simp only [h3,Bool.false_eq_true,if_false];rw [<-Array.foldl_toList,Array.toList_zipIdx]
theorem B5f {F:Fr} {a:Act} {m:G7} (hx:M4 F a m) {ti:TI} {place:Nat->Option (Nat×Nat)} (hp:∀i off size,A5K ti i=some (off,size)->place i=some (off,size)):
  ∀(parts:List (Nat×Operand)) (cs:List AV) (cells:Array Value) (cs' :List AV),cells.size=cs.length->
   (∀(j:Nat) (c:AV),cs[j]? =some c-> ∃u,cells[j]? =some u/\u.oneCell' =true/\J8 m c u)->A0A ti cs m.s parts=some cs' ->
   ∃cells',Instr.fill place cells (parts.map fun p=>(p.1,a.eval p.2))=some cells' /\cells'.size=cs'.length/\
    ∀(j:Nat) (c:AV),cs'[j]? =some c-> ∃u,cells'[j]? =some u/\u.oneCell' =true/\J8 m c u
 | [],cs,cells,cs',hl,hc,h=>by
  simp only [A0A,D82] at h;subst h;exact ⟨cells,rfl,hl,hc⟩
 |(i,x)::r,cs,cells,cs',hl,hc,h=>by
  simp only [A0A] at h;split at h
  ·rename_i off size hf;split at h
   ·rename_i hchk;simp only [D8i] at hchk;obtain ⟨h1',h2,h3⟩:=hchk;have h1:=D8j h1';have h3' :off+size<=cs.length:=D8H h3;obtain ⟨g1,g2⟩:=B34 (hx.val x) h2;have hpl:=hp i off size hf;have hsz:(a.eval x).cells.size=size:=g1.trans h1;rw [<-hsz] at hpl;obtain ⟨cells',k1,k2,k3⟩:=B5f hx hp r _ (cells.toList.take off++(a.eval x).cells.toList++cells.toList.drop (off+(a.eval x).cells.toList.length)).toArray cs'
     (by rw [A3E _ _ _ (by omega)];simp;omega)
     (fun j c hj=>by
      obtain ⟨u,q1,q2,q3⟩:=C1Z (R:=fun c u=>u.oneCell' =true/\J8 m c u) cs (m.s.val x).cells cells.toList (a.eval x).cells.toList off (by simpa using hl) (by simpa using g1) (by omega)
       (fun j c hj=>by simpa using hc j c hj) (fun j c hj=>by simpa using g2 j c hj) j c hj
      exact ⟨u,by simpa using q1,q2,q3⟩) h
    refine ⟨cells', ?_,k2,k3⟩;rw [D83,C3E place cells i off (a.eval x) _ hpl (by omega)]
    exact k1
   ·cases h
  ·cases h
theorem B9W {P:Program}: ∀(fs:List Field),(∀f∈fs,(P.info? f.type).isSome=true)->
  fs.mapM (fun f=>(P.info? f.type).map fun i=>(f.offset,i.size))=some (fs.map fun f=>(f.offset,P.cellsOf f.type))
 | [],_=>rfl
 |f::fs,h=>by
  have h1:=h f (by simp)
  cases hi:P.info? f.type with
  |none=>rw [hi] at h1;cases h1
  |some i=>
   rw [List.mapM_cons,hi,B9W fs (fun g hg=>h g (by simp [hg]))]
   simp [Program.cellsOf,hi]
theorem D2S {F:Fr} {A:Nat->Prop} {id:Nat} {o:Oper} {s:AS} (hd:∀k,o.dst=some k->k<F.N) (t:TypeId) (parts:Array (Nat×Operand)) (ho:o.op= .build t parts) (ti:TI) (ht:Q9 F.P t ti)
  (fs:List (Nat×Nat)) (hk:ti.kind= .struct fs) (cs:List AV) (hf:A0A ti ti.zero s parts.toList=some cs):OpOk F A id o s (dst o.dst (.agg cs)):=
 L2 hd fun a m hx hs=>by
  subst hs;obtain ⟨i,i1,i2,_,z,i4,z1,z2,z3⟩:=ht.info;have hkk:=ht.kind;rw [hk] at hkk;obtain ⟨flds,u1,u2,u3⟩:=hkk;obtain ⟨cells',k1,k2,k3⟩:=B5f hx (ti:=ti) (place:=((flds.toList.map fun f=>(f.offset,F.P.cellsOf f.type)).toArray[·]?)) (fun j off size hj=>by
    simp only [A5K,hk] at hj;rw [u2];simpa using hj) parts.toList ti.zero z.cells cs (by rw [z1,z2])
   (fun j c hj=>let ⟨u,g1,g2,g3⟩:=z3 j c hj;⟨u,g1,g2,g3.vr⟩) hf
  refine ⟨.agg cells', ?_,cells',rfl,k2,k3⟩;have hb:F.P.built t (parts.map fun (i,x)=>(i,a.eval x)).toList=some cells' :=by
   simp only [Program.built,i1,u1,i4,B9W _ u3];rw [<-k1];simp
  simp only [execOp,ho,Sem.run_bind,run_build m.w t _ cells' hb,Result.andThen_ok]
  rfl
structure FR (R:AV->Value->Prop) (sz:Nat) (xs:List (List AV)) (cells:List Value):Prop where
 len:cells.length=xs.length*sz
 esz: ∀c∈xs,c.length=sz
 at_: ∀(i j:Nat) (c:List AV) (x:AV),xs[i]? =some c->c[j]? =some x-> ∃u,cells[i*sz+j]? =some u/\R x u
theorem FR.nil (R:AV->Value->Prop) (sz:Nat):FR R sz [] []:=⟨by simp,by simp,by simp⟩
theorem FR.append {R:AV->Value->Prop} {sz:Nat} {xs ys:List (List AV)} {cs ds:List Value} (h:FR R sz xs cs) (k:FR R sz ys ds):FR R sz (xs++ys) (cs++ds) where
 len:=by rw [D8g,h.len,k.len,D8g,Nat.add_mul]
 esz:=fun c hc=>by
  rcases D8W.1 hc with hc|hc
  ·exact h.esz c hc
  ·exact k.esz c hc
 at_:=fun i j c x hi hj=>by
  have hjlt:j<c.length:=(D8k.1 hj).1
  by_cases hlt:i<xs.length
  ·rw [D8z hlt] at hi;obtain ⟨u,g1,g2⟩:=h.at_ i j c x hi hj;exact ⟨u,by rw [D8z (D8k.1 g1).1];exact g1,g2⟩
  ·rw [D8A (by omega)] at hi
   obtain ⟨u,g1,g2⟩:=k.at_ _ j c x hi hj;refine ⟨u, ?_,g2⟩;have hge:cs.length<=i*sz+j:=by rw [h.len];have:=D8y sz (Nat.le_of_not_lt hlt);omega
   rw [D8A hge,h.len];have:i*sz+j-xs.length*sz=(i-xs.length)*sz+j:=by
    rw [Nat.sub_mul];have:=D8y sz (Nat.le_of_not_lt hlt);omega
   rw [this];exact g1
theorem FR.take {R:AV->Value->Prop} {sz:Nat} {xs:List (List AV)} {cs:List Value} (h:FR R sz xs cs) (n:Nat) (hn:n<=xs.length):FR R sz (xs.take n) (cs.take (n*sz)) where
 len:=by
  rw [D8C,h.len,D8C,Nat.min_eq_left hn,Nat.min_eq_left (D8y sz hn)]
 esz:=fun c hc=>h.esz c (List.mem_of_mem_take hc)
 at_:=fun i j c x hi hj=>by
  rw [D8x] at hi;split at hi
  ·rename_i hlt;obtain ⟨u,g1,g2⟩:=h.at_ i j c x hi hj;have hjlt:j<c.length:=(D8k.1 hj).1;rw [h.esz c (D8p hi)] at hjlt;have hb:i*sz+j<n*sz:=by
    have:(i+1)*sz<=n*sz:=D8y sz hlt;rw [Nat.add_mul] at this;omega
   exact ⟨u,by rw [D8x,if_pos hb];exact g1,g2⟩
  ·cases hi
theorem FR.drop {R:AV->Value->Prop} {sz:Nat} {xs:List (List AV)} {cs:List Value} (h:FR R sz xs cs) (n:Nat):FR R sz (xs.drop n) (cs.drop (n*sz)) where
 len:=by rw [D8I,h.len,D8I,Nat.sub_mul]
 esz:=fun c hc=>h.esz c (List.mem_of_mem_drop hc)
 at_:=fun i j c x hi hj=>by
  rw [D8u] at hi;obtain ⟨u,g1,g2⟩:=h.at_ _ j c x hi hj;refine ⟨u, ?_,g2⟩;rw [D8u,<-Nat.add_assoc,<-Nat.add_mul];exact g1
theorem FR.set {R:AV->Value->Prop} {sz:Nat} {xs:List (List AV)} {cs:List Value} (h:FR R sz xs cs) (i:Nat) (hi:i<xs.length) (c:List AV) (us:List Value) (hc:c.length=sz) (hu:us.length=sz)
  (hr:∀(j:Nat) (x:AV),c[j]? =some x-> ∃u,us[j]? =some u/\R x u):FR R sz (xs.set i c) (cs.take (i*sz)++us++cs.drop (i*sz+us.length)) where
 len:=by
  have h1:(i+1)*sz<=xs.length*sz:=D8y sz hi;rw [Nat.add_mul] at h1;have:=h.len;simp only [D8g,D8C,D8I,D9a];omega
 esz:=fun d hd=>by
  rcases List.mem_or_eq_of_mem_set hd with hd|rfl
  ·exact h.esz d hd
  ·exact hc
 at_:=fun k j d x hk hj=>by
  have hlen:=h.len;have h1:(i+1)*sz<=xs.length*sz:=D8y sz hi;rw [Nat.add_mul] at h1;have htl:(cs.take (i*sz)).length=i*sz:=by simp;omega
  have hjlt:j<d.length:=(D8k.1 hj).1;rw [D8E]
  by_cases hki:k=i
  ·subst hki;rw [List.getElem?_set_self hi] at hk;cases hk;obtain ⟨u,g1,g2⟩:=hr j x hj;refine ⟨u, ?_,g2⟩;rw [D8A (by omega),htl,D8z (by omega)]
   rw [show k*sz+j-k*sz=j by omega]
   exact g1
  ·rw [List.getElem?_set_ne (by omega)] at hk
   have hdl:=h.esz d (D8p hk);obtain ⟨u,g1,g2⟩:=h.at_ k j d x hk hj;refine ⟨u, ?_,g2⟩;rcases Nat.lt_or_gt_of_ne hki with hlt|hgt
   ·have h2:(k+1)*sz<=i*sz:=D8y sz hlt;rw [Nat.add_mul] at h2;rw [D8z (by omega),D8x,if_pos (by omega)]
    exact g1
   ·have h2:(i+1)*sz<=k*sz:=D8y sz hgt;rw [Nat.add_mul] at h2;rw [D8A (by omega),htl,D8A (by omega),D8u]
    rw [show i*sz+us.length+(k*sz+j-i*sz-us.length)=k*sz+j by omega]
    exact g1
end Go.Vc
namespace Go.Vc
open Go.RowKit
structure B4q (m:G7) (xs:List (List AV)) (v:Value) (sz:Nat) (ad:Option Addr) (cap:Nat) (news:List Value):Prop where
 eq:v= .slice ad xs.length cap
 fr:FR (PR m.w m.ok) sz xs news
 cell: ∀a,ad=some a-> ∀(j:Nat) (u:Value),news[j]? =some u->m.w.cell? (a.add j)=some u
 nil:ad=Option.none->xs= []
 le:xs.length<=cap
theorem B6p {k n sz:Nat} (h:k<n*sz):k/sz<n/\k%sz<sz/\k/sz*sz+k%sz=k:=by
 have hsz:0<sz:=by
  grind
 exact ⟨Nat.div_lt_of_lt_mul (by grind),Nat.mod_lt _ hsz,Nat.div_add_mod' k sz⟩
theorem B6h {a:Addr} (h:a.spot=none) (j:Nat):a.add j=⟨a.block,a.off+j,none⟩:=by
 obtain ⟨b,o,sp⟩:=a;simp only at h;subst h;exact A15 b o j
theorem C3Y {m:G7} {sz:Nat} {f:Bool} {xs:List (List AV)} {v:Value} (h:PR m.w m.ok (.lst sz f xs) v):
  ∃ad cap news,B4q m xs v sz ad cap news/\(f=true->cap=xs.length):=by
 cases h with
 |lst sz full xs a cap u hcap hmax hfull hsz hnone hcell hrec=>
  refine ⟨a,cap,(List.range (xs.length*sz)).map (fun k=>u (k/sz) (k%sz)),⟨rfl,⟨by simp,hsz,fun i j c x hi hj=> ?_⟩,fun ad hA j w hj=> ?_,fun hA=> ?_,hcap⟩,hfull⟩
  ·have hjlt:j<c.length:=(D8k.1 hj).1;have hc:=hsz c (D8p hi);have hilt:i<xs.length:=(D8k.1 hi).1;have hlt:i*sz+j<xs.length*sz:=by
    have:(i+1)*sz<=xs.length*sz:=D8y sz hilt
    grind
   have e1:(i*sz+j)/sz=i:=by
    rw [Nat.add_comm,Nat.add_mul_div_right _ _ (by omega),Nat.div_eq_of_lt (by omega)];omega
   have e2:(i*sz+j)%sz=j:=by
    rw [Nat.add_comm,Nat.add_mul_mod_self_right,Nat.mod_eq_of_lt (by omega)]
   grind
  ·rw [D8J] at hj;have hlt:j<xs.length*sz:=by
    grind
   rw [List.getElem?_range hlt] at hj;simp only [Option.map_some,D82] at hj;obtain ⟨d1,d2,d3⟩:=B6p hlt;have hi:=D8o d1;have hc:=hsz _ (D8Z d1);obtain ⟨h1,h2,h3⟩:=hcell _ (j%sz) _ _ hi (D8o (by omega)) ad hA
   rw [B6h h1]
   grind
  simp_all
theorem A6L {m:G7} (hm:MR m) {k:Nat} {v:Value} (h:J8 m (.own k) v) {e sz:Nat} {xs:List (List AV)} (hs:m.s (.tok k)= .tok e sz xs):
  (m.τ k=none/\v= .slice none 0 0/\xs= [])\/ ∃b o cap cur,m.τ k=some (b,o,cap)/\v= .slice (some ⟨b,o,none⟩) xs.length cap/\m.w.heap[b]? =some (.cells cur e (0,0))/\o+cap*sz<=cur.size/\
   xs.length<=cap/\cap<=maxLen/\B4q m xs v sz (some ⟨b,o,none⟩) cap ((cur.toList.drop o).take (xs.length*sz)):=by
 obtain ⟨_,_,h2⟩:=h;obtain ⟨g1,g2⟩:=h2 e sz xs hs;obtain ⟨_,t1,t2,t3,t4⟩:=hm.tok k e sz xs hs;cases hτ:m.τ k with
 |none=>grind
 |some p=>
  obtain ⟨b,o,cap⟩:=p;obtain ⟨_,c1,c2,cur,c3,c4,c5⟩:=t4 b o cap hτ;have hv:=g2 b o cap hτ;have hmul:xs.length*sz<=cap*sz:=D8y sz c1;refine .inr ⟨b,o,cap,cur,rfl,hv,c3,c4,c1,c2,hv,⟨?_,t2,fun i j c x hi hj=> ?_⟩,fun a ha j u hj=> ?_,(fun hn=>by cases hn),c1⟩
  ·simp;omega
  ·obtain ⟨u,q1,q2⟩:=c5 i j c x hi hj;have hilt:i<xs.length:=(D8k.1 hi).1;have hjlt:j<c.length:=(D8k.1 hj).1;rw [t2 c (D8p hi)] at hjlt;have:(i+1)*sz<=xs.length*sz:=D8y sz hilt
   grind
  ·cases ha;rw [A15,cell_of_row m.w b _ cur e _ c3]
   grind
theorem C8p {m:G7} {sz:Nat} {xs:List (List AV)} {cur:Array Value} {o cap:Nat} (hl:xs.length<=cap) (hf:o+cap*sz<=cur.size) (hz:∀c∈xs,c.length=sz)
  (hc:∀(i j:Nat) (c:List AV) (x:AV),xs[i]? =some c->c[j]? =some x-> ∃u,cur[o+(i*sz+j)]? =some u/\PR m.w m.ok x u) {i n:Nat} (hin:i+n<=xs.length):
  FR (PR m.w m.ok) sz ((xs.drop i).take n) ((cur.toList.drop (o+i*sz)).take (n*sz)):=by
 have hmul:(i+n)*sz<=cap*sz:=D8y sz (by omega)
 rw [Nat.add_mul] at hmul;refine ⟨?_,fun c hm=>hz c (List.mem_of_mem_drop (List.mem_of_mem_take hm)),fun p q c x hp hq=> ?_⟩
 ·simp only [D8C,D8I,Array.length_toList];rw [Nat.min_eq_left (by omega),Nat.min_eq_left (by omega)]
 ·rw [D8x] at hp;split at hp
  ·rename_i hpn;rw [D8u] at hp;obtain ⟨u,q1,q2⟩:=hc (i+p) q c x hp hq;have hql:q<c.length:=(D8k.1 hq).1;rw [hz c (D8p hp)] at hql;have:(p+1)*sz<=n*sz:=D8y sz hpn
   grind
  ·cases hp
theorem D25 {m:G7} (hm:MR m) {k i n:Nat} {v:Value} (h:J8 m (.vw k i n) v) {e sz:Nat} {xs:List (List AV)} (hs:m.s (.tok k)= .tok e sz xs):
  ∃ad cap news,B4q m ((xs.drop i).take n) v sz ad cap news:=by
 obtain ⟨_,_,h2⟩:=h;obtain ⟨g0,g1,g2⟩:=h2 e sz xs hs;obtain ⟨_,t1,t2,t3,t4⟩:=hm.tok k e sz xs hs;have hlen:((xs.drop i).take n).length=n:=by grind
 cases hτ:m.τ k with
 |none=>
  have hx:=t3 hτ;subst hx;have hn:n=0:=by grind
  subst hn;have e0:(List.drop i ([]:List (List AV))).take 0= []:=by simp
  rw [e0];exact ⟨none,0, [],g1 hτ,FR.nil _ _,by simp,fun _=>rfl,D8S _⟩
 |some p=>
  obtain ⟨b,o,cap⟩:=p;obtain ⟨_,c1,c2,cur,c3,c4,c5⟩:=t4 b o cap hτ;obtain ⟨o',cap',hv,hn,ho⟩:=g2 b o cap hτ;refine ⟨some ⟨b,o',none⟩,cap',(cur.toList.drop (o+i*sz)).take (n*sz),⟨(by grind),C8p c1 c4 t2 c5 g0,fun a ha j u hj=> ?_,(fun hn=>by cases hn),(by omega)⟩⟩
  cases ha;rw [D8x] at hj;split at hj
  ·rename_i hjn;have hpos:0<n:=by
    grind
   obtain ⟨rfl,_⟩:=ho hpos;rw [A15,cell_of_row m.w b _ cur e _ c3]
   grind
  ·cases hj
theorem B5n {F:Fr} {a:Act} {m:G7} (hx:M4 F a m) {y:AV} {v:Value} (hv:VR m y v) {sz:Nat} {ys:List (List AV)} (h:A4H m.s sz y=some ys):
  ∃ad cap news,B4q m ys v sz ad cap news:=by
 cases y<;>simp only [A4H] at h<;>try cases h
 case lst sz' f xs=>
  split at h
  ·rename_i hb;cases h;have:=D8j hb;subst this;obtain ⟨ad,cap,news,h1,_⟩:=C3Y (m:=m) hv
   grind
  ·cases h
 case nilS=>
  have:v= .slice none 0 0:=hv;exact ⟨none,0, [],this,FR.nil _ _,by simp,fun _=>rfl,D8S _⟩
 case own k=>
  split at h
  ·rename_i e sz' xs hs;split at h
   ·rename_i hb;cases h;have:=D8j hb;subst this;rcases A6L hx.mr hv hs with ⟨_,rfl,rfl⟩|⟨b,o,cap,cur,_,_,_,_,_,_,hr⟩
    ·exact ⟨none,0, [],rfl,FR.nil _ _,by simp,fun _=>rfl,D8S _⟩
    grind
   ·cases h
  ·cases h
 case vw k i n=>
  split at h
  ·rename_i e sz' xs hs;split at h
   ·rename_i hb;cases h;have:=D8j hb;subst this;exact D25 hx.mr hv hs
   ·cases h
  ·cases h
theorem B4q.first {m:G7} {xs:List (List AV)} {v:Value} {sz:Nat} {ad:Option Addr} {cap:Nat} {news:List Value} (h:B4q m xs v sz ad cap news) (P:Program) (w:World)
  (hcell:∀a,ad=some a-> ∀(j:Nat) (u:Value),news[j]? =some u->w.cell? (a.add j)=some u):
  (Builtin.firstCells sz xs.length v).run P w= .ok news.toArray w:=by
 rw [h.eq];cases ad with
 |none=>
  have:=h.nil rfl;subst this;have hn:news= []:=D8V (by simpa using h.fr.len)
  subst hn
  rfl
 |some a=>exact run_firstCells_some (P:=P) w sz xs.length a xs.length cap news (by simpa using h.fr.len) (hcell a rfl)
theorem B7v {P:Program} (w:World) (t ty e:TypeId) (ei:TI) (ht:P.underlying t=some (.slice e)) (he:Q9 P e ei) (g o sLen sCap:Nat) (cur:Array Value)
  (hg:w.heap[g]? =some (.cells cur e (0,0))) (y:Value) (n:Nat) (news:List Value) (hlen:(Builtin.lenOf y).run P w= .ok n w) (hf:(Builtin.firstCells ei.size n y).run P w= .ok news.toArray w)
  (h1:∀u∈news,u.oneCell' =true) (hroom:sLen+n<=sCap) (hfit:o+(sLen*ei.size+news.length)<=cur.size):
  (Builtin.append_ #[t,t] ty #[.slice (some ⟨g,o,none⟩) sLen sCap,y]).run P w=
   .ok (.slice (some ⟨g,o,none⟩) (sLen+n) sCap) (w.setRow g (cur.toList.take (o+sLen*ei.size)++news++cur.toList.drop (o+sLen*ei.size+news.length)).toArray):=by
 have hst:=run_storeCells_at P g (o+sLen*ei.size) e news 0 cur w hg (by omega) h1
 simp only [Nat.add_zero] at hst;have hs:=he.size w;simp [Builtin.append_,run_underlying ht,hs,hlen,hroom,hf,Addr.add_lit,hst]
theorem C1W {P:Program} (w:World) (t ty e:TypeId) (ei:TI) (ht:P.underlying t=some (.slice e)) (he:Q9 P e ei) (y:Value)
  (hlen:(Builtin.lenOf y).run P w= .ok 0 w) (hf:(Builtin.firstCells ei.size 0 y).run P w= .ok #[] w):
  (Builtin.append_ #[t,t] ty #[.slice none 0 0,y]).run P w= .ok (.slice none 0 0) w:=by
 have hs:=he.size w;simp [Builtin.append_,run_underlying ht,hs,hlen,hf]
theorem C3J {P:Program} {e:TypeId} {ei:TI} (he:Q9 P e ei) (z:Value) (i:TypeInfo) (hi:P.info? e=some i) (hz:i.zero=some z) (olds news:List Value) (w:World) (need old:Nat)
  (hl:olds.length+news.length=need*ei.size):
  (olds.toArray++news.toArray++Builtin.zeroCells z.cells (grownCap w need old e-need)).size=grownCap w need old e*ei.size:=by
 obtain ⟨i',i1,i2,_,z',i4,z1,_⟩:=he.info;rw [hi] at i1;cases i1;rw [hz] at i4;cases i4;have hge:=grownCap_ge w need old e;simp only [Array.size_append,List.size_toArray,size_zeroCells,z1];rw [hl,<-Nat.add_mul]
 grind
end Go.Vc
namespace Go.Vc
open Go.RowKit
theorem B3S {F:Fr} {A:Nat->Prop} {id:Nat} {o:Oper} {s:AS} (hd:∀k,o.dst=some k->k<F.N) (es:U5)
  (h:∀a m,M4 F a m->m.s=s->m.A=A-> ¬A id-> ∃v m',(execOp a.eval o).run F.P m.w= .ok (.value v) m'.w/\M4 F a m' /\m'.s=s.apply es/\m'.A=(fun i=>A i\/i=id)/\VR m' (.own id) v):
  OpOk F A id o s (dst o.dst (.own id)++es):=
 A5h fun a m hx hs hA hid=>by
  obtain ⟨v,m',h1,h2,h3,h4,h5⟩:=h a m hx hs hA hid;refine ⟨v,m'.w,h1, ?_⟩;have h6:=h2.dst o.dst _ _ hd h5;cases hod:o.dst with
  |none=>
   rw [hod] at h6;refine ⟨m'.β,m'.τ,m'.ok, ?_⟩;have:(⟨s.apply (dst none (.own id)++es),m'.β,m'.τ,fun i=>A i\/i=id,m'.ok,m'.w⟩:G7)= { m' with s:=m'.s.apply (dst none (.own id))}:=by
    rw [h3,<-h4];rfl
   grind
  |some d=>
   rw [hod] at h6;refine ⟨m'.β,m'.τ,m'.ok, ?_⟩;have:(⟨s.apply (dst (some d) (.own id)++es),m'.β,m'.τ,fun i=>A i\/i=id,m'.ok,m'.w⟩:G7)= { m' with s:=m'.s.apply (dst (some d) (.own id))}:=by
    rw [<-h4];simp only [dst,AS.apply,List.cons_append,List.nil_append,h3]
   grind
theorem A9J {m:G7} {id:Nat} {e sz:Nat} {xs:List (List AV)} {w' :World} {b o cap:Nat}:
  VR (m.claim id (some (b,o,cap)) e sz xs w') (.own id) (.slice (some ⟨b,o,none⟩) xs.length cap):=by
 refine ⟨Or.inr rfl,rfl,fun e' sz' xs' hs=> ?_⟩;rcases A0i hs with ⟨_,rfl,rfl,rfl⟩|⟨hne,_⟩
 ·refine ⟨fun hn=> ?_,fun b' o' cap' hb=> ?_⟩
  ·have hn' :L4 m.τ id (some (b,o,cap)) id=none:=hn;rw [H3] at hn';cases hn'
  ·have hb' :L4 m.τ id (some (b,o,cap)) id=some (b',o',cap'):=hb;rw [H3] at hb';grind
 omega
theorem C1E {m:G7} {id:Nat} {e sz:Nat} {w' :World}:VR (m.claim id none e sz [] w') (.own id) (.slice none 0 0):=by
 refine ⟨Or.inr rfl,rfl,fun e' sz' xs' hs=> ?_⟩;refine ⟨fun _=>rfl,fun b' o' cap' hb=> ?_⟩;have hb' :L4 m.τ id none id=some (b',o',cap'):=hb;rw [H3] at hb';cases hb'
theorem D0H {m:G7} {sz:Nat} {xs:List (List AV)} {news:List Value} (h:FR (PR m.w m.ok) sz xs news): ∀u∈news,u.oneCell' =true:=by
 intro u hu;obtain ⟨j,hj,rfl⟩:=List.mem_iff_getElem.1 hu;rw [h.len] at hj;obtain ⟨d1,d2,d3⟩:=B6p hj;have hc:=h.esz _ (D8Z d1);obtain ⟨u,q1,q2⟩:=h.at_ (j/sz) (j%sz) _ _ (D8o d1) (D8o (by omega))
 rw [d3] at q1;have:u=news[j]:=by
  grind
 rw [<-this];exact q2.oneCell
theorem A5H {R:AV->Value->Prop} {sz:Nat} {xs:List (List AV)} {cells:List Value} (h:FR R sz xs cells) (cur:Array Value) (o:Nat) (hc:∀(j:Nat) (u:Value),cells[j]? =some u->cur[o+j]? =some u):
  ∀(i j:Nat) (c:List AV) (x:AV),xs[i]? =some c->c[j]? =some x-> ∃u,cur[o+(i*sz+j)]? =some u/\R x u:=fun i j c x hi hj=>by
 obtain ⟨u,q1,q2⟩:=h.at_ i j c x hi hj
 grind
theorem B9T {F:Fr} {a:Act} {m:G7} (h:M4 F a m) (id e:Nat) (ei:TI) (hp:0<ei.size) (xs:List (List AV)) (cells:List Value) (hfr:FR (PR m.w m.ok) ei.size xs cells)
  (need cap:Nat) (hneed:need=xs.length) (hcap:need<=cap) (hmax:cap<=maxLen) (row:Array Value) (hrow:row.size=cap*ei.size) (hpre:∀(j:Nat) (u:Value),cells[j]? =some u->row[j]? =some u) (hA:¬m.A id):
  M4 F a (m.claim id (some (m.w.heap.size,0,cap)) e ei.size xs (m.w.drew.alloc (.cells row e))):=
 h.claim id m.w.heap.size 0 cap e ei.size xs (m.w.drew.alloc (.cells row e)) row hA (At.drewAlloc _ _ _) (B2L h.mr) (h.keep.drew.alloc _ _) (.inl h.keep.size) hp hfr.esz (by omega) hmax
  (heap_alloc_new m.w.drew _) (by omega) (A5H hfr row 0 (fun j u hj=>by grind))
theorem C4h (l:List Value) (r:Array Value) (j:Nat) (u:Value) (h:l[j]? =some u):(l.toArray++r)[j]? =some u:=by
 grind
theorem B8s {F:Fr} {A:Nat->Prop} {id:Nat} {o:Oper} {s:AS} (hd:∀k,o.dst=some k->k<F.N) (x y:Operand) (t e:TypeId)
  (ho:o.op= .call { callee:= .builtin .append,args:= #[x,y],argTypes:= #[t,t]}) (ht:F.P.underlying t=some (.slice e)) (ei:TI) (he:Q9 F.P e ei) (hp:0<ei.size)
  (ys:List (List AV)) (hy:A4H s ei.size (s.val y)=some ys) (xs:List (List AV)) (es:U5)
  (hb1:(xs.length+ys.length)*ei.bytes<=140737488355328) (hb2:xs.length+ys.length<=140737488355328)
  (hx:(∃k,s.val x= .own k/\s (.tok k)= .tok e ei.size xs/\es= [(.tok id, .tok e ei.size (xs++ys)),(.tok k, .none)])\/
   (s.val x= .nilS/\xs= []/\es= [(.tok id, .tok e ei.size ys)])\/
   (s.val x= .lst ei.size true xs/\ys≠ []/\es= [(.tok id, .tok e ei.size (xs++ys))])):
  OpOk F A id o s (dst o.dst (.own id)++es):=
 B3S hd es fun a m h hs hA hid=>by
  subst hs hA;obtain ⟨i,i1,i2,i3,z,i4,z1,z2,z3⟩:=he.info;obtain ⟨yad,ycap,news,hr⟩:=B5n h (h.val y) hy;have hnl:news.length=ys.length*ei.size:=hr.fr.len;have hone:=D0H hr.fr;have hexec: ∀v w',(Builtin.append_ #[t,t] o.type #[a.eval x,a.eval y]).run F.P m.w= .ok v w' ->(execOp a.eval o).run F.P m.w= .ok (.value v) w' :=by
   intro v w' hv;simp only [execOp,ho,resolve,invoke,builtin,Sem.run_bind,Sem.run_pure,Result.andThen_ok,List.map_toArray,D83,List.map_nil,hv]
  have grow: ∀(m1:G7),M4 F a m1->m1.w=m.w->m1.ok=m.ok->m1.A=m.A-> ∀(xad:Addr) (xcap:Nat) (olds:List Value),a.eval x= .slice (some xad) xs.length xcap->FR (PR m.w m.ok) ei.size xs olds->
    (∀(j:Nat) (u:Value),olds[j]? =some u->m.w.cell? (xad.add j)=some u)->xcap<xs.length+ys.length->xs.length<=xcap->
    ∃cap row,(execOp a.eval o).run F.P m.w= .ok (.value (.slice (some ⟨m.w.heap.size,0,none⟩) (xs.length+ys.length) cap)) (m.w.drew.alloc (.cells row e))/\
     M4 F a (m1.claim id (some (m.w.heap.size,0,cap)) e ei.size (xs++ys) (m.w.drew.alloc (.cells row e))):=by
   intro m1 h1 hw1 hok1 hA1 xad xcap olds hxv hfo hco hgr hle;have hyne: ∃yad',yad=some yad' :=by
    cases hya:yad with
    |some q=>simp
    |none=>have:=hr.nil hya;grind
   obtain ⟨yad',rfl⟩:=hyne;have hrun:=run_append_grow (P:=F.P) m.w t o.type e i z ht i1 i4 xad xs.length xcap olds (by rw [i2];exact hfo.len) hco yad' ys.length ycap news (by grind) (hr.cell yad' rfl) hgr (by omega) (by rw [i3];exact growslice_fits hgr hb1)
   rw [<-hxv,<-hr.eq] at hrun;refine ⟨_,_,hexec _ _ hrun, ?_⟩;have hfr:FR (PR m1.w m1.ok) ei.size (xs++ys) (olds++news):=by rw [hw1,hok1];exact hfo.append hr.fr
   rw [<-hw1];refine B9T h1 id e ei hp (xs++ys) (olds++news) hfr (xs.length+ys.length) _ (by simp) (grownCap_ge _ _ _ _) (grownCap_le_maxLen _ _ _ _ (by unfold maxLen;omega)) _ ?_ ?_ (by grind)
   ·rw [hw1];exact C3J he z i i1 i4 olds news m.w _ _ (by rw [hfo.len,hnl,Nat.add_mul])
   grind
  have fromNil: ∀(m1:G7),M4 F a m1->m1.w=m.w->m1.ok=m.ok->m1.A=m.A->a.eval x= .slice none 0 0->
    ∃v m',(execOp a.eval o).run F.P m.w= .ok (.value v) m'.w/\M4 F a m' /\m'.s=m1.s.put (.tok id) (.tok e ei.size ys)/\m'.A=(fun i=>m.A i\/i=id)/\VR m' (.own id) v:=by
   intro m1 h1 hw1 hok1 hA1 hxv
   by_cases hy0:ys= []
   ·subst hy0;have hn0:news= []:=D8V (by grind)
    subst hn0;have hf:=hr.first F.P m.w hr.cell;have hrun:=C1W (P:=F.P) m.w t o.type e ei ht he (a.eval y) (by rw [hr.eq];rfl) (by omega)
    rw [<-hxv] at hrun;refine ⟨.slice none 0 0,m1.claim id none e ei.size [] m1.w, ?_,h1.claimNil id e ei.size (by grind) hp,rfl,by rw [<-hA1];rfl, ?_⟩
    ·rw [hexec _ _ hrun,hxv];show Result.ok _ _=Result.ok _ m1.w;rw [hw1]
    ·exact C1E
   ·have hpos:0<ys.length:=List.length_pos_iff.2 hy0;obtain ⟨yad',rfl⟩: ∃q,yad=some q:=by
     cases hya:yad with
     |some q=>simp
     |none=>exact absurd (hr.nil hya) hy0
    have hle' :ys.length*ei.bytes<=(xs.length+ys.length)*ei.bytes:=D8y _ (by omega)
    have hrun:=run_append_nil (P:=F.P) m.w t o.type e i z ht i1 i4 yad' ys.length ycap news (by grind) (hr.cell yad' rfl) hpos (by omega) (by grind)
    rw [<-hxv,<-hr.eq] at hrun;have hfr:FR (PR m1.w m1.ok) ei.size ys news:=by rw [hw1,hok1];exact hr.fr
    have hclaim:=B9T h1 id e ei hp ys news hfr ys.length (grownCap m.w ys.length 0 e) rfl (grownCap_ge _ _ _ _) (grownCap_le_maxLen _ _ _ _ (by unfold maxLen;omega))
     (news.toArray++Builtin.zeroCells z.cells (grownCap m.w ys.length 0 e-ys.length)) (by
      have:=C3J he z i i1 i4 [] news m.w ys.length 0 (by grind)
      grind) (fun j u hj=>C4h _ _ _ _ hj) (by grind)
    refine ⟨_,_, ?_,hclaim,rfl,by rw [<-hA1];rfl,A9J⟩
    rw [hexec _ _ hrun,<-hw1]
    rfl
  rcases hx with ⟨k,hx1,hx2,rfl⟩|⟨hx1,rfl,rfl⟩|⟨hx1,hx2,rfl⟩
  ·have hv:=h.val x;rw [hx1] at hv;rcases A6L h.mr hv hx2 with ⟨_,hv',rfl⟩|⟨b,oo,cap,cur,hτ,hv',hcur,hfit,hle,hmax,hrx⟩
   ·obtain ⟨v,m',h1,h2,h3,h4,h5⟩:=fromNil (m.dropTok k) (h.dropTok k) rfl rfl rfl hv';exact ⟨v,m',h1,h2,h3,h4,h5⟩
   ·by_cases hroom:xs.length+ys.length<=cap
    ·have hm1:(xs.length+ys.length)*ei.size<=cap*ei.size:=D8y _ hroom;rw [Nat.add_mul] at hm1;have hf:=hr.first F.P m.w hr.cell;have hrun:=B7v (P:=F.P) m.w t o.type e ei ht he b oo xs.length cap cur hcur (a.eval y) ys.length news (by rw [hr.eq];rfl) hf hone hroom (by omega)
     rw [<-hv'] at hrun;have hfr:FR (PR m.w m.ok) ei.size (xs++ys) ((cur.toList.drop oo).take (xs.length*ei.size)++news):=hrx.fr.append hr.fr;have hlt:b<m.w.heap.size:=A0V h.mr hx2 hτ;have hrl:((cur.toList.drop oo).take (xs.length*ei.size)).length=xs.length*ei.size:=hrx.fr.len;have hclaim:=(h.dropTok k).claim id b oo cap e ei.size (xs++ys) (m.w.setRow b (cur.toList.take (oo+xs.length*ei.size)++news++cur.toList.drop (oo+xs.length*ei.size+news.length)).toArray)
      (cur.toList.take (oo+xs.length*ei.size)++news++cur.toList.drop (oo+xs.length*ei.size+news.length)).toArray hid (At.setRow _ _ _) (B1w h.mr hx2 hτ)
      (h.keep.setRow _ cur _ e hcur (by grind) (.inl (h.newT k e ei.size xs _ hx2 hτ))) (h.newT k e ei.size xs _ hx2 hτ) hp hfr.esz (by grind) hmax (setRow_heap _ _ _ _ _ _ hcur)
      (by simp;omega)
      (A5H hfr _ oo (fun j u hj=>by
       simp only [List.getElem?_toArray];rw [D8E]
       by_cases hj1:j<xs.length*ei.size
       ·grind
       ·rw [D8A (by omega),hrl] at hj
        have hjn:j-xs.length*ei.size<news.length:=(D8k.1 hj).1;rw [D8A (by simp;omega),D8z (by simp;omega)]
        grind))
     refine ⟨_,_,hexec _ _ hrun,hclaim,rfl,rfl, ?_⟩;have:=A9J (m:=m.dropTok k) (id:=id) (e:=e) (sz:=ei.size) (xs:=xs++ys) (w' :=(m.w.setRow b (cur.toList.take (oo+xs.length*ei.size)++news++cur.toList.drop (oo+xs.length*ei.size+news.length)).toArray)) (b:=b) (o:=oo) (cap:=cap)
     grind
    ·obtain ⟨cap',row,h1,h2⟩:=grow (m.dropTok k) (h.dropTok k) rfl rfl rfl ⟨b,oo,none⟩ cap _ hv' hrx.fr (hrx.cell _ rfl) (by omega) hle
     refine ⟨_,_,h1,h2,rfl,rfl, ?_⟩;have:=A9J (m:=m.dropTok k) (id:=id) (e:=e) (sz:=ei.size) (xs:=xs++ys) (w' :=m.w.drew.alloc (.cells row e)) (b:=m.w.heap.size) (o:=0) (cap:=cap')
     grind
  ·have hv:=h.val x;rw [hx1] at hv;exact fromNil m h rfl rfl rfl hv
  ·have hv:=h.val x;rw [hx1] at hv;obtain ⟨xad,xcap,olds,hrx,hfull⟩:=C3Y (m:=m) hv;have hcapx:=hfull rfl;have hpos:0<ys.length:=List.length_pos_iff.2 hx2;cases hxa:xad with
   |none=>
    subst hxa;have hx0:=hrx.nil rfl;subst hx0;have hv' :a.eval x= .slice none 0 0:=by rw [hrx.eq,hcapx];rfl
    obtain ⟨v,m',h1,h2,h3,h4,h5⟩:=fromNil m h rfl rfl rfl hv';exact ⟨v,m',h1,h2,h3,h4,h5⟩
   |some xad' =>
    subst hxa;obtain ⟨cap',row,h1,h2⟩:=grow m h rfl rfl rfl xad' xcap olds hrx.eq hrx.fr (hrx.cell _ rfl) (by omega) (by omega)
    refine ⟨_,_,h1,h2,rfl,rfl, ?_⟩;have:=A9J (m:=m) (id:=id) (e:=e) (sz:=ei.size) (xs:=xs++ys) (w' :=m.w.drew.alloc (.cells row e)) (b:=m.w.heap.size) (o:=0) (cap:=cap')
    grind
theorem C5R {F:Fr} {A:Nat->Prop} {id:Nat} {o:Oper} {s:AS} (hd:∀k,o.dst=some k->k<F.N) (x y:Operand) (t e:TypeId)
  (ho:o.op= .call { callee:= .builtin .append,args:= #[x,y],argTypes:= #[t,t]}) (ht:F.P.underlying t=some (.slice e)) (ei:TI) (he:Q9 F.P e ei) (hp:0<ei.size)
  (ys:List (List AV)) (hy:A4H s ei.size (s.val y)=some ys) (k n:Nat) (xs:List (List AV)) (hx:s.val x= .vw k 0 n) (hx2:s (.tok k)= .tok e ei.size xs) (hn:0<n) (hle:n+ys.length<=xs.length):
  OpOk F A id o s (dst o.dst (.own id)++ [(.tok id, .tok e ei.size (xs.take n++ys)),(.tok k, .none)]):=
 B3S hd _ fun a m h hs hA hid=>by
  subst hs hA;obtain ⟨yad,ycap,news,hr⟩:=B5n h (h.val y) hy;have hnl:news.length=ys.length*ei.size:=hr.fr.len;have hone:=D0H hr.fr;have hexec: ∀v w',(Builtin.append_ #[t,t] o.type #[a.eval x,a.eval y]).run F.P m.w= .ok v w' ->(execOp a.eval o).run F.P m.w= .ok (.value v) w' :=by
   intro v w' hv;simp only [execOp,ho,resolve,invoke,builtin,Sem.run_bind,Sem.run_pure,Result.andThen_ok,List.map_toArray,D83,List.map_nil,hv]
  have hv:J8 m (.vw k 0 n) (a.eval x):=by have:=h.val x;rw [hx] at this;exact this
  obtain ⟨_,_,h2⟩:=hv;obtain ⟨g0,g1,g2⟩:=h2 e ei.size xs hx2;obtain ⟨_,t1,t2,t3,t4⟩:=h.mr.tok k e ei.size xs hx2;cases hτ:m.τ k with
  |none=>
   grind
  |some p=>
   obtain ⟨b,oo,cap⟩:=p;obtain ⟨_,c1,hmax,cur,hcur,hfit,c5⟩:=t4 b oo cap hτ;obtain ⟨o',cap',hv',_,hoo⟩:=g2 b oo cap hτ;obtain ⟨ho1,ho2⟩:=hoo hn;rw [Nat.zero_mul,Nat.add_zero] at ho1;rw [Nat.sub_zero] at ho2;rw [ho1,ho2] at hv';have hroom:n+ys.length<=cap:=by omega
   have hm1:(n+ys.length)*ei.size<=cap*ei.size:=D8y _ hroom;rw [Nat.add_mul] at hm1;have hf:=hr.first F.P m.w hr.cell;have hrun:=B7v (P:=F.P) m.w t o.type e ei ht he b oo n cap cur hcur (a.eval y) ys.length news (by rw [hr.eq];rfl) hf hone hroom (by omega)
   rw [<-hv'] at hrun;have hpre:=C8p (m:=m) (i:=0) (n:=n) c1 hfit t2 c5 (by omega)
   simp only [Nat.zero_mul,Nat.add_zero,List.drop_zero] at hpre;have hfr:FR (PR m.w m.ok) ei.size (xs.take n++ys) ((cur.toList.drop oo).take (n*ei.size)++news):=hpre.append hr.fr;have hlt:b<m.w.heap.size:=A0V h.mr hx2 hτ;have htl:(xs.take n).length=n:=by grind
   have hrl:((cur.toList.drop oo).take (n*ei.size)).length=n*ei.size:=by rw [hpre.len,htl]
   have hclaim:=(h.dropTok k).claim id b oo cap e ei.size (xs.take n++ys) (m.w.setRow b (cur.toList.take (oo+n*ei.size)++news++cur.toList.drop (oo+n*ei.size+news.length)).toArray)
    (cur.toList.take (oo+n*ei.size)++news++cur.toList.drop (oo+n*ei.size+news.length)).toArray hid (At.setRow _ _ _) (B1w h.mr hx2 hτ)
    (h.keep.setRow _ cur _ e hcur (by grind) (.inl (h.newT k e ei.size xs _ hx2 hτ))) (h.newT k e ei.size xs _ hx2 hτ) hp hfr.esz (by grind) hmax (setRow_heap _ _ _ _ _ _ hcur)
    (by simp;omega)
    (A5H hfr _ oo (fun j u hj=>by
     simp only [List.getElem?_toArray];rw [D8E]
     by_cases hj1:j<n*ei.size
     ·grind
     ·rw [D8A (by omega),hrl] at hj
      have hjn:j-n*ei.size<news.length:=(D8k.1 hj).1;rw [D8A (by simp;omega),D8z (by simp;omega)]
      grind))
   refine ⟨_,_,hexec _ _ hrun,hclaim,rfl,rfl, ?_⟩;have:=A9J (m:=m.dropTok k) (id:=id) (e:=e) (sz:=ei.size) (xs:=xs.take n++ys) (w' :=(m.w.setRow b (cur.toList.take (oo+n*ei.size)++news++cur.toList.drop (oo+n*ei.size+news.length)).toArray)) (b:=b) (o:=oo) (cap:=cap)
   grind
end Go.Vc
