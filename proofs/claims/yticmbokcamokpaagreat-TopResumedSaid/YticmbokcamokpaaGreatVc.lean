/- The framework, part c: conditions of code, contracts, loops on plain data, arguments. -/
import Derived.Deep.LoopGhost
import Derived.Laws.AppendOwn
import Derived.Laws.BytesArg
import Derived.Laws.Externs
import Derived.Lib.BitFns
import Derived.Lib.Bytes
import Derived.Lib.Slices
import Derived.Lib.Small
import Derived.Lib.Strings
import Derived.Lib.Walk
import Derived.LoopN
import Derived.OpenShut
import Derived.ProofKit
import Derived.Sort.Grow
import Derived.Sort.Row
import Derived.Test.YticmbokcamokpaaGreatVb
set_option linter.unusedVariables false
set_option linter.unusedSimpArgs false
namespace Go.Vc
def C2x:AV->List Nat
 | .own t=> [t]
 | .ptr i _=> [i]
 | .elt t _ _=> [t]
 | .ali t=> [t]
 | .vw t _ _=> [t]
 | .pix i _=> [i]
 | .bsl i _=> [i]
 |_=> []
def U7:AV->List Nat
 | .own t=> [t]
 | .ptr i _=> [i]
 | .elt t _ _=> [t]
 | .ali t=> [t]
 | .vw t _ _=> [t]
 | .pix i _=> [i]
 | .bsl i _=> [i]
 | .clo _ bs cs=>bs.flatMap C2x++cs.flatMap C2x
 |_=> []
theorem D0o {v:AV} (h:A5d v=true):U7 v=C2x v:=by
 cases v<;>first|rfl|(simp [A5d] at h)
def B13 (k:Nat) (l:List Nat):Bool:=l.any (Nat.beq k)
theorem B6D {k:Nat} {l:List Nat} (h:B13 k l=true):k∈l:=by
 obtain ⟨x,h1,h2⟩:=List.any_eq_true.1 h
 simp_all
def B8:AV->List Nat
 | .agg cs=>cs.flatMap U7
 |v=>U7 v
def K6 (R:List Nat) (s s':AS):Prop:= ∀i∈R,s (.box i)=s' (.box i)/\s (.tok i)=s' (.tok i)
theorem K6.mono {R R' :List Nat} {s s' :AS} (h:K6 R s s') (hs:∀i∈R',i∈R):K6 R' s s' :=fun i hi=>h i (hs i hi)
section
variable {s s' :AS}
theorem B7n (c:AV) (h:K6 (U7 c) s s'):A4R s c=A4R s' c:=by
 cases c<;>try rfl
 case own t=>simp only [A4R,(h t (by simp [U7])).2]
theorem A8X: ∀(cs:List AV),K6 (cs.flatMap U7) s s' ->Q5 s cs=Q5 s' cs
 | [],_=>rfl
 |c::cs,h=>by
  simp only [Q5,B7n c (h.mono fun i hi=>by simp [hi]),A8X cs (h.mono fun i hi=>by grind)]
theorem C3L (ws:L5) (t:Option Nat) (c:AV) (h:K6 (U7 c) s s'):hv0 s ws t c=hv0 s' ws t c:=by
 cases c<;>try rfl
 case own k=>simp only [hv0,B7n (.own k) h]
theorem B8e (ws:L5) (t:Option Nat): ∀(cs:List AV),K6 (cs.flatMap U7) s s' ->hvL s ws t cs=hvL s' ws t cs
 | [],_=>rfl
 |c::cs,h=>by
  simp only [hvL,C3L ws t c (h.mono fun i hi=>by simp [hi]),B8e ws t cs (h.mono fun i hi=>by grind)]
theorem D0L (ws:L5) (t:Option Nat) (c:AV) (h:K6 (B8 c) s s'):hv1 s ws t c=hv1 s' ws t c:=by
 cases c
 case agg cs=>simp only [hv1,B8e ws t cs h]
 all_goals simp only [hv1];exact C3L ws t _ h
theorem C3M (ws:L5) (t:Option Nat): ∀(cs:List AV),K6 (cs.flatMap B8) s s' ->hvA s ws t cs=hvA s' ws t cs
 | [],_=>rfl
 |c::cs,h=>by
  simp only [hvA,D0L ws t c (h.mono fun i hi=>by simp [hi]),C3M ws t cs (h.mono fun i hi=>by grind)]
theorem C69 (c:AV) (h:K6 (B8 c) s s'):B6q s c=B6q s' c:=by
 cases c<;>try rfl
 case own t=>simp only [B6q,(h t (by simp [B8,U7])).2]
theorem B7h (sz:Nat) (c:AV) (h:K6 (B8 c) s s'):A4H s sz c=A4H s' sz c:=by
 cases c<;>try rfl
 case own t=>simp only [A4H,(h t (by simp [B8,U7])).2]
 case vw t i n=>simp only [A4H,(h t (by simp [B8,U7])).2]
theorem C3x (c:AV):c.cells.flatMap U7=B8 c:=by
 cases c<;>simp [AV.cells,B8]
def A1w (s:AS) (l:List Nat):List Nat:=l.flatMap fun i=>match s (.box i) with
 | .box cs=>cs.flatMap U7
 |_=> []
def A0E (s:AS):Nat->List Nat->List Nat
 |0,l=>l
 |n+1,l=>l++A0E s n (A1w s l)
def A05 (s:AS) (v:AV):List Nat:=A0E s 2 (A1w s (B8 v))
theorem B05: ∀ {l:List Nat},K6 l s s' ->A1w s l=A1w s' l
 | [],_=>rfl
 |i::l,h=>by
  unfold A1w;rw [List.flatMap_cons,List.flatMap_cons,(h i (by simp)).1]
  have:=B05 (l:=l) (h.mono fun i hi=>by simp [hi])
  unfold A1w at this;rw [this]
theorem C7s (l:List Nat): ∀(n:Nat),∀i∈l,i∈A0E s n l
 |0,_,hi=>hi
 |_+1,i,hi=>by simp [A0E,hi]
theorem B30: ∀(n:Nat) {l:List Nat},K6 (A0E s n l) s s' ->A0E s n l=A0E s' n l
 |0,_,_=>rfl
 |n+1,l,h=>by
  have h1:A1w s l=A1w s' l:=B05 (h.mono (C7s l (n+1)));simp only [A0E];rw [<-h1,B30 n (h.mono fun i hi=>by simp [A0E,hi])]
theorem B7S {v:AV} (h:K6 (B8 v) s s') (h':K6 (A05 s v) s s'):A05 s v=A05 s' v:=by
 unfold A05 at*
 rw [B30 2 h',B05 h]
theorem C3z {s:AS} {a b:List Nat} (h:∀i∈a,i∈b): ∀i∈A1w s a,i∈A1w s b:=fun i hi=>by
 obtain ⟨k,hk,hi⟩:=D8O.1 hi;exact D8O.2 ⟨k,h k hk,hi⟩
theorem C1K {s:AS}: ∀(n:Nat) {a b:List Nat},(∀i∈a,i∈b)-> ∀i∈A0E s n a,i∈A0E s n b
 |0,_,_,h,i,hi=>h i hi
 |n+1,a,b,h,i,hi=>by
  simp only [A0E,D8W] at hi⊢;rcases hi with hi|hi
  ·grind
  ·exact .inr (C1K n (C3z h) i hi)
theorem C02 {s:AS} {v w:AV} (h:∀i∈B8 v,i∈B8 w): ∀i∈A05 s v,i∈A05 s w:=C1K 2 (C3z h)
def A3x (s:AS) (args:List AV):List Nat:=args.flatMap fun v=>B8 v++A05 s v
def B9e (s:AS) (args:List AV):List Nat:=args.flatMap fun v=>B8 v++A0E s 1 (A1w s (B8 v))
theorem D0u (s:AS) (a b:List Nat):A1w s (a++b)=A1w s a++A1w s b:=List.flatMap_append
theorem C0C {s:AS} {v:AV}:(∀i∈B8 v++A0E s 1 (A1w s (B8 v)),i∈B8 v++A05 s v)/\ ∀i∈A1w s (B8 v++A0E s 1 (A1w s (B8 v))),i∈B8 v++A05 s v:=by
 constructor
 ·intro i hi;simp only [A05,A0E,D8W] at*
  grind
 ·intro i hi;simp only [D0u,A05,A0E,D8W] at*
  grind
theorem B8o {s:AS} {args:List AV} {i:Nat} (h:i∈B9e s args):i∈A3x s args/\ ∀cs,s (.box i)= .box cs-> ∀k∈cs.flatMap U7,k∈A3x s args:=by
 obtain ⟨v,hv,hi⟩:=D8O.1 h;refine ⟨D8O.2 ⟨v,hv,C0C.1 i hi⟩,fun cs hcs k hk=>D8O.2 ⟨v,hv,C0C.2 k ?_⟩⟩;exact D8O.2 ⟨i,hi,by grind⟩
theorem C7d {args:List AV} (h:K6 (A3x s args) s s'):B9e s args=B9e s' args:=by
 unfold B9e;have key: ∀v∈args,B8 v++A0E s 1 (A1w s (B8 v))=B8 v++A0E s' 1 (A1w s' (B8 v)):=fun v hv=>by
  have hf: ∀i∈B8 v++A05 s v,i∈A3x s args:=fun i hi=>D8O.2 ⟨v,hv,hi⟩;have h1:A1w s (B8 v)=A1w s' (B8 v):=B05 (h.mono fun i hi=>hf i (by simp [hi]))
  rw [<-h1,B30 1 (h.mono fun i hi=>hf i (C0C.1 i (by simp [hi])))]
 clear h
 induction args with
 |nil=>rfl
 |cons v args ih=>grind
theorem C88 {args:List AV} (h:K6 (A3x s args) s s'):A3x s args=A3x s' args:=by
 unfold A3x at*
 have key: ∀v∈args,B8 v++A05 s v=B8 v++A05 s' v:=fun v hv=>by
  have hf: ∀i∈B8 v++A05 s v,i∈args.flatMap (fun v=>B8 v++A05 s v):=fun i hi=>D8O.2 ⟨v,hv,hi⟩;rw [B7S (h.mono fun i hi=>hf i (by simp [hi])) (h.mono fun i hi=>hf i (by simp [hi]))]
 clear h
 induction args with
 |nil=>rfl
 |cons v args ih=>grind
def A28 (s:AS) (args:List AV) (ws:L5) (t:Option Nat):Bool:=ws.all (fun p=>B13 p.1 (B9e s args))&&(match t with
 |none=>true
 |some k=>B13 k (A3x s args))
theorem B8a {args:List AV} {ws:L5} {t:Option Nat} (h:K6 (A3x s args) s s'):A28 s args ws t=A28 s' args ws t:=by
 unfold A28;rw [C7d h,C88 h]
theorem C3N {ws0:L5} {t:Option Nat} {args:List AV} (h:K6 (A3x s args) s s'): ∀ {ws:L5},(∀p∈ws,p.1∈B9e s args)->hvB s ws0 t ws=hvB s' ws0 t ws
 | [],_=>rfl
 |(i,off,len)::r,hin=>by
  have hi:=B8o (hin (i,off,len) (by simp))
  have hb:=(h i hi.1).1;simp only [hvB,<-hb,C3N h (ws:=r) (fun p hp=>hin p (by simp [hp]))]
  cases hcs:s (.box i)<;>try rfl
  rename_i cs;have:hvL s ws0 t ((cs.drop off).take len)=hvL s' ws0 t ((cs.drop off).take len):=B8e ws0 t _ (h.mono fun k hk=>by
   obtain ⟨c,hc,hk⟩:=D8O.1 hk;exact hi.2 cs hcs k (D8O.2 ⟨c,List.mem_of_mem_drop (List.mem_of_mem_take hc),hk⟩))
  grind
theorem B12 {ws:L5} {t:Option Nat} {args:List AV} (h:K6 (A3x s args) s s') (hin:A28 s args ws t=true):O9 s ws t args=O9 s' ws t args:=by
 simp only [A28,D8i] at hin;have h1:hvA s ws t args=hvA s' ws t args:=C3M ws t args (h.mono fun i hi=>by
  obtain ⟨v,hv,hi⟩:=D8O.1 hi;exact D8O.2 ⟨v,hv,by simp [hi]⟩)
 have h2:hvB s ws t ws=hvB s' ws t ws:=C3N h (fun p hp=>B6D (D8M.1 hin.1 p hp));have h3:A8B s t=A8B s' t:=by
  cases t with
  |none=>rfl
  |some k=>simp only [A8B,(h k (B6D hin.2)).2]
 simp only [O9,h1,h2,h3]
theorem B6y {s s' :AS} (B:AV->AV): ∀ {ws:L5} {bx:List (List AV)} {l:List Nat},(∀i∈l,s (.box i)=s' (.box i))->(∀p∈ws,p.1∈l)->
  X3 s B ws bx=X3 s' B ws bx/\ ∀i∈l,(s.apply (X3 s B ws bx)) (.box i)=(s'.apply (X3 s' B ws bx)) (.box i)
 | [],bx,l,h,_=>⟨rfl,fun i hi=>h i hi⟩
 |_::_, [],l,h,_=>⟨rfl,fun i hi=>h i hi⟩
 |(i,off,len)::r,b::bs,l,h,hin=>by
  obtain ⟨g1,g2⟩:=B6y B (ws:=r) (bx:=bs) h (fun p hp=>hin p (by simp [hp]))
  have hi:=g2 i (hin (i,off,len) (by simp))
  simp only [X3];rw [<-hi];split
  ·rename_i cs hcs;refine ⟨by rw [g1],fun k hk=> ?_⟩
   show (AS.put _ _ _) _=(AS.put _ _ _) _
   by_cases hki:k=i
   ·subst hki;rw [A1H,A1H]
   ·rw [A0b _ _ _ _ hki,A0b _ _ _ _ hki];grind
  grind
theorem B77 {ws:L5} {t:Option Nat} {args:List AV} (h:K6 (A3x s args) s s') (hin:A28 s args ws t=true) (id:Nat) (d:Option Tmp) (ks:List Nat) (r:AV) (bx':List (List AV)) (tk':N3):
  A9D s id d ws t ks r bx' tk' =A9D s' id d ws t ks r bx' tk' :=by
 simp only [A28,D8i] at hin;unfold A9D;rw [(B6y (s:=s) (s' :=s') (bk0 ws id) (ws:=ws) (bx:=bx') (l:=A3x s args) (fun i hi=>(h i hi).1) (fun p hp=>(B8o (B6D (D8M.1 hin.1 p hp))).1)).1]
theorem D0M (v:AV): ∀i∈B8 (deE v),i∈B8 v:=fun i hi=>by
 unfold deE at hi;split at hi
 ·simp [B8,U7] at hi
 ·exact hi
theorem D4j {s:AS} {args:List AV}: ∀i∈A3x s (args.map deE),i∈A3x s args:=fun i hi=>by
 obtain ⟨v,hv,hi⟩:=D8O.1 hi;obtain ⟨v0,h1,rfl⟩:=List.mem_map.1 hv;refine D8O.2 ⟨v0,h1, ?_⟩;rcases D8W.1 hi with hi|hi
 ·exact D8W.2 (.inl (D0M v0 i hi))
 ·exact D8W.2 (.inr (C02 (D0M v0) i hi))
theorem D2v {s:AS} {args:List AV} {k i j:Nat} (h:B78 args=some (k,i,j)):k∈A3x s args:=by
 obtain ⟨⟨q,hq⟩,_⟩:=B79 h;exact D8O.2 ⟨_,D8p hq,by simp [B8,U7]⟩
theorem C5f {ws:L5} {t:Option Nat} {args:List AV} (h:K6 (A3x s args) s s') (hin:A28 s args ws t=true) (id:Nat) (d:Option Tmp) (ks:List Nat) (r:AV) (bx':List (List AV)) (tk':N3) (k e sz:Nat) (xs:List (List AV)):
  B3D s id d ws t ks r bx' tk' k e sz xs=B3D s' id d ws t ks r bx' tk' k e sz xs:=by
 simp only [A28,D8i] at hin;unfold B3D;rw [(B6y (s:=s) (s' :=s') (bk0 ws id) (ws:=ws) (bx:=bx') (l:=A3x s args) (fun i hi=>(h i hi).1) (fun p hp=>(B8o (B6D (D8M.1 hin.1 p hp))).1)).1]
theorem A8T (t:TI): ∀(ps:List (Nat×Operand)) (cs:List AV),(∀p∈ps,s.val p.2=s'.val p.2)->A0A t cs s ps=A0A t cs s' ps
 | [],_,_=>rfl
 |(i,x)::r,cs,h=>by
  have hx:=h (i,x) (by simp)
  have ih:=fun cs=>A8T t r cs (fun p hp=>h p (by simp [hp]))
  simp only [A0A,hx,ih]
theorem B7j (sz:Nat): ∀(ps:List (Nat×Operand)) (xs:List (List AV)) (ks:List Nat),(∀p∈ps,s.val p.2=s'.val p.2)->K6 (ps.flatMap fun p=>B8 (s.val p.2)) s s' ->A3D sz xs ks s ps=A3D sz xs ks s' ps
 | [],_,_,_,_=>rfl
 |(i,x)::r,xs,ks,h,ha=>by
  have hx:=h (i,x) (by simp)
  have hp:Q5 s (s.val x).cells=Q5 s' (s.val x).cells:=A8X _ (by rw [C3x];exact ha.mono fun i hi=>by simp [hi])
  have ih:=fun xs ks=>B7j sz r xs ks (fun p hp=>h p (by simp [hp])) (ha.mono fun i hi=>by grind)
  simp only [A3D,<-hx,hp,ih]
theorem C0Z (T:I4) (id:Nat) (d:Option Tmp) (t:TypeId) (x y:AV) (hx:K6 (B8 x) s s') (hy:K6 (B8 y) s s'):A3I s T id d t x y=A3I s' T id d t x y:=by
 have h1:=fun sz=>B7h (s:=s) (s' :=s') sz y hy;cases x
 case own k=>simp only [A3I,h1,(hx k (by simp [B8,U7])).2]
 case vw k i n=>simp only [A3I,h1,(hx k (by simp [B8,U7])).2]
 case lst sz f xs=>cases f<;>simp only [A3I,h1]
 all_goals simp only [A3I,h1]
theorem C28 (id:Nat) (d:Option Tmp) (esz:Nat) (x:AV) (lo hi mx:Option AV) (hx:K6 (B8 x) s s'):A80 s id d esz x lo hi mx=A80 s' id d esz x lo hi mx:=by
 cases x<;>try rfl
 case own k=>simp only [A80,(hx k (by simp [B8,U7])).2]
 case ali k=>simp only [A80,(hx k (by simp [B8,U7])).2]
theorem C0n (T:I4) (id:Nat) (d:Option Tmp) (b:Builtin) (ts:Array TypeId) (args:List AV) (h:K6 (args.flatMap B8) s s'):A61 s T id d b ts args=A61 s' T id d b ts args:=by
 unfold A61;cases b<;>try rfl
 case len=>
  rcases args with _|⟨x,_|⟨y,r⟩⟩
  ·rfl
  ·have:=C69 (s:=s) (s' :=s') x (h.mono fun i hi=>by simp [hi])
   generalize ts.toList=l
   rcases l with _|⟨t,_|⟨t',l⟩⟩
   ·cases x<;>rfl
   ·cases x
    case bsl b n=>simp only [(h b (by simp [B8,U7])).1]
    all_goals simp only [this]
   simp
  simp
 case append=>
  rcases args with _|⟨x,_|⟨y,_|⟨z,r⟩⟩⟩
  ·rfl
  ·rfl
  ·have:=fun t=>C0Z (s:=s) (s' :=s') T id d t x y (h.mono fun i hi=>by simp [hi]) (h.mono fun i hi=>by simp [hi])
   grind
  ·rfl
 case copy=>
  rcases args with _|⟨x,_|⟨y,_|⟨z,r⟩⟩⟩
  ·rfl
  ·cases x<;>rfl
  ·cases x<;>try rfl
   case vw k i n=>
    have hk:=(h k (by simp [B8,U7])).2
    grind
   case own k=>
    have hk:=(h k (by simp [B8,U7])).2
    have hy:=fun sz=>B7h (s:=s) (s' :=s') sz y (h.mono fun i hi=>by simp [hi])
    generalize ts.toList=l
    rcases l with _|⟨t,_|⟨t',_|⟨t2,l⟩⟩⟩<;>try rfl
    grind
  simp
 case clear=>
  rcases args with _|⟨x,_|⟨y,r⟩⟩
  ·rfl
  ·cases x<;>try rfl
   case vw k i n=>
    have hk:=(h k (by simp [B8,U7])).2
    grind
  simp
end
def A89 (o:Oper) (s:AS) (v:AV):List Nat:=match o.op with
 | .call _=>A05 s v
 |_=> []
def A3y (s:AS) (o:Oper):List Nat:=o.op.operands.toList.flatMap fun x=>B8 (s.val x)++A89 o s (s.val x)
theorem C0K {s:AS} {o:Oper} {x:Operand} (hx:x∈o.op.operands.toList): ∀i∈B8 (s.val x),i∈A3y s o:=fun i hi=>by
 simp only [A3y,D8O]
 grind
theorem C0c {s:AS} {o:Oper} {x:Operand} {c:Call} (ho:o.op= .call c) (hx:x∈o.op.operands.toList): ∀i∈A05 s (s.val x),i∈A3y s o:=fun i hi=>by
 simp only [A3y,D8O];exact ⟨x,hx,by simp [A89,ho,hi]⟩
theorem C5W {s s' :AS} (T:I4) (id:Nat) (o:Oper) (hv:∀x∈o.op.operands.toList,s.val x=s'.val x) (ha:K6 (A3y s o) s s'):B1F T id s o=B1F T id s' o:=by
 have hi: ∀x∈o.op.operands.toList,K6 (B8 (s.val x)) s s' :=fun x hx=>ha.mono (C0K hx);unfold B1F;cases ho:o.op<;>simp only [ho,Op.operands] at hv hi<;>try rfl
 case move x=>grind
 case assign x=>grind
 case pick c a b=>grind
 case box t x=>grind
 case build t ps=>
  have h: ∀p∈ps.toList,s.val p.2=s'.val p.2:=fun p hp=>hv p.2 (by grind)
  simp only [fun t cs=>A8T (s:=s) (s' :=s') t ps.toList cs h]
 case buildSlice t n ps=>
  have h: ∀p∈ps.toList,s.val p.2=s'.val p.2:=fun p hp=>hv p.2 (by grind)
  have h2:K6 (ps.toList.flatMap fun p=>B8 (s.val p.2)) s s' :=by
   intro i hi';obtain ⟨p,hp,hi2⟩:=D8O.1 hi';exact hi p.2 (by grind) i hi2
  simp only [fun sz xs ks=>B7j (s:=s) (s' :=s') sz ps.toList xs ks h h2,fun t cs=>A8T (s:=s) (s' :=s') t ps.toList cs h]
 case load t x=>
  have h1:=hv x (by simp)
  have h2:=hi x (by simp)
  simp only [<-h1];cases hx:s.val x<;>try rfl
  case ptr b off=>rw [hx] at h2;simp only [(h2 b (by simp [B8,U7])).1]
  case elt q i j=>rw [hx] at h2;simp only [(h2 q (by simp [B8,U7])).2]
  case pix b i=>rw [hx] at h2;simp only [(h2 b (by simp [B8,U7])).1]
 case store t x y=>
  have h1:=hv x (by simp)
  have h2:=hi x (by simp)
  have h3:=hv y (by simp)
  have h4:=hi y (by simp)
  have h5:Q5 s (s.val y).cells=Q5 s' (s.val y).cells:=A8X _ (by rw [C3x];exact h4)
  simp only [<-h1,<-h3];cases hx:s.val x<;>try rfl
  case ptr b off=>rw [hx] at h2;simp only [(h2 b (by simp [B8,U7])).1]
  case elt q i j=>rw [hx] at h2;simp only [(h2 q (by simp [B8,U7])).2,h5]
  case pix b i=>rw [hx] at h2;simp only [(h2 b (by simp [B8,U7])).1]
 case nilCheck x=>
  have h1:=hv x (by simp)
  have h2:=hi x (by simp)
  simp only [<-h1];cases hx:s.val x<;>try rfl
  case ptr b off=>rw [hx] at h2;simp only [(h2 b (by simp [B8,U7])).1]
  case elt q i j=>rw [hx] at h2;simp only [(h2 q (by simp [B8,U7])).2]
 case binOp op t x y t' =>grind
 case unOp op t x=>grind
 case convert a b x=>grind
 case lookup t x k ok=>grind
 case makeSlice t l c=>grind
 case slice t x lo hi' mx=>
  have h1:=hv x (by simp)
  have h2:=hi x (by simp)
  have h3:lo.map s.val=lo.map s'.val:=by cases lo with|none=>rfl|some y=>grind
  have h4:hi'.map s.val=hi'.map s'.val:=by cases hi' with|none=>rfl|some y=>grind
  have h5:mx.map s.val=mx.map s'.val:=by cases mx with|none=>rfl|some y=>grind
  simp only [<-h1,<-h3,<-h4,<-h5,fun d esz=>C28 (s:=s) (s' :=s') id d esz (s.val x) (lo.map s.val) (hi'.map s.val) (mx.map s.val) h2]
 case fieldAddr t x f=>
  have h1:=hv x (by simp)
  have h2:=hi x (by simp)
  simp only [<-h1];cases I4.find T t<;>try rfl
  rename_i ti;simp only;cases A5K ti f<;>try rfl
  rename_i p;obtain ⟨fo,sz⟩:=p;simp only;cases Nat.blt 0 sz
  ·cases s.val x<;>rfl
  ·cases hx:s.val x<;>try rfl
   case ptr b off=>rw [hx] at h2;simp only [(h2 b (by simp [B8,U7])).1]
   case elt q i j=>rw [hx] at h2;simp only [(h2 q (by simp [B8,U7])).2]
 case indexAddr t x i=>
  have h1:=hv x (by simp)
  have h2:=hi x (by simp)
  simp only [<-h1,hv i (by simp)]
  cases I4.find T t<;>try rfl
  rename_i ti;simp only;cases ti.kind<;>try rfl
  case slice e=>
   simp only;cases I4.find T e<;>try rfl
   rename_i ei;cases hx:s.val x<;>try rfl
   case lst=>cases s'.val i<;>rfl
   case own q=>
    rw [hx] at h2;cases s'.val i<;>try rfl
    simp only [(h2 q (by simp [B8,U7])).2]
   case bsl b n=>
    rw [hx] at h2;cases s'.val i<;>try rfl
    simp only [(h2 b (by simp [B8,U7])).1]
  case array len e=>
   simp only;cases I4.find T e<;>try rfl
   rename_i ei;cases hx:s.val x<;>try rfl
   case ptr b off=>
    rw [hx] at h2;cases off<;>try rfl
    cases s'.val i<;>try rfl
    simp only [(h2 b (by simp [B8,U7])).1]
 case extract x i=>grind
 case makeFunc fn first captured=>
  cases fn<;>try rfl
  have h1:first.toList.map s.val=first.toList.map s'.val:=List.map_congr_left fun x hx=>hv x (by grind)
  have h2:captured.toList.map s.val=captured.toList.map s'.val:=List.map_congr_left fun x hx=>hv x (by grind)
  grind
 case call c=>
  obtain ⟨callee,args,ts⟩:=c;have hargs:args.toList.map s.val=args.toList.map s'.val:=List.map_congr_left fun x hx=>hv x (by simp [Call.operands];grind)
  cases callee
  case value f=>simp only [hv f (by simp [Call.operands]),hargs]
  case invoke=>rfl
  case builtin b=>
   simp only [<-hargs];refine C0n T id o.dst b ts _ ?_;intro i hi';obtain ⟨v,hv1,hv2⟩:=D8O.1 hi';obtain ⟨x,hx1,rfl⟩:=List.mem_map.1 hv1;exact hi x (by simp [Call.operands];grind) i hv2
theorem C7n {s s' :AS} (T:I4) (id:Nat) (o:Oper) (hv:∀x∈o.op.operands.toList,s.val x=s'.val x) (ha:K6 (A3y s o) s s'):B2R T id s o=B2R T id s' o:=by
 unfold B2R;rw [C5W T id o hv ha]
end Go.Vc
namespace Go.Vc
open Go.RowKit
def C1h (K:AV->Prop):AV->Prop
 | .int k n=>K (.int k n)
 | .bool true=>K (.bool true)
 | .bool false=>K (.bool false)
 | .sb b=>K (.sb b)
 | .agg cs=>K (.agg cs)
 | .tup vs=>K (.tup vs)
 | .lst sz f xs=>K (.lst sz f xs)
 | .own t=>K (.own t)
 | .ptr i j=>K (.ptr i j)
 | .rp cs=>K (.rp cs)
 | .elt t i j=>K (.elt t i j)
 | .ali t=>K (.ali t)
 | .vw t i n=>K (.vw t i n)
 | .mp b fs=>K (.mp b fs)
 | .pix i j=>K (.pix i j)
 | .fn f=>K (.fn f)
 | .clo f bs cs=>K (.clo f bs cs)
 | .bsl b n=>K (.bsl b n)
 | .nilp=>K .nilp
 | .nilS=>K .nilS
 | .junk=>K .junk
theorem C3G (K:AV->Prop) (v:AV):C1h K v=K v:=by
 cases v<;>try rfl
 case bool b=>cases b<;>rfl
noncomputable def B5Y (l:List AV):(List AV->Prop)->Prop:=
 List.rec (motive:=fun _=>(List AV->Prop)->Prop) (fun K=>K []) (fun c _ ih K=>C1h (fun c' =>ih fun cs' =>K (c' ::cs')) c) l
theorem B6t: ∀(cs:List AV) (K:List AV->Prop),B5Y cs K=K cs
 | [],_=>rfl
 |c::cs,K=>by
  show C1h (fun c' =>B5Y cs fun cs' =>K (c' ::cs')) c=_;simp only [C3G];exact B6t cs _
noncomputable def B76 (K:AV->Prop):AV->Prop
 | .agg cs=>B5Y cs fun cs' =>K (.agg cs')
 | .rp cs=>B5Y cs fun cs' =>K (.rp cs')
 |v=>C1h K v
theorem C3H (K:AV->Prop) (v:AV):B76 K v=K v:=by
 cases v<;>simp only [B76,B6t,C3G]
noncomputable def C2t (l:List AV):(List AV->Prop)->Prop:=
 List.rec (motive:=fun _=>(List AV->Prop)->Prop) (fun K=>K []) (fun c _ ih K=>B76 (fun c' =>ih fun cs' =>K (c' ::cs')) c) l
theorem C1i: ∀(cs:List AV) (K:List AV->Prop),C2t cs K=K cs
 | [],_=>rfl
 |c::cs,K=>by
  show B76 (fun c' =>C2t cs fun cs' =>K (c' ::cs')) c=_;simp only [C3H];exact C1i cs _
noncomputable def C9c (K:AV->Prop):AV->Prop
 | .tup vs=>C2t vs fun vs' =>K (.tup vs')
 |v=>B76 K v
theorem D2s (K:AV->Prop) (v:AV):C9c K v=K v:=by
 cases v<;>simp only [C9c,C1i,C3H]
noncomputable def C0w (l:Loc) (c:P2) (K:Loc×P2->Prop):Prop:=match c with
 | .av v=>C9c (fun v' =>K (l, .av v')) v
 | .box cs=>B5Y cs fun cs' =>K (l, .box cs')
 | .tok t sz xs=>K (l, .tok t sz xs)
 | .none=>K (l, .none)
noncomputable def X0 (e:U5):St->(St->Prop)->Prop:=
 List.rec (motive:=fun _=>St->(St->Prop)->Prop) (fun st K=>K st) (fun p _ ih st K=>match p with
  |(l,c)=>C0w l c fun p' =>ih st fun st' =>K (p' ::st')) e
theorem A67: ∀(e:U5) (st:St) (K:St->Prop),X0 e st K=K (e++st)
 | [],_,_=>rfl
 |(l,c)::e,st,K=>by
  show C0w l c (fun p' =>X0 e st fun st' =>K (p' ::st'))=_;cases c<;>simp only [C0w,D2s,B6t]<;>exact A67 e st _
theorem A9E: ∀(e:U5) (st:St),St.get (e++st)=AS.apply (St.get st) e
 | [],_=>rfl
 |(l,c)::e,st=>by
  funext m
  show (match Loc.beq m l with|true=>c|false=>St.get (e++st) m)=_
  rw [A9E e st]
  rfl
inductive CK where
 |plain (r:AV) (bx' :List (List AV))
 |gen (ws:L5) (t:Option Nat) (r:AV) (bx' :List (List AV)) (tk' :N3)
 |fresh (e:TypeId) (sz:Nat) (xs:List (List AV))
 |sorts (t:Nat) (e:TypeId) (zs:List Int)
 |elt (ws:L5) (t:Option Nat) (len:Nat) (c:List AV) (r:AV) (bx' :List (List AV)) (tk' :N3)
structure C8F (P:Program) (id:Nat) (s:AS) (f:FuncId) (args:List AV) (d:Option Tmp) (K:U5->Prop):Prop where
 h: ∃c:CK,match c with
  | .plain r bx' =>match O9 s [] none args with
   | .bad=>False
   | .go as bx _ ks=>E9 P f as bx r bx' /\(B89 [] none r bx' none=true/\K (A9D s id d [] none ks r bx' none))
  | .gen ws t r bx' tk' =>match O9 s ws t args with
   | .bad=>False
   | .go as bx tk ks=>C5 P f as bx tk r bx' tk' /\(A28 s args ws t=true/\(B89 ws t r bx' tk' =true/\K (A9D s id d ws t ks r bx' tk')))
  | .fresh e sz xs=>match O9 s [] none args with
   | .bad=>False
   | .go as _ _ ks=>D3z P f as e sz xs/\K (dst d (.own id)++([(.tok id, .tok e sz xs)]++kills ks))
  | .sorts t e zs=>SortsInts P f/\((args= [.own t]/\(s (.tok t)= .tok e 1 (A0w zs)/\zs.length<4611686018427387904))/\K (dst d (.tup [])++ [(.tok t, .tok e 1 (A0w (A14 zs)))]))
  | .elt ws t len c r bx' tk' =>match B78 args with
   |none=>False
   |some (k,i,j)=>match s (.tok k) with
    | .tok e sz xs=>match O9 s ws t (args.map deE) with
     | .bad=>False
     | .go as bx tk ks=>xs[i]? =some c/\(C5 P f (B6K ws.length args as) (bx++ [(c.drop j).take len]) tk r bx' tk' /\(A28 s (args.map deE) ws t=true/\((Nat.beq bx'.length (ws.length+1)&&C82 ws.length t k ks j len sz as bx r (bx'.take ws.length) (bx'.getD ws.length []))=true/\
       K (B3D s id d ws t ks r (bx'.take ws.length) tk' k e sz (xs.set i (S1 c j (bx'.getD ws.length [])))))))
    |_=>False
def A1P (P:Program) (T:I4) (id:Nat) (s:AS) (o:Oper) (K:U5->Prop):Prop:=
 match B2R T id s o with
 | .bad=>False
 | .ok e=>K e
 | .side p e=>p/\K e
 | .elem xs i f=> ∃c,(0<=i/\xs[i.toNat]? =some c)/\K (f c)
 | .call f args d=>C8F P id s f args d K
def B1q (P:Program) (T:I4) (id:Nat) (s:AS) (o:Oper) (e:U5):Prop:=A1P P T id s o (fun e' =>e' =e)
theorem B56 {P:Program} {T:I4} {id:Nat} {s:AS} {o:Oper} {K:U5->Prop} (h:A1P P T id s o K): ∃e,B1q P T id s o e/\K e:=by
 unfold A1P at h;unfold B1q A1P;split at h
 ·exact h.elim
 ·exact ⟨_,rfl,h⟩
 ·exact ⟨_,⟨h.1,rfl⟩,h.2⟩
 ·obtain ⟨c,h1,h2⟩:=h;exact ⟨_,⟨c,h1,rfl⟩,h2⟩
 ·obtain ⟨⟨c,h⟩⟩:=h;cases c with
  |plain r bx' =>
   simp only at h;split at h
   ·exact h.elim
   ·rename_i hs;obtain ⟨h1,h2,h3⟩:=h;exact ⟨_,⟨.plain r bx',by simp only [hs];exact ⟨h1,h2,trivial⟩⟩,h3⟩
  |gen ws t r bx' tk' =>
   simp only at h;split at h
   ·exact h.elim
   ·rename_i hs;obtain ⟨h1,h0,h2,h3⟩:=h;exact ⟨_,⟨.gen ws t r bx' tk',by simp only [hs];exact ⟨h1,h0,h2,trivial⟩⟩,h3⟩
  |fresh e sz xs=>
   simp only at h;split at h
   ·exact h.elim
   ·rename_i hs;obtain ⟨h1,h3⟩:=h;exact ⟨_,⟨.fresh e sz xs,by simp only [hs];exact ⟨h1,trivial⟩⟩,h3⟩
  |sorts t e zs=>obtain ⟨h1,h2,h3⟩:=h;exact ⟨_,⟨.sorts t e zs,h1,h2,rfl⟩,h3⟩
  |elt ws t len c r bx' tk' =>
   simp only at h;split at h
   ·exact h.elim
   ·rename_i k i j hg;split at h
    ·rename_i e sz xs hk;split at h
     ·exact h.elim
     ·rename_i hs;obtain ⟨h1,h2,h3,h4,h5⟩:=h;exact ⟨_,⟨.elt ws t len c r bx' tk',by simp only [hg,hk,hs];exact ⟨h1,h2,h3,h4,trivial⟩⟩,h5⟩
    ·exact h.elim
theorem C4e {F:Fr} {A:Nat->Prop} {T:I4} (hT:A0v F.P T) {id:Nat} {s:AS} {o:Oper} (hd:∀k,o.dst=some k->k<F.N) {e:U5} (h:B1q F.P T id s o e):OpOk F A id o s e:=by
 have hs:=C5X (F:=F) (A:=A) (id:=id) (o:=o) (s:=s) hT hd;unfold B1q A1P at h
 generalize B2R T id s o=res at h hs
 cases res with
 |bad=>exact h.elim
 |ok e' =>cases h;exact hs
 |side p e' =>obtain ⟨h1,h2⟩:=h;subst h2;exact hs h1
 |elem xs i f=>obtain ⟨c,⟨h1,h2⟩,h3⟩:=h;subst h3;exact hs c h1 h2
 |call f args d=>
  obtain ⟨fop,as,ts,bs,cs,h1,h2,rfl,rfl⟩:=hs;obtain ⟨⟨c,h⟩⟩:=h;cases c with
  |plain r bx' =>
   simp only at h;split at h
   ·exact h.elim
   ·rename_i as' bx tk ks hc;obtain ⟨h3,h4,rfl⟩:=h;obtain ⟨_,_,_,_,_,_,htk,_⟩:=A4L hc;have htk' :tk=none:=htk;subst htk';exact D1d hd fop as ts h1 f bs cs h2 [] none as' bx none ks hc r bx' none h3 h4
  |gen ws t r bx' tk' =>
   simp only at h;split at h
   ·exact h.elim
   ·rename_i as' bx tk ks hc;obtain ⟨h3,_,h4,rfl⟩:=h;exact D1d hd fop as ts h1 f bs cs h2 ws t as' bx tk ks hc r bx' tk' h3 h4
  |fresh e' sz xs=>
   simp only at h;split at h
   ·exact h.elim
   ·rename_i as' bx tk ks hc;obtain ⟨h3,rfl⟩:=h;exact D2U hd fop as ts h1 f bs cs h2 as' bx tk ks hc e' sz xs h3
  |sorts t e' zs=>
   obtain ⟨h3,⟨h4,h5,h6⟩,rfl⟩:=h;exact D2X hd fop as ts h1 f bs cs h2 t h4 e' zs h5 h6 h3
  |elt ws t len c r bx' tk' =>
   simp only at h;split at h
   ·exact h.elim
   ·rename_i k i j hg;split at h
    ·rename_i e sz xs hk;split at h
     ·exact h.elim
     ·rename_i as' bx tk ks hc;obtain ⟨h3,h4,_,h5,rfl⟩:=h;simp only [D8i] at h5;exact D51 hd fop as ts h1 f bs cs h2 ws t k i j len hg e sz xs hk as' bx tk ks hc c h3 r _ _ tk' (by rw [<-D1I (D8j h5.1)];exact h4) h5.2
    ·exact h.elim
theorem C1D {P:Program} {T:I4} (hT:A0v P T) {id:Nat} {s:AS} {o:Oper} {f:FuncId} {args:List AV} {d:Option Tmp} (h:B2R T id s o= .call f args d): ∀i∈A3x s args,i∈A3y s o:=by
 have hs:=C5X (F:=⟨P,o.dst.getD 0+1,default,fun _=>False,fun _=>(0,0),0,fun _=>0,fun _=>False⟩) (A:=fun _=>False) (id:=id) (o:=o) (s:=s) hT (fun k hk=>by simp [hk])
 rw [h] at hs;obtain ⟨fop,as,ts,bs,cs,ho,hf,rfl,_⟩:=hs;intro i hi;obtain ⟨v,hv,hi⟩:=D8O.1 hi;have hcov: ∀x∈o.op.operands.toList,(∀i∈B8 v,i∈B8 (s.val x))->i∈A3y s o:=fun x hx hsub=>by
  rcases D8W.1 hi with hi|hi
  ·exact C0K hx i (hsub i hi)
  ·exact C0c ho hx i (C02 hsub i hi)
 have hfm:fop∈o.op.operands.toList:=by rw [ho];simp [Op.operands,Call.operands]
 have hcap:(v∈bs\/v∈cs)->i∈A3y s o:=fun hb=>by
  rcases hf with ⟨_,rfl,rfl⟩|⟨hf,hc⟩
  ·simp at hb
  ·refine hcov fop hfm fun k hk=> ?_;rw [hf];have hcv:A5d v=true:=D8M.1 hc v (by simpa using hb)
   have hk' :k∈C2x v:=by
    rw [<-D0o hcv];cases v<;>first|exact hk|(simp [A5d] at hcv)
   show k∈bs.flatMap C2x++cs.flatMap C2x;rcases hb with hb|hb
   ·exact D8W.2 (.inl (D8O.2 ⟨v,hb,hk'⟩))
   ·exact D8W.2 (.inr (D8O.2 ⟨v,hb,hk'⟩))
 rcases D8W.1 hv with hv|hv
 ·exact hcap (.inl hv)
 ·rcases D8W.1 hv with hv|hv
  ·obtain ⟨x,hx1,rfl⟩:=List.mem_map.1 hv;exact hcov x (by rw [ho];simp [Op.operands,Call.operands];exact .inr (by simpa using hx1)) fun _ h=>h
  ·exact hcap (.inr hv)
theorem C6V {P:Program} {T:I4} (hT:A0v P T) {id:Nat} {s s' :AS} {o:Oper} {e:U5} (hv:∀x∈o.op.operands.toList,s.val x=s'.val x) (ha:K6 (A3y s o) s s') (h:B1q P T id s o e):B1q P T id s' o e:=by
 unfold B1q A1P at*
 rw [<-C7n T id o hv ha];cases hres:B2R T id s o with
 |call f args d=>
  rw [hres] at h;simp only at h⊢;have hfar:K6 (A3x s args) s s' :=ha.mono (C1D hT hres);have hnil:O9 s [] none args=O9 s' [] none args:=B12 hfar rfl;obtain ⟨c,h⟩:=h;refine ⟨c, ?_⟩;cases c with
  |plain r bx' =>
   simp only at h⊢;rw [<-hnil];split at h
   ·exact h
   ·rename_i as' bx tk ks hc;rw [B77 hfar (ws:= []) (t:=none) rfl] at h;exact h
  |gen ws t r bx' tk' =>
   simp only at h⊢;have hin:A28 s args ws t=true:=by
    split at h
    ·exact h.elim
    ·exact h.2.1
   rw [<-B12 hfar hin,<-B8a hfar];split at h
   ·exact h
   ·rename_i as' bx tk ks hc;rw [B77 hfar hin] at h;exact h
  |fresh e' sz xs=>
   simp only at h⊢;rw [<-hnil];exact h
  |sorts t e' zs=>
   obtain ⟨h3,⟨h4,h5,h6⟩,h7⟩:=h;refine ⟨h3,⟨h4, ?_,h6⟩,h7⟩;rw [<-(hfar t (D8O.2 ⟨.own t,by rw [h4];simp,by simp [B8,U7]⟩)).2]
   exact h5
  |elt ws t len c r bx' tk' =>
   simp only at h⊢;have hfar' :K6 (A3x s (args.map deE)) s s' :=hfar.mono D4j;split at h
   ·exact h
   ·rename_i k i j hg;rw [<-(hfar k (D2v hg)).2];split at h
    ·have hin:A28 s (args.map deE) ws t=true:=by
      split at h
      ·exact h.elim
      ·exact h.2.2.1
     rw [<-B12 hfar' hin,<-B8a hfar'];split at h
     ·exact h
     ·rw [C5f hfar' hin] at h;exact h
    ·exact h
 |bad=>rw [hres] at h;exact h
 |ok e' =>rw [hres] at h;exact h
 |side p e' =>rw [hres] at h;exact h
 |elem xs i f=>rw [hres] at h;exact h
def B6v (ops:List Oper) (j:Nat):Option Tmp:=match ops[j]? with
 |some o=>o.dst
 |none=>none
noncomputable def C91 (P:Program) (T:I4) (base:Nat) (ops:List Oper) (ih:Nat->St->(St->Prop)->Prop) (o:Oper) (i:Nat) (st:St) (K:St->Prop):Prop:=
 match o.guard with
 |none=>A1P P T (base+i) (St.get st) o fun e=>X0 e st fun st' =>ih (i+1) st' K
 |some (j,want)=>match B6v ops j with
  |none=>False
  |some d=>match AS.tmp (St.get st) d with
   | .bool b=>match Bool.xor b want with
    |false=>A1P P T (base+i) (St.get st) o fun e=>X0 e st fun st' =>ih (i+1) st' K
    |true=>X0 (dst o.dst (.tup [])) st fun st' =>ih (i+1) st' K
   | .sb b=>(b=want->A1P P T (base+i) (St.get ((.tmp d, .av (.bool want))::st)) o fun e=>X0 e ((.tmp d, .av (.bool want))::st) fun st' =>ih (i+1) st' K)/\
     (b=(!want)->X0 (dst o.dst (.tup [])) ((.tmp d, .av (.bool (!want)))::st) fun st' =>ih (i+1) st' K)
   | .tup _=>X0 (dst o.dst (.tup [])) st fun st' =>ih (i+1) st' K
   |_=>False
noncomputable def B9r (P:Program) (T:I4) (base:Nat) (ops:List Oper) (i:Nat) (l:List Oper) (st:St) (K:St->Prop):Prop:=
 List.rec (motive:=fun _=>Nat->St->(St->Prop)->Prop) (fun _ st K=>K st) (fun o _ ih i st K=>C91 P T base ops ih o i st K) l i st K
def A3R (N:Nat) (ops:List Oper):Bool:=ops.all fun o=>match o.dst with
 |some d=>Nat.blt d N
 |none=>true
theorem B5c {N:Nat} {ops:List Oper} (h:A3R N ops=true) {o:Oper} (ho:o∈ops): ∀k,o.dst=some k->k<N:=by
 intro k hk;have:=D8M.1 h o ho;rw [hk] at this;exact W5 this
theorem T1.lit {F:Fr} {A:Nat->Prop} {st:St} {a:Act} {w:World} (h:T1 F A (St.get st) a w) (d:Nat) (b:Bool) (hd:AS.tmp (St.get st) d= .sb b):T1 F A (St.get ((.tmp d, .av (.bool b))::st)) a w:=by
 obtain ⟨β,τ,ok,hx⟩:=h;have hd' :St.get st (.tmp d)= .av (.sb b):=by
  unfold AS.tmp at hd;split at hd
  ·rename_i v hv;rw [hv,hd]
  ·cases hd
 have hv:=hx.env d _ hd';have e:St.get ((.tmp d, .av (.bool b))::st)=AS.put (St.get st) (.tmp d) (.av (.bool b)):=rfl;rw [e];have hm:=hx.mr.tmp d (.av (.bool b));refine ⟨β,τ,ok,hm,hx.defers,hx.size,fun l v hl=> ?_,hx.keep,hx.par,hx.parA,hx.newB,hx.parL,hx.newT,hx.ok0,hx.okNew⟩;have hl0:AS.put (St.get st) (.tmp d) (.av (.bool b)) (.tmp l)= .av v:=hl
 by_cases hld:l=d
 ·subst hld;rw [A9M] at hl0;cases hl0;exact hv
 ·rw [B6L _ _ _ _ hld] at hl0;exact (hx.env l v hl0).ext (W4.tmp _ d _)
theorem T1.gval {F:Fr} {A:Nat->Prop} {st:AS} {a:Act} {w:World} (h:T1 F A st a w) (d:Nat) (b:Bool) (hd:T3 (AS.tmp st d)=some b):a.tmps[d]? =some (.bool b):=by
 obtain ⟨β,τ,ok,hx⟩:=h;have hv:a.tmps.getD d undef= .bool b:=by
  have h1:=hx.val (.tmp d);exact B7Q (m:=⟨st,β,τ,A,ok,w⟩) hd h1
 rw [Array.getD_eq_getD_getElem?] at hv;cases hq:a.tmps[d]? with
 |none=>rw [hq] at hv;simp [undef] at hv
 |some v=>rw [hq] at hv;simp at hv;rw [hv]
theorem T1.skip {F:Fr} {A:Nat->Prop} {s:AS} {a:Act} {w:World} (h:T1 F A s a w) (o:Oper) (hd:∀k,o.dst=some k->k<F.N):T1 F A (s.apply (dst o.dst (.tup []))) (a.put o.dst undef) w:=by
 obtain ⟨β,τ,ok,hx⟩:=h;exact ⟨_,_,_,hx.dst o.dst (.tup []) undef hd ⟨#[],rfl,rfl,by simp⟩⟩
theorem T1.mono {F:Fr} {A A' :Nat->Prop} {s:AS} {a:Act} {w:World} (h:T1 F A s a w) (hA:∀i,A i->A' i):T1 F A' s a w:=by
 obtain ⟨β,τ,ok,hx⟩:=h;exact ⟨_,_,_,hx.mono A' hA⟩
theorem B39 {ops:List Oper} {o:Oper} {a:Act} {j:Nat} {want b:Bool} {d:Tmp} (hg:o.guard=some (j,want)) (hd:B6v ops j=some d) (hv:a.tmps[d]? =some (.bool b)):
  Region.wanted o (yielded ops.toArray a.tmps)=(b==want):=by
 unfold B6v at hd;split at hd
 ·rename_i o' ho';simp [Region.wanted,hg,yielded,ho',hd,hv]
 ·cases hd
theorem T1.gtup {F:Fr} {A:Nat->Prop} {st:AS} {a:Act} {w:World} (h:T1 F A st a w) (d:Nat) (vs:List AV) (hd:AS.tmp st d= .tup vs): ∃us,a.tmps.getD d undef= .tuple us:=by
 obtain ⟨β,τ,ok,hx⟩:=h;have h1:=hx.val (.tmp d);rw [show AS.val _ (.tmp d)= .tup vs from hd] at h1;obtain ⟨us,h2,_⟩:=h1;exact ⟨us,h2⟩
theorem C19 {ops:List Oper} {o:Oper} {a:Act} {j:Nat} {want:Bool} {d:Tmp} {us:Array Value} (hg:o.guard=some (j,want)) (hd:B6v ops j=some d) (hv:a.tmps.getD d undef= .tuple us):
  Region.wanted o (yielded ops.toArray a.tmps)=false:=by
 unfold B6v at hd;split at hd
 ·rename_i o' ho';rw [Array.getD_eq_getD_getElem?] at hv;cases hq:a.tmps[d]? with
  |none=>simp [Region.wanted,hg,yielded,ho',hd,hq]
  |some v=>
   rw [hq] at hv;simp at hv;subst hv;simp [Region.wanted,hg,yielded,ho',hd,hq]
 ·cases hd
theorem B5v {F:Fr} {T:I4} (hT:A0v F.P T) (base:Nat) (ops:List Oper) (hds:A3R F.N ops=true) (Q:Exit->Act->World->Prop) (K:St->Prop)
  (hQ:∀st a w,T1 F (fun k=>k<base+ops.length) (St.get st) a w->K st->Q .normal a w):
  ∀(l:List Oper) (i:Nat) (st:St) (a:Act) (w:World),(∀j,l[j]? =ops[i+j]?)->i+l.length=ops.length->T1 F (fun k=>k<base+i) (St.get st) a w->B9r F.P T base ops i l st K->
   wpOps F.P ops.toArray Q (List.range' i l.length) a w
 | [],i,st,a,w,_,hl,hst,h=>by
  have hi:i=ops.length:=by simpa using hl
  subst hi;exact hQ st a w hst h
 |o::r,i,st,a,w,hj,hl,hst,h=>by
  have ho:ops[i]? =some o:=by simpa using (hj 0).symm
  have hmem:o∈ops:=D8p ho;have hd:=B5c hds hmem;have hj' : ∀j,r[j]? =ops[i+1+j]? :=fun j=>by have:=hj (j+1);simpa [Nat.add_assoc,Nat.add_comm 1 j] using this
  have hl' :i+1+r.length=ops.length:=by simp at hl;omega
  have hA: ¬(base+i<base+i):=by omega
  have run: ∀st,T1 F (fun k=>k<base+i) (St.get st) a w->Region.wanted o (yielded ops.toArray a.tmps)=true->
    (A1P F.P T (base+i) (St.get st) o fun e=>X0 e st fun st' =>B9r F.P T base ops (i+1) r st' K)->wpOps F.P ops.toArray Q (List.range' i (o::r).length) a w:=by
   intro st hst hw h;obtain ⟨e,hy,hk⟩:=B56 h;rw [A67] at hk;rw [D8t,List.range'_succ];simp only [wpOps,List.getElem?_toArray,ho,hw,if_true];left;refine C4e hT hd hy a w hst hA _ Q (fun a' w' hs' => ?_);refine B5v hT base ops hds Q K hQ r (i+1) (e++st) a' w' hj' hl' ?_ hk;rw [A9E];exact hs'.mono (fun k hk=>by rcases hk with hk|hk<;>omega)
  have pass: ∀st,T1 F (fun k=>k<base+i) (St.get st) a w->Region.wanted o (yielded ops.toArray a.tmps)=false->
    (X0 (dst o.dst (.tup [])) st fun st' =>B9r F.P T base ops (i+1) r st' K)->wpOps F.P ops.toArray Q (List.range' i (o::r).length) a w:=by
   intro st hst hw h;rw [A67] at h;rw [D8t,List.range'_succ];simp only [wpOps,List.getElem?_toArray,ho,hw,Bool.false_eq_true,if_false];refine B5v hT base ops hds Q K hQ r (i+1) _ _ w hj' hl' ?_ h;rw [A9E];exact (hst.skip o hd).mono (fun k hk=>by omega)
  change C91 F.P T base ops (fun i st K=>B9r F.P T base ops i r st K) o i st K at h;unfold C91 at h;split at h
  ·rename_i hg;exact run st hst (by simp [Region.wanted,hg]) h
  ·rename_i j want hg;split at h
   ·exact h.elim
   ·rename_i d hgd;split at h
    ·rename_i b hb;have hw:=B39 hg hgd (hst.gval d b (by rw [hb];rfl))
     split at h
     ·rename_i hx;exact run st hst (by rw [hw];cases b<;>cases want<;>simp_all) h
     ·rename_i hx;exact pass st hst (by rw [hw];cases b<;>cases want<;>simp_all) h
    ·rename_i b hb;have hw:=B39 hg hgd (hst.gval d b (by rw [hb];rfl))
     by_cases hbw:b=want
     ·have h1:=h.1 hbw;subst hbw;exact run _ (hst.lit d b hb) (by rw [hw];simp) h1
     ·have hbn:b= !want:=by cases b<;>cases want<;>simp_all
      have h1:=h.2 hbn;rw [hbn] at hb;exact pass _ (hst.lit d (!want) hb) (by rw [hw,hbn];simp) h1
    ·rename_i vs hb;obtain ⟨us,hu⟩:=hst.gtup d vs hb;exact pass st hst (C19 hg hgd hu) h
    ·exact h.elim
end Go.Vc
namespace Go.Vc
open Go.RowKit
def A0d:U5->List Nat
 | []=> []
 |(.tmp _,_)::e=>A0d e
 |(.box i,_)::e=>i::A0d e
 |(.tok i,_)::e=>i::A0d e
def A1b (d:Option Tmp):U5->Bool
 | []=>true
 |(.tmp t,_)::e=>(match d with
  |some k=>Nat.beq t k
  |none=>false)&&A1b d e
 |(.box _,_)::e=>A1b d e
 |(.tok _,_)::e=>A1b d e
def A1c (l:Loc):U5->Bool
 | []=>false
 |(m,_)::e=>Loc.beq l m||A1c l e
theorem A1C (s:AS) (l:Loc): ∀(e:U5),A1c l e=false->(s.apply e) l=s l
 | [],_=>rfl
 |(m,c)::e,h=>by
  simp only [A1c,D8K] at h;show (AS.put (s.apply e) m c) l=_;simp only [AS.put,h.1];exact A1C s l e h.2
theorem B6j (s s':AS) (l:Loc): ∀(e:U5),A1c l e=true->(s.apply e) l=(s'.apply e) l
 | [],h=>by cases h
 |(m,c)::e,h=>by
  simp only [A1c,D8l] at h;show (AS.put (s.apply e) m c) l=(AS.put (s'.apply e) m c) l;cases hb:Loc.beq l m with
  |true=>simp only [AS.put,hb]
  |false=>
   simp only [AS.put,hb];exact B6j s s' l e (h.resolve_left (by rw [hb];simp))
theorem B6Y {d:Option Tmp} {t:Nat} {e:U5}:A1b d e=true->A1c (.tmp t) e=true->d=some t:=by
 induction e with
 |nil=>intro _ h;cases h
 |cons p e ih=>
  obtain ⟨l,c⟩:=p;intro h hw;simp only [A1c,D8l] at hw;cases l with
  |tmp m=>
   simp only [A1b,D8i] at h;rcases hw with hw|hw
   ·cases d with
    |none=>simp at h
    |some k=>
     have h1:=D8j h.1;have h2:t=m:=D8j hw;rw [h2,h1]
   ·exact ih h.2 hw
  |box m=>exact ih h (hw.resolve_left (by simp [Loc.beq]))
  |tok m=>exact ih h (hw.resolve_left (by simp [Loc.beq]))
theorem A9r {k:Nat} {e:U5}:(A1c (.box k) e=true\/A1c (.tok k) e=true)->k∈A0d e:=by
 induction e with
 |nil=>intro h;rcases h with h|h<;>cases h
 |cons p e ih=>
  obtain ⟨l,c⟩:=p;intro h;simp only [A1c,D8l] at h;cases l with
  |tmp m=>exact ih (h.imp (fun h=>h.resolve_left (by simp [Loc.beq])) (fun h=>h.resolve_left (by simp [Loc.beq])))
  |box m=>
   rcases h with (h|h)|h
   ·have h' :k=m:=D8j h;subst h';simp [A0d]
   ·simp only [A0d,List.mem_cons];exact .inr (ih (.inl h))
   ·simp only [A0d,List.mem_cons];exact .inr (ih (.inr (h.resolve_left (by simp [Loc.beq]))))
  |tok m=>
   rcases h with h|(h|h)
   ·simp only [A0d,List.mem_cons];exact .inr (ih (.inl (h.resolve_left (by simp [Loc.beq]))))
   ·have h' :k=m:=D8j h;subst h';simp [A0d]
   ·simp only [A0d,List.mem_cons];exact .inr (ih (.inr h))
theorem B61 {s:AS} {d:Option Tmp} {e:U5} (h:A1b d e=true) {t:Nat} (ht:d≠some t):(s.apply e) (.tmp t)=s (.tmp t):=by
 apply A1C;cases hw:A1c (.tmp t) e with
 |false=>rfl
 |true=>exact absurd (B6Y h hw) ht
theorem B7K {s:AS} {e:U5} {k:Nat} (h:k∉A0d e):(s.apply e) (.box k)=s (.box k)/\(s.apply e) (.tok k)=s (.tok k):=by
 constructor
 ·apply A1C;cases hw:A1c (.box k) e with
  |false=>rfl
  |true=>exact absurd (A9r (.inl hw)) h
 ·apply A1C;cases hw:A1c (.tok k) e with
  |false=>rfl
  |true=>exact absurd (A9r (.inr hw)) h
theorem C8R (s:AS) {d d' :Option Tmp} {e e' :U5} (h:A1b d e=true) (h':A1b d' e' =true) (hd:∀t,d=some t->d' ≠some t) (ht:∀k∈A0d e,k∉A0d e'):
  (s.apply e).apply e' =(s.apply e').apply e:=by
 funext l
 cases hw:A1c l e with
 |true=>
  have hw' :A1c l e' =false:=by
   cases hw' :A1c l e' with
   |false=>rfl
   |true=>
    cases l with
    |tmp t=>exact absurd (B6Y h' hw') (hd t (B6Y h hw))
    |box k=>exact absurd (A9r (.inl hw')) (ht k (A9r (.inl hw)))
    |tok k=>exact absurd (A9r (.inr hw')) (ht k (A9r (.inr hw)))
  rw [A1C _ _ _ hw'];exact B6j _ _ _ _ hw
 |false=>
  rw [A1C (s.apply e') _ _ hw];cases hw' :A1c l e' with
  |true=>exact B6j _ _ _ _ hw'
  |false=>rw [A1C _ _ _ hw',A1C _ _ _ hw',A1C _ _ _ hw]
theorem C9J {s s' :AS} {o:Oper} (hv:∀x∈o.op.operands.toList,s.val x=s'.val x) (ha:K6 (A3y s o) s s'):A3y s' o=A3y s o:=by
 unfold A3y;have key: ∀x∈o.op.operands.toList,B8 (s'.val x)++A89 o s' (s'.val x)=B8 (s.val x)++A89 o s (s.val x):=fun x hx=>by
  have h1:A89 o s (s.val x)=A89 o s' (s.val x):=by
   unfold A89;split
   ·rename_i c ho;exact B7S (ha.mono (C0K hx)) (ha.mono (C0c ho hx))
   ·rfl
  rw [<-hv x hx,<-h1]
 generalize o.op.operands.toList=l at key
 induction l with
 |nil=>rfl
 |cons x l ih=>simp only [List.flatMap_cons,key x (by simp),ih (fun y hy=>key y (by simp [hy]))]
def gw (ops:List Oper) (s:AS) (o:Oper):Option Bool:=match o.guard with
 |none=>some true
 |some (j,want)=>match B6v ops j with
  |none=>none
  |some d=>match T3 (s.tmp d) with
   |some b=>some (b==want)
   |none=>match s.tmp d with
    | .tup _=>some false
    |_=>none
def Ref (s s':AS):Prop:= ∀l,s' l=s l\/ ∃t b,l= .tmp t/\s l= .av (.sb b)/\s' l= .av (.bool b)
theorem Ref.refl (s:AS):Ref s s:=fun _=> .inl rfl
theorem Ref.box {s s' :AS} (h:Ref s s') (i:Nat):s' (.box i)=s (.box i):=by
 rcases h (.box i) with h|⟨t,b,h,_⟩
 ·exact h
 ·cases h
theorem Ref.tok {s s' :AS} (h:Ref s s') (i:Nat):s' (.tok i)=s (.tok i):=by
 rcases h (.tok i) with h|⟨t,b,h,_⟩
 ·exact h
 ·cases h
theorem Ref.apply {s s' :AS} (h:Ref s s') (e:U5):Ref (s.apply e) (s'.apply e):=fun l=>by
 cases hw:A1c l e with
 |true=>exact .inl (B6j _ _ _ _ hw)
 |false=>
  rw [A1C _ _ _ hw,A1C _ _ _ hw];exact h l
theorem D4M {s s' :AS} (h:Ref s s') {β τ A ok w} (hm:MR ⟨s,β,τ,A,ok,w⟩):W4 ⟨s,β,τ,A,ok,w⟩ ⟨s',β,τ,A,ok,w⟩/\W4 ⟨s',β,τ,A,ok,w⟩ ⟨s,β,τ,A,ok,w⟩/\MR ⟨s',β,τ,A,ok,w⟩:=by
 have e1:W4 ⟨s,β,τ,A,ok,w⟩ ⟨s',β,τ,A,ok,w⟩:=⟨fun t e sz xs' hs _=>⟨xs',(h.tok t).symm.trans hs,rfl,rfl⟩,fun i cs' hs _=>⟨⟨cs',(h.box i).symm.trans hs⟩,rfl⟩,fun _ h=>h,fun _ h=>h,fun _ _ _=>rfl,fun _ _ _ _ h=>h⟩;have e2:W4 ⟨s',β,τ,A,ok,w⟩ ⟨s,β,τ,A,ok,w⟩:=⟨fun t e sz xs' hs _=>⟨xs',(h.tok t).trans hs,rfl,rfl⟩,fun i cs' hs _=>⟨⟨cs',(h.box i).trans hs⟩,rfl⟩,fun _ h=>h,fun _ h=>h,fun _ _ _=>rfl,fun _ _ _ _ h=>h⟩;have hb: ∀i c,s' (.box i)= .box c->s (.box i)= .box c:=fun i c hc=>by rw [<-h.box i];exact hc
 have ht: ∀i e sz xs,s' (.tok i)= .tok e sz xs->s (.tok i)= .tok e sz xs:=fun i e sz xs hc=>by rw [<-h.tok i];exact hc
 refine ⟨e1,e2,hm.okLt,fun i c hc=> ?_,fun t e sz xs hs=>hm.tok t e sz xs (ht t e sz xs hs),fun i j ci cj hi hj hne=>hm.sepB i j ci cj (hb i ci hi) (hb j cj hj) hne,
  fun i j ei ej si sj xi xj p q hi hj hp hq hne=>hm.sepT i j ei ej si sj xi xj p q (ht _ _ _ _ hi) (ht _ _ _ _ hj) hp hq hne,fun i j ci ej sj xj q hi hj hq=>hm.sepM i j ci ej sj xj q (hb i ci hi) (ht _ _ _ _ hj) hq⟩
 obtain ⟨h1,h2,cur,e,h3,h4,h5⟩:=hm.box i c (hb i c hc);exact ⟨h1,h2,cur,e,h3,h4,fun j c hj=>let ⟨u,g1,g2,g3⟩:=h5 j c hj;⟨u,g1,g2,g3.ext e1⟩⟩
theorem T1.ref {F:Fr} {A:Nat->Prop} {s s' :AS} {a:Act} {w:World} (h:Ref s s') (hs:T1 F A s a w):T1 F A s' a w:=by
 obtain ⟨β,τ,ok,hx⟩:=hs;obtain ⟨e1,_,hm⟩:=D4M h hx.mr;refine ⟨β,τ,ok,hm,hx.defers,hx.size,fun l v hl=> ?_,hx.keep,hx.par,hx.parA,fun i c hc=>hx.newB i c ((h.box i).symm.trans hc),fun i c hc=>hx.parL i c ((h.box i).symm.trans hc),fun t e sz xs p ht=>hx.newT t e sz xs p ((h.tok t).symm.trans ht),hx.ok0,hx.okNew⟩;have hl' :s' (.tmp l)= .av v:=hl;rcases h (.tmp l) with h1|⟨t,b,h1,h2,h3⟩
 ·rw [h1] at hl';exact (hx.env l v hl').ext e1
 ·rw [h3] at hl';cases hl';exact (show VR _ (.bool b) _ from hx.env l (.sb b) h2)
theorem T1.unref {F:Fr} {A:Nat->Prop} {s s' :AS} {a:Act} {w:World} (h:Ref s s') (hs:T1 F A s' a w):T1 F A s a w:=by
 obtain ⟨β,τ,ok,hx⟩:=hs;have hb: ∀i,s (.box i)=s' (.box i):=fun i=>(h.box i).symm;have ht: ∀i,s (.tok i)=s' (.tok i):=fun i=>(h.tok i).symm;have e1:W4 ⟨s',β,τ,A,ok,w⟩ ⟨s,β,τ,A,ok,w⟩:=⟨fun t e sz xs' hs _=>⟨xs',(ht t).symm.trans hs,rfl,rfl⟩,fun i cs' hs _=>⟨⟨cs',(hb i).symm.trans hs⟩,rfl⟩,fun _ h=>h,fun _ h=>h,fun _ _ _=>rfl,fun _ _ _ _ h=>h⟩;have hm:=hx.mr;have hb' : ∀i c,s (.box i)= .box c->s' (.box i)= .box c:=fun i c hc=>by rw [<-hb i];exact hc
 have ht' : ∀i e sz xs,s (.tok i)= .tok e sz xs->s' (.tok i)= .tok e sz xs:=fun i e sz xs hc=>by rw [<-ht i];exact hc
 refine ⟨β,τ,ok,⟨hm.okLt,fun i c hc=> ?_,fun t e sz xs hs=>hm.tok t e sz xs (ht' t e sz xs hs),fun i j ci cj hi hj hne=>hm.sepB i j ci cj (hb' i ci hi) (hb' j cj hj) hne,
  fun i j ei ej si sj xi xj p q hi hj hp hq hne=>hm.sepT i j ei ej si sj xi xj p q (ht' _ _ _ _ hi) (ht' _ _ _ _ hj) hp hq hne,fun i j ci ej sj xj q hi hj hq=>hm.sepM i j ci ej sj xj q (hb' i ci hi) (ht' _ _ _ _ hj) hq⟩,
  hx.defers,hx.size,fun l v hl=> ?_,hx.keep,hx.par,hx.parA,fun i c hc=>hx.newB i c (hb' i c hc),fun i c hc=>hx.parL i c (hb' i c hc),fun t e sz xs p htt=>hx.newT t e sz xs p (ht' t e sz xs htt),hx.ok0,hx.okNew⟩
 ·obtain ⟨h1,h2,cur,e,h3,h4,h5⟩:=hm.box i c (hb' i c hc);exact ⟨h1,h2,cur,e,h3,h4,fun j c hj=>let ⟨u,g1,g2,g3⟩:=h5 j c hj;⟨u,g1,g2,g3.ext e1⟩⟩
 ·have hl' :s (.tmp l)= .av v:=hl;rcases h (.tmp l) with h1|⟨t,b,h1,h2,h3⟩
  ·exact (hx.env l v (h1.trans hl')).ext e1
  ·rw [h2] at hl';cases hl';exact (show VR _ (.sb b) _ from hx.env l (.bool b) h3)
section
variable {P:Program} {T:I4} {base:Nat} {ops:List Oper} {R W:Nat->List Nat} {md:Region.Mode}
def A6q (P:Program) (T:I4) (base:Nat) (ops:List Oper) (R W:Nat->List Nat) (i:Nat) (o:Oper) (s:AS) (e:U5):Prop:=
 ∃s',Ref s s' /\((gw ops s' o=some true/\B1q P T (base+i) s' o e/\(∀k∈A3y s' o,k∈R i)/\A1b o.dst e=true/\ ∀k∈A0d e,k∈W i)\/(gw ops s' o=some false/\e=dst o.dst (.tup [])))
def aOp (P:Program) (T:I4) (base:Nat) (ops:List Oper) (R W:Nat->List Nat) (i:Nat) (K:AS->Prop) (s:AS):Prop:=
 match ops[i]? with
 |none=>K s
 |some o=> ∃e,A6q P T base ops R W i o s e/\K (s.apply e)
theorem D1Z {i:Nat} {s:AS} {K K' :AS->Prop} (h:∀s,K s->K' s) (hh:aOp P T base ops R W i K s):aOp P T base ops R W i K' s:=by
 unfold aOp at*
 split
 ·rename_i ho;simp only [ho] at hh;exact h _ hh
 ·rename_i o ho;simp only [ho] at hh;obtain ⟨e,h1,h2⟩:=hh;exact ⟨e,h1,h _ h2⟩
def C4W (P:Program) (T:I4) (md:Region.Mode) (base:Nat) (ops:List Oper) (R W:Nat->List Nat) (Q:AS->Prop):Nat->Array Bool->AS->Prop
 |0,listed,s=>Region.ready md ops.toArray listed= []/\Q s
 |fuel+1,listed,s=>(Region.ready md ops.toArray listed= []->Q s)/\
   ∀i∈Region.ready md ops.toArray listed,aOp P T base ops R W i (C4W P T md base ops R W Q fuel (listed.setIfInBounds i true)) s
theorem C9Z (d:Option Tmp) (v:AV):A1b d (dst d v)=true:=by
 cases d with
 |none=>rfl
 |some k=>simp [dst,A1b]
theorem D1L (d:Option Tmp) (v:AV):A0d (dst d v)= []:=by cases d<;>rfl
theorem A6q.fit {i:Nat} {o:Oper} {s:AS} {e:U5} (h:A6q P T base ops R W i o s e):A1b o.dst e=true/\ ∀k∈A0d e,k∈W i:=by
 obtain ⟨s',_,h⟩:=h;rcases h with ⟨_,_,_,h1,h2⟩|⟨_,rfl⟩
 ·exact ⟨h1,h2⟩
 ·exact ⟨C9Z _ _,by rw [D1L];simp⟩
theorem A6q.local_ (hT:A0v P T) {i:Nat} {o:Oper} {s s2:AS} {e:U5} (htmp:∀t∈o.looksAt ops.toArray,s2 (.tmp t)=s (.tmp t)) (hid:∀k∈R i,s2 (.box k)=s (.box k)/\s2 (.tok k)=s (.tok k))
  (h:A6q P T base ops R W i o s e):A6q P T base ops R W i o s2 e:=by
 classical
 obtain ⟨s',href,h⟩:=h
 let s3:AS:=fun l=>if s2 l=s l then s' l else s2 l
 have href3:Ref s2 s3:=fun l=>by
  by_cases hl:s2 l=s l
  ·have e3:s3 l=s' l:=if_pos hl;rcases href l with h1|⟨t,b,h1,h2,h3⟩
   ·exact .inl (by rw [e3,h1,hl])
   ·exact .inr ⟨t,b,h1,by rw [hl,h2],by rw [e3,h3]⟩
  ·exact .inl (if_neg hl)
 have htmp3: ∀t∈o.looksAt ops.toArray,s3 (.tmp t)=s' (.tmp t):=fun t ht=>if_pos (htmp t ht);have hid3: ∀k∈R i,s3 (.box k)=s' (.box k)/\s3 (.tok k)=s' (.tok k):=fun k hk=>⟨if_pos (hid k hk).1,if_pos (hid k hk).2⟩;have hg:gw ops s3 o=gw ops s' o:=by
  unfold gw;split
  ·rfl
  ·rename_i j want hgd;split
   ·rfl
   ·rename_i t ht;have:AS.tmp s3 t=AS.tmp s' t:=by
     unfold AS.tmp;rw [htmp3 t (List.mem_append_right _ (by
      unfold B6v at ht;split at ht
      ·rename_i o' ho';simp [hgd,ho',ht]
      ·cases ht))]
    rw [this]
 refine ⟨s3,href3, ?_⟩;rcases h with ⟨h1,h2,h3,h4,h5⟩|⟨h1,h2⟩
 ·have hv: ∀x∈o.op.operands.toList,s'.val x=s3.val x:=fun x hx=>by
   cases x with
   |tmp t=>
    show AS.tmp _ t=AS.tmp _ t;unfold AS.tmp;rw [htmp3 t (List.mem_append_left _ (List.mem_filterMap.2 ⟨.tmp t,hx,rfl⟩))]
   |const v=>rfl
   |global g=>rfl
   |func f=>rfl
  have ha:K6 (A3y s' o) s' s3:=fun k hk=>by
   obtain ⟨q1,q2⟩:=hid3 k (h3 k hk);exact ⟨q1.symm,q2.symm⟩
  exact .inl ⟨hg.trans h1,C6V hT hv ha h2,by rw [C9J hv ha];exact h3,h4,h5⟩
 ·exact .inr ⟨hg.trans h1,h2⟩
theorem A6q.back (hT:A0v P T) {i:Nat} {o:Oper} {s:AS} {e:U5} {d:Option Tmp} {e' :U5} (hf:A1b d e' =true) (hl:∀t,d=some t->t∉o.looksAt ops.toArray) (hW:∀k∈A0d e',k∉R i)
  (h:A6q P T base ops R W i o (s.apply e') e):A6q P T base ops R W i o s e:=
 h.local_ hT (fun t ht=>(B61 hf (fun hd=>hl t hd ht)).symm) (fun k hk=>by
  obtain ⟨q1,q2⟩:=B7K (s:=s) (e:=e') (k:=k) (fun ht=>hW k ht hk);exact ⟨q1.symm,q2.symm⟩)
theorem A6q.forth (hT:A0v P T) {i:Nat} {o:Oper} {s:AS} {e:U5} {d:Option Tmp} {e' :U5} (hf:A1b d e' =true) (hl:∀t,d=some t->t∉o.looksAt ops.toArray) (hW:∀k∈A0d e',k∉R i)
  (h:A6q P T base ops R W i o s e):A6q P T base ops R W i o (s.apply e') e:=
 h.local_ hT (fun t ht=>B61 hf (fun hd=>hl t hd ht)) (fun k hk=>B7K (fun ht=>hW k ht hk))
def B02 (R W:Nat->List Nat) (i j:Nat):Prop:=(∀k∈W i,k∉R j)/\(∀k∈W j,k∉R i)/\ ∀k∈W i,k∉W j
theorem D10 (hT:A0v P T) {i j:Nat} {oi oj:Oper} {e:U5} (hj:ops[j]? =some oj) (hap:oi.apart ops.toArray oj=true) (hc:B02 R W i j) {K:AS->Prop} {s:AS}
  (hy:A6q P T base ops R W i oi s e) (h:aOp P T base ops R W j K (s.apply e)):
  aOp P T base ops R W j (fun s' =>A6q P T base ops R W i oi s' e/\K (s'.apply e)) s:=by
 obtain ⟨h1,h2,h3⟩:=Oper.apart_spec hap;obtain ⟨c1,c2,c3⟩:=hc;obtain ⟨f1,f2⟩:=hy.fit;unfold aOp at*
 simp only [hj] at*
 obtain ⟨e',hs,hk⟩:=h;obtain ⟨g1,g2⟩:=hs.fit;refine ⟨e',hs.back hT f1 h1 (fun k hk=>c1 k (f2 k hk)),hy.forth hT g1 h3 (fun k hk=>c2 k (g2 k hk)), ?_⟩;rw [C8R s g1 f1 (fun t ht hd=>h2 t hd ht) (fun k hk hk' =>c3 k (f2 k hk') (g2 k hk))];exact hk
def A6Y (md:Region.Mode) (ops:List Oper):Nat->Oper->Nat->Bool
 |0,_,_=>false
 |n+1,o,k=>o.after.toList.any fun e=>Region.binds md e&&(Nat.beq e.on k||match ops[e.on]? with
  |some o' =>A6Y md ops n o' k
  |none=>false)
def B85 (md:Region.Mode) (ops:List Oper) (listed:Array Bool):Prop:=
 ∀k ok,ops[k]? =some ok->listed.getD k false=true-> ∀e∈ok.after,Region.binds md e=true->listed.getD e.on false=true
theorem B7z {listed:Array Bool} (hcl:B85 md ops listed) {i:Nat}: ∀(n:Nat) (o:Oper),A6Y md ops n o i=true->(∀e∈o.after,Region.binds md e=true->listed.getD e.on false=true)->listed.getD i false=true
 |0,_,h,_=>by cases h
 |n+1,o,h,ha=>by
  obtain ⟨e,he,hb⟩:=List.any_eq_true.1 h;simp only [D8i,D8l] at hb;have hl:=ha e (by simpa using he) hb.1
  rcases hb.2 with h1|h1
  ·rw [<-D8j h1];exact hl
  ·split at h1
   ·rename_i o' ho';exact B7z hcl n o' h1 (fun e' he' hb' =>hcl e.on o' ho' hl e' he' hb')
   ·cases h1
theorem C8K (hT:A0v P T) {Q:AS->Prop} {i:Nat} {oi:Oper} {e:U5} (hi:ops[i]? =some oi):
  ∀(fuel:Nat) (listed:Array Bool) (s:AS),
   (∀j oj,ops[j]? =some oj->j≠i->listed.getD j true=false->(∀e∈oj.after,Region.binds md e=true->e.on≠i)->oi.apart ops.toArray oj=true/\(A6Y md ops 6 oj i=false->B02 R W i j))->B85 md ops listed->
   i∈Region.ready md ops.toArray listed->A6q P T base ops R W i oi s e->
   C4W P T md base ops R W Q fuel (listed.setIfInBounds i true) (s.apply e)->C4W P T md base ops R W Q (fuel+1) listed s:=by
 intro fuel;have now: ∀ {K:AS->Prop} {s:AS},A6q P T base ops R W i oi s e->K (s.apply e)->aOp P T base ops R W i K s:=fun hy h=>by
  unfold aOp;simp only [hi];exact ⟨e,hy,h⟩
 induction fuel with
 |zero=>
  intro listed s _ _ hr hy H;refine ⟨fun h=>(by rw [h] at hr;cases hr),fun j hj=> ?_⟩
  by_cases hji:j=i
  ·subst hji;exact now hy H
  ·have:=ready_mono hj hji;rw [H.1] at this;cases this
 |succ fuel ih=>
  intro listed s hfree hclo hr hy H;refine ⟨fun h=>(by rw [h] at hr;cases hr),fun j hj=> ?_⟩
  by_cases hji:j=i
  ·subst hji;exact now hy H
  ·have h1:=H.2 j (ready_mono hj hji);obtain ⟨hjun,oj,hoj,hall⟩:=mem_ready.1 hj;have hoj' :ops[j]? =some oj:=by simpa using hoj
   have hnot: ∀e∈oj.after,Region.binds md e=true->e.on≠i:=fun e he hb heq=>by
    have h1:=hall e he hb;have h0:=(mem_ready.1 hr).1;rw [heq] at h1;rcases Nat.lt_or_ge i listed.size with h' |h'
    ·simp [h'] at h0 h1;rw [h0] at h1;cases h1
    ·simp [Array.getElem?_eq_none h'] at h1
   obtain ⟨hap,hcl0⟩:=hfree j oj hoj' hji hjun hnot;have hcl:B02 R W i j:=hcl0 (by
    cases hw:A6Y md ops 6 oj i with
    |false=>rfl
    |true=>
     exfalso;have h2:=B7z hclo 6 oj hw (fun e he hb=>by
      have h3:=hall e he hb;rcases Nat.lt_or_ge e.on listed.size with h' |h'
      ·simp [h'] at h3⊢;exact h3
      ·simp [Array.getElem?_eq_none h'] at h3)
     have h0:=(mem_ready.1 hr).1;rcases Nat.lt_or_ge i listed.size with h' |h'
     ·simp [h'] at h0 h2;rw [h0] at h2;cases h2
     ·simp [Array.getElem?_eq_none h'] at h2)
   have hclo' :B85 md ops (listed.setIfInBounds j true):=fun k ok hk hl e he hb=>by
    by_cases hjk:j=k
    ·subst hjk;rw [hoj'] at hk;cases hk;have h3:=hall e he hb;rcases Nat.lt_or_ge e.on listed.size with h' |h'
     ·by_cases hje:j=e.on
      ·rw [<-hje] at h' ⊢;simp [h']
      ·rw [getD_set_ne false hje];simp [h'] at h3⊢;exact h3
     ·simp [Array.getElem?_eq_none h'] at h3
    ·rw [getD_set_ne false hjk] at hl;have h3:=hclo k ok hk hl e he hb
     by_cases hje:j=e.on
     ·have hlt:e.on<listed.size:=by
       rcases Nat.lt_or_ge e.on listed.size with h' |h'
       ·exact h'
       ·simp [Array.getElem?_eq_none h'] at h3
      rw [hje];simp [hlt]
     ·rw [getD_set_ne false hje];exact h3
   have h2:=D10 hT hoj' hap hcl hy h1;have hfree' : ∀k ok,ops[k]? =some ok->k≠i->(listed.setIfInBounds j true).getD k true=false->
     (∀e∈ok.after,Region.binds md e=true->e.on≠i)->oi.apart ops.toArray ok=true/\(A6Y md ops 6 ok i=false->B02 R W i k):=fun k ok hk hki hun hno=>by
    refine hfree k ok hk hki ?_ hno
    by_cases hjk:j=k
    ·subst hjk;exact hjun
    ·rw [getD_set_ne true hjk] at hun;exact hun
   refine D1Z (fun s' h3=>ih (listed.setIfInBounds j true) s' hfree' hclo' (ready_mono hr (Ne.symm hji)) h3.1 ?_) h2;rw [Array.setIfInBounds_comm _ _ hji];exact h3.2
def B8i (P:Program) (T:I4) (base:Nat) (ops:List Oper) (R W:Nat->List Nat) (Q:AS->Prop):Nat->List Oper->AS->Prop
 |_, [],s=>Q s
 |i,o::r,s=> ∃e,A6q P T base ops R W i o s e/\B8i P T base ops R W Q (i+1) r (s.apply e)
theorem C4X (hT:A0v P T) {Q:AS->Prop} (hpairs:∀i j oj,i<j->ops[j]? =some oj->A6Y md ops 6 oj i=false->B02 R W i j):
  ∀(l:List Oper) (k:Nat) (listed:Array Bool) (s:AS),(∀j,l[j]? =ops[k+j]?)->(∀j,j<k->listed.getD j true=true)->B85 md ops listed->Region.lexFrom md ops.toArray l.length k listed=true->
   B8i P T base ops R W Q k l s->C4W P T md base ops R W Q l.length listed s
 | [],_,_,_,_,_,_,hB,h=>⟨by simpa [Region.lexFrom] using hB,h⟩
 |o::l,k,listed,s,hl,hlist,hclo,hB,h=>by
  have h0:ops[k]? =some o:=by simpa using (hl 0).symm
  simp only [D8t,Region.lexFrom,D8i] at hB;obtain ⟨⟨hr,hf⟩,hB'⟩:=hB;obtain ⟨e,hy,hK⟩:=h;have hr' :k∈Region.ready md ops.toArray listed:=by simpa using hr
  have hks:k<listed.size:=by
   have:=(mem_ready.1 hr').1;rcases Nat.lt_or_ge k listed.size with h|h
   ·exact h
   ·simp [Array.getElem?_eq_none h] at this
  refine C8K hT h0 l.length listed s (fun j oj hj hne hun hno=>⟨Region.free_spec (by simpa using h0) hf j oj (by simpa using hj) hne hun hno,hpairs k j oj ?_ hj⟩) hclo hr' hy
   (C4X hT hpairs l (k+1) _ _ (fun j=>by have:=hl (j+1);simpa [Nat.add_assoc,Nat.add_comm 1 j] using this) (fun j hj=> ?_) ?_ hB' hK)
  ·rcases Nat.lt_or_ge k j with h1|h1
   ·exact h1
   ·have h2:j<k:=by omega
    rw [hlist j h2] at hun;cases hun
  ·by_cases hjk:k=j
   ·subst hjk;simp [hks]
   ·rw [getD_set_ne true hjk];exact hlist j (by omega)
  ·intro j oj hj hlj e he hb;have hall: ∀e∈oj.after,Region.binds md e=true->listed.getD e.on false=true\/False:=fun e he hb=>by
    left
    by_cases hjk:k=j
    ·subst hjk;rw [h0] at hj;cases hj;obtain ⟨_,o',ho',hall⟩:=mem_ready.1 hr';have ho2:ops[k]? =some o' :=by simpa using ho'
     rw [h0] at ho2;cases ho2;have h3:=hall e he hb;rcases Nat.lt_or_ge e.on listed.size with h' |h'
     ·simp [h'] at h3⊢;exact h3
     ·simp [Array.getElem?_eq_none h'] at h3
    ·rw [getD_set_ne false hjk] at hlj;exact hclo j oj hj hlj e he hb
   have h3:=(hall e he hb).resolve_right id
   by_cases hke:k=e.on
   ·rw [<-hke];simp [hks]
   ·rw [getD_set_ne false hke];exact h3
end
def B8f (base:Nat) (listed:Array Bool):Nat->Prop:=fun k=>k<base\/ ∃i,listed.getD i false=true/\k=base+i
theorem C8L {F:Fr} {T:I4} (hT:A0v F.P T) {base:Nat} {ops:List Oper} {R W:Nat->List Nat} {md:Region.Mode} (hds:A3R F.N ops=true) {Q:AS->Prop} {Q' :Exit->Act->World->Prop}
  (hQ:∀s a w A,T1 F A s a w->(∀k,A k->k<base+ops.length)->Q s->Q' .normal a w):
  ∀(fuel:Nat) (listed:Array Bool) (s:AS) (a:Act) (w:World),T1 F (B8f base listed) s a w->listed.size=ops.length->C4W F.P T md base ops R W Q fuel listed s->wpAny F.P md ops.toArray Q' fuel listed a w:=by
 have hlt: ∀(listed:Array Bool),listed.size=ops.length-> ∀k,B8f base listed k->k<base+ops.length:=by
  intro listed hs k hk;rcases hk with hk|⟨i,h1,rfl⟩
  ·omega
  ·have:i<listed.size:=by
    rcases Nat.lt_or_ge i listed.size with h|h
    ·exact h
    ·simp [Array.getElem?_eq_none h] at h1
   omega
 intro fuel
 induction fuel with
 |zero=>intro listed s a w hs hsz h;exact ⟨h.1,hQ s a w _ hs (hlt listed hsz) h.2⟩
 |succ fuel ih=>
  intro listed s a w hs hsz h;refine ⟨fun h0=>hQ s a w _ hs (hlt listed hsz) (h.1 h0),fun i hi=> ?_⟩;have h1:=h.2 i hi;obtain ⟨hun,o,ho,_⟩:=mem_ready.1 hi;have ho' :ops[i]? =some o:=by simpa using ho
  have hmem:o∈ops:=D8p ho';have hd:=B5c hds hmem;have hil:i<listed.size:=by
   rcases Nat.lt_or_ge i listed.size with h|h
   ·exact h
   ·simp [Array.getElem?_eq_none h] at hun
  have hiA: ¬B8f base listed (base+i):=by
   rintro (h|⟨j,hj1,h2⟩)
   ·omega
   ·have:j=i:=by omega
    subst this;simp [hil] at hun hj1;rw [hun] at hj1;cases hj1
  have hset: ∀k,(B8f base listed k\/k=base+i)->B8f base (listed.setIfInBounds i true) k:=by
   rintro k ((hk|⟨j,h1,rfl⟩)|rfl)
   ·exact .inl hk
   ·exact .inr ⟨j,getD_set_true h1,rfl⟩
   ·exact .inr ⟨i,by simp [hil],rfl⟩
  have hsz' :(listed.setIfInBounds i true).size=ops.length:=by simpa using hsz
  unfold aOp at h1;simp only [ho'] at h1;obtain ⟨e,⟨s',href,hstep⟩,hk⟩:=h1;have hs' :=hs.ref href;unfold wpOp;simp only [ho];have hgw: ∀b,gw ops s' o=some b->Region.wanted o (yielded ops.toArray a.tmps)=b:=by
   intro b hb;unfold gw at hb;split at hb
   ·rename_i hg;cases hb;simp [Region.wanted,hg]
   ·rename_i j want hg;split at hb
    ·cases hb
    ·rename_i d hgd;split at hb
     ·rename_i b' hb';cases hb;exact B39 hg hgd (hs'.gval d b' hb')
     ·split at hb
      ·rename_i vs hvs;cases hb;obtain ⟨us,hu⟩:=hs'.gtup d vs hvs;exact C19 hg hgd hu
      ·cases hb
  rcases hstep with ⟨g1,g2,_,_,_⟩|⟨g1,rfl⟩
  ·simp only [hgw true g1,if_true];left;refine C4e hT hd g2 a w hs' hiA _ Q' (fun a' w' hs2=> ?_);exact ih _ (s.apply e) a' w' ((hs2.unref (href.apply e)).mono hset) hsz' hk
  ·simp only [hgw false g1,Bool.false_eq_true,if_false];exact ih _ _ _ w (((hs.skip o hd)).mono (fun k hk=>hset k (.inl hk))) hsz' hk
end Go.Vc
namespace Go.Vc
open Go.RowKit
def C5e (a b:List Nat):Bool:=a.all fun k=> !B13 k b
theorem B7Y {a b:List Nat} (h:C5e a b=true): ∀k∈a,k∉b:=by
 intro k hk hb;have h1:=D8M.1 h k hk;have:B13 k b=true:=List.any_eq_true.2 ⟨k,hb,Nat.beq_refl k⟩;rw [this] at h1;cases h1
def C1C:Op->List Operand
 | .slice _ x l h m=>x::(l.toList++(h.toList++m.toList))
 | .call c=>(match c.callee with
  | .value f=> [f]
  | .invoke r _=> [r]
  | .builtin _=> [])++c.args.toList
 |o=>o.operands.toList
theorem D1i (o:Op):C1C o=o.operands.toList:=by
 cases o<;>try rfl
 case slice t x l h m=>cases l<;>cases h<;>cases m<;>simp [C1C,Op.operands]
 case call c=>
  obtain ⟨f,as,ts⟩:=c;cases f<;>simp [C1C,Op.operands,Call.operands]
def C1T (s:AS) (o:Oper):List Nat:=(C1C o.op).flatMap fun x=>B8 (s.val x)++A89 o s (s.val x)
theorem D27:C1T=A3y:=by
 funext s o
 simp only [C1T,A3y,D1i]
abbrev Fps:=List (Nat×List Nat×List Nat)
def A8O (ops:List Oper) (o:Oper) (r w:List Nat):Fps->Bool
 | []=>true
 |(k,r',w')::l=>((C5e w' r&&(C5e w' r&&(C5e w r' &&C5e w' w)))||A6Y .any ops 6 o k)&&A8O ops o r w l
theorem B7f {ops:List Oper} {o:Oper} {r w:List Nat}: ∀ {l:Fps},A8O ops o r w l=true-> ∀k r' w',(k,r',w')∈l->A6Y .any ops 6 o k=false->
  (∀x∈w',x∉r)/\(∀x∈w,x∉r')/\ ∀x∈w',x∉w
 |(k0,r0,w0)::l,h,k,r',w',hm,hno=>by
  simp only [A8O,D8i,D8l] at h;rcases List.mem_cons.1 hm with hm|hm
  ·cases hm;rcases h.1.symm with h1|h1
   ·rw [h1] at hno;cases hno
   ·exact ⟨B7Y h1.1,B7Y h1.2.2.1,B7Y h1.2.2.2⟩
  ·exact B7f h.2 k r' w' hm hno
noncomputable def B1A (l:List Nat):(List Nat->Prop)->Prop:=
 List.rec (motive:=fun _=>(List Nat->Prop)->Prop) (fun K=>K []) (fun a _ ih K=>ih fun r' =>K (a::r')) l
theorem C3I: ∀(l:List Nat) (K:List Nat->Prop),B1A l K=K l
 | [],_=>rfl
 |a::r,K=>by
  show B1A r (fun r' =>K (a::r'))=_;exact C3I r _
noncomputable def B8S (P:Program) (T:I4) (base:Nat) (ops:List Oper) (ih:Nat->Fps->St->(St->Prop)->Prop) (o:Oper) (i:Nat) (fp:Fps) (st:St) (K:St->Prop):Prop:=
 match o.guard with
 |none=>A1P P T (base+i) (St.get st) o fun e=>B1A (C1T (St.get st) o) fun fr=>B1A (A0d e) fun fw=>match A1b o.dst e&&A8O ops o fr fw fp with
  |true=>X0 e st fun st' =>ih (i+1) ((i,fr,fw)::fp) st' K
  |false=>False
 |some (j,want)=>match B6v ops j with
  |none=>False
  |some d=>match AS.tmp (St.get st) d with
   | .bool b=>match Bool.xor b want with
    |false=>A1P P T (base+i) (St.get st) o fun e=>B1A (C1T (St.get st) o) fun fr=>B1A (A0d e) fun fw=>match A1b o.dst e&&A8O ops o fr fw fp with
     |true=>X0 e st fun st' =>ih (i+1) ((i,fr,fw)::fp) st' K
     |false=>False
    |true=>X0 (dst o.dst (.tup [])) st fun st' =>ih (i+1) fp st' K
   | .sb b=>(b=want->A1P P T (base+i) (St.get ((.tmp d, .av (.bool want))::st)) o fun e=>B1A (C1T (St.get ((.tmp d, .av (.bool want))::st)) o) fun fr=>B1A (A0d e) fun fw=>match A1b o.dst e&&A8O ops o fr fw fp with
      |true=>X0 e ((.tmp d, .av (.bool want))::st) fun st' =>ih (i+1) ((i,fr,fw)::fp) st' K
      |false=>False)/\
     (b=(!want)->X0 (dst o.dst (.tup [])) ((.tmp d, .av (.bool (!want)))::st) fun st' =>ih (i+1) fp st' K)
   | .tup _=>X0 (dst o.dst (.tup [])) st fun st' =>ih (i+1) fp st' K
   |_=>False
noncomputable def B6d (P:Program) (T:I4) (base:Nat) (ops:List Oper) (i:Nat) (l:List Oper) (fp:Fps) (st:St) (K:St->Prop):Prop:=
 List.rec (motive:=fun _=>Nat->Fps->St->(St->Prop)->Prop) (fun _ _ st K=>K st) (fun o _ ih i fp st K=>B8S P T base ops ih o i fp st K) l i fp st K
theorem Ref.trans {s s' s'' :AS} (h:Ref s s') (h':Ref s' s''):Ref s s'' :=fun l=>by
 rcases h' l with h1|⟨t,b,h1,h2,h3⟩
 ·rw [h1];exact h l
 ·rcases h l with g1|⟨t',b',g1,g2,g3⟩
  ·exact .inr ⟨t,b,h1,by rw [<-g1,h2],h3⟩
  ·rw [h2] at g3;cases g3
theorem Ref.lit {st:St} {d:Nat} {b:Bool} (hd:AS.tmp (St.get st) d= .sb b):Ref (St.get st) (St.get ((.tmp d, .av (.bool b))::st)):=fun l=>by
 have hd' :St.get st (.tmp d)= .av (.sb b):=by
  unfold AS.tmp at hd;split at hd
  ·rename_i v hv;rw [hv,hd]
  ·cases hd
 have e:St.get ((.tmp d, .av (.bool b))::st)=AS.put (St.get st) (.tmp d) (.av (.bool b)):=rfl;rw [e];cases l with
 |tmp t=>
  by_cases ht:t=d
  ·subst ht;exact .inr ⟨t,b,rfl,hd',A9M _ _ _⟩
  ·exact .inl (B6L _ _ _ _ ht)
 |box i=>exact .inl rfl
 |tok i=>exact .inl rfl
def D5i (fp:Fps) (i:Nat) (R W:Nat->List Nat):Prop:= ∀k,k<i->(∃r w,(k,r,w)∈fp/\R k=r/\W k=w)\/(R k= []/\W k= [])
theorem B6T {P:Program} {T:I4} {base:Nat} {ops:List Oper} {K:St->Prop}:
  ∀(l:List Oper) (i:Nat) (fp:Fps) (st:St) (s:AS) (R0 W0:Nat->List Nat),(∀j,l[j]? =ops[i+j]?)->Ref s (St.get st)->D5i fp i R0 W0->B6d P T base ops i l fp st K->
   ∃R W:Nat->List Nat,(∀k,k<i->R k=R0 k/\W k=W0 k)/\B8i P T base ops R W (fun s=> ∃st,Ref s (St.get st)/\K st) i l s/\
    ∀k j oj,k<j->i<=j->ops[j]? =some oj->A6Y .any ops 6 oj k=false->B02 R W k j
 | [],i,fp,st,s,R0,W0,hl,href,_,h=>by
  refine ⟨R0,W0,fun _ _=>⟨rfl,rfl⟩,⟨st,href,h⟩,fun k j oj _ hij hj=> ?_⟩;have:=hl (j-i);rw [show i+(j-i)=j by omega,hj] at this
  simp at this
 |o::l,i,fp,st,s,R0,W0,hl,href,hcov,h=>by
  have ho:ops[i]? =some o:=by simpa using (hl 0).symm
  have hl' : ∀j,l[j]? =ops[i+1+j]? :=fun j=>by have:=hl (j+1);simpa [Nat.add_assoc,Nat.add_comm 1 j] using this
  have run: ∀st,Ref s (St.get st)->gw ops (St.get st) o=some true->
    (A1P P T (base+i) (St.get st) o fun e=>match A1b o.dst e&&A8O ops o (A3y (St.get st) o) (A0d e) fp with
      |true=>X0 e st fun st' =>B6d P T base ops (i+1) l ((i,A3y (St.get st) o,A0d e)::fp) st' K
      |false=>False)->
    ∃R W:Nat->List Nat,(∀k,k<i->R k=R0 k/\W k=W0 k)/\B8i P T base ops R W (fun s=> ∃st,Ref s (St.get st)/\K st) i (o::l) s/\
     ∀k j oj,k<j->i<=j->ops[j]? =some oj->A6Y .any ops 6 oj k=false->B02 R W k j:=by
   intro st href hgw h;obtain ⟨e,hy,hk⟩:=B56 h;split at hk
   ·rename_i hb;simp only [D8i] at hb;rw [A67] at hk;obtain ⟨R,W,h1,h2,h3⟩:=B6T l (i+1) _ (e++st) (s.apply e) (L4 R0 i (A3y (St.get st) o)) (L4 W0 i (A0d e)) hl' (by rw [A9E];exact href.apply e) (fun k hk=>by
     by_cases hki:k=i
     ·subst hki;exact .inl ⟨_,_,List.mem_cons_self ..,H3 _ _ _,H3 _ _ _⟩
     ·rw [K1 _ _ hki,K1 _ _ hki];rcases hcov k (by omega) with ⟨r,w,g1,g2,g3⟩|g
      ·exact .inl ⟨r,w,List.mem_cons_of_mem _ g1,g2,g3⟩
      ·exact .inr g) hk
    have hRi:R i=A3y (St.get st) o/\W i=A0d e:=by
     obtain ⟨g1,g2⟩:=h1 i (by omega)
     rw [H3] at g1 g2;exact ⟨g1,g2⟩
    have hRk: ∀k,k<i->R k=R0 k/\W k=W0 k:=fun k hk=>by
     obtain ⟨g1,g2⟩:=h1 k (by omega)
     rw [K1 _ _ (by omega)] at g1 g2
     exact ⟨g1,g2⟩
    refine ⟨R,W,hRk,⟨e,⟨St.get st,href, .inl ⟨hgw,hy,by rw [hRi.1];exact fun _ h=>h,hb.1,by rw [hRi.2];exact fun _ h=>h⟩⟩,h2⟩,fun k j oj hkj hij hj hno=> ?_⟩
    by_cases hji:j=i
    ·subst hji;rw [ho] at hj;cases hj;unfold B02;rw [(hRk k hkj).1,(hRk k hkj).2,hRi.1,hRi.2];rcases hcov k hkj with ⟨r,w,g1,g2,g3⟩|⟨g2,g3⟩
     ·rw [g2,g3];exact B7f hb.2 k r w g1 hno
     ·rw [g2,g3];simp
    ·exact h3 k j oj hkj (by omega) hj hno
   ·exact hk.elim
  have pass: ∀st,Ref s (St.get st)->gw ops (St.get st) o=some false->
    (X0 (dst o.dst (.tup [])) st fun st' =>B6d P T base ops (i+1) l fp st' K)->
    ∃R W:Nat->List Nat,(∀k,k<i->R k=R0 k/\W k=W0 k)/\B8i P T base ops R W (fun s=> ∃st,Ref s (St.get st)/\K st) i (o::l) s/\
     ∀k j oj,k<j->i<=j->ops[j]? =some oj->A6Y .any ops 6 oj k=false->B02 R W k j:=by
   intro st href hgw h;rw [A67] at h;obtain ⟨R,W,h1,h2,h3⟩:=B6T l (i+1) fp _ (s.apply (dst o.dst (.tup []))) (L4 R0 i []) (L4 W0 i []) hl' (by rw [A9E];exact href.apply _) (fun k hk=>by
     by_cases hki:k=i
     ·subst hki;exact .inr ⟨H3 _ _ _,H3 _ _ _⟩
     ·rw [K1 _ _ hki,K1 _ _ hki];exact hcov k (by omega)) h
   have hRi:R i= []/\W i= []:=by
    obtain ⟨g1,g2⟩:=h1 i (by omega)
    rw [H3] at g1 g2;exact ⟨g1,g2⟩
   have hRk: ∀k,k<i->R k=R0 k/\W k=W0 k:=fun k hk=>by
    obtain ⟨g1,g2⟩:=h1 k (by omega)
    rw [K1 _ _ (by omega)] at g1 g2
    exact ⟨g1,g2⟩
   refine ⟨R,W,hRk,⟨_,⟨St.get st,href, .inr ⟨hgw,rfl⟩⟩,h2⟩,fun k j oj hkj hij hj hno=> ?_⟩
   by_cases hji:j=i
   ·subst hji;unfold B02;rw [hRi.1,hRi.2];simp
   ·exact h3 k j oj hkj (by omega) hj hno
  have gws: ∀(st:St) (j:Nat) (want b:Bool) (d:Tmp),o.guard=some (j,want)->B6v ops j=some d->AS.tmp (St.get st) d= .bool b->gw ops (St.get st) o=some (b==want):=by
   intro st j want b d h1 h2 h3;simp only [gw,h1,h2,h3,T3]
  change B8S P T base ops (fun i fp st K=>B6d P T base ops i l fp st K) o i fp st K at h;unfold B8S at h;simp only [D27,C3I] at h;split at h
  ·rename_i hg;exact run st href (by simp [gw,hg]) h
  ·rename_i j want hg;split at h
   ·exact h.elim
   ·rename_i d hgd;split at h
    ·rename_i b hb;have hw:=gws st j want b d hg hgd hb;split at h
     ·rename_i hx;exact run st href (by rw [hw];cases b<;>cases want<;>simp_all) h
     ·rename_i hx;exact pass st href (by rw [hw];cases b<;>cases want<;>simp_all) h
    ·rename_i b hb;have laid: ∀v,AS.tmp (St.get ((.tmp d, .av (.bool v))::st)) d= .bool v:=fun v=>by
      have e:St.get ((.tmp d, .av (.bool v))::st)=AS.put (St.get st) (.tmp d) (.av (.bool v)):=rfl;simp only [AS.tmp,e,A9M]
     by_cases hbw:b=want
     ·have h1:=h.1 hbw;subst hbw;exact run _ (href.trans (Ref.lit hb)) (by rw [gws _ j b b d hg hgd (laid b)];simp) h1
     ·have hbn:b= !want:=by cases b<;>cases want<;>simp_all
      have h1:=h.2 hbn;rw [hbn] at hb;exact pass _ (href.trans (Ref.lit hb)) (by rw [gws _ j want (!want) d hg hgd (laid _)];simp) h1
    ·rename_i vs hb;exact pass st href (by simp only [gw,hg,hgd,hb,T3]) h
    ·exact h.elim
theorem T1.grow {F:Fr} {A:Nat->Prop} {s:AS} {a:Act} {w:World} (h:T1 F A s a w):T1 F A s a { w with drawn:=w.drawn+1}:=by
 obtain ⟨β,τ,ok,hx⟩:=h;exact ⟨β,τ,ok,hx.grow { w with drawn:=w.drawn+1} (D8S _) (fun _ _=>rfl) (fun _=>(fun _=>rfl)) rfl rfl rfl⟩
theorem C6a {F:Fr} {T:I4} (hT:A0v F.P T) {id nx:Nat} {ops:Array Oper} (hds:A3R F.N ops.toList=true) {Q:Exit->Act->World->Prop} {K:St->Prop}
  (hQ:∀st a w A,T1 F A (St.get st) a w->(∀k,A k->k<nx+ops.toList.length)->K st->Q .normal a w) {st:St} {a:Act} {w:World} {A:Nat->Prop} (h:T1 F A (St.get st) a w) (hA:∀k,A k->k<nx)
  (hv:B9r F.P T nx ops.toList 0 ops.toList st K):(Code.region id ops false).wp F.P Q a w:=by
 apply wp_region;have:=B5v hT nx ops.toList hds Q K (fun st a w hs hk=>hQ st a w _ hs (fun _ h=>h) hk) ops.toList 0 st a w (by simp) (by simp) (h.mono (fun k hk=>by have:=hA k hk;omega)) hv
 rw [List.range_eq_range'];simpa using this
theorem C81 {F:Fr} {T:I4} (hT:A0v F.P T) (hm:F.P.follows .mixedOrders=true) {id nx:Nat} {ops:Array Oper} (hds:A3R F.N ops.toList=true) (hB:Region.lexB .any ops=true) {Q:Exit->Act->World->Prop} {K:St->Prop}
  (hQ:∀st a w A,T1 F A (St.get st) a w->(∀k,A k->k<nx+ops.toList.length)->K st->Q .normal a w) {st:St} {a:Act} {w:World} {A:Nat->Prop} (h:T1 F A (St.get st) a w) (hA:∀k,A k->k<nx)
  (hv:B6d F.P T nx ops.toList 0 ops.toList [] st K):(Code.region id ops true).wp F.P Q a w:=by
 apply wp_region_any hm;simp only [Region.lexB,D8i] at hB;obtain ⟨R,W,_,h2,h3⟩:=B6T ops.toList 0 [] st (St.get st) (fun _=> []) (fun _=> []) (by simp) (Ref.refl _) (fun k hk=>by omega) hv
 have h4:=C4X hT (md:= .any) (fun i j oj hij hj hno=>h3 i j oj hij (Nat.zero_le _) hj hno) ops.toList 0 (Array.replicate ops.size false) (St.get st) (by simp) (fun j hj=>by omega) (fun k ok hk hl=>by
   rcases Nat.lt_or_ge k ops.size with h' |h'
   ·simp [h'] at hl
   ·simp [h'] at hl) (by simpa using hB.2) h2
 have h5:=C8L hT (base:=nx) (ops:=ops.toList) (Q' :=Q) hds (fun s a w A hs hA ⟨st',href,hk⟩=>hQ st' a w A (hs.ref href) hA hk) _ _ _ a _ ((h.grow).mono (fun k hk=>Or.inl (hA k hk))) (by simp) h4
 simpa using h5
end Go.Vc
namespace Go.Vc
open Go.RowKit
abbrev O1:=List (Nat×Option Nat)
def O1.at:O1->Nat->Option Nat
 | [],i=>some i
 |(j,o)::r,i=>match Nat.beq i j with
  |true=>o
  |false=>O1.at r i
def B6x (ρ:O1) (i' i:Nat):Bool:=match O1.at ρ i' with
 |some j=>Nat.beq j i
 |none=>false
def C9e (ρ:O1) (i':Nat):Bool:=match O1.at ρ i' with
 |some _=>false
 |none=>true
def D0P (k k':IntKind):Bool:=decide (k=k')
def wkS (ρ:O1) (nx:Nat) (v v':AV) (K:Prop):Prop:=match v' with
 | .ptr i' o' =>match v with
  | .ptr i o=>match B6x ρ i' i&&(Nat.blt i' nx&&Nat.beq o o') with
   |true=>K
   |false=>False
  |_=>False
 | .int k' n' =>match v with
  | .int k n=>match D0P k k' with
   |true=>n=n' /\K
   |false=>False
  |_=>False
 | .sb b' =>match T3 v with
  |some b=>b=b' /\K
  |none=>False
 | .fn f' =>match v with
  | .fn f=>match Nat.beq f f' with
   |true=>K
   |false=>False
  |_=>False
 | .nilp=>match v with
  | .nilp=>K
  |_=>False
 | .nilS=>match v with
  | .nilS=>K
  |_=>False
 |_=>False
def C3m (ρ:O1) (nx:Nat):List AV->List AV->Prop->Prop
 | [], [],K=>K
 |v::vs,v' ::vs',K=>wkS ρ nx v v' (C3m ρ nx vs vs' K)
 |_,_,_=>False
def wkC (ρ:O1) (nx:Nat) (v v':AV) (K:Prop):Prop:=match v' with
 | .junk=>K
 | .int k' n' =>match v with
  | .int k n=>match D0P k k' with
   |true=>n=n' /\K
   |false=>False
  |_=>False
 | .bool b' =>match T3 v with
  |some b=>b=b' /\K
  |none=>False
 | .sb b' =>match T3 v with
  |some b=>b=b' /\K
  |none=>False
 | .lst sz' f' xs' =>match v with
  | .lst sz f xs=>match Nat.beq sz sz' with
   |true=>(f' =true->f=true)/\(xs=xs' /\K)
   |false=>False
  | .nilS=>xs' = []/\K
  |_=>False
 | .own t' =>match v with
  | .own t=>match B6x ρ t' t&&Nat.blt t' nx with
   |true=>K
   |false=>False
  | .nilS=>match C9e ρ t' &&Nat.blt t' nx with
   |true=>K
   |false=>False
  | .ali t=>match B6x ρ t' t&&Nat.blt t' nx with
   |true=>K
   |false=>False
  |_=>False
 | .ali t' =>match v with
  | .own t=>match B6x ρ t' t&&Nat.blt t' nx with
   |true=>K
   |false=>False
  | .ali t=>match B6x ρ t' t&&Nat.blt t' nx with
   |true=>K
   |false=>False
  |_=>False
 | .ptr i' o' =>match v with
  | .ptr i o=>match B6x ρ i' i&&(Nat.blt i' nx&&Nat.beq o o') with
   |true=>K
   |false=>False
  |_=>False
 | .bsl i' n' =>match v with
  | .bsl i n=>match B6x ρ i' i&&(Nat.blt i' nx&&Nat.beq n n') with
   |true=>K
   |false=>False
  |_=>False
 | .clo f' bs' cs' =>match v with
  | .clo f bs cs=>match Nat.beq f f' with
   |true=>C3m ρ nx bs bs' (C3m ρ nx cs cs' K)
   |false=>False
  |_=>False
 | .rp cs' =>match v with
  | .rp cs=>cs=cs' /\K
  |_=>False
 | .fn f' =>match v with
  | .fn f=>match Nat.beq f f' with
   |true=>K
   |false=>False
  |_=>False
 | .nilp=>match v with
  | .nilp=>K
  |_=>False
 | .nilS=>match v with
  | .nilS=>K
  |_=>False
 |_=>False
def wkL (ρ:O1) (nx:Nat):List AV->List AV->Prop->Prop
 | [], [],K=>K
 |v::vs,v' ::vs',K=>wkC ρ nx v v' (wkL ρ nx vs vs' K)
 |_,_,_=>False
def wkV (ρ:O1) (nx:Nat) (v v':AV) (K:Prop):Prop:=match v' with
 | .agg cs' =>match v with
  | .agg cs=>wkL ρ nx cs cs' K
  |_=>False
 |v' =>wkC ρ nx v v' K
def wkR (m nx:Nat) (ρ:O1) (s:AS):St->Prop
 | []=>True
 |(.tmp d, .av v')::r=>wkV ρ nx (s.tmp d) v' (wkR m nx ρ s r)
 |(.box i', .box cs')::r=>match O1.at ρ i' with
  |some i=>match s (.box i) with
   | .box cs=>match Nat.blt i' nx&&(Nat.beq i i' ||(Nat.ble m i&&Nat.ble m i')) with
    |true=>wkL ρ nx cs cs' (wkR m nx ρ s r)
    |false=>False
   |_=>False
  |none=>False
 |(.tok t', .tok e' sz' xs')::r=>match Nat.blt t' nx with
  |true=>match O1.at ρ t' with
   |some t=>match s (.tok t) with
    | .tok e sz xs=>match Nat.beq e e' &&Nat.beq sz sz' with
     |true=>xs=xs' /\wkR m nx ρ s r
     |false=>False
    |_=>False
   |none=>match Nat.blt 0 sz' with
    |true=>xs' = []/\wkR m nx ρ s r
    |false=>False
  |false=>False
 |(.tmp _, .none)::r=>wkR m nx ρ s r
 |(.box _, .none)::r=>wkR m nx ρ s r
 |(.tok _, .none)::r=>wkR m nx ρ s r
 |_=>False
def B0r:St->List Nat
 | []=> []
 |(.box i,_)::r=>i::B0r r
 |(.tmp _,_)::r=>B0r r
 |(.tok _,_)::r=>B0r r
def B0U:St->List Nat
 | []=> []
 |(.tok i,_)::r=>i::B0U r
 |(.tmp _,_)::r=>B0U r
 |(.box _,_)::r=>B0U r
def D3O:Option Nat->Option Nat->Bool
 |some a,some b=>Nat.beq a b
 |_,_=>false
def inj (ρ:O1) (ks:List Nat):Bool:=ks.all fun i=>ks.all fun j=>Nat.beq i j|| !D3O (O1.at ρ i) (O1.at ρ j)
def C9a (m:Nat) (ρ:O1):Bool:=ρ.all fun p=>Nat.ble m p.1
def Wk (m nx:Nat) (ρ:O1) (s:AS) (st':St):Prop:=
 (inj ρ (B0r st')&&(inj ρ (B0U st')&&(C9a m ρ&&Nat.ble m nx)))=true/\wkR m nx ρ s st'
theorem C43 {m:Nat}: ∀ {ρ:O1},C9a m ρ=true-> ∀j,j<m->O1.at ρ j=some j
 | [],_,_,_=>rfl
 |(i,o)::r,h,j,hj=>by
  simp only [C9a,List.all_cons,D8i] at h;have h1:m<=i:=D8H h.1;simp only [O1.at,A9c (show j≠i by omega)]
  exact C43 h.2 j hj
theorem C5y {ρ:O1} {ks:List Nat} (h:inj ρ ks=true) {i j a:Nat} (hi:i∈ks) (hj:j∈ks) (h1:O1.at ρ i=some a) (h2:O1.at ρ j=some a):i=j:=by
 have:=D8M.1 (D8M.1 h i hi) j hj;rw [h1,h2] at this;simp only [D3O,A2U,D8m,Bool.or_false] at this;exact D8j this
theorem C0y: ∀ {st:St} {i:Nat} {cs:List AV},St.get st (.box i)= .box cs->i∈B0r st
 | [],_,_,h=>by cases h
 |(l,c)::r,i,cs,h=>by
  simp only [St.get] at h;split at h
  ·rename_i hb;cases l<;>simp only [Loc.beq] at hb<;>try cases hb
   rw [D8j hb];simp [B0r]
  ·have:=C0y (st:=r) h;cases l<;>simp [B0r,this]
theorem C0z: ∀ {st:St} {i:Nat} {e sz xs},St.get st (.tok i)= .tok e sz xs->i∈B0U st
 | [],_,_,_,_,h=>by cases h
 |(l,c)::r,i,e,sz,xs,h=>by
  simp only [St.get] at h;split at h
  ·rename_i hb;cases l<;>simp only [Loc.beq] at hb<;>try cases hb
   rw [D8j hb];simp [B0U]
  ·have:=C0z (st:=r) h;cases l<;>simp [B0U,this]
section
variable {ρ:O1} {nx:Nat}
theorem D3T {v v' :AV} {K:Prop} (h:wkS ρ nx v v' K):K:=by
 unfold wkS at h
 repeat' split at h
 all_goals first|exact h.elim|exact h.2|exact h
theorem C2k: ∀ {vs vs' :List AV} {K:Prop},C3m ρ nx vs vs' K->K
 | [], [],_,h=>h
 | [],_::_,_,h=>h.elim
 |_::_, [],_,h=>h.elim
 |_::_,_::_,_,h=>C2k (D3T h)
theorem C95 {v v' :AV} {K:Prop} (h:wkC ρ nx v v' K):K:=by
 unfold wkC at h
 repeat' split at h
 all_goals first|exact h|exact C2k (C2k h)|exact h.2.2|exact h.2|exact h.elim
theorem C2j: ∀ {vs vs' :List AV} {K:Prop},wkL ρ nx vs vs' K->K
 | [], [],_,h=>h
 |v::vs,v' ::vs',K,h=>C2j (C95 h)
 | [],_::_,_,h=>h.elim
 |_::_, [],_,h=>h.elim
theorem C96 {v v' :AV} {K:Prop} (h:wkV ρ nx v v' K):K:=by
 unfold wkV at h
 repeat' split at h
 ·exact C2j h
 ·exact h.elim
 ·exact C95 h
theorem A4Z: ∀ {vs vs' :List AV} {K:Prop},wkL ρ nx vs vs' K->vs.length=vs'.length/\ ∀(j:Nat) (v' :AV),vs'[j]? =some v' -> ∃v K',vs[j]? =some v/\wkC ρ nx v v' K'
 | [], [],_,h=>by simp
 |v::vs,v' ::vs',K,h=>by
  obtain ⟨h1,h2⟩:=A4Z (C95 h);refine ⟨by simp [h1],fun j x hj=> ?_⟩
  cases j with
  |zero=>cases hj;exact ⟨v,_,rfl,h⟩
  |succ j=>simpa using h2 j x (by simpa using hj)
 | [],_::_,_,h=>h.elim
 |_::_, [],_,h=>h.elim
structure WkM (ρ:O1) (nx:Nat) (m m' :G7):Prop where
 w:m'.w=m.w
 ok:m'.ok=m.ok
 A:m'.A=fun i=>i<nx
 beta: ∀i' i,O1.at ρ i' =some i->m'.β i' =m.β i
 tau: ∀t' t,O1.at ρ t' =some t->m'.τ t' =m.τ t
 tauN: ∀t',O1.at ρ t' =none->m'.τ t' =none
 tok: ∀t' e sz xs,m'.s (.tok t')= .tok e sz xs->(∃t,O1.at ρ t' =some t/\m.s (.tok t)= .tok e sz xs)\/(O1.at ρ t' =none/\xs= []/\0<sz)
 box: ∀i' cs',m'.s (.box i')= .box cs' -> ∃i cs,O1.at ρ i' =some i/\m.s (.box i)= .box cs
theorem A6B {i' i:Nat} (h:B6x ρ i' i=true):O1.at ρ i' =some i:=by
 unfold B6x at h;split at h
 ·rename_i j hj;rw [hj,D8j h]
 ·cases h
theorem C9f {i' :Nat} (h:C9e ρ i' =true):O1.at ρ i' =none:=by
 unfold C9e at h;split at h
 ·cases h
 ·assumption
theorem D6z {m m' :G7} (hm:WkM ρ nx m m') {v v' :AV} {K:Prop} {u:Value} (h:wkS ρ nx v v' K) (hv:VRs m v u):VRs m' v' u:=by
 unfold wkS at h;split at h
 ·split at h
  ·rename_i i o;split at h
   ·rename_i hk;simp only [D8i] at hk;have ht:=A6B hk.1;have ho:=D8j hk.2.2;subst ho;refine ⟨by rw [hm.A];exact W5 hk.2.1,hv.2.1,fun ⟨cs',hs⟩=> ?_⟩
    obtain ⟨i2,cs,h1,h2⟩:=hm.box _ cs' hs;rw [ht] at h1;cases h1;rw [hm.beta _ i ht];exact hv.2.2 ⟨cs,h2⟩
   ·exact h.elim
  ·exact h.elim
 ·split at h
  ·split at h
   ·rename_i hk;obtain ⟨rfl,_⟩:=h;have:=of_decide_eq_true hk;subst this;exact hv
   ·exact h.elim
  ·exact h.elim
 ·split at h
  ·rename_i b hb;obtain ⟨rfl,_⟩:=h;cases v<;>simp only [T3] at hb<;>cases hb<;>exact hv
  ·exact h.elim
 ·split at h
  ·split at h
   ·rename_i hk;rw [<-D8j hk];exact hv
   ·exact h.elim
  ·exact h.elim
 ·split at h
  ·exact hv
  ·exact h.elim
 ·split at h
  ·exact hv
  ·exact h.elim
 ·exact h.elim
theorem C8B {m m' :G7} (hm:WkM ρ nx m m') {vs vs' :List AV} {K:Prop} {us:Array Value} (h:C3m ρ nx vs vs' K) (hv:VRl m vs us):VRl m' vs' us:=by
 have key: ∀(vs vs' :List AV) (K:Prop),C3m ρ nx vs vs' K->vs.length=vs'.length/\ ∀(j:Nat) (v' :AV),vs'[j]? =some v' -> ∃v K',vs[j]? =some v/\wkS ρ nx v v' K' :=by
  intro vs
  induction vs with
  |nil=>
   intro vs' K h;cases vs' with
   |nil=>exact ⟨rfl,fun j v' hj=>by simp at hj⟩
   |cons _ _=>exact h.elim
  |cons v vs ih=>
   intro vs' K h;cases vs' with
   |nil=>exact h.elim
   |cons v' vs' =>
    obtain ⟨g1,g2⟩:=ih vs' K (D3T h);refine ⟨by simp [g1],fun j w hj=> ?_⟩
    cases j with
    |zero=>cases hj;exact ⟨v,_,rfl,h⟩
    |succ j=>simpa using g2 j w (by simpa using hj)
 obtain ⟨k1,k2⟩:=key vs vs' K h;refine ⟨hv.1.trans k1,fun j c hj=> ?_⟩;obtain ⟨v,K',q1,q2⟩:=k2 j c hj;obtain ⟨u,e1,e2,e3⟩:=hv.2 j v q1;exact ⟨u,e1,e2,D6z hm q2 e3⟩
theorem B9t {m m' :G7} (hm:WkM ρ nx m m') {v v' :AV} {K:Prop} {u:Value} (h:wkC ρ nx v v' K) (hv:J8 m v u):J8 m' v' u:=by
 unfold wkC at h;split at h
 ·trivial
 ·split at h
  ·split at h
   ·rename_i hk;obtain ⟨rfl,_⟩:=h;have:=of_decide_eq_true hk;subst this;exact hv
   ·exact h.elim
  ·exact h.elim
 ·split at h
  ·rename_i b hb;obtain ⟨rfl,_⟩:=h;cases v<;>simp only [T3] at hb<;>cases hb<;>exact hv
  ·exact h.elim
 ·split at h
  ·rename_i b hb;obtain ⟨rfl,_⟩:=h;cases v<;>simp only [T3] at hb<;>cases hb<;>exact hv
  ·exact h.elim
 ·rename_i sz' f' xs';split at h
  ·rename_i sz f xs;split at h
   ·rename_i hk;obtain ⟨hff,rfl,_⟩:=h;have hsz:=D8j hk;subst hsz;have hv' :PR m.w m.ok (.lst sz f xs) u:=hv;show PR m'.w m'.ok (.lst sz f' xs) u;rw [hm.w,hm.ok];cases hv' with
    |lst _ _ _ a cap u' hcap hmax hfull hsz hnone hcell hrec=>
     exact .lst sz f' xs a cap u' hcap hmax (fun hf=>hfull (hff hf)) hsz hnone hcell hrec
   ·exact h.elim
  ·obtain ⟨rfl,_⟩:=h;have hv' :u= .slice none 0 0:=hv;subst hv';show PR m'.w m'.ok (.lst sz' f' []) (.slice none 0 0);exact .lst sz' f' [] none 0 (fun _ _=> .bool false) (D8S _) (by simp) (fun _=>rfl) (by simp) (fun _=>rfl) (fun i j c x hi=>by simp at hi) (fun i j c x hi=>by simp at hi)
  ·exact h.elim
 ·rename_i t';split at h
  ·rename_i t;split at h
   ·rename_i hk;simp only [D8i] at hk;have ht:=A6B hk.1;refine ⟨by rw [hm.A];exact W5 hk.2,hv.2.1,fun e sz xs hs=> ?_⟩
    rcases hm.tok t' e sz xs hs with ⟨t2,h1,h2⟩|⟨h1,_⟩
    ·rw [ht] at h1;cases h1;rw [hm.tau t' t ht];exact hv.2.2 e sz xs h2
    ·rw [ht] at h1;cases h1
   ·exact h.elim
  ·split at h
   ·rename_i hk;simp only [D8i] at hk;have ht:=C9f hk.1;have hv' :u= .slice none 0 0:=hv;refine ⟨by rw [hm.A];exact W5 hk.2,by rw [hv'];rfl,fun e sz xs hs=>⟨fun _=>hv',fun b o cap hc=> ?_⟩⟩
    rw [hm.tauN t' ht] at hc;cases hc
   ·exact h.elim
  ·rename_i t;split at h
   ·rename_i hk;simp only [D8i] at hk;have ht:=A6B hk.1;refine ⟨by rw [hm.A];exact W5 hk.2,hv.2.1,fun e sz xs hs=> ?_⟩
    rcases hm.tok t' e sz xs hs with ⟨t2,h1,h2⟩|⟨h1,_⟩
    ·rw [ht] at h1;cases h1;rw [hm.tau t' t ht];exact hv.2.2 e sz xs h2
    ·rw [ht] at h1;cases h1
   ·exact h.elim
  ·exact h.elim
 ·rename_i t';split at h
  ·rename_i t;split at h
   ·rename_i hk;simp only [D8i] at hk;have ht:=A6B hk.1;refine ⟨by rw [hm.A];exact W5 hk.2,hv.2.1,fun e sz xs hs=> ?_⟩
    rcases hm.tok t' e sz xs hs with ⟨t2,h1,h2⟩|⟨h1,_⟩
    ·rw [ht] at h1;cases h1;rw [hm.tau t' t ht];exact hv.2.2 e sz xs h2
    ·rw [ht] at h1;cases h1
   ·exact h.elim
  ·rename_i t;split at h
   ·rename_i hk;simp only [D8i] at hk;have ht:=A6B hk.1;refine ⟨by rw [hm.A];exact W5 hk.2,hv.2.1,fun e sz xs hs=> ?_⟩
    rcases hm.tok t' e sz xs hs with ⟨t2,h1,h2⟩|⟨h1,_⟩
    ·rw [ht] at h1;cases h1;rw [hm.tau t' t ht];exact hv.2.2 e sz xs h2
    ·rw [ht] at h1;cases h1
   ·exact h.elim
  ·exact h.elim
 ·rename_i i' o';split at h
  ·rename_i i o;split at h
   ·rename_i hk;simp only [D8i] at hk;have ht:=A6B hk.1;have ho:=D8j hk.2.2;subst ho;refine ⟨by rw [hm.A];exact W5 hk.2.1,hv.2.1,fun ⟨cs',hs⟩=> ?_⟩
    obtain ⟨i2,cs,h1,h2⟩:=hm.box i' cs' hs;rw [ht] at h1;cases h1;rw [hm.beta i' i ht];exact hv.2.2 ⟨cs,h2⟩
   ·exact h.elim
  ·exact h.elim
 ·rename_i i' n';split at h
  ·rename_i i n;split at h
   ·rename_i hk;simp only [D8i] at hk;have ht:=A6B hk.1;have ho:=D8j hk.2.2;subst ho;refine ⟨by rw [hm.A];exact W5 hk.2.1,hv.2.1,fun ⟨cs',hs⟩=> ?_⟩
    obtain ⟨i2,cs,h1,h2⟩:=hm.box i' cs' hs;rw [ht] at h1;cases h1;rw [hm.beta i' i ht];exact hv.2.2 ⟨cs,h2⟩
   ·exact h.elim
  ·exact h.elim
 ·split at h
  ·split at h
   ·rename_i hk;obtain ⟨vb,vc,h1,h2,h3⟩:=hv;rw [<-D8j hk];exact ⟨vb,vc,h1,C8B hm h h2,C8B hm (C2k h) h3⟩
   ·exact h.elim
  ·exact h.elim
 ·split at h
  ·obtain ⟨rfl,_⟩:=h;obtain ⟨ad,h1,h2,h3⟩:=hv;exact ⟨ad,h1,h2,fun j x hj=>by rw [hm.w,hm.ok];exact h3 j x hj⟩
  ·exact h.elim
 ·split at h
  ·split at h
   ·rename_i hk;rw [<-D8j hk];exact hv
   ·exact h.elim
  ·exact h.elim
 ·split at h
  ·exact hv
  ·exact h.elim
 ·split at h
  ·exact hv
  ·exact h.elim
 ·exact h.elim
theorem C3n {m m' :G7} (hm:WkM ρ nx m m') {v v' :AV} {K:Prop} {u:Value} (h:wkV ρ nx v v' K) (hv:VR m v u):VR1 m' v' u:=by
 unfold wkV at h;split at h
 ·rename_i cs';split at h
  ·rename_i cs;obtain ⟨vs,h1,h2,h3⟩:=hv;obtain ⟨g1,g2⟩:=A4Z h;refine ⟨vs,h1,by rw [h2,g1],fun j c' hj=> ?_⟩
   obtain ⟨c,K',q1,q2⟩:=g2 j c' hj;obtain ⟨u,p1,p2,p3⟩:=h3 j c q1;exact ⟨u,p1,p2,B9t hm q2 p3⟩
  ·exact h.elim
 ·rename_i hna
  by_cases hj:v' = .junk
  ·subst hj;trivial
  have hv0:J8 m v u:=by
   cases v with
   |agg cs=>exfalso;unfold wkC at h;cases v' <;>simp [T3] at h<;>first|exact h.elim|exact hj rfl
   |tup cs=>exfalso;unfold wkC at h;cases v' <;>simp [T3] at h<;>first|exact h.elim|exact hj rfl
   |_=>exact hv
  exact A9m (B9t hm h hv0)
theorem D1U {m m' :G7} (hm:WkM ρ nx m m') {v v' :AV} {K:Prop} {u:Value} (h:wkV ρ nx v v' K) (hv:VR m v u):VR m' v' u:=B0e (C3n hm h hv)
theorem C8z {m:Nat} {s:AS}: ∀ {st' :St},wkR m nx ρ s st' ->
  (∀d v',St.get st' (.tmp d)= .av v' -> ∃K,wkV ρ nx (s.tmp d) v' K)/\
  (∀i' cs',St.get st' (.box i')= .box cs' -> ∃i cs K,O1.at ρ i' =some i/\s (.box i)= .box cs/\i' <nx/\(i=i' \/(m<=i/\m<=i'))/\wkL ρ nx cs cs' K)/\
  (∀t' e sz xs,St.get st' (.tok t')= .tok e sz xs->t' <nx/\((∃t,O1.at ρ t' =some t/\s (.tok t)= .tok e sz xs)\/(O1.at ρ t' =none/\xs= []/\0<sz)))
 | [],_=>⟨fun _ _ h=>(by cases h),fun _ _ h=>(by cases h),fun _ _ _ _ h=>(by cases h)⟩
 |(l,c)::r,h=>by
  have hr:wkR m nx ρ s r:=by
   cases l<;>cases c<;>simp only [wkR] at h<;>(repeat' split at h)
   all_goals first|exact h.elim|exact C2j h|exact h.2|exact h|exact C96 h
  obtain ⟨i1,i2,i3⟩:=C8z hr;refine ⟨fun d v' hg=> ?_,fun i' cs' hg=> ?_,fun t' e sz xs hg=> ?_⟩
  ·simp only [St.get] at hg;split at hg
   ·rename_i hb;cases l<;>simp only [Loc.beq] at hb<;>try cases hb
    have:=D8j hb;subst this hg;exact ⟨_,h⟩
   ·exact i1 d v' hg
  ·simp only [St.get] at hg;split at hg
   ·rename_i hb;cases l<;>simp only [Loc.beq] at hb<;>try cases hb
    have:=D8j hb;subst this hg;simp only [wkR] at h;split at h
    ·rename_i i hi;split at h
     ·rename_i cs hcs;split at h
      ·rename_i hk;simp only [D8i,D8l] at hk;exact ⟨i,cs,_,hi,hcs,W5 hk.1,hk.2.imp (fun h=>D8j h) (fun h=>⟨D8H h.1,D8H h.2⟩),h⟩
      ·exact h.elim
     ·exact h.elim
    ·exact h.elim
   ·exact i2 i' cs' hg
  ·simp only [St.get] at hg;split at hg
   ·rename_i hb;cases l<;>simp only [Loc.beq] at hb<;>try cases hb
    have:=D8j hb;subst this hg;simp only [wkR] at h;split at h
    ·rename_i hlt;refine ⟨W5 hlt, ?_⟩;split at h
     ·rename_i t ht;split at h
      ·rename_i hcs;split at h
       ·rename_i hk;simp only [D8i] at hk;obtain ⟨rfl,_⟩:=h;rw [<-D8j hk.1,<-D8j hk.2];exact .inl ⟨t,ht,hcs⟩
       ·exact h.elim
      ·exact h.elim
     ·rename_i ht;split at h
      ·rename_i hk;exact .inr ⟨ht,h.1,W5 hk⟩
      ·exact h.elim
    ·exact h.elim
   ·exact i3 t' e sz xs hg
theorem B6X {F:Fr} {A:Nat->Prop} {s:AS} {st' :St} {a:Act} {w:World} (h:T1 F A s a w) (hw:Wk F.m nx ρ s st'):T1 F (fun i=>i<nx) (St.get st') a w:=by
 obtain ⟨β,τ,ok,hx⟩:=h;obtain ⟨hc,hr⟩:=hw;simp only [D8i] at hc;obtain ⟨c1,c2,c3,c4⟩:=hc;obtain ⟨r1,r2,r3⟩:=C8z hr
 let β' :Nat->Nat×Nat:=fun i=>match O1.at ρ i with
  |some j=>β j
  |none=>(0,0)
 let τ' :Nat->Option (Nat×Nat×Nat):=fun i=>match O1.at ρ i with
  |some j=>τ j
  |none=>none
 have hβ: ∀i' i,O1.at ρ i' =some i->β' i' =β i:=fun i' i h=>by simp only [β',h]
 have hτ: ∀i' i,O1.at ρ i' =some i->τ' i' =τ i:=fun i' i h=>by simp only [τ',h]
 have hτn: ∀i',O1.at ρ i' =none->τ' i' =none:=fun i' h=>by simp only [τ',h]
 have hM:WkM ρ nx ⟨s,β,τ,A,ok,w⟩ ⟨St.get st',β',τ',fun i=>i<nx,ok,w⟩:=⟨rfl,rfl,rfl,hβ,hτ,hτn,fun t' e sz xs h=>(r3 t' e sz xs h).2,fun i' cs' h=>by
  obtain ⟨i,cs,_,h1,h2,_⟩:=r2 i' cs' h;exact ⟨i,cs,h1,h2⟩⟩
 have hm:=hx.mr;refine ⟨β',τ',ok,⟨hm.okLt,fun i' cs' hs=> ?_,fun t' e sz xs hs=> ?_,fun i j ci cj hi hj hne=> ?_,fun i j ei ej si sj xi xj p q hi hj hp hq hne=> ?_,fun i j ci ej sj xj q hi hj hq=> ?_⟩,hx.defers,hx.size,fun l v hl=> ?_,hx.keep,fun j hj=> ?_,fun j hj=> ?_,fun i' cs' hs hge=> ?_,fun i' cs' hs hlt=> ?_,fun t' e sz xs p hs hp=> ?_,hx.ok0,hx.okNew⟩
 ·obtain ⟨i,cs,K,h1,h2,h3,_,h5⟩:=r2 i' cs' hs;obtain ⟨g1,g2,cur,e,g3,g4,g5⟩:=hm.box i cs h2;obtain ⟨q1,q2⟩:=A4Z h5;refine ⟨h3,by show¬ok (β' i').1;rw [hβ i' i h1];exact g2,cur,e,by show w.heap[(β' i').1]? =_;rw [hβ i' i h1];exact g3,by show (β' i').2+_<=_;rw [hβ i' i h1,<-q1];exact g4,fun j c' hj=> ?_⟩
  obtain ⟨c,K',p1,p2⟩:=q2 j c' hj;obtain ⟨u,o1,o2,o3⟩:=g5 j c p1;exact ⟨u,by show cur[(β' i').2+j]? =_;rw [hβ i' i h1];exact o1,o2,B9t hM p2 o3⟩
 ·obtain ⟨h1,h2⟩:=r3 t' e sz xs hs;rcases h2 with ⟨t,h2,h3⟩|⟨h2,rfl,h3⟩
  ·obtain ⟨_,g2,g3,g4,g5⟩:=hm.tok t e sz xs h3;refine ⟨h1,g2,g3,fun hn=>g4 ((hτ t' t h2).symm.trans hn),fun b o cap hb=>g5 b o cap ((hτ t' t h2).symm.trans hb)⟩
  ·refine ⟨h1,h3,by simp,fun _=>rfl,fun b o cap hb=> ?_⟩
   have hb' :τ' t' =some (b,o,cap):=hb;rw [hτn t' h2] at hb';cases hb'
 ·obtain ⟨i0,ci0,_,h1,h2,_,_,h5⟩:=r2 i ci hi;obtain ⟨j0,cj0,_,h3,h4,_,_,h6⟩:=r2 j cj hj;show C0V (β' i) _ (β' j) _;rw [hβ i i0 h1,hβ j j0 h3,<-(A4Z h5).1,<-(A4Z h6).1];refine hm.sepB i0 j0 ci0 cj0 h2 h4 (fun he=>hne ?_);subst he;exact C5y c1 (C0y hi) (C0y hj) h1 h3
 ·have hp' :τ' i=some p:=hp;have hq' :τ' j=some q:=hq;rcases (r3 i ei si xi hi).2 with ⟨i0,h1,h2⟩|⟨h1,_⟩
  ·rcases (r3 j ej sj xj hj).2 with ⟨j0,h3,h4⟩|⟨h3,_⟩
   ·rw [hτ i i0 h1] at hp';rw [hτ j j0 h3] at hq';refine hm.sepT i0 j0 ei ej si sj xi xj p q h2 h4 hp' hq' (fun he=>hne ?_);subst he;exact C5y c2 (C0z hi) (C0z hj) h1 h3
   ·rw [hτn j h3] at hq';cases hq'
  ·rw [hτn i h1] at hp';cases hp'
 ·have hq' :τ' j=some q:=hq;obtain ⟨i0,ci0,_,h1,h2,_⟩:=r2 i ci hi;rcases (r3 j ej sj xj hj).2 with ⟨j0,h3,h4⟩|⟨h3,_⟩
  ·show (β' i).1≠q.1;rw [hβ i i0 h1];rw [hτ j j0 h3] at hq';exact hm.sepM i0 j0 ci0 ej sj xj q h2 h4 hq'
  ·rw [hτn j h3] at hq';cases hq'
 ·obtain ⟨K,hk⟩:=r1 l v hl;exact D1U hM hk (hx.val (.tmp l))
 ·show β' j=F.β0 j;rw [hβ j j (C43 c3 j hj)];exact hx.par j hj
 ·show j<nx;have:=D8H c4;omega
 ·obtain ⟨i,cs,_,h1,h2,_,h4,_⟩:=r2 i' cs' hs;show F.w0.heap.size<=(β' i').1;rw [hβ i' i h1];refine hx.newB i cs h2 ?_;rcases h4 with rfl|h4
  ·exact hge
  ·exact h4.1
 ·obtain ⟨i,cs,_,h1,h2,_,h4,h5⟩:=r2 i' cs' hs;have hii:i=i' :=by
   rcases h4 with h4|h4
   ·exact h4
   ·omega
  subst hii;rw [<-(A4Z h5).1];exact hx.parL i cs h2 hlt
 ·have hp' :τ' t' =some p:=hp;rcases (r3 t' e sz xs hs).2 with ⟨t,h2,h3⟩|⟨h2,_⟩
  ·rw [hτ t' t h2] at hp';exact hx.newT t e sz xs p h3 hp'
  ·rw [hτn t' h2] at hp';cases hp'
end
end Go.Vc
namespace Go.Vc
open Go.RowKit
structure Inv where
 α:Type
 st:α->St
 φ:α->Prop
 μ:α->Nat
abbrev KT:=Exit->Nat->St->Prop
def B4K (id:Nat):Code->Nat
 | .exit i=>match Nat.beq i id with
  |true=>1
  |false=>0
 | .seq a b=>B4K id a+B4K id b
 | .cond _ a b=>B4K id a+B4K id b
 | .block _ c=>B4K id c
 | .loop c=>B4K id c
 |_=>0
def B5w:Code->Nat
 | .skip=>1
 | .region _ _ _=>1
 | .seq a b=>B5w a*B5w b
 | .cond _ a b=>B5w a+B5w b
 | .block id c=>B5w c+B4K id c
 |_=>0
def D3I:Code->Bool
 | .seq _ b=>Nat.ble 2 (B5w b)
 |a=>Nat.ble 2 (B5w a)
abbrev VT:=Nat->St->KT->Prop
noncomputable def A82 (P:Program) (T:I4) (id:Nat) (ops:Array Oper) (draw:Bool):VT:=fun nx st K=>
 match Nat.ble nx nx&&Nat.ble ops.toList.length 256 with
 |true=>match draw with
  |false=>B9r P T nx ops.toList 0 ops.toList st fun st' =>K .normal (nx+256) st'
  |true=>B6d P T nx ops.toList 0 ops.toList [] st fun st' =>K .normal (nx+256) st'
 |false=>False
noncomputable def C92 (m:Nat) (jn:Bool) (va vb:VT):VT:=fun nx st K=>
 match jn with
 |false=>va nx st fun e nx' st' =>match e with
  | .normal=>vb nx' st' K
  |e=>K e nx' st'
 |true=> ∃j:Option (Inv×Nat),match j with
  |none=>va nx st fun e nx' st' =>match e with
   | .normal=>vb nx' st' K
   |e=>K e nx' st'
  |some (I,n)=>va nx st (fun e nx' st' =>match e with
   | .normal=> ∃ρ x,I.φ x/\Wk m n ρ (St.get st') (I.st x)
   |e=>K e nx' st')/\ ∀x,I.φ x->vb n (I.st x) K
noncomputable def B8R (c:Operand) (vx vy:VT):VT:=fun nx st K=>
 match c with
 | .tmp d=>match AS.tmp (St.get st) d with
  | .bool true=>vx nx st K
  | .bool false=>vy nx st K
  | .sb b=>(b=true->vx nx ((.tmp d, .av (.bool true))::st) K)/\(b=false->vy nx ((.tmp d, .av (.bool false))::st) K)
  |_=>False
 |_=>False
noncomputable def C8w (id:Nat) (vx:VT):VT:=fun nx st K=>
 vx nx st fun e nx' st' =>match e with
  | .exit id' =>match Nat.beq id' id with
   |true=>K .normal nx' st'
   |false=>K (.exit id') nx' st'
  |e=>K e nx' st'
noncomputable def D6w (m:Nat) (vx:VT):VT:=fun nx st K=>
 ∃I:Inv,(∃ρ x,I.φ x/\Wk m nx ρ (St.get st) (I.st x))/\ ∀x,I.φ x->vx nx (I.st x) fun e nx' st' =>match e with
  | .normal=> ∃ρ x',I.φ x' /\(I.μ x' <I.μ x/\Wk m nx ρ (St.get st') (I.st x'))
  |e=>K e nx' st'
noncomputable def vc (P:Program) (T:I4) (m:Nat) (c:Code):VT:=
 Code.rec (motive:=fun _=>VT)
  (fun nx st K=>K .normal nx st)
  (fun id ops draw=>A82 P T id ops draw)
  (fun a _ iha ihb=>C92 m (D3I a) iha ihb)
  (fun c _ _ iha ihb=>B8R c iha ihb)
  (fun id _ ih=>C8w id ih)
  (fun _ ih=>D6w m ih)
  (fun _ _ _ _ _ _ _ _ _=>False)
  (fun id nx st K=>K (.exit id) nx st)
  (fun _ _ _ _ _=>False)
  (fun _ _ _ _=>False)
  (fun _ _ _ _=>False)
  (fun nx st K=>K .ret nx st)
  (fun _ _ _ _=>False) c
def A3b (N:Nat):Code->Bool
 | .region _ ops false=>A3R N ops.toList
 | .region _ ops true=>A3R N ops.toList&&Region.lexB .any ops
 | .seq a b=>A3b N a&&A3b N b
 | .cond _ a b=>A3b N a&&A3b N b
 | .block _ c=>A3b N c
 | .loop c=>A3b N c
 |_=>true
def sem (F:Fr) (K:KT):Exit->Act->World->Prop:=fun e a w=> ∃nx st A,T1 F A (St.get st) a w/\(∀k,A k->k<nx)/\K e nx st
theorem C6G {F:Fr} {T:I4} (hT:A0v F.P T) (hm:F.P.follows .mixedOrders=true): ∀(c:Code) (nx:Nat) (st:St) (K:KT),A3b F.N c=true->vc F.P T F.m c nx st K->
  ∀a w A,T1 F A (St.get st) a w->(∀k,A k->k<nx)->c.wp F.P (sem F K) a w:=by
 intro c
 induction c with
 |skip=>intro nx st K _ h a w A hs hA;exact wp_skip ⟨nx,st,A,hs,hA,h⟩
 |region id ops draw=>
  intro nx st K hc h a w A hs hA;cases draw with
  |false=>
   change A82 F.P T id ops false nx st K at h;unfold A82 at h;split at h
   ·rename_i hb;simp only [D8i] at hb;have hb1:=D8H hb.1;have hb2:=D8H hb.2;exact C6a hT hc (fun st' a' w' A' hs' hA' hk=>⟨_,st',A',hs',fun k hk=>by have:=hA' k hk;omega,hk⟩) hs (fun k hk=>by have:=hA k hk;omega) h
   ·exact h.elim
  |true=>
   simp only [A3b,D8i] at hc;change A82 F.P T id ops true nx st K at h;unfold A82 at h;split at h
   ·rename_i hb;simp only [D8i] at hb;have hb1:=D8H hb.1;have hb2:=D8H hb.2;exact C81 hT hm hc.1 hc.2 (fun st' a' w' A' hs' hA' hk=>⟨_,st',A',hs',fun k hk=>by have:=hA' k hk;omega,hk⟩) hs (fun k hk=>by have:=hA k hk;omega) h
   ·exact h.elim
 |seq x y ihx ihy=>
  intro nx st K hc h a w A hs hA;simp only [A3b,D8i] at hc;have direct:(vc F.P T F.m x nx st fun e nx' st' =>match e with
   | .normal=>vc F.P T F.m y nx' st' K
   |e=>K e nx' st')->(Code.seq x y).wp F.P (sem F K) a w:=by
   intro h;apply wp_seq;refine wp_mono (ihx nx st _ hc.1 h a w A hs hA) ?_;rintro e a' w' ⟨nx',st',A',hs',hA',hk⟩;cases e with
   |normal=>exact ihy nx' st' K hc.2 hk a' w' A' hs' hA'
   |_=>exact ⟨nx',st',A',hs',hA',hk⟩
  change C92 F.m (D3I x) (vc F.P T F.m x) (vc F.P T F.m y) nx st K at h;unfold C92 at h;split at h
  ·exact direct h
  ·obtain ⟨j,h⟩:=h;split at h
   ·exact direct h
   ·rename_i I n;obtain ⟨h1,h2⟩:=h;apply wp_seq;refine wp_mono (ihx nx st _ hc.1 h1 a w A hs hA) ?_;rintro e a' w' ⟨nx',st',A',hs',hA',hk⟩;cases e with
    |normal=>
     obtain ⟨ρ,x,hx,hw⟩:=hk;exact ihy n (I.st x) K hc.2 (h2 x hx) a' w' _ (B6X hs' hw) (fun _ h=>h)
    |_=>exact ⟨nx',st',A',hs',hA',hk⟩
 |cond c x y ihx ihy=>
  intro nx st K hc h a w A hs hA;simp only [A3b,D8i] at hc;change B8R c (vc F.P T F.m x) (vc F.P T F.m y) nx st K at h;cases c<;>try exact h.elim
  rename_i d;simp only [B8R] at h;have ev: ∀b,T3 (AS.tmp (St.get st) d)=some b->a.eval (.tmp d)= .bool b:=fun b hb=>by
   have:=hs.gval d b hb;simp [Act.eval,this]
  split at h
  ·rename_i hd;exact wp_cond_true (ev true (by rw [hd];rfl)) (ihx nx st K hc.1 h a w A hs hA)
  ·rename_i hd;exact wp_cond_false (ev false (by rw [hd];rfl)) (ihy nx st K hc.2 h a w A hs hA)
  ·rename_i b hd;refine wp_cond_split (ev b (by rw [hd];rfl)) (fun hb=> ?_) (fun hb=> ?_)
   ·subst hb;exact ihx nx _ K hc.1 (h.1 rfl) a w A (hs.lit d true hd) hA
   ·subst hb;exact ihy nx _ K hc.2 (h.2 rfl) a w A (hs.lit d false hd) hA
  ·exact h.elim
 |block id x ih=>
  intro nx st K hc h a w A hs hA;apply wp_block;refine wp_mono (ih nx st _ hc h a w A hs hA) ?_;rintro e a' w' ⟨nx',st',A',hs',hA',hk⟩;cases e with
  |exit id' =>
   simp only at hk;show if id' =id then _ else _
   split at hk
   ·rename_i hb;rw [if_pos (D8j hb)];exact ⟨nx',st',A',hs',hA',hk⟩
   ·rename_i hb;rw [if_neg (fun he=>by subst he;rw [A2U] at hb;cases hb)]
    exact ⟨nx',st',A',hs',hA',hk⟩
  |_=>exact ⟨nx',st',A',hs',hA',hk⟩
 |loop x ih=>
  intro nx st K hc h a w A hs hA;obtain ⟨I,⟨ρ,x0,h1,h2⟩,h3⟩:=h;refine wp_loop_ghost (fun n a w=> ∃x,I.φ x/\I.μ x=n/\T1 F (fun k=>k<nx) (St.get (I.st x)) a w) (I.μ x0) ⟨x0,h1,rfl,B6X hs h2⟩ ?_;rintro n a w ⟨x,hx,rfl,hs⟩;refine wp_mono (ih nx _ _ hc (h3 x hx) a w _ hs (fun _ h=>h)) ?_;rintro e a' w' ⟨nx',st',A',hs',hA',hk⟩;cases e with
  |normal=>
   obtain ⟨ρ,x',g1,g2,g3⟩:=hk;exact ⟨I.μ x',g2,x',g1,rfl,B6X hs' g3⟩
  |_=>exact ⟨nx',st',A',hs',hA',hk⟩
 |exit id=>intro nx st K _ h a w A hs hA;exact wp_exit ⟨nx,st,A,hs,hA,h⟩
 |ret=>intro nx st K _ h a w A hs hA;exact wp_ret ⟨nx,st,A,hs,hA,h⟩
 |_=>intro nx st K _ h;exact h.elim
end Go.Vc
namespace Go.Vc
open Go.RowKit
def C6b (T:I4) (s:AS):ResultVar->Option AV
 | .tmp t=>some (s.tmp t)
 | .cell a t=>match I4.find T t with
  |some ti=>match s.tmp a with
   | .ptr b off=>match s (.box b) with
    | .box cs=>match Nat.ble (off+ti.size) cs.length&&Nat.blt 0 ti.size with
     |true=>some (A5N ti ((cs.drop off).take ti.size))
     |false=>none
    |_=>none
   |_=>none
  |none=>none
def B9n (T:I4) (s:AS):List ResultVar->Option (List AV)
 | []=>some []
 |r::rs=>match C6b T s r with
  |some v=>match B9n T s rs with
   |some vs=>some (v::vs)
   |none=>none
  |none=>none
def B6a (tmps:Array Value):ResultVar->Sem Value
 | .tmp t=>pure (tmps.getD t undef)
 | .cell a t=>do loadVar t (<-asAddr (tmps.getD a undef))
theorem C9L {F:Fr} {a:Act} {m:G7} (hx:M4 F a m) {T:I4} (hT:A0v F.P T) {rv:ResultVar} {v:AV} (h:C6b T m.s rv=some v):
  ∃u,(B6a a.tmps rv).run F.P m.w= .ok u m.w/\VR m v u:=by
 cases rv with
 |tmp t=>
  cases h;exact ⟨_,rfl,hx.val (.tmp t)⟩
 |cell a' t=>
  simp only [C6b] at h;split at h
  ·rename_i ti hti;have ht:=hT t ti hti;split at h
   ·rename_i b off hp;split at h
    ·rename_i cs hb;split at h
     ·rename_i hc;cases h;simp only [D8i] at hc;have hf:=D8H hc.1;have hpos:=W5 hc.2;have h1:VR m (.ptr b off) (a.tmps.getD a' undef):=by have:=hx.val (.tmp a');rw [show m.s.val (.tmp a')= .ptr b off from hp] at this;exact this
      have h1' :=(show J8 m (.ptr b off) (a.tmps.getD a' undef) from h1).2.2 ⟨cs,hb⟩;obtain ⟨_,_,cur,e,g3,g4,g5⟩:=hx.mr.box b cs hb;have hlen:((cs.drop off).take ti.size).length=ti.size:=by simp;omega
      have hlen2:((cur.toList.drop ((m.β b).2+off)).take ti.size).length=ti.size:=by simp;omega
      refine ⟨_, ?_,B2Q _ hlen hpos ((cur.toList.drop ((m.β b).2+off)).take ti.size) (hlen2.trans hlen.symm) (fun j c hj=> ?_)⟩
      ·simp only [B6a,h1',asAddr,Sem.run_bind,Sem.run_pure,Result.andThen_ok];rw [A4k ht m.w _ hpos ((cur.toList.drop ((m.β b).2+off)).take ti.size) hlen2 (fun j u hj=>by
        rw [Addr.add_lit,cell_of_row m.w _ _ cur e _ g3];rw [D8x] at hj;split at hj
        ·rw [D8u] at hj;simpa using hj
        ·cases hj)]
      ·rw [D8x] at hj⊢;split at hj
       ·rename_i hlt;rw [D8u] at hj;rw [if_pos hlt,D8u];obtain ⟨u,e1,e2⟩:=g5 _ c hj;exact ⟨u,by rw [Nat.add_assoc];simpa using e1,e2⟩
       ·cases hj
     ·cases h
    ·cases h
   ·cases h
  ·cases h
theorem C0d {F:Fr} {a:Act} {m:G7} (hx:M4 F a m) {T:I4} (hT:A0v F.P T): ∀ {rs:List ResultVar} {vs:List AV},B9n T m.s rs=some vs->
  ∃us:List Value,(rs.mapM (B6a a.tmps)).run F.P m.w= .ok us m.w/\us.length=vs.length/\ ∀(i:Nat) (c:AV),vs[i]? =some c-> ∃u,us[i]? =some u/\VR m c u
 | [],vs,h=>by cases h;exact ⟨[],rfl,rfl,by simp⟩
 |r::rs,vs,h=>by
  simp only [B9n] at h;split at h
  ·rename_i v hv;split at h
   ·rename_i vs' hvs;cases h;obtain ⟨u,h1,h2⟩:=C9L hx hT hv;obtain ⟨us,g1,g2,g3⟩:=C0d hx hT hvs;refine ⟨u::us, ?_,by simp [g2],fun i c hi=> ?_⟩
    ·rw [List.mapM_cons,Sem.run_bind,h1,Result.andThen_ok,Sem.run_bind,g1,Result.andThen_ok]
     rfl
    ·cases i with
     |zero=>cases hi;exact ⟨u,rfl,h2⟩
     |succ i=>simpa using g3 i c (by simpa using hi)
   ·cases h
  ·cases h
theorem C7B {P:Program} {fn:Func} {tmps:Array Value} {w:World} {us:List Value} (h:(fn.results.toList.mapM (B6a tmps)).run P w= .ok us w):
  (results fn tmps).run P w= .ok (if h:us.toArray.size=1 then us.toArray[0] else .tuple us.toArray) w:=by
 have e:results fn tmps=(do
   let vs<-fn.results.mapM (B6a tmps)
   pure (if h:vs.size=1 then vs[0] else .tuple vs)):=by
  unfold results
  congr 2
 rw [e,Sem.run_bind];have h2:(fn.results.mapM (B6a tmps)).run P w= .ok us.toArray w:=by
  rw [Array.mapM_eq_mapM_toList,Sem.run_map,h]
  rfl
 rw [h2]
 rfl
end Go.Vc
namespace Go.Vc
open Go.RowKit
def B5C:Nat->List AV->St
 |_, []=> []
 |i,v::r=>(.tmp i, .av v)::B5C (i+1) r
def B5H:Nat->List (List AV)->St
 |_, []=> []
 |i,cs::r=>(.box i, .box cs)::B5H (i+1) r
def C13:N3->St
 |some (e,sz,xs)=> [(.tok 0, .tok e sz xs)]
 |none=> []
def A29 (args:List AV) (bx:List (List AV)) (tk:N3):St:=B5C 0 args++(B5H 0 bx++C13 tk)
theorem B6u (tk:N3) (l:Loc):St.get (C13 tk) l=match l with
  | .tok 0=>(match tk with
   |some (e,sz,xs)=> .tok e sz xs
   |none=> .none)
  |_=> .none:=by
 cases tk with
 |none=>cases l<;>(try rfl);rename_i n;cases n<;>rfl
 |some x=>
  obtain ⟨e,sz,xs⟩:=x;cases l with
  |tmp t=>rfl
  |box t=>rfl
  |tok t=>cases t<;>rfl
theorem B1b (l:Loc) (tk:N3): ∀(bx:List (List AV)) (i:Nat),St.get (B5H i bx++C13 tk) l=match l with
  | .box j=>if i<=j then A5P bx tk (.box (j-i)) else .none
  |l=>St.get (C13 tk) l
 | [],i=>by cases l<;>simp [B5H,B6u,A5P]
 |cs::r,i=>by
  have ih:=B1b l tk r (i+1);simp only [B5H,List.cons_append,St.get];cases l with
  |tmp t=>simp only [Loc.beq];simpa using ih
  |tok t=>simp only [Loc.beq];simpa using ih
  |box j=>
   simp only [Loc.beq]
   by_cases hj:j=i
   ·subst hj;simp [A5P]
   ·simp only [A9c hj,ih]
    by_cases h1:i<=j
    ·have h2:i+1<=j:=by omega
     simp only [h1,h2,if_true,A5P];rw [show j-i=(j-(i+1))+1 by omega,List.getElem?_cons_succ]
    ·have h2: ¬i+1<=j:=by omega
     simp [h1,h2]
theorem B1a (l:Loc) (s:St): ∀(args:List AV) (i:Nat),St.get (B5C i args++s) l=match l with
  | .tmp j=>if i<=j then (match args[j-i]? with
   |some v=> .av v
   |none=>St.get s l) else St.get s l
  |_=>St.get s l
 | [],i=>by cases l<;>simp [B5C]
 |v::r,i=>by
  have ih:=B1a l s r (i+1);simp only [B5C,List.cons_append,St.get];cases l with
  |box t=>simp only [Loc.beq];simpa using ih
  |tok t=>simp only [Loc.beq];simpa using ih
  |tmp j=>
   simp only [Loc.beq]
   by_cases hj:j=i
   ·subst hj;simp
   ·simp only [A9c hj,ih]
    by_cases h1:i<=j
    ·have h2:i+1<=j:=by omega
     simp only [h1,h2,if_true];rw [show j-i=(j-(i+1))+1 by omega,List.getElem?_cons_succ]
    ·have h2: ¬i+1<=j:=by omega
     simp [h1,h2]
theorem C0x (args:List AV) (bx:List (List AV)) (tk:N3) (i:Nat):St.get (A29 args bx tk) (.box i)=A5P bx tk (.box i):=by
 unfold A29;rw [B1a];simp [B1b]
theorem C5x (args:List AV) (bx:List (List AV)) (tk:N3) (i:Nat):St.get (A29 args bx tk) (.tok i)=A5P bx tk (.tok i):=by
 unfold A29;rw [B1a];simp only [B1b,B6u];cases i<;>rfl
theorem D2B (args:List AV) (bx:List (List AV)) (tk:N3) (i:Nat):St.get (A29 args bx tk) (.tmp i)=match args[i]? with
  |some v=> .av v
  |none=> .none:=by
 unfold A29;rw [B1a];simp [B1b,B6u]
theorem D2M {s s' :AS} (hb:∀i,s' (.box i)=s (.box i)) (ht:∀i,s' (.tok i)=s (.tok i)) {β τ A ok w} (hm:MR ⟨s,β,τ,A,ok,w⟩):W4 ⟨s,β,τ,A,ok,w⟩ ⟨s',β,τ,A,ok,w⟩/\MR ⟨s',β,τ,A,ok,w⟩:=by
 have e1:W4 ⟨s,β,τ,A,ok,w⟩ ⟨s',β,τ,A,ok,w⟩:=⟨fun t e sz xs' hs _=>⟨xs',(ht t).symm.trans hs,rfl,rfl⟩,fun i cs' hs _=>⟨⟨cs',(hb i).symm.trans hs⟩,rfl⟩,fun _ h=>h,fun _ h=>h,fun _ _ _=>rfl,fun _ _ _ _ h=>h⟩;have hb' : ∀i c,s' (.box i)= .box c->s (.box i)= .box c:=fun i c hc=>by rw [<-hb i];exact hc
 have ht' : ∀i e sz xs,s' (.tok i)= .tok e sz xs->s (.tok i)= .tok e sz xs:=fun i e sz xs hc=>by rw [<-ht i];exact hc
 refine ⟨e1,hm.okLt,fun i c hc=> ?_,fun t e sz xs hs=>hm.tok t e sz xs (ht' t e sz xs hs),fun i j ci cj hi hj hne=>hm.sepB i j ci cj (hb' i ci hi) (hb' j cj hj) hne,
  fun i j ei ej si sj xi xj p q hi hj hp hq hne=>hm.sepT i j ei ej si sj xi xj p q (ht' _ _ _ _ hi) (ht' _ _ _ _ hj) hp hq hne,fun i j ci ej sj xj q hi hj hq=>hm.sepM i j ci ej sj xj q (hb' i ci hi) (ht' _ _ _ _ hj) hq⟩
 obtain ⟨h1,h2,cur,e,h3,h4,h5⟩:=hm.box i c (hb' i c hc);exact ⟨h1,h2,cur,e,h3,h4,fun j c hj=>let ⟨u,g1,g2,g3⟩:=h5 j c hj;⟨u,g1,g2,g3.ext e1⟩⟩
theorem B3p {bx:List (List AV)} {tk:N3} {i:Nat} {cs:List AV} (h:A5P bx tk (.box i)= .box cs):bx[i]? =some cs:=by
 simp only [A5P] at h;split at h
 ·cases h;assumption
 ·cases h
theorem D2A {P:Program} {N:Nat} {args:List AV} {bx:List (List AV)} {tk:N3} {w:World} {β:Nat->Nat×Nat} {p:Option (Nat×Nat×Nat)} {ok:Nat->Prop} {vs:Array Value} (hN:args.length<=N) (hm:MR (V7 bx tk β p ok w)) (hl:vs.size=args.length)
  (hv:∀(i:Nat) (c:AV),args[i]? =some c-> ∃u,vs[i]? =some u/\VR1 (V7 bx tk β p ok w) c u):
  T1 (cFr P N bx tk β p ok w) (fun i=>i<bx.length+1) (St.get (A29 args bx tk)) { tmps:=vs++Array.replicate (N-vs.size) undef,defers:= []} w:=by
 obtain ⟨e1,hm'⟩:=D2M (s:=A5P bx tk) (s' :=St.get (A29 args bx tk)) (C0x args bx tk) (C5x args bx tk) hm;refine ⟨β,fun _=>p,ok,hm',rfl,by simp [cFr];omega,fun l v hl' => ?_,⟨rfl,rfl,rfl,D8S _,fun _ _ _ _=>rfl,fun k cur e _ _ hc=>⟨cur,hc,rfl,fun _ _=>rfl⟩,fun _ _=>rfl⟩,fun _ _=>rfl,fun _ h=>h,fun id cs hs hge=> ?_,fun id cs hs _=> ?_,fun t e sz xs q ht hq=> ?_,fun _ h=>h,fun _ h=> .inl h⟩
 ·have hl2:St.get (A29 args bx tk) (.tmp l)= .av v:=hl';rw [D2B] at hl2;cases hq:args[l]? with
  |none=>rw [hq] at hl2;cases hl2
  |some c=>
   rw [hq] at hl2;cases hl2;obtain ⟨u,h1,h2⟩:=hv l _ hq;have:(vs++Array.replicate (N-vs.size) undef).getD l undef=u:=by
    have hlt:l<vs.size:=(D8Y.1 h1).1;rw [Array.getD_eq_getD_getElem?,Array.getElem?_append_left hlt,h1]
    rfl
   show VR _ _ ((vs++Array.replicate (N-vs.size) undef).getD l undef);rw [this];exact (B0e h2).ext e1
 ·exfalso;have hs' :St.get (A29 args bx tk) (.box id)= .box cs:=hs;rw [C0x] at hs';have:=(D8k.1 (B3p hs')).1;have hge' :bx.length+1<=id:=hge;omega
 ·have hs' :St.get (A29 args bx tk) (.box id)= .box cs:=hs;rw [C0x] at hs';show cs.length=(bx.getD id []).length;rw [D86,B3p hs']
  rfl
 ·have ht' :St.get (A29 args bx tk) (.tok t)= .tok e sz xs:=ht;rw [C5x] at ht';obtain ⟨_,h2⟩:=A1e ht';exact .inr ⟨_,q,h2,hq,rfl⟩
def B5X (m:Nat):List AV->Option Nat
 | []=>none
 | .ptr j _::r=>match Nat.ble m j with
  |true=>some j
  |false=>B5X m r
 |_::r=>B5X m r
def C8b:List AV->Option Nat
 | []=>none
 | .own k::_=>some k
 |_::r=>C8b r
def A4N (s:AS) (i:Nat):Nat:=match s (.box i) with
 | .box cs=>cs.length
 |_=>0
def D2c (s:AS) (i:Nat):List AV:=match s (.box i) with
 | .box cs=>cs
 |_=> []
def A8k (s:AS):Nat->Nat->L5
 |_,0=> []
 |j,n+1=>(j,0,A4N s j)::A8k s (j+1) n
def B8H (s:AS) (n:Nat) (vs:List AV) (nb:Bool):L5:=match nb with
 |true=>match B5X (n+1) (vs.flatMap AV.cells) with
  |some i=>A8k s 0 n++ [(i,0,A4N s i)]
  |none=>A8k s 0 n
 |false=>A8k s 0 n
def retT (s:AS) (n:Nat) (vs:List AV) (nt:Bool):Option Nat:=match nt with
 |true=>C8b (vs.flatMap AV.cells++(List.range n).flatMap (D2c s))
 |false=>none
theorem C2g (s:AS): ∀(n j k:Nat) (p:Nat×Nat×Nat),(A8k s j n)[k]? =some p->k<n/\p=(j+k,0,A4N s (j+k))
 |0,j,k,p,h=>by simp [A8k] at h
 |n+1,j,k,p,h=>by
  cases k with
  |zero=>cases h;exact ⟨Nat.succ_pos _,rfl⟩
  |succ k=>
   obtain ⟨h1,h2⟩:=C2g s n (j+1) k p (by simpa [A8k] using h)
   exact ⟨by omega,by rw [h2,show j+1+k=j+(k+1) by omega]⟩
theorem A2g (s:AS): ∀(n j:Nat),(A8k s j n).length=n
 |0,_=>rfl
 |n+1,j=>by simp [A8k,A2g s n (j+1)]
theorem C6c {s:AS} {n:Nat} {vs:List AV} {nb:Bool} {k:Nat} {p:Nat×Nat×Nat} (h:(B8H s n vs nb)[k]? =some p):
  (k<n/\p=(k,0,A4N s k))\/(k=n/\ ∃i,n+1<=i/\p=(i,0,A4N s i)):=by
 have base:(A8k s 0 n)[k]? =some p->k<n/\p=(k,0,A4N s k):=fun h=>by
  have:=C2g s n 0 k p h;simpa using this
 unfold B8H at h;split at h
 ·split at h
  ·rename_i i hf
   by_cases hk:k<n
   ·rw [D8z (by rw [A2g];exact hk)] at h
    exact .inl (base h)
   ·rw [D8A (by rw [A2g];omega),A2g] at h
    have hk' :k=n:=by
     have:=(D8k.1 h).1;simp at this;omega
    subst hk';rw [Nat.sub_self] at h;cases h;refine .inr ⟨rfl,i, ?_,rfl⟩;have key: ∀l:List AV,B5X (k+1) l=some i->k+1<=i:=by
     intro l
     induction l with
     |nil=>intro h;cases h
     |cons c l ih=>
      intro h;cases c
      case ptr j o=>
       simp only [B5X] at h;split at h
       ·rename_i hb;cases h;exact D8H hb
       ·exact ih h
      all_goals exact ih h
    exact key _ hf
  ·exact .inl (base h)
 ·exact .inl (base h)
theorem D4O {s:AS} {n:Nat} {vs:List AV} {nb:Bool}: ∀j,j<n->(B8H s n vs nb)[j]? =some (j,0,A4N s j):=fun j hj=>by
 have hlen:n<=(B8H s n vs nb).length:=by
  unfold B8H;split
  ·split
   ·rw [D8g,A2g];omega
   ·rw [A2g];omega
  ·rw [A2g];omega
 obtain ⟨p,hp⟩: ∃p,(B8H s n vs nb)[j]? =some p:=⟨_,D8o (by omega)⟩
 rcases C6c hp with ⟨_,h2⟩|⟨h1,_⟩
 ·rw [hp,h2]
 ·omega
def B5A (nx:Nat):List (List AV)->List (List AV)->Prop->Prop
 | [], [],K=>K
 |cs::a,cs' ::b,K=>wkL [] nx cs cs' (B5A nx a b K)
 |_,_,_=>False
def B6V (nx:Nat):List AV->List AV->Prop->Prop
 | [], [],K=>K
 |v::a,v' ::b,K=>wkV [] nx v v' (B6V nx a b K)
 |_,_,_=>False
def wkT (nx:Nat) (as:List AV) (r:AV) (K:Prop):Prop:=match as with
 | [v]=>wkV [] nx v r K
 |as=>match r with
  | .tup rs=>B6V nx as rs K
  |_=>False
def tkW (tk tk':N3):Prop:=match tk' with
 |none=>True
 |some (e',sz',xs')=>match tk with
  |some (e,sz,xs)=>match Nat.beq e e' &&Nat.beq sz sz' with
   |true=>xs=xs'
   |false=>False
  |none=>False
theorem C6x {tk:N3} {e' sz' :Nat} {xs' :List (List AV)} (h:tkW tk (some (e',sz',xs'))):tk=some (e',sz',xs'):=by
 unfold tkW at h;split at h
 ·rename_i h2;cases h2
 ·rename_i h2;cases h2;split at h
  ·split at h
   ·rename_i hc;simp only [D8i] at hc;rw [D8j hc.1,D8j hc.2,h]
   ·exact h.elim
  ·exact h.elim
def D0N (a n:Nat):Bool:=Nat.blt n a
def C4P (T:I4) (m:Nat) (rs:List ResultVar) (r:AV) (bx':List (List AV)) (tk':N3) (st:St):Prop:=match B9n T (St.get st) rs with
 |none=>False
 |some vs=>match O9 (St.get st) (B8H (St.get st) (m-1) vs (D0N bx'.length (m-1))) (retT (St.get st) (m-1) vs tk'.isSome) vs with
  | .bad=>False
  | .go as bx tk _=>wkT (bx'.length+1) as r (B5A (bx'.length+1) bx bx' (tkW tk tk'))
def D6i (T:I4) (m:Nat) (rs:List ResultVar) (r:AV) (bx':List (List AV)) (tk':N3):KT:=fun e _ st=>match e with
 | .normal=>C4P T m rs r bx' tk' st
 | .ret=>C4P T m rs r bx' tk' st
 |_=>False
theorem B4i {nx:Nat}: ∀ {a b:List (List AV)} {K:Prop},B5A nx a b K->a.length=b.length/\ ∀(j:Nat) (cs' :List AV),b[j]? =some cs' -> ∃cs K',a[j]? =some cs/\wkL [] nx cs cs' K'
 | [], [],_,h=>by simp
 |cs::a,cs' ::b,K,h=>by
  obtain ⟨h1,h2⟩:=B4i (C2j h);refine ⟨by simp [h1],fun j x hj=> ?_⟩
  cases j with
  |zero=>cases hj;exact ⟨cs,_,rfl,h⟩
  |succ j=>simpa using h2 j x (by simpa using hj)
 | [],_::_,_,h=>h.elim
 |_::_, [],_,h=>h.elim
theorem B6W {nx:Nat}: ∀ {a b:List AV} {K:Prop},B6V nx a b K->K/\a.length=b.length/\ ∀(j:Nat) (c' :AV),b[j]? =some c' -> ∃c K',a[j]? =some c/\wkV [] nx c c' K'
 | [], [],_,h=>by simp [B6V] at h;simp [h]
 |cs::a,cs' ::b,K,h=>by
  obtain ⟨h0,h1,h2⟩:=B6W (C96 h);refine ⟨h0,by simp [h1],fun j x hj=> ?_⟩
  cases j with
  |zero=>cases hj;exact ⟨cs,_,rfl,h⟩
  |succ j=>simpa using h2 j x (by simpa using hj)
 | [],_::_,_,h=>h.elim
 |_::_, [],_,h=>h.elim
theorem C6S {bx bx' :List (List AV)} {tk tk' :N3} {β:Nat->Nat×Nat} {p:Option (Nat×Nat×Nat)} {ok:Nat->Prop} {w:World} {K:Prop} (hm:MR (V7 bx tk β p ok w)) (h:B5A (bx'.length+1) bx bx' K) (ht:tkW tk tk'):
  WkM [] (bx'.length+1) (V7 bx tk β p ok w) (V7 bx' tk' β p ok w)/\MR (V7 bx' tk' β p ok w):=by
 obtain ⟨hl,hg⟩:=B4i h;have key: ∀j cs',A5P bx' tk' (.box j)= .box cs' -> ∃cs K',A5P bx tk (.box j)= .box cs/\wkL [] (bx'.length+1) cs cs' K' :=fun j cs' hj=>by
  obtain ⟨cs,K',h1,h2⟩:=hg j cs' (B3p hj);exact ⟨cs,K',by simp only [A5P,h1],h2⟩
 have keyT: ∀t e sz xs,A5P bx' tk' (.tok t)= .tok e sz xs->A5P bx tk (.tok t)= .tok e sz xs:=fun t e sz xs hj=>by
  obtain ⟨rfl,h2⟩:=A1e hj;rw [h2] at ht;have:=C6x ht;show (match tk with|some (e,sz,xs)=>P2.tok e sz xs|none=>P2.none)=_
  rw [this]
 have hM:WkM [] (bx'.length+1) (V7 bx tk β p ok w) (V7 bx' tk' β p ok w):=⟨rfl,rfl,rfl,fun i' i h=>by cases h;rfl,fun i' i h=>by cases h;rfl,fun _ h=>(by cases h),fun t' e sz xs ht=> .inl ⟨t',rfl,keyT t' e sz xs ht⟩,fun i' cs' hs=>by
   obtain ⟨cs,_,h1,_⟩:=key i' cs' hs;exact ⟨i',cs,rfl,h1⟩⟩
 refine ⟨hM,hm.okLt,fun j cs' hs=> ?_,fun t e sz xs ht=> ?_,fun i j ci cj hi hj hne=> ?_,fun i j ei ej si sj xi xj p q hi hj hp hq hne=>hm.sepT i j ei ej si sj xi xj p q (keyT _ _ _ _ hi) (keyT _ _ _ _ hj) hp hq hne,fun i j ci ej sj xj q hi hj hq=> ?_⟩
 ·obtain ⟨cs,K',h1,h2⟩:=key j cs' hs;obtain ⟨g1,g2,cur,e,g3,g4,g5⟩:=hm.box j cs h1;obtain ⟨q1,q2⟩:=A4Z h2;refine ⟨by show j<bx'.length+1;have:j<bx.length+1:=g1;omega,g2,cur,e,g3,by rw [<-q1];exact g4,fun k c' hk=> ?_⟩
  obtain ⟨c,K',p1,p2⟩:=q2 k c' hk;obtain ⟨u,o1,o2,o3⟩:=g5 k c p1;exact ⟨u,o1,o2,B9t hM p2 o3⟩
 ·obtain ⟨rfl,_⟩:=A1e ht;obtain ⟨_,g⟩:=hm.tok 0 e sz xs (keyT 0 e sz xs ht);exact ⟨Nat.succ_pos _,g⟩
 ·obtain ⟨c1,_,h1,e1⟩:=key i ci hi;obtain ⟨c2,_,h2,e2⟩:=key j cj hj;have:=hm.sepB i j c1 c2 h1 h2 hne;rw [<-(A4Z e1).1,<-(A4Z e2).1];exact this
 ·obtain ⟨c1,_,h1,_⟩:=key i ci hi;exact hm.sepM i j c1 ej sj xj q h1 (keyT _ _ _ _ hj) hq
theorem D61 {nx:Nat} {as:List AV} {r:AV} {K:Prop} (h:wkT nx as r K):K:=by
 unfold wkT at h;split at h
 ·exact C96 h
 ·split at h
  ·exact (B6W h).1
  ·exact h.elim
theorem C6R {nx:Nat}: ∀ {a b:List (List AV)} {K:Prop},B5A nx a b K->K
 | [], [],_,h=>h
 | [],_::_,_,h=>h.elim
 |_::_, [],_,h=>h.elim
 |_::_,_::_,_,h=>C6R (C2j h)
theorem C31 {P:Program} {N:Nat} {T:I4} (hT:A0v P T) {bx:List (List AV)} {tk:N3} {β:Nat->Nat×Nat} {p:Option (Nat×Nat×Nat)} {ok:Nat->Prop} {w:World} {fn:Func} {r:AV} {bx' :List (List AV)} {tk' :N3} {st:St} {a:Act} {w' :World} {A:Nat->Prop}
  (hs:T1 (cFr P N bx tk β p ok w) A (St.get st) a w') (h:C4P T (bx.length+1) fn.results.toList r bx' tk' st):
  a.defers= []/\ ∃v,(results fn a.tmps).run P w' = .ok v w' /\C8I P bx tk β p ok w r bx' tk' (.returned v) w' :=by
 obtain ⟨β1,τ1,ok1,hx⟩:=hs;unfold C4P at h;split at h
 ·exact h.elim
 rename_i vs hvs;split at h
 ·exact h.elim
 rename_i as bx2 tk2 ks hc;rw [D8R] at hc;obtain ⟨us,hrun,hul,huv⟩:=C0d hx hT hvs;obtain ⟨ka,kb,ha,hb,hks,hap,htk,ht⟩:=A4L hc;obtain ⟨m1,h1,h2,h3,h4,h5,hmr,hbl,H⟩:=B9a hx hc;obtain ⟨b1,b2⟩:=B3N hb
 generalize hids:B8H (St.get st) bx.length vs (D0N bx'.length bx.length)=B8 at*
 generalize htt:retT (St.get st) bx.length vs tk'.isSome=t at*
 obtain ⟨v1,v2⟩:=B8d H vs as ka us ha (fun i hi=>by rw [hks];simp [hi]) hul huv
 have hLL:=D61 h;have hW:=C6R hLL;obtain ⟨hM,hmr2⟩:=C6S hmr hLL hW;have hlen:=(B4i hLL).1;have hw1:m1.w=w' :=h3;have hget: ∀j,j<bx.length->B8[j]? =some (j,0,A4N (St.get st) j):=fun j hj=>by rw [<-hids];exact D4O j hj
 have hcases: ∀j q,B8[j]? =some q->(j<bx.length/\q=(j,0,A4N (St.get st) j))\/(j=bx.length/\ ∃i,bx.length+1<=i/\q=(i,0,A4N (St.get st) i)):=fun j q hj=>by rw [<-hids] at hj;exact C6c hj
 have hidl:bx.length<=B8.length:=by
  rcases Nat.eq_zero_or_pos bx.length with h0|h0
  ·omega
  ·have:=(D8k.1 (hget (bx.length-1) (by omega))).1
   omega
 have hpar: ∀j,j<bx.length->β1 j=β j:=fun j hj=>hx.par j (by show j<bx.length+1;omega)
 have hwin: ∀j,j<bx.length->S3 ⟨St.get st,β1,τ1,A,ok1,w'⟩ B8 j=β j:=fun j hj=>by
  unfold S3;rw [hget j hj];show ((β1 j).1,(β1 j).2+0)=β j;rw [Nat.add_zero,hpar j hj]
 have htb: ∀b,tkB tk' (A1O ⟨St.get st,β1,τ1,A,ok1,w'⟩ t) b->w.heap.size<=b\/tkB tk p b:=fun b hb' =>by
  obtain ⟨x,q,hx1,hx2,rfl⟩:=hb';cases t with
  |none=>cases hx2
  |some k=>
   obtain ⟨_,e,sz,xs,g1,_⟩:=ht k rfl;exact hx.newT k e sz xs q g1 hx2
 refine ⟨hx.defers,_,C7B hrun,_,S3 ⟨St.get st,β1,τ1,A,ok1,w'⟩ B8,A1O ⟨St.get st,β1,τ1,A,ok1,w'⟩ t,m1.ok,rfl, ?_⟩;refine ⟨hw1▸hmr2, ?_,⟨hx.keep.os,hx.keep.tape,hx.keep.output,hx.keep.size,hx.keep.block,hx.keep.win,hx.keep.fz⟩,hwin,fun j hj=> ?_,by omega,fun j hj hj' => ?_,htb,h1.ok0,h1.okNew⟩
 ·rw [<-hw1];unfold wkT at h;split at h
  ·rename_i v
   match us,v1,v2 with
   | [u],_,v2=>
    obtain ⟨u',e1,e2⟩:=v2 0 v rfl;cases e1;exact D1U hM h (B0e e2)
   | [],v1,_=>simp [<-hul] at v1
   |_::_::_,v1,_=>simp [<-hul] at v1
  ·rename_i hone;split at h
   ·rename_i rs;obtain ⟨_,g1,g2⟩:=B6W h;have hne:us.toArray.size≠1:=by
     intro he;have:as.length=1:=by rw [v1,<-hul];simpa using he
     match as,this with
     | [v],_=>exact hone v rfl
    rw [dif_neg hne];refine ⟨us.toArray,rfl,by simp [hul,<-v1,g1],fun j c' hj=> ?_⟩
    obtain ⟨c,K',q1,q2⟩:=g2 j c' hj;obtain ⟨u,p1,p2⟩:=v2 j c q1;exact ⟨u,by simpa using p1,C3n hM q2 (B0e p2)⟩
   ·exact h.elim
 ·have hj2:j<bx2.length:=by omega
  obtain ⟨cs0,ds,k,q1,q2,q3,q4,q5⟩:=b2 j _ (hget j hj);obtain ⟨_,hg⟩:=B4i hLL;have hj' :j<bx'.length:=by omega
  obtain ⟨ds',K',r1,r2⟩:=hg j _ (D8o hj');rw [q4] at r1;cases r1;have e1:(bx'.getD j [])=bx'[j]:=by rw [D86,D8o hj'];rfl
  rw [e1,<-(A4Z r2).1];have hpl:cs0.length=(bx.getD j []).length:=hx.parL j cs0 q1 (by show j<bx.length+1;omega)
  rw [<-hpl];have q3' :hvL (St.get st) B8 t ((cs0.drop 0).take (A4N (St.get st) j))=some (ds,k):=q3;have hlb:A4N (St.get st) j=cs0.length:=by
   unfold A4N;have:St.get st (.box j)= .box cs0:=q1;rw [this]
  rw [hlb] at q3';have hl: ∀(cs ds:List AV) (k:List Nat),hvL (St.get st) B8 t cs=some (ds,k)->ds.length=cs.length:=by
   intro cs
   induction cs with
   |nil=>intro ds k h;cases h;rfl
   |cons c cs ih=>
    intro ds k h;simp only [hvL] at h;split at h
    ·rename_i h1 h2;cases h;simp [ih _ _ h2]
    ·cases h
  rw [hl _ _ _ q3'];simp
 ·have hji:j<B8.length:=by omega
  obtain ⟨q,hq⟩: ∃q,B8[j]? =some q:=⟨_,D8o hji⟩;rcases hcases j q hq with ⟨h6,_⟩|⟨_,i,h7,h8⟩
  ·omega
  ·rw [h8] at hq;obtain ⟨cs0,_,_,q1,_⟩:=b2 j _ hq;show w.heap.size<=(S3 _ B8 j).1;unfold S3;rw [hq];exact hx.newB i cs0 q1 h7
def B3w (fn:Func):Code:=match fn.body with
 |some c=>c
 |none=> .skip
def C2v (fn:Func):Bool:=match fn.body with
 |some _=>true
 |none=>false
def C5E:AV->Prop
 | .lst _ _ xs=>xs.length<=maxLen
 |_=>True
def D5S:List AV->Prop
 | []=>True
 |c::r=>C5E c/\D5S r
def D2F:AV->Prop
 | .agg cs=>D5S cs
 |c=>C5E c
theorem C5.wk {P:Program} {f:FuncId} {as as' :List AV} {bx bx2:List (List AV)} {tk tk2:N3} {r:AV} {bx' :List (List AV)} {tk' :N3} (h:C5 P f as' bx2 tk2 r bx' tk') (hw:B6V (bx2.length+1) as as' (B5A (bx2.length+1) bx bx2 (tkW tk tk2))):C5 P f as bx tk r bx' tk' :=by
 obtain ⟨hb,hl,hg⟩:=B6W hw;obtain ⟨hlen,hgl⟩:=B4i hb;have ht:=C6R hb;refine ⟨fun w β p ok vs hmr hsz hv=> ?_⟩;obtain ⟨hM,hmr2⟩:=C6S hmr hb ht;have hln: ∀j,(bx2.getD j []).length=(bx.getD j []).length:=fun j=>by
  by_cases hj:j<bx2.length
  ·obtain ⟨cs,K',r1,r2⟩:=hgl j _ (D8o hj);have e1:(bx2.getD j [])=bx2[j]:=by rw [D86,D8o hj];rfl
   have e2:(bx.getD j [])=cs:=by rw [D86,r1];rfl
   rw [e1,e2,(A4Z r2).1]
  ·have e1:(bx2.getD j [])= []:=by rw [D86,D87 (by omega)];rfl
   have e2:(bx.getD j [])= []:=by rw [D86,D87 (by omega)];rfl
   rw [e1,e2]
 have htb: ∀b,tkB tk2 p b->tkB tk p b:=by
  rintro b ⟨x,q,hx,hq,rfl⟩;obtain ⟨e,sz,xs⟩:=x;rw [hx] at ht;exact ⟨_,q,C6x ht,hq,rfl⟩
 refine (h.body w β p ok vs hmr2 (hsz.trans hl) (fun i c' hi=> ?_)).mono ?_
 ·obtain ⟨c,K',q1,q2⟩:=hg i c' hi;obtain ⟨u,p1,p2⟩:=hv i c q1;exact ⟨u,p1,C3n hM q2 (B0e p2)⟩
 ·rintro e w' ⟨u,β',p',ok',h1,L⟩;refine ⟨u,β',p',ok',h1,L.mr,L.vr,⟨L.keep.os,L.keep.tape,L.keep.output,L.keep.size,fun k hk hj ht' =>L.keep.block k hk (fun j hjl hj0=>hj j (by show j<bx.length+1;have:j<bx2.length+1:=hjl;omega) (by show 0<(bx.getD j []).length;rw [<-hln j];exact hj0)) (fun hb=>ht' (htb k hb)),fun k cur e hk ht' hc=> ?_,L.keep.fz⟩,fun j hj=>L.same j (by omega),fun j hj=>by rw [L.len j (by omega),hln j],by have:=L.long;omega,fun j hj hj' =>L.new j (by omega) hj',fun b hb=>(L.newT b hb).imp id (htb b),L.ok0,fun b hb=>(L.okNew b hb).imp id (Or.imp id (htb b))⟩
  obtain ⟨cur',g1,g2,g3⟩:=L.keep.win k cur e hk (fun hb=>ht' (htb k hb)) hc;refine ⟨cur',g1,g2,fun o ho=>g3 o (fun j hj hjk=> ?_)⟩;have:=ho j (by show j<bx.length+1;have:j<bx2.length+1:=hj;omega) hjk
  show¬((β j).2<=o/\o<(β j).2+(bx2.getD j []).length);rw [hln j];exact this
theorem E9.wk {P:Program} {f:FuncId} {as as' :List AV} {bx bx2:List (List AV)} {r:AV} {bx' :List (List AV)} (h:E9 P f as' bx2 r bx') (hw:B6V (bx2.length+1) as as' (B5A (bx2.length+1) bx bx2 True)):E9 P f as bx r bx' :=C5.wk h hw
end Go.Vc
namespace Go.Vc
open Go.RowKit
def zrB:AV->Value->Bool
 | .int k n, .int k' n' =>decide (k=k')&&decide (n=n')
 | .bool b, .bool b' =>b==b'
 | .nilS, .slice none 0 0=>true
 | .nilp, .pointer none=>true
 | .junk,_=>true
 |_,_=>false
theorem D3y {c:AV} {v:Value} (h:zrB c v=true):ZR c v:=by
 unfold zrB at h;split at h
 ·simp only [D8i,D8c] at h;obtain ⟨rfl,rfl⟩:=h
  rfl
 ·rw [eq_of_beq h];rfl
 ·rfl
 ·rfl
 ·trivial
 ·cases h
def zrL:List AV->List Value->Bool
 | [], []=>true
 |c::cs,v::vs=>(zrB c v&&v.oneCell')&&zrL cs vs
 |_,_=>false
theorem C6W: ∀ {cs:List AV} {vs:List Value},zrL cs vs=true-> ∀(j:Nat) (c:AV),cs[j]? =some c-> ∃u,vs[j]? =some u/\u.oneCell' =true/\ZR c u
 | [], [],_,j,c,h=>by simp at h
 |c::cs,v::vs,h,j,x,hj=>by
  simp only [zrL,D8i] at h;cases j with
  |zero=>cases hj;exact ⟨v,rfl,h.1.2,D3y h.1.1⟩
  |succ j=>simpa using C6W h.2 j x (by simpa using hj)
 | [],_::_,h,_,_,_=>by cases h
 |_::_, [],h,_,_,_=>by cases h
def C1w:List (Nat×Nat)->List (Nat×Nat)->Bool
 | [], []=>true
 |(a,b)::r,(c,d)::s=>(Nat.beq a c&&Nat.beq b d)&&C1w r s
 |_,_=>false
theorem B9Y: ∀ {a b:List (Nat×Nat)},C1w a b=true->a=b
 | [], [],_=>rfl
 |(a,b)::r,(c,d)::s,h=>by
  simp only [C1w,D8i] at h;rw [D8j h.1.1,D8j h.1.2,B9Y h.2]
 | [],_::_,h=>by cases h
 |_::_, [],h=>by cases h
def D2K (P:Program) (t:Nat):Bool:=match P.underlying t with
 |some (.map k _)=>match P.underlying k with
  |some (.int .i64)=>true
  |_=>false
 |_=>false
theorem D0W {P:Program} {t:Nat} (h:D2K P t=true): ∃k e,P.underlying t=some (.map k e)/\P.underlying k=some (.int .i64):=by
 unfold D2K at h;split at h
 ·rename_i k e hk;split at h
  ·rename_i hq;exact ⟨k,e,hk,hq⟩
  ·cases h
 ·cases h
def C9h (P:Program) (t:Nat):TK->Bool
 | .int k=>match P.underlying t with
  |some (.int k')=>decide (k' =k)
  |_=>false
 | .bool=>match P.underlying t with
  |some .bool=>true
  |_=>false
 | .struct fs=>match P.underlying t with
  |some (.struct flds)=>C1w (flds.toList.map fun f=>(f.offset,P.cellsOf f.type)) fs&&flds.toList.all fun f=>(P.info? f.type).isSome
  |_=>false
 | .slice e=>match P.underlying t with
  |some (.slice e')=>Nat.beq e' e
  |_=>false
 | .pointer e=>match P.underlying t with
  |some (.pointer e')=>Nat.beq e' e
  |_=>false
 | .array n e=>match P.underlying t with
  |some (.array n' e')=>Nat.beq n' n&&Nat.beq e' e
  |_=>false
 | .imap=>D2K P t
 | .other=>match P.underlying t with
  |some (.struct _)=>false
  |some (.array _ _)=>false
  |some _=>true
  |none=>false
theorem C9i {P:Program} {t:Nat} {k:TK} (h:C9h P t k=true):B7H P t k:=by
 by_cases hi:k= .imap
 ·subst hi;exact D0W h
 unfold C9h at h;split at h<;>first|exact absurd rfl hi|skip
 all_goals split at h
 all_goals first|(cases h;done)|skip
 ·rename_i hk;rw [<-of_decide_eq_true h];exact hk
 ·assumption
 ·rename_i flds hk;simp only [D8i] at h;exact ⟨flds,hk,B9Y h.1,fun f hf=>D8M.1 h.2 f hf⟩
 ·rename_i hk;rw [<-D8j h];exact hk
 ·rename_i hk;rw [<-D8j h];exact hk
 ·rename_i hk;simp only [D8i] at h;rw [<-D8j h.1,<-D8j h.2];exact hk
 ·rename_i d h1 h2 hk;refine ⟨d,hk, ?_⟩;cases d<;>first|rfl|exact absurd rfl (h1 _)|exact absurd rfl (h2 _ _)
def C83 (P:Program) (g:TypeId->Option (List Bool)):Nat->List Field->Option (List (List Bool))
 |_, []=>some []
 |off,f::r=>match g f.type with
  |some ks=>match decide (f.name≠ "_")&&(Nat.beq f.offset off&&(match P.info? f.type with
    |some i=>Nat.beq i.size ks.length
    |none=>false)) with
   |true=>match C83 P g (off+ks.length) r with
    |some kss=>some (ks::kss)
    |none=>none
   |false=>none
  |none=>none
def C84 (P:Program):Nat->TypeId->Option (List Bool)
 |0,_=>none
 |d+1,t=>match P.underlying t with
  |some (.int _)=>some [true]
  |some .bool=>some [false]
  |some (.struct _)=>match P.stoodInHeld t with
   |true=>none
   |false=>match C83 P (C84 P d) 0 (P.fieldsOf t).toList with
    |some kss=>some kss.flatten
    |none=>none
  |_=>none
theorem C3C {P:Program} {g:TypeId->Option (List Bool)}: ∀ {fs:List Field} {off:Nat} {kss:List (List Bool)},C83 P g off fs=some kss->
  kss.length=fs.length/\ ∀(j:Nat) (f:Field) (ks:List Bool),fs[j]? =some f->kss[j]? =some ks->
   g f.type=some ks/\f.name≠ "_" /\f.offset=off+(kss.take j).flatten.length/\(P.info? f.type).map (·.size)=some ks.length
 | [],off,kss,h=>by cases h;simp
 |f::r,off,kss,h=>by
  simp only [C83] at h;split at h
  ·rename_i ks hks;split at h
   ·rename_i hc;split at h
    ·rename_i kss' hr;cases h;simp only [D8i,D8c] at hc;obtain ⟨g1,g2⟩:=C3C hr;refine ⟨by simp [g1],fun j f' ks' hf hk=> ?_⟩
     cases j with
     |zero=>
      cases hf;cases hk;refine ⟨hks,hc.1,by simp [D8j hc.2.1], ?_⟩
      have h3:=hc.2.2;split at h3
      ·rename_i i hi;rw [hi];simp [D8j h3]
      ·cases h3
     |succ j=>
      obtain ⟨q1,q2,q3,q4⟩:=g2 j f' ks' (by simpa using hf) (by simpa using hk)
      refine ⟨q1,q2, ?_,q4⟩;rw [q3];simp [Nat.add_assoc]
    ·cases h
   ·cases h
  ·cases h
theorem C3D {P:Program}: ∀(d:Nat) {t:TypeId} {ks:List Bool},C84 P d t=some ks->EqT P t ks d
 |0,_,_,h=>by cases h
 |d+1,t,ks,h=>by
  simp only [C84] at h;split at h
  ·rename_i k hk;cases h;exact .int t k d hk
  ·rename_i hk;cases h;exact .bool t d hk
  ·rename_i flds hk;split at h
   ·cases h
   ·rename_i hs;split at h
    ·rename_i kss hf;cases h;have e:P.fieldsOf t=flds:=by simp [Program.fieldsOf,hk]
     obtain ⟨g1,g2⟩:=C3C hf;refine .struct t d kss (by rw [e];exact hk) hs g1 (fun j f ks hj hk=> ?_) (fun j f ks hj hk=> ?_)
     ·obtain ⟨_,q2,q3,q4⟩:=g2 j f ks hj hk;exact ⟨q2,by simpa using q3,q4⟩
     ·exact C3D d (g2 j f ks hj hk).1
    ·cases h
  ·cases h
def B80:List Bool->List Bool->Bool
 | [], []=>true
 |a::r,b::s=>(a==b)&&B80 r s
 |_,_=>false
theorem B7R: ∀ {a b:List Bool},B80 a b=true->a=b
 | [], [],_=>rfl
 |a::r,b::s,h=>by
  simp only [B80,D8i] at h;rw [eq_of_beq h.1,B7R h.2]
 | [],_::_,h=>by cases h
 |_::_, [],h=>by cases h
def plainB (P:Program) (t:Nat) (ti:TI):Bool:=match ti.plain with
 | []=>true
 |ks=> !P.eqGuardType P.depth t&&(ti.agg&&(match C84 P 100 t with
  |some ks' =>B80 ks' ks
  |none=>false))
def D3G (P:Program) (t:Nat) (ti:TI):Bool:=match P.info? t with
 |some i=>match i.zero with
  |some z=>Nat.beq i.size ti.size&&(Nat.beq i.bytes ti.bytes&&(Nat.beq z.cells.size ti.size&&(Nat.beq ti.zero.length ti.size&&zrL ti.zero z.cells.toList)))
  |none=>false
 |none=>false
def tiB (P:Program) (t:Nat) (ti:TI):Bool:=D3G P t ti&&(C9h P t ti.kind&&plainB P t ti)
theorem D3k {P:Program} {t:Nat} {ti:TI} (h:tiB P t ti=true):Q9 P t ti:=by
 simp only [tiB,D8i] at h;obtain ⟨h1,h2,h3⟩:=h;refine ⟨?_,C9i h2,fun hne=> ?_⟩
 ·unfold D3G at h1;split at h1
  ·rename_i i hi;split at h1
   ·rename_i z hz;simp only [D8i] at h1;obtain ⟨a,b,c,d,e⟩:=h1;refine ⟨i,hi,D8j a,D8j b,z,hz,D8j c,D8j d,fun j x hj=> ?_⟩;obtain ⟨u,q1,q2⟩:=C6W e j x hj;exact ⟨u,by simpa using q1,q2⟩
   ·cases h1
  ·cases h1
 ·unfold plainB at h3;split at h3
  ·rename_i hp;exact absurd hp hne
  ·rename_i ks _;simp only [D8i,D8w] at h3;obtain ⟨a,b,c⟩:=h3;refine ⟨a,b, ?_⟩;split at c
   ·rename_i ks' hks;rw [<-B7R c];exact C3D 100 hks
   ·cases c
def D7B (P:Program) (T:I4):Bool:=T.all fun p=>tiB P p.1 p.2
theorem D1H {P:Program} {T:I4} (h:D7B P T=true):A0v P T:=by
 have key: ∀(T' :I4) t ti,I4.find T' t=some ti->(t,ti)∈T' :=by
  intro T'
  induction T' with
  |nil=>intro t ti h;cases h
  |cons p r ih=>
   obtain ⟨n,x⟩:=p;intro t ti h;simp only [I4.find] at h;split at h
   ·rename_i hb;cases h;rw [D8j hb];simp
   ·exact List.mem_cons_of_mem _ (ih t ti h)
 intro t ti ht;exact D3k (D8M.1 h _ (key T t ti ht))
end Go.Vc
namespace Go.Vc
open Go.RowKit Go.ChangeShapes Go.WideShapes Go.ChangeAt
theorem D0q {w:World} {a:Addr} {v:Value} (h:w.cell? a=some v):a.spot=none/\a.block<w.heap.size:=by
 unfold World.cell? at h;split at h
 ·rename_i c _ _ hb;refine ⟨?_,(D8Y.1 hb).1⟩;cases hs:a.spot with
  |none=>rfl
  |some s=>rw [hs] at h;simp at h
 ·cases h
def C5B (w:World):G7:=V7 [] none (fun _=>(0,0)) none (fun b=>b<w.heap.size) w
def D78 (k0 k1:IntKind) (l:List (Int×Int)):List (List AV):=l.map fun p=> [.int k0 p.1, .int k1 p.2]
theorem E9.law2 {P:Program} {f:FuncId} {as:List AV} (h:E9 P f as [] (.sb true) []) (hcall:∀(vs:Array Value) (w:World),(callFunc f vs).run P w= .ok (.enter f vs) w) (w:World) (vs:Array Value) (hl:vs.size=as.length)
  (hv:∀(i:Nat) (c:AV),as[i]? =some c-> ∃u,vs[i]? =some u/\VR1 (C5B w) c u):
  Calls P f vs w fun e w' =>e= .returned (.bool true)/\Below w.heap.size w w' :=by
 have run: ∀Q,C2n P f vs w Q->Calls P f vs w Q:=fun Q hq=>by
  rcases hq with ⟨_,h2⟩|⟨v,w',h1,_⟩
  ·exact h2
  ·rw [hcall] at h1;cases h1
 refine (run _ (h.body w (fun _=>(0,0)) none (fun b=>b<w.heap.size) vs ⟨fun _ hb=>hb,fun i cs hs=> ?_,fun t e sz xs ht=> ?_,fun i j ci cj hi=> ?_,fun i j ei ej si sj xi xj p q hi=> ?_,fun i j ci ej sj xj q hi=> ?_⟩ hl hv)).mono ?_
 ·cases B3p (bx:= []) (tk:=none) (i:=i) hs
 ·cases (A1e (bx:= []) (tk:=none) (q:=t) ht).2
 ·cases B3p (bx:= []) (tk:=none) (i:=i) hi
 ·cases (A1e (bx:= []) (tk:=none) (q:=i) hi).2
 ·cases B3p (bx:= []) (tk:=none) (i:=i) hi
 ·rintro e w' ⟨u,β',p',ok',rfl,L⟩;have hu:u= .bool true:=L.vr;subst hu;have hbl: ∀k,k<w.heap.size->w'.heap[k]? =w.heap[k]? :=fun k hk' =>L.keep.block k hk' (fun j _ hj0=>by
   have:0<(([]:List (List AV)).getD j []).length:=hj0;simp at this) (fun hb=>by obtain ⟨x,q,hx,_⟩:=hb;cases hx)
  exact ⟨rfl,L.keep.os,L.keep.tape,L.keep.output,L.keep.size,hbl⟩
theorem C4m {H:Type} {enc:TypeId×Value->H} {P:Program} {f:Func} {s:ChangeSpec} {apart fresh handsOn again:Bool} {W W' :World} {args:Array Value} {v:Value} {ds gs:List (DataW H)} {before pa pv:List MemPlace}
  (hW:DataW.Whole enc P f.params.toList s.vars apart W args.toList ds gs before)
  (hres:∀(b:Nat) (sp:Nat->Bool) (hd:Bool),DataW.TrodAll enc P W' b sp hd f.resultTypes.toList (v.resultList f.resultTypes.size) (s.fn H (ds++gs)).results [])
  (hargs:∀sp:Nat->Bool,(∀p∈before,sp p.block=true)->DataW.TrodAll enc P W' 0 sp true f.params.toList args.toList (s.fn H (ds++gs)).args pa)
  (hvars:∀sp:Nat->Bool,(∀p∈before,sp p.block=true)->DataW.TrodVars enc P W' sp s.vars (s.fn H (ds++gs)).vars pv)
  (hps:before=pa++pv) (hb:Below W.heap.size W W')
  (hok:∀(j:Nat) (t:TypeId) (r:Value),f.resultTypes[j]? =some t->(v.resultList f.resultTypes.size)[j]? =some r->Value.okWide P W' .any 0 t r):
  s.post enc P f apart fresh handsOn again W args v W' :=by
 have hlt:=hW.lt;have hold: ∀p∈before,(fun b=>decide (b<W.heap.size)) p.block=true:=fun p hp=>by simpa using hlt p hp
 refine ⟨ds,gs,before, [],pa,pv,hW,hres _ _ _,hargs _ hold,hvars _ hold,World.keptBut_mono (fun p hp=>⟨hp, ?_⟩) (hb.frame (· ∈before)),fun _=> ?_⟩
 ·rw [hps,D8W] at hp;exact Or.inr hp
 ·obtain ⟨_,_,_,_,_,hz,hn⟩:=hW;refine ⟨hok,_,_,([]++pa)++pv,⟨[]++pa,pv,trodAll_append (hargs _ (fun _ _=>rfl)) (hres _ _ _),hvars _ (fun _ _=>rfl),rfl, ?_, ?_⟩, ?_⟩
  ·intro b off hp;have hp' :MemPlace.cell b off∈before:=by rw [hps];simpa using hp
   have hbl:=hb.block b (hlt _ hp');have:=hz b off hp';unfold World.frozen? at this⊢;simp only at this⊢;rw [hbl];exact this
  ·intro ha;have:=hn ha;rw [hps] at this;simpa using this
  ·intro p hp _;rw [hps];simpa using hp
theorem B7L {H:Type} {enc:TypeId×Value->H} {P:Program} {t:TypeId} (hl:laidOutB P=true) (hr:P.readableRec t=true) (hrow:t<P.types.size) {W W' :World} {sp:Nat->Bool} {v:Value} {d:DataW H} {ps:List MemPlace}
  (h:DataW.Trod enc P W 0 (fun _=>true) true t v d ps) (hb:Below W.heap.size W W') (hlt:∀x∈ps,x.block<W.heap.size) (hs:∀x∈ps,sp x.block=true):DataW.Trod enc P W' 0 sp true t v d ps:=
 WideElems.Trod_stays hl hr hrow h (fun x hx=>hb.same (hlt x hx)) hs
end Go.Vc
set_option linter.unusedVariables false
namespace Go.Vc
open Go.RowKit
def A9F (d0:Tmp) (t:TypeId):Int->List Oper->List FuncId×List Oper
 |_, []=>([], [])
 |b,o::r=>match o.op,o.dst,o.guard with
  | .insert t' (.tmp m) (.const (.int .i64 n)) (.func f),none,none=>match Nat.beq m d0&&Nat.beq t' t&&decide (n=b) with
   |true=>(f::(A9F d0 t (b+1) r).1,(A9F d0 t (b+1) r).2)
   |false=>([],o::r)
  |_,_,_=>([],o::r)
theorem B3J {n:Int}: ∀(l r:List MapEntry) (i:Nat),(∀x∈l,∃n',x.key= .int .i64 n' /\n' ≠n)->
  Instr.findNow (.int .i64) (.int .i64 n) (l++r) i=Instr.findNow (.int .i64) (.int .i64 n) r (i+l.length)
 | [],r,i,_=>rfl
 |e::l,r,i,h=>by
  obtain ⟨n',h1,h2⟩:=h e (by simp)
  rw [List.cons_append,Instr.findNow,h1];have:Instr.sameNow (.int .i64) (.int .i64 n) (.int .i64 n')=some false:=by
   simp only [Instr.sameNow,if_true,D82,D80];omega
  rw [this];simp only [];rw [B3J l r (i+1) (fun x hx=>h x (by simp [hx])),D8t]
  congr 1
  omega
theorem C9Q {P:Program} {t kt e:TypeId} (ht:P.underlying t=some (.map kt e)) (hk:P.underlying kt=some (.int .i64)) (w:World) (es:Array MapEntry) (c:Nat) (n:Int) (v:Value)
  (h:∀x∈es.toList,∃n',x.key= .int .i64 n' /\n' ≠n):
  (Instr.mapUpdate t (.map (some w.heap.size)) (.int .i64 n) v).run P (w.alloc (.map es c))= .ok () (w.alloc (.map (es.push { key:= .int .i64 n,val:=v,born:=c}) (c+1))):=by
 have hb:=(MapKept.heap_alloc w (.map es c)).1;have hf:Instr.findNow (.int .i64) (.int .i64 n) es.toList 0=some none:=by
  have:=B3J es.toList [] 0 h;rw [List.append_nil] at this;rw [this];rfl
 have e1:({ w.alloc (.map es c) with heap:=(w.alloc (.map es c)).heap.setIfInBounds w.heap.size (.map (es.push { key:= .int .i64 n,val:=v,born:=c}) (c+1))}:World)=w.alloc (.map (es.push { key:= .int .i64 n,val:=v,born:=c}) (c+1)):=by
  have ea:(w.heap.push (.map es c)).setIfInBounds w.heap.size (.map (es.push { key:= .int .i64 n,val:=v,born:=c}) (c+1))=w.heap.push (.map (es.push { key:= .int .i64 n,val:=v,born:=c}) (c+1)):=by
   apply Array.ext_getElem?;intro i;simp only [Array.getElem?_setIfInBounds,Array.size_push,Array.getElem?_push]
   by_cases hi:i=w.heap.size
   ·subst hi;simp
   ·rw [if_neg (fun h=>hi h.symm)];simp [hi]
  show World.mk ((w.heap.push (.map es c)).setIfInBounds w.heap.size (.map (es.push { key:= .int .i64 n,val:=v,born:=c}) (c+1))) w.tape w.drawn w.os w.output=World.mk (w.heap.push (.map (es.push { key:= .int .i64 n,val:=v,born:=c}) (c+1))) w.tape w.drawn w.os w.output;rw [ea]
 simp [Instr.mapUpdate,run_underlying ht,MapKept.run_getObj_map hb,MapKept.run_checkKey hk (show MapKept.IsKey (.int .i64) (.int .i64 n) from rfl),MapKept.run_findKey hk hf,MapKept.run_setObj_map _ hb,Result.andThen];exact e1
theorem D5U {P:Program} {ops:Array Oper} {Q:Exit->Act->World->Prop} {d0:Tmp} {t kt e:TypeId} (ht:P.underlying t=some (.map kt e)) (hk:P.underlying kt=some (.int .i64)) (w:World) (a:Act)
  (hd:a.eval (.tmp d0)= .map (some w.heap.size)) (rest:List Oper): ∀(l:List Oper) (b:Int) (fs:List FuncId) (es:Array MapEntry) (c:Nat),A9F d0 t b l=(fs,rest)->
  (∀x∈es.toList,∃n,x.key= .int .i64 n/\n<b)->
  (∀es' c',(∀(i:Nat) (f:FuncId),fs[i]? =some f-> ∃j,Instr.findNow (.int .i64) (.int .i64 (b+i)) es'.toList 0=some (some (j, .func (.func f) #[] #[])))->
   (∃r,es'.toList=es.toList++r)->wpList P ops Q rest a (w.alloc (.map es' c')))->wpList P ops Q l a (w.alloc (.map es c)):=by
 intro l
 induction l with
 |nil=>
  intro b fs es c hl _ h;simp only [A9F,Prod.mk.injEq] at hl;obtain ⟨rfl,rfl⟩:=hl;exact h es c (fun i f hf=>by simp at hf) ⟨[],by simp⟩
 |cons o l ih=>
  intro b fs es c hl hes h;unfold A9F at hl;have stop:fs= []->rest=o::l->wpList P ops Q (o::l) a (w.alloc (.map es c)):=by
   rintro rfl rfl;exact h es c (fun i f hf=>by simp at hf) ⟨[],by simp⟩
  split at hl
  ·rename_i t' m n f ho hdst hg;split at hl
   ·rename_i hc;simp only [D8i,D8c] at hc;obtain ⟨⟨h1,h2⟩,rfl⟩:=hc;have h1:=D8j h1;have h2:=D8j h2;subst h1 h2;simp only [Prod.mk.injEq] at hl;obtain ⟨rfl,hr⟩:=hl;refine wpList_plain hg fun K hK=> ?_;have hrun:=C9Q ht hk w es c n (.func (.func f) #[] #[]) (fun x hx=>by obtain ⟨n',q1,q2⟩:=hes x hx;exact ⟨n',q1,by omega⟩)
    have ev1:a.eval (.const (.int .i64 n))= .int .i64 n:=rfl;have ev2:a.eval (.func f)= .func (.func f) #[] #[]:=rfl;unfold Oper.wp;simp [execOp,ho,hd,ev1,ev2,hrun,Result.andThen];refine hK _ _ ?_;rw [hdst];show wpList P ops Q l a _;refine ih (n+1) _ _ _ (Prod.ext rfl hr) (fun x hx=> ?_) fun es' c' g1 g2=> ?_
    ·rw [Array.toList_push,D8W] at hx;rcases hx with hx|hx
     ·obtain ⟨n',q1,q2⟩:=hes x hx;exact ⟨n',q1,by omega⟩
     ·have:x= { key:= .int .i64 n,val:= .func (.func f) #[] #[],born:=c}:=by simpa using hx
      subst this;exact ⟨n,rfl,by omega⟩
    ·obtain ⟨r,hr2⟩:=g2;rw [Array.toList_push,D8E] at hr2;refine h es' c' (fun i f' hf=> ?_) ⟨_,hr2⟩;cases i with
     |zero=>
      have:f=f' :=by simpa using hf
      subst this;refine ⟨es.toList.length, ?_⟩;rw [hr2,show n+((0:Nat):Int)=n by omega,B3J _ _ _ (fun x hx=>by obtain ⟨n',q1,q2⟩:=hes x hx;exact ⟨n',q1,by omega⟩)]
      simp [Instr.findNow,Instr.sameNow]
     |succ i=>
      obtain ⟨j,hj⟩:=g1 i f' (by simpa using hf)
      exact ⟨j,by rw [<-hj];congr 2;omega⟩
   ·simp only [Prod.mk.injEq] at hl;exact stop hl.1.symm hl.2.symm
  ·simp only [Prod.mk.injEq] at hl;exact stop hl.1.symm hl.2.symm
def C5H (ops:List Oper):Option (TypeId×Tmp×List FuncId×Tmp×Tmp):=match ops with
 |o0::r=>match o0.op,o0.dst,o0.guard with
  | .makeMap t none,some d0,none=>match A9F d0 t 1 r with
   |(fs, [o1,o2])=>match o1.op,o1.dst,o1.guard with
    | .move (.tmp m1),some d1,none=>match o2.op,o2.dst,o2.guard with
     | .assign (.tmp m2),some d2,none=>match Nat.beq m1 d0&&Nat.beq m2 d1 with
      |true=>some (t,d0,fs,d1,d2)
      |false=>none
     |_,_,_=>none
    |_,_,_=>none
   |_=>none
  |_,_,_=>none
 | []=>none
theorem B71 {N:Nat} {o:Oper} {l:List Oper} (h:A3R N (o::l)=true):A3R N l=true:=by
 unfold A3R at h⊢;rw [List.all_cons,D8i] at h;exact h.2
theorem B70 {N:Nat} {o:Oper} {l:List Oper} {d:Tmp} (h:A3R N (o::l)=true) (hd:o.dst=some d):d<N:=B5c h (List.mem_cons_self ..) d hd
theorem C0H (a:Act) (d:Tmp) (v:Value) (h:d<a.tmps.size):(a.put (some d) v).eval (.tmp d)=v:=by
 show (a.put (some d) v).tmps.getD d undef=v;simp only [Act.put];rw [Array.getD_eq_getD_getElem?,Array.getElem?_setIfInBounds_self_of_lt h]
 rfl
theorem D0X {F:Fr} {id:Nat} {ops:Array Oper} {t:TypeId} {d0 d1 d2:Tmp} {fs:List FuncId} (hl:C5H ops.toList=some (t,d0,fs,d1,d2)) (hdst:A3R F.N ops.toList=true)
  (ht:∃kt e,F.P.underlying t=some (.map kt e)/\F.P.underlying kt=some (.int .i64)) {A:Nat->Prop} {st:St} {a:Act} {w:World} (hs:T1 F A (St.get st) a w) {Q:Exit->Act->World->Prop}
  (hQ:∀a' w',T1 F A (St.get ((.tmp d2, .av (.mp 1 fs))::(.tmp d1, .av (.mp 1 fs))::(.tmp d0, .av (.mp 1 fs))::st)) a' w' ->Q .normal a' w'):
  (Code.region id ops false).wp F.P Q a w:=by
 obtain ⟨kt,e,h1,h2⟩:=ht;apply wp_region_list;obtain ⟨β,τ,ok,hx⟩:=hs
 generalize hL:ops.toList=L at hl hdst
 unfold C5H at hl;split at hl
 case h_2=>cases hl
 rename_i o0 r;split at hl
 case h_2=>cases hl
 rename_i t0 q0 ho0 hd0 hg0;split at hl
 case h_2=>cases hl
 rename_i fs0 o1 o2 hlit;split at hl
 case h_2=>cases hl
 rename_i m1 q1 ho1 hd1 hg1;split at hl
 case h_2=>cases hl
 rename_i m2 q2 ho2 hd2 hg2;split at hl
 case h_2=>cases hl
 rename_i hc;simp only [D82,Prod.mk.injEq] at hl;obtain ⟨rfl,rfl,rfl,rfl,rfl⟩:=hl;simp only [D8i] at hc;have e1:=D8j hc.1;have e2:=D8j hc.2;subst e1 e2;have hlt: ∀(l:List Oper) (b:Int) (fs:List FuncId) (rest:List Oper),A9F m1 t0 b l=(fs,rest)->A3R F.N l=true->A3R F.N rest=true:=by
  intro l
  induction l with
  |nil=>intro b fs rest h _;simp only [A9F,Prod.mk.injEq] at h;rw [<-h.2];rfl
  |cons o l ih=>
   intro b fs rest h hd;unfold A9F at h;split at h
   ·split at h
    ·simp only [Prod.mk.injEq] at h;exact ih _ _ _ (Prod.ext rfl h.2) (B71 hd)
    ·simp only [Prod.mk.injEq] at h;rw [<-h.2];exact hd
   ·simp only [Prod.mk.injEq] at h;rw [<-h.2];exact hd
 have k0:m1<F.N:=B70 hdst hd0;have hr2:=hlt r 1 fs0 [o1,o2] hlit (B71 hdst);have k1:m2<F.N:=B70 hr2 hd1;have k2:q2<F.N:=B70 (B71 hr2) hd2;refine wpList_plain hg0 fun K hK=> ?_;unfold Oper.wp;simp [execOp,ho0,run_makeMap,Result.andThen];refine hK _ _ ?_;rw [hd0];have sz:a.tmps.size=F.N:=hx.size;refine D5U h1 h2 w (a.put (some m1) (.map (some w.heap.size))) (C0H _ _ _ (by rw [sz];exact k0)) [o1,o2] r 1 fs0 #[] 0 hlit (by simp) fun es c g _=> ?_
 have hm:=hx.mr;have G:=hx.grow (w.alloc (.map es c)) (by show w.heap.size<=(w.heap.push _).size;simp) (fun k hk=>(MapKept.heap_alloc w (.map es c)).2 k hk) (fun ad had=>by apply World.frozen?_alloc_old;exact Nat.ne_of_lt had) rfl rfl rfl
 have fr:=B2L hm;have G2:=G.openB w.heap.size ⟨fr.ok,fr.box,fr.tok⟩ (by show w.heap.size<(w.heap.push _).size;simp) (.inl hx.keep.size)
 have hv: ∀s',VR ⟨s',β,τ,A,fun k=>ok k\/k=w.heap.size,w.alloc (.map es c)⟩ (.mp 1 fs0) (.map (some w.heap.size)):=fun s' =>
  ⟨w.heap.size,es,c,rfl, .inr rfl,(MapKept.heap_alloc w (.map es c)).1,g⟩
 have G3:=((G2.tmp m1 (.mp 1 fs0) (.map (some w.heap.size)) k0 (hv _)).tmp m2 (.mp 1 fs0) (.map (some w.heap.size)) k1 (hv _)).tmp q2 (.mp 1 fs0) (.map (some w.heap.size)) k2 (hv _);have v1:(a.put (some m1) (.map (some w.heap.size))).eval (.tmp m1)= .map (some w.heap.size):=C0H _ _ _ (by rw [sz];exact k0)
 have v2:((a.put (some m1) (.map (some w.heap.size))).put (some m2) (.map (some w.heap.size))).eval (.tmp m2)= .map (some w.heap.size):=C0H _ _ _ (by simp [Act.put,sz];exact k1)
 refine wpList_plain hg1 fun K hK=> ?_;unfold Oper.wp;simp [execOp,ho1,v1,Result.andThen];refine hK _ _ ?_;rw [hd1];refine wpList_plain hg2 fun K hK=> ?_;unfold Oper.wp;simp [execOp,ho2,v2,Result.andThen];refine hK _ _ ?_;rw [hd2];exact wpList_nil (hQ _ _ ⟨β,τ,_,G3⟩)
end Go.Vc
namespace Go.Vc
open Go.RowKit
def D0J (o:Oper):Bool:=match o.guard with
 |none=>false
 |some _=>true
def C1j (ops:List Oper):Bool:=ops.any D0J
def C2u (s:AS) (fz:List Nat):AV->AV
 | .own t=>match B13 t fz with
  |true=>match s (.tok t) with
   | .tok _ sz xs=> .lst sz false xs
   |_=> .own t
  |false=> .own t
 |v=>v
def D5L (s:AS) (fz:List Nat):AV->AV
 | .agg cs=> .agg (cs.map (C2u s fz))
 |v=>C2u s fz v
def frz (s:AS) (fz:List Nat):AS:=fun l=>match l with
 | .tmp d=>match s (.tmp d) with
  | .av v=> .av (D5L s fz v)
  |c=>c
 | .box i=>match s (.box i) with
  | .box cs=> .box (cs.map (C2u s fz))
  |c=>c
 | .tok t=>match B13 t fz with
  |true=> .none
  |false=>s (.tok t)
theorem C3Q (s:AS) (t:Nat): ∀ks:List Nat,(s.apply (kills ks)) (.tok t)=(match B13 t ks with
  |true=> .none
  |false=>s (.tok t))
 | []=>rfl
 |k::ks=>by
  show (AS.put (s.apply (kills ks)) (.tok k) .none) (.tok t)=_
  by_cases h:t=k
  ·subst h;rw [W7];simp [B13,A2U]
  ·rw [A0D _ _ _ _ h,C3Q s t ks];have:B13 t (k::ks)=B13 t ks:=by simp [B13,A9c h]
   rw [this]
theorem A87 {s:AS} {fz:List Nat} {i:Nat} {cs:List AV} (h:frz s fz (.box i)= .box cs): ∃c0,s (.box i)= .box c0/\cs=c0.map (C2u s fz):=by
 simp only [frz] at h;split at h
 ·rename_i c0 hc;cases h;exact ⟨c0,hc,rfl⟩
 ·rename_i hn;exact absurd h (hn cs)
theorem D0I {F:Fr} {A:Nat->Prop} {s:AS} {a:Act} {w:World} (fz:List Nat) (h:T1 F A s a w):T1 F A (frz s fz) a w:=by
 obtain ⟨β,τ,ok,hx⟩:=h;obtain ⟨m',h1,h2,h3,h4,h5,h6⟩:=hx.kills fz;have htok: ∀t c,frz s fz (.tok t)=c->c≠ .none->m'.s (.tok t)=c:=by
  intro t c hc hne;rw [h2,C3Q];exact hc
 have hbox: ∀i,m'.s (.box i)=s (.box i):=fun i=>by rw [h2,B1C]
 have eS: ∀c u,VRs m' c u->VRs { m' with s:=frz s fz} c u:=by
  intro c u hv;cases c<;>try exact hv
  case bsl i n=>
   refine ⟨hv.1,hv.2.1,fun ⟨cs,hs⟩=>hv.2.2 ?_⟩;obtain ⟨c0,g1,_⟩:=A87 hs;exact ⟨c0,by rw [hbox];exact g1⟩
  case own t=>
   refine ⟨hv.1,hv.2.1,fun e sz xs hs=>hv.2.2 e sz xs (htok t _ hs (by simp))⟩
  case ptr i o=>
   refine ⟨hv.1,hv.2.1,fun ⟨cs,hs⟩=>hv.2.2 ?_⟩;obtain ⟨c0,g1,_⟩:=A87 hs;exact ⟨c0,by rw [hbox];exact g1⟩
  case elt t i j=>
   refine ⟨hv.1,hv.2.1,fun e sz xs hs=>hv.2.2 e sz xs (htok t _ hs (by simp))⟩
  case ali t=>
   refine ⟨hv.1,hv.2.1,fun e sz xs hs=>hv.2.2 e sz xs (htok t _ hs (by simp))⟩
  case vw t i n=>
   refine ⟨hv.1,hv.2.1,fun e sz xs hs=>hv.2.2 e sz xs (htok t _ hs (by simp))⟩
  case pix i o=>
   refine ⟨hv.1,hv.2.1,fun ⟨cs,hs⟩=>hv.2.2 ?_⟩;obtain ⟨c0,g1,_⟩:=A87 hs;exact ⟨c0,by rw [hbox];exact g1⟩
 have eL: ∀cs us,VRl m' cs us->VRl { m' with s:=frz s fz} cs us:=fun cs us hv=>⟨hv.1,fun j c hj=>let ⟨u,g1,g2,g3⟩:=hv.2 j c hj;⟨u,g1,g2,eS c u g3⟩⟩
 have e0: ∀c u,J8 m' c u->J8 { m' with s:=frz s fz} c u:=by
  intro c u hv;have es:=eS c u;cases c
  case clo f bs cs=>
   obtain ⟨vb,vc,g1,g2,g3⟩:=hv;exact ⟨vb,vc,g1,eL bs vb g2,eL cs vc g3⟩
  all_goals exact es hv
 have key: ∀c u,J8 ⟨s,β,τ,A,ok,w⟩ c u->J8 { m' with s:=frz s fz} (C2u s fz c) u:=by
  intro c u hv;cases c<;>try exact e0 _ _ (hv.ext h5)
  case own t=>
   simp only [C2u];split
   ·rename_i hm;split
    ·rename_i e sz xs hs;have ht:t∈fz:=by
      obtain ⟨x,hx,hb⟩:=List.any_eq_true.1 hm;rw [D8j hb];exact hx
     exact h6 t ht e sz xs u hs hv
    ·exact e0 _ _ (hv.ext h5)
   ·exact e0 _ _ (hv.ext h5)
 have keyt: ∀t e sz xs,frz s fz (.tok t)= .tok e sz xs->m'.s (.tok t)= .tok e sz xs:=fun t e sz xs hs=>htok t _ hs (by simp)
 have keyb: ∀i cs,frz s fz (.box i)= .box cs-> ∃c0,m'.s (.box i)= .box c0:=fun i cs hs=>by
  obtain ⟨c0,g1,_⟩:=A87 hs;exact ⟨c0,by rw [hbox];exact g1⟩
 have hm:=h1.mr;refine ⟨m'.β,m'.τ,m'.ok, ?_⟩;have hA:m'.A=A:=h4;have hw:m'.w=w:=h3;have goal:M4 F a { m' with s:=frz s fz}:=by
  refine ⟨⟨hm.okLt,fun i cs hs=> ?_,fun t e sz xs hs=>hm.tok t e sz xs (keyt t e sz xs hs),fun i j ci cj hi hj hne=> ?_,fun i j ei ej si sj xi xj p q hi hj hp hq hne=>hm.sepT i j ei ej si sj xi xj p q (keyt _ _ _ _ hi) (keyt _ _ _ _ hj) hp hq hne,fun i j ci ej sj xj q hi hj hq=> ?_⟩,h1.defers,h1.size,fun l v hl=> ?_,h1.keep,h1.par,h1.parA,fun i cs hs hge=> ?_,fun i cs hs hlt=> ?_,fun t e sz xs p hs hp=>h1.newT t e sz xs p (keyt _ _ _ _ hs) hp,h1.ok0,h1.okNew⟩
  ·obtain ⟨c0,g1,rfl⟩:=A87 hs;obtain ⟨q1,q2,cur,e,q3,q4,q5⟩:=hx.mr.box i c0 g1;obtain ⟨r1,r2,_⟩:=hm.box i c0 (by rw [hbox];exact g1)
   have hb:m'.β i=β i:=(h5.box i c0 (by rw [hbox];exact g1) q1).2
   refine ⟨r1,r2,cur,e, ?_, ?_,fun j c hj=> ?_⟩
   ·show m'.w.heap[(m'.β i).1]? =_;rw [hb,hw];exact q3
   ·show (m'.β i).2+_<=_;rw [hb];simpa using q4
   ·rw [D8J] at hj;cases hc:c0[j]? with
    |none=>rw [hc] at hj;cases hj
    |some d=>
     rw [hc] at hj;cases hj;obtain ⟨u,o1,o2,o3⟩:=q5 j d hc;exact ⟨u,by show cur[(m'.β i).2+j]? =_;rw [hb];exact o1,o2,key d u o3⟩
  ·obtain ⟨c1,g1,rfl⟩:=A87 hi;obtain ⟨c2,g2,rfl⟩:=A87 hj;rw [D8X,D8X];exact hm.sepB i j c1 c2 (by rw [hbox];exact g1) (by rw [hbox];exact g2) hne
  ·obtain ⟨c1,g1⟩:=keyb i ci hi;exact hm.sepM i j c1 ej sj xj q g1 (keyt _ _ _ _ hj) hq
  ·have hl' :frz s fz (.tmp l)= .av v:=hl;simp only [frz] at hl';split at hl'
   ·rename_i v0 hv0;cases hl';have hv:=hx.env l v0 hv0;simp only [D5L];split
    ·rename_i cs;obtain ⟨vs,p1,p2,p3⟩:=hv;refine ⟨vs,p1,by simpa using p2,fun j c hj=> ?_⟩
     rw [D8J] at hj;cases hc:cs[j]? with
     |none=>rw [hc] at hj;cases hj
     |some d=>
      rw [hc] at hj;cases hj;obtain ⟨u,o1,o2,o3⟩:=p3 j d hc;exact ⟨u,o1,o2,key d u o3⟩
    ·rename_i hna
     by_cases htup: ∃vs,v0= .tup vs
     ·obtain ⟨vs,rfl⟩:=htup;obtain ⟨us,p1,p2,p3⟩:=hv;refine ⟨us,p1,p2,fun j c hj=> ?_⟩;obtain ⟨u,o1,o2⟩:=p3 j c hj;refine ⟨u,o1, ?_⟩
      by_cases hagg: ∃cs,c= .agg cs
      ·obtain ⟨cs,rfl⟩:=hagg;obtain ⟨ws,t1,t2,t3⟩:=o2;exact ⟨ws,t1,t2,fun k d hk=>let ⟨x,y1,y2,y3⟩:=t3 k d hk;⟨x,y1,y2,e0 _ _ (y3.ext h5)⟩⟩
      ·exact A9m (e0 _ _ ((B3v o2 (fun cs e=>hagg ⟨cs,e⟩)).ext h5))
     ·have g:J8 ⟨s,β,τ,A,ok,w⟩ v0 (a.tmps.getD l undef):=B3v (B8T hv (fun vs e=>htup ⟨vs,e⟩)) hna;exact B0e (A9m (key _ _ g))
   ·rename_i hn;exact absurd hl' (hn v)
  ·obtain ⟨c1,g1⟩:=keyb i cs hs;exact h1.newB i c1 g1 hge
  ·obtain ⟨c1,g1,rfl⟩:=A87 hs;rw [D8X];exact h1.parL i c1 (by rw [hbox];exact g1) hlt
 have e1:({ m' with s:=frz s fz}:G7)=⟨frz s fz,m'.β,m'.τ,A,m'.ok,w⟩:=by rw [<-hA,<-hw]
 rw [e1] at goal;exact goal
def Wkf (m nx:Nat) (ρ:O1) (fz:List Nat) (s:AS) (st':St):Prop:=Wk m nx ρ (frz s fz) st'
theorem B47 {F:Fr} {A:Nat->Prop} {s:AS} {st' :St} {a:Act} {w:World} {ρ:O1} {nx:Nat} {fz:List Nat} (h:T1 F A s a w) (hw:Wkf F.m nx ρ fz s st'):T1 F (fun i=>i<nx) (St.get st') a w:=B6X (D0I fz h) hw
noncomputable def D3r (vx:VT) (n:Nat):VT:=
 Nat.rec (motive:=fun _=>VT) (fun _ _ _=>False) (fun _ ih nx st K=>vx nx st fun e nx' st' =>match e with
  | .normal=>ih nx' st' K
  |e=>K e nx' st') n
noncomputable def D41 (m:Nat) (vx:VT):VT:=fun nx st K=>
 ∃o:Inv⊕Nat,match o with
  | .inl I=>(∃ρ fz x,I.φ x/\Wkf m nx ρ fz (St.get st) (I.st x))/\ ∀x,I.φ x->vx nx (I.st x) fun e nx' st' =>match e with
   | .normal=> ∃ρ fz x',I.φ x' /\(I.μ x' <I.μ x/\Wkf m nx ρ fz (St.get st') (I.st x'))
   |e=>K e nx' st'
  | .inr n=>D3r vx n nx st K
structure D3A (m:Nat) (V:KT->Prop) (R:VT) (nx:Nat) (st:St) (K:KT):Prop where
 h: ∃j:Option (Inv×Nat),match j with
  |none=>V fun e nx' st' =>match e with
   | .normal=>R nx' st' K
   |e=>K e nx' st'
  |some (I,n)=>V (fun e nx' st' =>match e with
   | .normal=> ∃ρ fz x,I.φ x/\Wkf m n ρ fz (St.get st') (I.st x)
   |e=>K e nx' st')/\ ∀x,I.φ x->R n (I.st x) K
noncomputable def B9s (m:Nat) (jn:Bool) (V:KT->Prop) (R:VT) (nx:Nat) (st:St) (K:KT):Prop:=match jn with
 |false=>V fun e nx' st' =>match e with
  | .normal=>R nx' st' K
  |e=>K e nx' st'
 |true=>D3A m V R nx st K
structure C8H (m:Nat) (vx:VT) (nx:Nat) (st:St) (K:KT):Prop where
 h:D41 m vx nx st K
noncomputable def D3s (T:I4) (ops:List Oper) (draw:Bool) (R:VT) (nx:Nat) (st:St) (K:KT):Prop:=match draw,C5H ops with
 |false,some (t,d0,fs,d1,d2)=>match I4.find T t with
  |some ti=>match ti.kind with
   | .imap=>R nx ((.tmp d2, .av (.mp 1 fs))::(.tmp d1, .av (.mp 1 fs))::(.tmp d0, .av (.mp 1 fs))::st) K
   |_=>False
  |none=>False
 |_,_=>False
structure C8J (m:Nat) (V:Nat->St->Prop) (M:Prop) (nx:Nat) (st:St):Prop where
 h: ∃p:Option (Option (O1×List Nat×St×Nat)),match p with
 |none=>V nx st
 |some (some (ρ,fz,st',n))=>Wkf m n ρ fz (St.get st) st' /\V n st'
 |some none=>M
noncomputable def A74:VT:=fun nx st K=>K .normal nx st
noncomputable def vcs (P:Program) (T:I4) (m:Nat) (c:Code):VT->VT:=
 Code.rec (motive:=fun _=>VT->VT)
  (fun R=>R)
  (fun id ops draw R nx st K=>C8J m (fun nx st=>B9s m (C1j ops.toList) (fun K' =>A82 P T id ops draw nx st K') R nx st K) (D3s T ops.toList draw R nx st K) nx st)
  (fun _ _ iha ihb R=>iha (ihb R))
  (fun c a b iha ihb R nx st K=>B9s m (Nat.ble 2 (B5w a+B5w b)) (fun K' =>B8R c (iha A74) (ihb A74) nx st K') R nx st K)
  (fun id a ih R nx st K=>B9s m (Nat.ble 2 (B5w a+B4K id a)) (fun K' =>C8w id (ih A74) nx st K') R nx st K)
  (fun _ ih _ nx st K=>C8H m (ih A74) nx st K)
  (fun _ _ _ _ _ _ _ _ _ _=>False)
  (fun id _ nx st K=>K (.exit id) nx st)
  (fun _ _ _ _ _ _=>False)
  (fun _ _ _ _ _=>False)
  (fun _ _ _ _ _=>False)
  (fun _ nx st K=>K .ret nx st)
  (fun _ _ _ _ _=>False) c
def C6m (F:Fr) (R:VT) (K:KT):Exit->Act->World->Prop:=fun e a w=> ∃nx st A,T1 F A (St.get st) a w/\(∀k,A k->k<nx)/\(match e with
 | .normal=>R nx st K
 |e=>K e nx st)
theorem A42 {F:Fr} {K:KT} {e:Exit} {a:Act} {w:World} (h:C6m F A74 K e a w):sem F K e a w:=by
 obtain ⟨nx,st,A,h1,h2,h3⟩:=h;refine ⟨nx,st,A,h1,h2, ?_⟩;cases e<;>exact h3
theorem C8t {F:Fr} {R:VT} {K:KT} {e:Exit} {a:Act} {w:World} (h:sem F (fun e nx' st' =>match e with
  | .normal=>R nx' st' K
  |e=>K e nx' st') e a w):C6m F R K e a w:=by
 obtain ⟨nx,st,A,h1,h2,h3⟩:=h;refine ⟨nx,st,A,h1,h2, ?_⟩;cases e<;>exact h3
theorem B1n {F:Fr} {c:Code} {jn:Bool} {V:KT->Prop} {R:VT} {nx0:Nat} {st0:St} {K:KT} {a:Act} {w:World}
  (hV:∀K',V K' ->c.wp F.P (sem F K') a w) (h:B9s F.m jn V R nx0 st0 K):c.wp F.P (C6m F R K) a w:=by
 unfold B9s at h;split at h
 ·exact wp_mono (hV _ h) (fun _ _ _ h=>C8t h)
 ·obtain ⟨⟨j,h⟩⟩:=h;split at h
  ·exact wp_mono (hV _ h) (fun _ _ _ h=>C8t h)
  ·rename_i I n;obtain ⟨h1,h2⟩:=h;refine wp_mono (hV _ h1) ?_;rintro e a' w' ⟨nx',st',A',hs',hA',hk⟩;cases e with
   |normal=>
    obtain ⟨ρ,fz,x,hx,hw⟩:=hk;exact ⟨n,I.st x,_,B47 hs' hw,fun _ h=>h,h2 x hx⟩
   |_=>exact ⟨nx',st',A',hs',hA',hk⟩
theorem D1P {F:Fr} {T:I4} (hT:A0v F.P T) (hm:F.P.follows .mixedOrders=true): ∀(c:Code) (R:VT) (nx:Nat) (st:St) (K:KT),A3b F.N c=true->vcs F.P T F.m c R nx st K->
  ∀a w A,T1 F A (St.get st) a w->(∀k,A k->k<nx)->c.wp F.P (C6m F R K) a w:=by
 intro c
 induction c with
 |skip=>intro R nx st K _ h a w A hs hA;exact wp_skip ⟨nx,st,A,hs,hA,h⟩
 |region id ops draw=>
  intro R nx st K hc h a w A hs hA;change C8J F.m (fun nx st=>B9s F.m (C1j ops.toList) (fun K' =>A82 F.P T id ops draw nx st K') R nx st K) (D3s T ops.toList draw R nx st K) nx st at h;obtain ⟨⟨p,h⟩⟩:=h;split at h
  ·exact B1n (fun K' h' =>C6G hT hm (.region id ops draw) nx st K' hc h' a w A hs hA) h
  ·rename_i ρ fz st' n;exact B1n (fun K' h' =>C6G hT hm (.region id ops draw) n st' K' hc h' a w _ (B47 hs h.1) (fun _ h=>h)) h.2
  ·unfold D3s at h;split at h
   ·rename_i t d0 fs d1 d2 hml;split at h
    ·rename_i ti hti;split at h
     ·rename_i hk;have hk2:=(hT _ _ hti).kind;rw [hk] at hk2;exact D0X hml hc hk2 hs (fun a' w' hs' =>⟨nx,_,A,hs',hA,h⟩)
     ·exact h.elim
    ·exact h.elim
   ·exact h.elim
 |seq x y ihx ihy=>
  intro R nx st K hc h a w A hs hA;simp only [A3b,D8i] at hc;apply wp_seq;refine wp_mono (ihx (vcs F.P T F.m y R) nx st K hc.1 h a w A hs hA) ?_;rintro e a' w' ⟨nx',st',A',hs',hA',hk⟩;cases e with
  |normal=>exact ihy R nx' st' K hc.2 hk a' w' A' hs' hA'
  |_=>exact ⟨nx',st',A',hs',hA',hk⟩
 |cond c x y ihx ihy=>
  intro R nx st K hc h a w A hs hA;simp only [A3b,D8i] at hc;refine B1n (fun K' h' => ?_) h
  clear h
  have ev: ∀d b,T3 (AS.tmp (St.get st) d)=some b->a.eval (.tmp d)= .bool b:=fun d b hb=>by
   have:=hs.gval d b hb;simp [Act.eval,this]
  cases c with
  |tmp d=>
   simp only [B8R] at h';split at h'
   ·rename_i hd;exact wp_cond_true (ev d true (by rw [hd];rfl)) (wp_mono (ihx A74 nx st K' hc.1 h' a w A hs hA) fun _ _ _ h=>A42 h)
   ·rename_i hd;exact wp_cond_false (ev d false (by rw [hd];rfl)) (wp_mono (ihy A74 nx st K' hc.2 h' a w A hs hA) fun _ _ _ h=>A42 h)
   ·rename_i b hd;refine wp_cond_split (ev d b (by rw [hd];rfl)) (fun hb=> ?_) (fun hb=> ?_)
    ·subst hb;exact wp_mono (ihx A74 nx _ K' hc.1 (h'.1 rfl) a w A (hs.lit d true hd) hA) fun _ _ _ h=>A42 h
    ·subst hb;exact wp_mono (ihy A74 nx _ K' hc.2 (h'.2 rfl) a w A (hs.lit d false hd) hA) fun _ _ _ h=>A42 h
   ·exact h'.elim
  |_=>exact h'.elim
 |block id x ih=>
  intro R nx st K hc h a w A hs hA;refine B1n (fun K' h' => ?_) h
  clear h
  apply wp_block;refine wp_mono (ih A74 nx st _ hc h' a w A hs hA) ?_;intro e a' w' hk;obtain ⟨nx',st',A',hs',hA',hk⟩:=A42 hk;cases e with
  |exit id' =>
   simp only at hk;show if id' =id then _ else _
   split at hk
   ·rename_i hb;rw [if_pos (D8j hb)];exact ⟨nx',st',A',hs',hA',hk⟩
   ·rename_i hb;rw [if_neg (fun he=>by subst he;rw [A2U] at hb;cases hb)]
    exact ⟨nx',st',A',hs',hA',hk⟩
  |_=>exact ⟨nx',st',A',hs',hA',hk⟩
 |loop x ih=>
  intro R nx st K hc h a w A hs hA;obtain ⟨⟨o,h⟩⟩:=h;cases o with
  |inr n=>
   refine wp_loop_rounds n ?_;have key: ∀(n nx:Nat) (st:St) (a:Act) (w:World) (A:Nat->Prop),D3r (vcs F.P T F.m x A74) n nx st K->T1 F A (St.get st) a w->(∀k,A k->k<nx)->Code.rounds F.P x (C6m F R K) n a w:=by
    intro n
    induction n with
    |zero=>intro nx st a w A h _ _;exact h.elim
    |succ n ihn=>
     intro nx st a w A h hs hA;refine wp_mono (ih A74 nx st _ hc h a w A hs hA) ?_;intro e a' w' hk;obtain ⟨nx',st',A',hs',hA',hk⟩:=A42 hk;cases e with
     |normal=>exact ihn nx' st' a' w' A' hk hs' hA'
     |_=>exact ⟨nx',st',A',hs',hA',hk⟩
   exact key n nx st a w A h hs hA
  |inl I=>
  obtain ⟨⟨ρ,fz,x0,h1,h2⟩,h3⟩:=h;refine wp_loop_ghost (fun n a w=> ∃x,I.φ x/\I.μ x=n/\T1 F (fun k=>k<nx) (St.get (I.st x)) a w) (I.μ x0) ⟨x0,h1,rfl,B47 hs h2⟩ ?_;rintro n a w ⟨x,hx,rfl,hs⟩;refine wp_mono (ih A74 nx _ _ hc (h3 x hx) a w _ hs (fun _ h=>h)) ?_;intro e a' w' hk;obtain ⟨nx',st',A',hs',hA',hk⟩:=A42 hk;cases e with
  |normal=>
   obtain ⟨ρ,fz,x',g1,g2,g3⟩:=hk;exact ⟨I.μ x',g2,x',g1,rfl,B47 hs' g3⟩
  |_=>exact ⟨nx',st',A',hs',hA',hk⟩
 |exit id=>intro R nx st K _ h a w A hs hA;exact wp_exit ⟨nx,st,A,hs,hA,h⟩
 |ret=>intro R nx st K _ h a w A hs hA;exact wp_ret ⟨nx,st,A,hs,hA,h⟩
 |_=>intro R nx st K _ h;exact h.elim
theorem C09 {P:Program} {T:I4} (hT:A0v P T) (hm:P.follows .mixedOrders=true) {f:FuncId} {fn:Func} (hf:P.funcs[f]? =some fn)
  (hcall:∀(vs:Array Value) (w:World),(callFunc f vs).run P w= .ok (.enter f vs) w) (hst:(C2v fn&&A3b fn.ntmps (B3w fn))=true)
  {args:List AV} {bx:List (List AV)} {tk:N3} {r:AV} {bx' :List (List AV)} {tk' :N3} (m:Nat) (hmm:bx.length+1=m) (hargs:Nat.ble args.length fn.ntmps=true) (st0:St) (h0:A29 args bx tk=st0)
  (h:vcs P T m (B3w fn) A74 m st0 (D6i T m fn.results.toList r bx' tk')):C5 P f args bx tk r bx' tk' :=by
 subst hmm h0;simp only [D8i] at hst;refine ⟨fun w β p ok vs hmr hl hv=> .inl ⟨hcall vs w, ?_⟩⟩;have hb:fn.body=some (B3w fn):=by
  have:=hst.1;unfold C2v at this;unfold B3w;split at this
  ·rename_i hc;rw [hc]
  ·cases this
 refine calls_of_wp hf hb (wp_mono (D1P (F:=cFr P fn.ntmps bx tk β p ok w) hT hm (B3w fn) A74 (bx.length+1) (A29 args bx tk) _ hst.2 h _ w _ (D2A (D8H hargs) hmr hl hv) (fun _ h=>h)) ?_);intro e a w' hk;obtain ⟨nx,st,A,hs,_,hk⟩:=A42 hk;cases e with
 |normal=>exact C31 hT hs hk
 |ret=>exact C31 hT hs hk
 |_=>exact hk.elim
end Go.Vc
namespace Go.Dec
open Go.Vc
theorem cT {α:Type} {b:Bool} {x y r:α} (hb:b=true) (h:cond b x y=r):x=r:=by subst hb;exact h
theorem cF {α:Type} {b:Bool} {x y r:α} (hb:b=false) (h:cond b x y=r):y=r:=by subst hb;exact h
theorem bS {α β:Type} {m:Option α} {k:α->Option β} {r:β} (h:m.bind k=some r): ∃a,m=some a/\k a=some r:=by
 cases m with
 |none=>cases h
 |some a=>exact ⟨a,rfl,h⟩
def ck {α:Type} (b:Bool) (k:Option α):Option α:=cond b k none
theorem ckS {α:Type} {b:Bool} {k:Option α} {r:α} (h:ck b k=some r):b=true/\k=some r:=by
 cases b with
 |false=>cases h
 |true=>exact ⟨rfl,h⟩
def gd {α:Type} [Inhabited α] (b:Bool) (m:Option α):Option α:=cond b m (some default)
theorem gdT {α:Type} [Inhabited α] {b:Bool} {m:Option α} {a:α} (hb:b=true) (h:gd b m=some a):m=some a:=by subst hb;exact h
theorem gT {g p:Bool} (hg:g=true) (h:(!g||p)=true):p=true:=by subst hg;exact h
@[simp] theorem A2Y {α:Type} (k:Option α):ck true k=k:=rfl
@[simp] theorem D7q {α:Type} (k:Option α):ck false k=none:=rfl
@[simp] theorem H7 {α:Type} [Inhabited α] (m:Option α):gd true m=m:=rfl
@[simp] theorem L6 {α:Type} [Inhabited α] (m:Option α):gd false m=some default:=rfl
theorem oL {a b:Bool} (h:a=true):(a||b)=true:=by subst h;rfl
theorem oR {a b v:Bool} (h:a=false) (e:b=v):(a||b)=v:=by subst h;exact e
theorem aL {a b:Bool} (h:a=false):(a&&b)=false:=by subst h;rfl
theorem aR {a b v:Bool} (h:a=true) (e:b=v):(a&&b)=v:=by subst h;exact e
theorem nE {a v:Bool} (h:a=v):(!a)= !v:=by rw [h]
theorem nT {a:Bool} (h:(!a)=true):a=false:=by cases a<;>first|rfl|cases h
theorem nF {a:Bool} (h:(!a)=false):a=true:=by cases a<;>first|rfl|cases h
theorem ff {p:Prop} (h:false=true):p:=Bool.noConfusion h
def B9 {α:Type} (l:List α) (i:Int):Option α:=if 0<=i then l[i.toNat]? else none
theorem B3O {α:Type} {l:List α} {i:Int} {x:α} (h:B9 l i=some x):0<=i/\l[i.toNat]? =some x:=by
 unfold B9 at h;split at h
 ·exact ⟨by assumption,h⟩
 ·cases h
theorem J9 {α β:Type} (f:α->β) {l:List α} {i:Int} {x:α} (h:B9 l i=some x):0<=i/\(l.map f)[i.toNat]? =some (f x):=by
 obtain ⟨h1,h2⟩:=B3O h;exact ⟨h1,by rw [D8J,h2];rfl⟩
theorem N7 {α β:Type} (f:α->β) {l:List α} {i:Int} {x:α} (h:B9 l i=some x):0<=i/\i<((l.map f).length:Int):=by
 obtain ⟨h1,h2⟩:=B3O h;have:=(D8k.1 h2).1;exact ⟨h1,by rw [D8X];omega⟩
theorem B3q {α β:Type} (f:α->β) {l:List α} {i:Int} {x:α} (h:B9 l i=some x):i.toNat<(l.map f).length:=by
 obtain ⟨_,h2⟩:=B3O h;rw [D8X];exact (D8k.1 h2).1
theorem P8 {α β:Type} (f:α->β) {l:List α} {i:Int} {x:α} (h:B9 l i=some x):0<=((i.toNat:Nat):Int)/\(l.map f)[((i.toNat:Nat):Int).toNat]? =some (f x):=by
 obtain ⟨h1,h2⟩:=B3O h;exact ⟨by omega,by rw [D8Q,D8J,h2];rfl⟩
@[simp] theorem S0 {α:Type} (l:List α) (i:Nat):B9 l (i:Int)=l[i]? :=by
 simp [B9]
theorem D4m {α:Type} {l:List α} {i:Nat} (h:i<l.length):B9 l (i:Int)=some l[i]:=by simp [h]
theorem lenS {α β:Type} (f:α->β) (l:List α):0<=(0:Int)/\([[AV.int .i64 ((l.map f).length:Int)]]:List (List AV))[(0:Int).toNat]? =some [AV.int .i64 (l.length:Int)]:=by
 rw [D8X];exact ⟨Int.le_refl 0,rfl⟩
theorem D5R {n k:Nat} (h:n=k):0<=(0:Int)/\([[AV.int .i64 (n:Int)]]:List (List AV))[(0:Int).toNat]? =some [AV.int .i64 (k:Int)]:=by
 rw [h];exact ⟨Int.le_refl 0,rfl⟩
abbrev A1 (n:Int):Int:=IntKind.i64.wrap n
abbrev A5 (n:Int):Int:=IntKind.u64.wrap n
abbrev P7 (k:IntKind) (a b:Int):Int:=k.wrap (BitVec.ofInt k.bits a&&&BitVec.ofInt k.bits b).toNat
abbrev N8 (k:IntKind) (a b:Int):Int:=k.wrap (BitVec.ofInt k.bits a|||BitVec.ofInt k.bits b).toNat
abbrev D7v (k:IntKind) (a b:Int):Int:=k.wrap (BitVec.ofInt k.bits a^^^BitVec.ofInt k.bits b).toNat
abbrev E5 (k:IntKind) (a b:Int):Int:=k.wrap (a*2^(min b.toNat k.bits))
abbrev G0 (k:IntKind) (a b:Int):Int:=a.fdiv (2^(min b.toNat k.bits))
abbrev A8V (k:IntKind) (n:Int):Int:=k.wrap (BitVec.ofInt k.bits (if k.signed then-1 else k.max)^^^BitVec.ofInt k.bits n).toNat
abbrev A4M (a b:Int):Int:=if b<a then b else a
abbrev A0t (a b:Int):Int:=if b>a then b else a
def M7 {S R:Type} (f:S->Option (S⊕R)):Nat->S->Option R
 |0,_=>none
 |n+1,s=>match f s with
  |none=>none
  |some (.inl s')=>M7 f n s'
  |some (.inr r)=>some r
theorem C9l {S R:Type} {f:S->Option (S⊕R)} {n:Nat} {s:S} {r:R} (h:M7 f n s=some r):M7 f (n+1) s=some r:=by
 induction n generalizing s with
 |zero=>cases h
 |succ n ih=>
  unfold M7 at h⊢;cases hf:f s with
  |none=>rw [hf] at h;cases h
  |some x=>
   rw [hf] at h;cases x with
   |inl s' =>exact ih h
   |inr r' =>exact h
theorem C5G {S R:Type} {f:S->Option (S⊕R)} {n m:Nat} {s:S} {r:R} (hnm:n<=m) (h:M7 f n s=some r):M7 f m s=some r:=by
 induction hnm with
 |refl=>exact h
 |step _ ih=>exact C9l ih
open Classical in
noncomputable def loop {S R:Type} (f:S->Option (S⊕R)) (s:S):Option R:=if h: ∃n r,M7 f n s=some r then M7 f (Classical.choose h) s else none
theorem B4O {S R:Type} {f:S->Option (S⊕R)} {s:S} {r:R} (h:loop f s=some r): ∃n,M7 f n s=some r:=by
 unfold loop at h;split at h
 ·exact ⟨_,h⟩
 ·cases h
theorem B52 {S R:Type} {f:S->Option (S⊕R)} {s:S} {r:R} {n:Nat} (h:M7 f n s=some r):loop f s=some r:=by
 have hx: ∃n r,M7 f n s=some r:=⟨n,r,h⟩;unfold loop;rw [dif_pos hx];obtain ⟨r',hr'⟩:=Classical.choose_spec hx;have h1:=C5G (Nat.le_max_left n (Classical.choose hx)) h;have h2:=C5G (Nat.le_max_right n (Classical.choose hx)) hr';rw [h1] at h2;rw [hr',h2]
theorem A4P {S R:Type} (f:S->Option (S⊕R)) (s:S):loop f s=match f s with
  |none=>none
  |some (.inl s')=>loop f s'
  |some (.inr r)=>some r:=by
 apply Option.ext;intro r;constructor
 ·intro h;obtain ⟨n,hn⟩:=B4O h;cases n with
  |zero=>cases hn
  |succ n=>
   unfold M7 at hn;cases hf:f s with
   |none=>rw [hf] at hn;cases hn
   |some x=>
    rw [hf] at hn;cases x with
    |inl s' =>exact B52 hn
    |inr r' =>exact hn
 ·intro h;cases hf:f s with
  |none=>rw [hf] at h;cases h
  |some x=>
   rw [hf] at h;cases x with
   |inl s' =>
    obtain ⟨n,hn⟩:=B4O h;exact B52 (n:=n+1) (by unfold M7;rw [hf];exact hn)
   |inr r' =>exact B52 (n:=1) (by unfold M7;rw [hf];exact h)
theorem M1 {S R:Type} {f:S->Option (S⊕R)} {s s' :S} (h:f s=some (.inl s')):loop f s=loop f s' :=by rw [A4P,h]
theorem M5 {S R:Type} {f:S->Option (S⊕R)} {s:S} {r:R} (h:f s=some (.inr r)):loop f s=some r:=by rw [A4P,h]
theorem B2O {S R:Type} {f:S->Option (S⊕R)} {n:Nat} {s:S} {r:R} (h:M7 f n s=some r):
  ∃m x,n=m+1/\f s=some x/\(∀s',x= .inl s' ->M7 f m s' =some r)/\(∀r',x= .inr r' ->r' =r):=by
 cases n with
 |zero=>cases h
 |succ m=>
  unfold M7 at h;cases hf:f s with
  |none=>rw [hf] at h;cases h
  |some x=>
   rw [hf] at h;refine ⟨m,x,rfl,rfl, ?_, ?_⟩
   ·rintro s' rfl;exact h
   ·rintro r' rfl;exact D8T h
theorem W1 {S R:Type} {E:Option R} {x:S⊕R} {r:R} (h:Option.map Sum.inr E=some x) (hr:∀r',x= .inr r' ->r' =r):E=some r:=by
 cases E with
 |none=>cases h
 |some a=>cases h;rw [hr a rfl]
theorem A2I {S R:Type} {X:R} {x:S⊕R} {r:R} (h:some (Sum.inr X)=some x) (hr:∀r',x= .inr r' ->r' =r):X=r:=hr X (D8T h).symm
theorem retT {S R:Type} {X:R} {x:S⊕R} {r:R} (h:Sum.inr X=x) (hr:∀r',x= .inr r' ->r' =r):X=r:=hr X h.symm
theorem W6 {S R:Type} {f:S->Option (S⊕R)} (I:S->Prop) (μ:S->Nat) (Q:R->Prop) (s:S) (h0:I s)
  (step:∀s,I s->(∃s',f s=some (.inl s')/\I s' /\μ s' <μ s)\/(∃r,f s=some (.inr r)/\Q r)): ∃r,loop f s=some r/\Q r:=by
 generalize hn:μ s=n
 induction n using Nat.strongRecOn generalizing s with
 |_ n ih=>
  rcases step s h0 with ⟨s',h1,h2,h3⟩|⟨r,h1,h2⟩
  ·obtain ⟨r,g1,g2⟩:=ih (μ s') (by omega) s' h2 rfl
   exact ⟨r,by rw [M1 h1,g1],g2⟩
  ·exact ⟨r,M5 h1,h2⟩
def eI (k:IntKind) (n:Int):List AV:= [.int k n]
def eL {α:Type} (sz:Nat) (f:α->List AV) (l:List α):List AV:= [.lst sz false (List.map f l)]
def D6 (k:IntKind) (n:Int):Prop:=(Lit.int k n).wf=true
def wfL {α:Type} (wf:α->Prop) (l:List α):Prop:=l.length<=maxLen/\ ∀y∈l,wf y
def A1t {α:Type} (wf:α->Prop) (l:List α):Prop:=l.length<=1048576/\ ∀y∈l,wf y
def laid {α:Type} (l:List α) (i:Nat) (zs:List α):List α:=l.take i++(zs++l.drop (i+zs.length))
theorem C5I {α:Type} (f:α->List AV) (l:List α) (i:Nat) (zs:List α):List.map f (laid l i zs)=P0 (List.map f l) i (List.map f zs):=by
 unfold laid P0;simp [List.map_take,List.map_drop]
end Go.Dec
namespace Go.Dec
open Go.Vc Go.RowKit Go.ChangeShapes Go.WideShapes Go.ChangeAt
inductive F2 (R:AV->Value->Prop):List AV->List Value->Prop
 |nil:F2 R [] []
 |cons {a:AV} {v:Value} {as:List AV} {vs:List Value} (h:R a v) (t:F2 R as vs):F2 R (a::as) (v::vs)
theorem F2.length {R:AV->Value->Prop} {as:List AV} {vs:List Value} (h:F2 R as vs):as.length=vs.length:=by
 induction h with
 |nil=>rfl
 |cons _ _ ih=>simp [ih]
theorem F2.get {R:AV->Value->Prop} {as:List AV} {vs:List Value} (h:F2 R as vs): ∀(j:Nat) (a:AV),as[j]? =some a-> ∃v,vs[j]? =some v/\R a v:=by
 induction h with
 |nil=>intro j a hj;simp at hj
 |cons h _ ih=>
  intro j a hj;cases j with
  |zero=>cases hj;exact ⟨_,rfl,h⟩
  |succ j=>simpa using ih j a (by simpa using hj)
theorem F2.append {R:AV->Value->Prop} {as bs:List AV} {vs us:List Value} (h:F2 R as vs) (k:F2 R bs us):F2 R (as++bs) (vs++us):=by
 induction h with
 |nil=>exact k
 |cons h _ ih=>exact .cons h ih
theorem U2 {R:AV->Value->Prop} {a b:List AV} {cs:List Value} {o n:Nat} (h0:F2 R a ((cs.drop o).take n)) (h1:F2 R b (cs.drop (o+n))):F2 R (a++b) (cs.drop o):=by
 have:=h0.append h1
 rwa [<-D88,List.take_append_drop] at this
theorem C5m {R:AV->Value->Prop} {cs:List Value} {o:Nat} (h:cs.length<=o):F2 R [] (cs.drop o):=by
 rw [List.drop_eq_nil_of_le h];exact .nil
abbrev LR (w:World):AV->Value->Prop:=PR w (fun b=>b<w.heap.size)
section
variable {H:Type} {enc:TypeId×Value->H} {P:Program} {w:World} {base:Nat} {spare:Nat->Bool} {held:Bool}
theorem C5Z {t:TypeId} {k:IntKind} (ht:P.underlying t=some (.int k)) {fuel:Nat} {cs:List Value} {x:DataW H×List MemPlace} (h:DataW.trod enc P w base spare held fuel t cs=some x):
  ∃n,F2 (LR w) [.int k n] cs/\D6 k n:=by
 obtain ⟨n,rfl,_,h2⟩:=DataW.trod_int ht h;exact ⟨n, .cons (.int _ _) .nil,h2⟩
theorem D5J {t:TypeId} {fs:Array Field} {n:Nat} {cs:List Value} {xs:List (DataW H×List MemPlace)} (hlen:xs.length=fs.size)
  (hf:∀(i:Nat) (f:Field),fs[i]? =some f->DataW.trod enc P w base spare held n f.type ((cs.drop f.offset).take (P.cellsOf f.type))=xs[i]?)
  (i:Nat) (f:Field) (hi:fs[i]? =some f) (o k:Nat) (ht:f.type=t) (ho:f.offset=o) (hk:P.cellsOf t=k): ∃y,DataW.trod enc P w base spare held n t ((cs.drop o).take k)=some y:=by
 have h:=hf i f hi;rw [ht,ho,hk] at h;have hlt:i<xs.length:=by
  rw [hlen];exact (D8Y.1 hi).1
 rw [D8o hlt] at h;exact ⟨_,h⟩
theorem C50 {α:Type} [Inhabited α] (en:α->List AV) (wf:α->Prop) (sz:Nat) {t e:TypeId} (ht:P.underlying t=some (.slice e)) (hc:P.cellsOf e=sz) (hpos:0<sz) (hsz:∀y,(en y).length=sz)
  (he:∀(fuel:Nat) (cs:List Value) (x:DataW H×List MemPlace),DataW.trod enc P w base spare held fuel e cs=some x-> ∃y,F2 (LR w) (en y) cs/\wf y)
  {fuel:Nat} {cs:List Value} {x:DataW H×List MemPlace} (h:DataW.trod enc P w base spare held fuel t cs=some x):
  ∃l:List α,F2 (LR w) [.lst sz false (List.map en l)] cs/\wfL wf l:=by
 rcases DataW.trod_slice ht h with ⟨hcs,_⟩|⟨a,len,cap,B6q,rest,n,_,hcs,_,hb,hl,hm,hlen,hel,_,_⟩
 ·cases hcs;refine ⟨[], .cons ?_ .nil,by simp [maxLen],by simp⟩
  exact .lst sz false [] none 0 (fun _ _=> .bool false) (D8S _) (by simp) (fun _=>rfl) (by simp) (fun _=>rfl) (fun i j c x hi=>by simp at hi) (fun i j c x hi=>by simp at hi)
 ·cases hcs;have hp: ∀i,∃p:α×List Value,i<len->w.cells? base (a.add (i*sz)) sz=some p.2/\F2 (LR w) (en p.1) p.2/\wf p.1:=by
   intro i
   by_cases hi:i<len
   ·have hy:=hel i hi;rw [D8o (by omega),hc,Option.bind_eq_some_iff] at hy
    obtain ⟨cs,hcs,hy⟩:=hy;obtain ⟨y,h1,h2⟩:=he _ _ _ hy;exact ⟨(y,cs),fun _=>⟨hcs,h1,h2⟩⟩
   ·exact ⟨(default, []),fun h=>absurd h hi⟩
  obtain ⟨g,hg⟩:=Classical.axiomOfChoice hp;refine ⟨(List.range len).map fun i=>(g i).1, .cons ?_ .nil, ?_,fun p hpm=> ?_⟩
  ·have hlen2:(List.map en ((List.range len).map fun i=>(g i).1)).length=len:=by simp
   have key:PR w (fun b=>b<w.heap.size) (.lst sz false (List.map en ((List.range len).map fun i=>(g i).1))) (.slice (some a) (List.map en ((List.range len).map fun i=>(g i).1)).length cap):=by
    have at_: ∀(i j:Nat) (c:List AV) (y:AV),(List.map en ((List.range len).map fun i=>(g i).1))[i]? =some c->c[j]? =some y->
      i<len/\j<sz/\ ∃u,(g i).2[j]? =some u/\LR w y u:=by
     intro i j c y hi hj;have hil:i<len:=by have:=(D8k.1 hi).1;omega
     simp [hil] at hi;subst hi;obtain ⟨_,h2,_⟩:=hg i hil;refine ⟨hil, ?_,h2.get j y hj⟩;have:=(D8k.1 hj).1;rw [hsz] at this;exact this
    refine .lst sz false _ (some a) cap (fun i j=>((g i).2[j]?).getD (.bool false)) (by omega) hm (by simp) (by simp [hsz]) (by simp) (fun i j c y hi hj ad had=> ?_) (fun i j c y hi hj=> ?_)
    ·cases had;obtain ⟨hil,hjs,u,hu,_⟩:=at_ i j c y hi hj;obtain ⟨hcs,_,_⟩:=hg i hil;have hcell:=World.cells?_some hcs;have hcj:w.cell? ((a.add (i*sz)).add j)=some u:=by
      rw [hcell.2.2 j hjs,hu]
     obtain ⟨hcs0,h0,_⟩:=hg 0 (by omega)
     have hcell0:=World.cells?_some hcs0;have hz:=hcell0.2.2 0 hpos;have ez:(a.add (0*sz)).add 0=a:=by simp [Addr.add]
     rw [ez] at hz;have hl0:0<(g 0).2.length:=by rw [<-h0.length,hsz];exact hpos
     rw [D8o hl0] at hz;obtain ⟨s1,s2⟩:=D0q hz;refine ⟨s1,s2, ?_⟩;have ea:(⟨a.block,a.off+(i*sz+j),none⟩:Addr)=(a.add (i*sz)).add j:=by
      obtain ⟨bl,of,sp⟩:=a;simp only at s1;subst s1;simp only [Addr.add]
      by_cases h3:i*sz=0<;>by_cases h4:j=0<;>simp [h3,h4,Nat.add_assoc]
     rw [ea,hcj];simp [hu]
    ·obtain ⟨hil,hjs,u,hu,hr⟩:=at_ i j c y hi hj;simpa [hu] using hr
   rw [hlen2] at key;exact key
  ·simp;omega
  ·obtain ⟨i,hi,rfl⟩:=List.mem_map.1 hpm;exact (hg i (by simpa using hi)).2.2
end
theorem C3f {w:World} {a:AV} {v:Value} (h:F2 (LR w) [a] [v]):VR1 (C5B w) a v:=by
 cases h with
 |cons h _=>exact A9m (PR.vr0 (m:=C5B w) h)
end Go.Dec
namespace Go.Dec
open Go.Vc Go.RowKit
def C6u:Array Value->Sem Value:=fun args=>do
 let (x,y,b)<-Extern.MathBitsCarry.three "Sub64" args
 pure (Extern.MathBitsCarry.pair ((x+Extern.MathBitsCarry.m64-y-b)%Extern.MathBitsCarry.m64) (if x<y+b then 1 else 0))
theorem C9R {P:Program} (x y b:Int) (hx:0<=x) (hy:0<=y) (hb0:0<=b) (hb:b<=1) (hxy:y+b<=x+18446744073709551616) (w:World):
  (C6u #[.int .u64 x, .int .u64 y, .int .u64 b]).run P w=
   .ok (.tuple #[.int .u64 ((x+18446744073709551616-y-b)%18446744073709551616), .int .u64 (if x<y+b then 1 else 0)]) w:=by
 have key: ∀k:Nat,k<=1->(C6u #[.int .u64 x, .int .u64 y, .int .u64 (k:Int)]).run P w=
   .ok (Extern.MathBitsCarry.pair ((x.toNat+Extern.MathBitsCarry.m64-y.toNat-k)%Extern.MathBitsCarry.m64) (if x.toNat<y.toNat+k then 1 else 0)) w:=by
  intro k hk;have:k=0\/k=1:=by omega
  rcases this with rfl|rfl<;>rfl
 obtain ⟨k,rfl⟩:=Int.eq_ofNat_of_zero_le hb0;rw [key k (by omega)]
 obtain ⟨X,rfl⟩:=Int.eq_ofNat_of_zero_le hx;obtain ⟨Y,rfl⟩:=Int.eq_ofNat_of_zero_le hy;simp only [Extern.MathBitsCarry.pair,Extern.MathBitsCarry.m64,D8Q];have e:((2^64:Nat))=18446744073709551616:=rfl;rw [e]
 congr 4
 ·congr 1
  simp only [Int.ofNat_eq_natCast];omega
 ·by_cases h:X<Y+k
  ·rw [if_pos h,if_pos (by omega)]
   rfl
  ·rw [if_neg h,if_neg (by omega)]
   rfl
theorem B8h {P:Program} {β:Nat->Nat×Nat} {p:Option (Nat×Nat×Nat)} {ok:Nat->Prop} {w:World} {r:AV} {u:Value} (hm:MR (V7 [] none β p ok w)) (hr:VR (V7 [] none β p ok w) r u):
  B7I P [] none β p ok w r [] none u w β p ok:=
 ⟨hm,hr,⟨rfl,rfl,rfl,D8S _,fun _ _ _ _=>rfl,fun k cur e _ _ hc=>⟨cur,hc,rfl,fun _ _=>rfl⟩,fun _ _=>rfl⟩,fun _ _=>rfl,fun _ _=>rfl,D8S _,fun j _ hj' =>absurd hj' (by simp),fun _ h=> .inr h,fun _ h=>h,fun _ h=> .inl h⟩
theorem B73 {P:Program} {f:FuncId} {fn:Func} {e:Array Value->Sem Value} (hf:P.funcs[f]? =some fn) (h1:(fn.name== "runtime.NumGoroutine")=false) (h2:fn.body.isNone=true)
  (h3:Extern.findNext fn=none) (h4:Extern.find fn=some e) (x y c a b:Int)
  (he:∀w,(e #[.int .u64 x, .int .u64 y, .int .u64 c]).run P w= .ok (.tuple #[.int .u64 a, .int .u64 b]) w):
  E9 P f [.int .u64 x, .int .u64 y, .int .u64 c] [] (.tup [.int .u64 a, .int .u64 b]) []:=by
 refine ⟨fun w β p ok vs hmr hl hv=> .inr ?_⟩;have hvs:vs= #[.int .u64 x, .int .u64 y, .int .u64 c]:=by
  obtain ⟨u0,g0,k0⟩:=hv 0 _ rfl;obtain ⟨u1,g1,k1⟩:=hv 1 _ rfl;obtain ⟨u2,g2,k2⟩:=hv 2 _ rfl;have k0' :u0= .int .u64 x:=k0;have k1' :u1= .int .u64 y:=k1;have k2' :u2= .int .u64 c:=k2;subst k0' k1' k2';obtain ⟨l⟩:=vs
  match l,hl with
  | [p,q,r],_=>
   simp at g0 g1 g2;subst g0 g1 g2
   rfl
 subst hvs;refine ⟨.tuple #[.int .u64 a, .int .u64 b],w, ?_, ?_⟩
 ·rw [run_callFunc_extern hf h1 h2 h3 h4,he]
  rfl
 ·refine ⟨_,β,p,ok,rfl,B8h hmr ?_⟩;refine ⟨_,rfl,rfl,fun j v hj=> ?_⟩
  match j,hj with
  |0,hj=>cases hj;exact ⟨_,rfl,rfl⟩
  |1,hj=>cases hj;exact ⟨_,rfl,rfl⟩
theorem C08 {P:Program} {f:FuncId} {k k2:IntKind} {x y:Int} (hc:∀(vs:Array Value) (w:World),(callFunc f vs).run P w= .ok (.enter f vs) w)
  (h:∀w,Calls P f #[.int k x] w fun e w' =>e= .returned (.int k2 y)/\w' =w):E9 P f [.int k x] [] (.int k2 y) []:=by
 refine ⟨fun w β p ok vs hmr hl hv=> .inl ⟨hc vs w, ?_⟩⟩;have hvs:vs= #[.int k x]:=by
  obtain ⟨u0,g0,k0⟩:=hv 0 _ rfl;have k0' :u0= .int k x:=k0;subst k0';obtain ⟨l⟩:=vs
  match l,hl with
  | [p],_=>
   simp at g0;subst g0
   rfl
 subst hvs;refine (h w).mono ?_;rintro e w' ⟨rfl,rfl⟩;refine ⟨_,β,p,ok,rfl,B8h hmr ?_⟩
 rfl
theorem C1a {P:Program} {w:World} {ok:Nat->Prop} {src e dst:TypeId} {f:Bool} {l:List Int} {v:Value} (hs:P.underlying src=some (.slice e)) (he:P.underlying e=some (.int .u8)) (hd:P.underlying dst=some .string)
  (h:PR w ok (.lst 1 f (List.map (fun n=> [AV.int .u8 n]) l)) v):(convert src dst v).run P w= .ok (.string (strOfNums l)) w:=by
 obtain ⟨a,cap,u,rfl,hcap,hnone,hcell,hrec⟩: ∃(a:Option Addr) (cap:Nat) (u:Nat->Nat->Value),v= .slice a l.length cap/\l.length<=cap/\(a=none->cap=0)/\
   (∀(i j:Nat) (c:List AV) (x:AV),(List.map (fun n=> [AV.int .u8 n]) l)[i]? =some c->c[j]? =some x-> ∀ad,a=some ad->ad.spot=none/\ok ad.block/\w.cell? ⟨ad.block,ad.off+(i*1+j),none⟩=some (u i j))/\
   (∀(i j:Nat) (c:List AV) (x:AV),(List.map (fun n=> [AV.int .u8 n]) l)[i]? =some c->c[j]? =some x->PR w ok x (u i j)):=by
  match v,h with
  |_, .lst _ _ _ a cap u hcap hmax hfull hsz hnone hcell hrec=>
   rw [D8X] at hcap;exact ⟨a,cap,u,by rw [D8X],hcap,hnone,hcell,hrec⟩
 cases a with
 |none=>
  have h0:=hnone rfl;have hl:l= []:=D8V (by omega)
  subst hl;exact run_convert_bytes_nil w src e hs he 0 cap dst hd
 |some ad=>
  have hc: ∀i,i<l.length->ad.spot=none/\w.cell? ⟨ad.block,ad.off+i,none⟩=some (.int .u8 (l.getD i 0)):=by
   intro i hi;have h1:(List.map (fun n=> [AV.int .u8 n]) l)[i]? =some [AV.int .u8 l[i]]:=by rw [D8J,D8o hi];rfl
   obtain ⟨g1,g2,g3⟩:=hcell i 0 _ _ h1 rfl ad rfl;rw [show i*1+0=i by omega] at g3
   have g4:=hrec i 0 _ _ h1 rfl
   generalize u i 0=uu at g3 g4
   cases g4;refine ⟨g1, ?_⟩;rw [D86,D8o hi];simpa using g3
  by_cases h0:l= []
  ·subst h0;show (convert src dst (.slice (some ad) 0 cap)).run P w=_;rw [run_convert_bytes_string w src dst e _ 0 cap hs he hd];exact run_bytesToString w ad 0 cap [] rfl
  ·obtain ⟨b,o,sp⟩:=ad;have hpos:0<l.length:=List.length_pos_iff.2 h0;obtain rfl:sp=none:=(hc 0 hpos).1;exact run_convert_bytes_arg w src e hs he b o _ cap l rfl (fun i hi=>(hc i hi).2) dst hd
theorem C9T {P:Program} {f:FuncId} {src e dst:TypeId} (hc:∀(vs:Array Value) (w:World),(callFunc f vs).run P w= .ok (.enter f vs) w)
  (hs:P.underlying src=some (.slice e)) (he:P.underlying e=some (.int .u8)) (hd:P.underlying dst=some .string)
  (hw: ∀(v1 v2:Value) (xs ys:List Int) (w:World),(convert src dst v1).run P w= .ok (.string (strOfNums xs)) w->(convert src dst v2).run P w= .ok (.string (strOfNums ys)) w->
   Calls P f #[v1,v2] w fun e w' =>e= .returned (.bool (Lib.bytesOf xs==Lib.bytesOf ys))/\w' =w) (a b:List Int):
  E9 P f [.lst 1 false (List.map (eI .u8) a), .lst 1 false (List.map (eI .u8) b)] [] (.sb (Lib.bytesOf a==Lib.bytesOf b)) []:=by
 refine ⟨fun w β p ok vs hmr hl hv=> .inl ⟨hc vs w, ?_⟩⟩;obtain ⟨u0,g0,k0⟩:=hv 0 _ rfl;obtain ⟨u1,g1,k1⟩:=hv 1 _ rfl;have hvs:vs= #[u0,u1]:=by
  obtain ⟨l⟩:=vs
  match l,hl with
  | [p,q],_=>
   simp at g0 g1;subst g0 g1
   rfl
 subst hvs;refine (hw u0 u1 a b w (C1a hs he hd k0) (C1a hs he hd k1)).mono ?_;rintro e w' ⟨rfl,rfl⟩;refine ⟨_,β,p,ok,rfl,B8h hmr ?_⟩
 rfl
end Go.Dec
namespace Go.Win
open Go.Vc Go.Dec
def N9 (x y c:Int):Option (Int×Int):=
 ck (decide (0<=x/\0<=y/\0<=c/\c<=1)) (some ((x+y+c)%18446744073709551616,(x+y+c)/18446744073709551616))
def P9 (x y b:Int):Option (Int×Int):=
 ck (decide (0<=x/\0<=y/\0<=b/\b<=1/\y+b<=x+18446744073709551616)) (some ((x+18446744073709551616-y-b)%18446744073709551616,if x<y+b then 1 else 0))
def Y0 (x:Int):Option Int:=ck (decide (0<=x/\x<=18446744073709551615)) (some (Lib.bitLen x.toNat))
def A6f (a b:List Int):Option Bool:=some (Lib.bytesOf a==Lib.bytesOf b)
theorem D0z {P:Program} {f:FuncId} {fn:Func} (hf:P.funcs[f]? =some fn) (h1:(fn.name== "runtime.NumGoroutine")=false) (h2:fn.body.isNone=true)
  (h3:Extern.findNext fn=none) (h4:Extern.find fn=some add64Entry) (x y c:Int) (r:Int×Int) (h:N9 x y c=some r):
  E9 P f [.int .u64 x, .int .u64 y, .int .u64 c] [] (.tup [.int .u64 r.1, .int .u64 r.2]) []:=by
 unfold N9 at h;obtain ⟨k,h⟩:=ckS h;obtain ⟨k1,k2,k3,k4⟩:=of_decide_eq_true k;cases h;exact B73 hf h1 h2 h3 h4 x y c _ _ (fun w=>run_add64 x y c k1 k2 k3 k4 w)
theorem D0A {P:Program} {f:FuncId} {fn:Func} (hf:P.funcs[f]? =some fn) (h1:(fn.name== "runtime.NumGoroutine")=false) (h2:fn.body.isNone=true)
  (h3:Extern.findNext fn=none) (h4:Extern.find fn=some C6u) (x y c:Int) (r:Int×Int) (h:P9 x y c=some r):
  E9 P f [.int .u64 x, .int .u64 y, .int .u64 c] [] (.tup [.int .u64 r.1, .int .u64 r.2]) []:=by
 unfold P9 at h;obtain ⟨k,h⟩:=ckS h;obtain ⟨k1,k2,k3,k4,k5⟩:=of_decide_eq_true k;cases h;exact B73 hf h1 h2 h3 h4 x y c _ _ (fun w=>C9R x y c k1 k2 k3 k4 k5 w)
end Go.Win
namespace Go.Dec
open Go.Vc Go.RowKit
theorem D3f {P:Program} {f:FuncId} (he:∀(vs:Array Value) (w:World),(callFunc f vs).run P w= .ok (.enter f vs) w)
  (h0:∀(p:Option Addr) (cap:Nat) (w:World),Calls P f #[.slice p 0 cap] w fun e w' =>e= .returned (.tuple #[])/\w' =w)
  (h1: ∀(blk off cap:Nat) (zs:List Int) (w:World),Go.Sort.Holds (Value.int .i64) w blk off zs.toArray->blk<w.heap.size->zs.length<4611686018427387904->
   Calls P f #[.slice (some ⟨blk,off,none⟩) zs.length cap] w fun e w' =>e= .returned (.tuple #[])/\ ∃n os,w' =Go.Sort.grow (Go.Sort.putRow (Value.int .i64) (Go.Sort.ahead w n) blk off (zs.mergeSort fun x y=>decide (x<=y)).toArray) os):
  SortsInts P f:=by
 refine ⟨he,h0,fun blk off cap zs w hc hblk hlen=> ?_⟩;have hH:Go.Sort.Holds (Value.int .i64) w blk off zs.toArray:=fun j hj=>by
  have hj' :j<zs.length:=by simpa using hj
  have h:=hc j hj';have e1:zs.toArray[j]! =zs[j]! :=by simp
  rw [e1];exact h
 refine (h1 blk off cap zs w hH hblk hlen).mono ?_;rintro e w' ⟨rfl,n,os,rfl⟩;have hheap: ∀k,k<w.heap.size->(Go.Sort.grow (Go.Sort.putRow (Value.int .i64) (Go.Sort.ahead w n) blk off (A14 zs).toArray) os).heap[k]? =
   if blk=k then (w.heap[k]?).map (Go.Sort.onCells (Go.Sort.putCells (Value.int .i64) off (A14 zs).toArray)) else w.heap[k]? :=by
  intro k hk;show ((w.heap.modify blk (Go.Sort.onCells (Go.Sort.putCells (Value.int .i64) off (A14 zs).toArray)))++os)[k]? =_;rw [Array.getElem?_append_left (by simpa using hk),Array.getElem?_modify]
 have hsz:w.heap.size<=(Go.Sort.grow (Go.Sort.putRow (Value.int .i64) (Go.Sort.ahead w n) blk off (A14 zs).toArray) os).heap.size:=by
  show w.heap.size<=((w.heap.modify blk (Go.Sort.onCells (Go.Sort.putCells (Value.int .i64) off (A14 zs).toArray)))++os).size;rw [Array.size_append,Array.size_modify];omega
 refine ⟨rfl,⟨hsz,fun k hk hne=> ?_⟩,fun a ha=> ?_,rfl,rfl,rfl,fun cur e fr hcur=> ?_⟩
 ·have:=hheap k hk;rw [if_neg (fun h=>hne h.symm)] at this;exact this
 ·have:=hheap a.block ha;unfold World.frozen?;have hs:(A14 zs)=(zs.mergeSort fun x y=>decide (x<=y)):=rfl;rw [hs] at this;rw [this]
  by_cases hb:blk=a.block
  ·rw [if_pos hb];cases w.heap[a.block]? with
   |none=>rfl
   |some o=>cases o<;>rfl
  ·rw [if_neg hb]
 ·have h2:=hheap blk hblk;rw [if_pos rfl,hcur] at h2;refine ⟨Go.Sort.putCells (Value.int .i64) off (A14 zs).toArray cur,h2, ?_,fun j hj=> ?_⟩
  ·simp [Go.Sort.putCells]
  ·have hlt:off+j<cur.size:=by
    have:=(hc j hj).1;unfold World.cell? at this;simp only [hcur] at this;exact (D8Y.1 (by simpa using this)).1
   have hl:(A14 zs).length=zs.length:=List.length_mergeSort _;unfold Go.Sort.putCells;rw [Array.getElem?_mapIdx,Array.getElem?_eq_getElem hlt];simp only [Option.map_some];rw [if_pos (by simp [hl];omega)]
   congr 2
   rw [show off+j-off=j by omega]
   simp
end Go.Dec
set_option linter.unusedVariables false
namespace Go.Dec
open Go.Vc
universe u
theorem An {p q:Prop} (a:p) (b:q):p/\q:=And.intro a b
theorem eX {α:Sort u} {p:α->Prop} (a:α) (h:p a):Exists p:=Exists.intro a h
theorem eN {α:Type u} {p:Option α->Prop} (h:p none):Exists p:=Exists.intro none h
theorem oJ {α:Type} {a b:α} (h:some a=some b):a=b:=D8T h
theorem oD {p:Prop} [d:Decidable p] (h:decide p=true):p:=of_decide_eq_true h
theorem fr {α:Type} {q p:Prop} {a:α} (h:p):(false=true->q)/\(a=a/\p):=And.intro ff (And.intro rfl h)
theorem r1 {t0:Type} {a0:t0} {p:Prop} (h:p):a0=a0/\p:=And.intro rfl (h)
theorem r2 {t0 t1:Type} {a0:t0} {a1:t1} {p:Prop} (h:p):a0=a0/\(a1=a1/\p):=And.intro rfl (And.intro rfl (h))
theorem r3 {t0 t1 t2:Type} {a0:t0} {a1:t1} {a2:t2} {p:Prop} (h:p):a0=a0/\(a1=a1/\(a2=a2/\p)):=And.intro rfl (And.intro rfl (And.intro rfl (h)))
theorem r4 {t0 t1 t2 t3:Type} {a0:t0} {a1:t1} {a2:t2} {a3:t3} {p:Prop} (h:p):a0=a0/\(a1=a1/\(a2=a2/\(a3=a3/\p))):=And.intro rfl (And.intro rfl (And.intro rfl (And.intro rfl (h))))
theorem r5 {t0 t1 t2 t3 t4:Type} {a0:t0} {a1:t1} {a2:t2} {a3:t3} {a4:t4} {p:Prop} (h:p):a0=a0/\(a1=a1/\(a2=a2/\(a3=a3/\(a4=a4/\p)))):=And.intro rfl (And.intro rfl (And.intro rfl (And.intro rfl (And.intro rfl (h)))))
theorem r6 {t0 t1 t2 t3 t4 t5:Type} {a0:t0} {a1:t1} {a2:t2} {a3:t3} {a4:t4} {a5:t5} {p:Prop} (h:p):a0=a0/\(a1=a1/\(a2=a2/\(a3=a3/\(a4=a4/\(a5=a5/\p))))):=And.intro rfl (And.intro rfl (And.intro rfl (And.intro rfl (And.intro rfl (And.intro rfl (h))))))
theorem r7 {t0 t1 t2 t3 t4 t5 t6:Type} {a0:t0} {a1:t1} {a2:t2} {a3:t3} {a4:t4} {a5:t5} {a6:t6} {p:Prop} (h:p):a0=a0/\(a1=a1/\(a2=a2/\(a3=a3/\(a4=a4/\(a5=a5/\(a6=a6/\p)))))):=And.intro rfl (And.intro rfl (And.intro rfl (And.intro rfl (And.intro rfl (And.intro rfl (And.intro rfl (h)))))))
theorem r8 {t0 t1 t2 t3 t4 t5 t6 t7:Type} {a0:t0} {a1:t1} {a2:t2} {a3:t3} {a4:t4} {a5:t5} {a6:t6} {a7:t7} {p:Prop} (h:p):a0=a0/\(a1=a1/\(a2=a2/\(a3=a3/\(a4=a4/\(a5=a5/\(a6=a6/\(a7=a7/\p))))))):=And.intro rfl (And.intro rfl (And.intro rfl (And.intro rfl (And.intro rfl (And.intro rfl (And.intro rfl (And.intro rfl (h))))))))
theorem r12 {t0 t1 t2 t3 t4 t5 t6 t7 t8 t9 t10 t11:Type} {a0:t0} {a1:t1} {a2:t2} {a3:t3} {a4:t4} {a5:t5} {a6:t6} {a7:t7} {a8:t8} {a9:t9} {a10:t10} {a11:t11} {p:Prop} (h:p):a0=a0/\(a1=a1/\(a2=a2/\(a3=a3/\(a4=a4/\(a5=a5/\(a6=a6/\(a7=a7/\(a8=a8/\(a9=a9/\(a10=a10/\(a11=a11/\p))))))))))):=And.intro rfl (And.intro rfl (And.intro rfl (And.intro rfl (And.intro rfl (And.intro rfl (And.intro rfl (And.intro rfl (And.intro rfl (And.intro rfl (And.intro rfl (And.intro rfl (h))))))))))))
theorem kA {p q:Prop} (k:p) (h:p->q:=by intro hh;(try simp only [A0w,P6,D8X,D8g,D8C,D8I,D9a,D9b,D8t,D8G] at hh);(try simp only [A0w,P6,D8X,D8g,D8C,D8I,D9a,D9b,D8t,D8G]);(try simp only [A1,A5] at hh);(try simp only [A1,A5]);omega):q:=h k
theorem kV {p q:Prop} (k:p) (h:p->q:=by intro hh;(try simp only [A0w,laid,P0,List.nil_append,P6,D8X,D8g,D8C,D8I,D9a,D9b,D8t,D8G] at hh);(try simp only [A0w,laid,P0,List.nil_append,P6,D8X,D8g,D8C,D8I,D9a,D9b,D8t,D8G]);(try simp only [A1,A5] at hh);(try simp only [A1,A5]);omega):q:=h k
theorem kF {p q:Prop} (k:p) (h:p->q:=by intro hh;(try simp only [A1,A5] at hh);(try simp only [A1,A5]);refine ⟨fun e=> ?_, ?_⟩;(have h0:=congrArg List.length e;have h1:=List.length_pos_iff.2 hh.1;(try simp only [A0w,P6,D8X,D8g,D8C,D8I,D9a,D9b,D8t,D8G] at h0);(try simp only [A0w,P6,D8X,D8g,D8C,D8I,D9a,D9b,D8t,D8G] at h1);omega);replace hh:=hh.2;(try simp only [A0w,P6,D8X,D8g,D8C,D8I,D9a,D9b,D8t,D8G] at hh);(try simp only [A0w,P6,D8X,D8g,D8C,D8I,D9a,D9b,D8t,D8G]);omega):q:=h k
theorem kM {p q:Prop} (k:p) (h:p->q:=by intro hh;simp only [A0w,D89,D83,List.map_nil,List.map_take,List.map_drop,List.map_set,List.map_replicate] at hh;exact hh):q:=h k
theorem kL {p q:Prop} (k:p) (h:p->q:=by intro hh;(try simp only [A0w,P6,D8X,D8g,D8C,D8I,D9a,D9b,D8t,D8G] at hh);(try simp only [A0w,P6,D8X,D8g,D8C,D8I,D9a,D9b,D8t,D8G]);exact hh):q:=h k
theorem B6B {n k:Nat} (h:n=k:=by simp only [A0w,P6,D8X,D8g,D8C,D8I,D9a,D9b,D8t,D8G]):0<=(0:Int)/\([[AV.int .i64 (n:Int)]]:List (List AV))[(0:Int).toNat]? =some [AV.int .i64 (k:Int)]:=D5R h
def D0E (T:I4) (e:Nat) (row:List AV):List AV:=match I4.find T e with
 |some ei=>match ei.pz with
  | []=>row
  |p::ps=>A5u (p::ps) row
 |none=>row
theorem C7a (T:I4) (e n:Nat) (row:List AV):A5L T e (List.replicate n row)=List.replicate n (D0E T e row):=by
 unfold A5L D0E;cases I4.find T e with
 |none=>rfl
 |some ei=>
  dsimp only;cases ei.pz with
  |nil=>rfl
  |cons p ps=>exact List.map_replicate
end Go.Dec
