/- The framework, part c: conditions of code, contracts, loops on plain data, arguments. -/
import Derived.Deep.LoopGhost
import Derived.Laws.AppendOwn
import Derived.Laws.BytesArg
import Derived.Laws.Externs
import Derived.Lib.BitFns
import Derived.Lib.Bytes
import Derived.Lib.Slices
import Derived.Lib.Small
import Derived.Lib.Strings
import Derived.Lib.Walk
import Derived.LoopN
import Derived.OpenShut
import Derived.ProofKit
import Derived.Sort.Grow
import Derived.Sort.Row
import Derived.Test.YtkakobhohikfkaaGreatVb
set_option linter.unusedVariables false
set_option linter.unusedSimpArgs false
namespace Go.Vc
def C04:AV->List Nat
 | .own t=> [t]
 | .ptr i _=> [i]
 | .elt t _ _=> [t]
 | .ali t=> [t]
 | .vw t _ _=> [t]
 | .pix i _=> [i]
 | .bsl i _=> [i]
 |_=> []
def T7:AV->List Nat
 | .own t=> [t]
 | .ptr i _=> [i]
 | .elt t _ _=> [t]
 | .ali t=> [t]
 | .vw t _ _=> [t]
 | .pix i _=> [i]
 | .bsl i _=> [i]
 | .clo _ bs cs=>bs.flatMap C04++cs.flatMap C04
 |_=> []
theorem C9B {v:AV} (h:A31 v=true):T7 v=C04 v:=by
 cases v<;>first|rfl|(simp [A31] at h)
def B0P (k:Nat) (l:List Nat):Bool:=l.any (Nat.beq k)
theorem B5B {k:Nat} {l:List Nat} (h:B0P k l=true):k∈l:=by
 obtain ⟨x,h1,h2⟩:=List.any_eq_true.1 h;rw [D7p h2];exact h1
def B9:AV->List Nat
 | .agg cs=>cs.flatMap T7
 |v=>T7 v
def K9 (R:List Nat) (s s':AS):Prop:= ∀i∈R,s (.box i)=s' (.box i)/\s (.tok i)=s' (.tok i)
theorem K9.mono {R R' :List Nat} {s s' :AS} (h:K9 R s s') (hs:∀i∈R',i∈R):K9 R' s s' :=fun i hi=>h i (hs i hi)
section
variable {s s' :AS}
theorem B6h (c:AV) (h:K9 (T7 c) s s'):A3J s c=A3J s' c:=by
 cases c<;>try rfl
 case own t=>simp only [A3J,(h t (by simp [T7])).2]
theorem A7J: ∀(cs:List AV),K9 (cs.flatMap T7) s s' ->P7 s cs=P7 s' cs
 | [],_=>rfl
 |c::cs,h=>by
  simp only [P7,B6h c (h.mono fun i hi=>by simp [hi]),A7J cs (h.mono fun i hi=>by simp only [List.flatMap_cons,D72];exact .inr hi)]
theorem C2c (ws:L9) (t:Option Nat) (c:AV) (h:K9 (T7 c) s s'):hv0 s ws t c=hv0 s' ws t c:=by
 cases c<;>try rfl
 case own k=>simp only [hv0,B6h (.own k) h]
theorem B67 (ws:L9) (t:Option Nat): ∀(cs:List AV),K9 (cs.flatMap T7) s s' ->hvL s ws t cs=hvL s' ws t cs
 | [],_=>rfl
 |c::cs,h=>by
  simp only [hvL,C2c ws t c (h.mono fun i hi=>by simp [hi]),B67 ws t cs (h.mono fun i hi=>by simp only [List.flatMap_cons,D72];exact .inr hi)]
theorem C9V (ws:L9) (t:Option Nat) (c:AV) (h:K9 (B9 c) s s'):hv1 s ws t c=hv1 s' ws t c:=by
 cases c
 case agg cs=>simp only [hv1,B67 ws t cs h]
 all_goals simp only [hv1];exact C2c ws t _ h
theorem C2d (ws:L9) (t:Option Nat): ∀(cs:List AV),K9 (cs.flatMap B9) s s' ->hvA s ws t cs=hvA s' ws t cs
 | [],_=>rfl
 |c::cs,h=>by
  simp only [hvA,C9V ws t c (h.mono fun i hi=>by simp [hi]),C2d ws t cs (h.mono fun i hi=>by simp only [List.flatMap_cons,D72];exact .inr hi)]
theorem C5M (c:AV) (h:K9 (B9 c) s s'):B3C s c=B3C s' c:=by
 cases c<;>try rfl
 case own t=>simp only [B3C,(h t (by simp [B9,T7])).2]
theorem B6b (sz:Nat) (c:AV) (h:K9 (B9 c) s s'):A3A s sz c=A3A s' sz c:=by
 cases c<;>try rfl
 case own t=>simp only [A3A,(h t (by simp [B9,T7])).2]
 case vw t i n=>simp only [A3A,(h t (by simp [B9,T7])).2]
theorem C1Z (c:AV):c.cells.flatMap T7=B9 c:=by
 cases c<;>simp [AV.cells,B9]
def A0N (s:AS) (l:List Nat):List Nat:=l.flatMap fun i=>match s (.box i) with
 | .box cs=>cs.flatMap T7
 |_=> []
def A0g (s:AS):Nat->List Nat->List Nat
 |0,l=>l
 |n+1,l=>l++A0g s n (A0N s l)
def A0C (s:AS) (v:AV):List Nat:=A0g s 2 (A0N s (B9 v))
theorem A9T: ∀ {l:List Nat},K9 l s s' ->A0N s l=A0N s' l
 | [],_=>rfl
 |i::l,h=>by
  unfold A0N;rw [List.flatMap_cons,List.flatMap_cons,(h i (by simp)).1]
  have:=A9T (l:=l) (h.mono fun i hi=>by simp [hi])
  unfold A0N at this;rw [this]
theorem C55 (l:List Nat): ∀(n:Nat),∀i∈l,i∈A0g s n l
 |0,_,hi=>hi
 |_+1,i,hi=>by simp [A0g,hi]
theorem B20: ∀(n:Nat) {l:List Nat},K9 (A0g s n l) s s' ->A0g s n l=A0g s' n l
 |0,_,_=>rfl
 |n+1,l,h=>by
  have h1:A0N s l=A0N s' l:=A9T (h.mono (C55 l (n+1)));simp only [A0g];rw [<-h1,B20 n (h.mono fun i hi=>by simp [A0g,hi])]
theorem B6L {v:AV} (h:K9 (B9 v) s s') (h':K9 (A0C s v) s s'):A0C s v=A0C s' v:=by
 unfold A0C at*
 rw [B20 2 h',A9T h]
theorem C10 {s:AS} {a b:List Nat} (h:∀i∈a,i∈b): ∀i∈A0N s a,i∈A0N s b:=fun i hi=>by
 obtain ⟨k,hk,hi⟩:=D7U.1 hi;exact D7U.2 ⟨k,h k hk,hi⟩
theorem C0l {s:AS}: ∀(n:Nat) {a b:List Nat},(∀i∈a,i∈b)-> ∀i∈A0g s n a,i∈A0g s n b
 |0,_,_,h,i,hi=>h i hi
 |n+1,a,b,h,i,hi=>by
  simp only [A0g,D72] at hi⊢;rcases hi with hi|hi
  ·exact .inl (h i hi)
  ·exact .inr (C0l n (C10 h) i hi)
theorem B9C {s:AS} {v w:AV} (h:∀i∈B9 v,i∈B9 w): ∀i∈A0C s v,i∈A0C s w:=C0l 2 (C10 h)
def A2n (s:AS) (args:List AV):List Nat:=args.flatMap fun v=>B9 v++A0C s v
def B71 (s:AS) (args:List AV):List Nat:=args.flatMap fun v=>B9 v++A0g s 1 (A0N s (B9 v))
theorem C9F (s:AS) (a b:List Nat):A0N s (a++b)=A0N s a++A0N s b:=List.flatMap_append
theorem B9f {s:AS} {v:AV}:(∀i∈B9 v++A0g s 1 (A0N s (B9 v)),i∈B9 v++A0C s v)/\ ∀i∈A0N s (B9 v++A0g s 1 (A0N s (B9 v))),i∈B9 v++A0C s v:=by
 constructor
 ·intro i hi;simp only [A0C,A0g,D72] at*
  rcases hi with h|h|h
  ·exact .inl h
  ·exact .inr (.inl h)
  ·exact .inr (.inr (.inl h))
 ·intro i hi;simp only [C9F,A0C,A0g,D72] at*
  rcases hi with h|h|h
  ·exact .inr (.inl h)
  ·exact .inr (.inr (.inl h))
  ·exact .inr (.inr (.inr h))
theorem B7g {s:AS} {args:List AV} {i:Nat} (h:i∈B71 s args):i∈A2n s args/\ ∀cs,s (.box i)= .box cs-> ∀k∈cs.flatMap T7,k∈A2n s args:=by
 obtain ⟨v,hv,hi⟩:=D7U.1 h;refine ⟨D7U.2 ⟨v,hv,B9f.1 i hi⟩,fun cs hcs k hk=>D7U.2 ⟨v,hv,B9f.2 k ?_⟩⟩;exact D7U.2 ⟨i,hi,by rw [hcs];exact hk⟩
theorem C5R {args:List AV} (h:K9 (A2n s args) s s'):B71 s args=B71 s' args:=by
 unfold B71;have key: ∀v∈args,B9 v++A0g s 1 (A0N s (B9 v))=B9 v++A0g s' 1 (A0N s' (B9 v)):=fun v hv=>by
  have hf: ∀i∈B9 v++A0C s v,i∈A2n s args:=fun i hi=>D7U.2 ⟨v,hv,hi⟩;have h1:A0N s (B9 v)=A0N s' (B9 v):=A9T (h.mono fun i hi=>hf i (by simp [hi]))
  rw [<-h1,B20 1 (h.mono fun i hi=>hf i (B9f.1 i (by simp [hi])))]
 clear h
 induction args with
 |nil=>rfl
 |cons v args ih=>simp only [List.flatMap_cons,key v (by simp),ih (fun v hv=>key v (by simp [hv]))]
theorem C8k {args:List AV} (h:K9 (A2n s args) s s'):A2n s args=A2n s' args:=by
 unfold A2n at*
 have key: ∀v∈args,B9 v++A0C s v=B9 v++A0C s' v:=fun v hv=>by
  have hf: ∀i∈B9 v++A0C s v,i∈args.flatMap (fun v=>B9 v++A0C s v):=fun i hi=>D7U.2 ⟨v,hv,hi⟩;rw [B6L (h.mono fun i hi=>hf i (by simp [hi])) (h.mono fun i hi=>hf i (by simp [hi]))]
 clear h
 induction args with
 |nil=>rfl
 |cons v args ih=>simp only [List.flatMap_cons,key v (by simp),ih (fun v hv=>key v (by simp [hv]))]
def A11 (s:AS) (args:List AV) (ws:L9) (t:Option Nat):Bool:=ws.all (fun p=>B0P p.1 (B71 s args))&&(match t with
 |none=>true
 |some k=>B0P k (A2n s args))
theorem B63 {args:List AV} {ws:L9} {t:Option Nat} (h:K9 (A2n s args) s s'):A11 s args ws t=A11 s' args ws t:=by
 unfold A11;rw [C5R h,C8k h]
theorem C2e {ws0:L9} {t:Option Nat} {args:List AV} (h:K9 (A2n s args) s s'): ∀ {ws:L9},(∀p∈ws,p.1∈B71 s args)->hvB s ws0 t ws=hvB s' ws0 t ws
 | [],_=>rfl
 |(i,off,len)::r,hin=>by
  have hi:=B7g (hin (i,off,len) (by simp))
  have hb:=(h i hi.1).1;simp only [hvB,<-hb,C2e h (ws:=r) (fun p hp=>hin p (by simp [hp]))]
  cases hcs:s (.box i)<;>try rfl
  rename_i cs;have:hvL s ws0 t ((cs.drop off).take len)=hvL s' ws0 t ((cs.drop off).take len):=B67 ws0 t _ (h.mono fun k hk=>by
   obtain ⟨c,hc,hk⟩:=D7U.1 hk;exact hi.2 cs hcs k (D7U.2 ⟨c,List.mem_of_mem_drop (List.mem_of_mem_take hc),hk⟩))
  simp only [this]
theorem B0O {ws:L9} {t:Option Nat} {args:List AV} (h:K9 (A2n s args) s s') (hin:A11 s args ws t=true):O5 s ws t args=O5 s' ws t args:=by
 simp only [A11,D7o] at hin;have h1:hvA s ws t args=hvA s' ws t args:=C2d ws t args (h.mono fun i hi=>by
  obtain ⟨v,hv,hi⟩:=D7U.1 hi;exact D7U.2 ⟨v,hv,by simp [hi]⟩)
 have h2:hvB s ws t ws=hvB s' ws t ws:=C2e h (fun p hp=>B5B (D7S.1 hin.1 p hp));have h3:A7t s t=A7t s' t:=by
  cases t with
  |none=>rfl
  |some k=>simp only [A7t,(h k (B5B hin.2)).2]
 simp only [O5,h1,h2,h3]
theorem B5t {s s' :AS} (B:AV->AV): ∀ {ws:L9} {bx:List (List AV)} {l:List Nat},(∀i∈l,s (.box i)=s' (.box i))->(∀p∈ws,p.1∈l)->
  W3 s B ws bx=W3 s' B ws bx/\ ∀i∈l,(s.apply (W3 s B ws bx)) (.box i)=(s'.apply (W3 s' B ws bx)) (.box i)
 | [],bx,l,h,_=>⟨rfl,fun i hi=>h i hi⟩
 |_::_, [],l,h,_=>⟨rfl,fun i hi=>h i hi⟩
 |(i,off,len)::r,b::bs,l,h,hin=>by
  obtain ⟨g1,g2⟩:=B5t B (ws:=r) (bx:=bs) h (fun p hp=>hin p (by simp [hp]))
  have hi:=g2 i (hin (i,off,len) (by simp))
  simp only [W3];rw [<-hi];split
  ·rename_i cs hcs;refine ⟨by rw [g1],fun k hk=> ?_⟩
   show (AS.put _ _ _) _=(AS.put _ _ _) _
   by_cases hki:k=i
   ·subst hki;rw [A0Y,A0Y]
   ·rw [X8 _ _ _ _ hki,X8 _ _ _ _ hki];exact g2 k hk
  ·exact ⟨g1,g2⟩
theorem B60 {ws:L9} {t:Option Nat} {args:List AV} (h:K9 (A2n s args) s s') (hin:A11 s args ws t=true) (id:Nat) (d:Option Tmp) (ks:List Nat) (r:AV) (bx':List (List AV)) (tk':N2):
  A8h s id d ws t ks r bx' tk' =A8h s' id d ws t ks r bx' tk' :=by
 simp only [A11,D7o] at hin;unfold A8h;rw [(B5t (s:=s) (s' :=s') (bk0 ws id) (ws:=ws) (bx:=bx') (l:=A2n s args) (fun i hi=>(h i hi).1) (fun p hp=>(B7g (B5B (D7S.1 hin.1 p hp))).1)).1]
theorem C9W (v:AV): ∀i∈B9 (deE v),i∈B9 v:=fun i hi=>by
 unfold deE at hi;split at hi
 ·simp [B9,T7] at hi
 ·exact hi
theorem D3C {s:AS} {args:List AV}: ∀i∈A2n s (args.map deE),i∈A2n s args:=fun i hi=>by
 obtain ⟨v,hv,hi⟩:=D7U.1 hi;obtain ⟨v0,h1,rfl⟩:=List.mem_map.1 hv;refine D7U.2 ⟨v0,h1, ?_⟩;rcases D72.1 hi with hi|hi
 ·exact D72.2 (.inl (C9W v0 i hi))
 ·exact D72.2 (.inr (B9C (C9W v0) i hi))
theorem D1U {s:AS} {args:List AV} {k i j:Nat} (h:B61 args=some (k,i,j)):k∈A2n s args:=by
 obtain ⟨⟨q,hq⟩,_⟩:=B62 h;exact D7U.2 ⟨_,D7v hq,by simp [B9,T7]⟩
theorem C3Q {ws:L9} {t:Option Nat} {args:List AV} (h:K9 (A2n s args) s s') (hin:A11 s args ws t=true) (id:Nat) (d:Option Tmp) (ks:List Nat) (r:AV) (bx':List (List AV)) (tk':N2) (k e sz:Nat) (xs:List (List AV)):
  B2z s id d ws t ks r bx' tk' k e sz xs=B2z s' id d ws t ks r bx' tk' k e sz xs:=by
 simp only [A11,D7o] at hin;unfold B2z;rw [(B5t (s:=s) (s' :=s') (bk0 ws id) (ws:=ws) (bx:=bx') (l:=A2n s args) (fun i hi=>(h i hi).1) (fun p hp=>(B7g (B5B (D7S.1 hin.1 p hp))).1)).1]
theorem A7I (t:TI): ∀(ps:List (Nat×Operand)) (cs:List AV),(∀p∈ps,s.val p.2=s'.val p.2)->A0a t cs s ps=A0a t cs s' ps
 | [],_,_=>rfl
 |(i,x)::r,cs,h=>by
  have hx:=h (i,x) (by simp)
  have ih:=fun cs=>A7I t r cs (fun p hp=>h p (by simp [hp]))
  simp only [A0a,hx,ih]
theorem B6d (sz:Nat): ∀(ps:List (Nat×Operand)) (xs:List (List AV)) (ks:List Nat),(∀p∈ps,s.val p.2=s'.val p.2)->K9 (ps.flatMap fun p=>B9 (s.val p.2)) s s' ->A2x sz xs ks s ps=A2x sz xs ks s' ps
 | [],_,_,_,_=>rfl
 |(i,x)::r,xs,ks,h,ha=>by
  have hx:=h (i,x) (by simp)
  have hp:P7 s (s.val x).cells=P7 s' (s.val x).cells:=A7J _ (by rw [C1Z];exact ha.mono fun i hi=>by simp [hi])
  have ih:=fun xs ks=>B6d sz r xs ks (fun p hp=>h p (by simp [hp])) (ha.mono fun i hi=>by simp only [List.flatMap_cons,D72];exact .inr hi)
  simp only [A2x,<-hx,hp,ih]
theorem B9x (T:I6) (id:Nat) (d:Option Tmp) (t:TypeId) (x y:AV) (hx:K9 (B9 x) s s') (hy:K9 (B9 y) s s'):A2H s T id d t x y=A2H s' T id d t x y:=by
 have h1:=fun sz=>B6b (s:=s) (s' :=s') sz y hy;cases x
 case own k=>simp only [A2H,h1,(hx k (by simp [B9,T7])).2]
 case vw k i n=>simp only [A2H,h1,(hx k (by simp [B9,T7])).2]
 case lst sz f xs=>cases f<;>simp only [A2H,h1]
 all_goals simp only [A2H,h1]
theorem C1B (id:Nat) (d:Option Tmp) (esz:Nat) (x:AV) (lo hi mx:Option AV) (hx:K9 (B9 x) s s'):A7M s id d esz x lo hi mx=A7M s' id d esz x lo hi mx:=by
 cases x<;>try rfl
 case own k=>simp only [A7M,(hx k (by simp [B9,T7])).2]
 case ali k=>simp only [A7M,(hx k (by simp [B9,T7])).2]
theorem B84 (T:I6) (id:Nat) (d:Option Tmp) (b:Builtin) (ts:Array TypeId) (args:List AV) (h:K9 (args.flatMap B9) s s'):A5P s T id d b ts args=A5P s' T id d b ts args:=by
 unfold A5P;cases b<;>try rfl
 case len=>
  rcases args with _|⟨x,_|⟨y,r⟩⟩
  ·rfl
  ·have:=C5M (s:=s) (s' :=s') x (h.mono fun i hi=>by simp [hi])
   generalize ts.toList=l
   rcases l with _|⟨t,_|⟨t',l⟩⟩
   ·cases x<;>rfl
   ·cases x
    case bsl b n=>simp only [(h b (by simp [B9,T7])).1]
    all_goals simp only [this]
   ·cases x<;>rfl
  ·cases x<;>rfl
 case append=>
  rcases args with _|⟨x,_|⟨y,_|⟨z,r⟩⟩⟩
  ·rfl
  ·rfl
  ·have:=fun t=>B9x (s:=s) (s' :=s') T id d t x y (h.mono fun i hi=>by simp [hi]) (h.mono fun i hi=>by simp [hi])
   generalize ts.toList=l
   rcases l with _|⟨t,_|⟨t',_|⟨t2,l⟩⟩⟩<;>try rfl
   simp only [this]
  ·rfl
 case copy=>
  rcases args with _|⟨x,_|⟨y,_|⟨z,r⟩⟩⟩
  ·rfl
  ·cases x<;>rfl
  ·cases x<;>try rfl
   case vw k i n=>
    have hk:=(h k (by simp [B9,T7])).2
    generalize ts.toList=l
    rcases l with _|⟨t,_|⟨t',_|⟨t2,l⟩⟩⟩<;>cases y<;>try rfl
    simp only [hk]
   case own k=>
    have hk:=(h k (by simp [B9,T7])).2
    have hy:=fun sz=>B6b (s:=s) (s' :=s') sz y (h.mono fun i hi=>by simp [hi])
    generalize ts.toList=l
    rcases l with _|⟨t,_|⟨t',_|⟨t2,l⟩⟩⟩<;>try rfl
    simp only [hk,hy]
  ·cases x<;>try rfl
   case vw k i n=>cases y<;>rfl
 case clear=>
  rcases args with _|⟨x,_|⟨y,r⟩⟩
  ·rfl
  ·cases x<;>try rfl
   case vw k i n=>
    have hk:=(h k (by simp [B9,T7])).2
    generalize ts.toList=l
    rcases l with _|⟨t,_|⟨t',l⟩⟩<;>try rfl
    simp only [hk]
  ·cases x<;>rfl
end
def A7T (o:Oper) (s:AS) (v:AV):List Nat:=match o.op with
 | .call _=>A0C s v
 |_=> []
def A2p (s:AS) (o:Oper):List Nat:=o.op.operands.toList.flatMap fun x=>B9 (s.val x)++A7T o s (s.val x)
theorem B9l {s:AS} {o:Oper} {x:Operand} (hx:x∈o.op.operands.toList): ∀i∈B9 (s.val x),i∈A2p s o:=fun i hi=>by
 simp only [A2p,D7U];exact ⟨x,hx,by simp [hi]⟩
theorem B8U {s:AS} {o:Oper} {x:Operand} {c:Call} (ho:o.op= .call c) (hx:x∈o.op.operands.toList): ∀i∈A0C s (s.val x),i∈A2p s o:=fun i hi=>by
 simp only [A2p,D7U];exact ⟨x,hx,by simp [A7T,ho,hi]⟩
theorem C4w {s s' :AS} (T:I6) (id:Nat) (o:Oper) (hv:∀x∈o.op.operands.toList,s.val x=s'.val x) (ha:K9 (A2p s o) s s'):B0r T id s o=B0r T id s' o:=by
 have hi: ∀x∈o.op.operands.toList,K9 (B9 (s.val x)) s s' :=fun x hx=>ha.mono (B9l hx);unfold B0r;cases ho:o.op<;>simp only [ho,Op.operands] at hv hi<;>try rfl
 case move x=>simp only [hv x (by simp)]
 case assign x=>simp only [hv x (by simp)]
 case pick c a b=>simp only [hv c (by simp),hv a (by simp),hv b (by simp)]
 case box t x=>simp only [hv x (by simp)]
 case build t ps=>
  have h: ∀p∈ps.toList,s.val p.2=s'.val p.2:=fun p hp=>hv p.2 (by simp;exact ⟨p.1,by simpa using hp⟩)
  simp only [fun t cs=>A7I (s:=s) (s' :=s') t ps.toList cs h]
 case buildSlice t n ps=>
  have h: ∀p∈ps.toList,s.val p.2=s'.val p.2:=fun p hp=>hv p.2 (by simp;exact ⟨p.1,by simpa using hp⟩)
  have h2:K9 (ps.toList.flatMap fun p=>B9 (s.val p.2)) s s' :=by
   intro i hi';obtain ⟨p,hp,hi2⟩:=D7U.1 hi';exact hi p.2 (by simp;exact ⟨p.1,by simpa using hp⟩) i hi2
  simp only [fun sz xs ks=>B6d (s:=s) (s' :=s') sz ps.toList xs ks h h2,fun t cs=>A7I (s:=s) (s' :=s') t ps.toList cs h]
 case load t x=>
  have h1:=hv x (by simp)
  have h2:=hi x (by simp)
  simp only [<-h1];cases hx:s.val x<;>try rfl
  case ptr b off=>rw [hx] at h2;simp only [(h2 b (by simp [B9,T7])).1]
  case elt q i j=>rw [hx] at h2;simp only [(h2 q (by simp [B9,T7])).2]
  case pix b i=>rw [hx] at h2;simp only [(h2 b (by simp [B9,T7])).1]
 case store t x y=>
  have h1:=hv x (by simp)
  have h2:=hi x (by simp)
  have h3:=hv y (by simp)
  have h4:=hi y (by simp)
  have h5:P7 s (s.val y).cells=P7 s' (s.val y).cells:=A7J _ (by rw [C1Z];exact h4)
  simp only [<-h1,<-h3];cases hx:s.val x<;>try rfl
  case ptr b off=>rw [hx] at h2;simp only [(h2 b (by simp [B9,T7])).1]
  case elt q i j=>rw [hx] at h2;simp only [(h2 q (by simp [B9,T7])).2,h5]
  case pix b i=>rw [hx] at h2;simp only [(h2 b (by simp [B9,T7])).1]
 case nilCheck x=>
  have h1:=hv x (by simp)
  have h2:=hi x (by simp)
  simp only [<-h1];cases hx:s.val x<;>try rfl
  case ptr b off=>rw [hx] at h2;simp only [(h2 b (by simp [B9,T7])).1]
  case elt q i j=>rw [hx] at h2;simp only [(h2 q (by simp [B9,T7])).2]
 case binOp op t x y t' =>simp only [hv x (by simp),hv y (by simp)]
 case unOp op t x=>simp only [hv x (by simp)]
 case convert a b x=>simp only [hv x (by simp)]
 case lookup t x k ok=>simp only [hv x (by simp),hv k (by simp)]
 case makeSlice t l c=>simp only [hv l (by simp),hv c (by simp)]
 case slice t x lo hi' mx=>
  have h1:=hv x (by simp)
  have h2:=hi x (by simp)
  have h3:lo.map s.val=lo.map s'.val:=by cases lo with|none=>rfl|some y=>simp [hv y (by simp)]
  have h4:hi'.map s.val=hi'.map s'.val:=by cases hi' with|none=>rfl|some y=>simp [hv y (by simp)]
  have h5:mx.map s.val=mx.map s'.val:=by cases mx with|none=>rfl|some y=>simp [hv y (by simp)]
  simp only [<-h1,<-h3,<-h4,<-h5,fun d esz=>C1B (s:=s) (s' :=s') id d esz (s.val x) (lo.map s.val) (hi'.map s.val) (mx.map s.val) h2]
 case fieldAddr t x f=>
  have h1:=hv x (by simp)
  have h2:=hi x (by simp)
  simp only [<-h1];cases I6.find T t<;>try rfl
  rename_i ti;simp only;cases A4D ti f<;>try rfl
  rename_i p;obtain ⟨fo,sz⟩:=p;simp only;cases Nat.blt 0 sz
  ·cases s.val x<;>rfl
  ·cases hx:s.val x<;>try rfl
   case ptr b off=>rw [hx] at h2;simp only [(h2 b (by simp [B9,T7])).1]
   case elt q i j=>rw [hx] at h2;simp only [(h2 q (by simp [B9,T7])).2]
 case indexAddr t x i=>
  have h1:=hv x (by simp)
  have h2:=hi x (by simp)
  simp only [<-h1,hv i (by simp)]
  cases I6.find T t<;>try rfl
  rename_i ti;simp only;cases ti.kind<;>try rfl
  case slice e=>
   simp only;cases I6.find T e<;>try rfl
   rename_i ei;cases hx:s.val x<;>try rfl
   case lst=>cases s'.val i<;>rfl
   case own q=>
    rw [hx] at h2;cases s'.val i<;>try rfl
    simp only [(h2 q (by simp [B9,T7])).2]
   case bsl b n=>
    rw [hx] at h2;cases s'.val i<;>try rfl
    simp only [(h2 b (by simp [B9,T7])).1]
  case array len e=>
   simp only;cases I6.find T e<;>try rfl
   rename_i ei;cases hx:s.val x<;>try rfl
   case ptr b off=>
    rw [hx] at h2;cases off<;>try rfl
    cases s'.val i<;>try rfl
    simp only [(h2 b (by simp [B9,T7])).1]
 case extract x i=>simp only [hv x (by simp)]
 case makeFunc fn first captured=>
  cases fn<;>try rfl
  have h1:first.toList.map s.val=first.toList.map s'.val:=List.map_congr_left fun x hx=>hv x (by simp;exact .inl (by simpa using hx))
  have h2:captured.toList.map s.val=captured.toList.map s'.val:=List.map_congr_left fun x hx=>hv x (by simp;exact .inr (by simpa using hx))
  simp only [h1,h2]
 case call c=>
  obtain ⟨callee,args,ts⟩:=c;have hargs:args.toList.map s.val=args.toList.map s'.val:=List.map_congr_left fun x hx=>hv x (by simp [Call.operands];exact .inr (by simpa using hx))
  cases callee
  case value f=>simp only [hv f (by simp [Call.operands]),hargs]
  case invoke=>rfl
  case builtin b=>
   simp only [<-hargs];refine B84 T id o.dst b ts _ ?_;intro i hi';obtain ⟨v,hv1,hv2⟩:=D7U.1 hi';obtain ⟨x,hx1,rfl⟩:=List.mem_map.1 hv1;exact hi x (by simp [Call.operands];simpa using hx1) i hv2
theorem C51 {s s' :AS} (T:I6) (id:Nat) (o:Oper) (hv:∀x∈o.op.operands.toList,s.val x=s'.val x) (ha:K9 (A2p s o) s s'):B1C T id s o=B1C T id s' o:=by
 unfold B1C;rw [C4w T id o hv ha]
end Go.Vc
namespace Go.Vc
open Go.RowKit
def B9R (K:AV->Prop):AV->Prop
 | .int k n=>K (.int k n)
 | .bool true=>K (.bool true)
 | .bool false=>K (.bool false)
 | .sb b=>K (.sb b)
 | .agg cs=>K (.agg cs)
 | .tup vs=>K (.tup vs)
 | .lst sz f xs=>K (.lst sz f xs)
 | .own t=>K (.own t)
 | .ptr i j=>K (.ptr i j)
 | .rp cs=>K (.rp cs)
 | .elt t i j=>K (.elt t i j)
 | .ali t=>K (.ali t)
 | .vw t i n=>K (.vw t i n)
 | .mp b fs=>K (.mp b fs)
 | .pix i j=>K (.pix i j)
 | .fn f=>K (.fn f)
 | .clo f bs cs=>K (.clo f bs cs)
 | .bsl b n=>K (.bsl b n)
 | .nilp=>K .nilp
 | .nilS=>K .nilS
 | .junk=>K .junk
theorem C18 (K:AV->Prop) (v:AV):B9R K v=K v:=by
 cases v<;>try rfl
 case bool b=>cases b<;>rfl
noncomputable def B4N (l:List AV):(List AV->Prop)->Prop:=
 List.rec (motive:=fun _=>(List AV->Prop)->Prop) (fun K=>K []) (fun c _ ih K=>B9R (fun c' =>ih fun cs' =>K (c' ::cs')) c) l
theorem B5l: ∀(cs:List AV) (K:List AV->Prop),B4N cs K=K cs
 | [],_=>rfl
 |c::cs,K=>by
  show B9R (fun c' =>B4N cs fun cs' =>K (c' ::cs')) c=_;simp only [C18];exact B5l cs _
noncomputable def B6Z (K:AV->Prop):AV->Prop
 | .agg cs=>B4N cs fun cs' =>K (.agg cs')
 | .rp cs=>B4N cs fun cs' =>K (.rp cs')
 |v=>B9R K v
theorem C19 (K:AV->Prop) (v:AV):B6Z K v=K v:=by
 cases v<;>simp only [B6Z,B5l,C18]
noncomputable def C00 (l:List AV):(List AV->Prop)->Prop:=
 List.rec (motive:=fun _=>(List AV->Prop)->Prop) (fun K=>K []) (fun c _ ih K=>B6Z (fun c' =>ih fun cs' =>K (c' ::cs')) c) l
theorem B9S: ∀(cs:List AV) (K:List AV->Prop),C00 cs K=K cs
 | [],_=>rfl
 |c::cs,K=>by
  show B6Z (fun c' =>C00 cs fun cs' =>K (c' ::cs')) c=_;simp only [C19];exact B9S cs _
noncomputable def C8o (K:AV->Prop):AV->Prop
 | .tup vs=>C00 vs fun vs' =>K (.tup vs')
 |v=>B6Z K v
theorem D1R (K:AV->Prop) (v:AV):C8o K v=K v:=by
 cases v<;>simp only [C8o,B9S,C19]
noncomputable def B89 (l:Loc) (c:O7) (K:Loc×O7->Prop):Prop:=match c with
 | .av v=>C8o (fun v' =>K (l, .av v')) v
 | .box cs=>B4N cs fun cs' =>K (l, .box cs')
 | .tok t sz xs=>K (l, .tok t sz xs)
 | .none=>K (l, .none)
noncomputable def V8 (e:T5):St->(St->Prop)->Prop:=
 List.rec (motive:=fun _=>St->(St->Prop)->Prop) (fun st K=>K st) (fun p _ ih st K=>match p with
  |(l,c)=>B89 l c fun p' =>ih st fun st' =>K (p' ::st')) e
theorem A5W: ∀(e:T5) (st:St) (K:St->Prop),V8 e st K=K (e++st)
 | [],_,_=>rfl
 |(l,c)::e,st,K=>by
  show B89 l c (fun p' =>V8 e st fun st' =>K (p' ::st'))=_;cases c<;>simp only [B89,D1R,B5l]<;>exact A5W e st _
theorem A8i: ∀(e:T5) (st:St),St.get (e++st)=AS.apply (St.get st) e
 | [],_=>rfl
 |(l,c)::e,st=>by
  funext m
  show (match Loc.beq m l with|true=>c|false=>St.get (e++st) m)=_
  rw [A8i e st]
  rfl
inductive CK where
 |plain (r:AV) (bx' :List (List AV))
 |gen (ws:L9) (t:Option Nat) (r:AV) (bx' :List (List AV)) (tk' :N2)
 |fresh (e:TypeId) (sz:Nat) (xs:List (List AV))
 |sorts (t:Nat) (e:TypeId) (zs:List Int)
 |elt (ws:L9) (t:Option Nat) (len:Nat) (c:List AV) (r:AV) (bx' :List (List AV)) (tk' :N2)
structure C7K (P:Program) (id:Nat) (s:AS) (f:FuncId) (args:List AV) (d:Option Tmp) (K:T5->Prop):Prop where
 h: ∃c:CK,match c with
  | .plain r bx' =>match O5 s [] none args with
   | .bad=>False
   | .go as bx _ ks=>F5 P f as bx r bx' /\(B7X [] none r bx' none=true/\K (A8h s id d [] none ks r bx' none))
  | .gen ws t r bx' tk' =>match O5 s ws t args with
   | .bad=>False
   | .go as bx tk ks=>B1 P f as bx tk r bx' tk' /\(A11 s args ws t=true/\(B7X ws t r bx' tk' =true/\K (A8h s id d ws t ks r bx' tk')))
  | .fresh e sz xs=>match O5 s [] none args with
   | .bad=>False
   | .go as _ _ ks=>D2T P f as e sz xs/\K (dst d (.own id)++([(.tok id, .tok e sz xs)]++kills ks))
  | .sorts t e zs=>SortsInts P f/\((args= [.own t]/\(s (.tok t)= .tok e 1 (X4 zs)/\zs.length<4611686018427387904))/\K (dst d (.tup [])++ [(.tok t, .tok e 1 (X4 (A1o zs)))]))
  | .elt ws t len c r bx' tk' =>match B61 args with
   |none=>False
   |some (k,i,j)=>match s (.tok k) with
    | .tok e sz xs=>match O5 s ws t (args.map deE) with
     | .bad=>False
     | .go as bx tk ks=>xs[i]? =some c/\(B1 P f (B5I ws.length args as) (bx++ [(c.drop j).take len]) tk r bx' tk' /\(A11 s (args.map deE) ws t=true/\((Nat.beq bx'.length (ws.length+1)&&C8e ws.length t k ks j len sz as bx r (bx'.take ws.length) (bx'.getD ws.length []))=true/\
       K (B2z s id d ws t ks r (bx'.take ws.length) tk' k e sz (xs.set i (Q9 c j (bx'.getD ws.length [])))))))
    |_=>False
def A1a (P:Program) (T:I6) (id:Nat) (s:AS) (o:Oper) (K:T5->Prop):Prop:=
 match B1C T id s o with
 | .bad=>False
 | .ok e=>K e
 | .side p e=>p/\K e
 | .elem xs i f=> ∃c,(0<=i/\xs[i.toNat]? =some c)/\K (f c)
 | .call f args d=>C7K P id s f args d K
def B0e (P:Program) (T:I6) (id:Nat) (s:AS) (o:Oper) (e:T5):Prop:=A1a P T id s o (fun e' =>e' =e)
theorem B4U {P:Program} {T:I6} {id:Nat} {s:AS} {o:Oper} {K:T5->Prop} (h:A1a P T id s o K): ∃e,B0e P T id s o e/\K e:=by
 unfold A1a at h;unfold B0e A1a;split at h
 ·exact h.elim
 ·exact ⟨_,rfl,h⟩
 ·exact ⟨_,⟨h.1,rfl⟩,h.2⟩
 ·obtain ⟨c,h1,h2⟩:=h;exact ⟨_,⟨c,h1,rfl⟩,h2⟩
 ·obtain ⟨⟨c,h⟩⟩:=h;cases c with
  |plain r bx' =>
   simp only at h;split at h
   ·exact h.elim
   ·rename_i hs;obtain ⟨h1,h2,h3⟩:=h;exact ⟨_,⟨.plain r bx',by simp only [hs];exact ⟨h1,h2,trivial⟩⟩,h3⟩
  |gen ws t r bx' tk' =>
   simp only at h;split at h
   ·exact h.elim
   ·rename_i hs;obtain ⟨h1,h0,h2,h3⟩:=h;exact ⟨_,⟨.gen ws t r bx' tk',by simp only [hs];exact ⟨h1,h0,h2,trivial⟩⟩,h3⟩
  |fresh e sz xs=>
   simp only at h;split at h
   ·exact h.elim
   ·rename_i hs;obtain ⟨h1,h3⟩:=h;exact ⟨_,⟨.fresh e sz xs,by simp only [hs];exact ⟨h1,trivial⟩⟩,h3⟩
  |sorts t e zs=>obtain ⟨h1,h2,h3⟩:=h;exact ⟨_,⟨.sorts t e zs,h1,h2,rfl⟩,h3⟩
  |elt ws t len c r bx' tk' =>
   simp only at h;split at h
   ·exact h.elim
   ·rename_i k i j hg;split at h
    ·rename_i e sz xs hk;split at h
     ·exact h.elim
     ·rename_i hs;obtain ⟨h1,h2,h3,h4,h5⟩:=h;exact ⟨_,⟨.elt ws t len c r bx' tk',by simp only [hg,hk,hs];exact ⟨h1,h2,h3,h4,trivial⟩⟩,h5⟩
    ·exact h.elim
theorem C2H {F:Fr} {A:Nat->Prop} {T:I6} (hT:Z6 F.P T) {id:Nat} {s:AS} {o:Oper} (hd:∀k,o.dst=some k->k<F.N) {e:T5} (h:B0e F.P T id s o e):OpOk F A id o s e:=by
 have hs:=C4x (F:=F) (A:=A) (id:=id) (o:=o) (s:=s) hT hd;unfold B0e A1a at h
 generalize B1C T id s o=res at h hs
 cases res with
 |bad=>exact h.elim
 |ok e' =>cases h;exact hs
 |side p e' =>obtain ⟨h1,h2⟩:=h;subst h2;exact hs h1
 |elem xs i f=>obtain ⟨c,⟨h1,h2⟩,h3⟩:=h;subst h3;exact hs c h1 h2
 |call f args d=>
  obtain ⟨fop,as,ts,bs,cs,h1,h2,rfl,rfl⟩:=hs;obtain ⟨⟨c,h⟩⟩:=h;cases c with
  |plain r bx' =>
   simp only at h;split at h
   ·exact h.elim
   ·rename_i as' bx tk ks hc;obtain ⟨h3,h4,rfl⟩:=h;obtain ⟨_,_,_,_,_,_,htk,_⟩:=A3F hc;have htk' :tk=none:=htk;subst htk';exact D0m hd fop as ts h1 f bs cs h2 [] none as' bx none ks hc r bx' none h3 h4
  |gen ws t r bx' tk' =>
   simp only at h;split at h
   ·exact h.elim
   ·rename_i as' bx tk ks hc;obtain ⟨h3,_,h4,rfl⟩:=h;exact D0m hd fop as ts h1 f bs cs h2 ws t as' bx tk ks hc r bx' tk' h3 h4
  |fresh e' sz xs=>
   simp only at h;split at h
   ·exact h.elim
   ·rename_i as' bx tk ks hc;obtain ⟨h3,rfl⟩:=h;exact D2h hd fop as ts h1 f bs cs h2 as' bx tk ks hc e' sz xs h3
  |sorts t e' zs=>
   obtain ⟨h3,⟨h4,h5,h6⟩,rfl⟩:=h;exact D2j hd fop as ts h1 f bs cs h2 t h4 e' zs h5 h6 h3
  |elt ws t len c r bx' tk' =>
   simp only at h;split at h
   ·exact h.elim
   ·rename_i k i j hg;split at h
    ·rename_i e sz xs hk;split at h
     ·exact h.elim
     ·rename_i as' bx tk ks hc;obtain ⟨h3,h4,_,h5,rfl⟩:=h;simp only [D7o] at h5;exact D5r hd fop as ts h1 f bs cs h2 ws t k i j len hg e sz xs hk as' bx tk ks hc c h3 r _ _ tk' (by rw [<-D04 (D7p h5.1)];exact h4) h5.2
    ·exact h.elim
theorem C0d {P:Program} {T:I6} (hT:Z6 P T) {id:Nat} {s:AS} {o:Oper} {f:FuncId} {args:List AV} {d:Option Tmp} (h:B1C T id s o= .call f args d): ∀i∈A2n s args,i∈A2p s o:=by
 have hs:=C4x (F:=⟨P,o.dst.getD 0+1,default,fun _=>False,fun _=>(0,0),0,fun _=>0,fun _=>False⟩) (A:=fun _=>False) (id:=id) (o:=o) (s:=s) hT (fun k hk=>by simp [hk])
 rw [h] at hs;obtain ⟨fop,as,ts,bs,cs,ho,hf,rfl,_⟩:=hs;intro i hi;obtain ⟨v,hv,hi⟩:=D7U.1 hi;have hcov: ∀x∈o.op.operands.toList,(∀i∈B9 v,i∈B9 (s.val x))->i∈A2p s o:=fun x hx hsub=>by
  rcases D72.1 hi with hi|hi
  ·exact B9l hx i (hsub i hi)
  ·exact B8U ho hx i (B9C hsub i hi)
 have hfm:fop∈o.op.operands.toList:=by rw [ho];simp [Op.operands,Call.operands]
 have hcap:(v∈bs\/v∈cs)->i∈A2p s o:=fun hb=>by
  rcases hf with ⟨_,rfl,rfl⟩|⟨hf,hc⟩
  ·simp at hb
  ·refine hcov fop hfm fun k hk=> ?_;rw [hf];have hcv:A31 v=true:=D7S.1 hc v (by simpa using hb)
   have hk' :k∈C04 v:=by
    rw [<-C9B hcv];cases v<;>first|exact hk|(simp [A31] at hcv)
   show k∈bs.flatMap C04++cs.flatMap C04;rcases hb with hb|hb
   ·exact D72.2 (.inl (D7U.2 ⟨v,hb,hk'⟩))
   ·exact D72.2 (.inr (D7U.2 ⟨v,hb,hk'⟩))
 rcases D72.1 hv with hv|hv
 ·exact hcap (.inl hv)
 ·rcases D72.1 hv with hv|hv
  ·obtain ⟨x,hx1,rfl⟩:=List.mem_map.1 hv;exact hcov x (by rw [ho];simp [Op.operands,Call.operands];exact .inr (by simpa using hx1)) fun _ h=>h
  ·exact hcap (.inr hv)
theorem C5x {P:Program} {T:I6} (hT:Z6 P T) {id:Nat} {s s' :AS} {o:Oper} {e:T5} (hv:∀x∈o.op.operands.toList,s.val x=s'.val x) (ha:K9 (A2p s o) s s') (h:B0e P T id s o e):B0e P T id s' o e:=by
 unfold B0e A1a at*
 rw [<-C51 T id o hv ha];cases hres:B1C T id s o with
 |call f args d=>
  rw [hres] at h;simp only at h⊢;have hfar:K9 (A2n s args) s s' :=ha.mono (C0d hT hres);have hnil:O5 s [] none args=O5 s' [] none args:=B0O hfar rfl;obtain ⟨c,h⟩:=h;refine ⟨c, ?_⟩;cases c with
  |plain r bx' =>
   simp only at h⊢;rw [<-hnil];split at h
   ·exact h
   ·rename_i as' bx tk ks hc;rw [B60 hfar (ws:= []) (t:=none) rfl] at h;exact h
  |gen ws t r bx' tk' =>
   simp only at h⊢;have hin:A11 s args ws t=true:=by
    split at h
    ·exact h.elim
    ·exact h.2.1
   rw [<-B0O hfar hin,<-B63 hfar];split at h
   ·exact h
   ·rename_i as' bx tk ks hc;rw [B60 hfar hin] at h;exact h
  |fresh e' sz xs=>
   simp only at h⊢;rw [<-hnil];exact h
  |sorts t e' zs=>
   obtain ⟨h3,⟨h4,h5,h6⟩,h7⟩:=h;refine ⟨h3,⟨h4, ?_,h6⟩,h7⟩;rw [<-(hfar t (D7U.2 ⟨.own t,by rw [h4];simp,by simp [B9,T7]⟩)).2]
   exact h5
  |elt ws t len c r bx' tk' =>
   simp only at h⊢;have hfar' :K9 (A2n s (args.map deE)) s s' :=hfar.mono D3C;split at h
   ·exact h
   ·rename_i k i j hg;rw [<-(hfar k (D1U hg)).2];split at h
    ·have hin:A11 s (args.map deE) ws t=true:=by
      split at h
      ·exact h.elim
      ·exact h.2.2.1
     rw [<-B0O hfar' hin,<-B63 hfar'];split at h
     ·exact h
     ·rw [C3Q hfar' hin] at h;exact h
    ·exact h
 |bad=>rw [hres] at h;exact h
 |ok e' =>rw [hres] at h;exact h
 |side p e' =>rw [hres] at h;exact h
 |elem xs i f=>rw [hres] at h;exact h
def B5o (ops:List Oper) (j:Nat):Option Tmp:=match ops[j]? with
 |some o=>o.dst
 |none=>none
noncomputable def C9d (P:Program) (T:I6) (base:Nat) (ops:List Oper) (ih:Nat->St->(St->Prop)->Prop) (o:Oper) (i:Nat) (st:St) (K:St->Prop):Prop:=
 match o.guard with
 |none=>A1a P T (base+i) (St.get st) o fun e=>V8 e st fun st' =>ih (i+1) st' K
 |some (j,want)=>match B5o ops j with
  |none=>False
  |some d=>match AS.tmp (St.get st) d with
   | .bool b=>match Bool.xor b want with
    |false=>A1a P T (base+i) (St.get st) o fun e=>V8 e st fun st' =>ih (i+1) st' K
    |true=>V8 (dst o.dst (.tup [])) st fun st' =>ih (i+1) st' K
   | .sb b=>(b=want->A1a P T (base+i) (St.get ((.tmp d, .av (.bool want))::st)) o fun e=>V8 e ((.tmp d, .av (.bool want))::st) fun st' =>ih (i+1) st' K)/\
     (b=(!want)->V8 (dst o.dst (.tup [])) ((.tmp d, .av (.bool (!want)))::st) fun st' =>ih (i+1) st' K)
   | .tup _=>V8 (dst o.dst (.tup [])) st fun st' =>ih (i+1) st' K
   |_=>False
noncomputable def B8d (P:Program) (T:I6) (base:Nat) (ops:List Oper) (i:Nat) (l:List Oper) (st:St) (K:St->Prop):Prop:=
 List.rec (motive:=fun _=>Nat->St->(St->Prop)->Prop) (fun _ st K=>K st) (fun o _ ih i st K=>C9d P T base ops ih o i st K) l i st K
def A2O (N:Nat) (ops:List Oper):Bool:=ops.all fun o=>match o.dst with
 |some d=>Nat.blt d N
 |none=>true
theorem B39 {N:Nat} {ops:List Oper} (h:A2O N ops=true) {o:Oper} (ho:o∈ops): ∀k,o.dst=some k->k<N:=by
 intro k hk;have:=D7S.1 h o ho;rw [hk] at this;exact V5 this
theorem S7.lit {F:Fr} {A:Nat->Prop} {st:St} {a:Act} {w:World} (h:S7 F A (St.get st) a w) (d:Nat) (b:Bool) (hd:AS.tmp (St.get st) d= .sb b):S7 F A (St.get ((.tmp d, .av (.bool b))::st)) a w:=by
 obtain ⟨β,τ,ok,hx⟩:=h;have hd' :St.get st (.tmp d)= .av (.sb b):=by
  unfold AS.tmp at hd;split at hd
  ·rename_i v hv;rw [hv,hd]
  ·cases hd
 have hv:=hx.env d _ hd';have e:St.get ((.tmp d, .av (.bool b))::st)=AS.put (St.get st) (.tmp d) (.av (.bool b)):=rfl;rw [e];have hm:=hx.mr.tmp d (.av (.bool b));refine ⟨β,τ,ok,hm,hx.defers,hx.size,fun l v hl=> ?_,hx.keep,hx.par,hx.parA,hx.newB,hx.parL,hx.newT,hx.ok0,hx.okNew⟩;have hl0:AS.put (St.get st) (.tmp d) (.av (.bool b)) (.tmp l)= .av v:=hl
 by_cases hld:l=d
 ·subst hld;rw [A8s] at hl0;cases hl0;exact hv
 ·rw [B5J _ _ _ _ hld] at hl0;exact (hx.env l v hl0).ext (V4.tmp _ d _)
theorem S7.gval {F:Fr} {A:Nat->Prop} {st:AS} {a:Act} {w:World} (h:S7 F A st a w) (d:Nat) (b:Bool) (hd:T1 (AS.tmp st d)=some b):a.tmps[d]? =some (.bool b):=by
 obtain ⟨β,τ,ok,hx⟩:=h;have hv:a.tmps.getD d undef= .bool b:=by
  have h1:=hx.val (.tmp d);exact B6J (m:=⟨st,β,τ,A,ok,w⟩) hd h1
 rw [Array.getD_eq_getD_getElem?] at hv;cases hq:a.tmps[d]? with
 |none=>rw [hq] at hv;simp [undef] at hv
 |some v=>rw [hq] at hv;simp at hv;rw [hv]
theorem S7.skip {F:Fr} {A:Nat->Prop} {s:AS} {a:Act} {w:World} (h:S7 F A s a w) (o:Oper) (hd:∀k,o.dst=some k->k<F.N):S7 F A (s.apply (dst o.dst (.tup []))) (a.put o.dst undef) w:=by
 obtain ⟨β,τ,ok,hx⟩:=h;exact ⟨_,_,_,hx.dst o.dst (.tup []) undef hd ⟨#[],rfl,rfl,by simp⟩⟩
theorem S7.mono {F:Fr} {A A' :Nat->Prop} {s:AS} {a:Act} {w:World} (h:S7 F A s a w) (hA:∀i,A i->A' i):S7 F A' s a w:=by
 obtain ⟨β,τ,ok,hx⟩:=h;exact ⟨_,_,_,hx.mono A' hA⟩
theorem B3a {ops:List Oper} {o:Oper} {a:Act} {j:Nat} {want b:Bool} {d:Tmp} (hg:o.guard=some (j,want)) (hd:B5o ops j=some d) (hv:a.tmps[d]? =some (.bool b)):
  Region.wanted o (yielded ops.toArray a.tmps)=(b==want):=by
 unfold B5o at hd;split at hd
 ·rename_i o' ho';simp [Region.wanted,hg,yielded,ho',hd,hv]
 ·cases hd
theorem S7.gtup {F:Fr} {A:Nat->Prop} {st:AS} {a:Act} {w:World} (h:S7 F A st a w) (d:Nat) (vs:List AV) (hd:AS.tmp st d= .tup vs): ∃us,a.tmps.getD d undef= .tuple us:=by
 obtain ⟨β,τ,ok,hx⟩:=h;have h1:=hx.val (.tmp d);rw [show AS.val _ (.tmp d)= .tup vs from hd] at h1;obtain ⟨us,h2,_⟩:=h1;exact ⟨us,h2⟩
theorem C0J {ops:List Oper} {o:Oper} {a:Act} {j:Nat} {want:Bool} {d:Tmp} {us:Array Value} (hg:o.guard=some (j,want)) (hd:B5o ops j=some d) (hv:a.tmps.getD d undef= .tuple us):
  Region.wanted o (yielded ops.toArray a.tmps)=false:=by
 unfold B5o at hd;split at hd
 ·rename_i o' ho';rw [Array.getD_eq_getD_getElem?] at hv;cases hq:a.tmps[d]? with
  |none=>simp [Region.wanted,hg,yielded,ho',hd,hq]
  |some v=>
   rw [hq] at hv;simp at hv;subst hv;simp [Region.wanted,hg,yielded,ho',hd,hq]
 ·cases hd
theorem B4t {F:Fr} {T:I6} (hT:Z6 F.P T) (base:Nat) (ops:List Oper) (hds:A2O F.N ops=true) (Q:Exit->Act->World->Prop) (K:St->Prop)
  (hQ:∀st a w,S7 F (fun k=>k<base+ops.length) (St.get st) a w->K st->Q .normal a w):
  ∀(l:List Oper) (i:Nat) (st:St) (a:Act) (w:World),(∀j,l[j]? =ops[i+j]?)->i+l.length=ops.length->S7 F (fun k=>k<base+i) (St.get st) a w->B8d F.P T base ops i l st K->
   wpOps F.P ops.toArray Q (List.range' i l.length) a w
 | [],i,st,a,w,_,hl,hst,h=>by
  have hi:i=ops.length:=by simpa using hl
  subst hi;exact hQ st a w hst h
 |o::r,i,st,a,w,hj,hl,hst,h=>by
  have ho:ops[i]? =some o:=by simpa using (hj 0).symm
  have hmem:o∈ops:=D7v ho;have hd:=B39 hds hmem;have hj' : ∀j,r[j]? =ops[i+1+j]? :=fun j=>by have:=hj (j+1);simpa [Nat.add_assoc,Nat.add_comm 1 j] using this
  have hl' :i+1+r.length=ops.length:=by simp at hl;omega
  have hA: ¬(base+i<base+i):=by omega
  have run: ∀st,S7 F (fun k=>k<base+i) (St.get st) a w->Region.wanted o (yielded ops.toArray a.tmps)=true->
    (A1a F.P T (base+i) (St.get st) o fun e=>V8 e st fun st' =>B8d F.P T base ops (i+1) r st' K)->wpOps F.P ops.toArray Q (List.range' i (o::r).length) a w:=by
   intro st hst hw h;obtain ⟨e,hy,hk⟩:=B4U h;rw [A5W] at hk;rw [D7z,List.range'_succ];simp only [wpOps,List.getElem?_toArray,ho,hw,if_true];left;refine C2H hT hd hy a w hst hA _ Q (fun a' w' hs' => ?_);refine B4t hT base ops hds Q K hQ r (i+1) (e++st) a' w' hj' hl' ?_ hk;rw [A8i];exact hs'.mono (fun k hk=>by rcases hk with hk|hk<;>omega)
  have pass: ∀st,S7 F (fun k=>k<base+i) (St.get st) a w->Region.wanted o (yielded ops.toArray a.tmps)=false->
    (V8 (dst o.dst (.tup [])) st fun st' =>B8d F.P T base ops (i+1) r st' K)->wpOps F.P ops.toArray Q (List.range' i (o::r).length) a w:=by
   intro st hst hw h;rw [A5W] at h;rw [D7z,List.range'_succ];simp only [wpOps,List.getElem?_toArray,ho,hw,Bool.false_eq_true,if_false];refine B4t hT base ops hds Q K hQ r (i+1) _ _ w hj' hl' ?_ h;rw [A8i];exact (hst.skip o hd).mono (fun k hk=>by omega)
  change C9d F.P T base ops (fun i st K=>B8d F.P T base ops i r st K) o i st K at h;unfold C9d at h;split at h
  ·rename_i hg;exact run st hst (by simp [Region.wanted,hg]) h
  ·rename_i j want hg;split at h
   ·exact h.elim
   ·rename_i d hgd;split at h
    ·rename_i b hb;have hw:=B3a hg hgd (hst.gval d b (by rw [hb];rfl))
     split at h
     ·rename_i hx;exact run st hst (by rw [hw];cases b<;>cases want<;>simp_all) h
     ·rename_i hx;exact pass st hst (by rw [hw];cases b<;>cases want<;>simp_all) h
    ·rename_i b hb;have hw:=B3a hg hgd (hst.gval d b (by rw [hb];rfl))
     by_cases hbw:b=want
     ·have h1:=h.1 hbw;subst hbw;exact run _ (hst.lit d b hb) (by rw [hw];simp) h1
     ·have hbn:b= !want:=by cases b<;>cases want<;>simp_all
      have h1:=h.2 hbn;rw [hbn] at hb;exact pass _ (hst.lit d (!want) hb) (by rw [hw,hbn];simp) h1
    ·rename_i vs hb;obtain ⟨us,hu⟩:=hst.gtup d vs hb;exact pass st hst (C0J hg hgd hu) h
    ·exact h.elim
end Go.Vc
namespace Go.Vc
open Go.RowKit
def Y0:T5->List Nat
 | []=> []
 |(.tmp _,_)::e=>Y0 e
 |(.box i,_)::e=>i::Y0 e
 |(.tok i,_)::e=>i::Y0 e
def A0E (d:Option Tmp):T5->Bool
 | []=>true
 |(.tmp t,_)::e=>(match d with
  |some k=>Nat.beq t k
  |none=>false)&&A0E d e
 |(.box _,_)::e=>A0E d e
 |(.tok _,_)::e=>A0E d e
def A0F (l:Loc):T5->Bool
 | []=>false
 |(m,_)::e=>Loc.beq l m||A0F l e
theorem A0S (s:AS) (l:Loc): ∀(e:T5),A0F l e=false->(s.apply e) l=s l
 | [],_=>rfl
 |(m,c)::e,h=>by
  simp only [A0F,D7Q] at h;show (AS.put (s.apply e) m c) l=_;simp only [AS.put,h.1];exact A0S s l e h.2
theorem B5c (s s':AS) (l:Loc): ∀(e:T5),A0F l e=true->(s.apply e) l=(s'.apply e) l
 | [],h=>by cases h
 |(m,c)::e,h=>by
  simp only [A0F,D7r] at h;show (AS.put (s.apply e) m c) l=(AS.put (s'.apply e) m c) l;cases hb:Loc.beq l m with
  |true=>simp only [AS.put,hb]
  |false=>
   simp only [AS.put,hb];exact B5c s s' l e (h.resolve_left (by rw [hb];simp))
theorem B5X {d:Option Tmp} {t:Nat} {e:T5}:A0E d e=true->A0F (.tmp t) e=true->d=some t:=by
 induction e with
 |nil=>intro _ h;cases h
 |cons p e ih=>
  obtain ⟨l,c⟩:=p;intro h hw;simp only [A0F,D7r] at hw;cases l with
  |tmp m=>
   simp only [A0E,D7o] at h;rcases hw with hw|hw
   ·cases d with
    |none=>simp at h
    |some k=>
     have h1:=D7p h.1;have h2:t=m:=D7p hw;rw [h2,h1]
   ·exact ih h.2 hw
  |box m=>exact ih h (hw.resolve_left (by simp [Loc.beq]))
  |tok m=>exact ih h (hw.resolve_left (by simp [Loc.beq]))
theorem A73 {k:Nat} {e:T5}:(A0F (.box k) e=true\/A0F (.tok k) e=true)->k∈Y0 e:=by
 induction e with
 |nil=>intro h;rcases h with h|h<;>cases h
 |cons p e ih=>
  obtain ⟨l,c⟩:=p;intro h;simp only [A0F,D7r] at h;cases l with
  |tmp m=>exact ih (h.imp (fun h=>h.resolve_left (by simp [Loc.beq])) (fun h=>h.resolve_left (by simp [Loc.beq])))
  |box m=>
   rcases h with (h|h)|h
   ·have h' :k=m:=D7p h;subst h';simp [Y0]
   ·simp only [Y0,List.mem_cons];exact .inr (ih (.inl h))
   ·simp only [Y0,List.mem_cons];exact .inr (ih (.inr (h.resolve_left (by simp [Loc.beq]))))
  |tok m=>
   rcases h with h|(h|h)
   ·simp only [Y0,List.mem_cons];exact .inr (ih (.inl (h.resolve_left (by simp [Loc.beq]))))
   ·have h' :k=m:=D7p h;subst h';simp [Y0]
   ·simp only [Y0,List.mem_cons];exact .inr (ih (.inr h))
theorem B5Z {s:AS} {d:Option Tmp} {e:T5} (h:A0E d e=true) {t:Nat} (ht:d≠some t):(s.apply e) (.tmp t)=s (.tmp t):=by
 apply A0S;cases hw:A0F (.tmp t) e with
 |false=>rfl
 |true=>exact absurd (B5X h hw) ht
theorem B6E {s:AS} {e:T5} {k:Nat} (h:k∉Y0 e):(s.apply e) (.box k)=s (.box k)/\(s.apply e) (.tok k)=s (.tok k):=by
 constructor
 ·apply A0S;cases hw:A0F (.box k) e with
  |false=>rfl
  |true=>exact absurd (A73 (.inl hw)) h
 ·apply A0S;cases hw:A0F (.tok k) e with
  |false=>rfl
  |true=>exact absurd (A73 (.inr hw)) h
theorem C7Y (s:AS) {d d' :Option Tmp} {e e' :T5} (h:A0E d e=true) (h':A0E d' e' =true) (hd:∀t,d=some t->d' ≠some t) (ht:∀k∈Y0 e,k∉Y0 e'):
  (s.apply e).apply e' =(s.apply e').apply e:=by
 funext l
 cases hw:A0F l e with
 |true=>
  have hw' :A0F l e' =false:=by
   cases hw' :A0F l e' with
   |false=>rfl
   |true=>
    cases l with
    |tmp t=>exact absurd (B5X h' hw') (hd t (B5X h hw))
    |box k=>exact absurd (A73 (.inl hw')) (ht k (A73 (.inl hw)))
    |tok k=>exact absurd (A73 (.inr hw')) (ht k (A73 (.inr hw)))
  rw [A0S _ _ _ hw'];exact B5c _ _ _ _ hw
 |false=>
  rw [A0S (s.apply e') _ _ hw];cases hw' :A0F l e' with
  |true=>exact B5c _ _ _ _ hw'
  |false=>rw [A0S _ _ _ hw',A0S _ _ _ hw',A0S _ _ _ hw]
theorem C8Y {s s' :AS} {o:Oper} (hv:∀x∈o.op.operands.toList,s.val x=s'.val x) (ha:K9 (A2p s o) s s'):A2p s' o=A2p s o:=by
 unfold A2p;have key: ∀x∈o.op.operands.toList,B9 (s'.val x)++A7T o s' (s'.val x)=B9 (s.val x)++A7T o s (s.val x):=fun x hx=>by
  have h1:A7T o s (s.val x)=A7T o s' (s.val x):=by
   unfold A7T;split
   ·rename_i c ho;exact B6L (ha.mono (B9l hx)) (ha.mono (B8U ho hx))
   ·rfl
  rw [<-hv x hx,<-h1]
 generalize o.op.operands.toList=l at key
 induction l with
 |nil=>rfl
 |cons x l ih=>simp only [List.flatMap_cons,key x (by simp),ih (fun y hy=>key y (by simp [hy]))]
def gw (ops:List Oper) (s:AS) (o:Oper):Option Bool:=match o.guard with
 |none=>some true
 |some (j,want)=>match B5o ops j with
  |none=>none
  |some d=>match T1 (s.tmp d) with
   |some b=>some (b==want)
   |none=>match s.tmp d with
    | .tup _=>some false
    |_=>none
def Ref (s s':AS):Prop:= ∀l,s' l=s l\/ ∃t b,l= .tmp t/\s l= .av (.sb b)/\s' l= .av (.bool b)
theorem Ref.refl (s:AS):Ref s s:=fun _=> .inl rfl
theorem Ref.box {s s' :AS} (h:Ref s s') (i:Nat):s' (.box i)=s (.box i):=by
 rcases h (.box i) with h|⟨t,b,h,_⟩
 ·exact h
 ·cases h
theorem Ref.tok {s s' :AS} (h:Ref s s') (i:Nat):s' (.tok i)=s (.tok i):=by
 rcases h (.tok i) with h|⟨t,b,h,_⟩
 ·exact h
 ·cases h
theorem Ref.apply {s s' :AS} (h:Ref s s') (e:T5):Ref (s.apply e) (s'.apply e):=fun l=>by
 cases hw:A0F l e with
 |true=>exact .inl (B5c _ _ _ _ hw)
 |false=>
  rw [A0S _ _ _ hw,A0S _ _ _ hw];exact h l
theorem D4h {s s' :AS} (h:Ref s s') {β τ A ok w} (hm:MR ⟨s,β,τ,A,ok,w⟩):V4 ⟨s,β,τ,A,ok,w⟩ ⟨s',β,τ,A,ok,w⟩/\V4 ⟨s',β,τ,A,ok,w⟩ ⟨s,β,τ,A,ok,w⟩/\MR ⟨s',β,τ,A,ok,w⟩:=by
 have e1:V4 ⟨s,β,τ,A,ok,w⟩ ⟨s',β,τ,A,ok,w⟩:=⟨fun t e sz xs' hs _=>⟨xs',(h.tok t).symm.trans hs,rfl,rfl⟩,fun i cs' hs _=>⟨⟨cs',(h.box i).symm.trans hs⟩,rfl⟩,fun _ h=>h,fun _ h=>h,fun _ _ _=>rfl,fun _ _ _ _ h=>h⟩;have e2:V4 ⟨s',β,τ,A,ok,w⟩ ⟨s,β,τ,A,ok,w⟩:=⟨fun t e sz xs' hs _=>⟨xs',(h.tok t).trans hs,rfl,rfl⟩,fun i cs' hs _=>⟨⟨cs',(h.box i).trans hs⟩,rfl⟩,fun _ h=>h,fun _ h=>h,fun _ _ _=>rfl,fun _ _ _ _ h=>h⟩;have hb: ∀i c,s' (.box i)= .box c->s (.box i)= .box c:=fun i c hc=>by rw [<-h.box i];exact hc
 have ht: ∀i e sz xs,s' (.tok i)= .tok e sz xs->s (.tok i)= .tok e sz xs:=fun i e sz xs hc=>by rw [<-h.tok i];exact hc
 refine ⟨e1,e2,hm.okLt,fun i c hc=> ?_,fun t e sz xs hs=>hm.tok t e sz xs (ht t e sz xs hs),fun i j ci cj hi hj hne=>hm.sepB i j ci cj (hb i ci hi) (hb j cj hj) hne,
  fun i j ei ej si sj xi xj p q hi hj hp hq hne=>hm.sepT i j ei ej si sj xi xj p q (ht _ _ _ _ hi) (ht _ _ _ _ hj) hp hq hne,fun i j ci ej sj xj q hi hj hq=>hm.sepM i j ci ej sj xj q (hb i ci hi) (ht _ _ _ _ hj) hq⟩
 obtain ⟨h1,h2,cur,e,h3,h4,h5⟩:=hm.box i c (hb i c hc);exact ⟨h1,h2,cur,e,h3,h4,fun j c hj=>let ⟨u,g1,g2,g3⟩:=h5 j c hj;⟨u,g1,g2,g3.ext e1⟩⟩
theorem S7.ref {F:Fr} {A:Nat->Prop} {s s' :AS} {a:Act} {w:World} (h:Ref s s') (hs:S7 F A s a w):S7 F A s' a w:=by
 obtain ⟨β,τ,ok,hx⟩:=hs;obtain ⟨e1,_,hm⟩:=D4h h hx.mr;refine ⟨β,τ,ok,hm,hx.defers,hx.size,fun l v hl=> ?_,hx.keep,hx.par,hx.parA,fun i c hc=>hx.newB i c ((h.box i).symm.trans hc),fun i c hc=>hx.parL i c ((h.box i).symm.trans hc),fun t e sz xs p ht=>hx.newT t e sz xs p ((h.tok t).symm.trans ht),hx.ok0,hx.okNew⟩;have hl' :s' (.tmp l)= .av v:=hl;rcases h (.tmp l) with h1|⟨t,b,h1,h2,h3⟩
 ·rw [h1] at hl';exact (hx.env l v hl').ext e1
 ·rw [h3] at hl';cases hl';exact (show VR _ (.bool b) _ from hx.env l (.sb b) h2)
theorem S7.unref {F:Fr} {A:Nat->Prop} {s s' :AS} {a:Act} {w:World} (h:Ref s s') (hs:S7 F A s' a w):S7 F A s a w:=by
 obtain ⟨β,τ,ok,hx⟩:=hs;have hb: ∀i,s (.box i)=s' (.box i):=fun i=>(h.box i).symm;have ht: ∀i,s (.tok i)=s' (.tok i):=fun i=>(h.tok i).symm;have e1:V4 ⟨s',β,τ,A,ok,w⟩ ⟨s,β,τ,A,ok,w⟩:=⟨fun t e sz xs' hs _=>⟨xs',(ht t).symm.trans hs,rfl,rfl⟩,fun i cs' hs _=>⟨⟨cs',(hb i).symm.trans hs⟩,rfl⟩,fun _ h=>h,fun _ h=>h,fun _ _ _=>rfl,fun _ _ _ _ h=>h⟩;have hm:=hx.mr;have hb' : ∀i c,s (.box i)= .box c->s' (.box i)= .box c:=fun i c hc=>by rw [<-hb i];exact hc
 have ht' : ∀i e sz xs,s (.tok i)= .tok e sz xs->s' (.tok i)= .tok e sz xs:=fun i e sz xs hc=>by rw [<-ht i];exact hc
 refine ⟨β,τ,ok,⟨hm.okLt,fun i c hc=> ?_,fun t e sz xs hs=>hm.tok t e sz xs (ht' t e sz xs hs),fun i j ci cj hi hj hne=>hm.sepB i j ci cj (hb' i ci hi) (hb' j cj hj) hne,
  fun i j ei ej si sj xi xj p q hi hj hp hq hne=>hm.sepT i j ei ej si sj xi xj p q (ht' _ _ _ _ hi) (ht' _ _ _ _ hj) hp hq hne,fun i j ci ej sj xj q hi hj hq=>hm.sepM i j ci ej sj xj q (hb' i ci hi) (ht' _ _ _ _ hj) hq⟩,
  hx.defers,hx.size,fun l v hl=> ?_,hx.keep,hx.par,hx.parA,fun i c hc=>hx.newB i c (hb' i c hc),fun i c hc=>hx.parL i c (hb' i c hc),fun t e sz xs p htt=>hx.newT t e sz xs p (ht' t e sz xs htt),hx.ok0,hx.okNew⟩
 ·obtain ⟨h1,h2,cur,e,h3,h4,h5⟩:=hm.box i c (hb' i c hc);exact ⟨h1,h2,cur,e,h3,h4,fun j c hj=>let ⟨u,g1,g2,g3⟩:=h5 j c hj;⟨u,g1,g2,g3.ext e1⟩⟩
 ·have hl' :s (.tmp l)= .av v:=hl;rcases h (.tmp l) with h1|⟨t,b,h1,h2,h3⟩
  ·exact (hx.env l v (h1.trans hl')).ext e1
  ·rw [h2] at hl';cases hl';exact (show VR _ (.sb b) _ from hx.env l (.bool b) h3)
section
variable {P:Program} {T:I6} {base:Nat} {ops:List Oper} {R W:Nat->List Nat} {md:Region.Mode}
def A5n (P:Program) (T:I6) (base:Nat) (ops:List Oper) (R W:Nat->List Nat) (i:Nat) (o:Oper) (s:AS) (e:T5):Prop:=
 ∃s',Ref s s' /\((gw ops s' o=some true/\B0e P T (base+i) s' o e/\(∀k∈A2p s' o,k∈R i)/\A0E o.dst e=true/\ ∀k∈Y0 e,k∈W i)\/(gw ops s' o=some false/\e=dst o.dst (.tup [])))
def aOp (P:Program) (T:I6) (base:Nat) (ops:List Oper) (R W:Nat->List Nat) (i:Nat) (K:AS->Prop) (s:AS):Prop:=
 match ops[i]? with
 |none=>K s
 |some o=> ∃e,A5n P T base ops R W i o s e/\K (s.apply e)
theorem D1k {i:Nat} {s:AS} {K K' :AS->Prop} (h:∀s,K s->K' s) (hh:aOp P T base ops R W i K s):aOp P T base ops R W i K' s:=by
 unfold aOp at*
 split
 ·rename_i ho;simp only [ho] at hh;exact h _ hh
 ·rename_i o ho;simp only [ho] at hh;obtain ⟨e,h1,h2⟩:=hh;exact ⟨e,h1,h _ h2⟩
def C3p (P:Program) (T:I6) (md:Region.Mode) (base:Nat) (ops:List Oper) (R W:Nat->List Nat) (Q:AS->Prop):Nat->Array Bool->AS->Prop
 |0,listed,s=>Region.ready md ops.toArray listed= []/\Q s
 |fuel+1,listed,s=>(Region.ready md ops.toArray listed= []->Q s)/\
   ∀i∈Region.ready md ops.toArray listed,aOp P T base ops R W i (C3p P T md base ops R W Q fuel (listed.setIfInBounds i true)) s
theorem C9a (d:Option Tmp) (v:AV):A0E d (dst d v)=true:=by
 cases d with
 |none=>rfl
 |some k=>simp [dst,A0E]
theorem D08 (d:Option Tmp) (v:AV):Y0 (dst d v)= []:=by cases d<;>rfl
theorem A5n.fit {i:Nat} {o:Oper} {s:AS} {e:T5} (h:A5n P T base ops R W i o s e):A0E o.dst e=true/\ ∀k∈Y0 e,k∈W i:=by
 obtain ⟨s',_,h⟩:=h;rcases h with ⟨_,_,_,h1,h2⟩|⟨_,rfl⟩
 ·exact ⟨h1,h2⟩
 ·exact ⟨C9a _ _,by rw [D08];simp⟩
theorem A5n.local_ (hT:Z6 P T) {i:Nat} {o:Oper} {s s2:AS} {e:T5} (htmp:∀t∈o.looksAt ops.toArray,s2 (.tmp t)=s (.tmp t)) (hid:∀k∈R i,s2 (.box k)=s (.box k)/\s2 (.tok k)=s (.tok k))
  (h:A5n P T base ops R W i o s e):A5n P T base ops R W i o s2 e:=by
 classical
 obtain ⟨s',href,h⟩:=h
 let s3:AS:=fun l=>if s2 l=s l then s' l else s2 l
 have href3:Ref s2 s3:=fun l=>by
  by_cases hl:s2 l=s l
  ·have e3:s3 l=s' l:=if_pos hl;rcases href l with h1|⟨t,b,h1,h2,h3⟩
   ·exact .inl (by rw [e3,h1,hl])
   ·exact .inr ⟨t,b,h1,by rw [hl,h2],by rw [e3,h3]⟩
  ·exact .inl (if_neg hl)
 have htmp3: ∀t∈o.looksAt ops.toArray,s3 (.tmp t)=s' (.tmp t):=fun t ht=>if_pos (htmp t ht);have hid3: ∀k∈R i,s3 (.box k)=s' (.box k)/\s3 (.tok k)=s' (.tok k):=fun k hk=>⟨if_pos (hid k hk).1,if_pos (hid k hk).2⟩;have hg:gw ops s3 o=gw ops s' o:=by
  unfold gw;split
  ·rfl
  ·rename_i j want hgd;split
   ·rfl
   ·rename_i t ht;have:AS.tmp s3 t=AS.tmp s' t:=by
     unfold AS.tmp;rw [htmp3 t (List.mem_append_right _ (by
      unfold B5o at ht;split at ht
      ·rename_i o' ho';simp [hgd,ho',ht]
      ·cases ht))]
    rw [this]
 refine ⟨s3,href3, ?_⟩;rcases h with ⟨h1,h2,h3,h4,h5⟩|⟨h1,h2⟩
 ·have hv: ∀x∈o.op.operands.toList,s'.val x=s3.val x:=fun x hx=>by
   cases x with
   |tmp t=>
    show AS.tmp _ t=AS.tmp _ t;unfold AS.tmp;rw [htmp3 t (List.mem_append_left _ (List.mem_filterMap.2 ⟨.tmp t,hx,rfl⟩))]
   |const v=>rfl
   |global g=>rfl
   |func f=>rfl
  have ha:K9 (A2p s' o) s' s3:=fun k hk=>by
   obtain ⟨q1,q2⟩:=hid3 k (h3 k hk);exact ⟨q1.symm,q2.symm⟩
  exact .inl ⟨hg.trans h1,C5x hT hv ha h2,by rw [C8Y hv ha];exact h3,h4,h5⟩
 ·exact .inr ⟨hg.trans h1,h2⟩
theorem A5n.back (hT:Z6 P T) {i:Nat} {o:Oper} {s:AS} {e:T5} {d:Option Tmp} {e' :T5} (hf:A0E d e' =true) (hl:∀t,d=some t->t∉o.looksAt ops.toArray) (hW:∀k∈Y0 e',k∉R i)
  (h:A5n P T base ops R W i o (s.apply e') e):A5n P T base ops R W i o s e:=
 h.local_ hT (fun t ht=>(B5Z hf (fun hd=>hl t hd ht)).symm) (fun k hk=>by
  obtain ⟨q1,q2⟩:=B6E (s:=s) (e:=e') (k:=k) (fun ht=>hW k ht hk);exact ⟨q1.symm,q2.symm⟩)
theorem A5n.forth (hT:Z6 P T) {i:Nat} {o:Oper} {s:AS} {e:T5} {d:Option Tmp} {e' :T5} (hf:A0E d e' =true) (hl:∀t,d=some t->t∉o.looksAt ops.toArray) (hW:∀k∈Y0 e',k∉R i)
  (h:A5n P T base ops R W i o s e):A5n P T base ops R W i o (s.apply e') e:=
 h.local_ hT (fun t ht=>B5Z hf (fun hd=>hl t hd ht)) (fun k hk=>B6E (fun ht=>hW k ht hk))
def A9P (R W:Nat->List Nat) (i j:Nat):Prop:=(∀k∈W i,k∉R j)/\(∀k∈W j,k∉R i)/\ ∀k∈W i,k∉W j
theorem D1l (hT:Z6 P T) {i j:Nat} {oi oj:Oper} {e:T5} (hj:ops[j]? =some oj) (hap:oi.apart ops.toArray oj=true) (hc:A9P R W i j) {K:AS->Prop} {s:AS}
  (hy:A5n P T base ops R W i oi s e) (h:aOp P T base ops R W j K (s.apply e)):
  aOp P T base ops R W j (fun s' =>A5n P T base ops R W i oi s' e/\K (s'.apply e)) s:=by
 obtain ⟨h1,h2,h3⟩:=Oper.apart_spec hap;obtain ⟨c1,c2,c3⟩:=hc;obtain ⟨f1,f2⟩:=hy.fit;unfold aOp at*
 simp only [hj] at*
 obtain ⟨e',hs,hk⟩:=h;obtain ⟨g1,g2⟩:=hs.fit;refine ⟨e',hs.back hT f1 h1 (fun k hk=>c1 k (f2 k hk)),hy.forth hT g1 h3 (fun k hk=>c2 k (g2 k hk)), ?_⟩;rw [C7Y s g1 f1 (fun t ht hd=>h2 t hd ht) (fun k hk hk' =>c3 k (f2 k hk') (g2 k hk))];exact hk
def A5N (md:Region.Mode) (ops:List Oper):Nat->Oper->Nat->Bool
 |0,_,_=>false
 |n+1,o,k=>o.after.toList.any fun e=>Region.binds md e&&(Nat.beq e.on k||match ops[e.on]? with
  |some o' =>A5N md ops n o' k
  |none=>false)
def B7U (md:Region.Mode) (ops:List Oper) (listed:Array Bool):Prop:=
 ∀k ok,ops[k]? =some ok->listed.getD k false=true-> ∀e∈ok.after,Region.binds md e=true->listed.getD e.on false=true
theorem B6v {listed:Array Bool} (hcl:B7U md ops listed) {i:Nat}: ∀(n:Nat) (o:Oper),A5N md ops n o i=true->(∀e∈o.after,Region.binds md e=true->listed.getD e.on false=true)->listed.getD i false=true
 |0,_,h,_=>by cases h
 |n+1,o,h,ha=>by
  obtain ⟨e,he,hb⟩:=List.any_eq_true.1 h;simp only [D7o,D7r] at hb;have hl:=ha e (by simpa using he) hb.1
  rcases hb.2 with h1|h1
  ·rw [<-D7p h1];exact hl
  ·split at h1
   ·rename_i o' ho';exact B6v hcl n o' h1 (fun e' he' hb' =>hcl e.on o' ho' hl e' he' hb')
   ·cases h1
theorem C7P (hT:Z6 P T) {Q:AS->Prop} {i:Nat} {oi:Oper} {e:T5} (hi:ops[i]? =some oi):
  ∀(fuel:Nat) (listed:Array Bool) (s:AS),
   (∀j oj,ops[j]? =some oj->j≠i->listed.getD j true=false->(∀e∈oj.after,Region.binds md e=true->e.on≠i)->oi.apart ops.toArray oj=true/\(A5N md ops 6 oj i=false->A9P R W i j))->B7U md ops listed->
   i∈Region.ready md ops.toArray listed->A5n P T base ops R W i oi s e->
   C3p P T md base ops R W Q fuel (listed.setIfInBounds i true) (s.apply e)->C3p P T md base ops R W Q (fuel+1) listed s:=by
 intro fuel;have now: ∀ {K:AS->Prop} {s:AS},A5n P T base ops R W i oi s e->K (s.apply e)->aOp P T base ops R W i K s:=fun hy h=>by
  unfold aOp;simp only [hi];exact ⟨e,hy,h⟩
 induction fuel with
 |zero=>
  intro listed s _ _ hr hy H;refine ⟨fun h=>(by rw [h] at hr;cases hr),fun j hj=> ?_⟩
  by_cases hji:j=i
  ·subst hji;exact now hy H
  ·have:=ready_mono hj hji;rw [H.1] at this;cases this
 |succ fuel ih=>
  intro listed s hfree hclo hr hy H;refine ⟨fun h=>(by rw [h] at hr;cases hr),fun j hj=> ?_⟩
  by_cases hji:j=i
  ·subst hji;exact now hy H
  ·have h1:=H.2 j (ready_mono hj hji);obtain ⟨hjun,oj,hoj,hall⟩:=mem_ready.1 hj;have hoj' :ops[j]? =some oj:=by simpa using hoj
   have hnot: ∀e∈oj.after,Region.binds md e=true->e.on≠i:=fun e he hb heq=>by
    have h1:=hall e he hb;have h0:=(mem_ready.1 hr).1;rw [heq] at h1;rcases Nat.lt_or_ge i listed.size with h' |h'
    ·simp [h'] at h0 h1;rw [h0] at h1;cases h1
    ·simp [Array.getElem?_eq_none h'] at h1
   obtain ⟨hap,hcl0⟩:=hfree j oj hoj' hji hjun hnot;have hcl:A9P R W i j:=hcl0 (by
    cases hw:A5N md ops 6 oj i with
    |false=>rfl
    |true=>
     exfalso;have h2:=B6v hclo 6 oj hw (fun e he hb=>by
      have h3:=hall e he hb;rcases Nat.lt_or_ge e.on listed.size with h' |h'
      ·simp [h'] at h3⊢;exact h3
      ·simp [Array.getElem?_eq_none h'] at h3)
     have h0:=(mem_ready.1 hr).1;rcases Nat.lt_or_ge i listed.size with h' |h'
     ·simp [h'] at h0 h2;rw [h0] at h2;cases h2
     ·simp [Array.getElem?_eq_none h'] at h2)
   have hclo' :B7U md ops (listed.setIfInBounds j true):=fun k ok hk hl e he hb=>by
    by_cases hjk:j=k
    ·subst hjk;rw [hoj'] at hk;cases hk;have h3:=hall e he hb;rcases Nat.lt_or_ge e.on listed.size with h' |h'
     ·by_cases hje:j=e.on
      ·rw [<-hje] at h' ⊢;simp [h']
      ·rw [getD_set_ne false hje];simp [h'] at h3⊢;exact h3
     ·simp [Array.getElem?_eq_none h'] at h3
    ·rw [getD_set_ne false hjk] at hl;have h3:=hclo k ok hk hl e he hb
     by_cases hje:j=e.on
     ·have hlt:e.on<listed.size:=by
       rcases Nat.lt_or_ge e.on listed.size with h' |h'
       ·exact h'
       ·simp [Array.getElem?_eq_none h'] at h3
      rw [hje];simp [hlt]
     ·rw [getD_set_ne false hje];exact h3
   have h2:=D1l hT hoj' hap hcl hy h1;have hfree' : ∀k ok,ops[k]? =some ok->k≠i->(listed.setIfInBounds j true).getD k true=false->
     (∀e∈ok.after,Region.binds md e=true->e.on≠i)->oi.apart ops.toArray ok=true/\(A5N md ops 6 ok i=false->A9P R W i k):=fun k ok hk hki hun hno=>by
    refine hfree k ok hk hki ?_ hno
    by_cases hjk:j=k
    ·subst hjk;exact hjun
    ·rw [getD_set_ne true hjk] at hun;exact hun
   refine D1k (fun s' h3=>ih (listed.setIfInBounds j true) s' hfree' hclo' (ready_mono hr (Ne.symm hji)) h3.1 ?_) h2;rw [Array.setIfInBounds_comm _ _ hji];exact h3.2
def B7c (P:Program) (T:I6) (base:Nat) (ops:List Oper) (R W:Nat->List Nat) (Q:AS->Prop):Nat->List Oper->AS->Prop
 |_, [],s=>Q s
 |i,o::r,s=> ∃e,A5n P T base ops R W i o s e/\B7c P T base ops R W Q (i+1) r (s.apply e)
theorem C3q (hT:Z6 P T) {Q:AS->Prop} (hpairs:∀i j oj,i<j->ops[j]? =some oj->A5N md ops 6 oj i=false->A9P R W i j):
  ∀(l:List Oper) (k:Nat) (listed:Array Bool) (s:AS),(∀j,l[j]? =ops[k+j]?)->(∀j,j<k->listed.getD j true=true)->B7U md ops listed->Region.lexFrom md ops.toArray l.length k listed=true->
   B7c P T base ops R W Q k l s->C3p P T md base ops R W Q l.length listed s
 | [],_,_,_,_,_,_,hB,h=>⟨by simpa [Region.lexFrom] using hB,h⟩
 |o::l,k,listed,s,hl,hlist,hclo,hB,h=>by
  have h0:ops[k]? =some o:=by simpa using (hl 0).symm
  simp only [D7z,Region.lexFrom,D7o] at hB;obtain ⟨⟨hr,hf⟩,hB'⟩:=hB;obtain ⟨e,hy,hK⟩:=h;have hr' :k∈Region.ready md ops.toArray listed:=by simpa using hr
  have hks:k<listed.size:=by
   have:=(mem_ready.1 hr').1;rcases Nat.lt_or_ge k listed.size with h|h
   ·exact h
   ·simp [Array.getElem?_eq_none h] at this
  refine C7P hT h0 l.length listed s (fun j oj hj hne hun hno=>⟨Region.free_spec (by simpa using h0) hf j oj (by simpa using hj) hne hun hno,hpairs k j oj ?_ hj⟩) hclo hr' hy
   (C3q hT hpairs l (k+1) _ _ (fun j=>by have:=hl (j+1);simpa [Nat.add_assoc,Nat.add_comm 1 j] using this) (fun j hj=> ?_) ?_ hB' hK)
  ·rcases Nat.lt_or_ge k j with h1|h1
   ·exact h1
   ·have h2:j<k:=by omega
    rw [hlist j h2] at hun;cases hun
  ·by_cases hjk:k=j
   ·subst hjk;simp [hks]
   ·rw [getD_set_ne true hjk];exact hlist j (by omega)
  ·intro j oj hj hlj e he hb;have hall: ∀e∈oj.after,Region.binds md e=true->listed.getD e.on false=true\/False:=fun e he hb=>by
    left
    by_cases hjk:k=j
    ·subst hjk;rw [h0] at hj;cases hj;obtain ⟨_,o',ho',hall⟩:=mem_ready.1 hr';have ho2:ops[k]? =some o' :=by simpa using ho'
     rw [h0] at ho2;cases ho2;have h3:=hall e he hb;rcases Nat.lt_or_ge e.on listed.size with h' |h'
     ·simp [h'] at h3⊢;exact h3
     ·simp [Array.getElem?_eq_none h'] at h3
    ·rw [getD_set_ne false hjk] at hlj;exact hclo j oj hj hlj e he hb
   have h3:=(hall e he hb).resolve_right id
   by_cases hke:k=e.on
   ·rw [<-hke];simp [hks]
   ·rw [getD_set_ne false hke];exact h3
end
def B68 (base:Nat) (listed:Array Bool):Nat->Prop:=fun k=>k<base\/ ∃i,listed.getD i false=true/\k=base+i
theorem C7Q {F:Fr} {T:I6} (hT:Z6 F.P T) {base:Nat} {ops:List Oper} {R W:Nat->List Nat} {md:Region.Mode} (hds:A2O F.N ops=true) {Q:AS->Prop} {Q' :Exit->Act->World->Prop}
  (hQ:∀s a w A,S7 F A s a w->(∀k,A k->k<base+ops.length)->Q s->Q' .normal a w):
  ∀(fuel:Nat) (listed:Array Bool) (s:AS) (a:Act) (w:World),S7 F (B68 base listed) s a w->listed.size=ops.length->C3p F.P T md base ops R W Q fuel listed s->wpAny F.P md ops.toArray Q' fuel listed a w:=by
 have hlt: ∀(listed:Array Bool),listed.size=ops.length-> ∀k,B68 base listed k->k<base+ops.length:=by
  intro listed hs k hk;rcases hk with hk|⟨i,h1,rfl⟩
  ·omega
  ·have:i<listed.size:=by
    rcases Nat.lt_or_ge i listed.size with h|h
    ·exact h
    ·simp [Array.getElem?_eq_none h] at h1
   omega
 intro fuel
 induction fuel with
 |zero=>intro listed s a w hs hsz h;exact ⟨h.1,hQ s a w _ hs (hlt listed hsz) h.2⟩
 |succ fuel ih=>
  intro listed s a w hs hsz h;refine ⟨fun h0=>hQ s a w _ hs (hlt listed hsz) (h.1 h0),fun i hi=> ?_⟩;have h1:=h.2 i hi;obtain ⟨hun,o,ho,_⟩:=mem_ready.1 hi;have ho' :ops[i]? =some o:=by simpa using ho
  have hmem:o∈ops:=D7v ho';have hd:=B39 hds hmem;have hil:i<listed.size:=by
   rcases Nat.lt_or_ge i listed.size with h|h
   ·exact h
   ·simp [Array.getElem?_eq_none h] at hun
  have hiA: ¬B68 base listed (base+i):=by
   rintro (h|⟨j,hj1,h2⟩)
   ·omega
   ·have:j=i:=by omega
    subst this;simp [hil] at hun hj1;rw [hun] at hj1;cases hj1
  have hset: ∀k,(B68 base listed k\/k=base+i)->B68 base (listed.setIfInBounds i true) k:=by
   rintro k ((hk|⟨j,h1,rfl⟩)|rfl)
   ·exact .inl hk
   ·exact .inr ⟨j,getD_set_true h1,rfl⟩
   ·exact .inr ⟨i,by simp [hil],rfl⟩
  have hsz' :(listed.setIfInBounds i true).size=ops.length:=by simpa using hsz
  unfold aOp at h1;simp only [ho'] at h1;obtain ⟨e,⟨s',href,hstep⟩,hk⟩:=h1;have hs' :=hs.ref href;unfold wpOp;simp only [ho];have hgw: ∀b,gw ops s' o=some b->Region.wanted o (yielded ops.toArray a.tmps)=b:=by
   intro b hb;unfold gw at hb;split at hb
   ·rename_i hg;cases hb;simp [Region.wanted,hg]
   ·rename_i j want hg;split at hb
    ·cases hb
    ·rename_i d hgd;split at hb
     ·rename_i b' hb';cases hb;exact B3a hg hgd (hs'.gval d b' hb')
     ·split at hb
      ·rename_i vs hvs;cases hb;obtain ⟨us,hu⟩:=hs'.gtup d vs hvs;exact C0J hg hgd hu
      ·cases hb
  rcases hstep with ⟨g1,g2,_,_,_⟩|⟨g1,rfl⟩
  ·simp only [hgw true g1,if_true];left;refine C2H hT hd g2 a w hs' hiA _ Q' (fun a' w' hs2=> ?_);exact ih _ (s.apply e) a' w' ((hs2.unref (href.apply e)).mono hset) hsz' hk
  ·simp only [hgw false g1,Bool.false_eq_true,if_false];exact ih _ _ _ w (((hs.skip o hd)).mono (fun k hk=>hset k (.inl hk))) hsz' hk
end Go.Vc
namespace Go.Vc
open Go.RowKit
def C3P (a b:List Nat):Bool:=a.all fun k=> !B0P k b
theorem B6R {a b:List Nat} (h:C3P a b=true): ∀k∈a,k∉b:=by
 intro k hk hb;have h1:=D7S.1 h k hk;have:B0P k b=true:=List.any_eq_true.2 ⟨k,hb,Nat.beq_refl k⟩;rw [this] at h1;cases h1
def C0c:Op->List Operand
 | .slice _ x l h m=>x::(l.toList++(h.toList++m.toList))
 | .call c=>(match c.callee with
  | .value f=> [f]
  | .invoke r _=> [r]
  | .builtin _=> [])++c.args.toList
 |o=>o.operands.toList
theorem D0r (o:Op):C0c o=o.operands.toList:=by
 cases o<;>try rfl
 case slice t x l h m=>cases l<;>cases h<;>cases m<;>simp [C0c,Op.operands]
 case call c=>
  obtain ⟨f,as,ts⟩:=c;cases f<;>simp [C0c,Op.operands,Call.operands]
def C0v (s:AS) (o:Oper):List Nat:=(C0c o.op).flatMap fun x=>B9 (s.val x)++A7T o s (s.val x)
theorem D2s:C0v=A2p:=by
 funext s o
 simp only [C0v,A2p,D0r]
abbrev Fps:=List (Nat×List Nat×List Nat)
def A7G (ops:List Oper) (o:Oper) (r w:List Nat):Fps->Bool
 | []=>true
 |(k,r',w')::l=>((C3P w' r&&(C3P w' r&&(C3P w r' &&C3P w' w)))||A5N .any ops 6 o k)&&A7G ops o r w l
theorem B59 {ops:List Oper} {o:Oper} {r w:List Nat}: ∀ {l:Fps},A7G ops o r w l=true-> ∀k r' w',(k,r',w')∈l->A5N .any ops 6 o k=false->
  (∀x∈w',x∉r)/\(∀x∈w,x∉r')/\ ∀x∈w',x∉w
 |(k0,r0,w0)::l,h,k,r',w',hm,hno=>by
  simp only [A7G,D7o,D7r] at h;rcases List.mem_cons.1 hm with hm|hm
  ·cases hm;rcases h.1.symm with h1|h1
   ·rw [h1] at hno;cases hno
   ·exact ⟨B6R h1.1,B6R h1.2.2.1,B6R h1.2.2.2⟩
  ·exact B59 h.2 k r' w' hm hno
noncomputable def B0m (l:List Nat):(List Nat->Prop)->Prop:=
 List.rec (motive:=fun _=>(List Nat->Prop)->Prop) (fun K=>K []) (fun a _ ih K=>ih fun r' =>K (a::r')) l
theorem C2a: ∀(l:List Nat) (K:List Nat->Prop),B0m l K=K l
 | [],_=>rfl
 |a::r,K=>by
  show B0m r (fun r' =>K (a::r'))=_;exact C2a r _
noncomputable def B7O (P:Program) (T:I6) (base:Nat) (ops:List Oper) (ih:Nat->Fps->St->(St->Prop)->Prop) (o:Oper) (i:Nat) (fp:Fps) (st:St) (K:St->Prop):Prop:=
 match o.guard with
 |none=>A1a P T (base+i) (St.get st) o fun e=>B0m (C0v (St.get st) o) fun fr=>B0m (Y0 e) fun fw=>match A0E o.dst e&&A7G ops o fr fw fp with
  |true=>V8 e st fun st' =>ih (i+1) ((i,fr,fw)::fp) st' K
  |false=>False
 |some (j,want)=>match B5o ops j with
  |none=>False
  |some d=>match AS.tmp (St.get st) d with
   | .bool b=>match Bool.xor b want with
    |false=>A1a P T (base+i) (St.get st) o fun e=>B0m (C0v (St.get st) o) fun fr=>B0m (Y0 e) fun fw=>match A0E o.dst e&&A7G ops o fr fw fp with
     |true=>V8 e st fun st' =>ih (i+1) ((i,fr,fw)::fp) st' K
     |false=>False
    |true=>V8 (dst o.dst (.tup [])) st fun st' =>ih (i+1) fp st' K
   | .sb b=>(b=want->A1a P T (base+i) (St.get ((.tmp d, .av (.bool want))::st)) o fun e=>B0m (C0v (St.get ((.tmp d, .av (.bool want))::st)) o) fun fr=>B0m (Y0 e) fun fw=>match A0E o.dst e&&A7G ops o fr fw fp with
      |true=>V8 e ((.tmp d, .av (.bool want))::st) fun st' =>ih (i+1) ((i,fr,fw)::fp) st' K
      |false=>False)/\
     (b=(!want)->V8 (dst o.dst (.tup [])) ((.tmp d, .av (.bool (!want)))::st) fun st' =>ih (i+1) fp st' K)
   | .tup _=>V8 (dst o.dst (.tup [])) st fun st' =>ih (i+1) fp st' K
   |_=>False
noncomputable def B44 (P:Program) (T:I6) (base:Nat) (ops:List Oper) (i:Nat) (l:List Oper) (fp:Fps) (st:St) (K:St->Prop):Prop:=
 List.rec (motive:=fun _=>Nat->Fps->St->(St->Prop)->Prop) (fun _ _ st K=>K st) (fun o _ ih i fp st K=>B7O P T base ops ih o i fp st K) l i fp st K
theorem Ref.trans {s s' s'' :AS} (h:Ref s s') (h':Ref s' s''):Ref s s'' :=fun l=>by
 rcases h' l with h1|⟨t,b,h1,h2,h3⟩
 ·rw [h1];exact h l
 ·rcases h l with g1|⟨t',b',g1,g2,g3⟩
  ·exact .inr ⟨t,b,h1,by rw [<-g1,h2],h3⟩
  ·rw [h2] at g3;cases g3
theorem Ref.lit {st:St} {d:Nat} {b:Bool} (hd:AS.tmp (St.get st) d= .sb b):Ref (St.get st) (St.get ((.tmp d, .av (.bool b))::st)):=fun l=>by
 have hd' :St.get st (.tmp d)= .av (.sb b):=by
  unfold AS.tmp at hd;split at hd
  ·rename_i v hv;rw [hv,hd]
  ·cases hd
 have e:St.get ((.tmp d, .av (.bool b))::st)=AS.put (St.get st) (.tmp d) (.av (.bool b)):=rfl;rw [e];cases l with
 |tmp t=>
  by_cases ht:t=d
  ·subst ht;exact .inr ⟨t,b,rfl,hd',A8s _ _ _⟩
  ·exact .inl (B5J _ _ _ _ ht)
 |box i=>exact .inl rfl
 |tok i=>exact .inl rfl
def D4M (fp:Fps) (i:Nat) (R W:Nat->List Nat):Prop:= ∀k,k<i->(∃r w,(k,r,w)∈fp/\R k=r/\W k=w)\/(R k= []/\W k= [])
theorem B5R {P:Program} {T:I6} {base:Nat} {ops:List Oper} {K:St->Prop}:
  ∀(l:List Oper) (i:Nat) (fp:Fps) (st:St) (s:AS) (R0 W0:Nat->List Nat),(∀j,l[j]? =ops[i+j]?)->Ref s (St.get st)->D4M fp i R0 W0->B44 P T base ops i l fp st K->
   ∃R W:Nat->List Nat,(∀k,k<i->R k=R0 k/\W k=W0 k)/\B7c P T base ops R W (fun s=> ∃st,Ref s (St.get st)/\K st) i l s/\
    ∀k j oj,k<j->i<=j->ops[j]? =some oj->A5N .any ops 6 oj k=false->A9P R W k j
 | [],i,fp,st,s,R0,W0,hl,href,_,h=>by
  refine ⟨R0,W0,fun _ _=>⟨rfl,rfl⟩,⟨st,href,h⟩,fun k j oj _ hij hj=> ?_⟩;have:=hl (j-i);rw [show i+(j-i)=j by omega,hj] at this
  simp at this
 |o::l,i,fp,st,s,R0,W0,hl,href,hcov,h=>by
  have ho:ops[i]? =some o:=by simpa using (hl 0).symm
  have hl' : ∀j,l[j]? =ops[i+1+j]? :=fun j=>by have:=hl (j+1);simpa [Nat.add_assoc,Nat.add_comm 1 j] using this
  have run: ∀st,Ref s (St.get st)->gw ops (St.get st) o=some true->
    (A1a P T (base+i) (St.get st) o fun e=>match A0E o.dst e&&A7G ops o (A2p (St.get st) o) (Y0 e) fp with
      |true=>V8 e st fun st' =>B44 P T base ops (i+1) l ((i,A2p (St.get st) o,Y0 e)::fp) st' K
      |false=>False)->
    ∃R W:Nat->List Nat,(∀k,k<i->R k=R0 k/\W k=W0 k)/\B7c P T base ops R W (fun s=> ∃st,Ref s (St.get st)/\K st) i (o::l) s/\
     ∀k j oj,k<j->i<=j->ops[j]? =some oj->A5N .any ops 6 oj k=false->A9P R W k j:=by
   intro st href hgw h;obtain ⟨e,hy,hk⟩:=B4U h;split at hk
   ·rename_i hb;simp only [D7o] at hb;rw [A5W] at hk;obtain ⟨R,W,h1,h2,h3⟩:=B5R l (i+1) _ (e++st) (s.apply e) (L8 R0 i (A2p (St.get st) o)) (L8 W0 i (Y0 e)) hl' (by rw [A8i];exact href.apply e) (fun k hk=>by
     by_cases hki:k=i
     ·subst hki;exact .inl ⟨_,_,List.mem_cons_self ..,H3 _ _ _,H3 _ _ _⟩
     ·rw [K1 _ _ hki,K1 _ _ hki];rcases hcov k (by omega) with ⟨r,w,g1,g2,g3⟩|g
      ·exact .inl ⟨r,w,List.mem_cons_of_mem _ g1,g2,g3⟩
      ·exact .inr g) hk
    have hRi:R i=A2p (St.get st) o/\W i=Y0 e:=by
     obtain ⟨g1,g2⟩:=h1 i (by omega)
     rw [H3] at g1 g2;exact ⟨g1,g2⟩
    have hRk: ∀k,k<i->R k=R0 k/\W k=W0 k:=fun k hk=>by
     obtain ⟨g1,g2⟩:=h1 k (by omega)
     rw [K1 _ _ (by omega)] at g1 g2
     exact ⟨g1,g2⟩
    refine ⟨R,W,hRk,⟨e,⟨St.get st,href, .inl ⟨hgw,hy,by rw [hRi.1];exact fun _ h=>h,hb.1,by rw [hRi.2];exact fun _ h=>h⟩⟩,h2⟩,fun k j oj hkj hij hj hno=> ?_⟩
    by_cases hji:j=i
    ·subst hji;rw [ho] at hj;cases hj;unfold A9P;rw [(hRk k hkj).1,(hRk k hkj).2,hRi.1,hRi.2];rcases hcov k hkj with ⟨r,w,g1,g2,g3⟩|⟨g2,g3⟩
     ·rw [g2,g3];exact B59 hb.2 k r w g1 hno
     ·rw [g2,g3];simp
    ·exact h3 k j oj hkj (by omega) hj hno
   ·exact hk.elim
  have pass: ∀st,Ref s (St.get st)->gw ops (St.get st) o=some false->
    (V8 (dst o.dst (.tup [])) st fun st' =>B44 P T base ops (i+1) l fp st' K)->
    ∃R W:Nat->List Nat,(∀k,k<i->R k=R0 k/\W k=W0 k)/\B7c P T base ops R W (fun s=> ∃st,Ref s (St.get st)/\K st) i (o::l) s/\
     ∀k j oj,k<j->i<=j->ops[j]? =some oj->A5N .any ops 6 oj k=false->A9P R W k j:=by
   intro st href hgw h;rw [A5W] at h;obtain ⟨R,W,h1,h2,h3⟩:=B5R l (i+1) fp _ (s.apply (dst o.dst (.tup []))) (L8 R0 i []) (L8 W0 i []) hl' (by rw [A8i];exact href.apply _) (fun k hk=>by
     by_cases hki:k=i
     ·subst hki;exact .inr ⟨H3 _ _ _,H3 _ _ _⟩
     ·rw [K1 _ _ hki,K1 _ _ hki];exact hcov k (by omega)) h
   have hRi:R i= []/\W i= []:=by
    obtain ⟨g1,g2⟩:=h1 i (by omega)
    rw [H3] at g1 g2;exact ⟨g1,g2⟩
   have hRk: ∀k,k<i->R k=R0 k/\W k=W0 k:=fun k hk=>by
    obtain ⟨g1,g2⟩:=h1 k (by omega)
    rw [K1 _ _ (by omega)] at g1 g2
    exact ⟨g1,g2⟩
   refine ⟨R,W,hRk,⟨_,⟨St.get st,href, .inr ⟨hgw,rfl⟩⟩,h2⟩,fun k j oj hkj hij hj hno=> ?_⟩
   by_cases hji:j=i
   ·subst hji;unfold A9P;rw [hRi.1,hRi.2];simp
   ·exact h3 k j oj hkj (by omega) hj hno
  have gws: ∀(st:St) (j:Nat) (want b:Bool) (d:Tmp),o.guard=some (j,want)->B5o ops j=some d->AS.tmp (St.get st) d= .bool b->gw ops (St.get st) o=some (b==want):=by
   intro st j want b d h1 h2 h3;simp only [gw,h1,h2,h3,T1]
  change B7O P T base ops (fun i fp st K=>B44 P T base ops i l fp st K) o i fp st K at h;unfold B7O at h;simp only [D2s,C2a] at h;split at h
  ·rename_i hg;exact run st href (by simp [gw,hg]) h
  ·rename_i j want hg;split at h
   ·exact h.elim
   ·rename_i d hgd;split at h
    ·rename_i b hb;have hw:=gws st j want b d hg hgd hb;split at h
     ·rename_i hx;exact run st href (by rw [hw];cases b<;>cases want<;>simp_all) h
     ·rename_i hx;exact pass st href (by rw [hw];cases b<;>cases want<;>simp_all) h
    ·rename_i b hb;have laid: ∀v,AS.tmp (St.get ((.tmp d, .av (.bool v))::st)) d= .bool v:=fun v=>by
      have e:St.get ((.tmp d, .av (.bool v))::st)=AS.put (St.get st) (.tmp d) (.av (.bool v)):=rfl;simp only [AS.tmp,e,A8s]
     by_cases hbw:b=want
     ·have h1:=h.1 hbw;subst hbw;exact run _ (href.trans (Ref.lit hb)) (by rw [gws _ j b b d hg hgd (laid b)];simp) h1
     ·have hbn:b= !want:=by cases b<;>cases want<;>simp_all
      have h1:=h.2 hbn;rw [hbn] at hb;exact pass _ (href.trans (Ref.lit hb)) (by rw [gws _ j want (!want) d hg hgd (laid _)];simp) h1
    ·rename_i vs hb;exact pass st href (by simp only [gw,hg,hgd,hb,T1]) h
    ·exact h.elim
theorem S7.grow {F:Fr} {A:Nat->Prop} {s:AS} {a:Act} {w:World} (h:S7 F A s a w):S7 F A s a { w with drawn:=w.drawn+1}:=by
 obtain ⟨β,τ,ok,hx⟩:=h;exact ⟨β,τ,ok,hx.grow { w with drawn:=w.drawn+1} (D7Y _) (fun _ _=>rfl) (fun _=>(fun _=>rfl)) rfl rfl rfl⟩
theorem C4J {F:Fr} {T:I6} (hT:Z6 F.P T) {id nx:Nat} {ops:Array Oper} (hds:A2O F.N ops.toList=true) {Q:Exit->Act->World->Prop} {K:St->Prop}
  (hQ:∀st a w A,S7 F A (St.get st) a w->(∀k,A k->k<nx+ops.toList.length)->K st->Q .normal a w) {st:St} {a:Act} {w:World} {A:Nat->Prop} (h:S7 F A (St.get st) a w) (hA:∀k,A k->k<nx)
  (hv:B8d F.P T nx ops.toList 0 ops.toList st K):(Code.region id ops false).wp F.P Q a w:=by
 apply wp_region;have:=B4t hT nx ops.toList hds Q K (fun st a w hs hk=>hQ st a w _ hs (fun _ h=>h) hk) ops.toList 0 st a w (by simp) (by simp) (h.mono (fun k hk=>by have:=hA k hk;omega)) hv
 rw [List.range_eq_range'];simpa using this
theorem C8d {F:Fr} {T:I6} (hT:Z6 F.P T) (hm:F.P.follows .mixedOrders=true) {id nx:Nat} {ops:Array Oper} (hds:A2O F.N ops.toList=true) (hB:Region.lexB .any ops=true) {Q:Exit->Act->World->Prop} {K:St->Prop}
  (hQ:∀st a w A,S7 F A (St.get st) a w->(∀k,A k->k<nx+ops.toList.length)->K st->Q .normal a w) {st:St} {a:Act} {w:World} {A:Nat->Prop} (h:S7 F A (St.get st) a w) (hA:∀k,A k->k<nx)
  (hv:B44 F.P T nx ops.toList 0 ops.toList [] st K):(Code.region id ops true).wp F.P Q a w:=by
 apply wp_region_any hm;simp only [Region.lexB,D7o] at hB;obtain ⟨R,W,_,h2,h3⟩:=B5R ops.toList 0 [] st (St.get st) (fun _=> []) (fun _=> []) (by simp) (Ref.refl _) (fun k hk=>by omega) hv
 have h4:=C3q hT (md:= .any) (fun i j oj hij hj hno=>h3 i j oj hij (Nat.zero_le _) hj hno) ops.toList 0 (Array.replicate ops.size false) (St.get st) (by simp) (fun j hj=>by omega) (fun k ok hk hl=>by
   rcases Nat.lt_or_ge k ops.size with h' |h'
   ·simp [h'] at hl
   ·simp [h'] at hl) (by simpa using hB.2) h2
 have h5:=C7Q hT (base:=nx) (ops:=ops.toList) (Q' :=Q) hds (fun s a w A hs hA ⟨st',href,hk⟩=>hQ st' a w A (hs.ref href) hA hk) _ _ _ a _ ((h.grow).mono (fun k hk=>Or.inl (hA k hk))) (by simp) h4
 simpa using h5
end Go.Vc
namespace Go.Vc
open Go.RowKit
abbrev O1:=List (Nat×Option Nat)
def O1.at:O1->Nat->Option Nat
 | [],i=>some i
 |(j,o)::r,i=>match Nat.beq i j with
  |true=>o
  |false=>O1.at r i
def B5r (ρ:O1) (i' i:Nat):Bool:=match O1.at ρ i' with
 |some j=>Nat.beq j i
 |none=>false
def C8p (ρ:O1) (i':Nat):Bool:=match O1.at ρ i' with
 |some _=>false
 |none=>true
def C9Y (k k':IntKind):Bool:=decide (k=k')
def wkS (ρ:O1) (nx:Nat) (v v':AV) (K:Prop):Prop:=match v' with
 | .ptr i' o' =>match v with
  | .ptr i o=>match B5r ρ i' i&&(Nat.blt i' nx&&Nat.beq o o') with
   |true=>K
   |false=>False
  |_=>False
 | .int k' n' =>match v with
  | .int k n=>match C9Y k k' with
   |true=>n=n' /\K
   |false=>False
  |_=>False
 | .sb b' =>match T1 v with
  |some b=>b=b' /\K
  |none=>False
 | .fn f' =>match v with
  | .fn f=>match Nat.beq f f' with
   |true=>K
   |false=>False
  |_=>False
 | .nilp=>match v with
  | .nilp=>K
  |_=>False
 | .nilS=>match v with
  | .nilS=>K
  |_=>False
 |_=>False
def C1N (ρ:O1) (nx:Nat):List AV->List AV->Prop->Prop
 | [], [],K=>K
 |v::vs,v' ::vs',K=>wkS ρ nx v v' (C1N ρ nx vs vs' K)
 |_,_,_=>False
def wkC (ρ:O1) (nx:Nat) (v v':AV) (K:Prop):Prop:=match v' with
 | .junk=>K
 | .int k' n' =>match v with
  | .int k n=>match C9Y k k' with
   |true=>n=n' /\K
   |false=>False
  |_=>False
 | .bool b' =>match T1 v with
  |some b=>b=b' /\K
  |none=>False
 | .sb b' =>match T1 v with
  |some b=>b=b' /\K
  |none=>False
 | .lst sz' f' xs' =>match v with
  | .lst sz f xs=>match Nat.beq sz sz' with
   |true=>(f' =true->f=true)/\(xs=xs' /\K)
   |false=>False
  | .nilS=>xs' = []/\K
  |_=>False
 | .own t' =>match v with
  | .own t=>match B5r ρ t' t&&Nat.blt t' nx with
   |true=>K
   |false=>False
  | .nilS=>match C8p ρ t' &&Nat.blt t' nx with
   |true=>K
   |false=>False
  | .ali t=>match B5r ρ t' t&&Nat.blt t' nx with
   |true=>K
   |false=>False
  |_=>False
 | .ali t' =>match v with
  | .own t=>match B5r ρ t' t&&Nat.blt t' nx with
   |true=>K
   |false=>False
  | .ali t=>match B5r ρ t' t&&Nat.blt t' nx with
   |true=>K
   |false=>False
  |_=>False
 | .ptr i' o' =>match v with
  | .ptr i o=>match B5r ρ i' i&&(Nat.blt i' nx&&Nat.beq o o') with
   |true=>K
   |false=>False
  |_=>False
 | .bsl i' n' =>match v with
  | .bsl i n=>match B5r ρ i' i&&(Nat.blt i' nx&&Nat.beq n n') with
   |true=>K
   |false=>False
  |_=>False
 | .clo f' bs' cs' =>match v with
  | .clo f bs cs=>match Nat.beq f f' with
   |true=>C1N ρ nx bs bs' (C1N ρ nx cs cs' K)
   |false=>False
  |_=>False
 | .rp cs' =>match v with
  | .rp cs=>cs=cs' /\K
  |_=>False
 | .fn f' =>match v with
  | .fn f=>match Nat.beq f f' with
   |true=>K
   |false=>False
  |_=>False
 | .nilp=>match v with
  | .nilp=>K
  |_=>False
 | .nilS=>match v with
  | .nilS=>K
  |_=>False
 |_=>False
def wkL (ρ:O1) (nx:Nat):List AV->List AV->Prop->Prop
 | [], [],K=>K
 |v::vs,v' ::vs',K=>wkC ρ nx v v' (wkL ρ nx vs vs' K)
 |_,_,_=>False
def wkV (ρ:O1) (nx:Nat) (v v':AV) (K:Prop):Prop:=match v' with
 | .agg cs' =>match v with
  | .agg cs=>wkL ρ nx cs cs' K
  |_=>False
 |v' =>wkC ρ nx v v' K
def wkR (m nx:Nat) (ρ:O1) (s:AS):St->Prop
 | []=>True
 |(.tmp d, .av v')::r=>wkV ρ nx (s.tmp d) v' (wkR m nx ρ s r)
 |(.box i', .box cs')::r=>match O1.at ρ i' with
  |some i=>match s (.box i) with
   | .box cs=>match Nat.blt i' nx&&(Nat.beq i i' ||(Nat.ble m i&&Nat.ble m i')) with
    |true=>wkL ρ nx cs cs' (wkR m nx ρ s r)
    |false=>False
   |_=>False
  |none=>False
 |(.tok t', .tok e' sz' xs')::r=>match Nat.blt t' nx with
  |true=>match O1.at ρ t' with
   |some t=>match s (.tok t) with
    | .tok e sz xs=>match Nat.beq e e' &&Nat.beq sz sz' with
     |true=>xs=xs' /\wkR m nx ρ s r
     |false=>False
    |_=>False
   |none=>match Nat.blt 0 sz' with
    |true=>xs' = []/\wkR m nx ρ s r
    |false=>False
  |false=>False
 |(.tmp _, .none)::r=>wkR m nx ρ s r
 |(.box _, .none)::r=>wkR m nx ρ s r
 |(.tok _, .none)::r=>wkR m nx ρ s r
 |_=>False
def A9d:St->List Nat
 | []=> []
 |(.box i,_)::r=>i::A9d r
 |(.tmp _,_)::r=>A9d r
 |(.tok _,_)::r=>A9d r
def A9J:St->List Nat
 | []=> []
 |(.tok i,_)::r=>i::A9J r
 |(.tmp _,_)::r=>A9J r
 |(.box _,_)::r=>A9J r
def D23:Option Nat->Option Nat->Bool
 |some a,some b=>Nat.beq a b
 |_,_=>false
def inj (ρ:O1) (ks:List Nat):Bool:=ks.all fun i=>ks.all fun j=>Nat.beq i j|| !D23 (O1.at ρ i) (O1.at ρ j)
def C8m (m:Nat) (ρ:O1):Bool:=ρ.all fun p=>Nat.ble m p.1
def Wk (m nx:Nat) (ρ:O1) (s:AS) (st':St):Prop:=
 (inj ρ (A9d st')&&(inj ρ (A9J st')&&(C8m m ρ&&Nat.ble m nx)))=true/\wkR m nx ρ s st'
theorem C3x {m:Nat}: ∀ {ρ:O1},C8m m ρ=true-> ∀j,j<m->O1.at ρ j=some j
 | [],_,_,_=>rfl
 |(i,o)::r,h,j,hj=>by
  simp only [C8m,List.all_cons,D7o] at h;have h1:m<=i:=D7N h.1;simp only [O1.at,A7V (show j≠i by omega)]
  exact C3x h.2 j hj
theorem C37 {ρ:O1} {ks:List Nat} (h:inj ρ ks=true) {i j a:Nat} (hi:i∈ks) (hj:j∈ks) (h1:O1.at ρ i=some a) (h2:O1.at ρ j=some a):i=j:=by
 have:=D7S.1 (D7S.1 h i hi) j hj;rw [h1,h2] at this;simp only [D23,A0X,D7s,Bool.or_false] at this;exact D7p this
theorem B9b: ∀ {st:St} {i:Nat} {cs:List AV},St.get st (.box i)= .box cs->i∈A9d st
 | [],_,_,h=>by cases h
 |(l,c)::r,i,cs,h=>by
  simp only [St.get] at h;split at h
  ·rename_i hb;cases l<;>simp only [Loc.beq] at hb<;>try cases hb
   rw [D7p hb];simp [A9d]
  ·have:=B9b (st:=r) h;cases l<;>simp [A9d,this]
theorem B9c: ∀ {st:St} {i:Nat} {e sz xs},St.get st (.tok i)= .tok e sz xs->i∈A9J st
 | [],_,_,_,_,h=>by cases h
 |(l,c)::r,i,e,sz,xs,h=>by
  simp only [St.get] at h;split at h
  ·rename_i hb;cases l<;>simp only [Loc.beq] at hb<;>try cases hb
   rw [D7p hb];simp [A9J]
  ·have:=B9c (st:=r) h;cases l<;>simp [A9J,this]
section
variable {ρ:O1} {nx:Nat}
theorem D3a {v v' :AV} {K:Prop} (h:wkS ρ nx v v' K):K:=by
 unfold wkS at h
 repeat' split at h
 all_goals first|exact h.elim|exact h.2|exact h
theorem C0R: ∀ {vs vs' :List AV} {K:Prop},C1N ρ nx vs vs' K->K
 | [], [],_,h=>h
 | [],_::_,_,h=>h.elim
 |_::_, [],_,h=>h.elim
 |_::_,_::_,_,h=>C0R (D3a h)
theorem C9j {v v' :AV} {K:Prop} (h:wkC ρ nx v v' K):K:=by
 unfold wkC at h
 repeat' split at h
 all_goals first|exact h|exact C0R (C0R h)|exact h.2.2|exact h.2|exact h.elim
theorem C0Q: ∀ {vs vs' :List AV} {K:Prop},wkL ρ nx vs vs' K->K
 | [], [],_,h=>h
 |v::vs,v' ::vs',K,h=>C0Q (C9j h)
 | [],_::_,_,h=>h.elim
 |_::_, [],_,h=>h.elim
theorem C9k {v v' :AV} {K:Prop} (h:wkV ρ nx v v' K):K:=by
 unfold wkV at h
 repeat' split at h
 ·exact C0Q h
 ·exact h.elim
 ·exact C9j h
theorem A3S: ∀ {vs vs' :List AV} {K:Prop},wkL ρ nx vs vs' K->vs.length=vs'.length/\ ∀(j:Nat) (v' :AV),vs'[j]? =some v' -> ∃v K',vs[j]? =some v/\wkC ρ nx v v' K'
 | [], [],_,h=>by simp
 |v::vs,v' ::vs',K,h=>by
  obtain ⟨h1,h2⟩:=A3S (C9j h);refine ⟨by simp [h1],fun j x hj=> ?_⟩
  cases j with
  |zero=>cases hj;exact ⟨v,_,rfl,h⟩
  |succ j=>simpa using h2 j x (by simpa using hj)
 | [],_::_,_,h=>h.elim
 |_::_, [],_,h=>h.elim
structure WkM (ρ:O1) (nx:Nat) (m m' :G6):Prop where
 w:m'.w=m.w
 ok:m'.ok=m.ok
 A:m'.A=fun i=>i<nx
 beta: ∀i' i,O1.at ρ i' =some i->m'.β i' =m.β i
 tau: ∀t' t,O1.at ρ t' =some t->m'.τ t' =m.τ t
 tauN: ∀t',O1.at ρ t' =none->m'.τ t' =none
 tok: ∀t' e sz xs,m'.s (.tok t')= .tok e sz xs->(∃t,O1.at ρ t' =some t/\m.s (.tok t)= .tok e sz xs)\/(O1.at ρ t' =none/\xs= []/\0<sz)
 box: ∀i' cs',m'.s (.box i')= .box cs' -> ∃i cs,O1.at ρ i' =some i/\m.s (.box i)= .box cs
theorem A5w {i' i:Nat} (h:B5r ρ i' i=true):O1.at ρ i' =some i:=by
 unfold B5r at h;split at h
 ·rename_i j hj;rw [hj,D7p h]
 ·cases h
theorem C8q {i' :Nat} (h:C8p ρ i' =true):O1.at ρ i' =none:=by
 unfold C8p at h;split at h
 ·cases h
 ·assumption
theorem D6g {m m' :G6} (hm:WkM ρ nx m m') {v v' :AV} {K:Prop} {u:Value} (h:wkS ρ nx v v' K) (hv:VRs m v u):VRs m' v' u:=by
 unfold wkS at h;split at h
 ·split at h
  ·rename_i i o;split at h
   ·rename_i hk;simp only [D7o] at hk;have ht:=A5w hk.1;have ho:=D7p hk.2.2;subst ho;refine ⟨by rw [hm.A];exact V5 hk.2.1,hv.2.1,fun ⟨cs',hs⟩=> ?_⟩
    obtain ⟨i2,cs,h1,h2⟩:=hm.box _ cs' hs;rw [ht] at h1;cases h1;rw [hm.beta _ i ht];exact hv.2.2 ⟨cs,h2⟩
   ·exact h.elim
  ·exact h.elim
 ·split at h
  ·split at h
   ·rename_i hk;obtain ⟨rfl,_⟩:=h;have:=of_decide_eq_true hk;subst this;exact hv
   ·exact h.elim
  ·exact h.elim
 ·split at h
  ·rename_i b hb;obtain ⟨rfl,_⟩:=h;cases v<;>simp only [T1] at hb<;>cases hb<;>exact hv
  ·exact h.elim
 ·split at h
  ·split at h
   ·rename_i hk;rw [<-D7p hk];exact hv
   ·exact h.elim
  ·exact h.elim
 ·split at h
  ·exact hv
  ·exact h.elim
 ·split at h
  ·exact hv
  ·exact h.elim
 ·exact h.elim
theorem C7D {m m' :G6} (hm:WkM ρ nx m m') {vs vs' :List AV} {K:Prop} {us:Array Value} (h:C1N ρ nx vs vs' K) (hv:VRl m vs us):VRl m' vs' us:=by
 have key: ∀(vs vs' :List AV) (K:Prop),C1N ρ nx vs vs' K->vs.length=vs'.length/\ ∀(j:Nat) (v' :AV),vs'[j]? =some v' -> ∃v K',vs[j]? =some v/\wkS ρ nx v v' K' :=by
  intro vs
  induction vs with
  |nil=>
   intro vs' K h;cases vs' with
   |nil=>exact ⟨rfl,fun j v' hj=>by simp at hj⟩
   |cons _ _=>exact h.elim
  |cons v vs ih=>
   intro vs' K h;cases vs' with
   |nil=>exact h.elim
   |cons v' vs' =>
    obtain ⟨g1,g2⟩:=ih vs' K (D3a h);refine ⟨by simp [g1],fun j w hj=> ?_⟩
    cases j with
    |zero=>cases hj;exact ⟨v,_,rfl,h⟩
    |succ j=>simpa using g2 j w (by simpa using hj)
 obtain ⟨k1,k2⟩:=key vs vs' K h;refine ⟨hv.1.trans k1,fun j c hj=> ?_⟩;obtain ⟨v,K',q1,q2⟩:=k2 j c hj;obtain ⟨u,e1,e2,e3⟩:=hv.2 j v q1;exact ⟨u,e1,e2,D6g hm q2 e3⟩
theorem B8g {m m' :G6} (hm:WkM ρ nx m m') {v v' :AV} {K:Prop} {u:Value} (h:wkC ρ nx v v' K) (hv:J8 m v u):J8 m' v' u:=by
 unfold wkC at h;split at h
 ·trivial
 ·split at h
  ·split at h
   ·rename_i hk;obtain ⟨rfl,_⟩:=h;have:=of_decide_eq_true hk;subst this;exact hv
   ·exact h.elim
  ·exact h.elim
 ·split at h
  ·rename_i b hb;obtain ⟨rfl,_⟩:=h;cases v<;>simp only [T1] at hb<;>cases hb<;>exact hv
  ·exact h.elim
 ·split at h
  ·rename_i b hb;obtain ⟨rfl,_⟩:=h;cases v<;>simp only [T1] at hb<;>cases hb<;>exact hv
  ·exact h.elim
 ·rename_i sz' f' xs';split at h
  ·rename_i sz f xs;split at h
   ·rename_i hk;obtain ⟨hff,rfl,_⟩:=h;have hsz:=D7p hk;subst hsz;have hv' :PR m.w m.ok (.lst sz f xs) u:=hv;show PR m'.w m'.ok (.lst sz f' xs) u;rw [hm.w,hm.ok];cases hv' with
    |lst _ _ _ a cap u' hcap hmax hfull hsz hnone hcell hrec=>
     exact .lst sz f' xs a cap u' hcap hmax (fun hf=>hfull (hff hf)) hsz hnone hcell hrec
   ·exact h.elim
  ·obtain ⟨rfl,_⟩:=h;have hv' :u= .slice none 0 0:=hv;subst hv';show PR m'.w m'.ok (.lst sz' f' []) (.slice none 0 0);exact .lst sz' f' [] none 0 (fun _ _=> .bool false) (D7Y _) (by simp) (fun _=>rfl) (by simp) (fun _=>rfl) (fun i j c x hi=>by simp at hi) (fun i j c x hi=>by simp at hi)
  ·exact h.elim
 ·rename_i t';split at h
  ·rename_i t;split at h
   ·rename_i hk;simp only [D7o] at hk;have ht:=A5w hk.1;refine ⟨by rw [hm.A];exact V5 hk.2,hv.2.1,fun e sz xs hs=> ?_⟩
    rcases hm.tok t' e sz xs hs with ⟨t2,h1,h2⟩|⟨h1,_⟩
    ·rw [ht] at h1;cases h1;rw [hm.tau t' t ht];exact hv.2.2 e sz xs h2
    ·rw [ht] at h1;cases h1
   ·exact h.elim
  ·split at h
   ·rename_i hk;simp only [D7o] at hk;have ht:=C8q hk.1;have hv' :u= .slice none 0 0:=hv;refine ⟨by rw [hm.A];exact V5 hk.2,by rw [hv'];rfl,fun e sz xs hs=>⟨fun _=>hv',fun b o cap hc=> ?_⟩⟩
    rw [hm.tauN t' ht] at hc;cases hc
   ·exact h.elim
  ·rename_i t;split at h
   ·rename_i hk;simp only [D7o] at hk;have ht:=A5w hk.1;refine ⟨by rw [hm.A];exact V5 hk.2,hv.2.1,fun e sz xs hs=> ?_⟩
    rcases hm.tok t' e sz xs hs with ⟨t2,h1,h2⟩|⟨h1,_⟩
    ·rw [ht] at h1;cases h1;rw [hm.tau t' t ht];exact hv.2.2 e sz xs h2
    ·rw [ht] at h1;cases h1
   ·exact h.elim
  ·exact h.elim
 ·rename_i t';split at h
  ·rename_i t;split at h
   ·rename_i hk;simp only [D7o] at hk;have ht:=A5w hk.1;refine ⟨by rw [hm.A];exact V5 hk.2,hv.2.1,fun e sz xs hs=> ?_⟩
    rcases hm.tok t' e sz xs hs with ⟨t2,h1,h2⟩|⟨h1,_⟩
    ·rw [ht] at h1;cases h1;rw [hm.tau t' t ht];exact hv.2.2 e sz xs h2
    ·rw [ht] at h1;cases h1
   ·exact h.elim
  ·rename_i t;split at h
   ·rename_i hk;simp only [D7o] at hk;have ht:=A5w hk.1;refine ⟨by rw [hm.A];exact V5 hk.2,hv.2.1,fun e sz xs hs=> ?_⟩
    rcases hm.tok t' e sz xs hs with ⟨t2,h1,h2⟩|⟨h1,_⟩
    ·rw [ht] at h1;cases h1;rw [hm.tau t' t ht];exact hv.2.2 e sz xs h2
    ·rw [ht] at h1;cases h1
   ·exact h.elim
  ·exact h.elim
 ·rename_i i' o';split at h
  ·rename_i i o;split at h
   ·rename_i hk;simp only [D7o] at hk;have ht:=A5w hk.1;have ho:=D7p hk.2.2;subst ho;refine ⟨by rw [hm.A];exact V5 hk.2.1,hv.2.1,fun ⟨cs',hs⟩=> ?_⟩
    obtain ⟨i2,cs,h1,h2⟩:=hm.box i' cs' hs;rw [ht] at h1;cases h1;rw [hm.beta i' i ht];exact hv.2.2 ⟨cs,h2⟩
   ·exact h.elim
  ·exact h.elim
 ·rename_i i' n';split at h
  ·rename_i i n;split at h
   ·rename_i hk;simp only [D7o] at hk;have ht:=A5w hk.1;have ho:=D7p hk.2.2;subst ho;refine ⟨by rw [hm.A];exact V5 hk.2.1,hv.2.1,fun ⟨cs',hs⟩=> ?_⟩
    obtain ⟨i2,cs,h1,h2⟩:=hm.box i' cs' hs;rw [ht] at h1;cases h1;rw [hm.beta i' i ht];exact hv.2.2 ⟨cs,h2⟩
   ·exact h.elim
  ·exact h.elim
 ·split at h
  ·split at h
   ·rename_i hk;obtain ⟨vb,vc,h1,h2,h3⟩:=hv;rw [<-D7p hk];exact ⟨vb,vc,h1,C7D hm h h2,C7D hm (C0R h) h3⟩
   ·exact h.elim
  ·exact h.elim
 ·split at h
  ·obtain ⟨rfl,_⟩:=h;obtain ⟨ad,h1,h2,h3⟩:=hv;exact ⟨ad,h1,h2,fun j x hj=>by rw [hm.w,hm.ok];exact h3 j x hj⟩
  ·exact h.elim
 ·split at h
  ·split at h
   ·rename_i hk;rw [<-D7p hk];exact hv
   ·exact h.elim
  ·exact h.elim
 ·split at h
  ·exact hv
  ·exact h.elim
 ·split at h
  ·exact hv
  ·exact h.elim
 ·exact h.elim
theorem C1O {m m' :G6} (hm:WkM ρ nx m m') {v v' :AV} {K:Prop} {u:Value} (h:wkV ρ nx v v' K) (hv:VR m v u):VR1 m' v' u:=by
 unfold wkV at h;split at h
 ·rename_i cs';split at h
  ·rename_i cs;obtain ⟨vs,h1,h2,h3⟩:=hv;obtain ⟨g1,g2⟩:=A3S h;refine ⟨vs,h1,by rw [h2,g1],fun j c' hj=> ?_⟩
   obtain ⟨c,K',q1,q2⟩:=g2 j c' hj;obtain ⟨u,p1,p2,p3⟩:=h3 j c q1;exact ⟨u,p1,p2,B8g hm q2 p3⟩
  ·exact h.elim
 ·rename_i hna
  by_cases hj:v' = .junk
  ·subst hj;trivial
  have hv0:J8 m v u:=by
   cases v with
   |agg cs=>exfalso;unfold wkC at h;cases v' <;>simp [T1] at h<;>first|exact h.elim|exact hj rfl
   |tup cs=>exfalso;unfold wkC at h;cases v' <;>simp [T1] at h<;>first|exact h.elim|exact hj rfl
   |_=>exact hv
  exact A9L (B8g hm h hv0)
theorem D1h {m m' :G6} (hm:WkM ρ nx m m') {v v' :AV} {K:Prop} {u:Value} (h:wkV ρ nx v v' K) (hv:VR m v u):VR m' v' u:=A8Z (C1O hm h hv)
theorem C7B {m:Nat} {s:AS}: ∀ {st' :St},wkR m nx ρ s st' ->
  (∀d v',St.get st' (.tmp d)= .av v' -> ∃K,wkV ρ nx (s.tmp d) v' K)/\
  (∀i' cs',St.get st' (.box i')= .box cs' -> ∃i cs K,O1.at ρ i' =some i/\s (.box i)= .box cs/\i' <nx/\(i=i' \/(m<=i/\m<=i'))/\wkL ρ nx cs cs' K)/\
  (∀t' e sz xs,St.get st' (.tok t')= .tok e sz xs->t' <nx/\((∃t,O1.at ρ t' =some t/\s (.tok t)= .tok e sz xs)\/(O1.at ρ t' =none/\xs= []/\0<sz)))
 | [],_=>⟨fun _ _ h=>(by cases h),fun _ _ h=>(by cases h),fun _ _ _ _ h=>(by cases h)⟩
 |(l,c)::r,h=>by
  have hr:wkR m nx ρ s r:=by
   cases l<;>cases c<;>simp only [wkR] at h<;>(repeat' split at h)
   all_goals first|exact h.elim|exact C0Q h|exact h.2|exact h|exact C9k h
  obtain ⟨i1,i2,i3⟩:=C7B hr;refine ⟨fun d v' hg=> ?_,fun i' cs' hg=> ?_,fun t' e sz xs hg=> ?_⟩
  ·simp only [St.get] at hg;split at hg
   ·rename_i hb;cases l<;>simp only [Loc.beq] at hb<;>try cases hb
    have:=D7p hb;subst this hg;exact ⟨_,h⟩
   ·exact i1 d v' hg
  ·simp only [St.get] at hg;split at hg
   ·rename_i hb;cases l<;>simp only [Loc.beq] at hb<;>try cases hb
    have:=D7p hb;subst this hg;simp only [wkR] at h;split at h
    ·rename_i i hi;split at h
     ·rename_i cs hcs;split at h
      ·rename_i hk;simp only [D7o,D7r] at hk;exact ⟨i,cs,_,hi,hcs,V5 hk.1,hk.2.imp (fun h=>D7p h) (fun h=>⟨D7N h.1,D7N h.2⟩),h⟩
      ·exact h.elim
     ·exact h.elim
    ·exact h.elim
   ·exact i2 i' cs' hg
  ·simp only [St.get] at hg;split at hg
   ·rename_i hb;cases l<;>simp only [Loc.beq] at hb<;>try cases hb
    have:=D7p hb;subst this hg;simp only [wkR] at h;split at h
    ·rename_i hlt;refine ⟨V5 hlt, ?_⟩;split at h
     ·rename_i t ht;split at h
      ·rename_i hcs;split at h
       ·rename_i hk;simp only [D7o] at hk;obtain ⟨rfl,_⟩:=h;rw [<-D7p hk.1,<-D7p hk.2];exact .inl ⟨t,ht,hcs⟩
       ·exact h.elim
      ·exact h.elim
     ·rename_i ht;split at h
      ·rename_i hk;exact .inr ⟨ht,h.1,V5 hk⟩
      ·exact h.elim
    ·exact h.elim
   ·exact i3 t' e sz xs hg
theorem B5W {F:Fr} {A:Nat->Prop} {s:AS} {st' :St} {a:Act} {w:World} (h:S7 F A s a w) (hw:Wk F.m nx ρ s st'):S7 F (fun i=>i<nx) (St.get st') a w:=by
 obtain ⟨β,τ,ok,hx⟩:=h;obtain ⟨hc,hr⟩:=hw;simp only [D7o] at hc;obtain ⟨c1,c2,c3,c4⟩:=hc;obtain ⟨r1,r2,r3⟩:=C7B hr
 let β' :Nat->Nat×Nat:=fun i=>match O1.at ρ i with
  |some j=>β j
  |none=>(0,0)
 let τ' :Nat->Option (Nat×Nat×Nat):=fun i=>match O1.at ρ i with
  |some j=>τ j
  |none=>none
 have hβ: ∀i' i,O1.at ρ i' =some i->β' i' =β i:=fun i' i h=>by simp only [β',h]
 have hτ: ∀i' i,O1.at ρ i' =some i->τ' i' =τ i:=fun i' i h=>by simp only [τ',h]
 have hτn: ∀i',O1.at ρ i' =none->τ' i' =none:=fun i' h=>by simp only [τ',h]
 have hM:WkM ρ nx ⟨s,β,τ,A,ok,w⟩ ⟨St.get st',β',τ',fun i=>i<nx,ok,w⟩:=⟨rfl,rfl,rfl,hβ,hτ,hτn,fun t' e sz xs h=>(r3 t' e sz xs h).2,fun i' cs' h=>by
  obtain ⟨i,cs,_,h1,h2,_⟩:=r2 i' cs' h;exact ⟨i,cs,h1,h2⟩⟩
 have hm:=hx.mr;refine ⟨β',τ',ok,⟨hm.okLt,fun i' cs' hs=> ?_,fun t' e sz xs hs=> ?_,fun i j ci cj hi hj hne=> ?_,fun i j ei ej si sj xi xj p q hi hj hp hq hne=> ?_,fun i j ci ej sj xj q hi hj hq=> ?_⟩,hx.defers,hx.size,fun l v hl=> ?_,hx.keep,fun j hj=> ?_,fun j hj=> ?_,fun i' cs' hs hge=> ?_,fun i' cs' hs hlt=> ?_,fun t' e sz xs p hs hp=> ?_,hx.ok0,hx.okNew⟩
 ·obtain ⟨i,cs,K,h1,h2,h3,_,h5⟩:=r2 i' cs' hs;obtain ⟨g1,g2,cur,e,g3,g4,g5⟩:=hm.box i cs h2;obtain ⟨q1,q2⟩:=A3S h5;refine ⟨h3,by show¬ok (β' i').1;rw [hβ i' i h1];exact g2,cur,e,by show w.heap[(β' i').1]? =_;rw [hβ i' i h1];exact g3,by show (β' i').2+_<=_;rw [hβ i' i h1,<-q1];exact g4,fun j c' hj=> ?_⟩
  obtain ⟨c,K',p1,p2⟩:=q2 j c' hj;obtain ⟨u,o1,o2,o3⟩:=g5 j c p1;exact ⟨u,by show cur[(β' i').2+j]? =_;rw [hβ i' i h1];exact o1,o2,B8g hM p2 o3⟩
 ·obtain ⟨h1,h2⟩:=r3 t' e sz xs hs;rcases h2 with ⟨t,h2,h3⟩|⟨h2,rfl,h3⟩
  ·obtain ⟨_,g2,g3,g4,g5⟩:=hm.tok t e sz xs h3;refine ⟨h1,g2,g3,fun hn=>g4 ((hτ t' t h2).symm.trans hn),fun b o cap hb=>g5 b o cap ((hτ t' t h2).symm.trans hb)⟩
  ·refine ⟨h1,h3,by simp,fun _=>rfl,fun b o cap hb=> ?_⟩
   have hb' :τ' t' =some (b,o,cap):=hb;rw [hτn t' h2] at hb';cases hb'
 ·obtain ⟨i0,ci0,_,h1,h2,_,_,h5⟩:=r2 i ci hi;obtain ⟨j0,cj0,_,h3,h4,_,_,h6⟩:=r2 j cj hj;show B9u (β' i) _ (β' j) _;rw [hβ i i0 h1,hβ j j0 h3,<-(A3S h5).1,<-(A3S h6).1];refine hm.sepB i0 j0 ci0 cj0 h2 h4 (fun he=>hne ?_);subst he;exact C37 c1 (B9b hi) (B9b hj) h1 h3
 ·have hp' :τ' i=some p:=hp;have hq' :τ' j=some q:=hq;rcases (r3 i ei si xi hi).2 with ⟨i0,h1,h2⟩|⟨h1,_⟩
  ·rcases (r3 j ej sj xj hj).2 with ⟨j0,h3,h4⟩|⟨h3,_⟩
   ·rw [hτ i i0 h1] at hp';rw [hτ j j0 h3] at hq';refine hm.sepT i0 j0 ei ej si sj xi xj p q h2 h4 hp' hq' (fun he=>hne ?_);subst he;exact C37 c2 (B9c hi) (B9c hj) h1 h3
   ·rw [hτn j h3] at hq';cases hq'
  ·rw [hτn i h1] at hp';cases hp'
 ·have hq' :τ' j=some q:=hq;obtain ⟨i0,ci0,_,h1,h2,_⟩:=r2 i ci hi;rcases (r3 j ej sj xj hj).2 with ⟨j0,h3,h4⟩|⟨h3,_⟩
  ·show (β' i).1≠q.1;rw [hβ i i0 h1];rw [hτ j j0 h3] at hq';exact hm.sepM i0 j0 ci0 ej sj xj q h2 h4 hq'
  ·rw [hτn j h3] at hq';cases hq'
 ·obtain ⟨K,hk⟩:=r1 l v hl;exact D1h hM hk (hx.val (.tmp l))
 ·show β' j=F.β0 j;rw [hβ j j (C3x c3 j hj)];exact hx.par j hj
 ·show j<nx;have:=D7N c4;omega
 ·obtain ⟨i,cs,_,h1,h2,_,h4,_⟩:=r2 i' cs' hs;show F.w0.heap.size<=(β' i').1;rw [hβ i' i h1];refine hx.newB i cs h2 ?_;rcases h4 with rfl|h4
  ·exact hge
  ·exact h4.1
 ·obtain ⟨i,cs,_,h1,h2,_,h4,h5⟩:=r2 i' cs' hs;have hii:i=i' :=by
   rcases h4 with h4|h4
   ·exact h4
   ·omega
  subst hii;rw [<-(A3S h5).1];exact hx.parL i cs h2 hlt
 ·have hp' :τ' t' =some p:=hp;rcases (r3 t' e sz xs hs).2 with ⟨t,h2,h3⟩|⟨h2,_⟩
  ·rw [hτ t' t h2] at hp';exact hx.newT t e sz xs p h3 hp'
  ·rw [hτn t' h2] at hp';cases hp'
end
end Go.Vc
namespace Go.Vc
open Go.RowKit
structure Inv where
 α:Type
 st:α->St
 φ:α->Prop
 μ:α->Nat
abbrev KT:=Exit->Nat->St->Prop
def B3G (id:Nat):Code->Nat
 | .exit i=>match Nat.beq i id with
  |true=>1
  |false=>0
 | .seq a b=>B3G id a+B3G id b
 | .cond _ a b=>B3G id a+B3G id b
 | .block _ c=>B3G id c
 | .loop c=>B3G id c
 |_=>0
def B4u:Code->Nat
 | .skip=>1
 | .region _ _ _=>1
 | .seq a b=>B4u a*B4u b
 | .cond _ a b=>B4u a+B4u b
 | .block id c=>B4u c+B3G id c
 |_=>0
def D20:Code->Bool
 | .seq _ b=>Nat.ble 2 (B4u b)
 |a=>Nat.ble 2 (B4u a)
abbrev VT:=Nat->St->KT->Prop
noncomputable def A7O (P:Program) (T:I6) (id:Nat) (ops:Array Oper) (draw:Bool):VT:=fun nx st K=>
 match Nat.ble nx nx&&Nat.ble ops.toList.length 256 with
 |true=>match draw with
  |false=>B8d P T nx ops.toList 0 ops.toList st fun st' =>K .normal (nx+256) st'
  |true=>B44 P T nx ops.toList 0 ops.toList [] st fun st' =>K .normal (nx+256) st'
 |false=>False
noncomputable def C9e (m:Nat) (jn:Bool) (va vb:VT):VT:=fun nx st K=>
 match jn with
 |false=>va nx st fun e nx' st' =>match e with
  | .normal=>vb nx' st' K
  |e=>K e nx' st'
 |true=> ∃j:Option (Inv×Nat),match j with
  |none=>va nx st fun e nx' st' =>match e with
   | .normal=>vb nx' st' K
   |e=>K e nx' st'
  |some (I,n)=>va nx st (fun e nx' st' =>match e with
   | .normal=> ∃ρ x,I.φ x/\Wk m n ρ (St.get st') (I.st x)
   |e=>K e nx' st')/\ ∀x,I.φ x->vb n (I.st x) K
noncomputable def B7N (c:Operand) (vx vy:VT):VT:=fun nx st K=>
 match c with
 | .tmp d=>match AS.tmp (St.get st) d with
  | .bool true=>vx nx st K
  | .bool false=>vy nx st K
  | .sb b=>(b=true->vx nx ((.tmp d, .av (.bool true))::st) K)/\(b=false->vy nx ((.tmp d, .av (.bool false))::st) K)
  |_=>False
 |_=>False
noncomputable def C7y (id:Nat) (vx:VT):VT:=fun nx st K=>
 vx nx st fun e nx' st' =>match e with
  | .exit id' =>match Nat.beq id' id with
   |true=>K .normal nx' st'
   |false=>K (.exit id') nx' st'
  |e=>K e nx' st'
noncomputable def D6e (m:Nat) (vx:VT):VT:=fun nx st K=>
 ∃I:Inv,(∃ρ x,I.φ x/\Wk m nx ρ (St.get st) (I.st x))/\ ∀x,I.φ x->vx nx (I.st x) fun e nx' st' =>match e with
  | .normal=> ∃ρ x',I.φ x' /\(I.μ x' <I.μ x/\Wk m nx ρ (St.get st') (I.st x'))
  |e=>K e nx' st'
noncomputable def vc (P:Program) (T:I6) (m:Nat) (c:Code):VT:=
 Code.rec (motive:=fun _=>VT)
  (fun nx st K=>K .normal nx st)
  (fun id ops draw=>A7O P T id ops draw)
  (fun a _ iha ihb=>C9e m (D20 a) iha ihb)
  (fun c _ _ iha ihb=>B7N c iha ihb)
  (fun id _ ih=>C7y id ih)
  (fun _ ih=>D6e m ih)
  (fun _ _ _ _ _ _ _ _ _=>False)
  (fun id nx st K=>K (.exit id) nx st)
  (fun _ _ _ _ _=>False)
  (fun _ _ _ _=>False)
  (fun _ _ _ _=>False)
  (fun nx st K=>K .ret nx st)
  (fun _ _ _ _=>False) c
def A13 (N:Nat):Code->Bool
 | .region _ ops false=>A2O N ops.toList
 | .region _ ops true=>A2O N ops.toList&&Region.lexB .any ops
 | .seq a b=>A13 N a&&A13 N b
 | .cond _ a b=>A13 N a&&A13 N b
 | .block _ c=>A13 N c
 | .loop c=>A13 N c
 |_=>true
def sem (F:Fr) (K:KT):Exit->Act->World->Prop:=fun e a w=> ∃nx st A,S7 F A (St.get st) a w/\(∀k,A k->k<nx)/\K e nx st
theorem C5h {F:Fr} {T:I6} (hT:Z6 F.P T) (hm:F.P.follows .mixedOrders=true): ∀(c:Code) (nx:Nat) (st:St) (K:KT),A13 F.N c=true->vc F.P T F.m c nx st K->
  ∀a w A,S7 F A (St.get st) a w->(∀k,A k->k<nx)->c.wp F.P (sem F K) a w:=by
 intro c
 induction c with
 |skip=>intro nx st K _ h a w A hs hA;exact wp_skip ⟨nx,st,A,hs,hA,h⟩
 |region id ops draw=>
  intro nx st K hc h a w A hs hA;cases draw with
  |false=>
   change A7O F.P T id ops false nx st K at h;unfold A7O at h;split at h
   ·rename_i hb;simp only [D7o] at hb;have hb1:=D7N hb.1;have hb2:=D7N hb.2;exact C4J hT hc (fun st' a' w' A' hs' hA' hk=>⟨_,st',A',hs',fun k hk=>by have:=hA' k hk;omega,hk⟩) hs (fun k hk=>by have:=hA k hk;omega) h
   ·exact h.elim
  |true=>
   simp only [A13,D7o] at hc;change A7O F.P T id ops true nx st K at h;unfold A7O at h;split at h
   ·rename_i hb;simp only [D7o] at hb;have hb1:=D7N hb.1;have hb2:=D7N hb.2;exact C8d hT hm hc.1 hc.2 (fun st' a' w' A' hs' hA' hk=>⟨_,st',A',hs',fun k hk=>by have:=hA' k hk;omega,hk⟩) hs (fun k hk=>by have:=hA k hk;omega) h
   ·exact h.elim
 |seq x y ihx ihy=>
  intro nx st K hc h a w A hs hA;simp only [A13,D7o] at hc;have direct:(vc F.P T F.m x nx st fun e nx' st' =>match e with
   | .normal=>vc F.P T F.m y nx' st' K
   |e=>K e nx' st')->(Code.seq x y).wp F.P (sem F K) a w:=by
   intro h;apply wp_seq;refine wp_mono (ihx nx st _ hc.1 h a w A hs hA) ?_;rintro e a' w' ⟨nx',st',A',hs',hA',hk⟩;cases e with
   |normal=>exact ihy nx' st' K hc.2 hk a' w' A' hs' hA'
   |_=>exact ⟨nx',st',A',hs',hA',hk⟩
  change C9e F.m (D20 x) (vc F.P T F.m x) (vc F.P T F.m y) nx st K at h;unfold C9e at h;split at h
  ·exact direct h
  ·obtain ⟨j,h⟩:=h;split at h
   ·exact direct h
   ·rename_i I n;obtain ⟨h1,h2⟩:=h;apply wp_seq;refine wp_mono (ihx nx st _ hc.1 h1 a w A hs hA) ?_;rintro e a' w' ⟨nx',st',A',hs',hA',hk⟩;cases e with
    |normal=>
     obtain ⟨ρ,x,hx,hw⟩:=hk;exact ihy n (I.st x) K hc.2 (h2 x hx) a' w' _ (B5W hs' hw) (fun _ h=>h)
    |_=>exact ⟨nx',st',A',hs',hA',hk⟩
 |cond c x y ihx ihy=>
  intro nx st K hc h a w A hs hA;simp only [A13,D7o] at hc;change B7N c (vc F.P T F.m x) (vc F.P T F.m y) nx st K at h;cases c<;>try exact h.elim
  rename_i d;simp only [B7N] at h;have ev: ∀b,T1 (AS.tmp (St.get st) d)=some b->a.eval (.tmp d)= .bool b:=fun b hb=>by
   have:=hs.gval d b hb;simp [Act.eval,this]
  split at h
  ·rename_i hd;exact wp_cond_true (ev true (by rw [hd];rfl)) (ihx nx st K hc.1 h a w A hs hA)
  ·rename_i hd;exact wp_cond_false (ev false (by rw [hd];rfl)) (ihy nx st K hc.2 h a w A hs hA)
  ·rename_i b hd;refine wp_cond_split (ev b (by rw [hd];rfl)) (fun hb=> ?_) (fun hb=> ?_)
   ·subst hb;exact ihx nx _ K hc.1 (h.1 rfl) a w A (hs.lit d true hd) hA
   ·subst hb;exact ihy nx _ K hc.2 (h.2 rfl) a w A (hs.lit d false hd) hA
  ·exact h.elim
 |block id x ih=>
  intro nx st K hc h a w A hs hA;apply wp_block;refine wp_mono (ih nx st _ hc h a w A hs hA) ?_;rintro e a' w' ⟨nx',st',A',hs',hA',hk⟩;cases e with
  |exit id' =>
   simp only at hk;show if id' =id then _ else _
   split at hk
   ·rename_i hb;rw [if_pos (D7p hb)];exact ⟨nx',st',A',hs',hA',hk⟩
   ·rename_i hb;rw [if_neg (fun he=>by subst he;rw [A0X] at hb;cases hb)]
    exact ⟨nx',st',A',hs',hA',hk⟩
  |_=>exact ⟨nx',st',A',hs',hA',hk⟩
 |loop x ih=>
  intro nx st K hc h a w A hs hA;obtain ⟨I,⟨ρ,x0,h1,h2⟩,h3⟩:=h;refine wp_loop_ghost (fun n a w=> ∃x,I.φ x/\I.μ x=n/\S7 F (fun k=>k<nx) (St.get (I.st x)) a w) (I.μ x0) ⟨x0,h1,rfl,B5W hs h2⟩ ?_;rintro n a w ⟨x,hx,rfl,hs⟩;refine wp_mono (ih nx _ _ hc (h3 x hx) a w _ hs (fun _ h=>h)) ?_;rintro e a' w' ⟨nx',st',A',hs',hA',hk⟩;cases e with
  |normal=>
   obtain ⟨ρ,x',g1,g2,g3⟩:=hk;exact ⟨I.μ x',g2,x',g1,rfl,B5W hs' g3⟩
  |_=>exact ⟨nx',st',A',hs',hA',hk⟩
 |exit id=>intro nx st K _ h a w A hs hA;exact wp_exit ⟨nx,st,A,hs,hA,h⟩
 |ret=>intro nx st K _ h a w A hs hA;exact wp_ret ⟨nx,st,A,hs,hA,h⟩
 |_=>intro nx st K _ h;exact h.elim
end Go.Vc
namespace Go.Vc
open Go.RowKit
def C4K (T:I6) (s:AS):ResultVar->Option AV
 | .tmp t=>some (s.tmp t)
 | .cell a t=>match I6.find T t with
  |some ti=>match s.tmp a with
   | .ptr b off=>match s (.box b) with
    | .box cs=>match Nat.ble (off+ti.size) cs.length&&Nat.blt 0 ti.size with
     |true=>some (A4G ti ((cs.drop off).take ti.size))
     |false=>none
    |_=>none
   |_=>none
  |none=>none
def B77 (T:I6) (s:AS):List ResultVar->Option (List AV)
 | []=>some []
 |r::rs=>match C4K T s r with
  |some v=>match B77 T s rs with
   |some vs=>some (v::vs)
   |none=>none
  |none=>none
def B41 (tmps:Array Value):ResultVar->Sem Value
 | .tmp t=>pure (tmps.getD t undef)
 | .cell a t=>do loadVar t (<-asAddr (tmps.getD a undef))
theorem C80 {F:Fr} {a:Act} {m:G6} (hx:M3 F a m) {T:I6} (hT:Z6 F.P T) {rv:ResultVar} {v:AV} (h:C4K T m.s rv=some v):
  ∃u,(B41 a.tmps rv).run F.P m.w= .ok u m.w/\VR m v u:=by
 cases rv with
 |tmp t=>
  cases h;exact ⟨_,rfl,hx.val (.tmp t)⟩
 |cell a' t=>
  simp only [C4K] at h;split at h
  ·rename_i ti hti;have ht:=hT t ti hti;split at h
   ·rename_i b off hp;split at h
    ·rename_i cs hb;split at h
     ·rename_i hc;cases h;simp only [D7o] at hc;have hf:=D7N hc.1;have hpos:=V5 hc.2;have h1:VR m (.ptr b off) (a.tmps.getD a' undef):=by have:=hx.val (.tmp a');rw [show m.s.val (.tmp a')= .ptr b off from hp] at this;exact this
      have h1' :=(show J8 m (.ptr b off) (a.tmps.getD a' undef) from h1).2.2 ⟨cs,hb⟩;obtain ⟨_,_,cur,e,g3,g4,g5⟩:=hx.mr.box b cs hb;have hlen:((cs.drop off).take ti.size).length=ti.size:=by simp;omega
      have hlen2:((cur.toList.drop ((m.β b).2+off)).take ti.size).length=ti.size:=by simp;omega
      refine ⟨_, ?_,B1B _ hlen hpos ((cur.toList.drop ((m.β b).2+off)).take ti.size) (hlen2.trans hlen.symm) (fun j c hj=> ?_)⟩
      ·simp only [B41,h1',asAddr,Sem.run_bind,Sem.run_pure,Result.andThen_ok];rw [A3g ht m.w _ hpos ((cur.toList.drop ((m.β b).2+off)).take ti.size) hlen2 (fun j u hj=>by
        rw [Addr.add_lit,cell_of_row m.w _ _ cur e _ g3];rw [D7D] at hj;split at hj
        ·rw [D7A] at hj;simpa using hj
        ·cases hj)]
      ·rw [D7D] at hj⊢;split at hj
       ·rename_i hlt;rw [D7A] at hj;rw [if_pos hlt,D7A];obtain ⟨u,e1,e2⟩:=g5 _ c hj;exact ⟨u,by rw [Nat.add_assoc];simpa using e1,e2⟩
       ·cases hj
     ·cases h
    ·cases h
   ·cases h
  ·cases h
theorem B8V {F:Fr} {a:Act} {m:G6} (hx:M3 F a m) {T:I6} (hT:Z6 F.P T): ∀ {rs:List ResultVar} {vs:List AV},B77 T m.s rs=some vs->
  ∃us:List Value,(rs.mapM (B41 a.tmps)).run F.P m.w= .ok us m.w/\us.length=vs.length/\ ∀(i:Nat) (c:AV),vs[i]? =some c-> ∃u,us[i]? =some u/\VR m c u
 | [],vs,h=>by cases h;exact ⟨[],rfl,rfl,by simp⟩
 |r::rs,vs,h=>by
  simp only [B77] at h;split at h
  ·rename_i v hv;split at h
   ·rename_i vs' hvs;cases h;obtain ⟨u,h1,h2⟩:=C80 hx hT hv;obtain ⟨us,g1,g2,g3⟩:=B8V hx hT hvs;refine ⟨u::us, ?_,by simp [g2],fun i c hi=> ?_⟩
    ·rw [List.mapM_cons,Sem.run_bind,h1,Result.andThen_ok,Sem.run_bind,g1,Result.andThen_ok]
     rfl
    ·cases i with
     |zero=>cases hi;exact ⟨u,rfl,h2⟩
     |succ i=>simpa using g3 i c (by simpa using hi)
   ·cases h
  ·cases h
theorem C6e {P:Program} {fn:Func} {tmps:Array Value} {w:World} {us:List Value} (h:(fn.results.toList.mapM (B41 tmps)).run P w= .ok us w):
  (results fn tmps).run P w= .ok (if h:us.toArray.size=1 then us.toArray[0] else .tuple us.toArray) w:=by
 have e:results fn tmps=(do
   let vs<-fn.results.mapM (B41 tmps)
   pure (if h:vs.size=1 then vs[0] else .tuple vs)):=by
  unfold results
  congr 2
 rw [e,Sem.run_bind];have h2:(fn.results.mapM (B41 tmps)).run P w= .ok us.toArray w:=by
  rw [Array.mapM_eq_mapM_toList,Sem.run_map,h]
  rfl
 rw [h2]
 rfl
end Go.Vc
namespace Go.Vc
open Go.RowKit
def B4x:Nat->List AV->St
 |_, []=> []
 |i,v::r=>(.tmp i, .av v)::B4x (i+1) r
def B4C:Nat->List (List AV)->St
 |_, []=> []
 |i,cs::r=>(.box i, .box cs)::B4C (i+1) r
def C0F:N2->St
 |some (e,sz,xs)=> [(.tok 0, .tok e sz xs)]
 |none=> []
def A12 (args:List AV) (bx:List (List AV)) (tk:N2):St:=B4x 0 args++(B4C 0 bx++C0F tk)
theorem B5n (tk:N2) (l:Loc):St.get (C0F tk) l=match l with
  | .tok 0=>(match tk with
   |some (e,sz,xs)=> .tok e sz xs
   |none=> .none)
  |_=> .none:=by
 cases tk with
 |none=>cases l<;>(try rfl);rename_i n;cases n<;>rfl
 |some x=>
  obtain ⟨e,sz,xs⟩:=x;cases l with
  |tmp t=>rfl
  |box t=>rfl
  |tok t=>cases t<;>rfl
theorem A90 (l:Loc) (tk:N2): ∀(bx:List (List AV)) (i:Nat),St.get (B4C i bx++C0F tk) l=match l with
  | .box j=>if i<=j then A4I bx tk (.box (j-i)) else .none
  |l=>St.get (C0F tk) l
 | [],i=>by cases l<;>simp [B4C,B5n,A4I]
 |cs::r,i=>by
  have ih:=A90 l tk r (i+1);simp only [B4C,List.cons_append,St.get];cases l with
  |tmp t=>simp only [Loc.beq];simpa using ih
  |tok t=>simp only [Loc.beq];simpa using ih
  |box j=>
   simp only [Loc.beq]
   by_cases hj:j=i
   ·subst hj;simp [A4I]
   ·simp only [A7V hj,ih]
    by_cases h1:i<=j
    ·have h2:i+1<=j:=by omega
     simp only [h1,h2,if_true,A4I];rw [show j-i=(j-(i+1))+1 by omega,List.getElem?_cons_succ]
    ·have h2: ¬i+1<=j:=by omega
     simp [h1,h2]
theorem A9Z (l:Loc) (s:St): ∀(args:List AV) (i:Nat),St.get (B4x i args++s) l=match l with
  | .tmp j=>if i<=j then (match args[j-i]? with
   |some v=> .av v
   |none=>St.get s l) else St.get s l
  |_=>St.get s l
 | [],i=>by cases l<;>simp [B4x]
 |v::r,i=>by
  have ih:=A9Z l s r (i+1);simp only [B4x,List.cons_append,St.get];cases l with
  |box t=>simp only [Loc.beq];simpa using ih
  |tok t=>simp only [Loc.beq];simpa using ih
  |tmp j=>
   simp only [Loc.beq]
   by_cases hj:j=i
   ·subst hj;simp
   ·simp only [A7V hj,ih]
    by_cases h1:i<=j
    ·have h2:i+1<=j:=by omega
     simp only [h1,h2,if_true];rw [show j-i=(j-(i+1))+1 by omega,List.getElem?_cons_succ]
    ·have h2: ¬i+1<=j:=by omega
     simp [h1,h2]
theorem B9a (args:List AV) (bx:List (List AV)) (tk:N2) (i:Nat):St.get (A12 args bx tk) (.box i)=A4I bx tk (.box i):=by
 unfold A12;rw [A9Z];simp [A90]
theorem C36 (args:List AV) (bx:List (List AV)) (tk:N2) (i:Nat):St.get (A12 args bx tk) (.tok i)=A4I bx tk (.tok i):=by
 unfold A12;rw [A9Z];simp only [A90,B5n];cases i<;>rfl
theorem D1X (args:List AV) (bx:List (List AV)) (tk:N2) (i:Nat):St.get (A12 args bx tk) (.tmp i)=match args[i]? with
  |some v=> .av v
  |none=> .none:=by
 unfold A12;rw [A9Z];simp [A90,B5n]
theorem D18 {s s' :AS} (hb:∀i,s' (.box i)=s (.box i)) (ht:∀i,s' (.tok i)=s (.tok i)) {β τ A ok w} (hm:MR ⟨s,β,τ,A,ok,w⟩):V4 ⟨s,β,τ,A,ok,w⟩ ⟨s',β,τ,A,ok,w⟩/\MR ⟨s',β,τ,A,ok,w⟩:=by
 have e1:V4 ⟨s,β,τ,A,ok,w⟩ ⟨s',β,τ,A,ok,w⟩:=⟨fun t e sz xs' hs _=>⟨xs',(ht t).symm.trans hs,rfl,rfl⟩,fun i cs' hs _=>⟨⟨cs',(hb i).symm.trans hs⟩,rfl⟩,fun _ h=>h,fun _ h=>h,fun _ _ _=>rfl,fun _ _ _ _ h=>h⟩;have hb' : ∀i c,s' (.box i)= .box c->s (.box i)= .box c:=fun i c hc=>by rw [<-hb i];exact hc
 have ht' : ∀i e sz xs,s' (.tok i)= .tok e sz xs->s (.tok i)= .tok e sz xs:=fun i e sz xs hc=>by rw [<-ht i];exact hc
 refine ⟨e1,hm.okLt,fun i c hc=> ?_,fun t e sz xs hs=>hm.tok t e sz xs (ht' t e sz xs hs),fun i j ci cj hi hj hne=>hm.sepB i j ci cj (hb' i ci hi) (hb' j cj hj) hne,
  fun i j ei ej si sj xi xj p q hi hj hp hq hne=>hm.sepT i j ei ej si sj xi xj p q (ht' _ _ _ _ hi) (ht' _ _ _ _ hj) hp hq hne,fun i j ci ej sj xj q hi hj hq=>hm.sepM i j ci ej sj xj q (hb' i ci hi) (ht' _ _ _ _ hj) hq⟩
 obtain ⟨h1,h2,cur,e,h3,h4,h5⟩:=hm.box i c (hb' i c hc);exact ⟨h1,h2,cur,e,h3,h4,fun j c hj=>let ⟨u,g1,g2,g3⟩:=h5 j c hj;⟨u,g1,g2,g3.ext e1⟩⟩
theorem B2k {bx:List (List AV)} {tk:N2} {i:Nat} {cs:List AV} (h:A4I bx tk (.box i)= .box cs):bx[i]? =some cs:=by
 simp only [A4I] at h;split at h
 ·cases h;assumption
 ·cases h
theorem D1W {P:Program} {N:Nat} {args:List AV} {bx:List (List AV)} {tk:N2} {w:World} {β:Nat->Nat×Nat} {p:Option (Nat×Nat×Nat)} {ok:Nat->Prop} {vs:Array Value} (hN:args.length<=N) (hm:MR (U2 bx tk β p ok w)) (hl:vs.size=args.length)
  (hv:∀(i:Nat) (c:AV),args[i]? =some c-> ∃u,vs[i]? =some u/\VR1 (U2 bx tk β p ok w) c u):
  S7 (cFr P N bx tk β p ok w) (fun i=>i<bx.length+1) (St.get (A12 args bx tk)) { tmps:=vs++Array.replicate (N-vs.size) undef,defers:= []} w:=by
 obtain ⟨e1,hm'⟩:=D18 (s:=A4I bx tk) (s' :=St.get (A12 args bx tk)) (B9a args bx tk) (C36 args bx tk) hm;refine ⟨β,fun _=>p,ok,hm',rfl,by simp [cFr];omega,fun l v hl' => ?_,⟨rfl,rfl,rfl,D7Y _,fun _ _ _ _=>rfl,fun k cur e _ _ hc=>⟨cur,hc,rfl,fun _ _=>rfl⟩,fun _ _=>rfl⟩,fun _ _=>rfl,fun _ h=>h,fun id cs hs hge=> ?_,fun id cs hs _=> ?_,fun t e sz xs q ht hq=> ?_,fun _ h=>h,fun _ h=> .inl h⟩
 ·have hl2:St.get (A12 args bx tk) (.tmp l)= .av v:=hl';rw [D1X] at hl2;cases hq:args[l]? with
  |none=>rw [hq] at hl2;cases hl2
  |some c=>
   rw [hq] at hl2;cases hl2;obtain ⟨u,h1,h2⟩:=hv l _ hq;have:(vs++Array.replicate (N-vs.size) undef).getD l undef=u:=by
    have hlt:l<vs.size:=(D74.1 h1).1;rw [Array.getD_eq_getD_getElem?,Array.getElem?_append_left hlt,h1]
    rfl
   show VR _ _ ((vs++Array.replicate (N-vs.size) undef).getD l undef);rw [this];exact (A8Z h2).ext e1
 ·exfalso;have hs' :St.get (A12 args bx tk) (.box id)= .box cs:=hs;rw [B9a] at hs';have:=(D7q.1 (B2k hs')).1;have hge' :bx.length+1<=id:=hge;omega
 ·have hs' :St.get (A12 args bx tk) (.box id)= .box cs:=hs;rw [B9a] at hs';show cs.length=(bx.getD id []).length;rw [D8c,B2k hs']
  rfl
 ·have ht' :St.get (A12 args bx tk) (.tok t)= .tok e sz xs:=ht;rw [C36] at ht';obtain ⟨_,h2⟩:=A0G ht';exact .inr ⟨_,q,h2,hq,rfl⟩
def B4M (m:Nat):List AV->Option Nat
 | []=>none
 | .ptr j _::r=>match Nat.ble m j with
  |true=>some j
  |false=>B4M m r
 |_::r=>B4M m r
def C67:List AV->Option Nat
 | []=>none
 | .own k::_=>some k
 |_::r=>C67 r
def A3H (s:AS) (i:Nat):Nat:=match s (.box i) with
 | .box cs=>cs.length
 |_=>0
def D1B (s:AS) (i:Nat):List AV:=match s (.box i) with
 | .box cs=>cs
 |_=> []
def A7b (s:AS):Nat->Nat->L9
 |_,0=> []
 |j,n+1=>(j,0,A3H s j)::A7b s (j+1) n
def B7E (s:AS) (n:Nat) (vs:List AV) (nb:Bool):L9:=match nb with
 |true=>match B4M (n+1) (vs.flatMap AV.cells) with
  |some i=>A7b s 0 n++ [(i,0,A3H s i)]
  |none=>A7b s 0 n
 |false=>A7b s 0 n
def retT (s:AS) (n:Nat) (vs:List AV) (nt:Bool):Option Nat:=match nt with
 |true=>C67 (vs.flatMap AV.cells++(List.range n).flatMap (D1B s))
 |false=>none
theorem C0N (s:AS): ∀(n j k:Nat) (p:Nat×Nat×Nat),(A7b s j n)[k]? =some p->k<n/\p=(j+k,0,A3H s (j+k))
 |0,j,k,p,h=>by simp [A7b] at h
 |n+1,j,k,p,h=>by
  cases k with
  |zero=>cases h;exact ⟨Nat.succ_pos _,rfl⟩
  |succ k=>
   obtain ⟨h1,h2⟩:=C0N s n (j+1) k p (by simpa [A7b] using h)
   exact ⟨by omega,by rw [h2,show j+1+k=j+(k+1) by omega]⟩
theorem A1A (s:AS): ∀(n j:Nat),(A7b s j n).length=n
 |0,_=>rfl
 |n+1,j=>by simp [A7b,A1A s n (j+1)]
theorem C4L {s:AS} {n:Nat} {vs:List AV} {nb:Bool} {k:Nat} {p:Nat×Nat×Nat} (h:(B7E s n vs nb)[k]? =some p):
  (k<n/\p=(k,0,A3H s k))\/(k=n/\ ∃i,n+1<=i/\p=(i,0,A3H s i)):=by
 have base:(A7b s 0 n)[k]? =some p->k<n/\p=(k,0,A3H s k):=fun h=>by
  have:=C0N s n 0 k p h;simpa using this
 unfold B7E at h;split at h
 ·split at h
  ·rename_i i hf
   by_cases hk:k<n
   ·rw [D7F (by rw [A1A];exact hk)] at h
    exact .inl (base h)
   ·rw [D7G (by rw [A1A];omega),A1A] at h
    have hk' :k=n:=by
     have:=(D7q.1 h).1;simp at this;omega
    subst hk';rw [Nat.sub_self] at h;cases h;refine .inr ⟨rfl,i, ?_,rfl⟩;have key: ∀l:List AV,B4M (k+1) l=some i->k+1<=i:=by
     intro l
     induction l with
     |nil=>intro h;cases h
     |cons c l ih=>
      intro h;cases c
      case ptr j o=>
       simp only [B4M] at h;split at h
       ·rename_i hb;cases h;exact D7N hb
       ·exact ih h
      all_goals exact ih h
    exact key _ hf
  ·exact .inl (base h)
 ·exact .inl (base h)
theorem D4i {s:AS} {n:Nat} {vs:List AV} {nb:Bool}: ∀j,j<n->(B7E s n vs nb)[j]? =some (j,0,A3H s j):=fun j hj=>by
 have hlen:n<=(B7E s n vs nb).length:=by
  unfold B7E;split
  ·split
   ·rw [D7m,A1A];omega
   ·rw [A1A];omega
  ·rw [A1A];omega
 obtain ⟨p,hp⟩: ∃p,(B7E s n vs nb)[j]? =some p:=⟨_,D7u (by omega)⟩
 rcases C4L hp with ⟨_,h2⟩|⟨h1,_⟩
 ·rw [hp,h2]
 ·omega
def B4w (nx:Nat):List (List AV)->List (List AV)->Prop->Prop
 | [], [],K=>K
 |cs::a,cs' ::b,K=>wkL [] nx cs cs' (B4w nx a b K)
 |_,_,_=>False
def B5U (nx:Nat):List AV->List AV->Prop->Prop
 | [], [],K=>K
 |v::a,v' ::b,K=>wkV [] nx v v' (B5U nx a b K)
 |_,_,_=>False
def wkT (nx:Nat) (as:List AV) (r:AV) (K:Prop):Prop:=match as with
 | [v]=>wkV [] nx v r K
 |as=>match r with
  | .tup rs=>B5U nx as rs K
  |_=>False
def tkW (tk tk':N2):Prop:=match tk' with
 |none=>True
 |some (e',sz',xs')=>match tk with
  |some (e,sz,xs)=>match Nat.beq e e' &&Nat.beq sz sz' with
   |true=>xs=xs'
   |false=>False
  |none=>False
theorem C49 {tk:N2} {e' sz' :Nat} {xs' :List (List AV)} (h:tkW tk (some (e',sz',xs'))):tk=some (e',sz',xs'):=by
 unfold tkW at h;split at h
 ·rename_i h2;cases h2
 ·rename_i h2;cases h2;split at h
  ·split at h
   ·rename_i hc;simp only [D7o] at hc;rw [D7p hc.1,D7p hc.2,h]
   ·exact h.elim
  ·exact h.elim
def C9X (a n:Nat):Bool:=Nat.blt n a
def C3g (T:I6) (m:Nat) (rs:List ResultVar) (r:AV) (bx':List (List AV)) (tk':N2) (st:St):Prop:=match B77 T (St.get st) rs with
 |none=>False
 |some vs=>match O5 (St.get st) (B7E (St.get st) (m-1) vs (C9X bx'.length (m-1))) (retT (St.get st) (m-1) vs tk'.isSome) vs with
  | .bad=>False
  | .go as bx tk _=>wkT (bx'.length+1) as r (B4w (bx'.length+1) bx bx' (tkW tk tk'))
def D5X (T:I6) (m:Nat) (rs:List ResultVar) (r:AV) (bx':List (List AV)) (tk':N2):KT:=fun e _ st=>match e with
 | .normal=>C3g T m rs r bx' tk' st
 | .ret=>C3g T m rs r bx' tk' st
 |_=>False
theorem B3h {nx:Nat}: ∀ {a b:List (List AV)} {K:Prop},B4w nx a b K->a.length=b.length/\ ∀(j:Nat) (cs' :List AV),b[j]? =some cs' -> ∃cs K',a[j]? =some cs/\wkL [] nx cs cs' K'
 | [], [],_,h=>by simp
 |cs::a,cs' ::b,K,h=>by
  obtain ⟨h1,h2⟩:=B3h (C0Q h);refine ⟨by simp [h1],fun j x hj=> ?_⟩
  cases j with
  |zero=>cases hj;exact ⟨cs,_,rfl,h⟩
  |succ j=>simpa using h2 j x (by simpa using hj)
 | [],_::_,_,h=>h.elim
 |_::_, [],_,h=>h.elim
theorem B5V {nx:Nat}: ∀ {a b:List AV} {K:Prop},B5U nx a b K->K/\a.length=b.length/\ ∀(j:Nat) (c' :AV),b[j]? =some c' -> ∃c K',a[j]? =some c/\wkV [] nx c c' K'
 | [], [],_,h=>by simp [B5U] at h;simp [h]
 |cs::a,cs' ::b,K,h=>by
  obtain ⟨h0,h1,h2⟩:=B5V (C9k h);refine ⟨h0,by simp [h1],fun j x hj=> ?_⟩
  cases j with
  |zero=>cases hj;exact ⟨cs,_,rfl,h⟩
  |succ j=>simpa using h2 j x (by simpa using hj)
 | [],_::_,_,h=>h.elim
 |_::_, [],_,h=>h.elim
theorem C5v {bx bx' :List (List AV)} {tk tk' :N2} {β:Nat->Nat×Nat} {p:Option (Nat×Nat×Nat)} {ok:Nat->Prop} {w:World} {K:Prop} (hm:MR (U2 bx tk β p ok w)) (h:B4w (bx'.length+1) bx bx' K) (ht:tkW tk tk'):
  WkM [] (bx'.length+1) (U2 bx tk β p ok w) (U2 bx' tk' β p ok w)/\MR (U2 bx' tk' β p ok w):=by
 obtain ⟨hl,hg⟩:=B3h h;have key: ∀j cs',A4I bx' tk' (.box j)= .box cs' -> ∃cs K',A4I bx tk (.box j)= .box cs/\wkL [] (bx'.length+1) cs cs' K' :=fun j cs' hj=>by
  obtain ⟨cs,K',h1,h2⟩:=hg j cs' (B2k hj);exact ⟨cs,K',by simp only [A4I,h1],h2⟩
 have keyT: ∀t e sz xs,A4I bx' tk' (.tok t)= .tok e sz xs->A4I bx tk (.tok t)= .tok e sz xs:=fun t e sz xs hj=>by
  obtain ⟨rfl,h2⟩:=A0G hj;rw [h2] at ht;have:=C49 ht;show (match tk with|some (e,sz,xs)=>O7.tok e sz xs|none=>O7.none)=_
  rw [this]
 have hM:WkM [] (bx'.length+1) (U2 bx tk β p ok w) (U2 bx' tk' β p ok w):=⟨rfl,rfl,rfl,fun i' i h=>by cases h;rfl,fun i' i h=>by cases h;rfl,fun _ h=>(by cases h),fun t' e sz xs ht=> .inl ⟨t',rfl,keyT t' e sz xs ht⟩,fun i' cs' hs=>by
   obtain ⟨cs,_,h1,_⟩:=key i' cs' hs;exact ⟨i',cs,rfl,h1⟩⟩
 refine ⟨hM,hm.okLt,fun j cs' hs=> ?_,fun t e sz xs ht=> ?_,fun i j ci cj hi hj hne=> ?_,fun i j ei ej si sj xi xj p q hi hj hp hq hne=>hm.sepT i j ei ej si sj xi xj p q (keyT _ _ _ _ hi) (keyT _ _ _ _ hj) hp hq hne,fun i j ci ej sj xj q hi hj hq=> ?_⟩
 ·obtain ⟨cs,K',h1,h2⟩:=key j cs' hs;obtain ⟨g1,g2,cur,e,g3,g4,g5⟩:=hm.box j cs h1;obtain ⟨q1,q2⟩:=A3S h2;refine ⟨by show j<bx'.length+1;have:j<bx.length+1:=g1;omega,g2,cur,e,g3,by rw [<-q1];exact g4,fun k c' hk=> ?_⟩
  obtain ⟨c,K',p1,p2⟩:=q2 k c' hk;obtain ⟨u,o1,o2,o3⟩:=g5 k c p1;exact ⟨u,o1,o2,B8g hM p2 o3⟩
 ·obtain ⟨rfl,_⟩:=A0G ht;obtain ⟨_,g⟩:=hm.tok 0 e sz xs (keyT 0 e sz xs ht);exact ⟨Nat.succ_pos _,g⟩
 ·obtain ⟨c1,_,h1,e1⟩:=key i ci hi;obtain ⟨c2,_,h2,e2⟩:=key j cj hj;have:=hm.sepB i j c1 c2 h1 h2 hne;rw [<-(A3S e1).1,<-(A3S e2).1];exact this
 ·obtain ⟨c1,_,h1,_⟩:=key i ci hi;exact hm.sepM i j c1 ej sj xj q h1 (keyT _ _ _ _ hj) hq
theorem D6L {nx:Nat} {as:List AV} {r:AV} {K:Prop} (h:wkT nx as r K):K:=by
 unfold wkT at h;split at h
 ·exact C9k h
 ·split at h
  ·exact (B5V h).1
  ·exact h.elim
theorem C5u {nx:Nat}: ∀ {a b:List (List AV)} {K:Prop},B4w nx a b K->K
 | [], [],_,h=>h
 | [],_::_,_,h=>h.elim
 |_::_, [],_,h=>h.elim
 |_::_,_::_,_,h=>C5u (C0Q h)
theorem C2u {P:Program} {N:Nat} {T:I6} (hT:Z6 P T) {bx:List (List AV)} {tk:N2} {β:Nat->Nat×Nat} {p:Option (Nat×Nat×Nat)} {ok:Nat->Prop} {w:World} {fn:Func} {r:AV} {bx' :List (List AV)} {tk' :N2} {st:St} {a:Act} {w' :World} {A:Nat->Prop}
  (hs:S7 (cFr P N bx tk β p ok w) A (St.get st) a w') (h:C3g T (bx.length+1) fn.results.toList r bx' tk' st):
  a.defers= []/\ ∃v,(results fn a.tmps).run P w' = .ok v w' /\C7N P bx tk β p ok w r bx' tk' (.returned v) w' :=by
 obtain ⟨β1,τ1,ok1,hx⟩:=hs;unfold C3g at h;split at h
 ·exact h.elim
 rename_i vs hvs;split at h
 ·exact h.elim
 rename_i as bx2 tk2 ks hc;rw [D7X] at hc;obtain ⟨us,hrun,hul,huv⟩:=B8V hx hT hvs;obtain ⟨ka,kb,ha,hb,hks,hap,htk,ht⟩:=A3F hc;obtain ⟨m1,h1,h2,h3,h4,h5,hmr,hbl,H⟩:=B7Y hx hc;obtain ⟨b1,b2⟩:=B2J hb
 generalize hids:B7E (St.get st) bx.length vs (C9X bx'.length bx.length)=B9 at*
 generalize htt:retT (St.get st) bx.length vs tk'.isSome=t at*
 obtain ⟨v1,v2⟩:=B66 H vs as ka us ha (fun i hi=>by rw [hks];simp [hi]) hul huv
 have hLL:=D6L h;have hW:=C5u hLL;obtain ⟨hM,hmr2⟩:=C5v hmr hLL hW;have hlen:=(B3h hLL).1;have hw1:m1.w=w' :=h3;have hget: ∀j,j<bx.length->B9[j]? =some (j,0,A3H (St.get st) j):=fun j hj=>by rw [<-hids];exact D4i j hj
 have hcases: ∀j q,B9[j]? =some q->(j<bx.length/\q=(j,0,A3H (St.get st) j))\/(j=bx.length/\ ∃i,bx.length+1<=i/\q=(i,0,A3H (St.get st) i)):=fun j q hj=>by rw [<-hids] at hj;exact C4L hj
 have hidl:bx.length<=B9.length:=by
  rcases Nat.eq_zero_or_pos bx.length with h0|h0
  ·omega
  ·have:=(D7q.1 (hget (bx.length-1) (by omega))).1
   omega
 have hpar: ∀j,j<bx.length->β1 j=β j:=fun j hj=>hx.par j (by show j<bx.length+1;omega)
 have hwin: ∀j,j<bx.length->R7 ⟨St.get st,β1,τ1,A,ok1,w'⟩ B9 j=β j:=fun j hj=>by
  unfold R7;rw [hget j hj];show ((β1 j).1,(β1 j).2+0)=β j;rw [Nat.add_zero,hpar j hj]
 have htb: ∀b,tkB tk' (A07 ⟨St.get st,β1,τ1,A,ok1,w'⟩ t) b->w.heap.size<=b\/tkB tk p b:=fun b hb' =>by
  obtain ⟨x,q,hx1,hx2,rfl⟩:=hb';cases t with
  |none=>cases hx2
  |some k=>
   obtain ⟨_,e,sz,xs,g1,_⟩:=ht k rfl;exact hx.newT k e sz xs q g1 hx2
 refine ⟨hx.defers,_,C6e hrun,_,R7 ⟨St.get st,β1,τ1,A,ok1,w'⟩ B9,A07 ⟨St.get st,β1,τ1,A,ok1,w'⟩ t,m1.ok,rfl, ?_⟩;refine ⟨hw1▸hmr2, ?_,⟨hx.keep.os,hx.keep.tape,hx.keep.output,hx.keep.size,hx.keep.block,hx.keep.win,hx.keep.fz⟩,hwin,fun j hj=> ?_,by omega,fun j hj hj' => ?_,htb,h1.ok0,h1.okNew⟩
 ·rw [<-hw1];unfold wkT at h;split at h
  ·rename_i v
   match us,v1,v2 with
   | [u],_,v2=>
    obtain ⟨u',e1,e2⟩:=v2 0 v rfl;cases e1;exact D1h hM h (A8Z e2)
   | [],v1,_=>simp [<-hul] at v1
   |_::_::_,v1,_=>simp [<-hul] at v1
  ·rename_i hone;split at h
   ·rename_i rs;obtain ⟨_,g1,g2⟩:=B5V h;have hne:us.toArray.size≠1:=by
     intro he;have:as.length=1:=by rw [v1,<-hul];simpa using he
     match as,this with
     | [v],_=>exact hone v rfl
    rw [dif_neg hne];refine ⟨us.toArray,rfl,by simp [hul,<-v1,g1],fun j c' hj=> ?_⟩
    obtain ⟨c,K',q1,q2⟩:=g2 j c' hj;obtain ⟨u,p1,p2⟩:=v2 j c q1;exact ⟨u,by simpa using p1,C1O hM q2 (A8Z p2)⟩
   ·exact h.elim
 ·have hj2:j<bx2.length:=by omega
  obtain ⟨cs0,ds,k,q1,q2,q3,q4,q5⟩:=b2 j _ (hget j hj);obtain ⟨_,hg⟩:=B3h hLL;have hj' :j<bx'.length:=by omega
  obtain ⟨ds',K',r1,r2⟩:=hg j _ (D7u hj');rw [q4] at r1;cases r1;have e1:(bx'.getD j [])=bx'[j]:=by rw [D8c,D7u hj'];rfl
  rw [e1,<-(A3S r2).1];have hpl:cs0.length=(bx.getD j []).length:=hx.parL j cs0 q1 (by show j<bx.length+1;omega)
  rw [<-hpl];have q3' :hvL (St.get st) B9 t ((cs0.drop 0).take (A3H (St.get st) j))=some (ds,k):=q3;have hlb:A3H (St.get st) j=cs0.length:=by
   unfold A3H;have:St.get st (.box j)= .box cs0:=q1;rw [this]
  rw [hlb] at q3';have hl: ∀(cs ds:List AV) (k:List Nat),hvL (St.get st) B9 t cs=some (ds,k)->ds.length=cs.length:=by
   intro cs
   induction cs with
   |nil=>intro ds k h;cases h;rfl
   |cons c cs ih=>
    intro ds k h;simp only [hvL] at h;split at h
    ·rename_i h1 h2;cases h;simp [ih _ _ h2]
    ·cases h
  rw [hl _ _ _ q3'];simp
 ·have hji:j<B9.length:=by omega
  obtain ⟨q,hq⟩: ∃q,B9[j]? =some q:=⟨_,D7u hji⟩;rcases hcases j q hq with ⟨h6,_⟩|⟨_,i,h7,h8⟩
  ·omega
  ·rw [h8] at hq;obtain ⟨cs0,_,_,q1,_⟩:=b2 j _ hq;show w.heap.size<=(R7 _ B9 j).1;unfold R7;rw [hq];exact hx.newB i cs0 q1 h7
def B2s (fn:Func):Code:=match fn.body with
 |some c=>c
 |none=> .skip
def C02 (fn:Func):Bool:=match fn.body with
 |some _=>true
 |none=>false
theorem B1.wk {P:Program} {f:FuncId} {as as' :List AV} {bx bx2:List (List AV)} {tk tk2:N2} {r:AV} {bx' :List (List AV)} {tk' :N2} (h:B1 P f as' bx2 tk2 r bx' tk') (hw:B5U (bx2.length+1) as as' (B4w (bx2.length+1) bx bx2 (tkW tk tk2))):B1 P f as bx tk r bx' tk' :=by
 obtain ⟨hb,hl,hg⟩:=B5V hw;obtain ⟨hlen,hgl⟩:=B3h hb;have ht:=C5u hb;refine ⟨fun w β p ok vs hmr hsz hv=> ?_⟩;obtain ⟨hM,hmr2⟩:=C5v hmr hb ht;have hln: ∀j,(bx2.getD j []).length=(bx.getD j []).length:=fun j=>by
  by_cases hj:j<bx2.length
  ·obtain ⟨cs,K',r1,r2⟩:=hgl j _ (D7u hj);have e1:(bx2.getD j [])=bx2[j]:=by rw [D8c,D7u hj];rfl
   have e2:(bx.getD j [])=cs:=by rw [D8c,r1];rfl
   rw [e1,e2,(A3S r2).1]
  ·have e1:(bx2.getD j [])= []:=by rw [D8c,D8d (by omega)];rfl
   have e2:(bx.getD j [])= []:=by rw [D8c,D8d (by omega)];rfl
   rw [e1,e2]
 have htb: ∀b,tkB tk2 p b->tkB tk p b:=by
  rintro b ⟨x,q,hx,hq,rfl⟩;obtain ⟨e,sz,xs⟩:=x;rw [hx] at ht;exact ⟨_,q,C49 ht,hq,rfl⟩
 refine (h.body w β p ok vs hmr2 (hsz.trans hl) (fun i c' hi=> ?_)).mono ?_
 ·obtain ⟨c,K',q1,q2⟩:=hg i c' hi;obtain ⟨u,p1,p2⟩:=hv i c q1;exact ⟨u,p1,C1O hM q2 (A8Z p2)⟩
 ·rintro e w' ⟨u,β',p',ok',h1,L⟩;refine ⟨u,β',p',ok',h1,L.mr,L.vr,⟨L.keep.os,L.keep.tape,L.keep.output,L.keep.size,fun k hk hj ht' =>L.keep.block k hk (fun j hjl hj0=>hj j (by show j<bx.length+1;have:j<bx2.length+1:=hjl;omega) (by show 0<(bx.getD j []).length;rw [<-hln j];exact hj0)) (fun hb=>ht' (htb k hb)),fun k cur e hk ht' hc=> ?_,L.keep.fz⟩,fun j hj=>L.same j (by omega),fun j hj=>by rw [L.len j (by omega),hln j],by have:=L.long;omega,fun j hj hj' =>L.new j (by omega) hj',fun b hb=>(L.newT b hb).imp id (htb b),L.ok0,fun b hb=>(L.okNew b hb).imp id (Or.imp id (htb b))⟩
  obtain ⟨cur',g1,g2,g3⟩:=L.keep.win k cur e hk (fun hb=>ht' (htb k hb)) hc;refine ⟨cur',g1,g2,fun o ho=>g3 o (fun j hj hjk=> ?_)⟩;have:=ho j (by show j<bx.length+1;have:j<bx2.length+1:=hj;omega) hjk
  show¬((β j).2<=o/\o<(β j).2+(bx2.getD j []).length);rw [hln j];exact this
theorem F5.wk {P:Program} {f:FuncId} {as as' :List AV} {bx bx2:List (List AV)} {r:AV} {bx' :List (List AV)} (h:F5 P f as' bx2 r bx') (hw:B5U (bx2.length+1) as as' (B4w (bx2.length+1) bx bx2 True)):F5 P f as bx r bx' :=B1.wk h hw
end Go.Vc
namespace Go.Vc
open Go.RowKit
def zrB:AV->Value->Bool
 | .int k n, .int k' n' =>decide (k=k')&&decide (n=n')
 | .bool b, .bool b' =>b==b'
 | .nilS, .slice none 0 0=>true
 | .nilp, .pointer none=>true
 | .junk,_=>true
 |_,_=>false
theorem D2R {c:AV} {v:Value} (h:zrB c v=true):ZR c v:=by
 unfold zrB at h;split at h
 ·simp only [D7o,D7i] at h;obtain ⟨rfl,rfl⟩:=h
  rfl
 ·rw [eq_of_beq h];rfl
 ·rfl
 ·rfl
 ·trivial
 ·cases h
def zrL:List AV->List Value->Bool
 | [], []=>true
 |c::cs,v::vs=>(zrB c v&&v.oneCell')&&zrL cs vs
 |_,_=>false
theorem C5y: ∀ {cs:List AV} {vs:List Value},zrL cs vs=true-> ∀(j:Nat) (c:AV),cs[j]? =some c-> ∃u,vs[j]? =some u/\u.oneCell' =true/\ZR c u
 | [], [],_,j,c,h=>by simp at h
 |c::cs,v::vs,h,j,x,hj=>by
  simp only [zrL,D7o] at h;cases j with
  |zero=>cases hj;exact ⟨v,rfl,h.1.2,D2R h.1.1⟩
  |succ j=>simpa using C5y h.2 j x (by simpa using hj)
 | [],_::_,h,_,_,_=>by cases h
 |_::_, [],h,_,_,_=>by cases h
def B96:List (Nat×Nat)->List (Nat×Nat)->Bool
 | [], []=>true
 |(a,b)::r,(c,d)::s=>(Nat.beq a c&&Nat.beq b d)&&B96 r s
 |_,_=>false
theorem B8I: ∀ {a b:List (Nat×Nat)},B96 a b=true->a=b
 | [], [],_=>rfl
 |(a,b)::r,(c,d)::s,h=>by
  simp only [B96,D7o] at h;rw [D7p h.1.1,D7p h.1.2,B8I h.2]
 | [],_::_,h=>by cases h
 |_::_, [],h=>by cases h
def D15 (P:Program) (t:Nat):Bool:=match P.underlying t with
 |some (.map k _)=>match P.underlying k with
  |some (.int .i64)=>true
  |_=>false
 |_=>false
theorem C95 {P:Program} {t:Nat} (h:D15 P t=true): ∃k e,P.underlying t=some (.map k e)/\P.underlying k=some (.int .i64):=by
 unfold D15 at h;split at h
 ·rename_i k e hk;split at h
  ·rename_i hq;exact ⟨k,e,hk,hq⟩
  ·cases h
 ·cases h
def C8s (P:Program) (t:Nat):TK->Bool
 | .int k=>match P.underlying t with
  |some (.int k')=>decide (k' =k)
  |_=>false
 | .bool=>match P.underlying t with
  |some .bool=>true
  |_=>false
 | .struct fs=>match P.underlying t with
  |some (.struct flds)=>B96 (flds.toList.map fun f=>(f.offset,P.cellsOf f.type)) fs&&flds.toList.all fun f=>(P.info? f.type).isSome
  |_=>false
 | .slice e=>match P.underlying t with
  |some (.slice e')=>Nat.beq e' e
  |_=>false
 | .pointer e=>match P.underlying t with
  |some (.pointer e')=>Nat.beq e' e
  |_=>false
 | .array n e=>match P.underlying t with
  |some (.array n' e')=>Nat.beq n' n&&Nat.beq e' e
  |_=>false
 | .imap=>D15 P t
 | .other=>match P.underlying t with
  |some (.struct _)=>false
  |some (.array _ _)=>false
  |some _=>true
  |none=>false
theorem C8t {P:Program} {t:Nat} {k:TK} (h:C8s P t k=true):B6A P t k:=by
 by_cases hi:k= .imap
 ·subst hi;exact C95 h
 unfold C8s at h;split at h<;>first|exact absurd rfl hi|skip
 all_goals split at h
 all_goals first|(cases h;done)|skip
 ·rename_i hk;rw [<-of_decide_eq_true h];exact hk
 ·assumption
 ·rename_i flds hk;simp only [D7o] at h;exact ⟨flds,hk,B8I h.1,fun f hf=>D7S.1 h.2 f hf⟩
 ·rename_i hk;rw [<-D7p h];exact hk
 ·rename_i hk;rw [<-D7p h];exact hk
 ·rename_i hk;simp only [D7o] at h;rw [<-D7p h.1,<-D7p h.2];exact hk
 ·rename_i d h1 h2 hk;refine ⟨d,hk, ?_⟩;cases d<;>first|rfl|exact absurd rfl (h1 _)|exact absurd rfl (h2 _ _)
def C8f (P:Program) (g:TypeId->Option (List Bool)):Nat->List Field->Option (List (List Bool))
 |_, []=>some []
 |off,f::r=>match g f.type with
  |some ks=>match decide (f.name≠ "_")&&(Nat.beq f.offset off&&(match P.info? f.type with
    |some i=>Nat.beq i.size ks.length
    |none=>false)) with
   |true=>match C8f P g (off+ks.length) r with
    |some kss=>some (ks::kss)
    |none=>none
   |false=>none
  |none=>none
def C8g (P:Program):Nat->TypeId->Option (List Bool)
 |0,_=>none
 |d+1,t=>match P.underlying t with
  |some (.int _)=>some [true]
  |some .bool=>some [false]
  |some (.struct _)=>match P.stoodInHeld t with
   |true=>none
   |false=>match C8f P (C8g P d) 0 (P.fieldsOf t).toList with
    |some kss=>some kss.flatten
    |none=>none
  |_=>none
theorem C15 {P:Program} {g:TypeId->Option (List Bool)}: ∀ {fs:List Field} {off:Nat} {kss:List (List Bool)},C8f P g off fs=some kss->
  kss.length=fs.length/\ ∀(j:Nat) (f:Field) (ks:List Bool),fs[j]? =some f->kss[j]? =some ks->
   g f.type=some ks/\f.name≠ "_" /\f.offset=off+(kss.take j).flatten.length/\(P.info? f.type).map (·.size)=some ks.length
 | [],off,kss,h=>by cases h;simp
 |f::r,off,kss,h=>by
  simp only [C8f] at h;split at h
  ·rename_i ks hks;split at h
   ·rename_i hc;split at h
    ·rename_i kss' hr;cases h;simp only [D7o,D7i] at hc;obtain ⟨g1,g2⟩:=C15 hr;refine ⟨by simp [g1],fun j f' ks' hf hk=> ?_⟩
     cases j with
     |zero=>
      cases hf;cases hk;refine ⟨hks,hc.1,by simp [D7p hc.2.1], ?_⟩
      have h3:=hc.2.2;split at h3
      ·rename_i i hi;rw [hi];simp [D7p h3]
      ·cases h3
     |succ j=>
      obtain ⟨q1,q2,q3,q4⟩:=g2 j f' ks' (by simpa using hf) (by simpa using hk)
      refine ⟨q1,q2, ?_,q4⟩;rw [q3];simp [Nat.add_assoc]
    ·cases h
   ·cases h
  ·cases h
theorem C16 {P:Program}: ∀(d:Nat) {t:TypeId} {ks:List Bool},C8g P d t=some ks->EqT P t ks d
 |0,_,_,h=>by cases h
 |d+1,t,ks,h=>by
  simp only [C8g] at h;split at h
  ·rename_i k hk;cases h;exact .int t k d hk
  ·rename_i hk;cases h;exact .bool t d hk
  ·rename_i flds hk;split at h
   ·cases h
   ·rename_i hs;split at h
    ·rename_i kss hf;cases h;have e:P.fieldsOf t=flds:=by simp [Program.fieldsOf,hk]
     obtain ⟨g1,g2⟩:=C15 hf;refine .struct t d kss (by rw [e];exact hk) hs g1 (fun j f ks hj hk=> ?_) (fun j f ks hj hk=> ?_)
     ·obtain ⟨_,q2,q3,q4⟩:=g2 j f ks hj hk;exact ⟨q2,by simpa using q3,q4⟩
     ·exact C16 d (g2 j f ks hj hk).1
    ·cases h
  ·cases h
def B7S:List Bool->List Bool->Bool
 | [], []=>true
 |a::r,b::s=>(a==b)&&B7S r s
 |_,_=>false
theorem B6K: ∀ {a b:List Bool},B7S a b=true->a=b
 | [], [],_=>rfl
 |a::r,b::s,h=>by
  simp only [B7S,D7o] at h;rw [eq_of_beq h.1,B6K h.2]
 | [],_::_,h=>by cases h
 |_::_, [],h=>by cases h
def plainB (P:Program) (t:Nat) (ti:TI):Bool:=match ti.plain with
 | []=>true
 |ks=> !P.eqGuardType P.depth t&&(ti.agg&&(match C8g P 100 t with
  |some ks' =>B7S ks' ks
  |none=>false))
def D2Y (P:Program) (t:Nat) (ti:TI):Bool:=match P.info? t with
 |some i=>match i.zero with
  |some z=>Nat.beq i.size ti.size&&(Nat.beq i.bytes ti.bytes&&(Nat.beq z.cells.size ti.size&&(Nat.beq ti.zero.length ti.size&&zrL ti.zero z.cells.toList)))
  |none=>false
 |none=>false
def tiB (P:Program) (t:Nat) (ti:TI):Bool:=D2Y P t ti&&(C8s P t ti.kind&&plainB P t ti)
theorem D2G {P:Program} {t:Nat} {ti:TI} (h:tiB P t ti=true):Q0 P t ti:=by
 simp only [tiB,D7o] at h;obtain ⟨h1,h2,h3⟩:=h;refine ⟨?_,C8t h2,fun hne=> ?_⟩
 ·unfold D2Y at h1;split at h1
  ·rename_i i hi;split at h1
   ·rename_i z hz;simp only [D7o] at h1;obtain ⟨a,b,c,d,e⟩:=h1;refine ⟨i,hi,D7p a,D7p b,z,hz,D7p c,D7p d,fun j x hj=> ?_⟩;obtain ⟨u,q1,q2⟩:=C5y e j x hj;exact ⟨u,by simpa using q1,q2⟩
   ·cases h1
  ·cases h1
 ·unfold plainB at h3;split at h3
  ·rename_i hp;exact absurd hp hne
  ·rename_i ks _;simp only [D7o,D7C] at h3;obtain ⟨a,b,c⟩:=h3;refine ⟨a,b, ?_⟩;split at c
   ·rename_i ks' hks;rw [<-B6K c];exact C16 100 hks
   ·cases c
def D68 (P:Program) (T:I6):Bool:=T.all fun p=>tiB P p.1 p.2
theorem D03 {P:Program} {T:I6} (h:D68 P T=true):Z6 P T:=by
 have key: ∀(T' :I6) t ti,I6.find T' t=some ti->(t,ti)∈T' :=by
  intro T'
  induction T' with
  |nil=>intro t ti h;cases h
  |cons p r ih=>
   obtain ⟨n,x⟩:=p;intro t ti h;simp only [I6.find] at h;split at h
   ·rename_i hb;cases h;rw [D7p hb];simp
   ·exact List.mem_cons_of_mem _ (ih t ti h)
 intro t ti ht;exact D2G (D7S.1 h _ (key T t ti ht))
end Go.Vc
namespace Go.Vc
open Go.RowKit Go.ChangeShapes Go.WideShapes Go.ChangeAt
theorem C9D {w:World} {a:Addr} {v:Value} (h:w.cell? a=some v):a.spot=none/\a.block<w.heap.size:=by
 unfold World.cell? at h;split at h
 ·rename_i c _ _ hb;refine ⟨?_,(D74.1 hb).1⟩;cases hs:a.spot with
  |none=>rfl
  |some s=>rw [hs] at h;simp at h
 ·cases h
def C4a (w:World):G6:=U2 [] none (fun _=>(0,0)) none (fun b=>b<w.heap.size) w
def D7f (k0 k1:IntKind) (l:List (Int×Int)):List (List AV):=l.map fun p=> [.int k0 p.1, .int k1 p.2]
theorem F5.law2 {P:Program} {f:FuncId} {as:List AV} (h:F5 P f as [] (.sb true) []) (hcall:∀(vs:Array Value) (w:World),(callFunc f vs).run P w= .ok (.enter f vs) w) (w:World) (vs:Array Value) (hl:vs.size=as.length)
  (hv:∀(i:Nat) (c:AV),as[i]? =some c-> ∃u,vs[i]? =some u/\VR1 (C4a w) c u):
  Calls P f vs w fun e w' =>e= .returned (.bool true)/\Below w.heap.size w w' :=by
 have run: ∀Q,C0U P f vs w Q->Calls P f vs w Q:=fun Q hq=>by
  rcases hq with ⟨_,h2⟩|⟨v,w',h1,_⟩
  ·exact h2
  ·rw [hcall] at h1;cases h1
 refine (run _ (h.body w (fun _=>(0,0)) none (fun b=>b<w.heap.size) vs ⟨fun _ hb=>hb,fun i cs hs=> ?_,fun t e sz xs ht=> ?_,fun i j ci cj hi=> ?_,fun i j ei ej si sj xi xj p q hi=> ?_,fun i j ci ej sj xj q hi=> ?_⟩ hl hv)).mono ?_
 ·cases B2k (bx:= []) (tk:=none) (i:=i) hs
 ·cases (A0G (bx:= []) (tk:=none) (q:=t) ht).2
 ·cases B2k (bx:= []) (tk:=none) (i:=i) hi
 ·cases (A0G (bx:= []) (tk:=none) (q:=i) hi).2
 ·cases B2k (bx:= []) (tk:=none) (i:=i) hi
 ·rintro e w' ⟨u,β',p',ok',rfl,L⟩;have hu:u= .bool true:=L.vr;subst hu;have hbl: ∀k,k<w.heap.size->w'.heap[k]? =w.heap[k]? :=fun k hk' =>L.keep.block k hk' (fun j _ hj0=>by
   have:0<(([]:List (List AV)).getD j []).length:=hj0;simp at this) (fun hb=>by obtain ⟨x,q,hx,_⟩:=hb;cases hx)
  exact ⟨rfl,L.keep.os,L.keep.tape,L.keep.output,L.keep.size,hbl⟩
theorem C2P {H:Type} {enc:TypeId×Value->H} {P:Program} {f:Func} {s:ChangeSpec} {apart fresh handsOn again:Bool} {W W' :World} {args:Array Value} {v:Value} {ds gs:List (DataW H)} {before pa pv:List MemPlace}
  (hW:DataW.Whole enc P f.params.toList s.vars apart W args.toList ds gs before)
  (hres:∀(b:Nat) (sp:Nat->Bool) (hd:Bool),DataW.TrodAll enc P W' b sp hd f.resultTypes.toList (v.resultList f.resultTypes.size) (s.fn H (ds++gs)).results [])
  (hargs:∀sp:Nat->Bool,(∀p∈before,sp p.block=true)->DataW.TrodAll enc P W' 0 sp true f.params.toList args.toList (s.fn H (ds++gs)).args pa)
  (hvars:∀sp:Nat->Bool,(∀p∈before,sp p.block=true)->DataW.TrodVars enc P W' sp s.vars (s.fn H (ds++gs)).vars pv)
  (hps:before=pa++pv) (hb:Below W.heap.size W W')
  (hok:∀(j:Nat) (t:TypeId) (r:Value),f.resultTypes[j]? =some t->(v.resultList f.resultTypes.size)[j]? =some r->Value.okWide P W' .any 0 t r):
  s.post enc P f apart fresh handsOn again W args v W' :=by
 have hlt:=hW.lt;have hold: ∀p∈before,(fun b=>decide (b<W.heap.size)) p.block=true:=fun p hp=>by simpa using hlt p hp
 refine ⟨ds,gs,before, [],pa,pv,hW,hres _ _ _,hargs _ hold,hvars _ hold,World.keptBut_mono (fun p hp=>⟨hp, ?_⟩) (hb.frame (· ∈before)),fun _=> ?_⟩
 ·rw [hps,D72] at hp;exact Or.inr hp
 ·obtain ⟨_,_,_,_,_,hz,hn⟩:=hW;refine ⟨hok,_,_,([]++pa)++pv,⟨[]++pa,pv,trodAll_append (hargs _ (fun _ _=>rfl)) (hres _ _ _),hvars _ (fun _ _=>rfl),rfl, ?_, ?_⟩, ?_⟩
  ·intro b off hp;have hp' :MemPlace.cell b off∈before:=by rw [hps];simpa using hp
   have hbl:=hb.block b (hlt _ hp');have:=hz b off hp';unfold World.frozen? at this⊢;simp only at this⊢;rw [hbl];exact this
  ·intro ha;have:=hn ha;rw [hps] at this;simpa using this
  ·intro p hp _;rw [hps];simpa using hp
theorem C1U {H:Type} {enc:TypeId×Value->H} {P:Program} {t:TypeId} (hl:laidOutB P=true) (hr:P.readableRec t=true) (hrow:t<P.types.size) {W W' :World} {sp:Nat->Bool} {v:Value} {d:DataW H} {ps:List MemPlace}
  (h:DataW.Trod enc P W 0 (fun _=>true) true t v d ps) (hb:Below W.heap.size W W') (hlt:∀x∈ps,x.block<W.heap.size) (hs:∀x∈ps,sp x.block=true):DataW.Trod enc P W' 0 sp true t v d ps:=
 WideElems.Trod_stays hl hr hrow h (fun x hx=>hb.same (hlt x hx)) hs
end Go.Vc
set_option linter.unusedVariables false
namespace Go.Vc
open Go.RowKit
def A8k (d0:Tmp) (t:TypeId):Int->List Oper->List FuncId×List Oper
 |_, []=>([], [])
 |b,o::r=>match o.op,o.dst,o.guard with
  | .insert t' (.tmp m) (.const (.int .i64 n)) (.func f),none,none=>match Nat.beq m d0&&Nat.beq t' t&&decide (n=b) with
   |true=>(f::(A8k d0 t (b+1) r).1,(A8k d0 t (b+1) r).2)
   |false=>([],o::r)
  |_,_,_=>([],o::r)
theorem B2H {n:Int}: ∀(l r:List MapEntry) (i:Nat),(∀x∈l,∃n',x.key= .int .i64 n' /\n' ≠n)->
  Instr.findNow (.int .i64) (.int .i64 n) (l++r) i=Instr.findNow (.int .i64) (.int .i64 n) r (i+l.length)
 | [],r,i,_=>rfl
 |e::l,r,i,h=>by
  obtain ⟨n',h1,h2⟩:=h e (by simp)
  rw [List.cons_append,Instr.findNow,h1];have:Instr.sameNow (.int .i64) (.int .i64 n) (.int .i64 n')=some false:=by
   simp only [Instr.sameNow,if_true,D78,D76];omega
  rw [this];simp only [];rw [B2H l r (i+1) (fun x hx=>h x (by simp [hx])),D7z]
  congr 1
  omega
theorem C83 {P:Program} {t kt e:TypeId} (ht:P.underlying t=some (.map kt e)) (hk:P.underlying kt=some (.int .i64)) (w:World) (es:Array MapEntry) (c:Nat) (n:Int) (v:Value)
  (h:∀x∈es.toList,∃n',x.key= .int .i64 n' /\n' ≠n):
  (Instr.mapUpdate t (.map (some w.heap.size)) (.int .i64 n) v).run P (w.alloc (.map es c))= .ok () (w.alloc (.map (es.push { key:= .int .i64 n,val:=v,born:=c}) (c+1))):=by
 have hb:=(MapKept.heap_alloc w (.map es c)).1;have hf:Instr.findNow (.int .i64) (.int .i64 n) es.toList 0=some none:=by
  have:=B2H es.toList [] 0 h;rw [List.append_nil] at this;rw [this];rfl
 have e1:({ w.alloc (.map es c) with heap:=(w.alloc (.map es c)).heap.setIfInBounds w.heap.size (.map (es.push { key:= .int .i64 n,val:=v,born:=c}) (c+1))}:World)=w.alloc (.map (es.push { key:= .int .i64 n,val:=v,born:=c}) (c+1)):=by
  have ea:(w.heap.push (.map es c)).setIfInBounds w.heap.size (.map (es.push { key:= .int .i64 n,val:=v,born:=c}) (c+1))=w.heap.push (.map (es.push { key:= .int .i64 n,val:=v,born:=c}) (c+1)):=by
   apply Array.ext_getElem?;intro i;simp only [Array.getElem?_setIfInBounds,Array.size_push,Array.getElem?_push]
   by_cases hi:i=w.heap.size
   ·subst hi;simp
   ·rw [if_neg (fun h=>hi h.symm)];simp [hi]
  show World.mk ((w.heap.push (.map es c)).setIfInBounds w.heap.size (.map (es.push { key:= .int .i64 n,val:=v,born:=c}) (c+1))) w.tape w.drawn w.os w.output=World.mk (w.heap.push (.map (es.push { key:= .int .i64 n,val:=v,born:=c}) (c+1))) w.tape w.drawn w.os w.output;rw [ea]
 simp [Instr.mapUpdate,run_underlying ht,MapKept.run_getObj_map hb,MapKept.run_checkKey hk (show MapKept.IsKey (.int .i64) (.int .i64 n) from rfl),MapKept.run_findKey hk hf,MapKept.run_setObj_map _ hb,Result.andThen];exact e1
theorem D5m {P:Program} {ops:Array Oper} {Q:Exit->Act->World->Prop} {d0:Tmp} {t kt e:TypeId} (ht:P.underlying t=some (.map kt e)) (hk:P.underlying kt=some (.int .i64)) (w:World) (a:Act)
  (hd:a.eval (.tmp d0)= .map (some w.heap.size)) (rest:List Oper): ∀(l:List Oper) (b:Int) (fs:List FuncId) (es:Array MapEntry) (c:Nat),A8k d0 t b l=(fs,rest)->
  (∀x∈es.toList,∃n,x.key= .int .i64 n/\n<b)->
  (∀es' c',(∀(i:Nat) (f:FuncId),fs[i]? =some f-> ∃j,Instr.findNow (.int .i64) (.int .i64 (b+i)) es'.toList 0=some (some (j, .func (.func f) #[] #[])))->
   (∃r,es'.toList=es.toList++r)->wpList P ops Q rest a (w.alloc (.map es' c')))->wpList P ops Q l a (w.alloc (.map es c)):=by
 intro l
 induction l with
 |nil=>
  intro b fs es c hl _ h;simp only [A8k,Prod.mk.injEq] at hl;obtain ⟨rfl,rfl⟩:=hl;exact h es c (fun i f hf=>by simp at hf) ⟨[],by simp⟩
 |cons o l ih=>
  intro b fs es c hl hes h;unfold A8k at hl;have stop:fs= []->rest=o::l->wpList P ops Q (o::l) a (w.alloc (.map es c)):=by
   rintro rfl rfl;exact h es c (fun i f hf=>by simp at hf) ⟨[],by simp⟩
  split at hl
  ·rename_i t' m n f ho hdst hg;split at hl
   ·rename_i hc;simp only [D7o,D7i] at hc;obtain ⟨⟨h1,h2⟩,rfl⟩:=hc;have h1:=D7p h1;have h2:=D7p h2;subst h1 h2;simp only [Prod.mk.injEq] at hl;obtain ⟨rfl,hr⟩:=hl;refine wpList_plain hg fun K hK=> ?_;have hrun:=C83 ht hk w es c n (.func (.func f) #[] #[]) (fun x hx=>by obtain ⟨n',q1,q2⟩:=hes x hx;exact ⟨n',q1,by omega⟩)
    have ev1:a.eval (.const (.int .i64 n))= .int .i64 n:=rfl;have ev2:a.eval (.func f)= .func (.func f) #[] #[]:=rfl;unfold Oper.wp;simp [execOp,ho,hd,ev1,ev2,hrun,Result.andThen];refine hK _ _ ?_;rw [hdst];show wpList P ops Q l a _;refine ih (n+1) _ _ _ (Prod.ext rfl hr) (fun x hx=> ?_) fun es' c' g1 g2=> ?_
    ·rw [Array.toList_push,D72] at hx;rcases hx with hx|hx
     ·obtain ⟨n',q1,q2⟩:=hes x hx;exact ⟨n',q1,by omega⟩
     ·have:x= { key:= .int .i64 n,val:= .func (.func f) #[] #[],born:=c}:=by simpa using hx
      subst this;exact ⟨n,rfl,by omega⟩
    ·obtain ⟨r,hr2⟩:=g2;rw [Array.toList_push,D7K] at hr2;refine h es' c' (fun i f' hf=> ?_) ⟨_,hr2⟩;cases i with
     |zero=>
      have:f=f' :=by simpa using hf
      subst this;refine ⟨es.toList.length, ?_⟩;rw [hr2,show n+((0:Nat):Int)=n by omega,B2H _ _ _ (fun x hx=>by obtain ⟨n',q1,q2⟩:=hes x hx;exact ⟨n',q1,by omega⟩)]
      simp [Instr.findNow,Instr.sameNow]
     |succ i=>
      obtain ⟨j,hj⟩:=g1 i f' (by simpa using hf)
      exact ⟨j,by rw [<-hj];congr 2;omega⟩
   ·simp only [Prod.mk.injEq] at hl;exact stop hl.1.symm hl.2.symm
  ·simp only [Prod.mk.injEq] at hl;exact stop hl.1.symm hl.2.symm
def C4g (ops:List Oper):Option (TypeId×Tmp×List FuncId×Tmp×Tmp):=match ops with
 |o0::r=>match o0.op,o0.dst,o0.guard with
  | .makeMap t none,some d0,none=>match A8k d0 t 1 r with
   |(fs, [o1,o2])=>match o1.op,o1.dst,o1.guard with
    | .move (.tmp m1),some d1,none=>match o2.op,o2.dst,o2.guard with
     | .assign (.tmp m2),some d2,none=>match Nat.beq m1 d0&&Nat.beq m2 d1 with
      |true=>some (t,d0,fs,d1,d2)
      |false=>none
     |_,_,_=>none
    |_,_,_=>none
   |_=>none
  |_,_,_=>none
 | []=>none
theorem B6T {N:Nat} {o:Oper} {l:List Oper} (h:A2O N (o::l)=true):A2O N l=true:=by
 unfold A2O at h⊢;rw [List.all_cons,D7o] at h;exact h.2
theorem B6S {N:Nat} {o:Oper} {l:List Oper} {d:Tmp} (h:A2O N (o::l)=true) (hd:o.dst=some d):d<N:=B39 h (List.mem_cons_self ..) d hd
theorem B9i (a:Act) (d:Tmp) (v:Value) (h:d<a.tmps.size):(a.put (some d) v).eval (.tmp d)=v:=by
 show (a.put (some d) v).tmps.getD d undef=v;simp only [Act.put];rw [Array.getD_eq_getD_getElem?,Array.getElem?_setIfInBounds_self_of_lt h]
 rfl
theorem C96 {F:Fr} {id:Nat} {ops:Array Oper} {t:TypeId} {d0 d1 d2:Tmp} {fs:List FuncId} (hl:C4g ops.toList=some (t,d0,fs,d1,d2)) (hdst:A2O F.N ops.toList=true)
  (ht:∃kt e,F.P.underlying t=some (.map kt e)/\F.P.underlying kt=some (.int .i64)) {A:Nat->Prop} {st:St} {a:Act} {w:World} (hs:S7 F A (St.get st) a w) {Q:Exit->Act->World->Prop}
  (hQ:∀a' w',S7 F A (St.get ((.tmp d2, .av (.mp 1 fs))::(.tmp d1, .av (.mp 1 fs))::(.tmp d0, .av (.mp 1 fs))::st)) a' w' ->Q .normal a' w'):
  (Code.region id ops false).wp F.P Q a w:=by
 obtain ⟨kt,e,h1,h2⟩:=ht;apply wp_region_list;obtain ⟨β,τ,ok,hx⟩:=hs
 generalize hL:ops.toList=L at hl hdst
 unfold C4g at hl;split at hl
 case h_2=>cases hl
 rename_i o0 r;split at hl
 case h_2=>cases hl
 rename_i t0 q0 ho0 hd0 hg0;split at hl
 case h_2=>cases hl
 rename_i fs0 o1 o2 hlit;split at hl
 case h_2=>cases hl
 rename_i m1 q1 ho1 hd1 hg1;split at hl
 case h_2=>cases hl
 rename_i m2 q2 ho2 hd2 hg2;split at hl
 case h_2=>cases hl
 rename_i hc;simp only [D78,Prod.mk.injEq] at hl;obtain ⟨rfl,rfl,rfl,rfl,rfl⟩:=hl;simp only [D7o] at hc;have e1:=D7p hc.1;have e2:=D7p hc.2;subst e1 e2;have hlt: ∀(l:List Oper) (b:Int) (fs:List FuncId) (rest:List Oper),A8k m1 t0 b l=(fs,rest)->A2O F.N l=true->A2O F.N rest=true:=by
  intro l
  induction l with
  |nil=>intro b fs rest h _;simp only [A8k,Prod.mk.injEq] at h;rw [<-h.2];rfl
  |cons o l ih=>
   intro b fs rest h hd;unfold A8k at h;split at h
   ·split at h
    ·simp only [Prod.mk.injEq] at h;exact ih _ _ _ (Prod.ext rfl h.2) (B6T hd)
    ·simp only [Prod.mk.injEq] at h;rw [<-h.2];exact hd
   ·simp only [Prod.mk.injEq] at h;rw [<-h.2];exact hd
 have k0:m1<F.N:=B6S hdst hd0;have hr2:=hlt r 1 fs0 [o1,o2] hlit (B6T hdst);have k1:m2<F.N:=B6S hr2 hd1;have k2:q2<F.N:=B6S (B6T hr2) hd2;refine wpList_plain hg0 fun K hK=> ?_;unfold Oper.wp;simp [execOp,ho0,run_makeMap,Result.andThen];refine hK _ _ ?_;rw [hd0];have sz:a.tmps.size=F.N:=hx.size;refine D5m h1 h2 w (a.put (some m1) (.map (some w.heap.size))) (B9i _ _ _ (by rw [sz];exact k0)) [o1,o2] r 1 fs0 #[] 0 hlit (by simp) fun es c g _=> ?_
 have hm:=hx.mr;have G:=hx.grow (w.alloc (.map es c)) (by show w.heap.size<=(w.heap.push _).size;simp) (fun k hk=>(MapKept.heap_alloc w (.map es c)).2 k hk) (fun ad had=>by apply World.frozen?_alloc_old;exact Nat.ne_of_lt had) rfl rfl rfl
 have fr:=B1w hm;have G2:=G.openB w.heap.size ⟨fr.ok,fr.box,fr.tok⟩ (by show w.heap.size<(w.heap.push _).size;simp) (.inl hx.keep.size)
 have hv: ∀s',VR ⟨s',β,τ,A,fun k=>ok k\/k=w.heap.size,w.alloc (.map es c)⟩ (.mp 1 fs0) (.map (some w.heap.size)):=fun s' =>
  ⟨w.heap.size,es,c,rfl, .inr rfl,(MapKept.heap_alloc w (.map es c)).1,g⟩
 have G3:=((G2.tmp m1 (.mp 1 fs0) (.map (some w.heap.size)) k0 (hv _)).tmp m2 (.mp 1 fs0) (.map (some w.heap.size)) k1 (hv _)).tmp q2 (.mp 1 fs0) (.map (some w.heap.size)) k2 (hv _);have v1:(a.put (some m1) (.map (some w.heap.size))).eval (.tmp m1)= .map (some w.heap.size):=B9i _ _ _ (by rw [sz];exact k0)
 have v2:((a.put (some m1) (.map (some w.heap.size))).put (some m2) (.map (some w.heap.size))).eval (.tmp m2)= .map (some w.heap.size):=B9i _ _ _ (by simp [Act.put,sz];exact k1)
 refine wpList_plain hg1 fun K hK=> ?_;unfold Oper.wp;simp [execOp,ho1,v1,Result.andThen];refine hK _ _ ?_;rw [hd1];refine wpList_plain hg2 fun K hK=> ?_;unfold Oper.wp;simp [execOp,ho2,v2,Result.andThen];refine hK _ _ ?_;rw [hd2];exact wpList_nil (hQ _ _ ⟨β,τ,_,G3⟩)
end Go.Vc
namespace Go.Vc
open Go.RowKit
def C9S (o:Oper):Bool:=match o.guard with
 |none=>false
 |some _=>true
def B9T (ops:List Oper):Bool:=ops.any C9S
def C01 (s:AS) (fz:List Nat):AV->AV
 | .own t=>match B0P t fz with
  |true=>match s (.tok t) with
   | .tok _ sz xs=> .lst sz false xs
   |_=> .own t
  |false=> .own t
 |v=>v
def D5d (s:AS) (fz:List Nat):AV->AV
 | .agg cs=> .agg (cs.map (C01 s fz))
 |v=>C01 s fz v
def frz (s:AS) (fz:List Nat):AS:=fun l=>match l with
 | .tmp d=>match s (.tmp d) with
  | .av v=> .av (D5d s fz v)
  |c=>c
 | .box i=>match s (.box i) with
  | .box cs=> .box (cs.map (C01 s fz))
  |c=>c
 | .tok t=>match B0P t fz with
  |true=> .none
  |false=>s (.tok t)
theorem C2h (s:AS) (t:Nat): ∀ks:List Nat,(s.apply (kills ks)) (.tok t)=(match B0P t ks with
  |true=> .none
  |false=>s (.tok t))
 | []=>rfl
 |k::ks=>by
  show (AS.put (s.apply (kills ks)) (.tok k) .none) (.tok t)=_
  by_cases h:t=k
  ·subst h;rw [V6];simp [B0P,A0X]
  ·rw [A0f _ _ _ _ h,C2h s t ks];have:B0P t (k::ks)=B0P t ks:=by simp [B0P,A7V h]
   rw [this]
theorem A7S {s:AS} {fz:List Nat} {i:Nat} {cs:List AV} (h:frz s fz (.box i)= .box cs): ∃c0,s (.box i)= .box c0/\cs=c0.map (C01 s fz):=by
 simp only [frz] at h;split at h
 ·rename_i c0 hc;cases h;exact ⟨c0,hc,rfl⟩
 ·rename_i hn;exact absurd h (hn cs)
theorem C9R {F:Fr} {A:Nat->Prop} {s:AS} {a:Act} {w:World} (fz:List Nat) (h:S7 F A s a w):S7 F A (frz s fz) a w:=by
 obtain ⟨β,τ,ok,hx⟩:=h;obtain ⟨m',h1,h2,h3,h4,h5,h6⟩:=hx.kills fz;have htok: ∀t c,frz s fz (.tok t)=c->c≠ .none->m'.s (.tok t)=c:=by
  intro t c hc hne;rw [h2,C2h];exact hc
 have hbox: ∀i,m'.s (.box i)=s (.box i):=fun i=>by rw [h2,B0n]
 have eS: ∀c u,VRs m' c u->VRs { m' with s:=frz s fz} c u:=by
  intro c u hv;cases c<;>try exact hv
  case bsl i n=>
   refine ⟨hv.1,hv.2.1,fun ⟨cs,hs⟩=>hv.2.2 ?_⟩;obtain ⟨c0,g1,_⟩:=A7S hs;exact ⟨c0,by rw [hbox];exact g1⟩
  case own t=>
   refine ⟨hv.1,hv.2.1,fun e sz xs hs=>hv.2.2 e sz xs (htok t _ hs (by simp))⟩
  case ptr i o=>
   refine ⟨hv.1,hv.2.1,fun ⟨cs,hs⟩=>hv.2.2 ?_⟩;obtain ⟨c0,g1,_⟩:=A7S hs;exact ⟨c0,by rw [hbox];exact g1⟩
  case elt t i j=>
   refine ⟨hv.1,hv.2.1,fun e sz xs hs=>hv.2.2 e sz xs (htok t _ hs (by simp))⟩
  case ali t=>
   refine ⟨hv.1,hv.2.1,fun e sz xs hs=>hv.2.2 e sz xs (htok t _ hs (by simp))⟩
  case vw t i n=>
   refine ⟨hv.1,hv.2.1,fun e sz xs hs=>hv.2.2 e sz xs (htok t _ hs (by simp))⟩
  case pix i o=>
   refine ⟨hv.1,hv.2.1,fun ⟨cs,hs⟩=>hv.2.2 ?_⟩;obtain ⟨c0,g1,_⟩:=A7S hs;exact ⟨c0,by rw [hbox];exact g1⟩
 have eL: ∀cs us,VRl m' cs us->VRl { m' with s:=frz s fz} cs us:=fun cs us hv=>⟨hv.1,fun j c hj=>let ⟨u,g1,g2,g3⟩:=hv.2 j c hj;⟨u,g1,g2,eS c u g3⟩⟩
 have e0: ∀c u,J8 m' c u->J8 { m' with s:=frz s fz} c u:=by
  intro c u hv;have es:=eS c u;cases c
  case clo f bs cs=>
   obtain ⟨vb,vc,g1,g2,g3⟩:=hv;exact ⟨vb,vc,g1,eL bs vb g2,eL cs vc g3⟩
  all_goals exact es hv
 have key: ∀c u,J8 ⟨s,β,τ,A,ok,w⟩ c u->J8 { m' with s:=frz s fz} (C01 s fz c) u:=by
  intro c u hv;cases c<;>try exact e0 _ _ (hv.ext h5)
  case own t=>
   simp only [C01];split
   ·rename_i hm;split
    ·rename_i e sz xs hs;have ht:t∈fz:=by
      obtain ⟨x,hx,hb⟩:=List.any_eq_true.1 hm;rw [D7p hb];exact hx
     exact h6 t ht e sz xs u hs hv
    ·exact e0 _ _ (hv.ext h5)
   ·exact e0 _ _ (hv.ext h5)
 have keyt: ∀t e sz xs,frz s fz (.tok t)= .tok e sz xs->m'.s (.tok t)= .tok e sz xs:=fun t e sz xs hs=>htok t _ hs (by simp)
 have keyb: ∀i cs,frz s fz (.box i)= .box cs-> ∃c0,m'.s (.box i)= .box c0:=fun i cs hs=>by
  obtain ⟨c0,g1,_⟩:=A7S hs;exact ⟨c0,by rw [hbox];exact g1⟩
 have hm:=h1.mr;refine ⟨m'.β,m'.τ,m'.ok, ?_⟩;have hA:m'.A=A:=h4;have hw:m'.w=w:=h3;have goal:M3 F a { m' with s:=frz s fz}:=by
  refine ⟨⟨hm.okLt,fun i cs hs=> ?_,fun t e sz xs hs=>hm.tok t e sz xs (keyt t e sz xs hs),fun i j ci cj hi hj hne=> ?_,fun i j ei ej si sj xi xj p q hi hj hp hq hne=>hm.sepT i j ei ej si sj xi xj p q (keyt _ _ _ _ hi) (keyt _ _ _ _ hj) hp hq hne,fun i j ci ej sj xj q hi hj hq=> ?_⟩,h1.defers,h1.size,fun l v hl=> ?_,h1.keep,h1.par,h1.parA,fun i cs hs hge=> ?_,fun i cs hs hlt=> ?_,fun t e sz xs p hs hp=>h1.newT t e sz xs p (keyt _ _ _ _ hs) hp,h1.ok0,h1.okNew⟩
  ·obtain ⟨c0,g1,rfl⟩:=A7S hs;obtain ⟨q1,q2,cur,e,q3,q4,q5⟩:=hx.mr.box i c0 g1;obtain ⟨r1,r2,_⟩:=hm.box i c0 (by rw [hbox];exact g1)
   have hb:m'.β i=β i:=(h5.box i c0 (by rw [hbox];exact g1) q1).2
   refine ⟨r1,r2,cur,e, ?_, ?_,fun j c hj=> ?_⟩
   ·show m'.w.heap[(m'.β i).1]? =_;rw [hb,hw];exact q3
   ·show (m'.β i).2+_<=_;rw [hb];simpa using q4
   ·rw [D7P] at hj;cases hc:c0[j]? with
    |none=>rw [hc] at hj;cases hj
    |some d=>
     rw [hc] at hj;cases hj;obtain ⟨u,o1,o2,o3⟩:=q5 j d hc;exact ⟨u,by show cur[(m'.β i).2+j]? =_;rw [hb];exact o1,o2,key d u o3⟩
  ·obtain ⟨c1,g1,rfl⟩:=A7S hi;obtain ⟨c2,g2,rfl⟩:=A7S hj;rw [D73,D73];exact hm.sepB i j c1 c2 (by rw [hbox];exact g1) (by rw [hbox];exact g2) hne
  ·obtain ⟨c1,g1⟩:=keyb i ci hi;exact hm.sepM i j c1 ej sj xj q g1 (keyt _ _ _ _ hj) hq
  ·have hl' :frz s fz (.tmp l)= .av v:=hl;simp only [frz] at hl';split at hl'
   ·rename_i v0 hv0;cases hl';have hv:=hx.env l v0 hv0;simp only [D5d];split
    ·rename_i cs;obtain ⟨vs,p1,p2,p3⟩:=hv;refine ⟨vs,p1,by simpa using p2,fun j c hj=> ?_⟩
     rw [D7P] at hj;cases hc:cs[j]? with
     |none=>rw [hc] at hj;cases hj
     |some d=>
      rw [hc] at hj;cases hj;obtain ⟨u,o1,o2,o3⟩:=p3 j d hc;exact ⟨u,o1,o2,key d u o3⟩
    ·rename_i hna
     by_cases htup: ∃vs,v0= .tup vs
     ·obtain ⟨vs,rfl⟩:=htup;obtain ⟨us,p1,p2,p3⟩:=hv;refine ⟨us,p1,p2,fun j c hj=> ?_⟩;obtain ⟨u,o1,o2⟩:=p3 j c hj;refine ⟨u,o1, ?_⟩
      by_cases hagg: ∃cs,c= .agg cs
      ·obtain ⟨cs,rfl⟩:=hagg;obtain ⟨ws,t1,t2,t3⟩:=o2;exact ⟨ws,t1,t2,fun k d hk=>let ⟨x,y1,y2,y3⟩:=t3 k d hk;⟨x,y1,y2,e0 _ _ (y3.ext h5)⟩⟩
      ·exact A9L (e0 _ _ ((B2o o2 (fun cs e=>hagg ⟨cs,e⟩)).ext h5))
     ·have g:J8 ⟨s,β,τ,A,ok,w⟩ v0 (a.tmps.getD l undef):=B2o (B7P hv (fun vs e=>htup ⟨vs,e⟩)) hna;exact A8Z (A9L (key _ _ g))
   ·rename_i hn;exact absurd hl' (hn v)
  ·obtain ⟨c1,g1⟩:=keyb i cs hs;exact h1.newB i c1 g1 hge
  ·obtain ⟨c1,g1,rfl⟩:=A7S hs;rw [D73];exact h1.parL i c1 (by rw [hbox];exact g1) hlt
 have e1:({ m' with s:=frz s fz}:G6)=⟨frz s fz,m'.β,m'.τ,A,m'.ok,w⟩:=by rw [<-hA,<-hw]
 rw [e1] at goal;exact goal
def Wkf (m nx:Nat) (ρ:O1) (fz:List Nat) (s:AS) (st':St):Prop:=Wk m nx ρ (frz s fz) st'
theorem B32 {F:Fr} {A:Nat->Prop} {s:AS} {st' :St} {a:Act} {w:World} {ρ:O1} {nx:Nat} {fz:List Nat} (h:S7 F A s a w) (hw:Wkf F.m nx ρ fz s st'):S7 F (fun i=>i<nx) (St.get st') a w:=B5W (C9R fz h) hw
noncomputable def D2J (vx:VT) (n:Nat):VT:=
 Nat.rec (motive:=fun _=>VT) (fun _ _ _=>False) (fun _ ih nx st K=>vx nx st fun e nx' st' =>match e with
  | .normal=>ih nx' st' K
  |e=>K e nx' st') n
noncomputable def D4y (m:Nat) (vx:VT):VT:=fun nx st K=>
 ∃o:Inv⊕Nat,match o with
  | .inl I=>(∃ρ fz x,I.φ x/\Wkf m nx ρ fz (St.get st) (I.st x))/\ ∀x,I.φ x->vx nx (I.st x) fun e nx' st' =>match e with
   | .normal=> ∃ρ fz x',I.φ x' /\(I.μ x' <I.μ x/\Wkf m nx ρ fz (St.get st') (I.st x'))
   |e=>K e nx' st'
  | .inr n=>D2J vx n nx st K
structure D2U (m:Nat) (V:KT->Prop) (R:VT) (nx:Nat) (st:St) (K:KT):Prop where
 h: ∃j:Option (Inv×Nat),match j with
  |none=>V fun e nx' st' =>match e with
   | .normal=>R nx' st' K
   |e=>K e nx' st'
  |some (I,n)=>V (fun e nx' st' =>match e with
   | .normal=> ∃ρ fz x,I.φ x/\Wkf m n ρ fz (St.get st') (I.st x)
   |e=>K e nx' st')/\ ∀x,I.φ x->R n (I.st x) K
noncomputable def B8e (m:Nat) (jn:Bool) (V:KT->Prop) (R:VT) (nx:Nat) (st:St) (K:KT):Prop:=match jn with
 |false=>V fun e nx' st' =>match e with
  | .normal=>R nx' st' K
  |e=>K e nx' st'
 |true=>D2U m V R nx st K
structure C7M (m:Nat) (vx:VT) (nx:Nat) (st:St) (K:KT):Prop where
 h:D4y m vx nx st K
noncomputable def D2K (T:I6) (ops:List Oper) (draw:Bool) (R:VT) (nx:Nat) (st:St) (K:KT):Prop:=match draw,C4g ops with
 |false,some (t,d0,fs,d1,d2)=>match I6.find T t with
  |some ti=>match ti.kind with
   | .imap=>R nx ((.tmp d2, .av (.mp 1 fs))::(.tmp d1, .av (.mp 1 fs))::(.tmp d0, .av (.mp 1 fs))::st) K
   |_=>False
  |none=>False
 |_,_=>False
structure C7O (m:Nat) (V:Nat->St->Prop) (M:Prop) (nx:Nat) (st:St):Prop where
 h: ∃p:Option (Option (O1×List Nat×St×Nat)),match p with
 |none=>V nx st
 |some (some (ρ,fz,st',n))=>Wkf m n ρ fz (St.get st) st' /\V n st'
 |some none=>M
noncomputable def A6Q:VT:=fun nx st K=>K .normal nx st
noncomputable def vcs (P:Program) (T:I6) (m:Nat) (c:Code):VT->VT:=
 Code.rec (motive:=fun _=>VT->VT)
  (fun R=>R)
  (fun id ops draw R nx st K=>C7O m (fun nx st=>B8e m (B9T ops.toList) (fun K' =>A7O P T id ops draw nx st K') R nx st K) (D2K T ops.toList draw R nx st K) nx st)
  (fun _ _ iha ihb R=>iha (ihb R))
  (fun c a b iha ihb R nx st K=>B8e m (Nat.ble 2 (B4u a+B4u b)) (fun K' =>B7N c (iha A6Q) (ihb A6Q) nx st K') R nx st K)
  (fun id a ih R nx st K=>B8e m (Nat.ble 2 (B4u a+B3G id a)) (fun K' =>C7y id (ih A6Q) nx st K') R nx st K)
  (fun _ ih _ nx st K=>C7M m (ih A6Q) nx st K)
  (fun _ _ _ _ _ _ _ _ _ _=>False)
  (fun id _ nx st K=>K (.exit id) nx st)
  (fun _ _ _ _ _ _=>False)
  (fun _ _ _ _ _=>False)
  (fun _ _ _ _ _=>False)
  (fun _ nx st K=>K .ret nx st)
  (fun _ _ _ _ _=>False) c
def C4V (F:Fr) (R:VT) (K:KT):Exit->Act->World->Prop:=fun e a w=> ∃nx st A,S7 F A (St.get st) a w/\(∀k,A k->k<nx)/\(match e with
 | .normal=>R nx st K
 |e=>K e nx st)
theorem A3U {F:Fr} {K:KT} {e:Exit} {a:Act} {w:World} (h:C4V F A6Q K e a w):sem F K e a w:=by
 obtain ⟨nx,st,A,h1,h2,h3⟩:=h;refine ⟨nx,st,A,h1,h2, ?_⟩;cases e<;>exact h3
theorem C7s {F:Fr} {R:VT} {K:KT} {e:Exit} {a:Act} {w:World} (h:sem F (fun e nx' st' =>match e with
  | .normal=>R nx' st' K
  |e=>K e nx' st') e a w):C4V F R K e a w:=by
 obtain ⟨nx,st,A,h1,h2,h3⟩:=h;refine ⟨nx,st,A,h1,h2, ?_⟩;cases e<;>exact h3
theorem B0a {F:Fr} {c:Code} {jn:Bool} {V:KT->Prop} {R:VT} {nx0:Nat} {st0:St} {K:KT} {a:Act} {w:World}
  (hV:∀K',V K' ->c.wp F.P (sem F K') a w) (h:B8e F.m jn V R nx0 st0 K):c.wp F.P (C4V F R K) a w:=by
 unfold B8e at h;split at h
 ·exact wp_mono (hV _ h) (fun _ _ _ h=>C7s h)
 ·obtain ⟨⟨j,h⟩⟩:=h;split at h
  ·exact wp_mono (hV _ h) (fun _ _ _ h=>C7s h)
  ·rename_i I n;obtain ⟨h1,h2⟩:=h;refine wp_mono (hV _ h1) ?_;rintro e a' w' ⟨nx',st',A',hs',hA',hk⟩;cases e with
   |normal=>
    obtain ⟨ρ,fz,x,hx,hw⟩:=hk;exact ⟨n,I.st x,_,B32 hs' hw,fun _ h=>h,h2 x hx⟩
   |_=>exact ⟨nx',st',A',hs',hA',hk⟩
theorem D1c {F:Fr} {T:I6} (hT:Z6 F.P T) (hm:F.P.follows .mixedOrders=true): ∀(c:Code) (R:VT) (nx:Nat) (st:St) (K:KT),A13 F.N c=true->vcs F.P T F.m c R nx st K->
  ∀a w A,S7 F A (St.get st) a w->(∀k,A k->k<nx)->c.wp F.P (C4V F R K) a w:=by
 intro c
 induction c with
 |skip=>intro R nx st K _ h a w A hs hA;exact wp_skip ⟨nx,st,A,hs,hA,h⟩
 |region id ops draw=>
  intro R nx st K hc h a w A hs hA;change C7O F.m (fun nx st=>B8e F.m (B9T ops.toList) (fun K' =>A7O F.P T id ops draw nx st K') R nx st K) (D2K T ops.toList draw R nx st K) nx st at h;obtain ⟨⟨p,h⟩⟩:=h;split at h
  ·exact B0a (fun K' h' =>C5h hT hm (.region id ops draw) nx st K' hc h' a w A hs hA) h
  ·rename_i ρ fz st' n;exact B0a (fun K' h' =>C5h hT hm (.region id ops draw) n st' K' hc h' a w _ (B32 hs h.1) (fun _ h=>h)) h.2
  ·unfold D2K at h;split at h
   ·rename_i t d0 fs d1 d2 hml;split at h
    ·rename_i ti hti;split at h
     ·rename_i hk;have hk2:=(hT _ _ hti).kind;rw [hk] at hk2;exact C96 hml hc hk2 hs (fun a' w' hs' =>⟨nx,_,A,hs',hA,h⟩)
     ·exact h.elim
    ·exact h.elim
   ·exact h.elim
 |seq x y ihx ihy=>
  intro R nx st K hc h a w A hs hA;simp only [A13,D7o] at hc;apply wp_seq;refine wp_mono (ihx (vcs F.P T F.m y R) nx st K hc.1 h a w A hs hA) ?_;rintro e a' w' ⟨nx',st',A',hs',hA',hk⟩;cases e with
  |normal=>exact ihy R nx' st' K hc.2 hk a' w' A' hs' hA'
  |_=>exact ⟨nx',st',A',hs',hA',hk⟩
 |cond c x y ihx ihy=>
  intro R nx st K hc h a w A hs hA;simp only [A13,D7o] at hc;refine B0a (fun K' h' => ?_) h
  clear h
  have ev: ∀d b,T1 (AS.tmp (St.get st) d)=some b->a.eval (.tmp d)= .bool b:=fun d b hb=>by
   have:=hs.gval d b hb;simp [Act.eval,this]
  cases c with
  |tmp d=>
   simp only [B7N] at h';split at h'
   ·rename_i hd;exact wp_cond_true (ev d true (by rw [hd];rfl)) (wp_mono (ihx A6Q nx st K' hc.1 h' a w A hs hA) fun _ _ _ h=>A3U h)
   ·rename_i hd;exact wp_cond_false (ev d false (by rw [hd];rfl)) (wp_mono (ihy A6Q nx st K' hc.2 h' a w A hs hA) fun _ _ _ h=>A3U h)
   ·rename_i b hd;refine wp_cond_split (ev d b (by rw [hd];rfl)) (fun hb=> ?_) (fun hb=> ?_)
    ·subst hb;exact wp_mono (ihx A6Q nx _ K' hc.1 (h'.1 rfl) a w A (hs.lit d true hd) hA) fun _ _ _ h=>A3U h
    ·subst hb;exact wp_mono (ihy A6Q nx _ K' hc.2 (h'.2 rfl) a w A (hs.lit d false hd) hA) fun _ _ _ h=>A3U h
   ·exact h'.elim
  |_=>exact h'.elim
 |block id x ih=>
  intro R nx st K hc h a w A hs hA;refine B0a (fun K' h' => ?_) h
  clear h
  apply wp_block;refine wp_mono (ih A6Q nx st _ hc h' a w A hs hA) ?_;intro e a' w' hk;obtain ⟨nx',st',A',hs',hA',hk⟩:=A3U hk;cases e with
  |exit id' =>
   simp only at hk;show if id' =id then _ else _
   split at hk
   ·rename_i hb;rw [if_pos (D7p hb)];exact ⟨nx',st',A',hs',hA',hk⟩
   ·rename_i hb;rw [if_neg (fun he=>by subst he;rw [A0X] at hb;cases hb)]
    exact ⟨nx',st',A',hs',hA',hk⟩
  |_=>exact ⟨nx',st',A',hs',hA',hk⟩
 |loop x ih=>
  intro R nx st K hc h a w A hs hA;obtain ⟨⟨o,h⟩⟩:=h;cases o with
  |inr n=>
   refine wp_loop_rounds n ?_;have key: ∀(n nx:Nat) (st:St) (a:Act) (w:World) (A:Nat->Prop),D2J (vcs F.P T F.m x A6Q) n nx st K->S7 F A (St.get st) a w->(∀k,A k->k<nx)->Code.rounds F.P x (C4V F R K) n a w:=by
    intro n
    induction n with
    |zero=>intro nx st a w A h _ _;exact h.elim
    |succ n ihn=>
     intro nx st a w A h hs hA;refine wp_mono (ih A6Q nx st _ hc h a w A hs hA) ?_;intro e a' w' hk;obtain ⟨nx',st',A',hs',hA',hk⟩:=A3U hk;cases e with
     |normal=>exact ihn nx' st' a' w' A' hk hs' hA'
     |_=>exact ⟨nx',st',A',hs',hA',hk⟩
   exact key n nx st a w A h hs hA
  |inl I=>
  obtain ⟨⟨ρ,fz,x0,h1,h2⟩,h3⟩:=h;refine wp_loop_ghost (fun n a w=> ∃x,I.φ x/\I.μ x=n/\S7 F (fun k=>k<nx) (St.get (I.st x)) a w) (I.μ x0) ⟨x0,h1,rfl,B32 hs h2⟩ ?_;rintro n a w ⟨x,hx,rfl,hs⟩;refine wp_mono (ih A6Q nx _ _ hc (h3 x hx) a w _ hs (fun _ h=>h)) ?_;intro e a' w' hk;obtain ⟨nx',st',A',hs',hA',hk⟩:=A3U hk;cases e with
  |normal=>
   obtain ⟨ρ,fz,x',g1,g2,g3⟩:=hk;exact ⟨I.μ x',g2,x',g1,rfl,B32 hs' g3⟩
  |_=>exact ⟨nx',st',A',hs',hA',hk⟩
 |exit id=>intro R nx st K _ h a w A hs hA;exact wp_exit ⟨nx,st,A,hs,hA,h⟩
 |ret=>intro R nx st K _ h a w A hs hA;exact wp_ret ⟨nx,st,A,hs,hA,h⟩
 |_=>intro R nx st K _ h;exact h.elim
theorem B9L {P:Program} {T:I6} (hT:Z6 P T) (hm:P.follows .mixedOrders=true) {f:FuncId} {fn:Func} (hf:P.funcs[f]? =some fn)
  (hcall:∀(vs:Array Value) (w:World),(callFunc f vs).run P w= .ok (.enter f vs) w) (hst:(C02 fn&&A13 fn.ntmps (B2s fn))=true)
  {args:List AV} {bx:List (List AV)} {tk:N2} {r:AV} {bx' :List (List AV)} {tk' :N2} (m:Nat) (hmm:bx.length+1=m) (hargs:Nat.ble args.length fn.ntmps=true) (st0:St) (h0:A12 args bx tk=st0)
  (h:vcs P T m (B2s fn) A6Q m st0 (D5X T m fn.results.toList r bx' tk')):B1 P f args bx tk r bx' tk' :=by
 subst hmm h0;simp only [D7o] at hst;refine ⟨fun w β p ok vs hmr hl hv=> .inl ⟨hcall vs w, ?_⟩⟩;have hb:fn.body=some (B2s fn):=by
  have:=hst.1;unfold C02 at this;unfold B2s;split at this
  ·rename_i hc;rw [hc]
  ·cases this
 refine calls_of_wp hf hb (wp_mono (D1c (F:=cFr P fn.ntmps bx tk β p ok w) hT hm (B2s fn) A6Q (bx.length+1) (A12 args bx tk) _ hst.2 h _ w _ (D1W (D7N hargs) hmr hl hv) (fun _ h=>h)) ?_);intro e a w' hk;obtain ⟨nx,st,A,hs,_,hk⟩:=A3U hk;cases e with
 |normal=>exact C2u hT hs hk
 |ret=>exact C2u hT hs hk
 |_=>exact hk.elim
end Go.Vc
namespace Go.Dec
open Go.Vc
theorem cT {α:Type} {b:Bool} {x y r:α} (hb:b=true) (h:cond b x y=r):x=r:=by subst hb;exact h
theorem cF {α:Type} {b:Bool} {x y r:α} (hb:b=false) (h:cond b x y=r):y=r:=by subst hb;exact h
theorem bS {α β:Type} {m:Option α} {k:α->Option β} {r:β} (h:m.bind k=some r): ∃a,m=some a/\k a=some r:=by
 cases m with
 |none=>cases h
 |some a=>exact ⟨a,rfl,h⟩
def ck {α:Type} (b:Bool) (k:Option α):Option α:=cond b k none
theorem ckS {α:Type} {b:Bool} {k:Option α} {r:α} (h:ck b k=some r):b=true/\k=some r:=by
 cases b with
 |false=>cases h
 |true=>exact ⟨rfl,h⟩
def gd {α:Type} [Inhabited α] (b:Bool) (m:Option α):Option α:=cond b m (some default)
theorem gdT {α:Type} [Inhabited α] {b:Bool} {m:Option α} {a:α} (hb:b=true) (h:gd b m=some a):m=some a:=by subst hb;exact h
theorem gT {g p:Bool} (hg:g=true) (h:(!g||p)=true):p=true:=by subst hg;exact h
@[simp] theorem A0l {α:Type} (k:Option α):ck true k=k:=rfl
@[simp] theorem D6Z {α:Type} (k:Option α):ck false k=none:=rfl
@[simp] theorem J1 {α:Type} [Inhabited α] (m:Option α):gd true m=m:=rfl
@[simp] theorem K8 {α:Type} [Inhabited α] (m:Option α):gd false m=some default:=rfl
theorem oL {a b:Bool} (h:a=true):(a||b)=true:=by subst h;rfl
theorem oR {a b v:Bool} (h:a=false) (e:b=v):(a||b)=v:=by subst h;exact e
theorem aL {a b:Bool} (h:a=false):(a&&b)=false:=by subst h;rfl
theorem aR {a b v:Bool} (h:a=true) (e:b=v):(a&&b)=v:=by subst h;exact e
theorem nE {a v:Bool} (h:a=v):(!a)= !v:=by rw [h]
theorem nT {a:Bool} (h:(!a)=true):a=false:=by cases a<;>first|rfl|cases h
theorem nF {a:Bool} (h:(!a)=false):a=true:=by cases a<;>first|rfl|cases h
theorem ff {p:Prop} (h:false=true):p:=Bool.noConfusion h
def C1 {α:Type} (l:List α) (i:Int):Option α:=if 0<=i then l[i.toNat]? else none
theorem B5p {α:Type} {l:List α} {i:Int} {x:α} (h:C1 l i=some x):0<=i/\l[i.toNat]? =some x:=by
 unfold C1 at h;split at h
 ·exact ⟨by assumption,h⟩
 ·cases h
theorem J7 {α β:Type} (f:α->β) {l:List α} {i:Int} {x:α} (h:C1 l i=some x):0<=i/\(l.map f)[i.toNat]? =some (f x):=by
 obtain ⟨h1,h2⟩:=B5p h;exact ⟨h1,by rw [D7P,h2];rfl⟩
theorem N6 {α β:Type} (f:α->β) {l:List α} {i:Int} {x:α} (h:C1 l i=some x):0<=i/\i<((l.map f).length:Int):=by
 obtain ⟨h1,h2⟩:=B5p h;have:=(D7q.1 h2).1;exact ⟨h1,by rw [D73];omega⟩
theorem B2l {α β:Type} (f:α->β) {l:List α} {i:Int} {x:α} (h:C1 l i=some x):i.toNat<(l.map f).length:=by
 obtain ⟨_,h2⟩:=B5p h;rw [D73];exact (D7q.1 h2).1
theorem P2 {α β:Type} (f:α->β) {l:List α} {i:Int} {x:α} (h:C1 l i=some x):0<=((i.toNat:Nat):Int)/\(l.map f)[((i.toNat:Nat):Int).toNat]? =some (f x):=by
 obtain ⟨h1,h2⟩:=B5p h;exact ⟨by omega,by rw [D7W,D7P,h2];rfl⟩
@[simp] theorem S4 {α:Type} (l:List α) (i:Nat):C1 l (i:Int)=l[i]? :=by
 simp [C1]
theorem A2y {α:Type} {l:List α} {i:Nat} (h:i<l.length):C1 l (i:Int)=some l[i]:=by simp [h]
theorem lenS {α β:Type} (f:α->β) (l:List α):0<=(0:Int)/\([[AV.int .i64 ((l.map f).length:Int)]]:List (List AV))[(0:Int).toNat]? =some [AV.int .i64 (l.length:Int)]:=by
 rw [D73];exact ⟨Int.le_refl 0,rfl⟩
theorem D5k {n k:Nat} (h:n=k):0<=(0:Int)/\([[AV.int .i64 (n:Int)]]:List (List AV))[(0:Int).toNat]? =some [AV.int .i64 (k:Int)]:=by
 rw [h];exact ⟨Int.le_refl 0,rfl⟩
abbrev A1 (n:Int):Int:=IntKind.i64.wrap n
abbrev A4 (n:Int):Int:=IntKind.u64.wrap n
abbrev O8 (k:IntKind) (a b:Int):Int:=k.wrap (BitVec.ofInt k.bits a&&&BitVec.ofInt k.bits b).toNat
abbrev O0 (k:IntKind) (a b:Int):Int:=k.wrap (BitVec.ofInt k.bits a|||BitVec.ofInt k.bits b).toNat
abbrev D5i (k:IntKind) (a b:Int):Int:=k.wrap (BitVec.ofInt k.bits a^^^BitVec.ofInt k.bits b).toNat
abbrev E8 (k:IntKind) (a b:Int):Int:=k.wrap (a*2^(min b.toNat k.bits))
abbrev G1 (k:IntKind) (a b:Int):Int:=a.fdiv (2^(min b.toNat k.bits))
abbrev B4d (k:IntKind) (n:Int):Int:=k.wrap (BitVec.ofInt k.bits (if k.signed then-1 else k.max)^^^BitVec.ofInt k.bits n).toNat
abbrev A1L (a b:Int):Int:=if b<a then b else a
abbrev A0y (a b:Int):Int:=if b>a then b else a
def N3 {S R:Type} (f:S->Option (S⊕R)):Nat->S->Option R
 |0,_=>none
 |n+1,s=>match f s with
  |none=>none
  |some (.inl s')=>N3 f n s'
  |some (.inr r)=>some r
theorem C8v {S R:Type} {f:S->Option (S⊕R)} {n:Nat} {s:S} {r:R} (h:N3 f n s=some r):N3 f (n+1) s=some r:=by
 induction n generalizing s with
 |zero=>cases h
 |succ n ih=>
  unfold N3 at h⊢;cases hf:f s with
  |none=>rw [hf] at h;cases h
  |some x=>
   rw [hf] at h;cases x with
   |inl s' =>exact ih h
   |inr r' =>exact h
theorem C4f {S R:Type} {f:S->Option (S⊕R)} {n m:Nat} {s:S} {r:R} (hnm:n<=m) (h:N3 f n s=some r):N3 f m s=some r:=by
 induction hnm with
 |refl=>exact h
 |step _ ih=>exact C8v ih
open Classical in
noncomputable def loop {S R:Type} (f:S->Option (S⊕R)) (s:S):Option R:=if h: ∃n r,N3 f n s=some r then N3 f (Classical.choose h) s else none
theorem B5y {S R:Type} {f:S->Option (S⊕R)} {s:S} {r:R} (h:loop f s=some r): ∃n,N3 f n s=some r:=by
 unfold loop at h;split at h
 ·exact ⟨_,h⟩
 ·cases h
theorem C06 {S R:Type} {f:S->Option (S⊕R)} {s:S} {r:R} {n:Nat} (h:N3 f n s=some r):loop f s=some r:=by
 have hx: ∃n r,N3 f n s=some r:=⟨n,r,h⟩;unfold loop;rw [dif_pos hx];obtain ⟨r',hr'⟩:=Classical.choose_spec hx;have h1:=C4f (Nat.le_max_left n (Classical.choose hx)) h;have h2:=C4f (Nat.le_max_right n (Classical.choose hx)) hr';rw [h1] at h2;rw [hr',h2]
theorem A5Z {S R:Type} (f:S->Option (S⊕R)) (s:S):loop f s=match f s with
  |none=>none
  |some (.inl s')=>loop f s'
  |some (.inr r)=>some r:=by
 apply Option.ext;intro r;constructor
 ·intro h;obtain ⟨n,hn⟩:=B5y h;cases n with
  |zero=>cases hn
  |succ n=>
   unfold N3 at hn;cases hf:f s with
   |none=>rw [hf] at hn;cases hn
   |some x=>
    rw [hf] at hn;cases x with
    |inl s' =>exact C06 hn
    |inr r' =>exact hn
 ·intro h;cases hf:f s with
  |none=>rw [hf] at h;cases h
  |some x=>
   rw [hf] at h;cases x with
   |inl s' =>
    obtain ⟨n,hn⟩:=B5y h;exact C06 (n:=n+1) (by unfold N3;rw [hf];exact hn)
   |inr r' =>exact C06 (n:=1) (by unfold N3;rw [hf];exact h)
theorem J6 {S R:Type} {f:S->Option (S⊕R)} {s s' :S} (h:f s=some (.inl s')):loop f s=loop f s' :=by rw [A5Z,h]
theorem K4 {S R:Type} {f:S->Option (S⊕R)} {s:S} {r:R} (h:f s=some (.inr r)):loop f s=some r:=by rw [A5Z,h]
theorem B1z {S R:Type} {f:S->Option (S⊕R)} {n:Nat} {s:S} {r:R} (h:N3 f n s=some r):
  ∃m x,n=m+1/\f s=some x/\(∀s',x= .inl s' ->N3 f m s' =some r)/\(∀r',x= .inr r' ->r' =r):=by
 cases n with
 |zero=>cases h
 |succ m=>
  unfold N3 at h;cases hf:f s with
  |none=>rw [hf] at h;cases h
  |some x=>
   rw [hf] at h;refine ⟨m,x,rfl,rfl, ?_, ?_⟩
   ·rintro s' rfl;exact h
   ·rintro r' rfl;exact D7Z h
theorem V2 {S R:Type} {E:Option R} {x:S⊕R} {r:R} (h:Option.map Sum.inr E=some x) (hr:∀r',x= .inr r' ->r' =r):E=some r:=by
 cases E with
 |none=>cases h
 |some a=>cases h;rw [hr a rfl]
theorem A3L {S R:Type} {X:R} {x:S⊕R} {r:R} (h:some (Sum.inr X)=some x) (hr:∀r',x= .inr r' ->r' =r):X=r:=hr X (D7Z h).symm
theorem retT {S R:Type} {X:R} {x:S⊕R} {r:R} (h:Sum.inr X=x) (hr:∀r',x= .inr r' ->r' =r):X=r:=hr X h.symm
theorem R3 {S R:Type} {f:S->Option (S⊕R)} (I:S->Prop) (μ:S->Nat) (Q:R->Prop) (s:S) (h0:I s)
  (step:∀s,I s->(∃s',f s=some (.inl s')/\I s' /\μ s' <μ s)\/(∃r,f s=some (.inr r)/\Q r)): ∃r,loop f s=some r/\Q r:=by
 generalize hn:μ s=n
 induction n using Nat.strongRecOn generalizing s with
 |_ n ih=>
  rcases step s h0 with ⟨s',h1,h2,h3⟩|⟨r,h1,h2⟩
  ·obtain ⟨r,g1,g2⟩:=ih (μ s') (by omega) s' h2 rfl
   exact ⟨r,by rw [J6 h1,g1],g2⟩
  ·exact ⟨r,K4 h1,h2⟩
def eI (k:IntKind) (n:Int):List AV:= [.int k n]
def eB (b:Bool):List AV:= [.sb b]
def eL {α:Type} (sz:Nat) (f:α->List AV) (l:List α):List AV:= [.lst sz false (List.map f l)]
def E1 (k:IntKind) (n:Int):Prop:=(Lit.int k n).wf=true
def wfL {α:Type} (wf:α->Prop) (l:List α):Prop:=l.length<=maxLen/\ ∀y∈l,wf y
def S9 {α:Type} (wf:α->Prop) (l:List α):Prop:=l.length<=1048576/\ ∀y∈l,wf y
def laid {α:Type} (l:List α) (i:Nat) (zs:List α):List α:=l.take i++(zs++l.drop (i+zs.length))
theorem C4h {α:Type} (f:α->List AV) (l:List α) (i:Nat) (zs:List α):List.map f (laid l i zs)=O6 (List.map f l) i (List.map f zs):=by
 unfold laid O6;simp [List.map_take,List.map_drop]
end Go.Dec
namespace Go.Dec
open Go.Vc Go.RowKit Go.ChangeShapes Go.WideShapes Go.ChangeAt
inductive F2 (R:AV->Value->Prop):List AV->List Value->Prop
 |nil:F2 R [] []
 |cons {a:AV} {v:Value} {as:List AV} {vs:List Value} (h:R a v) (t:F2 R as vs):F2 R (a::as) (v::vs)
theorem F2.length {R:AV->Value->Prop} {as:List AV} {vs:List Value} (h:F2 R as vs):as.length=vs.length:=by
 induction h with
 |nil=>rfl
 |cons _ _ ih=>simp [ih]
theorem F2.get {R:AV->Value->Prop} {as:List AV} {vs:List Value} (h:F2 R as vs): ∀(j:Nat) (a:AV),as[j]? =some a-> ∃v,vs[j]? =some v/\R a v:=by
 induction h with
 |nil=>intro j a hj;simp at hj
 |cons h _ ih=>
  intro j a hj;cases j with
  |zero=>cases hj;exact ⟨_,rfl,h⟩
  |succ j=>simpa using ih j a (by simpa using hj)
theorem F2.append {R:AV->Value->Prop} {as bs:List AV} {vs us:List Value} (h:F2 R as vs) (k:F2 R bs us):F2 R (as++bs) (vs++us):=by
 induction h with
 |nil=>exact k
 |cons h _ ih=>exact .cons h ih
theorem C9 {R:AV->Value->Prop} {a b:List AV} {cs:List Value} {o n:Nat} (h0:F2 R a ((cs.drop o).take n)) (h1:F2 R b (cs.drop (o+n))):F2 R (a++b) (cs.drop o):=by
 have:=h0.append h1
 rwa [<-D8e,List.take_append_drop] at this
theorem S3 {R:AV->Value->Prop} {cs:List Value} {o:Nat} (h:cs.length<=o):F2 R [] (cs.drop o):=by
 rw [List.drop_eq_nil_of_le h];exact .nil
abbrev LR (w:World):AV->Value->Prop:=PR w (fun b=>b<w.heap.size)
section
variable {H:Type} {enc:TypeId×Value->H} {P:Program} {w:World} {base:Nat} {spare:Nat->Bool} {held:Bool}
theorem C0e {t:TypeId} {k:IntKind} (ht:P.underlying t=some (.int k)) {fuel:Nat} {cs:List Value} {x:DataW H×List MemPlace} (h:DataW.trod enc P w base spare held fuel t cs=some x):
  ∃n,F2 (LR w) [.int k n] cs/\E1 k n:=by
 obtain ⟨n,rfl,_,h2⟩:=DataW.trod_int ht h;exact ⟨n, .cons (.int _ _) .nil,h2⟩
theorem D5S {t:TypeId} (ht:P.underlying t=some .bool) {fuel:Nat} {cs:List Value} {x:DataW H×List MemPlace} (h:DataW.trod enc P w base spare held fuel t cs=some x):
  ∃b,F2 (LR w) [.sb b] cs/\True:=by
 obtain ⟨b,rfl,_⟩:=DataW.trod_bool ht h;exact ⟨b, .cons (.sb _) .nil,trivial⟩
theorem D3D {B:DataW H->Prop} (hB:∀ps,B (.agg ps)-> ∀d∈ps,B d) {t:TypeId} {fs:Array Field} {n:Nat} {cs:List Value} {xs:List (DataW H×List MemPlace)} {x:DataW H×List MemPlace} {q:List MemPlace} (hb:B x.1) (hx:x=(.agg (xs.map (·.1)),q)) (hlen:xs.length=fs.size)
  (hf:∀(i:Nat) (f:Field),fs[i]? =some f->DataW.trod enc P w base spare held n f.type ((cs.drop f.offset).take (P.cellsOf f.type))=xs[i]?)
  (i:Nat) (f:Field) (hi:fs[i]? =some f) (o k:Nat) (ht:f.type=t) (ho:f.offset=o) (hk:P.cellsOf t=k): ∃y,DataW.trod enc P w base spare held n t ((cs.drop o).take k)=some y/\B y.1:=by
 have h:=hf i f hi;rw [ht,ho,hk] at h;have hlt:i<xs.length:=by
  rw [hlen];exact (D74.1 hi).1
 rw [D7u hlt] at h;refine ⟨_,h, ?_⟩;rw [hx] at hb;exact hB _ hb _ (List.mem_map.2 ⟨_,D75 hlt,rfl⟩)
theorem A2z {B:DataW H->Prop} (hB:∀el sp,B (.slice el sp)->el.length<=1048576/\ ∀d∈el,B d) {α:Type} [Inhabited α] (en:α->List AV) (wf:α->Prop) (sz:Nat) {t e:TypeId} (ht:P.underlying t=some (.slice e)) (hc:P.cellsOf e=sz) (hpos:0<sz) (hsz:∀y,(en y).length=sz)
  (he:∀(fuel:Nat) (cs:List Value) (x:DataW H×List MemPlace),DataW.trod enc P w base spare held fuel e cs=some x->B x.1-> ∃y,F2 (LR w) (en y) cs/\wf y)
  {fuel:Nat} {cs:List Value} {x:DataW H×List MemPlace} (h:DataW.trod enc P w base spare held fuel t cs=some x) (hb:B x.1):
  ∃l:List α,F2 (LR w) [.lst sz false (List.map en l)] cs/\S9 wf l:=by
 rcases DataW.trod_slice ht h with ⟨hcs,_⟩|⟨a,len,cap,B3C,rest,n,_,hcs,hx,hb',hl,hm,hlen,hel,_,_⟩
 ·cases hcs;refine ⟨[], .cons ?_ .nil,by simp,by simp⟩
  exact .lst sz false [] none 0 (fun _ _=> .bool false) (D7Y _) (by simp) (fun _=>rfl) (by simp) (fun _=>rfl) (fun i j c x hi=>by simp at hi) (fun i j c x hi=>by simp at hi)
 ·cases hcs;have hBx:=hB _ _ (by rw [hx] at hb;exact hb)
  have hp: ∀i,∃p:α×List Value,i<len->w.cells? base (a.add (i*sz)) sz=some p.2/\F2 (LR w) (en p.1) p.2/\wf p.1:=by
   intro i
   by_cases hi:i<len
   ·have hy:=hel i hi;rw [D7u (by omega),hc,Option.bind_eq_some_iff] at hy
    obtain ⟨cs,hcs,hy⟩:=hy;obtain ⟨y,h1,h2⟩:=he _ _ _ hy (hBx.2 _ (List.mem_map.2 ⟨_,D75 (by omega),rfl⟩))
    exact ⟨(y,cs),fun _=>⟨hcs,h1,h2⟩⟩
   ·exact ⟨(default, []),fun h=>absurd h hi⟩
  obtain ⟨g,hg⟩:=Classical.axiomOfChoice hp;refine ⟨(List.range len).map fun i=>(g i).1, .cons ?_ .nil, ?_,fun p hpm=> ?_⟩
  ·have hlen2:(List.map en ((List.range len).map fun i=>(g i).1)).length=len:=by simp
   have key:PR w (fun b=>b<w.heap.size) (.lst sz false (List.map en ((List.range len).map fun i=>(g i).1))) (.slice (some a) (List.map en ((List.range len).map fun i=>(g i).1)).length cap):=by
    have at_: ∀(i j:Nat) (c:List AV) (y:AV),(List.map en ((List.range len).map fun i=>(g i).1))[i]? =some c->c[j]? =some y->
      i<len/\j<sz/\ ∃u,(g i).2[j]? =some u/\LR w y u:=by
     intro i j c y hi hj;have hil:i<len:=by have:=(D7q.1 hi).1;omega
     simp [hil] at hi;subst hi;obtain ⟨_,h2,_⟩:=hg i hil;refine ⟨hil, ?_,h2.get j y hj⟩;have:=(D7q.1 hj).1;rw [hsz] at this;exact this
    refine .lst sz false _ (some a) cap (fun i j=>((g i).2[j]?).getD (.bool false)) (by omega) hm (by simp) (by simp [hsz]) (by simp) (fun i j c y hi hj ad had=> ?_) (fun i j c y hi hj=> ?_)
    ·cases had;obtain ⟨hil,hjs,u,hu,_⟩:=at_ i j c y hi hj;obtain ⟨hcs,_,_⟩:=hg i hil;have hcell:=World.cells?_some hcs;have hcj:w.cell? ((a.add (i*sz)).add j)=some u:=by
      rw [hcell.2.2 j hjs,hu]
     obtain ⟨hcs0,h0,_⟩:=hg 0 (by omega)
     have hcell0:=World.cells?_some hcs0;have hz:=hcell0.2.2 0 hpos;have ez:(a.add (0*sz)).add 0=a:=by simp [Addr.add]
     rw [ez] at hz;have hl0:0<(g 0).2.length:=by rw [<-h0.length,hsz];exact hpos
     rw [D7u hl0] at hz;obtain ⟨s1,s2⟩:=C9D hz;refine ⟨s1,s2, ?_⟩;have ea:(⟨a.block,a.off+(i*sz+j),none⟩:Addr)=(a.add (i*sz)).add j:=by
      obtain ⟨bl,of,sp⟩:=a;simp only at s1;subst s1;simp only [Addr.add]
      by_cases h3:i*sz=0<;>by_cases h4:j=0<;>simp [h3,h4,Nat.add_assoc]
     rw [ea,hcj];simp [hu]
    ·obtain ⟨hil,hjs,u,hu,hr⟩:=at_ i j c y hi hj;simpa [hu] using hr
   rw [hlen2] at key;exact key
  ·have h1:=hBx.1;simp only [D73,List.length_range] at h1⊢;omega
  ·obtain ⟨i,hi,rfl⟩:=List.mem_map.1 hpm;exact (hg i (by simpa using hi)).2.2
end
theorem C0I {w:World} {as:List AV} {vs:Array Value} (h:F2 (LR w) as vs.toList):VR1 (C4a w) (.agg as) (.agg vs):=by
 refine ⟨vs,rfl,by simpa using h.length.symm,fun j c hj=> ?_⟩
 obtain ⟨u,h1,h2⟩:=h.get j c hj;exact ⟨u,by simpa using h1,h2.oneCell,PR.vr0 (m:=C4a w) h2⟩
end Go.Dec
namespace Go.Dec
open Go.Vc Go.RowKit
def C44:Array Value->Sem Value:=fun args=>do
 let (x,y,b)<-Extern.MathBitsCarry.three "Sub64" args
 pure (Extern.MathBitsCarry.pair ((x+Extern.MathBitsCarry.m64-y-b)%Extern.MathBitsCarry.m64) (if x<y+b then 1 else 0))
theorem C84 {P:Program} (x y b:Int) (hx:0<=x) (hy:0<=y) (hb0:0<=b) (hb:b<=1) (hxy:y+b<=x+18446744073709551616) (w:World):
  (C44 #[.int .u64 x, .int .u64 y, .int .u64 b]).run P w=
   .ok (.tuple #[.int .u64 ((x+18446744073709551616-y-b)%18446744073709551616), .int .u64 (if x<y+b then 1 else 0)]) w:=by
 have key: ∀k:Nat,k<=1->(C44 #[.int .u64 x, .int .u64 y, .int .u64 (k:Int)]).run P w=
   .ok (Extern.MathBitsCarry.pair ((x.toNat+Extern.MathBitsCarry.m64-y.toNat-k)%Extern.MathBitsCarry.m64) (if x.toNat<y.toNat+k then 1 else 0)) w:=by
  intro k hk;have:k=0\/k=1:=by omega
  rcases this with rfl|rfl<;>rfl
 obtain ⟨k,rfl⟩:=Int.eq_ofNat_of_zero_le hb0;rw [key k (by omega)]
 obtain ⟨X,rfl⟩:=Int.eq_ofNat_of_zero_le hx;obtain ⟨Y,rfl⟩:=Int.eq_ofNat_of_zero_le hy;simp only [Extern.MathBitsCarry.pair,Extern.MathBitsCarry.m64,D7W];have e:((2^64:Nat))=18446744073709551616:=rfl;rw [e]
 congr 4
 ·congr 1
  simp only [Int.ofNat_eq_natCast];omega
 ·by_cases h:X<Y+k
  ·rw [if_pos h,if_pos (by omega)]
   rfl
  ·rw [if_neg h,if_neg (by omega)]
   rfl
theorem C2i {P:Program} {β:Nat->Nat×Nat} {p:Option (Nat×Nat×Nat)} {ok:Nat->Prop} {w:World} {r:AV} {u:Value} (hm:MR (U2 [] none β p ok w)) (hr:VR (U2 [] none β p ok w) r u):
  B6B P [] none β p ok w r [] none u w β p ok:=
 ⟨hm,hr,⟨rfl,rfl,rfl,D7Y _,fun _ _ _ _=>rfl,fun k cur e _ _ hc=>⟨cur,hc,rfl,fun _ _=>rfl⟩,fun _ _=>rfl⟩,fun _ _=>rfl,fun _ _=>rfl,D7Y _,fun j _ hj' =>absurd hj' (by simp),fun _ h=> .inr h,fun _ h=>h,fun _ h=> .inl h⟩
theorem B6W {P:Program} {f:FuncId} {fn:Func} {e:Array Value->Sem Value} (hf:P.funcs[f]? =some fn) (h1:(fn.name== "runtime.NumGoroutine")=false) (h2:fn.body.isNone=true)
  (h3:Extern.findNext fn=none) (h4:Extern.find fn=some e) (x y c a b:Int)
  (he:∀w,(e #[.int .u64 x, .int .u64 y, .int .u64 c]).run P w= .ok (.tuple #[.int .u64 a, .int .u64 b]) w):
  F5 P f [.int .u64 x, .int .u64 y, .int .u64 c] [] (.tup [.int .u64 a, .int .u64 b]) []:=by
 refine ⟨fun w β p ok vs hmr hl hv=> .inr ?_⟩;have hvs:vs= #[.int .u64 x, .int .u64 y, .int .u64 c]:=by
  obtain ⟨u0,g0,k0⟩:=hv 0 _ rfl;obtain ⟨u1,g1,k1⟩:=hv 1 _ rfl;obtain ⟨u2,g2,k2⟩:=hv 2 _ rfl;have k0' :u0= .int .u64 x:=k0;have k1' :u1= .int .u64 y:=k1;have k2' :u2= .int .u64 c:=k2;subst k0' k1' k2';obtain ⟨l⟩:=vs
  match l,hl with
  | [p,q,r],_=>
   simp at g0 g1 g2;subst g0 g1 g2
   rfl
 subst hvs;refine ⟨.tuple #[.int .u64 a, .int .u64 b],w, ?_, ?_⟩
 ·rw [run_callFunc_extern hf h1 h2 h3 h4,he]
  rfl
 ·refine ⟨_,β,p,ok,rfl,C2i hmr ?_⟩;refine ⟨_,rfl,rfl,fun j v hj=> ?_⟩
  match j,hj with
  |0,hj=>cases hj;exact ⟨_,rfl,rfl⟩
  |1,hj=>cases hj;exact ⟨_,rfl,rfl⟩
theorem B9H {P:Program} {f:FuncId} {k k2:IntKind} {x y:Int} (hc:∀(vs:Array Value) (w:World),(callFunc f vs).run P w= .ok (.enter f vs) w)
  (h:∀w,Calls P f #[.int k x] w fun e w' =>e= .returned (.int k2 y)/\w' =w):F5 P f [.int k x] [] (.int k2 y) []:=by
 refine ⟨fun w β p ok vs hmr hl hv=> .inl ⟨hc vs w, ?_⟩⟩;have hvs:vs= #[.int k x]:=by
  obtain ⟨u0,g0,k0⟩:=hv 0 _ rfl;have k0' :u0= .int k x:=k0;subst k0';obtain ⟨l⟩:=vs
  match l,hl with
  | [p],_=>
   simp at g0;subst g0
   rfl
 subst hvs;refine (h w).mono ?_;rintro e w' ⟨rfl,rfl⟩;refine ⟨_,β,p,ok,rfl,C2i hmr ?_⟩
 rfl
end Go.Dec
namespace Go.Win
open Go.Vc Go.Dec
def N7 (x y c:Int):Option (Int×Int):=
 ck (decide (0<=x/\0<=y/\0<=c/\c<=1)) (some ((x+y+c)%18446744073709551616,(x+y+c)/18446744073709551616))
def P4 (x y b:Int):Option (Int×Int):=
 ck (decide (0<=x/\0<=y/\0<=b/\b<=1/\y+b<=x+18446744073709551616)) (some ((x+18446744073709551616-y-b)%18446744073709551616,if x<y+b then 1 else 0))
def W9 (x:Int):Option Int:=ck (decide (0<=x/\x<=18446744073709551615)) (some (Lib.bitLen x.toNat))
theorem C9I {P:Program} {f:FuncId} {fn:Func} (hf:P.funcs[f]? =some fn) (h1:(fn.name== "runtime.NumGoroutine")=false) (h2:fn.body.isNone=true)
  (h3:Extern.findNext fn=none) (h4:Extern.find fn=some add64Entry) (x y c:Int) (r:Int×Int) (h:N7 x y c=some r):
  F5 P f [.int .u64 x, .int .u64 y, .int .u64 c] [] (.tup [.int .u64 r.1, .int .u64 r.2]) []:=by
 unfold N7 at h;obtain ⟨k,h⟩:=ckS h;obtain ⟨k1,k2,k3,k4⟩:=of_decide_eq_true k;cases h;exact B6W hf h1 h2 h3 h4 x y c _ _ (fun w=>run_add64 x y c k1 k2 k3 k4 w)
theorem C9J {P:Program} {f:FuncId} {fn:Func} (hf:P.funcs[f]? =some fn) (h1:(fn.name== "runtime.NumGoroutine")=false) (h2:fn.body.isNone=true)
  (h3:Extern.findNext fn=none) (h4:Extern.find fn=some C44) (x y c:Int) (r:Int×Int) (h:P4 x y c=some r):
  F5 P f [.int .u64 x, .int .u64 y, .int .u64 c] [] (.tup [.int .u64 r.1, .int .u64 r.2]) []:=by
 unfold P4 at h;obtain ⟨k,h⟩:=ckS h;obtain ⟨k1,k2,k3,k4,k5⟩:=of_decide_eq_true k;cases h;exact B6W hf h1 h2 h3 h4 x y c _ _ (fun w=>C84 x y c k1 k2 k3 k4 k5 w)
end Go.Win
namespace Go.Dec
open Go.Vc Go.RowKit
theorem D2B {P:Program} {f:FuncId} (he:∀(vs:Array Value) (w:World),(callFunc f vs).run P w= .ok (.enter f vs) w)
  (h0:∀(p:Option Addr) (cap:Nat) (w:World),Calls P f #[.slice p 0 cap] w fun e w' =>e= .returned (.tuple #[])/\w' =w)
  (h1: ∀(blk off cap:Nat) (zs:List Int) (w:World),Go.Sort.Holds (Value.int .i64) w blk off zs.toArray->blk<w.heap.size->zs.length<4611686018427387904->
   Calls P f #[.slice (some ⟨blk,off,none⟩) zs.length cap] w fun e w' =>e= .returned (.tuple #[])/\ ∃n os,w' =Go.Sort.grow (Go.Sort.putRow (Value.int .i64) (Go.Sort.ahead w n) blk off (zs.mergeSort fun x y=>decide (x<=y)).toArray) os):
  SortsInts P f:=by
 refine ⟨he,h0,fun blk off cap zs w hc hblk hlen=> ?_⟩;have hH:Go.Sort.Holds (Value.int .i64) w blk off zs.toArray:=fun j hj=>by
  have hj' :j<zs.length:=by simpa using hj
  have h:=hc j hj';have e1:zs.toArray[j]! =zs[j]! :=by simp
  rw [e1];exact h
 refine (h1 blk off cap zs w hH hblk hlen).mono ?_;rintro e w' ⟨rfl,n,os,rfl⟩;have hheap: ∀k,k<w.heap.size->(Go.Sort.grow (Go.Sort.putRow (Value.int .i64) (Go.Sort.ahead w n) blk off (A1o zs).toArray) os).heap[k]? =
   if blk=k then (w.heap[k]?).map (Go.Sort.onCells (Go.Sort.putCells (Value.int .i64) off (A1o zs).toArray)) else w.heap[k]? :=by
  intro k hk;show ((w.heap.modify blk (Go.Sort.onCells (Go.Sort.putCells (Value.int .i64) off (A1o zs).toArray)))++os)[k]? =_;rw [Array.getElem?_append_left (by simpa using hk),Array.getElem?_modify]
 have hsz:w.heap.size<=(Go.Sort.grow (Go.Sort.putRow (Value.int .i64) (Go.Sort.ahead w n) blk off (A1o zs).toArray) os).heap.size:=by
  show w.heap.size<=((w.heap.modify blk (Go.Sort.onCells (Go.Sort.putCells (Value.int .i64) off (A1o zs).toArray)))++os).size;rw [Array.size_append,Array.size_modify];omega
 refine ⟨rfl,⟨hsz,fun k hk hne=> ?_⟩,fun a ha=> ?_,rfl,rfl,rfl,fun cur e fr hcur=> ?_⟩
 ·have:=hheap k hk;rw [if_neg (fun h=>hne h.symm)] at this;exact this
 ·have:=hheap a.block ha;unfold World.frozen?;have hs:(A1o zs)=(zs.mergeSort fun x y=>decide (x<=y)):=rfl;rw [hs] at this;rw [this]
  by_cases hb:blk=a.block
  ·rw [if_pos hb];cases w.heap[a.block]? with
   |none=>rfl
   |some o=>cases o<;>rfl
  ·rw [if_neg hb]
 ·have h2:=hheap blk hblk;rw [if_pos rfl,hcur] at h2;refine ⟨Go.Sort.putCells (Value.int .i64) off (A1o zs).toArray cur,h2, ?_,fun j hj=> ?_⟩
  ·simp [Go.Sort.putCells]
  ·have hlt:off+j<cur.size:=by
    have:=(hc j hj).1;unfold World.cell? at this;simp only [hcur] at this;exact (D74.1 (by simpa using this)).1
   have hl:(A1o zs).length=zs.length:=List.length_mergeSort _;unfold Go.Sort.putCells;rw [Array.getElem?_mapIdx,Array.getElem?_eq_getElem hlt];simp only [Option.map_some];rw [if_pos (by simp [hl];omega)]
   congr 2
   rw [show off+j-off=j by omega]
   simp
end Go.Dec
set_option linter.unusedVariables false
namespace Go.Dec
open Go.Vc
universe u
theorem An {p q:Prop} (a:p) (b:q):p/\q:=And.intro a b
theorem eX {α:Sort u} {p:α->Prop} (a:α) (h:p a):Exists p:=Exists.intro a h
theorem eN {α:Type u} {p:Option α->Prop} (h:p none):Exists p:=Exists.intro none h
theorem oJ {α:Type} {a b:α} (h:some a=some b):a=b:=D7Z h
theorem oD {p:Prop} [d:Decidable p] (h:decide p=true):p:=of_decide_eq_true h
theorem fr {α:Type} {q p:Prop} {a:α} (h:p):(false=true->q)/\(a=a/\p):=And.intro ff (And.intro rfl h)
theorem r1 {t0:Type} {a0:t0} {p:Prop} (h:p):a0=a0/\p:=And.intro rfl (h)
theorem r2 {t0 t1:Type} {a0:t0} {a1:t1} {p:Prop} (h:p):a0=a0/\(a1=a1/\p):=And.intro rfl (And.intro rfl (h))
theorem r3 {t0 t1 t2:Type} {a0:t0} {a1:t1} {a2:t2} {p:Prop} (h:p):a0=a0/\(a1=a1/\(a2=a2/\p)):=And.intro rfl (And.intro rfl (And.intro rfl (h)))
theorem r4 {t0 t1 t2 t3:Type} {a0:t0} {a1:t1} {a2:t2} {a3:t3} {p:Prop} (h:p):a0=a0/\(a1=a1/\(a2=a2/\(a3=a3/\p))):=And.intro rfl (And.intro rfl (And.intro rfl (And.intro rfl (h))))
theorem r5 {t0 t1 t2 t3 t4:Type} {a0:t0} {a1:t1} {a2:t2} {a3:t3} {a4:t4} {p:Prop} (h:p):a0=a0/\(a1=a1/\(a2=a2/\(a3=a3/\(a4=a4/\p)))):=And.intro rfl (And.intro rfl (And.intro rfl (And.intro rfl (And.intro rfl (h)))))
theorem r6 {t0 t1 t2 t3 t4 t5:Type} {a0:t0} {a1:t1} {a2:t2} {a3:t3} {a4:t4} {a5:t5} {p:Prop} (h:p):a0=a0/\(a1=a1/\(a2=a2/\(a3=a3/\(a4=a4/\(a5=a5/\p))))):=And.intro rfl (And.intro rfl (And.intro rfl (And.intro rfl (And.intro rfl (And.intro rfl (h))))))
theorem r7 {t0 t1 t2 t3 t4 t5 t6:Type} {a0:t0} {a1:t1} {a2:t2} {a3:t3} {a4:t4} {a5:t5} {a6:t6} {p:Prop} (h:p):a0=a0/\(a1=a1/\(a2=a2/\(a3=a3/\(a4=a4/\(a5=a5/\(a6=a6/\p)))))):=And.intro rfl (And.intro rfl (And.intro rfl (And.intro rfl (And.intro rfl (And.intro rfl (And.intro rfl (h)))))))
theorem r8 {t0 t1 t2 t3 t4 t5 t6 t7:Type} {a0:t0} {a1:t1} {a2:t2} {a3:t3} {a4:t4} {a5:t5} {a6:t6} {a7:t7} {p:Prop} (h:p):a0=a0/\(a1=a1/\(a2=a2/\(a3=a3/\(a4=a4/\(a5=a5/\(a6=a6/\(a7=a7/\p))))))):=And.intro rfl (And.intro rfl (And.intro rfl (And.intro rfl (And.intro rfl (And.intro rfl (And.intro rfl (And.intro rfl (h))))))))
theorem Z4 {t0 t1 t2 t3 t4 t5 t6 t7 t8 t9 t10 t11:Type} {a0:t0} {a1:t1} {a2:t2} {a3:t3} {a4:t4} {a5:t5} {a6:t6} {a7:t7} {a8:t8} {a9:t9} {a10:t10} {a11:t11} {p:Prop} (h:p):a0=a0/\(a1=a1/\(a2=a2/\(a3=a3/\(a4=a4/\(a5=a5/\(a6=a6/\(a7=a7/\(a8=a8/\(a9=a9/\(a10=a10/\(a11=a11/\p))))))))))):=And.intro rfl (And.intro rfl (And.intro rfl (And.intro rfl (And.intro rfl (And.intro rfl (And.intro rfl (And.intro rfl (And.intro rfl (And.intro rfl (And.intro rfl (And.intro rfl (h))))))))))))
theorem kA {p q:Prop} (k:p) (h:p->q:=by intro hh;(try simp only [X4,M8,D73,D7m,D7I,D7O,D8g,D8h,D7z,D7M] at hh);(try simp only [X4,M8,D73,D7m,D7I,D7O,D8g,D8h,D7z,D7M]);(try simp only [A1,A4] at hh);(try simp only [A1,A4]);omega):q:=h k
theorem kV {p q:Prop} (k:p) (h:p->q:=by intro hh;(try simp only [X4,laid,O6,List.nil_append,M8,D73,D7m,D7I,D7O,D8g,D8h,D7z,D7M] at hh);(try simp only [X4,laid,O6,List.nil_append,M8,D73,D7m,D7I,D7O,D8g,D8h,D7z,D7M]);(try simp only [A1,A4] at hh);(try simp only [A1,A4]);omega):q:=h k
theorem kF {p q:Prop} (k:p) (h:p->q:=by intro hh;(try simp only [A1,A4] at hh);(try simp only [A1,A4]);refine ⟨fun e=> ?_, ?_⟩;(have h0:=congrArg List.length e;have h1:=List.length_pos_iff.2 hh.1;(try simp only [X4,M8,D73,D7m,D7I,D7O,D8g,D8h,D7z,D7M] at h0);(try simp only [X4,M8,D73,D7m,D7I,D7O,D8g,D8h,D7z,D7M] at h1);omega);replace hh:=hh.2;(try simp only [X4,M8,D73,D7m,D7I,D7O,D8g,D8h,D7z,D7M] at hh);(try simp only [X4,M8,D73,D7m,D7I,D7O,D8g,D8h,D7z,D7M]);omega):q:=h k
theorem kM {p q:Prop} (k:p) (h:p->q:=by intro hh;simp only [X4,D8f,D79,List.map_nil,List.map_take,List.map_drop,List.map_set,List.map_replicate] at hh;exact hh):q:=h k
theorem kL {p q:Prop} (k:p) (h:p->q:=by intro hh;(try simp only [X4,M8,D73,D7m,D7I,D7O,D8g,D8h,D7z,D7M] at hh);(try simp only [X4,M8,D73,D7m,D7I,D7O,D8g,D8h,D7z,D7M]);exact hh):q:=h k
theorem B5w {n k:Nat} (h:n=k:=by simp only [X4,M8,D73,D7m,D7I,D7O,D8g,D8h,D7z,D7M]):0<=(0:Int)/\([[AV.int .i64 (n:Int)]]:List (List AV))[(0:Int).toNat]? =some [AV.int .i64 (k:Int)]:=D5k h
def C9N (T:I6) (e:Nat) (row:List AV):List AV:=match I6.find T e with
 |some ei=>match ei.pz with
  | []=>row
  |p::ps=>A4k (p::ps) row
 |none=>row
theorem C5O (T:I6) (e n:Nat) (row:List AV):A4E T e (List.replicate n row)=List.replicate n (C9N T e row):=by
 unfold A4E C9N;cases I6.find T e with
 |none=>rfl
 |some ei=>
  dsimp only;cases ei.pz with
  |nil=>rfl
  |cons p ps=>exact List.map_replicate
end Go.Dec
