/- Plain laws of the functions on plain data. -/
import Derived.Test.YtmipeaidieflmaaGreatQa
import Derived.Test.YtmipeaidieflmaaGreatWin
import Derived.Laws.BitsLemmas
set_option linter.unusedVariables false
set_option linter.unusedSimpArgs false
set_option linter.unnecessarySimpa false
set_option linter.unusedSectionVars false
namespace Go.Win
open Go.Vc Go.Dec
end Go.Win
namespace Go.Win
open Go.Vc Go.Dec
end Go.Win
namespace Go.Win
open Go.Vc Go.Dec
def B2B (l:List C4) (i:Nat):Prop:=(0<=(el l i).ID/\(el l i).ID<=1048576)/\(1<=i->(el l (i-1)).ID<(el l i).ID)/\B6t (el l i).Ab
def C6w (l:List C4) (limit:Int):Prop:=((1<=limit/\limit<=64)/\(l.length:Int)<=limit)/\ ∀i,i<l.length->B2B l i
theorem C5M {l:List C4} (w:L8 M4 l) {i:Nat} (hi:i<l.length):L2 (el l i).Ab:=(w.2 _ (A7U hi)).2
theorem C3G {l:List C4} (hl:l.length<=maxLen) {i:Nat} (hi:i<l.length) (V:B0->Option Int) (hV:V (el l i).Ab=some (vOf (B6t (el l i).Ab))):
  (¬B2B l i->(cond (decide ((i:Int)<(l.length:Int))) (
   Option.bind (E4 l (i:Int)) fun x5_1=>
   Option.bind (gd ((!((decide (x5_1.ID<(0:Int)))||(decide (x5_1.ID>(1048576:Int)))))&&(decide ((i:Int)>(0:Int)))) (E4 l (A3 ((i:Int)-(1:Int))))) fun x6_15=>
   Option.bind (gd (!(((decide (x5_1.ID<(0:Int)))||(decide (x5_1.ID>(1048576:Int))))||((decide ((i:Int)>(0:Int)))&&(decide (x6_15.ID>=x5_1.ID))))) (V x5_1.Ab)) fun y6_26=>
   cond ((((decide (x5_1.ID<(0:Int)))||(decide (x5_1.ID>(1048576:Int))))||((decide ((i:Int)>(0:Int)))&&(decide (x6_15.ID>=x5_1.ID))))||(y6_26 !=(0:Int))) (
    some (.inr false))<|
   some (.inl (A3 ((i:Int)+(1:Int))))) (Option.map Sum.inr (some true)):Option (Int⊕Bool))=some (.inr false))/\
  (¬ ¬B2B l i->(cond (decide ((i:Int)<(l.length:Int))) (
   Option.bind (E4 l (i:Int)) fun x5_1=>
   Option.bind (gd ((!((decide (x5_1.ID<(0:Int)))||(decide (x5_1.ID>(1048576:Int)))))&&(decide ((i:Int)>(0:Int)))) (E4 l (A3 ((i:Int)-(1:Int))))) fun x6_15=>
   Option.bind (gd (!(((decide (x5_1.ID<(0:Int)))||(decide (x5_1.ID>(1048576:Int))))||((decide ((i:Int)>(0:Int)))&&(decide (x6_15.ID>=x5_1.ID))))) (V x5_1.Ab)) fun y6_26=>
   cond ((((decide (x5_1.ID<(0:Int)))||(decide (x5_1.ID>(1048576:Int))))||((decide ((i:Int)>(0:Int)))&&(decide (x6_15.ID>=x5_1.ID))))||(y6_26 !=(0:Int))) (
    some (.inr false))<|
   some (.inl (A3 ((i:Int)+(1:Int))))) (Option.map Sum.inr (some true)):Option (Int⊕Bool))=some (.inl ((i+1:Nat):Int))):=by
 rw [D19 (by omega:(i:Int)<(l.length:Int)),D18,I5 hi,D14,Q9 hi hl,hV]
 by_cases g1:0<=(el l i).ID/\(el l i).ID<=1048576
 ·have e1:(decide ((el l i).ID<0)||decide ((el l i).ID>1048576))=false:=by
   rw [D2k];simp only [D2f,D16,Ne];omega
  rw [e1];simp only [D2h,D2F,D2v];rcases i with _|i
  ·have e4:decide (((0:Nat):Int)>0)=false:=rfl;rw [e4];simp only [G6,D14,D2z,D2h,G8,D2v];refine L1 ?_;rw [C5H];unfold B2B;exact ⟨fun h h2=>h h2.2.2,fun h h2=>h ⟨g1,fun h3=>absurd h3 (by decide),h2⟩⟩
  ·have e4:decide (((i+1:Nat):Int)>0)=true:=D19 (by omega)
   rw [e4,A10 (by omega) (Nat.le_of_lt hi) hl,D2L,I5 (by omega)]
   simp only [G8,D14,D2F]
   by_cases g2:(el l i).ID>=(el l (i+1)).ID
   ·rw [D19 g2];simp only [D2g,G6,D14,D2O,D18];refine ⟨fun _=>trivial,fun h=>absurd (fun h2=> ?_) h⟩;have:=h2.2.1 (by omega)
    rw [D2L] at this;omega
   ·rw [D2b g2];simp only [D2h,G8,D14,D2v];refine L1 ?_;rw [C5H];unfold B2B;exact ⟨fun h h2=>h h2.2.2,fun h h2=>h ⟨g1,fun _=>by rw [D2L];omega,h2⟩⟩
 ·have e1:(decide ((el l i).ID<0)||decide ((el l i).ID>1048576))=true:=by
   simp only [D2f,D16];omega
  rw [e1];simp only [D2g,D2z,G6,D14,D2O,D18];exact ⟨fun _=>trivial,fun h=>absurd (fun h2=>g1 h2.1) h⟩
theorem C0E (l:List C4) (limit:Int) (w:L8 M4 l):A6p l limit=some (S1 (C6w l limit))/\A9h l limit=some (S1 (C6w l limit)):=by
 have hl:=K0 w.1;unfold A6p A9h
 by_cases h1:(1<=limit/\limit<=64)/\(l.length:Int)<=limit
 ·have e:((decide (limit<(1:Int))||decide (limit>(64:Int)))||decide ((l.length:Int)>limit))=false:=by
   rw [D2k];simp only [D2f,D16,Ne];omega
  rw [e,D17,D17];have H1:=M0 (f:=fun s:Int=>A5A l s) l.length (fun i=> ¬B2B l i) false (some true)
   (fun i hi _=>C3G hl hi A1p (B0w _ (C5M w hi)).1)
   (fun _=>by
    unfold A5A;rw [D2b (D2x _),D17])
  have H2:=M0 (f:=fun s:Int=>A8c l s) l.length (fun i=> ¬B2B l i) false (some true)
   (fun i hi _=>C3G hl hi A3O (B0w _ (C5M w hi)).2)
   (fun _=>by
    unfold A8c;rw [D2b (D2x _),D17])
  unfold B0t B3V
  by_cases h2: ∀i,i<l.length->B2B l i
  ·rw [H1.2 fun i hi hn=>hn (h2 i hi),H2.2 fun i hi hn=>hn (h2 i hi),O9 ⟨h1,h2⟩];exact ⟨rfl,rfl⟩
  ·rw [H1.1 (Y5 h2),H2.1 (Y5 h2),K8 fun h=>h2 h.2];exact ⟨rfl,rfl⟩
 ·have e:((decide (limit<(1:Int))||decide (limit>(64:Int)))||decide ((l.length:Int)>limit))=true:=by
   simp only [D2f,D16];omega
  rw [e,D18,D18,K8 fun h=>h1 h.1];exact ⟨rfl,rfl⟩
def A85 (l:List C4):List Int:=l.map (·.ID)
theorem D01:B2G=B1Z:=rfl
theorem C4Z (l:List C4) (hl:l.length<=1048577) (h:∀r∈l,lenS r.Ab):B0U l l=some true:=by
 have hm:l.length<=maxLen:=by rw [N2];omega
 have hi:B1Z l=some (A85 l):=by
  unfold B1Z B2H;have H:=A2s (f:=fun s:List Int×Int=>A4j l s.1 s.2) (fun i=>(A85 (l.take i),(i:Int))) 0 l.length (Nat.zero_le _) (fun _=>False) [] (some (A85 l))
   (fun i _ hi _=>by
    refine ⟨fun h=>h.elim,fun _=> ?_⟩;simp only [];unfold A4j;rw [D19 (by omega:(i:Int)<(l.length:Int)),D18,I5 hi,D14,Q9 hi hm]
    have e1:A85 (l.take (i+1))=A85 (l.take i)++ [(el l i).ID]:=by
     rw [List.take_add_one,A8L hi];simp [A85]
    have e2:(A85 (l.take i)).length=i:=by unfold A85;rw [D2R,D2w];omega
    rw [e1,e2,D19 (by simp only [D2n,D2A];omega),A0Q])
   (fun _=>by
    simp only [];unfold A4j;rw [D2b (D2x _),D17,List.take_length])
  exact H.2 (fun _ _ _ h=>h)
 unfold B0U;rw [D01,hi,D14,D14,B6q (A85 l) (by unfold A85;rw [D2R];exact hm),D14,D2g,D17]
 unfold B5l;refine (M0 (f:=fun s:Int=>A6l l l s) l.length (fun _=>False) false (some true) (fun i hi _=>⟨fun h=>h.elim,fun _=> ?_⟩) (fun _=> ?_)).2 fun _ _ h=>h
 ·unfold A6l;rw [D19 (by omega:(i:Int)<(l.length:Int)),D18,I5 hi]
  simp [Q9 hi hm,C4Y _ (h _ (A7U hi))]
 ·unfold A6l;rw [D2b (D2x _),D17]
end Go.Win
namespace Go.Win
open Go.Vc Go.Dec
def cb (u:Nat):List Int:=if u<128 then [(u:Int)] else ((128+u%128:Nat):Int)::cb (u/128)
termination_by u
decreasing_by omega
theorem B4q {u:Nat} (h:u<128):cb u= [(u:Int)]:=by rw [cb,if_pos h]
theorem B4p {u:Nat} (h:128<=u):cb u=((128+u%128:Nat):Int)::cb (u/128):=by rw [cb,if_neg (by omega)]
theorem C2T (u:Nat):1<=(cb u).length:=by
 by_cases h:u<128
 ·rw [B4q h];simp
 ·rw [B4p (by omega)];simp
def V8 (l:List Int):Prop:= ∀x∈l,0<=x/\x<=255
theorem D0L (u:Nat):V8 (cb u):=by
 induction u using Nat.strongRecOn with
 |_ u ih=>
  by_cases h:u<128
  ·rw [B4q h];intro x hx;simp only [List.mem_singleton] at hx;omega
  ·rw [B4p (by omega)]
   intro x hx;rcases List.mem_cons.1 hx with h1|h1
   ·omega
   ·exact ih (u/128) (by omega) x h1
def rdN:Nat->Nat->List Int->Option (Nat×Nat)
 |_,_, []=>none
 |i,u,x::l=>if 10<=i then none else if i=9/\1<x then none else if 128<=x then rdN (i+1) (u+(x.toNat%128)*128^i) l
  else if x=0/\0<i then none else some (u+x.toNat*128^i,i+1)
theorem B6w {i j:Nat} (h:i<=j):128^i<=128^j:=Nat.pow_le_pow_right (by decide) h
theorem D1K (l:List Int): ∀(v i u:Nat),u+v*128^i<2^64->(0<i->0<v)->rdN i u (cb v++l)=some (u+v*128^i,i+(cb v).length):=by
 intro v
 induction v using Nat.strongRecOn with
 |_ v ih=>
  intro i u hlt hpos;have hi:i<10:=by
   apply D2Z;intro hn;have h1:=B6w (show 10<=i by omega)
   have h2:1<=v:=hpos (by omega)
   have h3:1*128^10<=v*128^i:=Nat.mul_le_mul h2 h1;have:(128:Nat)^10=1180591620717411303424:=by decide
   omega
  have h9:i=9->v<=1:=by
   intro h;subst h;apply D2Z;intro hn;have h3:2*128^9<=v*128^9:=D2s _ (by omega)
   have:(128:Nat)^9=9223372036854775808:=by decide
   omega
  by_cases h:v<128
  ·rw [B4q h];simp only [List.cons_append,List.nil_append,rdN,D2n,D2A];rw [if_neg (by omega),if_neg (by rintro ⟨a,b⟩;have:=h9 a;omega),if_neg (by omega),if_neg (by rintro ⟨a,b⟩;have:=hpos b;omega)]
   rfl
  ·rw [B4p (by omega)]
   simp only [List.cons_append,rdN,D2n];rw [if_neg (by omega),if_neg (by rintro ⟨a,b⟩;have:=h9 a;omega),if_pos (by omega)]
   have e1:(((128+v%128:Nat):Int)).toNat%128=v%128:=by rw [D2K];omega
   have e2:u+v%128*128^i+v/128*128^(i+1)=u+v*128^i:=by
    have:v/128*128^(i+1)=128*(v/128)*128^i:=by rw [Nat.pow_succ];ac_rfl
    rw [this,Nat.add_assoc,<-Nat.add_mul]
    congr 2
    omega
   rw [e1,ih (v/128) (by omega) (i+1) _ (by rw [e2];exact hlt) (fun _=>by omega),e2]
   congr 2
   omega
theorem C7T: ∀(l:List Int) (i u w k:Nat),V8 l->u<128^i->rdN i u l=some (w,k)->
  ∃v,w=u+v*128^i/\k=i+(cb v).length/\l=cb v++l.drop (cb v).length/\(0<i->0<v)/\w<2^64
 | [],i,u,w,k,_,_,h=>by simp [rdN] at h
 |x::l,i,u,w,k,hb,hu,h=>by
  simp only [rdN] at h;have hx:=hb x (by simp)
  split at h
  ·cases h
  rename_i h10;split at h
  ·cases h
  rename_i h9;have p9:(128:Nat)^9=9223372036854775808:=by decide
  split at h
  ·rename_i h128;have hx0:x.toNat%128+128=x.toNat:=by omega
   have hlt:u+x.toNat%128*128^i<128^(i+1):=by
    have h1:x.toNat%128*128^i<=127*128^i:=D2s _ (by omega)
    rw [Nat.pow_succ];omega
   obtain ⟨v,e1,e2,e3,e4,e5⟩:=C7T l (i+1) _ w k (fun y hy=>hb y (by simp [hy])) hlt h
   have hv:=e4 (by omega)
   have hcb:cb (x.toNat%128+128*v)=x::cb v:=by
    rw [B4p (by omega)]
    congr 1
    ·omega
    ·congr 1;omega
   refine ⟨x.toNat%128+128*v, ?_, ?_, ?_,fun _=>by omega,e5⟩
   ·rw [e1,Nat.add_mul,<-Nat.add_assoc]
    congr 1
    rw [Nat.pow_succ];ac_rfl
   ·rw [hcb,D2n];omega
   ·rw [hcb,D2n,List.drop_succ_cons,List.cons_append,<-e3]
  ·rename_i h128;split at h
   ·cases h
   rename_i h0;cases h;have hcb:cb x.toNat= [x]:=by rw [B4q (by omega)];congr 1;omega
   refine ⟨x.toNat,rfl,by rw [hcb];rfl,by rw [hcb];rfl,fun hi=> ?_, ?_⟩
   ·rcases Nat.eq_zero_or_pos x.toNat with h1|h1
    ·exact absurd ⟨by omega,hi⟩ h0
    ·exact h1
   ·by_cases hi:i=9
    ·subst hi;have h1:x.toNat<=1:=by
      have: ¬(1<x):=fun hn=>h9 ⟨rfl,hn⟩;omega
     have:x.toNat*128^9<=1*128^9:=D2s _ h1;omega
    ·have h1:x.toNat*128^i<=127*128^i:=D2s _ (by omega)
     have h2:=B6w (show i+1<=9 by omega)
     rw [Nat.pow_succ] at h2;omega
def zz (n:Int):Nat:=if 0<=n then (2*n).toNat else (-2*n-1).toNat
def B17 (w:Nat):Int:=if w%2=0 then ((w/2:Nat):Int) else-((w/2:Nat):Int)-1
theorem D0q (n:Int):B17 (zz n)=n:=by unfold B17 zz;split<;>split<;>omega
theorem D0B (w:Nat):zz (B17 w)=w:=by unfold B17 zz;split<;>split<;>omega
theorem C2g {n:Int} (h:E0 .i64 n):zz n<2^64:=by
 simp [E0,Lit.wf,IntKind.min,IntKind.max,IntKind.signed,IntKind.bits] at h;unfold zz;split<;>omega
theorem D0p {w:Nat} (h:w<2^64):E0 .i64 (B17 w):=by
 simp [E0,Lit.wf,IntKind.min,IntKind.max,IntKind.signed,IntKind.bits];unfold B17;split<;>omega
def M7 (n:Int):List Int:=cb (zz n)
theorem A37 (n:Int):1<=(M7 n).length:=C2T _
theorem B8i (n:Int):V8 (M7 n):=D0L _
def rd (l:List Int):Option (Int×Nat):=(rdN 0 0 l).map fun p=>(B17 p.1,p.2)
theorem A1G {n:Int} (h:E0 .i64 n) (l:List Int):rd (M7 n++l)=some (n,(M7 n).length):=by
 unfold rd M7;rw [D1K l (zz n) 0 0 (by have:=C2g h;simpa using this) (fun h=>absurd h (by omega))]
 simp [D0q]
theorem B6X {l:List Int} (hb:V8 l) {n:Int} {k:Nat} (h:rd l=some (n,k)):E0 .i64 n/\k=(M7 n).length/\l=M7 n++l.drop k:=by
 unfold rd at h;rw [Option.map_eq_some_iff] at h;obtain ⟨⟨w,k'⟩,h1,h2⟩:=h;cases h2;obtain ⟨v,e1,e2,e3,_,e5⟩:=C7T l 0 0 w k' hb (by simp) h1
 have hv:w=v:=by simpa using e1
 subst hv;have hz:M7 (B17 w)=cb w:=by unfold M7;rw [D0B]
 simp only [Nat.zero_add] at e2;exact ⟨D0p e5,by rw [hz,e2],by rw [hz,e2];exact e3⟩
def wr (ns:List Int):List Int:=ns.flatMap M7
theorem C4l:wr []= []:=rfl
theorem A0i (n:Int) (ns:List Int):wr (n::ns)=M7 n++wr ns:=rfl
theorem A1D (a b:List Int):wr (a++b)=wr a++wr b:=List.flatMap_append
theorem C4k (ns:List Int):V8 (wr ns):=by
 intro x hx;obtain ⟨n,_,h⟩:=D2I.1 hx;exact B8i n x h
theorem B6L (ns:List Int):ns.length<=(wr ns).length:=by
 induction ns with
 |nil=>simp [wr]
 |cons n ns ih=>
  rw [A0i,D2a,D2n];have:=A37 n;omega
theorem B4i {l:List Int} (h:V8 l) (k:Nat):V8 (l.drop k):=fun x hx=>h x (List.drop_subset _ _ hx)
theorem B9V {a b:List Int} (h:V8 a) (h':V8 b):V8 (a++b):=fun x hx=>(D2Q.1 hx).elim (h x) (h' x)
def K1 (ns:List Int):Prop:= ∀n∈ns,E0 .i64 n
theorem B9R: ∀ {a b:List Int},K1 a->K1 b->wr a=wr b->a=b
 | [], [],_,_,_=>rfl
 | [],n::ns,_,_,h=>by
  have h1:=congrArg List.length h;rw [A0i,D2a] at h1;have h2:=A37 n;have h3:(wr []).length=0:=rfl;omega
 |n::ns, [],_,_,h=>by
  have h1:=congrArg List.length h;rw [A0i,D2a] at h1;have h2:=A37 n;have h3:(wr []).length=0:=rfl;omega
 |n::ns,m::ms,ha,hb,h=>by
  have h1:=A1G (ha n (by simp)) (wr ns)
  have h2:=A1G (hb m (by simp)) (wr ms)
  rw [A0i,A0i] at h;rw [h,h2] at h1;simp only [D2W,Prod.mk.injEq] at h1;obtain ⟨e,_⟩:=h1;subst e;rw [List.append_cancel_left_eq] at h;rw [B9R (fun x hx=>ha x (by simp [hx])) (fun x hx=>hb x (by simp [hx])) h]
abbrev Rd (α:Type):=List Int->Option (α×List Int)
structure Sim {α:Type} (Q P:Rd α):Prop where
 fwd: ∀ns a ns',K1 ns->P ns=some (a,ns')->K1 ns' /\Q (wr ns)=some (a,wr ns')
 bwd: ∀l a l',V8 l->Q l=some (a,l')->V8 l' /\ ∀ns',K1 ns' ->l' =wr ns' -> ∃ns,K1 ns/\l=wr ns/\P ns=some (a,ns')/\ns'.length<=ns.length
def F9:Rd Int:=fun l=>(rd l).map fun p=>(p.1,l.drop p.2)
def B1:Rd Int:=fun
 | []=>none
 |n::ns=>some (n,ns)
theorem C5z:Sim F9 B1 where
 fwd:=fun ns a ns' hw h=>by
  cases ns with
  |nil=>cases h
  |cons n ns=>
   cases h;refine ⟨fun x hx=>hw x (by simp [hx]), ?_⟩
   unfold F9;rw [A0i,A1G (hw _ (by simp))]
   simp
 bwd:=fun l a l' hb h=>by
  unfold F9 at h;rw [Option.map_eq_some_iff] at h;obtain ⟨⟨n,k⟩,h1,h2⟩:=h;cases h2;obtain ⟨w,e1,e2⟩:=B6X hb h1;refine ⟨B4i hb _,fun ns' hn e=>⟨n::ns',fun x hx=> ?_, ?_,rfl,by simp⟩⟩
  ·rcases List.mem_cons.1 hx with h3|h3
   ·subst h3;exact w
   ·exact hn x h3
  ·rw [A0i,<-e];exact e2
def H8 {α:Type} (a:α):Rd α:=fun l=>some (a,l)
def B8 {α β:Type} (p:Rd α) (f:α->Rd β):Rd β:=fun l=>(p l).bind fun q=>f q.1 q.2
def B4Q {α:Type}:Rd α:=fun _=>none
theorem B8z {α:Type} (a:α):Sim (H8 a) (H8 a) where
 fwd:=fun ns b ns' hw h=>by cases h;exact ⟨hw,rfl⟩
 bwd:=fun l b l' hb h=>by cases h;exact ⟨hb,fun ns' hn e=>⟨ns',hn,e,rfl,D2M _⟩⟩
theorem C89 {α:Type}:Sim (B4Q (α:=α)) B4Q where
 fwd:=fun ns b ns' hw h=>by cases h
 bwd:=fun l b l' hb h=>by cases h
theorem B4R {α β:Type} {Q P:Rd α} {f g:α->Rd β} (h:Sim Q P) (hf:∀a,Sim (f a) (g a)):Sim (B8 Q f) (B8 P g) where
 fwd:=fun ns b ns' hw e=>by
  unfold B8 at e;rw [Option.bind_eq_some_iff] at e;obtain ⟨⟨a,n1⟩,e1,e2⟩:=e;obtain ⟨w1,q1⟩:=h.fwd _ _ _ hw e1;obtain ⟨w2,q2⟩:=(hf a).fwd _ _ _ w1 e2;refine ⟨w2, ?_⟩;unfold B8;rw [q1];exact q2
 bwd:=fun l b l' hb e=>by
  unfold B8 at e;rw [Option.bind_eq_some_iff] at e;obtain ⟨⟨a,l1⟩,e1,e2⟩:=e;obtain ⟨b1,q1⟩:=h.bwd _ _ _ hb e1;obtain ⟨b2,q2⟩:=(hf a).bwd _ _ _ b1 e2;refine ⟨b2,fun ns' hn en=> ?_⟩;obtain ⟨n1,w1,r1,r2,r3⟩:=q2 ns' hn en;obtain ⟨n0,w0,r4,r5,r6⟩:=q1 n1 w1 r1;refine ⟨n0,w0,r4, ?_,Nat.le_trans r3 r6⟩;unfold B8;rw [r5];exact r2
def L3 {α:Type} (p:Rd α):Nat->Rd (List α)
 |0=>H8 []
 |k+1=>B8 p fun a=>B8 (L3 p k) fun as=>H8 (a::as)
theorem B8y {α:Type} {Q P:Rd α} (h:Sim Q P): ∀k,Sim (L3 Q k) (L3 P k)
 |0=>B8z _
 |k+1=>B4R h fun _=>B4R (B8y h k) fun _=>B8z _
def Z2 {α:Type} (P:Rd α):Prop:= ∀ns a ns',P ns=some (a,ns')->ns'.length<ns.length
theorem B4F {α:Type} {P:Rd α} (h:Z2 P): ∀(k:Nat) (ns:List Int) (as:List α) (ns' :List Int),L3 P k ns=some (as,ns')->ns'.length+k<=ns.length
 |0,ns,as,ns',e=>by cases e;simp
 |k+1,ns,as,ns',e=>by
  unfold L3 B8 at e;rw [Option.bind_eq_some_iff] at e;obtain ⟨⟨a,n1⟩,e1,e2⟩:=e;have e2' :((L3 P k n1).bind fun q=>H8 (a::q.1) q.2)=some (as,ns'):=e2;rw [Option.bind_eq_some_iff] at e2';obtain ⟨⟨bs,n2⟩,e3,e4⟩:=e2';cases e4;have h1:=h _ _ _ e1;have h2:=B4F h k _ _ _ e3;simp only [] at h1 h2⊢;omega
def J5 {α:Type} (i:Rd Int) (p:Rd α):Rd (List α):=B8 i fun n l=>if n<0\/(l.length:Int)<n then none else L3 p n.toNat l
theorem C9a {α:Type} {Q P:Rd α} (h:Sim Q P) (he:Z2 P):Sim (J5 F9 Q) (J5 B1 P):=by
 refine B4R C5z fun n=>⟨fun ns a ns' hw e=> ?_,fun l a l' hb e=> ?_⟩
 ·split at e
  ·cases e
  rename_i hc;obtain ⟨w,q⟩:=(B8y h _).fwd _ _ _ hw e;refine ⟨w, ?_⟩;rw [if_neg]
  ·exact q
  ·have:=B6L ns;omega
 ·split at e
  ·cases e
  rename_i hc;obtain ⟨b,q⟩:=(B8y h _).bwd _ _ _ hb e;refine ⟨b,fun ns' hn en=> ?_⟩;obtain ⟨ns,w,r1,r2,r3⟩:=q ns' hn en;refine ⟨ns,w,r1, ?_,r3⟩;rw [if_neg]
  ·exact r2
  ·have:=B4F he _ _ _ _ r2;omega
end Go.Win
namespace Go.Win
open Go.Vc Go.Dec
theorem C50: ∀n:Fin 256,V9 .u8 (n.1:Int) 127=((n.1%128:Nat):Int):=by decide+kernel
theorem C7L: ∀n:Fin 256,ior .u8 (n.1:Int) 128=((128+n.1%128:Nat):Int):=by decide+kernel
theorem D0E {x:Nat} (h:x<=255):V9 .u8 (x:Int) 127=((x%128:Nat):Int):=C50 ⟨x,by omega⟩
theorem C9H {x:Nat} (h:x<=255):ior .u8 (x:Int) 128=((128+x%128:Nat):Int):=C7L ⟨x,by omega⟩
theorem C7M (a b:Int):ior .u64 a b=ior .u64 b a:=by
 show IntKind.u64.wrap _=IntKind.u64.wrap _;rw [BitVec.or_comm]
theorem C2n {v m:Nat} (hv:v<18446744073709551616) (hm:m<=63):V9 .u64 (v:Int) ((2^m-1:Nat):Int)=((v%2^m:Nat):Int):=by
 show IntKind.u64.wrap _=_;have hbits:IntKind.u64.bits=64:=rfl;have hp:(2:Nat)^m<=2^63:=Nat.pow_le_pow_right (by decide) hm
 rw [hbits,IntKind.wrap_u64,BitVec.toNat_and,BitVec.toNat_ofInt,BitVec.toNat_ofInt];have e1:((((v:Int))%((2^64:Nat):Int)).toNat)=v:=by omega
 have e2:(((((2^m-1:Nat):Int))%((2^64:Nat):Int)).toNat)=2^m-1:=by omega
 rw [e1,e2,Nat.and_two_pow_sub_one_eq_mod];have:=Nat.mod_lt v (Nat.two_pow_pos m);omega
theorem D1V {v:Nat} (hv:v<18446744073709551616):V9 .u64 (v:Int) 1=((v%2:Nat):Int):=C2n (m:=1) hv (by decide)
theorem C9P {v:Nat} (hv:v<18446744073709551616):V9 .u64 (v:Int) 127=((v%128:Nat):Int):=C2n (m:=7) hv (by decide)
theorem D1F {v:Nat} (hv:v<18446744073709551616):B1K .u64 (v:Int)=((18446744073709551615-v:Nat):Int):=by
 show IntKind.u64.wrap _=_;have hbits:IntKind.u64.bits=64:=rfl;rw [hbits,IntKind.wrap_u64];have e:BitVec.ofInt 64 (if IntKind.u64.signed then-1 else IntKind.u64.max)=BitVec.allOnes 64:=by decide
 rw [e,BitVec.allOnes_xor,BitVec.toNat_not,BitVec.toNat_ofInt];omega
theorem D1Y {v:Nat} (hv:v<9223372036854775808):B1K .i64 (v:Int)= -(v:Int)-1:=by
 show IntKind.i64.wrap _=_;have hbits:IntKind.i64.bits=64:=rfl;rw [hbits,IntKind.wrap_i64];have e:BitVec.ofInt 64 (if IntKind.i64.signed then-1 else IntKind.i64.max)=BitVec.allOnes 64:=by decide
 rw [e,BitVec.allOnes_xor,BitVec.toNat_not,BitVec.toNat_ofInt];omega
theorem B9r (i:Nat):(128:Nat)^i=2^(7*i):=by rw [Nat.pow_mul]
def rdR (a:Nat):Option (Nat×Nat)->Int×Int×Bool
 |none=>(0,0,false)
 |some p=>(B17 p.1,((a+p.2:Nat):Int),true)
theorem D1Z {u x i:Nat} (hu:u<128^i) (hi:i<=9) (hx:x<=255) (h9:i=9->x<=1):
  ior .u64 (u:Int) (R5 .u64 (F3 (V9 .u8 (x:Int) 127)) (F3 (A3 (7*(i:Int)))))=((u+x%128*128^i:Nat):Int)/\u+x%128*128^i<18446744073709551616/\(i<=8->u+x%128*128^i<128^(i+1)):=by
 have b0:u+x%128*128^i<128^(i+1):=by
  have h1:x%128*128^i<=127*128^i:=D2s _ (by omega)
  rw [Nat.pow_succ];omega
 have b1:u+x%128*128^i<18446744073709551616:=by
  by_cases h:i<=8
  ·have h1:=B6w (show i+1<=9 by omega)
   have:(128:Nat)^9=9223372036854775808:=by decide
   omega
  ·have hi9:i=9:=by omega
   subst hi9;have:(128:Nat)^9=9223372036854775808:=by decide
   have hx1:=h9 rfl;rw [show x%128=x by omega]
   clear b0
   rw [this] at hu⊢;omega
 refine ⟨?_,b1,fun _=>b0⟩;have e1:F3 (A3 (7*(i:Int)))=((7*i:Nat):Int):=by rw [A2x,D5]<;>omega
 have e2:F3 (((x%128:Nat):Int))=((x%128:Nat):Int):=by rw [A2x];omega
 have e3:R5 .u64 ((x%128:Nat):Int) ((7*i:Nat):Int)=((x%128*2^(7*i):Nat):Int):=by
  rw [C0j _ (by omega)]
  have:(((x%128:Nat):Int))*2^(7*i)=((x%128*2^(7*i):Nat):Int):=by simp
  rw [this];rw [<-B9r];omega
 rw [e1,D0E hx,e2,e3,C7M,C8G (by rw [<-B9r];exact hu) (by rw [<-B9r];omega),<-B9r]
 congr 1
 omega
theorem C1u {l:List Int} (hb:V8 l) (hl:l.length<=1099511627776) {a:Nat} (ha:a<=l.length): ∀(k i u:Nat),i+k=10->u<128^i->
  B14 l a u i=some (rdR a (rdN i u (l.drop (a+i))))/\A9W l a u i=some (rdR a (rdN i u (l.drop (a+i)))):=by
 intro k
 induction k with
 |zero=>
  intro i u hi hu;have hi:i=10:=by omega
  subst hi;have e:rdN 10 u (l.drop (a+10))=none:=by
   cases h:l.drop (a+10) with
   |nil=>rfl
   |cons x m=>simp [rdN]
  rw [e];constructor
  ·exact L4 rfl
  ·exact L4 rfl
 |succ k ih=>
  intro i u hi hu
  by_cases hlt:a+i<l.length
  ·have hx:=hb l[a+i] (D2T hlt);obtain ⟨x,ex⟩:=Int.eq_ofNat_of_zero_le hx.1;have hx255:x<=255:=by omega
   have hd:l.drop (a+i)=(x:Int)::l.drop (a+(i+1)):=by rw [List.drop_eq_getElem_cons hlt,ex];rfl
   have hidx:E4 l (A3 ((a:Int)+(i:Int)))=some (x:Int):=by
    rw [D5 (by omega) (by omega),show ((a:Int)+(i:Int))=((a+i:Nat):Int) by omega,Q6 hlt,ex]
   have hc:(decide ((i:Int)<10)&&decide (A3 ((a:Int)+(i:Int))<(l.length:Int)))=true:=by
    rw [D5 (by omega) (by omega),D2c,D16,D16];omega
   have hck:decide (0<=F3 (A3 (7*(i:Int))))=true:=by rw [D16,A2x];omega
   have hs:A3 ((i:Int)+1)=((i+1:Nat):Int):=by rw [D5]<;>omega
   rw [hd];unfold B14 A9W
   by_cases h9:i=9/\1<x
   ·have e:rdN i u ((x:Int)::l.drop (a+(i+1)))=none:=by
     simp only [rdN];rw [if_neg (by omega),if_pos (by omega)]
    rw [e];have h9' :(((i:Int)==9)&&decide ((x:Int)>1))=true:=by simp;omega
    constructor
    ·refine L4 ?_;unfold A2v;rw [hc,D18,hidx,D14,h9',D18];rfl
    ·refine L4 ?_;unfold A1I;rw [hc,D18,hidx,D14,h9',D18];rfl
   ·have h9' :(((i:Int)==9)&&decide ((x:Int)>1))=false:=by simp;omega
    obtain ⟨p1,p2,p3⟩:=D1Z (x:=x) hu (by omega) hx255 (by omega)
    by_cases h128:128<=x
    ·have e:rdN i u ((x:Int)::l.drop (a+(i+1)))=rdN (i+1) (u+x%128*128^i) (l.drop (a+(i+1))):=by
      simp only [rdN];rw [if_neg (by omega),if_neg (by omega),if_pos (by omega),D2K]
     obtain ⟨r1,r2⟩:=ih (i+1) _ (by omega) (p3 (by omega))
     rw [e];constructor
     ·rw [<-r1];refine U8 ?_;unfold A2v;simp only [];rw [hc,D18,hidx,D14,h9',D17,K3 hck,D19 (by omega),D18,p1,hs]
     ·rw [<-r2];refine U8 ?_;unfold A1I;simp only [];rw [hc,D18,hidx,D14,h9',D17,K3 hck,D19 (by omega),D18,p1,hs]
    ·by_cases h0:x=0/\0<i
     ·have e:rdN i u ((x:Int)::l.drop (a+(i+1)))=none:=by
       simp only [rdN];rw [if_neg (by omega),if_neg (by omega),if_neg (by omega),if_pos (by omega)]
      have h0' :(((x:Int)==0)&&decide ((i:Int)>0))=true:=by simp;omega
      rw [e];constructor
      ·refine L4 ?_;unfold A2v;simp only [];rw [hc,D18,hidx,D14,h9',D17,K3 hck,D2b (by omega),D17,h0',D18];rfl
      ·refine L4 ?_;unfold A1I;simp only [];rw [hc,D18,hidx,D14,h9',D17,K3 hck,D2b (by omega),D17,h0',D18];rfl
     ·have e:rdN i u ((x:Int)::l.drop (a+(i+1)))=some (u+x%128*128^i,i+1):=by
       simp only [rdN];rw [if_neg (by omega),if_neg (by omega),if_neg (by omega),if_neg (by omega),D2K,show x%128=x by omega]
      have h0' :(((x:Int)==0)&&decide ((i:Int)>0))=false:=by simp;omega
      rw [e]
      generalize hT:u+x%128*128^i=T at p1 p2⊢
      have q1:V9 .u64 (T:Int) 1=((T%2:Nat):Int):=D1V p2;have q2:A3 (A0E .u64 (T:Int) 1)=((T/2:Nat):Int):=by
       rw [show (1:Int)=((1:Nat):Int) from rfl,C5k _ (by omega),D5]<;>omega
      have q3:A3 (A3 ((a:Int)+(i:Int))+1)=((a+(i+1):Nat):Int):=by
       rw [D5 (n:=(a:Int)+(i:Int)) (by omega) (by omega),D5]<;>omega
      have q4:B1K .i64 ((T/2:Nat):Int)= -((T/2:Nat):Int)-1:=D1Y (by omega)
      have q5:A3 (IntKind.i64.wrap (0-((T/2:Nat):Int))-1)= -((T/2:Nat):Int)-1:=by
       rw [show IntKind.i64.wrap (0-((T/2:Nat):Int))=A3 (0-((T/2:Nat):Int)) from rfl,D5 (n:=0-((T/2:Nat):Int)) (by omega) (by omega),D5]<;>omega
      constructor
      ·refine L4 ?_;unfold A2v;simp only [];rw [hc,D18,hidx,D14,h9',D17,K3 hck,D2b (by omega),D17,h0',D17,p1,q1,q2,q3,q4]
       unfold rdR B17
       by_cases hm:T%2=0
       ·rw [hm];simp [hm]
       ·have hm1:T%2=1:=by omega
        simp [hm1]
      ·refine L4 ?_;unfold A1I;simp only [];rw [hc,D18,hidx,D14,h9',D17,K3 hck,D2b (by omega),D17,h0',D17,p1,q1,q2,q3,q5]
       unfold rdR B17
       by_cases hm:T%2=0
       ·rw [hm];simp [hm]
       ·have hm1:T%2=1:=by omega
        simp [hm1]
  ·have hc:(decide ((i:Int)<10)&&decide (A3 ((a:Int)+(i:Int))<(l.length:Int)))=false:=by
    rw [D5 (by omega) (by omega),D2V,D2l,D2l];omega
   have hd:l.drop (a+i)= []:=List.drop_eq_nil_of_le (by omega)
   rw [hd];constructor
   ·refine L4 ?_;unfold A2v;simp only [];rw [hc,D17];rfl
   ·refine L4 ?_;unfold A1I;simp only [];rw [hc,D17];rfl
def rdA (l:List Int) (a:Nat):Int×Int×Bool:=match rd (l.drop a) with
 |none=>(0,0,false)
 |some p=>(p.1,((a+p.2:Nat):Int),true)
theorem C7S (l:List Int) (a:Nat):rdR a (rdN 0 0 (l.drop a))=rdA l a:=by
 unfold rdR rdA rd;cases rdN 0 0 (l.drop a)<;>rfl
theorem C1B {l:List Int} (hb:V8 l) (hl:l.length<=1099511627776) {a:Nat} (ha:a<=l.length):A7G l a=some (rdA l a):=by
 unfold A7G;rw [D2b (by omega),D2b (by omega),Bool.or_self,D17,<-C7S]
 exact (C1u hb hl ha 10 0 0 (by omega) (by decide)).1
theorem C6H {l:List Int} (hb:V8 l) (hl:l.length<=1099511627776) {a:Nat} (ha:a<=l.length):B0V l a=some (rdA l a):=by
 unfold B0V;rw [D2b (by omega),D2b (by omega),Bool.or_self,D17,<-C7S]
 exact (C1u hb hl ha 10 0 0 (by omega) (by decide)).2
theorem C0J (n:Int):IntKind.u8.wrap n=n%256:=IntKind.wrap_u8 n
theorem D0M {u:Nat}: ∀k,1<=k->u<128^k->(cb u).length<=k:=by
 intro k
 induction k generalizing u with
 |zero=>intro h;omega
 |succ k ih=>
  intro _ h
  by_cases h1:u<128
  ·rw [B4q h1];simp
  ·rw [B4p (by omega),D2n]
   have hk:1<=k:=by
    rcases Nat.eq_zero_or_pos k with h0|h0
    ·subst h0;simp at h;omega
    ·exact h0
   have:=ih (u:=u/128) hk (by rw [Nat.pow_succ] at h;omega)
   omega
theorem A8K {n:Int} (h:E0 .i64 n):(M7 n).length<=10:=by
 refine D0M 10 (by decide) ?_
 have:=C2g h;have e:(128:Nat)^10=1180591620717411303424:=by decide
 omega
theorem A8Z: ∀(u:Nat) (v:List Int),u<18446744073709551616->v.length+(cb u).length<=1099511627776->
  A6F v u=some (v++cb u)/\A8d u v=some (v++cb u):=by
 intro u
 induction u using Nat.strongRecOn with
 |_ u ih=>
  intro v hu hl;have hcl:=C2T u
  by_cases h:u<128
  ·have e1:IntKind.u8.wrap (u:Int)=(u:Int):=by rw [C0J];omega
   rw [B4q h];unfold A6F A8d;constructor
   ·refine L4 ?_;unfold A2X;simp only [];rw [D2b (by omega),D17,K3 (by rw [D16,D2J];omega),e1];rfl
   ·refine L4 ?_;unfold A7p;simp only [];rw [D2b (by omega),D17,K3 (by rw [D16,D2J];omega),e1];rfl
  ·have e1:ior .u8 (IntKind.u8.wrap (u:Int)) 128=((128+u%128:Nat):Int):=by
    rw [C0J,show (u:Int)%256=((u%256:Nat):Int) by omega,C9H (by omega)]
    congr 2
    omega
   have e2:ior .u8 (IntKind.u8.wrap (V9 .u64 (u:Int) 127)) 128=((128+u%128:Nat):Int):=by
    rw [C9P hu,C0J,show ((u%128:Nat):Int)%256=((u%128:Nat):Int) by omega,C9H (by omega)]
    congr 2
    omega
   have e3:A0E .u64 (u:Int) 7=((u/128:Nat):Int):=by
    rw [show (7:Int)=((7:Nat):Int) from rfl,C5k _ (by omega)]
    omega
   have hc:cb u=((128+u%128:Nat):Int)::cb (u/128):=B4p (by omega)
   rw [hc,D2n] at hl;obtain ⟨r1,r2⟩:=ih (u/128) (by omega) (v++ [((128+u%128:Nat):Int)]) (by omega) (by rw [D2a,D2J];omega)
   have e4:v++cb u=(v++ [((128+u%128:Nat):Int)])++cb (u/128):=by rw [hc];simp
   rw [e4];constructor
   ·rw [<-r1];refine U8 ?_;unfold A2X;simp only [];rw [D19 (by omega),D18,e1,K3 (by rw [D16,D2J];omega),e3]
   ·rw [<-r2];refine U8 ?_;unfold A7p;simp only [];rw [D19 (by omega),D18,e2,K3 (by rw [D16,D2J];omega),e3]
theorem A1Y {n:Int}:E0 .i64 n↔ -9223372036854775808<=n/\n<=9223372036854775807:=by
 simp [E0,Lit.wf,IntKind.min,IntKind.max,IntKind.signed,IntKind.bits]
theorem C5S {n:Int} (h:E0 .i64 n) (hn:n<0):B1K .u64 (R5 .u64 (F3 n) 1)=(zz n:Int):=by
 have:=A1Y.1 h;have e:R5 .u64 (F3 n) 1=(((2*n)%18446744073709551616).toNat:Int):=by
  rw [show (1:Int)=((1:Nat):Int) from rfl,C0j _ (by omega),A2x]
  omega
 rw [e,D1F (by omega)]
 unfold zz;rw [if_neg (by omega)]
 omega
theorem C5T {n:Int} (h:E0 .i64 n) (hn:0<=n):R5 .u64 (F3 n) 1=(zz n:Int):=by
 have:=A1Y.1 h;rw [show (1:Int)=((1:Nat):Int) from rfl,C0j _ (by omega),A2x]
 unfold zz;rw [if_pos hn];omega
theorem B28 {v:List Int} {n:Int} (h:E0 .i64 n) (hl:v.length+(M7 n).length<=1099511627776):A1J v n=some (v++M7 n):=by
 have hz:=C2g h;unfold A1J A3n
 by_cases hn:n<0
 ·rw [D19 hn,D18,C5S h hn];exact (A8Z _ v (by omega) hl).1
 ·rw [D2b hn,D17,C5T h (by omega)]
  exact (A8Z _ v (by omega) hl).1
theorem B9v {v:List Int} {n:Int} (h:E0 .i64 n) (hl:v.length+(M7 n).length<=1099511627776):A5z v n=some (v++M7 n):=by
 have hz:=C2g h;unfold A5z A5b;have hk:decide ((([]:List Int).length+v.length)*1<=140737488355328)=true:=by rw [D16,D2A];omega
 rw [List.nil_append];simp only [K3 hk]
 by_cases hn:n<0
 ·rw [D19 hn,D18,C5S h hn];exact (A8Z _ v (by omega) hl).2
 ·rw [D2b hn,D17,C5T h (by omega)]
  exact (A8Z _ v (by omega) hl).2
end Go.Win
namespace Go.Win
open Go.Vc Go.Dec
theorem C9K {n:Int}:E0 .u8 n↔0<=n/\n<=255:=by
 simp [E0,Lit.wf,IntKind.min,IntKind.max,IntKind.signed,IntKind.bits]
theorem A60 {ns:List Int} (h:K1 ns):(wr ns).length<=10*ns.length:=by
 induction ns with
 |nil=>simp [wr]
 |cons n ns ih=>
  rw [A0i,D2a,D2n];have h1:=A8K (h n (by simp))
  have h2:=ih fun x hx=>h x (by simp [hx])
  omega
theorem A3a {a b:List Int}:K1 (a++b)↔K1 a/\K1 b:=by
 constructor
 ·intro h;exact ⟨fun x hx=>h x (D2Q.2 (.inl hx)),fun x hx=>h x (D2Q.2 (.inr hx))⟩
 ·rintro ⟨h1,h2⟩ x hx;exact (D2Q.1 hx).elim (h1 x) (h2 x)
theorem Z1 {a:Int} {b:List Int}:K1 (a::b)↔E0 .i64 a/\K1 b:=by
 constructor
 ·intro h;exact ⟨h a (by simp),fun x hx=>h x (by simp [hx])⟩
 ·rintro ⟨h1,h2⟩ x hx;rcases List.mem_cons.1 hx with h|h
  ·subst h;exact h1
  ·exact h2 x h
theorem A1W:K1 []:=fun _ h=>by cases h
def Wr (f:List Int->Option (List Int)) (ns:List Int):Prop:=K1 ns-> ∀b:List Int,b.length+(wr ns).length<=1099511627776->f b=some (b++wr ns)
theorem Wr.done:Wr (fun b=>some b) []:=fun _ b _=>by simp [wr]
theorem Wr.bind {f g:List Int->Option (List Int)} {ns ms:List Int} (hf:Wr f ns) (hg:Wr g ms):Wr (fun b=>Option.bind (f b) g) (ns++ms):=by
 intro hw b hb;obtain ⟨h1,h2⟩:=A3a.1 hw;rw [A1D] at hb⊢;rw [D2a] at hb;simp only [];rw [hf h1 b (by omega),D14,hg h2 _ (by rw [D2a];omega),D2y]
theorem Wr.int (a n:Int):Wr (fun b=>Q5 b a n) [n]:=by
 intro hw b hb;have e:wr [n]=M7 n:=by simp [wr]
 rw [e] at hb⊢;unfold Q5;dsimp only;rw [B28 (hw n (by simp)) hb,D14]
theorem Wr.small (a n:Int):Wr (fun b=>Z0 b a n) [n]:=by
 intro hw b hb;unfold Z0;dsimp only;have h:Q5 b a n=some (b++wr [n]):=Wr.int a n hw b hb;rw [h,D14]
theorem Wr.within (p q a n:Int):Wr (fun b=>X1 p q b a n) [n]:=by
 intro hw b hb;unfold X1;dsimp only;have h:Q5 b a n=some (b++wr [n]):=Wr.int a n hw b hb;rw [h,D14]
theorem D0y {α:Type} (l:List α) (g:α->List Int) (f:Int×List Int->Option ((Int×List Int)⊕List Int)) (hl:l.length<=1099511627776)
  (hs:∀(i:Nat) (hi:i<l.length) (b:List Int),b.length+(wr (g l[i])).length<=1099511627776->f ((i:Int),b)=some (.inl (((i+1:Nat):Int),b++wr (g l[i]))))
  (hd:∀b,f ((l.length:Int),b)=some (.inr b)) (b:List Int) (hb:b.length+(wr (l.flatMap g)).length<=1099511627776):loop f (0,b)=some (b++wr (l.flatMap g)):=by
 have key: ∀(k i:Nat) (b:List Int),i+k=l.length->b.length+(wr ((l.drop i).flatMap g)).length<=1099511627776->loop f ((i:Int),b)=some (b++wr ((l.drop i).flatMap g)):=by
  intro k
  induction k with
  |zero=>
   intro i b hi _;have hi:i=l.length:=by omega
   subst hi;rw [L4 (hd b),List.drop_length];simp [wr]
  |succ k ih=>
   intro i b hi hb;have hlt:i<l.length:=by omega
   have e:l.drop i=l[i]::l.drop (i+1):=List.drop_eq_getElem_cons hlt;rw [e,List.flatMap_cons,A1D] at hb⊢;rw [D2a] at hb;rw [U8 (hs i hlt b (by omega)),ih (i+1) _ (by omega) (by rw [D2a];omega),D2y]
 have:=key l.length 0 b (by omega) (by simpa using hb)
 simpa using this
theorem B7O (l:List Int):l.flatMap (fun x=> [x])=l:=by induction l with
 |nil=>rfl
 |cons a l ih=>simp [List.flatMap_cons,ih]
def A6v (c:E1):List Int:= [c.Bb,c.Bh,c.W,c.K,c.Cap,c.P,c.Aj,c.Bj]
theorem C7Z {ns:List Int} (h:K1 ns) (hl:ns.length<=10000000):A9i ns=some (wr ns):=by
 have hb:=A60 h;unfold A9i B3W;obtain ⟨r,hr,hQ⟩:=A8O (f:=fun s:List Int×Int=>A5c ns s.1 s.2)
  (fun s=> ∃i:Nat,i<=ns.length/\s=(wr (ns.take i),(i:Int))) (fun s=>ns.length-s.2.toNat) (fun r=>r=wr ns) ([],0) ⟨0,by omega,by simp [wr]⟩ (by
   rintro _ ⟨i,hi,rfl⟩;simp only;unfold A5c
   by_cases hlt:i<ns.length
   ·left;have w:=h ns[i] (D2T hlt);have e:ns.take (i+1)=ns.take i++ [ns[i]]:=by rw [List.take_add_one];simp [hlt]
    have e2:wr (ns.take (i+1))=wr (ns.take i)++M7 ns[i]:=by rw [e,A1D];simp [wr]
    have c10:=A8K w;have b2:(wr (ns.take i)).length<=10*i:=by
     have:=A60 (ns:=ns.take i) fun x hx=>h x (List.take_subset _ _ hx);rw [D2w] at this;omega
    rw [D19 (by omega),D18,Q6 hlt,D14,B9v w (by rw [D2A];omega),D14,List.nil_append,K3 (by rw [D16];omega),<-e2]
    refine ⟨_,rfl,⟨i+1,hlt, ?_⟩, ?_⟩
    ·rw [D5 (by omega) (by omega)];rfl
    ·show _-(A3 ((i:Int)+1)).toNat<_-((i:Int)).toNat;rw [D5 (by omega) (by omega)]
     omega
   ·right;have hi' :i=ns.length:=by omega
    subst hi';rw [D2b (by omega),D17,List.take_length]
    exact ⟨_,rfl,rfl⟩)
 rw [hr,hQ]
theorem C83 {l:List Int} (hl:l.length<=1099511627776):A8e l=some ((l.length:Int)::l):=by
 unfold A8e;rw [K3 (by rw [D16,D2J];omega)]
 rfl
end Go.Win
namespace Go.Win
open Go.Vc Go.Dec
theorem C70 (l:List Int):Q0 l l=some true:=by
 unfold Q0;rw [beq_self_eq_true]
end Go.Win
namespace Go.Win
open Go.Vc Go.Dec
def C0o (e:B9) (i:Nat):Prop:=(A2T (el e.Ag i).Ab).2=true->(A2T (el e.Ag i).Ab).1=e.Now
def A4a (e:B9):Prop:=((0<=e.Now/\e.Now<=16777216)/\C6w e.Ag e.Ax)/\ ∀i,i<e.Ag.length->C0o e i
theorem C6b {e:B9} (hl:e.Ag.length<=maxLen) {i:Nat} (hi:i<e.Ag.length):
  (¬C0o e i->Y7 e i=some (.inr 2))/\(¬ ¬C0o e i->Y7 e i=some (.inl ((i+1:Nat):Int))):=by
 unfold Y7 C0o;rw [D19 (by omega:(i:Int)<(e.Ag.length:Int)),D18,I5 hi,D14,Q9 hi hl]
 dsimp only;cases h1:(A2T (el e.Ag i).Ab).2 with
 |false=>exact ⟨fun h=>absurd (fun h2=>by cases h2) h,fun _=>rfl⟩
 |true=>
  by_cases h2:(A2T (el e.Ag i).Ab).1=e.Now
  ·rw [h2,D2H];exact ⟨fun h=>absurd (fun _=>rfl) h,fun _=>rfl⟩
  ·have:((A2T (el e.Ag i).Ab).1 !=e.Now)=true:=by rw [bne_iff_ne];exact h2
   rw [this];exact ⟨fun _=>rfl,fun h=>absurd (fun h3=>h2 (h3 rfl)) h⟩
theorem B9B (e:B9):A8i e 0=A6B e 0:=rfl
theorem T6 (e:B9) (w:G7 e):A0f e=some (vOf (A4a e))/\V3 e=some (vOf (A4a e)):=by
 have hw:L8 M4 e.Ag:=w.2.2;have hl:=K0 hw.1;obtain ⟨v1,v2⟩:=C0E e.Ag e.Ax hw;unfold A0f V3 J9;rw [v1,v2,B9B];dsimp only
 by_cases h1:0<=e.Now/\e.Now<=16777216
 ·have e1:(decide (e.Now<0)||decide (e.Now>16777216))=false:=by rw [D2E,D2l,D2l];omega
  have e2:(decide (e.Now>=0)&&decide (e.Now<=16777216))=true:=by rw [D2c,D16,D16];omega
  rw [e1,e2];simp only [D2h,D2g,G8,D14,D2v]
  by_cases h2:C6w e.Ag e.Ax
  ·rw [O9 h2,D2g,D17];have H:=M0 (f:=fun s:Int=>Y7 e s) e.Ag.length (fun i=> ¬C0o e i) 2 (some 0)
    (fun i hi _=>C6b hl hi)
    (fun _=>by
     unfold Y7;rw [D2b (D2x _),D17])
   unfold A6B
   by_cases h3: ∀i,i<e.Ag.length->C0o e i
   ·rw [H.2 fun i hi hn=>hn (h3 i hi),Q3 ⟨⟨h1,h2⟩,h3⟩];exact ⟨rfl,rfl⟩
   ·rw [H.1 (Y5 h3),I7 fun h=>h3 h.2];exact ⟨rfl,rfl⟩
  ·rw [K8 h2,I7 fun h=>h2 h.1.2];exact ⟨rfl,rfl⟩
 ·have e1:(decide (e.Now<0)||decide (e.Now>16777216))=true:=by rw [D2f,D16,D16];omega
  have e2:(decide (e.Now>=0)&&decide (e.Now<=16777216))=false:=by rw [D2V,D2l,D2l];omega
  rw [e1,e2,I7 fun h=>h1 h.1.1];exact ⟨rfl,rfl⟩
theorem B8r {α S R:Type} {f:S->Option (S⊕R)} (l:List α) (m:α->Nat) (k:Nat->Nat->S) (A:Nat->Option R) (B:Nat)
  (hs:∀(i:Nat) (hi:i<l.length) (c:Nat),c+m l[i]<=B->f (k c i)=some (.inl (k (c+m l[i]) (i+1)))) (hd:∀c,f (k c l.length)=Option.map Sum.inr (A c)) (a:Nat) (hB:a+(l.map m).sum<=B):
  loop f (k a 0)=A (a+(l.map m).sum):=by
 have key: ∀(n i c:Nat),i+n=l.length->c+((l.drop i).map m).sum<=B->loop f (k c i)=A (c+((l.drop i).map m).sum):=by
  intro n
  induction n with
  |zero=>
   intro i c hi _;have hi:i=l.length:=by omega
   subst hi;rw [List.drop_length,A4F,hd];simp only [List.map_nil,List.sum_nil,Nat.add_zero];cases A c<;>rfl
  |succ n ih=>
   intro i c hi hb;have hlt:i<l.length:=by omega
   rw [List.drop_eq_getElem_cons hlt,D2X,List.sum_cons] at hb⊢;rw [U8 (hs i hlt c (by omega)),ih (i+1) _ (by omega) (by omega),Nat.add_assoc]
 have:=key l.length 0 a (by omega) (by simpa using hB)
 simpa using this
theorem C3W {α:Type} (l:List α) (m:α->Nat) (b:Nat) (h:∀x∈l,m x<=b):(l.map m).sum<=l.length*b:=by
 induction l with
 |nil=>simp
 |cons x l ih=>
  have h1:=h x (by simp)
  have h2:=ih fun y hy=>h y (by simp [hy])
  rw [D2X,List.sum_cons,D2n,Nat.add_mul];omega
def B4h (l:List D1):Nat:=(l.map fun b=>b.Ba.Ad.length).sum
def B4j (l:List C8):Nat:=(l.map fun c=>c.Ay.length).sum
def szF (s:B0):Nat:=s.Al.Av.length+s.Ar.Ac.length+s.Sum.Ac.length+s.Ao.Az.length+s.Ap.Az.length+s.Bf.Af.length+s.Au.Bg.length+s.Ae.Av.length+s.Ah.Aq.length+s.Aa.Ai.length+s.Am.Aj.length
def szS (s:B0):Nat:=szF s+(B4h s.Aa.Ai+B4j s.Am.Aj)
def szE (l:List C4):Nat:=(l.map fun r=>szS r.Ab).sum
theorem D1d {s:B0} (w:L2 s):szS s<=2199034789888:=by
 obtain ⟨w0,w1,w2,w3,w4,w5,w6,w7,w8,w9,w10,w11⟩:=w;have b1:=w1.2.2.2.1;have b2:=w2.2.2.2.2.1;have b3:=w3.2.2.2.2.2.1;have b4:=w4.2.2.2.2.2.2.1;have b5:=w5.2.2.2.2.2.1;have b6:=w6.2.2.2.1;have b7:=w7.2.1;have b8:=w8.2.2.2.2.1;have b9:=w9.1;have b10:=w10.2.2.2.1;have b11:=w11.2.2.2.2.1;have c9:=C3W s.Am.Aj (fun c=>c.Ay.length) 1048576 fun c hc=>(w9.2 c hc).2.2.2.2.1;have c11:=C3W s.Aa.Ai (fun b=>b.Ba.Ad.length) 1048576 fun b hb=>(w11.2.2.2.2.2 b hb).2.2.2.2.1;have d9:s.Am.Aj.length*1048576<=1048576*1048576:=D2s _ b9;have d11:s.Aa.Ai.length*1048576<=1048576*1048576:=D2s _ b11;unfold szS szF B4h B4j;omega
theorem C9p {x y:Nat} (h:x+y<=9223372036854775807):A3 ((x:Int)+(y:Int))=((x+y:Nat):Int):=by
 rw [D5]<;>omega
theorem C7l (r:C4) (w:L2 r.Ab) (i a:Nat) (ha:a+(B4h r.Ab.Aa.Ai+B4j r.Ab.Am.Aj)<=9000000000000000000):
  B1M r i a 0=some (.inl (((a+(B4h r.Ab.Aa.Ai+B4j r.Ab.Am.Aj):Nat):Int),A3 ((i:Int)+1))):=by
 have hq:r.Ab.Aa.Ai.length<=1048576:=w.2.2.2.2.2.2.2.2.2.2.2.2.2.2.2.1;have hc:r.Ab.Am.Aj.length<=1048576:=w.2.2.2.2.2.2.2.2.2.1.1;unfold B1M;have h1:=B8r (f:=fun s:Int×Int=>A4s r i s.1 s.2) r.Ab.Aa.Ai (fun b=>b.Ba.Ad.length) (fun c j=>((c:Int),(j:Int)))
  (fun c=>B5f r i c 0) 9000000000000000000 (fun j hj c hB=>by
   unfold A4s;dsimp only;rw [D19 (by omega),D18,Q6 hj,D14,C9p (by omega),D5 (by omega) (by omega)]
   rfl) (fun c=>by
   unfold A4s;dsimp only;rw [D2b (D2x _),D17]) a (by unfold B4h at ha;omega)
 have h2:=B8r (f:=fun s:Int×Int=>A3E r i s.1 s.2) r.Ab.Am.Aj (fun b=>b.Ay.length) (fun c j=>((c:Int),(j:Int)))
  (fun c=>some (.inl ((c:Int),A3 ((i:Int)+1)))) 9000000000000000000 (fun j hj c hB=>by
   unfold A3E;dsimp only;rw [D19 (by omega),D18,Q6 hj,D14,C9p (by omega),D5 (by omega) (by omega)]
   rfl) (fun c=>by
   unfold A3E;dsimp only;rw [D2b (D2x _),D17]) (a+B4h r.Ab.Aa.Ai) (by unfold B4j at ha;omega)
 refine h1.trans (h2.trans ?_);unfold B4j;rw [Nat.add_assoc]
theorem C6j (e:B9) (w:G7 e):A7A e=some (decide ((e.Ag.length:Int)<=70)&&decide (((szE e.Ag:Nat):Int)<=400)):=by
 have hw:L8 M4 e.Ag:=w.2.2;have hr:e.Ag.length<=1048576:=hw.1;unfold A7A B6i;have hsz: ∀r∈e.Ag,szS r.Ab<=2199034789888:=fun r hr=>D1d (hw.2 r hr).2;have ht:=C3W e.Ag (fun r=>szS r.Ab) _ hsz;have ht2:e.Ag.length*2199034789888<=1048576*2199034789888:=D2s _ hr;have h1:=B8r (f:=fun s:Int×Int=>A64 e s.1 s.2) e.Ag (fun r=>szS r.Ab) (fun c j=>((c:Int),(j:Int)))
  (fun c=>some (decide ((e.Ag.length:Int)<=70)&&decide ((c:Int)<=400))) 9000000000000000000 (fun j hj c hB=>by
   have hm:=(hw.2 _ (D2T hj)).2;unfold A64;dsimp only;rw [D19 (by omega),D18,Q6 hj,D14]
   generalize e.Ag[j]=r at hB hm
   have hs:c+szF r.Ab+(B4h r.Ab.Aa.Ai+B4j r.Ab.Am.Aj)<=9000000000000000000:=by unfold szS at hB;omega
   have hf:szF r.Ab=szF r.Ab:=rfl;unfold szF at hf;have key:=C7l r hm j (c+szF r.Ab) hs;unfold szF at key hs
   repeat rw [C9p (by omega)]
   rw [show c+r.Ab.Al.Av.length+r.Ab.Ar.Ac.length+r.Ab.Sum.Ac.length+r.Ab.Ao.Az.length+r.Ab.Ap.Az.length+r.Ab.Bf.Af.length+r.Ab.Au.Bg.length+r.Ab.Ae.Av.length+r.Ab.Ah.Aq.length+r.Ab.Aa.Ai.length+r.Ab.Am.Aj.length=c+(r.Ab.Al.Av.length+r.Ab.Ar.Ac.length+r.Ab.Sum.Ac.length+r.Ab.Ao.Az.length+r.Ab.Ap.Az.length+r.Ab.Bf.Af.length+r.Ab.Au.Bg.length+r.Ab.Ae.Av.length+r.Ab.Ah.Aq.length+r.Ab.Aa.Ai.length+r.Ab.Am.Aj.length) by omega,key,D5 (by omega) (by omega)]
   unfold szS szF;rw [Nat.add_assoc c]
   rfl) (fun c=>by
   unfold A64;dsimp only;rw [D2b (D2x _),D17]) 0 (by omega)
 rw [Nat.zero_add] at h1;exact h1
theorem C0I:B2v=Q8:=rfl
end Go.Win
namespace Go.Win
open Go.Vc Go.Dec
theorem wf1 {n:Int} (h1:-9223372036854775808<=n) (h2:n<=9223372036854775807):K1 [n]:=fun x hx=>by
 simp only [List.mem_singleton] at hx;subst hx;simp [E0,Lit.wf,IntKind.min,IntKind.max,IntKind.signed,IntKind.bits];omega
theorem B9L (e:B9) (h1:E0 .i64 e.Now) (h2:E0 .i64 e.Ax) (hl:e.Ag.length<=1048576) {R:Type} (k:List Int->Option R):
  (Option.bind (A18 1 1 0 1) fun y1=>Option.bind (Q5 y1 0 e.Now) fun y2=>Option.bind (Z0 y2 0 e.Ax) fun y3=>Option.bind (X1 0 64 y3 0 (e.Ag.length:Int)) k)=
   k (wr [1,e.Now,e.Ax,(e.Ag.length:Int)]):=by
 have n1:K1 [(1:Int)]:=wf1 (by decide) (by decide)
 have n2:K1 [e.Now]:=fun x hx=>by simp only [List.mem_singleton] at hx;subst hx;exact h1
 have n3:K1 [e.Ax]:=fun x hx=>by simp only [List.mem_singleton] at hx;subst hx;exact h2
 have n4:K1 [(e.Ag.length:Int)]:=wf1 (by omega) (by omega)
 have c1:=A60 n1;have c2:=A60 n2;have c3:=A60 n3;have c4:=A60 n4;simp only [D2n,D2A] at c1 c2 c3 c4;have s1:A18 1 1 0 1=some ([]++wr [1]):=Wr.within 1 1 0 1 n1 [] (by simp only [D2A];omega)
 have s2:Q5 ([]++wr [1]) 0 e.Now=some (([]++wr [1])++wr [e.Now]):=Wr.int 0 _ n2 _ (by simp only [List.nil_append];omega)
 have s3:Z0 (([]++wr [1])++wr [e.Now]) 0 e.Ax=some ((([]++wr [1])++wr [e.Now])++wr [e.Ax]):=Wr.small 0 _ n3 _ (by simp only [List.nil_append,D2a];omega)
 have s4:X1 0 64 ((([]++wr [1])++wr [e.Now])++wr [e.Ax]) 0 (e.Ag.length:Int)=some (((([]++wr [1])++wr [e.Now])++wr [e.Ax])++wr [(e.Ag.length:Int)]):=Wr.within 0 64 0 _ n4 _ (by simp only [List.nil_append,D2a];omega)
 rw [s1,D14,s2,D14,s3,D14,s4,D14]
 congr 1
 simp [wr]
theorem C3X (l:List Int) (hl:l.length<=1099511627776): ∃n,Q8 l=some n/\E0 .i64 n:=by
 unfold Q8 B1Y;refine A8O (f:=fun s:Int×Int×Int=>A4x l s.1 s.2.1 s.2.2) (fun s=> ∃i:Nat,i<=l.length/\s.2.2=(i:Int)) (fun s=>l.length-s.2.2.toNat) (fun n=>E0 .i64 n) (1,0,0) ⟨0,by omega,rfl⟩ ?_
 rintro ⟨x,y,_⟩ ⟨i,hi,rfl⟩;dsimp only;unfold A4x
 by_cases h:i<l.length
 ·left;rw [D19 (by omega),D18,Q6 h,D14]
  refine ⟨_,rfl,⟨i+1,by omega, ?_⟩, ?_⟩
  ·rw [D5 (n:=(i:Int)+1) (by omega) (by omega)];rfl
  ·show l.length-(A3 ((i:Int)+1)).toNat<l.length-((i:Int)).toNat;rw [D5 (n:=(i:Int)+1) (by omega) (by omega)]
   omega
 ·right;rw [D2b (by omega),D17]
  refine ⟨_,rfl, ?_⟩;rw [B18];simp [E0,Lit.wf,IntKind.min,IntKind.max,IntKind.signed,IntKind.bits];omega
theorem B7N (ns:List Int) (h:K1 ns) (hl:ns.length<=10000000): ∃n,E0 .i64 n/\Q8 (wr ns)=some n/\V0 ns=some (wr ns++M7 n):=by
 have hb:=A60 h;obtain ⟨n,h1,h2⟩:=C3X (wr ns) (by omega)
 have h10:=A8K h2;refine ⟨n,h2,h1, ?_⟩;unfold V0;rw [C7Z h hl,D14,h1,D14,B9v h2 (by omega),D14]
theorem B09:Q4=some true:=by
 have w:G7 ⟨0,1, []⟩:=⟨A1Y.2 (by decide),A1Y.2 (by decide),⟨by decide,fun y hy=>by cases hy⟩⟩
 have ok:A4a ⟨0,1, []⟩:=⟨⟨by decide,⟨⟨by decide,by decide⟩,fun i hi=>absurd hi (Nat.not_lt_zero i)⟩⟩,fun i hi=>absurd hi (Nat.not_lt_zero i)⟩
 have n4:K1 [(1:Int),0,1,0]:=by
  intro x hx;refine A1Y.2 ?_;simp only [List.mem_cons,List.not_mem_nil,or_false] at hx;omega
 obtain ⟨n,hn,s1,s2⟩:=B7N [1,0,1,0] n4 (by decide)
 have hb:=A60 n4;simp only [D2n,D2A] at hb;have hc:=A8K hn;have hw:A0g 0 ⟨0,1, []⟩=some (false,⟨0,1, []⟩,wr [1,0,1,0]):=by
  unfold A0g;refine (B9L ⟨0,1, []⟩ w.1 w.2.1 (by decide) _).trans ?_
  rw [K3 (by decide)]
  refine L4 ?_;unfold A05
  rfl
 have he:S4 ⟨0,1, []⟩=some (wr [1,0,1,0]++M7 n,0):=by
  unfold S4;rw [(T6 _ w).1,D14,Q3 ok,D2H,D17,hw,D14];dsimp only;rw [C0I,s1,D14,B28 hn (by omega),D14,D2b (by rw [D2a];omega),D17]
 unfold Q4;rw [he,D14,beq_self_eq_true,s2];simp only [G8,D14,C70,D2F]
end Go.Win
namespace Go.Win
open Go.Vc Go.Dec
def lN {α:Type} (g:α->List Int) (l:List α):List Int:=(l.length:Int)::l.flatMap g
def A0Z (x:D7):List Int:= [x.T,x.V]
def U2 (x:A9):List Int:= [x.T,x.Aw]
def A00 (m:D0):List Int:= [m.Bl,m.T,m.N,m.S,m.Q,m.Bk,m.Bj]
def A3s (a:C7):List Int:= [A3 a.Hi,A3 a.Lo]
def A65 (x:H4):List Int:= [x.I,x.V]
def A8m (x:E3):List Int:= [x.V,x.G,x.D]
def A9K (x:F6):List Int:= [x.V,x.Bk,x.Bj]
def A0p (c:C8):List Int:= [c.W,c.Cap,c.I,c.Be]++lN A65 c.Ay
def A0n (b:D1):List Int:= [b.T,b.Bd,b.Aw,b.Ba.N]++lN A9K b.Ba.Ad
noncomputable def stN (s:B0):List Int:=
 if s.Ak.Bb=1 then [s.Al.W,s.Al.Cap,s.Al.Now]++lN A0Z s.Al.Av
 else if s.Ak.Bb=2 then [s.Ar.W,s.Ar.K,s.Ar.Cap,s.Ar.Now]++lN U2 s.Ar.Ac
 else if s.Ak.Bb=3 then [s.Sum.W,s.Sum.K,s.Sum.Cap,s.Sum.Bj,s.Sum.Now]++lN U2 s.Sum.Ac
 else if s.Ak.Bb=4 then [s.Ao.Bh,s.Ao.W,s.Ao.K,s.Ao.Cap,s.Ao.Now,s.Ao.Bl]++lN A00 s.Ao.Az
 else if s.Ak.Bb=5 then [s.Ap.W,s.Ap.K,s.Ap.Cap,s.Ap.Now,s.Ap.Bl]++lN A00 s.Ap.Az
 else if s.Ak.Bb=6 then [s.Bf.P,s.Bf.Bc,s.Bf.Now]++lN A3s s.Bf.Af
 else if s.Ak.Bb=7 then [s.Au.Now]++((s.Au.Bg.length:Int)::s.Au.Bg)
 else if s.Ak.Bb=8 then [Q1 s.Ae.Bj,s.Ae.W,s.Ae.Cap,s.Ae.Now]++lN A0Z s.Ae.Av
 else if s.Ak.Bb=9 then lN A0p s.Am.Aj
 else if s.Ak.Bb=10 then [s.Ah.K,s.Ah.Cap,s.Ah.N]++lN A8m s.Ah.Aq
 else [s.Aa.W,s.Aa.K,s.Aa.Cap,s.Aa.Now]++lN A0n s.Aa.Ai
noncomputable def A1d (r:C4):List Int:= [r.ID]++(A6v r.Ab.Ak++stN r.Ab)
noncomputable def P9 (e:B9):List Int:= [1,e.Now,e.Ax,(e.Ag.length:Int)]++e.Ag.flatMap A1d
theorem Wr.int6 (a:Int) (bad:Bool) (n:Int):Wr (fun b=>D4 b a bad n) [n]:=Wr.int a n
theorem Wr.small5 (a:Int) (bad:Bool) (n:Int):Wr (fun b=>G0 b a bad n) [n]:=Wr.small a n
theorem Wr.within6 (p q a:Int) (bad:Bool) (n:Int):Wr (fun b=>I8 p q b a bad n) [n]:=Wr.within p q a n
theorem Wr.lst {α:Type} (a:Int) (bad:Bool) (l:List α) (hl:l.length<=1099511627776) (g:α->List Int) (E:α->List Int->Option (List Int)) (hE:∀x∈l,Wr (E x) (g x))
  (S:Int×List Int->Option ((Int×List Int)⊕List Int))
  (hS:∀(i:Int) (b:List Int),S (i,b)=cond (decide (i<(l.length:Int))) (Option.bind (E4 l i) fun x=>Option.bind (E x b) fun y=>some (.inl (A3 (i+1),y))) (Option.map Sum.inr (some b))):
  Wr (fun b=>Option.bind (I8 0 (A3 ((b.length:Int)-a)) b a bad (l.length:Int)) fun y=>loop S (0,y)) (lN g l):=by
 intro hw b hb;obtain ⟨w1,w2⟩:=Z1.1 hw;unfold lN at hb⊢;rw [A0i] at hb⊢;rw [D2a] at hb;have e1:wr [(l.length:Int)]=M7 (l.length:Int):=by simp [wr]
 have h1:I8 0 (A3 ((b.length:Int)-a)) b a bad (l.length:Int)=some (b++wr [(l.length:Int)]):=Wr.within6 0 _ a bad _ (fun x hx=>by simp at hx;subst hx;exact w1) b (by rw [e1];omega)
 dsimp only;rw [h1,D14,e1];rw [D0y l g S hl (fun i hi c hc=> ?_) (fun c=> ?_) _ (by rw [D2a];omega),D2y]
 ·have hm:l[i]∈l:=D2T hi;have h2:=hE _ hm (fun x hx=>w2 x (D2I.2 ⟨_,hm,hx⟩)) c hc;rw [hS,D19 (by omega),D18,Q6 hi,D14,h2,D14,D5 (by omega) (by omega)]
  rfl
 ·rw [hS,D2b (by omega),D17];rfl
theorem Wr.ret {f:List Int->Option (List Int)} {ns:List Int} (h:Wr f ns):Wr (fun b=>Option.bind (f b) fun y=>some y) ns:=by
 intro hw b hb;dsimp only;rw [h hw b hb,D14]
theorem Wr.items2 (a:Int) (bad:Bool) (l:List D7) (hl:l.length<=1099511627776):Wr (fun b=>A3k b a bad l) (lN A0Z l):=
 Wr.ret (Wr.lst a bad l hl A0Z (fun x b=>A4S x b a bad) (fun x _=>Wr.bind (Wr.int6 a bad x.T) (Wr.bind (Wr.int6 a bad x.V) Wr.done)) _ fun _ _=>rfl)
theorem Wr.buckets2 (a:Int) (bad:Bool) (l:List A9) (hl:l.length<=1099511627776):Wr (fun b=>A14 b a bad l) (lN U2 l):=
 Wr.ret (Wr.lst a bad l hl U2 (fun x b=>A3R x b a bad) (fun x _=>Wr.bind (Wr.int6 a bad x.T) (Wr.bind (Wr.small5 a bad x.Aw) Wr.done)) _ fun _ _=>rfl)
theorem Wr.marks2 (a:Int) (bad:Bool) (l:List D0) (hl:l.length<=1099511627776):Wr (fun b=>A3l b a bad l) (lN A00 l):=
 Wr.ret (Wr.lst a bad l hl A00 (fun x b=>A4U x b a bad) (fun x _=>Wr.bind (Wr.int6 a bad x.Bl) (Wr.bind (Wr.int6 a bad x.T) (Wr.bind (Wr.int6 a bad x.N) (Wr.bind (Wr.int6 a bad x.S) (Wr.bind (Wr.int6 a bad x.Q) (Wr.bind (Wr.int6 a bad x.Bk) (Wr.bind (Wr.int6 a bad x.Bj) Wr.done))))))) _ fun _ _=>rfl)
theorem Wr.tups2 (a:Int) (bad:Bool) (l:List E3) (hl:l.length<=1099511627776):Wr (fun b=>A2j b a bad l) (lN A8m l):=
 Wr.lst a bad l hl A8m (fun x b=>A4Y x b a bad) (fun x _=>Wr.bind (Wr.int6 a bad x.V) (Wr.bind (Wr.int6 a bad x.G) (Wr.bind (Wr.int6 a bad x.D) Wr.done))) _ fun _ _=>rfl
theorem Wr.links2 (a:Int) (bad:Bool) (l:List H4) (hl:l.length<=1099511627776):Wr (fun b=>A27 b a bad l) (lN A65 l):=
 Wr.lst a bad l hl A65 (fun x b=>A4Q x b a bad) (fun x _=>Wr.bind (Wr.int6 a bad x.I) (Wr.bind (Wr.int6 a bad x.V) Wr.done)) _ fun _ _=>rfl
theorem Wr.ents2 (a:Int) (bad:Bool) (l:List F6) (hl:l.length<=1099511627776):Wr (fun b=>A2i b a bad l) (lN A9K l):=
 Wr.lst a bad l hl A9K (fun x b=>A4O x b a bad) (fun x _=>Wr.bind (Wr.int6 a bad x.V) (Wr.bind (Wr.int6 a bad x.Bk) (Wr.bind (Wr.int6 a bad x.Bj) Wr.done))) _ fun _ _=>rfl
theorem Wr.cg {f:List Int->Option (List Int)} {ns ms:List Int} (h:Wr f ns) (e:ns=ms):Wr f ms:=e▸h
theorem Wr.chains2 (a:Int) (bad:Bool) (l:List C8) (hl:l.length<=1099511627776) (hc:∀c∈l,c.Ay.length<=1099511627776):Wr (fun b=>A2g b a bad l) (lN A0p l):=
 Wr.lst a bad l hl A0p (fun x b=>A4W x b a bad) (fun x hx=>Wr.cg (Wr.ret (Wr.bind (Wr.int6 a bad x.W) (Wr.bind (Wr.small5 a bad x.Cap) (Wr.bind (Wr.int6 a bad x.I) (Wr.bind (Wr.int6 a bad x.Be) (Wr.bind (Wr.links2 a bad x.Ay (hc x hx)) Wr.done)))))) (by unfold A0p;simp)) _ fun _ _=>rfl
theorem Wr.blocks2 (a:Int) (bad:Bool) (l:List D1) (hl:l.length<=1099511627776) (hc:∀c∈l,c.Ba.Ad.length<=1099511627776):Wr (fun b=>A2e b a bad l) (lN A0n l):=
 Wr.lst a bad l hl A0n (fun x b=>A40 x b a bad) (fun x hx=>Wr.cg (Wr.ret (Wr.bind (Wr.int6 a bad x.T) (Wr.bind (Wr.int6 a bad x.Bd) (Wr.bind (Wr.small5 a bad x.Aw) (Wr.bind (Wr.int6 a bad x.Ba.N) (Wr.bind (Wr.ents2 a bad x.Ba.Ad (hc x hx)) Wr.done)))))) (by unfold A0n;simp)) _ fun _ _=>rfl
theorem Wr.ints3 (a:Int) (bad:Bool) (l:List Int) (hl:l.length<=1099511627776):Wr (fun b=>A6H b a bad l) ((l.length:Int)::l):=
 Wr.cg (Wr.ret (Wr.lst a bad l hl (fun x=> [x]) (fun x b=>D4 b a bad x) (fun x _=>Wr.int6 a bad x) _ fun _ _=>rfl)) (by unfold lN;rw [B7O])
theorem D0x (a:Int) (bad:Bool) (x:C7):Wr (fun b=>Option.bind (A0h b a bad x) fun y=>some y.2) (A3s x):=by
 have h:=Wr.bind (Wr.int6 a bad (A3 x.Hi)) (Wr.bind (Wr.int6 a bad (A3 x.Lo)) Wr.done);intro hw b hb;have h1:=h hw b hb;refine Eq.trans ?_ h1;dsimp only;unfold A0h A3r;cases D4 b a bad (A3 x.Hi) with
 |none=>rfl
 |some y=>
  simp only [D14];cases D4 y a bad (A3 x.Lo)<;>rfl
theorem Wr.wides2 (a:Int) (bad:Bool) (l:List C7) (hl:l.length<=1099511627776):Wr (fun b=>A28 b a bad l) (lN A3s l):=
 Wr.lst a bad l hl A3s (fun x b=>Option.bind (A0h b a bad x) fun y=>some y.2) (fun x _=>D0x a bad x) _ fun i b=>by
  show A1f a bad l i b=_;unfold A1f
  congr 1
  congr 1
  funext x
  cases A0h b a bad x<;>rfl
theorem Wr.config2 (a:Int) (bad:Bool) (c:E1):Wr (fun b=>A16 b a bad c) (A6v c):=
 Wr.bind (Wr.small5 a bad c.Bb) (Wr.bind (Wr.small5 a bad c.Bh) (Wr.bind (Wr.int6 a bad c.W) (Wr.bind (Wr.small5 a bad c.K) (Wr.bind (Wr.small5 a bad c.Cap) (Wr.bind (Wr.small5 a bad c.P) (Wr.bind (Wr.small5 a bad c.Aj) (Wr.bind (Wr.int6 a bad c.Bj) Wr.done)))))))
def M5 (bad:Bool) (s:B0) (f:List Int->Option (Bool×B0×List Int)) (ns:List Int):Prop:=K1 ns-> ∀b:List Int,b.length+(wr ns).length<=1099511627776->f b=some (bad,s,b++wr ns)
theorem M5.done (bad:Bool) (s:B0):M5 bad s (fun b=>some (bad,s,b)) []:=fun _ b _=>by simp [wr]
theorem M5.bind {bad:Bool} {s:B0} {f:List Int->Option (List Int)} {g:List Int->Option (Bool×B0×List Int)} {ns ms:List Int} (hf:Wr f ns) (hg:M5 bad s g ms):M5 bad s (fun b=>Option.bind (f b) g) (ns++ms):=by
 intro hw b hb;obtain ⟨h1,h2⟩:=A3a.1 hw;rw [A1D] at hb⊢;rw [D2a] at hb;simp only [];rw [hf h1 b (by omega),D14,hg h2 _ (by rw [D2a];omega),D2y]
theorem M5.cg {bad:Bool} {s:B0} {f:List Int->Option (Bool×B0×List Int)} {ns ms:List Int} (h:M5 bad s f ns) (e:ns=ms):M5 bad s f ms:=e▸h
theorem D1B (a:Int) (bad m:Bool) (b:List Int):A6G b a bad m=Option.bind (I8 0 1 b a bad (Q1 m)) fun y=>some (m,y):=by
 cases m<;>rfl
theorem C9t (a:Int) (bad:Bool) (s:B0) (w:L2 s) (hk:1<=s.Ak.Bb/\s.Ak.Bb<=11):M5 bad s (fun b=>A1o b a bad s) (stN s):=by
 obtain ⟨w0,w1,w2,w3,w4,w5,w6,w7,w8,w9,w10,w11⟩:=w;have b1:=w1.2.2.2.1;have b2:=w2.2.2.2.2.1;have b3:=w3.2.2.2.2.2.1;have b4:=w4.2.2.2.2.2.2.1;have b5:=w5.2.2.2.2.2.1;have b6:=w6.2.2.2.1;have b7:=w7.2.1;have b8:=w8.2.2.2.2.1;have b9:=w9.1;have b10:=w10.2.2.2.1;have b11:=w11.2.2.2.2.1;have c9: ∀c∈s.Am.Aj,c.Ay.length<=1099511627776:=fun c hc=>Nat.le_trans (w9.2 c hc).2.2.2.2.1 (by decide)
 have c11: ∀c∈s.Aa.Ai,c.Ba.Ad.length<=1099511627776:=fun b hb=>Nat.le_trans (w11.2.2.2.2.2 b hb).2.2.2.2.1 (by decide)
 have kk:s.Ak.Bb=1\/s.Ak.Bb=2\/s.Ak.Bb=3\/s.Ak.Bb=4\/s.Ak.Bb=5\/s.Ak.Bb=6\/s.Ak.Bb=7\/s.Ak.Bb=8\/s.Ak.Bb=9\/s.Ak.Bb=10\/s.Ak.Bb=11:=by omega
 intro hw b hb;dsimp only;unfold A1o;rcases kk with k|k|k|k|k|k|k|k|k|k|k<;>(unfold stN at hw hb⊢;rw [k] at hw hb⊢)
 ·exact (M5.cg (M5.bind (Wr.int6 a bad s.Al.W) (M5.bind (Wr.small5 a bad s.Al.Cap) (M5.bind (Wr.int6 a bad s.Al.Now) (M5.bind (Wr.items2 a bad s.Al.Av (by omega)) (M5.done bad s))))) (by simp)) hw b hb
 ·exact (M5.cg (M5.bind (Wr.int6 a bad s.Ar.W) (M5.bind (Wr.small5 a bad s.Ar.K) (M5.bind (Wr.small5 a bad s.Ar.Cap) (M5.bind (Wr.int6 a bad s.Ar.Now) (M5.bind (Wr.buckets2 a bad s.Ar.Ac (by omega)) (M5.done bad s)))))) (by simp)) hw b hb
 ·exact (M5.cg (M5.bind (Wr.int6 a bad s.Sum.W) (M5.bind (Wr.small5 a bad s.Sum.K) (M5.bind (Wr.small5 a bad s.Sum.Cap) (M5.bind (Wr.small5 a bad s.Sum.Bj) (M5.bind (Wr.int6 a bad s.Sum.Now) (M5.bind (Wr.buckets2 a bad s.Sum.Ac (by omega)) (M5.done bad s))))))) (by simp)) hw b hb
 ·exact (M5.cg (M5.bind (Wr.small5 a bad s.Ao.Bh) (M5.bind (Wr.int6 a bad s.Ao.W) (M5.bind (Wr.small5 a bad s.Ao.K) (M5.bind (Wr.small5 a bad s.Ao.Cap) (M5.bind (Wr.int6 a bad s.Ao.Now) (M5.bind (Wr.int6 a bad s.Ao.Bl) (M5.bind (Wr.marks2 a bad s.Ao.Az (by omega)) (M5.done bad s)))))))) (by simp)) hw b hb
 ·exact (M5.cg (M5.bind (Wr.int6 a bad s.Ap.W) (M5.bind (Wr.small5 a bad s.Ap.K) (M5.bind (Wr.small5 a bad s.Ap.Cap) (M5.bind (Wr.int6 a bad s.Ap.Now) (M5.bind (Wr.int6 a bad s.Ap.Bl) (M5.bind (Wr.marks2 a bad s.Ap.Az (by omega)) (M5.done bad s))))))) (by simp)) hw b hb
 ·exact (M5.cg (M5.bind (Wr.small5 a bad s.Bf.P) (M5.bind (Wr.int6 a bad s.Bf.Bc) (M5.bind (Wr.int6 a bad s.Bf.Now) (M5.bind (Wr.wides2 a bad s.Bf.Af (by omega)) (M5.done bad s))))) (by simp)) hw b hb
 ·exact (M5.cg (M5.bind (Wr.int6 a bad s.Au.Now) (M5.bind (Wr.ints3 a bad s.Au.Bg (by omega)) (M5.done bad s))) (by simp)) hw b hb
 ·have h:=(M5.cg (M5.bind (Wr.within6 0 1 a bad (Q1 s.Ae.Bj)) (M5.bind (Wr.int6 a bad s.Ae.W) (M5.bind (Wr.small5 a bad s.Ae.Cap) (M5.bind (Wr.int6 a bad s.Ae.Now) (M5.bind (Wr.items2 a bad s.Ae.Av (by omega)) (M5.done bad s)))))) (by simp)) hw b hb
  refine Eq.trans ?_ h;dsimp only;rw [D1B];cases I8 0 1 b a bad (Q1 s.Ae.Bj)<;>rfl
 ·exact (M5.cg (M5.bind (Wr.chains2 a bad s.Am.Aj (by omega) c9) (M5.done bad s)) (by simp)) hw b hb
 ·exact (M5.cg (M5.bind (Wr.small5 a bad s.Ah.K) (M5.bind (Wr.small5 a bad s.Ah.Cap) (M5.bind (Wr.int6 a bad s.Ah.N) (M5.bind (Wr.tups2 a bad s.Ah.Aq (by omega)) (M5.done bad s))))) (by simp)) hw b hb
 ·exact (M5.cg (M5.bind (Wr.int6 a bad s.Aa.W) (M5.bind (Wr.small5 a bad s.Aa.K) (M5.bind (Wr.small5 a bad s.Aa.Cap) (M5.bind (Wr.int6 a bad s.Aa.Now) (M5.bind (Wr.blocks2 a bad s.Aa.Ai (by omega) c11) (M5.done bad s)))))) (by simp)) hw b hb
end Go.Win
namespace Go.Win
open Go.Vc Go.Dec
theorem A63 {α:Type} {g:α->List Int} {l:List α} (hl:l.length<=1048576) (h:∀x∈l,K1 (g x)):K1 (lN g l):=by
 refine Z1.2 ⟨A1Y.2 (by omega),fun n hn=> ?_⟩
 obtain ⟨x,hx,hn⟩:=D2I.1 hn;exact h x hx n hn
theorem H0 {a:Int} {l:List Int} (h:E0 .i64 a) (hl:K1 l):K1 (a::l):=Z1.2 ⟨h,hl⟩
theorem C8b (n:Int):E0 .i64 (A3 n):=A1Y.2 (by rw [B18];omega)
theorem C90 (b:Bool):E0 .i64 (Q1 b):=by cases b<;>exact A1Y.2 (by decide)
theorem C5m {x:D7} (w:R7 x):K1 (A0Z x):=H0 w.1 (H0 w.2 A1W)
theorem C0Y {x:A9} (w:O8 x):K1 (U2 x):=H0 w.1 (H0 w.2 A1W)
theorem C5p {x:D0} (w:R9 x):K1 (A00 x):=H0 w.1 (H0 w.2.1 (H0 w.2.2.1 (H0 w.2.2.2.1 (H0 w.2.2.2.2.1 (H0 w.2.2.2.2.2.1 (H0 w.2.2.2.2.2.2 A1W))))))
theorem D0w (x:C7):K1 (A3s x):=H0 (C8b _) (H0 (C8b _) A1W)
theorem C97 {x:H4} (w:R8 x):K1 (A65 x):=H0 w.1 (H0 w.2 A1W)
theorem D1i {x:E3} (w:R3 x):K1 (A8m x):=H0 w.1 (H0 w.2.1 (H0 w.2.2 A1W))
theorem D0U {x:F6} (w:P7 x):K1 (A9K x):=H0 w.1 (H0 w.2.1 (H0 w.2.2 A1W))
theorem C8t {c:C8} (w:R2 c):K1 (A0p c):=
 H0 w.1 (H0 w.2.1 (H0 w.2.2.1 (H0 w.2.2.2.1 (A63 w.2.2.2.2.1 fun x hx=>C97 (w.2.2.2.2.2 x hx)))))
theorem C8p {b:D1} (w:R1 b):K1 (A0n b):=
 H0 w.1 (H0 w.2.1 (H0 w.2.2.1 (H0 w.2.2.2.1 (A63 w.2.2.2.2.1 fun x hx=>D0U (w.2.2.2.2.2 x hx)))))
theorem D0O {c:E1} (w:A0y c):K1 (A6v c):=by
 obtain ⟨a,b,c',d,e,f,g,h⟩:=w;exact H0 a (H0 b (H0 c' (H0 d (H0 e (H0 f (H0 g (H0 h A1W)))))))
theorem D1M {s:B0} (w:L2 s):K1 (stN s):=by
 obtain ⟨w0,w1,w2,w3,w4,w5,w6,w7,w8,w9,w10,w11⟩:=w;unfold stN;split
 ·exact H0 w1.1 (H0 w1.2.1 (H0 w1.2.2.1 (A63 w1.2.2.2.1 fun x hx=>C5m (w1.2.2.2.2 x hx))))
 split
 ·exact H0 w2.1 (H0 w2.2.1 (H0 w2.2.2.1 (H0 w2.2.2.2.1 (A63 w2.2.2.2.2.1 fun x hx=>C0Y (w2.2.2.2.2.2 x hx)))))
 split
 ·exact H0 w3.1 (H0 w3.2.1 (H0 w3.2.2.1 (H0 w3.2.2.2.1 (H0 w3.2.2.2.2.1 (A63 w3.2.2.2.2.2.1 fun x hx=>C0Y (w3.2.2.2.2.2.2 x hx))))))
 split
 ·exact H0 w4.1 (H0 w4.2.1 (H0 w4.2.2.1 (H0 w4.2.2.2.1 (H0 w4.2.2.2.2.1 (H0 w4.2.2.2.2.2.1 (A63 w4.2.2.2.2.2.2.1 fun x hx=>C5p (w4.2.2.2.2.2.2.2 x hx)))))))
 split
 ·exact H0 w5.1 (H0 w5.2.1 (H0 w5.2.2.1 (H0 w5.2.2.2.1 (H0 w5.2.2.2.2.1 (A63 w5.2.2.2.2.2.1 fun x hx=>C5p (w5.2.2.2.2.2.2 x hx))))))
 split
 ·exact H0 w6.1 (H0 w6.2.1 (H0 w6.2.2.1 (A63 w6.2.2.2.1 fun x _=>D0w x)))
 split
 ·exact H0 w7.1 (H0 (A1Y.2 (by have:=w7.2.1;omega)) fun x hx=>w7.2.2 x hx)
 split
 ·exact H0 (C90 _) (H0 w8.2.1 (H0 w8.2.2.1 (H0 w8.2.2.2.1 (A63 w8.2.2.2.2.1 fun x hx=>C5m (w8.2.2.2.2.2 x hx)))))
 split
 ·exact A63 w9.1 fun x hx=>C8t (w9.2 x hx)
 split
 ·exact H0 w10.1 (H0 w10.2.1 (H0 w10.2.2.1 (A63 w10.2.2.2.1 fun x hx=>D1i (w10.2.2.2.2 x hx))))
 ·exact H0 w11.1 (H0 w11.2.1 (H0 w11.2.2.1 (H0 w11.2.2.2.1 (A63 w11.2.2.2.2.1 fun x hx=>C8p (w11.2.2.2.2.2 x hx)))))
theorem C7U {r:C4} (w:M4 r):K1 (A1d r):=H0 w.1 (show K1 (A6v r.Ab.Ak++stN r.Ab) from A3a.2 ⟨D0O w.2.1,D1M w.2⟩)
theorem A4B {e:B9} (w:G7 e):K1 (P9 e):=
 H0 (A1Y.2 (by decide)) (H0 w.1 (H0 w.2.1 (H0 (A1Y.2 (by have:=w.2.2.1;omega)) fun n hn=>by
  obtain ⟨x,hx,hn⟩:=D2I.1 hn;exact C7U (w.2.2.2 x hx) n hn)))
theorem B1F {α:Type} (g:α->List Int) (l:List α):(l.flatMap g).length=(l.map fun x=>(g x).length).sum:=by
 induction l with
 |nil=>rfl
 |cons x l ih=>rw [List.flatMap_cons,D2a,D2X,List.sum_cons,ih]
theorem C9d {α:Type} (l:List α) (f g:α->Nat) (h:∀x∈l,f x<=g x):(l.map f).sum<=(l.map g).sum:=by
 induction l with
 |nil=>simp
 |cons x l ih=>
  have h1:=h x (by simp)
  have h2:=ih fun y hy=>h y (by simp [hy])
  rw [D2X,D2X,List.sum_cons,List.sum_cons];omega
theorem C0H {α:Type} (l:List α) (f:α->Nat) (a b:Nat):(l.map fun x=>a+b*f x).sum=a*l.length+b*(l.map f).sum:=by
 induction l with
 |nil=>simp
 |cons x l ih=>
  rw [D2X,D2X,List.sum_cons,List.sum_cons,ih,D2n,Nat.mul_add,Nat.mul_add];omega
theorem C72 {α:Type} (l:List α) (b:Nat):(l.map fun _=>b).sum=l.length*b:=by
 induction l with
 |nil=>simp
 |cons x l ih=>rw [D2X,List.sum_cons,ih,D2n,Nat.add_mul];omega
theorem B1L {α:Type} (g:α->List Int) (l:List α) (k:Nat) (h:∀x,(g x).length=k):(lN g l).length=1+l.length*k:=by
 unfold lN;rw [D2n,B1F];have:(fun x=>(g x).length)=fun _:α=>k:=funext h;rw [this,C72];omega
theorem C6a (l:List C8):(lN A0p l).length=1+(5*l.length+2*B4j l):=by
 unfold lN B4j;rw [D2n,B1F];have:(fun c=>(A0p c).length)=fun c:C8=>5+2*c.Ay.length:=by
  funext c
  unfold A0p;rw [D2a,B1L A65 c.Ay 2 fun _=>rfl];simp;omega
 rw [this,C0H];omega
theorem C54 (l:List D1):(lN A0n l).length=1+(5*l.length+3*B4h l):=by
 unfold lN B4h;rw [D2n,B1F];have:(fun c=>(A0n c).length)=fun c:D1=>5+3*c.Ba.Ad.length:=by
  funext c
  unfold A0n;rw [D2a,B1L A9K c.Ba.Ad 3 fun _=>rfl];simp;omega
 rw [this,C0H];omega
theorem D1c (s:B0):(stN s).length<=7+7*szS s:=by
 unfold szS szF stN
 repeat' split
 all_goals simp only [D2a,D2n,D2A,C6a,C54,B1L A0Z _ 2 fun _=>rfl,B1L U2 _ 2 fun _=>rfl,B1L A00 _ 7 fun _=>rfl,B1L A3s _ 2 fun _=>rfl,B1L A8m _ 3 fun _=>rfl]
 all_goals omega
theorem D0c (r:C4):(A1d r).length<=16+7*szS r.Ab:=by
 have:=D1c r.Ab;unfold A1d A6v;simp only [D2a,D2n,D2A];omega
theorem C81 (l:List C4):(l.flatMap A1d).length<=16*l.length+7*szE l:=by
 rw [B1F];have h1:=C9d l (fun r=>(A1d r).length) (fun r=>16+7*szS r.Ab) fun r _=>D0c r;rw [C0H] at h1;exact h1
theorem C8q (e:B9):(P9 e).length<=4+16*e.Ag.length+7*szE e.Ag:=by
 have:=C81 e.Ag;unfold P9;simp only [D2a,D2n,D2A];omega
theorem C8I {α:Type} (z:α) (l:List α):laid (List.replicate ((l.length:Int)).toNat z) 0 (l.take (List.replicate ((l.length:Int)).toNat z).length)=l:=by
 unfold laid;simp
theorem C88 {α:Type} {l:List α} {i:Nat} {x:α} (h:i<l.length) (e:l[i]=x):l.set i x=l:=by
 subst e;exact List.set_getElem_self h
theorem C6U (e:B9) (w:G7 e) (hk:∀r∈e.Ag,1<=r.Ab.Ak.Bb/\r.Ab.Ak.Bb<=11): ∀(k i:Nat) (b:List Int),i+k=e.Ag.length->b.length+(wr ((e.Ag.drop i).flatMap A1d)).length<=1099511627776->
  V5 0 e e.Ag i b false=some (false,e,b++wr ((e.Ag.drop i).flatMap A1d)):=by
 intro k
 induction k with
 |zero=>
  intro i b hi _;have hi:i=e.Ag.length:=by omega
  subst hi;rw [List.drop_length];unfold V5;refine L4 ?_;unfold A05;dsimp only;rw [D2b (D2x _),D2z,D17];simp [wr]
 |succ k ih=>
  intro i b hi hb;have hlt:i<e.Ag.length:=by omega
  have hr:=w.2.2.1;have hm:e.Ag[i]∈e.Ag:=D2T hlt;have wr' :=w.2.2.2 _ hm;rw [List.drop_eq_getElem_cons hlt,List.flatMap_cons,A1D] at hb⊢;rw [D2a] at hb;obtain ⟨n1,n2⟩:=A3a.1 (C7U wr');obtain ⟨n3,n4⟩:=A3a.1 n2;have hsp:wr (A1d e.Ag[i])=wr [e.Ag[i].ID]++(wr (A6v e.Ag[i].Ab.Ak)++wr (stN e.Ag[i].Ab)):=by unfold A1d;rw [A1D,A1D]
  have hsl:=congrArg List.length hsp;rw [D2a,D2a] at hsl;have s1:D4 b 0 false e.Ag[i].ID=some (b++wr [e.Ag[i].ID]):=Wr.int6 0 false _ n1 b (by omega)
  have s2:A16 (b++wr [e.Ag[i].ID]) 0 false e.Ag[i].Ab.Ak=some ((b++wr [e.Ag[i].ID])++wr (A6v e.Ag[i].Ab.Ak)):=Wr.config2 0 false _ n3 _ (by rw [D2a];omega)
  have s3:A1o ((b++wr [e.Ag[i].ID])++wr (A6v e.Ag[i].Ab.Ak)) 0 false e.Ag[i].Ab=some (false,e.Ag[i].Ab,((b++wr [e.Ag[i].ID])++wr (A6v e.Ag[i].Ab.Ak))++wr (stN e.Ag[i].Ab)):=
   C9t 0 false _ wr'.2 (hk _ hm) n4 _ (by rw [D2a,D2a];omega)
  have hset:e.Ag.set ((i:Int)).toNat e.Ag[i]=e.Ag:=by rw [D2K];exact C88 hlt rfl
  have hL:V5 0 e e.Ag i b false=V5 0 e e.Ag ((i+1:Nat):Int) (((b++wr [e.Ag[i].ID])++wr (A6v e.Ag[i].Ab.Ak))++wr (stN e.Ag[i].Ab)) false:=by
   unfold V5;refine U8 ?_;unfold A05;dsimp only;rw [D19 (by omega),D2h,Bool.and_self,D18,Q6 hlt,D14,D14,s1,D14,hset,Q6 hlt,D14,s2,D14,D18,hset,Q6 hlt,D14,s3,D14]
   dsimp only;rw [hset,D5 (by omega) (by omega)]
   rfl
  rw [hL,ih (i+1) _ (by omega) (by rw [D2a,D2a,D2a];omega),hsp]
  simp only [D2y]
theorem C9r (e:B9) (w:G7 e) (hk:∀r∈e.Ag,1<=r.Ab.Ak.Bb/\r.Ab.Ak.Bb<=11) (hb:(wr (P9 e)).length<=1000000000):A0g 0 e=some (false,e,wr (P9 e)):=by
 have hr:=w.2.2.1;have hsp:wr (P9 e)=wr [1,e.Now,e.Ax,(e.Ag.length:Int)]++wr (e.Ag.flatMap A1d):=by unfold P9;rw [A1D]
 unfold A0g;refine (B9L e w.1 w.2.1 hr _).trans ?_;rw [K3 (by rw [D16];omega),C8I]
 have h:=C6U e w hk e.Ag.length 0 (wr [1,e.Now,e.Ax,(e.Ag.length:Int)]) (by omega) (by rw [hsp,D2a] at hb;rw [List.drop_zero];omega)
 rw [List.drop_zero,<-hsp] at h;exact h
theorem A23 {α R:Type} (l:List α) (g:α->List Int) {F:List Int×Int->Option ((List Int×Int)⊕R)} (A:List Int->Option R)
  (hs:∀(i:Nat) (hi:i<l.length) (v:List Int),v.length+(g l[i]).length<=10000000000->F (v,(i:Int))=some (.inl (v++g l[i],((i+1:Nat):Int)))) (hd:∀v,F (v,(l.length:Int))=Option.map Sum.inr (A v)) (v:List Int) (hb:v.length+(l.flatMap g).length<=10000000000):
  loop F (v,0)=A (v++l.flatMap g):=by
 have key: ∀(n i:Nat) (v:List Int),i+n=l.length->v.length+((l.drop i).flatMap g).length<=10000000000->loop F (v,(i:Int))=A (v++(l.drop i).flatMap g):=by
  intro n
  induction n with
  |zero=>
   intro i v hi _;have hi:i=l.length:=by omega
   subst hi;rw [List.drop_length,A4F,hd];simp only [List.flatMap_nil,List.append_nil];cases A v<;>rfl
  |succ n ih=>
   intro i v hi hb;have hlt:i<l.length:=by omega
   rw [List.drop_eq_getElem_cons hlt,List.flatMap_cons] at hb⊢;rw [D2a] at hb;rw [U8 (hs i hlt v (by omega)),ih (i+1) _ (by omega) (by rw [D2a];omega),D2y]
 have:=key l.length 0 v (by omega) (by simpa using hb)
 simpa using this
theorem C1w (l:List D7) (hl:(lN A0Z l).length<=10000000000) (hm:l.length<=1048576):A26 l=some (lN A0Z l):=by
 unfold A26 B3X;refine (A23 (F:=fun s:List Int×Int=>A5d l s.1 s.2) l A0Z (fun v=>some v) (fun i hi v hv=> ?_) (fun v=> ?_) _ ?_).trans rfl
 ·unfold A5d;dsimp only;rw [D19 (by omega),D18,Q6 hi,D14,K3 (by rw [D16];unfold A0Z at hv;omega),D5 (by omega) (by omega)]
  rfl
 ·unfold A5d;dsimp only;rw [D2b (D2x _),D17]
 ·unfold lN at hl;rw [D2n] at hl;rw [D2J];omega
theorem B7A (l:List A9) (hl:(lN U2 l).length<=10000000000) (hm:l.length<=1048576):Y2 l=some (lN U2 l):=by
 unfold Y2 A8D;refine (A23 (F:=fun s:List Int×Int=>A1w l s.1 s.2) l U2 (fun v=>some v) (fun i hi v hv=> ?_) (fun v=> ?_) _ ?_).trans rfl
 ·unfold A1w;dsimp only;rw [D19 (by omega),D18,Q6 hi,D14,K3 (by rw [D16];unfold U2 at hv;omega),D5 (by omega) (by omega)]
  rfl
 ·unfold A1w;dsimp only;rw [D2b (D2x _),D17]
 ·unfold lN at hl;rw [D2n] at hl;rw [D2J];omega
theorem C1x (l:List D0) (hl:(lN A00 l).length<=10000000000) (hm:l.length<=1048576):A0x l=some (lN A00 l):=by
 unfold A0x B0s;refine (A23 (F:=fun s:List Int×Int=>A2U l s.1 s.2) l A00 (fun v=>some v) (fun i hi v hv=> ?_) (fun v=> ?_) _ ?_).trans rfl
 ·unfold A2U;dsimp only;rw [D19 (by omega),D18,Q6 hi,D14,K3 (by rw [D16];unfold A00 at hv;omega),D5 (by omega) (by omega)]
  rfl
 ·unfold A2U;dsimp only;rw [D2b (D2x _),D17]
 ·unfold lN at hl;rw [D2n] at hl;rw [D2J];omega
end Go.Win
namespace Go.Win
open Go.Vc Go.Dec
theorem A1k {x y:List Int} (h:x.length+y.length<=10000000000):decide ((x.length+y.length)*8<=140737488355328)=true:=by rw [D16];omega
theorem C7Y (s:B0) (v:List Int) (hl:v.length+(s.Bf.Af.flatMap A3s).length<=10000000000) (hm:s.Bf.Af.length<=1048576):A6o s v 0=some (v++s.Bf.Af.flatMap A3s):=by
 unfold A6o;refine A23 (F:=fun x:List Int×Int=>A5h s x.1 x.2) s.Bf.Af A3s (fun v=>some v) (fun i hi v hv=> ?_) (fun v=> ?_) v hl
 ·unfold A3s at hv⊢;unfold A5h;dsimp only;rw [D19 (by omega),D18,Q6 hi,D14,K3 (A1k hv),D5 (n:=(i:Int)+1) (by omega) (by omega)]
  rfl
 ·unfold A5h;dsimp only;rw [D2b (D2x _),D17]
theorem C84 (s:B0) (v:List Int) (hl:v.length+(s.Ah.Aq.flatMap A8m).length<=10000000000) (hm:s.Ah.Aq.length<=1048576):A5f s v 0=some (v++s.Ah.Aq.flatMap A8m):=by
 unfold A5f;refine A23 (F:=fun x:List Int×Int=>A4h s x.1 x.2) s.Ah.Aq A8m (fun v=>some v) (fun i hi v hv=> ?_) (fun v=> ?_) v hl
 ·unfold A8m at hv⊢;unfold A4h;dsimp only;rw [D19 (by omega),D18,Q6 hi,D14,K3 (A1k hv),D5 (n:=(i:Int)+1) (by omega) (by omega)]
  rfl
 ·unfold A4h;dsimp only;rw [D2b (D2x _),D17]
theorem C7W (c:C8) (j:Int) (v:List Int) (hl:v.length+(c.Ay.flatMap A65).length<=10000000000) (hm:c.Ay.length<=1048576):A8g c j v 0=some (.inl (v++c.Ay.flatMap A65,A3 (j+1))):=by
 unfold A8g;refine A23 (F:=fun x:List Int×Int=>A1T c j x.1 x.2) c.Ay A65 (fun v=>some (.inl (v,A3 (j+1)))) (fun i hi v hv=> ?_) (fun v=> ?_) v hl
 ·unfold A65 at hv⊢;unfold A1T;dsimp only;rw [D19 (by omega),D18,Q6 hi,D14,K3 (A1k hv),D5 (n:=(i:Int)+1) (by omega) (by omega)]
  rfl
 ·unfold A1T;dsimp only;rw [D2b (D2x _),D17]
theorem C82 (c:D1) (j:Int) (v:List Int) (hl:v.length+(c.Ba.Ad.flatMap A9K).length<=10000000000) (hm:c.Ba.Ad.length<=1048576):A8h c j v 0=some (.inl (v++c.Ba.Ad.flatMap A9K,A3 (j+1))):=by
 unfold A8h;refine A23 (F:=fun x:List Int×Int=>A1U c j x.1 x.2) c.Ba.Ad A9K (fun v=>some (.inl (v,A3 (j+1)))) (fun i hi v hv=> ?_) (fun v=> ?_) v hl
 ·unfold A9K at hv⊢;unfold A1U;dsimp only;rw [D19 (by omega),D18,Q6 hi,D14,K3 (A1k hv),D5 (n:=(i:Int)+1) (by omega) (by omega)]
  rfl
 ·unfold A1U;dsimp only;rw [D2b (D2x _),D17]
theorem C6E (s:B0) (v:List Int) (hl:v.length+(s.Am.Aj.flatMap A0p).length<=10000000000) (hm:s.Am.Aj.length<=1048576) (hc:∀c∈s.Am.Aj,c.Ay.length<=1048576):A5e s v 0=some (v++s.Am.Aj.flatMap A0p):=by
 unfold A5e;refine A23 (F:=fun x:List Int×Int=>A4g s x.1 x.2) s.Am.Aj A0p (fun v=>some v) (fun i hi v hv=> ?_) (fun v=> ?_) v hl
 ·have hs:A0p s.Am.Aj[i]= [s.Am.Aj[i].W,s.Am.Aj[i].Cap,s.Am.Aj[i].I,s.Am.Aj[i].Be,(s.Am.Aj[i].Ay.length:Int)]++s.Am.Aj[i].Ay.flatMap A65:=rfl;rw [hs] at hv⊢;rw [D2a] at hv;unfold A4g;dsimp only;rw [D19 (by omega),D18,Q6 hi,D14,K3 (A1k (by omega)),C7W _ _ _ (by rw [D2a];omega) (hc _ (D2T hi)),D5 (n:=(i:Int)+1) (by omega) (by omega),D2y]
  rfl
 ·unfold A4g;dsimp only;rw [D2b (D2x _),D17]
theorem C6D (s:B0) (v:List Int) (hl:v.length+(s.Aa.Ai.flatMap A0n).length<=10000000000) (hm:s.Aa.Ai.length<=1048576) (hc:∀c∈s.Aa.Ai,c.Ba.Ad.length<=1048576):A5g s v 0=some (v++s.Aa.Ai.flatMap A0n):=by
 unfold A5g;refine A23 (F:=fun x:List Int×Int=>A4i s x.1 x.2) s.Aa.Ai A0n (fun v=>some v) (fun i hi v hv=> ?_) (fun v=> ?_) v hl
 ·have hs:A0n s.Aa.Ai[i]= [s.Aa.Ai[i].T,s.Aa.Ai[i].Bd,s.Aa.Ai[i].Aw,s.Aa.Ai[i].Ba.N,(s.Aa.Ai[i].Ba.Ad.length:Int)]++s.Aa.Ai[i].Ba.Ad.flatMap A9K:=rfl;rw [hs] at hv⊢;rw [D2a] at hv;unfold A4i;dsimp only;rw [D19 (by omega),D18,Q6 hi,D14,K3 (A1k (by omega)),C82 _ _ _ (by rw [D2a];omega) (hc _ (D2T hi)),D5 (n:=(i:Int)+1) (by omega) (by omega),D2y]
  rfl
 ·unfold A4i;dsimp only;rw [D2b (D2x _),D17]
theorem C7X (s:B0) (w:L2 s) (hk:1<=s.Ak.Bb/\s.Ak.Bb<=11) (hl:(stN s).length<=1000000000):A6S s=some (stN s):=by
 obtain ⟨w0,w1,w2,w3,w4,w5,w6,w7,w8,w9,w10,w11⟩:=w;have b1:=w1.2.2.2.1;have b2:=w2.2.2.2.2.1;have b3:=w3.2.2.2.2.2.1;have b4:=w4.2.2.2.2.2.2.1;have b5:=w5.2.2.2.2.2.1;have b6:=w6.2.2.2.1;have b7:=w7.2.1;have b8:=w8.2.2.2.2.1;have b9:=w9.1;have b10:=w10.2.2.2.1;have b11:=w11.2.2.2.2.1;have c9: ∀c∈s.Am.Aj,c.Ay.length<=1048576:=fun c hc=>(w9.2 c hc).2.2.2.2.1;have c11: ∀c∈s.Aa.Ai,c.Ba.Ad.length<=1048576:=fun b hb=>(w11.2.2.2.2.2 b hb).2.2.2.2.1;have kk:s.Ak.Bb=1\/s.Ak.Bb=2\/s.Ak.Bb=3\/s.Ak.Bb=4\/s.Ak.Bb=5\/s.Ak.Bb=6\/s.Ak.Bb=7\/s.Ak.Bb=8\/s.Ak.Bb=9\/s.Ak.Bb=10\/s.Ak.Bb=11:=by omega
 unfold A6S;rcases kk with k|k|k|k|k|k|k|k|k|k|k<;>(unfold stN at hl⊢;rw [k] at hl⊢)
 ·have hl' :([s.Al.W,s.Al.Cap,s.Al.Now]++lN A0Z s.Al.Av).length<=1000000000:=hl;rw [D2a] at hl';show (Option.bind (A26 s.Al.Av) fun y=>ck (decide (([s.Al.W,s.Al.Cap,s.Al.Now].length+y.length)*8<=140737488355328)) (some ([s.Al.W,s.Al.Cap,s.Al.Now]++y)))=some ([s.Al.W,s.Al.Cap,s.Al.Now]++lN A0Z s.Al.Av);rw [C1w _ (by omega) b1,D14,K3 (A1k (by omega))]
 ·have hl' :([s.Ar.W,s.Ar.K,s.Ar.Cap,s.Ar.Now]++lN U2 s.Ar.Ac).length<=1000000000:=hl;rw [D2a] at hl';show (Option.bind (Y2 s.Ar.Ac) fun y=>ck (decide (([s.Ar.W,s.Ar.K,s.Ar.Cap,s.Ar.Now].length+y.length)*8<=140737488355328)) (some ([s.Ar.W,s.Ar.K,s.Ar.Cap,s.Ar.Now]++y)))=some ([s.Ar.W,s.Ar.K,s.Ar.Cap,s.Ar.Now]++lN U2 s.Ar.Ac);rw [B7A _ (by omega) b2,D14,K3 (A1k (by omega))]
 ·have hl' :([s.Sum.W,s.Sum.K,s.Sum.Cap,s.Sum.Bj,s.Sum.Now]++lN U2 s.Sum.Ac).length<=1000000000:=hl;rw [D2a] at hl';show (Option.bind (Y2 s.Sum.Ac) fun y=>ck (decide (([s.Sum.W,s.Sum.K,s.Sum.Cap,s.Sum.Bj,s.Sum.Now].length+y.length)*8<=140737488355328)) (some ([s.Sum.W,s.Sum.K,s.Sum.Cap,s.Sum.Bj,s.Sum.Now]++y)))=some ([s.Sum.W,s.Sum.K,s.Sum.Cap,s.Sum.Bj,s.Sum.Now]++lN U2 s.Sum.Ac);rw [B7A _ (by omega) b3,D14,K3 (A1k (by omega))]
 ·have hl' :([s.Ao.Bh,s.Ao.W,s.Ao.K,s.Ao.Cap,s.Ao.Now,s.Ao.Bl]++lN A00 s.Ao.Az).length<=1000000000:=hl;rw [D2a] at hl';show (Option.bind (A0x s.Ao.Az) fun y=>ck (decide (([s.Ao.Bh,s.Ao.W,s.Ao.K,s.Ao.Cap,s.Ao.Now,s.Ao.Bl].length+y.length)*8<=140737488355328)) (some ([s.Ao.Bh,s.Ao.W,s.Ao.K,s.Ao.Cap,s.Ao.Now,s.Ao.Bl]++y)))=some ([s.Ao.Bh,s.Ao.W,s.Ao.K,s.Ao.Cap,s.Ao.Now,s.Ao.Bl]++lN A00 s.Ao.Az);rw [C1x _ (by omega) b4,D14,K3 (A1k (by omega))]
 ·have hl' :([s.Ap.W,s.Ap.K,s.Ap.Cap,s.Ap.Now,s.Ap.Bl]++lN A00 s.Ap.Az).length<=1000000000:=hl;rw [D2a] at hl';show (Option.bind (A0x s.Ap.Az) fun y=>ck (decide (([s.Ap.W,s.Ap.K,s.Ap.Cap,s.Ap.Now,s.Ap.Bl].length+y.length)*8<=140737488355328)) (some ([s.Ap.W,s.Ap.K,s.Ap.Cap,s.Ap.Now,s.Ap.Bl]++y)))=some ([s.Ap.W,s.Ap.K,s.Ap.Cap,s.Ap.Now,s.Ap.Bl]++lN A00 s.Ap.Az);rw [C1x _ (by omega) b5,D14,K3 (A1k (by omega))]
 ·have hl' :([s.Bf.P,s.Bf.Bc,s.Bf.Now]++lN A3s s.Bf.Af).length<=1000000000:=hl;unfold lN at hl';simp only [D2a,D2n,D2A] at hl';show A6o s [s.Bf.P,s.Bf.Bc,s.Bf.Now,(s.Bf.Af.length:Int)] 0=_;rw [C7Y s _ (by simp only [D2n,D2A];omega) b6]
  rfl
 ·show (Option.bind (A8e s.Au.Bg) fun y=>ck (decide (([s.Au.Now].length+y.length)*8<=140737488355328)) (some ([s.Au.Now]++y)))=some ([s.Au.Now]++((s.Au.Bg.length:Int)::s.Au.Bg));rw [C83 (by omega),D14,K3 (A1k (by simp only [D2n,D2A];omega))]
 ·have hl' :([Q1 s.Ae.Bj,s.Ae.W,s.Ae.Cap,s.Ae.Now]++lN A0Z s.Ae.Av).length<=1000000000:=hl;rw [D2a] at hl';show (Option.bind (A26 s.Ae.Av) fun y=>ck (decide (([Q1 s.Ae.Bj,s.Ae.W,s.Ae.Cap,s.Ae.Now].length+y.length)*8<=140737488355328)) (some ([Q1 s.Ae.Bj,s.Ae.W,s.Ae.Cap,s.Ae.Now]++y)))=some ([Q1 s.Ae.Bj,s.Ae.W,s.Ae.Cap,s.Ae.Now]++lN A0Z s.Ae.Av);rw [C1w _ (by omega) b8,D14,K3 (A1k (by omega))]
 ·have hl' :(lN A0p s.Am.Aj).length<=1000000000:=hl;unfold lN at hl';rw [D2n] at hl';show A5e s [(s.Am.Aj.length:Int)] 0=_;rw [C6E s _ (by rw [D2J];omega) b9 c9]
  rfl
 ·have hl' :([s.Ah.K,s.Ah.Cap,s.Ah.N]++lN A8m s.Ah.Aq).length<=1000000000:=hl;unfold lN at hl';simp only [D2a,D2n,D2A] at hl';show A5f s [s.Ah.K,s.Ah.Cap,s.Ah.N,(s.Ah.Aq.length:Int)] 0=_;rw [C84 s _ (by simp only [D2n,D2A];omega) b10]
  rfl
 ·have hl' :([s.Aa.W,s.Aa.K,s.Aa.Cap,s.Aa.Now]++lN A0n s.Aa.Ai).length<=1000000000:=hl;unfold lN at hl';simp only [D2a,D2n,D2A] at hl';show A5g s [s.Aa.W,s.Aa.K,s.Aa.Cap,s.Aa.Now,(s.Aa.Ai.length:Int)] 0=_;rw [C6D s _ (by simp only [D2n,D2A];omega) b11 c11]
  rfl
theorem B8v (e:B9) (w:G7 e) (hk:∀r∈e.Ag,1<=r.Ab.Ak.Bb/\r.Ab.Ak.Bb<=11) (hl:(P9 e).length<=1000000000):A6m e=some (P9 e):=by
 have hr:=w.2.2.1;unfold P9 at hl;rw [D2a] at hl;unfold A6m B5m;refine (A23 (F:=fun x:List Int×Int=>A6n e x.1 x.2) e.Ag A1d (fun v=>some v) (fun i hi v hv=> ?_) (fun v=> ?_) _ (by omega)).trans rfl
 ·have hm:e.Ag[i]∈e.Ag:=D2T hi;have h1:=D2a (as:= [e.Ag[i].ID]) (bs:=A6v e.Ag[i].Ab.Ak++stN e.Ag[i].Ab);have hrl:(A1d e.Ag[i]).length=1+(8+(stN e.Ag[i].Ab).length):=by
   unfold A1d;rw [D2a,D2a]
   rfl
  have hcl:(A6v e.Ag[i].Ab.Ak).length=8:=rfl;have hst:(stN e.Ag[i].Ab).length<=1000000000:=by
   have:=B1F A1d e.Ag;have h2:(A1d e.Ag[i]).length<=(e.Ag.flatMap A1d).length:=by
    have:(e.Ag.flatMap A1d)=(e.Ag.take i).flatMap A1d++(A1d e.Ag[i]++(e.Ag.drop (i+1)).flatMap A1d):=by
     rw [<-List.flatMap_cons,<-List.drop_eq_getElem_cons hi,<-List.flatMap_append,List.take_append_drop]
    rw [this,D2a,D2a];omega
   omega
  unfold A6n;dsimp only;rw [D19 (by omega),D18,Q6 hi,D14,K3 (A1k (by rw [D2J];omega))]
  rw [show A0L e.Ag[i].Ab.Ak=A6v e.Ag[i].Ab.Ak from rfl,K3 (A1k (by rw [D2a,D2J];omega)),
   C7X _ (w.2.2.2 _ hm).2 (hk _ hm) hst,D14,K3 (A1k (by rw [D2a,D2a,D2J];omega)),D5 (n:=(i:Int)+1) (by omega) (by omega)]
  unfold A1d;simp only [D2y]
  rfl
 ·unfold A6n;dsimp only;rw [D2b (D2x _),D17]
noncomputable def A12 (ns:List Int):List Int:=wr ns++M7 ((Q8 (wr ns)).getD 0)
theorem A4I {ns:List Int} (h:K1 ns) (hl:ns.length<=10000000):V0 ns=some (A12 ns)/\ ∃n,E0 .i64 n/\Q8 (wr ns)=some n/\A12 ns=wr ns++M7 n:=by
 obtain ⟨n,h1,h2,h3⟩:=B7N ns h hl;have e:A12 ns=wr ns++M7 n:=by unfold A12;rw [h2];rfl
 exact ⟨by rw [e];exact h3,n,h1,h2,e⟩
theorem C1o {s:B0} (h:B6t s):1<=s.Ak.Bb/\s.Ak.Bb<=11:=h.1.1
theorem B6s {e:B9} (h:A4a e): ∀r∈e.Ag,1<=r.Ab.Ak.Bb/\r.Ab.Ak.Bb<=11:=by
 intro r hr;obtain ⟨i,hi,rfl⟩:=C7z hr;exact C1o (h.1.2.2 i hi).2.2
noncomputable def C6e (e:B9):List Int×Int:=if (A12 (P9 e)).length>1048576 then ([],5) else (A12 (P9 e),0)
theorem B7k (e:B9) (w:G7 e) (hl:(P9 e).length<=1000000):
  (A4a e->S4 e=some (C6e e)/\A3P e=some (C6e e))/\(¬A4a e->S4 e=some ([],2)/\A3P e=some ([],2)):=by
 obtain ⟨v1,v2⟩:=T6 e w;unfold S4 A3P;rw [v1,v2,D14,D14];constructor
 ·intro ok;have hb:=A60 (A4B w);obtain ⟨s1,n,hn,s2,s3⟩:=A4I (A4B w) (by omega)
  have hk:=B6s ok;rw [Q3 ok,D2H,D17,D17,C9r e w hk (by omega),D14]
  dsimp only;rw [C0I,s2,D14,B28 hn (by have:=A8K hn;omega),D14,B8v e w hk (by omega),D14,s1,D14,<-s3]
  unfold C6e
  by_cases hc:(A12 (P9 e)).length>1048576
  ·rw [if_pos hc,D19 (by omega)];exact ⟨rfl,rfl⟩
  ·rw [if_neg hc,D2b (by omega)];exact ⟨rfl,rfl⟩
 ·intro no;rw [I7 no];exact ⟨rfl,rfl⟩
end Go.Win
namespace Go.Win
open Go.Vc Go.Dec
theorem C9s {ns ms:List Int} (hn:K1 ns) (hm:K1 ms): ∀ {t:List Int},wr ns=wr ms++t-> ∃ks,ns=ms++ks/\t=wr ks:=by
 induction ms generalizing ns with
 |nil=>intro t h;exact ⟨ns,rfl,by simpa [wr] using h.symm⟩
 |cons m ms ih=>
  intro t h;obtain ⟨w1,w2⟩:=Z1.1 hm;cases ns with
  |nil=>
   have:=congrArg List.length h;rw [A0i] at this;simp [C4l] at this;have:=A37 m;omega
  |cons n ns=>
   obtain ⟨v1,v2⟩:=Z1.1 hn;rw [A0i,A0i,D2y] at h;have r1:=A1G v1 (wr ns);have r2:=A1G w1 (wr ms++t);rw [h,r2] at r1;have e:m=n:=(Prod.mk.inj (D2N r1)).1;subst e;have h' :=List.append_cancel_left h;obtain ⟨ks,k1,k2⟩:=ih v2 w2 h';exact ⟨ks,by rw [k1];rfl,k2⟩
def D04 (l:List Int) (r:List Int×Int):Prop:=(∃ns,K1 ns/\l=wr ns/\r=(ns,0))\/(r=([],13)/\ ∀ns,K1 ns->l≠wr ns)
theorem C4T {l:List Int} (hb:V8 l) (hl:l.length<=100000000): ∃r,A7d l=some r/\D04 l r:=by
 unfold A7d B1X;refine A8O (f:=fun s:List Int×Int=>A6A l s.1 s.2)
  (fun s=> ∃a:Nat,a<=l.length/\s.2=(a:Int)/\K1 s.1/\l=wr s.1++l.drop a/\(wr s.1).length=a) (fun s=>l.length-s.2.toNat) (fun r=>D04 l r) ([],0) ⟨0,by omega,rfl,A1W,by simp [wr],rfl⟩ ?_
 rintro ⟨ns,_⟩ ⟨a,ha,rfl,hw,hc,hwl⟩;simp only at hw hc hwl⊢;unfold A6A
 by_cases hlt:a<l.length
 ·rw [D19 (by omega),D18,C6H hb (by omega) ha,D14]
  have hbd:V8 (l.drop a):=B4i hb a;cases hr:rd (l.drop a) with
  |none=>
   right;have e:rdA l a=(0,0,false):=by unfold rdA;rw [hr]
   rw [e];refine ⟨_,rfl, .inr ⟨rfl,fun ms hm he=> ?_⟩⟩;obtain ⟨ks,k1,k2⟩:=C9s hm hw (he.symm.trans hc);cases ks with
   |nil=>
    have:=congrArg List.length k2;rw [D2C] at this;simp [wr] at this;omega
   |cons k ks=>
    have wk:K1 (k::ks):=(A3a.1 (k1▸hm)).2;rw [k2,A0i,A1G (Z1.1 wk).1] at hr;cases hr
  |some p=>
   left;obtain ⟨n,k⟩:=p;obtain ⟨w,hk,hcc⟩:=B6X hbd hr;have hk1:=A37 n;have hkl:k<=l.length-a:=by
    have:=congrArg List.length hcc;rw [D2a,D2C] at this;omega
   have hns:ns.length<=a:=by have:=B6L ns;omega
   have e:rdA l a=(n,((a+k:Nat):Int),true):=by unfold rdA;rw [hr]
   rw [e];simp only [D2g,D17];rw [K3 (by rw [D16,D2J];omega)]
   have e1:wr (ns++ [n])=wr ns++M7 n:=by rw [A1D];simp [wr]
   refine ⟨_,rfl,⟨a+k,by omega,rfl,A3a.2 ⟨hw,fun x hx=>by simp at hx;subst hx;exact w⟩, ?_, ?_⟩, ?_⟩
   ·show l=wr (ns++ [n])++l.drop (a+k);rw [e1,D2y,<-D22,<-hcc];exact hc
   ·show (wr (ns++ [n])).length=a+k;rw [e1,D2a,hwl,hk]
   ·show l.length-(((a+k:Nat):Int)).toNat<l.length-((a:Int)).toNat;omega
 ·right;rw [D2b (by omega),D17]
  refine ⟨_,rfl, .inl ⟨ns,hw, ?_,rfl⟩⟩;have hd:l.drop a= []:=List.drop_eq_nil_of_le (by omega)
  rw [hd,List.append_nil] at hc;exact hc
def Cu {α:Type} (f:A6->Option (α×A6)) (P:Rd α):Prop:=
 ∀(L:List Int) (a:Nat) (bad:Bool),K1 L->L.length<=100000000->a<=L.length-> ∃(x:α) (a' :Nat) (bad' :Bool),f ⟨L,(a:Int),bad⟩=some (x,⟨L,(a' :Int),bad'⟩)/\a<=a' /\a' <=L.length/\(bad=true->bad' =true)/\
  (bad=false->match P (L.drop a) with
   |some (y,rest)=>bad' =false/\x=y/\rest=L.drop a'
   |none=>bad' =true)
def cB {α β:Type} (f:A6->Option (α×A6)) (g:α->A6->Option (β×A6)):A6->Option (β×A6):=fun c=>Option.bind (f c) fun y=>g y.1 y.2
def cP {α:Type} (x:α):A6->Option (α×A6):=fun c=>some (x,c)
theorem Cu.pure {α:Type} (x:α):Cu (cP x) (H8 x):=fun L a bad _ _ ha=>⟨x,a,bad,rfl,D2M _,ha,fun h=>h,fun h=>⟨h,rfl,rfl⟩⟩
theorem Cu.bind {α β:Type} {f:A6->Option (α×A6)} {g:α->A6->Option (β×A6)} {P:Rd α} {Q:α->Rd β} (hf:Cu f P) (hg:∀x,Cu (g x) (Q x)):Cu (cB f g) (B8 P Q):=by
 intro L a bad hw hl ha;obtain ⟨x,a1,b1,e1,l1,u1,s1,p1⟩:=hf L a bad hw hl ha;obtain ⟨y,a2,b2,e2,l2,u2,s2,p2⟩:=hg x L a1 b1 hw hl u1;refine ⟨y,a2,b2, ?_,by omega,u2,fun h=>s2 (s1 h),fun h=> ?_⟩
 ·unfold cB;rw [e1,D14];exact e2
 ·have q1:=p1 h;unfold B8;cases hp:P (L.drop a) with
  |none=>
   rw [hp] at q1;exact s2 q1
  |some r=>
   obtain ⟨y1,rest⟩:=r;rw [hp] at q1;obtain ⟨c1,c2,c3⟩:=q1;subst c2 c3;exact p2 c1
theorem C04 {L:List Int} {a:Nat} (h:a<L.length):L.drop a=L[a]::L.drop (a+1):=List.drop_eq_getElem_cons h
theorem A7F {L:List Int} {a:Nat} (bad:Bool) (hl:L.length<=100000000) (h:a<L.length):A4 ⟨L,(a:Int),bad⟩=some (L[a],⟨L,((a+1:Nat):Int),bad⟩):=by
 unfold A4;simp only [];rw [D2b (by omega),D17,D5 (n:=(a:Int)+1) (by omega) (by omega),D5 (by omega) (by omega),show (a:Int)+1-1=(a:Int) by omega,Q6 h,D14]
 rfl
theorem C9e {L:List Int} {a:Nat} (bad:Bool) (h:L.length<=a):A4 ⟨L,(a:Int),bad⟩=some (0,⟨L,(a:Int),true⟩):=by
 unfold A4;simp only [];rw [D19 (by omega),D18]
theorem Cu.take:Cu A4 B1:=by
 intro L a bad _ hl ha
 by_cases h:a<L.length
 ·refine ⟨L[a],a+1,bad,A7F bad hl h,by omega,h,fun h=>h,fun hb=> ?_⟩
  rw [C04 h];exact ⟨hb,rfl,rfl⟩
 ·refine ⟨0,a,true,C9e bad (by omega),by omega,ha,fun _=>rfl,fun _=> ?_⟩
  have:L.drop a= []:=List.drop_eq_nil_of_le (by omega)
  rw [this]
  rfl
def B6U:Rd Int:=B8 B1 fun n l=>if n<0\/(l.length:Int)<n then none else some (n,l)
theorem Cu.many:Cu I9 B6U:=by
 intro L a bad hw hl ha;obtain ⟨x,a1,b1,e1,l1,u1,s1,p1⟩:=Cu.take L a bad hw hl ha;unfold I9;rw [e1,D14];simp only [];have e:A3 ((L.length:Int)-(a1:Int))=(L.length:Int)-(a1:Int):=by rw [D5]<;>omega
 rw [e]
 by_cases h:x<0\/(L.length:Int)-(a1:Int)<x
 ·have c:(decide (x<0)||decide (x>(L.length:Int)-(a1:Int)))=true:=by
   rw [D2f,D16,D16];omega
  rw [c,D18];refine ⟨0,a1,true,rfl,l1,u1,fun _=>rfl,fun hb=> ?_⟩;have q1:=p1 hb;unfold B6U B8;cases hp:B1 (L.drop a) with
  |none=>rfl
  |some r=>
   obtain ⟨y,rest⟩:=r;rw [hp] at q1;obtain ⟨c1,c2,c3⟩:=q1;subst c2 c3;simp only [D14];rw [D2C,if_pos (by omega)]
   exact True.intro
 ·have c:(decide (x<0)||decide (x>(L.length:Int)-(a1:Int)))=false:=by
   rw [D2E,D2l,D2l];omega
  rw [c,D17];refine ⟨x,a1,b1,rfl,l1,u1,s1,fun hb=> ?_⟩;have q1:=p1 hb;unfold B6U B8;cases hp:B1 (L.drop a) with
  |none=>rw [hp] at q1;exact q1
  |some r=>
   obtain ⟨y,rest⟩:=r;rw [hp] at q1;obtain ⟨c1,c2,c3⟩:=q1;subst c2 c3;simp only [D14];rw [D2C,if_neg (by omega)]
   exact ⟨c1,rfl,rfl⟩
end Go.Win
namespace Go.Win
open Go.Vc Go.Dec
def Ans {α:Type} (q:Option (α×List Int)) (x:α) (rest:List Int) (bad:Bool):Prop:=match q with
 |some (y,r)=>bad=false/\x=y/\r=rest
 |none=>bad=true
theorem C3q {L:List Int} {a:Nat} (bad:Bool) (hw:K1 L) (hl:L.length<=100000000) (ha:a<=L.length): ∃(n a' :Nat) (bad' :Bool),I9 ⟨L,(a:Int),bad⟩=some ((n:Int),⟨L,(a' :Int),bad'⟩)/\a<=a' /\a' <=L.length/\n<=L.length-a' /\(bad=true->bad' =true)/\
  (bad=false->Ans (B6U (L.drop a)) (n:Int) (L.drop a') bad'):=by
 obtain ⟨x,a',b',h1,h2,h3,h4,h5⟩:=Cu.many L a bad hw hl ha;have hx:0<=x/\x<=((L.length-a' :Nat):Int):=by
  unfold I9 at h1;obtain ⟨y,a1,b1,e1,l1,u1,_,_⟩:=Cu.take L a bad hw hl ha;rw [e1,D14] at h1;simp only [] at h1;have e:A3 ((L.length:Int)-(a1:Int))=(L.length:Int)-(a1:Int):=by rw [D5]<;>omega
  rw [e] at h1
  by_cases h:y<0\/(L.length:Int)-(a1:Int)<y
  ·have c:(decide (y<0)||decide (y>(L.length:Int)-(a1:Int)))=true:=by
    rw [D2f,D16,D16];omega
   rw [c,D18] at h1;have:=(Prod.mk.inj (D2N h1)).1;omega
  ·have c:(decide (y<0)||decide (y>(L.length:Int)-(a1:Int)))=false:=by
    rw [D2E,D2l,D2l];omega
   rw [c,D17] at h1;have h7:=Prod.mk.inj (D2N h1);have h8:=h7.1;have h9:(a1:Int)=(a' :Int):=congrArg A6.At h7.2;omega
 obtain ⟨n,rfl⟩:=Int.eq_ofNat_of_zero_le hx.1;refine ⟨n,a',b',h1,h2,h3,by omega,h4,fun h=> ?_⟩
 have:=h5 h;unfold Ans;split at this
 ·rename_i y r e
  first|exact this|(rw [e];exact this)
 ·rename_i e
  first|exact this|(rw [e];exact this)
theorem C7y (k:Nat) (l:List Int):L3 B1 k l=if k<=l.length then some (l.take k,l.drop k) else none:=by
 induction k generalizing l with
 |zero=>simp [L3,H8]
 |succ k ih=>
  unfold L3 B8;cases l with
  |nil=>rfl
  |cons x l=>
   show Option.bind (some (x,l)) (fun q=>Option.bind (L3 B1 k q.2) fun q' =>H8 (q.1::q'.1) q'.2)=_;rw [D14];simp only [];rw [ih l]
   by_cases h:k<=l.length
   ·rw [if_pos h,if_pos (by rw [D2n];omega)];rfl
   ·rw [if_neg h,if_neg (by rw [D2n];omega)];rfl
theorem B8x {α:Type} (p:Rd α) (l:List Int):J5 B1 p l=(B6U l).bind fun q=>L3 p q.1.toNat q.2:=by
 unfold J5 B6U B8;cases B1 l with
 |none=>rfl
 |some q=>
  simp only [D14];split<;>rfl
def C9y:Rd E1:=B8 B1 fun a=>B8 B1 fun b=>B8 B1 fun c=>B8 B1 fun d=>B8 B1 fun e=>B8 B1 fun f=>B8 B1 fun g=>B8 B1 fun h=>H8 ⟨a,b,c,d,e,f,g,h⟩
theorem Cu.config:Cu A4N C9y:=by
 have h:Cu _ C9y:=Cu.bind Cu.take fun a=>Cu.bind Cu.take fun b=>Cu.bind Cu.take fun c=>Cu.bind Cu.take fun d=>Cu.bind Cu.take fun e=>Cu.bind Cu.take fun f=>Cu.bind Cu.take fun g=>Cu.bind Cu.take fun h=>Cu.pure (E1.mk a b c d e f g h);exact h
end Go.Win
namespace Go.Win
open Go.Vc Go.Dec
end Go.Win
namespace Go.Win
open Go.Vc Go.Dec
theorem D1J: ∀(l:List Int) (i u w k:Nat),rdN i u l=some (w,k)->i<k/\k<=i+l.length:=by
 intro l
 induction l with
 |nil=>intro i u w k h;cases h
 |cons x l ih=>
  intro i u w k h;unfold rdN at h;split at h
  ·cases h
  split at h
  ·cases h
  split at h
  ·have:=ih _ _ _ _ h;rw [D2n];omega
  split at h
  ·cases h
  ·cases h;rw [D2n];omega
theorem B6S:Z2 F9:=by
 intro l a l' h;unfold F9 at h;rw [Option.map_eq_some_iff] at h;obtain ⟨⟨n,k⟩,h1,h2⟩:=h;cases h2;unfold rd at h1;rw [Option.map_eq_some_iff] at h1;obtain ⟨⟨w,k'⟩,h3,h4⟩:=h1;cases h4;have:=D1J _ _ _ _ _ h3;rw [D2C];simp only at this⊢;omega
def Ta {α:Type} (l:List Int) (f:Int->Bool->Option (Int×Bool×α)) (Q:Rd α):Prop:=
 ∀(a:Nat) (bad:Bool),a<=l.length-> ∃(a' :Nat) (bad' :Bool) (x:α),f (a:Int) bad=some ((a' :Int),bad',x)/\a' <=l.length/\(bad=true->bad' =true)/\(bad=false->Ans (Q (l.drop a)) x (l.drop a') bad')
def tB {α β:Type} (f:Int->Bool->Option (Int×Bool×α)) (g:α->Int->Bool->Option (Int×Bool×β)):Int->Bool->Option (Int×Bool×β):=fun a b=>Option.bind (f a b) fun y=>g y.2.2 y.1 y.2.1
def tP {α:Type} (x:α):Int->Bool->Option (Int×Bool×α):=fun a b=>some (a,b,x)
theorem Ta.pure {α:Type} (l:List Int) (x:α):Ta l (tP x) (H8 x):=fun a bad ha=>⟨a,bad,x,rfl,ha,fun h=>h,fun h=>⟨h,rfl,rfl⟩⟩
theorem Ta.bind {α β:Type} {l:List Int} {f:Int->Bool->Option (Int×Bool×α)} {g:α->Int->Bool->Option (Int×Bool×β)} {P:Rd α} {Q:α->Rd β} (hf:Ta l f P) (hg:∀x,Ta l (g x) (Q x)):Ta l (tB f g) (B8 P Q):=by
 intro a bad ha;obtain ⟨a1,b1,x,e1,u1,s1,p1⟩:=hf a bad ha;obtain ⟨a2,b2,y,e2,u2,s2,p2⟩:=hg x a1 b1 u1;refine ⟨a2,b2,y, ?_,u2,fun h=>s2 (s1 h),fun h=> ?_⟩
 ·unfold tB;rw [e1,D14];exact e2
 ·have q1:=p1 h;unfold B8;cases hp:P (l.drop a) with
  |none=>
   rw [hp] at q1;exact s2 q1
  |some r=>
   obtain ⟨y1,rest⟩:=r;rw [hp] at q1;obtain ⟨c1,c2,c3⟩:=q1;subst c2 c3;exact p2 c1
theorem Ta.int {l:List Int} (hb:V8 l) (hl:l.length<=100000000) (x0:Int):Ta l (fun a b=>B6 l a b x0) F9:=by
 intro a bad ha;unfold B6;cases bad with
 |true=>exact ⟨a,true,x0,rfl,ha,fun _=>rfl,fun h=>by cases h⟩
 |false=>
  dsimp only;rw [D17,C1B hb (by omega) ha,D14]
  cases hr:rd (l.drop a) with
  |none=>
   have e:rdA l a=(0,0,false):=by unfold rdA;rw [hr]
   have e2:F9 (l.drop a)=none:=by unfold F9;rw [hr];rfl
   rw [e,e2];exact ⟨a,true,x0,rfl,ha,fun _=>rfl,fun _=>rfl⟩
  |some p=>
   obtain ⟨n,k⟩:=p;obtain ⟨w,hk,hc⟩:=B6X (B4i hb a) hr;have hkl:a+k<=l.length:=by
    have:=congrArg List.length hc;rw [D2a,D2C] at this;omega
   have e:rdA l a=(n,((a+k:Nat):Int),true):=by unfold rdA;rw [hr]
   have e2:F9 (l.drop a)=some (n,l.drop (a+k)):=by unfold F9;rw [hr];simp [D22]
   rw [e,e2];exact ⟨a+k,false,n,rfl,hkl,fun h=>h,fun _=>⟨rfl,rfl,rfl⟩⟩
theorem C9b (l:List Int) (x0:Int):(fun a b=>E6 l a b x0)=fun a b=>B6 l a b x0:=by
 funext a b
 unfold E6;cases B6 l a b x0<;>rfl
theorem Ta.small {l:List Int} (hb:V8 l) (hl:l.length<=100000000) (x0:Int):Ta l (fun a b=>E6 l a b x0) F9:=by
 rw [C9b];exact Ta.int hb hl x0
def B37 (p q:Int):Rd Int:=B8 F9 fun n l=>if n<p\/q<n then none else some (n,l)
theorem Ta.within {l:List Int} (hb:V8 l) (hl:l.length<=100000000) (p q x0:Int):Ta l (fun a b=>H9 p q l a b x0) (B37 p q):=by
 intro a bad ha;obtain ⟨a1,b1,x,e1,u1,s1,p1⟩:=Ta.int hb hl x0 a bad ha;unfold H9;dsimp only at e1⊢;rw [e1,D14];dsimp only
 by_cases h:x<p\/q<x
 ·have c:(decide (x<p)||decide (x>q))=true:=by rw [D2f,D16,D16];omega
  rw [c,D18];refine ⟨a1,true,x,rfl,u1,fun _=>rfl,fun hb=> ?_⟩;have q1:=p1 hb;unfold B37 B8;cases hp:F9 (l.drop a) with
  |none=>rfl
  |some r=>
   obtain ⟨y,rest⟩:=r;rw [hp] at q1;obtain ⟨c1,c2,c3⟩:=q1;subst c2 c3;rw [D14];dsimp only;rw [if_pos h]
   rfl
 ·have c:(decide (x<p)||decide (x>q))=false:=by rw [D2E,D2l,D2l];omega
  rw [c,D17];refine ⟨a1,b1,x,rfl,u1,s1,fun hb=> ?_⟩;have q1:=p1 hb;unfold B37 B8;cases hp:F9 (l.drop a) with
  |none=>rw [hp] at q1;exact q1
  |some r=>
   obtain ⟨y,rest⟩:=r;rw [hp] at q1;obtain ⟨c1,c2,c3⟩:=q1;subst c2 c3;rw [D14];dsimp only;rw [if_neg h];exact ⟨c1,rfl,rfl⟩
theorem D0l {α:Type} {l:List Int} {S:Int×Bool×List α×Int->Option ((Int×Bool×List α×Int)⊕(Int×Bool×List α))} {Q:Rd α}
  (hs:∀(a:Nat) (out:List α) (k:Nat),a<=l.length->out.length+k<=100000000-> ∃(a' :Nat) (bad' :Bool) (x:α),S ((a:Int),false,out,((k+1:Nat):Int))=some (.inl ((a' :Int),bad',out++ [x],(k:Int)))/\a' <=l.length/\Ans (Q (l.drop a)) x (l.drop a') bad')
  (hb:∀(a:Int) (out:List α) (k:Int),S (a,true,out,k)=some (.inr (a,true,out))) (he:∀(a:Int) (out:List α),S (a,false,out,0)=some (.inr (a,false,out))):
  ∀(k a:Nat) (out:List α),a<=l.length->out.length+k<=100000000-> ∃(a' :Nat) (bad' :Bool) (x:List α),loop S ((a:Int),false,out,(k:Int))=some ((a' :Int),bad',x)/\a' <=l.length/\
   match L3 Q k (l.drop a) with
   |some (y,r)=>bad' =false/\x=out++y/\r=l.drop a'
   |none=>bad' =true:=by
 intro k
 induction k with
 |zero=>
  intro a out ha _;exact ⟨a,false,out,L4 (he _ _),ha,rfl,by simp,rfl⟩
 |succ k ih=>
  intro a out ha ho;obtain ⟨a1,b1,x,e1,u1,p1⟩:=hs a out k ha (by omega)
  have hm:L3 Q (k+1) (l.drop a)=(Q (l.drop a)).bind fun q=>(L3 Q k q.2).bind fun q' =>H8 (q.1::q'.1) q'.2:=rfl;rw [hm,U8 e1];cases hq:Q (l.drop a) with
  |none=>
   rw [hq] at p1;have p1' :b1=true:=p1;subst p1';exact ⟨a1,true,_,L4 (hb _ _ _),u1,rfl⟩
  |some r=>
   obtain ⟨y,rest⟩:=r;rw [hq] at p1;obtain ⟨c1,c2,c3⟩:=p1;subst c1 c2 c3;obtain ⟨a2,b2,z,e2,u2,p2⟩:=ih a1 (out++ [x]) u1 (by rw [D2a,D2J];omega)
   refine ⟨a2,b2,z,e2,u2, ?_⟩;rw [D14];dsimp only;cases hr:L3 Q k (l.drop a1) with
   |none=>rw [hr] at p2;exact p2
   |some r=>
    rw [hr] at p2;obtain ⟨q1,q2,q3⟩:=p2;exact ⟨q1,by rw [q2];simp,q3⟩
theorem Ta.list {α:Type} {l:List Int} (hb:V8 l) (hl:l.length<=100000000) {S:Int×Bool×List α×Int->Option ((Int×Bool×List α×Int)⊕(Int×Bool×List α))} {Q:Rd α} (hE:Z2 Q)
  (hs:∀(a:Nat) (out:List α) (k:Nat),a<=l.length->out.length+k<=100000000-> ∃(a' :Nat) (bad' :Bool) (x:α),S ((a:Int),false,out,((k+1:Nat):Int))=some (.inl ((a' :Int),bad',out++ [x],(k:Int)))/\a' <=l.length/\Ans (Q (l.drop a)) x (l.drop a') bad')
  (hbad:∀(a:Int) (out:List α) (k:Int),S (a,true,out,k)=some (.inr (a,true,out))) (he:∀(a:Int) (out:List α),S (a,false,out,0)=some (.inr (a,false,out))) (x0:Int):
  Ta l (fun a b=>Option.bind (H9 0 (A3 ((l.length:Int)-a)) l a b x0) fun y=>loop S (y.1,y.2.1, [],y.2.2)) (J5 F9 Q):=by
 intro a bad ha;obtain ⟨a1,b1,n,e1,u1,s1,p1⟩:=Ta.within hb hl 0 (A3 ((l.length:Int)-(a:Int))) x0 a bad ha;have e1' :H9 0 (A3 ((l.length:Int)-(a:Int))) l (a:Int) bad x0=some ((a1:Int),b1,n):=e1;dsimp only;rw [e1',D14];dsimp only;cases b1 with
 |true=>
  refine ⟨a1,true, [],L4 (hbad _ _ _),u1,fun _=>rfl,fun h=> ?_⟩;have q:=p1 h;unfold J5 B8;unfold B37 B8 at q;cases hr:F9 (l.drop a) with
  |none=>rfl
  |some r=>
   obtain ⟨m,rest⟩:=r;rw [hr,D14] at q;dsimp only at q;have hlen:=B6S _ _ _ hr;rw [D2C] at hlen;have ew:A3 ((l.length:Int)-(a:Int))=(l.length:Int)-(a:Int):=by rw [D5]<;>omega
   rw [ew] at q
   by_cases h:m<0\/(l.length:Int)-(a:Int)<m
   ·rw [D14];dsimp only;rw [if_pos (by omega)]
    rfl
   ·rw [if_neg h] at q;exact absurd q.1 (by decide)
 |false=>
  have hbf:bad=false:=by cases bad with
   |true=>exact absurd (s1 rfl) (by decide)
   |false=>rfl
  have q:=p1 hbf;unfold B37 B8 at q;have ew:A3 ((l.length:Int)-(a:Int))=(l.length:Int)-(a:Int):=by rw [D5]<;>omega
  rw [ew] at q;cases hr:F9 (l.drop a) with
  |none=>
   rw [hr] at q;have q' :false=true:=q;cases q'
  |some r=>
   obtain ⟨m,rest⟩:=r;rw [hr,D14] at q;dsimp only at q
   by_cases h:m<0\/(l.length:Int)-(a:Int)<m
   ·rw [if_pos h] at q;have q' :false=true:=q;cases q'
   ·rw [if_neg h] at q;obtain ⟨_,c2,c3⟩:=q;subst c2 c3;obtain ⟨k,rfl⟩:=Int.eq_ofNat_of_zero_le (show 0<=n by omega)
    obtain ⟨a2,b2,x,e2,u2,p2⟩:=D0l hs hbad he k a1 [] u1 (by rw [D2A];omega)
    refine ⟨a2,b2,x,e2,u2,(fun h=>by rw [hbf] at h;cases h),fun _=> ?_⟩
    unfold J5 B8;rw [hr,D14];dsimp only;rw [D2C,D2K]
    by_cases hk:((l.length-a1:Nat):Int)<(k:Int)
    ·rw [if_pos (.inr hk)];cases hm:L3 Q k (l.drop a1) with
     |none=>rw [hm] at p2;exact p2
     |some r=>
      have:=B4F hE k _ _ _ hm;rw [D2C] at this;omega
    ·rw [if_neg (by omega)]
     cases hm:L3 Q k (l.drop a1) with
     |none=>rw [hm] at p2;exact p2
     |some r=>
      rw [hm] at p2;obtain ⟨q1,q2,q3⟩:=p2;exact ⟨q1,by rw [q2];rfl,q3⟩
theorem B6O {α:Type} (o:Option (Int×Bool×α)):(Option.bind o fun y=>some (y.1,y.2.1,y.2.2))=o:=by cases o<;>rfl
def A6s (i:Rd Int):Rd C7:=B8 i fun h=>B8 i fun l=>H8 ⟨F3 h,F3 l⟩
theorem C06:Z2 B1:=by
 intro ns a ns' h;cases ns with
 |nil=>cases h
 |cons n ns=>cases h;simp
theorem Cu.wide:Cu A6z (A6s B1):=by
 have h:Cu _ (A6s B1):=Cu.bind Cu.take fun a=>Cu.bind Cu.take fun b=>Cu.pure (C7.mk (F3 a) (F3 b));exact h
theorem Ta.word {l:List Int} (hb:V8 l) (hl:l.length<=100000000) (x:Int):Ta l (fun a b=>A3q l a b x) (B8 F9 fun n=>H8 (F3 n)):=Ta.bind (Ta.int hb hl (A3 x)) fun n=>Ta.pure l (F3 n)
theorem C68 {α β γ:Type} (p:Rd α) (m:α->β) (g:β->Rd γ):B8 (B8 p fun x=>H8 (m x)) g=B8 p fun x=>g (m x):=by
 funext l
 unfold B8;cases p l<;>rfl
theorem Ta.wide {l:List Int} (hb:V8 l) (hl:l.length<=100000000) (x:C7):Ta l (fun a b=>A3p l a b x) (A6s F9):=by
 have h:=Ta.bind (Ta.word hb hl x.Hi) fun n=>Ta.bind (Ta.word hb hl x.Lo) fun d=>Ta.pure l (C7.mk n d);simp only [C68] at h;exact h
end Go.Win
namespace Go.Win
open Go.Vc Go.Dec
structure C1 {α:Type} (Q P:Rd α) (W:α->Prop):Prop where
 sim:Sim Q P
 shr: ∀l a r,P l=some (a,r)->r.length<=l.length
 shrQ: ∀l a r,Q l=some (a,r)->r.length<=l.length
 loc: ∀ns a rest,P ns=some (a,rest)-> ∃pre,ns=pre++rest/\ ∀r',P (pre++r')=some (a,r')
 wf: ∀ns a rest,K1 ns->ns.length<=1048576->P ns=some (a,rest)->W a/\K1 rest
theorem C1.int:C1 F9 B1 (E0 .i64) where
 sim:=C5z
 shr:=fun l a r h=>by
  cases l with
  |nil=>cases h
  |cons n ns=>cases h;simp
 shrQ:=fun l a r h=>Nat.le_of_lt (B6S l a r h)
 loc:=fun ns a rest h=>by
  cases ns with
  |nil=>cases h
  |cons n ns=>cases h;exact ⟨[a],rfl,fun _=>rfl⟩
 wf:=fun ns a rest hw _ h=>by
  cases ns with
  |nil=>cases h
  |cons n ns=>cases h;exact Z1.1 hw
theorem C1.pure {α:Type} {W:α->Prop} (a:α) (h:W a):C1 (H8 a) (H8 a) W where
 sim:=B8z a
 shr:=fun l b r h=>by cases h;exact D2M _
 shrQ:=fun l b r h=>by cases h;exact D2M _
 loc:=fun ns b rest h=>by cases h;exact ⟨[],rfl,fun _=>rfl⟩
 wf:=fun ns b rest hw _ e=>by cases e;exact ⟨h,hw⟩
theorem C1.fail {α:Type} {W:α->Prop}:C1 (B4Q (α:=α)) B4Q W where
 sim:=C89
 shr:=fun _ _ _ h=>by cases h
 shrQ:=fun _ _ _ h=>by cases h
 loc:=fun _ _ _ h=>by cases h
 wf:=fun _ _ _ _ _ h=>by cases h
theorem N4 {α β:Type} {P:Rd α} {f:α->Rd β} {l:List Int} {b:β} {r:List Int} (h:B8 P f l=some (b,r)): ∃a l',P l=some (a,l')/\f a l' =some (b,r):=by
 unfold B8 at h;rw [Option.bind_eq_some_iff] at h;obtain ⟨⟨a,l'⟩,h1,h2⟩:=h;exact ⟨a,l',h1,h2⟩
theorem A8R {α β:Type} {P:Rd α} {f:α->Rd β} {l l' :List Int} {a:α} (h:P l=some (a,l')):B8 P f l=f a l' :=by unfold B8;rw [h];rfl
theorem C1.bind {α β:Type} {Q P:Rd α} {f g:α->Rd β} {V:α->Prop} {W:β->Prop} (h:C1 Q P V) (hf:∀a,C1 (f a) (g a) (fun b=>V a->W b)):C1 (B8 Q f) (B8 P g) W where
 sim:=B4R h.sim fun a=>(hf a).sim
 shr:=fun l b r e=>by
  obtain ⟨a,l',h1,h2⟩:=N4 e;exact Nat.le_trans ((hf a).shr _ _ _ h2) (h.shr _ _ _ h1)
 shrQ:=fun l b r e=>by
  obtain ⟨a,l',h1,h2⟩:=N4 e;exact Nat.le_trans ((hf a).shrQ _ _ _ h2) (h.shrQ _ _ _ h1)
 loc:=fun ns b rest e=>by
  obtain ⟨a,l',h1,h2⟩:=N4 e;obtain ⟨p1,e1,f1⟩:=h.loc _ _ _ h1;obtain ⟨p2,e2,f2⟩:=(hf a).loc _ _ _ h2;refine ⟨p1++p2,by rw [e1,e2,D2y],fun r' => ?_⟩
  rw [D2y,A8R (f1 _),f2]
 wf:=fun ns b rest hw hl e=>by
  obtain ⟨a,l',h1,h2⟩:=N4 e;obtain ⟨w1,w2⟩:=h.wf _ _ _ hw hl h1;obtain ⟨w3,w4⟩:=(hf a).wf _ _ _ w2 (Nat.le_trans (h.shr _ _ _ h1) hl) h2;exact ⟨w3 w1,w4⟩
theorem C05 {α β:Type} {P:Rd α} {f:α->Rd β} (h:Z2 P) (hf:∀a l b r,f a l=some (b,r)->r.length<=l.length):Z2 (B8 P f):=by
 intro l b r e;obtain ⟨a,l',h1,h2⟩:=N4 e;exact Nat.lt_of_le_of_lt (hf a _ _ _ h2) (h _ _ _ h1)
theorem C1.many {α:Type} {Q P:Rd α} {W:α->Prop} (h:C1 Q P W): ∀k,C1 (L3 Q k) (L3 P k) (fun l=>l.length=k/\ ∀y∈l,W y)
 |0=>C1.pure [] ⟨rfl,fun _ h=>by cases h⟩
 |k+1=>C1.bind h fun a=>C1.bind (C1.many h k) fun as=>C1.pure (a::as) fun h1 h2=>⟨by rw [D2n,h1.1],fun y hy=>by
   rcases List.mem_cons.1 hy with e|e
   ·subst e;exact h2
   ·exact h1.2 y e⟩
theorem C1.list {α:Type} {Q P:Rd α} {W:α->Prop} (h:C1 Q P W) (he:Z2 P):C1 (J5 F9 Q) (J5 B1 P) (L8 W) where
 sim:=C9a h.sim he
 shr:=fun l a r e=>by
  obtain ⟨n,l',h1,h2⟩:=N4 e;split at h2
  ·cases h2
  ·exact Nat.le_trans ((C1.many h _).shr _ _ _ h2) (C1.int.shr _ _ _ h1)
 shrQ:=fun l a r e=>by
  obtain ⟨n,l',h1,h2⟩:=N4 e;split at h2
  ·cases h2
  ·exact Nat.le_trans ((C1.many h _).shrQ _ _ _ h2) (C1.int.shrQ _ _ _ h1)
 loc:=fun ns a rest e=>by
  obtain ⟨n,l',h1,h2⟩:=N4 e;split at h2
  ·cases h2
  rename_i hc;obtain ⟨p1,e1,f1⟩:=C1.int.loc _ _ _ h1;obtain ⟨p2,e2,f2⟩:=(C1.many h _).loc _ _ _ h2;refine ⟨p1++p2,by rw [e1,e2,D2y],fun r' => ?_⟩
  have hm:=B4F he _ _ _ _ (f2 []);rw [D2a,D2A] at hm;unfold J5;rw [D2y,A8R (f1 _)];show (if n<0\/((p2++r').length:Int)<n then none else L3 P n.toNat (p2++r'))=_
  rw [if_neg (by rw [D2a];omega),f2]
 wf:=fun ns a rest hw hl e=>by
  obtain ⟨n,l',h1,h2⟩:=N4 e;split at h2
  ·cases h2
  rename_i hc;obtain ⟨w1,w2⟩:=C1.int.wf _ _ _ hw hl h1;have hs:=C1.int.shr _ _ _ h1;obtain ⟨⟨w3,w4⟩,w5⟩:=(C1.many h _).wf _ _ _ w2 (by omega) h2
  exact ⟨⟨by omega,w4⟩,w5⟩
def Y8 (i:Rd Int) (p q:Int):Rd Int:=B8 i fun n l=>if n<p\/q<n then none else some (n,l)
theorem C1.within (p q:Int):C1 (Y8 F9 p q) (Y8 B1 p q) (fun n=>E0 .i64 n/\p<=n/\n<=q):=by
 refine C1.bind C1.int fun n=> ?_
 by_cases h:n<p\/q<n
 ·have e:(fun l:List Int=>if n<p\/q<n then none else some (n,l))=(B4Q:Rd Int):=by funext l;rw [if_pos h];rfl
  rw [e];exact C1.fail
 ·have e:(fun l:List Int=>if n<p\/q<n then none else some (n,l))=(H8 n:Rd Int):=by funext l;rw [if_neg h];rfl
  rw [e];exact C1.pure n fun w=>⟨w,by omega⟩
def B4r (i:Rd Int):Rd E1:=B8 i fun a=>B8 i fun b=>B8 i fun c=>B8 i fun d=>B8 i fun e=>B8 i fun f=>B8 i fun g=>B8 i fun h=>H8 ⟨a,b,c,d,e,f,g,h⟩
def A44 (i:Rd Int):Rd D7:=B8 i fun t=>B8 i fun v=>H8 ⟨t,v⟩
def A0P (i:Rd Int):Rd A9:=B8 i fun t=>B8 i fun v=>H8 ⟨t,v⟩
def A45 (i:Rd Int):Rd D0:=B8 i fun a=>B8 i fun b=>B8 i fun c=>B8 i fun d=>B8 i fun e=>B8 i fun f=>B8 i fun g=>H8 ⟨a,b,c,d,e,f,g⟩
def A7Z (i:Rd Int):Rd H4:=B8 i fun t=>B8 i fun v=>H8 ⟨t,v⟩
def A99 (i:Rd Int):Rd E3:=B8 i fun a=>B8 i fun b=>B8 i fun c=>H8 ⟨a,b,c⟩
def B1B (i:Rd Int):Rd F6:=B8 i fun a=>B8 i fun b=>B8 i fun c=>H8 ⟨a,b,c⟩
def A5p (i:Rd Int):Rd C8:=B8 i fun a=>B8 i fun b=>B8 i fun c=>B8 i fun d=>B8 (J5 i (A7Z i)) fun l=>H8 ⟨a,b,c,d,l⟩
def A4p (i:Rd Int):Rd D1:=B8 i fun a=>B8 i fun b=>B8 i fun c=>B8 i fun d=>B8 (J5 i (B1B i)) fun l=>H8 ⟨a,b,c,⟨d,l⟩⟩
def zS (c:E1):B0:= { A5l with Ak:=c}
def stR (i:Rd Int) (c:E1):Rd B0:=
 if c.Bb=1 then B8 i fun w=>B8 i fun cap=>B8 i fun now=>B8 (J5 i (A44 i)) fun l=>H8 { zS c with Al:=⟨w,cap,now,l⟩}
 else if c.Bb=2 then B8 i fun w=>B8 i fun k=>B8 i fun cap=>B8 i fun now=>B8 (J5 i (A0P i)) fun l=>H8 { zS c with Ar:=⟨w,k,cap,now,l⟩}
 else if c.Bb=3 then B8 i fun w=>B8 i fun k=>B8 i fun cap=>B8 i fun mx=>B8 i fun now=>B8 (J5 i (A0P i)) fun l=>H8 { zS c with Sum:=⟨w,k,cap,mx,now,l⟩}
 else if c.Bb=4 then B8 i fun ag=>B8 i fun w=>B8 i fun k=>B8 i fun cap=>B8 i fun now=>B8 i fun sq=>B8 (J5 i (A45 i)) fun l=>H8 { zS c with Ao:=⟨ag,w,k,cap,now,sq,l⟩}
 else if c.Bb=5 then B8 i fun w=>B8 i fun k=>B8 i fun cap=>B8 i fun now=>B8 i fun sq=>B8 (J5 i (A45 i)) fun l=>H8 { zS c with Ap:=⟨w,k,cap,now,sq,l⟩}
 else if c.Bb=6 then B8 i fun p=>B8 i fun ln=>B8 i fun now=>B8 (J5 i (A6s i)) fun l=>H8 { zS c with Bf:=⟨p,ln,now,l⟩}
 else if c.Bb=7 then B8 i fun now=>B8 (J5 i i) fun l=>H8 { zS c with Au:=⟨now,l⟩}
 else if c.Bb=8 then B8 (Y8 i 0 1) fun mx=>B8 i fun w=>B8 i fun cap=>B8 i fun now=>B8 (J5 i (A44 i)) fun l=>H8 { zS c with Ae:=⟨mx==1,w,cap,now,l⟩}
 else if c.Bb=9 then B8 (J5 i (A5p i)) fun l=>H8 { zS c with Am:=⟨l⟩}
 else if c.Bb=10 then B8 i fun k=>B8 i fun cap=>B8 i fun n=>B8 (J5 i (A99 i)) fun l=>H8 { zS c with Ah:=⟨k,cap,n,l⟩}
 else if c.Bb=11 then B8 i fun w=>B8 i fun k=>B8 i fun cap=>B8 i fun now=>B8 (J5 i (A4p i)) fun l=>H8 { zS c with Aa:=⟨w,k,cap,now,l⟩}
 else B4Q
def A0j (i:Rd Int):Rd C4:=B8 i fun id=>B8 (B4r i) fun c=>B8 (stR i c) fun s=>H8 ⟨id,s⟩
def A1b (i:Rd Int):Rd B9:=B8 (Y8 i 1 1) fun _=>B8 i fun now=>B8 i fun lim=>B8 (Y8 i 0 64) fun n=>B8 (L3 (A0j i) n.toNat) fun rs=>H8 ⟨now,lim,rs⟩
theorem D0N:C1 (B4r F9) (B4r B1) A0y:=
 C1.bind C1.int fun _=>C1.bind C1.int fun _=>C1.bind C1.int fun _=>C1.bind C1.int fun _=>C1.bind C1.int fun _=>C1.bind C1.int fun _=>C1.bind C1.int fun _=>C1.bind C1.int fun _=>C1.pure _ fun h g f e d c b a=>⟨a,b,c,d,e,f,g,h⟩
theorem C5l:C1 (A44 F9) (A44 B1) R7:=C1.bind C1.int fun _=>C1.bind C1.int fun _=>C1.pure _ fun b a=>⟨a,b⟩
theorem C0X:C1 (A0P F9) (A0P B1) O8:=C1.bind C1.int fun _=>C1.bind C1.int fun _=>C1.pure _ fun b a=>⟨a,b⟩
theorem C5o:C1 (A45 F9) (A45 B1) R9:=
 C1.bind C1.int fun _=>C1.bind C1.int fun _=>C1.bind C1.int fun _=>C1.bind C1.int fun _=>C1.bind C1.int fun _=>C1.bind C1.int fun _=>C1.bind C1.int fun _=>C1.pure _ fun g f e d c b a=>⟨a,b,c,d,e,f,g⟩
theorem C5R (n:Int):E0 .u64 (F3 n):=by
 rw [A2x];simp [E0,Lit.wf,IntKind.min,IntKind.max,IntKind.signed,IntKind.bits];omega
theorem D0v:C1 (A6s F9) (A6s B1) S0:=C1.bind C1.int fun _=>C1.bind C1.int fun _=>C1.pure _ fun _ _=>⟨C5R _,C5R _⟩
theorem C96:C1 (A7Z F9) (A7Z B1) R8:=C1.bind C1.int fun _=>C1.bind C1.int fun _=>C1.pure _ fun b a=>⟨a,b⟩
theorem D1h:C1 (A99 F9) (A99 B1) R3:=C1.bind C1.int fun _=>C1.bind C1.int fun _=>C1.bind C1.int fun _=>C1.pure _ fun c b a=>⟨a,b,c⟩
theorem D0T:C1 (B1B F9) (B1B B1) P7:=C1.bind C1.int fun _=>C1.bind C1.int fun _=>C1.bind C1.int fun _=>C1.pure _ fun c b a=>⟨a,b,c⟩
theorem B0H {α:Type} {f g:Int->Rd α} {W:Int->α->Prop} (hf:∀a,C1 (f a) (g a) (W a)):Z2 (B8 B1 g)/\Z2 (B8 F9 f):=
 ⟨C05 C06 fun a=>(hf a).shr,C05 B6S fun a=>(hf a).shrQ⟩
theorem B6g:Z2 (A44 B1)/\Z2 (A44 F9):=B0H (W:=fun _ _=>True) fun _=>C1.bind C1.int fun _=>C1.pure _ fun _=>trivial
theorem B2R:Z2 (A0P B1)/\Z2 (A0P F9):=B0H (W:=fun _ _=>True) fun _=>C1.bind C1.int fun _=>C1.pure _ fun _=>trivial
theorem B6n:Z2 (A45 B1)/\Z2 (A45 F9):=B0H (W:=fun _ _=>True) fun _=>C1.bind C1.int fun _=>C1.bind C1.int fun _=>C1.bind C1.int fun _=>C1.bind C1.int fun _=>C1.bind C1.int fun _=>C1.bind C1.int fun _=>C1.pure _ fun _ _ _ _ _ _=>trivial
theorem C1D:Z2 (A6s B1)/\Z2 (A6s F9):=B0H (W:=fun _ _=>True) fun _=>C1.bind C1.int fun _=>C1.pure _ fun _=>trivial
theorem C1l:Z2 (A7Z B1)/\Z2 (A7Z F9):=B0H (W:=fun _ _=>True) fun _=>C1.bind C1.int fun _=>C1.pure _ fun _=>trivial
theorem C33:Z2 (A99 B1)/\Z2 (A99 F9):=B0H (W:=fun _ _=>True) fun _=>C1.bind C1.int fun _=>C1.bind C1.int fun _=>C1.pure _ fun _ _=>trivial
theorem C25:Z2 (B1B B1)/\Z2 (B1B F9):=B0H (W:=fun _ _=>True) fun _=>C1.bind C1.int fun _=>C1.bind C1.int fun _=>C1.pure _ fun _ _=>trivial
theorem C3m:C1 (J5 F9 (A7Z F9)) (J5 B1 (A7Z B1)) (L8 R8):=C1.list C96 C1l.1
theorem C5g:C1 (J5 F9 (B1B F9)) (J5 B1 (B1B B1)) (L8 P7):=C1.list D0T C25.1
theorem C8s:C1 (A5p F9) (A5p B1) R2:=
 C1.bind C1.int fun _=>C1.bind C1.int fun _=>C1.bind C1.int fun _=>C1.bind C1.int fun _=>C1.bind C3m fun _=>C1.pure _ fun e d c b a=>⟨a,b,c,d,e⟩
theorem C8o:C1 (A4p F9) (A4p B1) R1:=
 C1.bind C1.int fun _=>C1.bind C1.int fun _=>C1.bind C1.int fun _=>C1.bind C1.int fun _=>C1.bind C5g fun _=>C1.pure _ fun e d c b a=>⟨a,b,c,d,e⟩
theorem B81:Z2 (A5p B1)/\Z2 (A5p F9):=B0H (W:=fun _ _=>True) fun _=>C1.bind C1.int fun _=>C1.bind C1.int fun _=>C1.bind C1.int fun _=>C1.bind C3m fun _=>C1.pure _ fun _ _ _ _=>trivial
theorem B8M:Z2 (A4p B1)/\Z2 (A4p F9):=B0H (W:=fun _ _=>True) fun _=>C1.bind C1.int fun _=>C1.bind C1.int fun _=>C1.bind C1.int fun _=>C1.bind C5g fun _=>C1.pure _ fun _ _ _ _=>trivial
theorem zI:E0 .i64 0:=A1Y.2 (by decide)
theorem zL {α:Type} (W:α->Prop):L8 W ([]:List α):=⟨Nat.zero_le _,fun _ h=>by cases h⟩
theorem D1L (c:E1):C1 (stR F9 c) (stR B1 c) (fun s=>A0y c->L2 s):=by
 have z1:A3T A5l.Al:=⟨zI,zI,zI,zL _⟩;have z2:A4y A5l.Ar:=⟨zI,zI,zI,zI,zL _⟩;have z3:A6X A5l.Sum:=⟨zI,zI,zI,zI,zI,zL _⟩;have z4:A3V A5l.Ao:=⟨zI,zI,zI,zI,zI,zI,zL _⟩;have z5:A3W A5l.Ap:=⟨zI,zI,zI,zI,zI,zL _⟩;have z6:A5I A5l.Bf:=⟨zI,zI,zI,zL _⟩;have z7:A4z A5l.Au:=⟨zI,zL _⟩;have z8:A20 A5l.Ae:=⟨trivial,zI,zI,zI,zL _⟩;have z9:A3U A5l.Am:=zL _;have z10:A21 A5l.Ah:=⟨zI,zI,zI,zL _⟩;have z11:A1X A5l.Aa:=⟨zI,zI,zI,zI,zL _⟩;unfold stR
 by_cases h1:c.Bb=1
 ·rw [if_pos h1,if_pos h1];exact C1.bind C1.int fun _=>C1.bind C1.int fun _=>C1.bind C1.int fun _=>C1.bind (C1.list C5l B6g.1) fun _=>C1.pure _ fun d c b a wc=>⟨wc,⟨a,b,c,d⟩,z2,z3,z4,z5,z6,z7,z8,z9,z10,z11⟩
 rw [if_neg h1,if_neg h1]
 by_cases h2:c.Bb=2
 ·rw [if_pos h2,if_pos h2];exact C1.bind C1.int fun _=>C1.bind C1.int fun _=>C1.bind C1.int fun _=>C1.bind C1.int fun _=>C1.bind (C1.list C0X B2R.1) fun _=>C1.pure _ fun e d c b a wc=>⟨wc,z1,⟨a,b,c,d,e⟩,z3,z4,z5,z6,z7,z8,z9,z10,z11⟩
 rw [if_neg h2,if_neg h2]
 by_cases h3:c.Bb=3
 ·rw [if_pos h3,if_pos h3];exact C1.bind C1.int fun _=>C1.bind C1.int fun _=>C1.bind C1.int fun _=>C1.bind C1.int fun _=>C1.bind C1.int fun _=>C1.bind (C1.list C0X B2R.1) fun _=>C1.pure _ fun f e d c b a wc=>⟨wc,z1,z2,⟨a,b,c,d,e,f⟩,z4,z5,z6,z7,z8,z9,z10,z11⟩
 rw [if_neg h3,if_neg h3]
 by_cases h4:c.Bb=4
 ·rw [if_pos h4,if_pos h4];exact C1.bind C1.int fun _=>C1.bind C1.int fun _=>C1.bind C1.int fun _=>C1.bind C1.int fun _=>C1.bind C1.int fun _=>C1.bind C1.int fun _=>C1.bind (C1.list C5o B6n.1) fun _=>C1.pure _ fun g f e d c b a wc=>⟨wc,z1,z2,z3,⟨a,b,c,d,e,f,g⟩,z5,z6,z7,z8,z9,z10,z11⟩
 rw [if_neg h4,if_neg h4]
 by_cases h5:c.Bb=5
 ·rw [if_pos h5,if_pos h5];exact C1.bind C1.int fun _=>C1.bind C1.int fun _=>C1.bind C1.int fun _=>C1.bind C1.int fun _=>C1.bind C1.int fun _=>C1.bind (C1.list C5o B6n.1) fun _=>C1.pure _ fun f e d c b a wc=>⟨wc,z1,z2,z3,z4,⟨a,b,c,d,e,f⟩,z6,z7,z8,z9,z10,z11⟩
 rw [if_neg h5,if_neg h5]
 by_cases h6:c.Bb=6
 ·rw [if_pos h6,if_pos h6];exact C1.bind C1.int fun _=>C1.bind C1.int fun _=>C1.bind C1.int fun _=>C1.bind (C1.list D0v C1D.1) fun _=>C1.pure _ fun d c b a wc=>⟨wc,z1,z2,z3,z4,z5,⟨a,b,c,d⟩,z7,z8,z9,z10,z11⟩
 rw [if_neg h6,if_neg h6]
 by_cases h7:c.Bb=7
 ·rw [if_pos h7,if_pos h7];exact C1.bind C1.int fun _=>C1.bind (C1.list C1.int C06) fun _=>C1.pure _ fun b a wc=>⟨wc,z1,z2,z3,z4,z5,z6,⟨a,b⟩,z8,z9,z10,z11⟩
 rw [if_neg h7,if_neg h7]
 by_cases h8:c.Bb=8
 ·rw [if_pos h8,if_pos h8];exact C1.bind (C1.within 0 1) fun _=>C1.bind C1.int fun _=>C1.bind C1.int fun _=>C1.bind C1.int fun _=>C1.bind (C1.list C5l B6g.1) fun _=>C1.pure _ fun e d c b _ wc=>⟨wc,z1,z2,z3,z4,z5,z6,z7,⟨trivial,b,c,d,e⟩,z9,z10,z11⟩
 rw [if_neg h8,if_neg h8]
 by_cases h9:c.Bb=9
 ·rw [if_pos h9,if_pos h9];exact C1.bind (C1.list C8s B81.1) fun _=>C1.pure _ fun a wc=>⟨wc,z1,z2,z3,z4,z5,z6,z7,z8,a,z10,z11⟩
 rw [if_neg h9,if_neg h9]
 by_cases h10:c.Bb=10
 ·rw [if_pos h10,if_pos h10];exact C1.bind C1.int fun _=>C1.bind C1.int fun _=>C1.bind C1.int fun _=>C1.bind (C1.list D1h C33.1) fun _=>C1.pure _ fun d c b a wc=>⟨wc,z1,z2,z3,z4,z5,z6,z7,z8,z9,⟨a,b,c,d⟩,z11⟩
 rw [if_neg h10,if_neg h10]
 by_cases h11:c.Bb=11
 ·rw [if_pos h11,if_pos h11];exact C1.bind C1.int fun _=>C1.bind C1.int fun _=>C1.bind C1.int fun _=>C1.bind C1.int fun _=>C1.bind (C1.list C8o B8M.1) fun _=>C1.pure _ fun e d c b a wc=>⟨wc,z1,z2,z3,z4,z5,z6,z7,z8,z9,z10,⟨a,b,c,d,e⟩⟩
 rw [if_neg h11,if_neg h11];exact C1.fail
theorem D09:C1 (A0j F9) (A0j B1) M4:=
 C1.bind C1.int fun _=>C1.bind D0N fun c=>C1.bind (D1L c) fun _=>C1.pure _ fun hs hc hi=>⟨hi,hs hc⟩
theorem B3G:C1 (A1b F9) (A1b B1) G7:=
 C1.bind (C1.within 1 1) fun _=>C1.bind C1.int fun _=>C1.bind C1.int fun _=>C1.bind (C1.within 0 64) fun n=>C1.bind (C1.many D09 n.toNat) fun _=>C1.pure _ fun hm hn hl hw _=>⟨hw,hl,⟨by rw [hm.1];have:=hn.2;omega,hm.2⟩⟩
end Go.Win
namespace Go.Win
open Go.Vc Go.Dec
theorem Ta.lst {α:Type} {l:List Int} (hb:V8 l) (hl:l.length<=100000000) {Q:Rd α} (hE:Z2 Q) (c:Nat) (hc:c<=1000) (F:Int->Bool->Option (Int×Bool×α)) (hF:Ta l F Q)
  (S:Int×Bool×List α×Int->Option ((Int×Bool×List α×Int)⊕(Int×Bool×List α)))
  (hS:∀(a:Int) (bad:Bool) (out:List α) (k:Int),S (a,bad,out,k)=cond (decide (k>0)&& !bad) (Option.bind (F a bad) fun q=>ck (decide ((out.length+1)*c<=140737488355328)) (some (.inl (q.1,q.2.1,out++ [q.2.2],A3 (k-1))))) (Option.map Sum.inr (some (a,bad,out)))) (x0:Int):
  Ta l (fun a b=>Option.bind (H9 0 (A3 ((l.length:Int)-a)) l a b x0) fun y=>loop S (y.1,y.2.1, [],y.2.2)) (J5 F9 Q):=by
 refine Ta.list hb hl hE (fun a out k ha ho=> ?_) (fun a out k=> ?_) (fun a out=> ?_) x0
 ·obtain ⟨a1,b1,x,e1,u1,_,p1⟩:=hF a false ha;refine ⟨a1,b1,x, ?_,u1,p1 rfl⟩;have hm:(out.length+1)*c<=100000001*1000:=Nat.mul_le_mul (by omega) hc
  rw [hS,D19 (by omega),D2h,Bool.and_self,D18,e1,D14,K3 (by rw [D16];omega),D5 (by omega) (by omega)]
  dsimp only
  congr 5
  omega
 ·rw [hS,D2g,Bool.and_false,D17];rfl
 ·rw [hS,D2b (by omega),D2z,D17];rfl
theorem Ta.cg {α:Type} {l:List Int} {F G:Int->Bool->Option (Int×Bool×α)} {Q:Rd α} (h:Ta l F Q) (e:∀a b,G a b=F a b):Ta l G Q:=by
 have:G=F:=by funext a b;exact e a b
 rw [this];exact h
section
variable {l:List Int} (hb:V8 l) (hl:l.length<=100000000)
include hb hl
theorem Ta.items3:Ta l (fun a b=>A1m l a b []) (J5 F9 (A44 F9)):=
 Ta.cg (Ta.lst hb hl B6g.2 16 (by decide) (tB (fun a b=>B6 l a b 0) fun t=>tB (fun a b=>B6 l a b 0) fun v=>tP ⟨t,v⟩) (Ta.bind (Ta.int hb hl 0) fun _=>Ta.bind (Ta.int hb hl 0) fun _=>Ta.pure l _)
  (fun s=>X7 l s.1 s.2.1 s.2.2.1 s.2.2.2) (fun a bad out k=>by
   dsimp only;unfold X7 A4T;simp only [tB,tP,Option.bind_assoc,D14]
   rfl) 0) fun a b=>by
  unfold A1m;rw [B6O]
  rfl
theorem Ta.buckets3:Ta l (fun a b=>A0s l a b []) (J5 F9 (A0P F9)):=
 Ta.cg (Ta.lst hb hl B2R.2 16 (by decide) (tB (fun a b=>B6 l a b 0) fun t=>tB (fun a b=>E6 l a b 0) fun v=>tP ⟨t,v⟩) (Ta.bind (Ta.int hb hl 0) fun _=>Ta.bind (Ta.small hb hl 0) fun _=>Ta.pure l _)
  (fun s=>V7 l s.1 s.2.1 s.2.2.1 s.2.2.2) (fun a bad out k=>by
   dsimp only;unfold V7 A3S;simp only [tB,tP,Option.bind_assoc,D14]
   rfl) 0) fun a b=>by
  unfold A0s;rw [B6O]
  rfl
theorem Ta.marks3:Ta l (fun a b=>A1n l a b []) (J5 F9 (A45 F9)):=
 Ta.cg (Ta.lst hb hl B6n.2 56 (by decide) (tB (fun a b=>B6 l a b 0) fun x1=>tB (fun a b=>B6 l a b 0) fun x2=>tB (fun a b=>B6 l a b 0) fun x3=>tB (fun a b=>B6 l a b 0) fun x4=>tB (fun a b=>B6 l a b 0) fun x5=>tB (fun a b=>B6 l a b 0) fun x6=>tB (fun a b=>B6 l a b 0) fun x7=>tP ⟨x1,x2,x3,x4,x5,x6,x7⟩)
  (Ta.bind (Ta.int hb hl 0) fun _=>Ta.bind (Ta.int hb hl 0) fun _=>Ta.bind (Ta.int hb hl 0) fun _=>Ta.bind (Ta.int hb hl 0) fun _=>Ta.bind (Ta.int hb hl 0) fun _=>Ta.bind (Ta.int hb hl 0) fun _=>Ta.bind (Ta.int hb hl 0) fun _=>Ta.pure l _)
  (fun s=>X9 l s.1 s.2.1 s.2.2.1 s.2.2.2) (fun a bad out k=>by
   dsimp only;unfold X9 A4V;simp only [tB,tP,Option.bind_assoc,D14]
   rfl) 0) fun a b=>by
  unfold A1n;rw [B6O]
  rfl
theorem Ta.tups3:Ta l (fun a b=>A2k l a b []) (J5 F9 (A99 F9)):=
 Ta.lst hb hl C33.2 24 (by decide) (tB (fun a b=>B6 l a b 0) fun x1=>tB (fun a b=>B6 l a b 0) fun x2=>tB (fun a b=>B6 l a b 0) fun x3=>tP ⟨x1,x2,x3⟩)
  (Ta.bind (Ta.int hb hl 0) fun _=>Ta.bind (Ta.int hb hl 0) fun _=>Ta.bind (Ta.int hb hl 0) fun _=>Ta.pure l _)
  (fun s=>W8 l s.1 s.2.1 s.2.2.1 s.2.2.2) (fun a bad out k=>by
   dsimp only;unfold W8 A4Z;simp only [tB,tP,Option.bind_assoc,D14]
   rfl) 0
theorem Ta.wides3:Ta l (fun a b=>A29 l a b []) (J5 F9 (A6s F9)):=
 Ta.lst hb hl C1D.2 16 (by decide) (fun a b=>A3p l a b ⟨0,0⟩) (Ta.wide hb hl _)
  (fun s=>A1g l s.1 s.2.1 s.2.2.1 s.2.2.2) (fun a bad out k=>rfl) 0
theorem Ta.ints4:Ta l (fun a b=>A3o l a b []) (J5 F9 F9):=
 Ta.cg (Ta.lst hb hl B6S 8 (by decide) (fun a b=>B6 l a b 0) (Ta.int hb hl 0)
  (fun s=>A2l l s.1 s.2.1 s.2.2.1 s.2.2.2) (fun a bad out k=>rfl) 0) fun a b=>by
  unfold A3o;rw [B6O]
  rfl
theorem Ta.links3:Ta l (fun a b=>A0C l a b) (J5 F9 (A7Z F9)):=
 Ta.lst hb hl C1l.2 16 (by decide) (tB (fun a b=>B6 l a b 0) fun t=>tB (fun a b=>B6 l a b 0) fun v=>tP ⟨t,v⟩) (Ta.bind (Ta.int hb hl 0) fun _=>Ta.bind (Ta.int hb hl 0) fun _=>Ta.pure l _)
  (fun s=>X8 l s.1 s.2.1 s.2.2.1 s.2.2.2) (fun a bad out k=>by
   dsimp only;unfold X8 A4R;simp only [tB,tP,Option.bind_assoc,D14]
   rfl) 0
theorem Ta.ents3:Ta l (fun a b=>A0m l a b) (J5 F9 (B1B F9)):=
 Ta.lst hb hl C25.2 24 (by decide) (tB (fun a b=>B6 l a b 0) fun x1=>tB (fun a b=>B6 l a b 0) fun x2=>tB (fun a b=>B6 l a b 0) fun x3=>tP ⟨x1,x2,x3⟩)
  (Ta.bind (Ta.int hb hl 0) fun _=>Ta.bind (Ta.int hb hl 0) fun _=>Ta.bind (Ta.int hb hl 0) fun _=>Ta.pure l _)
  (fun s=>W7 l s.1 s.2.1 s.2.2.1 s.2.2.2) (fun a bad out k=>by
   dsimp only;unfold W7 A4P;simp only [tB,tP,Option.bind_assoc,D14]
   rfl) 0
theorem Ta.chains3:Ta l (fun a b=>A2h l a b []) (J5 F9 (A5p F9)):=
 Ta.lst hb hl B81.2 56 (by decide) (tB (fun a b=>B6 l a b 0) fun x1=>tB (fun a b=>E6 l a b 0) fun x2=>tB (fun a b=>B6 l a b 0) fun x3=>tB (fun a b=>B6 l a b 0) fun x4=>tB (fun a b=>A0C l a b) fun x5=>tP ⟨x1,x2,x3,x4,x5⟩)
  (Ta.bind (Ta.int hb hl 0) fun _=>Ta.bind (Ta.small hb hl 0) fun _=>Ta.bind (Ta.int hb hl 0) fun _=>Ta.bind (Ta.int hb hl 0) fun _=>Ta.bind (Ta.links3 hb hl) fun _=>Ta.pure l _)
  (fun s=>W6 l s.1 s.2.1 s.2.2.1 s.2.2.2) (fun a bad out k=>by
   dsimp only;unfold W6 A4X A6D;simp only [tB,tP,Option.bind_assoc,D14]
   rfl) 0
theorem Ta.blocks3:Ta l (fun a b=>A2f l a b []) (J5 F9 (A4p F9)):=
 Ta.lst hb hl B8M.2 56 (by decide) (tB (fun a b=>B6 l a b 0) fun x1=>tB (fun a b=>B6 l a b 0) fun x2=>tB (fun a b=>E6 l a b 0) fun x3=>tB (fun a b=>B6 l a b 0) fun x4=>tB (fun a b=>A0m l a b) fun x5=>tP ⟨x1,x2,x3,⟨x4,x5⟩⟩)
  (Ta.bind (Ta.int hb hl 0) fun _=>Ta.bind (Ta.int hb hl 0) fun _=>Ta.bind (Ta.small hb hl 0) fun _=>Ta.bind (Ta.int hb hl 0) fun _=>Ta.bind (Ta.ents3 hb hl) fun _=>Ta.pure l _)
  (fun s=>W5 l s.1 s.2.1 s.2.2.1 s.2.2.2) (fun a bad out k=>by
   dsimp only;unfold W5 A41 A6C;simp only [tB,tP,Option.bind_assoc,D14]
   rfl) 0
theorem Ta.config3 (c:E1):Ta l (fun a b=>A17 l a b c) (B4r F9):=by
 have h:=Ta.bind (Ta.small hb hl c.Bb) fun x1=>Ta.bind (Ta.small hb hl c.Bh) fun x2=>Ta.bind (Ta.int hb hl c.W) fun x3=>Ta.bind (Ta.small hb hl c.K) fun x4=>Ta.bind (Ta.small hb hl c.Cap) fun x5=>Ta.bind (Ta.small hb hl c.P) fun x6=>Ta.bind (Ta.small hb hl c.Aj) fun x7=>Ta.bind (Ta.int hb hl c.Bj) fun x8=>Ta.pure l (E1.mk x1 x2 x3 x4 x5 x6 x7 x8);exact h
theorem Ta.state3 (c:E1):Ta l (fun a b=>J0 l a b (zS c)) (stR F9 c):=by
 unfold stR
 by_cases h1:c.Bb=1
 ·rw [if_pos h1];refine Ta.cg (Ta.bind (Ta.int hb hl 0) fun w=>Ta.bind (Ta.small hb hl 0) fun cap=>Ta.bind (Ta.int hb hl 0) fun now=>Ta.bind (Ta.items3 hb hl) fun it=>Ta.pure l { zS c with Al:=⟨w,cap,now,it⟩}) fun a b=> ?_
  unfold J0;rw [show (zS c).Ak.Bb=1 from h1]
  rfl
 rw [if_neg h1]
 by_cases h2:c.Bb=2
 ·rw [if_pos h2];refine Ta.cg (Ta.bind (Ta.int hb hl 0) fun w=>Ta.bind (Ta.small hb hl 0) fun k=>Ta.bind (Ta.small hb hl 0) fun cap=>Ta.bind (Ta.int hb hl 0) fun now=>Ta.bind (Ta.buckets3 hb hl) fun it=>Ta.pure l { zS c with Ar:=⟨w,k,cap,now,it⟩}) fun a b=> ?_
  unfold J0;rw [show (zS c).Ak.Bb=2 from h2]
  rfl
 rw [if_neg h2]
 by_cases h3:c.Bb=3
 ·rw [if_pos h3];refine Ta.cg (Ta.bind (Ta.int hb hl 0) fun w=>Ta.bind (Ta.small hb hl 0) fun k=>Ta.bind (Ta.small hb hl 0) fun cap=>Ta.bind (Ta.small hb hl 0) fun mx=>Ta.bind (Ta.int hb hl 0) fun now=>Ta.bind (Ta.buckets3 hb hl) fun it=>Ta.pure l { zS c with Sum:=⟨w,k,cap,mx,now,it⟩}) fun a b=> ?_
  unfold J0;rw [show (zS c).Ak.Bb=3 from h3]
  rfl
 rw [if_neg h3]
 by_cases h4:c.Bb=4
 ·rw [if_pos h4];refine Ta.cg (Ta.bind (Ta.small hb hl 0) fun ag=>Ta.bind (Ta.int hb hl 0) fun w=>Ta.bind (Ta.small hb hl 0) fun k=>Ta.bind (Ta.small hb hl 0) fun cap=>Ta.bind (Ta.int hb hl 0) fun now=>Ta.bind (Ta.int hb hl 0) fun sq=>Ta.bind (Ta.marks3 hb hl) fun it=>Ta.pure l { zS c with Ao:=⟨ag,w,k,cap,now,sq,it⟩}) fun a b=> ?_
  unfold J0;rw [show (zS c).Ak.Bb=4 from h4]
  rfl
 rw [if_neg h4]
 by_cases h5:c.Bb=5
 ·rw [if_pos h5];refine Ta.cg (Ta.bind (Ta.int hb hl 0) fun w=>Ta.bind (Ta.small hb hl 0) fun k=>Ta.bind (Ta.small hb hl 0) fun cap=>Ta.bind (Ta.int hb hl 0) fun now=>Ta.bind (Ta.int hb hl 0) fun sq=>Ta.bind (Ta.marks3 hb hl) fun it=>Ta.pure l { zS c with Ap:=⟨w,k,cap,now,sq,it⟩}) fun a b=> ?_
  unfold J0;rw [show (zS c).Ak.Bb=5 from h5]
  rfl
 rw [if_neg h5]
 by_cases h6:c.Bb=6
 ·rw [if_pos h6];refine Ta.cg (Ta.bind (Ta.small hb hl 0) fun p=>Ta.bind (Ta.int hb hl 0) fun ln=>Ta.bind (Ta.int hb hl 0) fun now=>Ta.bind (Ta.wides3 hb hl) fun it=>Ta.pure l { zS c with Bf:=⟨p,ln,now,it⟩}) fun a b=> ?_
  unfold J0;rw [show (zS c).Ak.Bb=6 from h6]
  rfl
 rw [if_neg h6]
 by_cases h7:c.Bb=7
 ·rw [if_pos h7];refine Ta.cg (Ta.bind (Ta.int hb hl 0) fun now=>Ta.bind (Ta.ints4 hb hl) fun it=>Ta.pure l { zS c with Au:=⟨now,it⟩}) fun a b=> ?_
  unfold J0;rw [show (zS c).Ak.Bb=7 from h7]
  rfl
 rw [if_neg h7]
 by_cases h8:c.Bb=8
 ·rw [if_pos h8];refine Ta.cg (Ta.bind (Ta.within hb hl 0 1 0) fun mx=>Ta.bind (Ta.int hb hl 0) fun w=>Ta.bind (Ta.small hb hl 0) fun cap=>Ta.bind (Ta.int hb hl 0) fun now=>Ta.bind (Ta.items3 hb hl) fun it=>Ta.pure l { zS c with Ae:=⟨mx==1,w,cap,now,it⟩}) fun a b=> ?_
  unfold J0;rw [show (zS c).Ak.Bb=8 from h8];show (Option.bind (Option.bind (H9 0 1 l a b 0) _) _)=_;rw [Option.bind_assoc]
  rfl
 rw [if_neg h8]
 by_cases h9:c.Bb=9
 ·rw [if_pos h9];refine Ta.cg (Ta.bind (Ta.chains3 hb hl) fun it=>Ta.pure l { zS c with Am:=⟨it⟩}) fun a b=> ?_
  unfold J0;rw [show (zS c).Ak.Bb=9 from h9]
  rfl
 rw [if_neg h9]
 by_cases h10:c.Bb=10
 ·rw [if_pos h10];refine Ta.cg (Ta.bind (Ta.small hb hl 0) fun k=>Ta.bind (Ta.small hb hl 0) fun cap=>Ta.bind (Ta.int hb hl 0) fun n=>Ta.bind (Ta.tups3 hb hl) fun it=>Ta.pure l { zS c with Ah:=⟨k,cap,n,it⟩}) fun a b=> ?_
  unfold J0;rw [show (zS c).Ak.Bb=10 from h10]
  rfl
 rw [if_neg h10]
 by_cases h11:c.Bb=11
 ·rw [if_pos h11];refine Ta.cg (Ta.bind (Ta.int hb hl 0) fun w=>Ta.bind (Ta.small hb hl 0) fun k=>Ta.bind (Ta.small hb hl 0) fun cap=>Ta.bind (Ta.int hb hl 0) fun now=>Ta.bind (Ta.blocks3 hb hl) fun it=>Ta.pure l { zS c with Aa:=⟨w,k,cap,now,it⟩}) fun a b=> ?_
  unfold J0;rw [show (zS c).Ak.Bb=11 from h11]
  rfl
 rw [if_neg h11];intro a bad ha;refine ⟨a,true,zS c, ?_,ha,fun _=>rfl,fun _=>rfl⟩;dsimp only;unfold J0;have hk: ∀n:Int,c.Bb≠n->((zS c).Ak.Bb==n)=false:=fun n h=>D2U.2 h;rw [hk 1 h1,hk 2 h2,hk 3 h3,hk 4 h4,hk 5 h5,hk 6 h6,hk 7 h7,hk 8 h8,hk 9 h9,hk 10 h10,hk 11 h11]
 rfl
def zR:C4:=⟨0,A5l⟩
theorem C47 (y2 y3:Int×Bool×Int): ∀(k i a:Nat) (done:List C4),done.length=i->i+k<=64->a<=l.length->
  ∃(a' :Nat) (bad' :Bool) (rs:List C4),N8 l y2 y3 (done++List.replicate k zR) i a false=some ((a' :Int),bad',y2.2.2,y3.2.2,rs)/\a' <=l.length/\
   match L3 (A0j F9) k (l.drop a) with
   |some (y,r)=>bad' =false/\rs=done++y/\r=l.drop a'
   |none=>bad' =true:=by
 intro k
 induction k with
 |zero=>
  intro i a done hd hi ha;refine ⟨a,false,done, ?_,ha,rfl,by simp,rfl⟩
  unfold N8;refine L4 ?_;unfold Y9;dsimp only;rw [List.replicate_zero,List.append_nil,D2b (by omega),D2z,D17]
  rfl
 |succ k ih=>
  intro i a done hd hi ha;have hlen:(done++List.replicate (k+1) zR).length=i+(k+1):=by rw [D2a,D25,hd]
  have hget:E4 (done++List.replicate (k+1) zR) (i:Int)=some zR:=by
   rw [A0Y,D2u (by omega),hd,Nat.sub_self]
   rfl
  have hset: ∀r x:C4,(done++r::List.replicate k zR).set ((i:Int)).toNat x=done++x::List.replicate k zR:=fun r x=>by
   rw [D2K,List.set_append_right _ _ (by omega),hd,Nat.sub_self]
   rfl
  have hidx: ∀r:C4,E4 (done++r::List.replicate k zR) (i:Int)=some r:=fun r=>by
   rw [A0Y,D2u (by omega),hd,Nat.sub_self]
   rfl
  have hrep:done++List.replicate (k+1) zR=done++zR::List.replicate k zR:=by rw [List.replicate_succ]
  have hm:L3 (A0j F9) (k+1) (l.drop a)=(A0j F9 (l.drop a)).bind fun q=>(L3 (A0j F9) k q.2).bind fun q' =>H8 (q.1::q'.1) q'.2:=rfl;obtain ⟨a1,b1,id,e1,u1,_,p1⟩:=Ta.int hb hl 0 a false ha;obtain ⟨a2,b2,c,e2,u2,s2,p2⟩:=Ta.config3 hb hl A5l.Ak a1 b1 u1;have e1' :B6 l (a:Int) false zR.ID=some ((a1:Int),b1,id):=e1;have q1:=p1 rfl;have hbody:Y9 l y2 y3 (done++List.replicate (k+1) zR) i a false=cond (!b2) (Option.bind (J0 l (a2:Int) b2 (zS c)) fun y=>some (.inl (done++⟨id,y.2.2⟩::List.replicate k zR,A3 ((i:Int)+1),y.1,y.2.1)))
    (some (.inl (done++⟨id,zS c⟩::List.replicate k zR,A3 ((i:Int)+1),(a2:Int),b2))):=by
   unfold Y9;rw [hlen,D19 (by omega),D2h,Bool.and_self,D18,hget,D14,D14,e1',D14,hrep,hset,hidx,D14]
   have e2' :A17 l (a1:Int) b1 (C4.mk id zR.Ab).Ab.Ak=some ((a2:Int),b2,c):=e2;dsimp only;rw [e2',D14];dsimp only;rw [hset,hidx,D14];cases b2 with
   |true=>rfl
   |false=>
    rw [D2h,D18,D18];show (Option.bind (J0 l (a2:Int) false (zS c)) _)=_;cases J0 l (a2:Int) false (zS c) with
    |none=>rfl
    |some y=>
     rw [D14,D14,hset]
  have hsucc:A3 ((i:Int)+1)=((i+1:Nat):Int):=by rw [D5 (by omega) (by omega)];rfl
  rw [hm];unfold A0j B8;have hbadL: ∀(a3:Nat) (x:C4),N8 l y2 y3 (done++x::List.replicate k zR) ((i+1:Nat):Int) (a3:Int) true=some ((a3:Int),true,y2.2.2,y3.2.2,done++x::List.replicate k zR):=fun a3 x=>by
   unfold N8;refine L4 ?_;unfold Y9;dsimp only;rw [D2g,Bool.and_false,D17]
   rfl
  cases b2 with
  |true=>
   rw [D2g,D17,hsucc] at hbody;refine ⟨a2,true,done++⟨id,zS c⟩::List.replicate k zR, ?_,u2, ?_⟩
   ·unfold N8;rw [U8 hbody];exact hbadL a2 _
   ·cases hq:F9 (l.drop a) with
    |none=>rfl
    |some r=>
     obtain ⟨y,rest⟩:=r;rw [hq] at q1;obtain ⟨c1,c2,c3⟩:=q1;subst c1 c2 c3;have q2:=p2 rfl;rw [D14];dsimp only;cases hq2:B4r F9 (l.drop a1) with
     |none=>rfl
     |some r=>
      rw [hq2] at q2;exact absurd q2.1 (by decide)
  |false=>
   have hb1:b1=false:=by cases b1 with
    |true=>exact absurd (s2 rfl) (by decide)
    |false=>rfl
   subst hb1;obtain ⟨a3,b3,s,e3,u3,s3,p3⟩:=Ta.state3 hb hl c a2 false u2;have e3' :J0 l (a2:Int) false (zS c)=some ((a3:Int),b3,s):=e3;rw [D2h,D18,e3',D14,hsucc] at hbody;have q2:=p2 rfl;have q3:=p3 rfl;cases hq:F9 (l.drop a) with
   |none=>
    rw [hq] at q1;have q1' :false=true:=q1;cases q1'
   |some r=>
    obtain ⟨y,rest⟩:=r;rw [hq] at q1;obtain ⟨_,c2,c3⟩:=q1;subst c2 c3;rw [D14];dsimp only;cases hq2:B4r F9 (l.drop a1) with
    |none=>
     rw [hq2] at q2;have q2' :false=true:=q2;cases q2'
    |some r=>
     obtain ⟨y',rest'⟩:=r;rw [hq2] at q2;obtain ⟨_,d2,d3⟩:=q2;subst d2 d3;rw [D14];dsimp only;cases hq3:stR F9 c (l.drop a2) with
     |none=>
      rw [hq3] at q3;have q3' :b3=true:=q3;subst q3';refine ⟨a3,true,done++⟨id,s⟩::List.replicate k zR, ?_,u3,rfl⟩;unfold N8;rw [U8 hbody];exact hbadL a3 _
     |some r=>
      obtain ⟨y'',rest''⟩:=r;rw [hq3] at q3;obtain ⟨f1,f2,f3⟩:=q3;subst f1 f2 f3;obtain ⟨a',b',rs,g1,g2,g3⟩:=ih (i+1) a3 (done++ [⟨id,s⟩]) (by rw [D2a,hd];rfl) (by omega) u3
      refine ⟨a',b',rs, ?_,g2, ?_⟩
      ·rw [<-g1];unfold N8;rw [U8 hbody,D2y]
       rfl
      ·show match (Option.bind (H8 ⟨id,s⟩ (l.drop a3)) fun q=>(L3 (A0j F9) k q.2).bind fun q' =>H8 (q.1::q'.1) q'.2) with
        |some (y,r)=>_
        |none=>_
       show match ((L3 (A0j F9) k (l.drop a3)).bind fun q' =>H8 ((⟨id,s⟩:C4)::q'.1) q'.2) with
        |some (y,r)=>b' =false/\rs=done++y/\r=l.drop a'
        |none=>b' =true
       cases hr:L3 (A0j F9) k (l.drop a3) with
       |none=>rw [hr] at g3;exact g3
       |some r=>
        rw [hr] at g3;obtain ⟨k1,k2,k3⟩:=g3;exact ⟨k1,by rw [k2];simp,k3⟩
end
end Go.Win
namespace Go.Win
open Go.Vc Go.Dec
def H6 {α ρ:Type} (L:List Int) (mk:α->A6->Option ρ) (r:Option ρ) (a:Nat) (bad:Bool) (P:Rd α):Prop:=
 ∃(x:α) (a' :Nat) (bad' :Bool),r=mk x ⟨L,(a' :Int),bad'⟩/\a<=a' /\a' <=L.length/\(bad=true->bad' =true)/\(bad=false->Ans (P (L.drop a)) x (L.drop a') bad')
section
variable {L:List Int} (hw:K1 L) (hL:L.length<=100000000)
theorem H6.ret {α ρ:Type} {mk:α->A6->Option ρ} {r:Option ρ} {a:Nat} {bad:Bool} (x:α) (h:r=mk x ⟨L,(a:Int),bad⟩) (ha:a<=L.length):H6 L mk r a bad (H8 x):=
 ⟨x,a,bad,h,D2M _,ha,fun h=>h,fun h=>⟨h,rfl,rfl⟩⟩
include hw hL
theorem H6.bind {α β ρ:Type} {f:A6->Option (α×A6)} {g:α×A6->Option ρ} {mk:β->A6->Option ρ} {P:Rd α} {Q:α->Rd β} {a:Nat} {bad:Bool} (hf:Cu f P) (ha:a<=L.length)
  (hg:∀(x:α) (a1:Nat) (b1:Bool),a1<=L.length->H6 L mk (g (x,⟨L,(a1:Int),b1⟩)) a1 b1 (Q x)):H6 L mk (Option.bind (f ⟨L,(a:Int),bad⟩) g) a bad (B8 P Q):=by
 obtain ⟨x,a1,b1,e1,l1,u1,s1,p1⟩:=hf L a bad hw hL ha;obtain ⟨y,a2,b2,e2,l2,u2,s2,p2⟩:=hg x a1 b1 u1;refine ⟨y,a2,b2,by rw [e1,D14,e2],by omega,u2,fun h=>s2 (s1 h),fun h=> ?_⟩
 have q1:=p1 h;unfold B8;cases hp:P (L.drop a) with
 |none=>rw [hp] at q1;exact s2 q1
 |some r=>
  obtain ⟨y1,rest⟩:=r;rw [hp] at q1;obtain ⟨c1,c2,c3⟩:=q1;subst c2 c3;exact p2 c1
theorem C5f {α σ ρ:Type} {P:Rd α} (st:List α->Int->List Int->Int->Bool->σ) (mk:List α->A6->Option ρ) {S:σ->Option (σ⊕ρ)}
  (hs:∀(a:Nat) (out:List α) (k:Nat),a<=L.length->out.length+k<=100000000-> ∃(x:α) (a' :Nat) (bad' :Bool),S (st out ((k+1:Nat):Int) L (a:Int) false)=some (.inl (st (out++ [x]) (k:Int) L (a' :Int) bad'))/\a<=a' /\a' <=L.length/\Ans (P (L.drop a)) x (L.drop a') bad')
  (hbad:∀(a:Int) (out:List α) (k:Int),S (st out k L a true)=Option.map Sum.inr (mk out ⟨L,a,true⟩)) (hdone:∀(a:Int) (out:List α),S (st out 0 L a false)=Option.map Sum.inr (mk out ⟨L,a,false⟩)):
  ∀(k a:Nat) (out:List α),a<=L.length->out.length+k<=100000000-> ∃(x:List α) (a' :Nat) (bad' :Bool),loop S (st out (k:Int) L (a:Int) false)=mk x ⟨L,(a' :Int),bad'⟩/\a<=a' /\a' <=L.length/\
   match L3 P k (L.drop a) with
   |some (y,r)=>bad' =false/\x=out++y/\r=L.drop a'
   |none=>bad' =true:=by
 have fin: ∀ {s:σ} {o:Option ρ},S s=Option.map Sum.inr o->loop S s=o:=fun {s o} h=>by
  rw [A4F,h];cases o<;>rfl
 intro k
 induction k with
 |zero=>
  intro a out ha _;exact ⟨out,a,false,fin (hdone _ _),D2M _,ha,rfl,by simp,rfl⟩
 |succ k ih=>
  intro a out ha ho;obtain ⟨x,a1,b1,e1,l1,u1,p1⟩:=hs a out k ha (by omega)
  have hm:L3 P (k+1) (L.drop a)=(P (L.drop a)).bind fun q=>(L3 P k q.2).bind fun q' =>H8 (q.1::q'.1) q'.2:=rfl;rw [hm,U8 e1];cases hq:P (L.drop a) with
  |none=>
   rw [hq] at p1;have p1' :b1=true:=p1;subst p1';exact ⟨_,a1,true,fin (hbad _ _ _),l1,u1,rfl⟩
  |some r=>
   obtain ⟨y,rest⟩:=r;rw [hq] at p1;obtain ⟨c1,c2,c3⟩:=p1;subst c1 c2 c3;obtain ⟨z,a2,b2,e2,l2,u2,p2⟩:=ih a1 (out++ [x]) u1 (by rw [D2a,D2J];omega)
   refine ⟨z,a2,b2,e2,by omega,u2, ?_⟩
   rw [D14];dsimp only;cases hr:L3 P k (L.drop a1) with
   |none=>rw [hr] at p2;exact p2
   |some r=>
    rw [hr] at p2;obtain ⟨q1,q2,q3⟩:=p2;exact ⟨q1,by rw [q2];simp,q3⟩
theorem H6.list {α β σ ρ:Type} {P:Rd α} (st:List α->Int->List Int->Int->Bool->σ) (mk:β->A6->Option ρ) (h:List α->β) {S:σ->Option (σ⊕ρ)}
  (hs:∀(a:Nat) (out:List α) (k:Nat),a<=L.length->out.length+k<=100000000-> ∃(x:α) (a' :Nat) (bad' :Bool),S (st out ((k+1:Nat):Int) L (a:Int) false)=some (.inl (st (out++ [x]) (k:Int) L (a' :Int) bad'))/\a<=a' /\a' <=L.length/\Ans (P (L.drop a)) x (L.drop a') bad')
  (hbad:∀(a:Int) (out:List α) (k:Int),S (st out k L a true)=Option.map Sum.inr (mk (h out) ⟨L,a,true⟩)) (hdone:∀(a:Int) (out:List α),S (st out 0 L a false)=Option.map Sum.inr (mk (h out) ⟨L,a,false⟩)) {a:Nat} {bad:Bool} (ha:a<=L.length):
  H6 L mk (Option.bind (I9 ⟨L,(a:Int),bad⟩) fun y=>loop S (st [] y.1 y.2.L y.2.At y.2.Bi)) a bad (B8 (J5 B1 P) fun x=>H8 (h x)):=by
 obtain ⟨n,a1,b1,e1,l1,u1,k1,s1,p1⟩:=C3q bad hw hL ha;rw [e1,D14];dsimp only;cases b1 with
 |true=>
  refine ⟨h [],a1,true, ?_,l1,u1,fun _=>rfl,fun hb=> ?_⟩
  ·rw [A4F,hbad];cases mk (h []) ⟨L,(a1:Int),true⟩<;>rfl
  ·have q:=p1 hb;unfold B8;rw [B8x];unfold Ans at q;split at q
   ·exact absurd q.1 (by decide)
   ·rename_i e;rw [e];rfl
 |false=>
  have hbf:bad=false:=by cases bad with
   |true=>exact absurd (s1 rfl) (by decide)
   |false=>rfl
  obtain ⟨x,a2,b2,e2,l2,u2,p2⟩:=C5f hw hL (P:=P) st (fun o c=>mk (h o) c) hs hbad hdone n a1 [] u1 (by rw [D2A];omega)
  refine ⟨h x,a2,b2,e2,by omega,u2,(fun h=>by rw [hbf] at h;cases h),fun hb=> ?_⟩
  have q:=p1 hb;unfold B8;rw [B8x];unfold Ans at q;split at q
  ·rename_i y r e;rw [e];obtain ⟨_,c2,c3⟩:=q;subst c2 c3;rw [D14,D2K];cases hm:L3 P n (L.drop a1) with
   |none=>rw [hm] at p2;exact p2
   |some r=>
    rw [hm] at p2;obtain ⟨q1,q2,q3⟩:=p2;exact ⟨q1,by rw [q2];rfl,q3⟩
  ·exact absurd q (by decide)
theorem C0b {α σ ρ:Type} {P:Rd α} (st:List α->Int->List Int->Int->Bool->σ) {S:σ->Option (σ⊕ρ)} {E:A6->Option (α×A6)} (hE:Cu E P) (c:Nat) (hc:c<=1000)
  (hS:∀(a:Int) (out:List α) (k:Int),0<k->S (st out k L a false)=Option.bind (E ⟨L,a,false⟩) fun q=>ck (decide ((out.length+1)*c<=140737488355328)) (some (.inl (st (out++ [q.1]) (A3 (k-1)) q.2.L q.2.At q.2.Bi))))
  (a:Nat) (out:List α) (k:Nat) (ha:a<=L.length) (ho:out.length+k<=100000000): ∃(x:α) (a' :Nat) (bad' :Bool),S (st out ((k+1:Nat):Int) L (a:Int) false)=some (.inl (st (out++ [x]) (k:Int) L (a' :Int) bad'))/\a<=a' /\a' <=L.length/\Ans (P (L.drop a)) x (L.drop a') bad' :=by
 obtain ⟨x,a1,b1,e1,l1,u1,_,p1⟩:=hE L a false hw hL ha;have hm:(out.length+1)*c<=100000001*1000:=Nat.mul_le_mul (by omega) hc
 refine ⟨x,a1,b1, ?_,l1,u1,p1 rfl⟩;rw [hS _ _ _ (by omega),e1,D14,K3 (by rw [D16];omega),D5 (by omega) (by omega)]
 dsimp only
 congr 3
 omega
end
end Go.Win
namespace Go.Win
open Go.Vc Go.Dec
theorem A9b {α:Type} (P:Rd α):B8 P H8=P:=by
 funext l
 unfold B8;cases P l<;>rfl
theorem S2 {α β γ:Type} (P:Rd α) (f:α->Rd β) (g:β->Rd γ):B8 (B8 P f) g=B8 P fun x=>B8 (f x) g:=by
 funext l
 unfold B8;cases P l<;>rfl
theorem U0 {α β:Type} (x:α) (f:α->Rd β):B8 (H8 x) f=f x:=rfl
theorem H6.cg {α ρ:Type} {L:List Int} {mk:α->A6->Option ρ} {r:Option ρ} {a:Nat} {bad:Bool} {P Q:Rd α} (h:H6 L mk r a bad P) (e:P=Q):H6 L mk r a bad Q:=e▸h
theorem H6.map {α β ρ ρ' :Type} {L:List Int} {mk:α->A6->Option ρ} {r:Option ρ} {a:Nat} {bad:Bool} {P:Rd α} (h:H6 L mk r a bad P) {mk' :β->A6->Option ρ'} {g:ρ->Option ρ'} (m:α->β) (hg:∀x c,Option.bind (mk x c) g=mk' (m x) c):
  H6 L mk' (Option.bind r g) a bad (B8 P fun x=>H8 (m x)):=by
 obtain ⟨x,a',b',e,h1,h2,h3,h4⟩:=h;refine ⟨m x,a',b',by rw [e,hg],h1,h2,h3,fun hb=> ?_⟩
 have q:=h4 hb;unfold B8;cases hp:P (L.drop a) with
 |none=>rw [hp] at q;exact q
 |some y=>
  rw [hp] at q;obtain ⟨c1,c2,c3⟩:=q;exact ⟨c1,by rw [c2],c3⟩
noncomputable def mkS (s:B0) (c:A6):Option (A6×Int×Int×Int×(List D7)×Int×Int×Int×Int×(List A9)×Int×Int×Int×Int×Int×(List A9)×Int×Int×Int×Int×Int×Int×(List D0)×Int×Int×Int×Int×Int×(List D0)×Int×Int×Int×(List C7)×Int×(List Int)×Bool×Int×Int×Int×(List D7)×(List C8)×Int×Int×Int×(List E3)×Int×Int×Int×Int×(List D1)):=
 some (c,s.Al.W,s.Al.Cap,s.Al.Now,s.Al.Av,s.Ar.W,s.Ar.K,s.Ar.Cap,s.Ar.Now,s.Ar.Ac,s.Sum.W,s.Sum.K,s.Sum.Cap,s.Sum.Bj,s.Sum.Now,s.Sum.Ac,s.Ao.Bh,s.Ao.W,s.Ao.K,s.Ao.Cap,s.Ao.Now,s.Ao.Bl,s.Ao.Az,
  s.Ap.W,s.Ap.K,s.Ap.Cap,s.Ap.Now,s.Ap.Bl,s.Ap.Az,s.Bf.P,s.Bf.Bc,s.Bf.Now,s.Bf.Af,s.Au.Now,s.Au.Bg,s.Ae.Bj,s.Ae.W,s.Ae.Cap,s.Ae.Now,s.Ae.Av,s.Am.Aj,s.Ah.K,s.Ah.Cap,s.Ah.N,s.Ah.Aq,s.Aa.W,s.Aa.K,s.Aa.Cap,s.Aa.Now,s.Aa.Ai)
section
variable {L:List Int} (hw:K1 L) (hL:L.length<=100000000)
include hw hL
theorem H6.items (a:Nat) (bad:Bool) (ha:a<=L.length):H6 L (fun x c=>some (c,x)) (A2V ⟨L,(a:Int),bad⟩) a bad (J5 B1 (A44 B1)):=by
 refine H6.cg (H6.list hw hL (P:=A44 B1) (fun out n L a b=>(out,n,L,a,b)) (fun x c=>some (c,x)) id (S:=fun s=>S9 s.1 s.2.1 s.2.2.1 s.2.2.2.1 s.2.2.2.2) (C0b (P:=A44 B1) (S:=fun s=>S9 s.1 s.2.1 s.2.2.1 s.2.2.2.1 s.2.2.2.2) hw hL (fun out n L a b=>(out,n,L,a,b)) (E:=(cB A4 fun x0=>cB A4 fun x1=>cP (D7.mk x0 x1))) (Cu.bind Cu.take fun _=>Cu.bind Cu.take fun _=>Cu.pure _) 16 (by decide) fun a out k hk=> ?_) (fun a out k=> ?_) (fun a out=> ?_) ha) (A9b _)
 ·dsimp only;unfold S9;rw [D19 hk,D2h,Bool.and_self,D18];simp only [cB,cP,Option.bind_assoc,D14]
  rfl
 ·dsimp only;unfold S9;rw [D2g,Bool.and_false,D17]
  rfl
 ·rfl
theorem H6.buckets (a:Nat) (bad:Bool) (ha:a<=L.length):H6 L (fun x c=>some (c,x)) (A1x ⟨L,(a:Int),bad⟩) a bad (J5 B1 (A0P B1)):=by
 refine H6.cg (H6.list hw hL (P:=A0P B1) (fun out n L a b=>(out,n,L,a,b)) (fun x c=>some (c,x)) id (S:=fun s=>R6 s.1 s.2.1 s.2.2.1 s.2.2.2.1 s.2.2.2.2) (C0b (P:=A0P B1) (S:=fun s=>R6 s.1 s.2.1 s.2.2.1 s.2.2.2.1 s.2.2.2.2) hw hL (fun out n L a b=>(out,n,L,a,b)) (E:=(cB A4 fun x0=>cB A4 fun x1=>cP (A9.mk x0 x1))) (Cu.bind Cu.take fun _=>Cu.bind Cu.take fun _=>Cu.pure _) 16 (by decide) fun a out k hk=> ?_) (fun a out k=> ?_) (fun a out=> ?_) ha) (A9b _)
 ·dsimp only;unfold R6;rw [D19 hk,D2h,Bool.and_self,D18];simp only [cB,cP,Option.bind_assoc,D14]
  rfl
 ·dsimp only;unfold R6;rw [D2g,Bool.and_false,D17]
  rfl
 ·rfl
theorem H6.marks (a:Nat) (bad:Bool) (ha:a<=L.length):H6 L (fun x c=>some (c,x)) (A2W ⟨L,(a:Int),bad⟩) a bad (J5 B1 (A45 B1)):=by
 refine H6.cg (H6.list hw hL (P:=A45 B1) (fun out n L a b=>(out,n,L,a,b)) (fun x c=>some (c,x)) id (S:=fun s=>T0 s.1 s.2.1 s.2.2.1 s.2.2.2.1 s.2.2.2.2) (C0b (P:=A45 B1) (S:=fun s=>T0 s.1 s.2.1 s.2.2.1 s.2.2.2.1 s.2.2.2.2) hw hL (fun out n L a b=>(out,n,L,a,b)) (E:=(cB A4 fun x0=>cB A4 fun x1=>cB A4 fun x2=>cB A4 fun x3=>cB A4 fun x4=>cB A4 fun x5=>cB A4 fun x6=>cP (D0.mk x0 x1 x2 x3 x4 x5 x6))) (Cu.bind Cu.take fun _=>Cu.bind Cu.take fun _=>Cu.bind Cu.take fun _=>Cu.bind Cu.take fun _=>Cu.bind Cu.take fun _=>Cu.bind Cu.take fun _=>Cu.bind Cu.take fun _=>Cu.pure _) 56 (by decide) fun a out k hk=> ?_) (fun a out k=> ?_) (fun a out=> ?_) ha) (A9b _)
 ·dsimp only;unfold T0;rw [D19 hk,D2h,Bool.and_self,D18];simp only [cB,cP,Option.bind_assoc,D14]
  rfl
 ·dsimp only;unfold T0;rw [D2g,Bool.and_false,D17]
  rfl
 ·rfl
end
end Go.Win
namespace Go.Win
open Go.Vc Go.Dec
section
variable {L:List Int} (hw:K1 L) (hL:L.length<=100000000)
theorem A7l {α σ ρ:Type} {P:Rd α} (st:List α->Int->List Int->Int->Bool->σ) {S:σ->Option (σ⊕ρ)} (c:Nat) (hc:c<=1000) {a:Nat} {out:List α} {k:Nat} (ho:out.length+k<=100000000)
  (hR:H6 L (fun x cu=>ck (decide ((out.length+1)*c<=140737488355328)) (some (.inl (st (out++ [x]) (A3 (((k+1:Nat):Int)-1)) cu.L cu.At cu.Bi)))) (S (st out ((k+1:Nat):Int) L (a:Int) false)) a false P):
  ∃(x:α) (a' :Nat) (bad' :Bool),S (st out ((k+1:Nat):Int) L (a:Int) false)=some (.inl (st (out++ [x]) (k:Int) L (a' :Int) bad'))/\a<=a' /\a' <=L.length/\Ans (P (L.drop a)) x (L.drop a') bad' :=by
 obtain ⟨x,a1,b1,e1,l1,u1,_,p1⟩:=hR;have hm:(out.length+1)*c<=100000001*1000:=Nat.mul_le_mul (by omega) hc
 refine ⟨x,a1,b1, ?_,l1,u1,p1 rfl⟩;rw [e1];dsimp only;rw [K3 (by rw [D16];omega),D5 (by omega) (by omega)]
 congr 3
 omega
include hw hL
noncomputable def mkM (s:B0) (c:A6):Option (A6×(List C8)×Int×Int×Int×(List E3)×Int×Int×Int×Int×(List D1)):=
 some (c,s.Am.Aj,s.Ah.K,s.Ah.Cap,s.Ah.N,s.Ah.Aq,s.Aa.W,s.Aa.K,s.Aa.Cap,s.Aa.Now,s.Aa.Ai)
theorem H6.more (c:E1) (h9:c.Bb=9\/c.Bb=10\/c.Bb=11) (a:Nat) (bad:Bool) (ha:a<=L.length):H6 L mkM (A1l ⟨L,(a:Int),bad⟩ c.Bb c.Bh c.W c.K c.Cap c.P c.Aj c.Bj 0 0 0 0 0 0 0 0 0 0 0 0 0 0 0 0 0 0 0 0 0 0 0 0 0 0 0 0 0 0 0 0 0 0 0 0 0) a bad (stR B1 c):=by
 unfold A1l stR;rcases h9 with h9|h9|h9<;>rw [h9]
 ·show H6 L mkM (Option.bind (I9 ⟨L,(a:Int),bad⟩) fun y=>loop (fun s:(Int×(List Int)×Int×Bool×(List C8))=>U3 0 0 0 0 0 0 0 s.1 s.2.1 s.2.2.1 s.2.2.2.1 s.2.2.2.2) (y.1,y.2.L,y.2.At,y.2.Bi, [])) a bad (B8 (J5 B1 (A5p B1)) fun l=>H8 { zS c with Am:=⟨l⟩})
  refine H6.list hw hL (fun out n L a b=>(n,L,a,b,out)) mkM (fun l=> { zS c with Am:=⟨l⟩}) (fun a out k ha ho=> ?_) (fun a out k=> ?_) (fun a out=>rfl) ha
  ·refine A7l (S:=fun s=>U3 0 0 0 0 0 0 0 s.1 s.2.1 s.2.2.1 s.2.2.2.1 s.2.2.2.2) (fun out n L a b=>(n,L,a,b,out)) 56 (by decide) ho ?_
   dsimp only;unfold U3;rw [D19 (show ((k+1:Nat):Int)>0 by omega),D2h,Bool.and_self,D18]
   refine H6.bind hw hL Cu.take ha fun x1 a1 b1 u1=> ?_;refine H6.bind hw hL Cu.take u1 fun x2 a2 b2 u2=> ?_;refine H6.bind hw hL Cu.take u2 fun x3 a3 b3 u3=> ?_;refine H6.bind hw hL Cu.take u3 fun x4 a4 b4 u4=> ?_;refine H6.list hw hL (P:=A7Z B1) (fun out n L a b=>(n,L,a,b,out)) _ (fun l=>C8.mk x1 x2 x3 x4 l) (S:=fun s=>U4 (x1,⟨L,(a1:Int),b1⟩) (x2,⟨L,(a2:Int),b2⟩) (x3,⟨L,(a3:Int),b3⟩) (x4,⟨L,(a4:Int),b4⟩) ((k+1:Nat):Int) out s.1 s.2.1 s.2.2.1 s.2.2.2.1 s.2.2.2.2) (fun aa oo kk ha2 ho2=> ?_) (fun a out k=> ?_) (fun a out=>rfl) u4
   ·refine A7l (S:=fun s=>U4 (x1,⟨L,(a1:Int),b1⟩) (x2,⟨L,(a2:Int),b2⟩) (x3,⟨L,(a3:Int),b3⟩) (x4,⟨L,(a4:Int),b4⟩) ((k+1:Nat):Int) out s.1 s.2.1 s.2.2.1 s.2.2.2.1 s.2.2.2.2) (fun out n L a b=>(n,L,a,b,out)) 16 (by decide) ho2 ?_
    dsimp only;unfold U4;rw [D19 (show ((kk+1:Nat):Int)>0 by omega),D2h,Bool.and_self,D18]
    refine H6.bind hw hL Cu.take ha2 fun x5 a5 b5 u5=> ?_;refine H6.bind hw hL Cu.take u5 fun x6 a6 b6 u6=> ?_;exact H6.ret (H4.mk x5 x6) rfl u6
   ·dsimp only;unfold U4;rw [D2g,Bool.and_false,D17]
    rfl
  ·dsimp only;unfold U3;rw [D2g,Bool.and_false,D17]
   rfl
 ·show H6 L mkM (Option.bind (A4 ⟨L,(a:Int),bad⟩) fun y1=>Option.bind (A4 y1.2) fun y2=>Option.bind (A4 y2.2) fun y3=>Option.bind (I9 y3.2) fun y=>A7C 0 0 0 0 y1 y2 y3 y.1 y.2.L y.2.At y.2.Bi []) a bad (B8 B1 fun k=>B8 B1 fun cap=>B8 B1 fun n=>B8 (J5 B1 (A99 B1)) fun l=>H8 { zS c with Ah:=⟨k,cap,n,l⟩})
  refine H6.bind hw hL Cu.take ha fun x1 a1 b1 u1=> ?_;refine H6.bind hw hL Cu.take u1 fun x2 a2 b2 u2=> ?_;refine H6.bind hw hL Cu.take u2 fun x3 a3 b3 u3=> ?_;refine H6.list hw hL (P:=A99 B1) (fun out n L a b=>(n,L,a,b,out)) mkM (fun l=> { zS c with Ah:=⟨x1,x2,x3,l⟩}) (S:=fun s=>T1 0 0 0 0 (x1,⟨L,(a1:Int),b1⟩) (x2,⟨L,(a2:Int),b2⟩) (x3,⟨L,(a3:Int),b3⟩) s.1 s.2.1 s.2.2.1 s.2.2.2.1 s.2.2.2.2) (fun a out k ha ho=> ?_) (fun a out k=> ?_) (fun a out=>rfl) u3
  ·refine A7l (S:=fun s=>T1 0 0 0 0 (x1,⟨L,(a1:Int),b1⟩) (x2,⟨L,(a2:Int),b2⟩) (x3,⟨L,(a3:Int),b3⟩) s.1 s.2.1 s.2.2.1 s.2.2.2.1 s.2.2.2.2) (fun out n L a b=>(n,L,a,b,out)) 24 (by decide) ho ?_
   dsimp only;unfold T1;rw [D19 (show ((k+1:Nat):Int)>0 by omega),D2h,Bool.and_self,D18]
   refine H6.bind hw hL Cu.take ha fun x5 a5 b5 u5=> ?_;refine H6.bind hw hL Cu.take u5 fun x6 a6 b6 u6=> ?_;refine H6.bind hw hL Cu.take u6 fun x7 a7 b7 u7=> ?_;exact H6.ret (E3.mk x5 x6 x7) rfl u7
  ·dsimp only;unfold T1;rw [D2g,Bool.and_false,D17]
   rfl
 ·show H6 L mkM (Option.bind (A4 ⟨L,(a:Int),bad⟩) fun y1=>Option.bind (A4 y1.2) fun y2=>Option.bind (A4 y2.2) fun y3=>Option.bind (A4 y3.2) fun y4=>Option.bind (I9 y4.2) fun y=>A7D 0 0 0 y1 y2 y3 y4 y.1 y.2.L y.2.At y.2.Bi []) a bad (B8 B1 fun w=>B8 B1 fun k=>B8 B1 fun cap=>B8 B1 fun now=>B8 (J5 B1 (A4p B1)) fun l=>H8 { zS c with Aa:=⟨w,k,cap,now,l⟩})
  refine H6.bind hw hL Cu.take ha fun x1 a1 b1 u1=> ?_;refine H6.bind hw hL Cu.take u1 fun x2 a2 b2 u2=> ?_;refine H6.bind hw hL Cu.take u2 fun x3 a3 b3 u3=> ?_;refine H6.bind hw hL Cu.take u3 fun x4 a4 b4 u4=> ?_;refine H6.list hw hL (P:=A4p B1) (fun out n L a b=>(n,L,a,b,out)) mkM (fun l=> { zS c with Aa:=⟨x1,x2,x3,x4,l⟩}) (S:=fun s=>T2 0 0 0 (x1,⟨L,(a1:Int),b1⟩) (x2,⟨L,(a2:Int),b2⟩) (x3,⟨L,(a3:Int),b3⟩) (x4,⟨L,(a4:Int),b4⟩) s.1 s.2.1 s.2.2.1 s.2.2.2.1 s.2.2.2.2) (fun a out k ha ho=> ?_) (fun a out k=> ?_) (fun a out=>rfl) u4
  ·refine A7l (S:=fun s=>T2 0 0 0 (x1,⟨L,(a1:Int),b1⟩) (x2,⟨L,(a2:Int),b2⟩) (x3,⟨L,(a3:Int),b3⟩) (x4,⟨L,(a4:Int),b4⟩) s.1 s.2.1 s.2.2.1 s.2.2.2.1 s.2.2.2.2) (fun out n L a b=>(n,L,a,b,out)) 56 (by decide) ho ?_
   dsimp only;unfold T2;rw [D19 (show ((k+1:Nat):Int)>0 by omega),D2h,Bool.and_self,D18]
   refine H6.bind hw hL Cu.take ha fun y1 a1 b1 u1=> ?_;refine H6.bind hw hL Cu.take u1 fun y2 a2 b2 u2=> ?_;refine H6.bind hw hL Cu.take u2 fun y3 a3 b3 u3=> ?_;refine H6.bind hw hL Cu.take u3 fun y4 a4 b4 u4=> ?_;refine H6.list hw hL (P:=B1B B1) (fun out n L a b=>(n,L,a,b,out)) _ (fun l=>D1.mk y1 y2 y3 ⟨y4,l⟩) (S:=fun s=>T3 (y1,⟨L,(a1:Int),b1⟩) (y2,⟨L,(a2:Int),b2⟩) (y3,⟨L,(a3:Int),b3⟩) (y4,⟨L,(a4:Int),b4⟩) ((k+1:Nat):Int) out s.1 s.2.1 s.2.2.1 s.2.2.2.1 s.2.2.2.2) (fun aa oo kk ha2 ho2=> ?_) (fun a out k=> ?_) (fun a out=>rfl) u4
   ·refine A7l (S:=fun s=>T3 (y1,⟨L,(a1:Int),b1⟩) (y2,⟨L,(a2:Int),b2⟩) (y3,⟨L,(a3:Int),b3⟩) (y4,⟨L,(a4:Int),b4⟩) ((k+1:Nat):Int) out s.1 s.2.1 s.2.2.1 s.2.2.2.1 s.2.2.2.2) (fun out n L a b=>(n,L,a,b,out)) 24 (by decide) ho2 ?_
    dsimp only;unfold T3;rw [D19 (show ((kk+1:Nat):Int)>0 by omega),D2h,Bool.and_self,D18]
    refine H6.bind hw hL Cu.take ha2 fun x5 a5 b5 u5=> ?_;refine H6.bind hw hL Cu.take u5 fun x6 a6 b6 u6=> ?_;refine H6.bind hw hL Cu.take u6 fun x7 a7 b7 u7=> ?_;exact H6.ret (F6.mk x5 x6 x7) rfl u7
   ·dsimp only;unfold T3;rw [D2g,Bool.and_false,D17]
    rfl
  ·dsimp only;unfold T2;rw [D2g,Bool.and_false,D17]
   rfl
end
end Go.Win
namespace Go.Win
open Go.Vc Go.Dec
theorem C6s {L:List Int} (bad:Bool) (hl:L.length<=100000000): ∀(k a:Nat) (out:List Int),k<=L.length-a->a<=L.length->out.length<=a->
  A0l out (k:Int) L (a:Int) bad=some (⟨L,((a+k:Nat):Int),bad⟩,out++(L.drop a).take k):=by
 intro k
 induction k with
 |zero=>
  intro a out _ _ _;unfold A0l;rw [List.take_zero,List.append_nil];refine L4 ?_;unfold A0c;simp only [];rw [D2b (by omega),D17]
  rfl
 |succ k ih=>
  intro a out hk ha ho;have hlt:a<L.length:=by omega
  have e:out++(L.drop a).take (k+1)=(out++ [L[a]])++(L.drop (a+1)).take k:=by rw [C04 hlt,List.take_succ_cons];simp
  rw [e,show a+(k+1)=(a+1)+k by omega,<-ih (a+1) (out++ [L[a]]) (by omega) (by omega) (by rw [D2a,D2J];omega)]
  unfold A0l;refine U8 ?_;unfold A0c;simp only [];rw [D19 (by omega),D18,A7F bad hl hlt,D14,K3 (by rw [D16,D2J];omega),D5 (by omega) (by omega)]
  simp only []
  congr 4
  omega
section
variable {L:List Int} (hw:K1 L) (hL:L.length<=100000000)
include hw hL
theorem H6.list1 (a:Nat) (bad:Bool) (ha:a<=L.length):H6 L (fun x c=>some (c,x)) (A1u ⟨L,(a:Int),bad⟩) a bad (J5 B1 B1):=by
 obtain ⟨n,a1,b1,e1,l1,u1,k1,s1,p1⟩:=C3q bad hw hL ha;unfold A1u;rw [e1,D14];simp only [];rw [C6s b1 hL n a1 [] k1 u1 (Nat.zero_le _),List.nil_append];refine ⟨_,a1+n,b1,rfl,by omega,by omega,s1,fun hb=> ?_⟩
 have q1:=p1 hb;rw [B8x];unfold Ans at q1;split at q1
 ·rename_i y r e;rw [e];obtain ⟨c1,c2,c3⟩:=q1;subst c2 c3;rw [D14,D2K,C7y,if_pos (by rw [D2C];omega)]
  exact ⟨c1,rfl,by rw [D22]⟩
 ·rename_i e;rw [e];exact q1
theorem H6.flag {β ρ:Type} {g:Int×A6->Option ρ} {mk:β->A6->Option ρ} {Q:Int->Rd β} {a:Nat} {bad:Bool} (ha:a<=L.length)
  (hg:∀(x:Int) (a1:Nat) (b1 b2:Bool),a1<=L.length->b2=((b1||decide (x<0))||decide (x>1))->H6 L mk (g (x,⟨L,(a1:Int),b1⟩)) a1 b2 (Q x)):H6 L mk (Option.bind (A4 ⟨L,(a:Int),bad⟩) g) a bad (B8 (Y8 B1 0 1) Q):=by
 obtain ⟨x,a1,b1,e1,l1,u1,s1,p1⟩:=Cu.take L a bad hw hL ha;obtain ⟨y,a2,b2,e2,l2,u2,s2,p2⟩:=hg x a1 b1 _ u1 rfl;refine ⟨y,a2,b2,by rw [e1,D14,e2],by omega,u2,fun h=>s2 (by rw [s1 h];rfl),fun h=> ?_⟩
 have q1:=p1 h;unfold B8 Y8 B8;cases hp:B1 (L.drop a) with
 |none=>
  rw [hp] at q1;have q1' :b1=true:=q1;exact s2 (by rw [q1'];rfl)
 |some r=>
  obtain ⟨y1,rest⟩:=r;rw [hp] at q1;obtain ⟨c1,c2,c3⟩:=q1;subst c1 c2 c3;rw [D14];dsimp only
  by_cases hx:x<0\/1<x
  ·rw [if_pos hx];exact s2 (by rw [D2v,D2f,D16,D16];exact hx)
  ·rw [if_neg hx,D14];exact p2 (by rw [D2v,D2E,D2l,D2l];omega)
theorem H6.state (c:E1) (a:Nat) (bad:Bool) (ha:a<=L.length):H6 L mkS (N3 ⟨L,(a:Int),bad⟩ c.Bb c.Bh c.W c.K c.Cap c.P c.Aj c.Bj 0 0 0 0 0 0 0 0 0 0 0 0 0 0 0 0 0 0 0 0 0 0 0 0 0 0 0 0 0 0 0 0 0 0 0 0 0) a bad (stR B1 c):=by
 by_cases h1:c.Bb=1
 ·unfold N3 stR;rw [h1];show H6 L mkS (Option.bind (A4 ⟨L,(a:Int),bad⟩) _) a bad (B8 B1 fun w=>B8 B1 fun cap=>B8 B1 fun now=>B8 (J5 B1 (A44 B1)) fun l=>H8 { zS c with Al:=⟨w,cap,now,l⟩})
  refine H6.bind hw hL Cu.take ha fun x1 a1 b1 u1=> ?_;refine H6.bind hw hL Cu.take u1 fun x2 a2 b2 u2=> ?_;refine H6.bind hw hL Cu.take u2 fun x3 a3 b3 u3=> ?_;refine H6.map (H6.items hw hL a3 b3 u3) (fun l=> { zS c with Al:=⟨x1,x2,x3,l⟩}) fun _ _=> ?_
  rfl
 by_cases h2:c.Bb=2
 ·unfold N3 stR;rw [h2];show H6 L mkS (Option.bind (A4 ⟨L,(a:Int),bad⟩) _) a bad (B8 B1 fun w=>B8 B1 fun k=>B8 B1 fun cap=>B8 B1 fun now=>B8 (J5 B1 (A0P B1)) fun l=>H8 { zS c with Ar:=⟨w,k,cap,now,l⟩})
  refine H6.bind hw hL Cu.take ha fun x1 a1 b1 u1=> ?_;refine H6.bind hw hL Cu.take u1 fun x2 a2 b2 u2=> ?_;refine H6.bind hw hL Cu.take u2 fun x3 a3 b3 u3=> ?_;refine H6.bind hw hL Cu.take u3 fun x4 a4 b4 u4=> ?_;refine H6.map (H6.buckets hw hL a4 b4 u4) (fun l=> { zS c with Ar:=⟨x1,x2,x3,x4,l⟩}) fun _ _=> ?_
  rfl
 by_cases h3:c.Bb=3
 ·unfold N3 stR;rw [h3];show H6 L mkS (Option.bind (A4 ⟨L,(a:Int),bad⟩) _) a bad (B8 B1 fun w=>B8 B1 fun k=>B8 B1 fun cap=>B8 B1 fun mx=>B8 B1 fun now=>B8 (J5 B1 (A0P B1)) fun l=>H8 { zS c with Sum:=⟨w,k,cap,mx,now,l⟩})
  refine H6.bind hw hL Cu.take ha fun x1 a1 b1 u1=> ?_;refine H6.bind hw hL Cu.take u1 fun x2 a2 b2 u2=> ?_;refine H6.bind hw hL Cu.take u2 fun x3 a3 b3 u3=> ?_;refine H6.bind hw hL Cu.take u3 fun x4 a4 b4 u4=> ?_;refine H6.bind hw hL Cu.take u4 fun x5 a5 b5 u5=> ?_;refine H6.map (H6.buckets hw hL a5 b5 u5) (fun l=> { zS c with Sum:=⟨x1,x2,x3,x4,x5,l⟩}) fun _ _=> ?_
  rfl
 by_cases h4:c.Bb=4
 ·unfold N3 stR;rw [h4];show H6 L mkS (Option.bind (A4 ⟨L,(a:Int),bad⟩) _) a bad (B8 B1 fun ag=>B8 B1 fun w=>B8 B1 fun k=>B8 B1 fun cap=>B8 B1 fun now=>B8 B1 fun sq=>B8 (J5 B1 (A45 B1)) fun l=>H8 { zS c with Ao:=⟨ag,w,k,cap,now,sq,l⟩})
  refine H6.bind hw hL Cu.take ha fun x1 a1 b1 u1=> ?_;refine H6.bind hw hL Cu.take u1 fun x2 a2 b2 u2=> ?_;refine H6.bind hw hL Cu.take u2 fun x3 a3 b3 u3=> ?_;refine H6.bind hw hL Cu.take u3 fun x4 a4 b4 u4=> ?_;refine H6.bind hw hL Cu.take u4 fun x5 a5 b5 u5=> ?_;refine H6.bind hw hL Cu.take u5 fun x6 a6 b6 u6=> ?_;refine H6.map (H6.marks hw hL a6 b6 u6) (fun l=> { zS c with Ao:=⟨x1,x2,x3,x4,x5,x6,l⟩}) fun _ _=> ?_
  rfl
 by_cases h5:c.Bb=5
 ·unfold N3 stR;rw [h5];show H6 L mkS (Option.bind (A4 ⟨L,(a:Int),bad⟩) _) a bad (B8 B1 fun w=>B8 B1 fun k=>B8 B1 fun cap=>B8 B1 fun now=>B8 B1 fun sq=>B8 (J5 B1 (A45 B1)) fun l=>H8 { zS c with Ap:=⟨w,k,cap,now,sq,l⟩})
  refine H6.bind hw hL Cu.take ha fun x1 a1 b1 u1=> ?_;refine H6.bind hw hL Cu.take u1 fun x2 a2 b2 u2=> ?_;refine H6.bind hw hL Cu.take u2 fun x3 a3 b3 u3=> ?_;refine H6.bind hw hL Cu.take u3 fun x4 a4 b4 u4=> ?_;refine H6.bind hw hL Cu.take u4 fun x5 a5 b5 u5=> ?_;refine H6.map (H6.marks hw hL a5 b5 u5) (fun l=> { zS c with Ap:=⟨x1,x2,x3,x4,x5,l⟩}) fun _ _=> ?_
  rfl
 by_cases h6:c.Bb=6
 ·unfold N3 stR;rw [h6];show H6 L mkS (Option.bind (A4 ⟨L,(a:Int),bad⟩) _) a bad (B8 B1 fun p=>B8 B1 fun ln=>B8 B1 fun now=>B8 (J5 B1 (A6s B1)) fun l=>H8 { zS c with Bf:=⟨p,ln,now,l⟩})
  refine H6.bind hw hL Cu.take ha fun x1 a1 b1 u1=> ?_;refine H6.bind hw hL Cu.take u1 fun x2 a2 b2 u2=> ?_;refine H6.bind hw hL Cu.take u2 fun x3 a3 b3 u3=> ?_;refine H6.list hw hL (P:=A6s B1) (fun out n L a b=>(n,L,a,b,out)) mkS (fun l=> { zS c with Bf:=⟨x1,x2,x3,l⟩}) (S:=fun s=>T4 0 0 0 0 0 0 0 0 0 0 0 0 0 0 0 0 0 0 0 0 0 0 0 0 0 0 0 0 0 0 0 0 0 0 (x1,⟨L,(a1:Int),b1⟩) (x2,⟨L,(a2:Int),b2⟩) (x3,⟨L,(a3:Int),b3⟩) s.1 s.2.1 s.2.2.1 s.2.2.2.1 s.2.2.2.2) (fun aa oo kk ha2 ho2=> ?_) (fun a out k=> ?_) (fun a out=>rfl) u3
  ·refine A7l (S:=fun s=>T4 0 0 0 0 0 0 0 0 0 0 0 0 0 0 0 0 0 0 0 0 0 0 0 0 0 0 0 0 0 0 0 0 0 0 (x1,⟨L,(a1:Int),b1⟩) (x2,⟨L,(a2:Int),b2⟩) (x3,⟨L,(a3:Int),b3⟩) s.1 s.2.1 s.2.2.1 s.2.2.2.1 s.2.2.2.2) (fun out n L a b=>(n,L,a,b,out)) 16 (by decide) ho2 ?_
   dsimp only;unfold T4;rw [D19 (show ((kk+1:Nat):Int)>0 by omega),D2h,Bool.and_self,D18]
   refine H6.cg (H6.bind hw hL Cu.wide ha2 fun x5 a5 b5 u5=> ?_) (A9b _);exact H6.ret x5 rfl u5
  ·dsimp only;unfold T4;rw [D2g,Bool.and_false,D17]
   rfl
 by_cases h7:c.Bb=7
 ·unfold N3 stR;rw [h7];show H6 L mkS (Option.bind (A4 ⟨L,(a:Int),bad⟩) _) a bad (B8 B1 fun now=>B8 (J5 B1 B1) fun l=>H8 { zS c with Au:=⟨now,l⟩})
  refine H6.bind hw hL Cu.take ha fun x1 a1 b1 u1=> ?_;refine H6.map (H6.list1 hw hL a1 b1 u1) (fun l=> { zS c with Au:=⟨x1,l⟩}) fun _ _=> ?_
  rfl
 by_cases h8:c.Bb=8
 ·unfold N3 stR;rw [h8];show H6 L mkS (Option.bind (A4 ⟨L,(a:Int),bad⟩) _) a bad (B8 (Y8 B1 0 1) fun mx=>B8 B1 fun w=>B8 B1 fun cap=>B8 B1 fun now=>B8 (J5 B1 (A44 B1)) fun l=>H8 { zS c with Ae:=⟨mx==1,w,cap,now,l⟩})
  refine H6.flag hw hL ha fun x1 a1 b0 b1 u1 hb1=> ?_;dsimp only;rw [<-hb1];refine H6.bind hw hL Cu.take u1 fun x2 a2 b2 u2=> ?_;refine H6.bind hw hL Cu.take u2 fun x3 a3 b3 u3=> ?_;refine H6.bind hw hL Cu.take u3 fun x4 a4 b4 u4=> ?_;refine H6.map (H6.items hw hL a4 b4 u4) (fun l=> { zS c with Ae:=⟨x1==1,x2,x3,x4,l⟩}) fun _ _=> ?_
  rfl
 have hk: ∀n:Int,c.Bb≠n->(c.Bb==n)=false:=fun n h=>D2U.2 h;unfold N3;rw [hk 1 h1,hk 2 h2,hk 3 h3,hk 4 h4,hk 5 h5,hk 6 h6,hk 7 h7,hk 8 h8];simp only [D17]
 by_cases h9:c.Bb=9\/c.Bb=10\/c.Bb=11
 ·refine H6.cg (H6.map (H6.more hw hL c h9 a bad ha) (fun x=> { zS c with Am:=x.Am,Ah:=x.Ah,Aa:=x.Aa}) fun _ _=> ?_) ?_
  ·rfl
  ·unfold stR;rcases h9 with h9|h9|h9<;>rw [h9]
   ·show B8 (B8 (J5 B1 (A5p B1)) fun l=>H8 { zS c with Am:=⟨l⟩}) _=(B8 (J5 B1 (A5p B1)) fun l=>H8 { zS c with Am:=⟨l⟩})
    simp only [S2,U0]
   ·show B8 (B8 B1 fun k=>B8 B1 fun cap=>B8 B1 fun n=>B8 (J5 B1 (A99 B1)) fun l=>H8 { zS c with Ah:=⟨k,cap,n,l⟩}) _=(B8 B1 fun k=>B8 B1 fun cap=>B8 B1 fun n=>B8 (J5 B1 (A99 B1)) fun l=>H8 { zS c with Ah:=⟨k,cap,n,l⟩})
    simp only [S2,U0]
   ·show B8 (B8 B1 fun w=>B8 B1 fun k=>B8 B1 fun cap=>B8 B1 fun now=>B8 (J5 B1 (A4p B1)) fun l=>H8 { zS c with Aa:=⟨w,k,cap,now,l⟩}) _=(B8 B1 fun w=>B8 B1 fun k=>B8 B1 fun cap=>B8 B1 fun now=>B8 (J5 B1 (A4p B1)) fun l=>H8 { zS c with Aa:=⟨w,k,cap,now,l⟩})
    simp only [S2,U0]
 ·have h9a:c.Bb≠9:=fun h=>h9 (.inl h);have h10:c.Bb≠10:=fun h=>h9 (.inr (.inl h));have h11:c.Bb≠11:=fun h=>h9 (.inr (.inr h));unfold A1l stR;rw [hk 9 h9a,hk 10 h10,hk 11 h11,if_neg h1,if_neg h2,if_neg h3,if_neg h4,if_neg h5,if_neg h6,if_neg h7,if_neg h8,if_neg h9a,if_neg h10,if_neg h11];exact ⟨zS c,a,true,rfl,D2M _,ha,fun _=>rfl,fun _=>rfl⟩
end
end Go.Win
namespace Go.Win
open Go.Vc Go.Dec
theorem C0Z: ∀ {a b:List Int},V8 a->V8 b->Lib.bytesOf a=Lib.bytesOf b->a=b
 | [], [],_,_,_=>rfl
 | [],y::b,_,_,h=>by simp [Lib.bytesOf] at h
 |x::a, [],_,_,h=>by simp [Lib.bytesOf] at h
 |x::a,y::b,ha,hb,h=>by
  have hx:=ha x (by simp)
  have hy:=hb y (by simp)
  simp only [Lib.bytesOf,D2X,List.cons.injEq] at h;have e:x=y:=by
   have h1:=congrArg UInt8.toNat h.1;simp only [UInt8.toNat_ofNat'] at h1;omega
  subst e;rw [C0Z (fun z hz=>ha z (by simp [hz])) (fun z hz=>hb z (by simp [hz])) h.2]
theorem same_bytes {a b:List Int} (ha:V8 a) (hb:V8 b):Q0 a b=some (decide (a=b)):=by
 unfold Q0
 by_cases h:a=b
 ·subst h;rw [beq_self_eq_true,D19 rfl]
 ·rw [D2b h,D2U.2 fun e=>h (C0Z ha hb e)]
def zE:B9:=⟨0,0, []⟩
def A06 (l:List Int) (e:B9):Prop:= ∃(L:List Int) (s:Int),K1 L/\E0 .i64 s/\l=wr L++M7 s/\Q8 (wr L)=some s/\A1b B1 L=some (e, [])
open Classical in
noncomputable def B0Y (e:B9):B9×Int:=if A4a e then (e,0) else (zE,2)
def A9J (l:List Int) (r:B9×Int):Prop:=(∃e,A06 l e/\r=B0Y e)\/((∀e,¬A06 l e)/\r=(zE,13))
theorem A2w (L:List Int) (s:Int):wr (L++ [s])=wr L++M7 s:=by rw [A1D];simp [wr]
theorem A2Z {L:List Int} {s:Int} (h:K1 L) (h':E0 .i64 s):K1 (L++ [s]):=A3a.2 ⟨h,H0 h' A1W⟩
theorem A06.uniq {l:List Int} {e e' :B9} (h:A06 l e) (h':A06 l e'):e=e' :=by
 obtain ⟨L,s,w1,w2,h1,_,h2⟩:=h;obtain ⟨L',s',w1',w2',h1',_,h2'⟩:=h';have hi:=B9R (A2Z w1 w2) (A2Z w1' w2') (by rw [A2w,A2w,<-h1,<-h1'])
 have hL:L=L' :=(List.append_inj' hi rfl).1;subst hL;rw [h2] at h2';exact (Prod.mk.inj (D2N h2')).1
theorem A9J.uniq {l:List Int} {r r' :B9×Int} (h:A9J l r) (h':A9J l r'):r=r' :=by
 rcases h with ⟨e,h1,rfl⟩|⟨h1,rfl⟩<;>rcases h' with ⟨e',h2,rfl⟩|⟨h2,rfl⟩
 ·rw [h1.uniq h2]
 ·exact absurd h1 (h2 e)
 ·exact absurd h2 (h1 e')
 ·rfl
theorem C24 {L:List Int} {e:B9} {r:List Int} (hw:K1 L) (hl:L.length<=1048576) (h:A1b B1 L=some (e,r)):G7 e:=(B3G.wf _ _ _ hw hl h).1
theorem A06.bytes {l:List Int} {e:B9} (h:A06 l e): ∃s,E0 .i64 s/\A1b F9 l=some (e,M7 s)/\ ∃L,l=wr L++M7 s/\Q8 (wr L)=some s:=by
 obtain ⟨L,s,w1,w2,h1,h2,h3⟩:=h;obtain ⟨pre,p1,p2⟩:=B3G.loc _ _ _ h3;rw [List.append_nil] at p1;subst p1;have:=(B3G.sim.fwd _ _ _ (A2Z w1 w2) (p2 [s])).2;rw [A2w,<-h1] at this;refine ⟨s,w2, ?_,L,h1,h2⟩;rw [this];simp [wr]
theorem B4f {α β:Type} {P:Rd α} {f:α->Rd β} {l l1:List Int} {x:α} {b:Bool} (h:Ans (P l) x l1 b):(b=true/\B8 P f l=none)\/(b=false/\B8 P f l=f x l1):=by
 unfold Ans at h;unfold B8;split at h
 ·rename_i y r e;obtain ⟨c1,c2,c3⟩:=h;subst c1 c2 c3;exact .inr ⟨rfl,by rw [e];rfl⟩
 ·rename_i e;subst h;exact .inl ⟨rfl,by rw [e];rfl⟩
theorem D1r {l:List Int} (hb:V8 l) (hl:l.length<=1048576): ∃(a:Nat) (bad:Bool) (now lim:Int) (rs:List C4),A3m l 0 0 0=some ((a:Int),bad,now,lim,rs)/\a<=l.length/\
  Ans (A1b F9 l) ⟨now,lim,rs⟩ (l.drop a) bad:=by
 have hl' :l.length<=100000000:=by omega
 obtain ⟨a1,b1,v,e1,u1,_,p1⟩:=Ta.within hb hl' 1 1 1 0 false (Nat.zero_le _);obtain ⟨a2,b2,now,e2,u2,s2,p2⟩:=Ta.int hb hl' 0 a1 b1 u1;obtain ⟨a3,b3,lim,e3,u3,s3,p3⟩:=Ta.small hb hl' 0 a2 b2 u2;obtain ⟨a4,b4,n,e4,u4,s4,p4⟩:=Ta.within hb hl' 0 64 0 a3 b3 u3;have e1' :A42 1 1 l 0 1=some ((a1:Int),b1,v):=e1;have e2' :B6 l (a1:Int) b1 0=some ((a2:Int),b2,now):=e2;have e3' :E6 l (a2:Int) b2 0=some ((a3:Int),b3,lim):=e3;have e4' :H9 0 64 l (a3:Int) b3 0=some ((a4:Int),b4,n):=e4;have q1:=p1 rfl;rw [List.drop_zero] at q1;unfold A3m;rw [e1',D14];dsimp only;rw [e2',D14];dsimp only;rw [e3',D14];dsimp only;rw [e4',D14];dsimp only;have none_of:b4=true->A1b F9 l=none-> ∃(a:Nat) (bad:Bool) (now' lim' :Int) (rs:List C4),(cond b4 (some ((a4:Int),b4,now,lim,([]:List C4))) (ck (decide (0<=n/\n<=n/\n*640<=140737488355328/\n<=140737488355328)) (N8 l ((a2:Int),b2,now) ((a3:Int),b3,lim) (laid (List.replicate n.toNat zR) 0 (([]:List C4).take (List.replicate n.toNat zR).length)) 0 (a4:Int) b4)))=some ((a:Int),bad,now',lim',rs)/\a<=l.length/\Ans (A1b F9 l) ⟨now',lim',rs⟩ (l.drop a) bad:=by
  intro h1 h2;subst h1;refine ⟨a4,true,now,lim, [],rfl,u4, ?_⟩;rw [h2];rfl
 show∃(a:Nat) (bad:Bool) (now' lim' :Int) (rs:List C4),(cond b4 (some ((a4:Int),b4,now,lim,([]:List C4))) (ck (decide (0<=n/\n<=n/\n*640<=140737488355328/\n<=140737488355328)) (N8 l ((a2:Int),b2,now) ((a3:Int),b3,lim) (laid (List.replicate n.toNat zR) 0 (([]:List C4).take (List.replicate n.toNat zR).length)) 0 (a4:Int) b4)))=some ((a:Int),bad,now',lim',rs)/\a<=l.length/\Ans (A1b F9 l) ⟨now',lim',rs⟩ (l.drop a) bad;rcases B4f (f:=fun _=>B8 F9 fun now=>B8 F9 fun lim=>B8 (Y8 F9 0 64) fun n=>B8 (L3 (A0j F9) n.toNat) fun rs=>H8 (B9.mk now lim rs)) (P:=Y8 F9 1 1) q1 with ⟨hb1,g1⟩|⟨hb1,g1⟩
 ·exact none_of (s4 (s3 (s2 hb1))) g1
 rcases B4f (f:=fun now=>B8 F9 fun lim=>B8 (Y8 F9 0 64) fun n=>B8 (L3 (A0j F9) n.toNat) fun rs=>H8 (B9.mk now lim rs)) (p2 hb1) with ⟨hb2,g2⟩|⟨hb2,g2⟩
 ·exact none_of (s4 (s3 hb2)) (g1.trans g2)
 rcases B4f (f:=fun lim=>B8 (Y8 F9 0 64) fun n=>B8 (L3 (A0j F9) n.toNat) fun rs=>H8 (B9.mk now lim rs)) (p3 hb2) with ⟨hb3,g3⟩|⟨hb3,g3⟩
 ·exact none_of (s4 hb3) (g1.trans (g2.trans g3))
 have q4:=p4 hb3;rcases B4f (f:=fun n=>B8 (L3 (A0j F9) n.toNat) fun rs=>H8 (B9.mk now lim rs)) (P:=Y8 F9 0 64) q4 with ⟨hb4,g4⟩|⟨hb4,g4⟩
 ·exact none_of hb4 (g1.trans (g2.trans (g3.trans g4)))
 have hn:0<=n/\n<=64:=by
  unfold Ans at q4;split at q4
  ·rename_i y r e;obtain ⟨_,c2,_⟩:=q4;subst c2;obtain ⟨m,l',h1,h2⟩:=N4 e;split at h2
   ·cases h2
   ·rename_i hc;have:=(Prod.mk.inj (D2N h2)).1;omega
  ·rw [q4] at hb4;cases hb4
 have g:A1b F9 l=B8 (L3 (A0j F9) n.toNat) (fun rs=>H8 (B9.mk now lim rs)) (l.drop a4):=g1.trans (g2.trans (g3.trans g4));subst hb4;have hlaid:laid (List.replicate n.toNat zR) 0 (([]:List C4).take (List.replicate n.toNat zR).length)= []++List.replicate n.toNat zR:=by
  unfold laid;simp
 rw [D17,K3 (by rw [D16];omega),hlaid]
 obtain ⟨a5,b5,rs,f1,f2,f3⟩:=C47 hb hl' ((a2:Int),b2,now) ((a3:Int),b3,lim) n.toNat 0 a4 [] rfl (by omega) u4
 refine ⟨a5,b5,now,lim,rs,f1,f2, ?_⟩;rw [g];unfold B8;cases hr:L3 (A0j F9) n.toNat (l.drop a4) with
 |none=>rw [hr] at f3;exact f3
 |some y=>
  rw [hr] at f3;obtain ⟨c1,c2,c3⟩:=f3;rw [List.nil_append] at c2;exact ⟨c1,by rw [c2],c3⟩
theorem C41 {l:List Int} (hb:V8 l) (hl:l.length<=1048576): ∃r,S3 l=some r/\A9J l r:=by
 obtain ⟨a,bad,now,lim,rs,e1,u1,p1⟩:=D1r hb hl;unfold S3;rw [D2b (by omega),D17,e1,D14]
 dsimp only;cases bad with
 |true=>
  refine ⟨_,rfl, .inr ⟨fun e h=> ?_,rfl⟩⟩;obtain ⟨s,_,h2,_⟩:=h.bytes;rw [h2] at p1;exact absurd p1.1 (by decide)
 |false=>
  rw [D17];have hE:A1b F9 l=some (⟨now,lim,rs⟩,l.drop a):=by
   unfold Ans at p1;split at p1
   ·rename_i y r e;obtain ⟨_,c2,c3⟩:=p1;rw [e,c2,c3]
   ·exact absurd p1 (by decide)
  have hfree: ∀e,A06 l e-> ∃s L,E0 .i64 s/\l.drop a=M7 s/\l=wr L++M7 s/\Q8 (wr L)=some s:=fun e h=>by
   obtain ⟨s,w,h2,L,h3,h4⟩:=h.bytes;rw [hE] at h2;exact ⟨s,L,w,(Prod.mk.inj (D2N h2)).2,h3,h4⟩
  rw [C1B hb (by omega) u1,D14]
  cases hr:rd (l.drop a) with
  |none=>
   have e2:rdA l a=(0,0,false):=by unfold rdA;rw [hr]
   rw [e2];simp only [D2h,D2O,D2g,G6,D14,D18,A0Q];refine ⟨_,rfl, .inr ⟨fun e h=> ?_,rfl⟩⟩;obtain ⟨s,L,w,h2,_,_⟩:=hfree e h;have:=A1G w [];rw [List.append_nil,<-h2,hr] at this;cases this
  |some p=>
   obtain ⟨s,k⟩:=p;obtain ⟨w,hk,hc⟩:=B6X (B4i hb a) hr;have e2:rdA l a=(s,((a+k:Nat):Int),true):=by unfold rdA;rw [hr]
   have hkl:a+k<=l.length:=by
    have:=congrArg List.length hc;rw [D2a,D2C] at this;omega
   rw [e2]
   by_cases hend:a+k=l.length
   ·have hne:(((a+k:Nat):Int) !=(l.length:Int))=false:=by rw [bne_eq_false_iff_eq];omega
    dsimp only;rw [hne];simp only [D2g,Bool.or_false,D2h,G8];rw [K3 (by rw [D2v,D16];omega),D2K]
    obtain ⟨m,hm1,hm2⟩:=C3X (l.take a) (by rw [D2w];omega)
    have hds:l.drop a=M7 s:=by
     rw [hc];have:(l.drop a).drop k= []:=by rw [D22,List.drop_eq_nil_of_le (by omega)]
     rw [this,List.append_nil]
    have hsnapL: ∀e,A06 l e->Q8 (l.take a)=some s:=fun e h=>by
     obtain ⟨s',L,w',h2,h3,h4⟩:=hfree e h;have hs:s' =s:=by
      have h5:=A1G w' [];rw [List.append_nil,<-h2,hr] at h5;exact (Prod.mk.inj (D2N h5)).1.symm
     subst hs;have ht:l.take a=wr L:=by
      have h6:wr L++M7 s' =l.take a++M7 s' :=by rw [<-h3,<-hds,List.take_append_drop]
      exact (List.append_cancel_right h6).symm
     rw [ht];exact h4
    rw [C0I,hm1,D14]
    by_cases hsm:s=m
    ·subst hsm;rw [D2H];simp only [Bool.or_false,D17];obtain ⟨_,bw⟩:=B3G.sim.bwd _ _ _ hb hE;obtain ⟨ns,n1,n2,n3,_⟩:=bw [s] (H0 w A1W) (by rw [hds];simp [wr])
     obtain ⟨pre,p2,p3⟩:=B3G.loc _ _ _ n3;have hpw:K1 pre:=(A3a.1 (p2▸n1)).1;have hpl:ns.length<=1048576:=by have:=B6L ns;rw [<-n2] at this;omega
     have hwE:G7 ⟨now,lim,rs⟩:=C24 n1 hpl n3;have h6:l=wr pre++M7 s:=by rw [n2,p2,A2w]
     have ht:l.take a=wr pre:=by
      have h7:wr pre++M7 s=l.take a++M7 s:=by rw [<-h6,<-hds,List.take_append_drop]
      exact (List.append_cancel_right h7).symm
     have hS:A06 l ⟨now,lim,rs⟩:=⟨pre,s,hpw,w,h6,by rw [<-ht];exact hm1,by have:=p3 [];rwa [List.append_nil] at this⟩
     rw [(T6 _ hwE).1,D14]
     by_cases ok:A4a ⟨now,lim,rs⟩
     ·rw [Q3 ok,D2H,D17];exact ⟨_,rfl, .inl ⟨_,hS,by unfold B0Y;rw [if_pos ok]⟩⟩
     ·rw [I7 ok];exact ⟨_,rfl, .inl ⟨_,hS,by unfold B0Y;rw [if_neg ok];rfl⟩⟩
    ·have hne2:(s !=m)=true:=by rw [bne_iff_ne];exact hsm
     rw [hne2];simp only [Bool.or_true,D18];refine ⟨_,rfl, .inr ⟨fun e h=> ?_,rfl⟩⟩;have:=hsnapL e h;rw [hm1] at this;exact hsm (D2N this).symm
   ·have hne:(((a+k:Nat):Int) !=(l.length:Int))=true:=by rw [bne_iff_ne];omega
    dsimp only;rw [hne];simp only [D2g,Bool.or_true,G6,D14,D18,D2O,D2h,A0Q];refine ⟨_,rfl, .inr ⟨fun e h=> ?_,rfl⟩⟩;obtain ⟨s',L,w',h2,_,_⟩:=hfree e h;have h5:=A1G w' [];rw [List.append_nil,<-h2,hr] at h5;have hk' :=(Prod.mk.inj (D2N h5)).2;rw [D2C] at hk';omega
end Go.Win
namespace Go.Win
open Go.Vc Go.Dec
theorem C5C {β:Type} (i:Rd Int) (c:E1) (F:B0->β):(B8 (stR i c) fun s=>H8 (F { s with Ak:=c}))=B8 (stR i c) fun s=>H8 (F s):=by
 unfold stR
 by_cases h1:c.Bb=1
 ·rw [if_pos h1];simp only [S2,U0]
  rfl
 rw [if_neg h1]
 by_cases h2:c.Bb=2
 ·rw [if_pos h2];simp only [S2,U0]
  rfl
 rw [if_neg h2]
 by_cases h3:c.Bb=3
 ·rw [if_pos h3];simp only [S2,U0]
  rfl
 rw [if_neg h3]
 by_cases h4:c.Bb=4
 ·rw [if_pos h4];simp only [S2,U0]
  rfl
 rw [if_neg h4]
 by_cases h5:c.Bb=5
 ·rw [if_pos h5];simp only [S2,U0]
  rfl
 rw [if_neg h5]
 by_cases h6:c.Bb=6
 ·rw [if_pos h6];simp only [S2,U0]
  rfl
 rw [if_neg h6]
 by_cases h7:c.Bb=7
 ·rw [if_pos h7];simp only [S2,U0]
  rfl
 rw [if_neg h7]
 by_cases h8:c.Bb=8
 ·rw [if_pos h8];simp only [S2,U0]
  rfl
 rw [if_neg h8]
 by_cases h9:c.Bb=9
 ·rw [if_pos h9];simp only [S2,U0]
  rfl
 rw [if_neg h9]
 by_cases h10:c.Bb=10
 ·rw [if_pos h10];simp only [S2,U0]
  rfl
 rw [if_neg h10]
 by_cases h11:c.Bb=11
 ·rw [if_pos h11];simp only [S2,U0]
  rfl
 rw [if_neg h11]
 rfl
noncomputable def C3a (p0:List Int) (now lim:Int) (rs:List C4) (c:A6):Option (B9×Int):=
 Option.bind (gd (!(c.Bi||(c.At !=(c.L.length:Int)))) (V0 c.L)) fun y1=>
 Option.bind (gd (!(c.Bi||(c.At !=(c.L.length:Int)))) (Q0 y1 p0)) fun y2=>
 cond ((c.Bi||(c.At !=(c.L.length:Int)))||(!y2)) (some (zE,13))<|
 Option.bind (V3 (B9.mk now lim rs)) fun y3=>
 cond (y3 !=0) (some (zE,y3))<|some (B9.mk now lim rs,0)
theorem C4E {L:List Int} (hw:K1 L) (hL:L.length<=100000000) (p0:List Int) (y9 y10:Int×A6) (k a:Nat) (out:List C4) (ha:a<=L.length) (ho:out.length+k<=100000000):
  ∃(x:List C4) (a' :Nat) (bad' :Bool),A8f p0 y9 y10 (k:Int) L (a:Int) false out=C3a p0 y9.1 y10.1 x ⟨L,(a' :Int),bad'⟩/\a<=a' /\a' <=L.length/\
   match L3 (A0j B1) k (L.drop a) with
   |some (y,r)=>bad' =false/\x=out++y/\r=L.drop a'
   |none=>bad' =true:=by
 unfold A8f
 suffices h: ∃(x:List C4) (a' :Nat) (bad' :Bool),loop (fun s:(Int×(List Int)×Int×Bool×(List C4))=>S6 p0 y9 y10 s.1 s.2.1 s.2.2.1 s.2.2.2.1 s.2.2.2.2) ((k:Int),L,(a:Int),false,out)=C3a p0 y9.1 y10.1 x ⟨L,(a' :Int),bad'⟩/\a<=a' /\a' <=L.length/\(∀y r,L3 (A0j B1) k (L.drop a)=some (y,r)->bad' =false/\x=out++y/\r=L.drop a')/\(L3 (A0j B1) k (L.drop a)=none->bad' =true) by
  obtain ⟨x,a',b',h1,h2,h3,h4,h5⟩:=h;refine ⟨x,a',b',h1,h2,h3, ?_⟩;cases hr:L3 (A0j B1) k (L.drop a) with
  |none=>exact h5 hr
  |some q=>exact h4 q.1 q.2 hr
 have hbad: ∀(a:Int) (out:List C4) (k:Int),(fun s:(Int×(List Int)×Int×Bool×(List C4))=>S6 p0 y9 y10 s.1 s.2.1 s.2.2.1 s.2.2.2.1 s.2.2.2.2) (k,L,a,true,out)=Option.map Sum.inr (C3a p0 y9.1 y10.1 out ⟨L,a,true⟩):=fun a out k=>by
  dsimp only;unfold S6;rw [D2g,Bool.and_false,D17]
  rfl
 have hs: ∀(a:Nat) (out:List C4) (k:Nat),a<=L.length->out.length+k<=100000000-> ∃(x:C4) (a' :Nat) (bad' :Bool),(fun s:(Int×(List Int)×Int×Bool×(List C4))=>S6 p0 y9 y10 s.1 s.2.1 s.2.2.1 s.2.2.2.1 s.2.2.2.2) (((k+1:Nat):Int),L,(a:Int),false,out)=some (.inl ((k:Int),L,(a' :Int),bad',out++ [x]))/\a<=a' /\a' <=L.length/\Ans ((A0j B1) (L.drop a)) x (L.drop a') bad' :=fun a out k ha ho=>by
  refine A7l (S:=(fun s:(Int×(List Int)×Int×Bool×(List C4))=>S6 p0 y9 y10 s.1 s.2.1 s.2.2.1 s.2.2.2.1 s.2.2.2.2)) (fun out n L a b=>(n,L,a,b,out)) 640 (by decide) ho ?_
  dsimp only;unfold S6;rw [D19 (show ((k+1:Nat):Int)>0 by omega),D2h,Bool.and_self,D18]
  refine H6.bind hw hL Cu.take ha fun id a1 b1 u1=> ?_;refine H6.bind hw hL (P:=B4r B1) Cu.config u1 fun c a2 b2 u2=> ?_;refine H6.cg (H6.map (H6.state hw hL c a2 b2 u2) (fun s=>C4.mk id { s with Ak:=c}) fun s cu=> ?_) (C5C B1 c (C4.mk id))
  rfl
 obtain ⟨x,a',b',h1,h2,h3,h4⟩:=C5f hw hL (P:=A0j B1) (fun out n L a b=>(n,L,a,b,out)) (C3a p0 y9.1 y10.1) (S:=(fun s:(Int×(List Int)×Int×Bool×(List C4))=>S6 p0 y9 y10 s.1 s.2.1 s.2.2.1 s.2.2.2.1 s.2.2.2.2)) hs hbad (fun a out=>rfl) k a out ha ho;refine ⟨x,a',b',h1,h2,h3,fun y r hr=> ?_,fun hr=> ?_⟩
 ·rw [hr] at h4;exact h4
 ·rw [hr] at h4;exact h4
theorem C22 (v now lim n:Int) (rest:List Int):A1b B1 (v::now::lim::n::rest)=if v<1\/1<v then none else if n<0\/64<n then none else (L3 (A0j B1) n.toNat rest).bind fun q=>some (⟨now,lim,q.1⟩,q.2):=by
 unfold A1b Y8 B8;show (Option.bind (if v<1\/1<v then none else some (v,now::lim::n::rest)) _)=_
 by_cases h1:v<1\/1<v
 ·rw [if_pos h1,if_pos h1];rfl
 rw [if_neg h1,if_neg h1];show (Option.bind (if n<0\/64<n then none else some (n,rest)) _)=_
 by_cases h2:n<0\/64<n
 ·rw [if_pos h2,if_pos h2];rfl
 rw [if_neg h2,if_neg h2]
 rfl
theorem C8x {L:List Int} {e:B9} {r:List Int} (h:A1b B1 L=some (e,r)): ∃v now lim n rest,L=v::now::lim::n::rest:=by
 unfold A1b at h;obtain ⟨v,l1,h1,h⟩:=N4 h;obtain ⟨now,l2,h2,h⟩:=N4 h;obtain ⟨lim,l3,h3,h⟩:=N4 h;obtain ⟨n,l4,h4,h⟩:=N4 h;obtain ⟨v',l1',h1',h1''⟩:=N4 h1;obtain ⟨n',l4',h4',h4''⟩:=N4 h4;have e1:l1=l1' :=by
  split at h1''
  ·cases h1''
  ·exact ((Prod.mk.inj (D2N h1'')).2).symm
 have e4:l4=l4' :=by
  split at h4''
  ·cases h4''
  ·exact ((Prod.mk.inj (D2N h4'')).2).symm
 have tk: ∀ {l:List Int} {x:Int} {r:List Int},B1 l=some (x,r)->l=x::r:=fun {l x r} h=>by
  cases l with
  |nil=>cases h
  |cons y l=>cases h;rfl
 exact ⟨v',now,lim,n',l4',by rw [tk h1',<-e1,tk h2,tk h3,tk h4']⟩
theorem C6F {l:List Int} (hb:V8 l) (hl:l.length<=1048576): ∃r,A1S l=some r/\A9J l r:=by
 obtain ⟨r0,n1,n2⟩:=C4T hb (by omega)
 unfold A1S;rw [D2b (by omega),D17,n1,D14]
 rcases n2 with ⟨ns,w,e,rfl⟩|⟨rfl,hno⟩
 ·dsimp only;have hlen:ns.length<=1048576:=by have:=B6L ns;rw [<-e] at this;omega
  have hS: ∀e',A06 l e' -> ∃L s,ns=L++ [s]/\Q8 (wr L)=some s/\A1b B1 L=some (e', []):=fun e' h=>by
   obtain ⟨L,s,w1,w2,h1,h2,h3⟩:=h;exact ⟨L,s,B9R w (A2Z w1 w2) (by rw [A2w,<-e,<-h1]),h2,h3⟩
  by_cases h5:ns.length<5
  ·have c:(((0:Int) !=0)||decide ((ns.length:Int)<5))=true:=by rw [D2f,D16];omega
   rw [c,D18];refine ⟨_,rfl, .inr ⟨fun e' h=> ?_,rfl⟩⟩;obtain ⟨L,s,h1,_,h3⟩:=hS e' h;obtain ⟨v,now,lim,n,rest,h4⟩:=C8x h3;rw [h1,h4] at h5;simp at h5;omega
  have c:(((0:Int) !=0)||decide ((ns.length:Int)<5))=false:=by rw [D2E,D2l];exact ⟨rfl,by omega⟩
  have hm1:A3 ((ns.length:Int)-1)=((ns.length-1:Nat):Int):=by rw [D5]<;>omega
  rw [c,D17,hm1,K3 (by rw [D16];omega),D2K]
  obtain ⟨v,now,lim,n,rest,hM⟩: ∃v now lim n rest,ns.take (ns.length-1)=v::now::lim::n::rest:=by
   match hq:ns.take (ns.length-1),(show 4<=(ns.take (ns.length-1)).length by rw [D2w];omega) with
   |v::now::lim::n::rest,_=>exact ⟨v,now,lim,n,rest,rfl⟩
  have hMl:(ns.take (ns.length-1)).length=ns.length-1:=by rw [D2w];omega
  have hlt:ns.length-1<ns.length:=by omega
  have hsp:=List.take_append_drop (ns.length-1) ns;rw [List.drop_eq_getElem_cons hlt,List.drop_eq_nil_of_le (by omega)] at hsp
  generalize hMM:ns.take (ns.length-1)=M at hM hMl
  have hns: ∃s,ns=M++ [s]:=by
   exact ⟨_,(by rw [<-hMM];exact hsp.symm)⟩
  obtain ⟨s0,hns⟩:=hns;have hMw:K1 M:=(A3a.1 (hns▸w)).1;have hS' : ∀e',A06 l e' ->Q8 (wr M)=some s0/\A1b B1 M=some (e', []):=fun e' h=>by
   obtain ⟨L,s,h1,h2,h3⟩:=hS e' h;have hi:=List.append_inj' (hns.symm.trans h1) rfl;have hs:=(List.cons.inj hi.2).1;rw [hi.1,hs];exact ⟨h2,h3⟩
  have hML:M.length<=100000000:=by omega
  have t0:A4 ⟨M,0,false⟩=some (v,⟨M,((0+1:Nat):Int),false⟩):=by
   have:=A7F (L:=M) (a:=0) false hML (by rw [hMl];omega)
   simpa [hM] using this
  have t1:A4 ⟨M,((0+1:Nat):Int),false⟩=some (now,⟨M,((0+1+1:Nat):Int),false⟩):=by
   have:=A7F (L:=M) (a:=0+1) false hML (by rw [hMl];omega)
   simpa [hM] using this
  have t2:A4 ⟨M,((0+1+1:Nat):Int),false⟩=some (lim,⟨M,((0+1+1+1:Nat):Int),false⟩):=by
   have:=A7F (L:=M) (a:=0+1+1) false hML (by rw [hMl];omega)
   simpa [hM] using this
  have t3:A4 ⟨M,((0+1+1+1:Nat):Int),false⟩=some (n,⟨M,((4:Nat):Int),false⟩):=by
   have:=A7F (L:=M) (a:=0+1+1+1) false hML (by rw [hMl];omega)
   simpa [hM] using this
  rw [t0,D14];dsimp only;rw [t1,D14];dsimp only;rw [t2,D14];dsimp only;rw [t3,D14];dsimp only
  by_cases hvn:v≠1\/n<0\/n>64
  ·have c2:(((v !=1)||decide (n<0))||decide (n>64))=true:=by
    simp only [D2f,bne_iff_ne,D16];rcases hvn with h|h|h
    ·exact .inl (.inl h)
    ·exact .inl (.inr h)
    ·exact .inr h
   rw [c2,D18];refine ⟨_,rfl, .inr ⟨fun e' h=> ?_,rfl⟩⟩;obtain ⟨_,h3⟩:=hS' e' h;rw [hM,C22] at h3;split at h3
   ·cases h3
   split at h3
   ·cases h3
   ·omega
  have c2:(((v !=1)||decide (n<0))||decide (n>64))=false:=by
   simp only [D2E,bne_eq_false_iff_eq,D2l];omega
  rw [c2,D17];obtain ⟨k,rfl⟩:=Int.eq_ofNat_of_zero_le (show 0<=n by omega)
  obtain ⟨x,a',b',f1,f2,f3,f4⟩:=C4E hMw hML l (now,⟨M,((0+1+1:Nat):Int),false⟩) (lim,⟨M,((0+1+1+1:Nat):Int),false⟩) k 4 [] (by omega) (by rw [D2A];omega)
  rw [f1];have hd4:M.drop 4=rest:=by rw [hM];rfl
  have hE:A1b B1 M=(L3 (A0j B1) k rest).bind fun q=>some (⟨now,lim,q.1⟩,q.2):=by
   rw [hM,C22,if_neg (by omega),if_neg (by omega),D2K]
  rw [hd4] at f4;unfold C3a;dsimp only;cases hr:L3 (A0j B1) k rest with
  |none=>
   rw [hr] at f4 hE;have f4' :b' =true:=f4;subst f4';refine ⟨(zE,13),rfl, .inr ⟨fun e' h=> ?_,rfl⟩⟩;obtain ⟨_,h3⟩:=hS' e' h;rw [hE] at h3;cases h3
  |some q=>
   obtain ⟨y,rr⟩:=q;rw [hr] at f4 hE;obtain ⟨g1,g2,g3⟩:=f4;rw [List.nil_append] at g2;subst g1 g2 g3;rw [D14] at hE
   by_cases hend:a' =M.length
   ·have c3:(false||((a' :Int) !=(M.length:Int)))=false:=by simp;omega
    rw [c3];simp only [D2h,G8,D2v];obtain ⟨s1,m,hm,s2,s3⟩:=A4I hMw (by omega)
    have hby:V8 (A12 M):=by rw [s3];exact B9V (C4k M) (B8i m)
    rw [s1,D14,same_bytes hby hb,D14];have hE' :A1b B1 M=some (⟨now,lim,x⟩, []):=by rw [hE,hend,List.drop_length]
    by_cases heq:A12 M=l
    ·rw [D19 heq,D2g,D17];have hSn:A06 l ⟨now,lim,x⟩:=⟨M,m,hMw,hm,by rw [<-heq,s3],s2,hE'⟩
     have hwE:G7 ⟨now,lim,x⟩:=C24 hMw (by omega) hE'
     rw [(T6 _ hwE).2,D14]
     by_cases ok:A4a ⟨now,lim,x⟩
     ·rw [Q3 ok,D2H,D17];exact ⟨_,rfl, .inl ⟨_,hSn,by unfold B0Y;rw [if_pos ok]⟩⟩
     ·rw [I7 ok];exact ⟨_,rfl, .inl ⟨_,hSn,by unfold B0Y;rw [if_neg ok]⟩⟩
    ·rw [D2b heq,D2h,D18];refine ⟨_,rfl, .inr ⟨fun e' h=> ?_,rfl⟩⟩;obtain ⟨h2,_⟩:=hS' e' h;rw [s2] at h2;apply heq;rw [s3,e,hns,A2w,D2N h2]
   ·have c3:(false||((a' :Int) !=(M.length:Int)))=true:=by simp;omega
    rw [c3];refine ⟨(zE,13),rfl, .inr ⟨fun e' h=> ?_,rfl⟩⟩;obtain ⟨_,h3⟩:=hS' e' h;rw [hE] at h3;have:=congrArg List.length (Prod.mk.inj (D2N h3)).2;rw [D2C,D2A] at this;omega
 ·refine ⟨(zE,13),rfl, .inr ⟨fun e' h=> ?_,rfl⟩⟩;obtain ⟨L,s,w1,w2,h1,_,_⟩:=h;exact hno (L++ [s]) (A2Z w1 w2) (by rw [A2w];exact h1)
end Go.Win
