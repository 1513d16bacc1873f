/- Plain laws of the functions on plain data. -/
import Derived.Test.YtoljnakoodalpaaGreatVc
import Derived.Test.YtoljnakoodalpaaGreatWin
set_option linter.unusedVariables false
set_option linter.unusedSimpArgs false
set_option linter.unnecessarySimpa false
set_option linter.unusedSectionVars false
namespace Go.Win
open Go.Vc Go.Dec
theorem C6 {n:Int} (h1:-9223372036854775808<=n) (h2:n<=9223372036854775807):A2 n=n:=by
 show IntKind.i64.wrap n=n;rw [IntKind.wrap_i64];omega
theorem C2h (n:Int):A2 n=(n+9223372036854775808)%18446744073709551616-9223372036854775808:=by
 show IntKind.i64.wrap n=_;rw [IntKind.wrap_i64]
theorem B2F (n:Int):F9 n=n%18446744073709551616:=by
 show IntKind.u64.wrap n=_;rw [IntKind.wrap_u64]
theorem A1Q {R:Type} {f:Int->Option (Int⊕R)} {n:Nat} {bad:Nat->Bool} {E:R} {A:Option R}
  (hs:∀i:Nat,i<n->f i=cond (bad i) (some (.inr E)) (some (.inl ((i:Int)+1)))) (hd:f n=Option.map Sum.inr A):
  loop f 0=cond ((List.range n).any bad) (some E) A:=by
 have key: ∀k i:Nat,i+k=n->loop f i=cond ((List.range' i k).any bad) (some E) A:=by
  intro k
  induction k with
  |zero=>
   intro i hi;have hi:i=n:=by omega
   subst hi;rw [O6,hd];cases A<;>rfl
  |succ k ih=>
   intro i hi;rw [O6,hs i (by omega),List.range'_succ,List.any_cons]
   cases hb:bad i with
   |true=>rfl
   |false=>
    have:=ih (i+1) (by omega)
    simpa using this
 have:=key n 0 (by omega)
 rw [<-List.range_eq_range'] at this;exact this
theorem A7h {n:Nat} {p:Nat->Bool}:(List.range n).any p=true↔ ∃i,i<n/\p i=true:=by
 simp [List.any_eq_true]
theorem I1:maxLen=9223372036854775807:=rfl
end Go.Win
namespace Go.Win
open Go.Vc Go.Dec
def el {α:Type} [Inhabited α] (l:List α) (i:Nat):α:=l.getD i default
theorem A7m {α:Type} [Inhabited α] {l:List α} {i:Nat} (h:i<l.length):l[i]? =some (el l i):=by
 unfold el;rw [D1c h];simp [List.getD,D1c h]
theorem A79 {α:Type} [Inhabited α] {l:List α} {i:Nat} (h:i<l.length):el l i=l[i]:=by
 have:=A7m h;rw [D1c h] at this;exact (D1H this).symm
theorem F8 {α:Type} [Inhabited α] {l:List α} {i:Nat} (h:i<l.length):D2 l (i:Int)=some (el l i):=by
 rw [K8,A7m h]
theorem A3v {α:Type} [Inhabited α] {l:List α} (h:0<l.length):D2 l (0:Int)=some (el l 0):=F8 h
theorem A5l {α:Type} [Inhabited α] {l:List α} {i:Nat} (h:i<l.length):el l i∈l:=by
 rw [A79 h];exact D1N h
theorem C6n {α:Type} [Inhabited α] {l:List α} {x:α} (h:x∈l): ∃i,i<l.length/\el l i=x:=by
 obtain ⟨i,hi,e⟩:=List.getElem_of_mem h;exact ⟨i,hi,by rw [A79 hi];exact e⟩
theorem A1w {i n:Nat} (h0:0<i) (h:i<=n) (hm:n<=maxLen):A2 ((i:Int)-1)=((i-1:Nat):Int):=by
 rw [I1] at hm;rw [C6]<;>omega
theorem O8 {i n:Nat} (h:i<n) (hm:n<=maxLen):A2 ((i:Int)+1)=((i+1:Nat):Int):=by
 rw [I1] at hm;rw [C6]<;>omega
theorem V1 {S R:Type} {f:S->Option (S⊕R)} (st:Nat->S) (a n:Nat) (han:a<=n) (bad:Nat->Prop) (E:R) (A:Option R)
  (hs:∀i,a<=i->i<n->(∀j,a<=j->j<i-> ¬bad j)->(bad i->f (st i)=some (.inr E))/\(¬bad i->f (st i)=some (.inl (st (i+1)))))
  (hd:(∀j,a<=j->j<n-> ¬bad j)->f (st n)=Option.map Sum.inr A):
  ((∃i,a<=i/\i<n/\bad i)->loop f (st a)=some E)/\((∀i,a<=i->i<n-> ¬bad i)->loop f (st a)=A):=by
 have key: ∀k i:Nat,a<=i->i+k=n->(∀j,a<=j->j<i-> ¬bad j)->
   ((∃j,i<=j/\j<n/\bad j)->loop f (st i)=some E)/\((∀j,i<=j->j<n-> ¬bad j)->loop f (st i)=A):=by
  intro k
  induction k with
  |zero=>
   intro i hai hi hb;have hi:i=n:=by omega
   subst hi;refine ⟨fun ⟨j,h1,h2,_⟩=>by omega,fun _=> ?_⟩
   rw [O6,hd hb];cases A<;>rfl
  |succ k ih=>
   intro i hai hi hb;obtain ⟨h1,h2⟩:=hs i hai (by omega) hb
   by_cases hbi:bad i
   ·refine ⟨fun _=>J5 (h1 hbi),fun h=>absurd hbi (h i (D1G _) (by omega))⟩
   ·obtain ⟨g1,g2⟩:=ih (i+1) (by omega) (by omega) (fun j h3 h4=>by
     by_cases e:j=i
     ·subst e;exact hbi
     ·exact hb j h3 (by omega))
    rw [L4 (h2 hbi)];refine ⟨fun ⟨j,h3,h4,h5⟩=>g1 ⟨j, ?_,h4,h5⟩,fun h=>g2 fun j h3 h4=>h j (by omega) h4⟩
    by_cases e:j=i
    ·subst e;exact absurd h5 hbi
    ·omega
 exact key (n-a) a (D1G _) (by omega) (fun j _ _=>by omega)
theorem L1 {R:Type} {f:Int->Option (Int⊕R)} (n:Nat) (bad:Nat->Prop) (E:R) (A:Option R)
  (hs:∀i:Nat,i<n->(∀j,j<i-> ¬bad j)->(bad i->f (i:Int)=some (.inr E))/\(¬bad i->f (i:Int)=some (.inl ((i+1:Nat):Int))))
  (hd:(∀j,j<n-> ¬bad j)->f (n:Int)=Option.map Sum.inr A):
  ((∃i,i<n/\bad i)->loop f 0=some E)/\((∀i,i<n-> ¬bad i)->loop f 0=A):=by
 have:=V1 (f:=f) (fun i=>(i:Int)) 0 n (Nat.zero_le _) bad E A (fun i _ h2 h3=>hs i h2 fun j h4=>h3 j (Nat.zero_le _) h4) (fun h=>hd fun j h4=>h j (Nat.zero_le _) h4);exact ⟨fun ⟨i,h1,h2⟩=>this.1 ⟨i,Nat.zero_le _,h1,h2⟩,fun h=>this.2 fun i _ h1=>h i h1⟩
theorem C7h {α:Type} (b:Bool) (x y:α):cond b x y=if b=true then x else y:=by cases b<;>rfl
open Classical in
noncomputable def vOf (p:Prop):Int:=if p then 0 else 2
theorem N0 {p:Prop} (h:p):vOf p=0:=by unfold vOf;rw [if_pos h]
theorem H3 {p:Prop} (h:¬p):vOf p=2:=by unfold vOf;rw [if_neg h]
open Classical in
noncomputable def L6 (p:Prop):Bool:=if p then true else false
theorem K9 {p:Prop} (h:p):L6 p=true:=by unfold L6;rw [if_pos h]
theorem I9 {p:Prop} (h:¬p):L6 p=false:=by unfold L6;rw [if_neg h]
theorem H0 {p:Prop}:L6 p=true↔p:=by
 unfold L6;split<;>simp_all
end Go.Win
namespace Go.Win
open Go.Vc Go.Dec
def B6l (x:A9) (i:Nat):Bool:=match x.Au[i]? with
 |none=>false
 |some l=>(((((decide (l.V<(-4096:Int)))||(decide (l.V>(4096:Int))))||(decide (l.I<(1:Int))))||(decide (l.I>x.I)))||(decide (l.I<=(A2 (x.I-x.W)))))||
  (decide (0<i)&&match x.Au[i-1]? with
   |none=>false
   |some p=>decide (l.I<=p.I)||decide (l.I>A2 (p.I+x.W)))
noncomputable def B1v (x:A9) (i:Nat):Bool:=match x.Au[i]? with
 |none=>false
 |some l=>((!(D8 l.V))||(decide (l.I>x.I)))||
  (decide (0<i)&&match x.Au[i-1]? with
   |none=>false
   |some p=>decide (l.I<=p.I)||decide (l.I>A2 (p.I+x.W)))
def C7b (p0:A9):Option Int:=(Option.bind (gd (!(decide (p0.Ba<=p0.I))) (D2 p0.Au (A2 ((p0.Au.length:Int)-(1:Int))))) fun x17_14=>
 cond ((decide (p0.Ba<=p0.I))||(decide (p0.Ba>(A2 (x17_14.I+p0.W))))) (
  some (2:Int))<|
 some (0:Int))
theorem B27 {i:Nat} (h:0<i) (hm:i<=maxLen):A2 ((i:Int)-1)=((i-1:Nat):Int):=by
 rw [I1] at hm;rw [C6]<;>omega
theorem O9 {i n:Nat} (h:i<n) (hm:n<=maxLen):A2 ((i:Int)+1)=(i:Int)+1:=by
 rw [I1] at hm;rw [C6]<;>omega
theorem C78 (x:A9) (hl:x.Au.length<=maxLen):A5a x 0=cond ((List.range x.Au.length).any (B6l x)) (some 2) (C7b x):=by
 unfold A5a;refine A1Q (fun i hi=> ?_) ?_
 ·have h1:x.Au[i]? =some x.Au[i]:=D1c hi;have hs:=O9 hi hl;unfold A33 B6l;simp only [Int.ofNat_lt,hi,decide_true,D02,K8,h1,D0Y,hs]
  by_cases h0:0<i
  ·have hp:=B27 h0 (Nat.le_trans (Nat.le_of_lt hi) hl);have h2:x.Au[i-1]? =some x.Au[i-1]:=D1c (by omega)
   have h3:((i:Int)>0):=by omega
   simp only [hp,K8,h2,h3,h0,decide_true,G8,D0Y,D1z];cases decide (x.Au[i].I<=x.Au[i-1].I)<;>cases (((((decide (x.Au[i].V<(-4096:Int)))||(decide (x.Au[i].V>(4096:Int))))||(decide (x.Au[i].I<(1:Int))))||(decide (x.Au[i].I>x.I)))||(decide (x.Au[i].I<=(A2 (x.I-x.W)))))<;>simp
  ·have h3: ¬((i:Int)>0):=by omega
   simp only [h3,h0,decide_false,G2,D0Y,D1t,D01,Bool.or_false]
 ·unfold A33;simp only [D1r,decide_false,D01]
  rfl
theorem D0v (x:A9) (hl:x.Au.length<=maxLen):A5f x 0=cond ((List.range x.Au.length).any (B1v x)) (some 2) (C7b x):=by
 unfold A5f;refine A1Q (fun i hi=> ?_) ?_
 ·have h1:x.Au[i]? =some x.Au[i]:=D1c hi;have hs:=O9 hi hl;unfold A4e B1v;simp only [Int.ofNat_lt,hi,decide_true,D02,K8,h1,D0Y,hs]
  by_cases h0:0<i
  ·have hp:=B27 h0 (Nat.le_trans (Nat.le_of_lt hi) hl);have h2:x.Au[i-1]? =some x.Au[i-1]:=D1c (by omega)
   have h3:((i:Int)>0):=by omega
   simp only [hp,K8,h2,h3,h0,decide_true,D1z,Bool.and_true]
   by_cases hA:x.Au[i].I<=x.Au[i-1].I<;>cases ((!(D8 x.Au[i].V))||(decide (x.Au[i].I>x.I)))<;>simp [hA]
  ·have h3: ¬((i:Int)>0):=by omega
   simp only [h3,h0,decide_false,G2,D0Y,D1t,Bool.and_false,Bool.or_false]
 ·unfold A4e;simp only [D1r,decide_false,D01]
  rfl
theorem J9 {α:Type} {l:List α} {i:Nat} (h:i<l.length):l[i]? =some l[i]:=D1c h
theorem asc (x:A9) (h:∀i,i<x.Au.length->B1v x i=false): ∀i (hi:i<x.Au.length),x.Au[0].I<=x.Au[i].I:=by
 intro i
 induction i with
 |zero=>intro hi;exact Int.le_refl _
 |succ i ih=>
  intro hi;have h1:=ih (by omega)
  have h2:=h (i+1) hi;simp only [B1v,J9 hi,D1F,J9 (show i<x.Au.length by omega),Nat.succ_pos,decide_true,D1z,D1y,D1f] at h2
  omega
def A93 (x:A9):Bool:=match x.Au[0]? with
 |none=>false
 |some l=>decide (l.I<=A2 (x.I-x.W))||decide (l.I<1)
theorem D0t (x:A9):(List.range x.Au.length).any (B6l x)=(A93 x||(List.range x.Au.length).any (B1v x)):=by
 rw [D1j,D09,A7h,A7h];constructor
 ·rintro ⟨i,hi,hb⟩
  by_cases hR: ∃i,i<x.Au.length/\B1v x i=true
  ·exact .inr hR
  ·left;have hno: ∀i,i<x.Au.length->B1v x i=false:=fun i hi=>by
    cases h:B1v x i with
    |false=>rfl
    |true=>exact absurd ⟨i,hi,h⟩ hR
   have ha:=asc x hno i hi;have h2:=hno i hi;have h0:0<x.Au.length:=by omega
   simp only [A93,J9 h0,D09,D00];simp only [B1v,J9 hi,D8,D1y,Bool.not_eq_false',D06,D00,D1f] at h2;simp only [B6l,J9 hi,D09,D00] at hb;obtain ⟨⟨⟨h3,h4⟩,h5⟩,h6⟩:=h2;rcases hb with hb|hb
   ·omega
   ·rw [h6] at hb;cases hb
 ·rintro (h|⟨i,hi,hb⟩)
  ·have h0:0<x.Au.length:=by
    rcases Nat.eq_zero_or_pos x.Au.length with h0|h0
    ·simp [A93,D1J h0] at h
    ·exact h0
   refine ⟨0,h0, ?_⟩;simp only [A93,J9 h0,D09,D00] at h;simp only [B6l,J9 h0,D09,D00];left;omega
  ·refine ⟨i,hi, ?_⟩;simp only [B1v,J9 hi,D8,D09,D1k,D1P,D00,D1f] at hb;simp only [B6l,J9 hi,D09,D00];rcases hb with hb|hb
   ·left;omega
   ·exact .inr hb
theorem B1N (x:A9) (hl:x.Au.length<=maxLen):L2 x=A0F x:=by
 unfold L2 A0F;simp only [C78 x hl,D0v x hl,D0t x];have e1:(((((((decide (x.W<(1:Int)))||(decide (x.W>(1048576:Int))))||(decide (x.Cap<(1:Int))))||(decide (x.Cap>(64:Int))))||(decide (x.I<(0:Int))))||(decide (x.I>(1099511627776:Int))))||(decide ((x.Au.length:Int)>x.Cap)))
  =((((((!(M6 x.W))||(decide (x.Cap<(1:Int))))||(decide (x.Cap>(64:Int))))||(decide (x.I<(0:Int))))||(decide (x.I>(1099511627776:Int))))||(decide ((x.Au.length:Int)>x.Cap))):=by
  rw [D1j];simp only [M6,D09,D1k,D1P,D00,D1f];omega
 rw [e1]
 congr 2
 ·rw [show decide ((x.Au.length:Int)>0)=((x.Au.length:Int) !=0) by rw [D1j,D00,bne_iff_ne];omega]
 ·by_cases h0:x.Au= []
  ·simp [h0]
  ·have h1:0<x.Au.length:=List.length_pos_iff.2 h0;have h2:((x.Au.length:Int)==0)=false:=by rw [D1O];omega
   have h3:D2 x.Au (0:Int)=some x.Au[0]:=by simp [D2,h1]
   simp only [h2,h3,D01,D1b,G8,D0Y,D1p,A93,J9 h1]
   by_cases hA:x.Au[0].I<=A2 (x.I-x.W)<;>by_cases hB:x.Au[0].I<1<;>simp [hA,hB]
theorem C3n (x:A9) (hl:x.Au.length<=maxLen):A9h x x=some true:=by
 unfold A9h;have h:A8w x x 0=cond ((List.range x.Au.length).any fun _=>false) (some false) (some true):=by
  unfold A8w;refine A1Q (fun i hi=> ?_) ?_
  ·unfold A7v;simp [hi,O9 hi hl]
  ·unfold A7v;simp
 have hf:((List.range x.Au.length).any fun _=>false)=false:=by simp
 rw [hf] at h;simp [h]
theorem A45 (x:A9) (hl:x.Au.length<=maxLen): ∃r,L2 x=some r/\(r=0->0<=x.I/\x.I<=1099511627776/\1<=x.W/\x.W<=1048576/\1<=x.Cap/\x.Cap<=64/\(x.Au.length:Int)<=x.Cap/\(x.Au= []->x.I=0)/\(x.I=0->x.Ba=0)):=by
 unfold L2;simp only [C78 x hl]
 by_cases h:(((((((decide (x.W<(1:Int)))||(decide (x.W>(1048576:Int))))||(decide (x.Cap<(1:Int))))||(decide (x.Cap>(64:Int))))||(decide (x.I<(0:Int))))||(decide (x.I>(1099511627776:Int))))||(decide ((x.Au.length:Int)>x.Cap)))=true
 ·rw [h];exact ⟨2,rfl,fun h=>by simp at h⟩
 ·rw [Bool.not_eq_true] at h;rw [h];simp only [D1y,D1f] at h
  by_cases h0:x.I=0
  ·simp only [h0,beq_self_eq_true,D02,D01];cases hc:(decide ((x.Au.length:Int)>(0:Int))||(x.Ba !=(0:Int)))
   ·simp only [D1y,bne_eq_false_iff_eq] at hc;exact ⟨0,rfl,fun _=>⟨by omega,by omega,by omega,by omega,by omega,by omega,by omega,fun _=>trivial,fun _=>hc.2⟩⟩
   ·exact ⟨2,rfl,fun h=>by simp at h⟩
  ·have h0' :(x.I==0)=false:=by rw [D1O];exact h0
   simp only [h0',D01]
   by_cases h1:x.Au= []
   ·rw [h1];exact ⟨2,rfl,fun h=>by simp at h⟩
   ·have h2:((x.Au.length:Int)==0)=false:=by
     have:=List.length_pos_iff.2 h1;rw [D1O];omega
    simp only [h2,D01];have all: ∀r:Int,(r=0->0<=x.I/\x.I<=1099511627776/\1<=x.W/\x.W<=1048576/\1<=x.Cap/\x.Cap<=64/\(x.Au.length:Int)<=x.Cap/\(x.Au= []->x.I=0)/\(x.I=0->x.Ba=0)):=fun _ _=>⟨by omega,by omega,by omega,by omega,by omega,by omega,by omega,fun h=>absurd h h1,fun h=>absurd h h0⟩
    cases (List.range x.Au.length).any (B6l x) with
    |true=>exact ⟨2,rfl,all _⟩
    |false=>
     simp only [D01];unfold C7b;have hp:=List.length_pos_iff.2 h1;have hw:=B27 hp hl;simp only [hw,K8,J9 (show x.Au.length-1<x.Au.length by omega)]
     by_cases hN:x.Ba<=x.I
     ·simp only [hN,decide_true,D1a,G2,D0Y,D1I,D02];exact ⟨2,rfl,all _⟩
     ·simp only [hN,decide_false,D1b,G8,D0Y,D1p];cases decide (x.Ba>A2 ((x.Au[x.Au.length-1]'(by omega)).I+x.W))
      ·exact ⟨0,rfl,all _⟩
      ·exact ⟨2,rfl,all _⟩
def A1Z (draws:List Int) (at_ m:Int):Int×Int×Int:=
 if m<1\/at_<0 then (0,0,1) else match draws[at_.toNat]? with
  |none=>(0,0,8)
  |some d=>if d<0\/d>=m then (0,0,8) else (d,A2 (at_+1),0)
theorem B8O (draws:List Int) (at_ m:Int):B0Q draws at_ m=some (A1Z draws at_ m):=by
 unfold B0Q A1Z
 by_cases h:m<1\/at_<0
 ·have hb:(decide (m<1)||decide (at_<0))=true:=by simpa using h
  simp only [hb,D02,if_pos h]
 ·have hb:(decide (m<1)||decide (at_<0))=false:=by simpa using h
  rw [if_neg h];simp only [hb,D01];have h0:0<=at_:=by omega
  by_cases hl:at_>=(draws.length:Int)
  ·have hn:draws[at_.toNat]? =none:=D1V (by omega)
   simp only [hl,decide_true,D1a,G2,D0Y,D1I,D02,hn]
  ·have hn:draws[at_.toNat]? =some (draws[at_.toNat]'(by omega)):=D1c (by omega)
   have hi:D2 draws at_=some (draws[at_.toNat]'(by omega)):=by
    unfold D2;rw [if_pos h0,hn]
   simp only [hl,decide_false,D1b,G8,D0Y,D1p,hi,hn]
   generalize draws[at_.toNat]'(by omega)=d
   by_cases h1:d<0<;>by_cases h2:d>=m<;>simp [h1,h2,gd]
theorem C1V (draws:List Int) (at_ m:Int):A6K draws at_ m=some (A1Z draws at_ m):=B8O draws at_ m
theorem B7r {draws:List Int} {at_ m:Int} (hm:1<=m) (ha:0<=at_):
  ((A1Z draws at_ m).2.2=8)\/((A1Z draws at_ m).2.2=0/\at_<draws.length/\(A1Z draws at_ m).2.1=A2 (at_+1)/\0<=(A1Z draws at_ m).1/\(A1Z draws at_ m).1<m):=by
 unfold A1Z;rw [if_neg (by omega)]
 split
 ·exact .inl rfl
 ·rename_i d hd;have:=(D08.1 hd).1;split
  ·exact .inl rfl
  ·exact .inr ⟨rfl,by omega,rfl,by show 0<=d;omega,by show d<m;omega⟩
theorem B6g (draws:List Int) (at_ b m:Int):U9 ⟨draws,at_,b⟩ m=some (
  if (A1Z draws at_ m).2.2=0 then ((A1Z draws at_ m).1,0,⟨draws,(A1Z draws at_ m).2.1,b⟩) else (0,(A1Z draws at_ m).2.2,⟨draws,at_,if at_>=(draws.length:Int) then m else b⟩)):=by
 unfold U9;simp only [B8O,D0Y]
 generalize A1Z draws at_ m=q
 by_cases h:q.2.2=0
 ·simp [h]
 ·have hb:(q.2.2 !=0)=true:=by rw [bne_iff_ne];exact h
  by_cases h2:at_>=(draws.length:Int)<;>simp [h,h2,hb]
def Rel (draws:List Int) (a:A9×Int×I2) (b:A9×Int×Int×Int):Prop:=
 a.2.1=b.2.2.2/\(a.2.1=0->a.1=b.1/\a.2.2.at_=b.2.1)/\(a.2.1=8->if b.2.1<(draws.length:Int) then a.2.2.beyond_=0 else a.2.2.beyond_=b.2.2.1/\b.2.2.1≠0)
theorem C4T (x:A9) (v:Int) (draws:List Int) (links:List E9) (tk:Bool) (at_:Int) (ha:0<=at_) (hl:(links.length:Int)<=x.Cap) (hc:x.Cap<=64) (hW:1<=x.W):
  ∃a b,S4 x v links tk ⟨draws,at_,0⟩=some a/\V9 x v draws at_ links tk=some b/\Rel draws a b:=by
 unfold S4 V9;cases tk with
 |false=>exact ⟨_,_,rfl,rfl,rfl,fun _=>⟨rfl,rfl⟩,fun h=>by simp at h⟩
 |true=>
  have hk:decide ((links.length+ [(E9.mk (A2 (x.I+(1:Int))) v)].length)*16<=140737488355328)=true:=by
   rw [D00,D1D];omega
  simp only [D02,hk,R4]
  by_cases hf:(links.length:Int)=x.Cap
  ·have h1:((links.length:Int)==x.Cap)=true:=by rw [D1S];exact hf
   have h2:decide (((links++ [(E9.mk (A2 (x.I+(1:Int))) v)]).length:Int)>x.Cap)=true:=by
    rw [D00,D04,D1D];omega
   simp only [h1,h2,D02];exact ⟨_,_,rfl,rfl,rfl,fun h=>by simp at h,fun h=>by simp at h⟩
  ·have h1:((links.length:Int)==x.Cap)=false:=by rw [D1O];exact hf
   have h2:decide (((links++ [(E9.mk (A2 (x.I+(1:Int))) v)]).length:Int)>x.Cap)=false:=by
    rw [D1f,D04,D1D];omega
   simp only [h1,h2,D01,B6g,C1V,D0Y];rcases B7r (draws:=draws) hW ha with he|⟨he,h3,h4,h5,h6⟩
   ·have e1:((8:Int) !=0)=true:=rfl;simp only [he,if_neg (show¬(8:Int)=0 by decide),e1,D02]
    refine ⟨_,_,rfl,rfl,rfl,fun h=>by simp at h,fun _=> ?_⟩
    by_cases hat:at_<(draws.length:Int)
    ·simp only [hat,if_true];rw [if_neg (by omega)]
    ·simp only [hat,if_false];rw [if_pos (by omega)]
     exact ⟨rfl,by show x.W≠0;omega⟩
   ·have e1:((0:Int) !=0)=false:=rfl;simp only [he,if_true,e1,D01];exact ⟨_,_,rfl,rfl,rfl,fun _=>⟨rfl,rfl⟩,fun h=>by simp at h⟩
theorem B7Z (x:A9) (v:Int) (draws:List Int) (at_:Int) (hd:draws.length<=maxLen) (hI:0<=x.I) (hI2:x.I<=1099511627776) (hW:1<=x.W) (_:x.W<=1048576) (hC1:1<=x.Cap) (hC:x.Cap<=64) (hL:(x.Au.length:Int)<=x.Cap) (hN:x.I=0->x.Ba=0):
  ∃a b,A2M x v ⟨draws,at_,0⟩=some a/\A6R x v draws at_=some b/\Rel draws a b:=by
 unfold A2M A6R;have hv:(decide (v< -4096)||decide (v>4096))= !(D8 v):=by
  rw [D1j];simp only [D8,D09,D1k,D1P,D00,D1f];omega
 rw [hv];cases hvv:D8 v with
 |false=>exact ⟨_,_,rfl,rfl,rfl,fun h=>by simp at h,fun h=>by simp at h⟩
 |true=>
  simp only [D1a,D01]
  by_cases ha:at_<0
  ·simp only [ha,decide_true,D02];exact ⟨_,_,rfl,rfl,rfl,fun h=>by simp at h,fun h=>by simp at h⟩
  have ha0:0<=at_:=by omega
  simp only [ha,decide_false,D01]
  by_cases hI3:x.I=1099511627776
  ·have:(x.I==1099511627776)=true:=by rw [D1S];exact hI3
   simp only [this,D02];exact ⟨_,_,rfl,rfl,rfl,fun h=>by simp at h,fun h=>by simp at h⟩
  have hI4:(x.I==1099511627776)=false:=by rw [D1O];exact hI3
  have hi:A2 (x.I+1)=x.I+1:=by rw [C6]<;>omega
  have hk:decide ((([]:List E9).length+x.Au.length)*16<=140737488355328)=true:=by
   rw [D00,D1u];omega
  have htk:(decide (x.I>0)&&(x.Ba==A2 (x.I+1)))=(x.Ba==A2 (x.I+1)):=by
   by_cases h0:x.I=0
   ·have:=hN h0;rw [hi,h0,this];rfl
   ·have:x.I>0:=by omega
    simp [this]
  simp only [hI4,D01,hk,R4,List.nil_append,htk];have hm:1<=A0P (A2 (x.I+1)) x.W:=by
   rw [hi];unfold A0P;split<;>omega
  have coin: ∀(b:Bool),∃a b',(Option.bind (U9 ⟨draws,at_,0⟩ (A0P (A2 (x.I+1)) x.W)) fun y12_5=>
    cond (y12_5.2.1 !=(0:Int)) (
     some ((A9.mk (0:Int) (0:Int) (0:Int) (0:Int) ([]:List E9)),y12_5.2.1,y12_5.2.2))<|
    cond (y12_5.1==(0:Int)) (
     S4 x v ([]:List E9) true y12_5.2.2)<|
    S4 x v x.Au b y12_5.2.2)=some a/\
   (Option.bind (A6K draws at_ (A0P (A2 (x.I+(1:Int))) x.W)) fun y13_3=>
    cond (y13_3.2.2 !=(0:Int)) (
     some ((A9.mk (0:Int) (0:Int) (0:Int) (0:Int) ([]:List E9)),at_,(A0P (A2 (x.I+(1:Int))) x.W),y13_3.2.2))<|
    cond (y13_3.1==(0:Int)) (
     V9 x v draws y13_3.2.1 ([]:List E9) true)<|
    V9 x v draws y13_3.2.1 x.Au b)=some b' /\Rel draws a b' :=by
   intro b;simp only [B6g,C1V,D0Y];rcases B7r (draws:=draws) hm ha0 with he|⟨he,h3,h4,h5,h6⟩
   ·have e1:((8:Int) !=0)=true:=rfl;simp only [he,if_neg (show¬(8:Int)=0 by decide),e1,D02]
    refine ⟨_,_,rfl,rfl,rfl,fun h=>by simp at h,fun _=> ?_⟩
    by_cases hat:at_<(draws.length:Int)
    ·simp only [hat,if_true];rw [if_neg (by omega)]
    ·simp only [hat,if_false];rw [if_pos (by omega)]
     exact ⟨rfl,by show A0P (A2 (x.I+1)) x.W≠0;omega⟩
   ·have e1:((0:Int) !=0)=false:=rfl;have hn:0<=(A1Z draws at_ (A0P (A2 (x.I+1)) x.W)).2.1:=by
     rw [h4,C6]<;>(rw [I1] at hd;omega)
    simp only [he,if_true,e1,D01];cases (A1Z draws at_ (A0P (A2 (x.I+1)) x.W)).1==0 with
    |true=>exact C4T x v draws [] true _ hn (by simp;omega) hC hW
    |false=>exact C4T x v draws x.Au b _ hn hL hC hW
  by_cases hE:x.Au= []
  ·rw [hE] at coin⊢;exact coin _
  ·have hp:=List.length_pos_iff.2 hE;have h1:decide ((x.Au.length:Int)>0)=true:=by rw [D00];omega
   have h2:D2 x.Au (0:Int)=some x.Au[0]:=by simp [D2,hp]
   simp only [h1,G8,h2,D0Y,D1z];cases x.Au[0].I==A2 (A2 (x.I+1)-x.W) with
   |false=>exact coin _
   |true=>
    have h3:decide (0<=(1:Int)/\(1:Int)<=(x.Au.length:Int))=true:=by rw [D00];omega
    simp only [D02,h3,R4];exact C4T x v draws _ _ _ ha0 (by rw [D1w];omega) hC hW
theorem C0e (x:A9) (v:Int) (draws:List Int) (at_:Int) (hl:x.Au.length<=maxLen) (hd:draws.length<=maxLen):
  ∃r,Y0 x v draws at_=some r/\A6l x v draws at_=some r:=by
 obtain ⟨q,hq,hok⟩:=A45 x hl;unfold Y0 A6l;rw [<-B1N x hl,hq];simp only [D0Y]
 by_cases h0:q=0
 ·obtain ⟨h1,h2,h3,h4,h5,h6,h7,_,h8⟩:=hok h0;obtain ⟨a,b,ha,hb,e1,e2,_⟩:=B7Z x v draws at_ hd h1 h2 h3 h4 h5 h6 h7 h8;subst h0;simp only [D1B,D01,ha,hb,D0Y,<-e1]
  by_cases he:a.2.1=0
  ·obtain ⟨e3,e4⟩:=e2 he;simp only [he,D1B,D01,e3,e4];exact ⟨_,rfl,rfl⟩
  ·have hb:(a.2.1 !=0)=true:=by rw [bne_iff_ne];exact he
   simp only [hb,D02];exact ⟨_,rfl,rfl⟩
 ·have hb:(q !=0)=true:=by rw [bne_iff_ne];exact h0
  simp only [hb,D02];exact ⟨_,rfl,rfl⟩
theorem C1D (x:A9) (v:Int) (draws:List Int) (at_:Int) (hl:x.Au.length<=maxLen) (hd:draws.length<=maxLen):
  ∃r,A1P x v draws at_=some r/\A5u x v draws at_=some r:=by
 obtain ⟨q,hq,hok⟩:=A45 x hl;unfold A1P A5u;rw [<-B1N x hl,hq];simp only [D0Y]
 by_cases h0:q=0
 ·obtain ⟨h1,h2,h3,h4,h5,h6,h7,_,h8⟩:=hok h0;obtain ⟨a,b,ha,hb,e1,_,e3⟩:=B7Z x v draws at_ hd h1 h2 h3 h4 h5 h6 h7 h8;subst h0;simp only [D1B,D01,ha,hb,D0Y,<-e1]
  by_cases he:a.2.1=8
  ·have e4:=e3 he;simp only [he,D1B,D1p]
   by_cases hlt:b.2.1<(draws.length:Int)
   ·rw [if_pos hlt] at e4;simp only [hlt,e4,decide_true,beq_self_eq_true,D02];exact ⟨_,rfl,rfl⟩
   ·rw [if_neg hlt] at e4;have hb:(b.2.2.1==0)=false:=by rw [D1O];exact e4.2
    simp only [hlt,decide_false,e4.1,hb,D01];exact ⟨_,rfl,rfl⟩
  ·have hb:(a.2.1 !=8)=true:=by rw [bne_iff_ne];exact he
   simp only [hb,D1I,D02];exact ⟨_,rfl,rfl⟩
 ·have hb:(q !=0)=true:=by rw [bne_iff_ne];exact h0
  simp only [hb,D02];exact ⟨_,rfl,rfl⟩
theorem C8j (x:A9) (v:Int) (draws:List Int) (at_:Int) (hl:x.Au.length<=maxLen) (hd:draws.length<=maxLen) {r} (h:Y0 x v draws at_=some r):r.1.Au.length<=65:=by
 obtain ⟨q,hq,hok⟩:=A45 x hl;unfold Y0 at h;obtain ⟨q',h1,h⟩:=bS h;rw [hq] at h1;cases h1
 by_cases h0:q=0
 ·obtain ⟨g1,g2,g3,g4,g5,g6,g7,_,g8⟩:=hok h0;subst h0;replace h:=cF rfl h;obtain ⟨a,ha,h⟩:=bS h
  by_cases he:a.2.1=0
  ·replace h:=cF (by rw [he];rfl) h
   cases h;obtain ⟨a',b,ha',hb,_,e2,_⟩:=B7Z x v draws at_ hd g1 g2 g3 g4 g5 g6 g7 g8;rw [ha] at ha';cases ha';show a.1.Au.length<=65;have key: ∀(l:List E9) (tk:Bool) (d:List Int) (o b0:Int),l.length<=64-> ∀r,S4 x v l tk ⟨d,o,b0⟩=some r->r.1.Au.length<=65:=by
    intro l tk d o b0 hl r h;unfold S4 at h;cases tk with
    |false=>cases h;exact Nat.le_succ_of_le hl
    |true=>
     replace h:=cT rfl h
     by_cases hc:(l.length:Int)==x.Cap
     ·replace h:=cT hc h;cases h;simp
     ·replace h:=cF (by simpa using hc) h
      obtain ⟨_,h⟩:=ckS h;obtain ⟨y,_,h⟩:=bS h
      by_cases hy:y.2.1 !=0
      ·replace h:=cT hy h;cases h;simp
      ·replace h:=cF (by simpa using hy) h
       cases h;show (l++ [_]).length<=65;simp;omega
   have hL:x.Au.length<=64:=by omega
   unfold A2M at ha
   by_cases c1:(decide (v< -4096)||decide (v>4096))=true
   ·cases cT c1 ha;simp
   replace ha:=cF (by simpa using c1) ha
   by_cases c2:decide (at_<0)=true
   ·cases cT c2 ha;simp
   replace ha:=cF (by simpa using c2) ha
   by_cases c3:(x.I==1099511627776)=true
   ·cases cT c3 ha;simp
   replace ha:=cF (by simpa using c3) ha
   obtain ⟨_,ha⟩:=ckS ha;obtain ⟨y1,_,ha⟩:=bS ha;obtain ⟨y2,_,ha⟩:=bS ha
   by_cases c4:(decide (((([]:List E9)++x.Au).length:Int)>0)&&(y2.I==A2 (A2 (x.I+1)-x.W)))=true
   ·replace ha:=cT c4 ha;obtain ⟨_,ha⟩:=ckS ha;exact key _ _ _ _ _ (by simp;omega) _ ha
   ·replace ha:=cF (by simpa using c4) ha
    obtain ⟨y3,_,ha⟩:=bS ha
    by_cases c5:(y3.2.1 !=0)=true
    ·cases cT c5 ha;simp
    replace ha:=cF (by simpa using c5) ha
    by_cases c6:(y3.1==0)=true
    ·exact key _ _ _ _ _ (by simp) _ (cT c6 ha)
    ·exact key _ _ _ _ _ (by simpa using hL) _ (cF (by simpa using c6) ha)
  ·replace h:=cT (by rw [bne_iff_ne];exact he) h
   cases h;simp
 ·replace h:=cT (by rw [bne_iff_ne];exact h0) h
  cases h;simp
end Go.Win
namespace Go.Win
open Go.Vc Go.Dec
theorem C7W:B1B=A5r:=rfl
theorem C2f:A6I=D8:=rfl
theorem C3Y (a b c:Int):A5q a b c=H6 a b c:=by
 unfold A5q H6 M6 F4;rw [D1j];simp only [D06,D00];omega
theorem A9x (n w t:Int):X6 n w t=F7 n w t:=by
 unfold X6 B1y F7 F4 M6;have e:A85=A86:=rfl;rw [e];unfold A86
 by_cases h1:n>=0/\n<=16777216
 ·by_cases h2:w>=1/\w<=1048576
  ·have c:(((!(decide (n>=0)&&decide (n<=16777216)))||decide (w<1))||decide (w>1048576))=false:=by
    simp only [D1y,Bool.not_eq_false',D06,D00,D1f];omega
   simp only [c,D01];have e1:A2 (n-w)=n-w:=by rw [C6]<;>omega
   have e2:A2 (n-w+1)=n-w+1:=by rw [C6]<;>omega
   rw [e1,e2,D1j];simp only [D06,D00,X0];split<;>omega
  ·have c:(((!(decide (n>=0)&&decide (n<=16777216)))||decide (w<1))||decide (w>1048576))=true:=by
    simp only [D09,D1k,D1P,D00,D1f];omega
   have d:(decide (w>=1)&&decide (w<=1048576))=false:=by
    simp only [D1P,D1f];omega
   simp only [c,d,D02,Bool.and_false,D1t]
   rfl
 ·have c:(((!(decide (n>=0)&&decide (n<=16777216)))||decide (w<1))||decide (w>1048576))=true:=by
   simp only [D09,D1k,D1P,D00,D1f];omega
  have d:(decide (n>=0)&&decide (n<=16777216))=false:=by
   simp only [D1P,D1f];omega
  simp only [c,d,D02,D1t]
  rfl
def B1w (l:List B6) (now:Int) (i:Nat):Bool:=match l[i]? with
 |none=>false
 |some p=>(decide (p.T<0)||decide (p.T>now))||(decide (0<i)&&match l[i-1]? with
  |some q=>decide (q.T>p.T)
  |none=>false)
noncomputable def B2A (l:List B6) (now:Int):Bool:=F4 now&& !(List.range l.length).any (B1w l now)
theorem C5w (l:List B6) (now:Int) (hl:l.length<=maxLen):A5r l now=some (B2A l now):=by
 unfold A5r B2A;cases ht:F4 now with
 |false=>rfl
 |true=>
  have h:A7u l now 0=cond ((List.range l.length).any (B1w l now)) (some false) (some true):=by
   unfold A7u;refine A1Q (fun i hi=> ?_) ?_
   ·have hs:=O9 hi hl;unfold A6L B1w;simp only [Int.ofNat_lt,hi,decide_true,D02,K8,J9 hi,D0Y,hs]
    by_cases h0:0<i
    ·have hp:=B27 h0 (Nat.le_trans (Nat.le_of_lt hi) hl);have h3:((i:Int)>0):=by omega
     simp only [hp,K8,J9 (show i-1<l.length by omega),h3,h0,decide_true,D1z,Bool.and_true]
     cases (decide (l[i].T<0)||decide (l[i].T>now))<;>simp
    ·have h3: ¬((i:Int)>0):=by omega
     simp only [h3,h0,decide_false,G2,D0Y,D1t,Bool.and_false,Bool.or_false]
   ·unfold A6L;simp
  simp only [D1a,D01,h];cases (List.range l.length).any (B1w l now)<;>rfl
theorem B7k (l:List B6) (hl:l.length<=maxLen):U6 l l=some true:=by
 have h:A1y l l 0=cond ((List.range l.length).any fun _=>false) (some false) (some true):=by
  unfold A1y;refine A1Q (fun i hi=> ?_) ?_
  ·unfold A02;simp [hi,O9 hi hl]
  ·unfold A02;simp
 have hf:((List.range l.length).any fun _=>false)=false:=by simp
 rw [hf] at h;unfold U6;simp [h]
theorem B7J (x:C8) (hl:x.Ar.length<=maxLen):A4I x x=some true:=by
 unfold A4I;simp [B7k x.Ar hl]
theorem B48 (x:C8):A0f x=R5 x:=by
 have e:A3M=Y5:=by
  funext x i
  unfold A3M Y5;simp only [A9x,C2f]
 unfold A0f R5 A8h A12;rw [e,C3Y,C7W]
noncomputable def okV (x:C8):Bool:=(H6 x.W x.Cap x.Now&&decide ((x.Ar.length:Int)<=x.Cap))&&(B2A x.Ar x.Now&&x.Ar.all fun p=>F7 x.Now x.W p.T&&D8 p.V)
theorem C8n {α:Type} {l:List α} {p:α->Bool}:(List.range l.length).any (fun i=>match l[i]? with
  |some x=> !p x
  |none=>false)= !l.all p:=by
 rw [D1j,A7h];constructor
 ·rintro ⟨i,hi,h⟩;rw [J9 hi] at h;simp only [D1k] at h⊢;rw [List.all_eq_false];exact ⟨l[i],D1N hi,by simp [h]⟩
 ·intro h;simp only [D1k] at h;rw [List.all_eq_false] at h;obtain ⟨x,hx,hp⟩:=h;obtain ⟨i,hi,rfl⟩:=List.mem_iff_getElem.1 hx;refine ⟨i,hi, ?_⟩;rw [J9 hi];simpa using hp
theorem B2B (x:C8) (hl:x.Ar.length<=maxLen):R5 x=some (if okV x then 0 else 2):=by
 have h:A12 x 0=cond (!(x.Ar.all fun p=>F7 x.Now x.W p.T&&D8 p.V)) (some 2) (some 0):=by
  rw [<-C8n];unfold A12;refine A1Q (fun i hi=> ?_) ?_
  ·unfold Y5;simp only [Int.ofNat_lt,hi,decide_true,D02,K8,J9 hi,D0Y,O9 hi hl,Bool.not_and]
  ·unfold Y5;simp
 unfold R5 okV;rw [C5w x.Ar x.Now hl,h];have hd:decide ((x.Ar.length:Int)>x.Cap)= !decide ((x.Ar.length:Int)<=x.Cap):=by
  rw [D1j];simp
 rw [hd];cases H6 x.W x.Cap x.Now<;>cases decide ((x.Ar.length:Int)<=x.Cap)<;>cases B2A x.Ar x.Now<;>cases (x.Ar.all fun p=>F7 x.Now x.W p.T&&D8 p.V)<;>rfl
theorem C6w {x:C8} (h:okV x=true):1<=x.W/\x.W<=1048576/\1<=x.Cap/\x.Cap<=65536/\0<=x.Now/\x.Now<=16777216/\(x.Ar.length:Int)<=x.Cap:=by
 unfold okV H6 M6 F4 at h;simp only [D06,D00] at h;omega
theorem C8i (x:C8) (v:Int) (hl:x.Ar.length<=maxLen): ∃r,A9e x v=some r/\B05 x v=some r/\r.1.Ar.length<=maxLen:=by
 unfold A9e B05;rw [B48,B2B x hl,C2f];simp only [D0Y];cases hv:okV x with
 |false=>exact ⟨_,rfl,rfl,Nat.zero_le _⟩
 |true=>
  obtain ⟨h1,h2,h3,h4,h5,h6,h7⟩:=C6w hv;cases D8 v with
  |false=>exact ⟨_,rfl,rfl,Nat.zero_le _⟩
  |true=>
   cases (x.Ar.length:Int)==x.Cap with
   |true=>exact ⟨_,rfl,rfl,Nat.zero_le _⟩
   |false=>
    have k1:decide (0<=(x.Ar.length:Int)/\True/\(x.Ar.length:Int)<=(x.Ar.length:Int))=true:=by
     rw [D00];exact ⟨by omega,trivial,Int.le_refl _⟩
    have k2:decide ([(B6.mk x.Now v)]≠ []/\((x.Ar.take ((x.Ar.length:Int)).toNat).length+ [(B6.mk x.Now v)].length)*16<=140737488355328)=true:=by
     rw [D00];refine ⟨by simp, ?_⟩
     rw [D1E,List.take_length,D1D];omega
    have k3:decide ((([]:List B6).length+x.Ar.length)*16<=140737488355328)=true:=by
     rw [D00,D1u];omega
    have k4:decide (((([]:List B6)++x.Ar).length+ [(B6.mk x.Now v)].length)*16<=140737488355328)=true:=by
     rw [D00,List.nil_append,D1D];omega
    simp only [if_true,D1B,D01,D1a];rw [k1,k2,k3,k4];simp only [R4,D1E,List.take_length,List.nil_append];refine ⟨_,rfl,rfl, ?_⟩;show (x.Ar++ [_]).length<=maxLen;rw [I1];simp;omega
end Go.Win
namespace Go.Win
open Go.Vc Go.Dec
def N6 (w:C1):Prop:=0<=w.Hi/\w.Hi<18446744073709551616/\0<=w.Lo/\w.Lo<18446744073709551616
def wv (w:C1):Int:=w.Hi*18446744073709551616+w.Lo
def ofW (n:Int):C1:=⟨n/18446744073709551616,n%18446744073709551616⟩
theorem B2G (n:Int):wv (ofW n)=n:=by
 unfold wv ofW;simp only;omega
theorem A38 {n:Int} (h0:0<=n) (h1:n<340282366920938463463374607431768211456):N6 (ofW n):=by
 unfold N6 ofW;simp only;omega
theorem B3k {w:C1} (h:N6 w):0<=wv w/\wv w<340282366920938463463374607431768211456:=by
 unfold N6 at h;unfold wv;omega
theorem C73 (x y c:Int) (hx:0<=x) (hy:0<=y) (h0:0<=c) (h1:c<=1):Q4 x y c=some ((x+y+c)%18446744073709551616,(x+y+c)/18446744073709551616):=by
 unfold Q4;rw [D03 (⟨hx,hy,h0,h1⟩:0<=x/\0<=y/\0<=c/\c<=1)]
 rfl
theorem B6O {a b:C1} (ha:N6 a) (hb:N6 b):A6d a b=some (if wv a+wv b<340282366920938463463374607431768211456 then (ofW (wv a+wv b),true) else (⟨0,0⟩,false)):=by
 unfold N6 at ha hb;unfold A6d;rw [C73 _ _ _ (by omega) (by omega) (by omega) (by omega)]
 simp only [D0Y];rw [C73 _ _ _ (by omega) (by omega) (by omega) (by omega)]
 simp only [D0Y];unfold wv
 by_cases h:a.Hi*18446744073709551616+a.Lo+(b.Hi*18446744073709551616+b.Lo)<340282366920938463463374607431768211456
 ·rw [if_pos h];have e:(a.Hi+b.Hi+(a.Lo+b.Lo+0)/18446744073709551616)/18446744073709551616=0:=by omega
  rw [e];simp only [D1B,D01];unfold ofW
  congr 3<;>omega
 ·rw [if_neg h];have e:((a.Hi+b.Hi+(a.Lo+b.Lo+0)/18446744073709551616)/18446744073709551616 !=0)=true:=by
   rw [bne_iff_ne];omega
  rw [e];rfl
theorem C1X:A8i=A6d:=rfl
theorem A67 {a b:C1} (ha:N6 a) (hb:N6 b):U8 a b=if wv a<wv b then-1 else if wv a=wv b then 0 else 1:=by
 unfold N6 at ha hb;unfold U8 wv
 by_cases h:(decide (a.Hi<b.Hi)||((a.Hi==b.Hi)&&decide (a.Lo<b.Lo)))=true
 ·rw [h,D02];simp only [D09,D06,D00,D1S] at h;rw [if_pos (by omega)]
 ·rw [Bool.not_eq_true] at h;rw [h,D01];simp only [D1y,D1P,D1f,D1O] at h
  by_cases h2:(a.Hi==b.Hi&&(a.Lo==b.Lo&&true))=true
  ·rw [h2,D02];simp only [D06,D1S] at h2;rw [if_neg (by omega),if_pos (by omega)]
  ·rw [Bool.not_eq_true] at h2;rw [h2,D01];simp only [D1P,D1O,Bool.true_eq_false,or_false] at h2;rw [if_neg (by omega),if_neg (by omega)]
end Go.Win
namespace Go.Win
open Go.Vc Go.Dec
theorem C9o {x:Int} (h0:0<=x) (h1:x<18446744073709551616):((BitVec.ofInt IntKind.u64.bits x&&&BitVec.ofInt IntKind.u64.bits 4294967295).toNat:Int)=x%4294967296:=by
 obtain ⟨n,rfl⟩:=Int.eq_ofNat_of_zero_le h0;have e:(BitVec.ofInt IntKind.u64.bits (n:Int)&&&BitVec.ofInt IntKind.u64.bits 4294967295).toNat=n%4294967296:=by
  have hb:IntKind.u64.bits=64:=rfl;rw [hb,BitVec.toNat_and,BitVec.toNat_ofInt,BitVec.toNat_ofInt];have h2:(((n:Int)%((2^64:Nat):Int)).toNat)=n:=by omega
  have h3:((4294967295:Int)%((2^64:Nat):Int)).toNat=2^32-1:=by decide
  rw [h2,h3,Nat.and_two_pow_sub_one_eq_mod]
 rw [e];omega
theorem C1m {x:Int} (h0:0<=x) (h1:x<18446744073709551616):B2W .u64 x 4294967295=x%4294967296:=by
 show IntKind.u64.wrap _=_;rw [C9o h0 h1,IntKind.wrap_u64];omega
theorem C1p (x:Int):B1D .u64 x 32=x/4294967296:=by
 show x.fdiv (2^(min (32:Int).toNat IntKind.u64.bits))=_;have:(2:Int)^(min (32:Int).toNat IntKind.u64.bits)=4294967296:=by decide
 rw [this,Int.fdiv_eq_ediv_of_nonneg _ (by decide)]
theorem D0O (a b c d:Int):(a*4294967296+b)*(c*4294967296+d)=(a*c)*18446744073709551616+(a*d+b*c)*4294967296+b*d:=by
 grind
theorem B5h {a b:Int} (ha:0<=a/\a<4294967296) (hb:0<=b/\b<4294967296):0<=a*b/\a*b<=18446744065119617025:=by
 refine ⟨Int.mul_nonneg ha.1 hb.1, ?_⟩;have:=Int.mul_le_mul (show a<=4294967295 by omega) (show b<=4294967295 by omega) hb.1 (by decide)
 simpa using this
theorem D0y {x y:Int} (hx:0<=x/\x<18446744073709551616) (hy:0<=y/\y<18446744073709551616):A1u x y=(x*y/18446744073709551616,x*y%18446744073709551616):=by
 unfold A1u;have e:=D0O (x/4294967296) (x%4294967296) (y/4294967296) (y%4294967296);rw [show x/4294967296*4294967296+x%4294967296=x by omega,show y/4294967296*4294967296+y%4294967296=y by omega] at e
 have bp:=B5h (a:=x%4294967296) (b:=y%4294967296) (by omega) (by omega)
 have bq:=B5h (a:=x/4294967296) (b:=y%4294967296) (by omega) (by omega)
 have br:=B5h (a:=x%4294967296) (b:=y/4294967296) (by omega) (by omega)
 have bs:=B5h (a:=x/4294967296) (b:=y/4294967296) (by omega) (by omega)
 congr 1
 ·rw [C1m hx.1 hx.2,C1m hy.1 hy.2,C1p,C1p]
  generalize x%4294967296*(y%4294967296)=p at*
  generalize x/4294967296*(y%4294967296)=q at*
  generalize x%4294967296*(y/4294967296)=r at*
  generalize x/4294967296*(y/4294967296)=s at*
  have w1: ∀n:Int,0<=n->n<18446744073709551616->F9 n=n:=fun n h1 h2=>by rw [B2F];omega
  simp only [C1p];rw [w1 p (by omega) (by omega),w1 q (by omega) (by omega),w1 (q+p/4294967296) (by omega) (by omega),C1m (by omega) (by omega),w1 r (by omega) (by omega),w1 ((q+p/4294967296)%4294967296+r) (by omega) (by omega),w1 s (by omega) (by omega),
   w1 (s+(q+p/4294967296)/4294967296) (by omega) (by omega),w1 _ (by omega) (by omega)]
  omega
theorem A9y {x y:Int} (hx:0<=x/\x<18446744073709551616) (hy:0<=y/\y<18446744073709551616):0<=x*y/\x*y<340282366920938463463374607431768211456:=by
 refine ⟨Int.mul_nonneg hx.1 hy.1, ?_⟩;have:=Int.mul_le_mul (show x<=18446744073709551615 by omega) (show y<=18446744073709551615 by omega) hy.1 (by decide)
 omega
theorem A4z {x y:Int} (hx:0<=x/\x<18446744073709551616) (hy:0<=y/\y<18446744073709551616):L5 x y=ofW (x*y):=by
 unfold L5;rw [D0y hx hy]
 rfl
end Go.Win
namespace Go.Win
open Go.Vc Go.Dec
def nT:List C1->List Bool->Int
 |w::ws,b::bs=>(if b then wv w else 0)+nT ws bs
 |_,_=>0
theorem A0N {α:Type} {b:Bool} {k:Option α} (h:b=true):ck b k=k:=by rw [h];rfl
end Go.Win
namespace Go.Win
open Go.Vc Go.Dec
theorem B5c:S7=L5:=rfl
theorem B5v:Q5=K3:=rfl
theorem C9a (a b c:Int):(0*18446744073709551616+a)*(b*18446744073709551616+c)=(a*b)*18446744073709551616+a*c:=by grind
theorem C9b (a b c:Int):(b*18446744073709551616+c)*(0*18446744073709551616+a)=(a*b)*18446744073709551616+a*c:=by grind
theorem C0k {a b c d:Int} (ha:1<=a) (hb:0<=b) (hc:1<=c) (hd:0<=d):340282366920938463463374607431768211456<=(a*18446744073709551616+b)*(c*18446744073709551616+d):=by
 have:=Int.mul_le_mul (show 18446744073709551616<=a*18446744073709551616+b by omega) (show 18446744073709551616<=c*18446744073709551616+d by omega) (by decide) (by omega)
 simpa using this
theorem C6s {h a b c:Int} (ha:0<=a/\a<18446744073709551616) (hb:0<=b/\b<18446744073709551616) (hc:0<=c/\c<18446744073709551616):
  A5w h a b c=some (if (a*b)*18446744073709551616+a*c<340282366920938463463374607431768211456 then (ofW ((a*b)*18446744073709551616+a*c),true) else (⟨0,0⟩,false)):=by
 have p1:=A9y ha hb;have p2:=A9y ha hc;unfold A5w;simp only [B5c];rw [A4z ha hc,A4z ha hb]
 generalize a*b=m at*
 generalize a*c=n at*
 have e1:(ofW m).Hi=m/18446744073709551616:=rfl;have e2:(ofW m).Lo=m%18446744073709551616:=rfl;rw [e1,e2]
 by_cases hh:m<18446744073709551616
 ·have c1:(m/18446744073709551616 !=0)=false:=by rw [bne_eq_false_iff_eq];omega
  have oM:N6 (C1.mk (m%18446744073709551616) 0):=by unfold N6;simp only;omega
  have vM:wv (C1.mk (m%18446744073709551616) 0)=m*18446744073709551616:=by unfold wv;simp only;omega
  rw [c1,D01,B6O (A38 p2.1 p2.2) oM,B2G,vM,Int.add_comm n];simp only [D0Y]
 ·have c1:(m/18446744073709551616 !=0)=true:=by rw [bne_iff_ne];omega
  rw [c1,D02,if_neg (by omega)]
theorem A7H {a b:C1} (ha:N6 a) (hb:N6 b):A00 a b=some (if wv a*wv b<340282366920938463463374607431768211456 then (ofW (wv a*wv b),true) else (⟨0,0⟩,false)):=by
 obtain ⟨ah,al⟩:=a;obtain ⟨bh,bl⟩:=b;unfold N6 at ha hb;simp only at ha hb;unfold A00 wv;simp only
 by_cases h1:ah=0
 ·subst h1;simp only [D1B,D1t,D01];rw [C6s (by omega) (by omega) (by omega),C9a]
 ·have c1:(ah !=0)=true:=by rw [bne_iff_ne];exact h1
  rw [c1]
  by_cases h2:bh=0
  ·subst h2;simp only [D1B,Bool.and_false,D01,D02];rw [C6s (by omega) (by omega) (by omega),C9b]
  ·have c2:(bh !=0)=true:=by rw [bne_iff_ne];exact h2
   have:=C0k (a:=ah) (b:=al) (c:=bh) (d:=bl) (by omega) (by omega) (by omega) (by omega)
   rw [c2,if_neg (by omega)]
   rfl
theorem B2v {a b:C1} (ha:N6 a) (hb:N6 b):A2P a b=some (if wv a*wv b<340282366920938463463374607431768211456 then (ofW (wv a*wv b),true) else (⟨0,0⟩,false)):=by
 obtain ⟨ah,al⟩:=a;obtain ⟨bh,bl⟩:=b;unfold N6 at ha hb;simp only at ha hb;unfold A2P wv;simp only;have q1:=A9y (x:=ah) (y:=bl) (by omega) (by omega)
 have q2:=A9y (x:=al) (y:=bh) (by omega) (by omega)
 have q3:=A9y (x:=al) (y:=bl) (by omega) (by omega)
 rw [A4z (by omega) (by omega),A4z (by omega) (by omega),A4z (by omega) (by omega)]
 have f1:(ofW (ah*bl)).Hi=ah*bl/18446744073709551616:=rfl;have f2:(ofW (ah*bl)).Lo=ah*bl%18446744073709551616:=rfl;have f3:(ofW (al*bh)).Hi=al*bh/18446744073709551616:=rfl;have f4:(ofW (al*bh)).Lo=al*bh%18446744073709551616:=rfl;rw [f1,f2,f3,f4,B2F]
 by_cases h3:ah≠0/\bh≠0
 ·have c1:(ah !=0)=true:=by rw [bne_iff_ne];exact h3.1
  have c2:(bh !=0)=true:=by rw [bne_iff_ne];exact h3.2
  have:=C0k (a:=ah) (b:=al) (c:=bh) (d:=bl) (by omega) (by omega) (by omega) (by omega)
  rw [c1,c2,if_neg (by omega)]
  rfl
 ·have c1:((ah !=0)&&(bh !=0))=false:=by
   rw [D1P,bne_eq_false_iff_eq,bne_eq_false_iff_eq];omega
  have e:(ah*18446744073709551616+al)*(bh*18446744073709551616+bl)=(ah*bl+al*bh)*18446744073709551616+al*bl:=by
   by_cases h1:ah=0
   ·subst h1;grind
   ·have h2:bh=0:=by omega
    subst h2;grind
  have z:ah*bl=0\/al*bh=0:=by
   by_cases h1:ah=0
   ·left;rw [h1,Int.zero_mul]
   ·right;rw [show bh=0 by omega,Int.mul_zero]
  rw [c1,D01,e]
  generalize ah*bl=m at*
  generalize al*bh=n at*
  generalize al*bl=k at*
  by_cases hh:m+n<18446744073709551616
  ·have c2:((m/18446744073709551616 !=0)||(n/18446744073709551616 !=0))=false:=by
    rw [D1y,bne_eq_false_iff_eq,bne_eq_false_iff_eq];omega
   have oM:N6 (C1.mk ((m%18446744073709551616+n%18446744073709551616)%18446744073709551616) 0):=by unfold N6;simp only;omega
   have vM:wv (C1.mk ((m%18446744073709551616+n%18446744073709551616)%18446744073709551616) 0)=(m+n)*18446744073709551616:=by unfold wv;simp only;omega
   rw [c2,D01,C1X,B6O (A38 q3.1 q3.2) oM,B2G,vM,Int.add_comm k];simp only [D0Y]
  ·have c2:((m/18446744073709551616 !=0)||(n/18446744073709551616 !=0))=true:=by
    rw [D09,bne_iff_ne,bne_iff_ne];omega
   rw [c2,D02,if_neg (by omega)]
theorem A9a {n:Int} (h:0<=n/\n<18446744073709551616):N6 (K3 n):=by
 unfold N6 K3;simp only;omega
noncomputable def B6K (n:Int):Nat->C1->C1×Bool
 |0,w=>(w,true)
 |k+1,w=>if wv w*wv (K3 n)<340282366920938463463374607431768211456 then B6K n k (ofW (wv w*wv (K3 n))) else (⟨0,0⟩,false)
theorem B4D {a b:C1} (ha:N6 a) (hb:N6 b):0<=wv a*wv b:=Int.mul_nonneg (B3k ha).1 (B3k hb).1
theorem C39 {n:Int} (hn:0<=n/\n<18446744073709551616): ∀(k:Nat) (w:C1),N6 w->N6 (B6K n k w).1
 |0,_,h=>h
 |k+1,w,h=>by
  unfold B6K;split
  ·exact C39 hn k _ (A38 (B4D h (A9a hn)) (by assumption))
  ·unfold N6;simp
theorem B9X {n:Int} (hn:0<=n/\n<18446744073709551616) (k:Nat): ∀(w:C1),(k:Int)<=9223372036854775807->N6 w->A71 n (k:Int) w.Hi w.Lo=some (B6K n k w):=by
 induction k with
 |zero=>
  intro w _ h;unfold A71;rw [J5 (r:=(w,true))]
  ·rfl
  ·have c1:decide (((0:Nat):Int)>0)=false:=by rw [D1f];omega
   simp only [A66,c1,D01]
   rfl
 |succ k ih0=>
  intro w hk h;have ih:=fun w' h' =>ih0 w' (by omega) h'
  unfold A71 at ih⊢;have c1:decide (((k+1:Nat):Int)>0)=true:=by rw [D00];omega
  have e1:(⟨w.Hi,w.Lo⟩:C1)=w:=rfl;have hw:A2 (((k+1:Nat):Int)-1)=(k:Int):=by rw [C6]<;>omega
  unfold B6K
  by_cases hf:wv w*wv (K3 n)<340282366920938463463374607431768211456
  ·rw [if_pos hf,L4 (s' :=((k:Int),(ofW (wv w*wv (K3 n))).Hi,(ofW (wv w*wv (K3 n))).Lo))]
   ·exact ih _ (A38 (B4D h (A9a hn)) hf)
   ·simp only [A66,c1,D02,e1,B5v,A7H h (A9a hn),if_pos hf,D0Y,D1a,D01,hw]
  ·rw [if_neg hf,J5 (r:=(⟨0,0⟩,false))];simp only [A66,c1,D02,e1,B5v,A7H h (A9a hn),if_neg hf,D0Y,D1b]
theorem C1W {n:Int} (hn:0<=n/\n<18446744073709551616) (K:Int) (hK:K<=9223372036854775807) (k:Nat): ∀(w:C1),(k:Int)<=K->N6 w->
  A6J n K true (K-k) w.Hi w.Lo=some (B6K n k w):=by
 induction k with
 |zero=>
  intro w _ h;unfold A6J;rw [J5 (r:=(w,true))]
  ·rfl
  ·have c1:(decide (K-((0:Nat):Int)<K)&&true)=false:=by rw [Bool.and_true,D1f];omega
   simp only [A3m,c1,D01]
   rfl
 |succ k ih0=>
  intro w hk h;have ih:=fun w' h' =>ih0 w' (by omega) h'
  unfold A6J at ih⊢;have c1:(decide (K-((k+1:Nat):Int)<K)&&true)=true:=by rw [Bool.and_true,D00];omega
  have e1:(⟨w.Hi,w.Lo⟩:C1)=w:=rfl;have hw:A2 (K-((k+1:Nat):Int)+1)=K-(k:Int):=by rw [C6]<;>omega
  unfold B6K
  by_cases hf:wv w*wv (K3 n)<340282366920938463463374607431768211456
  ·rw [if_pos hf,L4 (s' :=(true,K-(k:Int),(ofW (wv w*wv (K3 n))).Hi,(ofW (wv w*wv (K3 n))).Lo))]
   ·exact ih _ (A38 (B4D h (A9a hn)) hf)
   ·simp only [A3m,c1,D02,e1,B2v h (A9a hn),if_pos hf,D0Y,hw]
  ·rw [if_neg hf,L4 (s' :=(false,K-(k:Int),0,0)),J5 (r:=(⟨0,0⟩,false))]
   ·simp only [A3m,Bool.and_false,D01]
    rfl
   ·simp only [A3m,c1,D02,e1,B2v h (A9a hn),if_neg hf,D0Y,hw]
theorem B4J:N6 (C1.mk 0 1):=by unfold N6;simp
theorem D0T {n k:Int} (hn:0<=n/\n<18446744073709551616) (hk:0<=k/\k<=9223372036854775807):
  ∃r,B0w n k=some r/\A8j n k=some r/\N6 r.1:=by
 unfold B0w A8j;have c0:decide (k<0)=false:=by rw [D1f];omega
 rw [c0,D01,D01]
 by_cases h1:n<=1
 ·rw [D03 h1,D02]
  by_cases h2:k=0
  ·subst h2;exact ⟨(C1.mk 0 1,true),by first|rfl|(simp;done)|(simp;rfl),by first|rfl|(simp;done)|(simp;rfl),B4J⟩
  ·have c2:(k==0)=false:=by rw [D1O];exact h2
   have c3:decide (k>0)=true:=by rw [D00];omega
   rw [c2,c3]
   by_cases h3:n=0
   ·subst h3;exact ⟨(C1.mk 0 0,true),by first|rfl|(simp;done)|(simp;rfl),by first|rfl|(simp;done)|(simp;rfl),by unfold N6;simp⟩
   ·have:n=1:=by omega
    subst this;exact ⟨(C1.mk 0 1,true),by first|rfl|(simp;done)|(simp;rfl),by first|rfl|(simp;done)|(simp;rfl),B4J⟩
 ·rw [D05 h1,D01];have c1:(n==1)=false:=by rw [D1O];omega
  have c2:(n==0)=false:=by rw [D1O];omega
  rw [c1,c2,Bool.or_false,D01];obtain ⟨m,rfl⟩:=Int.eq_ofNat_of_zero_le hk.1;have e1:=B9X hn m (C1.mk 0 1) (by omega) B4J
  have e2:=C1W hn (m:Int) (by omega) m (C1.mk 0 1) (by omega) B4J
  rw [Int.sub_self] at e2;refine ⟨_,e1, ?_,C39 hn m _ B4J⟩
  by_cases h2:(m:Int)=0
  ·have:m=0:=by omega
   subst this
   rfl
  ·have c3:((m:Int)==0)=false:=by rw [D1O];exact h2
   rw [c3,D01];exact e2
theorem C2r (n:Int):0<=F9 n/\F9 n<18446744073709551616:=by rw [B2F];omega
end Go.Win
namespace Go.Win
open Go.Vc Go.Dec
theorem bla (f:Nat): ∀x:Nat,x<2^f->x≠0->1<=Lib.bitLenAux f x/\2^(Lib.bitLenAux f x-1)<=x/\x<2^Lib.bitLenAux f x:=by
 induction f with
 |zero=>intro x h h0;simp at h;exact absurd h h0
 |succ f ih=>
  intro x h h0;unfold Lib.bitLenAux;rw [if_neg h0]
  by_cases h1:x/2=0
  ·have:x=1:=by omega
   subst this;have e:Lib.bitLenAux f (1/2)=0:=by cases f<;>simp [Lib.bitLenAux]
   rw [e];simp
  ·have:=ih (x/2) (by rw [Nat.pow_succ] at h;omega) h1
   obtain ⟨b1,b2,b3⟩:=this
   generalize Lib.bitLenAux f (x/2)=b at*
   refine ⟨by omega, ?_, ?_⟩
   ·obtain ⟨c,rfl⟩: ∃c,b=c+1:=⟨b-1,by omega⟩
    rw [show 1+(c+1)-1=c+1 by omega,Nat.pow_succ]
    rw [show c+1-1=c by omega] at b2
    omega
   ·rw [Nat.add_comm,Nat.pow_succ];omega
theorem B9u {x:Int} (h0:0<x) (h1:x<18446744073709551616): ∃b:Nat,A1t x=some (b:Int)/\1<=b/\b<=64/\(2:Int)^(b-1)<=x/\x<2^b:=by
 obtain ⟨n,rfl⟩:=Int.eq_ofNat_of_zero_le (by omega:0<=x)
 have hb:=bla 64 n (by have:(2:Nat)^64=18446744073709551616:=by decide
                       omega) (by omega)
 refine ⟨Lib.bitLen n, ?_,hb.1, ?_, ?_, ?_⟩
 ·unfold A1t;rw [A0N (by rw [D00];omega),D1E]
 ·have:Lib.bitLen n-1<64:=by
   refine (Nat.pow_lt_pow_iff_right (a:=2) (by decide)).1 (Nat.lt_of_le_of_lt hb.2.1 ?_)
   have:(2:Nat)^64=18446744073709551616:=by decide
   omega
  omega
 ·have:=hb.2.1
  exact_mod_cast this
 ·have:=hb.2.2
  exact_mod_cast this
theorem A7s (k:Nat):(0:Int)<2^k:=Int.pow_pos (by decide)
end Go.Win
namespace Go.Win
open Go.Vc Go.Dec
theorem A84 {α β:Type} {m:Option α} {f g:α->Option β} (h:∀x,m=some x->f x=g x):m.bind f=m.bind g:=by
 cases m with
 |none=>rfl
 |some x=>exact h x rfl
theorem B5k {α:Type} {l:List α} {i:Int} {x:α} (h:D2 l i=some x):x∈l:=D1d (A97 h).2
theorem C3w (x:A9) (v:Int) (draws:List Int) (at_:Int) (hl:x.Au.length<=maxLen) (hd:draws.length<=maxLen):Y0 x v draws at_=A6l x v draws at_:=by
 obtain ⟨r,h1,h2⟩:=C0e x v draws at_ hl hd;rw [h1,h2]
theorem C6t (x:A9) (v:Int) (draws:List Int) (at_:Int) (hl:x.Au.length<=maxLen) (hd:draws.length<=maxLen):A1P x v draws at_=A5u x v draws at_:=by
 obtain ⟨r,h1,h2⟩:=C1D x v draws at_ hl hd;rw [h1,h2]
theorem C1F (l:List Int) (hl:l.length<=maxLen):V2 l l=some true:=by
 have h:A0v l l 0=cond ((List.range l.length).any fun _=>false) (some false) (some true):=by
  unfold A0v;refine A1Q (fun i hi=> ?_) ?_
  ·unfold A0g;simp [hi,O9 hi hl]
  ·unfold A0g;simp
 have hf:((List.range l.length).any fun _=>false)=false:=by simp
 rw [hf] at h;unfold V2;simp [h]
theorem B6d (x:D6) (hl:x.Ah.length<=maxLen) (hc:∀c∈x.Ah,c.Au.length<=maxLen):A4T x x=some true:=by
 have h:A5P x x 0=cond ((List.range x.Ah.length).any fun _=>false) (some false) (some true):=by
  unfold A5P;refine A1Q (fun i hi=> ?_) ?_
  ·unfold A4U;have:=C3n x.Ah[i] (hc _ (D1N hi));simp [hi,O9 hi hl,this]
  ·unfold A4U;simp
 have hf:((List.range x.Ah.length).any fun _=>false)=false:=by simp
 rw [hf] at h;unfold A4T;simp [h]
theorem A8D (s:D6) (hc:∀c∈s.Ah,c.Au.length<=maxLen):N4 s=X2 s:=by
 have e:N9 s=A4f s:=by
  funext i
  unfold N9 A4f
  congr 1
  refine A84 fun x hx=>A84 fun y _=> ?_;rw [B1N x (hc x (B5k hx))]
 unfold N4 X2 A1L A80;rw [e]
theorem A0Z (s:D6) (hl:s.Ah.length<=maxLen) (hc:∀c∈s.Ah,c.Au.length<=maxLen):
  ∃r,N4 s=some r/\(r=0->1<=s.Ah.length/\s.Ah.length<=16/\ ∀c∈s.Ah,L2 c=some 0):=by
 unfold N4
 by_cases h:(decide ((s.Ah.length:Int)<1)||decide ((s.Ah.length:Int)>16))=true
 ·rw [h];exact ⟨2,rfl,fun h=>by simp at h⟩
 ·rw [Bool.not_eq_true] at h;rw [h,D01];simp only [D1y,D1f] at h;unfold A1L;obtain ⟨r,hr,hQ⟩:=T2 (f:=fun i:Int=>N9 s i) (fun i=> ∃k:Nat,i=(k:Int)/\k<=s.Ah.length/\ ∀j (hj:j<s.Ah.length),j<k->L2 s.Ah[j]=some 0)
   (fun i=>s.Ah.length-i.toNat) (fun r=>r=2\/(r=0/\ ∀c∈s.Ah,L2 c=some 0)) 0 ⟨0,rfl,Nat.zero_le _,fun j _ hj=>by omega⟩ (by
    rintro _ ⟨k,rfl,hk,hv⟩;unfold N9
    by_cases hlt:k<s.Ah.length
    ·obtain ⟨q,hq,_⟩:=A45 s.Ah[k] (hc _ (D1N hlt));have h0:D2 s.Ah (0:Int)=some (s.Ah[0]'(by omega)):=by
      have:=J9 (show 0<s.Ah.length by omega)
      simp [D2,this]
     simp only [Int.ofNat_lt,hlt,decide_true,D02,K8,J9 hlt,D0Y,h0,hq];cases hb:(((q !=0)||(s.Ah[k].W !=(s.Ah[0]'(by omega)).W))||(s.Ah[k].Cap !=(s.Ah[0]'(by omega)).Cap))||(s.Ah[k].I !=(s.Ah[0]'(by omega)).I) with
     |true=>exact .inr ⟨2,rfl, .inl rfl⟩
     |false=>
      simp only [D1y,bne_eq_false_iff_eq] at hb;left;refine ⟨(k:Int)+1,by rw [O9 hlt hl];rfl,⟨k+1,by simp,hlt,fun j hj hjk=> ?_⟩,by omega⟩
      by_cases hjk2:j=k
      ·subst hjk2;rw [hq,hb.1.1.1]
      ·exact hv j hj (by omega)
    ·right;have: ¬((k:Int)<(s.Ah.length:Int)):=by omega
     simp only [this,decide_false,D01];refine ⟨0,rfl, .inr ⟨rfl,fun c hcm=> ?_⟩⟩;obtain ⟨j,hj,rfl⟩:=List.mem_iff_getElem.1 hcm;exact hv j hj (by omega))
  refine ⟨r,hr,fun h0=>⟨by omega,by omega, ?_⟩⟩
  rcases hQ with hQ|hQ
  ·omega
  ·exact hQ.2
theorem D0A (n w c:Int) (h1:1<=n) (h2:n<=16):A8B n w c 0 []=some (if (N8 w c).2=0 then (⟨List.replicate n.toNat (N8 w c).1⟩,0) else (⟨[]⟩,(N8 w c).2)):=by
 unfold A8B
 by_cases he:(N8 w c).2=0
 ·rw [if_pos he];obtain ⟨r,hr,hQ⟩:=T2 (f:=fun t:Int×List A9=>A2H n w c t.1 t.2) (fun t=> ∃k:Nat,t=((k:Int),List.replicate k (N8 w c).1)/\(k:Int)<=n)
   (fun t=>(n-t.1).toNat) (fun r=>r=(⟨List.replicate n.toNat (N8 w c).1⟩,0)) (0, []) ⟨0,rfl,by omega⟩ (by
    rintro _ ⟨k,rfl,hk⟩;simp only;unfold A2H
    by_cases hlt:(k:Int)<n
    ·left;have hk2:decide (((List.replicate k (N8 w c).1).length+ [(N8 w c).1].length)*56<=140737488355328)=true:=by
      rw [D00,D1D,D1Z];omega
     have hs:A2 ((k:Int)+1)=(k:Int)+1:=by rw [C6]<;>omega
     refine ⟨((k:Int)+1,List.replicate (k+1) (N8 w c).1), ?_,⟨k+1,by simp,by omega⟩,by show (n-((k:Int)+1)).toNat<(n-(k:Int)).toNat;omega⟩
     simp only [hlt,decide_true,D02,he,D1B,D01];rw [hk2,R4,hs,List.replicate_succ']
    ·right;have:n.toNat=k:=by omega
     simp only [hlt,decide_false,D01];exact ⟨_,rfl,by rw [this]⟩)
  rw [hr,hQ]
 ·rw [if_neg he];have hb:((N8 w c).2 !=0)=true:=by rw [bne_iff_ne];exact he
  refine J5 ?_;unfold A2H;have:(0:Int)<n:=by omega
  simp only [this,decide_true,D02,hb]
theorem C9F (n w c:Int) (h1:1<=n) (h2:n<=16):B0m w c n []=some (if (T4 w c).2=0 then (⟨List.replicate n.toNat (T4 w c).1⟩,0) else (⟨[]⟩,(T4 w c).2)):=by
 unfold B0m
 by_cases he:(T4 w c).2=0
 ·rw [if_pos he];obtain ⟨r,hr,hQ⟩:=T2 (f:=fun t:Int×List A9=>A5O w c t.1 t.2) (fun t=> ∃k:Nat,t=(n-(k:Int),List.replicate k (T4 w c).1)/\(k:Int)<=n)
   (fun t=>t.1.toNat) (fun r=>r=(⟨List.replicate n.toNat (T4 w c).1⟩,0)) (n, []) ⟨0,by simp,by omega⟩ (by
    rintro _ ⟨k,rfl,hk⟩;simp only;unfold A5O
    by_cases hlt:n-(k:Int)>0
    ·left;have hk2:decide (((List.replicate k (T4 w c).1).length+ [(T4 w c).1].length)*56<=140737488355328)=true:=by
      rw [D00,D1D,D1Z];omega
     have hs:A2 (n-(k:Int)-1)=n-(k:Int)-1:=by rw [C6]<;>omega
     refine ⟨(n-(k:Int)-1,List.replicate (k+1) (T4 w c).1), ?_,⟨k+1,by simp;omega,by omega⟩,by show (n-(k:Int)-1).toNat<(n-(k:Int)).toNat;omega⟩
     simp only [hlt,decide_true,D02,he,D1B,D01];rw [hk2,R4,hs,List.replicate_succ']
    ·right;have:n.toNat=k:=by omega
     simp only [hlt,decide_false,D01];exact ⟨_,rfl,by rw [this]⟩)
  rw [hr,hQ]
 ·rw [if_neg he];have hb:((T4 w c).2 !=0)=true:=by rw [bne_iff_ne];exact he
  refine J5 ?_;unfold A5O;have:n>(0:Int):=by omega
  simp only [this,decide_true,D02,hb]
theorem C7C (p0 p1:Int):N8 p0 p1=T4 p0 p1:=by
 unfold N8 T4
 congr 1
 rw [D1j];simp only [M6,D09,D1k,D1P,D00,D1f];omega
theorem B8E (x:A9) (v:Int) (draws:List Int) (at_:Int) (hx:L2 x=some 0) (hv:D8 v=false): ∃r,Y0 x v draws at_=some r/\r.2.2=4:=by
 have hb:(decide (v< -4096)||decide (v>4096))=true:=by
  unfold D8 at hv;simp only [D1P,D1f] at hv;simp only [D09,D00];omega
 unfold Y0;rw [hx];unfold A2M;rw [hb];exact ⟨_,rfl,rfl⟩
theorem C25 (x:A9) (v:Int) (draws:List Int) (at_:Int) (hx:L2 x=some 0) (hv:D8 v=false):A1P x v draws at_=some (0,false):=by
 have hb:(decide (v< -4096)||decide (v>4096))=true:=by
  unfold D8 at hv;simp only [D1P,D1f] at hv;simp only [D09,D00];omega
 unfold A1P;rw [hx];unfold A2M;rw [hb]
 rfl
theorem B9s (s:D6) (v:Int) (draws:List Int) (hc:∀c∈s.Ah,c.Au.length<=maxLen) (hd:draws.length<=maxLen):A3r s v draws=B0l s v draws:=by
 have e:X3 s v draws=A5N s v draws:=by
  funext a i l
  unfold X3 A5N
  congr 1
  refine A84 fun x hx=> ?_;rw [C3w x v draws a (hc x (B5k hx)) hd]
 funext a i l
 unfold A3r B0l;rw [e]
theorem B7q (s:D6) (v:Int) (draws:List Int) (hc:∀c∈s.Ah,c.Au.length<=maxLen) (hd:draws.length<=maxLen):A1K s v draws=A7w s v draws:=by
 have e:X4 s v draws=A6S s v draws:=by
  funext a i
  unfold X4 A6S
  congr 1
  refine A84 fun x hx=> ?_;rw [C3w x v draws a (hc x (B5k hx)) hd,C6t x v draws a (hc x (B5k hx)) hd]
 funext a i
 unfold A1K A7w;rw [e]
theorem C68 (s:D6) (v:Int) (draws:List Int) (hl:s.Ah.length<=maxLen) (hc:∀c∈s.Ah,c.Au.length<=maxLen) (hd:draws.length<=maxLen):A4Z s v draws=B1e s v draws:=by
 obtain ⟨q,hq,hok⟩:=A0Z s hl hc;unfold A4Z B1e;rw [<-A8D s hc,hq,D0Y,D0Y]
 by_cases h0:q=0
 ·obtain ⟨h1,h2,h3⟩:=hok h0;subst h0;simp only [D1B,D01];cases hv:D8 v with
  |true=>rw [B9s s v draws hc hd];rfl
  |false=>
   have hm:=D1N (show 0<s.Ah.length by omega)
   obtain ⟨r,hr,hr4⟩:=B8E s.Ah[0] v draws 0 (h3 _ hm) hv;have h0' :D2 s.Ah (0:Int)=some s.Ah[0]:=by
    have:=J9 (show 0<s.Ah.length by omega)
    simp [D2,this]
   have hlt:(0:Int)<(s.Ah.length:Int):=by omega
   unfold A3r;refine J5 ?_;unfold X3;simp only [hlt,decide_true,D02,h0',D0Y,hr,hr4]
   rfl
 ·have hb:(q !=0)=true:=by rw [bne_iff_ne];exact h0
  rw [hb];rfl
theorem C40 (s:D6) (v:Int) (draws:List Int) (hl:s.Ah.length<=maxLen) (hc:∀c∈s.Ah,c.Au.length<=maxLen) (hd:draws.length<=maxLen):A2G s v draws=A7X s v draws:=by
 obtain ⟨q,hq,hok⟩:=A0Z s hl hc;unfold A2G A7X;rw [<-A8D s hc,hq,D0Y,D0Y]
 by_cases h0:q=0
 ·obtain ⟨h1,h2,h3⟩:=hok h0;subst h0;simp only [D1B,D01,D1p];cases hv:D8 v with
  |true=>rw [B7q s v draws hc hd];rfl
  |false=>
   have hm:=D1N (show 0<s.Ah.length by omega)
   obtain ⟨r,hr,hr4⟩:=B8E s.Ah[0] v draws 0 (h3 _ hm) hv;have hn:=C25 s.Ah[0] v draws 0 (h3 _ hm) hv;have h0' :D2 s.Ah (0:Int)=some s.Ah[0]:=by
    have:=J9 (show 0<s.Ah.length by omega)
    simp [D2,this]
   have hlt:(0:Int)<(s.Ah.length:Int):=by omega
   unfold A1K;refine J5 ?_;unfold X4;simp only [hlt,decide_true,D02,h0',D0Y,hn,hr,hr4]
   rfl
 ·have hb:(q !=0)=true:=by rw [bne_iff_ne];exact h0
  rw [hb];rfl
theorem C8k (x:A9) (v:Int) (draws:List Int) (at_:Int) (hl:x.Au.length<=maxLen) (hd:draws.length<=maxLen): ∃r,Y0 x v draws at_=some r/\r.1.Au.length<=maxLen:=by
 obtain ⟨r,h1,_⟩:=C0e x v draws at_ hl hd;have:=C8j x v draws at_ hl hd h1;exact ⟨r,h1,by rw [I1];omega⟩
theorem C2w (s:D6) (v:Int) (draws:List Int) (hl:s.Ah.length<=maxLen) (hc:∀c∈s.Ah,c.Au.length<=maxLen) (hd:draws.length<=maxLen):
  ∃r,A4Z s v draws=some r/\r.1.Ah.length<=16/\ ∀c∈r.1.Ah,c.Au.length<=maxLen:=by
 obtain ⟨q,hq,hok⟩:=A0Z s hl hc;unfold A4Z;rw [hq,D0Y]
 by_cases h0:q=0
 ·obtain ⟨h1,h2,h3⟩:=hok h0;subst h0;simp only [D1B,D01];unfold A3r;exact T2 (f:=fun t:Int×Int×List A9=>X3 s v draws t.1 t.2.1 t.2.2) (fun t=> ∃k:Nat,t.2.1=(k:Int)/\t.2.2.length=k/\k<=s.Ah.length/\ ∀c∈t.2.2,c.Au.length<=maxLen)
   (fun t=>s.Ah.length-t.2.2.length) (fun r=>r.1.Ah.length<=16/\ ∀c∈r.1.Ah,c.Au.length<=maxLen) (0,0, []) ⟨0,rfl,rfl,Nat.zero_le _,by simp⟩ (by
    rintro ⟨a,_,l⟩ ⟨k,rfl,hkl,hk,hm⟩;simp only at hkl hm⊢;unfold X3
    by_cases hlt:k<s.Ah.length
    ·obtain ⟨r,hr,hr2⟩:=C8k s.Ah[k] v draws a (hc _ (D1N hlt)) hd;simp only [Int.ofNat_lt,hlt,decide_true,D02,K8,J9 hlt,D0Y,hr]
     by_cases he:r.2.2=0
     ·left;have hk2:decide ((l.length+ [r.1].length)*56<=140737488355328)=true:=by rw [D00,D1D];omega
      refine ⟨(r.2.1,(k:Int)+1,l++ [r.1]), ?_,⟨k+1,by simp,by simp [hkl],hlt,fun c hcm=> ?_⟩,by simp;omega⟩
      ·simp only [he,D1B,D01,hk2,R4,O9 hlt hl]
      ·rcases D1K.1 hcm with h|h
       ·exact hm c h
       ·have:c=r.1:=by simpa using h
        rw [this];exact hr2
     ·right;have hb:(r.2.2 !=0)=true:=by rw [bne_iff_ne];exact he
      simp only [hb,D02];exact ⟨_,rfl,by simp,by simp⟩
    ·right;have: ¬((k:Int)<(s.Ah.length:Int)):=by omega
     simp only [this,decide_false,D01];cases decide (a<(draws.length:Int)) with
     |true=>exact ⟨_,rfl,by simp,by simp⟩
     |false=>exact ⟨_,rfl,by show l.length<=16;omega,hm⟩)
 ·have hb:(q !=0)=true:=by rw [bne_iff_ne];exact h0
  rw [hb];exact ⟨_,rfl,by simp,by simp⟩
theorem B9L (s:D6) (v:Int) (draws:List Int) (hl:s.Ah.length<=maxLen) (hc:∀c∈s.Ah,c.Au.length<=maxLen) (hd:draws.length<=maxLen):
  ∃r,A2G s v draws=some r:=by
 obtain ⟨q,hq,hok⟩:=A0Z s hl hc;unfold A2G;rw [hq,D0Y]
 by_cases h0:q=0
 ·obtain ⟨h1,h2,h3⟩:=hok h0;subst h0;simp only [D1B,D01];unfold A1K;obtain ⟨r,hr,_⟩:=T2 (f:=fun t:Int×Int=>X4 s v draws t.1 t.2) (fun t=> ∃k:Nat,t.2=(k:Int)/\k<=s.Ah.length)
   (fun t=>s.Ah.length-t.2.toNat) (fun _=>True) (0,0) ⟨0,rfl,Nat.zero_le _⟩ (by
    rintro ⟨a,_⟩ ⟨k,rfl,hk⟩;simp only;unfold X4
    by_cases hlt:k<s.Ah.length
    ·have hck:=hc _ (D1N hlt);obtain ⟨n,hn,_⟩:=C1D s.Ah[k] v draws a hck hd;obtain ⟨r,hr,_⟩:=C0e s.Ah[k] v draws a hck hd;simp only [Int.ofNat_lt,hlt,decide_true,D02,K8,J9 hlt,D0Y,hr,hn];cases n.2 with
     |true=>exact .inr ⟨_,rfl,trivial⟩
     |false=>
      simp only [D01];cases r.2.2 !=0 with
      |true=>exact .inr ⟨_,rfl,trivial⟩
      |false=>exact .inl ⟨_,rfl,⟨k+1,by rw [O9 hlt hl];simp,hlt⟩,by rw [O9 hlt hl];show s.Ah.length-((k:Int)+1).toNat<s.Ah.length-(k:Int).toNat;omega⟩
    ·right;have: ¬((k:Int)<(s.Ah.length:Int)):=by omega
     simp only [this,decide_false,D01];exact ⟨_,rfl,trivial⟩)
  exact ⟨r,hr⟩
 ·have hb:(q !=0)=true:=by rw [bne_iff_ne];exact h0
  rw [hb];exact ⟨_,rfl⟩
end Go.Win
namespace Go.Win
open Go.Vc Go.Dec
def F1 (l:List B1) (i:Nat):B1:=l.getD i default
theorem B6z {l:List B1} {i:Nat} (h:i<l.length):l[i]? =some (F1 l i):=by
 unfold F1;rw [J9 h];simp [List.getD,J9 h]
theorem C3W {l:List B1} {i:Nat} (h:i<l.length):F1 l i=l[i]:=by
 have:=B6z h;rw [J9 h] at this;exact (D1H this).symm
theorem O2 {l:List B1} {i:Nat} (h:i<l.length):D2 l (i:Int)=some (F1 l i):=by
 rw [K8,B6z h]
def A6r (l:List B1) (N:Int) (i:Nat):Bool:=
 ((decide ((F1 l i).Bf<1)||decide ((F1 l i).Bf>(F1 l i).Be))||decide ((F1 l i).Be>N))||
 (decide (0<i)&&((decide ((F1 l (i-1)).V>(F1 l i).V)||decide ((F1 l (i-1)).Bf>=(F1 l i).Bf))||decide ((F1 l (i-1)).Be>=(F1 l i).Be)))
def A3s (l:List B1) (N:Int):Bool:=decide (0<l.length)&&((F1 l 0).Be !=1||(F1 l (l.length-1)).Bf !=N)
def A8c (r:D0):Bool:= !(((decide (r.N<0))||(decide (r.N>1099511627776)))||(!(((r.Ac.length:Int)==0)==(r.N==0))))
def okB (r:D0):Bool:=A8c r&& !((List.range r.Ac.length).any (A6r r.Ac r.N)||A3s r.Ac r.N)
theorem B7y {i n:Nat} (h0:0<i) (h:i<=n) (hm:n<=maxLen):A2 ((i:Int)-1)=((i-1:Nat):Int):=by
 rw [I1] at hm;rw [C6]<;>omega
theorem A3l (r:D0) (hl:r.Ac.length<=1048576):V8 r=some (cond (okB r) 0 2):=by
 have hm:r.Ac.length<=maxLen:=by rw [I1];omega
 unfold V8;cases hh:A8c r with
 |false=>
  have h1:(((decide (r.N<0))||(decide (r.N>1099511627776)))||(!(((r.Ac.length:Int)==0)==(r.N==0))))=true:=nF (by unfold A8c at hh;exact hh)
  rw [h1,D02];unfold okB;rw [hh]
  rfl
 |true=>
  have h1:(((decide (r.N<0))||(decide (r.N>1099511627776)))||(!(((r.Ac.length:Int)==0)==(r.N==0))))=false:=Go.Dec.nT (by unfold A8c at hh;exact hh)
  rw [h1,D01];unfold B0f;have:=A1Q (f:=fun s:Int=>A11 r s) (n:=r.Ac.length) (bad:=A6r r.Ac r.N) (E:=(2:Int)) (A:=some (cond (A3s r.Ac r.N) 2 0))
   (fun i hi=>by
    unfold A11 A6r;simp only [Int.ofNat_lt,hi,decide_true,D02,O2 hi,D0Y,O9 hi hm]
    by_cases h0:0<i
    ·rw [B7y h0 (Nat.le_of_lt hi) hm,O2 (by omega),D03 (by omega:(i:Int)>0),D03 h0]
     simp only [D0Y,D02,D1z];cases ((decide ((F1 r.Ac i).Bf<1)||decide ((F1 r.Ac i).Bf>(F1 r.Ac i).Be))||decide ((F1 r.Ac i).Be>r.N)) with
     |true=>rfl
     |false=>
      simp only [D01,D1p]
    ·rw [D05 (by omega: ¬(i:Int)>0),D05 h0]
     simp only [D01,D1t,Bool.or_false])
   (by
    unfold A11 A3s;simp only [D1r,decide_false,D01]
    by_cases h0:0<r.Ac.length
    ·rw [D03 (by omega:(r.Ac.length:Int)>0),D03 h0,B7y h0 (D1G _) hm]
     have e0:D2 r.Ac (0:Int)=some (F1 r.Ac 0):=O2 h0;rw [e0,O2 (by omega)]
     simp only [G8,D0Y,D1z];cases hb:(F1 r.Ac 0).Be !=1 with
     |true=>simp
     |false=>
      simp only [D1b,G8,D0Y,D1p];cases (F1 r.Ac (r.Ac.length-1)).Bf !=r.N<;>rfl
    ·rw [D05 (by omega: ¬(r.Ac.length:Int)>0),D05 h0]
     simp)
  rw [show ((0:Int))=((0:Nat):Int) from rfl] at this⊢;rw [this];unfold okB;rw [hh];cases (List.range r.Ac.length).any (A6r r.Ac r.N)<;>cases A3s r.Ac r.N<;>rfl
theorem A4h (r:D0) (hl:r.Ac.length<=1048576):T5 r=some (cond (okB r) 0 2):=by
 have hm:r.Ac.length<=maxLen:=by rw [I1];omega
 unfold T5;cases hh:A8c r with
 |false=>
  have h1:(((decide (r.N<0))||(decide (r.N>1099511627776)))||(!(((r.Ac.length:Int)==0)==(r.N==0))))=true:=nF (by unfold A8c at hh;exact hh)
  rw [h1,D02];unfold okB;rw [hh]
  rfl
 |true=>
  have h1:(((decide (r.N<0))||(decide (r.N>1099511627776)))||(!(((r.Ac.length:Int)==0)==(r.N==0))))=false:=Go.Dec.nT (by unfold A8c at hh;exact hh)
  rw [h1,D01];unfold A82;have:=A1Q (f:=fun s:Int=>A1G r s) (n:=r.Ac.length)
   (bad:=fun i=>A6r r.Ac r.N i||((decide (i=0)&&(F1 r.Ac i).Be !=1)||(decide (i=r.Ac.length-1)&&(F1 r.Ac i).Bf !=r.N))) (E:=(2:Int)) (A:=some 0)
   (fun i hi=>by
    unfold A1G A6r;have hlast:A2 ((r.Ac.length:Int)-1)=((r.Ac.length-1:Nat):Int):=B7y (by omega) (D1G _) hm
    have e1:((i:Int)==0)=decide (i=0):=by rw [D1j,D1S,D00];omega
    have e2:((i:Int)==((r.Ac.length-1:Nat):Int))=decide (i=r.Ac.length-1):=by rw [D1j,D1S,D00];omega
    simp only [Int.ofNat_lt,hi,decide_true,D02,O2 hi,D0Y,O9 hi hm,hlast,e1,e2]
    by_cases h0:0<i
    ·rw [B7y h0 (Nat.le_of_lt hi) hm,O2 (by omega),D03 (by omega:(i:Int)>0),D03 h0]
     simp only [D0Y,D02,D1z];cases ((decide ((F1 r.Ac i).Bf<1)||decide ((F1 r.Ac i).Bf>(F1 r.Ac i).Be))||decide ((F1 r.Ac i).Be>r.N))<;>
      cases (decide (i=0)&&(F1 r.Ac i).Be !=1)<;>cases (decide (i=r.Ac.length-1)&&(F1 r.Ac i).Bf !=r.N)<;>
      cases ((decide ((F1 r.Ac (i-1)).V>(F1 r.Ac i).V)||decide ((F1 r.Ac (i-1)).Bf>=(F1 r.Ac i).Bf))||decide ((F1 r.Ac (i-1)).Be>=(F1 r.Ac i).Be))<;>rfl
    ·rw [D05 (by omega: ¬(i:Int)>0),D05 h0]
     simp only [D01,D1t,Bool.or_false];cases ((decide ((F1 r.Ac i).Bf<1)||decide ((F1 r.Ac i).Bf>(F1 r.Ac i).Be))||decide ((F1 r.Ac i).Be>r.N))<;>
      cases (decide (i=0)&&(F1 r.Ac i).Be !=1)<;>cases (decide (i=r.Ac.length-1)&&(F1 r.Ac i).Bf !=r.N)<;>rfl)
   (by
    unfold A1G;simp only [D1r,decide_false,D01])
  rw [show ((0:Int))=((0:Nat):Int) from rfl] at this⊢;rw [this];have hany:(List.range r.Ac.length).any (fun i=>A6r r.Ac r.N i||((decide (i=0)&&(F1 r.Ac i).Be !=1)||(decide (i=r.Ac.length-1)&&(F1 r.Ac i).Bf !=r.N)))=
    ((List.range r.Ac.length).any (A6r r.Ac r.N)||A3s r.Ac r.N):=by
   rw [D1j,D09,A7h,A7h];constructor
   ·rintro ⟨i,hi,h⟩;simp only [D09,D06,D00] at h;rcases h with h|⟨rfl,h⟩|⟨rfl,h⟩
    ·exact .inl ⟨i,hi,h⟩
    ·right;unfold A3s;simp only [D06,D00,D09];exact ⟨hi, .inl h⟩
    ·right;unfold A3s;simp only [D06,D00,D09];exact ⟨by omega, .inr h⟩
   ·rintro (⟨i,hi,h⟩|h)
    ·exact ⟨i,hi,by rw [h];rfl⟩
    ·unfold A3s at h;simp only [D06,D00,D09] at h;rcases h with ⟨h0,h|h⟩
     ·exact ⟨0,h0,by rw [h];simp⟩
     ·exact ⟨r.Ac.length-1,by omega,by rw [h];simp⟩
  rw [hany];unfold okB;rw [hh];cases ((List.range r.Ac.length).any (A6r r.Ac r.N)||A3s r.Ac r.N)<;>rfl
structure OkR (l:List B1) (N:Int):Prop where
 n0:0<=N
 n1:N<=1099511627776
 nil:l.length=0↔N=0
 rng: ∀i,i<l.length->1<=(F1 l i).Bf/\(F1 l i).Bf<=(F1 l i).Be/\(F1 l i).Be<=N
 up: ∀i,i+1<l.length->(F1 l i).V<=(F1 l (i+1)).V/\(F1 l i).Bf<(F1 l (i+1)).Bf/\(F1 l i).Be<(F1 l (i+1)).Be
 first:0<l.length->(F1 l 0).Be=1
 last:0<l.length->(F1 l (l.length-1)).Bf=N
theorem A6k (r:D0):okB r=true↔OkR r.Ac r.N:=by
 unfold okB A8c A3s;have hany:(List.range r.Ac.length).any (A6r r.Ac r.N)=false↔ ∀i,i<r.Ac.length->A6r r.Ac r.N i=false:=by
  rw [List.any_eq_false];constructor
  ·intro h i hi;have:=h i (List.mem_range.2 hi);simpa using this
  ·intro h i hi;have:=h i (List.mem_range.1 hi);simpa using this
 simp only [D06,D1k,D1y,D1f,Bool.not_eq_false',D1S,hany,D1P,bne_eq_false_iff_eq,gt_iff_lt];constructor
 ·rintro ⟨⟨⟨h1,h2⟩,h3⟩,h4,h5⟩;have h3' :r.Ac.length=0↔r.N=0:=by
   have:=congrArg (· =true) h3;simp only [D1S,eq_iff_iff] at this;omega
  refine ⟨by omega,by omega,h3',fun i hi=> ?_,fun i hi=> ?_,fun h0=> ?_,fun h0=> ?_⟩
  ·have:=h4 i hi;unfold A6r at this;simp only [D1y,D1f] at this;omega
  ·have:=h4 (i+1) hi;unfold A6r at this;simp only [D1y,D1f,D1P,D1F] at this;omega
  ·rcases h5 with h5|h5
   ·omega
   ·exact h5.1
  ·rcases h5 with h5|h5
   ·omega
   ·exact h5.2
 ·intro h;refine ⟨⟨⟨by have:=h.n0;omega,by have:=h.n1;omega⟩, ?_⟩,fun i hi=> ?_, ?_⟩
  ·have:=h.nil;rw [D1j,D1S,D1S];omega
  ·unfold A6r;have h1:=h.rng i hi;simp only [D1y,D1f,D1P];refine ⟨by omega, ?_⟩
   by_cases h0:0<i
   ·right;have:=h.up (i-1) (by omega)
    rw [show i-1+1=i by omega] at this
    omega
   ·exact .inl h0
  ·by_cases h0:0<r.Ac.length
   ·exact .inr ⟨h.first h0,h.last h0⟩
   ·exact .inl h0
def B0U (l:List B1):Nat->Int
 |0=>1
 |i+1=>if i=0 then 1 else if (F1 l i).Be-(F1 l (i-1)).Bf>B0U l i then (F1 l i).Be-(F1 l (i-1)).Bf else B0U l i
theorem C1k (r:D0) (h:OkR r.Ac r.N) (hl:r.Ac.length<=1048576) (h0:0<r.Ac.length):A7V r 1 1=some (B0U r.Ac r.Ac.length):=by
 have hm:r.Ac.length<=maxLen:=by rw [I1];omega
 unfold A7V;obtain ⟨v,hv,hQ⟩:=T2 (f:=fun s:Int×Int=>B0e r s.1 s.2)
  (fun s=> ∃i:Nat,1<=i/\i<=r.Ac.length/\s=(B0U r.Ac i,(i:Int)))
  (fun s=>r.Ac.length-s.2.toNat) (fun v=>v=B0U r.Ac r.Ac.length) (1,1) ⟨1,D1G _,h0,rfl⟩ (by
   rintro _ ⟨i,h1,hi,rfl⟩;simp only;unfold B0e
   by_cases hlt:i<r.Ac.length
   ·left;have r1:=h.rng i hlt;have r2:=h.rng (i-1) (by omega)
    have n1:=h.n1;simp only [Int.ofNat_lt,hlt,decide_true,D02,O2 hlt,D0Y,O9 hlt hm,B7y h1 hi hm,O2 (show i-1<r.Ac.length by omega)]
    refine ⟨_,rfl,⟨i+1,by omega,hlt, ?_⟩,by show r.Ac.length-((i:Int)+1).toNat<r.Ac.length-(i:Int).toNat;omega⟩
    rw [C6 (by omega) (by omega)]
    have:B0U r.Ac (i+1)=X0 (B0U r.Ac i) ((F1 r.Ac i).Be-(F1 r.Ac (i-1)).Bf):=by
     show (if i=0 then (1:Int) else _)=_
     rw [if_neg (by omega)]
    rw [this]
    rfl
   ·right;have hn: ¬((i:Int)<(r.Ac.length:Int)):=by omega
    have hi2:i=r.Ac.length:=by omega
    subst hi2;simp only [hn,decide_false,D01];exact ⟨_,rfl,rfl⟩)
 rw [hv,hQ]
def C1j (l:List B1):Int:=if l.length=0 then 0 else B0U l l.length
theorem C7L (r:D0) (hl:r.Ac.length<=1048576):B3a r=some (cond (okB r) (C1j r.Ac) 0):=by
 unfold B3a;rw [A3l r hl];simp only [D0Y];cases hb:okB r with
 |false=>rfl
 |true=>
  have h:=(A6k r).1 hb;simp only [D02,D1B,D1p];unfold C1j
  by_cases h0:r.Ac.length=0
  ·rw [if_pos h0,h0];rfl
  ·have c:((r.Ac.length:Int)==0)=false:=by rw [D1O];omega
   rw [c,D01,if_neg h0,C1k r h hl (by omega)]
theorem C6Q: @B4Y= @A7V:=rfl
theorem C84 (r:D0) (hl:r.Ac.length<=1048576):B1f r=some (cond (okB r) (C1j r.Ac) 0):=by
 unfold B1f;rw [A4h r hl];simp only [D0Y];cases hb:okB r with
 |false=>rfl
 |true=>
  have h:=(A6k r).1 hb;simp only [D02,D1B,D1p];unfold C1j
  by_cases h0:r.Ac.length=0
  ·rw [if_pos h0,h.nil.1 h0];rfl
  ·have c:(r.N==0)=false:=by rw [D1O];intro hc;exact h0 (h.nil.2 hc)
   rw [c,D01,if_neg h0,C6Q,C1k r h hl (by omega)]
end Go.Win
namespace Go.Win
open Go.Vc Go.Dec
theorem J7 {α:Type} {b:Bool} {bad:Prop} {X Y:α} (h:b=true↔bad):(bad->cond b X Y=X)/\(¬bad->cond b X Y=Y):=by
 cases b with
 |true=>exact ⟨fun _=>rfl,fun hn=>absurd (h.1 rfl) hn⟩
 |false=>exact ⟨fun hb=>absurd (h.2 hb) (by decide),fun _=>rfl⟩
theorem A1n {α:Type} (a b:Bool) (x y:α):cond a x (cond b x y)=cond (a||b) x y:=by cases a<;>rfl
def E1 (l:List A3) (j i:Nat):Int:=(((l.take i).countP fun b=>b.As==(j:Int)):Nat)
theorem C02 (l:List A3) (j:Nat):E1 l j 0=0:=by simp [E1]
theorem C01 {l:List A3} {i:Nat} (h:i<l.length) (j:Nat):E1 l j (i+1)=E1 l j i+(if (el l i).As=(j:Int) then 1 else 0):=by
 unfold E1;rw [List.take_add_one,A7m h,Option.toList_some,List.countP_append,List.countP_singleton];split<;>simp_all
theorem C9s (l:List A3) (j i:Nat):0<=E1 l j i:=by unfold E1;omega
theorem C9r (l:List A3) (j i:Nat):E1 l j i<=i:=by
 have:(l.take i).countP (fun b=>b.As==(j:Int))<=(l.take i).length:=List.countP_le_length;rw [D1q] at this;unfold E1;omega
def A0H (l:List A3) (i:Nat):Prop:= ¬(0<=(el l i).T/\(el l i).T<=16777216/\0<=(el l i).As/\(el l i).As<=30)\/(0<i/\((el l (i-1)).T>(el l i).T\/(el l (i-1)).As<(el l i).As))
def A9D (l:List A3) (k:Int) (j:Nat):Prop:=E1 l j l.length>k+1\/((j:Int)<(el l 0).As/\E1 l j l.length<k)
def A39 (l:List A3) (k:Int):Prop:=(1<=k/\k<=128)/\(∀i,i<l.length-> ¬A0H l i)/\(0<l.length-> ∀j:Nat,(j:Int)<=(el l 0).As-> ¬A9D l k j)
theorem C8C (l:List A3) (i:Nat): [E1 l 0 i,E1 l 1 i,E1 l 2 i,E1 l 3 i,E1 l 4 i,E1 l 5 i,E1 l 6 i,E1 l 7 i,E1 l 8 i,E1 l 9 i,E1 l 10 i,E1 l 11 i,E1 l 12 i,E1 l 13 i,E1 l 14 i,E1 l 15 i,E1 l 16 i,E1 l 17 i,E1 l 18 i,E1 l 19 i,E1 l 20 i,E1 l 21 i,E1 l 22 i,E1 l 23 i,E1 l 24 i,E1 l 25 i,E1 l 26 i,E1 l 27 i,E1 l 28 i,E1 l 29 i,E1 l 30 i]=(List.range 31).map fun j=>E1 l j i:=rfl
theorem B8d (l:List A3) (i:Nat) {L:Int} (h0:0<=L) (h1:L<=30):D2 [E1 l 0 i,E1 l 1 i,E1 l 2 i,E1 l 3 i,E1 l 4 i,E1 l 5 i,E1 l 6 i,E1 l 7 i,E1 l 8 i,E1 l 9 i,E1 l 10 i,E1 l 11 i,E1 l 12 i,E1 l 13 i,E1 l 14 i,E1 l 15 i,E1 l 16 i,E1 l 17 i,E1 l 18 i,E1 l 19 i,E1 l 20 i,E1 l 21 i,E1 l 22 i,E1 l 23 i,E1 l 24 i,E1 l 25 i,E1 l 26 i,E1 l 27 i,E1 l 28 i,E1 l 29 i,E1 l 30 i] L=some (E1 l L.toNat i):=by
 rw [C8C];have:D2 ((List.range 31).map fun j=>E1 l j i) ((L.toNat:Nat):Int)=some (E1 l L.toNat i):=by
  rw [K8,D1x,List.getElem?_range (by omega)]
  rfl
 rw [<-this]
 congr 1
 omega
theorem C00 {l:List A3} {i:Nat} (h:i<l.length) (hl:l.length<=maxLen) (h0:0<=(el l i).As) (j:Nat):
  (if (el l i).As.toNat=j then A2 (E1 l (el l i).As.toNat i+1) else E1 l j i)=E1 l j (i+1):=by
 rw [C01 h];have h1:=C9s l j i;have h2:=C9r l j i;rw [I1] at hl
 by_cases e:(el l i).As.toNat=j
 ·rw [if_pos e,e,if_pos (by omega),C6]<;>omega
 ·rw [if_neg e,if_neg (by omega)];omega
def stB (l:List A3) (i:Nat):Int×Int×Int×Int×Int×Int×Int×Int×Int×Int×Int×Int×Int×Int×Int×Int×Int×Int×Int×Int×Int×Int×Int×Int×Int×Int×Int×Int×Int×Int×Int×Int:=((i:Int),E1 l 0 i,E1 l 1 i,E1 l 2 i,E1 l 3 i,E1 l 4 i,E1 l 5 i,E1 l 6 i,E1 l 7 i,E1 l 8 i,E1 l 9 i,E1 l 10 i,E1 l 11 i,E1 l 12 i,E1 l 13 i,E1 l 14 i,E1 l 15 i,E1 l 16 i,E1 l 17 i,E1 l 18 i,E1 l 19 i,E1 l 20 i,E1 l 21 i,E1 l 22 i,E1 l 23 i,E1 l 24 i,E1 l 25 i,E1 l 26 i,E1 l 27 i,E1 l 28 i,E1 l 29 i,E1 l 30 i)
theorem B70 (l:List A3) (k:Int) (hk:1<=k/\k<=128) (h0:0<l.length) (hL:0<=(el l 0).As/\(el l 0).As<=30) (i:Nat) (hi:i=l.length):
  A1X k (E1 l 0 i) (E1 l 1 i) (E1 l 2 i) (E1 l 3 i) (E1 l 4 i) (E1 l 5 i) (E1 l 6 i) (E1 l 7 i) (E1 l 8 i) (E1 l 9 i) (E1 l 10 i) (E1 l 11 i) (E1 l 12 i) (E1 l 13 i) (E1 l 14 i) (E1 l 15 i) (E1 l 16 i) (E1 l 17 i) (E1 l 18 i) (E1 l 19 i) (E1 l 20 i) (E1 l 21 i) (E1 l 22 i) (E1 l 23 i) (E1 l 24 i) (E1 l 25 i) (E1 l 26 i) (E1 l 27 i) (E1 l 28 i) (E1 l 29 i) (E1 l 30 i) (el l 0) 0=some (L6 (∀j:Nat,(j:Int)<=(el l 0).As-> ¬A9D l k j)):=by
 unfold A1X;have H:=L1 (f:=fun s:Int=>A1k k (E1 l 0 i) (E1 l 1 i) (E1 l 2 i) (E1 l 3 i) (E1 l 4 i) (E1 l 5 i) (E1 l 6 i) (E1 l 7 i) (E1 l 8 i) (E1 l 9 i) (E1 l 10 i) (E1 l 11 i) (E1 l 12 i) (E1 l 13 i) (E1 l 14 i) (E1 l 15 i) (E1 l 16 i) (E1 l 17 i) (E1 l 18 i) (E1 l 19 i) (E1 l 20 i) (E1 l 21 i) (E1 l 22 i) (E1 l 23 i) (E1 l 24 i) (E1 l 25 i) (E1 l 26 i) (E1 l 27 i) (E1 l 28 i) (E1 l 29 i) (E1 l 30 i) (el l 0) s) ((el l 0).As.toNat+1) (A9D l k) false (some true)
  (fun j hj _=>by
   unfold A1k;have e1:decide ((j:Int)<=(el l 0).As)=true:=D03 (by omega)
   have e2:A2 (k+1)=k+1:=by rw [C6]<;>omega
   have e3:A2 ((j:Int)+1)=((j+1:Nat):Int):=by rw [C6]<;>omega
   rw [e1,D02,B8d l i (by omega) (by omega),D0Y]
   simp only [D0Y,e2,e3,D1E]
   by_cases g1:E1 l j i>k+1
   ·simp only [g1,decide_true,D1a,D1t,G2,D0Y,D1I,D02];exact ⟨fun _=>trivial,fun hn=>absurd (.inl (hi▸g1)) hn⟩
   ·simp only [g1,decide_false,D1b,D1z,D1p]
    by_cases g2:(j:Int)<(el l 0).As
    ·simp only [g2,decide_true,G8,D0Y,D1z];refine J7 ?_;unfold A9D;rw [D00,<-hi];omega
    ·simp only [g2,decide_false,G2,D0Y,D1t,D01];refine ⟨fun hb=> ?_,fun _=>trivial⟩;unfold A9D at hb;rw [<-hi] at hb;omega)
  (fun _=>by
   unfold A1k;rw [D05 (by omega),D01])
 by_cases hb: ∃j:Nat,j<(el l 0).As.toNat+1/\A9D l k j
 ·rw [H.1 hb,I9];intro hn;obtain ⟨j,h1,h2⟩:=hb;exact hn j (by omega) h2
 ·rw [H.2 fun j h1 h2=>hb ⟨j,h1,h2⟩,K9];intro j h1 h2;exact hb ⟨j,by omega,h2⟩
theorem A3d (l:List A3) (k:Int) (hl:l.length<=maxLen):V5 l k=some (L6 (A39 l k)):=by
 unfold V5
 by_cases hk:1<=k/\k<=128
 ·have e:(decide (k<(1:Int))||decide (k>(128:Int)))=false:=by simp;omega
  rw [e,D01];unfold A9F;have H: ∀R,((∃i,0<=i/\i<l.length/\A0H l i)->R=some false)/\((∀i,0<=i->i<l.length-> ¬A0H l i)->R=(if 0<l.length then A1X k (E1 l 0 l.length) (E1 l 1 l.length) (E1 l 2 l.length) (E1 l 3 l.length) (E1 l 4 l.length) (E1 l 5 l.length) (E1 l 6 l.length) (E1 l 7 l.length) (E1 l 8 l.length) (E1 l 9 l.length) (E1 l 10 l.length) (E1 l 11 l.length) (E1 l 12 l.length) (E1 l 13 l.length) (E1 l 14 l.length) (E1 l 15 l.length) (E1 l 16 l.length) (E1 l 17 l.length) (E1 l 18 l.length) (E1 l 19 l.length) (E1 l 20 l.length) (E1 l 21 l.length) (E1 l 22 l.length) (E1 l 23 l.length) (E1 l 24 l.length) (E1 l 25 l.length) (E1 l 26 l.length) (E1 l 27 l.length) (E1 l 28 l.length) (E1 l 29 l.length) (E1 l 30 l.length) (el l 0) 0 else some true))->R=some (L6 (A39 l k)):=by
   intro R hR
   by_cases hb: ∃i,0<=i/\i<l.length/\A0H l i
   ·rw [hR.1 hb,I9];intro hn;obtain ⟨i,_,h1,h2⟩:=hb;exact hn.2.1 i h1 h2
   ·have hg: ∀i,0<=i->i<l.length-> ¬A0H l i:=fun i h1 h2 h3=>hb ⟨i,h1,h2,h3⟩;rw [hR.2 hg]
    by_cases h0:0<l.length
    ·have h1:=hg 0 (D1G _) h0;unfold A0H at h1;rw [if_pos h0,B70 l k hk h0 (by omega) l.length rfl]
     congr 1
     rw [D1j,H0,H0];exact ⟨fun h2=>⟨hk,fun i hi=>hg i (Nat.zero_le _) hi,fun _=>h2⟩,fun h2=>h2.2.2 h0⟩
    ·rw [if_neg h0,K9];exact ⟨hk,fun i hi=>hg i (Nat.zero_le _) hi,fun h=>absurd h h0⟩
  apply H;refine V1 (stB l) 0 l.length (Nat.zero_le _) (A0H l) false _ (fun i _ hi _=> ?_) (fun hg=> ?_)
  ·simp only [stB];unfold A48;rw [D03 (by omega),D02,F8 hi,D0Y]
   simp only []
   by_cases hr:0<=(el l i).T/\(el l i).T<=16777216/\0<=(el l i).As/\(el l i).As<=30
   ·have e1:(!T9 (el l i).T|| !A0l (el l i).As)=false:=by
     unfold T9 A0l;simp;omega
    rw [e1,D01,B8d l i hr.2.2.1 hr.2.2.2];simp only [D0Y,C00 hi hl hr.2.2.1,O8 hi hl];rcases i with _|i
    ·simp only [D1r,gt_iff_lt,Int.natCast_zero,decide_false,G2,D0Y,D1t,D01];refine ⟨fun hb=> ?_,fun _=>trivial⟩;unfold A0H at hb;omega
    ·have e2:decide (((i+1:Nat):Int)>0)=true:=D03 (by omega)
     rw [e2,A1w (by omega) (Nat.le_of_lt hi) hl,D1F,F8 (by omega)]
     simp only [G8,D0Y,D1z]
     by_cases g1:(el l i).T>(el l (i+1)).T
     ·simp only [g1,decide_true,D1a,G2,D0Y,D1I,D02];exact ⟨fun _=>trivial,fun hn=>absurd (.inr ⟨by omega, .inl (by rw [D1F];exact g1)⟩) hn⟩
     ·simp only [g1,decide_false,D1b,G8,D0Y,D1p];refine J7 ?_;unfold A0H;rw [D00,D1F];omega
   ·have e1:(!T9 (el l i).T|| !A0l (el l i).As)=true:=by
     unfold T9 A0l;rw [D1j];simp;omega
    rw [e1,D02];exact ⟨fun _=>rfl,fun hn=>absurd (.inl hr) hn⟩
  ·simp only [stB];unfold A48;rw [D05 (D1r _),D01]
   congr 1
   by_cases h0:0<l.length
   ·have e1:((l.length:Int)==0)=false:=by rw [D1O];omega
    rw [e1,D01,if_pos h0,A3v h0,D0Y]
   ·have e1:((l.length:Int)==0)=true:=by
     have:l.length=0:=by omega
     rw [this];rfl
    rw [e1,D02,if_neg h0]
 ·have e:(decide (k<(1:Int))||decide (k>(128:Int)))=true:=by
   rw [D1j];simp;omega
  rw [e,D02,I9];exact fun h=>hk h.1
def A55 (l:List A3) (i:Nat):List Int:=(List.range 31).map fun j=>E1 l j i
theorem C03 (l:List A3) (i:Nat) {L:Int} (h0:0<=L) (h1:L<=30):D2 (A55 l i) L=some (E1 l L.toNat i):=B8d l i h0 h1
theorem B6y (l:List A3) (i:Nat):(A55 l i).length=31:=by simp [A55]
theorem C5X {l:List A3} {i:Nat} (h:i<l.length) (hl:l.length<=maxLen) (h0:0<=(el l i).As) (h1:(el l i).As<=30):
  (A55 l i).set (el l i).As.toNat (A2 (E1 l (el l i).As.toNat i+1))=A55 l (i+1):=by
 apply List.ext_getElem?;intro j;rw [List.getElem?_set,B6y];unfold A55
 by_cases hj:j<31
 ·rw [D1x,D1x,List.getElem?_range hj];have:=C00 h hl h0 j;simp only [Option.map_some];rw [<-this];split<;>simp_all
 ·have:(el l i).As.toNat≠j:=by omega
  rw [if_neg this,D1V (by simp;omega),D1V (by simp;omega)]
theorem C5m (l:List A3) (k:Int) (hk:1<=k/\k<=128) (hg:∀i,i<l.length-> ¬A0H l i):
  A4K l k (A55 l l.length) 0=some (L6 (0<l.length-> ∀j:Nat,(j:Int)<=(el l 0).As-> ¬A9D l k j)):=by
 unfold A4K;have hup: ∀i,i<l.length->(el l i).As<=(el l 0).As:=by
  intro i
  induction i with
  |zero=>intro _;exact Int.le_refl _
  |succ i ih=>
   intro hi;have h1:=hg (i+1) hi;unfold A0H at h1;rw [D1F] at h1;have:=ih (by omega)
   omega
 have hz:0<l.length-> ∀j:Nat,(el l 0).As<(j:Int)->E1 l j l.length=0:=by
  intro _ j hj;have: ∀i,i<=l.length->E1 l j i=0:=by
   intro i
   induction i with
   |zero=>intro _;exact C02 l j
   |succ i ih=>
    intro hi;rw [C01 (by omega),ih (by omega),if_neg]
    ·rfl
    ·have:=hup i (by omega);omega
  exact this _ (D1G _)
 have H:=L1 (f:=fun s:Int=>A3U l k (A55 l l.length) s) 31 (fun j=>0<l.length/\A9D l k j) false (some true)
  (fun j hj _=>by
   unfold A3U;have e2:A2 (k+1)=k+1:=by rw [C6]<;>omega
   have e3:A2 ((j:Int)+1)=((j+1:Nat):Int):=by rw [C6]<;>omega
   have e4:((A55 l l.length).length:Int)=31:=by rw [B6y];rfl
   rw [e4,D03 (by omega),D02,C03 l _ (by omega) (by omega),D0Y]
   simp only [e2,e3,D1E]
   by_cases h0:0<l.length
   ·rw [D03 (by omega:(l.length:Int)>0),A3v h0]
    simp only [G8,D0Y,D1z];refine J7 ?_;unfold A9D;simp only [D09,D06,D00];omega
   ·rw [D05 (by omega: ¬(l.length:Int)>0)]
    simp only [G2,D0Y,D1t,D01];exact ⟨fun hb=>absurd hb.1 h0,fun _=>trivial⟩)
  (fun _=>by
   unfold A3U;have e4:((A55 l l.length).length:Int)=31:=by rw [B6y];rfl
   rw [e4,D05 (by omega),D01])
 by_cases hb: ∃j:Nat,j<31/\(0<l.length/\A9D l k j)
 ·rw [H.1 hb,I9];intro hn;obtain ⟨j,h1,h2,h3⟩:=hb
  by_cases h4:(j:Int)<=(el l 0).As
  ·exact hn h2 j h4 h3
  ·have:=hz h2 j (by omega)
   unfold A9D at h3;omega
 ·rw [H.2 fun j h1 h2=>hb ⟨j,h1,h2⟩,K9];intro h0 j h1 h2;have:=hg 0 h0;unfold A0H at this;exact hb ⟨j,by omega,h0,h2⟩
theorem A7W (l:List A3) (k:Int) (hl:l.length<=maxLen):A1S l k=some (L6 (A39 l k)):=by
 unfold A1S
 by_cases hk:1<=k/\k<=128
 ·have e:A4J k=true:=by unfold A4J;simp;omega
  simp only [e,D1a,D01];have e2:(decide (0<=(31:Int)/\(31:Int)<=(31:Int)/\(31:Int)*8<=140737488355328/\(31:Int)<=140737488355328))=true:=by decide
  rw [e2,R4];unfold B2h;have H: ∀R,((∃i,0<=i/\i<l.length/\A0H l i)->R=some false)/\((∀i,0<=i->i<l.length-> ¬A0H l i)->R=A4K l k (A55 l l.length) 0)->R=some (L6 (A39 l k)):=by
   intro R hR
   by_cases hb: ∃i,0<=i/\i<l.length/\A0H l i
   ·rw [hR.1 hb,I9];intro hn;obtain ⟨i,_,h1,h2⟩:=hb;exact hn.2.1 i h1 h2
   ·have hg: ∀i,0<=i->i<l.length-> ¬A0H l i:=fun i h1 h2 h3=>hb ⟨i,h1,h2,h3⟩;rw [hR.2 hg,C5m l k hk fun i hi=>hg i (Nat.zero_le _) hi]
    congr 1
    rw [D1j,H0,H0];exact ⟨fun h2=>⟨hk,fun i hi=>hg i (Nat.zero_le _) hi,h2⟩,fun h2=>h2.2.2⟩
  apply H;have e0:(List.replicate ((31:Int)).toNat (0:Int),(0:Int))=(fun i:Nat=>(A55 l i,(i:Int))) 0:=by
   have:List.replicate ((31:Int)).toNat (0:Int)=A55 l 0:=by
    unfold A55;simp only [C02]
    rfl
   rw [this];rfl
  rw [e0];refine V1 (fun i:Nat=>(A55 l i,(i:Int))) 0 l.length (Nat.zero_le _) (A0H l) false _ (fun i _ hi _=> ?_) (fun hg=> ?_)
  ·simp only [];unfold A6N;rw [D03 (by omega),D02,F8 hi,D0Y]
   simp only []
   by_cases hr:0<=(el l i).T/\(el l i).T<=16777216/\0<=(el l i).As/\(el l i).As<=30
   ·have e1:((!F4 (el l i).T||decide ((el l i).As<0))||decide ((el l i).As>30))=false:=by
     unfold F4;simp;omega
    rw [e1,C03 l i hr.2.2.1 hr.2.2.2];simp only [D0Y,C5X hi hl hr.2.2.1 hr.2.2.2,O8 hi hl,D1b,D1z,D1p];rcases i with _|i
    ·simp only [D1r,gt_iff_lt,Int.natCast_zero,decide_false,G2,D0Y,D1t,D01];refine ⟨fun hb=> ?_,fun _=>trivial⟩;unfold A0H at hb;omega
    ·have e2:decide (((i+1:Nat):Int)>0)=true:=D03 (by omega)
     rw [e2,A1w (by omega) (Nat.le_of_lt hi) hl,D1F,F8 (by omega)]
     simp only [G8,D0Y,D1z]
     by_cases g1:(el l i).T>(el l (i+1)).T
     ·simp only [g1,decide_true,D1a,G2,D0Y,D1I,D02];exact ⟨fun _=>trivial,fun hn=>absurd (.inr ⟨by omega, .inl (by rw [D1F];exact g1)⟩) hn⟩
     ·simp only [g1,decide_false,D1b,G8,D0Y,D1p];refine J7 ?_;unfold A0H;rw [D00,D1F];omega
   ·have e1:((!F4 (el l i).T||decide ((el l i).As<0))||decide ((el l i).As>30))=true:=by
     unfold F4;rw [D1j];simp;omega
    rw [e1];simp only [D1a,D1t,G2,D0Y,D1I,D02];exact ⟨fun _=>trivial,fun hn=>absurd (.inl hr) hn⟩
  ·simp only [];unfold A6N;rw [D05 (by omega),D01]
 ·have e:A4J k=false:=by unfold A4J;simp;omega
  simp only [e,D1b,D02];rw [I9];exact fun h=>hk h.1
end Go.Win
namespace Go.Win
open Go.Vc Go.Dec
theorem C4j (a b:Int):A2 (A2 a+b)=A2 (a+b):=by
 rw [C2h,C2h,C2h];omega
theorem T6 (t:Int):F4 t=true↔0<=t/\t<=16777216:=by unfold F4;simp
theorem P7 (w c n:Int):H6 w c n=true↔(1<=w/\w<=1048576)/\(1<=c/\c<=65536)/\(0<=n/\n<=16777216):=by
 unfold H6 M6 F4;simp;omega
theorem O3 (k:Int):H9 k=true↔1<=k/\k<=64:=by unfold H9;simp
theorem O0 (v:Int):D8 v=true↔ -4096<=v/\v<=4096:=by unfold D8;simp
theorem B6G (n w t:Int):F7 n w t=true↔(0<=n/\n<=16777216)/\(1<=w/\w<=1048576)/\(0<=t/\t<=16777216)/\n-w<t/\t<=n:=by
 unfold F7 M6 F4;simp only [D06,D00];constructor
 ·rintro ⟨⟨⟨⟨h1,h2⟩,h3⟩,h4⟩,h5⟩;rw [C6 (by omega) (by omega)] at h4
  omega
 ·rintro ⟨h1,h2,h3,h4,h5⟩;rw [C6 (by omega) (by omega)]
  omega
theorem C7x: ∀n:Fin 31,A7o .i64 1 (F9 (n.1:Int))=2^n.1:=by decide+kernel
theorem B7j {L:Int} (h0:0<=L) (h1:L<=30):A7o .i64 1 (F9 L)=2^L.toNat:=by
 have:=C7x ⟨L.toNat,by omega⟩
 simp only [] at this;rw [<-this]
 congr 2
 omega
def A17 (b:A3):Int:=if 0<=b.As/\b.As<=30 then 2^b.As.toNat else 0
def K5 (l:List A3):Int:=(l.map A17).sum
theorem B3f:K5 []=0:=rfl
theorem A4l (b:A3) (l:List A3):K5 (b::l)=A17 b+K5 l:=by simp [K5]
theorem A3I (a b:List A3):K5 (a++b)=K5 a+K5 b:=by simp [K5]
theorem C7R (b:A3):0<=A17 b:=by
 unfold A17;split
 ·exact Int.pow_nonneg (by decide)
 ·exact Int.le_refl 0
theorem A9B (l:List A3):0<=K5 l:=by
 induction l with
 |nil=>exact Int.le_refl 0
 |cons b l ih=>rw [A4l];have:=C7R b;omega
theorem C6Y {l:List A3} {i:Nat} (h:i<l.length):K5 (l.take (i+1))=K5 (l.take i)+A17 (el l i):=by
 rw [List.take_add_one,A7m h,Option.toList_some,A3I,A4l,B3f];omega
theorem A3D (l:List A3) (hl:l.length<=maxLen):S6 l=some (A2 (K5 l)):=by
 unfold S6 B2g;have H:=V1 (f:=fun s:Int×Int=>A3T l s.1 s.2) (fun i=>(A2 (K5 (l.take i)),(i:Int))) 0 l.length (Nat.zero_le _) (fun _=>False) 0 (some (A2 (K5 l)))
  (fun i _ hi _=>by
   refine ⟨fun h=>h.elim,fun _=> ?_⟩;simp only [];unfold A3T;rw [D03 (by omega:(i:Int)<(l.length:Int)),D02,F8 hi,D0Y,O8 hi hl,C6Y hi]
   unfold A17
   by_cases h:0<=(el l i).As/\(el l i).As<=30
   ·rw [D03 h.1,D03 h.2,if_pos h,B7j h.1 h.2,C4j];have:decide (0<=F9 (el l i).As)=true:=D03 (by rw [B2F];omega)
    rw [this];rfl
   ·have e:(decide ((el l i).As>=0)&&decide ((el l i).As<=30))=false:=by
     rw [D1e];simpa using h
    rw [e,if_neg h,D01,Int.add_zero])
  (fun _=>by
   simp only [];unfold A3T;rw [D05 (D1r _),D01,List.take_length])
 exact H.2 (fun _ _ _ h=>h)
theorem A9r:R2=S6:=rfl
def A6D (l:List A3) (W K Cap Now:Int):Prop:=
 ((1<=W/\W<=1048576)/\(1<=Cap/\Cap<=65536)/\(0<=Now/\Now<=16777216)/\(1<=K/\K<=64))/\A39 l K/\A2 (K5 l)<=Cap/\ ∀i,i<l.length->F7 Now W (el l i).T=true
theorem B7E (l:List A3) (W K Cap Now:Int) (hl:l.length<=maxLen):A6P l W K Cap Now=some (L6 (A6D l W K Cap Now)):=by
 unfold A6P;simp only []
 by_cases h1:(1<=W/\W<=1048576)/\(1<=Cap/\Cap<=65536)/\(0<=Now/\Now<=16777216)/\(1<=K/\K<=64)
 ·have e1:H6 W Cap Now=true:=(P7 _ _ _).2 ⟨h1.1,h1.2.1,h1.2.2.1⟩;have e2:H9 K=true:=(O3 _).2 h1.2.2.2;rw [e1,e2,A7W l K hl,A3D l hl];simp only [D1a,Bool.or_false,D1b,G8,D0Y,D1p]
  by_cases h2:A39 l K
  ·rw [K9 h2];simp only [D1a,D1b,G8,D0Y,D1p]
   by_cases h3:A2 (K5 l)<=Cap
   ·rw [D05 (by omega),D01]
    unfold B3J;have H:=L1 (f:=fun s:Int=>A4L l W Now s) l.length (fun i=> ¬F7 Now W (el l i).T=true) false (some true)
     (fun i hi _=>by
      unfold A4L;rw [D03 (by omega:(i:Int)<(l.length:Int)),D02,F8 hi,D0Y,O8 hi hl]
      refine J7 ?_;simp)
     (fun _=>by
      unfold A4L;rw [D05 (D1r _),D01])
    by_cases h4: ∀i,i<l.length->F7 Now W (el l i).T=true
    ·rw [H.2 fun i hi hn=>hn (h4 i hi),K9];exact ⟨h1,h2,h3,h4⟩
    ·rw [H.1,I9]
     ·exact fun h=>h4 h.2.2.2
     ·exact D1T fun hn=>h4 fun i hi=>D1T fun hc=>hn ⟨i,hi,hc⟩
   ·rw [D03 (by omega),D02,I9]
    exact fun h=>h3 h.2.2.1
  ·rw [I9 h2];simp only [D1a,D1b,G2,D0Y,D1I,D02];rw [I9];exact fun h=>h2 h.2.1
 ·have e:(!H6 W Cap Now|| !H9 K)=true:=by
   rw [D09,D1k,D1k,D1e,D1e,Ne,Ne,P7,O3];omega
  rw [e];simp only [D1a,G2,D0Y,D1I,D02];rw [I9];exact fun h=>h1 h.1
theorem B2i (x:D5) (hl:x.Ab.length<=maxLen):A2p x=some (vOf (A6D x.Ab x.W x.K x.Cap x.Now)):=by
 unfold A2p;rw [B7E _ _ _ _ _ hl,D0Y]
 by_cases h:A6D x.Ab x.W x.K x.Cap x.Now
 ·rw [K9 h,N0 h];rfl
 ·rw [I9 h,H3 h];rfl
theorem A7l (w k c n:Int):A4u w k c n=true↔(1<=w/\w<=1048576)/\(1<=c/\c<=65536)/\(0<=n/\n<=16777216)/\(1<=k/\k<=64):=by
 unfold A4u;simp;omega
theorem B15 (x:D5) (hl:x.Ab.length<=maxLen):A2c x=some (vOf (A6D x.Ab x.W x.K x.Cap x.Now)):=by
 unfold A2c;simp only []
 by_cases h1:A4u x.W x.K x.Cap x.Now=true
 ·have h1' :=(A7l _ _ _ _).1 h1;rw [h1,A3d _ _ hl,A9r,A3D _ hl];simp only [D1a,D1b,G8,D0Y,D1p]
  by_cases h2:A39 x.Ab x.K
  ·rw [K9 h2];simp only [D1a,D1b,G8,D0Y,D1p]
   by_cases h3:A2 (K5 x.Ab)<=x.Cap
   ·rw [D05 (by omega),D01]
    unfold A8M;have H:=L1 (f:=fun s:Int=>A1p x s) x.Ab.length (fun i=> ¬F7 x.Now x.W (el x.Ab i).T=true) 2 (some 0)
     (fun i hi _=>by
      unfold A1p;rw [D03 (by omega:(i:Int)<(x.Ab.length:Int)),D02,F8 hi,D0Y,O8 hi hl]
      refine J7 ?_;simp [A9x])
     (fun _=>by
      unfold A1p;rw [D05 (D1r _),D01])
    by_cases h4: ∀i,i<x.Ab.length->F7 x.Now x.W (el x.Ab i).T=true
    ·rw [H.2 fun i hi hn=>hn (h4 i hi),N0];exact ⟨h1',h2,h3,h4⟩
    ·rw [H.1,H3]
     ·exact fun h=>h4 h.2.2.2
     ·exact D1T fun hn=>h4 fun i hi=>D1T fun hc=>hn ⟨i,hi,hc⟩
   ·rw [D03 (by omega),D02,H3]
    exact fun h=>h3 h.2.2.1
  ·rw [I9 h2];simp only [D1a,D1b,G2,D0Y,D1I,D02];rw [H3];exact fun h=>h2 h.2.1
 ·have h1' :=fun h=>h1 ((A7l _ _ _ _).2 h);rw [Bool.not_eq_true] at h1;rw [h1];simp only [D1a,D1b,G2,D0Y,D1I,D02];rw [H3];exact fun h=>h1' h.1
theorem B0r (w k c m n:Int):A7B w k c m n=true↔((1<=w/\w<=1048576)/\(1<=c/\c<=65536)/\(0<=n/\n<=16777216)/\(1<=k/\k<=64))/\(1<=m/\m<=1024):=by
 unfold A7B;simp;omega
def B92 (x:D9):Prop:=A6D x.Ab x.W x.K x.Cap x.Now/\(1<=x.Be/\x.Be<=1024)
theorem B2j (x:D9) (hl:x.Ab.length<=maxLen):A2q x=some (vOf (B92 x)):=by
 unfold A2q;rw [B7E _ _ _ _ _ hl,D0Y];simp only [];have e:A0S x.Be=L6 (1<=x.Be/\x.Be<=1024):=by
  rw [D1j,H0];unfold A0S;simp
 rw [e]
 by_cases h:A6D x.Ab x.W x.K x.Cap x.Now
 ·rw [K9 h]
  by_cases h2:1<=x.Be/\x.Be<=1024
  ·rw [K9 h2,N0 ⟨h,h2⟩];rfl
  ·rw [I9 h2,H3 fun h3=>h2 h3.2];rfl
 ·rw [I9 h,H3 fun h3=>h h3.1];rfl
theorem B46 (x:D9) (hl:x.Ab.length<=maxLen):A4k x=some (vOf (B92 x)):=by
 unfold A4k;simp only []
 by_cases h1:A7B x.W x.K x.Cap x.Be x.Now=true
 ·have h1' :=(B0r _ _ _ _ _).1 h1;rw [h1,A3d _ _ hl,A9r,A3D _ hl];simp only [D1a,D1b,G8,D0Y,D1p]
  by_cases h2:A39 x.Ab x.K
  ·rw [K9 h2];simp only [D1a,D1b,G8,D0Y,D1p]
   by_cases h3:A2 (K5 x.Ab)<=x.Cap
   ·rw [D05 (by omega),D01]
    unfold B1r;have H:=L1 (f:=fun s:Int=>A3a x s) x.Ab.length (fun i=> ¬F7 x.Now x.W (el x.Ab i).T=true) 2 (some 0)
     (fun i hi _=>by
      unfold A3a;rw [D03 (by omega:(i:Int)<(x.Ab.length:Int)),D02,F8 hi,D0Y,O8 hi hl]
      refine J7 ?_;simp [A9x])
     (fun _=>by
      unfold A3a;rw [D05 (D1r _),D01])
    by_cases h4: ∀i,i<x.Ab.length->F7 x.Now x.W (el x.Ab i).T=true
    ·rw [H.2 fun i hi hn=>hn (h4 i hi),N0];exact ⟨⟨h1'.1,h2,h3,h4⟩,h1'.2⟩
    ·rw [H.1,H3]
     ·exact fun h=>h4 h.1.2.2.2
     ·exact D1T fun hn=>h4 fun i hi=>D1T fun hc=>hn ⟨i,hi,hc⟩
   ·rw [D03 (by omega),D02,H3]
    exact fun h=>h3 h.1.2.2.1
  ·rw [I9 h2];simp only [D1a,D1b,G2,D0Y,D1I,D02];rw [H3];exact fun h=>h2 h.1.2.1
 ·have h1' :=fun h=>h1 ((B0r _ _ _ _ _).2 h);rw [Bool.not_eq_true] at h1;rw [h1];simp only [D1a,D1b,G2,D0Y,D1I,D02];rw [H3];exact fun h=>h1' ⟨h.1.1,h.2⟩
theorem C3x (l:List A3) (hl:l.length<=maxLen):A23 l l=some true:=by
 unfold A23;rw [D1B,D01];unfold A8v;refine (L1 (f:=fun s:Int=>A2o l l s) l.length (fun _=>False) false (some true) (fun i hi _=>⟨fun h=>h.elim,fun _=> ?_⟩) (fun _=> ?_)).2 fun _ _ h=>h
 ·unfold A2o;rw [D03 (by omega:(i:Int)<(l.length:Int)),D02,F8 hi]
  simp [O8 hi hl]
 ·unfold A2o;rw [D05 (D1r _),D01]
theorem B56 (x:D5) (hl:x.Ab.length<=maxLen):A4M x x=some true:=by
 unfold A4M;simp [C3x _ hl]
theorem B57 (x:D9) (hl:x.Ab.length<=maxLen):A4N x x=some true:=by
 unfold A4N;simp [C3x _ hl]
end Go.Win
namespace Go.Win
open Go.Vc Go.Dec
def mk1 (seq cap now:Int) (m:A7):Prop:=(1<=m.Bg/\m.Bg<=seq)/\m.N=seq-m.Bg+1/\m.N<=cap/\0<=m.T/\m.T<=now
def mk2 (lo:Int) (m:A7):Prop:=lo<=m.Bf/\m.Bf<=m.Be/\m.Be<=4096/\Q3 m.N m.Bf m.Be m.S m.Q=true
def mk4 (o m:A7):Prop:=o.Bg<m.Bg/\o.T<=m.T/\o.Bf<=m.Bf/\m.Be<=o.Be/\Q3 (A2 (o.N-m.N)) o.Bf o.Be (A2 (o.S-m.S)) (A2 (o.Q-m.Q))=true
def A6C (seq:Int) (m:A7):Prop:=m.Bg=seq/\m.Bf=m.S/\m.Be=m.S/\m.Q=A2 (m.S*m.S)
def B1F (l:List A7) (seq cap now w lo:Int) (i:Nat):Prop:=
 mk1 seq cap now (el l i)/\mk2 lo (el l i)/\((0<i\/l.length=1)->F7 now w (el l i).T=true)/\(0<i->mk4 (el l (i-1)) (el l i))
def A3B (l:List A7) (seq cap now w lo:Int):Prop:=
 (0<=seq/\seq<=1099511627776)/\(∀i,i<l.length->B1F l seq cap now w lo i)/\(0<l.length->A6C seq (el l (l.length-1)))
theorem A0d {n:Nat} {p:Nat->Prop} (h:¬ ∀i,i<n->p i): ∃i,i<n/\ ¬p i:=
 D1T fun hn=>h fun i hi=>D1T fun hc=>hn ⟨i,hi,hc⟩
theorem C1B {seq cap now:Int} (hs:0<=seq/\seq<=1099511627776) (m:A7):
  (((((decide (m.Bg<1)||decide (m.Bg>seq))||(m.N !=A2 (A2 (seq-m.Bg)+1)))||decide (m.N>cap))||decide (m.T<0))||decide (m.T>now))=true↔ ¬mk1 seq cap now m:=by
 unfold mk1
 by_cases h:1<=m.Bg/\m.Bg<=seq
 ·have e:A2 (A2 (seq-m.Bg)+1)=seq-m.Bg+1:=by rw [C6 (n:=seq-m.Bg) (by omega) (by omega),C6]<;>omega
  simp only [e,D09,D00,bne_iff_ne];omega
 ·simp only [D09,D00];constructor
  ·intro _ h2;exact h h2.1
  ·intro _;omega
theorem B88 (l:List A7) (seq cap now w lo:Int) (i:Nat):B1F l seq cap now w lo (i+1)↔
  mk1 seq cap now (el l (i+1))/\mk2 lo (el l (i+1))/\F7 now w (el l (i+1)).T=true/\mk4 (el l i) (el l (i+1)):=by
 unfold B1F;rw [D1F];constructor
 ·rintro ⟨h1,h2,h3,h4⟩;exact ⟨h1,h2,h3 (.inl (by omega)),h4 (by omega)⟩
 ·rintro ⟨h1,h2,h3,h4⟩;exact ⟨h1,h2,fun _=>h3,fun _=>h4⟩
theorem B5S (l:List A7) (seq cap now w lo:Int) (hl:l.length<=maxLen):A5o l seq cap now w lo=some (L6 (A3B l seq cap now w lo)):=by
 unfold A5o
 by_cases hs:0<=seq/\seq<=1099511627776
 ·have e:(decide (seq<0)||decide (seq>1099511627776))=false:=by simp;omega
  rw [e,D01];unfold B2b;have H:=L1 (f:=fun s:Int=>A3R l seq cap now w lo s) l.length (fun i=> ¬B1F l seq cap now w lo i) false (some (L6 (0<l.length->A6C seq (el l (l.length-1)))))
   (fun i hi _=>by
    unfold A3R;rw [D03 (by omega:(i:Int)<(l.length:Int)),D02,F8 hi,D0Y,O8 hi hl]
    simp only [A9x]
    by_cases h1:mk1 seq cap now (el l i)
    ·have e1:=D1e.2 (fun h=>(C1B (cap:=cap) (now:=now) hs (el l i)).1 h h1);rw [e1,D01]
     by_cases h2:mk2 lo (el l i)
     ·have e2:((((decide ((el l i).Bf<lo))||(decide ((el l i).Be>(4096:Int))))||(decide ((el l i).Bf>(el l i).Be)))||(!(Q3 (el l i).N (el l i).Bf (el l i).Be (el l i).S (el l i).Q)))=false:=by
       have:=h2.2.2.2;unfold mk2 at h2;rw [this];simp;omega
      rw [e2,D01];rcases i with _|i
      ·have e3:(((0:Nat):Int)==0)=true:=rfl;have e4:decide (((0:Nat):Int)>0)=false:=rfl;rw [e3,e4,D02,D1p];refine J7 ?_;unfold B1F;simp only [D06,D1S,D1k,Nat.lt_irrefl,false_or,false_implies,and_true,h1,h2,true_and];have:((l.length:Int)=1)↔l.length=1:=by omega
       rw [this,Classical.not_imp,Bool.not_eq_true]
      ·have e3:(((i+1:Nat):Int)==0)=false:=by rw [D1O];omega
       have e4:decide (((i+1:Nat):Int)>0)=true:=D03 (by omega)
       rw [e3,e4,D01,D1I,D1z,A1w (by omega) (Nat.le_of_lt hi) hl,D1F,F8 (by omega),D0Y]
       simp only [A1n];refine J7 ?_;rw [B88];simp only [h1,h2,true_and,D09,D1k,D00];unfold mk4;cases F7 now w (el l (i+1)).T with
       |false=>simp
       |true=>
        cases Q3 (A2 ((el l i).N-(el l (i+1)).N)) (el l i).Bf (el l i).Be (A2 ((el l i).S-(el l (i+1)).S)) (A2 ((el l i).Q-(el l (i+1)).Q)) with
        |false=>simp
        |true=>simp;omega
     ·have e2:((((decide ((el l i).Bf<lo))||(decide ((el l i).Be>(4096:Int))))||(decide ((el l i).Bf>(el l i).Be)))||(!(Q3 (el l i).N (el l i).Bf (el l i).Be (el l i).S (el l i).Q)))=true:=by
       unfold mk2 at h2;cases hf:Q3 (el l i).N (el l i).Bf (el l i).Be (el l i).S (el l i).Q with
       |false=>simp
       |true=>rw [hf] at h2;simp only [and_true] at h2;simp;omega
      rw [e2,D02];exact ⟨fun _=>rfl,fun hn=>absurd (fun h=>h2 h.2.1) hn⟩
    ·have e1:=(C1B (cap:=cap) (now:=now) hs (el l i)).2 h1;rw [e1,D02];exact ⟨fun _=>rfl,fun hn=>absurd (fun h=>h1 h.1) hn⟩)
   (fun _=>by
    unfold A3R;rw [D05 (D1r _),D01]
    congr 1
    by_cases h0:0<l.length
    ·have e1:((l.length:Int)==0)=false:=by rw [D1O];omega
     rw [e1,D01,A1w h0 (D1G _) hl,F8 (by omega),D0Y]
     congr 1
     rw [D1j,H0];unfold A6C;simp [h0,and_assoc]
    ·have e1:((l.length:Int)==0)=true:=by
      have:l.length=0:=by omega
      rw [this];rfl
     rw [e1,D02,K9];exact fun h=>absurd h h0)
  by_cases h: ∀i,i<l.length->B1F l seq cap now w lo i
  ·rw [H.2 fun i hi hn=>hn (h i hi)]
   congr 1
   rw [D1j,H0,H0];exact ⟨fun h2=>⟨hs,h,h2⟩,fun h2=>h2.2.2⟩
  ·rw [H.1 (A0d h),I9];exact fun h2=>h h2.2.1
 ·have e:(decide (seq<0)||decide (seq>1099511627776))=true:=by rw [D1j];simp;omega
  rw [e,D02,I9];exact fun h=>hs h.1
theorem B9b (n s q lo hi:Int):A24 n s q lo hi=Q3 n lo hi s q:=by
 unfold A24 Q3
 rfl
theorem C7m {n lo hi s q:Int} (hn:0<=n/\n<=65536) (hlo:-4096<=lo/\lo<=4096) (hhi:-4096<=hi/\hi<=4096):
  Q3 n lo hi s q=true↔n*lo<=s/\s<=n*hi/\0<=q/\q<=n*16777216/\s*s<=n*q:=by
 have b: ∀x:Int,-4096<=x->x<=4096-> -268435456<=n*x/\n*x<=268435456:=by
  intro x h1 h2;have h3:=Int.mul_le_mul_of_nonneg_left h1 hn.1;have h4:=Int.mul_le_mul_of_nonneg_left h2 hn.1;omega
 have b1:=b lo hlo.1 hlo.2;have b2:=b hi hhi.1 hhi.2;unfold Q3;rw [C6 (n:=n*lo) (by omega) (by omega),C6 (n:=n*hi) (by omega) (by omega),C6 (n:=n*4096) (by omega) (by omega),C6 (n:=n*4096*4096) (by omega) (by omega)]
 simp only [D06,D00];have e:n*4096*4096=n*16777216:=by omega
 rw [e];constructor
 ·rintro ⟨⟨⟨⟨h1,h2⟩,h3⟩,h4⟩,h5⟩;have hs:s*s<=268435456*268435456:=by
   have h6:s.natAbs*s.natAbs<=268435456*268435456:=Nat.mul_le_mul (by omega) (by omega)
   have e2:(s.natAbs:Int)*s.natAbs=s*s:=Int.natAbs_mul_self;have h7:((s.natAbs*s.natAbs:Nat):Int)=(s.natAbs:Int)*s.natAbs:=by rw [Int.natCast_mul]
   omega
  have hs0:0<=s*s:=by
   have e2:(s.natAbs:Int)*s.natAbs=s*s:=Int.natAbs_mul_self;have:=Int.mul_nonneg (a:=(s.natAbs:Int)) (b:=s.natAbs) (by omega) (by omega)
   omega
  have hq:n*q<=65536*1099511627776:=Int.mul_le_mul hn.2 (by omega) h3 (by omega)
  have hq0:0<=n*q:=Int.mul_nonneg hn.1 h3;rw [C6 (by omega) (by omega),C6 (by omega) (by omega)] at h5
  exact ⟨h1,h2,h3,h4,h5⟩
 ·rintro ⟨h1,h2,h3,h4,h5⟩;have hs0:0<=s*s:=by
   have e2:(s.natAbs:Int)*s.natAbs=s*s:=Int.natAbs_mul_self;have:=Int.mul_nonneg (a:=(s.natAbs:Int)) (b:=s.natAbs) (by omega) (by omega)
   omega
  have hq:n*q<=65536*1099511627776:=Int.mul_le_mul hn.2 (by omega) h3 (by omega)
  have hq0:0<=n*q:=Int.mul_nonneg hn.1 h3;rw [C6 (n:=s*s) (by omega) (by omega),C6 (n:=n*q) (by omega) (by omega)]
  exact ⟨⟨⟨⟨h1,h2⟩,h3⟩,h4⟩,h5⟩
theorem B0Z {agg v:Int} (ha:1<=agg/\agg<=4):P8 agg v=true↔I7 agg<=v/\v<=4096:=by
 unfold P8 I7;simp only [D06,D09,D00,D1S,O0];have:agg=1\/agg=2\/agg=3\/agg=4:=by omega
 rcases this with rfl|rfl|rfl|rfl
 ·show _↔(-4096:Int)<=v/\_;omega
 ·show _↔(0:Int)<=v/\_;omega
 ·show _↔(0:Int)<=v/\_;omega
 ·show _↔(-4096:Int)<=v/\_;omega
theorem A7q (agg:Int): -4096<=I7 agg:=by
 unfold I7;cases (agg==2||agg==3)<;>decide
theorem C7A {seq cap now agg:Int} (ha:1<=agg/\agg<=4) (hc:cap<=65536) {m:A7} (h1:mk1 seq cap now m):
  ((((((((!(P8 agg m.Bf))||(!(P8 agg m.Be)))||(decide (m.Bf>m.Be)))||(decide (m.S<(A2 ((IntKind.i64.wrap (0-m.N))*(4096:Int))))))||(decide (m.S>(A2 (m.N*(4096:Int))))))||(decide (m.Q<(0:Int))))||(decide (m.Q>(A2 ((A2 (m.N*(4096:Int)))*(4096:Int))))))||(!(A24 m.N m.S m.Q m.Bf m.Be)))=true↔ ¬mk2 (I7 agg) m:=by
 unfold mk1 at h1;have hn:0<=m.N/\m.N<=65536:=by omega
 have e0:IntKind.i64.wrap (0-m.N)= -m.N:=by
  show A2 (0-m.N)=_;rw [C6]<;>omega
 rw [e0,C6 (n:= -m.N*4096) (by omega) (by omega),C6 (n:=m.N*4096) (by omega) (by omega),C6 (n:=m.N*4096*4096) (by omega) (by omega),B9b]
 simp only [D09,D1k,D00];unfold mk2;rw [D1e,D1e,D1e,Ne,Ne,Ne,B0Z ha,B0Z ha];have hge:=A7q agg
 by_cases hv:I7 agg<=m.Bf/\m.Bf<=m.Be/\m.Be<=4096
 ·have:=C7m (s:=m.S) (q:=m.Q) hn (lo:=m.Bf) (hi:=m.Be) (by omega) (by omega)
  rw [this];have h3:=Int.mul_le_mul_of_nonneg_left (show-4096<=m.Bf by omega) hn.1
  have h4:=Int.mul_le_mul_of_nonneg_left (show m.Be<=4096 by omega) hn.1
  omega
 ·omega
theorem C6p {seq cap now agg:Int} (ha:1<=agg/\agg<=4) (hc:cap<=65536) {m:A7} (h1:mk1 seq cap now m):
  ((((((((!(P8 agg m.Bf))||(!(P8 agg m.Be)))||(decide (m.Bf>m.Be)))||(decide (m.S<(A2 ((IntKind.i64.wrap (0-m.N))*(4096:Int))))))||(decide (m.S>(A2 (m.N*(4096:Int))))))||(decide (m.Q<(0:Int))))||(decide (m.Q>(A2 ((A2 (m.N*(4096:Int)))*(4096:Int))))))||(!(A24 m.N m.S m.Q m.Bf m.Be)))=L6 (¬mk2 (I7 agg) m):=by
 rw [D1j,H0];exact C7A ha hc h1
theorem B51 (l:List A7) (agg w cap now seq:Int) (ha:1<=agg/\agg<=4) (hc:cap<=65536) (hn:now<=16777216) (hl:l.length<=maxLen):
  A5s l agg w cap now seq=some (L6 (A3B l seq cap now w (I7 agg))):=by
 unfold A5s
 by_cases hs:0<=seq/\seq<=1099511627776
 ·have e:(decide (seq<0)||decide (seq>1099511627776))=false:=by simp;omega
  rw [e,D01];unfold B2k;have H:=L1 (f:=fun s:Int=>A3V l agg w cap now seq s) l.length (fun i=> ¬(B1F l seq cap now w (I7 agg) i/\(i=l.length-1->A6C seq (el l i)))) false (some true)
   (fun i hi _=>by
    unfold A3V;rw [D03 (by omega:(i:Int)<(l.length:Int)),D02,F8 hi,D0Y,O8 hi hl]
    simp only [];have hlast:A2 ((l.length:Int)-1)=((l.length-1:Nat):Int):=A1w (by omega) (D1G _) hl
    have elast:((i:Int)==((l.length-1:Nat):Int))=decide (i=l.length-1):=by rw [D1j,D1S,D00];omega
    rw [hlast,elast];have dlast:((((el l i).Bg !=seq||(el l i).Bf !=(el l i).S)||(el l i).Be !=(el l i).S)||(el l i).Q !=A2 ((el l i).S*(el l i).S))=L6 (¬A6C seq (el l i)):=by
     rw [D1j,H0];unfold A6C;simp only [D09,bne_iff_ne];omega
    by_cases h1:(1<=(el l i).Bg/\(el l i).Bg<=seq)/\(el l i).N=seq-(el l i).Bg+1/\(el l i).N<=cap
    ·have e1:(((decide ((el l i).Bg<1)||decide ((el l i).Bg>seq))||((el l i).N !=A2 (A2 (seq-(el l i).Bg)+1)))||decide ((el l i).N>cap))=false:=by
      have e:A2 (A2 (seq-(el l i).Bg)+1)=seq-(el l i).Bg+1:=by rw [C6 (n:=seq-(el l i).Bg) (by omega) (by omega),C6]<;>omega
      rw [e];simp;omega
     rw [e1]
     by_cases h1' :0<=(el l i).T/\(el l i).T<=now
     ·have hm1:mk1 seq cap now (el l i):=by unfold mk1;omega
      have e2:(!F4 (el l i).T||decide ((el l i).T>now))=false:=by
       have:=(T6 (el l i).T).2 (by omega)
       rw [this];simp;omega
      rw [e2];have e3:=C6p ha hc hm1;rcases i with _|i
      ·have e4:decide (((0:Nat):Int)>0)=false:=rfl;rw [e4];rw [e3,dlast];simp only [D1b,Bool.and_false,G2,D0Y,D1p,Bool.or_false,D1t,D01,A1n];refine J7 ?_;have e5:(((l.length:Int)==1)=true)↔l.length=1:=by rw [D1S];omega
       have e6:(0=l.length-1)↔l.length=1:=by omega
       rw [D09,D09,D06,D06,H0,H0,e5,D00,D1k,D1e,e6];unfold B1F
       by_cases g1:mk2 (I7 agg) (el l 0)<;>by_cases g2:l.length=1<;>by_cases g3:F7 now w (el l 0).T=true<;>by_cases g5:A6C seq (el l 0)<;>simp [g1,g2,g3,g5,hm1]
      ·have e4:decide (((i+1:Nat):Int)>0)=true:=D03 (by omega)
       rw [e4,A1w (by omega) (Nat.le_of_lt hi) hl,D1F,F8 (by omega)]
       rw [e3,dlast];simp only [D1b,D1z,G8,D0Y,D1p,D1I,D02,A1n];refine J7 ?_;rw [B88];simp only [D09,D06,H0,D00,D1k,B9b];unfold mk4
       generalize hf:Q3 (A2 ((el l i).N-(el l (i+1)).N)) (el l i).Bf (el l i).Be (A2 ((el l i).S-(el l (i+1)).S)) (A2 ((el l i).Q-(el l (i+1)).Q))=F
       generalize F7 now w (el l (i+1)).T=V
       generalize mk2 (I7 agg) (el l (i+1))=M
       generalize A6C seq (el l (i+1))=Z
       by_cases g1:M<;>by_cases g2:Z<;>cases F<;>cases V<;>simp [g1,g2,hm1]<;>omega
     ·have e2:(!F4 (el l i).T||decide ((el l i).T>now))=true:=by
       rw [D09,D1k,D1e,Ne,T6,D00];omega
      have hm1: ¬mk1 seq cap now (el l i):=by unfold mk1;omega
      rw [e2];simp only [D1a,D1t,G2,D0Y,D1I,D02];rcases i with _|i
      ·have e4:decide (((0:Nat):Int)>0)=false:=rfl;rw [e4];simp only [Bool.and_false,D1t,G2,D0Y,Bool.or_false,D01];exact ⟨fun _=>trivial,fun hn=>absurd (fun h=>hm1 h.1.1) hn⟩
      ·have e4:decide (((i+1:Nat):Int)>0)=true:=D03 (by omega)
       rw [e4,A1w (by omega) (Nat.le_of_lt hi) hl,D1F,F8 (by omega)]
       simp only [D1b,D1z,G8,D0Y,D1p,ite_self,A1n];cases decide ((el l i).Bg>=(el l (i+1)).Bg) with
       |false=>exact ⟨fun _=>rfl,fun hn=>absurd (fun h=>hm1 h.1.1) hn⟩
       |true=>exact ⟨fun _=>rfl,fun hn=>absurd (fun h=>hm1 h.1.1) hn⟩
    ·have e1:(((decide ((el l i).Bg<1)||decide ((el l i).Bg>seq))||((el l i).N !=A2 (A2 (seq-(el l i).Bg)+1)))||decide ((el l i).N>cap))=true:=by
      by_cases h:1<=(el l i).Bg/\(el l i).Bg<=seq
      ·have e:A2 (A2 (seq-(el l i).Bg)+1)=seq-(el l i).Bg+1:=by rw [C6 (n:=seq-(el l i).Bg) (by omega) (by omega),C6]<;>omega
       simp only [e,D09,D00,bne_iff_ne];omega
      ·simp only [D09,D00];omega
     rw [e1];simp only [D1a,D1t,G2,D0Y,D1I,D02];refine ⟨fun _=>trivial,fun hn=>absurd (fun h=>h1 ?_) hn⟩;have:=h.1.1;unfold mk1 at this;exact ⟨this.1,this.2.1,this.2.2.1⟩)
   (fun _=>by
    unfold A3V;rw [D05 (D1r _),D01])
  by_cases h: ∀i,i<l.length->(B1F l seq cap now w (I7 agg) i/\(i=l.length-1->A6C seq (el l i)))
  ·rw [H.2 fun i hi hn=>hn (h i hi),K9];exact ⟨hs,fun i hi=>(h i hi).1,fun h0=>(h (l.length-1) (by omega)).2 rfl⟩
  ·rw [H.1 (A0d h),I9];rintro ⟨_,h2,h3⟩;exact h fun i hi=>⟨h2 i hi,fun e=>by subst e;exact h3 (by omega)⟩
 ·have e:(decide (seq<0)||decide (seq>1099511627776))=true:=by rw [D1j];simp;omega
  rw [e,D02,I9];exact fun h=>hs h.1
end Go.Win
namespace Go.Win
open Go.Vc Go.Dec
theorem C46 {m:A7} (h1:-4096<=m.Bf/\m.Bf<=4096) (h2:-4096<=m.Be/\m.Be<=4096) (agg:Int):A2R m agg=Q2 m agg:=by
 have e1:(B5n m.Be m.Bf).1=m.Be-m.Bf:=by
  unfold B5n;rw [C6 (n:=m.Be-m.Bf) (by omega) (by omega)]
  cases hb:((!((decide (m.Be>=(0:Int)))==(decide (m.Bf>=(0:Int)))))&&(!((decide (m.Be-m.Bf>=(0:Int)))==(decide (m.Be>=(0:Int)))))) with
  |false=>rfl
  |true=>
   simp only [D06,D1k,D1O,ne_eq] at hb;obtain ⟨g1,g2⟩:=hb
   by_cases a1:m.Be>=0<;>by_cases a2:m.Bf>=0<;>by_cases a3:m.Be-m.Bf>=0<;>simp [a1,a2,a3] at g1 g2<;>omega
 have e2:B04 m.Be m.Bf=(m.Be-m.Bf,true):=by
  unfold B04;have:((decide (m.Bf<0)&&decide (m.Be>A2 (9223372036854775807+m.Bf)))||(decide (m.Bf>0)&&decide (m.Be<A2 (-9223372036854775808+m.Bf))))=false:=by
   by_cases g1:m.Bf<0
   ·rw [C6 (n:=9223372036854775807+m.Bf) (by omega) (by omega)]
    simp;omega
   ·by_cases g2:m.Bf>0
    ·rw [C6 (n:= -9223372036854775808+m.Bf) (by omega) (by omega)]
     simp;omega
    ·simp;omega
  rw [this,D01,C6]<;>omega
 unfold A2R Q2;rw [e2];simp only [e1,D02]
 rfl
theorem B18 (w k c n:Int):A4w w k c n=true↔(1<=w/\w<=1048576)/\(1<=c/\c<=65536)/\(0<=n/\n<=16777216)/\(1<=k/\k<=64):=by
 unfold A4w;simp;omega
def A20 (w k c n:Int):Prop:=(1<=w/\w<=1048576)/\(1<=c/\c<=65536)/\(0<=n/\n<=16777216)/\(1<=k/\k<=64)
def C5a (x:C3):Prop:=(1<=x.Bd/\x.Bd<=4)/\A20 x.W x.K x.Cap x.Now/\A3B x.Av x.Bg x.Cap x.Now x.W (I7 x.Bd)/\
 ∀i,i<x.Av.length->(2<=i-> ¬G7 (el x.Av (i-2)) (el x.Av i) x.Bd x.K=true)/\
  (1<=i->(el x.Av i).Bg-(el x.Av (i-1)).Bg>1->G7 (el x.Av (i-1)) (el x.Av i) x.Bd x.K=true)
theorem A5p {l:List A7} {seq cap now w lo:Int} (hlo:-4096<=lo) (h:A3B l seq cap now w lo) {i:Nat} (hi:i<l.length):
  (1<=(el l i).Bg/\(el l i).Bg<=1099511627776)/\(-4096<=(el l i).Bf/\(el l i).Bf<=4096)/\(-4096<=(el l i).Be/\(el l i).Be<=4096):=by
 have h1:=h.2.1 i hi;unfold B1F mk1 mk2 at h1;have:=h.1;omega
theorem B1n (x:C3) (hl:x.Av.length<=maxLen):A1M x=some (vOf (C5a x)):=by
 unfold A1M;simp only []
 by_cases h1:(1<=x.Bd/\x.Bd<=4)/\A20 x.W x.K x.Cap x.Now
 ·have e1:X8 x.Bd x.W x.K x.Cap x.Now=true:=by
   unfold X8;simp only [(B18 _ _ _ _).2 h1.2,Bool.and_true,D06,D00];exact h1.1
  rw [e1,B5S _ _ _ _ _ _ hl];simp only [D1a,D1b,G8,D0Y,D1p]
  by_cases h2:A3B x.Av x.Bg x.Cap x.Now x.W (I7 x.Bd)
  ·rw [K9 h2,D1a,D01];unfold A8m;have H:=L1 (f:=fun s:Int=>A04 x s) x.Av.length (fun i=> ¬((2<=i-> ¬G7 (el x.Av (i-2)) (el x.Av i) x.Bd x.K=true)/\
     (1<=i->(el x.Av i).Bg-(el x.Av (i-1)).Bg>1->G7 (el x.Av (i-1)) (el x.Av i) x.Bd x.K=true))) 2 (some 0)
    (fun i hi _=>by
     unfold A04;rw [D03 (by omega:(i:Int)<(x.Av.length:Int)),D02,F8 hi,D0Y,O8 hi hl]
     simp only [];have key: ∀j,j+1=i->A2 ((el x.Av i).Bg-(el x.Av j).Bg)=(el x.Av i).Bg-(el x.Av j).Bg:=by
      intro j hj;have g1:=A5p (A7q _) h2 hi;have g2:=A5p (A7q _) h2 (show j<x.Av.length by omega)
      rw [C6]<;>omega
     have key1:1<=i->D2 x.Av (A2 ((i:Int)-1))=some (el x.Av (i-1)):=fun h=>by rw [A1w (by omega) (Nat.le_of_lt hi) hl,F8 (by omega)]
     have key2:2<=i->D2 x.Av (A2 ((i:Int)-2))=some (el x.Av (i-2)):=fun h=>by
      have:A2 ((i:Int)-2)=((i-2:Nat):Int):=by rw [I1] at hl;rw [C6]<;>omega
      rw [this,F8 (by omega)]
     by_cases g1:1<=i
     ·rw [D03 (by omega:(i:Int)>=1),key1 g1]
      simp only [G8,D0Y,D1z,key (i-1) (by omega)]
      by_cases g3:(el x.Av i).Bg-(el x.Av (i-1)).Bg>1
      ·simp only [g3,decide_true,G8,D0Y,D1z]
       by_cases g2:2<=i
       ·rw [D03 (by omega:(i:Int)>=2),key2 g2]
        simp only [G8,D0Y,D1z,A1n];refine J7 ?_;simp only [g1,g2,D09,D1k];cases G7 (el x.Av (i-2)) (el x.Av i) x.Bd x.K<;>cases G7 (el x.Av (i-1)) (el x.Av i) x.Bd x.K<;>simp
       ·rw [D05 (by omega: ¬(i:Int)>=2)]
        simp only [G2,D0Y,D1t,D01];refine J7 ?_;simp only [g1,g2,D1k];cases G7 (el x.Av (i-1)) (el x.Av i) x.Bd x.K<;>simp
      ·simp only [g3,decide_false,G2,D0Y,D1t,D01]
       by_cases g2:2<=i
       ·rw [D03 (by omega:(i:Int)>=2),key2 g2]
        simp only [G8,D0Y,D1z];refine J7 ?_;simp [g1,g2]
       ·rw [D05 (by omega: ¬(i:Int)>=2)]
        simp only [G2,D0Y,D1t,D01];exact ⟨fun h=>absurd ⟨fun h2=>absurd h2 g2,fun _ h3=>h3.elim⟩ h,fun _=>trivial⟩
     ·rw [D05 (by omega: ¬(i:Int)>=2),D05 (by omega: ¬(i:Int)>=1)]
      simp only [G2,D0Y,D1t,D01];exact ⟨fun h=>absurd ⟨fun h2=>absurd h2 (by omega),fun h3=>absurd h3 g1⟩ h,fun _=>trivial⟩)
    (fun _=>by
     unfold A04;rw [D05 (D1r _),D01])
   by_cases h3: ∀i,i<x.Av.length->((2<=i-> ¬G7 (el x.Av (i-2)) (el x.Av i) x.Bd x.K=true)/\
     (1<=i->(el x.Av i).Bg-(el x.Av (i-1)).Bg>1->G7 (el x.Av (i-1)) (el x.Av i) x.Bd x.K=true))
   ·rw [H.2 fun i hi hn=>hn (h3 i hi),N0];exact ⟨h1.1,h1.2,h2,h3⟩
   ·rw [H.1 (A0d h3),H3];exact fun h=>h3 h.2.2.2
  ·rw [I9 h2,H3 fun h=>h2 h.2.2.1]
   rfl
 ·have e1:X8 x.Bd x.W x.K x.Cap x.Now=false:=by
   rw [D1e];intro h;unfold X8 at h;simp only [D06,D00,B18] at h;exact h1 h
  rw [e1,H3 fun h=>h1 ⟨h.1,h.2.1⟩]
  rfl
theorem B2l (x:C3) (hl:x.Av.length<=maxLen):A2r x=some (vOf (C5a x)):=by
 unfold A2r;simp only []
 by_cases h1:(1<=x.Bd/\x.Bd<=4)/\A20 x.W x.K x.Cap x.Now
 ·have e1:P5 x.Bd=true:=by unfold P5;simp;exact h1.1
  have e2:H6 x.W x.Cap x.Now=true:=(P7 _ _ _).2 ⟨h1.2.1,h1.2.2.1,h1.2.2.2.1⟩;have e3:H9 x.K=true:=(O3 _).2 h1.2.2.2.2;rw [e1,e2,e3,B51 _ _ _ _ _ _ h1.1 h1.2.2.1.2 h1.2.2.2.1.2 hl];simp only [D1a,D1b,G8,D0Y,Bool.or_false,D1p]
  by_cases h2:A3B x.Av x.Bg x.Cap x.Now x.W (I7 x.Bd)
  ·rw [K9 h2,D1a,D01];unfold A8V;have H:=L1 (f:=fun s:Int=>A1z x s) x.Av.length (fun i=> ¬((2<=i-> ¬G7 (el x.Av (i-2)) (el x.Av i) x.Bd x.K=true)/\
     (1<=i->(el x.Av i).Bg-(el x.Av (i-1)).Bg>1->G7 (el x.Av (i-1)) (el x.Av i) x.Bd x.K=true))) 2 (some 0)
    (fun i hi _=>by
     unfold A1z;rw [D03 (by omega:(i:Int)<(x.Av.length:Int)),D02,F8 hi,D0Y,O8 hi hl]
     simp only [];have eof: ∀j,j<x.Av.length->Q2 (el x.Av j) x.Bd=A2R (el x.Av j) x.Bd:=by
      intro j hj;have g2:=A5p (A7q _) h2 hj;exact (C46 g2.2.1 g2.2.2 _).symm
     have near: ∀j,j<x.Av.length->decide (A2 (A2 (x.K+1)*Q2 (el x.Av i) x.Bd)>=A2 (x.K*Q2 (el x.Av j) x.Bd))=G7 (el x.Av j) (el x.Av i) x.Bd x.K:=by
      intro j hj;rw [eof i hi,eof j hj];rfl
     have nearN: ∀j,j<x.Av.length->decide (A2 (A2 (x.K+1)*Q2 (el x.Av i) x.Bd)<A2 (x.K*Q2 (el x.Av j) x.Bd))= !G7 (el x.Av j) (el x.Av i) x.Bd x.K:=by
      intro j hj;rw [<-near j hj,D1j,D1k,D00,D1f];omega
     have key: ∀j,j+1=i->A2 ((el x.Av j).Bg+1)=(el x.Av j).Bg+1:=by
      intro j hj;have g2:=A5p (A7q _) h2 (show j<x.Av.length by omega)
      rw [C6]<;>omega
     have key1:1<=i->D2 x.Av (A2 ((i:Int)-1))=some (el x.Av (i-1)):=fun h=>by rw [A1w (by omega) (Nat.le_of_lt hi) hl,F8 (by omega)]
     have key2:2<=i->D2 x.Av (A2 ((i:Int)-2))=some (el x.Av (i-2)):=fun h=>by
      have:A2 ((i:Int)-2)=((i-2:Nat):Int):=by rw [I1] at hl;rw [C6]<;>omega
      rw [this,F8 (by omega)]
     by_cases g1:1<=i
     ·rw [D03 (by omega:(i:Int)>0),key1 g1]
      simp only [G8,D0Y,D1z,key (i-1) (by omega)]
      by_cases g3:(el x.Av i).Bg-(el x.Av (i-1)).Bg>1
      ·have g3' :(el x.Av i).Bg>(el x.Av (i-1)).Bg+1:=by omega
       simp only [g3,g3',decide_true,G8,D0Y,D1z,nearN (i-1) (by omega)]
       by_cases g2:2<=i
       ·rw [D03 (by omega:(i:Int)>1),key2 g2]
        simp only [G8,D0Y,D1z,A1n,near (i-2) (by omega)]
        refine J7 ?_;simp only [g1,g2,D09,D1k];cases G7 (el x.Av (i-2)) (el x.Av i) x.Bd x.K<;>cases G7 (el x.Av (i-1)) (el x.Av i) x.Bd x.K<;>simp
       ·rw [D05 (by omega: ¬(i:Int)>1)]
        simp only [G2,D0Y,D1t,D01];refine J7 ?_;simp only [g1,g2,D1k];cases G7 (el x.Av (i-1)) (el x.Av i) x.Bd x.K<;>simp
      ·have g3' : ¬(el x.Av i).Bg>(el x.Av (i-1)).Bg+1:=by omega
       simp only [g3,g3',decide_false,G2,D0Y,D1t,D01]
       by_cases g2:2<=i
       ·rw [D03 (by omega:(i:Int)>1),key2 g2]
        simp only [G8,D0Y,D1z,near (i-2) (by omega)]
        refine J7 ?_;simp [g1,g2]
       ·rw [D05 (by omega: ¬(i:Int)>1)]
        simp only [G2,D0Y,D1t,D01];exact ⟨fun h=>absurd ⟨fun h2=>absurd h2 g2,fun _ h3=>h3.elim⟩ h,fun _=>trivial⟩
     ·rw [D05 (by omega: ¬(i:Int)>1),D05 (by omega: ¬(i:Int)>0)]
      simp only [G2,D0Y,D1t,D01];exact ⟨fun h=>absurd ⟨fun h2=>absurd h2 (by omega),fun h3=>absurd h3 g1⟩ h,fun _=>trivial⟩)
    (fun _=>by
     unfold A1z;rw [D05 (D1r _),D01])
   by_cases h3: ∀i,i<x.Av.length->((2<=i-> ¬G7 (el x.Av (i-2)) (el x.Av i) x.Bd x.K=true)/\
     (1<=i->(el x.Av i).Bg-(el x.Av (i-1)).Bg>1->G7 (el x.Av (i-1)) (el x.Av i) x.Bd x.K=true))
   ·rw [H.2 fun i hi hn=>hn (h3 i hi),N0];exact ⟨h1.1,h1.2,h2,h3⟩
   ·rw [H.1 (A0d h3),H3];exact fun h=>h3 h.2.2.2
  ·rw [I9 h2,H3 fun h=>h2 h.2.2.1]
   rfl
 ·have e1:((!P5 x.Bd|| !H6 x.W x.Cap x.Now)|| !H9 x.K)=true:=by
   rw [D09,D09,D1k,D1k,D1k,D1e,D1e,D1e,Ne,Ne,Ne,P7,O3];unfold P5;unfold A20 at h1;simp only [D06,D00];omega
  rw [e1,H3 fun h=>h1 ⟨h.1,h.2.1⟩]
  rfl
theorem C35 (l:List A7) (hl:l.length<=maxLen):U7 l l=some true:=by
 unfold U7;rw [D1B,D01];unfold A4d;refine (L1 (f:=fun s:Int=>W5 l l s) l.length (fun _=>False) false (some true) (fun i hi _=>⟨fun h=>h.elim,fun _=> ?_⟩) (fun _=> ?_)).2 fun _ _ h=>h
 ·unfold W5;rw [D03 (by omega:(i:Int)<(l.length:Int)),D02,F8 hi]
  simp [O8 hi hl]
 ·unfold W5;rw [D05 (D1r _),D01]
theorem B58 (x:C3) (hl:x.Av.length<=maxLen):A4O x x=some true:=by
 unfold A4O;simp [C35 _ hl]
theorem B59 (x:C4) (hl:x.Av.length<=maxLen):A4P x x=some true:=by
 unfold A4P;simp [C35 _ hl]
end Go.Win
namespace Go.Win
open Go.Vc Go.Dec
theorem B7N {n:Int} (h:E7 .u64 n):0<=n/\n<18446744073709551616:=by
 simp [E7,Lit.wf,IntKind.min,IntKind.max,IntKind.signed,IntKind.bits] at h;omega
theorem B2M:U8=S9:=rfl
def A0V (m:A7):Prop:=(1<=m.N/\m.N<=65536)/\(-(m.N*4096)<=m.S/\m.S<=m.N*4096)/\(0<=m.Q/\m.Q<=m.N*16777216)/\m.S*m.S<=m.N*m.Q
theorem B1j {m:A7} (h1:1<=m.N/\m.N<=65536) (h2:-(m.N*4096)<=m.S/\m.S<=m.N*4096) (h3:0<=m.Q/\m.Q<=m.N*16777216):
  (0<=m.S*m.S/\m.S*m.S<=72057594037927936)/\(0<=m.N*m.Q/\m.N*m.Q<=72057594037927936):=by
 have e2:(m.S.natAbs:Int)*m.S.natAbs=m.S*m.S:=Int.natAbs_mul_self;have h6:m.S.natAbs*m.S.natAbs<=268435456*268435456:=Nat.mul_le_mul (by omega) (by omega)
 have h7:((m.S.natAbs*m.S.natAbs:Nat):Int)=(m.S.natAbs:Int)*m.S.natAbs:=by rw [Int.natCast_mul]
 have hq:m.N*m.Q<=65536*1099511627776:=Int.mul_le_mul h1.2 (by omega) h3.1 (by omega)
 have hq0:0<=m.N*m.Q:=Int.mul_nonneg (by omega) h3.1
 omega
theorem A2N (m:A7):Y6 m=true↔A0V m:=by
 unfold Y6 A0V
 by_cases h1:1<=m.N/\m.N<=65536
 ·have e0:IntKind.i64.wrap (0-m.N)= -m.N:=by
   show A2 (0-m.N)=_;rw [C6]<;>omega
  rw [e0,C6 (n:= -m.N*4096) (by omega) (by omega),C6 (n:=m.N*4096) (by omega) (by omega),C6 (n:=m.N*4096*4096) (by omega) (by omega)]
  simp only [D06,D00];constructor
  ·rintro ⟨⟨⟨⟨⟨_,h2⟩,h3⟩,h4⟩,h5⟩,h6⟩;have:=B1j h1 (by omega) (by omega)
   rw [C6 (by omega) (by omega),C6 (by omega) (by omega)] at h6
   exact ⟨h1,by omega,by omega,h6⟩
  ·rintro ⟨_,h2,h3,h4⟩;have:=B1j h1 h2 h3;rw [C6 (n:=m.S*m.S) (by omega) (by omega),C6 (n:=m.N*m.Q) (by omega) (by omega)]
   exact ⟨⟨⟨⟨⟨by omega,by omega⟩,by omega⟩,by omega⟩,by omega⟩,h4⟩
 ·simp only [D06,D00];constructor
  ·rintro ⟨⟨⟨⟨⟨h,_⟩,_⟩,_⟩,_⟩,_⟩;exact absurd h h1
  ·rintro ⟨h,_⟩;exact absurd h h1
theorem C7O (m:A7):A4j m=Y6 m:=by
 unfold A4j Y6;cases h:((((((decide (m.N<(1:Int)))||(decide (m.N>(65536:Int))))||(decide (m.S<(A2 ((IntKind.i64.wrap (0-m.N))*(4096:Int))))))||(decide (m.S>(A2 (m.N*(4096:Int))))))||(decide (m.Q<(0:Int))))||(decide (m.Q>(A2 ((A2 (m.N*(4096:Int)))*(4096:Int)))))) with
 |true=>
  rw [D02]
  symm
  rw [D1e];intro h2;simp only [D09,D00] at h;simp only [D06,D00] at h2;omega
 |false=>
  rw [D01];simp only [D1y,D1f] at h;rw [D1j];simp only [D06,D00];omega
theorem B9q {a b:C1} (ha:N6 a) (hb:N6 b) (h:wv a*wv b<340282366920938463463374607431768211456):A00 a b=some (ofW (wv a*wv b),true):=by
 rw [A7H ha hb,if_pos h]
def A0A (m:A7):Int:=m.N*m.Q-m.S*m.S
theorem B5r {m:A7} (h:A0V m):0<=A0A m/\A0A m<=72057594037927936:=by
 have:=B1j h.1 h.2.1 h.2.2.1;have h4:=h.2.2.2;unfold A0A;omega
theorem C2c {m:A7} (h:A0V m):A0y m=A0A m:=by
 have:=B1j h.1 h.2.1 h.2.2.1;have h4:=h.2.2.2;unfold A0y A0A;rw [C6 (n:=m.N*m.Q) (by omega) (by omega),C6 (n:=m.S*m.S) (by omega) (by omega),C6]<;>omega
theorem A18 {n:Int} (h0:0<=n) (h1:n<18446744073709551616):F9 n=n:=by rw [B2F];omega
def U1 (a b:A7) (k:Int):Prop:=A0V a/\A0V b/\(1<=k/\k<=64)/\ ¬6*k*b.N<(6*k-1)*a.N/\A0A a*b.N*(6*k-1)<=A0A b*a.N*(6*k)
theorem A1c {a b A B:Int} (h1:0<=a/\a<=A) (h2:0<=b/\b<=B):0<=a*b/\a*b<=A*B:=
 ⟨Int.mul_nonneg h1.1 h2.1,Int.mul_le_mul h1.2 h2.2 h2.1 (Int.le_trans h1.1 h1.2)⟩
theorem A9t {x y:Int} (hx:0<=x/\x<18446744073709551616) (hy:0<=y/\y<18446744073709551616):N6 (L5 x y)/\wv (L5 x y)=x*y:=by
 rw [A4z hx hy];have:=A9y hx hy;exact ⟨A38 this.1 this.2,B2G _⟩
theorem C2s {n:Int} (h:0<=n/\n<18446744073709551616):N6 (K3 n)/\wv (K3 n)=n:=by
 refine ⟨A9a h, ?_⟩;show 0*18446744073709551616+n=n;omega
theorem B45 (a b:A7) (k:Int):A4i a b k=some (L6 (U1 a b k)):=by
 unfold A4i;simp only [C7O]
 by_cases h1:A0V a/\A0V b/\(1<=k/\k<=64)
 ·obtain ⟨ha,hb,hk⟩:=h1;rw [(A2N a).2 ha,(A2N b).2 hb];have e:(((!true|| !true)||decide (k<1))||decide (k>64))=false:=by simp;omega
  rw [e,D01];have ea:=ha.1;have eb:=hb.1;have n1:=A1c (a:=6*k) (A:=384) (b:=b.N) (B:=65536) (by omega) (by omega)
  have n2:=A1c (a:=6*k-1) (A:=383) (b:=a.N) (B:=65536) (by omega) (by omega)
  rw [C6 (n:=6*k) (by omega) (by omega),C6 (n:=6*k-1) (by omega) (by omega),C6 (n:=6*k*b.N) (by omega) (by omega),C6 (n:=(6*k-1)*a.N) (by omega) (by omega)]
  by_cases h2:6*k*b.N<(6*k-1)*a.N
  ·rw [D03 h2,D02,I9 fun h=>h.2.2.2.1 h2]
  ·have ta:=B5r ha;have tb:=B5r hb;rw [D05 h2,D01,C2c ha,C2c hb,A18 (n:=A0A b) (by omega) (by omega),A18 (n:=A0A a) (by omega) (by omega),A18 (n:=a.N) (by omega) (by omega),A18 (n:=b.N) (by omega) (by omega),
    A18 (n:=6*k) (by omega) (by omega),A18 (n:=6*k-1) (by omega) (by omega),B5c,B5v]
   have x1:=A9t (x:=A0A b) (y:=a.N) (by omega) (by omega)
   have x2:=C2s (n:=6*k) (by omega)
   have y1:=A9t (x:=A0A a) (y:=b.N) (by omega) (by omega)
   have y2:=C2s (n:=6*k-1) (by omega)
   have m1:=A1c (a:=A0A b) (b:=a.N) (A:=72057594037927936) (B:=65536) tb (by omega)
   have m2:=A1c (a:=A0A a) (b:=b.N) (A:=72057594037927936) (B:=65536) ta (by omega)
   have m3:=A1c (a:=A0A b*a.N) (b:=6*k) (B:=384) m1 (by omega)
   have m4:=A1c (a:=A0A a*b.N) (b:=6*k-1) (B:=383) m2 (by omega)
   rw [B9q x1.1 x2.1 (by rw [x1.2,x2.2];omega),D0Y,B9q y1.1 y2.1 (by rw [y1.2,y2.2];omega),D0Y,x1.2,x2.2,y1.2,y2.2]
   rw [A67 (A38 m3.1 (by omega)) (A38 m4.1 (by omega)),B2G,B2G]
   congr 1
   rw [D1j,H0,D00];unfold U1;constructor
   ·intro h;refine ⟨ha,hb,hk,h2, ?_⟩;split at h
    ·omega
    ·split at h<;>omega
   ·rintro ⟨_,_,_,_,h⟩;split
    ·omega
    ·split<;>omega
 ·have e:(((!Y6 a|| !Y6 b)||decide (k<1))||decide (k>64))=true:=by
   rw [D09,D09,D09,D1k,D1k,D1e,D1e,Ne,Ne,A2N,A2N,D00,D00]
   by_cases g1:A0V a
   ·by_cases g2:A0V b
    ·have: ¬(1<=k/\k<=64):=fun h=>h1 ⟨g1,g2,h⟩;omega
    ·exact .inl (.inl (.inr g2))
   ·exact .inl (.inl (.inl g1))
  rw [e,D02,I9 fun h=>h1 ⟨h.1,h.2.1,h.2.2.1⟩]
theorem B52 (a b:A7) (k:Int):A5t a b k=L6 (U1 a b k):=by
 unfold A5t;simp only []
 by_cases h1:A0V a/\A0V b/\(1<=k/\k<=64)
 ·obtain ⟨ha,hb,hk⟩:=h1;rw [(A2N a).2 ha,(A2N b).2 hb,(O3 k).2 hk];have ea:=ha.1;have eb:=hb.1;have n1:=A1c (a:=6*k) (A:=384) (b:=b.N) (B:=65536) (by omega) (by omega)
  have n2:=A1c (a:=6*k-1) (A:=383) (b:=a.N) (B:=65536) (by omega) (by omega)
  have n3:=A1c (a:=6*k) (A:=384) (b:=a.N) (B:=65536) (by omega) (by omega)
  have n4:=A1c (a:=6*k-1) (A:=383) (b:=b.N) (B:=65536) (by omega) (by omega)
  rw [C6 (n:=6*k) (by omega) (by omega),C6 (n:=6*k-1) (by omega) (by omega),C6 (n:=6*k*b.N) (by omega) (by omega),C6 (n:=(6*k-1)*a.N) (by omega) (by omega),
   C6 (n:=6*k*a.N) (by omega) (by omega),C6 (n:=(6*k-1)*b.N) (by omega) (by omega)]
  by_cases h2:6*k*b.N<(6*k-1)*a.N
  ·rw [D03 h2,I9 fun h=>h.2.2.2.1 h2];rfl
  ·have ta:=B5r ha;have tb:=B5r hb;rw [D05 h2];have et: ∀m,A0V m->A2 (A2 (m.N*m.Q)-A2 (m.S*m.S))=A0A m:=fun m hm=>C2c hm;have ec:(((!true|| !true)|| !true)||false)=false:=rfl
   rw [ec,D01,et a ha,et b hb,A18 (n:=A0A b) (by omega) (by omega),A18 (n:=A0A a) (by omega) (by omega),A18 (n:=6*k*a.N) (by omega) (by omega),A18 (n:=(6*k-1)*b.N) (by omega) (by omega)]
   have x1:=A9t (x:=A0A b) (y:=6*k*a.N) (by omega) (by omega)
   have y1:=A9t (x:=A0A a) (y:=(6*k-1)*b.N) (by omega) (by omega)
   rw [<-B2M,A67 x1.1 y1.1,x1.2,y1.2];have q1:A0A b*(6*k*a.N)=A0A b*a.N*(6*k):=by rw [Int.mul_comm (6*k) a.N,Int.mul_assoc]
   have q2:A0A a*((6*k-1)*b.N)=A0A a*b.N*(6*k-1):=by rw [Int.mul_comm (6*k-1) b.N,Int.mul_assoc]
   rw [q1,q2,D1j,H0,D00];unfold U1;constructor
   ·intro h;refine ⟨ha,hb,hk,h2, ?_⟩;split at h
    ·omega
    ·split at h<;>omega
   ·rintro ⟨_,_,_,_,h⟩;split
    ·omega
    ·split<;>omega
 ·have e:((!Y6 a|| !Y6 b)|| !H9 k)=true:=by
   rw [D09,D09,D1k,D1k,D1k,D1e,D1e,D1e,Ne,Ne,Ne,A2N,A2N,O3]
   by_cases g1:A0V a
   ·by_cases g2:A0V b
    ·exact .inr fun h=>h1 ⟨g1,g2,h⟩
    ·exact .inl (.inr g2)
   ·exact .inl (.inl g1)
  rw [e,I9 fun h=>h1 ⟨h.1,h.2.1,h.2.2.1⟩]
  rfl
def C5b (x:C4):Prop:=A20 x.W x.K x.Cap x.Now/\A3B x.Av x.Bg x.Cap x.Now x.W (-4096)/\
 ∀i,2<=i->i<x.Av.length-> ¬U1 (el x.Av (i-2)) (el x.Av i) x.K
theorem C1v {R:Type} {f:Int->Option (Int⊕R)} (n:Nat) (bad:Nat->Prop) (E:R) (A:Option R)
  (hs:∀i:Nat,2<=i->i<n->(bad i->f (i:Int)=some (.inr E))/\(¬bad i->f (i:Int)=some (.inl ((i+1:Nat):Int))))
  (hd:∀i:Nat,n<=i->f (i:Int)=Option.map Sum.inr A):
  ((∃i,2<=i/\i<n/\bad i)->loop f 2=some E)/\((∀i,2<=i->i<n-> ¬bad i)->loop f 2=A):=by
 by_cases h:2<=n
 ·exact V1 (f:=f) (fun i=>(i:Int)) 2 n h bad E A (fun i h1 h2 _=>hs i h1 h2) (fun _=>hd n (D1G _))
 ·refine ⟨fun ⟨i,h1,h2,_⟩=>by omega,fun _=> ?_⟩
  have:=hd 2 (by omega)
  rw [O6];rw [show ((2:Nat):Int)=2 from rfl] at this;rw [this];cases A<;>rfl
theorem B1o (x:C4) (hl:x.Av.length<=maxLen):A1N x=some (vOf (C5b x)):=by
 unfold A1N;simp only []
 by_cases h1:A20 x.W x.K x.Cap x.Now
 ·rw [(B18 _ _ _ _).2 h1,B5S _ _ _ _ _ _ hl];simp only [D1a,D1b,G8,D0Y,D1p]
  by_cases h2:A3B x.Av x.Bg x.Cap x.Now x.W (-4096)
  ·rw [K9 h2,D1a,D01];unfold A8n;have H:=C1v (f:=fun s:Int=>A05 x s) x.Av.length (fun i=>U1 (el x.Av (i-2)) (el x.Av i) x.K) 2 (some 0)
    (fun i h2 hi=>by
     unfold A05;have:A2 ((i:Int)-2)=((i-2:Nat):Int):=by rw [I1] at hl;rw [C6]<;>omega
     rw [D03 (by omega:(i:Int)<(x.Av.length:Int)),D02,this,F8 hi,F8 (by omega),D0Y,D0Y,B45,D0Y,O8 hi hl]
     exact J7 H0)
    (fun i hi=>by
     unfold A05;rw [D05 (by omega: ¬(i:Int)<(x.Av.length:Int)),D01])
   by_cases h3: ∀i,2<=i->i<x.Av.length-> ¬U1 (el x.Av (i-2)) (el x.Av i) x.K
   ·rw [H.2 h3,N0 ⟨h1,h2,h3⟩]
   ·rw [H.1,H3 fun h=>h3 h.2.2];exact D1T fun hn=>h3 fun i a b c=>hn ⟨i,a,b,c⟩
  ·rw [I9 h2,H3 fun h=>h2 h.2.1]
   rfl
 ·rw [D1e.2 fun h=>h1 ((B18 _ _ _ _).1 h),H3 fun h=>h1 h.1]
  rfl
theorem B2m (x:C4) (hl:x.Av.length<=maxLen):A2s x=some (vOf (C5b x)):=by
 unfold A2s;simp only []
 by_cases h1:A20 x.W x.K x.Cap x.Now
 ·have e2:H6 x.W x.Cap x.Now=true:=(P7 _ _ _).2 ⟨h1.1,h1.2.1,h1.2.2.1⟩;have e3:H9 x.K=true:=(O3 _).2 h1.2.2.2;have e4:I7 4= -4096:=rfl;rw [e2,e3,B51 _ _ _ _ _ _ (by decide) h1.2.1.2 h1.2.2.1.2 hl,e4]
  simp only [D1a,D1b,G8,D0Y,Bool.or_false,D1p]
  by_cases h2:A3B x.Av x.Bg x.Cap x.Now x.W (-4096)
  ·rw [K9 h2,D1a,D01];unfold A8W;have H:=C1v (f:=fun s:Int=>A1A x s) x.Av.length (fun i=>U1 (el x.Av (i-2)) (el x.Av i) x.K) 2 (some 0)
    (fun i h2 hi=>by
     unfold A1A;have:A2 ((i:Int)-2)=((i-2:Nat):Int):=by rw [I1] at hl;rw [C6]<;>omega
     rw [D03 (by omega:(i:Int)<(x.Av.length:Int)),D02,this,F8 hi,F8 (by omega),D0Y,D0Y]
     simp only [B52,O8 hi hl];exact J7 H0)
    (fun i hi=>by
     unfold A1A;rw [D05 (by omega: ¬(i:Int)<(x.Av.length:Int)),D01])
   by_cases h3: ∀i,2<=i->i<x.Av.length-> ¬U1 (el x.Av (i-2)) (el x.Av i) x.K
   ·rw [H.2 h3,N0 ⟨h1,h2,h3⟩]
   ·rw [H.1,H3 fun h=>h3 h.2.2];exact D1T fun hn=>h3 fun i a b c=>hn ⟨i,a,b,c⟩
  ·rw [I9 h2,H3 fun h=>h2 h.2.1]
   rfl
 ·have e1:(!H6 x.W x.Cap x.Now|| !H9 x.K)=true:=by
   rw [D09,D1k,D1k,D1e,D1e,Ne,Ne,P7,O3];unfold A20 at h1;omega
  rw [e1,H3 fun h=>h1 h.1]
  rfl
def C48 (x:D3):Prop:=((0<=x.P/\x.P<=4)/\(0<=x.Now/\x.Now<=16777216)/\(0<=x.Ay/\x.Ay<=x.Now)/\(x.Ae.length:Int)=x.P+1)/\
 ∀i:Nat,1<=i->(i:Int)<=x.P->wv (el x.Ae (i-1))<=wv (el x.Ae i)/\
  (wv (el x.Ae (i-1))*(x.Now-x.Ay+1)<340282366920938463463374607431768211456->wv (el x.Ae i)<=wv (el x.Ae (i-1))*(x.Now-x.Ay+1))
theorem B01 (x:D3):((((((decide (x.P<(0:Int)))||(decide (x.P>(4:Int))))||(!(F4 x.Now)))||(decide (x.Ay<(0:Int))))||(decide (x.Ay>x.Now)))||((x.Ae.length:Int) !=(A2 (x.P+(1:Int)))))=true↔
  ¬((0<=x.P/\x.P<=4)/\(0<=x.Now/\x.Now<=16777216)/\(0<=x.Ay/\x.Ay<=x.Now)/\(x.Ae.length:Int)=x.P+1):=by
 simp only [D09,D00,D1k,bne_iff_ne];rw [D1e,Ne,T6]
 by_cases h:0<=x.P/\x.P<=4
 ·rw [C6 (by omega) (by omega)];omega
 ·omega
theorem C1u {R:Type} {f:Int->Option (Int⊕R)} (P:Nat) (bad:Nat->Prop) (E:R) (A:Option R)
  (hs:∀i:Nat,1<=i->i<=P->(bad i->f (i:Int)=some (.inr E))/\(¬bad i->f (i:Int)=some (.inl ((i+1:Nat):Int))))
  (hd:f ((P+1:Nat):Int)=Option.map Sum.inr A):
  ((∃i,1<=i/\i<=P/\bad i)->loop f 1=some E)/\((∀i,1<=i->i<=P-> ¬bad i)->loop f 1=A):=by
 have:=V1 (f:=f) (fun i=>(i:Int)) 1 (P+1) (by omega) bad E A (fun i h1 h2 _=>hs i h1 (by omega)) (fun _=>hd)
 exact ⟨fun ⟨i,h1,h2,h3⟩=>this.1 ⟨i,h1,by omega,h3⟩,fun h=>this.2 fun i h1 h2=>h i h1 (by omega)⟩
theorem C5W {a b:C1} (ha:N6 a) (hb:N6 b):decide (S9 a b>0)=decide (wv b<wv a):=by
 rw [<-B2M,A67 ha hb,D1j,D00,D00];split
 ·omega
 ·split<;>omega
theorem C9q {a b:C1} (ha:N6 a) (hb:N6 b):decide (S9 a b<0)=decide (wv a<wv b):=by
 rw [<-B2M,A67 ha hb,D1j,D00,D00];split
 ·omega
 ·split<;>omega
theorem C4k {a b:C1} (ha:N6 a) (hb:N6 b):decide (U8 a b>0)=decide (wv b<wv a):=C5W ha hb
def B5f (x:D3) (i:Nat):Prop:= ¬(wv (el x.Ae (i-1))<=wv (el x.Ae i)/\
  (wv (el x.Ae (i-1))*(x.Now-x.Ay+1)<340282366920938463463374607431768211456->wv (el x.Ae i)<=wv (el x.Ae (i-1))*(x.Now-x.Ay+1)))
theorem C1R {x:D3} (h1:(0<=x.P/\x.P<=4)/\(0<=x.Now/\x.Now<=16777216)/\(0<=x.Ay/\x.Ay<=x.Now)/\(x.Ae.length:Int)=x.P+1):
  N6 (K3 (F9 (A2 (A2 (x.Now-x.Ay)+1))))/\wv (K3 (F9 (A2 (A2 (x.Now-x.Ay)+1))))=x.Now-x.Ay+1:=by
 rw [C6 (n:=x.Now-x.Ay) (by omega) (by omega),C6 (by omega) (by omega),A18 (by omega) (by omega)]
 exact C2s (by omega)
theorem C1C {a b:C1} (ha:N6 a) (hb:N6 b): ∃r,A00 a b=some r/\A2P a b=some r/\r.2=decide (wv a*wv b<340282366920938463463374607431768211456)/\N6 r.1/\(r.2=true->wv r.1=wv a*wv b):=by
 by_cases h:wv a*wv b<340282366920938463463374607431768211456
 ·refine ⟨(ofW (wv a*wv b),true),by rw [A7H ha hb,if_pos h],by rw [B2v ha hb,if_pos h],(D03 h).symm,A38 (B4D ha hb) h,fun _=>B2G _⟩
 ·exact ⟨(⟨0,0⟩,false),by rw [A7H ha hb,if_neg h],by rw [B2v ha hb,if_neg h],(D05 h).symm,by unfold N6;simp,fun h=>by cases h⟩
theorem B3H (x:D3) (hw:∀w∈x.Ae,N6 w):A3j x=some (vOf (C48 x)):=by
 unfold A3j;have et:B02 x.Now=F4 x.Now:=rfl;simp only [et]
 by_cases h1:(0<=x.P/\x.P<=4)/\(0<=x.Now/\x.Now<=16777216)/\(0<=x.Ay/\x.Ay<=x.Now)/\(x.Ae.length:Int)=x.P+1
 ·rw [D1e.2 fun h=>(B01 x).1 h h1,D01];unfold B0d;have hp:x.P=(x.P.toNat:Int):=by omega
  have H:=C1u (f:=fun s:Int=>A10 x (Q5 (F9 (A2 (A2 (x.Now-x.Ay)+1)))) s) x.P.toNat (B5f x) 2 (some 0)
   (fun i g1 g2=>by
    unfold A10;have ew:A2 ((i:Int)-1)=((i-1:Nat):Int):=by rw [C6]<;>omega
    have es:A2 ((i:Int)+1)=((i+1:Nat):Int):=by rw [C6]<;>omega
    obtain ⟨o1,o2⟩:=C1R h1;have oi:=hw _ (A5l (show i<x.Ae.length by omega))
    have oj:=hw _ (A5l (show i-1<x.Ae.length by omega))
    obtain ⟨r,m1,m2,m3,m4,m5⟩:=C1C oj o1;rw [D03 (by omega:(i:Int)<=x.P),D02,ew,es,F8 (by omega),F8 (by omega),B5v]
    simp only [D0Y,m1,C4k oj oi];rw [o2] at m3 m5;unfold B5f
    by_cases q1:wv (el x.Ae (i-1))<=wv (el x.Ae i)
    ·rw [D05 (by omega),D01,m3]
     by_cases q2:wv (el x.Ae (i-1))*(x.Now-x.Ay+1)<340282366920938463463374607431768211456
     ·have q3:=m5 (by rw [m3];exact D03 q2)
      rw [D03 q2];simp only [G8,D0Y,D1z,C4k oi m4,q3];refine J7 ?_;rw [D00];simp only [q1,q2,true_and,true_implies,forall_const];omega
     ·rw [D05 q2];simp only [G2,D0Y,D1t,D01];exact ⟨fun h=>absurd ⟨q1,fun h=>absurd h q2⟩ h,fun _=>trivial⟩
    ·rw [D03 (by omega),D02]
     exact ⟨fun _=>rfl,fun h=>absurd (fun h2=>q1 h2.1) h⟩)
   (by
    unfold A10;rw [D05 (by omega),D01])
  by_cases h2: ∀i,1<=i->i<=x.P.toNat-> ¬B5f x i
  ·rw [H.2 h2,N0];exact ⟨h1,fun i a b=>D1T fun h=>h2 i a (by omega) h⟩
  ·rw [H.1,H3]
   ·exact fun h=>h2 fun i a b c=>c (h.2 i a (by omega))
   ·exact D1T fun hn=>h2 fun i a b c=>hn ⟨i,a,b,c⟩
 ·rw [(B01 x).2 h1,D02,H3 fun h=>h1 h.1]
theorem B2n (x:D3) (hw:∀w∈x.Ae,N6 w):A2t x=some (vOf (C48 x)):=by
 unfold A2t;simp only []
 by_cases h1:(0<=x.P/\x.P<=4)/\(0<=x.Now/\x.Now<=16777216)/\(0<=x.Ay/\x.Ay<=x.Now)/\(x.Ae.length:Int)=x.P+1
 ·rw [D1e.2 fun h=>(B01 x).1 h h1,D01];unfold A8X;have hp:x.P=(x.P.toNat:Int):=by omega
  have H:=C1u (f:=fun s:Int=>A1B x s) x.P.toNat (B5f x) 2 (some 0)
   (fun i g1 g2=>by
    unfold A1B;have ew:A2 ((i:Int)-1)=((i-1:Nat):Int):=by rw [C6]<;>omega
    have es:A2 ((i:Int)+1)=((i+1:Nat):Int):=by rw [C6]<;>omega
    obtain ⟨o1,o2⟩:=C1R h1;have oi:=hw _ (A5l (show i<x.Ae.length by omega))
    have oj:=hw _ (A5l (show i-1<x.Ae.length by omega))
    obtain ⟨r,m1,m2,m3,m4,m5⟩:=C1C oj o1;rw [D03 (by omega:(i:Int)<=x.P),D02,ew,es,F8 (by omega),F8 (by omega),D0Y]
    simp only [m2,D0Y,C9q oi oj];rw [o2] at m3 m5;unfold B5f
    by_cases q1:wv (el x.Ae (i-1))<=wv (el x.Ae i)
    ·rw [D05 (by omega),m3]
     by_cases q2:wv (el x.Ae (i-1))*(x.Now-x.Ay+1)<340282366920938463463374607431768211456
     ·have q3:=m5 (by rw [m3];exact D03 q2)
      rw [D03 q2];simp only [D1b,G8,D0Y,D1z,D1p,C5W oi m4,q3];refine J7 ?_;rw [D00];simp only [q1,q2,true_and,true_implies,forall_const];omega
     ·rw [D05 q2];simp only [D1b,Bool.and_false,G2,D0Y,D1t,Bool.or_false,D01];exact ⟨fun h=>absurd ⟨q1,fun h=>absurd h q2⟩ h,fun _=>trivial⟩
    ·rw [D03 (by omega)]
     simp only [D1a,D1t,G2,D0Y,D1I,D02];exact ⟨fun _=>trivial,fun h=>absurd (fun h2=>q1 h2.1) h⟩)
   (by
    unfold A1B;rw [D05 (by omega),D01])
  by_cases h2: ∀i,1<=i->i<=x.P.toNat-> ¬B5f x i
  ·rw [H.2 h2,N0];exact ⟨h1,fun i a b=>D1T fun h=>h2 i a (by omega) h⟩
  ·rw [H.1,H3]
   ·exact fun h=>h2 fun i a b c=>c (h.2 i a (by omega))
   ·exact D1T fun hn=>h2 fun i a b c=>hn ⟨i,a,b,c⟩
 ·rw [(B01 x).2 h1,D02,H3 fun h=>h1 h.1]
theorem C9h (l:List C1) (hl:l.length<=maxLen):A0E l l=some true:=by
 unfold A0E;rw [D1B,D01];unfold A5e;refine (L1 (f:=fun s:Int=>Y7 l l s) l.length (fun _=>False) false (some true) (fun i hi _=>⟨fun h=>h.elim,fun _=> ?_⟩) (fun _=> ?_)).2 fun _ _ h=>h
 ·unfold Y7;rw [D03 (by omega:(i:Int)<(l.length:Int)),D02,F8 hi]
  simp [O8 hi hl]
 ·unfold Y7;rw [D05 (D1r _),D01]
theorem B6a (x:D3) (hl:x.Ae.length<=maxLen):A4Q x x=some true:=by
 unfold A4Q;simp [C9h _ hl]
def C47 (x:E5):Prop:=((1<=(x.Bc.length:Int)/\(x.Bc.length:Int)<=64)/\(0<=x.Now/\x.Now<=16777216))/\
 ∀i,i<x.Bc.length->(0<=el x.Bc i/\el x.Bc i<=1099511627776)/\(x.Now<(i:Int)->el x.Bc i=0)
theorem B19 (x:E5) (hl:x.Bc.length<=maxLen):A2g x=some (vOf (C47 x)):=by
 unfold A2g
 by_cases h1:(1<=(x.Bc.length:Int)/\(x.Bc.length:Int)<=64)/\(0<=x.Now/\x.Now<=16777216)
 ·have e:((((decide ((x.Bc.length:Int)<(1:Int)))||(decide ((x.Bc.length:Int)>(64:Int))))||(decide (x.Now<(0:Int))))||(decide (x.Now>(16777216:Int))))=false:=by
   rw [D1e];simp only [D09,D00,Ne];omega
  rw [e,D01];unfold A8N;have H:=L1 (f:=fun s:Int=>A1q x s) x.Bc.length (fun i=> ¬((0<=el x.Bc i/\el x.Bc i<=1099511627776)/\(x.Now<(i:Int)->el x.Bc i=0))) 2 (some 0)
   (fun i hi _=>by
    unfold A1q;rw [D03 (by omega:(i:Int)<(x.Bc.length:Int)),D02,F8 hi,D0Y,O8 hi hl]
    refine J7 ?_;simp only [D09,D06,D00,bne_iff_ne];omega)
   (fun _=>by
    unfold A1q;rw [D05 (D1r _),D01])
  by_cases h2: ∀i,i<x.Bc.length->(0<=el x.Bc i/\el x.Bc i<=1099511627776)/\(x.Now<(i:Int)->el x.Bc i=0)
  ·rw [H.2 fun i hi hn=>hn (h2 i hi),N0 ⟨h1,h2⟩]
  ·rw [H.1 (A0d h2),H3 fun h=>h2 h.2]
 ·have e:((((decide ((x.Bc.length:Int)<(1:Int)))||(decide ((x.Bc.length:Int)>(64:Int))))||(decide (x.Now<(0:Int))))||(decide (x.Now>(16777216:Int))))=true:=by
   simp only [D09,D00];omega
  rw [e,D02,H3 fun h=>h1 h.1]
theorem B2o (x:E5) (hl:x.Bc.length<=maxLen):A2u x=some (vOf (C47 x)):=by
 unfold A2u;simp only []
 by_cases h1:(1<=(x.Bc.length:Int)/\(x.Bc.length:Int)<=64)/\(0<=x.Now/\x.Now<=16777216)
 ·have e:(((decide ((x.Bc.length:Int)<(1:Int)))||(decide ((x.Bc.length:Int)>(64:Int))))||(!(F4 x.Now)))=false:=by
   rw [(T6 _).2 h1.2,D1e];simp only [D09,D00,Ne,D1a,Bool.false_eq_true,or_false,false_or];omega
  rw [e,D01];unfold A8Y;have H:=L1 (f:=fun s:Int=>A1C x s) x.Bc.length (fun i=> ¬((0<=el x.Bc i/\el x.Bc i<=1099511627776)/\(x.Now<(i:Int)->el x.Bc i=0))) 2 (some 0)
   (fun i hi _=>by
    unfold A1C;rw [D03 (by omega:(i:Int)<(x.Bc.length:Int)),D02,F8 hi,D0Y,O8 hi hl]
    refine J7 ?_;simp only [D09,D06,D00,bne_iff_ne];omega)
   (fun _=>by
    unfold A1C;rw [D05 (D1r _),D01])
  by_cases h2: ∀i,i<x.Bc.length->(0<=el x.Bc i/\el x.Bc i<=1099511627776)/\(x.Now<(i:Int)->el x.Bc i=0)
  ·rw [H.2 fun i hi hn=>hn (h2 i hi),N0 ⟨h1,h2⟩]
  ·rw [H.1 (A0d h2),H3 fun h=>h2 h.2]
 ·have e:(((decide ((x.Bc.length:Int)<(1:Int)))||(decide ((x.Bc.length:Int)>(64:Int))))||(!(F4 x.Now)))=true:=by
   simp only [D09,D00,D1k];rw [D1e,Ne,T6];omega
  rw [e,D02,H3 fun h=>h1 h.1]
def C1G (x:B7):Prop:=(((1<=x.W/\x.W<=1048576)/\(1<=x.Cap/\x.Cap<=65536)/\(0<=x.Now/\x.Now<=16777216))/\(x.Ar.length:Int)<=x.Cap)/\
 ∀i,i<x.Ar.length->(F7 x.Now x.W (el x.Ar i).T=true/\ -4096<=(el x.Ar i).V/\(el x.Ar i).V<=4096)/\
  (1<=i->(el x.Ar (i-1)).T<(el x.Ar i).T/\O1 x.Be (el x.Ar i).V (el x.Ar (i-1)).V=false)
theorem B30 (m:Bool) (a b:Int):A0T m a b= !O1 m b a:=by
 cases m
 ·show (false||decide (a<b))= !decide (b<=a)
  rw [D1p,D1j];simp
 ·show (decide (a>b)||false)= !decide (b>=a)
  rw [Bool.or_false,D1j];simp
theorem C1y (a b c:Int):A34 a b c=H6 a b c:=by
 rw [D1j,P7];unfold A34;simp;omega
theorem A92 (x:B7) (hl:x.Ar.length<=maxLen):A0O x=some (vOf (C1G x)):=by
 unfold A0O;simp only [C1y]
 by_cases h1:((1<=x.W/\x.W<=1048576)/\(1<=x.Cap/\x.Cap<=65536)/\(0<=x.Now/\x.Now<=16777216))/\(x.Ar.length:Int)<=x.Cap
 ·rw [(P7 _ _ _).2 h1.1,D05 (by omega),D1a,D1p,D01]
  unfold A7c;have H:=L1 (f:=fun s:Int=>A0u x s) x.Ar.length (fun i=> ¬((F7 x.Now x.W (el x.Ar i).T=true/\ -4096<=(el x.Ar i).V/\(el x.Ar i).V<=4096)/\
    (1<=i->(el x.Ar (i-1)).T<(el x.Ar i).T/\O1 x.Be (el x.Ar i).V (el x.Ar (i-1)).V=false))) 2 (some 0)
   (fun i hi _=>by
    unfold A0u;rw [D03 (by omega:(i:Int)<(x.Ar.length:Int)),D02,F8 hi,D0Y,O8 hi hl]
    simp only [A9x]
    by_cases g1:F7 x.Now x.W (el x.Ar i).T=true/\ -4096<=(el x.Ar i).V/\(el x.Ar i).V<=4096
    ·have e:(((!(F7 x.Now x.W (el x.Ar i).T))||(decide ((el x.Ar i).V<(-4096:Int))))||(decide ((el x.Ar i).V>(4096:Int))))=false:=by
      rw [g1.1,D1e];simp only [D09,D00,Ne,D1a,Bool.false_eq_true,or_false,false_or];omega
     rw [e,D01];rcases i with _|i
     ·have e4:decide (((0:Nat):Int)>0)=false:=rfl;rw [e4];simp only [D1t,G2,D0Y,D01];exact ⟨fun h=>absurd ⟨g1,fun h=>absurd h (by decide)⟩ h,fun _=>trivial⟩
     ·have e4:decide (((i+1:Nat):Int)>0)=true:=D03 (by omega)
      rw [e4,A1w (by omega) (Nat.le_of_lt hi) hl,D1F,F8 (by omega)]
      simp only [G8,D0Y,D1z]
      by_cases g2:(el x.Ar i).T>=(el x.Ar (i+1)).T
      ·simp only [g2,decide_true,D1I,D1a,G2,D0Y,D02];refine ⟨fun _=>trivial,fun h=>absurd (fun h2=> ?_) h⟩;have:=(h2.2 (by omega)).1
       omega
      ·simp only [g2,decide_false,D1p,D1b,G8,D0Y];refine J7 ?_;simp only [g1,true_and,show 1<=i+1 from by omega,true_implies]
       have:(el x.Ar i).T<(el x.Ar (i+1)).T:=by omega
       simp [this]
    ·have e:(((!(F7 x.Now x.W (el x.Ar i).T))||(decide ((el x.Ar i).V<(-4096:Int))))||(decide ((el x.Ar i).V>(4096:Int))))=true:=by
      cases hv:F7 x.Now x.W (el x.Ar i).T with
      |false=>rfl
      |true=>rw [hv] at g1;simp only [true_and] at g1;simp only [D09,D00];omega
     rw [e,D02];exact ⟨fun _=>rfl,fun h=>absurd (fun h2=>g1 h2.1) h⟩)
   (fun _=>by
    unfold A0u;rw [D05 (D1r _),D01])
  by_cases h2: ∀i,i<x.Ar.length->(F7 x.Now x.W (el x.Ar i).T=true/\ -4096<=(el x.Ar i).V/\(el x.Ar i).V<=4096)/\
    (1<=i->(el x.Ar (i-1)).T<(el x.Ar i).T/\O1 x.Be (el x.Ar i).V (el x.Ar (i-1)).V=false)
  ·rw [H.2 fun i hi hn=>hn (h2 i hi),N0 ⟨h1,h2⟩]
  ·rw [H.1 (A0d h2),H3 fun h=>h2 h.2]
 ·have e:((!(H6 x.W x.Cap x.Now))||(decide ((x.Ar.length:Int)>x.Cap)))=true:=by
   rw [D09,D1k,D1e,Ne,P7,D00];omega
  rw [e,D02,H3 fun h=>h1 h.1]
theorem B2q (x:B7) (hl:x.Ar.length<=maxLen):A2x x=some (vOf (C1G x)):=by
 unfold A2x;simp only []
 by_cases h1:((1<=x.W/\x.W<=1048576)/\(1<=x.Cap/\x.Cap<=65536)/\(0<=x.Now/\x.Now<=16777216))/\(x.Ar.length:Int)<=x.Cap
 ·rw [(P7 _ _ _).2 h1.1,D05 (by omega),D1a,D1p,D01]
  unfold A8Z;have H:=L1 (f:=fun s:Int=>A1E x s) x.Ar.length (fun i=> ¬((F7 x.Now x.W (el x.Ar i).T=true/\ -4096<=(el x.Ar i).V/\(el x.Ar i).V<=4096)/\
    (1<=i->(el x.Ar (i-1)).T<(el x.Ar i).T/\O1 x.Be (el x.Ar i).V (el x.Ar (i-1)).V=false))) 2 (some 0)
   (fun i hi _=>by
    unfold A1E;rw [D03 (by omega:(i:Int)<(x.Ar.length:Int)),D02,F8 hi,D0Y,O8 hi hl]
    simp only [B30,Bool.not_not]
    by_cases g1:F7 x.Now x.W (el x.Ar i).T=true/\ -4096<=(el x.Ar i).V/\(el x.Ar i).V<=4096
    ·rw [g1.1,(O0 _).2 g1.2];rcases i with _|i
     ·have e4:decide (((0:Nat):Int)>0)=false:=rfl;rw [e4];simp only [D1a,Bool.or_false,D1b,Bool.and_false,D1t,G2,D0Y,D01];exact ⟨fun h=>absurd ⟨⟨trivial,g1.2⟩,fun h=>absurd h (by decide)⟩ h,fun _=>trivial⟩
     ·have e4:decide (((i+1:Nat):Int)>0)=true:=D03 (by omega)
      rw [e4,A1w (by omega) (Nat.le_of_lt hi) hl,D1F,F8 (by omega)]
      simp only [D1a,Bool.or_false,D1b,G8,D0Y,D1z,D1p]
      by_cases g2:(el x.Ar i).T>=(el x.Ar (i+1)).T
      ·simp only [g2,decide_true,D1I,D1a,G2,D0Y,D02];refine ⟨fun _=>trivial,fun h=>absurd (fun h2=> ?_) h⟩;have:=(h2.2 (by omega)).1
       omega
      ·simp only [g2,decide_false,D1p,D1b,G8,D0Y];refine J7 ?_;simp only [g1,true_and,show 1<=i+1 from by omega,true_implies]
       have:(el x.Ar i).T<(el x.Ar (i+1)).T:=by omega
       simp [this]
    ·have e:((!(F7 x.Now x.W (el x.Ar i).T))||(!(D8 (el x.Ar i).V)))=true:=by
      rw [D09,D1k,D1k,D1e,D1e,Ne,Ne,O0];exact D1T fun h=>g1 ⟨D1T fun h2=>h (.inl h2),D1T fun h2=>h (.inr h2)⟩
     rw [e];simp only [D1a,D1t,G2,D0Y,D1I,D02];exact ⟨fun _=>trivial,fun h=>absurd (fun h2=>g1 h2.1) h⟩)
   (fun _=>by
    unfold A1E;rw [D05 (D1r _),D01])
  by_cases h2: ∀i,i<x.Ar.length->(F7 x.Now x.W (el x.Ar i).T=true/\ -4096<=(el x.Ar i).V/\(el x.Ar i).V<=4096)/\
    (1<=i->(el x.Ar (i-1)).T<(el x.Ar i).T/\O1 x.Be (el x.Ar i).V (el x.Ar (i-1)).V=false)
  ·rw [H.2 fun i hi hn=>hn (h2 i hi),N0 ⟨h1,h2⟩]
  ·rw [H.1 (A0d h2),H3 fun h=>h2 h.2]
 ·have e:((!(H6 x.W x.Cap x.Now))||(decide ((x.Ar.length:Int)>x.Cap)))=true:=by
   rw [D09,D1k,D1e,Ne,P7,D00];omega
  rw [e,D02,H3 fun h=>h1 h.1]
theorem B6c (x:B7) (hl:x.Ar.length<=maxLen):A4S x x=some true:=by
 unfold A4S;simp [B7k _ hl]
end Go.Win
namespace Go.Win
open Go.Vc Go.Dec
def A6w (c:E4):Prop:=(1<=c.Ax/\c.Ax<=11)/\
 ((c.Ax=6\/c.Ax=10->c.W=0)/\(c.Ax=7->1<=c.W/\c.W<=64)/\(c.Ax≠6/\c.Ax≠10/\c.Ax≠7->1<=c.W/\c.W<=1048576))/\
 ((c.Ax=6\/c.Ax=7->c.Cap=0)/\(c.Ax=9->1<=c.Cap/\c.Cap<=64)/\(c.Ax=10->2<=c.Cap/\c.Cap<=65536)/\(c.Ax≠6/\c.Ax≠7/\c.Ax≠9/\c.Ax≠10->1<=c.Cap/\c.Cap<=65536))/\
 ((c.Ax=1\/c.Ax=6\/c.Ax=7\/c.Ax=8\/c.Ax=9->c.K=0)/\(c.Ax≠1/\c.Ax≠6/\c.Ax≠7/\c.Ax≠8/\c.Ax≠9->1<=c.K/\c.K<=64))/\
 ((c.Ax=4->1<=c.Bd/\c.Bd<=4)/\(c.Ax≠4->c.Bd=0))/\
 ((c.Ax=6->0<=c.P/\c.P<=4)/\(c.Ax≠6->c.P=0))/\
 ((c.Ax=9->1<=c.Ah/\c.Ah<=16)/\(c.Ax≠9->c.Ah=0))/\
 ((c.Ax=3->1<=c.Be/\c.Be<=1024)/\(c.Ax=8->0<=c.Be/\c.Be<=1)/\(c.Ax≠3/\c.Ax≠8->c.Be=0))
open Classical in
noncomputable def vCf (p:Prop):Int:=if p then 0 else 1
theorem C5u {p:Prop} (h:p):vCf p=0:=by unfold vCf;rw [if_pos h]
theorem B97 {p:Prop} (h:¬p):vCf p=1:=by unfold vCf;rw [if_neg h]
theorem C05 {b:Bool} {p:Prop} (h:b=true↔ ¬p):cond b (1:Int) 0=vCf p:=by
 cases b with
 |true=>rw [B97 (h.1 rfl)];rfl
 |false=>rw [C5u (D1T fun hn=>absurd (h.2 hn) (by decide))];rfl
theorem B0O (c:E4):Z5 c=vCf (A6w c):=by
 obtain ⟨k,agg,w,kk,cap,p,ch,mx⟩:=c
 by_cases hk:1<=k/\k<=11
 ·have:k=1\/k=2\/k=3\/k=4\/k=5\/k=6\/k=7\/k=8\/k=9\/k=10\/k=11:=by omega
  rcases this with h|h|h|h|h|h|h|h|h|h|h<;>subst h<;>
   simp only [Z5,S2,A1o,A01,Z6,Z7,Z8,Z9,A0a,A0b,A0c,
    C5,E8,B4,beq_self_eq_true,D1z,Bool.and_true,D02,D01,show ((1:Int)==2)=false from rfl,show ((1:Int)==3)=false from rfl,show ((1:Int)==4)=false from rfl,show ((1:Int)==5)=false from rfl,show ((1:Int)==6)=false from rfl,show ((1:Int)==7)=false from rfl,show ((1:Int)==8)=false from rfl,show ((1:Int)==9)=false from rfl,show ((1:Int)==10)=false from rfl,show ((1:Int)==11)=false from rfl,
    show ((2:Int)==3)=false from rfl,show ((2:Int)==4)=false from rfl,show ((2:Int)==6)=false from rfl,show ((2:Int)==7)=false from rfl,show ((2:Int)==9)=false from rfl,show ((2:Int)==10)=false from rfl,
    show ((3:Int)==6)=false from rfl,show ((3:Int)==7)=false from rfl,show ((3:Int)==9)=false from rfl,show ((3:Int)==10)=false from rfl,
    show ((4:Int)==3)=false from rfl,show ((4:Int)==6)=false from rfl,show ((4:Int)==7)=false from rfl,show ((4:Int)==9)=false from rfl,show ((4:Int)==10)=false from rfl,
    show ((5:Int)==2)=false from rfl,show ((5:Int)==3)=false from rfl,show ((5:Int)==4)=false from rfl,show ((5:Int)==6)=false from rfl,show ((5:Int)==7)=false from rfl,show ((5:Int)==9)=false from rfl,show ((5:Int)==10)=false from rfl,
    show ((7:Int)==6)=false from rfl,
    show ((8:Int)==2)=false from rfl,show ((8:Int)==3)=false from rfl,show ((8:Int)==4)=false from rfl,show ((8:Int)==5)=false from rfl,show ((8:Int)==6)=false from rfl,show ((8:Int)==7)=false from rfl,show ((8:Int)==9)=false from rfl,show ((8:Int)==10)=false from rfl,show ((8:Int)==11)=false from rfl,
    show ((9:Int)==6)=false from rfl,show ((9:Int)==7)=false from rfl,show ((10:Int)==6)=false from rfl,show ((10:Int)==7)=false from rfl,show ((10:Int)==9)=false from rfl,
    show ((11:Int)==2)=false from rfl,show ((11:Int)==3)=false from rfl,show ((11:Int)==4)=false from rfl,show ((11:Int)==5)=false from rfl,show ((11:Int)==6)=false from rfl,show ((11:Int)==7)=false from rfl,show ((11:Int)==9)=false from rfl,show ((11:Int)==10)=false from rfl,
    show (decide ((1048576:Int)>0))=true from rfl,show (decide ((64:Int)>0))=true from rfl,show (decide ((0:Int)>0))=false from rfl]<;>
   refine C05 ?_<;>unfold A6w<;>simp [-not_and,-Classical.not_imp]<;>omega
 ·rw [B97 fun h=>hk h.1];have e: ∀n:Int,1<=n->n<=11->(k==n)=false:=fun n h1 h2=>by rw [D1O];omega
  unfold Z5 S2;simp only [e 6 (by decide) (by decide),e 7 (by decide) (by decide),e 9 (by decide) (by decide),e 10 (by decide) (by decide),e 3 (by decide) (by decide),e 4 (by decide) (by decide),e 2 (by decide) (by decide),e 5 (by decide) (by decide),e 11 (by decide) (by decide),e 8 (by decide) (by decide),e 1 (by decide) (by decide),D01]
theorem B2u (c:E4):A0G c=vCf (A6w c):=by
 obtain ⟨k,agg,w,kk,cap,p,ch,mx⟩:=c;have emay:H6 w cap 0=true↔(1<=w/\w<=1048576)/\(1<=cap/\cap<=65536):=by rw [P7];omega
 have emk:=O3 kk;have eag:P5 agg=true↔1<=agg/\agg<=4:=by unfold P5;simp
 by_cases hk:1<=k/\k<=11
 ·have:k=1\/k=2\/k=3\/k=4\/k=5\/k=6\/k=7\/k=8\/k=9\/k=10\/k=11:=by omega
  rcases this with h|h|h|h|h|h|h|h|h|h|h<;>subst h<;>
   simp only [A0G,B1K,A2D,N2,A6X,A0h,beq_self_eq_true,D1z,Bool.and_true,D02,D01,show ((2:Int)==1)=false from rfl,show ((3:Int)==1)=false from rfl,show ((3:Int)==2)=false from rfl,show ((3:Int)==5)=false from rfl,show ((3:Int)==11)=false from rfl,
    show ((4:Int)==1)=false from rfl,show ((4:Int)==2)=false from rfl,show ((4:Int)==3)=false from rfl,show ((4:Int)==5)=false from rfl,show ((4:Int)==11)=false from rfl,
    show ((5:Int)==1)=false from rfl,show ((5:Int)==2)=false from rfl,
    show ((6:Int)==1)=false from rfl,show ((6:Int)==2)=false from rfl,show ((6:Int)==3)=false from rfl,show ((6:Int)==4)=false from rfl,show ((6:Int)==5)=false from rfl,show ((6:Int)==11)=false from rfl,
    show ((7:Int)==1)=false from rfl,show ((7:Int)==2)=false from rfl,show ((7:Int)==3)=false from rfl,show ((7:Int)==4)=false from rfl,show ((7:Int)==5)=false from rfl,show ((7:Int)==6)=false from rfl,show ((7:Int)==11)=false from rfl,
    show ((8:Int)==1)=false from rfl,show ((8:Int)==2)=false from rfl,show ((8:Int)==3)=false from rfl,show ((8:Int)==4)=false from rfl,show ((8:Int)==5)=false from rfl,show ((8:Int)==6)=false from rfl,show ((8:Int)==7)=false from rfl,show ((8:Int)==11)=false from rfl,
    show ((9:Int)==1)=false from rfl,show ((9:Int)==2)=false from rfl,show ((9:Int)==3)=false from rfl,show ((9:Int)==4)=false from rfl,show ((9:Int)==5)=false from rfl,show ((9:Int)==6)=false from rfl,show ((9:Int)==7)=false from rfl,show ((9:Int)==8)=false from rfl,show ((9:Int)==11)=false from rfl,
    show ((10:Int)==1)=false from rfl,show ((10:Int)==2)=false from rfl,show ((10:Int)==3)=false from rfl,show ((10:Int)==4)=false from rfl,show ((10:Int)==5)=false from rfl,show ((10:Int)==6)=false from rfl,show ((10:Int)==7)=false from rfl,show ((10:Int)==8)=false from rfl,show ((10:Int)==9)=false from rfl,show ((10:Int)==11)=false from rfl,
    show ((11:Int)==1)=false from rfl,show ((11:Int)==2)=false from rfl,show ((11:Int)==5)=false from rfl]<;>
   refine C05 ?_<;>unfold A6w<;>simp only [D09,D1k,D1P,D1y,D1O,D1f,ne_eq]<;>
   (try simp only [D1e,ne_eq,emay,emk,eag])<;>simp [-not_and,-Classical.not_imp]<;>omega
 ·rw [B97 fun h=>hk h.1];have e: ∀n:Int,1<=n->n<=11->(k==n)=false:=fun n h1 h2=>by rw [D1O];omega
  unfold A0G A6X A0h;simp only [e 6 (by decide) (by decide),e 7 (by decide) (by decide),e 9 (by decide) (by decide),e 10 (by decide) (by decide),e 3 (by decide) (by decide),e 4 (by decide) (by decide),e 2 (by decide) (by decide),e 5 (by decide) (by decide),e 11 (by decide) (by decide),e 8 (by decide) (by decide),e 1 (by decide) (by decide),D01,D1b,Bool.or_true,D02]
end Go.Win
namespace Go.Win
open Go.Vc Go.Dec
def Q6 (n k:Int):Int:=max 1 (n/k)
theorem C2a {n k:Int} (hn:0<=n) (hk:1<=k):Int.tdiv n k=n/k/\0<=n/k/\n/k<=n:=by
 refine ⟨Int.tdiv_eq_ediv_of_nonneg hn,Int.ediv_nonneg hn (by omega), ?_⟩
 exact Int.ediv_le_self k hn
theorem B8m {n k:Int} (hn:0<=n/\n<=1099511627776) (hk:1<=k):A2I n k=some (Q6 n k):=by
 obtain ⟨h1,h2,h3⟩:=C2a hn.1 hk;unfold A2I Q6;rw [D03 (by omega),R4,h1,C6 (by omega) (by omega)]
 congr 1
 show (if n/k>1 then n/k else 1)=max 1 (n/k)
 split<;>omega
theorem C9E {x:A8} (hn:0<=x.N/\x.N<=1099511627776) (hk:1<=x.K):A9z x=some (Q6 x.N x.K):=B8m hn hk
theorem B87 {n k:Int} (hn:0<=n/\n<=1099511627776) (hk:1<=k):1<=Q6 n k/\Q6 n k<=1099511627776/\(1<=n->Q6 n k<=n):=by
 obtain ⟨h1,h2,h3⟩:=C2a hn.1 hk;unfold Q6;omega
def R7 (l:List D4) (i:Nat):Int:=((l.take i).map (·.G)).sum
theorem B1q (l:List D4):R7 l 0=0:=by simp [R7]
theorem B1p {l:List D4} {i:Nat} (h:i<l.length):R7 l (i+1)=R7 l i+(el l i).G:=by
 unfold R7;rw [List.take_add_one,A7m h];simp
def B25 (l:List D4) (M:Int) (i:Nat):Prop:=(-4096<=(el l i).V/\(el l i).V<=4096)/\(1<=(el l i).G/\0<=(el l i).D/\(el l i).G+(el l i).D<=M)/\(1<=i->(el l (i-1)).V<=(el l i).V)
def A95 (x:A8):Prop:=(1<=x.K/\x.K<=64)/\(2<=x.Cap/\x.Cap<=65536)/\(0<=x.N/\x.N<=1099511627776)/\(x.Ao.length:Int)<=x.Cap
def C5c (x:A8):Prop:=A95 x/\(x.Ao.length=0↔x.N=0)/\(∀i,i<x.Ao.length->B25 x.Ao (Q6 x.N x.K) i)/\
 (0<x.Ao.length->(el x.Ao 0).G=1/\(el x.Ao 0).D=0/\(el x.Ao (x.Ao.length-1)).D=0/\R7 x.Ao x.Ao.length=x.N)
theorem C18 {l:List D4} {M:Int} (hM:M<=1099511627776) (hl:l.length<=65536): ∀i,i<=l.length->(∀j,j<i->B25 l M j)->(i:Int)<=R7 l i/\R7 l i<=i*1099511627776:=by
 intro i
 induction i with
 |zero=>intro _ _;rw [B1q];omega
 |succ i ih=>
  intro hi h;have h1:=ih (by omega) fun j hj=>h j (by omega)
  have h2:=(h i (by omega)).2.1
  rw [B1p (by omega)]
  omega
theorem B0s (x:A8):A0W x=some (vOf (C5c x)):=by
 unfold A0W
 by_cases h1:A95 x
 ·have h1' :=h1;unfold A95 at h1';have e:(((((((decide (x.K<(1:Int)))||(decide (x.K>(64:Int))))||(decide (x.Cap<(2:Int))))||(decide (x.Cap>(65536:Int))))||(decide (x.N<(0:Int))))||(decide (x.N>(1099511627776:Int))))||(decide ((x.Ao.length:Int)>x.Cap)))=false:=by
   rw [D1e];simp only [D09,D00,Ne];omega
  rw [e,D01];have hl:x.Ao.length<=65536:=by omega
  have hm:x.Ao.length<=maxLen:=by rw [I1];omega
  by_cases hN:x.N=0
  ·have eN:(x.N==0)=true:=by rw [hN];rfl
   rw [eN,D02]
   by_cases h0:0<x.Ao.length
   ·rw [D03 (by omega),D02,H3]
    intro h;have:=h.2.1;omega
   ·rw [D05 (by omega),D01,N0]
    exact ⟨h1,⟨fun _=>hN,fun _=>by omega⟩,fun i hi=>absurd hi (by omega),fun h=>absurd h h0⟩
  ·have eN:(x.N==0)=false:=by rw [D1O];exact hN
   rw [eN,D01]
   by_cases h0:0<x.Ao.length
   ·have e0:((x.Ao.length:Int)==0)=false:=by rw [D1O];omega
    rw [e0,D01,B8m h1'.2.2.1 h1'.1.1,D0Y];have hM:=B87 (n:=x.N) (k:=x.K) h1'.2.2.1 h1'.1.1;unfold A7f;have H:=V1 (f:=fun s:Int×Int=>A0z x (Q6 x.N x.K) s.1 s.2) (fun i=>(R7 x.Ao i,(i:Int))) 0 x.Ao.length (Nat.zero_le _) (fun i=> ¬B25 x.Ao (Q6 x.N x.K) i) 2
     (some (vOf ((el x.Ao 0).G=1/\(el x.Ao 0).D=0/\(el x.Ao (x.Ao.length-1)).D=0/\R7 x.Ao x.Ao.length=x.N)))
     (fun i _ hi hp=>by
      simp only [];unfold A0z;have hs:=C18 (l:=x.Ao) hM.2.1 hl i (by omega) fun j hj=>D1T fun hn=>hp j (Nat.zero_le _) hj hn
      rw [D03 (by omega:(i:Int)<(x.Ao.length:Int)),D02,F8 hi,D0Y,O8 hi hm]
      unfold B25
      by_cases g1: -4096<=(el x.Ao i).V/\(el x.Ao i).V<=4096
      ·have e1:(decide ((el x.Ao i).V< -4096)||decide ((el x.Ao i).V>4096))=false:=by simp;omega
       rw [e1];have key: ∀P:Prop,((((decide ((el x.Ao i).G<(1:Int)))||(decide ((el x.Ao i).D<(0:Int))))||(decide ((el x.Ao i).G>(Q6 x.N x.K))))||(decide ((el x.Ao i).D>(A2 ((Q6 x.N x.K)-(el x.Ao i).G)))))=true↔ ¬(1<=(el x.Ao i).G/\0<=(el x.Ao i).D/\(el x.Ao i).G+(el x.Ao i).D<=Q6 x.N x.K):=by
        intro _;simp only [D09,D00]
        by_cases q:1<=(el x.Ao i).G/\(el x.Ao i).G<=Q6 x.N x.K
        ·rw [C6 (by omega) (by omega)];omega
        ·omega
       have keyw:(1<=(el x.Ao i).G/\0<=(el x.Ao i).D/\(el x.Ao i).G+(el x.Ao i).D<=Q6 x.N x.K)->A2 (R7 x.Ao i+(el x.Ao i).G)=R7 x.Ao (i+1):=by
        intro q;rw [B1p hi,C6]<;>omega
       have fin: ∀(c1:Bool) (P1:Prop),(c1=true↔ ¬P1)->
         (¬((-4096<=(el x.Ao i).V/\(el x.Ao i).V<=4096)/\(1<=(el x.Ao i).G/\0<=(el x.Ao i).D/\(el x.Ao i).G+(el x.Ao i).D<=Q6 x.N x.K)/\P1)->
          (cond c1 (some (.inr 2)) (cond ((((decide ((el x.Ao i).G<(1:Int)))||(decide ((el x.Ao i).D<(0:Int))))||(decide ((el x.Ao i).G>(Q6 x.N x.K))))||(decide ((el x.Ao i).D>(A2 ((Q6 x.N x.K)-(el x.Ao i).G))))) (some (.inr 2)) (some (.inl (A2 (R7 x.Ao i+(el x.Ao i).G),((i+1:Nat):Int))))):Option ((Int×Int)⊕Int))=some (.inr 2))/\
         (¬ ¬((-4096<=(el x.Ao i).V/\(el x.Ao i).V<=4096)/\(1<=(el x.Ao i).G/\0<=(el x.Ao i).D/\(el x.Ao i).G+(el x.Ao i).D<=Q6 x.N x.K)/\P1)->
          (cond c1 (some (.inr 2)) (cond ((((decide ((el x.Ao i).G<(1:Int)))||(decide ((el x.Ao i).D<(0:Int))))||(decide ((el x.Ao i).G>(Q6 x.N x.K))))||(decide ((el x.Ao i).D>(A2 ((Q6 x.N x.K)-(el x.Ao i).G))))) (some (.inr 2)) (some (.inl (A2 (R7 x.Ao i+(el x.Ao i).G),((i+1:Nat):Int))))):Option ((Int×Int)⊕Int))=some (.inl (R7 x.Ao (i+1),((i+1:Nat):Int)))):=by
        intro c1 P1 hc
        by_cases q:1<=(el x.Ao i).G/\0<=(el x.Ao i).D/\(el x.Ao i).G+(el x.Ao i).D<=Q6 x.N x.K
        ·rw [D1e.2 fun h=>(key True).1 h q,D01,keyw q];refine J7 ?_;rw [hc];exact ⟨fun h1 h2=>h1 h2.2.2,fun h1 h2=>h1 ⟨g1,q,h2⟩⟩
        ·rw [(key True).2 q,D02];have:(cond c1 (some (.inr 2)) (some (.inr 2)):Option ((Int×Int)⊕Int))=some (.inr 2):=by cases c1<;>rfl
         rw [this];exact ⟨fun _=>rfl,fun h=>absurd (fun h2=>q h2.2.1) h⟩
       rcases i with _|i
       ·have e4:decide (((0:Nat):Int)>0)=false:=rfl;rw [e4];simp only [Bool.and_false,G2,D0Y,D1t,Bool.or_false];exact fin false _ ⟨fun h=>(by cases h),fun h=>absurd (fun h2=>absurd h2 (by decide)) h⟩
       ·have e4:decide (((i+1:Nat):Int)>0)=true:=D03 (by omega)
        rw [e4,A1w (by omega) (Nat.le_of_lt hi) hm,D1F,F8 (by omega)]
        simp only [D1b,Bool.and_true,G8,D0Y,D1z,D1p];refine fin _ _ ?_;rw [D00];constructor
        ·intro h1 h2;have:=h2 (by omega);omega
        ·intro h1;exact Int.not_le.1 fun h2=>h1 fun _=>h2
      ·have e1:(decide ((el x.Ao i).V< -4096)||decide ((el x.Ao i).V>4096))=true:=by simp;omega
       rw [e1];simp only [D1a,D1t,G2,D0Y,D1I,D02];exact ⟨fun _=>trivial,fun h=>absurd (fun h2=>g1 h2.1) h⟩)
     (fun hp=>by
      simp only [];unfold A0z;rw [D05 (D1r _),D01]
      congr 1
      rw [A3v h0,D0Y,A1w h0 (D1G _) hm,F8 (by omega),D0Y]
      by_cases q:(el x.Ao 0).G=1/\(el x.Ao 0).D=0/\(el x.Ao (x.Ao.length-1)).D=0/\R7 x.Ao x.Ao.length=x.N
      ·rw [N0 q];obtain ⟨q1,q2,q3,q4⟩:=q;rw [q1,q2,q3,q4];simp
      ·rw [H3 q];have:(((R7 x.Ao x.Ao.length !=x.N||(el x.Ao 0).G !=1)||(el x.Ao 0).D !=0)||(el x.Ao (x.Ao.length-1)).D !=0)=true:=by
        simp only [D09,bne_iff_ne];omega
       rw [this];rfl)
    rw [show ((0:Int),(0:Int))=(R7 x.Ao 0,((0:Nat):Int)) from by rw [B1q];rfl]
    by_cases h2: ∀i,i<x.Ao.length->B25 x.Ao (Q6 x.N x.K) i
    ·rw [H.2 fun i _ hi hn=>hn (h2 i hi)]
     congr 1
     by_cases q:(el x.Ao 0).G=1/\(el x.Ao 0).D=0/\(el x.Ao (x.Ao.length-1)).D=0/\R7 x.Ao x.Ao.length=x.N
     ·rw [N0 q,N0];exact ⟨h1,⟨fun h=>by omega,fun h=>absurd h hN⟩,h2,fun _=>q⟩
     ·rw [H3 q,H3];exact fun h=>q (h.2.2.2 h0)
    ·obtain ⟨i,hi,hn⟩:=A0d h2;rw [H.1 ⟨i,Nat.zero_le _,hi,hn⟩,H3];exact fun h=>h2 h.2.2.1
   ·have e0:((x.Ao.length:Int)==0)=true:=by rw [show x.Ao.length=0 by omega];rfl
    rw [e0,D02,H3];intro h;have:=h.2.1;omega
 ·have e:(((((((decide (x.K<(1:Int)))||(decide (x.K>(64:Int))))||(decide (x.Cap<(2:Int))))||(decide (x.Cap>(65536:Int))))||(decide (x.N<(0:Int))))||(decide (x.N>(1099511627776:Int))))||(decide ((x.Ao.length:Int)>x.Cap)))=true:=by
   unfold A95 at h1;simp only [D09,D00];omega
  rw [e,D02,H3 fun h=>h1 h.1]
theorem B2r (x:A8):A2z x=some (vOf (C5c x)):=by
 unfold A2z;simp only []
 by_cases h1:A95 x/\(x.Ao.length=0↔x.N=0)
 ·have h1' :=h1.1;unfold A95 at h1';have en:(Y8 x.K x.Cap).2=0:=by
   unfold Y8;have:(((!(H9 x.K))||(decide (x.Cap<(2:Int))))||(decide (x.Cap>(65536:Int))))=false:=by
    rw [(O3 _).2 h1'.1];simp;omega
   simp only [this,D01]
  have eb:(((x.Ao.length:Int)==0)==(x.N==0))=true:=by
   rw [D1S,D1j,D1S,D1S];have:=h1.2;omega
  have e:((((((Y8 x.K x.Cap).2 !=0)||(decide (x.N<(0:Int))))||(decide (x.N>(1099511627776:Int))))||(decide ((x.Ao.length:Int)>x.Cap)))||(!(((x.Ao.length:Int)==(0:Int))==(x.N==(0:Int)))))=false:=by
   rw [en,eb,D1e];simp only [D09,D00,Ne,D1B,D1a,Bool.false_eq_true,or_false,false_or];omega
  rw [e,D01];have hl:x.Ao.length<=65536:=by omega
  have hm:x.Ao.length<=maxLen:=by rw [I1];omega
  have hM:=B87 (n:=x.N) (k:=x.K) h1'.2.2.1 h1'.1.1;unfold A81
  let good:Nat->Prop:=fun i=>B25 x.Ao (Q6 x.N x.K) i/\(i=0->(el x.Ao i).G=1/\(el x.Ao i).D=0)/\(i=x.Ao.length-1->(el x.Ao i).D=0)/\R7 x.Ao (i+1)<=x.N
  have H:=V1 (f:=fun s:Int×Int=>A1F x s.1 s.2) (fun i=>(R7 x.Ao i,(i:Int))) 0 x.Ao.length (Nat.zero_le _) (fun i=> ¬good i) 2
   (some (vOf (R7 x.Ao x.Ao.length=x.N)))
   (fun i _ hi hp=>by
    simp only [];unfold A1F;have hs:=C18 (l:=x.Ao) hM.2.1 hl i (by omega) fun j hj=>(D1T fun hn=>hp j (Nat.zero_le _) hj hn:good j).1
    rw [D03 (by omega:(i:Int)<(x.Ao.length:Int)),D02,F8 hi,D0Y,O8 hi hm,A1w (by omega) (D1G _) hm,C9E h1'.2.2.1 h1'.1.1]
    simp only [];have el0:((i:Int)==0)=decide (i=0):=by rw [D1j,D1S,D00];omega
    have ell:((i:Int)==((x.Ao.length-1:Nat):Int))=decide (i=x.Ao.length-1):=by rw [D1j,D1S,D00];omega
    rw [el0,ell];have hN1:1<=x.N:=by have:=h1.2;omega
    have hMN:=hM.2.2 hN1
    by_cases gA:(-4096<=(el x.Ao i).V/\(el x.Ao i).V<=4096)/\(1<=(el x.Ao i).G/\(el x.Ao i).G<=x.N)/\(0<=(el x.Ao i).D/\(el x.Ao i).D<=x.N)
    ·have eA:(((((!(D8 (el x.Ao i).V))||(decide ((el x.Ao i).G<(1:Int))))||(decide ((el x.Ao i).G>x.N)))||(decide ((el x.Ao i).D<(0:Int))))||(decide ((el x.Ao i).D>x.N)))=false:=by
      rw [(O0 _).2 gA.1,D1e];simp only [D09,D00,Ne,D1a,Bool.false_eq_true,or_false,false_or];omega
     rw [eA,C6 (n:=(el x.Ao i).G+(el x.Ao i).D) (by omega) (by omega),C6 (n:=R7 x.Ao i+(el x.Ao i).G) (by omega) (by omega),<-B1p hi]
     simp only [D1b,G8,D0Y,D1p];have fin: ∀(c1:Bool),(c1=true↔(1<=i/\(el x.Ao (i-1)).V>(el x.Ao i).V))->
       (¬good i->(cond (((decide ((el x.Ao i).G+(el x.Ao i).D>Q6 x.N x.K)||c1)||(decide (i=0)&&((el x.Ao i).G !=1||(el x.Ao i).D !=0)))||(decide (i=x.Ao.length-1)&&(el x.Ao i).D !=0)) (some (.inr 2))
        (cond (decide (R7 x.Ao (i+1)>x.N)) (some (.inr 2)) (some (.inl (R7 x.Ao (i+1),((i+1:Nat):Int))))):Option ((Int×Int)⊕Int))=some (.inr 2))/\
       (¬ ¬good i->(cond (((decide ((el x.Ao i).G+(el x.Ao i).D>Q6 x.N x.K)||c1)||(decide (i=0)&&((el x.Ao i).G !=1||(el x.Ao i).D !=0)))||(decide (i=x.Ao.length-1)&&(el x.Ao i).D !=0)) (some (.inr 2))
        (cond (decide (R7 x.Ao (i+1)>x.N)) (some (.inr 2)) (some (.inl (R7 x.Ao (i+1),((i+1:Nat):Int))))):Option ((Int×Int)⊕Int))=some (.inl (R7 x.Ao (i+1),((i+1:Nat):Int)))):=by
      intro c1 hc;rw [A1n];refine J7 ?_;simp only [D09,D06,D00,bne_iff_ne,hc];show _↔ ¬(B25 x.Ao (Q6 x.N x.K) i/\_);unfold B25;omega
     rcases i with _|i
     ·have e4:decide (((0:Nat):Int)>0)=false:=rfl;rw [e4];simp only [Bool.and_false,G2,D0Y,D1t];exact fin false ⟨fun h=>(by cases h),fun h=>(by omega)⟩
     ·have e4:decide (((i+1:Nat):Int)>0)=true:=D03 (by omega)
      rw [e4,A1w (by omega) (Nat.le_of_lt hi) hm,D1F,F8 (by omega)]
      by_cases gB:(el x.Ao (i+1)).G+(el x.Ao (i+1)).D>Q6 x.N x.K
      ·rw [D03 gB];simp only [D1a,D1t,G2,D0Y,D1I,D02];refine ⟨fun _=>trivial,fun h=>absurd (fun h2:good (i+1)=> ?_) h⟩;have:=h2.1.2.1;omega
      ·have fin' :=fin (decide ((el x.Ao i).V>(el x.Ao (i+1)).V)) (by rw [D00,D1F];omega)
       rw [D05 gB] at fin' ⊢;simp only [D1b,D1z,G8,D0Y];exact fin'
    ·have eA:(((((!(D8 (el x.Ao i).V))||(decide ((el x.Ao i).G<(1:Int))))||(decide ((el x.Ao i).G>x.N)))||(decide ((el x.Ao i).D<(0:Int))))||(decide ((el x.Ao i).D>x.N)))=true:=by
      simp only [D09,D00,D1k];rw [D1e,Ne,O0];omega
     rw [eA];simp only [D1a,D1I,D1t,G2,D0Y,D02];refine ⟨fun _=>trivial,fun h=>absurd (fun h2:good i=>gA ?_) h⟩;have:=h2.1;unfold B25 at this;omega)
   (fun hp=>by
    simp only [];unfold A1F;rw [D05 (D1r _),D01]
    congr 1
    by_cases q:R7 x.Ao x.Ao.length=x.N
    ·rw [N0 q,q,D1B,D01]
    ·rw [H3 q,(bne_iff_ne).2 q,D02])
  rw [show ((0:Int),(0:Int))=(R7 x.Ao 0,((0:Nat):Int)) from by rw [B1q];rfl]
  by_cases h2: ∀i,i<x.Ao.length->good i
  ·rw [H.2 fun i _ hi hn=>hn (h2 i hi)]
   congr 1
   by_cases q:R7 x.Ao x.Ao.length=x.N
   ·rw [N0 q,N0];exact ⟨h1.1,h1.2,fun i hi=>(h2 i hi).1,fun h0=>⟨((h2 0 h0).2.1 rfl).1,((h2 0 h0).2.1 rfl).2,(h2 (x.Ao.length-1) (by omega)).2.2.1 rfl,q⟩⟩
   ·rw [H3 q,H3];intro h
    by_cases h0:0<x.Ao.length
    ·exact q (h.2.2.2 h0).2.2.2
    ·have e0:x.Ao.length=0:=by omega
     rw [e0,B1q] at q;have:=h1.2.1 e0;omega
  ·obtain ⟨i,hi,hn⟩:=A0d h2;rw [H.1 ⟨i,Nat.zero_le _,hi,hn⟩,H3];intro h;apply hn;have h0:0<x.Ao.length:=by omega
   have h5:=h.2.2.2 h0;refine ⟨h.2.2.1 i hi,fun e=>by subst e;exact ⟨h5.1,h5.2.1⟩,fun e=>by subst e;exact h5.2.2.1, ?_⟩
   have mono: ∀k,i+1+k<=x.Ao.length->R7 x.Ao (i+1)<=R7 x.Ao (i+1+k):=by
    intro k
    induction k with
    |zero=>intro _;exact Int.le_refl _
    |succ k ih=>
     intro hk;have g1:=ih (by omega)
     have g2:=(h.2.2.1 (i+1+k) (by omega)).2.1
     have g3:R7 x.Ao (i+1+(k+1))=_:=B1p (l:=x.Ao) (i:=i+1+k) (by omega)
     omega
   have:=mono (x.Ao.length-(i+1)) (by omega)
   rw [show i+1+(x.Ao.length-(i+1))=x.Ao.length by omega,h5.2.2.2] at this
   exact this
 ·have e:((((((Y8 x.K x.Cap).2 !=0)||(decide (x.N<(0:Int))))||(decide (x.N>(1099511627776:Int))))||(decide ((x.Ao.length:Int)>x.Cap)))||(!(((x.Ao.length:Int)==(0:Int))==(x.N==(0:Int)))))=true:=by
   by_cases hk:(1<=x.K/\x.K<=64)/\(2<=x.Cap/\x.Cap<=65536)
   ·by_cases hb:(x.Ao.length=0↔x.N=0)
    ·simp only [D09,D00];unfold A95 at h1;omega
    ·have:(((x.Ao.length:Int)==0)==(x.N==0))=false:=by
      rw [D1O];intro h;have:=congrArg (· =true) h;simp only [D1S,eq_iff_iff] at this;omega
     rw [this];simp
   ·have en:(Y8 x.K x.Cap).2=1:=by
     unfold Y8;have:(((!(H9 x.K))||(decide (x.Cap<(2:Int))))||(decide (x.Cap>(65536:Int))))=true:=by
      simp only [D09,D00,D1k];rw [D1e,Ne,O3];omega
     simp only [this,D02]
    rw [en];rfl
  rw [e,D02,H3 fun h=>h1 ⟨h.1,h.2.1⟩]
theorem B6e (x:A8) (hl:x.Ao.length<=maxLen):A4V x x=some true:=by
 unfold A4V;simp only [D1B,Bool.or_false,D01];unfold A8z;refine (L1 (f:=fun s:Int=>A2y x x s) x.Ao.length (fun _=>False) false (some true) (fun i hi _=>⟨fun h=>h.elim,fun _=> ?_⟩) (fun _=> ?_)).2 fun _ _ h=>h
 ·unfold A2y;rw [D03 (by omega:(i:Int)<(x.Ao.length:Int)),D02,F8 hi]
  simp [O8 hi hl]
 ·unfold A2y;rw [D05 (D1r _),D01]
end Go.Win
namespace Go.Win
open Go.Vc Go.Dec
def inB (x:Int) (b:Nat):Prop:=(b=0/\x=0)\/(1<=b/\(2:Int)^(b-1)<=x/\x<2^b)
theorem C5R: ∀(b:Nat) (x c:Int),inB x b->x<=9223372036854775807->0<=c->c+b<=1000->A5H x c=some (c+b):=by
 intro b
 induction b with
 |zero=>
  intro x c h hx hc hb;have hx0:x=0:=by
   rcases h with h|h
   ·exact h.2
   ·omega
  unfold A5H;rw [J5 (r:=c)]
  ·congr 1;omega
  ·unfold A4H;rw [hx0];rfl
 |succ b ih=>
  intro x c h hx hc hb;have h' :(2:Int)^b<=x/\x<2^(b+1):=by
   rcases h with h|h
   ·omega
   ·exact ⟨by simpa using h.2.1,h.2.2⟩
  have hp:=A7s b;have hin:inB (x/2) b:=by
   by_cases h0:b=0
   ·subst h0;left;have e1:(2:Int)^0=1:=rfl;have e2:(2:Int)^(0+1)=2:=rfl;omega
   ·right;have e1:(2:Int)^b=2^(b-1)*2:=by rw [<-Int.pow_succ];congr 1;omega
    have e2:(2:Int)^(b+1)=2^b*2:=Int.pow_succ 2 b;omega
  have hst:A4H x c=some (.inl (x/2,c+1)):=by
   unfold A4H;rw [D03 (by omega),D02,Int.tdiv_eq_ediv_of_nonneg (by omega),C6 (by omega) (by omega),C6 (by omega) (by omega)]
  have:=ih (x/2) (c+1) hin (by omega) (by omega) (by omega)
  unfold A5H at this⊢;rw [L4 hst,this]
  congr 1
  omega
theorem C8q {x:Int} (h0:0<x) (h1:x<=9223372036854775807): ∃b:Nat,B24 x=some (b:Int)/\A9f x=some (b:Int)/\1<=b/\b<=64/\(2:Int)^(b-1)<=x/\x<2^b:=by
 obtain ⟨b,g1,g2,g3,g4,g5⟩:=B9u h0 (by omega)
 refine ⟨b, ?_, ?_,g2,g3,g4,g5⟩
 ·unfold B24;rw [D05 (by omega),D01,A18 (by omega) (by omega),g1];rfl
 ·unfold A9f;rw [C5R b x 0 (.inr ⟨g2,g4,g5⟩) h1 (by omega) (by omega)]
  congr 1;omega
theorem B5p {k c:Int} (hk:1<=k/\k<=64) (hc:1<=c/\c<=65536): ∃b,A3k k c=some b/\A27 k c=some b/\1<=b/\b<=65536:=by
 obtain ⟨b,g1,g2,g3,g4,g5,g6⟩:=C8q (x:=c) (by omega) (by omega)
 have hm:=A1c (a:=2*k) (A:=128) (b:=(b:Int)+2) (B:=66) (by omega) (by omega)
 have hm2:1*1<=2*k*((b:Int)+2):=Int.mul_le_mul (by omega) (by omega) (by decide) (by omega)
 refine ⟨2*k*(b+2), ?_, ?_,by omega,by omega⟩
 ·unfold A3k;have e:V7 1 k c 0=true:=by unfold V7;simp;omega
  simp only [e,D1a,D01,g1,D0Y];rw [C6 (n:=2*k) (by omega) (by omega),C6 (n:=(b:Int)+2) (by omega) (by omega),C6 (by omega) (by omega)]
 ·unfold A27;have e:(((!(H9 k))||(decide (c<(1:Int))))||(decide (c>(65536:Int))))=false:=by
   rw [(O3 k).2 hk];simp;omega
  simp only [e,D01,g2,D0Y];rw [C6 (n:=2*k) (by omega) (by omega),C6 (n:=(b:Int)+2) (by omega) (by omega),C6 (by omega) (by omega)]
def plainB (l:List B3):List A3:=l.map fun x=>⟨x.T,x.As⟩
theorem A1v (l:List B3):(plainB l).length=l.length:=by simp [plainB]
theorem C6M {l:List B3} {i:Nat} (h:i<l.length):el (plainB l) i=⟨(el l i).T,(el l i).As⟩:=by
 rw [A79 (by rw [A1v];exact h),A79 h]
 simp [plainB]
theorem A9d (l:List B3) (hl:l.length<=1048576):A2b l=some (plainB l):=by
 unfold A2b B0B;have H:=V1 (f:=fun s:List A3×Int=>A0J l s.1 s.2) (fun i=>(plainB (l.take i),(i:Int))) 0 l.length (Nat.zero_le _) (fun _=>False) [] (some (plainB l))
  (fun i _ hi _=>by
   refine ⟨fun h=>h.elim,fun _=> ?_⟩;simp only [];unfold A0J;have hm:l.length<=maxLen:=by rw [I1];omega
   rw [D03 (by omega:(i:Int)<(l.length:Int)),D02,F8 hi,D0Y,O8 hi hm]
   have e1:plainB (l.take (i+1))=plainB (l.take i)++ [⟨(el l i).T,(el l i).As⟩]:=by
    rw [List.take_add_one,A7m hi];simp [plainB]
   have e2:(plainB (l.take i)).length=i:=by rw [A1v,D1q];omega
   rw [e1,e2,D03 (by simp only [D1h,D1u];omega),R4])
  (fun _=>by
   simp only [];unfold A0J;rw [D05 (D1r _),D01,List.take_length])
 exact H.2 (fun _ _ _ h=>h)
theorem C1Q:A7Y=A2b:=rfl
def alS (b:Int):Nat->Int
 |0=>0
 |i+1=>if (2:Int)^i>b+1 then 2*alS b i+((2:Int)^i-1+b-1)/b else alS b i
theorem C8m {b:Int} (hb:1<=b): ∀i:Nat,0<=alS b i/\alS b i<=i*2^i:=by
 intro i
 induction i with
 |zero=>exact ⟨Int.le_refl _,Int.le_refl _⟩
 |succ i ih=>
  have hp:=A7s i;have e2:(2:Int)^(i+1)=2^i*2:=Int.pow_succ 2 i;have e3:((i+1:Nat):Int)*2^(i+1)=(i:Int)*2^i*2+2^i*2:=by
   rw [e2,Int.natCast_add,Int.add_mul,Int.mul_assoc];simp
  rw [e3];unfold alS;split
  ·have h1:((2:Int)^i-1+b-1)/b<=2^i:=by
    have:((2:Int)^i-1+b-1)/b<2^i+1:=by
     rw [Int.ediv_lt_iff_lt_mul (by omega),Int.add_mul,Int.one_mul]
     have:=Int.mul_le_mul_of_nonneg_left hb (show (0:Int)<=2^i by omega)
     omega
    omega
   have h2:0<=((2:Int)^i-1+b-1)/b:=Int.ediv_nonneg (by omega) (by omega)
   omega
  ·omega
theorem C83: ∀n:Fin 31,(2:Int)^n.1<=1073741824:=by decide
theorem B94 {i:Nat} (h:i<=30):(2:Int)^i<=1073741824:=C83 ⟨i,by omega⟩
theorem C5L {b:Int} (hb:1<=b) {i:Nat} (hi:i<=30):0<=alS b i/\alS b i<=32212254720:=by
 obtain ⟨h1,h2⟩:=C8m hb i;have hp:=B94 hi;have:=A1c (a:=(i:Int)) (A:=30) (b:=2^i) (B:=1073741824) (by omega) ⟨Int.le_of_lt (A7s i),hp⟩
 omega
theorem C8t {a b:Int} (ha:0<=a/\a<=4611686018427387904) (hb:1<=b/\b<=4611686018427387904):A7S a b=some ((a+b-1)/b,true):=by
 unfold A7S;have e1:((b==0)||((a== -9223372036854775808)&&(b== -1)))=false:=by
  rw [D1e];simp only [D09,D06,D1S,Ne];omega
 rw [e1,D01,D03 (by omega:b≠0),R4,R4,Int.tdiv_eq_ediv_of_nonneg ha.1,Int.tmod_eq_emod_of_nonneg ha.1]
 have hq:0<=a/b:=Int.ediv_nonneg ha.1 (by omega)
 have hq2:a/b<=a:=Int.ediv_le_self b ha.1;have hr:=Int.emod_nonneg a (show b≠0 by omega)
 have hr2:=Int.emod_lt_of_pos a (show 0<b by omega)
 have hd:=Int.mul_ediv_add_emod a b;rw [D05 (by omega: ¬a<0),D05 (by omega: ¬b<0)]
 by_cases h0:a%b=0
 ·have e2:(a%b !=0&&(false==false))=false:=by rw [h0];rfl
  rw [e2,D01,C6 (by omega) (by omega)]
  have:(a+b-1)/b=a/b:=by
   have e3:a+b-1=(b-1)+b*(a/b):=by omega
   rw [e3,Int.add_mul_ediv_left _ _ (by omega),Int.ediv_eq_zero_of_lt (by omega) (by omega)];omega
  rw [this]
 ·have e2:(a%b !=0&&(false==false))=true:=by rw [D06];exact ⟨bne_iff_ne.2 h0,rfl⟩
  rw [e2,D02,C6 (n:=a/b) (by omega) (by omega),C6 (by omega) (by omega)]
  have:(a+b-1)/b=a/b+1:=by
   have e3:a+b-1=(a%b-1)+b*(a/b+1):=by rw [Int.mul_add];omega
   rw [e3,Int.add_mul_ediv_left _ _ (by omega),Int.ediv_eq_zero_of_lt (by omega) (by omega)];omega
  rw [this]
theorem B6W {L b:Int} (hL:0<=L/\L<=30) (hb:1<=b/\b<=65536):A4q L b=some (alS b (L.toNat+1))/\A5Q L b=some (alS b (L.toNat+1)):=by
 have e:((((decide (L<(0:Int)))||(decide (L>(30:Int))))||(decide (b<(1:Int))))||(decide (b>(65536:Int))))=false:=by
  rw [D1e];simp only [D09,D00,Ne];omega
 constructor
 ·unfold A4q;rw [e,D01];unfold A8G;have H:=V1 (f:=fun s:Int×Int=>A1i L b s.1 s.2) (fun i=>(alS b i,(i:Int))) 0 (L.toNat+1) (Nat.zero_le _) (fun _=>False) 0 (some (alS b (L.toNat+1)))
   (fun i _ hi _=>by
    refine ⟨fun h=>h.elim,fun _=> ?_⟩;simp only [];unfold A1i;have hp:=B94 (show i<=30 by omega)
    have hp0:=A7s i;have ha:=C5L hb.1 (show i<=30 by omega)
    have es:A2 ((i:Int)+1)=((i+1:Nat):Int):=by rw [C6]<;>omega
    have ew:decide (0<=F9 (i:Int))=true:=D03 (by rw [A18]<;>omega)
    rw [D03 (by omega:(i:Int)<=L),D02,ew,R4,B7j (by omega) (by omega),D1E,es,C6 (n:=b+1) (by omega) (by omega)]
    by_cases h:(2:Int)^i>b+1
    ·rw [D03 h,D02,C6 (n:=(2:Int)^i-1) (by omega) (by omega),C8t (by omega) (by omega),D0Y,C6 (n:=2*alS b i) (by omega) (by omega)]
     have h1:0<=((2:Int)^i-1+b-1)/b:=Int.ediv_nonneg (by omega) (by omega)
     have h2:((2:Int)^i-1+b-1)/b<=(2:Int)^i-1+b-1:=Int.ediv_le_self b (by omega)
     simp only [];rw [C6 (by omega) (by omega)]
     have ea:alS b (i+1)=2*alS b i+((2:Int)^i-1+b-1)/b:=by rw [alS,if_pos h]
     rw [ea]
    ·rw [D05 h,D01];have ea:alS b (i+1)=alS b i:=by rw [alS,if_neg h]
     rw [ea])
   (fun _=>by
    simp only [];unfold A1i;rw [D05 (by omega),D01])
  exact H.2 (fun _ _ _ h=>h)
 ·unfold A5Q;rw [e,D01];unfold B0o;have H:=V1 (f:=fun s:Int×Int=>A15 L b s.1 s.2) (fun i=>(alS b i,(i:Int))) 0 (L.toNat+1) (Nat.zero_le _) (fun _=>False) 0 (some (alS b (L.toNat+1)))
   (fun i _ hi _=>by
    refine ⟨fun h=>h.elim,fun _=> ?_⟩;simp only [];unfold A15;have hp:=B94 (show i<=30 by omega)
    have hp0:=A7s i;have ha:=C5L hb.1 (show i<=30 by omega)
    have es:A2 ((i:Int)+1)=((i+1:Nat):Int):=by rw [C6]<;>omega
    have ew:decide (0<=F9 (i:Int))=true:=D03 (by rw [A18]<;>omega)
    rw [D03 (by omega:(i:Int)<=L),D02,ew,R4,B7j (by omega) (by omega),D1E,es,C6 (n:=b+1) (by omega) (by omega)]
    by_cases h:(2:Int)^i>b+1
    ·have h1:0<=((2:Int)^i-1+b-1)/b:=Int.ediv_nonneg (by omega) (by omega)
     have h2:((2:Int)^i-1+b-1)/b<=(2:Int)^i-1+b-1:=Int.ediv_le_self b (by omega)
     rw [D03 h,D02,D03 (by omega:b≠0),R4,C6 (n:=(2:Int)^i-1) (by omega) (by omega),C6 (n:=(2:Int)^i-1+b) (by omega) (by omega),C6 (n:=(2:Int)^i-1+b-1) (by omega) (by omega),
      Int.tdiv_eq_ediv_of_nonneg (by omega),C6 (n:=((2:Int)^i-1+b-1)/b) (by omega) (by omega),C6 (n:=2*alS b i) (by omega) (by omega),C6 (by omega) (by omega)]
     have ea:alS b (i+1)=2*alS b i+((2:Int)^i-1+b-1)/b:=by rw [alS,if_pos h]
     rw [ea]
    ·rw [D05 h,D01];have ea:alS b (i+1)=alS b i:=by rw [alS,if_neg h]
     rw [ea])
   (fun _=>by
    simp only [];unfold A15;rw [D05 (by omega),D01])
  exact H.2 (fun _ _ _ h=>h)
def A9b (b:Int) (x:B3):Prop:=okB x.Aw=true/\x.Aw.N=2^x.As.toNat/\(x.Aw.Ac.length:Int)<=b+1/\A2 (C1j x.Aw.Ac-1)<=alS b (x.As.toNat+1)/\
 -4096<=(el x.Aw.Ac 0).V/\(el x.Aw.Ac (x.Aw.Ac.length-1)).V<=4096/\(el x.Aw.Ac 0).V<=x.Az/\x.Az<=(el x.Aw.Ac (x.Aw.Ac.length-1)).V
def B2c (l:List B3) (k b:Int):Prop:=(1<=b/\b<=65536)/\A39 (plainB l) k/\ ∀i,i<l.length->A9b b (el l i)
def A6m (l:List B3):Prop:=l.length<=1048576/\ ∀x∈l,x.Aw.Ac.length<=1048576
theorem B7s {l:List B3} {k:Int} (h:A39 (plainB l) k) {i:Nat} (hi:i<l.length):0<=(el l i).As/\(el l i).As<=30:=by
 have:=h.2.1 i (by rw [A1v];exact hi)
 unfold A0H at this;rw [C6M hi] at this;simp only [] at this;omega
theorem B9e {r:D0} (h:okB r=true) {n:Nat} (hn:r.N=2^n):0<r.Ac.length:=by
 have h1:=(A6k r).1 h;have:=A7s n;have h2:=h1.nil;omega
theorem B31 (l:List B3) (k b:Int) (hs:A6m l):A32 l k b=some (L6 (B2c l k b)):=by
 have hm:l.length<=maxLen:=by rw [I1];have:=hs.1;omega
 unfold A32
 by_cases hb:1<=b/\b<=65536
 ·have e:(decide (b<1)||decide (b>65536))=false:=by simp;omega
  rw [e,A9d l hs.1];simp only [D1b,G8,D0Y,D1p];rw [A3d _ _ (by rw [A1v];exact hm),D0Y]
  by_cases h2:A39 (plainB l) k
  ·rw [K9 h2,D1a,D01];unfold B0A;have H:=L1 (f:=fun s:Int=>A2T l b s) l.length (fun i=> ¬A9b b (el l i)) false (some true)
    (fun i hi _=>by
     unfold A2T;have hv:=B7s h2 hi;have hr:=hs.2 _ (A5l hi);rw [D03 (by omega:(i:Int)<(l.length:Int)),D02,F8 hi,D0Y,O8 hi hm]
     generalize el l i=x at hv hr⊢
     have ew:decide (0<=F9 x.As)=true:=D03 (by rw [A18]<;>omega)
     simp only [A3l x.Aw hr,D0Y,ew,Bool.or_true,R4,B7j hv.1 hv.2];have eb1:A2 (b+1)=b+1:=by rw [C6]<;>omega
     rw [eb1];cases hB:okB x.Aw with
     |false=>
      simp only [D01,show ((2:Int) !=0)=true from rfl,D1I,D1a,G2,D0Y,D02];exact ⟨fun _=>trivial,fun h=>absurd (fun h2:A9b b x=>by have:=h2.1;rw [hB] at this;cases this) h⟩
     |true=>
      simp only [D02,show ((0:Int) !=0)=false from rfl,D1p]
      by_cases g1:x.Aw.N=2^x.As.toNat/\(x.Aw.Ac.length:Int)<=b+1
      ·have e1:((x.Aw.N !=2^x.As.toNat)||decide ((x.Aw.Ac.length:Int)>b+1))=false:=by
        rw [g1.1,D1B,D1p];exact D05 (by omega)
       rw [e1];have h0:=B9e hB g1.1;have hm2:x.Aw.Ac.length<=maxLen:=by rw [I1];omega
       simp only [D1b,G8,C7L x.Aw hr,D0Y,hB,D02,(B6W hv hb).1,D1p,A3v h0,A1w h0 (D1G _) hm2,F8 (show x.Aw.Ac.length-1<x.Aw.Ac.length by omega)]
       rw [A1n];refine J7 ?_;unfold A9b;simp only [hB,g1,true_and,D09,D00];omega
      ·have e1:((x.Aw.N !=2^x.As.toNat)||decide ((x.Aw.Ac.length:Int)>b+1))=true:=by
        rw [D09,bne_iff_ne,D00]
        by_cases q:x.Aw.N=2^x.As.toNat
        ·right;have: ¬(x.Aw.Ac.length:Int)<=b+1:=fun h=>g1 ⟨q,h⟩;omega
        ·exact .inl q
       rw [e1];simp only [D1a,G2,D0Y,D1I,D02];exact ⟨fun _=>trivial,fun h=>absurd (fun h2=>g1 ⟨h2.2.1,h2.2.2.1⟩) h⟩)
    (fun _=>by
     unfold A2T;rw [D05 (D1r _),D01])
   by_cases h3: ∀i,i<l.length->A9b b (el l i)
   ·rw [H.2 fun i hi hn=>hn (h3 i hi),K9];exact ⟨hb,h2,h3⟩
   ·rw [H.1 (A0d h3),I9];exact fun h=>h3 h.2.2
  ·rw [I9 h2,I9 fun h=>h2 h.2.1];rfl
 ·have e:(decide (b<1)||decide (b>65536))=true:=by
   rw [D1j];simp;omega
  rw [e,I9 fun h=>hb h.1];rfl
theorem B53 (l:List B3) (k b:Int) (hs:A6m l):A5v l k b=some (L6 (B2c l k b)):=by
 have hm:l.length<=maxLen:=by rw [I1];have:=hs.1;omega
 unfold A5v
 by_cases hb:1<=b/\b<=65536
 ·have e:(decide (b<1)||decide (b>65536))=false:=by simp;omega
  rw [e,C1Q,A9d l hs.1];simp only [D1b,G8,D0Y,D1p];rw [A7W _ _ (by rw [A1v];exact hm),D0Y]
  by_cases h2:A39 (plainB l) k
  ·rw [K9 h2,D1a,D01];unfold B2s;have H:=L1 (f:=fun s:Int=>A3Y l b s) l.length (fun i=> ¬A9b b (el l i)) false (some true)
    (fun i hi _=>by
     unfold A3Y;have hv:=B7s h2 hi;have hr:=hs.2 _ (A5l hi);rw [D03 (by omega:(i:Int)<(l.length:Int)),D02,F8 hi,D0Y,O8 hi hm]
     generalize el l i=x at hv hr⊢
     have ew:decide (0<=F9 x.As)=true:=D03 (by rw [A18]<;>omega)
     simp only [A4h x.Aw hr,D0Y,ew,Bool.or_true,R4,B7j hv.1 hv.2];have eb1:A2 (b+1)=b+1:=by rw [C6]<;>omega
     rw [eb1];cases hB:okB x.Aw with
     |false=>
      simp only [D01,show ((2:Int) !=0)=true from rfl,D1I,D1a,G2,D0Y,D02];exact ⟨fun _=>trivial,fun h=>absurd (fun h2:A9b b x=>by have:=h2.1;rw [hB] at this;cases this) h⟩
     |true=>
      simp only [D02,show ((0:Int) !=0)=false from rfl,D1p]
      by_cases g1:x.Aw.N=2^x.As.toNat/\(x.Aw.Ac.length:Int)<=b+1
      ·have e1:((x.Aw.N !=2^x.As.toNat)||decide ((x.Aw.Ac.length:Int)>b+1))=false:=by
        rw [g1.1,D1B,D1p];exact D05 (by omega)
       rw [e1];have h0:=B9e hB g1.1;have hm2:x.Aw.Ac.length<=maxLen:=by rw [I1];omega
       simp only [D1b,G8,C84 x.Aw hr,D0Y,hB,D02,(B6W hv hb).2,D1p,A3v h0,A1w h0 (D1G _) hm2,F8 (show x.Aw.Ac.length-1<x.Aw.Ac.length by omega)]
       by_cases g2:(-4096<=(el x.Aw.Ac 0).V/\(el x.Aw.Ac 0).V<=4096)/\(-4096<=(el x.Aw.Ac (x.Aw.Ac.length-1)).V/\(el x.Aw.Ac (x.Aw.Ac.length-1)).V<=4096)/\(el x.Aw.Ac 0).V<=x.Az/\x.Az<=(el x.Aw.Ac (x.Aw.Ac.length-1)).V
       ·have e2:((((!(D8 (el x.Aw.Ac 0).V))||(!(D8 (el x.Aw.Ac (x.Aw.Ac.length-1)).V)))||(decide (x.Az<(el x.Aw.Ac 0).V)))||(decide (x.Az>(el x.Aw.Ac (x.Aw.Ac.length-1)).V)))=false:=by
         rw [(O0 _).2 g2.1,(O0 _).2 g2.2.1,D1e];simp only [D09,D00,Ne,D1a,Bool.false_eq_true,or_false,false_or];omega
        rw [e2,D01];simp only [D1b,G8,D0Y,D1p];refine J7 ?_;unfold A9b;simp only [hB,g1,true_and,D00];omega
       ·have e2:((((!(D8 (el x.Aw.Ac 0).V))||(!(D8 (el x.Aw.Ac (x.Aw.Ac.length-1)).V)))||(decide (x.Az<(el x.Aw.Ac 0).V)))||(decide (x.Az>(el x.Aw.Ac (x.Aw.Ac.length-1)).V)))=true:=by
         simp only [D09,D00,D1k];rw [D1e,D1e,Ne,Ne,O0,O0];omega
        rw [e2,D01];simp only [D1a,G2,D0Y,D1I,D02];refine ⟨fun _=>trivial,fun h=>absurd (fun h2=>g2 ?_) h⟩;have:=h2.2.2.2;omega
      ·have e1:((x.Aw.N !=2^x.As.toNat)||decide ((x.Aw.Ac.length:Int)>b+1))=true:=by
        rw [D09,bne_iff_ne,D00]
        by_cases q:x.Aw.N=2^x.As.toNat
        ·right;have: ¬(x.Aw.Ac.length:Int)<=b+1:=fun h=>g1 ⟨q,h⟩;omega
        ·exact .inl q
       rw [e1,D02];exact ⟨fun _=>rfl,fun h=>absurd (fun h2=>g1 ⟨h2.2.1,h2.2.2.1⟩) h⟩)
    (fun _=>by
     unfold A3Y;rw [D05 (D1r _),D01])
   by_cases h3: ∀i,i<l.length->A9b b (el l i)
   ·rw [H.2 fun i hi hn=>hn (h3 i hi),K9];exact ⟨hb,h2,h3⟩
   ·rw [H.1 (A0d h3),I9];exact fun h=>h3 h.2.2
  ·rw [I9 h2,I9 fun h=>h2 h.2.1];rfl
 ·have e:(decide (b<1)||decide (b>65536))=true:=by
   rw [D1j];simp;omega
  rw [e,I9 fun h=>hb h.1];rfl
theorem A6s (l:List B3) (hs:A6m l):A2a l=some (A2 (K5 (plainB l)))/\A3G l=some (A2 (K5 (plainB l))):=by
 have hm:(plainB l).length<=maxLen:=by rw [I1,A1v];have:=hs.1;omega
 refine ⟨?_, ?_⟩
 ·unfold A2a;rw [A9d l hs.1,D0Y,A9r,A3D _ hm];rfl
 ·unfold A3G;rw [C1Q,A9d l hs.1,D0Y,A3D _ hm];rfl
def C49 (x:B8):Prop:=A20 x.W x.K x.Cap x.Now/\(∀b,A27 x.K x.Cap=some b->B2c x.Ag (2*x.K) b)/\A2 (K5 (plainB x.Ag))<=x.Cap/\ ∀i,i<x.Ag.length->F7 x.Now x.W (el x.Ag i).T=true
theorem A5d (w k c n:Int):V7 w k c n=true↔A20 w k c n:=by
 unfold V7 A20;simp;omega
theorem A8T (x:B8) (hs:A6m x.Ag):A0q x=some (vOf (C49 x)):=by
 have hm:x.Ag.length<=maxLen:=by rw [I1];have:=hs.1;omega
 unfold A0q;simp only []
 by_cases h1:A20 x.W x.K x.Cap x.Now
 ·obtain ⟨b,b1,b2,b3⟩:=B5p (k:=x.K) (c:=x.Cap) h1.2.2.2 h1.2.1;have hk:=h1.2.2.2;rw [(A5d _ _ _ _).2 h1,b1,C6 (n:=2*x.K) (by omega) (by omega)]
  simp only [D1a,D1b,G8,D0Y,D1p,B31 _ _ _ hs,(A6s _ hs).1]
  by_cases h2:B2c x.Ag (2*x.K) b
  ·rw [K9 h2];simp only [D1a,D1b,G8,D0Y,D1p]
   by_cases h3:A2 (K5 (plainB x.Ag))<=x.Cap
   ·rw [D05 (by omega),D01]
    unfold A6H;have H:=L1 (f:=fun s:Int=>A0e x s) x.Ag.length (fun i=> ¬F7 x.Now x.W (el x.Ag i).T=true) 2 (some 0)
     (fun i hi _=>by
      unfold A0e;rw [D03 (by omega:(i:Int)<(x.Ag.length:Int)),D02,F8 hi,D0Y,O8 hi hm]
      refine J7 ?_;simp [A9x])
     (fun _=>by
      unfold A0e;rw [D05 (D1r _),D01])
    by_cases h4: ∀i,i<x.Ag.length->F7 x.Now x.W (el x.Ag i).T=true
    ·rw [H.2 fun i hi hn=>hn (h4 i hi),N0];exact ⟨h1,fun b' hb' =>by rw [b2] at hb';cases hb';exact h2,h3,h4⟩
    ·rw [H.1 (A0d h4),H3];exact fun h=>h4 h.2.2.2
   ·rw [D03 (by omega),D02,H3]
    exact fun h=>h3 h.2.2.1
  ·rw [I9 h2];simp only [D1a,D1b,G2,D0Y,D1I,D02];rw [H3];exact fun h=>h2 (h.2.1 b b2)
 ·rw [D1e.2 fun h=>h1 ((A5d _ _ _ _).1 h),H3 fun h=>h1 h.1]
  rfl
theorem B2t (x:B8) (hs:A6m x.Ag):A2C x=some (vOf (C49 x)):=by
 have hm:x.Ag.length<=maxLen:=by rw [I1];have:=hs.1;omega
 unfold A2C;simp only []
 by_cases h1:A20 x.W x.K x.Cap x.Now
 ·obtain ⟨b,b1,b2,b3⟩:=B5p (k:=x.K) (c:=x.Cap) h1.2.2.2 h1.2.1;have hk:=h1.2.2.2;rw [(P7 _ _ _).2 ⟨h1.1,h1.2.1,h1.2.2.1⟩,(O3 _).2 hk,b2,C6 (n:=2*x.K) (by omega) (by omega)]
  simp only [D1a,D1b,G8,D0Y,Bool.or_false,D1p,B53 _ _ _ hs,(A6s _ hs).2]
  by_cases h2:B2c x.Ag (2*x.K) b
  ·rw [K9 h2];simp only [D1a,D1b,G8,D0Y,D1p]
   by_cases h3:A2 (K5 (plainB x.Ag))<=x.Cap
   ·rw [D05 (by omega),D01]
    unfold A83;have H:=L1 (f:=fun s:Int=>A1J x s) x.Ag.length (fun i=> ¬F7 x.Now x.W (el x.Ag i).T=true) 2 (some 0)
     (fun i hi _=>by
      unfold A1J;rw [D03 (by omega:(i:Int)<(x.Ag.length:Int)),D02,F8 hi,D0Y,O8 hi hm]
      refine J7 ?_;simp)
     (fun _=>by
      unfold A1J;rw [D05 (D1r _),D01])
    by_cases h4: ∀i,i<x.Ag.length->F7 x.Now x.W (el x.Ag i).T=true
    ·rw [H.2 fun i hi hn=>hn (h4 i hi),N0];exact ⟨h1,fun b' hb' =>by rw [b2] at hb';cases hb';exact h2,h3,h4⟩
    ·rw [H.1 (A0d h4),H3];exact fun h=>h4 h.2.2.2
   ·rw [D03 (by omega),D02,H3]
    exact fun h=>h3 h.2.2.1
  ·rw [I9 h2];simp only [D1a,D1b,G2,D0Y,D1I,D02];rw [H3];exact fun h=>h2 (h.2.1 b b2)
 ·have e1:(!H6 x.W x.Cap x.Now|| !H9 x.K)=true:=by
   rw [D09,D1k,D1k,D1e,D1e,Ne,Ne,P7,O3];unfold A20 at h1;omega
  rw [e1,H3 fun h=>h1 h.1]
  rfl
theorem C16 (r:D0) (hl:r.Ac.length<=maxLen):A9j r r=some true:=by
 unfold A9j;simp only [D1B,Bool.or_false,D01];unfold B3N;refine (L1 (f:=fun s:Int=>A4W r r s) r.Ac.length (fun _=>False) false (some true) (fun i hi _=>⟨fun h=>h.elim,fun _=> ?_⟩) (fun _=> ?_)).2 fun _ _ h=>h
 ·unfold A4W;rw [D03 (by omega:(i:Int)<(r.Ac.length:Int)),D02,F8 hi]
  simp [O8 hi hl]
 ·unfold A4W;rw [D05 (D1r _),D01]
theorem C8r (l:List B3) (hl:l.length<=maxLen) (he:∀x∈l,x.Aw.Ac.length<=maxLen):A4X l l=some true:=by
 unfold A4X;rw [D1B,D01];unfold A8A;refine (L1 (f:=fun s:Int=>A2B l l s) l.length (fun _=>False) false (some true) (fun i hi _=>⟨fun h=>h.elim,fun _=> ?_⟩) (fun _=> ?_)).2 fun _ _ h=>h
 ·unfold A2B;rw [D03 (by omega:(i:Int)<(l.length:Int)),D02,F8 hi]
  simp [O8 hi hl,C16 _ (he _ (A5l hi))]
 ·unfold A2B;rw [D05 (D1r _),D01]
theorem B6f (x:B8) (hl:x.Ag.length<=maxLen) (he:∀b∈x.Ag,b.Aw.Ac.length<=maxLen):A4Y x x=some true:=by
 unfold A4Y;simp [C8r _ hl he]
end Go.Win
namespace Go.Win
open Go.Vc Go.Dec
theorem F3 {α:Type} {l:List α} (h:l.length<=1048576):l.length<=maxLen:=by rw [I1];omega
theorem B6P {l:List C1} (h:∀y∈l,A4p y): ∀w∈l,N6 w:=fun w hw=>⟨(B7N (h w hw).1).1,(B7N (h w hw).1).2,(B7N (h w hw).2).1,(B7N (h w hw).2).2⟩
theorem C9e (p:Prop):(vOf p==0)=L6 p:=by
 by_cases h:p
 ·rw [N0 h,K9 h];rfl
 ·rw [H3 h,I9 h];rfl
theorem B6b (x:E5) (hl:x.Bc.length<=maxLen):A4R x x=some true:=by
 unfold A4R;simp [C1F _ hl]
theorem A9w {α:Type} (l:List α):((l.length:Int) !=(([]:List α).length:Int))= !L6 (l.length=0):=by
 by_cases h:l.length=0
 ·rw [K9 h,h];rfl
 ·rw [I9 h];show ((l.length:Int) !=0)=true;rw [bne_iff_ne];omega
theorem A7d (l:List B6):U6 l []=some (L6 (l.length=0)):=by
 unfold U6;rw [A9w]
 by_cases h:l.length=0
 ·rw [K9 h,D1a,D01];unfold A1y;refine J5 ?_;unfold A02;rw [h];rfl
 ·rw [I9 h];rfl
theorem B2f (l:List A3):A23 l []=some (L6 (l.length=0)):=by
 unfold A23;rw [A9w]
 by_cases h:l.length=0
 ·rw [K9 h,D1a,D01];unfold A8v;refine J5 ?_;unfold A2o;rw [h];rfl
 ·rw [I9 h];rfl
theorem A7e (l:List A7):U7 l []=some (L6 (l.length=0)):=by
 unfold U7;rw [A9w]
 by_cases h:l.length=0
 ·rw [K9 h,D1a,D01];unfold A4d;refine J5 ?_;unfold W5;rw [h];rfl
 ·rw [I9 h];rfl
theorem B4S (l:List C1):A0E l []=some (L6 (l.length=0)):=by
 unfold A0E;rw [A9w]
 by_cases h:l.length=0
 ·rw [K9 h,D1a,D01];unfold A5e;refine J5 ?_;unfold Y7;rw [h];rfl
 ·rw [I9 h];rfl
theorem B2e (l:List Int):V2 l []=some (L6 (l.length=0)):=by
 unfold V2;rw [A9w]
 by_cases h:l.length=0
 ·rw [K9 h,D1a,D01];unfold A0v;refine J5 ?_;unfold A0g;rw [h];rfl
 ·rw [I9 h];rfl
theorem B8s (l:List B3):A4X l []=some (L6 (l.length=0)):=by
 unfold A4X;rw [A9w]
 by_cases h:l.length=0
 ·rw [K9 h,D1a,D01];unfold A8A;refine J5 ?_;unfold A2B;rw [h];rfl
 ·rw [I9 h];rfl
theorem A3z {α:Type} [Inhabited α] (g:Bool) (v:α):gd g (some v)=some (cond g v default):=by cases g<;>rfl
theorem A1O (g v d:Bool):(g&&cond g v d)=(g&&v):=by cases g<;>rfl
def B3l (x:C8):Prop:=x.W=0/\x.Cap=0/\x.Now=0/\x.Ar.length=0
theorem C5E (x:C8):A4I x ⟨0,0,0, []⟩=some (L6 (B3l x)):=by
 unfold A4I;rw [A7d];simp only [A3z,D0Y,A1O]
 congr 1
 rw [D1j,H0];unfold B3l;simp only [D06,D1S,H0,and_assoc]
def B5x (x:D5):Prop:=x.W=0/\x.K=0/\x.Cap=0/\x.Now=0/\x.Ab.length=0
theorem C64 (x:D5):A4M x ⟨0,0,0,0, []⟩=some (L6 (B5x x)):=by
 unfold A4M;rw [B2f];simp only [A3z,D0Y,A1O]
 congr 1
 rw [D1j,H0];unfold B5x;simp only [D06,D1S,H0,and_assoc]
def B98 (x:D9):Prop:=x.W=0/\x.K=0/\x.Cap=0/\x.Be=0/\x.Now=0/\x.Ab.length=0
theorem C9j (x:D9):A4N x ⟨0,0,0,0,0, []⟩=some (L6 (B98 x)):=by
 unfold A4N;rw [B2f];simp only [A3z,D0Y,A1O]
 congr 1
 rw [D1j,H0];unfold B98;simp only [D06,D1S,H0,and_assoc]
def B3m (x:C3):Prop:=x.Bd=0/\x.W=0/\x.K=0/\x.Cap=0/\x.Now=0/\x.Bg=0/\x.Av.length=0
theorem C5G (x:C3):A4O x ⟨0,0,0,0,0,0, []⟩=some (L6 (B3m x)):=by
 unfold A4O;rw [A7e];simp only [A3z,D0Y,A1O]
 congr 1
 rw [D1j,H0];unfold B3m;simp only [D06,D1S,H0,and_assoc]
def B3n (x:C4):Prop:=x.W=0/\x.K=0/\x.Cap=0/\x.Now=0/\x.Bg=0/\x.Av.length=0
theorem C5H (x:C4):A4P x ⟨0,0,0,0,0, []⟩=some (L6 (B3n x)):=by
 unfold A4P;rw [A7e];simp only [A3z,D0Y,A1O]
 congr 1
 rw [D1j,H0];unfold B3n;simp only [D06,D1S,H0,and_assoc]
def B7X (x:D3):Prop:=x.P=0/\x.Ay=0/\x.Now=0/\x.Ae.length=0
theorem C7Z (x:D3):A4Q x ⟨0,0,0, []⟩=some (L6 (B7X x)):=by
 unfold A4Q;rw [B4S];simp only [A3z,D0Y,A1O]
 congr 1
 rw [D1j,H0];unfold B7X;simp only [D06,D1S,H0,and_assoc]
def B5y (x:E5):Prop:=x.Now=0/\x.Bc.length=0
theorem C65 (x:E5):A4R x ⟨0, []⟩=some (L6 (B5y x)):=by
 unfold A4R;rw [B2e];simp only [A3z,D0Y,A1O]
 congr 1
 rw [D1j,H0];unfold B5y;simp only [D06,D1S,H0,and_assoc]
def B1u (x:B7):Prop:=x.Be=false/\x.W=0/\x.Cap=0/\x.Now=0/\x.Ar.length=0
theorem C3t (x:B7):A4S x ⟨false,0,0,0, []⟩=some (L6 (B1u x)):=by
 unfold A4S;rw [A7d];simp only [A3z,D0Y,A1O]
 congr 1
 rw [D1j,H0];unfold B1u;simp only [D06,D1S,H0,and_assoc]
def A7I (x:D6):Prop:=x.Ah.length=0
theorem C5F (x:D6):A4T x ⟨[]⟩=some (L6 (A7I x)):=by
 unfold A4T
 by_cases h:A7I x
 ·have h' :=h;unfold A7I at h';rw [K9 h];have e:((x.Ah.length:Int) !=(([]:List A9).length:Int))=false:=by simp [h']
  rw [e,D01];unfold A5P;refine J5 ?_;unfold A4U;rw [h'];rfl
 ·rw [I9 h];have e:((x.Ah.length:Int) !=(([]:List A9).length:Int))=true:=by
   unfold A7I at h;rw [D1j];simp only [D09,bne_iff_ne,D1u,iff_true,Int.natCast_zero,ne_eq];omega
  rw [e,D02]
def A6p (x:A8):Prop:=x.K=0/\x.Cap=0/\x.N=0/\x.Ao.length=0
theorem C3u (x:A8):A4V x ⟨0,0,0, []⟩=some (L6 (A6p x)):=by
 unfold A4V
 by_cases h:A6p x
 ·have h' :=h;unfold A6p at h';rw [K9 h];have e:((((x.K !=0)||(x.Cap !=0))||(x.N !=0))||((x.Ao.length:Int) !=(([]:List D4).length:Int)))=false:=by simp [h']
  rw [e,D01];unfold A8z;refine J5 ?_;unfold A2y;rw [h'.2.2.2];rfl
 ·rw [I9 h];have e:((((x.K !=0)||(x.Cap !=0))||(x.N !=0))||((x.Ao.length:Int) !=(([]:List D4).length:Int)))=true:=by
   unfold A6p at h;rw [D1j];simp only [D09,bne_iff_ne,D1u,iff_true,Int.natCast_zero,ne_eq];omega
  rw [e,D02]
def A9u (x:B8):Prop:=x.W=0/\x.K=0/\x.Cap=0/\x.Now=0/\x.Ag.length=0
theorem C2u (x:B8):A4Y x ⟨0,0,0,0, []⟩=some (L6 (A9u x)):=by
 unfold A4Y;rw [B8s];simp only [A3z,D0Y,A1O]
 congr 1
 rw [D1j,H0];unfold A9u;simp only [D06,D1S,H0,and_assoc]
theorem A0k (s:C2):L9 s=⟨s.Ai,if s.Ai.Ax=1 then s.Aj else ⟨0,0,0, []⟩,if s.Ai.Ax=2 then s.Ap else ⟨0,0,0,0, []⟩,if s.Ai.Ax=3 then s.Sum else ⟨0,0,0,0,0, []⟩,if s.Ai.Ax=4 then s.Al else ⟨0,0,0,0,0,0, []⟩,if s.Ai.Ax=5 then s.Am else ⟨0,0,0,0,0, []⟩,if s.Ai.Ax=6 then s.Bb else ⟨0,0,0, []⟩,if s.Ai.Ax=7 then s.Aq else ⟨0, []⟩,if s.Ai.Ax=8 then s.Ad else ⟨false,0,0,0, []⟩,if s.Ai.Ax=9 then s.Ak else ⟨[]⟩,if s.Ai.Ax=10 then s.Af else ⟨0,0,0, []⟩,if s.Ai.Ax=11 then s.Aa else ⟨0,0,0,0, []⟩⟩:=by
 unfold L9 L7
 by_cases hk:1<=s.Ai.Ax/\s.Ai.Ax<=11
 ·have:s.Ai.Ax=1\/s.Ai.Ax=2\/s.Ai.Ax=3\/s.Ai.Ax=4\/s.Ai.Ax=5\/s.Ai.Ax=6\/s.Ai.Ax=7\/s.Ai.Ax=8\/s.Ai.Ax=9\/s.Ai.Ax=10\/s.Ai.Ax=11:=by omega
  rcases this with h|h|h|h|h|h|h|h|h|h|h
  all_goals
   rw [h];simp only [Int.reduceBEq,beq_self_eq_true,D02,D01,Int.reduceEq,if_true,if_false]
 ·have e: ∀j:Int,1<=j->j<=11->(s.Ai.Ax==j)=false:=fun j h1 h2=>D1O.2 (by omega)
  have e2: ∀j:Int,1<=j->j<=11-> ¬s.Ai.Ax=j:=fun j h1 h2=>by omega
  rw [e 1 (by decide) (by decide),e 2 (by decide) (by decide),e 3 (by decide) (by decide),e 4 (by decide) (by decide),e 5 (by decide) (by decide),e 6 (by decide) (by decide),e 7 (by decide) (by decide),e 8 (by decide) (by decide),e 9 (by decide) (by decide),e 10 (by decide) (by decide),e 11 (by decide) (by decide),if_neg (e2 1 (by decide) (by decide)),if_neg (e2 2 (by decide) (by decide)),if_neg (e2 3 (by decide) (by decide)),if_neg (e2 4 (by decide) (by decide)),if_neg (e2 5 (by decide) (by decide)),if_neg (e2 6 (by decide) (by decide)),if_neg (e2 7 (by decide) (by decide)),if_neg (e2 8 (by decide) (by decide)),if_neg (e2 9 (by decide) (by decide)),if_neg (e2 10 (by decide) (by decide)),if_neg (e2 11 (by decide) (by decide))]
  rfl
theorem C2z (s:C2):(L9 s).Ai=s.Ai:=by rw [A0k]
theorem C2A (s:C2):(L9 s).Aj=if s.Ai.Ax=1 then s.Aj else ⟨0,0,0, []⟩:=by rw [A0k]
theorem C4u (s:C2):(L9 s).Ap=if s.Ai.Ax=2 then s.Ap else ⟨0,0,0,0, []⟩:=by rw [A0k]
theorem C7c (s:C2):(L9 s).Sum=if s.Ai.Ax=3 then s.Sum else ⟨0,0,0,0,0, []⟩:=by rw [A0k]
theorem C2C (s:C2):(L9 s).Al=if s.Ai.Ax=4 then s.Al else ⟨0,0,0,0,0,0, []⟩:=by rw [A0k]
theorem C2D (s:C2):(L9 s).Am=if s.Ai.Ax=5 then s.Am else ⟨0,0,0,0,0, []⟩:=by rw [A0k]
theorem C5M (s:C2):(L9 s).Bb=if s.Ai.Ax=6 then s.Bb else ⟨0,0,0, []⟩:=by rw [A0k]
theorem C4v (s:C2):(L9 s).Aq=if s.Ai.Ax=7 then s.Aq else ⟨0, []⟩:=by rw [A0k]
theorem C0g (s:C2):(L9 s).Ad=if s.Ai.Ax=8 then s.Ad else ⟨false,0,0,0, []⟩:=by rw [A0k]
theorem C2B (s:C2):(L9 s).Ak=if s.Ai.Ax=9 then s.Ak else ⟨[]⟩:=by rw [A0k]
theorem C0h (s:C2):(L9 s).Af=if s.Ai.Ax=10 then s.Af else ⟨0,0,0, []⟩:=by rw [A0k]
theorem B9t (s:C2):(L9 s).Aa=if s.Ai.Ax=11 then s.Aa else ⟨0,0,0,0, []⟩:=by rw [A0k]
def A7r (s:C2):Prop:=(s.Ai.Ax≠1->B3l s.Aj)/\(s.Ai.Ax≠2->B5x s.Ap)/\(s.Ai.Ax≠3->B98 s.Sum)/\(s.Ai.Ax≠4->B3m s.Al)/\(s.Ai.Ax≠5->B3n s.Am)/\(s.Ai.Ax≠6->B7X s.Bb)/\(s.Ai.Ax≠7->B5y s.Aq)/\(s.Ai.Ax≠8->B1u s.Ad)/\(s.Ai.Ax≠9->A7I s.Ak)/\(s.Ai.Ax≠10->A6p s.Af)/\(s.Ai.Ax≠11->A9u s.Aa)
theorem A2F {α:Type} {Same:α->α->Option Bool} {x z:α} {zr:Prop} {k j:Int} (hr:Same x x=some true) (hz:Same x z=some (L6 zr)):Same x (if k=j then x else z)=some (L6 (k≠j->zr)):=by
 by_cases h:k=j
 ·rw [if_pos h,hr,K9 fun h2=>absurd h h2]
 ·rw [if_neg h,hz]
  congr 1
  rw [D1j,H0,H0];exact ⟨fun h2 _=>h2,fun h2=>h2 h⟩
theorem C5q (s:C2) (w:M8 s):A28 s (L9 s)=some (L6 (A7r s)):=by
 obtain ⟨_,w1,w2,w3,w4,w5,w6,w7,w8,w9,w10,w11⟩:=w;have e1:=A2F (k:=s.Ai.Ax) (j:=1) (B7J s.Aj (F3 w1.2.2.2.1)) (C5E s.Aj);have e2:=A2F (k:=s.Ai.Ax) (j:=2) (B56 s.Ap (F3 w2.2.2.2.2.1)) (C64 s.Ap);have e3:=A2F (k:=s.Ai.Ax) (j:=3) (B57 s.Sum (F3 w3.2.2.2.2.2.1)) (C9j s.Sum);have e4:=A2F (k:=s.Ai.Ax) (j:=4) (B58 s.Al (F3 w4.2.2.2.2.2.2.1)) (C5G s.Al);have e5:=A2F (k:=s.Ai.Ax) (j:=5) (B59 s.Am (F3 w5.2.2.2.2.2.1)) (C5H s.Am);have e6:=A2F (k:=s.Ai.Ax) (j:=6) (B6a s.Bb (F3 w6.2.2.2.1)) (C7Z s.Bb);have e7:=A2F (k:=s.Ai.Ax) (j:=7) (B6b s.Aq (F3 w7.2.1)) (C65 s.Aq);have e8:=A2F (k:=s.Ai.Ax) (j:=8) (B6c s.Ad (F3 w8.2.2.2.2.1)) (C3t s.Ad);have e9:=A2F (k:=s.Ai.Ax) (j:=9) (B6d s.Ak (F3 w9.1) (fun c hc=>F3 (w9.2 c hc).2.2.2.2.1)) (C5F s.Ak);have e10:=A2F (k:=s.Ai.Ax) (j:=10) (B6e s.Af (F3 w10.2.2.2.1)) (C3u s.Af);have e11:=A2F (k:=s.Ai.Ax) (j:=11) (B6f s.Aa (F3 w11.2.2.2.2.1) (fun b hb=>F3 (w11.2.2.2.2.2 b hb).2.2.2.2.1)) (C2u s.Aa);unfold A28;rw [C2z,C2A,e1,C4u,e2,C7c,e3,C2C,e4,C2D,e5,C5M,e6,C4v,e7,C0g,e8,C2B,e9,C0h,e10,B9t,e11];simp only [beq_self_eq_true,D1z,A3z,D02,D0Y,A1O]
 congr 1
 rw [D1j,H0];unfold A7r;simp only [D06,H0,and_assoc]
theorem C6K (s:C2):A30 s=L6 (A7r s):=by
 unfold A30;rw [D1j,H0];unfold A7r;unfold B3l;unfold B5x;unfold B98;unfold B3m;unfold B3n;unfold B7X;unfold B5y;unfold B1u;unfold A7I;unfold A6p;unfold A9u;simp only [C7h,D06,D09,bne_iff_ne,D1S,D00,ne_eq];have fin: ∀ {c:Prop} [Decidable c] {b:Bool},((if c then false else b)=true)↔(¬c/\b=true):=by
  intro c _ b
  by_cases h:c
  ·rw [if_pos h];exact ⟨fun h2=>(by cases h2),fun h2=>absurd h h2.1⟩
  ·rw [if_neg h];exact ⟨fun h2=>⟨h,h2⟩,fun h2=>h2.2⟩
 simp only [fin,D09,D06,D1S];cases s.Ad.Be
 ·simp only [Bool.false_eq_true,false_or,true_and]
  repeat' apply and_congr
  all_goals first|omega|(simp;done)|(simp;omega)
 ·simp only [true_or,Bool.true_eq_false,false_and]
  repeat' apply and_congr
  all_goals first|omega|(simp;done)|(simp;omega)
def B4H (x:D6):Prop:=N4 x=some 0
theorem C5r (x:D6) (hl:x.Ah.length<=maxLen) (hc:∀c∈x.Ah,c.Au.length<=maxLen): ∃r,N4 x=some r/\X2 x=some r/\(r==0)=L6 (B4H x)/\(r=0->0<x.Ah.length):=by
 obtain ⟨r,h1,h2⟩:=A0Z x hl hc;refine ⟨r,h1,by rw [<-A8D x hc];exact h1, ?_,fun h=>by have:=(h2 h).1;omega⟩
 rw [D1j,H0,D1S];unfold B4H;rw [h1];simp
theorem C5k (x:C8) (hl:x.Ar.length<=maxLen):A0f x=some (vOf (okV x=true))/\R5 x=some (vOf (okV x=true)):=by
 have h:R5 x=some (vOf (okV x=true)):=by
  rw [B2B x hl]
  by_cases h:okV x=true
  ·rw [if_pos h,N0 h]
  ·rw [if_neg h,H3 h]
 exact ⟨by rw [B48];exact h,h⟩
def B2x (s:C2):Prop:=
 (s.Ai.Ax=1/\okV s.Aj=true/\s.Aj.W=s.Ai.W/\s.Aj.Cap=s.Ai.Cap)\/
 (s.Ai.Ax=2/\A6D s.Ap.Ab s.Ap.W s.Ap.K s.Ap.Cap s.Ap.Now/\s.Ap.W=s.Ai.W/\s.Ap.K=s.Ai.K/\s.Ap.Cap=s.Ai.Cap)\/
 (s.Ai.Ax=3/\B92 s.Sum/\s.Sum.W=s.Ai.W/\s.Sum.K=s.Ai.K/\s.Sum.Cap=s.Ai.Cap/\s.Sum.Be=s.Ai.Be)\/
 (s.Ai.Ax=4/\C5a s.Al/\s.Al.W=s.Ai.W/\s.Al.K=s.Ai.K/\s.Al.Cap=s.Ai.Cap/\s.Al.Bd=s.Ai.Bd)\/
 (s.Ai.Ax=5/\C5b s.Am/\s.Am.W=s.Ai.W/\s.Am.K=s.Ai.K/\s.Am.Cap=s.Ai.Cap)\/
 (s.Ai.Ax=6/\C48 s.Bb/\s.Bb.P=s.Ai.P)\/
 (s.Ai.Ax=7/\C47 s.Aq/\(s.Aq.Bc.length:Int)=s.Ai.W)\/
 (s.Ai.Ax=8/\C1G s.Ad/\s.Ad.W=s.Ai.W/\s.Ad.Cap=s.Ai.Cap/\s.Ad.Be=(s.Ai.Be==1))\/
 (s.Ai.Ax=9/\B4H s.Ak/\(s.Ak.Ah.length:Int)=s.Ai.Ah/\(el s.Ak.Ah 0).W=s.Ai.W/\(el s.Ak.Ah 0).Cap=s.Ai.Cap)\/
 (s.Ai.Ax=10/\C5c s.Af/\s.Af.K=s.Ai.K/\s.Af.Cap=s.Ai.Cap)\/
 (s.Ai.Ax=11/\C49 s.Aa/\s.Aa.W=s.Ai.W/\s.Aa.K=s.Ai.K/\s.Aa.Cap=s.Ai.Cap)
theorem C5p (s:C2) (w:M8 s) (hk:1<=s.Ai.Ax/\s.Ai.Ax<=11):A44 s=some (L6 (B2x s))/\A9k s=some (L6 (B2x s)):=by
 obtain ⟨_,w1,w2,w3,w4,w5,w6,w7,w8,w9,w10,w11⟩:=w;have e1:=C5k s.Aj (F3 w1.2.2.2.1);have e2:=B15 s.Ap (F3 w2.2.2.2.2.1);have e2' :=B2i s.Ap (F3 w2.2.2.2.2.1);have e3:=B46 s.Sum (F3 w3.2.2.2.2.2.1);have e3' :=B2j s.Sum (F3 w3.2.2.2.2.2.1);have e4:=B1n s.Al (F3 w4.2.2.2.2.2.2.1);have e4' :=B2l s.Al (F3 w4.2.2.2.2.2.2.1);have e5:=B1o s.Am (F3 w5.2.2.2.2.2.1);have e5' :=B2m s.Am (F3 w5.2.2.2.2.2.1);have e6:=B3H s.Bb (B6P w6.2.2.2.2);have e6' :=B2n s.Bb (B6P w6.2.2.2.2);have e7:=B19 s.Aq (F3 w7.2.1);have e7' :=B2o s.Aq (F3 w7.2.1);have e8:=A92 s.Ad (F3 w8.2.2.2.2.1);have e8' :=B2q s.Ad (F3 w8.2.2.2.2.1);obtain ⟨r9,e9,e9',b9,p9⟩:=C5r s.Ak (F3 w9.1) (fun c hc=>F3 (w9.2 c hc).2.2.2.2.1);have e10:=B0s s.Af;have e10' :=B2r s.Af;have hb:A6m s.Aa.Ag:=⟨w11.2.2.2.2.1,fun x hx=>(w11.2.2.2.2.2 x hx).2.2.2.2.1⟩;have e11:=A8T s.Aa hb;have e11' :=B2t s.Aa hb;have e: ∀j:Int,s.Ai.Ax≠j->(s.Ai.Ax==j)=false:=fun j h=>D1O.2 h;unfold B2x A44 A9k;rw [e1.1,e1.2,e2,e2',e3,e3',e4,e4',e5,e5',e6,e6',e7,e7',e8,e8',e9,e9',e10,e10',e11,e11'];have:s.Ai.Ax=1\/s.Ai.Ax=2\/s.Ai.Ax=3\/s.Ai.Ax=4\/s.Ai.Ax=5\/s.Ai.Ax=6\/s.Ai.Ax=7\/s.Ai.Ax=8\/s.Ai.Ax=9\/s.Ai.Ax=10\/s.Ai.Ax=11:=by omega
 rcases this with h|h|h|h|h|h|h|h|h|h|h
 all_goals rw [h]
 case inr.inr.inr.inr.inr.inr.inr.inr.inl=>
  simp only [Int.reduceBEq,beq_self_eq_true,D02,D01,D0Y,b9,Int.reduceEq,false_and,false_or,or_false,true_and]
  by_cases q1:B4H s.Ak/\(s.Ak.Ah.length:Int)=s.Ai.Ah
  ·have h0:0<s.Ak.Ah.length:=p9 (by have:=K9 q1.1;rw [<-b9,D1S] at this;exact this)
   have g:(L6 (B4H s.Ak)&&((s.Ak.Ah.length:Int)==s.Ai.Ah))=true:=by
    rw [D06,H0,D1S];exact q1
   rw [g,A3v h0];simp only [G8,D0Y,D1z];have fin:some (((el s.Ak.Ah 0).W==s.Ai.W)&&((el s.Ak.Ah 0).Cap==s.Ai.Cap))=some (L6 (B4H s.Ak/\(s.Ak.Ah.length:Int)=s.Ai.Ah/\(el s.Ak.Ah 0).W=s.Ai.W/\(el s.Ak.Ah 0).Cap=s.Ai.Cap)):=by
    congr 1
    rw [D1j,H0,D06,D1S,D1S];exact ⟨fun h=>⟨q1.1,q1.2,h.1,h.2⟩,fun h=>⟨h.2.2.1,h.2.2.2⟩⟩
   rw [<-fin];cases ((el s.Ak.Ah 0).W==s.Ai.W)<;>exact ⟨rfl,rfl⟩
  ·have g:(L6 (B4H s.Ak)&&((s.Ak.Ah.length:Int)==s.Ai.Ah))=false:=by
    rw [D1e,Ne,D06,H0,D1S];exact q1
   rw [g];simp only [G2,D0Y,D1t];rw [I9 fun h=>q1 ⟨h.1,h.2.1⟩];exact ⟨rfl,rfl⟩
 all_goals
  simp only [Int.reduceBEq,beq_self_eq_true,D02,D01,D0Y,C9e,Int.reduceEq,false_and,false_or,or_false,true_and];constructor<;>congr 1<;>rw [D1j,H0]<;>simp only [D06,H0,D1S]<;>grind
def C1H (s:C2):Prop:=A6w s.Ai/\B2x s/\A7r s
theorem A0s (s:C2) (w:M8 s):V4 s=some (vOf (C1H s))/\A2E s=some (vOf (C1H s)):=by
 unfold V4 A2E;simp only [];rw [B0O,B2u,C6K,C5q s w]
 by_cases h1:A6w s.Ai
 ·obtain ⟨g1,g2⟩:=C5p s w h1.1;rw [C5u h1,g1,g2]
  by_cases h2:B2x s
  ·rw [K9 h2]
   by_cases h3:A7r s
   ·rw [K9 h3,N0 ⟨h1,h2,h3⟩];exact ⟨rfl,rfl⟩
   ·rw [I9 h3,H3 fun h=>h3 h.2.2];exact ⟨rfl,rfl⟩
  ·rw [I9 h2,H3 fun h=>h2 h.2.1];exact ⟨rfl,rfl⟩
 ·rw [B97 h1,H3 fun h=>h1 h.1];exact ⟨rfl,rfl⟩
end Go.Win
namespace Go.Win
open Go.Vc Go.Dec
def D0F:C2:=⟨⟨0,0,0,0,0,0,0,0⟩,⟨0,0,0, []⟩,⟨0,0,0,0, []⟩,⟨0,0,0,0,0, []⟩,⟨0,0,0,0,0,0, []⟩,⟨0,0,0,0,0, []⟩,⟨0,0,0, []⟩,⟨0, []⟩,⟨false,0,0,0, []⟩,⟨[]⟩,⟨0,0,0, []⟩,⟨0,0,0,0, []⟩⟩
def B4F (c:E4) (now:Int):C2:=⟨c,if c.Ax=1 then ⟨c.W,c.Cap,now, []⟩ else ⟨0,0,0, []⟩,
 if c.Ax=2 then ⟨c.W,c.K,c.Cap,now, []⟩ else ⟨0,0,0,0, []⟩,
 if c.Ax=3 then ⟨c.W,c.K,c.Cap,c.Be,now, []⟩ else ⟨0,0,0,0,0, []⟩,
 if c.Ax=4 then ⟨c.Bd,c.W,c.K,c.Cap,now,0, []⟩ else ⟨0,0,0,0,0,0, []⟩,
 if c.Ax=5 then ⟨c.W,c.K,c.Cap,now,0, []⟩ else ⟨0,0,0,0,0, []⟩,
 if c.Ax=6 then ⟨c.P,now,now,List.replicate (c.P+1).toNat ⟨0,0⟩⟩ else ⟨0,0,0, []⟩,
 if c.Ax=7 then ⟨now,List.replicate c.W.toNat 0⟩ else ⟨0, []⟩,
 if c.Ax=8 then ⟨c.Be==1,c.W,c.Cap,now, []⟩ else ⟨false,0,0,0, []⟩,
 if c.Ax=9 then ⟨List.replicate c.Ah.toNat ⟨c.W,c.Cap,0,0, []⟩⟩ else ⟨[]⟩,
 if c.Ax=10 then ⟨c.K,c.Cap,0, []⟩ else ⟨0,0,0, []⟩,
 if c.Ax=11 then ⟨c.W,c.K,c.Cap,now, []⟩ else ⟨0,0,0,0, []⟩⟩
theorem C42 {w c n:Int} (h1:1<=w/\w<=1048576) (h2:1<=c/\c<=65536) (h3:0<=n/\n<=16777216):A4G w c n=(⟨w,c,n, []⟩,0)/\B4L w c n=(⟨w,c,n, []⟩,0):=by
 unfold A4G B4L;simp only [C3Y,(P7 w c n).2 ⟨h1,h2,h3⟩];exact ⟨rfl,rfl⟩
theorem C6u {w k c n:Int} (h:A20 w k c n):A6f w k c n=(⟨w,k,c,n, []⟩,0)/\B4M w k c n=(⟨w,k,c,n, []⟩,0):=by
 unfold A6f B4M;simp only [(A7l w k c n).2 h,(P7 w c n).2 ⟨h.1,h.2.1,h.2.2.1⟩,(O3 k).2 h.2.2.2];exact ⟨rfl,rfl⟩
theorem C8S {w k c m n:Int} (h:A20 w k c n) (hm:1<=m/\m<=1024):A9A w k c m n=(⟨w,k,c,m,n, []⟩,0)/\B4N w k c m n=(⟨w,k,c,m,n, []⟩,0):=by
 unfold A9A B4N;have e:A0S m=true:=by unfold A0S;simp;exact hm
 simp only [(B0r w k c m n).2 ⟨h,hm⟩,(P7 w c n).2 ⟨h.1,h.2.1,h.2.2.1⟩,(O3 k).2 h.2.2.2,e];exact ⟨rfl,rfl⟩
theorem C44 {a w k c n:Int} (h:A20 w k c n) (ha:1<=a/\a<=4):A40 a w k c n=(⟨a,w,k,c,n,0, []⟩,0)/\B4P a w k c n=(⟨a,w,k,c,n,0, []⟩,0):=by
 unfold A40 B4P;have e:P5 a=true:=by unfold P5;simp;exact ha
 have e1:X8 a w k c n=true:=by
  unfold X8;simp only [(B18 _ _ _ _).2 h,Bool.and_true,D06,D00];exact ha
 simp only [e1,(P7 w c n).2 ⟨h.1,h.2.1,h.2.2.1⟩,(O3 k).2 h.2.2.2,e];exact ⟨rfl,rfl⟩
theorem C45 {w k c n:Int} (h:A20 w k c n):A41 w k c n=(⟨w,k,c,n,0, []⟩,0)/\B4R w k c n=(⟨w,k,c,n,0, []⟩,0):=by
 unfold A41 B4R;simp only [(B18 w k c n).2 h,(P7 w c n).2 ⟨h.1,h.2.1,h.2.2.1⟩,(O3 k).2 h.2.2.2];exact ⟨rfl,rfl⟩
theorem C7E {p n:Int} (hp:0<=p/\p<=4) (hn:0<=n/\n<=16777216):B6J p n=some (⟨p,n,n,List.replicate (p+1).toNat ⟨0,0⟩⟩,0)/\B1b p n=some (⟨p,n,n,List.replicate (p+1).toNat ⟨0,0⟩⟩,0):=by
 have h:B1b p n=some (⟨p,n,n,List.replicate (p+1).toNat ⟨0,0⟩⟩,0):=by
  unfold B1b;have e:(((decide (p<(0:Int)))||(decide (p>(4:Int))))||(!(F4 n)))=false:=by
   rw [(T6 n).2 hn];simp;omega
  simp only [e,D01,C6 (n:=p+1) (by omega) (by omega)]
  rw [D03 (by omega),R4]
 exact ⟨h,h⟩
theorem C6v {w n:Int} (hw:1<=w/\w<=64) (hn:0<=n/\n<=16777216):B0W w n=some (⟨n,List.replicate w.toNat 0⟩,0)/\B4T w n=some (⟨n,List.replicate w.toNat 0⟩,0):=by
 unfold B0W B4T;have e1:((((decide (w<(1:Int)))||(decide (w>(64:Int))))||(decide (n<(0:Int))))||(decide (n>(16777216:Int))))=false:=by simp;omega
 have e2:(((decide (w<(1:Int)))||(decide (w>(64:Int))))||(!(F4 n)))=false:=by
  rw [(T6 n).2 hn];simp;omega
 simp only [e1,e2,D01];rw [D03 (by omega),R4]
 exact ⟨rfl,rfl⟩
theorem C26 {m:Bool} {w c n:Int} (h1:1<=w/\w<=1048576) (h2:1<=c/\c<=65536) (h3:0<=n/\n<=16777216):A3w m w c n=(⟨m,w,c,n, []⟩,0)/\B4U m w c n=(⟨m,w,c,n, []⟩,0):=by
 unfold A3w B4U;simp only [C1y,(P7 w c n).2 ⟨h1,h2,h3⟩];exact ⟨rfl,rfl⟩
theorem C43 {n w c:Int} (hn:1<=n/\n<=16) (hw:1<=w/\w<=1048576) (hc:1<=c/\c<=64):A9n n w c=some (⟨List.replicate n.toNat ⟨w,c,0,0, []⟩⟩,0)/\B4V n w c=some (⟨List.replicate n.toNat ⟨w,c,0,0, []⟩⟩,0):=by
 have e:(decide (n<(1:Int))||decide (n>(16:Int)))=false:=by simp;omega
 have e2:N8 w c=(⟨w,c,0,0, []⟩,0):=by
  unfold N8;have:((((decide (w<(1:Int)))||(decide (w>(1048576:Int))))||(decide (c<(1:Int))))||(decide (c>(64:Int))))=false:=by simp;omega
  rw [this,D01]
 unfold A9n B4V;rw [e,D01,D01,D0A n w c hn.1 hn.2,C9F n w c hn.1 hn.2,<-C7C,e2];exact ⟨rfl,rfl⟩
theorem C27 {k c:Int} (hk:1<=k/\k<=64) (hc:2<=c/\c<=65536):A3H k c=(⟨k,c,0, []⟩,0)/\Y8 k c=(⟨k,c,0, []⟩,0):=by
 unfold A3H Y8;have e1:((((decide (k<(1:Int)))||(decide (k>(64:Int))))||(decide (c<(2:Int))))||(decide (c>(65536:Int))))=false:=by simp;omega
 have e2:(((!(H9 k))||(decide (c<(2:Int))))||(decide (c>(65536:Int))))=false:=by
  rw [(O3 k).2 hk];simp;omega
 simp only [e1,e2,D01];exact ⟨trivial,trivial⟩
theorem C1E {w k c n:Int} (h:A20 w k c n):A2n w k c n=(⟨w,k,c,n, []⟩,0)/\B4Z w k c n=(⟨w,k,c,n, []⟩,0):=by
 unfold A2n B4Z;simp only [(A5d w k c n).2 h,(P7 w c n).2 ⟨h.1,h.2.1,h.2.2.1⟩,(O3 k).2 h.2.2.2];exact ⟨rfl,rfl⟩
theorem C9G {c:E4} {now:Int} (hc:A6w c) (hn:0<=now/\now<=16777216):A61 c now=some (B4F c now,0)/\B9h c now=some (B4F c now,0):=by
 unfold A61 B9h;have et:A8C now=true:=(T6 now).2 hn;simp only [B0O,B2u,C5u hc,et,(T6 now).2 hn,D1B,D1a,D01];obtain ⟨k,agg,w,kk,cap,p,ch,mx⟩:=c;have hc' :=hc;unfold A6w at hc';simp only [] at hc';have:k=1\/k=2\/k=3\/k=4\/k=5\/k=6\/k=7\/k=8\/k=9\/k=10\/k=11:=by omega
 rcases this with h|h|h|h|h|h|h|h|h|h|h<;>subst h<;>simp only [Int.reduceBEq,beq_self_eq_true,D02,D01]
 ·obtain ⟨e1,e2⟩:=C42 (w:=w) (c:=cap) (n:=now) (by omega) (by omega) hn
  rw [e1,e2];exact ⟨rfl,rfl⟩
 ·obtain ⟨e1,e2⟩:=C6u (w:=w) (k:=kk) (c:=cap) (n:=now) ⟨by omega,by omega,hn,by omega⟩
  rw [e1,e2];exact ⟨rfl,rfl⟩
 ·obtain ⟨e1,e2⟩:=C8S (w:=w) (k:=kk) (c:=cap) (n:=now) (m:=mx) ⟨by omega,by omega,hn,by omega⟩ (by omega)
  rw [e1,e2];exact ⟨rfl,rfl⟩
 ·obtain ⟨e1,e2⟩:=C44 (a:=agg) (w:=w) (k:=kk) (c:=cap) (n:=now) ⟨by omega,by omega,hn,by omega⟩ (by omega)
  rw [e1,e2];exact ⟨rfl,rfl⟩
 ·obtain ⟨e1,e2⟩:=C45 (w:=w) (k:=kk) (c:=cap) (n:=now) ⟨by omega,by omega,hn,by omega⟩
  rw [e1,e2];exact ⟨rfl,rfl⟩
 ·obtain ⟨e1,e2⟩:=C7E (p:=p) (n:=now) (by omega) hn
  rw [e1,e2];exact ⟨rfl,rfl⟩
 ·obtain ⟨e1,e2⟩:=C6v (w:=w) (n:=now) (by omega) hn
  rw [e1,e2];exact ⟨rfl,rfl⟩
 ·obtain ⟨e1,e2⟩:=C26 (m:=(mx==1)) (w:=w) (c:=cap) (n:=now) (by omega) (by omega) hn
  rw [e1,e2];exact ⟨rfl,rfl⟩
 ·obtain ⟨e1,e2⟩:=C43 (n:=ch) (w:=w) (c:=cap) (by omega) (by omega) (by omega)
  rw [e1,e2];exact ⟨rfl,rfl⟩
 ·obtain ⟨e1,e2⟩:=C27 (k:=kk) (c:=cap) (by omega) (by omega)
  rw [e1,e2];exact ⟨rfl,rfl⟩
 ·obtain ⟨e1,e2⟩:=C1E (w:=w) (k:=kk) (c:=cap) (n:=now) ⟨by omega,by omega,hn,by omega⟩
  rw [e1,e2];exact ⟨rfl,rfl⟩
def lenS (s:C2):Prop:=s.Aj.Ar.length<=maxLen/\s.Ap.Ab.length<=maxLen/\s.Sum.Ab.length<=maxLen/\s.Al.Av.length<=maxLen/\s.Am.Av.length<=maxLen/\s.Bb.Ae.length<=maxLen/\s.Aq.Bc.length<=maxLen/\s.Ad.Ar.length<=maxLen/\
 (s.Ak.Ah.length<=maxLen/\ ∀c∈s.Ak.Ah,c.Au.length<=maxLen)/\s.Af.Ao.length<=maxLen/\(s.Aa.Ag.length<=maxLen/\ ∀b∈s.Aa.Ag,b.Aw.Ac.length<=maxLen)
theorem C3o (s:C2) (h:lenS s):A28 s s=some true:=by
 obtain ⟨h1,h2,h3,h4,h5,h6,h7,h8,h9,h10,h11⟩:=h;unfold A28;rw [B7J _ h1,B56 _ h2,B57 _ h3,B58 _ h4,B59 _ h5,B6a _ h6,B6b _ h7,B6c _ h8,B6d _ h9.1 h9.2,B6e _ h10,B6f _ h11.1 h11.2];simp
theorem C32 (s:C2) (w:M8 s):lenS s:=by
 obtain ⟨_,w1,w2,w3,w4,w5,w6,w7,w8,w9,w10,w11⟩:=w;exact ⟨F3 w1.2.2.2.1,F3 w2.2.2.2.2.1,F3 w3.2.2.2.2.2.1,F3 w4.2.2.2.2.2.2.1,F3 w5.2.2.2.2.2.1,F3 w6.2.2.2.1,F3 w7.2.1,F3 w8.2.2.2.2.1,
  ⟨F3 w9.1,fun c hc=>F3 (w9.2 c hc).2.2.2.2.1⟩,F3 w10.2.2.2.1,⟨F3 w11.2.2.2.2.1,fun b hb=>F3 (w11.2.2.2.2.2 b hb).2.2.2.2.1⟩⟩
theorem A2k {α:Type}:([]:List α).length<=maxLen:=Nat.zero_le _
theorem B5e:lenS D0F:=⟨A2k,A2k,A2k,A2k,A2k,A2k,A2k,A2k,⟨A2k,fun c h=>by cases h⟩,A2k,⟨A2k,fun c h=>by cases h⟩⟩
theorem C8R {c:E4} {now:Int} (hc:A6w c) (hn:0<=now/\now<=16777216):M8 (B4F c now):=by
 have i64: ∀ {n:Int},-9223372036854775808<=n/\n<=9223372036854775807->E7 .i64 n:=by
  intro n h;simp [E7,Lit.wf,IntKind.min,IntKind.max,IntKind.signed,IntKind.bits];omega
 have z:E7 .i64 0:=i64 (by omega)
 have hc' :=hc;unfold A6w at hc';have i1:E7 .i64 c.Ax:=i64 (by omega)
 have i2:E7 .i64 c.Bd:=i64 (by omega)
 have i3:E7 .i64 c.W:=i64 (by omega)
 have i4:E7 .i64 c.K:=i64 (by omega)
 have i5:E7 .i64 c.Cap:=i64 (by omega)
 have i6:E7 .i64 c.P:=i64 (by omega)
 have i7:E7 .i64 c.Ah:=i64 (by omega)
 have i8:E7 .i64 c.Be:=i64 (by omega)
 have i9:E7 .i64 now:=i64 (by omega)
 have nl: ∀ {α:Type} {wf:α->Prop},W2 wf ([]:List α):=⟨Nat.zero_le _,fun y h=>by cases h⟩
 have hz:E7 .u64 0:=by simp [E7,Lit.wf,IntKind.min,IntKind.max,IntKind.signed,IntKind.bits]
 have ite: ∀ {α:Type} {wf:α->Prop} {p:Prop} [Decidable p] {a b:α},wf a->wf b->wf (if p then a else b):=by
  intro α wf p _ a b ha hb;split<;>assumption
 refine ⟨⟨i1,i2,i3,i4,i5,i6,i7,i8⟩,ite (wf:=A7D) ?_ ?_,ite (wf:=A8E) ?_ ?_,ite (wf:=B1Q) ?_ ?_,ite (wf:=A7F) ?_ ?_,ite (wf:=A7G) ?_ ?_, ?_, ?_,ite (wf:=A63) ?_ ?_, ?_,ite (wf:=A65) ?_ ?_,ite (wf:=A6c) ?_ ?_⟩
 ·exact ⟨i3,i5,i9,nl⟩
 ·exact ⟨z,z,z,nl⟩
 ·exact ⟨i3,i4,i5,i9,nl⟩
 ·exact ⟨z,z,z,z,nl⟩
 ·exact ⟨i3,i4,i5,i8,i9,nl⟩
 ·exact ⟨z,z,z,z,z,nl⟩
 ·exact ⟨i2,i3,i4,i5,i9,z,nl⟩
 ·exact ⟨z,z,z,z,z,z,nl⟩
 ·exact ⟨i3,i4,i5,i9,z,nl⟩
 ·exact ⟨z,z,z,z,z,nl⟩
 ·show B0v (if c.Ax=6 then _ else _)
  by_cases h:c.Ax=6
  ·rw [if_pos h];refine ⟨i6,i9,i9, ?_,fun y hy=> ?_⟩
   ·rw [D1Z];omega
   ·rw [List.eq_of_mem_replicate hy];exact ⟨hz,hz⟩
  ·rw [if_neg h];exact ⟨z,z,z,nl⟩
 ·show A8F (if c.Ax=7 then _ else _)
  by_cases h:c.Ax=7
  ·rw [if_pos h];refine ⟨i9, ?_,fun y hy=> ?_⟩
   ·rw [D1Z];omega
   ·rw [List.eq_of_mem_replicate hy];exact z
  ·rw [if_neg h];exact ⟨z,nl⟩
 ·exact ⟨trivial,i3,i5,i9,nl⟩
 ·exact ⟨trivial,z,z,z,nl⟩
 ·show A7E (if c.Ax=9 then _ else _)
  by_cases h:c.Ax=9
  ·rw [if_pos h];refine ⟨?_,fun y hy=> ?_⟩
   ·rw [D1Z];omega
   ·rw [List.eq_of_mem_replicate hy];exact ⟨i3,i5,z,z,nl⟩
  ·rw [if_neg h];exact nl
 ·exact ⟨i4,i5,z,nl⟩
 ·exact ⟨z,z,z,nl⟩
 ·exact ⟨i3,i4,i5,i9,nl⟩
 ·exact ⟨z,z,z,z,nl⟩
end Go.Win
namespace Go.Win
open Go.Vc Go.Dec
theorem C5v (l:List B6) (n:Int):B2A l n=true↔F4 n=true/\(∀p∈l,0<=p.T/\p.T<=n)/\l.Pairwise (fun a b=>a.T<=b.T):=by
 unfold B2A;rw [D06,D1k];constructor
 ·rintro ⟨h1,h2⟩;have hno: ∀i,i<l.length->B1w l n i=false:=fun i hi=>by
   cases h:B1w l n i with
   |false=>rfl
   |true=>rw [A7h.2 ⟨i,hi,h⟩] at h2;cases h2
  refine ⟨h1,fun p hp=> ?_, ?_⟩
  ·obtain ⟨i,hi,rfl⟩:=List.mem_iff_getElem.1 hp;have:=hno i hi;simp only [B1w,J9 hi,D1y,D1f] at this;omega
  ·rw [List.pairwise_iff_getElem];intro i j hi hj hij;have adj: ∀k (hk:k+1<l.length),l[k].T<=l[k+1].T:=fun k hk=>by
    have:=hno (k+1) hk;simp only [B1w,J9 hk,D1F,J9 (show k<l.length by omega),Nat.succ_pos,decide_true,D1z,D1y,D1f] at this
    omega
   have key: ∀d (hd:i+d<l.length),l[i].T<=l[i+d].T:=by
    intro d
    induction d with
    |zero=>intro _;exact Int.le_refl _
    |succ d ih=>
     intro hd;exact Int.le_trans (ih (by omega)) (adj (i+d) hd)
   have:=key (j-i) (by omega)
   have e:i+(j-i)=j:=by omega
   simpa [e] using this
 ·rintro ⟨h1,h2,h3⟩;refine ⟨h1, ?_⟩;cases hc:(List.range l.length).any (B1w l n) with
  |false=>rfl
  |true=>
   exfalso;obtain ⟨i,hi,hb⟩:=A7h.1 hc;have:=h2 l[i] (D1N hi);simp only [B1w,J9 hi,D09,D06,D00] at hb;rcases hb with (hb|hb)|⟨hb,hb2⟩
   ·omega
   ·omega
   ·rw [J9 (show i-1<l.length by omega)] at hb2
    simp only [D00] at hb2;have:=List.pairwise_iff_getElem.1 h3 (i-1) i (by omega) hi (by omega)
    omega
theorem C8T (x:C8):okV x=true↔(1<=x.W/\x.W<=1048576)/\(1<=x.Cap/\x.Cap<=65536)/\F4 x.Now=true/\(x.Ar.length:Int)<=x.Cap/\(∀p∈x.Ar,0<=p.T/\p.T<=x.Now/\p.T>x.Now-x.W/\D8 p.V=true)/\x.Ar.Pairwise (fun a b=>a.T<=b.T):=by
 unfold okV;rw [D06,D06,D06,C5v,D1A,D00];have hm:H6 x.W x.Cap x.Now=true↔(1<=x.W/\x.W<=1048576)/\(1<=x.Cap/\x.Cap<=65536)/\F4 x.Now=true:=by
  unfold H6 M6;simp only [D06,D00];constructor
  ·rintro ⟨⟨⟨⟨a,b⟩,c⟩,d⟩,e⟩;exact ⟨⟨a,b⟩,⟨c,d⟩,e⟩
  ·rintro ⟨⟨a,b⟩,⟨c,d⟩,e⟩;exact ⟨⟨⟨⟨a,b⟩,c⟩,d⟩,e⟩
 rw [hm];constructor
 ·rintro ⟨⟨⟨h1,h2,h3⟩,h4⟩,⟨_,h6,h7⟩,h8⟩;refine ⟨h1,h2,h3,h4,fun p hp=> ?_,h7⟩;have a:=h6 p hp;have b:=h8 p hp;unfold F7 at b;unfold F4 at h3;simp only [D06,D00] at b h3;have e:A2 (x.Now-x.W)=x.Now-x.W:=by rw [C6]<;>omega
  rw [e] at b;exact ⟨a.1,a.2,b.1.1.2,b.2⟩
 ·rintro ⟨h1,h2,h3,h4,h5,h6⟩;refine ⟨⟨⟨h1,h2,h3⟩,h4⟩,⟨h3,fun p hp=>⟨(h5 p hp).1,(h5 p hp).2.1⟩,h6⟩,fun p hp=> ?_⟩;obtain ⟨a,b,c,d⟩:=h5 p hp;have h3' :=h3;unfold F4 at h3';simp only [D06,D00] at h3';have e:A2 (x.Now-x.W)=x.Now-x.W:=by rw [C6]<;>omega
  unfold F7 M6;rw [e];have ht:F4 p.T=true:=by
   unfold F4;simp only [D06,D00];omega
  simp only [D06,D00,h3,ht,d,true_and,and_true];omega
end Go.Win
namespace Go.Win
open Go.Vc Go.Dec
theorem A2d {α:Type} [Inhabited α] {n:Nat} {a:α} {i:Nat} (h:i<n):el (List.replicate n a) i=a:=by
 rw [A79 (by rw [D1Z];exact h),List.getElem_replicate]
theorem C9i:wv ⟨0,0⟩=0:=rfl
theorem C8Q {c:E4} {now:Int} (hc:A6w c) (hn:0<=now/\now<=16777216):C1H (B4F c now):=by
 have hc' :=hc;unfold A6w at hc';refine ⟨hc, ?_, ?_⟩
 ·have:c.Ax=1\/c.Ax=2\/c.Ax=3\/c.Ax=4\/c.Ax=5\/c.Ax=6\/c.Ax=7\/c.Ax=8\/c.Ax=9\/c.Ax=10\/c.Ax=11:=by omega
  unfold B2x B4F;have no: ∀ {α:Type} {p:Nat->Prop},∀i,i<([]:List α).length->p i:=fun i h=>absurd h (Nat.not_lt_zero i);have bk0: ∀ {k:Int},1<=k/\k<=128->A39 [] k:=fun h=>⟨h,no,fun h=>absurd h (Nat.not_lt_zero 0)⟩;have mk0: ∀ {a b d e:Int},A3B [] 0 a b d e:=⟨by omega,no,fun h=>absurd h (Nat.not_lt_zero 0)⟩
  have w0:A2 (K5 [])=0:=rfl;rcases this with h|h|h|h|h|h|h|h|h|h|h<;>simp only [h,Int.reduceEq,if_true,if_false,false_and,false_or,or_false,true_and,and_true]
  ·rw [C8T];refine ⟨by (try dsimp only);omega,by (try dsimp only);omega,(T6 _).2 hn, ?_,fun p hp=>(by cases hp),List.Pairwise.nil⟩
   show (0:Int)<=c.Cap;omega
  ·exact ⟨⟨by (try dsimp only);omega,by (try dsimp only);omega,hn,by (try dsimp only);omega⟩,bk0 (by (try dsimp only);omega),by (try dsimp only);rw [w0];omega,no⟩
  ·exact ⟨⟨⟨by (try dsimp only);omega,by (try dsimp only);omega,hn,by (try dsimp only);omega⟩,bk0 (by (try dsimp only);omega),by (try dsimp only);rw [w0];omega,no⟩,by (try dsimp only);omega⟩
  ·exact ⟨by (try dsimp only);omega,⟨by (try dsimp only);omega,by (try dsimp only);omega,hn,by (try dsimp only);omega⟩,mk0,no⟩
  ·exact ⟨⟨by (try dsimp only);omega,by (try dsimp only);omega,hn,by (try dsimp only);omega⟩,mk0,fun i _ h=>absurd h (Nat.not_lt_zero i)⟩
  ·refine ⟨⟨by (try dsimp only);omega,hn,by (try dsimp only);omega,by (try dsimp only);rw [D1Z];omega⟩,fun i h1 h2=> ?_⟩
   have h2' :(i:Int)<=c.P:=h2;simp only [];rw [A2d (by (try dsimp only);omega),A2d (by (try dsimp only);omega),C9i]
   omega
  ·refine ⟨⟨⟨by (try dsimp only);rw [D1Z];omega,hn⟩,fun i hi=> ?_⟩,by (try dsimp only);rw [D1Z];omega⟩
   simp only [D1Z] at hi;simp only [];rw [A2d hi];omega
  ·exact ⟨⟨⟨by (try dsimp only);omega,by (try dsimp only);omega,hn⟩,by show (0:Int)<=c.Cap;omega⟩,no⟩
  ·have h0:0<c.Ah.toNat:=by omega
   rw [A2d h0,D1Z];refine ⟨?_,by omega,rfl,rfl⟩
   unfold B4H N4;have e:(decide (((⟨List.replicate c.Ah.toNat ⟨c.W,c.Cap,0,0, []⟩⟩:D6).Ah.length:Int)<1)||decide (((⟨List.replicate c.Ah.toNat ⟨c.W,c.Cap,0,0, []⟩⟩:D6).Ah.length:Int)>16))=false:=by
    simp only [D1Z];simp;omega
   rw [e,D01];unfold A1L;refine (L1 (f:=fun s:Int=>N9 ⟨List.replicate c.Ah.toNat ⟨c.W,c.Cap,0,0, []⟩⟩ s) c.Ah.toNat (fun _=>False) 2 (some 0) (fun i hi _=>⟨fun h=>h.elim,fun _=> ?_⟩) (fun _=> ?_)).2 fun _ _ h=>h
   ·unfold N9;have ec:L2 ⟨c.W,c.Cap,0,0, []⟩=some 0:=by
     unfold L2;have:(((((((decide (c.W<(1:Int)))||(decide (c.W>(1048576:Int))))||(decide (c.Cap<(1:Int))))||(decide (c.Cap>(64:Int))))||(decide ((0:Int)<(0:Int))))||(decide ((0:Int)>(1099511627776:Int))))||(decide ((([]:List E9).length:Int)>c.Cap)))=false:=by
      rw [D1e];simp only [D09,D00,Ne,D1u];omega
     simp only [this,D01]
     rfl
    have h16:c.Ah.toNat<=16:=by omega
    have es:A2 ((i:Int)+1)=((i+1:Nat):Int):=by rw [C6]<;>omega
    have e1:D2 (List.replicate c.Ah.toNat (⟨c.W,c.Cap,0,0, []⟩:A9)) (i:Int)=some ⟨c.W,c.Cap,0,0, []⟩:=by rw [F8 (by rw [D1Z];exact hi),A2d hi]
    have e0:D2 (List.replicate c.Ah.toNat (⟨c.W,c.Cap,0,0, []⟩:A9)) (0:Int)=some ⟨c.W,c.Cap,0,0, []⟩:=by rw [A3v (by rw [D1Z];exact h0),A2d h0]
    have e2:decide ((i:Int)<((List.replicate c.Ah.toNat (⟨c.W,c.Cap,0,0, []⟩:A9)).length:Int))=true:=D03 (by rw [D1Z];omega)
    simp only [e2,D02,e0,e1,D0Y,ec,D1B,Bool.or_false,D01,es]
   ·unfold N9;have e2:decide ((c.Ah.toNat:Int)<((List.replicate c.Ah.toNat (⟨c.W,c.Cap,0,0, []⟩:A9)).length:Int))=false:=D05 (by rw [D1Z];omega)
    simp only [e2,D01]
  ·exact ⟨⟨by (try dsimp only);omega,by (try dsimp only);omega,by show (0:Int)<=0/\(0:Int)<=1099511627776;omega,by show (0:Int)<=c.Cap;omega⟩,⟨fun _=>rfl,fun _=>rfl⟩,no,fun h=>absurd h (Nat.not_lt_zero 0)⟩
  ·refine ⟨⟨by (try dsimp only);omega,by (try dsimp only);omega,hn,by (try dsimp only);omega⟩,fun b hb=> ?_,by show A2 (K5 [])<=c.Cap;rw [w0];omega,no⟩
   obtain ⟨b',_,b2,b3⟩:=B5p (k:=c.K) (c:=c.Cap) (by (try dsimp only);omega) (by (try dsimp only);omega)
   have hb' :A27 c.K c.Cap=some b:=hb;rw [b2] at hb';cases hb';exact ⟨b3,bk0 (by (try dsimp only);omega),no⟩
 ·unfold A7r B4F;refine ⟨?_, ?_, ?_, ?_, ?_, ?_, ?_, ?_, ?_, ?_, ?_⟩
  all_goals
   intro h;simp only [] at h;rw [if_neg h]
  ·exact ⟨rfl,rfl,rfl,rfl⟩
  ·exact ⟨rfl,rfl,rfl,rfl,rfl⟩
  ·exact ⟨rfl,rfl,rfl,rfl,rfl,rfl⟩
  ·exact ⟨rfl,rfl,rfl,rfl,rfl,rfl,rfl⟩
  ·exact ⟨rfl,rfl,rfl,rfl,rfl,rfl⟩
  ·exact ⟨rfl,rfl,rfl,rfl⟩
  ·exact ⟨rfl,rfl⟩
  ·exact ⟨rfl,rfl,rfl,rfl,rfl⟩
  ·exact rfl
  ·exact ⟨rfl,rfl,rfl,rfl⟩
  ·exact ⟨rfl,rfl,rfl,rfl,rfl⟩
theorem C8o:A5n=some true:=by
 unfold A5n;have hc:A6w ⟨6,0,0,0,0,2,0,0⟩:=by unfold A6w;simp
 obtain ⟨e1,_⟩:=C9G hc (now:=0) (by decide)
 rw [e1,D0Y];have hw:=C8R hc (now:=0) (by decide)
 have hr:A3b (B4F ⟨6,0,0,0,0,2,0,0⟩ 0)=some 3:=by
  unfold A3b;rw [(A0s _ hw).1,N0 (C8Q hc (by decide)),D0Y]
  show A3N _ 3 0=some 3;unfold A3N;rw [J5 (r:=3)];show Option.map Sum.inr (A3O (B4F ⟨6,0,0,0,0,2,0,0⟩ 0) 3 0)=_;unfold A3O;rw [J5 (r:=3)]
  ·rfl
  ·rfl
 rw [hr]
 rfl
end Go.Win
