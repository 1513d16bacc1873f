/- Plain laws of the functions on plain data. -/
import Derived.Test.YtoljnakoodalpaaGreatVc
import Derived.Test.YtoljnakoodalpaaGreatWin
set_option linter.unusedVariables false
set_option linter.unusedSimpArgs false
set_option linter.unnecessarySimpa false
set_option linter.unusedSectionVars false
namespace Go.Win
open Go.Vc Go.Dec
theorem A7 {n:Int} (h1:-9223372036854775808<=n) (h2:n<=9223372036854775807):A2 n=n:=by
 show IntKind.i64.wrap n=n;rw [IntKind.wrap_i64];omega
theorem C4o (n:Int):A2 n=(n+9223372036854775808)%18446744073709551616-9223372036854775808:=by
 show IntKind.i64.wrap n=_;rw [IntKind.wrap_i64]
theorem B6g (n:Int):G8 n=n%18446744073709551616:=by
 show IntKind.u64.wrap n=_;rw [IntKind.wrap_u64]
theorem A1z {R:Type} {f:Int->Option (Int⊕R)} {n:Nat} {bad:Nat->Bool} {E:R} {A:Option R}
  (hs:∀i:Nat,i<n->f i=cond (bad i) (some (.inr E)) (some (.inl ((i:Int)+1)))) (hd:f n=Option.map Sum.inr A):
  loop f 0=cond ((List.range n).any bad) (some E) A:=by
 have key: ∀k i:Nat,i+k=n->loop f i=cond ((List.range' i k).any bad) (some E) A:=by
  intro k
  induction k with
  |zero=>
   intro i hi;have hi:i=n:=by omega
   subst hi;rw [R1,hd];cases A<;>rfl
  |succ k ih=>
   intro i hi;rw [R1,hs i (by omega),List.range'_succ,List.any_cons]
   cases hb:bad i with
   |true=>rfl
   |false=>
    have:=ih (i+1) (by omega)
    simpa using this
 have:=key n 0 (by omega)
 rw [<-List.range_eq_range'] at this;exact this
theorem C6R {S R β:Type} {f:S->Option (S⊕R)} (st:Nat->β->S) (n:Nat) (I:Nat->β->Prop) (g:Nat->β->β) (A:β->Option R)
  (hs:∀(i:Nat) (b:β),i<n->I i b->f (st i b)=some (.inl (st (i+1) (g i b)))/\I (i+1) (g i b)) (hd:∀b,I n b->f (st n b)=Option.map Sum.inr (A b)) (b:β) (h0:I 0 b):
  loop f (st 0 b)=A ((List.range n).foldl (fun b i=>g i b) b)/\I n ((List.range n).foldl (fun b i=>g i b) b):=by
 have key: ∀k i:Nat,∀b,i+k=n->I i b->loop f (st i b)=A ((List.range' i k).foldl (fun b i=>g i b) b)/\I n ((List.range' i k).foldl (fun b i=>g i b) b):=by
  intro k
  induction k with
  |zero=>
   intro i b hi hb;have hi:i=n:=by omega
   subst hi;rw [R1,hd b hb];simp only [List.range'_zero,List.foldl_nil];exact ⟨by (cases A b<;>rfl),hb⟩
  |succ k ih=>
   intro i b hi hb;obtain ⟨h1,h2⟩:=hs i b (by omega) hb
   rw [R1,h1,List.range'_succ,List.foldl_cons];exact ih (i+1) _ (by omega) h2
 have:=key n 0 b (by omega) h0
 rw [<-List.range_eq_range'] at this;exact this
theorem A6W {n:Nat} {p:Nat->Bool}:(List.range n).any p=true↔ ∃i,i<n/\p i=true:=by
 simp [List.any_eq_true]
theorem F8:maxLen=9223372036854775807:=rfl
end Go.Win
namespace Go.Win
open Go.Vc Go.Dec
def el {α:Type} [Inhabited α] (l:List α) (i:Nat):α:=l.getD i default
theorem A1q {α:Type} [Inhabited α] {l:List α} {i:Nat} (h:i<l.length):l[i]? =some (el l i):=by
 unfold el;rw [D3q h];simp [List.getD,D3q h]
theorem K7 {α:Type} [Inhabited α] {l:List α} {i:Nat} (h:i<l.length):el l i=l[i]:=by
 have:=A1q h;rw [D3q h] at this;exact (D3V this).symm
theorem F4 {α:Type} [Inhabited α] {l:List α} {i:Nat} (h:i<l.length):D0 l (i:Int)=some (el l i):=by
 rw [I2,A1q h]
theorem A21 {α:Type} [Inhabited α] {l:List α} (h:0<l.length):D0 l (0:Int)=some (el l 0):=F4 h
theorem J0 {α:Type} [Inhabited α] {l:List α} {i:Nat} (h:i<l.length):el l i∈l:=by
 rw [K7 h];exact D31 h
theorem R9 {α:Type} [Inhabited α] {l:List α} {x:α} (h:x∈l): ∃i,i<l.length/\el l i=x:=by
 obtain ⟨i,hi,e⟩:=List.getElem_of_mem h;exact ⟨i,hi,by rw [K7 hi];exact e⟩
theorem A2l {i n:Nat} (h0:0<i) (h:i<=n) (hm:n<=maxLen):A2 ((i:Int)-1)=((i-1:Nat):Int):=by
 rw [F8] at hm;rw [A7]<;>omega
theorem Q4 {i n:Nat} (h:i<n) (hm:n<=maxLen):A2 ((i:Int)+1)=((i+1:Nat):Int):=by
 rw [F8] at hm;rw [A7]<;>omega
theorem A1W {S R:Type} {f:S->Option (S⊕R)} (st:Nat->S) (a n:Nat) (han:a<=n) (bad:Nat->Prop) (E:R) (A:Option R)
  (hs:∀i,a<=i->i<n->(∀j,a<=j->j<i-> ¬bad j)->(bad i->f (st i)=some (.inr E))/\(¬bad i->f (st i)=some (.inl (st (i+1)))))
  (hd:(∀j,a<=j->j<n-> ¬bad j)->f (st n)=Option.map Sum.inr A):
  ((∃i,a<=i/\i<n/\bad i)->loop f (st a)=some E)/\((∀i,a<=i->i<n-> ¬bad i)->loop f (st a)=A):=by
 have key: ∀k i:Nat,a<=i->i+k=n->(∀j,a<=j->j<i-> ¬bad j)->
   ((∃j,i<=j/\j<n/\bad j)->loop f (st i)=some E)/\((∀j,i<=j->j<n-> ¬bad j)->loop f (st i)=A):=by
  intro k
  induction k with
  |zero=>
   intro i hai hi hb;have hi:i=n:=by omega
   subst hi;refine ⟨fun ⟨j,h1,h2,_⟩=>by omega,fun _=> ?_⟩
   rw [R1,hd hb];cases A<;>rfl
  |succ k ih=>
   intro i hai hi hb;obtain ⟨h1,h2⟩:=hs i hai (by omega) hb
   by_cases hbi:bad i
   ·refine ⟨fun _=>G9 (h1 hbi),fun h=>absurd hbi (h i (D3U _) (by omega))⟩
   ·obtain ⟨g1,g2⟩:=ih (i+1) (by omega) (by omega) (fun j h3 h4=>by
     by_cases e:j=i
     ·subst e;exact hbi
     ·exact hb j h3 (by omega))
    rw [M3 (h2 hbi)];refine ⟨fun ⟨j,h3,h4,h5⟩=>g1 ⟨j, ?_,h4,h5⟩,fun h=>g2 fun j h3 h4=>h j (by omega) h4⟩
    by_cases e:j=i
    ·subst e;exact absurd h5 hbi
    ·omega
 exact key (n-a) a (D3U _) (by omega) (fun j _ _=>by omega)
theorem L2 {R:Type} {f:Int->Option (Int⊕R)} (n:Nat) (bad:Nat->Prop) (E:R) (A:Option R)
  (hs:∀i:Nat,i<n->(∀j,j<i-> ¬bad j)->(bad i->f (i:Int)=some (.inr E))/\(¬bad i->f (i:Int)=some (.inl ((i+1:Nat):Int))))
  (hd:(∀j,j<n-> ¬bad j)->f (n:Int)=Option.map Sum.inr A):
  ((∃i,i<n/\bad i)->loop f 0=some E)/\((∀i,i<n-> ¬bad i)->loop f 0=A):=by
 have:=A1W (f:=f) (fun i=>(i:Int)) 0 n (Nat.zero_le _) bad E A (fun i _ h2 h3=>hs i h2 fun j h4=>h3 j (Nat.zero_le _) h4) (fun h=>hd fun j h4=>h j (Nat.zero_le _) h4);exact ⟨fun ⟨i,h1,h2⟩=>this.1 ⟨i,Nat.zero_le _,h1,h2⟩,fun h=>this.2 fun i _ h1=>h i h1⟩
theorem C9b {α:Type} (b:Bool) (x y:α):cond b x y=if b=true then x else y:=by cases b<;>rfl
open Classical in
noncomputable def vOf (p:Prop):Int:=if p then 0 else 2
theorem K9 {p:Prop} (h:p):vOf p=0:=by unfold vOf;rw [if_pos h]
theorem H8 {p:Prop} (h:¬p):vOf p=2:=by unfold vOf;rw [if_neg h]
open Classical in
noncomputable def P4 (p:Prop):Bool:=if p then true else false
theorem L7 {p:Prop} (h:p):P4 p=true:=by unfold P4;rw [if_pos h]
theorem J3 {p:Prop} (h:¬p):P4 p=false:=by unfold P4;rw [if_neg h]
theorem H2 {p:Prop}:P4 p=true↔p:=by
 unfold P4;split<;>simp_all
end Go.Win
namespace Go.Win
open Go.Vc Go.Dec
def B3i (x:A5) (i:Nat):Bool:=match x.Au[i]? with
 |none=>false
 |some l=>(((((decide (l.V<(-4096:Int)))||(decide (l.V>(4096:Int))))||(decide (l.I<(1:Int))))||(decide (l.I>x.I)))||(decide (l.I<=(A2 (x.I-x.W)))))||
  (decide (0<i)&&match x.Au[i-1]? with
   |none=>false
   |some p=>decide (l.I<=p.I)||decide (l.I>A2 (p.I+x.W)))
noncomputable def B2b (x:A5) (i:Nat):Bool:=match x.Au[i]? with
 |none=>false
 |some l=>((!(F0 l.V))||(decide (l.I>x.I)))||
  (decide (0<i)&&match x.Au[i-1]? with
   |none=>false
   |some p=>decide (l.I<=p.I)||decide (l.I>A2 (p.I+x.W)))
def C6g (p0:A5):Option Int:=(Option.bind (gd (!(decide (p0.Ba<=p0.I))) (D0 p0.Au (A2 ((p0.Au.length:Int)-(1:Int))))) fun x17_14=>
 cond ((decide (p0.Ba<=p0.I))||(decide (p0.Ba>(A2 (x17_14.I+p0.W))))) (
  some (2:Int))<|
 some (0:Int))
theorem B07 {i:Nat} (h:0<i) (hm:i<=maxLen):A2 ((i:Int)-1)=((i-1:Nat):Int):=by
 rw [F8] at hm;rw [A7]<;>omega
theorem N7 {i n:Nat} (h:i<n) (hm:n<=maxLen):A2 ((i:Int)+1)=(i:Int)+1:=by
 rw [F8] at hm;rw [A7]<;>omega
theorem C6O (x:A5) (hl:x.Au.length<=maxLen):A5M x 0=cond ((List.range x.Au.length).any (B3i x)) (some 2) (C6g x):=by
 unfold A5M;refine A1z (fun i hi=> ?_) ?_
 ·have h1:x.Au[i]? =some x.Au[i]:=D3q hi;have hs:=N7 hi hl;unfold A4q B3i;simp only [Int.ofNat_lt,hi,decide_true,D3g,I2,h1,D3c,hs]
  by_cases h0:0<i
  ·have hp:=B07 h0 (Nat.le_trans (Nat.le_of_lt hi) hl);have h2:x.Au[i-1]? =some x.Au[i-1]:=D3q (by omega)
   have h3:((i:Int)>0):=by omega
   simp only [hp,I2,h2,h3,h0,decide_true,E4,D3c,D3N];cases decide (x.Au[i].I<=x.Au[i-1].I)<;>cases (((((decide (x.Au[i].V<(-4096:Int)))||(decide (x.Au[i].V>(4096:Int))))||(decide (x.Au[i].I<(1:Int))))||(decide (x.Au[i].I>x.I)))||(decide (x.Au[i].I<=(A2 (x.I-x.W)))))<;>simp
  ·have h3: ¬((i:Int)>0):=by omega
   simp only [h3,h0,decide_false,E9,D3c,D3H,D3f,Bool.or_false]
 ·unfold A4q;simp only [D3F,decide_false,D3f]
  rfl
theorem D2E (x:A5) (hl:x.Au.length<=maxLen):A5R x 0=cond ((List.range x.Au.length).any (B2b x)) (some 2) (C6g x):=by
 unfold A5R;refine A1z (fun i hi=> ?_) ?_
 ·have h1:x.Au[i]? =some x.Au[i]:=D3q hi;have hs:=N7 hi hl;unfold A4G B2b;simp only [Int.ofNat_lt,hi,decide_true,D3g,I2,h1,D3c,hs]
  by_cases h0:0<i
  ·have hp:=B07 h0 (Nat.le_trans (Nat.le_of_lt hi) hl);have h2:x.Au[i-1]? =some x.Au[i-1]:=D3q (by omega)
   have h3:((i:Int)>0):=by omega
   simp only [hp,I2,h2,h3,h0,decide_true,D3N,Bool.and_true]
   by_cases hA:x.Au[i].I<=x.Au[i-1].I<;>cases ((!(F0 x.Au[i].V))||(decide (x.Au[i].I>x.I)))<;>simp [hA]
  ·have h3: ¬((i:Int)>0):=by omega
   simp only [h3,h0,decide_false,E9,D3c,D3H,Bool.and_false,Bool.or_false]
 ·unfold A4G;simp only [D3F,decide_false,D3f]
  rfl
theorem H6 {α:Type} {l:List α} {i:Nat} (h:i<l.length):l[i]? =some l[i]:=D3q h
theorem asc (x:A5) (h:∀i,i<x.Au.length->B2b x i=false): ∀i (hi:i<x.Au.length),x.Au[0].I<=x.Au[i].I:=by
 intro i
 induction i with
 |zero=>intro hi;exact Int.le_refl _
 |succ i ih=>
  intro hi;have h1:=ih (by omega)
  have h2:=h (i+1) hi;simp only [B2b,H6 hi,D3T,H6 (show i<x.Au.length by omega),Nat.succ_pos,decide_true,D3N,D3M,D3t] at h2
  omega
def B0R (x:A5):Bool:=match x.Au[0]? with
 |none=>false
 |some l=>decide (l.I<=A2 (x.I-x.W))||decide (l.I<1)
theorem D2A (x:A5):(List.range x.Au.length).any (B3i x)=(B0R x||(List.range x.Au.length).any (B2b x)):=by
 rw [D3x,D3n,A6W,A6W];constructor
 ·rintro ⟨i,hi,hb⟩
  by_cases hR: ∃i,i<x.Au.length/\B2b x i=true
  ·exact .inr hR
  ·left;have hno: ∀i,i<x.Au.length->B2b x i=false:=fun i hi=>by
    cases h:B2b x i with
    |false=>rfl
    |true=>exact absurd ⟨i,hi,h⟩ hR
   have ha:=asc x hno i hi;have h2:=hno i hi;have h0:0<x.Au.length:=by omega
   simp only [B0R,H6 h0,D3n,D3e];simp only [B2b,H6 hi,F0,D3M,Bool.not_eq_false',D3k,D3e,D3t] at h2;simp only [B3i,H6 hi,D3n,D3e] at hb;obtain ⟨⟨⟨h3,h4⟩,h5⟩,h6⟩:=h2;rcases hb with hb|hb
   ·omega
   ·rw [h6] at hb;cases hb
 ·rintro (h|⟨i,hi,hb⟩)
  ·have h0:0<x.Au.length:=by
    rcases Nat.eq_zero_or_pos x.Au.length with h0|h0
    ·simp [B0R,D3X h0] at h
    ·exact h0
   refine ⟨0,h0, ?_⟩;simp only [B0R,H6 h0,D3n,D3e] at h;simp only [B3i,H6 h0,D3n,D3e];left;omega
  ·refine ⟨i,hi, ?_⟩;simp only [B2b,H6 hi,F0,D3n,D3y,D33,D3e,D3t] at hb;simp only [B3i,H6 hi,D3n,D3e];rcases hb with hb|hb
   ·left;omega
   ·exact .inr hb
theorem A6a (x:A5) (hl:x.Au.length<=maxLen):L3 x=A3i x:=by
 unfold L3 A3i;simp only [C6O x hl,D2E x hl,D2A x];have e1:(((((((decide (x.W<(1:Int)))||(decide (x.W>(1048576:Int))))||(decide (x.Cap<(1:Int))))||(decide (x.Cap>(64:Int))))||(decide (x.I<(0:Int))))||(decide (x.I>(1099511627776:Int))))||(decide ((x.Au.length:Int)>x.Cap)))
  =((((((!(K3 x.W))||(decide (x.Cap<(1:Int))))||(decide (x.Cap>(64:Int))))||(decide (x.I<(0:Int))))||(decide (x.I>(1099511627776:Int))))||(decide ((x.Au.length:Int)>x.Cap))):=by
  rw [D3x];simp only [K3,D3n,D3y,D33,D3e,D3t];omega
 rw [e1]
 congr 2
 ·rw [show decide ((x.Au.length:Int)>0)=((x.Au.length:Int) !=0) by rw [D3x,D3e,bne_iff_ne];omega]
 ·by_cases h0:x.Au= []
  ·simp [h0]
  ·have h1:0<x.Au.length:=List.length_pos_iff.2 h0;have h2:((x.Au.length:Int)==0)=false:=by rw [D32];omega
   have h3:D0 x.Au (0:Int)=some x.Au[0]:=by simp [D0,h1]
   simp only [h2,h3,D3f,D3p,E4,D3c,D3D,B0R,H6 h1]
   by_cases hA:x.Au[0].I<=A2 (x.I-x.W)<;>by_cases hB:x.Au[0].I<1<;>simp [hA,hB]
theorem C5e (x:A5) (hl:x.Au.length<=maxLen):B0j x x=some true:=by
 unfold B0j;have h:A9y x x 0=cond ((List.range x.Au.length).any fun _=>false) (some false) (some true):=by
  unfold A9y;refine A1z (fun i hi=> ?_) ?_
  ·unfold A8n;simp [hi,N7 hi hl]
  ·unfold A8n;simp
 have hf:((List.range x.Au.length).any fun _=>false)=false:=by simp
 rw [hf] at h;simp [h]
theorem A8y (x:A5) (hl:x.Au.length<=maxLen): ∃r,L3 x=some r/\(r=0->0<=x.I/\x.I<=1099511627776/\1<=x.W/\x.W<=1048576/\1<=x.Cap/\x.Cap<=64/\(x.Au.length:Int)<=x.Cap/\(x.Au= []->x.I=0)/\(x.I=0->x.Ba=0)):=by
 unfold L3;simp only [C6O x hl]
 by_cases h:(((((((decide (x.W<(1:Int)))||(decide (x.W>(1048576:Int))))||(decide (x.Cap<(1:Int))))||(decide (x.Cap>(64:Int))))||(decide (x.I<(0:Int))))||(decide (x.I>(1099511627776:Int))))||(decide ((x.Au.length:Int)>x.Cap)))=true
 ·rw [h];exact ⟨2,rfl,fun h=>by simp at h⟩
 ·rw [Bool.not_eq_true] at h;rw [h];simp only [D3M,D3t] at h
  by_cases h0:x.I=0
  ·simp only [h0,beq_self_eq_true,D3g,D3f];cases hc:(decide ((x.Au.length:Int)>(0:Int))||(x.Ba !=(0:Int)))
   ·simp only [D3M,bne_eq_false_iff_eq] at hc;exact ⟨0,rfl,fun _=>⟨by omega,by omega,by omega,by omega,by omega,by omega,by omega,fun _=>trivial,fun _=>hc.2⟩⟩
   ·exact ⟨2,rfl,fun h=>by simp at h⟩
  ·have h0' :(x.I==0)=false:=by rw [D32];exact h0
   simp only [h0',D3f]
   by_cases h1:x.Au= []
   ·rw [h1];exact ⟨2,rfl,fun h=>by simp at h⟩
   ·have h2:((x.Au.length:Int)==0)=false:=by
     have:=List.length_pos_iff.2 h1;rw [D32];omega
    simp only [h2,D3f];have all: ∀r:Int,(r=0->0<=x.I/\x.I<=1099511627776/\1<=x.W/\x.W<=1048576/\1<=x.Cap/\x.Cap<=64/\(x.Au.length:Int)<=x.Cap/\(x.Au= []->x.I=0)/\(x.I=0->x.Ba=0)):=fun _ _=>⟨by omega,by omega,by omega,by omega,by omega,by omega,by omega,fun h=>absurd h h1,fun h=>absurd h h0⟩
    cases (List.range x.Au.length).any (B3i x) with
    |true=>exact ⟨2,rfl,all _⟩
    |false=>
     simp only [D3f];unfold C6g;have hp:=List.length_pos_iff.2 h1;have hw:=B07 hp hl;simp only [hw,I2,H6 (show x.Au.length-1<x.Au.length by omega)]
     by_cases hN:x.Ba<=x.I
     ·simp only [hN,decide_true,D3o,E9,D3c,D3W,D3g];exact ⟨2,rfl,all _⟩
     ·simp only [hN,decide_false,D3p,E4,D3c,D3D];cases decide (x.Ba>A2 ((x.Au[x.Au.length-1]'(by omega)).I+x.W))
      ·exact ⟨0,rfl,all _⟩
      ·exact ⟨2,rfl,all _⟩
def A1J (draws:List Int) (at_ m:Int):Int×Int×Int:=
 if m<1\/at_<0 then (0,0,1) else match draws[at_.toNat]? with
  |none=>(0,0,8)
  |some d=>if d<0\/d>=m then (0,0,8) else (d,A2 (at_+1),0)
theorem C0y (draws:List Int) (at_ m:Int):B1L draws at_ m=some (A1J draws at_ m):=by
 unfold B1L A1J
 by_cases h:m<1\/at_<0
 ·have hb:(decide (m<1)||decide (at_<0))=true:=by simpa using h
  simp only [hb,D3g,if_pos h]
 ·have hb:(decide (m<1)||decide (at_<0))=false:=by simpa using h
  rw [if_neg h];simp only [hb,D3f];have h0:0<=at_:=by omega
  by_cases hl:at_>=(draws.length:Int)
  ·have hn:draws[at_.toNat]? =none:=D39 (by omega)
   simp only [hl,decide_true,D3o,E9,D3c,D3W,D3g,hn]
  ·have hn:draws[at_.toNat]? =some (draws[at_.toNat]'(by omega)):=D3q (by omega)
   have hi:D0 draws at_=some (draws[at_.toNat]'(by omega)):=by
    unfold D0;rw [if_pos h0,hn]
   simp only [hl,decide_false,D3p,E4,D3c,D3D,hi,hn]
   generalize draws[at_.toNat]'(by omega)=d
   by_cases h1:d<0<;>by_cases h2:d>=m<;>simp [h1,h2,gd]
theorem B1h (draws:List Int) (at_ m:Int):B0d draws at_ m=some (A1J draws at_ m):=C0y draws at_ m
theorem B8L {draws:List Int} {at_ m:Int} (hm:1<=m) (ha:0<=at_):
  ((A1J draws at_ m).2.2=8)\/((A1J draws at_ m).2.2=0/\at_<draws.length/\(A1J draws at_ m).2.1=A2 (at_+1)/\0<=(A1J draws at_ m).1/\(A1J draws at_ m).1<m):=by
 unfold A1J;rw [if_neg (by omega)]
 split
 ·exact .inl rfl
 ·rename_i d hd;have:=(D3m.1 hd).1;split
  ·exact .inl rfl
  ·exact .inr ⟨rfl,by omega,rfl,by show 0<=d;omega,by show d<m;omega⟩
theorem B63 (draws:List Int) (at_ b m:Int):X5 ⟨draws,at_,b⟩ m=some (
  if (A1J draws at_ m).2.2=0 then ((A1J draws at_ m).1,0,⟨draws,(A1J draws at_ m).2.1,b⟩) else (0,(A1J draws at_ m).2.2,⟨draws,at_,if at_>=(draws.length:Int) then m else b⟩)):=by
 unfold X5;simp only [C0y,D3c]
 generalize A1J draws at_ m=q
 by_cases h:q.2.2=0
 ·simp [h]
 ·have hb:(q.2.2 !=0)=true:=by rw [bne_iff_ne];exact h
  by_cases h2:at_>=(draws.length:Int)<;>simp [h,h2,hb]
def Rel (draws:List Int) (a:A5×Int×H9) (b:A5×Int×Int×Int):Prop:=
 a.2.1=b.2.2.2/\(a.2.1=0->a.1=b.1/\a.2.2.at_=b.2.1)/\(a.2.1=8->if b.2.1<(draws.length:Int) then a.2.2.beyond_=0 else a.2.2.beyond_=b.2.2.1/\b.2.2.1≠0)
theorem C6L (x:A5) (v:Int) (draws:List Int) (links:List D9) (tk:Bool) (at_:Int) (ha:0<=at_) (hl:(links.length:Int)<=x.Cap) (hc:x.Cap<=64) (hW:1<=x.W):
  ∃a b,A0n x v links tk ⟨draws,at_,0⟩=some a/\U9 x v draws at_ links tk=some b/\Rel draws a b:=by
 unfold A0n U9;cases tk with
 |false=>exact ⟨_,_,rfl,rfl,rfl,fun _=>⟨rfl,rfl⟩,fun h=>by simp at h⟩
 |true=>
  have hk:decide ((links.length+ [(D9.mk (A2 (x.I+(1:Int))) v)].length)*16<=140737488355328)=true:=by
   rw [D3e,D3R];omega
  simp only [D3g,hk,O7]
  by_cases hf:(links.length:Int)=x.Cap
  ·have h1:((links.length:Int)==x.Cap)=true:=by rw [D36];exact hf
   have h2:decide (((links++ [(D9.mk (A2 (x.I+(1:Int))) v)]).length:Int)>x.Cap)=true:=by
    rw [D3e,D3i,D3R];omega
   simp only [h1,h2,D3g];exact ⟨_,_,rfl,rfl,rfl,fun h=>by simp at h,fun h=>by simp at h⟩
  ·have h1:((links.length:Int)==x.Cap)=false:=by rw [D32];exact hf
   have h2:decide (((links++ [(D9.mk (A2 (x.I+(1:Int))) v)]).length:Int)>x.Cap)=false:=by
    rw [D3t,D3i,D3R];omega
   simp only [h1,h2,D3f,B63,B1h,D3c];rcases B8L (draws:=draws) hW ha with he|⟨he,h3,h4,h5,h6⟩
   ·have e1:((8:Int) !=0)=true:=rfl;simp only [he,if_neg (show¬(8:Int)=0 by decide),e1,D3g]
    refine ⟨_,_,rfl,rfl,rfl,fun h=>by simp at h,fun _=> ?_⟩
    by_cases hat:at_<(draws.length:Int)
    ·simp only [hat,if_true];rw [if_neg (by omega)]
    ·simp only [hat,if_false];rw [if_pos (by omega)]
     exact ⟨rfl,by show x.W≠0;omega⟩
   ·have e1:((0:Int) !=0)=false:=rfl;simp only [he,if_true,e1,D3f];exact ⟨_,_,rfl,rfl,rfl,fun _=>⟨rfl,rfl⟩,fun h=>by simp at h⟩
theorem C5n (x:A5) (v:Int) (draws:List Int) (at_:Int) (hd:draws.length<=maxLen) (hI:0<=x.I) (hI2:x.I<=1099511627776) (hW:1<=x.W) (_:x.W<=1048576) (hC1:1<=x.Cap) (hC:x.Cap<=64) (hL:(x.Au.length:Int)<=x.Cap) (hN:x.I=0->x.Ba=0):
  ∃a b,A86 x v ⟨draws,at_,0⟩=some a/\A5r x v draws at_=some b/\Rel draws a b:=by
 unfold A86 A5r;have hv:(decide (v< -4096)||decide (v>4096))= !(F0 v):=by
  rw [D3x];simp only [F0,D3n,D3y,D33,D3e,D3t];omega
 rw [hv];cases hvv:F0 v with
 |false=>exact ⟨_,_,rfl,rfl,rfl,fun h=>by simp at h,fun h=>by simp at h⟩
 |true=>
  simp only [D3o,D3f]
  by_cases ha:at_<0
  ·simp only [ha,decide_true,D3g];exact ⟨_,_,rfl,rfl,rfl,fun h=>by simp at h,fun h=>by simp at h⟩
  have ha0:0<=at_:=by omega
  simp only [ha,decide_false,D3f]
  by_cases hI3:x.I=1099511627776
  ·have:(x.I==1099511627776)=true:=by rw [D36];exact hI3
   simp only [this,D3g];exact ⟨_,_,rfl,rfl,rfl,fun h=>by simp at h,fun h=>by simp at h⟩
  have hI4:(x.I==1099511627776)=false:=by rw [D32];exact hI3
  have hi:A2 (x.I+1)=x.I+1:=by rw [A7]<;>omega
  have hk:decide ((([]:List D9).length+x.Au.length)*16<=140737488355328)=true:=by
   rw [D3e,D3I];omega
  have htk:(decide (x.I>0)&&(x.Ba==A2 (x.I+1)))=(x.Ba==A2 (x.I+1)):=by
   by_cases h0:x.I=0
   ·have:=hN h0;rw [hi,h0,this];rfl
   ·have:x.I>0:=by omega
    simp [this]
  simp only [hI4,D3f,hk,O7,List.nil_append,htk];have hm:1<=L5 (A2 (x.I+1)) x.W:=by
   rw [hi];unfold L5;split<;>omega
  have coin: ∀(b:Bool),∃a b',(Option.bind (X5 ⟨draws,at_,0⟩ (L5 (A2 (x.I+1)) x.W)) fun y12_5=>
    cond (y12_5.2.1 !=(0:Int)) (
     some ((A5.mk (0:Int) (0:Int) (0:Int) (0:Int) ([]:List D9)),y12_5.2.1,y12_5.2.2))<|
    cond (y12_5.1==(0:Int)) (
     A0n x v ([]:List D9) true y12_5.2.2)<|
    A0n x v x.Au b y12_5.2.2)=some a/\
   (Option.bind (B0d draws at_ (L5 (A2 (x.I+(1:Int))) x.W)) fun y13_3=>
    cond (y13_3.2.2 !=(0:Int)) (
     some ((A5.mk (0:Int) (0:Int) (0:Int) (0:Int) ([]:List D9)),at_,(L5 (A2 (x.I+(1:Int))) x.W),y13_3.2.2))<|
    cond (y13_3.1==(0:Int)) (
     U9 x v draws y13_3.2.1 ([]:List D9) true)<|
    U9 x v draws y13_3.2.1 x.Au b)=some b' /\Rel draws a b' :=by
   intro b;simp only [B63,B1h,D3c];rcases B8L (draws:=draws) hm ha0 with he|⟨he,h3,h4,h5,h6⟩
   ·have e1:((8:Int) !=0)=true:=rfl;simp only [he,if_neg (show¬(8:Int)=0 by decide),e1,D3g]
    refine ⟨_,_,rfl,rfl,rfl,fun h=>by simp at h,fun _=> ?_⟩
    by_cases hat:at_<(draws.length:Int)
    ·simp only [hat,if_true];rw [if_neg (by omega)]
    ·simp only [hat,if_false];rw [if_pos (by omega)]
     exact ⟨rfl,by show L5 (A2 (x.I+1)) x.W≠0;omega⟩
   ·have e1:((0:Int) !=0)=false:=rfl;have hn:0<=(A1J draws at_ (L5 (A2 (x.I+1)) x.W)).2.1:=by
     rw [h4,A7]<;>(rw [F8] at hd;omega)
    simp only [he,if_true,e1,D3f];cases (A1J draws at_ (L5 (A2 (x.I+1)) x.W)).1==0 with
    |true=>exact C6L x v draws [] true _ hn (by simp;omega) hC hW
    |false=>exact C6L x v draws x.Au b _ hn hL hC hW
  by_cases hE:x.Au= []
  ·rw [hE] at coin⊢;exact coin _
  ·have hp:=List.length_pos_iff.2 hE;have h1:decide ((x.Au.length:Int)>0)=true:=by rw [D3e];omega
   have h2:D0 x.Au (0:Int)=some x.Au[0]:=by simp [D0,hp]
   simp only [h1,E4,h2,D3c,D3N];cases x.Au[0].I==A2 (A2 (x.I+1)-x.W) with
   |false=>exact coin _
   |true=>
    have h3:decide (0<=(1:Int)/\(1:Int)<=(x.Au.length:Int))=true:=by rw [D3e];omega
    simp only [D3g,h3,O7];exact C6L x v draws _ _ _ ha0 (by rw [D3K];omega) hC hW
theorem D1A (x:A5) (v:Int) (draws:List Int) (at_:Int) (hl:x.Au.length<=maxLen) (hd:draws.length<=maxLen):
  ∃r,A6Z x v draws at_=some r/\B5w x v draws at_=some r:=by
 obtain ⟨q,hq,hok⟩:=A8y x hl;unfold A6Z B5w;rw [<-A6a x hl,hq];simp only [D3c]
 by_cases h0:q=0
 ·obtain ⟨h1,h2,h3,h4,h5,h6,h7,_,h8⟩:=hok h0;obtain ⟨a,b,ha,hb,e1,e2,_⟩:=C5n x v draws at_ hd h1 h2 h3 h4 h5 h6 h7 h8;subst h0;simp only [D3P,D3f,ha,hb,D3c,<-e1]
  by_cases he:a.2.1=0
  ·obtain ⟨e3,e4⟩:=e2 he;simp only [he,D3P,D3f,e3,e4];exact ⟨_,rfl,rfl⟩
  ·have hb:(a.2.1 !=0)=true:=by rw [bne_iff_ne];exact he
   simp only [hb,D3g];exact ⟨_,rfl,rfl⟩
 ·have hb:(q !=0)=true:=by rw [bne_iff_ne];exact h0
  simp only [hb,D3g];exact ⟨_,rfl,rfl⟩
theorem C9D (x:A5) (v:Int) (draws:List Int) (at_:Int) (hl:x.Au.length<=maxLen) (hd:draws.length<=maxLen):
  ∃r,A51 x v draws at_=some r/\B2o x v draws at_=some r:=by
 obtain ⟨q,hq,hok⟩:=A8y x hl;unfold A51 B2o;rw [<-A6a x hl,hq];simp only [D3c]
 by_cases h0:q=0
 ·obtain ⟨h1,h2,h3,h4,h5,h6,h7,_,h8⟩:=hok h0;obtain ⟨a,b,ha,hb,e1,_,e3⟩:=C5n x v draws at_ hd h1 h2 h3 h4 h5 h6 h7 h8;subst h0;simp only [D3P,D3f,ha,hb,D3c,<-e1]
  by_cases he:a.2.1=8
  ·have e4:=e3 he;simp only [he,D3P,D3D]
   by_cases hlt:b.2.1<(draws.length:Int)
   ·rw [if_pos hlt] at e4;simp only [hlt,e4,decide_true,beq_self_eq_true,D3g];exact ⟨_,rfl,rfl⟩
   ·rw [if_neg hlt] at e4;have hb:(b.2.2.1==0)=false:=by rw [D32];exact e4.2
    simp only [hlt,decide_false,e4.1,hb,D3f];exact ⟨_,rfl,rfl⟩
  ·have hb:(a.2.1 !=8)=true:=by rw [bne_iff_ne];exact he
   simp only [hb,D3W,D3g];exact ⟨_,rfl,rfl⟩
 ·have hb:(q !=0)=true:=by rw [bne_iff_ne];exact h0
  simp only [hb,D3g];exact ⟨_,rfl,rfl⟩
end Go.Win
namespace Go.Win
open Go.Vc Go.Dec
theorem C4k:A8I=A8T:=rfl
theorem C4l:A7z=F0:=rfl
theorem C5D (a b c:Int):A57 a b c=H1 a b c:=by
 unfold A57 H1 K3 E7;rw [D3x];simp only [D3k,D3e];omega
theorem A1V (n w t:Int):L9 n w t=E0 n w t:=by
 unfold L9 U3 E0 E7 K3;have e:A2b=A40:=rfl;rw [e];unfold A40
 by_cases h1:n>=0/\n<=16777216
 ·by_cases h2:w>=1/\w<=1048576
  ·have c:(((!(decide (n>=0)&&decide (n<=16777216)))||decide (w<1))||decide (w>1048576))=false:=by
    simp only [D3M,Bool.not_eq_false',D3k,D3e,D3t];omega
   simp only [c,D3f];have e1:A2 (n-w)=n-w:=by rw [A7]<;>omega
   have e2:A2 (n-w+1)=n-w+1:=by rw [A7]<;>omega
   rw [e1,e2,D3x];simp only [D3k,D3e,P8];split<;>omega
  ·have c:(((!(decide (n>=0)&&decide (n<=16777216)))||decide (w<1))||decide (w>1048576))=true:=by
    simp only [D3n,D3y,D33,D3e,D3t];omega
   have d:(decide (w>=1)&&decide (w<=1048576))=false:=by
    simp only [D33,D3t];omega
   simp only [c,d,D3g,Bool.and_false,D3H]
   rfl
 ·have c:(((!(decide (n>=0)&&decide (n<=16777216)))||decide (w<1))||decide (w>1048576))=true:=by
   simp only [D3n,D3y,D33,D3e,D3t];omega
  have d:(decide (n>=0)&&decide (n<=16777216))=false:=by
   simp only [D33,D3t];omega
  simp only [c,d,D3g,D3H]
  rfl
def B2c (l:List A9) (now:Int) (i:Nat):Bool:=match l[i]? with
 |none=>false
 |some p=>(decide (p.T<0)||decide (p.T>now))||(decide (0<i)&&match l[i-1]? with
  |some q=>decide (q.T>p.T)
  |none=>false)
noncomputable def A7M (l:List A9) (now:Int):Bool:=E7 now&& !(List.range l.length).any (B2c l now)
theorem B9i (l:List A9) (now:Int) (hl:l.length<=maxLen):A8T l now=some (A7M l now):=by
 unfold A8T A7M;cases ht:E7 now with
 |false=>rfl
 |true=>
  have h:A8f l now 0=cond ((List.range l.length).any (B2c l now)) (some false) (some true):=by
   unfold A8f;refine A1z (fun i hi=> ?_) ?_
   ·have hs:=N7 hi hl;unfold A7A B2c;simp only [Int.ofNat_lt,hi,decide_true,D3g,I2,H6 hi,D3c,hs]
    by_cases h0:0<i
    ·have hp:=B07 h0 (Nat.le_trans (Nat.le_of_lt hi) hl);have h3:((i:Int)>0):=by omega
     simp only [hp,I2,H6 (show i-1<l.length by omega),h3,h0,decide_true,D3N,Bool.and_true]
     cases (decide (l[i].T<0)||decide (l[i].T>now))<;>simp
    ·have h3: ¬((i:Int)>0):=by omega
     simp only [h3,h0,decide_false,E9,D3c,D3H,Bool.and_false,Bool.or_false]
   ·unfold A7A;simp
  simp only [D3o,D3f,h];cases (List.range l.length).any (B2c l now)<;>rfl
noncomputable def A96 (l:List A9) (now w:Int):List A9:=l.filter fun p=>E0 now w p.T
def C1Y {α:Type} (p:α->Bool) (l:List α) (i:Nat) (b:List α):List α:=match l[i]? with
 |some x=>if p x then b++ [x] else b
 |none=>b
theorem C3g {α:Type} (p:α->Bool) (l:List α): ∀(k:Nat) (acc:List α),k<=l.length->(List.range' (l.length-k) k).foldl (fun b i=>C1Y p l i b) acc=acc++(l.drop (l.length-k)).filter p:=by
 intro k
 induction k with
 |zero=>intro acc _;simp
 |succ k ih=>
  intro acc hk;have hi:l.length-(k+1)<l.length:=by omega
  have e:l.length-(k+1)+1=l.length-k:=by omega
  rw [List.range'_succ,List.foldl_cons,e,ih _ (by omega),List.drop_eq_getElem_cons hi,List.filter_cons,e,C1Y,H6 hi]
  simp only;split<;>simp
theorem C77 (l:List A9) (n w:Int) (hl:l.length<=1000000):A9p l n w [] 0=some (A96 l n w):=by
 have hm:l.length<=maxLen:=by rw [F8];omega
 unfold A9p;obtain ⟨h,_⟩:=C6R (R:=List A9) (f:=fun s:List A9×Int=>A24 l n w s.1 s.2) (fun i b=>(b,(i:Int))) l.length (fun i b=>b.length<=i)
  (C1Y (fun p=>L9 n w p.T) l) (fun b=>some b) (fun i b hi hb=>by
    have hs:=N7 hi hm;unfold A24 C1Y;simp only [Int.ofNat_lt,hi,decide_true,D3g,I2,H6 hi,D3c,hs];have hk:decide ((b.length+ [l[i]].length)*16<=140737488355328)=true:=by rw [D3e,D3R];omega
    rw [hk]
    by_cases hc:L9 n w l[i].T=true
    ·rw [if_pos hc,hc];exact ⟨rfl,by simp;omega⟩
    ·rw [if_neg hc];rw [Bool.not_eq_true] at hc;rw [hc];exact ⟨rfl,by omega⟩) (fun b _=>by
    unfold A24;simp) [] (by simp)
 have hf:=C3g (fun p=>L9 n w p.T) l l.length [] (D3U _);rw [Nat.sub_self,<-List.range_eq_range'] at hf;simp only [List.drop_zero,List.nil_append] at hf;refine h.trans ?_;show some _=some _
 congr 1
 refine hf.trans ?_;unfold A96;simp only [A1V]
theorem C6A (l:List A9) (n w:Int) (hl:l.length<=1000000):A93 l n w=some (if A7M l n then A96 l n w else []):=by
 unfold A93;rw [C4k,B9i l n (by rw [F8];omega)]
 cases A7M l n with
 |false=>rfl
 |true=>simp [C77 l n w hl]
theorem B8D (l:List A9) (hl:l.length<=maxLen):X1 l l=some true:=by
 have h:A2p l l 0=cond ((List.range l.length).any fun _=>false) (some false) (some true):=by
  unfold A2p;refine A1z (fun i hi=> ?_) ?_
  ·unfold A1K;simp [hi,N7 hi hl]
  ·unfold A1K;simp
 have hf:((List.range l.length).any fun _=>false)=false:=by simp
 rw [hf] at h;unfold X1;simp [h]
theorem B89 (x:C4) (hl:x.Ar.length<=maxLen):A5f x x=some true:=by
 unfold A5f;simp [B8D x.Ar hl]
theorem B1p (x:C4):X0 x=A0b x:=by
 have e:A39=A0s:=by
  funext x i
  unfold A39 A0s;simp only [A1V,C4l]
 unfold X0 A0b A9f A2S;rw [e,C5D,C4k]
noncomputable def okV (x:C4):Bool:=(H1 x.W x.Cap x.Now&&decide ((x.Ar.length:Int)<=x.Cap))&&(A7M x.Ar x.Now&&x.Ar.all fun p=>E0 x.Now x.W p.T&&F0 p.V)
theorem D0w {α:Type} {l:List α} {p:α->Bool}:(List.range l.length).any (fun i=>match l[i]? with
  |some x=> !p x
  |none=>false)= !l.all p:=by
 rw [D3x,A6W];constructor
 ·rintro ⟨i,hi,h⟩;rw [H6 hi] at h;simp only [D3y] at h⊢;rw [List.all_eq_false];exact ⟨l[i],D31 hi,by simp [h]⟩
 ·intro h;simp only [D3y] at h;rw [List.all_eq_false] at h;obtain ⟨x,hx,hp⟩:=h;obtain ⟨i,hi,rfl⟩:=List.mem_iff_getElem.1 hx;refine ⟨i,hi, ?_⟩;rw [H6 hi];simpa using hp
theorem A8x (x:C4) (hl:x.Ar.length<=maxLen):A0b x=some (if okV x then 0 else 2):=by
 have h:A2S x 0=cond (!(x.Ar.all fun p=>E0 x.Now x.W p.T&&F0 p.V)) (some 2) (some 0):=by
  rw [<-D0w];unfold A2S;refine A1z (fun i hi=> ?_) ?_
  ·unfold A0s;simp only [Int.ofNat_lt,hi,decide_true,D3g,I2,H6 hi,D3c,N7 hi hl,Bool.not_and]
  ·unfold A0s;simp
 unfold A0b okV;rw [B9i x.Ar x.Now hl,h];have hd:decide ((x.Ar.length:Int)>x.Cap)= !decide ((x.Ar.length:Int)<=x.Cap):=by
  rw [D3x];simp
 rw [hd];cases H1 x.W x.Cap x.Now<;>cases decide ((x.Ar.length:Int)<=x.Cap)<;>cases A7M x.Ar x.Now<;>cases (x.Ar.all fun p=>E0 x.Now x.W p.T&&F0 p.V)<;>rfl
end Go.Win
namespace Go.Win
open Go.Vc Go.Dec
def Q0 (w:C5):Prop:=0<=w.Hi/\w.Hi<18446744073709551616/\0<=w.Lo/\w.Lo<18446744073709551616
def wv (w:C5):Int:=w.Hi*18446744073709551616+w.Lo
def ofW (n:Int):C5:=⟨n/18446744073709551616,n%18446744073709551616⟩
theorem A4P (n:Int):wv (ofW n)=n:=by
 unfold wv ofW;simp only;omega
theorem A4A {n:Int} (h0:0<=n) (h1:n<340282366920938463463374607431768211456):Q0 (ofW n):=by
 unfold Q0 ofW;simp only;omega
theorem D16 {w:C5} (h:Q0 w):ofW (wv w)=w:=by
 obtain ⟨a,b⟩:=w;unfold Q0 at h;unfold ofW wv;simp only at h⊢
 congr 1<;>omega
theorem B1u {w:C5} (h:Q0 w):0<=wv w/\wv w<340282366920938463463374607431768211456:=by
 unfold Q0 at h;unfold wv;omega
theorem D0d (x y c:Int) (hx:0<=x) (hy:0<=y) (h0:0<=c) (h1:c<=1):R8 x y c=some ((x+y+c)%18446744073709551616,(x+y+c)/18446744073709551616):=by
 unfold R8;rw [D3h (⟨hx,hy,h0,h1⟩:0<=x/\0<=y/\0<=c/\c<=1)]
 rfl
theorem B7W {a b:C5} (ha:Q0 a) (hb:Q0 b):A6U a b=some (if wv a+wv b<340282366920938463463374607431768211456 then (ofW (wv a+wv b),true) else (⟨0,0⟩,false)):=by
 unfold Q0 at ha hb;unfold A6U;rw [D0d _ _ _ (by omega) (by omega) (by omega) (by omega)]
 simp only [D3c];rw [D0d _ _ _ (by omega) (by omega) (by omega) (by omega)]
 simp only [D3c];unfold wv
 by_cases h:a.Hi*18446744073709551616+a.Lo+(b.Hi*18446744073709551616+b.Lo)<340282366920938463463374607431768211456
 ·rw [if_pos h];have e:(a.Hi+b.Hi+(a.Lo+b.Lo+0)/18446744073709551616)/18446744073709551616=0:=by omega
  rw [e];simp only [D3P,D3f];unfold ofW
  congr 3<;>omega
 ·rw [if_neg h];have e:((a.Hi+b.Hi+(a.Lo+b.Lo+0)/18446744073709551616)/18446744073709551616 !=0)=true:=by
   rw [bne_iff_ne];omega
  rw [e];rfl
theorem C3W:C05=A6U:=rfl
theorem A7P {a b:C5} (ha:Q0 a) (hb:Q0 b):X4 a b=if wv a<wv b then-1 else if wv a=wv b then 0 else 1:=by
 unfold Q0 at ha hb;unfold X4 wv
 by_cases h:(decide (a.Hi<b.Hi)||((a.Hi==b.Hi)&&decide (a.Lo<b.Lo)))=true
 ·rw [h,D3g];simp only [D3n,D3k,D3e,D36] at h;rw [if_pos (by omega)]
 ·rw [Bool.not_eq_true] at h;rw [h,D3f];simp only [D3M,D33,D3t,D32] at h
  by_cases h2:(a.Hi==b.Hi&&(a.Lo==b.Lo&&true))=true
  ·rw [h2,D3g];simp only [D3k,D36] at h2;rw [if_neg (by omega),if_pos (by omega)]
  ·rw [Bool.not_eq_true] at h2;rw [h2,D3f];simp only [D33,D32,Bool.true_eq_false,or_false] at h2;rw [if_neg (by omega),if_neg (by omega)]
end Go.Win
namespace Go.Win
open Go.Vc Go.Dec
theorem D1C {x:Int} (h0:0<=x) (h1:x<18446744073709551616):((BitVec.ofInt IntKind.u64.bits x&&&BitVec.ofInt IntKind.u64.bits 4294967295).toNat:Int)=x%4294967296:=by
 obtain ⟨n,rfl⟩:=Int.eq_ofNat_of_zero_le h0;have e:(BitVec.ofInt IntKind.u64.bits (n:Int)&&&BitVec.ofInt IntKind.u64.bits 4294967295).toNat=n%4294967296:=by
  have hb:IntKind.u64.bits=64:=rfl;rw [hb,BitVec.toNat_and,BitVec.toNat_ofInt,BitVec.toNat_ofInt];have h2:(((n:Int)%((2^64:Nat):Int)).toNat)=n:=by omega
  have h3:((4294967295:Int)%((2^64:Nat):Int)).toNat=2^32-1:=by decide
  rw [h2,h3,Nat.and_two_pow_sub_one_eq_mod]
 rw [e];omega
theorem C3j {x:Int} (h0:0<=x) (h1:x<18446744073709551616):B3z .u64 x 4294967295=x%4294967296:=by
 show IntKind.u64.wrap _=_;rw [D1C h0 h1,IntKind.wrap_u64];omega
theorem C3m (x:Int):B2g .u64 x 32=x/4294967296:=by
 show x.fdiv (2^(min (32:Int).toNat IntKind.u64.bits))=_;have:(2:Int)^(min (32:Int).toNat IntKind.u64.bits)=4294967296:=by decide
 rw [this,Int.fdiv_eq_ediv_of_nonneg _ (by decide)]
theorem D20 (a b c d:Int):(a*4294967296+b)*(c*4294967296+d)=(a*c)*18446744073709551616+(a*d+b*c)*4294967296+b*d:=by
 grind
theorem B5Y {a b:Int} (ha:0<=a/\a<4294967296) (hb:0<=b/\b<4294967296):0<=a*b/\a*b<=18446744065119617025:=by
 refine ⟨Int.mul_nonneg ha.1 hb.1, ?_⟩;have:=Int.mul_le_mul (show a<=4294967295 by omega) (show b<=4294967295 by omega) hb.1 (by decide)
 simpa using this
theorem D2H {x y:Int} (hx:0<=x/\x<18446744073709551616) (hy:0<=y/\y<18446744073709551616):A2j x y=(x*y/18446744073709551616,x*y%18446744073709551616):=by
 unfold A2j;have e:=D20 (x/4294967296) (x%4294967296) (y/4294967296) (y%4294967296);rw [show x/4294967296*4294967296+x%4294967296=x by omega,show y/4294967296*4294967296+y%4294967296=y by omega] at e
 have bp:=B5Y (a:=x%4294967296) (b:=y%4294967296) (by omega) (by omega)
 have bq:=B5Y (a:=x/4294967296) (b:=y%4294967296) (by omega) (by omega)
 have br:=B5Y (a:=x%4294967296) (b:=y/4294967296) (by omega) (by omega)
 have bs:=B5Y (a:=x/4294967296) (b:=y/4294967296) (by omega) (by omega)
 congr 1
 ·rw [C3j hx.1 hx.2,C3j hy.1 hy.2,C3m,C3m]
  generalize x%4294967296*(y%4294967296)=p at*
  generalize x/4294967296*(y%4294967296)=q at*
  generalize x%4294967296*(y/4294967296)=r at*
  generalize x/4294967296*(y/4294967296)=s at*
  have w1: ∀n:Int,0<=n->n<18446744073709551616->G8 n=n:=fun n h1 h2=>by rw [B6g];omega
  simp only [C3m];rw [w1 p (by omega) (by omega),w1 q (by omega) (by omega),w1 (q+p/4294967296) (by omega) (by omega),C3j (by omega) (by omega),w1 r (by omega) (by omega),w1 ((q+p/4294967296)%4294967296+r) (by omega) (by omega),w1 s (by omega) (by omega),
   w1 (s+(q+p/4294967296)/4294967296) (by omega) (by omega),w1 _ (by omega) (by omega)]
  omega
theorem B0y {x y:Int} (hx:0<=x/\x<18446744073709551616) (hy:0<=y/\y<18446744073709551616):0<=x*y/\x*y<340282366920938463463374607431768211456:=by
 refine ⟨Int.mul_nonneg hx.1 hy.1, ?_⟩;have:=Int.mul_le_mul (show x<=18446744073709551615 by omega) (show y<=18446744073709551615 by omega) hy.1 (by decide)
 omega
theorem A46 {x y:Int} (hx:0<=x/\x<18446744073709551616) (hy:0<=y/\y<18446744073709551616):T1 x y=ofW (x*y):=by
 unfold T1;rw [D2H hx hy]
 rfl
def fit (t:Int):Int×Bool:=if-9223372036854775808<=t/\t<=9223372036854775807 then (t,true) else (0,false)
end Go.Win
namespace Go.Win
open Go.Vc Go.Dec
def nT:List C5->List Bool->Int
 |w::ws,b::bs=>(if b then wv w else 0)+nT ws bs
 |_,_=>0
theorem O1 {α:Type} {b:Bool} {k:Option α} (h:b=true):ck b k=k:=by rw [h];rfl
end Go.Win
namespace Go.Win
open Go.Vc Go.Dec
theorem B5T:U7=T1:=rfl
theorem B3b:S3=A0a:=rfl
theorem D1l (a b c:Int):(0*18446744073709551616+a)*(b*18446744073709551616+c)=(a*b)*18446744073709551616+a*c:=by grind
theorem D1m (a b c:Int):(b*18446744073709551616+c)*(0*18446744073709551616+a)=(a*b)*18446744073709551616+a*c:=by grind
theorem C2i {a b c d:Int} (ha:1<=a) (hb:0<=b) (hc:1<=c) (hd:0<=d):340282366920938463463374607431768211456<=(a*18446744073709551616+b)*(c*18446744073709551616+d):=by
 have:=Int.mul_le_mul (show 18446744073709551616<=a*18446744073709551616+b by omega) (show 18446744073709551616<=c*18446744073709551616+d by omega) (by decide) (by omega)
 simpa using this
theorem C8i {h a b c:Int} (ha:0<=a/\a<18446744073709551616) (hb:0<=b/\b<18446744073709551616) (hc:0<=c/\c<18446744073709551616):
  A6b h a b c=some (if (a*b)*18446744073709551616+a*c<340282366920938463463374607431768211456 then (ofW ((a*b)*18446744073709551616+a*c),true) else (⟨0,0⟩,false)):=by
 have p1:=B0y ha hb;have p2:=B0y ha hc;unfold A6b;simp only [B5T];rw [A46 ha hc,A46 ha hb]
 generalize a*b=m at*
 generalize a*c=n at*
 have e1:(ofW m).Hi=m/18446744073709551616:=rfl;have e2:(ofW m).Lo=m%18446744073709551616:=rfl;rw [e1,e2]
 by_cases hh:m<18446744073709551616
 ·have c1:(m/18446744073709551616 !=0)=false:=by rw [bne_eq_false_iff_eq];omega
  have oM:Q0 (C5.mk (m%18446744073709551616) 0):=by unfold Q0;simp only;omega
  have vM:wv (C5.mk (m%18446744073709551616) 0)=m*18446744073709551616:=by unfold wv;simp only;omega
  rw [c1,D3f,B7W (A4A p2.1 p2.2) oM,A4P,vM,Int.add_comm n];simp only [D3c]
 ·have c1:(m/18446744073709551616 !=0)=true:=by rw [bne_iff_ne];omega
  rw [c1,D3g,if_neg (by omega)]
theorem A8z {a b:C5} (ha:Q0 a) (hb:Q0 b):A1G a b=some (if wv a*wv b<340282366920938463463374607431768211456 then (ofW (wv a*wv b),true) else (⟨0,0⟩,false)):=by
 obtain ⟨ah,al⟩:=a;obtain ⟨bh,bl⟩:=b;unfold Q0 at ha hb;simp only at ha hb;unfold A1G wv;simp only
 by_cases h1:ah=0
 ·subst h1;simp only [D3P,D3H,D3f];rw [C8i (by omega) (by omega) (by omega),D1l]
 ·have c1:(ah !=0)=true:=by rw [bne_iff_ne];exact h1
  rw [c1]
  by_cases h2:bh=0
  ·subst h2;simp only [D3P,Bool.and_false,D3f,D3g];rw [C8i (by omega) (by omega) (by omega),D1m]
  ·have c2:(bh !=0)=true:=by rw [bne_iff_ne];exact h2
   have:=C2i (a:=ah) (b:=al) (c:=bh) (d:=bl) (by omega) (by omega) (by omega) (by omega)
   rw [c2,if_neg (by omega)]
   rfl
theorem C5W {a b:C5} (ha:Q0 a) (hb:Q0 b):B1V a b=some (if wv a*wv b<340282366920938463463374607431768211456 then (ofW (wv a*wv b),true) else (⟨0,0⟩,false)):=by
 obtain ⟨ah,al⟩:=a;obtain ⟨bh,bl⟩:=b;unfold Q0 at ha hb;simp only at ha hb;unfold B1V wv;simp only;have q1:=B0y (x:=ah) (y:=bl) (by omega) (by omega)
 have q2:=B0y (x:=al) (y:=bh) (by omega) (by omega)
 have q3:=B0y (x:=al) (y:=bl) (by omega) (by omega)
 rw [A46 (by omega) (by omega),A46 (by omega) (by omega),A46 (by omega) (by omega)]
 have f1:(ofW (ah*bl)).Hi=ah*bl/18446744073709551616:=rfl;have f2:(ofW (ah*bl)).Lo=ah*bl%18446744073709551616:=rfl;have f3:(ofW (al*bh)).Hi=al*bh/18446744073709551616:=rfl;have f4:(ofW (al*bh)).Lo=al*bh%18446744073709551616:=rfl;rw [f1,f2,f3,f4,B6g]
 by_cases h3:ah≠0/\bh≠0
 ·have c1:(ah !=0)=true:=by rw [bne_iff_ne];exact h3.1
  have c2:(bh !=0)=true:=by rw [bne_iff_ne];exact h3.2
  have:=C2i (a:=ah) (b:=al) (c:=bh) (d:=bl) (by omega) (by omega) (by omega) (by omega)
  rw [c1,c2,if_neg (by omega)]
  rfl
 ·have c1:((ah !=0)&&(bh !=0))=false:=by
   rw [D33,bne_eq_false_iff_eq,bne_eq_false_iff_eq];omega
  have e:(ah*18446744073709551616+al)*(bh*18446744073709551616+bl)=(ah*bl+al*bh)*18446744073709551616+al*bl:=by
   by_cases h1:ah=0
   ·subst h1;grind
   ·have h2:bh=0:=by omega
    subst h2;grind
  have z:ah*bl=0\/al*bh=0:=by
   by_cases h1:ah=0
   ·left;rw [h1,Int.zero_mul]
   ·right;rw [show bh=0 by omega,Int.mul_zero]
  rw [c1,D3f,e]
  generalize ah*bl=m at*
  generalize al*bh=n at*
  generalize al*bl=k at*
  by_cases hh:m+n<18446744073709551616
  ·have c2:((m/18446744073709551616 !=0)||(n/18446744073709551616 !=0))=false:=by
    rw [D3M,bne_eq_false_iff_eq,bne_eq_false_iff_eq];omega
   have oM:Q0 (C5.mk ((m%18446744073709551616+n%18446744073709551616)%18446744073709551616) 0):=by unfold Q0;simp only;omega
   have vM:wv (C5.mk ((m%18446744073709551616+n%18446744073709551616)%18446744073709551616) 0)=(m+n)*18446744073709551616:=by unfold wv;simp only;omega
   rw [c2,D3f,C3W,B7W (A4A q3.1 q3.2) oM,A4P,vM,Int.add_comm k];simp only [D3c]
  ·have c2:((m/18446744073709551616 !=0)||(n/18446744073709551616 !=0))=true:=by
    rw [D3n,bne_iff_ne,bne_iff_ne];omega
   rw [c2,D3g,if_neg (by omega)]
theorem C10 {n:Int} (h:0<=n/\n<18446744073709551616):Q0 (A0a n):=by
 unfold Q0 A0a;simp only;omega
noncomputable def C3R (n:Int):Nat->C5->C5×Bool
 |0,w=>(w,true)
 |k+1,w=>if wv w*wv (A0a n)<340282366920938463463374607431768211456 then C3R n k (ofW (wv w*wv (A0a n))) else (⟨0,0⟩,false)
theorem C8j {a b:C5} (ha:Q0 a) (hb:Q0 b):0<=wv a*wv b:=Int.mul_nonneg (B1u ha).1 (B1u hb).1
theorem C1U {n:Int} (hn:0<=n/\n<18446744073709551616) (k:Nat): ∀(w:C5),(k:Int)<=9223372036854775807->Q0 w->A81 n (k:Int) w.Hi w.Lo=some (C3R n k w):=by
 induction k with
 |zero=>
  intro w _ h;unfold A81;rw [G9 (r:=(w,true))]
  ·rfl
  ·have c1:decide (((0:Nat):Int)>0)=false:=by rw [D3t];omega
   simp only [A7O,c1,D3f]
   rfl
 |succ k ih0=>
  intro w hk h;have ih:=fun w' h' =>ih0 w' (by omega) h'
  unfold A81 at ih⊢;have c1:decide (((k+1:Nat):Int)>0)=true:=by rw [D3e];omega
  have e1:(⟨w.Hi,w.Lo⟩:C5)=w:=rfl;have hw:A2 (((k+1:Nat):Int)-1)=(k:Int):=by rw [A7]<;>omega
  unfold C3R
  by_cases hf:wv w*wv (A0a n)<340282366920938463463374607431768211456
  ·rw [if_pos hf,M3 (s' :=((k:Int),(ofW (wv w*wv (A0a n))).Hi,(ofW (wv w*wv (A0a n))).Lo))]
   ·exact ih _ (A4A (C8j h (C10 hn)) hf)
   ·simp only [A7O,c1,D3g,e1,B3b,A8z h (C10 hn),if_pos hf,D3c,D3o,D3f,hw]
  ·rw [if_neg hf,G9 (r:=(⟨0,0⟩,false))];simp only [A7O,c1,D3g,e1,B3b,A8z h (C10 hn),if_neg hf,D3c,D3p]
theorem C8t:Q0 (C5.mk 0 1):=by unfold Q0;simp
end Go.Win
namespace Go.Win
open Go.Vc Go.Dec
theorem bla (f:Nat): ∀x:Nat,x<2^f->x≠0->1<=Lib.bitLenAux f x/\2^(Lib.bitLenAux f x-1)<=x/\x<2^Lib.bitLenAux f x:=by
 induction f with
 |zero=>intro x h h0;simp at h;exact absurd h h0
 |succ f ih=>
  intro x h h0;unfold Lib.bitLenAux;rw [if_neg h0]
  by_cases h1:x/2=0
  ·have:x=1:=by omega
   subst this;have e:Lib.bitLenAux f (1/2)=0:=by cases f<;>simp [Lib.bitLenAux]
   rw [e];simp
  ·have:=ih (x/2) (by rw [Nat.pow_succ] at h;omega) h1
   obtain ⟨b1,b2,b3⟩:=this
   generalize Lib.bitLenAux f (x/2)=b at*
   refine ⟨by omega, ?_, ?_⟩
   ·obtain ⟨c,rfl⟩: ∃c,b=c+1:=⟨b-1,by omega⟩
    rw [show 1+(c+1)-1=c+1 by omega,Nat.pow_succ]
    rw [show c+1-1=c by omega] at b2
    omega
   ·rw [Nat.add_comm,Nat.pow_succ];omega
theorem C1m {x:Int} (h0:0<x) (h1:x<18446744073709551616): ∃b:Nat,A2i x=some (b:Int)/\1<=b/\b<=64/\(2:Int)^(b-1)<=x/\x<2^b:=by
 obtain ⟨n,rfl⟩:=Int.eq_ofNat_of_zero_le (by omega:0<=x)
 have hb:=bla 64 n (by have:(2:Nat)^64=18446744073709551616:=by decide
                       omega) (by omega)
 refine ⟨Lib.bitLen n, ?_,hb.1, ?_, ?_, ?_⟩
 ·unfold A2i;rw [O1 (by rw [D3e];omega),D3S]
 ·have:Lib.bitLen n-1<64:=by
   refine (Nat.pow_lt_pow_iff_right (a:=2) (by decide)).1 (Nat.lt_of_le_of_lt hb.2.1 ?_)
   have:(2:Nat)^64=18446744073709551616:=by decide
   omega
  omega
 ·have:=hb.2.1
  exact_mod_cast this
 ·have:=hb.2.2
  exact_mod_cast this
theorem A1C (k:Nat):(0:Int)<2^k:=Int.pow_pos (by decide)
end Go.Win
namespace Go.Win
open Go.Vc Go.Dec
theorem B8d {α β:Type} {m:Option α} {f g:α->Option β} (h:∀x,m=some x->f x=g x):m.bind f=m.bind g:=by
 cases m with
 |none=>rfl
 |some x=>exact h x rfl
theorem D0P {α:Type} {l:List α} {i:Int} {x:α} (h:D0 l i=some x):x∈l:=D3r (B0W h).2
theorem C3F (l:List Int) (hl:l.length<=maxLen):X8 l l=some true:=by
 have h:A07 l l 0=cond ((List.range l.length).any fun _=>false) (some false) (some true):=by
  unfold A07;refine A1z (fun i hi=> ?_) ?_
  ·unfold A0N;simp [hi,N7 hi hl]
  ·unfold A0N;simp
 have hf:((List.range l.length).any fun _=>false)=false:=by simp
 rw [hf] at h;unfold X8;simp [h]
theorem B60 (x:D6) (hl:x.Ah.length<=maxLen) (hc:∀c∈x.Ah,c.Au.length<=maxLen):A5s x x=some true:=by
 have h:A6u x x 0=cond ((List.range x.Ah.length).any fun _=>false) (some false) (some true):=by
  unfold A6u;refine A1z (fun i hi=> ?_) ?_
  ·unfold A5t;have:=C5e x.Ah[i] (hc _ (D31 hi));simp [hi,N7 hi hl,this]
  ·unfold A5t;simp
 have hf:((List.range x.Ah.length).any fun _=>false)=false:=by simp
 rw [hf] at h;unfold A5s;simp [h]
theorem C1K (s:D6) (hc:∀c∈s.Ah,c.Au.length<=maxLen):M0 s=A5u s:=by
 have e:L1 s=A4H s:=by
  funext i
  unfold L1 A4H
  congr 1
  refine B8d fun x hx=>B8d fun y _=> ?_;rw [A6a x (hc x (D0P hx))]
 unfold M0 A5u A0v A9X;rw [e]
theorem B7U (s:D6) (hl:s.Ah.length<=maxLen) (hc:∀c∈s.Ah,c.Au.length<=maxLen):
  ∃r,M0 s=some r/\(r=0->1<=s.Ah.length/\s.Ah.length<=16/\ ∀c∈s.Ah,L3 c=some 0):=by
 unfold M0
 by_cases h:(decide ((s.Ah.length:Int)<1)||decide ((s.Ah.length:Int)>16))=true
 ·rw [h];exact ⟨2,rfl,fun h=>by simp at h⟩
 ·rw [Bool.not_eq_true] at h;rw [h,D3f];simp only [D3M,D3t] at h;unfold A0v;obtain ⟨r,hr,hQ⟩:=T8 (f:=fun i:Int=>L1 s i) (fun i=> ∃k:Nat,i=(k:Int)/\k<=s.Ah.length/\ ∀j (hj:j<s.Ah.length),j<k->L3 s.Ah[j]=some 0)
   (fun i=>s.Ah.length-i.toNat) (fun r=>r=2\/(r=0/\ ∀c∈s.Ah,L3 c=some 0)) 0 ⟨0,rfl,Nat.zero_le _,fun j _ hj=>by omega⟩ (by
    rintro _ ⟨k,rfl,hk,hv⟩;unfold L1
    by_cases hlt:k<s.Ah.length
    ·obtain ⟨q,hq,_⟩:=A8y s.Ah[k] (hc _ (D31 hlt));have h0:D0 s.Ah (0:Int)=some (s.Ah[0]'(by omega)):=by
      have:=H6 (show 0<s.Ah.length by omega)
      simp [D0,this]
     simp only [Int.ofNat_lt,hlt,decide_true,D3g,I2,H6 hlt,D3c,h0,hq];cases hb:(((q !=0)||(s.Ah[k].W !=(s.Ah[0]'(by omega)).W))||(s.Ah[k].Cap !=(s.Ah[0]'(by omega)).Cap))||(s.Ah[k].I !=(s.Ah[0]'(by omega)).I) with
     |true=>exact .inr ⟨2,rfl, .inl rfl⟩
     |false=>
      simp only [D3M,bne_eq_false_iff_eq] at hb;left;refine ⟨(k:Int)+1,by rw [N7 hlt hl];rfl,⟨k+1,by simp,hlt,fun j hj hjk=> ?_⟩,by omega⟩
      by_cases hjk2:j=k
      ·subst hjk2;rw [hq,hb.1.1.1]
      ·exact hv j hj (by omega)
    ·right;have: ¬((k:Int)<(s.Ah.length:Int)):=by omega
     simp only [this,decide_false,D3f];refine ⟨0,rfl, .inr ⟨rfl,fun c hcm=> ?_⟩⟩;obtain ⟨j,hj,rfl⟩:=List.mem_iff_getElem.1 hcm;exact hv j hj (by omega))
  refine ⟨r,hr,fun h0=>⟨by omega,by omega, ?_⟩⟩
  rcases hQ with hQ|hQ
  ·omega
  ·exact hQ.2
theorem D2J (n w c:Int) (h1:1<=n) (h2:n<=16):A9D n w c 0 []=some (if (P6 w c).2=0 then (⟨List.replicate n.toNat (P6 w c).1⟩,0) else (⟨[]⟩,(P6 w c).2)):=by
 unfold A9D
 by_cases he:(P6 w c).2=0
 ·rw [if_pos he];obtain ⟨r,hr,hQ⟩:=T8 (f:=fun t:Int×List A5=>A3n n w c t.1 t.2) (fun t=> ∃k:Nat,t=((k:Int),List.replicate k (P6 w c).1)/\(k:Int)<=n)
   (fun t=>(n-t.1).toNat) (fun r=>r=(⟨List.replicate n.toNat (P6 w c).1⟩,0)) (0, []) ⟨0,rfl,by omega⟩ (by
    rintro _ ⟨k,rfl,hk⟩;simp only;unfold A3n
    by_cases hlt:(k:Int)<n
    ·left;have hk2:decide (((List.replicate k (P6 w c).1).length+ [(P6 w c).1].length)*56<=140737488355328)=true:=by
      rw [D3e,D3R,D4d];omega
     have hs:A2 ((k:Int)+1)=(k:Int)+1:=by rw [A7]<;>omega
     refine ⟨((k:Int)+1,List.replicate (k+1) (P6 w c).1), ?_,⟨k+1,by simp,by omega⟩,by show (n-((k:Int)+1)).toNat<(n-(k:Int)).toNat;omega⟩
     simp only [hlt,decide_true,D3g,he,D3P,D3f];rw [hk2,O7,hs,List.replicate_succ']
    ·right;have:n.toNat=k:=by omega
     simp only [hlt,decide_false,D3f];exact ⟨_,rfl,by rw [this]⟩)
  rw [hr,hQ]
 ·rw [if_neg he];have hb:((P6 w c).2 !=0)=true:=by rw [bne_iff_ne];exact he
  refine G9 ?_;unfold A3n;have:(0:Int)<n:=by omega
  simp only [this,decide_true,D3g,hb]
theorem D12 (n w c:Int) (h1:1<=n) (h2:n<=16):B1d w c n []=some (if (V6 w c).2=0 then (⟨List.replicate n.toNat (V6 w c).1⟩,0) else (⟨[]⟩,(V6 w c).2)):=by
 unfold B1d
 by_cases he:(V6 w c).2=0
 ·rw [if_pos he];obtain ⟨r,hr,hQ⟩:=T8 (f:=fun t:Int×List A5=>A6t w c t.1 t.2) (fun t=> ∃k:Nat,t=(n-(k:Int),List.replicate k (V6 w c).1)/\(k:Int)<=n)
   (fun t=>t.1.toNat) (fun r=>r=(⟨List.replicate n.toNat (V6 w c).1⟩,0)) (n, []) ⟨0,by simp,by omega⟩ (by
    rintro _ ⟨k,rfl,hk⟩;simp only;unfold A6t
    by_cases hlt:n-(k:Int)>0
    ·left;have hk2:decide (((List.replicate k (V6 w c).1).length+ [(V6 w c).1].length)*56<=140737488355328)=true:=by
      rw [D3e,D3R,D4d];omega
     have hs:A2 (n-(k:Int)-1)=n-(k:Int)-1:=by rw [A7]<;>omega
     refine ⟨(n-(k:Int)-1,List.replicate (k+1) (V6 w c).1), ?_,⟨k+1,by simp;omega,by omega⟩,by show (n-(k:Int)-1).toNat<(n-(k:Int)).toNat;omega⟩
     simp only [hlt,decide_true,D3g,he,D3P,D3f];rw [hk2,O7,hs,List.replicate_succ']
    ·right;have:n.toNat=k:=by omega
     simp only [hlt,decide_false,D3f];exact ⟨_,rfl,by rw [this]⟩)
  rw [hr,hQ]
 ·rw [if_neg he];have hb:((V6 w c).2 !=0)=true:=by rw [bne_iff_ne];exact he
  refine G9 ?_;unfold A6t;have:n>(0:Int):=by omega
  simp only [this,decide_true,D3g,hb]
theorem C9E (p0 p1:Int):P6 p0 p1=V6 p0 p1:=by
 unfold P6 V6
 congr 1
 rw [D3x];simp only [K3,D3n,D3y,D33,D3e,D3t];omega
end Go.Win
namespace Go.Win
open Go.Vc Go.Dec
def D7 (l:List B0) (i:Nat):B0:=l.getD i default
theorem B7C {l:List B0} {i:Nat} (h:i<l.length):l[i]? =some (D7 l i):=by
 unfold D7;rw [H6 h];simp [List.getD,H6 h]
theorem B52 {l:List B0} {i:Nat} (h:i<l.length):D7 l i=l[i]:=by
 have:=B7C h;rw [H6 h] at this;exact (D3V this).symm
theorem P7 {l:List B0} {i:Nat} (h:i<l.length):D0 l (i:Int)=some (D7 l i):=by
 rw [I2,B7C h]
def A7f (l:List B0) (N:Int) (i:Nat):Bool:=
 ((decide ((D7 l i).Bf<1)||decide ((D7 l i).Bf>(D7 l i).Be))||decide ((D7 l i).Be>N))||
 (decide (0<i)&&((decide ((D7 l (i-1)).V>(D7 l i).V)||decide ((D7 l (i-1)).Bf>=(D7 l i).Bf))||decide ((D7 l (i-1)).Be>=(D7 l i).Be)))
def A3U (l:List B0) (N:Int):Bool:=decide (0<l.length)&&((D7 l 0).Be !=1||(D7 l (l.length-1)).Bf !=N)
def A9b (r:C8):Bool:= !(((decide (r.N<0))||(decide (r.N>1099511627776)))||(!(((r.Ac.length:Int)==0)==(r.N==0))))
def okB (r:C8):Bool:=A9b r&& !((List.range r.Ac.length).any (A7f r.Ac r.N)||A3U r.Ac r.N)
theorem B8U {i n:Nat} (h0:0<i) (h:i<=n) (hm:n<=maxLen):A2 ((i:Int)-1)=((i-1:Nat):Int):=by
 rw [F8] at hm;rw [A7]<;>omega
theorem A10 (r:C8) (hl:r.Ac.length<=1048576):Y4 r=some (cond (okB r) 0 2):=by
 have hm:r.Ac.length<=maxLen:=by rw [F8];omega
 unfold Y4;cases hh:A9b r with
 |false=>
  have h1:(((decide (r.N<0))||(decide (r.N>1099511627776)))||(!(((r.Ac.length:Int)==0)==(r.N==0))))=true:=nF (by unfold A9b at hh;exact hh)
  rw [h1,D3g];unfold okB;rw [hh]
  rfl
 |true=>
  have h1:(((decide (r.N<0))||(decide (r.N>1099511627776)))||(!(((r.Ac.length:Int)==0)==(r.N==0))))=false:=Go.Dec.nT (by unfold A9b at hh;exact hh)
  rw [h1,D3f];unfold B09;have:=A1z (f:=fun s:Int=>A2R r s) (n:=r.Ac.length) (bad:=A7f r.Ac r.N) (E:=(2:Int)) (A:=some (cond (A3U r.Ac r.N) 2 0))
   (fun i hi=>by
    unfold A2R A7f;simp only [Int.ofNat_lt,hi,decide_true,D3g,P7 hi,D3c,N7 hi hm]
    by_cases h0:0<i
    ·rw [B8U h0 (Nat.le_of_lt hi) hm,P7 (by omega),D3h (by omega:(i:Int)>0),D3h h0]
     simp only [D3c,D3g,D3N];cases ((decide ((D7 r.Ac i).Bf<1)||decide ((D7 r.Ac i).Bf>(D7 r.Ac i).Be))||decide ((D7 r.Ac i).Be>r.N)) with
     |true=>rfl
     |false=>
      simp only [D3f,D3D]
    ·rw [D3j (by omega: ¬(i:Int)>0),D3j h0]
     simp only [D3f,D3H,Bool.or_false])
   (by
    unfold A2R A3U;simp only [D3F,decide_false,D3f]
    by_cases h0:0<r.Ac.length
    ·rw [D3h (by omega:(r.Ac.length:Int)>0),D3h h0,B8U h0 (D3U _) hm]
     have e0:D0 r.Ac (0:Int)=some (D7 r.Ac 0):=P7 h0;rw [e0,P7 (by omega)]
     simp only [E4,D3c,D3N];cases hb:(D7 r.Ac 0).Be !=1 with
     |true=>simp
     |false=>
      simp only [D3p,E4,D3c,D3D];cases (D7 r.Ac (r.Ac.length-1)).Bf !=r.N<;>rfl
    ·rw [D3j (by omega: ¬(r.Ac.length:Int)>0),D3j h0]
     simp)
  rw [show ((0:Int))=((0:Nat):Int) from rfl] at this⊢;rw [this];unfold okB;rw [hh];cases (List.range r.Ac.length).any (A7f r.Ac r.N)<;>cases A3U r.Ac r.N<;>rfl
theorem A4J (r:C8) (hl:r.Ac.length<=1048576):A0c r=some (cond (okB r) 0 2):=by
 have hm:r.Ac.length<=maxLen:=by rw [F8];omega
 unfold A0c;cases hh:A9b r with
 |false=>
  have h1:(((decide (r.N<0))||(decide (r.N>1099511627776)))||(!(((r.Ac.length:Int)==0)==(r.N==0))))=true:=nF (by unfold A9b at hh;exact hh)
  rw [h1,D3g];unfold okB;rw [hh]
  rfl
 |true=>
  have h1:(((decide (r.N<0))||(decide (r.N>1099511627776)))||(!(((r.Ac.length:Int)==0)==(r.N==0))))=false:=Go.Dec.nT (by unfold A9b at hh;exact hh)
  rw [h1,D3f];unfold A9Z;have:=A1z (f:=fun s:Int=>A2w r s) (n:=r.Ac.length)
   (bad:=fun i=>A7f r.Ac r.N i||((decide (i=0)&&(D7 r.Ac i).Be !=1)||(decide (i=r.Ac.length-1)&&(D7 r.Ac i).Bf !=r.N))) (E:=(2:Int)) (A:=some 0)
   (fun i hi=>by
    unfold A2w A7f;have hlast:A2 ((r.Ac.length:Int)-1)=((r.Ac.length-1:Nat):Int):=B8U (by omega) (D3U _) hm
    have e1:((i:Int)==0)=decide (i=0):=by rw [D3x,D36,D3e];omega
    have e2:((i:Int)==((r.Ac.length-1:Nat):Int))=decide (i=r.Ac.length-1):=by rw [D3x,D36,D3e];omega
    simp only [Int.ofNat_lt,hi,decide_true,D3g,P7 hi,D3c,N7 hi hm,hlast,e1,e2]
    by_cases h0:0<i
    ·rw [B8U h0 (Nat.le_of_lt hi) hm,P7 (by omega),D3h (by omega:(i:Int)>0),D3h h0]
     simp only [D3c,D3g,D3N];cases ((decide ((D7 r.Ac i).Bf<1)||decide ((D7 r.Ac i).Bf>(D7 r.Ac i).Be))||decide ((D7 r.Ac i).Be>r.N))<;>
      cases (decide (i=0)&&(D7 r.Ac i).Be !=1)<;>cases (decide (i=r.Ac.length-1)&&(D7 r.Ac i).Bf !=r.N)<;>
      cases ((decide ((D7 r.Ac (i-1)).V>(D7 r.Ac i).V)||decide ((D7 r.Ac (i-1)).Bf>=(D7 r.Ac i).Bf))||decide ((D7 r.Ac (i-1)).Be>=(D7 r.Ac i).Be))<;>rfl
    ·rw [D3j (by omega: ¬(i:Int)>0),D3j h0]
     simp only [D3f,D3H,Bool.or_false];cases ((decide ((D7 r.Ac i).Bf<1)||decide ((D7 r.Ac i).Bf>(D7 r.Ac i).Be))||decide ((D7 r.Ac i).Be>r.N))<;>
      cases (decide (i=0)&&(D7 r.Ac i).Be !=1)<;>cases (decide (i=r.Ac.length-1)&&(D7 r.Ac i).Bf !=r.N)<;>rfl)
   (by
    unfold A2w;simp only [D3F,decide_false,D3f])
  rw [show ((0:Int))=((0:Nat):Int) from rfl] at this⊢;rw [this];have hany:(List.range r.Ac.length).any (fun i=>A7f r.Ac r.N i||((decide (i=0)&&(D7 r.Ac i).Be !=1)||(decide (i=r.Ac.length-1)&&(D7 r.Ac i).Bf !=r.N)))=
    ((List.range r.Ac.length).any (A7f r.Ac r.N)||A3U r.Ac r.N):=by
   rw [D3x,D3n,A6W,A6W];constructor
   ·rintro ⟨i,hi,h⟩;simp only [D3n,D3k,D3e] at h;rcases h with h|⟨rfl,h⟩|⟨rfl,h⟩
    ·exact .inl ⟨i,hi,h⟩
    ·right;unfold A3U;simp only [D3k,D3e,D3n];exact ⟨hi, .inl h⟩
    ·right;unfold A3U;simp only [D3k,D3e,D3n];exact ⟨by omega, .inr h⟩
   ·rintro (⟨i,hi,h⟩|h)
    ·exact ⟨i,hi,by rw [h];rfl⟩
    ·unfold A3U at h;simp only [D3k,D3e,D3n] at h;rcases h with ⟨h0,h|h⟩
     ·exact ⟨0,h0,by rw [h];simp⟩
     ·exact ⟨r.Ac.length-1,by omega,by rw [h];simp⟩
  rw [hany];unfold okB;rw [hh];cases ((List.range r.Ac.length).any (A7f r.Ac r.N)||A3U r.Ac r.N)<;>rfl
structure Y0 (l:List B0) (N:Int):Prop where
 n0:0<=N
 n1:N<=1099511627776
 nil:l.length=0↔N=0
 rng: ∀i,i<l.length->1<=(D7 l i).Bf/\(D7 l i).Bf<=(D7 l i).Be/\(D7 l i).Be<=N
 up: ∀i,i+1<l.length->(D7 l i).V<=(D7 l (i+1)).V/\(D7 l i).Bf<(D7 l (i+1)).Bf/\(D7 l i).Be<(D7 l (i+1)).Be
 first:0<l.length->(D7 l 0).Be=1
 last:0<l.length->(D7 l (l.length-1)).Bf=N
theorem Z8 (r:C8):okB r=true↔Y0 r.Ac r.N:=by
 unfold okB A9b A3U;have hany:(List.range r.Ac.length).any (A7f r.Ac r.N)=false↔ ∀i,i<r.Ac.length->A7f r.Ac r.N i=false:=by
  rw [List.any_eq_false];constructor
  ·intro h i hi;have:=h i (List.mem_range.2 hi);simpa using this
  ·intro h i hi;have:=h i (List.mem_range.1 hi);simpa using this
 simp only [D3k,D3y,D3M,D3t,Bool.not_eq_false',D36,hany,D33,bne_eq_false_iff_eq,gt_iff_lt];constructor
 ·rintro ⟨⟨⟨h1,h2⟩,h3⟩,h4,h5⟩;have h3' :r.Ac.length=0↔r.N=0:=by
   have:=congrArg (· =true) h3;simp only [D36,eq_iff_iff] at this;omega
  refine ⟨by omega,by omega,h3',fun i hi=> ?_,fun i hi=> ?_,fun h0=> ?_,fun h0=> ?_⟩
  ·have:=h4 i hi;unfold A7f at this;simp only [D3M,D3t] at this;omega
  ·have:=h4 (i+1) hi;unfold A7f at this;simp only [D3M,D3t,D33,D3T] at this;omega
  ·rcases h5 with h5|h5
   ·omega
   ·exact h5.1
  ·rcases h5 with h5|h5
   ·omega
   ·exact h5.2
 ·intro h;refine ⟨⟨⟨by have:=h.n0;omega,by have:=h.n1;omega⟩, ?_⟩,fun i hi=> ?_, ?_⟩
  ·have:=h.nil;rw [D3x,D36,D36];omega
  ·unfold A7f;have h1:=h.rng i hi;simp only [D3M,D3t,D33];refine ⟨by omega, ?_⟩
   by_cases h0:0<i
   ·right;have:=h.up (i-1) (by omega)
    rw [show i-1+1=i by omega] at this
    omega
   ·exact .inl h0
  ·by_cases h0:0<r.Ac.length
   ·exact .inr ⟨h.first h0,h.last h0⟩
   ·exact .inl h0
def A0K (l:List B0):Nat->Int
 |0=>1
 |i+1=>if i=0 then 1 else if (D7 l i).Be-(D7 l (i-1)).Bf>A0K l i then (D7 l i).Be-(D7 l (i-1)).Bf else A0K l i
theorem C3h (r:C8) (h:Y0 r.Ac r.N) (hl:r.Ac.length<=1048576) (h0:0<r.Ac.length):A8S r 1 1=some (A0K r.Ac r.Ac.length):=by
 have hm:r.Ac.length<=maxLen:=by rw [F8];omega
 unfold A8S;obtain ⟨v,hv,hQ⟩:=T8 (f:=fun s:Int×Int=>B08 r s.1 s.2)
  (fun s=> ∃i:Nat,1<=i/\i<=r.Ac.length/\s=(A0K r.Ac i,(i:Int)))
  (fun s=>r.Ac.length-s.2.toNat) (fun v=>v=A0K r.Ac r.Ac.length) (1,1) ⟨1,D3U _,h0,rfl⟩ (by
   rintro _ ⟨i,h1,hi,rfl⟩;simp only;unfold B08
   by_cases hlt:i<r.Ac.length
   ·left;have r1:=h.rng i hlt;have r2:=h.rng (i-1) (by omega)
    have n1:=h.n1;simp only [Int.ofNat_lt,hlt,decide_true,D3g,P7 hlt,D3c,N7 hlt hm,B8U h1 hi hm,P7 (show i-1<r.Ac.length by omega)]
    refine ⟨_,rfl,⟨i+1,by omega,hlt, ?_⟩,by show r.Ac.length-((i:Int)+1).toNat<r.Ac.length-(i:Int).toNat;omega⟩
    rw [A7 (by omega) (by omega)]
    have:A0K r.Ac (i+1)=P8 (A0K r.Ac i) ((D7 r.Ac i).Be-(D7 r.Ac (i-1)).Bf):=by
     show (if i=0 then (1:Int) else _)=_
     rw [if_neg (by omega)]
    rw [this]
    rfl
   ·right;have hn: ¬((i:Int)<(r.Ac.length:Int)):=by omega
    have hi2:i=r.Ac.length:=by omega
    subst hi2;simp only [hn,decide_false,D3f];exact ⟨_,rfl,rfl⟩)
 rw [hv,hQ]
def P2 (l:List B0):Int:=if l.length=0 then 0 else A0K l l.length
theorem C9Q (r:C8) (hl:r.Ac.length<=1048576):B3Q r=some (cond (okB r) (P2 r.Ac) 0):=by
 unfold B3Q;rw [A10 r hl];simp only [D3c];cases hb:okB r with
 |false=>rfl
 |true=>
  have h:=(Z8 r).1 hb;simp only [D3g,D3P,D3D];unfold P2
  by_cases h0:r.Ac.length=0
  ·rw [if_pos h0,h0];rfl
  ·have c:((r.Ac.length:Int)==0)=false:=by rw [D32];omega
   rw [c,D3f,if_neg h0,C3h r h hl (by omega)]
theorem C8I: @B5A= @A8S:=rfl
theorem D1e (r:C8) (hl:r.Ac.length<=1048576):B5z r=some (cond (okB r) (P2 r.Ac) 0):=by
 unfold B5z;rw [A4J r hl];simp only [D3c];cases hb:okB r with
 |false=>rfl
 |true=>
  have h:=(Z8 r).1 hb;simp only [D3g,D3P,D3D];unfold P2
  by_cases h0:r.Ac.length=0
  ·rw [if_pos h0,h.nil.1 h0];rfl
  ·have c:(r.N==0)=false:=by rw [D32];intro hc;exact h0 (h.nil.2 hc)
   rw [c,D3f,if_neg h0,C8I,C3h r h hl (by omega)]
end Go.Win
namespace Go.Win
open Go.Vc Go.Dec
theorem J6 {α:Type} {b:Bool} {bad:Prop} {X Y:α} (h:b=true↔bad):(bad->cond b X Y=X)/\(¬bad->cond b X Y=Y):=by
 cases b with
 |true=>exact ⟨fun _=>rfl,fun hn=>absurd (h.1 rfl) hn⟩
 |false=>exact ⟨fun hb=>absurd (h.2 hb) (by decide),fun _=>rfl⟩
theorem A2c {α:Type} (a b:Bool) (x y:α):cond a x (cond b x y)=cond (a||b) x y:=by cases a<;>rfl
def E1 (l:List A3) (j i:Nat):Int:=(((l.take i).countP fun b=>b.As==(j:Int)):Nat)
theorem C2Y (l:List A3) (j:Nat):E1 l j 0=0:=by simp [E1]
theorem C2X {l:List A3} {i:Nat} (h:i<l.length) (j:Nat):E1 l j (i+1)=E1 l j i+(if (el l i).As=(j:Int) then 1 else 0):=by
 unfold E1;rw [List.take_add_one,A1q h,Option.toList_some,List.countP_append,List.countP_singleton];split<;>simp_all
theorem D1H (l:List A3) (j i:Nat):0<=E1 l j i:=by unfold E1;omega
theorem D1G (l:List A3) (j i:Nat):E1 l j i<=i:=by
 have:(l.take i).countP (fun b=>b.As==(j:Int))<=(l.take i).length:=List.countP_le_length;rw [D3E] at this;unfold E1;omega
def A0U (l:List A3) (i:Nat):Prop:= ¬(0<=(el l i).T/\(el l i).T<=16777216/\0<=(el l i).As/\(el l i).As<=30)\/(0<i/\((el l (i-1)).T>(el l i).T\/(el l (i-1)).As<(el l i).As))
def A7g (l:List A3) (k:Int) (j:Nat):Prop:=E1 l j l.length>k+1\/((j:Int)<(el l 0).As/\E1 l j l.length<k)
def Z9 (l:List A3) (k:Int):Prop:=(1<=k/\k<=128)/\(∀i,i<l.length-> ¬A0U l i)/\(0<l.length-> ∀j:Nat,(j:Int)<=(el l 0).As-> ¬A7g l k j)
theorem D0D (l:List A3) (i:Nat): [E1 l 0 i,E1 l 1 i,E1 l 2 i,E1 l 3 i,E1 l 4 i,E1 l 5 i,E1 l 6 i,E1 l 7 i,E1 l 8 i,E1 l 9 i,E1 l 10 i,E1 l 11 i,E1 l 12 i,E1 l 13 i,E1 l 14 i,E1 l 15 i,E1 l 16 i,E1 l 17 i,E1 l 18 i,E1 l 19 i,E1 l 20 i,E1 l 21 i,E1 l 22 i,E1 l 23 i,E1 l 24 i,E1 l 25 i,E1 l 26 i,E1 l 27 i,E1 l 28 i,E1 l 29 i,E1 l 30 i]=(List.range 31).map fun j=>E1 l j i:=rfl
theorem B9C (l:List A3) (i:Nat) {L:Int} (h0:0<=L) (h1:L<=30):D0 [E1 l 0 i,E1 l 1 i,E1 l 2 i,E1 l 3 i,E1 l 4 i,E1 l 5 i,E1 l 6 i,E1 l 7 i,E1 l 8 i,E1 l 9 i,E1 l 10 i,E1 l 11 i,E1 l 12 i,E1 l 13 i,E1 l 14 i,E1 l 15 i,E1 l 16 i,E1 l 17 i,E1 l 18 i,E1 l 19 i,E1 l 20 i,E1 l 21 i,E1 l 22 i,E1 l 23 i,E1 l 24 i,E1 l 25 i,E1 l 26 i,E1 l 27 i,E1 l 28 i,E1 l 29 i,E1 l 30 i] L=some (E1 l L.toNat i):=by
 rw [D0D];have:D0 ((List.range 31).map fun j=>E1 l j i) ((L.toNat:Nat):Int)=some (E1 l L.toNat i):=by
  rw [I2,D3L,List.getElem?_range (by omega)]
  rfl
 rw [<-this]
 congr 1
 omega
theorem C2W {l:List A3} {i:Nat} (h:i<l.length) (hl:l.length<=maxLen) (h0:0<=(el l i).As) (j:Nat):
  (if (el l i).As.toNat=j then A2 (E1 l (el l i).As.toNat i+1) else E1 l j i)=E1 l j (i+1):=by
 rw [C2X h];have h1:=D1H l j i;have h2:=D1G l j i;rw [F8] at hl
 by_cases e:(el l i).As.toNat=j
 ·rw [if_pos e,e,if_pos (by omega),A7]<;>omega
 ·rw [if_neg e,if_neg (by omega)];omega
def stB (l:List A3) (i:Nat):Int×Int×Int×Int×Int×Int×Int×Int×Int×Int×Int×Int×Int×Int×Int×Int×Int×Int×Int×Int×Int×Int×Int×Int×Int×Int×Int×Int×Int×Int×Int×Int:=((i:Int),E1 l 0 i,E1 l 1 i,E1 l 2 i,E1 l 3 i,E1 l 4 i,E1 l 5 i,E1 l 6 i,E1 l 7 i,E1 l 8 i,E1 l 9 i,E1 l 10 i,E1 l 11 i,E1 l 12 i,E1 l 13 i,E1 l 14 i,E1 l 15 i,E1 l 16 i,E1 l 17 i,E1 l 18 i,E1 l 19 i,E1 l 20 i,E1 l 21 i,E1 l 22 i,E1 l 23 i,E1 l 24 i,E1 l 25 i,E1 l 26 i,E1 l 27 i,E1 l 28 i,E1 l 29 i,E1 l 30 i)
theorem B9u (l:List A3) (k:Int) (hk:1<=k/\k<=128) (h0:0<l.length) (hL:0<=(el l 0).As/\(el l 0).As<=30) (i:Nat) (hi:i=l.length):
  A2M k (E1 l 0 i) (E1 l 1 i) (E1 l 2 i) (E1 l 3 i) (E1 l 4 i) (E1 l 5 i) (E1 l 6 i) (E1 l 7 i) (E1 l 8 i) (E1 l 9 i) (E1 l 10 i) (E1 l 11 i) (E1 l 12 i) (E1 l 13 i) (E1 l 14 i) (E1 l 15 i) (E1 l 16 i) (E1 l 17 i) (E1 l 18 i) (E1 l 19 i) (E1 l 20 i) (E1 l 21 i) (E1 l 22 i) (E1 l 23 i) (E1 l 24 i) (E1 l 25 i) (E1 l 26 i) (E1 l 27 i) (E1 l 28 i) (E1 l 29 i) (E1 l 30 i) (el l 0) 0=some (P4 (∀j:Nat,(j:Int)<=(el l 0).As-> ¬A7g l k j)):=by
 unfold A2M;have H:=L2 (f:=fun s:Int=>A18 k (E1 l 0 i) (E1 l 1 i) (E1 l 2 i) (E1 l 3 i) (E1 l 4 i) (E1 l 5 i) (E1 l 6 i) (E1 l 7 i) (E1 l 8 i) (E1 l 9 i) (E1 l 10 i) (E1 l 11 i) (E1 l 12 i) (E1 l 13 i) (E1 l 14 i) (E1 l 15 i) (E1 l 16 i) (E1 l 17 i) (E1 l 18 i) (E1 l 19 i) (E1 l 20 i) (E1 l 21 i) (E1 l 22 i) (E1 l 23 i) (E1 l 24 i) (E1 l 25 i) (E1 l 26 i) (E1 l 27 i) (E1 l 28 i) (E1 l 29 i) (E1 l 30 i) (el l 0) s) ((el l 0).As.toNat+1) (A7g l k) false (some true)
  (fun j hj _=>by
   unfold A18;have e1:decide ((j:Int)<=(el l 0).As)=true:=D3h (by omega)
   have e2:A2 (k+1)=k+1:=by rw [A7]<;>omega
   have e3:A2 ((j:Int)+1)=((j+1:Nat):Int):=by rw [A7]<;>omega
   rw [e1,D3g,B9C l i (by omega) (by omega),D3c]
   simp only [D3c,e2,e3,D3S]
   by_cases g1:E1 l j i>k+1
   ·simp only [g1,decide_true,D3o,D3H,E9,D3c,D3W,D3g];exact ⟨fun _=>trivial,fun hn=>absurd (.inl (hi▸g1)) hn⟩
   ·simp only [g1,decide_false,D3p,D3N,D3D]
    by_cases g2:(j:Int)<(el l 0).As
    ·simp only [g2,decide_true,E4,D3c,D3N];refine J6 ?_;unfold A7g;rw [D3e,<-hi];omega
    ·simp only [g2,decide_false,E9,D3c,D3H,D3f];refine ⟨fun hb=> ?_,fun _=>trivial⟩;unfold A7g at hb;rw [<-hi] at hb;omega)
  (fun _=>by
   unfold A18;rw [D3j (by omega),D3f])
 by_cases hb: ∃j:Nat,j<(el l 0).As.toNat+1/\A7g l k j
 ·rw [H.1 hb,J3];intro hn;obtain ⟨j,h1,h2⟩:=hb;exact hn j (by omega) h2
 ·rw [H.2 fun j h1 h2=>hb ⟨j,h1,h2⟩,L7];intro j h1 h2;exact hb ⟨j,by omega,h2⟩
theorem A3P (l:List A3) (k:Int) (hl:l.length<=maxLen):Y1 l k=some (P4 (Z9 l k)):=by
 unfold Y1
 by_cases hk:1<=k/\k<=128
 ·have e:(decide (k<(1:Int))||decide (k>(128:Int)))=false:=by simp;omega
  rw [e,D3f];unfold B0G;have H: ∀R,((∃i,0<=i/\i<l.length/\A0U l i)->R=some false)/\((∀i,0<=i->i<l.length-> ¬A0U l i)->R=(if 0<l.length then A2M k (E1 l 0 l.length) (E1 l 1 l.length) (E1 l 2 l.length) (E1 l 3 l.length) (E1 l 4 l.length) (E1 l 5 l.length) (E1 l 6 l.length) (E1 l 7 l.length) (E1 l 8 l.length) (E1 l 9 l.length) (E1 l 10 l.length) (E1 l 11 l.length) (E1 l 12 l.length) (E1 l 13 l.length) (E1 l 14 l.length) (E1 l 15 l.length) (E1 l 16 l.length) (E1 l 17 l.length) (E1 l 18 l.length) (E1 l 19 l.length) (E1 l 20 l.length) (E1 l 21 l.length) (E1 l 22 l.length) (E1 l 23 l.length) (E1 l 24 l.length) (E1 l 25 l.length) (E1 l 26 l.length) (E1 l 27 l.length) (E1 l 28 l.length) (E1 l 29 l.length) (E1 l 30 l.length) (el l 0) 0 else some true))->R=some (P4 (Z9 l k)):=by
   intro R hR
   by_cases hb: ∃i,0<=i/\i<l.length/\A0U l i
   ·rw [hR.1 hb,J3];intro hn;obtain ⟨i,_,h1,h2⟩:=hb;exact hn.2.1 i h1 h2
   ·have hg: ∀i,0<=i->i<l.length-> ¬A0U l i:=fun i h1 h2 h3=>hb ⟨i,h1,h2,h3⟩;rw [hR.2 hg]
    by_cases h0:0<l.length
    ·have h1:=hg 0 (D3U _) h0;unfold A0U at h1;rw [if_pos h0,B9u l k hk h0 (by omega) l.length rfl]
     congr 1
     rw [D3x,H2,H2];exact ⟨fun h2=>⟨hk,fun i hi=>hg i (Nat.zero_le _) hi,fun _=>h2⟩,fun h2=>h2.2.2 h0⟩
    ·rw [if_neg h0,L7];exact ⟨hk,fun i hi=>hg i (Nat.zero_le _) hi,fun h=>absurd h h0⟩
  apply H;refine A1W (stB l) 0 l.length (Nat.zero_le _) (A0U l) false _ (fun i _ hi _=> ?_) (fun hg=> ?_)
  ·simp only [stB];unfold A5H;rw [D3h (by omega),D3g,F4 hi,D3c]
   simp only []
   by_cases hr:0<=(el l i).T/\(el l i).T<=16777216/\0<=(el l i).As/\(el l i).As<=30
   ·have e1:(!W3 (el l i).T|| !A0V (el l i).As)=false:=by
     unfold W3 A0V;simp;omega
    rw [e1,D3f,B9C l i hr.2.2.1 hr.2.2.2];simp only [D3c,C2W hi hl hr.2.2.1,Q4 hi hl];rcases i with _|i
    ·simp only [D3F,gt_iff_lt,Int.natCast_zero,decide_false,E9,D3c,D3H,D3f];refine ⟨fun hb=> ?_,fun _=>trivial⟩;unfold A0U at hb;omega
    ·have e2:decide (((i+1:Nat):Int)>0)=true:=D3h (by omega)
     rw [e2,A2l (by omega) (Nat.le_of_lt hi) hl,D3T,F4 (by omega)]
     simp only [E4,D3c,D3N]
     by_cases g1:(el l i).T>(el l (i+1)).T
     ·simp only [g1,decide_true,D3o,E9,D3c,D3W,D3g];exact ⟨fun _=>trivial,fun hn=>absurd (.inr ⟨by omega, .inl (by rw [D3T];exact g1)⟩) hn⟩
     ·simp only [g1,decide_false,D3p,E4,D3c,D3D];refine J6 ?_;unfold A0U;rw [D3e,D3T];omega
   ·have e1:(!W3 (el l i).T|| !A0V (el l i).As)=true:=by
     unfold W3 A0V;rw [D3x];simp;omega
    rw [e1,D3g];exact ⟨fun _=>rfl,fun hn=>absurd (.inl hr) hn⟩
  ·simp only [stB];unfold A5H;rw [D3j (D3F _),D3f]
   congr 1
   by_cases h0:0<l.length
   ·have e1:((l.length:Int)==0)=false:=by rw [D32];omega
    rw [e1,D3f,if_pos h0,A21 h0,D3c]
   ·have e1:((l.length:Int)==0)=true:=by
     have:l.length=0:=by omega
     rw [this];rfl
    rw [e1,D3g,if_neg h0]
 ·have e:(decide (k<(1:Int))||decide (k>(128:Int)))=true:=by
   rw [D3x];simp;omega
  rw [e,D3g,J3];exact fun h=>hk h.1
def A6H (l:List A3) (i:Nat):List Int:=(List.range 31).map fun j=>E1 l j i
theorem C2Z (l:List A3) (i:Nat) {L:Int} (h0:0<=L) (h1:L<=30):D0 (A6H l i) L=some (E1 l L.toNat i):=B9C l i h0 h1
theorem B7z (l:List A3) (i:Nat):(A6H l i).length=31:=by simp [A6H]
theorem C7K {l:List A3} {i:Nat} (h:i<l.length) (hl:l.length<=maxLen) (h0:0<=(el l i).As) (h1:(el l i).As<=30):
  (A6H l i).set (el l i).As.toNat (A2 (E1 l (el l i).As.toNat i+1))=A6H l (i+1):=by
 apply List.ext_getElem?;intro j;rw [List.getElem?_set,B7z];unfold A6H
 by_cases hj:j<31
 ·rw [D3L,D3L,List.getElem?_range hj];have:=C2W h hl h0 j;simp only [Option.map_some];rw [<-this];split<;>simp_all
 ·have:(el l i).As.toNat≠j:=by omega
  rw [if_neg this,D39 (by simp;omega),D39 (by simp;omega)]
theorem C69 (l:List A3) (k:Int) (hk:1<=k/\k<=128) (hg:∀i,i<l.length-> ¬A0U l i):
  A5g l k (A6H l l.length) 0=some (P4 (0<l.length-> ∀j:Nat,(j:Int)<=(el l 0).As-> ¬A7g l k j)):=by
 unfold A5g;have hup: ∀i,i<l.length->(el l i).As<=(el l 0).As:=by
  intro i
  induction i with
  |zero=>intro _;exact Int.le_refl _
  |succ i ih=>
   intro hi;have h1:=hg (i+1) hi;unfold A0U at h1;rw [D3T] at h1;have:=ih (by omega)
   omega
 have hz:0<l.length-> ∀j:Nat,(el l 0).As<(j:Int)->E1 l j l.length=0:=by
  intro _ j hj;have: ∀i,i<=l.length->E1 l j i=0:=by
   intro i
   induction i with
   |zero=>intro _;exact C2Y l j
   |succ i ih=>
    intro hi;rw [C2X (by omega),ih (by omega),if_neg]
    ·rfl
    ·have:=hup i (by omega);omega
  exact this _ (D3U _)
 have H:=L2 (f:=fun s:Int=>A4f l k (A6H l l.length) s) 31 (fun j=>0<l.length/\A7g l k j) false (some true)
  (fun j hj _=>by
   unfold A4f;have e2:A2 (k+1)=k+1:=by rw [A7]<;>omega
   have e3:A2 ((j:Int)+1)=((j+1:Nat):Int):=by rw [A7]<;>omega
   have e4:((A6H l l.length).length:Int)=31:=by rw [B7z];rfl
   rw [e4,D3h (by omega),D3g,C2Z l _ (by omega) (by omega),D3c]
   simp only [e2,e3,D3S]
   by_cases h0:0<l.length
   ·rw [D3h (by omega:(l.length:Int)>0),A21 h0]
    simp only [E4,D3c,D3N];refine J6 ?_;unfold A7g;simp only [D3n,D3k,D3e];omega
   ·rw [D3j (by omega: ¬(l.length:Int)>0)]
    simp only [E9,D3c,D3H,D3f];exact ⟨fun hb=>absurd hb.1 h0,fun _=>trivial⟩)
  (fun _=>by
   unfold A4f;have e4:((A6H l l.length).length:Int)=31:=by rw [B7z];rfl
   rw [e4,D3j (by omega),D3f])
 by_cases hb: ∃j:Nat,j<31/\(0<l.length/\A7g l k j)
 ·rw [H.1 hb,J3];intro hn;obtain ⟨j,h1,h2,h3⟩:=hb
  by_cases h4:(j:Int)<=(el l 0).As
  ·exact hn h2 j h4 h3
  ·have:=hz h2 j (by omega)
   unfold A7g at h3;omega
 ·rw [H.2 fun j h1 h2=>hb ⟨j,h1,h2⟩,L7];intro h0 j h1 h2;have:=hg 0 h0;unfold A0U at this;exact hb ⟨j,by omega,h0,h2⟩
theorem A8U (l:List A3) (k:Int) (hl:l.length<=maxLen):A32 l k=some (P4 (Z9 l k)):=by
 unfold A32
 by_cases hk:1<=k/\k<=128
 ·have e:A09 k=true:=by unfold A09;simp;omega
  simp only [e,D3o,D3f];have e2:(decide (0<=(31:Int)/\(31:Int)<=(31:Int)/\(31:Int)*8<=140737488355328/\(31:Int)<=140737488355328))=true:=by decide
  rw [e2,O7];unfold B2Z;have H: ∀R,((∃i,0<=i/\i<l.length/\A0U l i)->R=some false)/\((∀i,0<=i->i<l.length-> ¬A0U l i)->R=A5g l k (A6H l l.length) 0)->R=some (P4 (Z9 l k)):=by
   intro R hR
   by_cases hb: ∃i,0<=i/\i<l.length/\A0U l i
   ·rw [hR.1 hb,J3];intro hn;obtain ⟨i,_,h1,h2⟩:=hb;exact hn.2.1 i h1 h2
   ·have hg: ∀i,0<=i->i<l.length-> ¬A0U l i:=fun i h1 h2 h3=>hb ⟨i,h1,h2,h3⟩;rw [hR.2 hg,C69 l k hk fun i hi=>hg i (Nat.zero_le _) hi]
    congr 1
    rw [D3x,H2,H2];exact ⟨fun h2=>⟨hk,fun i hi=>hg i (Nat.zero_le _) hi,h2⟩,fun h2=>h2.2.2⟩
  apply H;have e0:(List.replicate ((31:Int)).toNat (0:Int),(0:Int))=(fun i:Nat=>(A6H l i,(i:Int))) 0:=by
   have:List.replicate ((31:Int)).toNat (0:Int)=A6H l 0:=by
    unfold A6H;simp only [C2Y]
    rfl
   rw [this];rfl
  rw [e0];refine A1W (fun i:Nat=>(A6H l i,(i:Int))) 0 l.length (Nat.zero_le _) (A0U l) false _ (fun i _ hi _=> ?_) (fun hg=> ?_)
  ·simp only [];unfold A7B;rw [D3h (by omega),D3g,F4 hi,D3c]
   simp only []
   by_cases hr:0<=(el l i).T/\(el l i).T<=16777216/\0<=(el l i).As/\(el l i).As<=30
   ·have e1:((!E7 (el l i).T||decide ((el l i).As<0))||decide ((el l i).As>30))=false:=by
     unfold E7;simp;omega
    rw [e1,C2Z l i hr.2.2.1 hr.2.2.2];simp only [D3c,C7K hi hl hr.2.2.1 hr.2.2.2,Q4 hi hl,D3p,D3N,D3D];rcases i with _|i
    ·simp only [D3F,gt_iff_lt,Int.natCast_zero,decide_false,E9,D3c,D3H,D3f];refine ⟨fun hb=> ?_,fun _=>trivial⟩;unfold A0U at hb;omega
    ·have e2:decide (((i+1:Nat):Int)>0)=true:=D3h (by omega)
     rw [e2,A2l (by omega) (Nat.le_of_lt hi) hl,D3T,F4 (by omega)]
     simp only [E4,D3c,D3N]
     by_cases g1:(el l i).T>(el l (i+1)).T
     ·simp only [g1,decide_true,D3o,E9,D3c,D3W,D3g];exact ⟨fun _=>trivial,fun hn=>absurd (.inr ⟨by omega, .inl (by rw [D3T];exact g1)⟩) hn⟩
     ·simp only [g1,decide_false,D3p,E4,D3c,D3D];refine J6 ?_;unfold A0U;rw [D3e,D3T];omega
   ·have e1:((!E7 (el l i).T||decide ((el l i).As<0))||decide ((el l i).As>30))=true:=by
     unfold E7;rw [D3x];simp;omega
    rw [e1];simp only [D3o,D3H,E9,D3c,D3W,D3g];exact ⟨fun _=>trivial,fun hn=>absurd (.inl hr) hn⟩
  ·simp only [];unfold A7B;rw [D3j (by omega),D3f]
 ·have e:A09 k=false:=by unfold A09;simp;omega
  simp only [e,D3p,D3g];rw [J3];exact fun h=>hk h.1
end Go.Win
namespace Go.Win
open Go.Vc Go.Dec
theorem C55 (a b:Int):A2 (A2 a+b)=A2 (a+b):=by
 rw [C4o,C4o,C4o];omega
theorem T9 (t:Int):E7 t=true↔0<=t/\t<=16777216:=by unfold E7;simp
theorem R2 (w c n:Int):H1 w c n=true↔(1<=w/\w<=1048576)/\(1<=c/\c<=65536)/\(0<=n/\n<=16777216):=by
 unfold H1 K3 E7;simp;omega
theorem O5 (k:Int):G7 k=true↔1<=k/\k<=64:=by unfold G7;simp
theorem Y7 (v:Int):F0 v=true↔ -4096<=v/\v<=4096:=by unfold F0;simp
theorem O4 (n w t:Int):E0 n w t=true↔(0<=n/\n<=16777216)/\(1<=w/\w<=1048576)/\(0<=t/\t<=16777216)/\n-w<t/\t<=n:=by
 unfold E0 K3 E7;simp only [D3k,D3e];constructor
 ·rintro ⟨⟨⟨⟨h1,h2⟩,h3⟩,h4⟩,h5⟩;rw [A7 (by omega) (by omega)] at h4
  omega
 ·rintro ⟨h1,h2,h3,h4,h5⟩;rw [A7 (by omega) (by omega)]
  omega
theorem C9u: ∀n:Fin 31,A78 .i64 1 (G8 (n.1:Int))=2^n.1:=by decide+kernel
theorem B8C {L:Int} (h0:0<=L) (h1:L<=30):A78 .i64 1 (G8 L)=2^L.toNat:=by
 have:=C9u ⟨L.toNat,by omega⟩
 simp only [] at this;rw [<-this]
 congr 2
 omega
def A0P (b:A3):Int:=if 0<=b.As/\b.As<=30 then 2^b.As.toNat else 0
def I3 (l:List A3):Int:=(l.map A0P).sum
theorem B3U:I3 []=0:=rfl
theorem A2B (b:A3) (l:List A3):I3 (b::l)=A0P b+I3 l:=by simp [I3]
theorem A2H (a b:List A3):I3 (a++b)=I3 a+I3 b:=by simp [I3]
theorem C4a (b:A3):0<=A0P b:=by
 unfold A0P;split
 ·exact Int.pow_nonneg (by decide)
 ·exact Int.le_refl 0
theorem A7a (l:List A3):0<=I3 l:=by
 induction l with
 |nil=>exact Int.le_refl 0
 |cons b l ih=>rw [A2B];have:=C4a b;omega
theorem C8V {l:List A3} {i:Nat} (h:i<l.length):I3 (l.take (i+1))=I3 (l.take i)+A0P (el l i):=by
 rw [List.take_add_one,A1q h,Option.toList_some,A2H,A2B,B3U];omega
theorem A33 (l:List A3) (hl:l.length<=maxLen):A1k l=some (A2 (I3 l)):=by
 unfold A1k B2Y;have H:=A1W (f:=fun s:Int×Int=>A4e l s.1 s.2) (fun i=>(A2 (I3 (l.take i)),(i:Int))) 0 l.length (Nat.zero_le _) (fun _=>False) 0 (some (A2 (I3 l)))
  (fun i _ hi _=>by
   refine ⟨fun h=>h.elim,fun _=> ?_⟩;simp only [];unfold A4e;rw [D3h (by omega:(i:Int)<(l.length:Int)),D3g,F4 hi,D3c,Q4 hi hl,C8V hi]
   unfold A0P
   by_cases h:0<=(el l i).As/\(el l i).As<=30
   ·rw [D3h h.1,D3h h.2,if_pos h,B8C h.1 h.2,C55];have:decide (0<=G8 (el l i).As)=true:=D3h (by rw [B6g];omega)
    rw [this];rfl
   ·have e:(decide ((el l i).As>=0)&&decide ((el l i).As<=30))=false:=by
     rw [D3s];simpa using h
    rw [e,if_neg h,D3f,Int.add_zero])
  (fun _=>by
   simp only [];unfold A4e;rw [D3j (D3F _),D3f,List.take_length])
 exact H.2 (fun _ _ _ h=>h)
theorem B0s:T0=A1k:=rfl
def A03 (l:List A3) (W K Cap Now:Int):Prop:=
 ((1<=W/\W<=1048576)/\(1<=Cap/\Cap<=65536)/\(0<=Now/\Now<=16777216)/\(1<=K/\K<=64))/\Z9 l K/\A2 (I3 l)<=Cap/\ ∀i,i<l.length->E0 Now W (el l i).T=true
theorem B80 (l:List A3) (W K Cap Now:Int) (hl:l.length<=maxLen):B0g l W K Cap Now=some (P4 (A03 l W K Cap Now)):=by
 unfold B0g;simp only []
 by_cases h1:(1<=W/\W<=1048576)/\(1<=Cap/\Cap<=65536)/\(0<=Now/\Now<=16777216)/\(1<=K/\K<=64)
 ·have e1:H1 W Cap Now=true:=(R2 _ _ _).2 ⟨h1.1,h1.2.1,h1.2.2.1⟩;have e2:G7 K=true:=(O5 _).2 h1.2.2.2;rw [e1,e2,A8U l K hl,A33 l hl];simp only [D3o,Bool.or_false,D3p,E4,D3c,D3D]
  by_cases h2:Z9 l K
  ·rw [L7 h2];simp only [D3o,D3p,E4,D3c,D3D]
   by_cases h3:A2 (I3 l)<=Cap
   ·rw [D3j (by omega),D3f]
    unfold B4g;have H:=L2 (f:=fun s:Int=>A5h l W Now s) l.length (fun i=> ¬E0 Now W (el l i).T=true) false (some true)
     (fun i hi _=>by
      unfold A5h;rw [D3h (by omega:(i:Int)<(l.length:Int)),D3g,F4 hi,D3c,Q4 hi hl]
      refine J6 ?_;simp)
     (fun _=>by
      unfold A5h;rw [D3j (D3F _),D3f])
    by_cases h4: ∀i,i<l.length->E0 Now W (el l i).T=true
    ·rw [H.2 fun i hi hn=>hn (h4 i hi),L7];exact ⟨h1,h2,h3,h4⟩
    ·rw [H.1,J3]
     ·exact fun h=>h4 h.2.2.2
     ·exact D37 fun hn=>h4 fun i hi=>D37 fun hc=>hn ⟨i,hi,hc⟩
   ·rw [D3h (by omega),D3g,J3]
    exact fun h=>h3 h.2.2.1
  ·rw [J3 h2];simp only [D3o,D3p,E9,D3c,D3W,D3g];rw [J3];exact fun h=>h2 h.2.1
 ·have e:(!H1 W Cap Now|| !G7 K)=true:=by
   rw [D3n,D3y,D3y,D3s,D3s,Ne,Ne,R2,O5];omega
  rw [e];simp only [D3o,E9,D3c,D3W,D3g];rw [J3];exact fun h=>h1 h.1
theorem B9V (x:D2) (hl:x.Ab.length<=maxLen):A8g x=some (vOf (A03 x.Ab x.W x.K x.Cap x.Now)):=by
 unfold A8g;rw [B80 _ _ _ _ _ hl,D3c]
 by_cases h:A03 x.Ab x.W x.K x.Cap x.Now
 ·rw [L7 h,K9 h];rfl
 ·rw [J3 h,H8 h];rfl
theorem A71 (w k c n:Int):A4Y w k c n=true↔(1<=w/\w<=1048576)/\(1<=c/\c<=65536)/\(0<=n/\n<=16777216)/\(1<=k/\k<=64):=by
 unfold A4Y;simp;omega
theorem A72 (x:D2) (hl:x.Ab.length<=maxLen):A1p x=some (vOf (A03 x.Ab x.W x.K x.Cap x.Now)):=by
 unfold A1p;simp only []
 by_cases h1:A4Y x.W x.K x.Cap x.Now=true
 ·have h1' :=(A71 _ _ _ _).1 h1;rw [h1,A3P _ _ hl,B0s,A33 _ hl];simp only [D3o,D3p,E4,D3c,D3D]
  by_cases h2:Z9 x.Ab x.K
  ·rw [L7 h2];simp only [D3o,D3p,E4,D3c,D3D]
   by_cases h3:A2 (I3 x.Ab)<=x.Cap
   ·rw [D3j (by omega),D3f]
    unfold A9K;have H:=L2 (f:=fun s:Int=>A2e x s) x.Ab.length (fun i=> ¬E0 x.Now x.W (el x.Ab i).T=true) 2 (some 0)
     (fun i hi _=>by
      unfold A2e;rw [D3h (by omega:(i:Int)<(x.Ab.length:Int)),D3g,F4 hi,D3c,Q4 hi hl]
      refine J6 ?_;simp [A1V])
     (fun _=>by
      unfold A2e;rw [D3j (D3F _),D3f])
    by_cases h4: ∀i,i<x.Ab.length->E0 x.Now x.W (el x.Ab i).T=true
    ·rw [H.2 fun i hi hn=>hn (h4 i hi),K9];exact ⟨h1',h2,h3,h4⟩
    ·rw [H.1,H8]
     ·exact fun h=>h4 h.2.2.2
     ·exact D37 fun hn=>h4 fun i hi=>D37 fun hc=>hn ⟨i,hi,hc⟩
   ·rw [D3h (by omega),D3g,H8]
    exact fun h=>h3 h.2.2.1
  ·rw [J3 h2];simp only [D3o,D3p,E9,D3c,D3W,D3g];rw [H8];exact fun h=>h2 h.2.1
 ·have h1' :=fun h=>h1 ((A71 _ _ _ _).2 h);rw [Bool.not_eq_true] at h1;rw [h1];simp only [D3o,D3p,E9,D3c,D3W,D3g];rw [H8];exact fun h=>h1' h.1
theorem B1l (w k c m n:Int):A8v w k c m n=true↔((1<=w/\w<=1048576)/\(1<=c/\c<=65536)/\(0<=n/\n<=16777216)/\(1<=k/\k<=64))/\(1<=m/\m<=1024):=by
 unfold A8v;simp;omega
def B1Q (x:D8):Prop:=A03 x.Ab x.W x.K x.Cap x.Now/\(1<=x.Be/\x.Be<=1024)
theorem B9W (x:D8) (hl:x.Ab.length<=maxLen):A8h x=some (vOf (B1Q x)):=by
 unfold A8h;rw [B80 _ _ _ _ _ hl,D3c];simp only [];have e:A3h x.Be=P4 (1<=x.Be/\x.Be<=1024):=by
  rw [D3x,H2];unfold A3h;simp
 rw [e]
 by_cases h:A03 x.Ab x.W x.K x.Cap x.Now
 ·rw [L7 h]
  by_cases h2:1<=x.Be/\x.Be<=1024
  ·rw [L7 h2,K9 ⟨h,h2⟩];rfl
  ·rw [J3 h2,H8 fun h3=>h2 h3.2];rfl
 ·rw [J3 h,H8 fun h3=>h h3.1];rfl
theorem B1m (x:D8) (hl:x.Ab.length<=maxLen):A3o x=some (vOf (B1Q x)):=by
 unfold A3o;simp only []
 by_cases h1:A8v x.W x.K x.Cap x.Be x.Now=true
 ·have h1' :=(B1l _ _ _ _ _).1 h1;rw [h1,A3P _ _ hl,B0s,A33 _ hl];simp only [D3o,D3p,E4,D3c,D3D]
  by_cases h2:Z9 x.Ab x.K
  ·rw [L7 h2];simp only [D3o,D3p,E4,D3c,D3D]
   by_cases h3:A2 (I3 x.Ab)<=x.Cap
   ·rw [D3j (by omega),D3f]
    unfold B17;have H:=L2 (f:=fun s:Int=>A3M x s) x.Ab.length (fun i=> ¬E0 x.Now x.W (el x.Ab i).T=true) 2 (some 0)
     (fun i hi _=>by
      unfold A3M;rw [D3h (by omega:(i:Int)<(x.Ab.length:Int)),D3g,F4 hi,D3c,Q4 hi hl]
      refine J6 ?_;simp [A1V])
     (fun _=>by
      unfold A3M;rw [D3j (D3F _),D3f])
    by_cases h4: ∀i,i<x.Ab.length->E0 x.Now x.W (el x.Ab i).T=true
    ·rw [H.2 fun i hi hn=>hn (h4 i hi),K9];exact ⟨⟨h1'.1,h2,h3,h4⟩,h1'.2⟩
    ·rw [H.1,H8]
     ·exact fun h=>h4 h.1.2.2.2
     ·exact D37 fun hn=>h4 fun i hi=>D37 fun hc=>hn ⟨i,hi,hc⟩
   ·rw [D3h (by omega),D3g,H8]
    exact fun h=>h3 h.1.2.2.1
  ·rw [J3 h2];simp only [D3o,D3p,E9,D3c,D3W,D3g];rw [H8];exact fun h=>h2 h.1.2.1
 ·have h1' :=fun h=>h1 ((B1l _ _ _ _ _).2 h);rw [Bool.not_eq_true] at h1;rw [h1];simp only [D3o,D3p,E9,D3c,D3W,D3g];rw [H8];exact fun h=>h1' ⟨h.1.1,h.2⟩
theorem C5s (l:List A3) (hl:l.length<=maxLen):A3J l l=some true:=by
 unfold A3J;rw [D3P,D3f];unfold A9w;refine (L2 (f:=fun s:Int=>A3g l l s) l.length (fun _=>False) false (some true) (fun i hi _=>⟨fun h=>h.elim,fun _=> ?_⟩) (fun _=> ?_)).2 fun _ _ h=>h
 ·unfold A3g;rw [D3h (by omega:(i:Int)<(l.length:Int)),D3g,F4 hi]
  simp [Q4 hi hl]
 ·unfold A3g;rw [D3j (D3F _),D3f]
theorem B6T (x:D2) (hl:x.Ab.length<=maxLen):A5i x x=some true:=by
 unfold A5i;simp [C5s _ hl]
theorem B6U (x:D8) (hl:x.Ab.length<=maxLen):A5j x x=some true:=by
 unfold A5j;simp [C5s _ hl]
end Go.Win
namespace Go.Win
open Go.Vc Go.Dec
def mk1 (seq cap now:Int) (m:A4):Prop:=(1<=m.Bg/\m.Bg<=seq)/\m.N=seq-m.Bg+1/\m.N<=cap/\0<=m.T/\m.T<=now
def mk2 (lo:Int) (m:A4):Prop:=lo<=m.Bf/\m.Bf<=m.Be/\m.Be<=4096/\R7 m.N m.Bf m.Be m.S m.Q=true
def mk4 (o m:A4):Prop:=o.Bg<m.Bg/\o.T<=m.T/\o.Bf<=m.Bf/\m.Be<=o.Be/\R7 (A2 (o.N-m.N)) o.Bf o.Be (A2 (o.S-m.S)) (A2 (o.Q-m.Q))=true
def A4z (seq:Int) (m:A4):Prop:=m.Bg=seq/\m.Bf=m.S/\m.Be=m.S/\m.Q=A2 (m.S*m.S)
def B2h (l:List A4) (seq cap now w lo:Int) (i:Nat):Prop:=
 mk1 seq cap now (el l i)/\mk2 lo (el l i)/\((0<i\/l.length=1)->E0 now w (el l i).T=true)/\(0<i->mk4 (el l (i-1)) (el l i))
def A1Y (l:List A4) (seq cap now w lo:Int):Prop:=
 (0<=seq/\seq<=1099511627776)/\(∀i,i<l.length->B2h l seq cap now w lo i)/\(0<l.length->A4z seq (el l (l.length-1)))
theorem A0L {n:Nat} {p:Nat->Prop} (h:¬ ∀i,i<n->p i): ∃i,i<n/\ ¬p i:=
 D37 fun hn=>h fun i hi=>D37 fun hc=>hn ⟨i,hi,hc⟩
theorem C3B {seq cap now:Int} (hs:0<=seq/\seq<=1099511627776) (m:A4):
  (((((decide (m.Bg<1)||decide (m.Bg>seq))||(m.N !=A2 (A2 (seq-m.Bg)+1)))||decide (m.N>cap))||decide (m.T<0))||decide (m.T>now))=true↔ ¬mk1 seq cap now m:=by
 unfold mk1
 by_cases h:1<=m.Bg/\m.Bg<=seq
 ·have e:A2 (A2 (seq-m.Bg)+1)=seq-m.Bg+1:=by rw [A7 (n:=seq-m.Bg) (by omega) (by omega),A7]<;>omega
  simp only [e,D3n,D3e,bne_iff_ne];omega
 ·simp only [D3n,D3e];constructor
  ·intro _ h2;exact h h2.1
  ·intro _;omega
theorem C0X (l:List A4) (seq cap now w lo:Int) (i:Nat):B2h l seq cap now w lo (i+1)↔
  mk1 seq cap now (el l (i+1))/\mk2 lo (el l (i+1))/\E0 now w (el l (i+1)).T=true/\mk4 (el l i) (el l (i+1)):=by
 unfold B2h;rw [D3T];constructor
 ·rintro ⟨h1,h2,h3,h4⟩;exact ⟨h1,h2,h3 (.inl (by omega)),h4 (by omega)⟩
 ·rintro ⟨h1,h2,h3,h4⟩;exact ⟨h1,h2,fun _=>h3,fun _=>h4⟩
theorem B6C (l:List A4) (seq cap now w lo:Int) (hl:l.length<=maxLen):A56 l seq cap now w lo=some (P4 (A1Y l seq cap now w lo)):=by
 unfold A56
 by_cases hs:0<=seq/\seq<=1099511627776
 ·have e:(decide (seq<0)||decide (seq>1099511627776))=false:=by simp;omega
  rw [e,D3f];unfold B2T;have H:=L2 (f:=fun s:Int=>A4d l seq cap now w lo s) l.length (fun i=> ¬B2h l seq cap now w lo i) false (some (P4 (0<l.length->A4z seq (el l (l.length-1)))))
   (fun i hi _=>by
    unfold A4d;rw [D3h (by omega:(i:Int)<(l.length:Int)),D3g,F4 hi,D3c,Q4 hi hl]
    simp only [A1V]
    by_cases h1:mk1 seq cap now (el l i)
    ·have e1:=D3s.2 (fun h=>(C3B (cap:=cap) (now:=now) hs (el l i)).1 h h1);rw [e1,D3f]
     by_cases h2:mk2 lo (el l i)
     ·have e2:((((decide ((el l i).Bf<lo))||(decide ((el l i).Be>(4096:Int))))||(decide ((el l i).Bf>(el l i).Be)))||(!(R7 (el l i).N (el l i).Bf (el l i).Be (el l i).S (el l i).Q)))=false:=by
       have:=h2.2.2.2;unfold mk2 at h2;rw [this];simp;omega
      rw [e2,D3f];rcases i with _|i
      ·have e3:(((0:Nat):Int)==0)=true:=rfl;have e4:decide (((0:Nat):Int)>0)=false:=rfl;rw [e3,e4,D3g,D3D];refine J6 ?_;unfold B2h;simp only [D3k,D36,D3y,Nat.lt_irrefl,false_or,false_implies,and_true,h1,h2,true_and];have:((l.length:Int)=1)↔l.length=1:=by omega
       rw [this,Classical.not_imp,Bool.not_eq_true]
      ·have e3:(((i+1:Nat):Int)==0)=false:=by rw [D32];omega
       have e4:decide (((i+1:Nat):Int)>0)=true:=D3h (by omega)
       rw [e3,e4,D3f,D3W,D3N,A2l (by omega) (Nat.le_of_lt hi) hl,D3T,F4 (by omega),D3c]
       simp only [A2c];refine J6 ?_;rw [C0X];simp only [h1,h2,true_and,D3n,D3y,D3e];unfold mk4;cases E0 now w (el l (i+1)).T with
       |false=>simp
       |true=>
        cases R7 (A2 ((el l i).N-(el l (i+1)).N)) (el l i).Bf (el l i).Be (A2 ((el l i).S-(el l (i+1)).S)) (A2 ((el l i).Q-(el l (i+1)).Q)) with
        |false=>simp
        |true=>simp;omega
     ·have e2:((((decide ((el l i).Bf<lo))||(decide ((el l i).Be>(4096:Int))))||(decide ((el l i).Bf>(el l i).Be)))||(!(R7 (el l i).N (el l i).Bf (el l i).Be (el l i).S (el l i).Q)))=true:=by
       unfold mk2 at h2;cases hf:R7 (el l i).N (el l i).Bf (el l i).Be (el l i).S (el l i).Q with
       |false=>simp
       |true=>rw [hf] at h2;simp only [and_true] at h2;simp;omega
      rw [e2,D3g];exact ⟨fun _=>rfl,fun hn=>absurd (fun h=>h2 h.2.1) hn⟩
    ·have e1:=(C3B (cap:=cap) (now:=now) hs (el l i)).2 h1;rw [e1,D3g];exact ⟨fun _=>rfl,fun hn=>absurd (fun h=>h1 h.1) hn⟩)
   (fun _=>by
    unfold A4d;rw [D3j (D3F _),D3f]
    congr 1
    by_cases h0:0<l.length
    ·have e1:((l.length:Int)==0)=false:=by rw [D32];omega
     rw [e1,D3f,A2l h0 (D3U _) hl,F4 (by omega),D3c]
     congr 1
     rw [D3x,H2];unfold A4z;simp [h0,and_assoc]
    ·have e1:((l.length:Int)==0)=true:=by
      have:l.length=0:=by omega
      rw [this];rfl
     rw [e1,D3g,L7];exact fun h=>absurd h h0)
  by_cases h: ∀i,i<l.length->B2h l seq cap now w lo i
  ·rw [H.2 fun i hi hn=>hn (h i hi)]
   congr 1
   rw [D3x,H2,H2];exact ⟨fun h2=>⟨hs,h,h2⟩,fun h2=>h2.2.2⟩
  ·rw [H.1 (A0L h),J3];exact fun h2=>h h2.2.1
 ·have e:(decide (seq<0)||decide (seq>1099511627776))=true:=by rw [D3x];simp;omega
  rw [e,D3g,J3];exact fun h=>hs h.1
theorem C00 (n s q lo hi:Int):A5l n s q lo hi=R7 n lo hi s q:=by
 unfold A5l R7
 rfl
theorem B0T {n lo hi s q:Int} (hn:0<=n/\n<=65536) (hlo:-4096<=lo/\lo<=4096) (hhi:-4096<=hi/\hi<=4096):
  R7 n lo hi s q=true↔n*lo<=s/\s<=n*hi/\0<=q/\q<=n*16777216/\s*s<=n*q:=by
 have b: ∀x:Int,-4096<=x->x<=4096-> -268435456<=n*x/\n*x<=268435456:=by
  intro x h1 h2;have h3:=Int.mul_le_mul_of_nonneg_left h1 hn.1;have h4:=Int.mul_le_mul_of_nonneg_left h2 hn.1;omega
 have b1:=b lo hlo.1 hlo.2;have b2:=b hi hhi.1 hhi.2;unfold R7;rw [A7 (n:=n*lo) (by omega) (by omega),A7 (n:=n*hi) (by omega) (by omega),A7 (n:=n*4096) (by omega) (by omega),A7 (n:=n*4096*4096) (by omega) (by omega)]
 simp only [D3k,D3e];have e:n*4096*4096=n*16777216:=by omega
 rw [e];constructor
 ·rintro ⟨⟨⟨⟨h1,h2⟩,h3⟩,h4⟩,h5⟩;have hs:s*s<=268435456*268435456:=by
   have h6:s.natAbs*s.natAbs<=268435456*268435456:=Nat.mul_le_mul (by omega) (by omega)
   have e2:(s.natAbs:Int)*s.natAbs=s*s:=Int.natAbs_mul_self;have h7:((s.natAbs*s.natAbs:Nat):Int)=(s.natAbs:Int)*s.natAbs:=by rw [Int.natCast_mul]
   omega
  have hs0:0<=s*s:=by
   have e2:(s.natAbs:Int)*s.natAbs=s*s:=Int.natAbs_mul_self;have:=Int.mul_nonneg (a:=(s.natAbs:Int)) (b:=s.natAbs) (by omega) (by omega)
   omega
  have hq:n*q<=65536*1099511627776:=Int.mul_le_mul hn.2 (by omega) h3 (by omega)
  have hq0:0<=n*q:=Int.mul_nonneg hn.1 h3;rw [A7 (by omega) (by omega),A7 (by omega) (by omega)] at h5
  exact ⟨h1,h2,h3,h4,h5⟩
 ·rintro ⟨h1,h2,h3,h4,h5⟩;have hs0:0<=s*s:=by
   have e2:(s.natAbs:Int)*s.natAbs=s*s:=Int.natAbs_mul_self;have:=Int.mul_nonneg (a:=(s.natAbs:Int)) (b:=s.natAbs) (by omega) (by omega)
   omega
  have hq:n*q<=65536*1099511627776:=Int.mul_le_mul hn.2 (by omega) h3 (by omega)
  have hq0:0<=n*q:=Int.mul_nonneg hn.1 h3;rw [A7 (n:=s*s) (by omega) (by omega),A7 (n:=n*q) (by omega) (by omega)]
  exact ⟨⟨⟨⟨h1,h2⟩,h3⟩,h4⟩,h5⟩
theorem C0S {agg v:Int} (ha:1<=agg/\agg<=4):A1l agg v=true↔F5 agg<=v/\v<=4096:=by
 unfold A1l F5;simp only [D3k,D3n,D3e,D36,Y7];have:agg=1\/agg=2\/agg=3\/agg=4:=by omega
 rcases this with rfl|rfl|rfl|rfl
 ·show _↔(-4096:Int)<=v/\_;omega
 ·show _↔(0:Int)<=v/\_;omega
 ·show _↔(0:Int)<=v/\_;omega
 ·show _↔(-4096:Int)<=v/\_;omega
theorem Z7 (agg:Int): -4096<=F5 agg:=by
 unfold F5;cases (agg==2||agg==3)<;>decide
theorem C9A {seq cap now agg:Int} (ha:1<=agg/\agg<=4) (hc:cap<=65536) {m:A4} (h1:mk1 seq cap now m):
  ((((((((!(A1l agg m.Bf))||(!(A1l agg m.Be)))||(decide (m.Bf>m.Be)))||(decide (m.S<(A2 ((IntKind.i64.wrap (0-m.N))*(4096:Int))))))||(decide (m.S>(A2 (m.N*(4096:Int))))))||(decide (m.Q<(0:Int))))||(decide (m.Q>(A2 ((A2 (m.N*(4096:Int)))*(4096:Int))))))||(!(A5l m.N m.S m.Q m.Bf m.Be)))=true↔ ¬mk2 (F5 agg) m:=by
 unfold mk1 at h1;have hn:0<=m.N/\m.N<=65536:=by omega
 have e0:IntKind.i64.wrap (0-m.N)= -m.N:=by
  show A2 (0-m.N)=_;rw [A7]<;>omega
 rw [e0,A7 (n:= -m.N*4096) (by omega) (by omega),A7 (n:=m.N*4096) (by omega) (by omega),A7 (n:=m.N*4096*4096) (by omega) (by omega),C00]
 simp only [D3n,D3y,D3e];unfold mk2;rw [D3s,D3s,D3s,Ne,Ne,Ne,C0S ha,C0S ha];have hge:=Z7 agg
 by_cases hv:F5 agg<=m.Bf/\m.Bf<=m.Be/\m.Be<=4096
 ·have:=B0T (s:=m.S) (q:=m.Q) hn (lo:=m.Bf) (hi:=m.Be) (by omega) (by omega)
  rw [this];have h3:=Int.mul_le_mul_of_nonneg_left (show-4096<=m.Bf by omega) hn.1
  have h4:=Int.mul_le_mul_of_nonneg_left (show m.Be<=4096 by omega) hn.1
  omega
 ·omega
theorem C8c {seq cap now agg:Int} (ha:1<=agg/\agg<=4) (hc:cap<=65536) {m:A4} (h1:mk1 seq cap now m):
  ((((((((!(A1l agg m.Bf))||(!(A1l agg m.Be)))||(decide (m.Bf>m.Be)))||(decide (m.S<(A2 ((IntKind.i64.wrap (0-m.N))*(4096:Int))))))||(decide (m.S>(A2 (m.N*(4096:Int))))))||(decide (m.Q<(0:Int))))||(decide (m.Q>(A2 ((A2 (m.N*(4096:Int)))*(4096:Int))))))||(!(A5l m.N m.S m.Q m.Bf m.Be)))=P4 (¬mk2 (F5 agg) m):=by
 rw [D3x,H2];exact C9A ha hc h1
theorem B6P (l:List A4) (agg w cap now seq:Int) (ha:1<=agg/\agg<=4) (hc:cap<=65536) (hn:now<=16777216) (hl:l.length<=maxLen):
  A8V l agg w cap now seq=some (P4 (A1Y l seq cap now w (F5 agg))):=by
 unfold A8V
 by_cases hs:0<=seq/\seq<=1099511627776
 ·have e:(decide (seq<0)||decide (seq>1099511627776))=false:=by simp;omega
  rw [e,D3f];unfold B20;have H:=L2 (f:=fun s:Int=>A4g l agg w cap now seq s) l.length (fun i=> ¬(B2h l seq cap now w (F5 agg) i/\(i=l.length-1->A4z seq (el l i)))) false (some true)
   (fun i hi _=>by
    unfold A4g;rw [D3h (by omega:(i:Int)<(l.length:Int)),D3g,F4 hi,D3c,Q4 hi hl]
    simp only [];have hlast:A2 ((l.length:Int)-1)=((l.length-1:Nat):Int):=A2l (by omega) (D3U _) hl
    have elast:((i:Int)==((l.length-1:Nat):Int))=decide (i=l.length-1):=by rw [D3x,D36,D3e];omega
    rw [hlast,elast];have dlast:((((el l i).Bg !=seq||(el l i).Bf !=(el l i).S)||(el l i).Be !=(el l i).S)||(el l i).Q !=A2 ((el l i).S*(el l i).S))=P4 (¬A4z seq (el l i)):=by
     rw [D3x,H2];unfold A4z;simp only [D3n,bne_iff_ne];omega
    by_cases h1:(1<=(el l i).Bg/\(el l i).Bg<=seq)/\(el l i).N=seq-(el l i).Bg+1/\(el l i).N<=cap
    ·have e1:(((decide ((el l i).Bg<1)||decide ((el l i).Bg>seq))||((el l i).N !=A2 (A2 (seq-(el l i).Bg)+1)))||decide ((el l i).N>cap))=false:=by
      have e:A2 (A2 (seq-(el l i).Bg)+1)=seq-(el l i).Bg+1:=by rw [A7 (n:=seq-(el l i).Bg) (by omega) (by omega),A7]<;>omega
      rw [e];simp;omega
     rw [e1]
     by_cases h1' :0<=(el l i).T/\(el l i).T<=now
     ·have hm1:mk1 seq cap now (el l i):=by unfold mk1;omega
      have e2:(!E7 (el l i).T||decide ((el l i).T>now))=false:=by
       have:=(T9 (el l i).T).2 (by omega)
       rw [this];simp;omega
      rw [e2];have e3:=C8c ha hc hm1;rcases i with _|i
      ·have e4:decide (((0:Nat):Int)>0)=false:=rfl;rw [e4];rw [e3,dlast];simp only [D3p,Bool.and_false,E9,D3c,D3D,Bool.or_false,D3H,D3f,A2c];refine J6 ?_;have e5:(((l.length:Int)==1)=true)↔l.length=1:=by rw [D36];omega
       have e6:(0=l.length-1)↔l.length=1:=by omega
       rw [D3n,D3n,D3k,D3k,H2,H2,e5,D3e,D3y,D3s,e6];unfold B2h
       by_cases g1:mk2 (F5 agg) (el l 0)<;>by_cases g2:l.length=1<;>by_cases g3:E0 now w (el l 0).T=true<;>by_cases g5:A4z seq (el l 0)<;>simp [g1,g2,g3,g5,hm1]
      ·have e4:decide (((i+1:Nat):Int)>0)=true:=D3h (by omega)
       rw [e4,A2l (by omega) (Nat.le_of_lt hi) hl,D3T,F4 (by omega)]
       rw [e3,dlast];simp only [D3p,D3N,E4,D3c,D3D,D3W,D3g,A2c];refine J6 ?_;rw [C0X];simp only [D3n,D3k,H2,D3e,D3y,C00];unfold mk4
       generalize hf:R7 (A2 ((el l i).N-(el l (i+1)).N)) (el l i).Bf (el l i).Be (A2 ((el l i).S-(el l (i+1)).S)) (A2 ((el l i).Q-(el l (i+1)).Q))=F
       generalize E0 now w (el l (i+1)).T=V
       generalize mk2 (F5 agg) (el l (i+1))=M
       generalize A4z seq (el l (i+1))=Z
       by_cases g1:M<;>by_cases g2:Z<;>cases F<;>cases V<;>simp [g1,g2,hm1]<;>omega
     ·have e2:(!E7 (el l i).T||decide ((el l i).T>now))=true:=by
       rw [D3n,D3y,D3s,Ne,T9,D3e];omega
      have hm1: ¬mk1 seq cap now (el l i):=by unfold mk1;omega
      rw [e2];simp only [D3o,D3H,E9,D3c,D3W,D3g];rcases i with _|i
      ·have e4:decide (((0:Nat):Int)>0)=false:=rfl;rw [e4];simp only [Bool.and_false,D3H,E9,D3c,Bool.or_false,D3f];exact ⟨fun _=>trivial,fun hn=>absurd (fun h=>hm1 h.1.1) hn⟩
      ·have e4:decide (((i+1:Nat):Int)>0)=true:=D3h (by omega)
       rw [e4,A2l (by omega) (Nat.le_of_lt hi) hl,D3T,F4 (by omega)]
       simp only [D3p,D3N,E4,D3c,D3D,ite_self,A2c];cases decide ((el l i).Bg>=(el l (i+1)).Bg) with
       |false=>exact ⟨fun _=>rfl,fun hn=>absurd (fun h=>hm1 h.1.1) hn⟩
       |true=>exact ⟨fun _=>rfl,fun hn=>absurd (fun h=>hm1 h.1.1) hn⟩
    ·have e1:(((decide ((el l i).Bg<1)||decide ((el l i).Bg>seq))||((el l i).N !=A2 (A2 (seq-(el l i).Bg)+1)))||decide ((el l i).N>cap))=true:=by
      by_cases h:1<=(el l i).Bg/\(el l i).Bg<=seq
      ·have e:A2 (A2 (seq-(el l i).Bg)+1)=seq-(el l i).Bg+1:=by rw [A7 (n:=seq-(el l i).Bg) (by omega) (by omega),A7]<;>omega
       simp only [e,D3n,D3e,bne_iff_ne];omega
      ·simp only [D3n,D3e];omega
     rw [e1];simp only [D3o,D3H,E9,D3c,D3W,D3g];refine ⟨fun _=>trivial,fun hn=>absurd (fun h=>h1 ?_) hn⟩;have:=h.1.1;unfold mk1 at this;exact ⟨this.1,this.2.1,this.2.2.1⟩)
   (fun _=>by
    unfold A4g;rw [D3j (D3F _),D3f])
  by_cases h: ∀i,i<l.length->(B2h l seq cap now w (F5 agg) i/\(i=l.length-1->A4z seq (el l i)))
  ·rw [H.2 fun i hi hn=>hn (h i hi),L7];exact ⟨hs,fun i hi=>(h i hi).1,fun h0=>(h (l.length-1) (by omega)).2 rfl⟩
  ·rw [H.1 (A0L h),J3];rintro ⟨_,h2,h3⟩;exact h fun i hi=>⟨h2 i hi,fun e=>by subst e;exact h3 (by omega)⟩
 ·have e:(decide (seq<0)||decide (seq>1099511627776))=true:=by rw [D3x];simp;omega
  rw [e,D3g,J3];exact fun h=>hs h.1
end Go.Win
namespace Go.Win
open Go.Vc Go.Dec
theorem D0l {m:A4} (h1:-4096<=m.Bf/\m.Bf<=4096) (h2:-4096<=m.Be/\m.Be<=4096) (agg:Int):A2A m agg=A0Z m agg:=by
 have e1:(B56 m.Be m.Bf).1=m.Be-m.Bf:=by
  unfold B56;rw [A7 (n:=m.Be-m.Bf) (by omega) (by omega)]
  cases hb:((!((decide (m.Be>=(0:Int)))==(decide (m.Bf>=(0:Int)))))&&(!((decide (m.Be-m.Bf>=(0:Int)))==(decide (m.Be>=(0:Int)))))) with
  |false=>rfl
  |true=>
   simp only [D3k,D3y,D32,ne_eq] at hb;obtain ⟨g1,g2⟩:=hb
   by_cases a1:m.Be>=0<;>by_cases a2:m.Bf>=0<;>by_cases a3:m.Be-m.Bf>=0<;>simp [a1,a2,a3] at g1 g2<;>omega
 have e2:A9g m.Be m.Bf=(m.Be-m.Bf,true):=by
  unfold A9g;have:((decide (m.Bf<0)&&decide (m.Be>A2 (9223372036854775807+m.Bf)))||(decide (m.Bf>0)&&decide (m.Be<A2 (-9223372036854775808+m.Bf))))=false:=by
   by_cases g1:m.Bf<0
   ·rw [A7 (n:=9223372036854775807+m.Bf) (by omega) (by omega)]
    simp;omega
   ·by_cases g2:m.Bf>0
    ·rw [A7 (n:= -9223372036854775808+m.Bf) (by omega) (by omega)]
     simp;omega
    ·simp;omega
  rw [this,D3f,A7]<;>omega
 unfold A2A A0Z;rw [e2];simp only [e1,D3g]
 rfl
theorem B2P (w k c n:Int):A45 w k c n=true↔(1<=w/\w<=1048576)/\(1<=c/\c<=65536)/\(0<=n/\n<=16777216)/\(1<=k/\k<=64):=by
 unfold A45;simp;omega
def A3c (w k c n:Int):Prop:=(1<=w/\w<=1048576)/\(1<=c/\c<=65536)/\(0<=n/\n<=16777216)/\(1<=k/\k<=64)
def A7t (x:B9):Prop:=(1<=x.Bd/\x.Bd<=4)/\A3c x.W x.K x.Cap x.Now/\A1Y x.Av x.Bg x.Cap x.Now x.W (F5 x.Bd)/\
 ∀i,i<x.Av.length->(2<=i-> ¬F7 (el x.Av (i-2)) (el x.Av i) x.Bd x.K=true)/\
  (1<=i->(el x.Av i).Bg-(el x.Av (i-1)).Bg>1->F7 (el x.Av (i-1)) (el x.Av i) x.Bd x.K=true)
theorem A8P {l:List A4} {seq cap now w lo:Int} (hlo:-4096<=lo) (h:A1Y l seq cap now w lo) {i:Nat} (hi:i<l.length):
  (1<=(el l i).Bg/\(el l i).Bg<=1099511627776)/\(-4096<=(el l i).Bf/\(el l i).Bf<=4096)/\(-4096<=(el l i).Be/\(el l i).Be<=4096):=by
 have h1:=h.2.1 i hi;unfold B2h mk1 mk2 at h1;have:=h.1;omega
theorem A7I (x:B9) (hl:x.Av.length<=maxLen):A0Q x=some (vOf (A7t x)):=by
 unfold A0Q;simp only []
 by_cases h1:(1<=x.Bd/\x.Bd<=4)/\A3c x.W x.K x.Cap x.Now
 ·have e1:A0l x.Bd x.W x.K x.Cap x.Now=true:=by
   unfold A0l;simp only [(B2P _ _ _ _).2 h1.2,Bool.and_true,D3k,D3e];exact h1.1
  rw [e1,B6C _ _ _ _ _ _ hl];simp only [D3o,D3p,E4,D3c,D3D]
  by_cases h2:A1Y x.Av x.Bg x.Cap x.Now x.W (F5 x.Bd)
  ·rw [L7 h2,D3o,D3f];unfold A9h;have H:=L2 (f:=fun s:Int=>A1M x s) x.Av.length (fun i=> ¬((2<=i-> ¬F7 (el x.Av (i-2)) (el x.Av i) x.Bd x.K=true)/\
     (1<=i->(el x.Av i).Bg-(el x.Av (i-1)).Bg>1->F7 (el x.Av (i-1)) (el x.Av i) x.Bd x.K=true))) 2 (some 0)
    (fun i hi _=>by
     unfold A1M;rw [D3h (by omega:(i:Int)<(x.Av.length:Int)),D3g,F4 hi,D3c,Q4 hi hl]
     simp only [];have key: ∀j,j+1=i->A2 ((el x.Av i).Bg-(el x.Av j).Bg)=(el x.Av i).Bg-(el x.Av j).Bg:=by
      intro j hj;have g1:=A8P (Z7 _) h2 hi;have g2:=A8P (Z7 _) h2 (show j<x.Av.length by omega)
      rw [A7]<;>omega
     have key1:1<=i->D0 x.Av (A2 ((i:Int)-1))=some (el x.Av (i-1)):=fun h=>by rw [A2l (by omega) (Nat.le_of_lt hi) hl,F4 (by omega)]
     have key2:2<=i->D0 x.Av (A2 ((i:Int)-2))=some (el x.Av (i-2)):=fun h=>by
      have:A2 ((i:Int)-2)=((i-2:Nat):Int):=by rw [F8] at hl;rw [A7]<;>omega
      rw [this,F4 (by omega)]
     by_cases g1:1<=i
     ·rw [D3h (by omega:(i:Int)>=1),key1 g1]
      simp only [E4,D3c,D3N,key (i-1) (by omega)]
      by_cases g3:(el x.Av i).Bg-(el x.Av (i-1)).Bg>1
      ·simp only [g3,decide_true,E4,D3c,D3N]
       by_cases g2:2<=i
       ·rw [D3h (by omega:(i:Int)>=2),key2 g2]
        simp only [E4,D3c,D3N,A2c];refine J6 ?_;simp only [g1,g2,D3n,D3y];cases F7 (el x.Av (i-2)) (el x.Av i) x.Bd x.K<;>cases F7 (el x.Av (i-1)) (el x.Av i) x.Bd x.K<;>simp
       ·rw [D3j (by omega: ¬(i:Int)>=2)]
        simp only [E9,D3c,D3H,D3f];refine J6 ?_;simp only [g1,g2,D3y];cases F7 (el x.Av (i-1)) (el x.Av i) x.Bd x.K<;>simp
      ·simp only [g3,decide_false,E9,D3c,D3H,D3f]
       by_cases g2:2<=i
       ·rw [D3h (by omega:(i:Int)>=2),key2 g2]
        simp only [E4,D3c,D3N];refine J6 ?_;simp [g1,g2]
       ·rw [D3j (by omega: ¬(i:Int)>=2)]
        simp only [E9,D3c,D3H,D3f];exact ⟨fun h=>absurd ⟨fun h2=>absurd h2 g2,fun _ h3=>h3.elim⟩ h,fun _=>trivial⟩
     ·rw [D3j (by omega: ¬(i:Int)>=2),D3j (by omega: ¬(i:Int)>=1)]
      simp only [E9,D3c,D3H,D3f];exact ⟨fun h=>absurd ⟨fun h2=>absurd h2 (by omega),fun h3=>absurd h3 g1⟩ h,fun _=>trivial⟩)
    (fun _=>by
     unfold A1M;rw [D3j (D3F _),D3f])
   by_cases h3: ∀i,i<x.Av.length->((2<=i-> ¬F7 (el x.Av (i-2)) (el x.Av i) x.Bd x.K=true)/\
     (1<=i->(el x.Av i).Bg-(el x.Av (i-1)).Bg>1->F7 (el x.Av (i-1)) (el x.Av i) x.Bd x.K=true))
   ·rw [H.2 fun i hi hn=>hn (h3 i hi),K9];exact ⟨h1.1,h1.2,h2,h3⟩
   ·rw [H.1 (A0L h3),H8];exact fun h=>h3 h.2.2.2
  ·rw [J3 h2,H8 fun h=>h2 h.2.2.1]
   rfl
 ·have e1:A0l x.Bd x.W x.K x.Cap x.Now=false:=by
   rw [D3s];intro h;unfold A0l at h;simp only [D3k,D3e,B2P] at h;exact h1 h
  rw [e1,H8 fun h=>h1 ⟨h.1,h.2.1⟩]
  rfl
theorem B9X (x:B9) (hl:x.Av.length<=maxLen):A8i x=some (vOf (A7t x)):=by
 unfold A8i;simp only []
 by_cases h1:(1<=x.Bd/\x.Bd<=4)/\A3c x.W x.K x.Cap x.Now
 ·have e1:N6 x.Bd=true:=by unfold N6;simp;exact h1.1
  have e2:H1 x.W x.Cap x.Now=true:=(R2 _ _ _).2 ⟨h1.2.1,h1.2.2.1,h1.2.2.2.1⟩;have e3:G7 x.K=true:=(O5 _).2 h1.2.2.2.2;rw [e1,e2,e3,B6P _ _ _ _ _ _ h1.1 h1.2.2.1.2 h1.2.2.2.1.2 hl];simp only [D3o,D3p,E4,D3c,Bool.or_false,D3D]
  by_cases h2:A1Y x.Av x.Bg x.Cap x.Now x.W (F5 x.Bd)
  ·rw [L7 h2,D3o,D3f];unfold A9S;have H:=L2 (f:=fun s:Int=>A2q x s) x.Av.length (fun i=> ¬((2<=i-> ¬F7 (el x.Av (i-2)) (el x.Av i) x.Bd x.K=true)/\
     (1<=i->(el x.Av i).Bg-(el x.Av (i-1)).Bg>1->F7 (el x.Av (i-1)) (el x.Av i) x.Bd x.K=true))) 2 (some 0)
    (fun i hi _=>by
     unfold A2q;rw [D3h (by omega:(i:Int)<(x.Av.length:Int)),D3g,F4 hi,D3c,Q4 hi hl]
     simp only [];have eof: ∀j,j<x.Av.length->A0Z (el x.Av j) x.Bd=A2A (el x.Av j) x.Bd:=by
      intro j hj;have g2:=A8P (Z7 _) h2 hj;exact (D0l g2.2.1 g2.2.2 _).symm
     have near: ∀j,j<x.Av.length->decide (A2 (A2 (x.K+1)*A0Z (el x.Av i) x.Bd)>=A2 (x.K*A0Z (el x.Av j) x.Bd))=F7 (el x.Av j) (el x.Av i) x.Bd x.K:=by
      intro j hj;rw [eof i hi,eof j hj];rfl
     have nearN: ∀j,j<x.Av.length->decide (A2 (A2 (x.K+1)*A0Z (el x.Av i) x.Bd)<A2 (x.K*A0Z (el x.Av j) x.Bd))= !F7 (el x.Av j) (el x.Av i) x.Bd x.K:=by
      intro j hj;rw [<-near j hj,D3x,D3y,D3e,D3t];omega
     have key: ∀j,j+1=i->A2 ((el x.Av j).Bg+1)=(el x.Av j).Bg+1:=by
      intro j hj;have g2:=A8P (Z7 _) h2 (show j<x.Av.length by omega)
      rw [A7]<;>omega
     have key1:1<=i->D0 x.Av (A2 ((i:Int)-1))=some (el x.Av (i-1)):=fun h=>by rw [A2l (by omega) (Nat.le_of_lt hi) hl,F4 (by omega)]
     have key2:2<=i->D0 x.Av (A2 ((i:Int)-2))=some (el x.Av (i-2)):=fun h=>by
      have:A2 ((i:Int)-2)=((i-2:Nat):Int):=by rw [F8] at hl;rw [A7]<;>omega
      rw [this,F4 (by omega)]
     by_cases g1:1<=i
     ·rw [D3h (by omega:(i:Int)>0),key1 g1]
      simp only [E4,D3c,D3N,key (i-1) (by omega)]
      by_cases g3:(el x.Av i).Bg-(el x.Av (i-1)).Bg>1
      ·have g3' :(el x.Av i).Bg>(el x.Av (i-1)).Bg+1:=by omega
       simp only [g3,g3',decide_true,E4,D3c,D3N,nearN (i-1) (by omega)]
       by_cases g2:2<=i
       ·rw [D3h (by omega:(i:Int)>1),key2 g2]
        simp only [E4,D3c,D3N,A2c,near (i-2) (by omega)]
        refine J6 ?_;simp only [g1,g2,D3n,D3y];cases F7 (el x.Av (i-2)) (el x.Av i) x.Bd x.K<;>cases F7 (el x.Av (i-1)) (el x.Av i) x.Bd x.K<;>simp
       ·rw [D3j (by omega: ¬(i:Int)>1)]
        simp only [E9,D3c,D3H,D3f];refine J6 ?_;simp only [g1,g2,D3y];cases F7 (el x.Av (i-1)) (el x.Av i) x.Bd x.K<;>simp
      ·have g3' : ¬(el x.Av i).Bg>(el x.Av (i-1)).Bg+1:=by omega
       simp only [g3,g3',decide_false,E9,D3c,D3H,D3f]
       by_cases g2:2<=i
       ·rw [D3h (by omega:(i:Int)>1),key2 g2]
        simp only [E4,D3c,D3N,near (i-2) (by omega)]
        refine J6 ?_;simp [g1,g2]
       ·rw [D3j (by omega: ¬(i:Int)>1)]
        simp only [E9,D3c,D3H,D3f];exact ⟨fun h=>absurd ⟨fun h2=>absurd h2 g2,fun _ h3=>h3.elim⟩ h,fun _=>trivial⟩
     ·rw [D3j (by omega: ¬(i:Int)>1),D3j (by omega: ¬(i:Int)>0)]
      simp only [E9,D3c,D3H,D3f];exact ⟨fun h=>absurd ⟨fun h2=>absurd h2 (by omega),fun h3=>absurd h3 g1⟩ h,fun _=>trivial⟩)
    (fun _=>by
     unfold A2q;rw [D3j (D3F _),D3f])
   by_cases h3: ∀i,i<x.Av.length->((2<=i-> ¬F7 (el x.Av (i-2)) (el x.Av i) x.Bd x.K=true)/\
     (1<=i->(el x.Av i).Bg-(el x.Av (i-1)).Bg>1->F7 (el x.Av (i-1)) (el x.Av i) x.Bd x.K=true))
   ·rw [H.2 fun i hi hn=>hn (h3 i hi),K9];exact ⟨h1.1,h1.2,h2,h3⟩
   ·rw [H.1 (A0L h3),H8];exact fun h=>h3 h.2.2.2
  ·rw [J3 h2,H8 fun h=>h2 h.2.2.1]
   rfl
 ·have e1:((!N6 x.Bd|| !H1 x.W x.Cap x.Now)|| !G7 x.K)=true:=by
   rw [D3n,D3n,D3y,D3y,D3y,D3s,D3s,D3s,Ne,Ne,Ne,R2,O5];unfold N6;unfold A3c at h1;simp only [D3k,D3e];omega
  rw [e1,H8 fun h=>h1 ⟨h.1,h.2.1⟩]
  rfl
theorem C5M (l:List A4) (hl:l.length<=maxLen):X2 l l=some true:=by
 unfold X2;rw [D3P,D3f];unfold A4F;refine (L2 (f:=fun s:Int=>Z2 l l s) l.length (fun _=>False) false (some true) (fun i hi _=>⟨fun h=>h.elim,fun _=> ?_⟩) (fun _=> ?_)).2 fun _ _ h=>h
 ·unfold Z2;rw [D3h (by omega:(i:Int)<(l.length:Int)),D3g,F4 hi]
  simp [Q4 hi hl]
 ·unfold Z2;rw [D3j (D3F _),D3f]
theorem B6V (x:B9) (hl:x.Av.length<=maxLen):A5m x x=some true:=by
 unfold A5m;simp [C5M _ hl]
theorem B6W (x:C2) (hl:x.Av.length<=maxLen):A5n x x=some true:=by
 unfold A5n;simp [C5M _ hl]
end Go.Win
namespace Go.Win
open Go.Vc Go.Dec
theorem B9g {n:Int} (h:E5 .u64 n):0<=n/\n<18446744073709551616:=by
 simp [E5,Lit.wf,IntKind.min,IntKind.max,IntKind.signed,IntKind.bits] at h;omega
theorem B3m:X4=A11:=rfl
def A1D (m:A4):Prop:=(1<=m.N/\m.N<=65536)/\(-(m.N*4096)<=m.S/\m.S<=m.N*4096)/\(0<=m.Q/\m.Q<=m.N*16777216)/\m.S*m.S<=m.N*m.Q
theorem B11 {m:A4} (h1:1<=m.N/\m.N<=65536) (h2:-(m.N*4096)<=m.S/\m.S<=m.N*4096) (h3:0<=m.Q/\m.Q<=m.N*16777216):
  (0<=m.S*m.S/\m.S*m.S<=72057594037927936)/\(0<=m.N*m.Q/\m.N*m.Q<=72057594037927936):=by
 have e2:(m.S.natAbs:Int)*m.S.natAbs=m.S*m.S:=Int.natAbs_mul_self;have h6:m.S.natAbs*m.S.natAbs<=268435456*268435456:=Nat.mul_le_mul (by omega) (by omega)
 have h7:((m.S.natAbs*m.S.natAbs:Nat):Int)=(m.S.natAbs:Int)*m.S.natAbs:=by rw [Int.natCast_mul]
 have hq:m.N*m.Q<=65536*1099511627776:=Int.mul_le_mul h1.2 (by omega) h3.1 (by omega)
 have hq0:0<=m.N*m.Q:=Int.mul_nonneg (by omega) h3.1
 omega
theorem A3u (m:A4):A1m m=true↔A1D m:=by
 unfold A1m A1D
 by_cases h1:1<=m.N/\m.N<=65536
 ·have e0:IntKind.i64.wrap (0-m.N)= -m.N:=by
   show A2 (0-m.N)=_;rw [A7]<;>omega
  rw [e0,A7 (n:= -m.N*4096) (by omega) (by omega),A7 (n:=m.N*4096) (by omega) (by omega),A7 (n:=m.N*4096*4096) (by omega) (by omega)]
  simp only [D3k,D3e];constructor
  ·rintro ⟨⟨⟨⟨⟨_,h2⟩,h3⟩,h4⟩,h5⟩,h6⟩;have:=B11 h1 (by omega) (by omega)
   rw [A7 (by omega) (by omega),A7 (by omega) (by omega)] at h6
   exact ⟨h1,by omega,by omega,h6⟩
  ·rintro ⟨_,h2,h3,h4⟩;have:=B11 h1 h2 h3;rw [A7 (n:=m.S*m.S) (by omega) (by omega),A7 (n:=m.N*m.Q) (by omega) (by omega)]
   exact ⟨⟨⟨⟨⟨by omega,by omega⟩,by omega⟩,by omega⟩,by omega⟩,h4⟩
 ·simp only [D3k,D3e];constructor
  ·rintro ⟨⟨⟨⟨⟨h,_⟩,_⟩,_⟩,_⟩,_⟩;exact absurd h h1
  ·rintro ⟨h,_⟩;exact absurd h h1
theorem C9T (m:A4):A4L m=A1m m:=by
 unfold A4L A1m;cases h:((((((decide (m.N<(1:Int)))||(decide (m.N>(65536:Int))))||(decide (m.S<(A2 ((IntKind.i64.wrap (0-m.N))*(4096:Int))))))||(decide (m.S>(A2 (m.N*(4096:Int))))))||(decide (m.Q<(0:Int))))||(decide (m.Q>(A2 ((A2 (m.N*(4096:Int)))*(4096:Int)))))) with
 |true=>
  rw [D3g]
  symm
  rw [D3s];intro h2;simp only [D3n,D3e] at h;simp only [D3k,D3e] at h2;omega
 |false=>
  rw [D3f];simp only [D3M,D3t] at h;rw [D3x];simp only [D3k,D3e];omega
theorem C1j {a b:C5} (ha:Q0 a) (hb:Q0 b) (h:wv a*wv b<340282366920938463463374607431768211456):A1G a b=some (ofW (wv a*wv b),true):=by
 rw [A8z ha hb,if_pos h]
def A1g (m:A4):Int:=m.N*m.Q-m.S*m.S
theorem B6b {m:A4} (h:A1D m):0<=A1g m/\A1g m<=72057594037927936:=by
 have:=B11 h.1 h.2.1 h.2.2.1;have h4:=h.2.2.2;unfold A1g;omega
theorem C4h {m:A4} (h:A1D m):A1c m=A1g m:=by
 have:=B11 h.1 h.2.1 h.2.2.1;have h4:=h.2.2.2;unfold A1c A1g;rw [A7 (n:=m.N*m.Q) (by omega) (by omega),A7 (n:=m.S*m.S) (by omega) (by omega),A7]<;>omega
theorem A1Q {n:Int} (h0:0<=n) (h1:n<18446744073709551616):G8 n=n:=by rw [B6g];omega
def A1w (a b:A4) (k:Int):Prop:=A1D a/\A1D b/\(1<=k/\k<=64)/\ ¬6*k*b.N<(6*k-1)*a.N/\A1g a*b.N*(6*k-1)<=A1g b*a.N*(6*k)
theorem A1X {a b A B:Int} (h1:0<=a/\a<=A) (h2:0<=b/\b<=B):0<=a*b/\a*b<=A*B:=
 ⟨Int.mul_nonneg h1.1 h2.1,Int.mul_le_mul h1.2 h2.2 h2.1 (Int.le_trans h1.1 h1.2)⟩
theorem B0u {x y:Int} (hx:0<=x/\x<18446744073709551616) (hy:0<=y/\y<18446744073709551616):Q0 (T1 x y)/\wv (T1 x y)=x*y:=by
 rw [A46 hx hy];have:=B0y hx hy;exact ⟨A4A this.1 this.2,A4P _⟩
theorem B5V {n:Int} (h:0<=n/\n<18446744073709551616):Q0 (A0a n)/\wv (A0a n)=n:=by
 refine ⟨C10 h, ?_⟩;show 0*18446744073709551616+n=n;omega
theorem B5K (a b:A4) (k:Int):A4K a b k=some (P4 (A1w a b k)):=by
 unfold A4K;simp only [C9T]
 by_cases h1:A1D a/\A1D b/\(1<=k/\k<=64)
 ·obtain ⟨ha,hb,hk⟩:=h1;rw [(A3u a).2 ha,(A3u b).2 hb];have e:(((!true|| !true)||decide (k<1))||decide (k>64))=false:=by simp;omega
  rw [e,D3f];have ea:=ha.1;have eb:=hb.1;have n1:=A1X (a:=6*k) (A:=384) (b:=b.N) (B:=65536) (by omega) (by omega)
  have n2:=A1X (a:=6*k-1) (A:=383) (b:=a.N) (B:=65536) (by omega) (by omega)
  rw [A7 (n:=6*k) (by omega) (by omega),A7 (n:=6*k-1) (by omega) (by omega),A7 (n:=6*k*b.N) (by omega) (by omega),A7 (n:=(6*k-1)*a.N) (by omega) (by omega)]
  by_cases h2:6*k*b.N<(6*k-1)*a.N
  ·rw [D3h h2,D3g,J3 fun h=>h.2.2.2.1 h2]
  ·have ta:=B6b ha;have tb:=B6b hb;rw [D3j h2,D3f,C4h ha,C4h hb,A1Q (n:=A1g b) (by omega) (by omega),A1Q (n:=A1g a) (by omega) (by omega),A1Q (n:=a.N) (by omega) (by omega),A1Q (n:=b.N) (by omega) (by omega),
    A1Q (n:=6*k) (by omega) (by omega),A1Q (n:=6*k-1) (by omega) (by omega),B5T,B3b]
   have x1:=B0u (x:=A1g b) (y:=a.N) (by omega) (by omega)
   have x2:=B5V (n:=6*k) (by omega)
   have y1:=B0u (x:=A1g a) (y:=b.N) (by omega) (by omega)
   have y2:=B5V (n:=6*k-1) (by omega)
   have m1:=A1X (a:=A1g b) (b:=a.N) (A:=72057594037927936) (B:=65536) tb (by omega)
   have m2:=A1X (a:=A1g a) (b:=b.N) (A:=72057594037927936) (B:=65536) ta (by omega)
   have m3:=A1X (a:=A1g b*a.N) (b:=6*k) (B:=384) m1 (by omega)
   have m4:=A1X (a:=A1g a*b.N) (b:=6*k-1) (B:=383) m2 (by omega)
   rw [C1j x1.1 x2.1 (by rw [x1.2,x2.2];omega),D3c,C1j y1.1 y2.1 (by rw [y1.2,y2.2];omega),D3c,x1.2,x2.2,y1.2,y2.2]
   rw [A7P (A4A m3.1 (by omega)) (A4A m4.1 (by omega)),A4P,A4P]
   congr 1
   rw [D3x,H2,D3e];unfold A1w;constructor
   ·intro h;refine ⟨ha,hb,hk,h2, ?_⟩;split at h
    ·omega
    ·split at h<;>omega
   ·rintro ⟨_,_,_,_,h⟩;split
    ·omega
    ·split<;>omega
 ·have e:(((!A1m a|| !A1m b)||decide (k<1))||decide (k>64))=true:=by
   rw [D3n,D3n,D3n,D3y,D3y,D3s,D3s,Ne,Ne,A3u,A3u,D3e,D3e]
   by_cases g1:A1D a
   ·by_cases g2:A1D b
    ·have: ¬(1<=k/\k<=64):=fun h=>h1 ⟨g1,g2,h⟩;omega
    ·exact .inl (.inl (.inr g2))
   ·exact .inl (.inl (.inl g1))
  rw [e,D3g,J3 fun h=>h1 ⟨h.1,h.2.1,h.2.2.1⟩]
theorem C47 (a b:A4) (k:Int):B2n a b k=P4 (A1w a b k):=by
 unfold B2n;simp only []
 by_cases h1:A1D a/\A1D b/\(1<=k/\k<=64)
 ·obtain ⟨ha,hb,hk⟩:=h1;rw [(A3u a).2 ha,(A3u b).2 hb,(O5 k).2 hk];have ea:=ha.1;have eb:=hb.1;have n1:=A1X (a:=6*k) (A:=384) (b:=b.N) (B:=65536) (by omega) (by omega)
  have n2:=A1X (a:=6*k-1) (A:=383) (b:=a.N) (B:=65536) (by omega) (by omega)
  have n3:=A1X (a:=6*k) (A:=384) (b:=a.N) (B:=65536) (by omega) (by omega)
  have n4:=A1X (a:=6*k-1) (A:=383) (b:=b.N) (B:=65536) (by omega) (by omega)
  rw [A7 (n:=6*k) (by omega) (by omega),A7 (n:=6*k-1) (by omega) (by omega),A7 (n:=6*k*b.N) (by omega) (by omega),A7 (n:=(6*k-1)*a.N) (by omega) (by omega),
   A7 (n:=6*k*a.N) (by omega) (by omega),A7 (n:=(6*k-1)*b.N) (by omega) (by omega)]
  by_cases h2:6*k*b.N<(6*k-1)*a.N
  ·rw [D3h h2,J3 fun h=>h.2.2.2.1 h2];rfl
  ·have ta:=B6b ha;have tb:=B6b hb;rw [D3j h2];have et: ∀m,A1D m->A2 (A2 (m.N*m.Q)-A2 (m.S*m.S))=A1g m:=fun m hm=>C4h hm;have ec:(((!true|| !true)|| !true)||false)=false:=rfl
   rw [ec,D3f,et a ha,et b hb,A1Q (n:=A1g b) (by omega) (by omega),A1Q (n:=A1g a) (by omega) (by omega),A1Q (n:=6*k*a.N) (by omega) (by omega),A1Q (n:=(6*k-1)*b.N) (by omega) (by omega)]
   have x1:=B0u (x:=A1g b) (y:=6*k*a.N) (by omega) (by omega)
   have y1:=B0u (x:=A1g a) (y:=(6*k-1)*b.N) (by omega) (by omega)
   rw [<-B3m,A7P x1.1 y1.1,x1.2,y1.2];have q1:A1g b*(6*k*a.N)=A1g b*a.N*(6*k):=by rw [Int.mul_comm (6*k) a.N,Int.mul_assoc]
   have q2:A1g a*((6*k-1)*b.N)=A1g a*b.N*(6*k-1):=by rw [Int.mul_comm (6*k-1) b.N,Int.mul_assoc]
   rw [q1,q2,D3x,H2,D3e];unfold A1w;constructor
   ·intro h;refine ⟨ha,hb,hk,h2, ?_⟩;split at h
    ·omega
    ·split at h<;>omega
   ·rintro ⟨_,_,_,_,h⟩;split
    ·omega
    ·split<;>omega
 ·have e:((!A1m a|| !A1m b)|| !G7 k)=true:=by
   rw [D3n,D3n,D3y,D3y,D3y,D3s,D3s,D3s,Ne,Ne,Ne,A3u,A3u,O5]
   by_cases g1:A1D a
   ·by_cases g2:A1D b
    ·exact .inr fun h=>h1 ⟨g1,g2,h⟩
    ·exact .inl (.inr g2)
   ·exact .inl (.inl g1)
  rw [e,J3 fun h=>h1 ⟨h.1,h.2.1,h.2.2.1⟩]
  rfl
def B02 (x:C2):Prop:=A3c x.W x.K x.Cap x.Now/\A1Y x.Av x.Bg x.Cap x.Now x.W (-4096)/\
 ∀i,2<=i->i<x.Av.length-> ¬A1w (el x.Av (i-2)) (el x.Av i) x.K
theorem C3u {R:Type} {f:Int->Option (Int⊕R)} (n:Nat) (bad:Nat->Prop) (E:R) (A:Option R)
  (hs:∀i:Nat,2<=i->i<n->(bad i->f (i:Int)=some (.inr E))/\(¬bad i->f (i:Int)=some (.inl ((i+1:Nat):Int))))
  (hd:∀i:Nat,n<=i->f (i:Int)=Option.map Sum.inr A):
  ((∃i,2<=i/\i<n/\bad i)->loop f 2=some E)/\((∀i,2<=i->i<n-> ¬bad i)->loop f 2=A):=by
 by_cases h:2<=n
 ·exact A1W (f:=f) (fun i=>(i:Int)) 2 n h bad E A (fun i h1 h2 _=>hs i h1 h2) (fun _=>hd n (D3U _))
 ·refine ⟨fun ⟨i,h1,h2,_⟩=>by omega,fun _=> ?_⟩
  have:=hd 2 (by omega)
  rw [R1];rw [show ((2:Nat):Int)=2 from rfl] at this;rw [this];cases A<;>rfl
theorem A7L (x:C2) (hl:x.Av.length<=maxLen):A0R x=some (vOf (B02 x)):=by
 unfold A0R;simp only []
 by_cases h1:A3c x.W x.K x.Cap x.Now
 ·rw [(B2P _ _ _ _).2 h1,B6C _ _ _ _ _ _ hl];simp only [D3o,D3p,E4,D3c,D3D]
  by_cases h2:A1Y x.Av x.Bg x.Cap x.Now x.W (-4096)
  ·rw [L7 h2,D3o,D3f];unfold A9i;have H:=C3u (f:=fun s:Int=>A1N x s) x.Av.length (fun i=>A1w (el x.Av (i-2)) (el x.Av i) x.K) 2 (some 0)
    (fun i h2 hi=>by
     unfold A1N;have:A2 ((i:Int)-2)=((i-2:Nat):Int):=by rw [F8] at hl;rw [A7]<;>omega
     rw [D3h (by omega:(i:Int)<(x.Av.length:Int)),D3g,this,F4 hi,F4 (by omega),D3c,D3c,B5K,D3c,Q4 hi hl]
     exact J6 H2)
    (fun i hi=>by
     unfold A1N;rw [D3j (by omega: ¬(i:Int)<(x.Av.length:Int)),D3f])
   by_cases h3: ∀i,2<=i->i<x.Av.length-> ¬A1w (el x.Av (i-2)) (el x.Av i) x.K
   ·rw [H.2 h3,K9 ⟨h1,h2,h3⟩]
   ·rw [H.1,H8 fun h=>h3 h.2.2];exact D37 fun hn=>h3 fun i a b c=>hn ⟨i,a,b,c⟩
  ·rw [J3 h2,H8 fun h=>h2 h.2.1]
   rfl
 ·rw [D3s.2 fun h=>h1 ((B2P _ _ _ _).1 h),H8 fun h=>h1 h.1]
  rfl
theorem B9Y (x:C2) (hl:x.Av.length<=maxLen):A8j x=some (vOf (B02 x)):=by
 unfold A8j;simp only []
 by_cases h1:A3c x.W x.K x.Cap x.Now
 ·have e2:H1 x.W x.Cap x.Now=true:=(R2 _ _ _).2 ⟨h1.1,h1.2.1,h1.2.2.1⟩;have e3:G7 x.K=true:=(O5 _).2 h1.2.2.2;have e4:F5 4= -4096:=rfl;rw [e2,e3,B6P _ _ _ _ _ _ (by decide) h1.2.1.2 h1.2.2.1.2 hl,e4]
  simp only [D3o,D3p,E4,D3c,Bool.or_false,D3D]
  by_cases h2:A1Y x.Av x.Bg x.Cap x.Now x.W (-4096)
  ·rw [L7 h2,D3o,D3f];unfold A9T;have H:=C3u (f:=fun s:Int=>A2r x s) x.Av.length (fun i=>A1w (el x.Av (i-2)) (el x.Av i) x.K) 2 (some 0)
    (fun i h2 hi=>by
     unfold A2r;have:A2 ((i:Int)-2)=((i-2:Nat):Int):=by rw [F8] at hl;rw [A7]<;>omega
     rw [D3h (by omega:(i:Int)<(x.Av.length:Int)),D3g,this,F4 hi,F4 (by omega),D3c,D3c]
     simp only [C47,Q4 hi hl];exact J6 H2)
    (fun i hi=>by
     unfold A2r;rw [D3j (by omega: ¬(i:Int)<(x.Av.length:Int)),D3f])
   by_cases h3: ∀i,2<=i->i<x.Av.length-> ¬A1w (el x.Av (i-2)) (el x.Av i) x.K
   ·rw [H.2 h3,K9 ⟨h1,h2,h3⟩]
   ·rw [H.1,H8 fun h=>h3 h.2.2];exact D37 fun hn=>h3 fun i a b c=>hn ⟨i,a,b,c⟩
  ·rw [J3 h2,H8 fun h=>h2 h.2.1]
   rfl
 ·have e1:(!H1 x.W x.Cap x.Now|| !G7 x.K)=true:=by
   rw [D3n,D3y,D3y,D3s,D3s,Ne,Ne,R2,O5];unfold A3c at h1;omega
  rw [e1,H8 fun h=>h1 h.1]
  rfl
def B3K (x:D3):Prop:=((0<=x.P/\x.P<=4)/\(0<=x.Now/\x.Now<=16777216)/\(0<=x.Ay/\x.Ay<=x.Now)/\(x.Ae.length:Int)=x.P+1)/\
 ∀i:Nat,1<=i->(i:Int)<=x.P->wv (el x.Ae (i-1))<=wv (el x.Ae i)/\
  (wv (el x.Ae (i-1))*(x.Now-x.Ay+1)<340282366920938463463374607431768211456->wv (el x.Ae i)<=wv (el x.Ae (i-1))*(x.Now-x.Ay+1))
theorem B1R (x:D3):((((((decide (x.P<(0:Int)))||(decide (x.P>(4:Int))))||(!(E7 x.Now)))||(decide (x.Ay<(0:Int))))||(decide (x.Ay>x.Now)))||((x.Ae.length:Int) !=(A2 (x.P+(1:Int)))))=true↔
  ¬((0<=x.P/\x.P<=4)/\(0<=x.Now/\x.Now<=16777216)/\(0<=x.Ay/\x.Ay<=x.Now)/\(x.Ae.length:Int)=x.P+1):=by
 simp only [D3n,D3e,D3y,bne_iff_ne];rw [D3s,Ne,T9]
 by_cases h:0<=x.P/\x.P<=4
 ·rw [A7 (by omega) (by omega)];omega
 ·omega
theorem C3t {R:Type} {f:Int->Option (Int⊕R)} (P:Nat) (bad:Nat->Prop) (E:R) (A:Option R)
  (hs:∀i:Nat,1<=i->i<=P->(bad i->f (i:Int)=some (.inr E))/\(¬bad i->f (i:Int)=some (.inl ((i+1:Nat):Int))))
  (hd:f ((P+1:Nat):Int)=Option.map Sum.inr A):
  ((∃i,1<=i/\i<=P/\bad i)->loop f 1=some E)/\((∀i,1<=i->i<=P-> ¬bad i)->loop f 1=A):=by
 have:=A1W (f:=f) (fun i=>(i:Int)) 1 (P+1) (by omega) bad E A (fun i h1 h2 _=>hs i h1 (by omega)) (fun _=>hd)
 exact ⟨fun ⟨i,h1,h2,h3⟩=>this.1 ⟨i,h1,by omega,h3⟩,fun h=>this.2 fun i h1 h2=>h i h1 (by omega)⟩
theorem C7J {a b:C5} (ha:Q0 a) (hb:Q0 b):decide (A11 a b>0)=decide (wv b<wv a):=by
 rw [<-B3m,A7P ha hb,D3x,D3e,D3e];split
 ·omega
 ·split<;>omega
theorem D1F {a b:C5} (ha:Q0 a) (hb:Q0 b):decide (A11 a b<0)=decide (wv a<wv b):=by
 rw [<-B3m,A7P ha hb,D3x,D3e,D3e];split
 ·omega
 ·split<;>omega
theorem C56 {a b:C5} (ha:Q0 a) (hb:Q0 b):decide (X4 a b>0)=decide (wv b<wv a):=C7J ha hb
def B5W (x:D3) (i:Nat):Prop:= ¬(wv (el x.Ae (i-1))<=wv (el x.Ae i)/\
  (wv (el x.Ae (i-1))*(x.Now-x.Ay+1)<340282366920938463463374607431768211456->wv (el x.Ae i)<=wv (el x.Ae (i-1))*(x.Now-x.Ay+1)))
theorem C3Q {x:D3} (h1:(0<=x.P/\x.P<=4)/\(0<=x.Now/\x.Now<=16777216)/\(0<=x.Ay/\x.Ay<=x.Now)/\(x.Ae.length:Int)=x.P+1):
  Q0 (A0a (G8 (A2 (A2 (x.Now-x.Ay)+1))))/\wv (A0a (G8 (A2 (A2 (x.Now-x.Ay)+1))))=x.Now-x.Ay+1:=by
 rw [A7 (n:=x.Now-x.Ay) (by omega) (by omega),A7 (by omega) (by omega),A1Q (by omega) (by omega)]
 exact B5V (by omega)
theorem C3C {a b:C5} (ha:Q0 a) (hb:Q0 b): ∃r,A1G a b=some r/\B1V a b=some r/\r.2=decide (wv a*wv b<340282366920938463463374607431768211456)/\Q0 r.1/\(r.2=true->wv r.1=wv a*wv b):=by
 by_cases h:wv a*wv b<340282366920938463463374607431768211456
 ·refine ⟨(ofW (wv a*wv b),true),by rw [A8z ha hb,if_pos h],by rw [C5W ha hb,if_pos h],(D3h h).symm,A4A (C8j ha hb) h,fun _=>A4P _⟩
 ·exact ⟨(⟨0,0⟩,false),by rw [A8z ha hb,if_neg h],by rw [C5W ha hb,if_neg h],(D3j h).symm,by unfold Q0;simp,fun h=>by cases h⟩
theorem A9t (x:D3) (hw:∀w∈x.Ae,Q0 w):A1Z x=some (vOf (B3K x)):=by
 unfold A1Z;have et:B1S x.Now=E7 x.Now:=rfl;simp only [et]
 by_cases h1:(0<=x.P/\x.P<=4)/\(0<=x.Now/\x.Now<=16777216)/\(0<=x.Ay/\x.Ay<=x.Now)/\(x.Ae.length:Int)=x.P+1
 ·rw [D3s.2 fun h=>(B1R x).1 h h1,D3f];unfold B06;have hp:x.P=(x.P.toNat:Int):=by omega
  have H:=C3t (f:=fun s:Int=>A2Q x (S3 (G8 (A2 (A2 (x.Now-x.Ay)+1)))) s) x.P.toNat (B5W x) 2 (some 0)
   (fun i g1 g2=>by
    unfold A2Q;have ew:A2 ((i:Int)-1)=((i-1:Nat):Int):=by rw [A7]<;>omega
    have es:A2 ((i:Int)+1)=((i+1:Nat):Int):=by rw [A7]<;>omega
    obtain ⟨o1,o2⟩:=C3Q h1;have oi:=hw _ (J0 (show i<x.Ae.length by omega))
    have oj:=hw _ (J0 (show i-1<x.Ae.length by omega))
    obtain ⟨r,m1,m2,m3,m4,m5⟩:=C3C oj o1;rw [D3h (by omega:(i:Int)<=x.P),D3g,ew,es,F4 (by omega),F4 (by omega),B3b]
    simp only [D3c,m1,C56 oj oi];rw [o2] at m3 m5;unfold B5W
    by_cases q1:wv (el x.Ae (i-1))<=wv (el x.Ae i)
    ·rw [D3j (by omega),D3f,m3]
     by_cases q2:wv (el x.Ae (i-1))*(x.Now-x.Ay+1)<340282366920938463463374607431768211456
     ·have q3:=m5 (by rw [m3];exact D3h q2)
      rw [D3h q2];simp only [E4,D3c,D3N,C56 oi m4,q3];refine J6 ?_;rw [D3e];simp only [q1,q2,true_and,true_implies,forall_const];omega
     ·rw [D3j q2];simp only [E9,D3c,D3H,D3f];exact ⟨fun h=>absurd ⟨q1,fun h=>absurd h q2⟩ h,fun _=>trivial⟩
    ·rw [D3h (by omega),D3g]
     exact ⟨fun _=>rfl,fun h=>absurd (fun h2=>q1 h2.1) h⟩)
   (by
    unfold A2Q;rw [D3j (by omega),D3f])
  by_cases h2: ∀i,1<=i->i<=x.P.toNat-> ¬B5W x i
  ·rw [H.2 h2,K9];exact ⟨h1,fun i a b=>D37 fun h=>h2 i a (by omega) h⟩
  ·rw [H.1,H8]
   ·exact fun h=>h2 fun i a b c=>c (h.2 i a (by omega))
   ·exact D37 fun hn=>h2 fun i a b c=>hn ⟨i,a,b,c⟩
 ·rw [(B1R x).2 h1,D3g,H8 fun h=>h1 h.1]
theorem B9Z (x:D3) (hw:∀w∈x.Ae,Q0 w):A8k x=some (vOf (B3K x)):=by
 unfold A8k;simp only []
 by_cases h1:(0<=x.P/\x.P<=4)/\(0<=x.Now/\x.Now<=16777216)/\(0<=x.Ay/\x.Ay<=x.Now)/\(x.Ae.length:Int)=x.P+1
 ·rw [D3s.2 fun h=>(B1R x).1 h h1,D3f];unfold A9U;have hp:x.P=(x.P.toNat:Int):=by omega
  have H:=C3t (f:=fun s:Int=>A2s x s) x.P.toNat (B5W x) 2 (some 0)
   (fun i g1 g2=>by
    unfold A2s;have ew:A2 ((i:Int)-1)=((i-1:Nat):Int):=by rw [A7]<;>omega
    have es:A2 ((i:Int)+1)=((i+1:Nat):Int):=by rw [A7]<;>omega
    obtain ⟨o1,o2⟩:=C3Q h1;have oi:=hw _ (J0 (show i<x.Ae.length by omega))
    have oj:=hw _ (J0 (show i-1<x.Ae.length by omega))
    obtain ⟨r,m1,m2,m3,m4,m5⟩:=C3C oj o1;rw [D3h (by omega:(i:Int)<=x.P),D3g,ew,es,F4 (by omega),F4 (by omega),D3c]
    simp only [m2,D3c,D1F oi oj];rw [o2] at m3 m5;unfold B5W
    by_cases q1:wv (el x.Ae (i-1))<=wv (el x.Ae i)
    ·rw [D3j (by omega),m3]
     by_cases q2:wv (el x.Ae (i-1))*(x.Now-x.Ay+1)<340282366920938463463374607431768211456
     ·have q3:=m5 (by rw [m3];exact D3h q2)
      rw [D3h q2];simp only [D3p,E4,D3c,D3N,D3D,C7J oi m4,q3];refine J6 ?_;rw [D3e];simp only [q1,q2,true_and,true_implies,forall_const];omega
     ·rw [D3j q2];simp only [D3p,Bool.and_false,E9,D3c,D3H,Bool.or_false,D3f];exact ⟨fun h=>absurd ⟨q1,fun h=>absurd h q2⟩ h,fun _=>trivial⟩
    ·rw [D3h (by omega)]
     simp only [D3o,D3H,E9,D3c,D3W,D3g];exact ⟨fun _=>trivial,fun h=>absurd (fun h2=>q1 h2.1) h⟩)
   (by
    unfold A2s;rw [D3j (by omega),D3f])
  by_cases h2: ∀i,1<=i->i<=x.P.toNat-> ¬B5W x i
  ·rw [H.2 h2,K9];exact ⟨h1,fun i a b=>D37 fun h=>h2 i a (by omega) h⟩
  ·rw [H.1,H8]
   ·exact fun h=>h2 fun i a b c=>c (h.2 i a (by omega))
   ·exact D37 fun hn=>h2 fun i a b c=>hn ⟨i,a,b,c⟩
 ·rw [(B1R x).2 h1,D3g,H8 fun h=>h1 h.1]
theorem D1s (l:List C5) (hl:l.length<=maxLen):A1s l l=some true:=by
 unfold A1s;rw [D3P,D3f];unfold A5Q;refine (L2 (f:=fun s:Int=>A0t l l s) l.length (fun _=>False) false (some true) (fun i hi _=>⟨fun h=>h.elim,fun _=> ?_⟩) (fun _=> ?_)).2 fun _ _ h=>h
 ·unfold A0t;rw [D3h (by omega:(i:Int)<(l.length:Int)),D3g,F4 hi]
  simp [Q4 hi hl]
 ·unfold A0t;rw [D3j (D3F _),D3f]
theorem B6X (x:D3) (hl:x.Ae.length<=maxLen):A5o x x=some true:=by
 unfold A5o;simp [D1s _ hl]
def B3J (x:E3):Prop:=((1<=(x.Bc.length:Int)/\(x.Bc.length:Int)<=64)/\(0<=x.Now/\x.Now<=16777216))/\
 ∀i,i<x.Bc.length->(0<=el x.Bc i/\el x.Bc i<=1099511627776)/\(x.Now<(i:Int)->el x.Bc i=0)
theorem A77 (x:E3) (hl:x.Bc.length<=maxLen):A1r x=some (vOf (B3J x)):=by
 unfold A1r
 by_cases h1:(1<=(x.Bc.length:Int)/\(x.Bc.length:Int)<=64)/\(0<=x.Now/\x.Now<=16777216)
 ·have e:((((decide ((x.Bc.length:Int)<(1:Int)))||(decide ((x.Bc.length:Int)>(64:Int))))||(decide (x.Now<(0:Int))))||(decide (x.Now>(16777216:Int))))=false:=by
   rw [D3s];simp only [D3n,D3e,Ne];omega
  rw [e,D3f];unfold A9L;have H:=L2 (f:=fun s:Int=>A2f x s) x.Bc.length (fun i=> ¬((0<=el x.Bc i/\el x.Bc i<=1099511627776)/\(x.Now<(i:Int)->el x.Bc i=0))) 2 (some 0)
   (fun i hi _=>by
    unfold A2f;rw [D3h (by omega:(i:Int)<(x.Bc.length:Int)),D3g,F4 hi,D3c,Q4 hi hl]
    refine J6 ?_;simp only [D3n,D3k,D3e,bne_iff_ne];omega)
   (fun _=>by
    unfold A2f;rw [D3j (D3F _),D3f])
  by_cases h2: ∀i,i<x.Bc.length->(0<=el x.Bc i/\el x.Bc i<=1099511627776)/\(x.Now<(i:Int)->el x.Bc i=0)
  ·rw [H.2 fun i hi hn=>hn (h2 i hi),K9 ⟨h1,h2⟩]
  ·rw [H.1 (A0L h2),H8 fun h=>h2 h.2]
 ·have e:((((decide ((x.Bc.length:Int)<(1:Int)))||(decide ((x.Bc.length:Int)>(64:Int))))||(decide (x.Now<(0:Int))))||(decide (x.Now>(16777216:Int))))=true:=by
   simp only [D3n,D3e];omega
  rw [e,D3g,H8 fun h=>h1 h.1]
theorem B90 (x:E3) (hl:x.Bc.length<=maxLen):A8l x=some (vOf (B3J x)):=by
 unfold A8l;simp only []
 by_cases h1:(1<=(x.Bc.length:Int)/\(x.Bc.length:Int)<=64)/\(0<=x.Now/\x.Now<=16777216)
 ·have e:(((decide ((x.Bc.length:Int)<(1:Int)))||(decide ((x.Bc.length:Int)>(64:Int))))||(!(E7 x.Now)))=false:=by
   rw [(T9 _).2 h1.2,D3s];simp only [D3n,D3e,Ne,D3o,Bool.false_eq_true,or_false,false_or];omega
  rw [e,D3f];unfold A9V;have H:=L2 (f:=fun s:Int=>A2t x s) x.Bc.length (fun i=> ¬((0<=el x.Bc i/\el x.Bc i<=1099511627776)/\(x.Now<(i:Int)->el x.Bc i=0))) 2 (some 0)
   (fun i hi _=>by
    unfold A2t;rw [D3h (by omega:(i:Int)<(x.Bc.length:Int)),D3g,F4 hi,D3c,Q4 hi hl]
    refine J6 ?_;simp only [D3n,D3k,D3e,bne_iff_ne];omega)
   (fun _=>by
    unfold A2t;rw [D3j (D3F _),D3f])
  by_cases h2: ∀i,i<x.Bc.length->(0<=el x.Bc i/\el x.Bc i<=1099511627776)/\(x.Now<(i:Int)->el x.Bc i=0)
  ·rw [H.2 fun i hi hn=>hn (h2 i hi),K9 ⟨h1,h2⟩]
  ·rw [H.1 (A0L h2),H8 fun h=>h2 h.2]
 ·have e:(((decide ((x.Bc.length:Int)<(1:Int)))||(decide ((x.Bc.length:Int)>(64:Int))))||(!(E7 x.Now)))=true:=by
   simp only [D3n,D3e,D3y];rw [D3s,Ne,T9];omega
  rw [e,D3g,H8 fun h=>h1 h.1]
def A7s (x:B4):Prop:=(((1<=x.W/\x.W<=1048576)/\(1<=x.Cap/\x.Cap<=65536)/\(0<=x.Now/\x.Now<=16777216))/\(x.Ar.length:Int)<=x.Cap)/\
 ∀i,i<x.Ar.length->(E0 x.Now x.W (el x.Ar i).T=true/\ -4096<=(el x.Ar i).V/\(el x.Ar i).V<=4096)/\
  (1<=i->(el x.Ar (i-1)).T<(el x.Ar i).T/\L6 x.Be (el x.Ar i).V (el x.Ar (i-1)).V=false)
theorem C2h (m:Bool) (a b:Int):B5v m a b= !L6 m b a:=by
 cases m
 ·show (false||decide (a<b))= !decide (b<=a)
  rw [D3D,D3x];simp
 ·show (decide (a>b)||false)= !decide (b>=a)
  rw [Bool.or_false,D3x];simp
theorem C3y (a b c:Int):A4r a b c=H1 a b c:=by
 rw [D3x,R2];unfold A4r;simp;omega
theorem A6J (x:B4) (hl:x.Ar.length<=maxLen):Z6 x=some (vOf (A7s x)):=by
 unfold Z6;simp only [C3y]
 by_cases h1:((1<=x.W/\x.W<=1048576)/\(1<=x.Cap/\x.Cap<=65536)/\(0<=x.Now/\x.Now<=16777216))/\(x.Ar.length:Int)<=x.Cap
 ·rw [(R2 _ _ _).2 h1.1,D3j (by omega),D3o,D3D,D3f]
  unfold A7T;have H:=L2 (f:=fun s:Int=>A06 x s) x.Ar.length (fun i=> ¬((E0 x.Now x.W (el x.Ar i).T=true/\ -4096<=(el x.Ar i).V/\(el x.Ar i).V<=4096)/\
    (1<=i->(el x.Ar (i-1)).T<(el x.Ar i).T/\L6 x.Be (el x.Ar i).V (el x.Ar (i-1)).V=false))) 2 (some 0)
   (fun i hi _=>by
    unfold A06;rw [D3h (by omega:(i:Int)<(x.Ar.length:Int)),D3g,F4 hi,D3c,Q4 hi hl]
    simp only [A1V]
    by_cases g1:E0 x.Now x.W (el x.Ar i).T=true/\ -4096<=(el x.Ar i).V/\(el x.Ar i).V<=4096
    ·have e:(((!(E0 x.Now x.W (el x.Ar i).T))||(decide ((el x.Ar i).V<(-4096:Int))))||(decide ((el x.Ar i).V>(4096:Int))))=false:=by
      rw [g1.1,D3s];simp only [D3n,D3e,Ne,D3o,Bool.false_eq_true,or_false,false_or];omega
     rw [e,D3f];rcases i with _|i
     ·have e4:decide (((0:Nat):Int)>0)=false:=rfl;rw [e4];simp only [D3H,E9,D3c,D3f];exact ⟨fun h=>absurd ⟨g1,fun h=>absurd h (by decide)⟩ h,fun _=>trivial⟩
     ·have e4:decide (((i+1:Nat):Int)>0)=true:=D3h (by omega)
      rw [e4,A2l (by omega) (Nat.le_of_lt hi) hl,D3T,F4 (by omega)]
      simp only [E4,D3c,D3N]
      by_cases g2:(el x.Ar i).T>=(el x.Ar (i+1)).T
      ·simp only [g2,decide_true,D3W,D3o,E9,D3c,D3g];refine ⟨fun _=>trivial,fun h=>absurd (fun h2=> ?_) h⟩;have:=(h2.2 (by omega)).1
       omega
      ·simp only [g2,decide_false,D3D,D3p,E4,D3c];refine J6 ?_;simp only [g1,true_and,show 1<=i+1 from by omega,true_implies]
       have:(el x.Ar i).T<(el x.Ar (i+1)).T:=by omega
       simp [this]
    ·have e:(((!(E0 x.Now x.W (el x.Ar i).T))||(decide ((el x.Ar i).V<(-4096:Int))))||(decide ((el x.Ar i).V>(4096:Int))))=true:=by
      cases hv:E0 x.Now x.W (el x.Ar i).T with
      |false=>rfl
      |true=>rw [hv] at g1;simp only [true_and] at g1;simp only [D3n,D3e];omega
     rw [e,D3g];exact ⟨fun _=>rfl,fun h=>absurd (fun h2=>g1 h2.1) h⟩)
   (fun _=>by
    unfold A06;rw [D3j (D3F _),D3f])
  by_cases h2: ∀i,i<x.Ar.length->(E0 x.Now x.W (el x.Ar i).T=true/\ -4096<=(el x.Ar i).V/\(el x.Ar i).V<=4096)/\
    (1<=i->(el x.Ar (i-1)).T<(el x.Ar i).T/\L6 x.Be (el x.Ar i).V (el x.Ar (i-1)).V=false)
  ·rw [H.2 fun i hi hn=>hn (h2 i hi),K9 ⟨h1,h2⟩]
  ·rw [H.1 (A0L h2),H8 fun h=>h2 h.2]
 ·have e:((!(H1 x.W x.Cap x.Now))||(decide ((x.Ar.length:Int)>x.Cap)))=true:=by
   rw [D3n,D3y,D3s,Ne,R2,D3e];omega
  rw [e,D3g,H8 fun h=>h1 h.1]
theorem B91 (x:B4) (hl:x.Ar.length<=maxLen):A8m x=some (vOf (A7s x)):=by
 unfold A8m;simp only []
 by_cases h1:((1<=x.W/\x.W<=1048576)/\(1<=x.Cap/\x.Cap<=65536)/\(0<=x.Now/\x.Now<=16777216))/\(x.Ar.length:Int)<=x.Cap
 ·rw [(R2 _ _ _).2 h1.1,D3j (by omega),D3o,D3D,D3f]
  unfold A9W;have H:=L2 (f:=fun s:Int=>A2u x s) x.Ar.length (fun i=> ¬((E0 x.Now x.W (el x.Ar i).T=true/\ -4096<=(el x.Ar i).V/\(el x.Ar i).V<=4096)/\
    (1<=i->(el x.Ar (i-1)).T<(el x.Ar i).T/\L6 x.Be (el x.Ar i).V (el x.Ar (i-1)).V=false))) 2 (some 0)
   (fun i hi _=>by
    unfold A2u;rw [D3h (by omega:(i:Int)<(x.Ar.length:Int)),D3g,F4 hi,D3c,Q4 hi hl]
    simp only [C2h,Bool.not_not]
    by_cases g1:E0 x.Now x.W (el x.Ar i).T=true/\ -4096<=(el x.Ar i).V/\(el x.Ar i).V<=4096
    ·rw [g1.1,(Y7 _).2 g1.2];rcases i with _|i
     ·have e4:decide (((0:Nat):Int)>0)=false:=rfl;rw [e4];simp only [D3o,Bool.or_false,D3p,Bool.and_false,D3H,E9,D3c,D3f];exact ⟨fun h=>absurd ⟨⟨trivial,g1.2⟩,fun h=>absurd h (by decide)⟩ h,fun _=>trivial⟩
     ·have e4:decide (((i+1:Nat):Int)>0)=true:=D3h (by omega)
      rw [e4,A2l (by omega) (Nat.le_of_lt hi) hl,D3T,F4 (by omega)]
      simp only [D3o,Bool.or_false,D3p,E4,D3c,D3N,D3D]
      by_cases g2:(el x.Ar i).T>=(el x.Ar (i+1)).T
      ·simp only [g2,decide_true,D3W,D3o,E9,D3c,D3g];refine ⟨fun _=>trivial,fun h=>absurd (fun h2=> ?_) h⟩;have:=(h2.2 (by omega)).1
       omega
      ·simp only [g2,decide_false,D3D,D3p,E4,D3c];refine J6 ?_;simp only [g1,true_and,show 1<=i+1 from by omega,true_implies]
       have:(el x.Ar i).T<(el x.Ar (i+1)).T:=by omega
       simp [this]
    ·have e:((!(E0 x.Now x.W (el x.Ar i).T))||(!(F0 (el x.Ar i).V)))=true:=by
      rw [D3n,D3y,D3y,D3s,D3s,Ne,Ne,Y7];exact D37 fun h=>g1 ⟨D37 fun h2=>h (.inl h2),D37 fun h2=>h (.inr h2)⟩
     rw [e];simp only [D3o,D3H,E9,D3c,D3W,D3g];exact ⟨fun _=>trivial,fun h=>absurd (fun h2=>g1 h2.1) h⟩)
   (fun _=>by
    unfold A2u;rw [D3j (D3F _),D3f])
  by_cases h2: ∀i,i<x.Ar.length->(E0 x.Now x.W (el x.Ar i).T=true/\ -4096<=(el x.Ar i).V/\(el x.Ar i).V<=4096)/\
    (1<=i->(el x.Ar (i-1)).T<(el x.Ar i).T/\L6 x.Be (el x.Ar i).V (el x.Ar (i-1)).V=false)
  ·rw [H.2 fun i hi hn=>hn (h2 i hi),K9 ⟨h1,h2⟩]
  ·rw [H.1 (A0L h2),H8 fun h=>h2 h.2]
 ·have e:((!(H1 x.W x.Cap x.Now))||(decide ((x.Ar.length:Int)>x.Cap)))=true:=by
   rw [D3n,D3y,D3s,Ne,R2,D3e];omega
  rw [e,D3g,H8 fun h=>h1 h.1]
theorem B6Z (x:B4) (hl:x.Ar.length<=maxLen):A5q x x=some true:=by
 unfold A5q;simp [B8D _ hl]
end Go.Win
namespace Go.Win
open Go.Vc Go.Dec
def V1 (c:C9):Prop:=(1<=c.Ax/\c.Ax<=11)/\
 ((c.Ax=6\/c.Ax=10->c.W=0)/\(c.Ax=7->1<=c.W/\c.W<=64)/\(c.Ax≠6/\c.Ax≠10/\c.Ax≠7->1<=c.W/\c.W<=1048576))/\
 ((c.Ax=6\/c.Ax=7->c.Cap=0)/\(c.Ax=9->1<=c.Cap/\c.Cap<=64)/\(c.Ax=10->2<=c.Cap/\c.Cap<=65536)/\(c.Ax≠6/\c.Ax≠7/\c.Ax≠9/\c.Ax≠10->1<=c.Cap/\c.Cap<=65536))/\
 ((c.Ax=1\/c.Ax=6\/c.Ax=7\/c.Ax=8\/c.Ax=9->c.K=0)/\(c.Ax≠1/\c.Ax≠6/\c.Ax≠7/\c.Ax≠8/\c.Ax≠9->1<=c.K/\c.K<=64))/\
 ((c.Ax=4->1<=c.Bd/\c.Bd<=4)/\(c.Ax≠4->c.Bd=0))/\
 ((c.Ax=6->0<=c.P/\c.P<=4)/\(c.Ax≠6->c.P=0))/\
 ((c.Ax=9->1<=c.Ah/\c.Ah<=16)/\(c.Ax≠9->c.Ah=0))/\
 ((c.Ax=3->1<=c.Be/\c.Be<=1024)/\(c.Ax=8->0<=c.Be/\c.Be<=1)/\(c.Ax≠3/\c.Ax≠8->c.Be=0))
open Classical in
noncomputable def vCf (p:Prop):Int:=if p then 0 else 1
theorem A4l {p:Prop} (h:p):vCf p=0:=by unfold vCf;rw [if_pos h]
theorem C15 {p:Prop} (h:¬p):vCf p=1:=by unfold vCf;rw [if_neg h]
theorem C21 {b:Bool} {p:Prop} (h:b=true↔ ¬p):cond b (1:Int) 0=vCf p:=by
 cases b with
 |true=>rw [C15 (h.1 rfl)];rfl
 |false=>rw [A4l (D37 fun hn=>absurd (h.2 hn) (by decide))];rfl
theorem B1K (c:C9):A0C c=vCf (V1 c):=by
 obtain ⟨k,agg,w,kk,cap,p,ch,mx⟩:=c
 by_cases hk:1<=k/\k<=11
 ·have:k=1\/k=2\/k=3\/k=4\/k=5\/k=6\/k=7\/k=8\/k=9\/k=10\/k=11:=by omega
  rcases this with h|h|h|h|h|h|h|h|h|h|h<;>subst h<;>
   simp only [A0C,U0,A2d,A1H,A0D,A0E,A0F,A0G,A0H,A0I,A0J,
    B5,E6,B1,beq_self_eq_true,D3N,Bool.and_true,D3g,D3f,show ((1:Int)==2)=false from rfl,show ((1:Int)==3)=false from rfl,show ((1:Int)==4)=false from rfl,show ((1:Int)==5)=false from rfl,show ((1:Int)==6)=false from rfl,show ((1:Int)==7)=false from rfl,show ((1:Int)==8)=false from rfl,show ((1:Int)==9)=false from rfl,show ((1:Int)==10)=false from rfl,show ((1:Int)==11)=false from rfl,
    show ((2:Int)==3)=false from rfl,show ((2:Int)==4)=false from rfl,show ((2:Int)==6)=false from rfl,show ((2:Int)==7)=false from rfl,show ((2:Int)==9)=false from rfl,show ((2:Int)==10)=false from rfl,
    show ((3:Int)==6)=false from rfl,show ((3:Int)==7)=false from rfl,show ((3:Int)==9)=false from rfl,show ((3:Int)==10)=false from rfl,
    show ((4:Int)==3)=false from rfl,show ((4:Int)==6)=false from rfl,show ((4:Int)==7)=false from rfl,show ((4:Int)==9)=false from rfl,show ((4:Int)==10)=false from rfl,
    show ((5:Int)==2)=false from rfl,show ((5:Int)==3)=false from rfl,show ((5:Int)==4)=false from rfl,show ((5:Int)==6)=false from rfl,show ((5:Int)==7)=false from rfl,show ((5:Int)==9)=false from rfl,show ((5:Int)==10)=false from rfl,
    show ((7:Int)==6)=false from rfl,
    show ((8:Int)==2)=false from rfl,show ((8:Int)==3)=false from rfl,show ((8:Int)==4)=false from rfl,show ((8:Int)==5)=false from rfl,show ((8:Int)==6)=false from rfl,show ((8:Int)==7)=false from rfl,show ((8:Int)==9)=false from rfl,show ((8:Int)==10)=false from rfl,show ((8:Int)==11)=false from rfl,
    show ((9:Int)==6)=false from rfl,show ((9:Int)==7)=false from rfl,show ((10:Int)==6)=false from rfl,show ((10:Int)==7)=false from rfl,show ((10:Int)==9)=false from rfl,
    show ((11:Int)==2)=false from rfl,show ((11:Int)==3)=false from rfl,show ((11:Int)==4)=false from rfl,show ((11:Int)==5)=false from rfl,show ((11:Int)==6)=false from rfl,show ((11:Int)==7)=false from rfl,show ((11:Int)==9)=false from rfl,show ((11:Int)==10)=false from rfl,
    show (decide ((1048576:Int)>0))=true from rfl,show (decide ((64:Int)>0))=true from rfl,show (decide ((0:Int)>0))=false from rfl]<;>
   refine C21 ?_<;>unfold V1<;>simp [-not_and,-Classical.not_imp]<;>omega
 ·rw [C15 fun h=>hk h.1];have e: ∀n:Int,1<=n->n<=11->(k==n)=false:=fun n h1 h2=>by rw [D32];omega
  unfold A0C U0;simp only [e 6 (by decide) (by decide),e 7 (by decide) (by decide),e 9 (by decide) (by decide),e 10 (by decide) (by decide),e 3 (by decide) (by decide),e 4 (by decide) (by decide),e 2 (by decide) (by decide),e 5 (by decide) (by decide),e 11 (by decide) (by decide),e 8 (by decide) (by decide),e 1 (by decide) (by decide),D3f]
theorem N2 (c:C9):A0d c=vCf (V1 c):=by
 obtain ⟨k,agg,w,kk,cap,p,ch,mx⟩:=c;have emay:H1 w cap 0=true↔(1<=w/\w<=1048576)/\(1<=cap/\cap<=65536):=by rw [R2];omega
 have emk:=O5 kk;have eag:N6 agg=true↔1<=agg/\agg<=4:=by unfold N6;simp
 by_cases hk:1<=k/\k<=11
 ·have:k=1\/k=2\/k=3\/k=4\/k=5\/k=6\/k=7\/k=8\/k=9\/k=10\/k=11:=by omega
  rcases this with h|h|h|h|h|h|h|h|h|h|h<;>subst h<;>
   simp only [A0d,M2,A3l,O9,A7F,A0O,beq_self_eq_true,D3N,Bool.and_true,D3g,D3f,show ((2:Int)==1)=false from rfl,show ((3:Int)==1)=false from rfl,show ((3:Int)==2)=false from rfl,show ((3:Int)==5)=false from rfl,show ((3:Int)==11)=false from rfl,
    show ((4:Int)==1)=false from rfl,show ((4:Int)==2)=false from rfl,show ((4:Int)==3)=false from rfl,show ((4:Int)==5)=false from rfl,show ((4:Int)==11)=false from rfl,
    show ((5:Int)==1)=false from rfl,show ((5:Int)==2)=false from rfl,
    show ((6:Int)==1)=false from rfl,show ((6:Int)==2)=false from rfl,show ((6:Int)==3)=false from rfl,show ((6:Int)==4)=false from rfl,show ((6:Int)==5)=false from rfl,show ((6:Int)==11)=false from rfl,
    show ((7:Int)==1)=false from rfl,show ((7:Int)==2)=false from rfl,show ((7:Int)==3)=false from rfl,show ((7:Int)==4)=false from rfl,show ((7:Int)==5)=false from rfl,show ((7:Int)==6)=false from rfl,show ((7:Int)==11)=false from rfl,
    show ((8:Int)==1)=false from rfl,show ((8:Int)==2)=false from rfl,show ((8:Int)==3)=false from rfl,show ((8:Int)==4)=false from rfl,show ((8:Int)==5)=false from rfl,show ((8:Int)==6)=false from rfl,show ((8:Int)==7)=false from rfl,show ((8:Int)==11)=false from rfl,
    show ((9:Int)==1)=false from rfl,show ((9:Int)==2)=false from rfl,show ((9:Int)==3)=false from rfl,show ((9:Int)==4)=false from rfl,show ((9:Int)==5)=false from rfl,show ((9:Int)==6)=false from rfl,show ((9:Int)==7)=false from rfl,show ((9:Int)==8)=false from rfl,show ((9:Int)==11)=false from rfl,
    show ((10:Int)==1)=false from rfl,show ((10:Int)==2)=false from rfl,show ((10:Int)==3)=false from rfl,show ((10:Int)==4)=false from rfl,show ((10:Int)==5)=false from rfl,show ((10:Int)==6)=false from rfl,show ((10:Int)==7)=false from rfl,show ((10:Int)==8)=false from rfl,show ((10:Int)==9)=false from rfl,show ((10:Int)==11)=false from rfl,
    show ((11:Int)==1)=false from rfl,show ((11:Int)==2)=false from rfl,show ((11:Int)==5)=false from rfl]<;>
   refine C21 ?_<;>unfold V1<;>simp only [D3n,D3y,D33,D3M,D32,D3t,ne_eq]<;>
   (try simp only [D3s,ne_eq,emay,emk,eag])<;>simp [-not_and,-Classical.not_imp]<;>omega
 ·rw [C15 fun h=>hk h.1];have e: ∀n:Int,1<=n->n<=11->(k==n)=false:=fun n h1 h2=>by rw [D32];omega
  unfold A0d A7F A0O;simp only [e 6 (by decide) (by decide),e 7 (by decide) (by decide),e 9 (by decide) (by decide),e 10 (by decide) (by decide),e 3 (by decide) (by decide),e 4 (by decide) (by decide),e 2 (by decide) (by decide),e 5 (by decide) (by decide),e 11 (by decide) (by decide),e 8 (by decide) (by decide),e 1 (by decide) (by decide),D3f,D3p,Bool.or_true,D3g]
end Go.Win
namespace Go.Win
open Go.Vc Go.Dec
def O2 (n k:Int):Int:=max 1 (n/k)
theorem C4f {n k:Int} (hn:0<=n) (hk:1<=k):Int.tdiv n k=n/k/\0<=n/k/\n/k<=n:=by
 refine ⟨Int.tdiv_eq_ediv_of_nonneg hn,Int.ediv_nonneg hn (by omega), ?_⟩
 exact Int.ediv_le_self k hn
theorem B9Q {n k:Int} (hn:0<=n/\n<=1099511627776) (hk:1<=k):A4M n k=some (O2 n k):=by
 obtain ⟨h1,h2,h3⟩:=C4f hn.1 hk;unfold A4M O2;rw [D3h (by omega),O7,h1,A7 (by omega) (by omega)]
 congr 1
 show (if n/k>1 then n/k else 1)=max 1 (n/k)
 split<;>omega
theorem D1Z {x:B7} (hn:0<=x.N/\x.N<=1099511627776) (hk:1<=x.K):C5U x=some (O2 x.N x.K):=B9Q hn hk
theorem A9d {n k:Int} (hn:0<=n/\n<=1099511627776) (hk:1<=k):1<=O2 n k/\O2 n k<=1099511627776/\(1<=n->O2 n k<=n):=by
 obtain ⟨h1,h2,h3⟩:=C4f hn.1 hk;unfold O2;omega
def R6 (l:List D4) (i:Nat):Int:=((l.take i).map (·.G)).sum
theorem B16 (l:List D4):R6 l 0=0:=by simp [R6]
theorem B15 {l:List D4} {i:Nat} (h:i<l.length):R6 l (i+1)=R6 l i+(el l i).G:=by
 unfold R6;rw [List.take_add_one,A1q h];simp
def B3L (l:List D4) (M:Int) (i:Nat):Prop:=(-4096<=(el l i).V/\(el l i).V<=4096)/\(1<=(el l i).G/\0<=(el l i).D/\(el l i).G+(el l i).D<=M)/\(1<=i->(el l (i-1)).V<=(el l i).V)
def A4s (x:B7):Prop:=(1<=x.K/\x.K<=64)/\(2<=x.Cap/\x.Cap<=65536)/\(0<=x.N/\x.N<=1099511627776)/\(x.Ao.length:Int)<=x.Cap
def A9s (x:B7):Prop:=A4s x/\(x.Ao.length=0↔x.N=0)/\(∀i,i<x.Ao.length->B3L x.Ao (O2 x.N x.K) i)/\
 (0<x.Ao.length->(el x.Ao 0).G=1/\(el x.Ao 0).D=0/\(el x.Ao (x.Ao.length-1)).D=0/\R6 x.Ao x.Ao.length=x.N)
theorem C4d {l:List D4} {M:Int} (hM:M<=1099511627776) (hl:l.length<=65536): ∀i,i<=l.length->(∀j,j<i->B3L l M j)->(i:Int)<=R6 l i/\R6 l i<=i*1099511627776:=by
 intro i
 induction i with
 |zero=>intro _ _;rw [B16];omega
 |succ i ih=>
  intro hi h;have h1:=ih (by omega) fun j hj=>h j (by omega)
  have h2:=(h i (by omega)).2.1
  rw [B15 (by omega)]
  omega
theorem B1n (x:B7):A1E x=some (vOf (A9s x)):=by
 unfold A1E
 by_cases h1:A4s x
 ·have h1' :=h1;unfold A4s at h1';have e:(((((((decide (x.K<(1:Int)))||(decide (x.K>(64:Int))))||(decide (x.Cap<(2:Int))))||(decide (x.Cap>(65536:Int))))||(decide (x.N<(0:Int))))||(decide (x.N>(1099511627776:Int))))||(decide ((x.Ao.length:Int)>x.Cap)))=false:=by
   rw [D3s];simp only [D3n,D3e,Ne];omega
  rw [e,D3f];have hl:x.Ao.length<=65536:=by omega
  have hm:x.Ao.length<=maxLen:=by rw [F8];omega
  by_cases hN:x.N=0
  ·have eN:(x.N==0)=true:=by rw [hN];rfl
   rw [eN,D3g]
   by_cases h0:0<x.Ao.length
   ·rw [D3h (by omega),D3g,H8]
    intro h;have:=h.2.1;omega
   ·rw [D3j (by omega),D3f,K9]
    exact ⟨h1,⟨fun _=>hN,fun _=>by omega⟩,fun i hi=>absurd hi (by omega),fun h=>absurd h h0⟩
  ·have eN:(x.N==0)=false:=by rw [D32];exact hN
   rw [eN,D3f]
   by_cases h0:0<x.Ao.length
   ·have e0:((x.Ao.length:Int)==0)=false:=by rw [D32];omega
    rw [e0,D3f,B9Q h1'.2.2.1 h1'.1.1,D3c];have hM:=A9d (n:=x.N) (k:=x.K) h1'.2.2.1 h1'.1.1;unfold A7W;have H:=A1W (f:=fun s:Int×Int=>A1d x (O2 x.N x.K) s.1 s.2) (fun i=>(R6 x.Ao i,(i:Int))) 0 x.Ao.length (Nat.zero_le _) (fun i=> ¬B3L x.Ao (O2 x.N x.K) i) 2
     (some (vOf ((el x.Ao 0).G=1/\(el x.Ao 0).D=0/\(el x.Ao (x.Ao.length-1)).D=0/\R6 x.Ao x.Ao.length=x.N)))
     (fun i _ hi hp=>by
      simp only [];unfold A1d;have hs:=C4d (l:=x.Ao) hM.2.1 hl i (by omega) fun j hj=>D37 fun hn=>hp j (Nat.zero_le _) hj hn
      rw [D3h (by omega:(i:Int)<(x.Ao.length:Int)),D3g,F4 hi,D3c,Q4 hi hm]
      unfold B3L
      by_cases g1: -4096<=(el x.Ao i).V/\(el x.Ao i).V<=4096
      ·have e1:(decide ((el x.Ao i).V< -4096)||decide ((el x.Ao i).V>4096))=false:=by simp;omega
       rw [e1];have key: ∀P:Prop,((((decide ((el x.Ao i).G<(1:Int)))||(decide ((el x.Ao i).D<(0:Int))))||(decide ((el x.Ao i).G>(O2 x.N x.K))))||(decide ((el x.Ao i).D>(A2 ((O2 x.N x.K)-(el x.Ao i).G)))))=true↔ ¬(1<=(el x.Ao i).G/\0<=(el x.Ao i).D/\(el x.Ao i).G+(el x.Ao i).D<=O2 x.N x.K):=by
        intro _;simp only [D3n,D3e]
        by_cases q:1<=(el x.Ao i).G/\(el x.Ao i).G<=O2 x.N x.K
        ·rw [A7 (by omega) (by omega)];omega
        ·omega
       have keyw:(1<=(el x.Ao i).G/\0<=(el x.Ao i).D/\(el x.Ao i).G+(el x.Ao i).D<=O2 x.N x.K)->A2 (R6 x.Ao i+(el x.Ao i).G)=R6 x.Ao (i+1):=by
        intro q;rw [B15 hi,A7]<;>omega
       have fin: ∀(c1:Bool) (P1:Prop),(c1=true↔ ¬P1)->
         (¬((-4096<=(el x.Ao i).V/\(el x.Ao i).V<=4096)/\(1<=(el x.Ao i).G/\0<=(el x.Ao i).D/\(el x.Ao i).G+(el x.Ao i).D<=O2 x.N x.K)/\P1)->
          (cond c1 (some (.inr 2)) (cond ((((decide ((el x.Ao i).G<(1:Int)))||(decide ((el x.Ao i).D<(0:Int))))||(decide ((el x.Ao i).G>(O2 x.N x.K))))||(decide ((el x.Ao i).D>(A2 ((O2 x.N x.K)-(el x.Ao i).G))))) (some (.inr 2)) (some (.inl (A2 (R6 x.Ao i+(el x.Ao i).G),((i+1:Nat):Int))))):Option ((Int×Int)⊕Int))=some (.inr 2))/\
         (¬ ¬((-4096<=(el x.Ao i).V/\(el x.Ao i).V<=4096)/\(1<=(el x.Ao i).G/\0<=(el x.Ao i).D/\(el x.Ao i).G+(el x.Ao i).D<=O2 x.N x.K)/\P1)->
          (cond c1 (some (.inr 2)) (cond ((((decide ((el x.Ao i).G<(1:Int)))||(decide ((el x.Ao i).D<(0:Int))))||(decide ((el x.Ao i).G>(O2 x.N x.K))))||(decide ((el x.Ao i).D>(A2 ((O2 x.N x.K)-(el x.Ao i).G))))) (some (.inr 2)) (some (.inl (A2 (R6 x.Ao i+(el x.Ao i).G),((i+1:Nat):Int))))):Option ((Int×Int)⊕Int))=some (.inl (R6 x.Ao (i+1),((i+1:Nat):Int)))):=by
        intro c1 P1 hc
        by_cases q:1<=(el x.Ao i).G/\0<=(el x.Ao i).D/\(el x.Ao i).G+(el x.Ao i).D<=O2 x.N x.K
        ·rw [D3s.2 fun h=>(key True).1 h q,D3f,keyw q];refine J6 ?_;rw [hc];exact ⟨fun h1 h2=>h1 h2.2.2,fun h1 h2=>h1 ⟨g1,q,h2⟩⟩
        ·rw [(key True).2 q,D3g];have:(cond c1 (some (.inr 2)) (some (.inr 2)):Option ((Int×Int)⊕Int))=some (.inr 2):=by cases c1<;>rfl
         rw [this];exact ⟨fun _=>rfl,fun h=>absurd (fun h2=>q h2.2.1) h⟩
       rcases i with _|i
       ·have e4:decide (((0:Nat):Int)>0)=false:=rfl;rw [e4];simp only [Bool.and_false,E9,D3c,D3H,Bool.or_false];exact fin false _ ⟨fun h=>(by cases h),fun h=>absurd (fun h2=>absurd h2 (by decide)) h⟩
       ·have e4:decide (((i+1:Nat):Int)>0)=true:=D3h (by omega)
        rw [e4,A2l (by omega) (Nat.le_of_lt hi) hm,D3T,F4 (by omega)]
        simp only [D3p,Bool.and_true,E4,D3c,D3N,D3D];refine fin _ _ ?_;rw [D3e];constructor
        ·intro h1 h2;have:=h2 (by omega);omega
        ·intro h1;exact Int.not_le.1 fun h2=>h1 fun _=>h2
      ·have e1:(decide ((el x.Ao i).V< -4096)||decide ((el x.Ao i).V>4096))=true:=by simp;omega
       rw [e1];simp only [D3o,D3H,E9,D3c,D3W,D3g];exact ⟨fun _=>trivial,fun h=>absurd (fun h2=>g1 h2.1) h⟩)
     (fun hp=>by
      simp only [];unfold A1d;rw [D3j (D3F _),D3f]
      congr 1
      rw [A21 h0,D3c,A2l h0 (D3U _) hm,F4 (by omega),D3c]
      by_cases q:(el x.Ao 0).G=1/\(el x.Ao 0).D=0/\(el x.Ao (x.Ao.length-1)).D=0/\R6 x.Ao x.Ao.length=x.N
      ·rw [K9 q];obtain ⟨q1,q2,q3,q4⟩:=q;rw [q1,q2,q3,q4];simp
      ·rw [H8 q];have:(((R6 x.Ao x.Ao.length !=x.N||(el x.Ao 0).G !=1)||(el x.Ao 0).D !=0)||(el x.Ao (x.Ao.length-1)).D !=0)=true:=by
        simp only [D3n,bne_iff_ne];omega
       rw [this];rfl)
    rw [show ((0:Int),(0:Int))=(R6 x.Ao 0,((0:Nat):Int)) from by rw [B16];rfl]
    by_cases h2: ∀i,i<x.Ao.length->B3L x.Ao (O2 x.N x.K) i
    ·rw [H.2 fun i _ hi hn=>hn (h2 i hi)]
     congr 1
     by_cases q:(el x.Ao 0).G=1/\(el x.Ao 0).D=0/\(el x.Ao (x.Ao.length-1)).D=0/\R6 x.Ao x.Ao.length=x.N
     ·rw [K9 q,K9];exact ⟨h1,⟨fun h=>by omega,fun h=>absurd h hN⟩,h2,fun _=>q⟩
     ·rw [H8 q,H8];exact fun h=>q (h.2.2.2 h0)
    ·obtain ⟨i,hi,hn⟩:=A0L h2;rw [H.1 ⟨i,Nat.zero_le _,hi,hn⟩,H8];exact fun h=>h2 h.2.2.1
   ·have e0:((x.Ao.length:Int)==0)=true:=by rw [show x.Ao.length=0 by omega];rfl
    rw [e0,D3g,H8];intro h;have:=h.2.1;omega
 ·have e:(((((((decide (x.K<(1:Int)))||(decide (x.K>(64:Int))))||(decide (x.Cap<(2:Int))))||(decide (x.Cap>(65536:Int))))||(decide (x.N<(0:Int))))||(decide (x.N>(1099511627776:Int))))||(decide ((x.Ao.length:Int)>x.Cap)))=true:=by
   unfold A4s at h1;simp only [D3n,D3e];omega
  rw [e,D3g,H8 fun h=>h1 h.1]
theorem B92 (x:B7):A8o x=some (vOf (A9s x)):=by
 unfold A8o;simp only []
 by_cases h1:A4s x/\(x.Ao.length=0↔x.N=0)
 ·have h1' :=h1.1;unfold A4s at h1';have en:(A1n x.K x.Cap).2=0:=by
   unfold A1n;have:(((!(G7 x.K))||(decide (x.Cap<(2:Int))))||(decide (x.Cap>(65536:Int))))=false:=by
    rw [(O5 _).2 h1'.1];simp;omega
   simp only [this,D3f]
  have eb:(((x.Ao.length:Int)==0)==(x.N==0))=true:=by
   rw [D36,D3x,D36,D36];have:=h1.2;omega
  have e:((((((A1n x.K x.Cap).2 !=0)||(decide (x.N<(0:Int))))||(decide (x.N>(1099511627776:Int))))||(decide ((x.Ao.length:Int)>x.Cap)))||(!(((x.Ao.length:Int)==(0:Int))==(x.N==(0:Int)))))=false:=by
   rw [en,eb,D3s];simp only [D3n,D3e,Ne,D3P,D3o,Bool.false_eq_true,or_false,false_or];omega
  rw [e,D3f];have hl:x.Ao.length<=65536:=by omega
  have hm:x.Ao.length<=maxLen:=by rw [F8];omega
  have hM:=A9d (n:=x.N) (k:=x.K) h1'.2.2.1 h1'.1.1;unfold A9Y
  let good:Nat->Prop:=fun i=>B3L x.Ao (O2 x.N x.K) i/\(i=0->(el x.Ao i).G=1/\(el x.Ao i).D=0)/\(i=x.Ao.length-1->(el x.Ao i).D=0)/\R6 x.Ao (i+1)<=x.N
  have H:=A1W (f:=fun s:Int×Int=>A2v x s.1 s.2) (fun i=>(R6 x.Ao i,(i:Int))) 0 x.Ao.length (Nat.zero_le _) (fun i=> ¬good i) 2
   (some (vOf (R6 x.Ao x.Ao.length=x.N)))
   (fun i _ hi hp=>by
    simp only [];unfold A2v;have hs:=C4d (l:=x.Ao) hM.2.1 hl i (by omega) fun j hj=>(D37 fun hn=>hp j (Nat.zero_le _) hj hn:good j).1
    rw [D3h (by omega:(i:Int)<(x.Ao.length:Int)),D3g,F4 hi,D3c,Q4 hi hm,A2l (by omega) (D3U _) hm,D1Z h1'.2.2.1 h1'.1.1]
    simp only [];have el0:((i:Int)==0)=decide (i=0):=by rw [D3x,D36,D3e];omega
    have ell:((i:Int)==((x.Ao.length-1:Nat):Int))=decide (i=x.Ao.length-1):=by rw [D3x,D36,D3e];omega
    rw [el0,ell];have hN1:1<=x.N:=by have:=h1.2;omega
    have hMN:=hM.2.2 hN1
    by_cases gA:(-4096<=(el x.Ao i).V/\(el x.Ao i).V<=4096)/\(1<=(el x.Ao i).G/\(el x.Ao i).G<=x.N)/\(0<=(el x.Ao i).D/\(el x.Ao i).D<=x.N)
    ·have eA:(((((!(F0 (el x.Ao i).V))||(decide ((el x.Ao i).G<(1:Int))))||(decide ((el x.Ao i).G>x.N)))||(decide ((el x.Ao i).D<(0:Int))))||(decide ((el x.Ao i).D>x.N)))=false:=by
      rw [(Y7 _).2 gA.1,D3s];simp only [D3n,D3e,Ne,D3o,Bool.false_eq_true,or_false,false_or];omega
     rw [eA,A7 (n:=(el x.Ao i).G+(el x.Ao i).D) (by omega) (by omega),A7 (n:=R6 x.Ao i+(el x.Ao i).G) (by omega) (by omega),<-B15 hi]
     simp only [D3p,E4,D3c,D3D];have fin: ∀(c1:Bool),(c1=true↔(1<=i/\(el x.Ao (i-1)).V>(el x.Ao i).V))->
       (¬good i->(cond (((decide ((el x.Ao i).G+(el x.Ao i).D>O2 x.N x.K)||c1)||(decide (i=0)&&((el x.Ao i).G !=1||(el x.Ao i).D !=0)))||(decide (i=x.Ao.length-1)&&(el x.Ao i).D !=0)) (some (.inr 2))
        (cond (decide (R6 x.Ao (i+1)>x.N)) (some (.inr 2)) (some (.inl (R6 x.Ao (i+1),((i+1:Nat):Int))))):Option ((Int×Int)⊕Int))=some (.inr 2))/\
       (¬ ¬good i->(cond (((decide ((el x.Ao i).G+(el x.Ao i).D>O2 x.N x.K)||c1)||(decide (i=0)&&((el x.Ao i).G !=1||(el x.Ao i).D !=0)))||(decide (i=x.Ao.length-1)&&(el x.Ao i).D !=0)) (some (.inr 2))
        (cond (decide (R6 x.Ao (i+1)>x.N)) (some (.inr 2)) (some (.inl (R6 x.Ao (i+1),((i+1:Nat):Int))))):Option ((Int×Int)⊕Int))=some (.inl (R6 x.Ao (i+1),((i+1:Nat):Int)))):=by
      intro c1 hc;rw [A2c];refine J6 ?_;simp only [D3n,D3k,D3e,bne_iff_ne,hc];show _↔ ¬(B3L x.Ao (O2 x.N x.K) i/\_);unfold B3L;omega
     rcases i with _|i
     ·have e4:decide (((0:Nat):Int)>0)=false:=rfl;rw [e4];simp only [Bool.and_false,E9,D3c,D3H];exact fin false ⟨fun h=>(by cases h),fun h=>(by omega)⟩
     ·have e4:decide (((i+1:Nat):Int)>0)=true:=D3h (by omega)
      rw [e4,A2l (by omega) (Nat.le_of_lt hi) hm,D3T,F4 (by omega)]
      by_cases gB:(el x.Ao (i+1)).G+(el x.Ao (i+1)).D>O2 x.N x.K
      ·rw [D3h gB];simp only [D3o,D3H,E9,D3c,D3W,D3g];refine ⟨fun _=>trivial,fun h=>absurd (fun h2:good (i+1)=> ?_) h⟩;have:=h2.1.2.1;omega
      ·have fin' :=fin (decide ((el x.Ao i).V>(el x.Ao (i+1)).V)) (by rw [D3e,D3T];omega)
       rw [D3j gB] at fin' ⊢;simp only [D3p,D3N,E4,D3c];exact fin'
    ·have eA:(((((!(F0 (el x.Ao i).V))||(decide ((el x.Ao i).G<(1:Int))))||(decide ((el x.Ao i).G>x.N)))||(decide ((el x.Ao i).D<(0:Int))))||(decide ((el x.Ao i).D>x.N)))=true:=by
      simp only [D3n,D3e,D3y];rw [D3s,Ne,Y7];omega
     rw [eA];simp only [D3o,D3W,D3H,E9,D3c,D3g];refine ⟨fun _=>trivial,fun h=>absurd (fun h2:good i=>gA ?_) h⟩;have:=h2.1;unfold B3L at this;omega)
   (fun hp=>by
    simp only [];unfold A2v;rw [D3j (D3F _),D3f]
    congr 1
    by_cases q:R6 x.Ao x.Ao.length=x.N
    ·rw [K9 q,q,D3P,D3f]
    ·rw [H8 q,(bne_iff_ne).2 q,D3g])
  rw [show ((0:Int),(0:Int))=(R6 x.Ao 0,((0:Nat):Int)) from by rw [B16];rfl]
  by_cases h2: ∀i,i<x.Ao.length->good i
  ·rw [H.2 fun i _ hi hn=>hn (h2 i hi)]
   congr 1
   by_cases q:R6 x.Ao x.Ao.length=x.N
   ·rw [K9 q,K9];exact ⟨h1.1,h1.2,fun i hi=>(h2 i hi).1,fun h0=>⟨((h2 0 h0).2.1 rfl).1,((h2 0 h0).2.1 rfl).2,(h2 (x.Ao.length-1) (by omega)).2.2.1 rfl,q⟩⟩
   ·rw [H8 q,H8];intro h
    by_cases h0:0<x.Ao.length
    ·exact q (h.2.2.2 h0).2.2.2
    ·have e0:x.Ao.length=0:=by omega
     rw [e0,B16] at q;have:=h1.2.1 e0;omega
  ·obtain ⟨i,hi,hn⟩:=A0L h2;rw [H.1 ⟨i,Nat.zero_le _,hi,hn⟩,H8];intro h;apply hn;have h0:0<x.Ao.length:=by omega
   have h5:=h.2.2.2 h0;refine ⟨h.2.2.1 i hi,fun e=>by subst e;exact ⟨h5.1,h5.2.1⟩,fun e=>by subst e;exact h5.2.2.1, ?_⟩
   have mono: ∀k,i+1+k<=x.Ao.length->R6 x.Ao (i+1)<=R6 x.Ao (i+1+k):=by
    intro k
    induction k with
    |zero=>intro _;exact Int.le_refl _
    |succ k ih=>
     intro hk;have g1:=ih (by omega)
     have g2:=(h.2.2.1 (i+1+k) (by omega)).2.1
     have g3:R6 x.Ao (i+1+(k+1))=_:=B15 (l:=x.Ao) (i:=i+1+k) (by omega)
     omega
   have:=mono (x.Ao.length-(i+1)) (by omega)
   rw [show i+1+(x.Ao.length-(i+1))=x.Ao.length by omega,h5.2.2.2] at this
   exact this
 ·have e:((((((A1n x.K x.Cap).2 !=0)||(decide (x.N<(0:Int))))||(decide (x.N>(1099511627776:Int))))||(decide ((x.Ao.length:Int)>x.Cap)))||(!(((x.Ao.length:Int)==(0:Int))==(x.N==(0:Int)))))=true:=by
   by_cases hk:(1<=x.K/\x.K<=64)/\(2<=x.Cap/\x.Cap<=65536)
   ·by_cases hb:(x.Ao.length=0↔x.N=0)
    ·simp only [D3n,D3e];unfold A4s at h1;omega
    ·have:(((x.Ao.length:Int)==0)==(x.N==0))=false:=by
      rw [D32];intro h;have:=congrArg (· =true) h;simp only [D36,eq_iff_iff] at this;omega
     rw [this];simp
   ·have en:(A1n x.K x.Cap).2=1:=by
     unfold A1n;have:(((!(G7 x.K))||(decide (x.Cap<(2:Int))))||(decide (x.Cap>(65536:Int))))=true:=by
      simp only [D3n,D3e,D3y];rw [D3s,Ne,O5];omega
     simp only [this,D3g]
    rw [en];rfl
  rw [e,D3g,H8 fun h=>h1 ⟨h.1,h.2.1⟩]
theorem B61 (x:B7) (hl:x.Ao.length<=maxLen):A5v x x=some true:=by
 unfold A5v;simp only [D3P,Bool.or_false,D3f];unfold A9A;refine (L2 (f:=fun s:Int=>A3j x x s) x.Ao.length (fun _=>False) false (some true) (fun i hi _=>⟨fun h=>h.elim,fun _=> ?_⟩) (fun _=> ?_)).2 fun _ _ h=>h
 ·unfold A3j;rw [D3h (by omega:(i:Int)<(x.Ao.length:Int)),D3g,F4 hi]
  simp [Q4 hi hl]
 ·unfold A3j;rw [D3j (D3F _),D3f]
end Go.Win
namespace Go.Win
open Go.Vc Go.Dec
def inB (x:Int) (b:Nat):Prop:=(b=0/\x=0)\/(1<=b/\(2:Int)^(b-1)<=x/\x<2^b)
theorem C7A: ∀(b:Nat) (x c:Int),inB x b->x<=9223372036854775807->0<=c->c+b<=1000->A6p x c=some (c+b):=by
 intro b
 induction b with
 |zero=>
  intro x c h hx hc hb;have hx0:x=0:=by
   rcases h with h|h
   ·exact h.2
   ·omega
  unfold A6p;rw [G9 (r:=c)]
  ·congr 1;omega
  ·unfold A5e;rw [hx0];rfl
 |succ b ih=>
  intro x c h hx hc hb;have h' :(2:Int)^b<=x/\x<2^(b+1):=by
   rcases h with h|h
   ·omega
   ·exact ⟨by simpa using h.2.1,h.2.2⟩
  have hp:=A1C b;have hin:inB (x/2) b:=by
   by_cases h0:b=0
   ·subst h0;left;have e1:(2:Int)^0=1:=rfl;have e2:(2:Int)^(0+1)=2:=rfl;omega
   ·right;have e1:(2:Int)^b=2^(b-1)*2:=by rw [<-Int.pow_succ];congr 1;omega
    have e2:(2:Int)^(b+1)=2^b*2:=Int.pow_succ 2 b;omega
  have hst:A5e x c=some (.inl (x/2,c+1)):=by
   unfold A5e;rw [D3h (by omega),D3g,Int.tdiv_eq_ediv_of_nonneg (by omega),A7 (by omega) (by omega),A7 (by omega) (by omega)]
  have:=ih (x/2) (c+1) hin (by omega) (by omega) (by omega)
  unfold A6p at this⊢;rw [M3 hst,this]
  congr 1
  omega
theorem B2z {x:Int} (h0:0<x) (h1:x<=9223372036854775807): ∃b:Nat,B3I x=some (b:Int)/\A2o x=some (b:Int)/\1<=b/\b<=64/\(2:Int)^(b-1)<=x/\x<2^b:=by
 obtain ⟨b,g1,g2,g3,g4,g5⟩:=C1m h0 (by omega)
 refine ⟨b, ?_, ?_,g2,g3,g4,g5⟩
 ·unfold B3I;rw [D3j (by omega),D3f,A1Q (by omega) (by omega),g1];rfl
 ·unfold A2o;rw [C7A b x 0 (.inr ⟨g2,g4,g5⟩) h1 (by omega) (by omega)]
  congr 1;omega
theorem A8u {k c:Int} (hk:1<=k/\k<=64) (hc:1<=c/\c<=65536): ∃b,A3T k c=some b/\A1a k c=some b/\1<=b/\b<=65536:=by
 obtain ⟨b,g1,g2,g3,g4,g5,g6⟩:=B2z (x:=c) (by omega) (by omega)
 have hm:=A1X (a:=2*k) (A:=128) (b:=(b:Int)+2) (B:=66) (by omega) (by omega)
 have hm2:1*1<=2*k*((b:Int)+2):=Int.mul_le_mul (by omega) (by omega) (by decide) (by omega)
 refine ⟨2*k*(b+2), ?_, ?_,by omega,by omega⟩
 ·unfold A3T;have e:Y3 1 k c 0=true:=by unfold Y3;simp;omega
  simp only [e,D3o,D3f,g1,D3c];rw [A7 (n:=2*k) (by omega) (by omega),A7 (n:=(b:Int)+2) (by omega) (by omega),A7 (by omega) (by omega)]
 ·unfold A1a;have e:(((!(G7 k))||(decide (c<(1:Int))))||(decide (c>(65536:Int))))=false:=by
   rw [(O5 k).2 hk];simp;omega
  simp only [e,D3f,g2,D3c];rw [A7 (n:=2*k) (by omega) (by omega),A7 (n:=(b:Int)+2) (by omega) (by omega),A7 (by omega) (by omega)]
def plainB (l:List A6):List A3:=l.map fun x=>⟨x.T,x.As⟩
theorem A0j (l:List A6):(plainB l).length=l.length:=by simp [plainB]
theorem C8A {l:List A6} {i:Nat} (h:i<l.length):el (plainB l) i=⟨(el l i).T,(el l i).As⟩:=by
 rw [K7 (by rw [A0j];exact h),K7 h]
 simp [plainB]
theorem B0b (l:List A6) (hl:l.length<=1048576):A2Y l=some (plainB l):=by
 unfold A2Y B1z;have H:=A1W (f:=fun s:List A3×Int=>A1v l s.1 s.2) (fun i=>(plainB (l.take i),(i:Int))) 0 l.length (Nat.zero_le _) (fun _=>False) [] (some (plainB l))
  (fun i _ hi _=>by
   refine ⟨fun h=>h.elim,fun _=> ?_⟩;simp only [];unfold A1v;have hm:l.length<=maxLen:=by rw [F8];omega
   rw [D3h (by omega:(i:Int)<(l.length:Int)),D3g,F4 hi,D3c,Q4 hi hm]
   have e1:plainB (l.take (i+1))=plainB (l.take i)++ [⟨(el l i).T,(el l i).As⟩]:=by
    rw [List.take_add_one,A1q hi];simp [plainB]
   have e2:(plainB (l.take i)).length=i:=by rw [A0j,D3E];omega
   rw [e1,e2,D3h (by simp only [D3v,D3I];omega),O7])
  (fun _=>by
   simp only [];unfold A1v;rw [D3j (D3F _),D3f,List.take_length])
 exact H.2 (fun _ _ _ h=>h)
theorem C3O:B2p=A2Y:=rfl
def W1 (b:Int):Nat->Int
 |0=>0
 |i+1=>if (2:Int)^i>b+1 then 2*W1 b i+((2:Int)^i-1+b-1)/b else W1 b i
theorem C5q {b:Int} (hb:1<=b): ∀i:Nat,0<=W1 b i/\W1 b i<=i*2^i:=by
 intro i
 induction i with
 |zero=>exact ⟨Int.le_refl _,Int.le_refl _⟩
 |succ i ih=>
  have hp:=A1C i;have e2:(2:Int)^(i+1)=2^i*2:=Int.pow_succ 2 i;have e3:((i+1:Nat):Int)*2^(i+1)=(i:Int)*2^i*2+2^i*2:=by
   rw [e2,Int.natCast_add,Int.add_mul,Int.mul_assoc];simp
  rw [e3];unfold W1;split
  ·have h1:((2:Int)^i-1+b-1)/b<=2^i:=by
    have:((2:Int)^i-1+b-1)/b<2^i+1:=by
     rw [Int.ediv_lt_iff_lt_mul (by omega),Int.add_mul,Int.one_mul]
     have:=Int.mul_le_mul_of_nonneg_left hb (show (0:Int)<=2^i by omega)
     omega
    omega
   have h2:0<=((2:Int)^i-1+b-1)/b:=Int.ediv_nonneg (by omega) (by omega)
   omega
  ·omega
theorem D1b: ∀n:Fin 31,(2:Int)^n.1<=1073741824:=by decide
theorem B3N {i:Nat} (h:i<=30):(2:Int)^i<=1073741824:=D1b ⟨i,by omega⟩
theorem C7u {b:Int} (hb:1<=b) {i:Nat} (hi:i<=30):0<=W1 b i/\W1 b i<=32212254720:=by
 obtain ⟨h1,h2⟩:=C5q hb i;have hp:=B3N hi;have:=A1X (a:=(i:Int)) (A:=30) (b:=2^i) (B:=1073741824) (by omega) ⟨Int.le_of_lt (A1C i),hp⟩
 omega
theorem D0B {a b:Int} (ha:0<=a/\a<=4611686018427387904) (hb:1<=b/\b<=4611686018427387904):A8O a b=some ((a+b-1)/b,true):=by
 unfold A8O;have e1:((b==0)||((a== -9223372036854775808)&&(b== -1)))=false:=by
  rw [D3s];simp only [D3n,D3k,D36,Ne];omega
 rw [e1,D3f,D3h (by omega:b≠0),O7,O7,Int.tdiv_eq_ediv_of_nonneg ha.1,Int.tmod_eq_emod_of_nonneg ha.1]
 have hq:0<=a/b:=Int.ediv_nonneg ha.1 (by omega)
 have hq2:a/b<=a:=Int.ediv_le_self b ha.1;have hr:=Int.emod_nonneg a (show b≠0 by omega)
 have hr2:=Int.emod_lt_of_pos a (show 0<b by omega)
 have hd:=Int.mul_ediv_add_emod a b;rw [D3j (by omega: ¬a<0),D3j (by omega: ¬b<0)]
 by_cases h0:a%b=0
 ·have e2:(a%b !=0&&(false==false))=false:=by rw [h0];rfl
  rw [e2,D3f,A7 (by omega) (by omega)]
  have:(a+b-1)/b=a/b:=by
   have e3:a+b-1=(b-1)+b*(a/b):=by omega
   rw [e3,Int.add_mul_ediv_left _ _ (by omega),Int.ediv_eq_zero_of_lt (by omega) (by omega)];omega
  rw [this]
 ·have e2:(a%b !=0&&(false==false))=true:=by rw [D3k];exact ⟨bne_iff_ne.2 h0,rfl⟩
  rw [e2,D3g,A7 (n:=a/b) (by omega) (by omega),A7 (by omega) (by omega)]
  have:(a+b-1)/b=a/b+1:=by
   have e3:a+b-1=(a%b-1)+b*(a/b+1):=by rw [Int.mul_add];omega
   rw [e3,Int.add_mul_ediv_left _ _ (by omega),Int.ediv_eq_zero_of_lt (by omega) (by omega)];omega
  rw [this]
theorem B76 {L b:Int} (hL:0<=L/\L<=30) (hb:1<=b/\b<=65536):A4S L b=some (W1 b (L.toNat+1))/\A9B L b=some (W1 b (L.toNat+1)):=by
 have e:((((decide (L<(0:Int)))||(decide (L>(30:Int))))||(decide (b<(1:Int))))||(decide (b>(65536:Int))))=false:=by
  rw [D3s];simp only [D3n,D3e,Ne];omega
 constructor
 ·unfold A4S;rw [e,D3f];unfold A9F;have H:=A1W (f:=fun s:Int×Int=>A15 L b s.1 s.2) (fun i=>(W1 b i,(i:Int))) 0 (L.toNat+1) (Nat.zero_le _) (fun _=>False) 0 (some (W1 b (L.toNat+1)))
   (fun i _ hi _=>by
    refine ⟨fun h=>h.elim,fun _=> ?_⟩;simp only [];unfold A15;have hp:=B3N (show i<=30 by omega)
    have hp0:=A1C i;have ha:=C7u hb.1 (show i<=30 by omega)
    have es:A2 ((i:Int)+1)=((i+1:Nat):Int):=by rw [A7]<;>omega
    have ew:decide (0<=G8 (i:Int))=true:=D3h (by rw [A1Q]<;>omega)
    rw [D3h (by omega:(i:Int)<=L),D3g,ew,O7,B8C (by omega) (by omega),D3S,es,A7 (n:=b+1) (by omega) (by omega)]
    by_cases h:(2:Int)^i>b+1
    ·rw [D3h h,D3g,A7 (n:=(2:Int)^i-1) (by omega) (by omega),D0B (by omega) (by omega),D3c,A7 (n:=2*W1 b i) (by omega) (by omega)]
     have h1:0<=((2:Int)^i-1+b-1)/b:=Int.ediv_nonneg (by omega) (by omega)
     have h2:((2:Int)^i-1+b-1)/b<=(2:Int)^i-1+b-1:=Int.ediv_le_self b (by omega)
     simp only [];rw [A7 (by omega) (by omega)]
     have ea:W1 b (i+1)=2*W1 b i+((2:Int)^i-1+b-1)/b:=by rw [W1,if_pos h]
     rw [ea]
    ·rw [D3j h,D3f];have ea:W1 b (i+1)=W1 b i:=by rw [W1,if_neg h]
     rw [ea])
   (fun _=>by
    simp only [];unfold A15;rw [D3j (by omega),D3f])
  exact H.2 (fun _ _ _ h=>h)
 ·unfold A9B;rw [e,D3f];unfold B1f;have H:=A1W (f:=fun s:Int×Int=>A2T L b s.1 s.2) (fun i=>(W1 b i,(i:Int))) 0 (L.toNat+1) (Nat.zero_le _) (fun _=>False) 0 (some (W1 b (L.toNat+1)))
   (fun i _ hi _=>by
    refine ⟨fun h=>h.elim,fun _=> ?_⟩;simp only [];unfold A2T;have hp:=B3N (show i<=30 by omega)
    have hp0:=A1C i;have ha:=C7u hb.1 (show i<=30 by omega)
    have es:A2 ((i:Int)+1)=((i+1:Nat):Int):=by rw [A7]<;>omega
    have ew:decide (0<=G8 (i:Int))=true:=D3h (by rw [A1Q]<;>omega)
    rw [D3h (by omega:(i:Int)<=L),D3g,ew,O7,B8C (by omega) (by omega),D3S,es,A7 (n:=b+1) (by omega) (by omega)]
    by_cases h:(2:Int)^i>b+1
    ·have h1:0<=((2:Int)^i-1+b-1)/b:=Int.ediv_nonneg (by omega) (by omega)
     have h2:((2:Int)^i-1+b-1)/b<=(2:Int)^i-1+b-1:=Int.ediv_le_self b (by omega)
     rw [D3h h,D3g,D3h (by omega:b≠0),O7,A7 (n:=(2:Int)^i-1) (by omega) (by omega),A7 (n:=(2:Int)^i-1+b) (by omega) (by omega),A7 (n:=(2:Int)^i-1+b-1) (by omega) (by omega),
      Int.tdiv_eq_ediv_of_nonneg (by omega),A7 (n:=((2:Int)^i-1+b-1)/b) (by omega) (by omega),A7 (n:=2*W1 b i) (by omega) (by omega),A7 (by omega) (by omega)]
     have ea:W1 b (i+1)=2*W1 b i+((2:Int)^i-1+b-1)/b:=by rw [W1,if_pos h]
     rw [ea]
    ·rw [D3j h,D3f];have ea:W1 b (i+1)=W1 b i:=by rw [W1,if_neg h]
     rw [ea])
   (fun _=>by
    simp only [];unfold A2T;rw [D3j (by omega),D3f])
  exact H.2 (fun _ _ _ h=>h)
def A2P (b:Int) (x:A6):Prop:=okB x.Aw=true/\x.Aw.N=2^x.As.toNat/\(x.Aw.Ac.length:Int)<=b+1/\A2 (P2 x.Aw.Ac-1)<=W1 b (x.As.toNat+1)/\
 -4096<=(el x.Aw.Ac 0).V/\(el x.Aw.Ac (x.Aw.Ac.length-1)).V<=4096/\(el x.Aw.Ac 0).V<=x.Az/\x.Az<=(el x.Aw.Ac (x.Aw.Ac.length-1)).V
def A7r (l:List A6) (k b:Int):Prop:=(1<=b/\b<=65536)/\Z9 (plainB l) k/\ ∀i,i<l.length->A2P b (el l i)
def T5 (l:List A6):Prop:=l.length<=1048576/\ ∀x∈l,x.Aw.Ac.length<=1048576
theorem B8M {l:List A6} {k:Int} (h:Z9 (plainB l) k) {i:Nat} (hi:i<l.length):0<=(el l i).As/\(el l i).As<=30:=by
 have:=h.2.1 i (by rw [A0j];exact hi)
 unfold A0U at this;rw [C8A hi] at this;simp only [] at this;omega
theorem B1U {r:C8} (h:okB r=true) {n:Nat} (hn:r.N=2^n):0<r.Ac.length:=by
 have h1:=(Z8 r).1 h;have:=A1C n;have h2:=h1.nil;omega
theorem B4D (l:List A6) (k b:Int) (hs:T5 l):A4n l k b=some (P4 (A7r l k b)):=by
 have hm:l.length<=maxLen:=by rw [F8];have:=hs.1;omega
 unfold A4n
 by_cases hb:1<=b/\b<=65536
 ·have e:(decide (b<1)||decide (b>65536))=false:=by simp;omega
  rw [e,B0b l hs.1];simp only [D3p,E4,D3c,D3D];rw [A3P _ _ (by rw [A0j];exact hm),D3c]
  by_cases h2:Z9 (plainB l) k
  ·rw [L7 h2,D3o,D3f];unfold B1y;have H:=L2 (f:=fun s:Int=>A3A l b s) l.length (fun i=> ¬A2P b (el l i)) false (some true)
    (fun i hi _=>by
     unfold A3A;have hv:=B8M h2 hi;have hr:=hs.2 _ (J0 hi);rw [D3h (by omega:(i:Int)<(l.length:Int)),D3g,F4 hi,D3c,Q4 hi hm]
     generalize el l i=x at hv hr⊢
     have ew:decide (0<=G8 x.As)=true:=D3h (by rw [A1Q]<;>omega)
     simp only [A10 x.Aw hr,D3c,ew,Bool.or_true,O7,B8C hv.1 hv.2];have eb1:A2 (b+1)=b+1:=by rw [A7]<;>omega
     rw [eb1];cases hB:okB x.Aw with
     |false=>
      simp only [D3f,show ((2:Int) !=0)=true from rfl,D3W,D3o,E9,D3c,D3g];exact ⟨fun _=>trivial,fun h=>absurd (fun h2:A2P b x=>by have:=h2.1;rw [hB] at this;cases this) h⟩
     |true=>
      simp only [D3g,show ((0:Int) !=0)=false from rfl,D3D]
      by_cases g1:x.Aw.N=2^x.As.toNat/\(x.Aw.Ac.length:Int)<=b+1
      ·have e1:((x.Aw.N !=2^x.As.toNat)||decide ((x.Aw.Ac.length:Int)>b+1))=false:=by
        rw [g1.1,D3P,D3D];exact D3j (by omega)
       rw [e1];have h0:=B1U hB g1.1;have hm2:x.Aw.Ac.length<=maxLen:=by rw [F8];omega
       simp only [D3p,E4,C9Q x.Aw hr,D3c,hB,D3g,(B76 hv hb).1,D3D,A21 h0,A2l h0 (D3U _) hm2,F4 (show x.Aw.Ac.length-1<x.Aw.Ac.length by omega)]
       rw [A2c];refine J6 ?_;unfold A2P;simp only [hB,g1,true_and,D3n,D3e];omega
      ·have e1:((x.Aw.N !=2^x.As.toNat)||decide ((x.Aw.Ac.length:Int)>b+1))=true:=by
        rw [D3n,bne_iff_ne,D3e]
        by_cases q:x.Aw.N=2^x.As.toNat
        ·right;have: ¬(x.Aw.Ac.length:Int)<=b+1:=fun h=>g1 ⟨q,h⟩;omega
        ·exact .inl q
       rw [e1];simp only [D3o,E9,D3c,D3W,D3g];exact ⟨fun _=>trivial,fun h=>absurd (fun h2=>g1 ⟨h2.2.1,h2.2.2.1⟩) h⟩)
    (fun _=>by
     unfold A3A;rw [D3j (D3F _),D3f])
   by_cases h3: ∀i,i<l.length->A2P b (el l i)
   ·rw [H.2 fun i hi hn=>hn (h3 i hi),L7];exact ⟨hb,h2,h3⟩
   ·rw [H.1 (A0L h3),J3];exact fun h=>h3 h.2.2
  ·rw [J3 h2,J3 fun h=>h2 h.2.1];rfl
 ·have e:(decide (b<1)||decide (b>65536))=true:=by
   rw [D3x];simp;omega
  rw [e,J3 fun h=>hb h.1];rfl
theorem B6Q (l:List A6) (k b:Int) (hs:T5 l):A8X l k b=some (P4 (A7r l k b)):=by
 have hm:l.length<=maxLen:=by rw [F8];have:=hs.1;omega
 unfold A8X
 by_cases hb:1<=b/\b<=65536
 ·have e:(decide (b<1)||decide (b>65536))=false:=by simp;omega
  rw [e,C3O,B0b l hs.1];simp only [D3p,E4,D3c,D3D];rw [A8U _ _ (by rw [A0j];exact hm),D3c]
  by_cases h2:Z9 (plainB l) k
  ·rw [L7 h2,D3o,D3f];unfold B21;have H:=L2 (f:=fun s:Int=>A4h l b s) l.length (fun i=> ¬A2P b (el l i)) false (some true)
    (fun i hi _=>by
     unfold A4h;have hv:=B8M h2 hi;have hr:=hs.2 _ (J0 hi);rw [D3h (by omega:(i:Int)<(l.length:Int)),D3g,F4 hi,D3c,Q4 hi hm]
     generalize el l i=x at hv hr⊢
     have ew:decide (0<=G8 x.As)=true:=D3h (by rw [A1Q]<;>omega)
     simp only [A4J x.Aw hr,D3c,ew,Bool.or_true,O7,B8C hv.1 hv.2];have eb1:A2 (b+1)=b+1:=by rw [A7]<;>omega
     rw [eb1];cases hB:okB x.Aw with
     |false=>
      simp only [D3f,show ((2:Int) !=0)=true from rfl,D3W,D3o,E9,D3c,D3g];exact ⟨fun _=>trivial,fun h=>absurd (fun h2:A2P b x=>by have:=h2.1;rw [hB] at this;cases this) h⟩
     |true=>
      simp only [D3g,show ((0:Int) !=0)=false from rfl,D3D]
      by_cases g1:x.Aw.N=2^x.As.toNat/\(x.Aw.Ac.length:Int)<=b+1
      ·have e1:((x.Aw.N !=2^x.As.toNat)||decide ((x.Aw.Ac.length:Int)>b+1))=false:=by
        rw [g1.1,D3P,D3D];exact D3j (by omega)
       rw [e1];have h0:=B1U hB g1.1;have hm2:x.Aw.Ac.length<=maxLen:=by rw [F8];omega
       simp only [D3p,E4,D1e x.Aw hr,D3c,hB,D3g,(B76 hv hb).2,D3D,A21 h0,A2l h0 (D3U _) hm2,F4 (show x.Aw.Ac.length-1<x.Aw.Ac.length by omega)]
       by_cases g2:(-4096<=(el x.Aw.Ac 0).V/\(el x.Aw.Ac 0).V<=4096)/\(-4096<=(el x.Aw.Ac (x.Aw.Ac.length-1)).V/\(el x.Aw.Ac (x.Aw.Ac.length-1)).V<=4096)/\(el x.Aw.Ac 0).V<=x.Az/\x.Az<=(el x.Aw.Ac (x.Aw.Ac.length-1)).V
       ·have e2:((((!(F0 (el x.Aw.Ac 0).V))||(!(F0 (el x.Aw.Ac (x.Aw.Ac.length-1)).V)))||(decide (x.Az<(el x.Aw.Ac 0).V)))||(decide (x.Az>(el x.Aw.Ac (x.Aw.Ac.length-1)).V)))=false:=by
         rw [(Y7 _).2 g2.1,(Y7 _).2 g2.2.1,D3s];simp only [D3n,D3e,Ne,D3o,Bool.false_eq_true,or_false,false_or];omega
        rw [e2,D3f];simp only [D3p,E4,D3c,D3D];refine J6 ?_;unfold A2P;simp only [hB,g1,true_and,D3e];omega
       ·have e2:((((!(F0 (el x.Aw.Ac 0).V))||(!(F0 (el x.Aw.Ac (x.Aw.Ac.length-1)).V)))||(decide (x.Az<(el x.Aw.Ac 0).V)))||(decide (x.Az>(el x.Aw.Ac (x.Aw.Ac.length-1)).V)))=true:=by
         simp only [D3n,D3e,D3y];rw [D3s,D3s,Ne,Ne,Y7,Y7];omega
        rw [e2,D3f];simp only [D3o,E9,D3c,D3W,D3g];refine ⟨fun _=>trivial,fun h=>absurd (fun h2=>g2 ?_) h⟩;have:=h2.2.2.2;omega
      ·have e1:((x.Aw.N !=2^x.As.toNat)||decide ((x.Aw.Ac.length:Int)>b+1))=true:=by
        rw [D3n,bne_iff_ne,D3e]
        by_cases q:x.Aw.N=2^x.As.toNat
        ·right;have: ¬(x.Aw.Ac.length:Int)<=b+1:=fun h=>g1 ⟨q,h⟩;omega
        ·exact .inl q
       rw [e1,D3g];exact ⟨fun _=>rfl,fun h=>absurd (fun h2=>g1 ⟨h2.2.1,h2.2.2.1⟩) h⟩)
    (fun _=>by
     unfold A4h;rw [D3j (D3F _),D3f])
   by_cases h3: ∀i,i<l.length->A2P b (el l i)
   ·rw [H.2 fun i hi hn=>hn (h3 i hi),L7];exact ⟨hb,h2,h3⟩
   ·rw [H.1 (A0L h3),J3];exact fun h=>h3 h.2.2
  ·rw [J3 h2,J3 fun h=>h2 h.2.1];rfl
 ·have e:(decide (b<1)||decide (b>65536))=true:=by
   rw [D3x];simp;omega
  rw [e,J3 fun h=>hb h.1];rfl
theorem A7h (l:List A6) (hs:T5 l):A2X l=some (A2 (I3 (plainB l)))/\A8W l=some (A2 (I3 (plainB l))):=by
 have hm:(plainB l).length<=maxLen:=by rw [F8,A0j];have:=hs.1;omega
 refine ⟨?_, ?_⟩
 ·unfold A2X;rw [B0b l hs.1,D3c,B0s,A33 _ hm];rfl
 ·unfold A8W;rw [C3O,B0b l hs.1,D3c,A33 _ hm];rfl
def B2i (x:B6):Prop:=A3c x.W x.K x.Cap x.Now/\(∀b,A1a x.K x.Cap=some b->A7r x.Ag (2*x.K) b)/\A2 (I3 (plainB x.Ag))<=x.Cap/\ ∀i,i<x.Ag.length->E0 x.Now x.W (el x.Ag i).T=true
theorem A5O (w k c n:Int):Y3 w k c n=true↔A3c w k c n:=by
 unfold Y3 A3c;simp;omega
theorem A5P (x:B6) (hs:T5 x.Ag):X7 x=some (vOf (B2i x)):=by
 have hm:x.Ag.length<=maxLen:=by rw [F8];have:=hs.1;omega
 unfold X7;simp only []
 by_cases h1:A3c x.W x.K x.Cap x.Now
 ·obtain ⟨b,b1,b2,b3⟩:=A8u (k:=x.K) (c:=x.Cap) h1.2.2.2 h1.2.1;have hk:=h1.2.2.2;rw [(A5O _ _ _ _).2 h1,b1,A7 (n:=2*x.K) (by omega) (by omega)]
  simp only [D3o,D3p,E4,D3c,D3D,B4D _ _ _ hs,(A7h _ hs).1]
  by_cases h2:A7r x.Ag (2*x.K) b
  ·rw [L7 h2];simp only [D3o,D3p,E4,D3c,D3D]
   by_cases h3:A2 (I3 (plainB x.Ag))<=x.Cap
   ·rw [D3j (by omega),D3f]
    unfold A7y;have H:=L2 (f:=fun s:Int=>A0M x s) x.Ag.length (fun i=> ¬E0 x.Now x.W (el x.Ag i).T=true) 2 (some 0)
     (fun i hi _=>by
      unfold A0M;rw [D3h (by omega:(i:Int)<(x.Ag.length:Int)),D3g,F4 hi,D3c,Q4 hi hm]
      refine J6 ?_;simp [A1V])
     (fun _=>by
      unfold A0M;rw [D3j (D3F _),D3f])
    by_cases h4: ∀i,i<x.Ag.length->E0 x.Now x.W (el x.Ag i).T=true
    ·rw [H.2 fun i hi hn=>hn (h4 i hi),K9];exact ⟨h1,fun b' hb' =>by rw [b2] at hb';cases hb';exact h2,h3,h4⟩
    ·rw [H.1 (A0L h4),H8];exact fun h=>h4 h.2.2.2
   ·rw [D3h (by omega),D3g,H8]
    exact fun h=>h3 h.2.2.1
  ·rw [J3 h2];simp only [D3o,D3p,E9,D3c,D3W,D3g];rw [H8];exact fun h=>h2 (h.2.1 b b2)
 ·rw [D3s.2 fun h=>h1 ((A5O _ _ _ _).1 h),H8 fun h=>h1 h.1]
  rfl
theorem B95 (x:B6) (hs:T5 x.Ag):A8r x=some (vOf (B2i x)):=by
 have hm:x.Ag.length<=maxLen:=by rw [F8];have:=hs.1;omega
 unfold A8r;simp only []
 by_cases h1:A3c x.W x.K x.Cap x.Now
 ·obtain ⟨b,b1,b2,b3⟩:=A8u (k:=x.K) (c:=x.Cap) h1.2.2.2 h1.2.1;have hk:=h1.2.2.2;rw [(R2 _ _ _).2 ⟨h1.1,h1.2.1,h1.2.2.1⟩,(O5 _).2 hk,b2,A7 (n:=2*x.K) (by omega) (by omega)]
  simp only [D3o,D3p,E4,D3c,Bool.or_false,D3D,B6Q _ _ _ hs,(A7h _ hs).2]
  by_cases h2:A7r x.Ag (2*x.K) b
  ·rw [L7 h2];simp only [D3o,D3p,E4,D3c,D3D]
   by_cases h3:A2 (I3 (plainB x.Ag))<=x.Cap
   ·rw [D3j (by omega),D3f]
    unfold A90;have H:=L2 (f:=fun s:Int=>A2y x s) x.Ag.length (fun i=> ¬E0 x.Now x.W (el x.Ag i).T=true) 2 (some 0)
     (fun i hi _=>by
      unfold A2y;rw [D3h (by omega:(i:Int)<(x.Ag.length:Int)),D3g,F4 hi,D3c,Q4 hi hm]
      refine J6 ?_;simp)
     (fun _=>by
      unfold A2y;rw [D3j (D3F _),D3f])
    by_cases h4: ∀i,i<x.Ag.length->E0 x.Now x.W (el x.Ag i).T=true
    ·rw [H.2 fun i hi hn=>hn (h4 i hi),K9];exact ⟨h1,fun b' hb' =>by rw [b2] at hb';cases hb';exact h2,h3,h4⟩
    ·rw [H.1 (A0L h4),H8];exact fun h=>h4 h.2.2.2
   ·rw [D3h (by omega),D3g,H8]
    exact fun h=>h3 h.2.2.1
  ·rw [J3 h2];simp only [D3o,D3p,E9,D3c,D3W,D3g];rw [H8];exact fun h=>h2 (h.2.1 b b2)
 ·have e1:(!H1 x.W x.Cap x.Now|| !G7 x.K)=true:=by
   rw [D3n,D3y,D3y,D3s,D3s,Ne,Ne,R2,O5];unfold A3c at h1;omega
  rw [e1,H8 fun h=>h1 h.1]
  rfl
theorem C38 (r:C8) (hl:r.Ac.length<=maxLen):B0k r r=some true:=by
 unfold B0k;simp only [D3P,Bool.or_false,D3f];unfold B4h;refine (L2 (f:=fun s:Int=>A5w r r s) r.Ac.length (fun _=>False) false (some true) (fun i hi _=>⟨fun h=>h.elim,fun _=> ?_⟩) (fun _=> ?_)).2 fun _ _ h=>h
 ·unfold A5w;rw [D3h (by omega:(i:Int)<(r.Ac.length:Int)),D3g,F4 hi]
  simp [Q4 hi hl]
 ·unfold A5w;rw [D3j (D3F _),D3f]
theorem D0z (l:List A6) (hl:l.length<=maxLen) (he:∀x∈l,x.Aw.Ac.length<=maxLen):A5x l l=some true:=by
 unfold A5x;rw [D3P,D3f];unfold A9C;refine (L2 (f:=fun s:Int=>A3k l l s) l.length (fun _=>False) false (some true) (fun i hi _=>⟨fun h=>h.elim,fun _=> ?_⟩) (fun _=> ?_)).2 fun _ _ h=>h
 ·unfold A3k;rw [D3h (by omega:(i:Int)<(l.length:Int)),D3g,F4 hi]
  simp [Q4 hi hl,C38 _ (he _ (J0 hi))]
 ·unfold A3k;rw [D3j (D3F _),D3f]
theorem B62 (x:B6) (hl:x.Ag.length<=maxLen) (he:∀b∈x.Ag,b.Aw.Ac.length<=maxLen):A5y x x=some true:=by
 unfold A5y;simp [D0z _ hl he]
end Go.Win
namespace Go.Win
open Go.Vc Go.Dec
theorem H0 {α:Type} {l:List α} (h:l.length<=1048576):l.length<=maxLen:=by rw [F8];omega
theorem C97 {l:List C5} (h:∀y∈l,B5S y): ∀w∈l,Q0 w:=fun w hw=>⟨(B9g (h w hw).1).1,(B9g (h w hw).1).2,(B9g (h w hw).2).1,(B9g (h w hw).2).2⟩
theorem D1q (p:Prop):(vOf p==0)=P4 p:=by
 by_cases h:p
 ·rw [K9 h,L7 h];rfl
 ·rw [H8 h,J3 h];rfl
theorem B6Y (x:E3) (hl:x.Bc.length<=maxLen):A5p x x=some true:=by
 unfold A5p;simp [C3F _ hl]
theorem B0w {α:Type} (l:List α):((l.length:Int) !=(([]:List α).length:Int))= !P4 (l.length=0):=by
 by_cases h:l.length=0
 ·rw [L7 h,h];rfl
 ·rw [J3 h];show ((l.length:Int) !=0)=true;rw [bne_iff_ne];omega
theorem A7U (l:List A9):X1 l []=some (P4 (l.length=0)):=by
 unfold X1;rw [B0w]
 by_cases h:l.length=0
 ·rw [L7 h,D3o,D3f];unfold A2p;refine G9 ?_;unfold A1K;rw [h];rfl
 ·rw [J3 h];rfl
theorem B2X (l:List A3):A3J l []=some (P4 (l.length=0)):=by
 unfold A3J;rw [B0w]
 by_cases h:l.length=0
 ·rw [L7 h,D3o,D3f];unfold A9w;refine G9 ?_;unfold A3g;rw [h];rfl
 ·rw [J3 h];rfl
theorem A7V (l:List A4):X2 l []=some (P4 (l.length=0)):=by
 unfold X2;rw [B0w]
 by_cases h:l.length=0
 ·rw [L7 h,D3o,D3f];unfold A4F;refine G9 ?_;unfold Z2;rw [h];rfl
 ·rw [J3 h];rfl
theorem B5s (l:List C5):A1s l []=some (P4 (l.length=0)):=by
 unfold A1s;rw [B0w]
 by_cases h:l.length=0
 ·rw [L7 h,D3o,D3f];unfold A5Q;refine G9 ?_;unfold A0t;rw [h];rfl
 ·rw [J3 h];rfl
theorem B2W (l:List Int):X8 l []=some (P4 (l.length=0)):=by
 unfold X8;rw [B0w]
 by_cases h:l.length=0
 ·rw [L7 h,D3o,D3f];unfold A07;refine G9 ?_;unfold A0N;rw [h];rfl
 ·rw [J3 h];rfl
theorem B94 (l:List A6):A5x l []=some (P4 (l.length=0)):=by
 unfold A5x;rw [B0w]
 by_cases h:l.length=0
 ·rw [L7 h,D3o,D3f];unfold A9C;refine G9 ?_;unfold A3k;rw [h];rfl
 ·rw [J3 h];rfl
theorem A3Z {α:Type} [Inhabited α] (g:Bool) (v:α):gd g (some v)=some (cond g v default):=by cases g<;>rfl
theorem A2C (g v d:Bool):(g&&cond g v d)=(g&&v):=by cases g<;>rfl
def A8A (x:C4):Prop:=x.W=0/\x.Cap=0/\x.Now=0/\x.Ar.length=0
theorem C7p (x:C4):A5f x ⟨0,0,0, []⟩=some (P4 (A8A x)):=by
 unfold A5f;rw [A7U];simp only [A3Z,D3c,A2C]
 congr 1
 rw [D3x,H2];unfold A8A;simp only [D3k,D36,H2,and_assoc]
def B0C (x:D2):Prop:=x.W=0/\x.K=0/\x.Cap=0/\x.Now=0/\x.Ab.length=0
theorem C81 (x:D2):A5i x ⟨0,0,0,0, []⟩=some (P4 (B0C x)):=by
 unfold A5i;rw [B2X];simp only [A3Z,D3c,A2C]
 congr 1
 rw [D3x,H2];unfold B0C;simp only [D3k,D36,H2,and_assoc]
def B6j (x:D8):Prop:=x.W=0/\x.K=0/\x.Cap=0/\x.Be=0/\x.Now=0/\x.Ab.length=0
theorem D1u (x:D8):A5j x ⟨0,0,0,0,0, []⟩=some (P4 (B6j x)):=by
 unfold A5j;rw [B2X];simp only [A3Z,D3c,A2C]
 congr 1
 rw [D3x,H2];unfold B6j;simp only [D3k,D36,H2,and_assoc]
def A8B (x:B9):Prop:=x.Bd=0/\x.W=0/\x.K=0/\x.Cap=0/\x.Now=0/\x.Bg=0/\x.Av.length=0
theorem C7r (x:B9):A5m x ⟨0,0,0,0,0,0, []⟩=some (P4 (A8B x)):=by
 unfold A5m;rw [A7V];simp only [A3Z,D3c,A2C]
 congr 1
 rw [D3x,H2];unfold A8B;simp only [D3k,D36,H2,and_assoc]
def A8C (x:C2):Prop:=x.W=0/\x.K=0/\x.Cap=0/\x.Now=0/\x.Bg=0/\x.Av.length=0
theorem C7s (x:C2):A5n x ⟨0,0,0,0,0, []⟩=some (P4 (A8C x)):=by
 unfold A5n;rw [A7V];simp only [A3Z,D3c,A2C]
 congr 1
 rw [D3x,H2];unfold A8C;simp only [D3k,D36,H2,and_assoc]
def B3d (x:D3):Prop:=x.P=0/\x.Ay=0/\x.Now=0/\x.Ae.length=0
theorem C98 (x:D3):A5o x ⟨0,0,0, []⟩=some (P4 (B3d x)):=by
 unfold A5o;rw [B5s];simp only [A3Z,D3c,A2C]
 congr 1
 rw [D3x,H2];unfold B3d;simp only [D3k,D36,H2,and_assoc]
def B0D (x:E3):Prop:=x.Now=0/\x.Bc.length=0
theorem C82 (x:E3):A5p x ⟨0, []⟩=some (P4 (B0D x)):=by
 unfold A5p;rw [B2W];simp only [A3Z,D3c,A2C]
 congr 1
 rw [D3x,H2];unfold B0D;simp only [D3k,D36,H2,and_assoc]
def A7d (x:B4):Prop:=x.Be=false/\x.W=0/\x.Cap=0/\x.Now=0/\x.Ar.length=0
theorem C5k (x:B4):A5q x ⟨false,0,0,0, []⟩=some (P4 (A7d x)):=by
 unfold A5q;rw [A7U];simp only [A3Z,D3c,A2C]
 congr 1
 rw [D3x,H2];unfold A7d;simp only [D3k,D36,H2,and_assoc]
def A4Q (x:D6):Prop:=x.Ah.length=0
theorem C7q (x:D6):A5s x ⟨[]⟩=some (P4 (A4Q x)):=by
 unfold A5s
 by_cases h:A4Q x
 ·have h' :=h;unfold A4Q at h';rw [L7 h];have e:((x.Ah.length:Int) !=(([]:List A5).length:Int))=false:=by simp [h']
  rw [e,D3f];unfold A6u;refine G9 ?_;unfold A5t;rw [h'];rfl
 ·rw [J3 h];have e:((x.Ah.length:Int) !=(([]:List A5).length:Int))=true:=by
   unfold A4Q at h;rw [D3x];simp only [D3n,bne_iff_ne,D3I,iff_true,Int.natCast_zero,ne_eq];omega
  rw [e,D3g]
def A3y (x:B7):Prop:=x.K=0/\x.Cap=0/\x.N=0/\x.Ao.length=0
theorem C5l (x:B7):A5v x ⟨0,0,0, []⟩=some (P4 (A3y x)):=by
 unfold A5v
 by_cases h:A3y x
 ·have h' :=h;unfold A3y at h';rw [L7 h];have e:((((x.K !=0)||(x.Cap !=0))||(x.N !=0))||((x.Ao.length:Int) !=(([]:List D4).length:Int)))=false:=by simp [h']
  rw [e,D3f];unfold A9A;refine G9 ?_;unfold A3j;rw [h'.2.2.2];rfl
 ·rw [J3 h];have e:((((x.K !=0)||(x.Cap !=0))||(x.N !=0))||((x.Ao.length:Int) !=(([]:List D4).length:Int)))=true:=by
   unfold A3y at h;rw [D3x];simp only [D3n,bne_iff_ne,D3I,iff_true,Int.natCast_zero,ne_eq];omega
  rw [e,D3g]
def A5F (x:B6):Prop:=x.W=0/\x.K=0/\x.Cap=0/\x.Now=0/\x.Ag.length=0
theorem C4B (x:B6):A5y x ⟨0,0,0,0, []⟩=some (P4 (A5F x)):=by
 unfold A5y;rw [B94];simp only [A3Z,D3c,A2C]
 congr 1
 rw [D3x,H2];unfold A5F;simp only [D3k,D36,H2,and_assoc]
theorem A0T (s:B3):O0 s=⟨s.Ai,if s.Ai.Ax=1 then s.Aj else ⟨0,0,0, []⟩,if s.Ai.Ax=2 then s.Ap else ⟨0,0,0,0, []⟩,if s.Ai.Ax=3 then s.Sum else ⟨0,0,0,0,0, []⟩,if s.Ai.Ax=4 then s.Al else ⟨0,0,0,0,0,0, []⟩,if s.Ai.Ax=5 then s.Am else ⟨0,0,0,0,0, []⟩,if s.Ai.Ax=6 then s.Bb else ⟨0,0,0, []⟩,if s.Ai.Ax=7 then s.Aq else ⟨0, []⟩,if s.Ai.Ax=8 then s.Ad else ⟨false,0,0,0, []⟩,if s.Ai.Ax=9 then s.Ak else ⟨[]⟩,if s.Ai.Ax=10 then s.Af else ⟨0,0,0, []⟩,if s.Ai.Ax=11 then s.Aa else ⟨0,0,0,0, []⟩⟩:=by
 unfold O0 N3
 by_cases hk:1<=s.Ai.Ax/\s.Ai.Ax<=11
 ·have:s.Ai.Ax=1\/s.Ai.Ax=2\/s.Ai.Ax=3\/s.Ai.Ax=4\/s.Ai.Ax=5\/s.Ai.Ax=6\/s.Ai.Ax=7\/s.Ai.Ax=8\/s.Ai.Ax=9\/s.Ai.Ax=10\/s.Ai.Ax=11:=by omega
  rcases this with h|h|h|h|h|h|h|h|h|h|h
  all_goals
   rw [h];simp only [Int.reduceBEq,beq_self_eq_true,D3g,D3f,Int.reduceEq,if_true,if_false]
 ·have e: ∀j:Int,1<=j->j<=11->(s.Ai.Ax==j)=false:=fun j h1 h2=>D32.2 (by omega)
  have e2: ∀j:Int,1<=j->j<=11-> ¬s.Ai.Ax=j:=fun j h1 h2=>by omega
  rw [e 1 (by decide) (by decide),e 2 (by decide) (by decide),e 3 (by decide) (by decide),e 4 (by decide) (by decide),e 5 (by decide) (by decide),e 6 (by decide) (by decide),e 7 (by decide) (by decide),e 8 (by decide) (by decide),e 9 (by decide) (by decide),e 10 (by decide) (by decide),e 11 (by decide) (by decide),if_neg (e2 1 (by decide) (by decide)),if_neg (e2 2 (by decide) (by decide)),if_neg (e2 3 (by decide) (by decide)),if_neg (e2 4 (by decide) (by decide)),if_neg (e2 5 (by decide) (by decide)),if_neg (e2 6 (by decide) (by decide)),if_neg (e2 7 (by decide) (by decide)),if_neg (e2 8 (by decide) (by decide)),if_neg (e2 9 (by decide) (by decide)),if_neg (e2 10 (by decide) (by decide)),if_neg (e2 11 (by decide) (by decide))]
  rfl
theorem C4D (s:B3):(O0 s).Ai=s.Ai:=by rw [A0T]
theorem C4E (s:B3):(O0 s).Aj=if s.Ai.Ax=1 then s.Aj else ⟨0,0,0, []⟩:=by rw [A0T]
theorem C6h (s:B3):(O0 s).Ap=if s.Ai.Ax=2 then s.Ap else ⟨0,0,0,0, []⟩:=by rw [A0T]
theorem C86 (s:B3):(O0 s).Sum=if s.Ai.Ax=3 then s.Sum else ⟨0,0,0,0,0, []⟩:=by rw [A0T]
theorem C4G (s:B3):(O0 s).Al=if s.Ai.Ax=4 then s.Al else ⟨0,0,0,0,0,0, []⟩:=by rw [A0T]
theorem C4H (s:B3):(O0 s).Am=if s.Ai.Ax=5 then s.Am else ⟨0,0,0,0,0, []⟩:=by rw [A0T]
theorem C7v (s:B3):(O0 s).Bb=if s.Ai.Ax=6 then s.Bb else ⟨0,0,0, []⟩:=by rw [A0T]
theorem C6i (s:B3):(O0 s).Aq=if s.Ai.Ax=7 then s.Aq else ⟨0, []⟩:=by rw [A0T]
theorem C2c (s:B3):(O0 s).Ad=if s.Ai.Ax=8 then s.Ad else ⟨false,0,0,0, []⟩:=by rw [A0T]
theorem C4F (s:B3):(O0 s).Ak=if s.Ai.Ax=9 then s.Ak else ⟨[]⟩:=by rw [A0T]
theorem C2d (s:B3):(O0 s).Af=if s.Ai.Ax=10 then s.Af else ⟨0,0,0, []⟩:=by rw [A0T]
theorem C1l (s:B3):(O0 s).Aa=if s.Ai.Ax=11 then s.Aa else ⟨0,0,0,0, []⟩:=by rw [A0T]
def A8c (s:B3):Prop:=(s.Ai.Ax≠1->A8A s.Aj)/\(s.Ai.Ax≠2->B0C s.Ap)/\(s.Ai.Ax≠3->B6j s.Sum)/\(s.Ai.Ax≠4->A8B s.Al)/\(s.Ai.Ax≠5->A8C s.Am)/\(s.Ai.Ax≠6->B3d s.Bb)/\(s.Ai.Ax≠7->B0D s.Aq)/\(s.Ai.Ax≠8->A7d s.Ad)/\(s.Ai.Ax≠9->A4Q s.Ak)/\(s.Ai.Ax≠10->A3y s.Af)/\(s.Ai.Ax≠11->A5F s.Aa)
theorem A3m {α:Type} {Same:α->α->Option Bool} {x z:α} {zr:Prop} {k j:Int} (hr:Same x x=some true) (hz:Same x z=some (P4 zr)):Same x (if k=j then x else z)=some (P4 (k≠j->zr)):=by
 by_cases h:k=j
 ·rw [if_pos h,hr,L7 fun h2=>absurd h h2]
 ·rw [if_neg h,hz]
  congr 1
  rw [D3x,H2,H2];exact ⟨fun h2 _=>h2,fun h2=>h2 h⟩
def B9N (s:B3):Prop:=s.Aj.Ar.length<=1048576/\s.Ap.Ab.length<=1048576/\s.Sum.Ab.length<=1048576/\s.Al.Av.length<=1048576/\s.Am.Av.length<=1048576/\(s.Bb.Ae.length<=1048576/\ ∀w∈s.Bb.Ae,Q0 w)/\s.Aq.Bc.length<=1048576/\s.Ad.Ar.length<=1048576/\
 (s.Ak.Ah.length<=1048576/\ ∀c∈s.Ak.Ah,c.Au.length<=1048576)/\s.Af.Ao.length<=1048576/\T5 s.Aa.Ag
theorem D01 {s:B3} (w:A6T s):B9N s:=by
 obtain ⟨_,w1,w2,w3,w4,w5,w6,w7,w8,w9,w10,w11⟩:=w;exact ⟨w1.2.2.2.1,w2.2.2.2.2.1,w3.2.2.2.2.2.1,w4.2.2.2.2.2.2.1,w5.2.2.2.2.2.1,⟨w6.2.2.2.1,C97 w6.2.2.2.2⟩,w7.2.1,w8.2.2.2.2.1,⟨w9.1,fun c hc=>(w9.2 c hc).2.2.2.2.1⟩,w10.2.2.2.1,⟨w11.2.2.2.2.1,fun b hb=>(w11.2.2.2.2.2 b hb).2.2.2.2.1⟩⟩
theorem C7d (s:B3) (w:B9N s):A2z s (O0 s)=some (P4 (A8c s)):=by
 obtain ⟨w1,w2,w3,w4,w5,w6,w7,w8,w9,w10,w11⟩:=w;have e1:=A3m (k:=s.Ai.Ax) (j:=1) (B89 s.Aj (H0 w1)) (C7p s.Aj);have e2:=A3m (k:=s.Ai.Ax) (j:=2) (B6T s.Ap (H0 w2)) (C81 s.Ap);have e3:=A3m (k:=s.Ai.Ax) (j:=3) (B6U s.Sum (H0 w3)) (D1u s.Sum);have e4:=A3m (k:=s.Ai.Ax) (j:=4) (B6V s.Al (H0 w4)) (C7r s.Al);have e5:=A3m (k:=s.Ai.Ax) (j:=5) (B6W s.Am (H0 w5)) (C7s s.Am);have e6:=A3m (k:=s.Ai.Ax) (j:=6) (B6X s.Bb (H0 w6.1)) (C98 s.Bb);have e7:=A3m (k:=s.Ai.Ax) (j:=7) (B6Y s.Aq (H0 w7)) (C82 s.Aq);have e8:=A3m (k:=s.Ai.Ax) (j:=8) (B6Z s.Ad (H0 w8)) (C5k s.Ad);have e9:=A3m (k:=s.Ai.Ax) (j:=9) (B60 s.Ak (H0 w9.1) (fun c hc=>H0 (w9.2 c hc))) (C7q s.Ak);have e10:=A3m (k:=s.Ai.Ax) (j:=10) (B61 s.Af (H0 w10)) (C5l s.Af);have e11:=A3m (k:=s.Ai.Ax) (j:=11) (B62 s.Aa (H0 w11.1) (fun b hb=>H0 (w11.2 b hb))) (C4B s.Aa);unfold A2z;rw [C4D,C4E,e1,C6h,e2,C86,e3,C4G,e4,C4H,e5,C7v,e6,C6i,e7,C2c,e8,C4F,e9,C2d,e10,C1l,e11];simp only [beq_self_eq_true,D3N,A3Z,D3g,D3c,A2C]
 congr 1
 rw [D3x,H2];unfold A8c;simp only [D3k,H2,and_assoc]
theorem C8z (s:B3):A4k s=P4 (A8c s):=by
 unfold A4k;rw [D3x,H2];unfold A8c;unfold A8A;unfold B0C;unfold B6j;unfold A8B;unfold A8C;unfold B3d;unfold B0D;unfold A7d;unfold A4Q;unfold A3y;unfold A5F;simp only [C9b,D3k,D3n,bne_iff_ne,D36,D3e,ne_eq];have fin: ∀ {c:Prop} [Decidable c] {b:Bool},((if c then false else b)=true)↔(¬c/\b=true):=by
  intro c _ b
  by_cases h:c
  ·rw [if_pos h];exact ⟨fun h2=>(by cases h2),fun h2=>absurd h h2.1⟩
  ·rw [if_neg h];exact ⟨fun h2=>⟨h,h2⟩,fun h2=>h2.2⟩
 simp only [fin,D3n,D3k,D36];cases s.Ad.Be
 ·simp only [Bool.false_eq_true,false_or,true_and]
  repeat' apply and_congr
  all_goals first|omega|(simp;done)|(simp;omega)
 ·simp only [true_or,Bool.true_eq_false,false_and]
  repeat' apply and_congr
  all_goals first|omega|(simp;done)|(simp;omega)
def B5i (x:D6):Prop:=M0 x=some 0
theorem C7e (x:D6) (hl:x.Ah.length<=maxLen) (hc:∀c∈x.Ah,c.Au.length<=maxLen): ∃r,M0 x=some r/\A5u x=some r/\(r==0)=P4 (B5i x)/\(r=0->0<x.Ah.length):=by
 obtain ⟨r,h1,h2⟩:=B7U x hl hc;refine ⟨r,h1,by rw [<-C1K x hc];exact h1, ?_,fun h=>by have:=(h2 h).1;omega⟩
 rw [D3x,H2,D36];unfold B5i;rw [h1];simp
theorem C67 (x:C4) (hl:x.Ar.length<=maxLen):X0 x=some (vOf (okV x=true))/\A0b x=some (vOf (okV x=true)):=by
 have h:A0b x=some (vOf (okV x=true)):=by
  rw [A8x x hl]
  by_cases h:okV x=true
  ·rw [if_pos h,K9 h]
  ·rw [if_neg h,H8 h]
 exact ⟨by rw [B1p];exact h,h⟩
def A0u (s:B3):Prop:=
 (s.Ai.Ax=1/\okV s.Aj=true/\s.Aj.W=s.Ai.W/\s.Aj.Cap=s.Ai.Cap)\/
 (s.Ai.Ax=2/\A03 s.Ap.Ab s.Ap.W s.Ap.K s.Ap.Cap s.Ap.Now/\s.Ap.W=s.Ai.W/\s.Ap.K=s.Ai.K/\s.Ap.Cap=s.Ai.Cap)\/
 (s.Ai.Ax=3/\B1Q s.Sum/\s.Sum.W=s.Ai.W/\s.Sum.K=s.Ai.K/\s.Sum.Cap=s.Ai.Cap/\s.Sum.Be=s.Ai.Be)\/
 (s.Ai.Ax=4/\A7t s.Al/\s.Al.W=s.Ai.W/\s.Al.K=s.Ai.K/\s.Al.Cap=s.Ai.Cap/\s.Al.Bd=s.Ai.Bd)\/
 (s.Ai.Ax=5/\B02 s.Am/\s.Am.W=s.Ai.W/\s.Am.K=s.Ai.K/\s.Am.Cap=s.Ai.Cap)\/
 (s.Ai.Ax=6/\B3K s.Bb/\s.Bb.P=s.Ai.P)\/
 (s.Ai.Ax=7/\B3J s.Aq/\(s.Aq.Bc.length:Int)=s.Ai.W)\/
 (s.Ai.Ax=8/\A7s s.Ad/\s.Ad.W=s.Ai.W/\s.Ad.Cap=s.Ai.Cap/\s.Ad.Be=(s.Ai.Be==1))\/
 (s.Ai.Ax=9/\B5i s.Ak/\(s.Ak.Ah.length:Int)=s.Ai.Ah/\(el s.Ak.Ah 0).W=s.Ai.W/\(el s.Ak.Ah 0).Cap=s.Ai.Cap)\/
 (s.Ai.Ax=10/\A9s s.Af/\s.Af.K=s.Ai.K/\s.Af.Cap=s.Ai.Cap)\/
 (s.Ai.Ax=11/\B2i s.Aa/\s.Aa.W=s.Ai.W/\s.Aa.K=s.Ai.K/\s.Aa.Cap=s.Ai.Cap)
theorem C7c (s:B3) (w:B9N s) (hk:1<=s.Ai.Ax/\s.Ai.Ax<=11):A5E s=some (P4 (A0u s))/\B3R s=some (P4 (A0u s)):=by
 obtain ⟨w1,w2,w3,w4,w5,w6,w7,w8,w9,w10,w11⟩:=w;have e1:=C67 s.Aj (H0 w1);have e2:=A72 s.Ap (H0 w2);have e2' :=B9V s.Ap (H0 w2);have e3:=B1m s.Sum (H0 w3);have e3' :=B9W s.Sum (H0 w3);have e4:=A7I s.Al (H0 w4);have e4' :=B9X s.Al (H0 w4);have e5:=A7L s.Am (H0 w5);have e5' :=B9Y s.Am (H0 w5);have e6:=A9t s.Bb (w6.2);have e6' :=B9Z s.Bb (w6.2);have e7:=A77 s.Aq (H0 w7);have e7' :=B90 s.Aq (H0 w7);have e8:=A6J s.Ad (H0 w8);have e8' :=B91 s.Ad (H0 w8);obtain ⟨r9,e9,e9',b9,p9⟩:=C7e s.Ak (H0 w9.1) (fun c hc=>H0 (w9.2 c hc));have e10:=B1n s.Af;have e10' :=B92 s.Af;have hb:T5 s.Aa.Ag:=w11;have e11:=A5P s.Aa hb;have e11' :=B95 s.Aa hb;have e: ∀j:Int,s.Ai.Ax≠j->(s.Ai.Ax==j)=false:=fun j h=>D32.2 h;unfold A0u A5E B3R;rw [e1.1,e1.2,e2,e2',e3,e3',e4,e4',e5,e5',e6,e6',e7,e7',e8,e8',e9,e9',e10,e10',e11,e11'];have:s.Ai.Ax=1\/s.Ai.Ax=2\/s.Ai.Ax=3\/s.Ai.Ax=4\/s.Ai.Ax=5\/s.Ai.Ax=6\/s.Ai.Ax=7\/s.Ai.Ax=8\/s.Ai.Ax=9\/s.Ai.Ax=10\/s.Ai.Ax=11:=by omega
 rcases this with h|h|h|h|h|h|h|h|h|h|h
 all_goals rw [h]
 case inr.inr.inr.inr.inr.inr.inr.inr.inl=>
  simp only [Int.reduceBEq,beq_self_eq_true,D3g,D3f,D3c,b9,Int.reduceEq,false_and,false_or,or_false,true_and]
  by_cases q1:B5i s.Ak/\(s.Ak.Ah.length:Int)=s.Ai.Ah
  ·have h0:0<s.Ak.Ah.length:=p9 (by have:=L7 q1.1;rw [<-b9,D36] at this;exact this)
   have g:(P4 (B5i s.Ak)&&((s.Ak.Ah.length:Int)==s.Ai.Ah))=true:=by
    rw [D3k,H2,D36];exact q1
   rw [g,A21 h0];simp only [E4,D3c,D3N];have fin:some (((el s.Ak.Ah 0).W==s.Ai.W)&&((el s.Ak.Ah 0).Cap==s.Ai.Cap))=some (P4 (B5i s.Ak/\(s.Ak.Ah.length:Int)=s.Ai.Ah/\(el s.Ak.Ah 0).W=s.Ai.W/\(el s.Ak.Ah 0).Cap=s.Ai.Cap)):=by
    congr 1
    rw [D3x,H2,D3k,D36,D36];exact ⟨fun h=>⟨q1.1,q1.2,h.1,h.2⟩,fun h=>⟨h.2.2.1,h.2.2.2⟩⟩
   rw [<-fin];cases ((el s.Ak.Ah 0).W==s.Ai.W)<;>exact ⟨rfl,rfl⟩
  ·have g:(P4 (B5i s.Ak)&&((s.Ak.Ah.length:Int)==s.Ai.Ah))=false:=by
    rw [D3s,Ne,D3k,H2,D36];exact q1
   rw [g];simp only [E9,D3c,D3H];rw [J3 fun h=>q1 ⟨h.1,h.2.1⟩];exact ⟨rfl,rfl⟩
 all_goals
  simp only [Int.reduceBEq,beq_self_eq_true,D3g,D3f,D3c,D1q,Int.reduceEq,false_and,false_or,or_false,true_and];constructor<;>congr 1<;>rw [D3x,H2]<;>simp only [D3k,H2,D36]<;>grind
def B9S (s:B3):Prop:=V1 s.Ai/\A0u s/\A8c s
theorem A9k (s:B3) (w:B9N s):M6 s=some (vOf (B9S s))/\A8s s=some (vOf (B9S s)):=by
 unfold M6 A8s;simp only [];rw [B1K,N2,C8z,C7d s w]
 by_cases h1:V1 s.Ai
 ·obtain ⟨g1,g2⟩:=C7c s w h1.1;rw [A4l h1,g1,g2]
  by_cases h2:A0u s
  ·rw [L7 h2]
   by_cases h3:A8c s
   ·rw [L7 h3,K9 ⟨h1,h2,h3⟩];exact ⟨rfl,rfl⟩
   ·rw [J3 h3,H8 fun h=>h3 h.2.2];exact ⟨rfl,rfl⟩
  ·rw [J3 h2,H8 fun h=>h2 h.2.1];exact ⟨rfl,rfl⟩
 ·rw [C15 h1,H8 fun h=>h1 h.1];exact ⟨rfl,rfl⟩
theorem B6p (s:B3) (w:A6T s):M6 s=some (vOf (B9S s))/\A8s s=some (vOf (B9S s)):=A9k s (D01 w)
end Go.Win
namespace Go.Win
open Go.Vc Go.Dec
def B6i:B3:=⟨⟨0,0,0,0,0,0,0,0⟩,⟨0,0,0, []⟩,⟨0,0,0,0, []⟩,⟨0,0,0,0,0, []⟩,⟨0,0,0,0,0,0, []⟩,⟨0,0,0,0,0, []⟩,⟨0,0,0, []⟩,⟨0, []⟩,⟨false,0,0,0, []⟩,⟨[]⟩,⟨0,0,0, []⟩,⟨0,0,0,0, []⟩⟩
def T3 (c:C9) (now:Int):B3:=⟨c,if c.Ax=1 then ⟨c.W,c.Cap,now, []⟩ else ⟨0,0,0, []⟩,
 if c.Ax=2 then ⟨c.W,c.K,c.Cap,now, []⟩ else ⟨0,0,0,0, []⟩,
 if c.Ax=3 then ⟨c.W,c.K,c.Cap,c.Be,now, []⟩ else ⟨0,0,0,0,0, []⟩,
 if c.Ax=4 then ⟨c.Bd,c.W,c.K,c.Cap,now,0, []⟩ else ⟨0,0,0,0,0,0, []⟩,
 if c.Ax=5 then ⟨c.W,c.K,c.Cap,now,0, []⟩ else ⟨0,0,0,0,0, []⟩,
 if c.Ax=6 then ⟨c.P,now,now,List.replicate (c.P+1).toNat ⟨0,0⟩⟩ else ⟨0,0,0, []⟩,
 if c.Ax=7 then ⟨now,List.replicate c.W.toNat 0⟩ else ⟨0, []⟩,
 if c.Ax=8 then ⟨c.Be==1,c.W,c.Cap,now, []⟩ else ⟨false,0,0,0, []⟩,
 if c.Ax=9 then ⟨List.replicate c.Ah.toNat ⟨c.W,c.Cap,0,0, []⟩⟩ else ⟨[]⟩,
 if c.Ax=10 then ⟨c.K,c.Cap,0, []⟩ else ⟨0,0,0, []⟩,
 if c.Ax=11 then ⟨c.W,c.K,c.Cap,now, []⟩ else ⟨0,0,0,0, []⟩⟩
theorem C6V {w c n:Int} (h1:1<=w/\w<=1048576) (h2:1<=c/\c<=65536) (h3:0<=n/\n<=16777216):A5d w c n=(⟨w,c,n, []⟩,0)/\B5l w c n=(⟨w,c,n, []⟩,0):=by
 unfold A5d B5l;simp only [C5D,(R2 w c n).2 ⟨h1,h2,h3⟩];exact ⟨rfl,rfl⟩
theorem C8l {w k c n:Int} (h:A3c w k c n):A61 w k c n=(⟨w,k,c,n, []⟩,0)/\B5o w k c n=(⟨w,k,c,n, []⟩,0):=by
 unfold A61 B5o;simp only [(A71 w k c n).2 h,(R2 w c n).2 ⟨h.1,h.2.1,h.2.2.1⟩,(O5 k).2 h.2.2.2];exact ⟨rfl,rfl⟩
theorem D07 {w k c m n:Int} (h:A3c w k c n) (hm:1<=m/\m<=1024):B0A w k c m n=(⟨w,k,c,m,n, []⟩,0)/\B5p w k c m n=(⟨w,k,c,m,n, []⟩,0):=by
 unfold B0A B5p;have e:A3h m=true:=by unfold A3h;simp;exact hm
 simp only [(B1l w k c m n).2 ⟨h,hm⟩,(R2 w c n).2 ⟨h.1,h.2.1,h.2.2.1⟩,(O5 k).2 h.2.2.2,e];exact ⟨rfl,rfl⟩
theorem C6X {a w k c n:Int} (h:A3c w k c n) (ha:1<=a/\a<=4):A5B a w k c n=(⟨a,w,k,c,n,0, []⟩,0)/\B5q a w k c n=(⟨a,w,k,c,n,0, []⟩,0):=by
 unfold A5B B5q;have e:N6 a=true:=by unfold N6;simp;exact ha
 have e1:A0l a w k c n=true:=by
  unfold A0l;simp only [(B2P _ _ _ _).2 h,Bool.and_true,D3k,D3e];exact ha
 simp only [e1,(R2 w c n).2 ⟨h.1,h.2.1,h.2.2.1⟩,(O5 k).2 h.2.2.2,e];exact ⟨rfl,rfl⟩
theorem C6Y {w k c n:Int} (h:A3c w k c n):A5D w k c n=(⟨w,k,c,n,0, []⟩,0)/\B5r w k c n=(⟨w,k,c,n,0, []⟩,0):=by
 unfold A5D B5r;simp only [(B2P w k c n).2 h,(R2 w c n).2 ⟨h.1,h.2.1,h.2.2.1⟩,(O5 k).2 h.2.2.2];exact ⟨rfl,rfl⟩
theorem C9F {p n:Int} (hp:0<=p/\p<=4) (hn:0<=n/\n<=16777216):B7L p n=some (⟨p,n,n,List.replicate (p+1).toNat ⟨0,0⟩⟩,0)/\B1Y p n=some (⟨p,n,n,List.replicate (p+1).toNat ⟨0,0⟩⟩,0):=by
 have h:B1Y p n=some (⟨p,n,n,List.replicate (p+1).toNat ⟨0,0⟩⟩,0):=by
  unfold B1Y;have e:(((decide (p<(0:Int)))||(decide (p>(4:Int))))||(!(E7 n)))=false:=by
   rw [(T9 n).2 hn];simp;omega
  simp only [e,D3f,A7 (n:=p+1) (by omega) (by omega)]
  rw [D3h (by omega),O7]
 exact ⟨h,h⟩
theorem C8n {w n:Int} (hw:1<=w/\w<=64) (hn:0<=n/\n<=16777216):B1O w n=some (⟨n,List.replicate w.toNat 0⟩,0)/\B5t w n=some (⟨n,List.replicate w.toNat 0⟩,0):=by
 unfold B1O B5t;have e1:((((decide (w<(1:Int)))||(decide (w>(64:Int))))||(decide (n<(0:Int))))||(decide (n>(16777216:Int))))=false:=by simp;omega
 have e2:(((decide (w<(1:Int)))||(decide (w>(64:Int))))||(!(E7 n)))=false:=by
  rw [(T9 n).2 hn];simp;omega
 simp only [e1,e2,D3f];rw [D3h (by omega),O7]
 exact ⟨rfl,rfl⟩
theorem C4W {m:Bool} {w c n:Int} (h1:1<=w/\w<=1048576) (h2:1<=c/\c<=65536) (h3:0<=n/\n<=16777216):A3W m w c n=(⟨m,w,c,n, []⟩,0)/\B5u m w c n=(⟨m,w,c,n, []⟩,0):=by
 unfold A3W B5u;simp only [C3y,(R2 w c n).2 ⟨h1,h2,h3⟩];exact ⟨rfl,rfl⟩
theorem C6W {n w c:Int} (hn:1<=n/\n<=16) (hw:1<=w/\w<=1048576) (hc:1<=c/\c<=64):B0p n w c=some (⟨List.replicate n.toNat ⟨w,c,0,0, []⟩⟩,0)/\B5x n w c=some (⟨List.replicate n.toNat ⟨w,c,0,0, []⟩⟩,0):=by
 have e:(decide (n<(1:Int))||decide (n>(16:Int)))=false:=by simp;omega
 have e2:P6 w c=(⟨w,c,0,0, []⟩,0):=by
  unfold P6;have:((((decide (w<(1:Int)))||(decide (w>(1048576:Int))))||(decide (c<(1:Int))))||(decide (c>(64:Int))))=false:=by simp;omega
  rw [this,D3f]
 unfold B0p B5x;rw [e,D3f,D3f,D2J n w c hn.1 hn.2,D12 n w c hn.1 hn.2,<-C9E,e2];exact ⟨rfl,rfl⟩
theorem C4X {k c:Int} (hk:1<=k/\k<=64) (hc:2<=c/\c<=65536):A34 k c=(⟨k,c,0, []⟩,0)/\A1n k c=(⟨k,c,0, []⟩,0):=by
 unfold A34 A1n;have e1:((((decide (k<(1:Int)))||(decide (k>(64:Int))))||(decide (c<(2:Int))))||(decide (c>(65536:Int))))=false:=by simp;omega
 have e2:(((!(G7 k))||(decide (c<(2:Int))))||(decide (c>(65536:Int))))=false:=by
  rw [(O5 k).2 hk];simp;omega
 simp only [e1,e2,D3f];exact ⟨trivial,trivial⟩
theorem C3E {w k c n:Int} (h:A3c w k c n):A3f w k c n=(⟨w,k,c,n, []⟩,0)/\B5D w k c n=(⟨w,k,c,n, []⟩,0):=by
 unfold A3f B5D;simp only [(A5O w k c n).2 h,(R2 w c n).2 ⟨h.1,h.2.1,h.2.2.1⟩,(O5 k).2 h.2.2.2];exact ⟨rfl,rfl⟩
theorem C8m {c:C9} {now:Int} (hc:V1 c) (hn:0<=now/\now<=16777216):A4N c now=some (T3 c now,0)/\C06 c now=some (T3 c now,0):=by
 unfold A4N C06;have et:Y6 now=true:=(T9 now).2 hn;simp only [B1K,N2,A4l hc,et,(T9 now).2 hn,D3P,D3o,D3f];obtain ⟨k,agg,w,kk,cap,p,ch,mx⟩:=c;have hc' :=hc;unfold V1 at hc';simp only [] at hc';have:k=1\/k=2\/k=3\/k=4\/k=5\/k=6\/k=7\/k=8\/k=9\/k=10\/k=11:=by omega
 rcases this with h|h|h|h|h|h|h|h|h|h|h<;>subst h<;>simp only [Int.reduceBEq,beq_self_eq_true,D3g,D3f]
 ·obtain ⟨e1,e2⟩:=C6V (w:=w) (c:=cap) (n:=now) (by omega) (by omega) hn
  rw [e1,e2];exact ⟨rfl,rfl⟩
 ·obtain ⟨e1,e2⟩:=C8l (w:=w) (k:=kk) (c:=cap) (n:=now) ⟨by omega,by omega,hn,by omega⟩
  rw [e1,e2];exact ⟨rfl,rfl⟩
 ·obtain ⟨e1,e2⟩:=D07 (w:=w) (k:=kk) (c:=cap) (n:=now) (m:=mx) ⟨by omega,by omega,hn,by omega⟩ (by omega)
  rw [e1,e2];exact ⟨rfl,rfl⟩
 ·obtain ⟨e1,e2⟩:=C6X (a:=agg) (w:=w) (k:=kk) (c:=cap) (n:=now) ⟨by omega,by omega,hn,by omega⟩ (by omega)
  rw [e1,e2];exact ⟨rfl,rfl⟩
 ·obtain ⟨e1,e2⟩:=C6Y (w:=w) (k:=kk) (c:=cap) (n:=now) ⟨by omega,by omega,hn,by omega⟩
  rw [e1,e2];exact ⟨rfl,rfl⟩
 ·obtain ⟨e1,e2⟩:=C9F (p:=p) (n:=now) (by omega) hn
  rw [e1,e2];exact ⟨rfl,rfl⟩
 ·obtain ⟨e1,e2⟩:=C8n (w:=w) (n:=now) (by omega) hn
  rw [e1,e2];exact ⟨rfl,rfl⟩
 ·obtain ⟨e1,e2⟩:=C4W (m:=(mx==1)) (w:=w) (c:=cap) (n:=now) (by omega) (by omega) hn
  rw [e1,e2];exact ⟨rfl,rfl⟩
 ·obtain ⟨e1,e2⟩:=C6W (n:=ch) (w:=w) (c:=cap) (by omega) (by omega) (by omega)
  rw [e1,e2];exact ⟨rfl,rfl⟩
 ·obtain ⟨e1,e2⟩:=C4X (k:=kk) (c:=cap) (by omega) (by omega)
  rw [e1,e2];exact ⟨rfl,rfl⟩
 ·obtain ⟨e1,e2⟩:=C3E (w:=w) (k:=kk) (c:=cap) (n:=now) ⟨by omega,by omega,hn,by omega⟩
  rw [e1,e2];exact ⟨rfl,rfl⟩
def lenS (s:B3):Prop:=s.Aj.Ar.length<=maxLen/\s.Ap.Ab.length<=maxLen/\s.Sum.Ab.length<=maxLen/\s.Al.Av.length<=maxLen/\s.Am.Av.length<=maxLen/\s.Bb.Ae.length<=maxLen/\s.Aq.Bc.length<=maxLen/\s.Ad.Ar.length<=maxLen/\
 (s.Ak.Ah.length<=maxLen/\ ∀c∈s.Ak.Ah,c.Au.length<=maxLen)/\s.Af.Ao.length<=maxLen/\(s.Aa.Ag.length<=maxLen/\ ∀b∈s.Aa.Ag,b.Aw.Ac.length<=maxLen)
theorem C5f (s:B3) (h:lenS s):A2z s s=some true:=by
 obtain ⟨h1,h2,h3,h4,h5,h6,h7,h8,h9,h10,h11⟩:=h;unfold A2z;rw [B89 _ h1,B6T _ h2,B6U _ h3,B6V _ h4,B6W _ h5,B6X _ h6,B6Y _ h7,B6Z _ h8,B60 _ h9.1 h9.2,B61 _ h10,B62 _ h11.1 h11.2];simp
theorem A3b {α:Type}:([]:List α).length<=maxLen:=Nat.zero_le _
theorem C83:lenS B6i:=⟨A3b,A3b,A3b,A3b,A3b,A3b,A3b,A3b,⟨A3b,fun c h=>by cases h⟩,A3b,⟨A3b,fun c h=>by cases h⟩⟩
theorem D06 {c:C9} {now:Int} (hc:V1 c) (hn:0<=now/\now<=16777216):A6T (T3 c now):=by
 have i64: ∀ {n:Int},-9223372036854775808<=n/\n<=9223372036854775807->E5 .i64 n:=by
  intro n h;simp [E5,Lit.wf,IntKind.min,IntKind.max,IntKind.signed,IntKind.bits];omega
 have z:E5 .i64 0:=i64 (by omega)
 have hc' :=hc;unfold V1 at hc';have i1:E5 .i64 c.Ax:=i64 (by omega)
 have i2:E5 .i64 c.Bd:=i64 (by omega)
 have i3:E5 .i64 c.W:=i64 (by omega)
 have i4:E5 .i64 c.K:=i64 (by omega)
 have i5:E5 .i64 c.Cap:=i64 (by omega)
 have i6:E5 .i64 c.P:=i64 (by omega)
 have i7:E5 .i64 c.Ah:=i64 (by omega)
 have i8:E5 .i64 c.Be:=i64 (by omega)
 have i9:E5 .i64 now:=i64 (by omega)
 have nl: ∀ {α:Type} {wf:α->Prop},A5X wf ([]:List α):=⟨Nat.zero_le _,fun y h=>by cases h⟩
 have hz:E5 .u64 0:=by simp [E5,Lit.wf,IntKind.min,IntKind.max,IntKind.signed,IntKind.bits]
 have ite: ∀ {α:Type} {wf:α->Prop} {p:Prop} [Decidable p] {a b:α},wf a->wf b->wf (if p then a else b):=by
  intro α wf p _ a b ha hb;split<;>assumption
 refine ⟨⟨i1,i2,i3,i4,i5,i6,i7,i8⟩,ite (wf:=B27) ?_ ?_,ite (wf:=B4n) ?_ ?_,ite (wf:=B64) ?_ ?_,ite (wf:=B29) ?_ ?_,ite (wf:=B3a) ?_ ?_, ?_, ?_,ite (wf:=B18) ?_ ?_, ?_,ite (wf:=B19) ?_ ?_,ite (wf:=B1r) ?_ ?_⟩
 ·exact ⟨i3,i5,i9,nl⟩
 ·exact ⟨z,z,z,nl⟩
 ·exact ⟨i3,i4,i5,i9,nl⟩
 ·exact ⟨z,z,z,z,nl⟩
 ·exact ⟨i3,i4,i5,i8,i9,nl⟩
 ·exact ⟨z,z,z,z,z,nl⟩
 ·exact ⟨i2,i3,i4,i5,i9,z,nl⟩
 ·exact ⟨z,z,z,z,z,z,nl⟩
 ·exact ⟨i3,i4,i5,i9,z,nl⟩
 ·exact ⟨z,z,z,z,z,nl⟩
 ·show B5R (if c.Ax=6 then _ else _)
  by_cases h:c.Ax=6
  ·rw [if_pos h];refine ⟨i6,i9,i9, ?_,fun y hy=> ?_⟩
   ·rw [D4d];omega
   ·rw [List.eq_of_mem_replicate hy];exact ⟨hz,hz⟩
  ·rw [if_neg h];exact ⟨z,z,z,nl⟩
 ·show B4o (if c.Ax=7 then _ else _)
  by_cases h:c.Ax=7
  ·rw [if_pos h];refine ⟨i9, ?_,fun y hy=> ?_⟩
   ·rw [D4d];omega
   ·rw [List.eq_of_mem_replicate hy];exact z
  ·rw [if_neg h];exact ⟨z,nl⟩
 ·exact ⟨trivial,i3,i5,i9,nl⟩
 ·exact ⟨trivial,z,z,z,nl⟩
 ·show B28 (if c.Ax=9 then _ else _)
  by_cases h:c.Ax=9
  ·rw [if_pos h];refine ⟨?_,fun y hy=> ?_⟩
   ·rw [D4d];omega
   ·rw [List.eq_of_mem_replicate hy];exact ⟨i3,i5,z,z,nl⟩
  ·rw [if_neg h];exact nl
 ·exact ⟨i4,i5,z,nl⟩
 ·exact ⟨z,z,z,nl⟩
 ·exact ⟨i3,i4,i5,i9,nl⟩
 ·exact ⟨z,z,z,z,nl⟩
end Go.Win
namespace Go.Win
open Go.Vc Go.Dec
theorem A02 (a:Int) {n:Int} (h1:1<=n) (h2:n<=4611686018427387904): ∃r,W7 a n=some r/\0<=r/\r<n:=by
 have g1:=Int.tmod_lt_of_pos a (show 0<n by omega)
 have g2:=Int.lt_tmod_of_pos a (show 0<n by omega)
 unfold W7;have hk:decide (n≠0)=true:=by rw [D3e];omega
 rw [hk,O7]
 by_cases h:a.tmod n<0
 ·have e:A2 (a.tmod n+n)=a.tmod n+n:=by rw [A7]<;>omega
  rw [D3h h,D3g,e];exact ⟨_,rfl,by omega,by omega⟩
 ·rw [D3j h,D3f];exact ⟨_,rfl,by omega,by omega⟩
theorem D1O (a:Int) {w:Int} (h1:1<=w) (h2:w<=1000): ∃r,B3F a w=some r/\0<=r/\r<=2*w+1:=by
 unfold B3F;obtain ⟨q,hq,_,_⟩:=A02 a (n:=8) (by decide) (by decide)
 have e1:A2 (2*w)=2*w:=by rw [A7]<;>omega
 have e2:A2 (2*w+2)=2*w+2:=by rw [A7]<;>omega
 obtain ⟨r,hr,r1,r2⟩:=A02 (A2 (a.tdiv 8)) (n:=2*w+2) (by omega) (by omega)
 obtain ⟨s,hs,s1,s2⟩:=A02 (A2 (a.tdiv 8)) (n:=3) (by decide) (by decide)
 have e3:A2 (1+s)=1+s:=by rw [A7]<;>omega
 have j: ∀b,∃r,A55 a b=some r/\0<=r/\r<=2*w+1:=by
  intro b;unfold A55;cases b with
  |false=>exact ⟨0,rfl,by omega,by omega⟩
  |true=>
   rw [hs];simp only [D3g,D3c,e3];exact ⟨_,rfl,by omega,by omega⟩
 rw [hq,e1,e2,hr];simp only [D3c];cases q==0 with
 |true=>exact ⟨_,rfl,by omega,by omega⟩
 |false=>
  cases q==1 with
  |true=>simp only [D3f,D3g];exact j _
  |false=>simp only [D3f];exact j _
theorem C94 (a:Int): ∃r,A98 a=some r/\F0 r=true:=by
 unfold A98;obtain ⟨q,hq,_,_⟩:=A02 a (n:=8) (by decide) (by decide)
 obtain ⟨r,hr,r1,r2⟩:=A02 (A2 (a.tdiv 8)) (n:=8193) (by decide) (by decide)
 obtain ⟨s,hs,s1,s2⟩:=A02 (A2 (a.tdiv 8)) (n:=2) (by decide) (by decide)
 obtain ⟨t,ht,t1,t2⟩:=A02 (A2 (a.tdiv 8)) (n:=13) (by decide) (by decide)
 rw [hq,hr,hs,ht];simp only [D3c];have v: ∀x:Int,-4096<=x->x<=4096->F0 x=true:=fun x h1 h2=>by
  unfold F0;rw [D3k,D3e,D3e];omega
 cases q==0 with
 |true=>
  have e:A2 (r-4096)=r-4096:=by rw [A7]<;>omega
  refine ⟨_,rfl, ?_⟩;rw [e];exact v _ (by omega) (by omega)
 |false=>
  cases q==1 with
  |true=>
   have e1:A2 (2*s)=2*s:=by rw [A7]<;>omega
   have e2:A2 (2*s-1)=2*s-1:=by rw [A7]<;>omega
   have e3:A2 (4096*(2*s-1))=4096*(2*s-1):=by rw [A7]<;>omega
   refine ⟨_,rfl, ?_⟩;rw [e1,e2,e3];exact v _ (by omega) (by omega)
  |false=>
   have e:A2 (t-6)=t-6:=by rw [A7]<;>omega
   refine ⟨_,rfl, ?_⟩;rw [e];exact v _ (by omega) (by omega)
def C18 (w:Int) (l:List A9):Prop:=(∀p∈l,0<=p.T/\F0 p.V=true)/\(∀(i j:Nat) (p q:A9),i<=j->l[i]? =some p->l[j]? =some q->p.T<=q.T)/\ ∀(i:Nat) (p:A9),l[i]? =some p->p.T<=(i+1)*(2*w+1)
theorem C9v (raw:List A9) {w most:Int} (hl:raw.length<=maxLen) (h1:1<=w) (h2:w<=1000) (h3:0<=most) (h4:most<=1000):
  ∃l,A97 raw w most=some l/\C18 w l/\(l.length:Int)<=most:=by
 unfold A97 B4c;obtain ⟨r,hr,hQ⟩:=T8 (f:=fun s:List A9×Int×Int=>A43 raw w most s.1 s.2.1 s.2.2)
  (fun s=> ∃i:Nat,s.2.2=(i:Int)/\s.1.length=i/\(i:Int)<=most/\i<=raw.length/\C18 w s.1/\0<=s.2.1/\s.2.1<=i*(2*w+1)/\ ∀p∈s.1,p.T<=s.2.1)
  (fun s=>raw.length-s.1.length) (fun l=>C18 w l/\(l.length:Int)<=most) ([],0,0)
  ⟨0,rfl,rfl,h3,Nat.zero_le _,⟨by simp,fun i j p q _ hp=>by simp at hp,fun i p hp=>by simp at hp⟩,Int.le_refl _,by simp,by simp⟩ (by
   rintro ⟨l,t,k⟩ ⟨i,rfl,hli,hi1,hi2,hS,ht0,ht1,hle⟩;simp only at hli ht0 ht1 hle hS⊢;unfold A43
   by_cases hc:(decide ((i:Int)<(raw.length:Int))&&decide ((i:Int)<most))=true
   ·left;rw [hc,D3g];simp only [D3k,D3e] at hc;have hlt:i<raw.length:=by omega
    obtain ⟨g,hg,g1,g2⟩:=D1O raw[i].T h1 h2;obtain ⟨v,hv,v1⟩:=C94 raw[i].V;have hb:(i:Int)*(2*w+1)<=1000*(2*w+1):=Int.mul_le_mul_of_nonneg_right (by omega) (by omega)
    have e:A2 (t+g)=t+g:=by rw [A7]<;>omega
    have hk:decide ((l.length+ [(A9.mk (t+g) v)].length)*16<=140737488355328)=true:=by
     rw [D3e,D3R];omega
    have hmul:((i+1:Nat):Int)*(2*w+1)=(i:Int)*(2*w+1)+(2*w+1):=by
     rw [Int.natCast_succ,Int.add_mul,Int.one_mul]
    refine ⟨(l++ [⟨t+g,v⟩],t+g,(i:Int)+1), ?_,⟨i+1,by simp,by simp [hli],by omega,by omega,⟨?_, ?_, ?_⟩,by show 0<=t+g;omega, ?_, ?_⟩, ?_⟩
    ·simp only [I2,H6 hlt,D3c,hg,hv,e,N7 hlt hl];rw [hk,O7]
    ·intro p hp;rcases D3Y.1 hp with hp|hp
     ·exact hS.1 p hp
     ·have:p=⟨t+g,v⟩:=by simpa using hp
      subst this;exact ⟨by show 0<=t+g;omega,v1⟩
    ·intro a b p q hab hp hq
     by_cases hbl:b<l.length
     ·rw [D3B hbl] at hq;rw [D3B (by omega)] at hp
      exact hS.2.1 a b p q hab hp hq
     ·have hbe:b=l.length:=by
       have:=(D3m.1 hq).1;simp at this;omega
      subst hbe;have hq' :q=⟨t+g,v⟩:=by simpa using hq.symm
      subst hq'
      by_cases hal:a<l.length
      ·rw [D3B hal] at hp;have:=hle p (D3r hp);show p.T<=t+g;omega
      ·have:a=l.length:=by omega
       subst this;have hp' :p=⟨t+g,v⟩:=by simpa using hp.symm
       subst hp';exact Int.le_refl _
    ·intro a p hp
     by_cases hal:a<l.length
     ·rw [D3B hal] at hp;exact hS.2.2 a p hp
     ·have:a=l.length:=by
       have:=(D3m.1 hp).1;simp at this;omega
      subst this;have hp' :p=⟨t+g,v⟩:=by simpa using hp.symm
      subst hp';rw [hli];show t+g<=((i:Int)+1)*(2*w+1);rw [Int.add_mul,Int.one_mul];omega
    ·show t+g<=((i+1:Nat):Int)*(2*w+1);rw [hmul];omega
    ·intro p hp;rcases D3Y.1 hp with hp|hp
     ·have:=hle p hp;show p.T<=t+g;omega
     ·have:p=⟨t+g,v⟩:=by simpa using hp
      subst this;exact Int.le_refl _
    ·simp;omega
   ·right;rw [Bool.not_eq_true] at hc;rw [hc];exact ⟨l,rfl,hS,by omega⟩)
 exact ⟨r,hr,hQ⟩
theorem B9h (l:List A9) (n:Int):A7M l n=true↔E7 n=true/\(∀p∈l,0<=p.T/\p.T<=n)/\l.Pairwise (fun a b=>a.T<=b.T):=by
 unfold A7M;rw [D3k,D3y];constructor
 ·rintro ⟨h1,h2⟩;have hno: ∀i,i<l.length->B2c l n i=false:=fun i hi=>by
   cases h:B2c l n i with
   |false=>rfl
   |true=>rw [A6W.2 ⟨i,hi,h⟩] at h2;cases h2
  refine ⟨h1,fun p hp=> ?_, ?_⟩
  ·obtain ⟨i,hi,rfl⟩:=List.mem_iff_getElem.1 hp;have:=hno i hi;simp only [B2c,H6 hi,D3M,D3t] at this;omega
  ·rw [List.pairwise_iff_getElem];intro i j hi hj hij;have adj: ∀k (hk:k+1<l.length),l[k].T<=l[k+1].T:=fun k hk=>by
    have:=hno (k+1) hk;simp only [B2c,H6 hk,D3T,H6 (show k<l.length by omega),Nat.succ_pos,decide_true,D3N,D3M,D3t] at this
    omega
   have key: ∀d (hd:i+d<l.length),l[i].T<=l[i+d].T:=by
    intro d
    induction d with
    |zero=>intro _;exact Int.le_refl _
    |succ d ih=>
     intro hd;exact Int.le_trans (ih (by omega)) (adj (i+d) hd)
   have:=key (j-i) (by omega)
   have e:i+(j-i)=j:=by omega
   simpa [e] using this
 ·rintro ⟨h1,h2,h3⟩;refine ⟨h1, ?_⟩;cases hc:(List.range l.length).any (B2c l n) with
  |false=>rfl
  |true=>
   exfalso;obtain ⟨i,hi,hb⟩:=A6W.1 hc;have:=h2 l[i] (D31 hi);simp only [B2c,H6 hi,D3n,D3k,D3e] at hb;rcases hb with (hb|hb)|⟨hb,hb2⟩
   ·omega
   ·omega
   ·rw [H6 (show i-1<l.length by omega)] at hb2
    simp only [D3e] at hb2;have:=List.pairwise_iff_getElem.1 h3 (i-1) i (by omega) hi (by omega)
    omega
theorem A8b (x:C4):okV x=true↔(1<=x.W/\x.W<=1048576)/\(1<=x.Cap/\x.Cap<=65536)/\E7 x.Now=true/\(x.Ar.length:Int)<=x.Cap/\(∀p∈x.Ar,0<=p.T/\p.T<=x.Now/\p.T>x.Now-x.W/\F0 p.V=true)/\x.Ar.Pairwise (fun a b=>a.T<=b.T):=by
 unfold okV;rw [D3k,D3k,D3k,B9h,D3O,D3e];have hm:H1 x.W x.Cap x.Now=true↔(1<=x.W/\x.W<=1048576)/\(1<=x.Cap/\x.Cap<=65536)/\E7 x.Now=true:=by
  unfold H1 K3;simp only [D3k,D3e];constructor
  ·rintro ⟨⟨⟨⟨a,b⟩,c⟩,d⟩,e⟩;exact ⟨⟨a,b⟩,⟨c,d⟩,e⟩
  ·rintro ⟨⟨a,b⟩,⟨c,d⟩,e⟩;exact ⟨⟨⟨⟨a,b⟩,c⟩,d⟩,e⟩
 rw [hm];constructor
 ·rintro ⟨⟨⟨h1,h2,h3⟩,h4⟩,⟨_,h6,h7⟩,h8⟩;refine ⟨h1,h2,h3,h4,fun p hp=> ?_,h7⟩;have a:=h6 p hp;have b:=h8 p hp;unfold E0 at b;unfold E7 at h3;simp only [D3k,D3e] at b h3;have e:A2 (x.Now-x.W)=x.Now-x.W:=by rw [A7]<;>omega
  rw [e] at b;exact ⟨a.1,a.2,b.1.1.2,b.2⟩
 ·rintro ⟨h1,h2,h3,h4,h5,h6⟩;refine ⟨⟨⟨h1,h2,h3⟩,h4⟩,⟨h3,fun p hp=>⟨(h5 p hp).1,(h5 p hp).2.1⟩,h6⟩,fun p hp=> ?_⟩;obtain ⟨a,b,c,d⟩:=h5 p hp;have h3' :=h3;unfold E7 at h3';simp only [D3k,D3e] at h3';have e:A2 (x.Now-x.W)=x.Now-x.W:=by rw [A7]<;>omega
  unfold E0 K3;rw [e];have ht:E7 p.T=true:=by
   unfold E7;simp only [D3k,D3e];omega
  simp only [D3k,D3e,h3,ht,d,true_and,and_true];omega
theorem B3S (t:Int):E7 t=true↔0<=t/\t<=16777216:=by
 unfold E7;simp only [D3k,D3e,ge_iff_le]
theorem C6f {x:C4} {t:Int} (h:okV x=true) (h1:x.Now<=t) (h2:t<=16777216):
  A5c x t=some (⟨x.W,x.Cap,t,A96 x.Ar t x.W⟩,0)/\okV ⟨x.W,x.Cap,t,A96 x.Ar t x.W⟩=true/\
  A96 x.Ar t x.W=x.Ar.filter fun p=>decide (p.T>A2 (t-x.W))&&decide (p.T<=t):=by
 obtain ⟨g1,g2,g3,g4,g5,g6⟩:=(A8b x).1 h;have hn:=(B3S x.Now).1 g3;have ht:E7 t=true:=(B3S t).2 (by omega)
 have hl:x.Ar.length<=maxLen:=by rw [F8];omega
 have hv:A7M x.Ar t=true:=(B9h _ _).2 ⟨ht,fun p hp=>by have:=g5 p hp;omega,g6⟩
 refine ⟨?_, ?_, ?_⟩
 ·unfold A5c;rw [B1p,A8x x hl,h];have hk:A2b x.Now=true:=g3;have hc:(decide (t<x.Now)||decide (t>16777216))=false:=by
   simp only [D3M,D3t];omega
  unfold O8;simp only [D3c,if_true,D3P,D3f,hk,D3o,hc,C6A x.Ar t x.W (by omega),hv]
 ·refine (A8b _).2 ⟨g1,g2,ht, ?_,fun p hp=> ?_, ?_⟩
  ·show ((A96 x.Ar t x.W).length:Int)<=x.Cap;have:(A96 x.Ar t x.W).length<=x.Ar.length:=List.length_filter_le _ _;omega
  ·have hp' :=List.mem_filter.1 hp;have a:=g5 p hp'.1;have b:=hp'.2;unfold E0 at b;simp only [D3k,D3e] at b;have e:A2 (t-x.W)=t-x.W:=by rw [A7]<;>omega
   rw [e] at b;exact ⟨a.1,b.2,b.1.2,a.2.2.2⟩
  ·exact g6.filter _
 ·unfold A96;refine List.filter_congr fun p hp=> ?_;have a:=g5 p hp;unfold E0 K3;have hpt:E7 p.T=true:=(B3S _).2 (by omega)
  rw [ht,hpt];have w1:decide (x.W>=1)=true:=by rw [D3e];omega
  have w2:decide (x.W<=1048576)=true:=by rw [D3e];omega
  simp [w1,w2]
theorem D1B {x:C4} {v:Int} (h:okV x=true) (hv:F0 v=true):
  ((x.Ar.length:Int)=x.Cap/\ ∃z,A5b x v=some (z,5))\/
  ((x.Ar.length:Int)<x.Cap/\A5b x v=some (⟨x.W,x.Cap,x.Now,x.Ar++ [⟨x.Now,v⟩]⟩,0)/\okV ⟨x.W,x.Cap,x.Now,x.Ar++ [⟨x.Now,v⟩]⟩=true):=by
 obtain ⟨g1,g2,g3,g4,g5,g6⟩:=(A8b x).1 h;have hn:=(B3S x.Now).1 g3;have hl:x.Ar.length<=maxLen:=by rw [F8];omega
 have e:A5b x v=cond ((x.Ar.length:Int)==x.Cap) (some ((C4.mk (0:Int) (0:Int) (0:Int) ([]:List A9)),(5:Int))) (some (⟨x.W,x.Cap,x.Now,x.Ar++ [⟨x.Now,v⟩]⟩,0)):=by
  unfold A5b;rw [B1p,A8x x hl,h,C4l,hv];have k1:decide (0<=(x.Ar.length:Int)/\True/\(x.Ar.length:Int)<=(x.Ar.length:Int))=true:=by
   rw [D3e];exact ⟨by omega,trivial,Int.le_refl _⟩
  have k2:decide ([(A9.mk x.Now v)]≠ []/\((x.Ar.take ((x.Ar.length:Int)).toNat).length+ [(A9.mk x.Now v)].length)*16<=140737488355328)=true:=by
   rw [D3e];refine ⟨by simp, ?_⟩
   rw [D3S,List.take_length,D3R];omega
  simp only [D3c,if_true,D3P,D3f,D3o];rw [k1,k2];simp only [O7,D3S,List.take_length]
 by_cases hc:(x.Ar.length:Int)=x.Cap
 ·left;refine ⟨hc,⟨0,0,0, []⟩, ?_⟩;rw [e,D36.2 hc]
  rfl
 ·right;have hb:((x.Ar.length:Int)==x.Cap)=false:=by rw [D32];exact hc
  refine ⟨by omega,by rw [e,hb];rfl,(A8b _).2 ⟨g1,g2,g3, ?_,fun p hp=> ?_, ?_⟩⟩
  ·show ((x.Ar++ [_]).length:Int)<=x.Cap;rw [D3i,D3R];omega
  ·rcases D3Y.1 hp with hp|hp
   ·exact g5 p hp
   ·have:p=⟨x.Now,v⟩:=by simpa using hp
    subst this;refine ⟨hn.1,Int.le_refl _, ?_,hv⟩;show x.Now>x.Now-x.W;omega
  ·show (x.Ar++ [_]).Pairwise _;rw [List.pairwise_append];refine ⟨g6,by simp,fun a ha b hb=> ?_⟩
   have:b=⟨x.Now,v⟩:=by simpa using hb
   subst this;exact (g5 a ha).2.1
end Go.Win
namespace Go.Win
open Go.Vc Go.Dec
theorem A22 {α:Type} [Inhabited α] {n:Nat} {a:α} {i:Nat} (h:i<n):el (List.replicate n a) i=a:=by
 rw [K7 (by rw [D4d];exact h),List.getElem_replicate]
theorem D1t:wv ⟨0,0⟩=0:=rfl
theorem C5N {c:C9} {now:Int} (hc:V1 c) (hn:0<=now/\now<=16777216):B9S (T3 c now):=by
 have hc' :=hc;unfold V1 at hc';refine ⟨hc, ?_, ?_⟩
 ·have:c.Ax=1\/c.Ax=2\/c.Ax=3\/c.Ax=4\/c.Ax=5\/c.Ax=6\/c.Ax=7\/c.Ax=8\/c.Ax=9\/c.Ax=10\/c.Ax=11:=by omega
  unfold A0u T3;have no: ∀ {α:Type} {p:Nat->Prop},∀i,i<([]:List α).length->p i:=fun i h=>absurd h (Nat.not_lt_zero i);have bk0: ∀ {k:Int},1<=k/\k<=128->Z9 [] k:=fun h=>⟨h,no,fun h=>absurd h (Nat.not_lt_zero 0)⟩;have mk0: ∀ {a b d e:Int},A1Y [] 0 a b d e:=⟨by omega,no,fun h=>absurd h (Nat.not_lt_zero 0)⟩
  have w0:A2 (I3 [])=0:=rfl;rcases this with h|h|h|h|h|h|h|h|h|h|h<;>simp only [h,Int.reduceEq,if_true,if_false,false_and,false_or,or_false,true_and,and_true]
  ·rw [A8b];refine ⟨by (try dsimp only);omega,by (try dsimp only);omega,(T9 _).2 hn, ?_,fun p hp=>(by cases hp),List.Pairwise.nil⟩
   show (0:Int)<=c.Cap;omega
  ·exact ⟨⟨by (try dsimp only);omega,by (try dsimp only);omega,hn,by (try dsimp only);omega⟩,bk0 (by (try dsimp only);omega),by (try dsimp only);rw [w0];omega,no⟩
  ·exact ⟨⟨⟨by (try dsimp only);omega,by (try dsimp only);omega,hn,by (try dsimp only);omega⟩,bk0 (by (try dsimp only);omega),by (try dsimp only);rw [w0];omega,no⟩,by (try dsimp only);omega⟩
  ·exact ⟨by (try dsimp only);omega,⟨by (try dsimp only);omega,by (try dsimp only);omega,hn,by (try dsimp only);omega⟩,mk0,no⟩
  ·exact ⟨⟨by (try dsimp only);omega,by (try dsimp only);omega,hn,by (try dsimp only);omega⟩,mk0,fun i _ h=>absurd h (Nat.not_lt_zero i)⟩
  ·refine ⟨⟨by (try dsimp only);omega,hn,by (try dsimp only);omega,by (try dsimp only);rw [D4d];omega⟩,fun i h1 h2=> ?_⟩
   have h2' :(i:Int)<=c.P:=h2;simp only [];rw [A22 (by (try dsimp only);omega),A22 (by (try dsimp only);omega),D1t]
   omega
  ·refine ⟨⟨⟨by (try dsimp only);rw [D4d];omega,hn⟩,fun i hi=> ?_⟩,by (try dsimp only);rw [D4d];omega⟩
   simp only [D4d] at hi;simp only [];rw [A22 hi];omega
  ·exact ⟨⟨⟨by (try dsimp only);omega,by (try dsimp only);omega,hn⟩,by show (0:Int)<=c.Cap;omega⟩,no⟩
  ·have h0:0<c.Ah.toNat:=by omega
   rw [A22 h0,D4d];refine ⟨?_,by omega,rfl,rfl⟩
   unfold B5i M0;have e:(decide (((⟨List.replicate c.Ah.toNat ⟨c.W,c.Cap,0,0, []⟩⟩:D6).Ah.length:Int)<1)||decide (((⟨List.replicate c.Ah.toNat ⟨c.W,c.Cap,0,0, []⟩⟩:D6).Ah.length:Int)>16))=false:=by
    simp only [D4d];simp;omega
   rw [e,D3f];unfold A0v;refine (L2 (f:=fun s:Int=>L1 ⟨List.replicate c.Ah.toNat ⟨c.W,c.Cap,0,0, []⟩⟩ s) c.Ah.toNat (fun _=>False) 2 (some 0) (fun i hi _=>⟨fun h=>h.elim,fun _=> ?_⟩) (fun _=> ?_)).2 fun _ _ h=>h
   ·unfold L1;have ec:L3 ⟨c.W,c.Cap,0,0, []⟩=some 0:=by
     unfold L3;have:(((((((decide (c.W<(1:Int)))||(decide (c.W>(1048576:Int))))||(decide (c.Cap<(1:Int))))||(decide (c.Cap>(64:Int))))||(decide ((0:Int)<(0:Int))))||(decide ((0:Int)>(1099511627776:Int))))||(decide ((([]:List D9).length:Int)>c.Cap)))=false:=by
      rw [D3s];simp only [D3n,D3e,Ne,D3I];omega
     simp only [this,D3f]
     rfl
    have h16:c.Ah.toNat<=16:=by omega
    have es:A2 ((i:Int)+1)=((i+1:Nat):Int):=by rw [A7]<;>omega
    have e1:D0 (List.replicate c.Ah.toNat (⟨c.W,c.Cap,0,0, []⟩:A5)) (i:Int)=some ⟨c.W,c.Cap,0,0, []⟩:=by rw [F4 (by rw [D4d];exact hi),A22 hi]
    have e0:D0 (List.replicate c.Ah.toNat (⟨c.W,c.Cap,0,0, []⟩:A5)) (0:Int)=some ⟨c.W,c.Cap,0,0, []⟩:=by rw [A21 (by rw [D4d];exact h0),A22 h0]
    have e2:decide ((i:Int)<((List.replicate c.Ah.toNat (⟨c.W,c.Cap,0,0, []⟩:A5)).length:Int))=true:=D3h (by rw [D4d];omega)
    simp only [e2,D3g,e0,e1,D3c,ec,D3P,Bool.or_false,D3f,es]
   ·unfold L1;have e2:decide ((c.Ah.toNat:Int)<((List.replicate c.Ah.toNat (⟨c.W,c.Cap,0,0, []⟩:A5)).length:Int))=false:=D3j (by rw [D4d];omega)
    simp only [e2,D3f]
  ·exact ⟨⟨by (try dsimp only);omega,by (try dsimp only);omega,by show (0:Int)<=0/\(0:Int)<=1099511627776;omega,by show (0:Int)<=c.Cap;omega⟩,⟨fun _=>rfl,fun _=>rfl⟩,no,fun h=>absurd h (Nat.not_lt_zero 0)⟩
  ·refine ⟨⟨by (try dsimp only);omega,by (try dsimp only);omega,hn,by (try dsimp only);omega⟩,fun b hb=> ?_,by show A2 (I3 [])<=c.Cap;rw [w0];omega,no⟩
   obtain ⟨b',_,b2,b3⟩:=A8u (k:=c.K) (c:=c.Cap) (by (try dsimp only);omega) (by (try dsimp only);omega)
   have hb' :A1a c.K c.Cap=some b:=hb;rw [b2] at hb';cases hb';exact ⟨b3,bk0 (by (try dsimp only);omega),no⟩
 ·unfold A8c T3;refine ⟨?_, ?_, ?_, ?_, ?_, ?_, ?_, ?_, ?_, ?_, ?_⟩
  all_goals
   intro h;simp only [] at h;rw [if_neg h]
  ·exact ⟨rfl,rfl,rfl,rfl⟩
  ·exact ⟨rfl,rfl,rfl,rfl,rfl⟩
  ·exact ⟨rfl,rfl,rfl,rfl,rfl,rfl⟩
  ·exact ⟨rfl,rfl,rfl,rfl,rfl,rfl,rfl⟩
  ·exact ⟨rfl,rfl,rfl,rfl,rfl,rfl⟩
  ·exact ⟨rfl,rfl,rfl,rfl⟩
  ·exact ⟨rfl,rfl⟩
  ·exact ⟨rfl,rfl,rfl,rfl,rfl⟩
  ·exact rfl
  ·exact ⟨rfl,rfl,rfl,rfl⟩
  ·exact ⟨rfl,rfl,rfl,rfl,rfl⟩
theorem D0x:A8M=some true:=by
 unfold A8M;have hc:V1 ⟨6,0,0,0,0,2,0,0⟩:=by unfold V1;simp
 obtain ⟨e1,_⟩:=C8m hc (now:=0) (by decide)
 rw [e1,D3c];have hw:=D06 hc (now:=0) (by decide)
 have hr:S9 (T3 ⟨6,0,0,0,0,2,0,0⟩ 0)=some 3:=by
  unfold S9;rw [(B6p _ hw).1,K9 (C5N hc (by decide)),D3c]
  show A1P _ 3 0=some 3;unfold A1P;rw [G9 (r:=3)];show Option.map Sum.inr (U2 (T3 ⟨6,0,0,0,0,2,0,0⟩ 0) 3 0)=_;unfold U2;rw [G9 (r:=3)]
  ·rfl
  ·rfl
 rw [hr]
 rfl
end Go.Win
