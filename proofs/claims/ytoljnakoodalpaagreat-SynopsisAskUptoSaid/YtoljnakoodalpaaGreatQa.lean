/- Plain laws of the functions on plain data. -/
import Derived.Test.YtoljnakoodalpaaGreatVc
import Derived.Test.YtoljnakoodalpaaGreatWin
set_option linter.unusedVariables false
set_option linter.unusedSimpArgs false
set_option linter.unnecessarySimpa false
set_option linter.unusedSectionVars false
namespace Go.Win
open Go.Vc Go.Dec
theorem B9 {n:Int} (h1:-9223372036854775808<=n) (h2:n<=9223372036854775807):A2 n=n:=by
 show IntKind.i64.wrap n=n;rw [IntKind.wrap_i64];omega
theorem B10 (n:Int):A2 n=(n+9223372036854775808)%18446744073709551616-9223372036854775808:=by
 show IntKind.i64.wrap n=_;rw [IntKind.wrap_i64]
theorem M0 (n:Int):A7 n=n%18446744073709551616:=by
 show IntKind.u64.wrap n=_;rw [IntKind.wrap_u64]
theorem A1G {R:Type} {f:Int->Option (Int⊕R)} {n:Nat} {bad:Nat->Bool} {E:R} {A:Option R}
  (hs:∀i:Nat,i<n->f i=cond (bad i) (some (.inr E)) (some (.inl ((i:Int)+1)))) (hd:f n=Option.map Sum.inr A):
  loop f 0=cond ((List.range n).any bad) (some E) A:=by
 have key: ∀k i:Nat,i+k=n->loop f i=cond ((List.range' i k).any bad) (some E) A:=by
  intro k
  induction k with
  |zero=>
   intro i hi;have hi:i=n:=by omega
   subst hi;rw [A8y,hd];cases A<;>rfl
  |succ k ih=>
   intro i hi;rw [A8y,hs i (by omega),List.range'_succ,List.any_cons]
   cases hb:bad i with
   |true=>rfl
   |false=>
    have:=ih (i+1) (by omega)
    simpa using this
 have:=key n 0 (by omega)
 rw [<-List.range_eq_range'] at this;exact this
theorem A8o {n:Nat} {p:Nat->Bool}:(List.range n).any p=true↔ ∃i,i<n/\p i=true:=by
 simp [List.any_eq_true]
theorem G9:maxLen=9223372036854775807:=rfl
end Go.Win
namespace Go.Win
open Go.Vc Go.Dec
def el {α:Type} [Inhabited α] (l:List α) (i:Nat):α:=l.getD i default
theorem B00 {α:Type} [Inhabited α] {l:List α} {i:Nat} (h:i<l.length):l[i]? =some (el l i):=by
 unfold el;rw [D4L h];simp [List.getD,D4L h]
theorem B1r {α:Type} [Inhabited α] {l:List α} {i:Nat} (h:i<l.length):el l i=l[i]:=by
 have:=B00 h;rw [D4L h] at this;exact (D5g this).symm
theorem G4 {α:Type} [Inhabited α] {l:List α} {i:Nat} (h:i<l.length):D1 l (i:Int)=some (el l i):=by
 rw [M4,B00 h]
theorem A0T {α:Type} [Inhabited α] {l:List α} (h:0<l.length):D1 l (0:Int)=some (el l 0):=G4 h
theorem D4k {α:Type} [Inhabited α] {l:List α} {n:Int} (h0:0<=n) (h:n<l.length):D1 l n=some (el l n.toNat):=by
 have:D1 l ((n.toNat:Nat):Int)=some (el l n.toNat):=G4 (by omega)
 rw [<-this]
 congr 1
 omega
theorem A59 {α:Type} [Inhabited α] {l:List α} {i:Nat} (h:i<l.length):el l i∈l:=by
 rw [B1r h];exact D5m h
theorem C9z {α:Type} [Inhabited α] {l:List α} {x:α} (h:x∈l): ∃i,i<l.length/\el l i=x:=by
 obtain ⟨i,hi,e⟩:=List.getElem_of_mem h;exact ⟨i,hi,by rw [B1r hi];exact e⟩
theorem A2k {i n:Nat} (h0:0<i) (h:i<=n) (hm:n<=maxLen):A2 ((i:Int)-1)=((i-1:Nat):Int):=by
 rw [G9] at hm;rw [B9]<;>omega
theorem N4 {i n:Nat} (h:i<n) (hm:n<=maxLen):A2 ((i:Int)+1)=((i+1:Nat):Int):=by
 rw [G9] at hm;rw [B9]<;>omega
theorem X9 {S R:Type} {f:S->Option (S⊕R)} (st:Nat->S) (a n:Nat) (han:a<=n) (bad:Nat->Prop) (E:R) (A:Option R)
  (hs:∀i,a<=i->i<n->(∀j,a<=j->j<i-> ¬bad j)->(bad i->f (st i)=some (.inr E))/\(¬bad i->f (st i)=some (.inl (st (i+1)))))
  (hd:(∀j,a<=j->j<n-> ¬bad j)->f (st n)=Option.map Sum.inr A):
  ((∃i,a<=i/\i<n/\bad i)->loop f (st a)=some E)/\((∀i,a<=i->i<n-> ¬bad i)->loop f (st a)=A):=by
 have key: ∀k i:Nat,a<=i->i+k=n->(∀j,a<=j->j<i-> ¬bad j)->
   ((∃j,i<=j/\j<n/\bad j)->loop f (st i)=some E)/\((∀j,i<=j->j<n-> ¬bad j)->loop f (st i)=A):=by
  intro k
  induction k with
  |zero=>
   intro i hai hi hb;have hi:i=n:=by omega
   subst hi;refine ⟨fun ⟨j,h1,h2,_⟩=>by omega,fun _=> ?_⟩
   rw [A8y,hd hb];cases A<;>rfl
  |succ k ih=>
   intro i hai hi hb;obtain ⟨h1,h2⟩:=hs i hai (by omega) hb
   by_cases hbi:bad i
   ·refine ⟨fun _=>K9 (h1 hbi),fun h=>absurd hbi (h i (D5f _) (by omega))⟩
   ·obtain ⟨g1,g2⟩:=ih (i+1) (by omega) (by omega) (fun j h3 h4=>by
     by_cases e:j=i
     ·subst e;exact hbi
     ·exact hb j h3 (by omega))
    rw [K2 (h2 hbi)];refine ⟨fun ⟨j,h3,h4,h5⟩=>g1 ⟨j, ?_,h4,h5⟩,fun h=>g2 fun j h3 h4=>h j (by omega) h4⟩
    by_cases e:j=i
    ·subst e;exact absurd h5 hbi
    ·omega
 exact key (n-a) a (D5f _) (by omega) (fun j _ _=>by omega)
theorem L2 {R:Type} {f:Int->Option (Int⊕R)} (n:Nat) (bad:Nat->Prop) (E:R) (A:Option R)
  (hs:∀i:Nat,i<n->(∀j,j<i-> ¬bad j)->(bad i->f (i:Int)=some (.inr E))/\(¬bad i->f (i:Int)=some (.inl ((i+1:Nat):Int))))
  (hd:(∀j,j<n-> ¬bad j)->f (n:Int)=Option.map Sum.inr A):
  ((∃i,i<n/\bad i)->loop f 0=some E)/\((∀i,i<n-> ¬bad i)->loop f 0=A):=by
 have:=X9 (f:=f) (fun i=>(i:Int)) 0 n (Nat.zero_le _) bad E A (fun i _ h2 h3=>hs i h2 fun j h4=>h3 j (Nat.zero_le _) h4) (fun h=>hd fun j h4=>h j (Nat.zero_le _) h4);exact ⟨fun ⟨i,h1,h2⟩=>this.1 ⟨i,Nat.zero_le _,h1,h2⟩,fun h=>this.2 fun i _ h1=>h i h1⟩
theorem D0w {α:Type} (b:Bool) (x y:α):cond b x y=if b=true then x else y:=by cases b<;>rfl
open Classical in
noncomputable def vOf (p:Prop):Int:=if p then 0 else 2
theorem O0 {p:Prop} (h:p):vOf p=0:=by unfold vOf;rw [if_pos h]
theorem H2 {p:Prop} (h:¬p):vOf p=2:=by unfold vOf;rw [if_neg h]
open Classical in
noncomputable def T2 (p:Prop):Bool:=if p then true else false
theorem P6 {p:Prop} (h:p):T2 p=true:=by unfold T2;rw [if_pos h]
theorem J9 {p:Prop} (h:¬p):T2 p=false:=by unfold T2;rw [if_neg h]
theorem I3 {p:Prop}:T2 p=true↔p:=by
 unfold T2;split<;>simp_all
end Go.Win
namespace Go.Win
open Go.Vc Go.Dec
def B73 (x:D0) (i:Nat):Bool:=match x.Ax[i]? with
 |none=>false
 |some l=>(((((decide (l.V<(-4096:Int)))||(decide (l.V>(4096:Int))))||(decide (l.I<(1:Int))))||(decide (l.I>x.I)))||(decide (l.I<=(A2 (x.I-x.W)))))||
  (decide (0<i)&&match x.Ax[i-1]? with
   |none=>false
   |some p=>decide (l.I<=p.I)||decide (l.I>A2 (p.I+x.W)))
noncomputable def B28 (x:D0) (i:Nat):Bool:=match x.Ax[i]? with
 |none=>false
 |some l=>((!(H8 l.V))||(decide (l.I>x.I)))||
  (decide (0<i)&&match x.Ax[i-1]? with
   |none=>false
   |some p=>decide (l.I<=p.I)||decide (l.I>A2 (p.I+x.W)))
def D0n (p0:D0):Option Int:=(Option.bind (gd (!(decide (p0.Bd<=p0.I))) (D1 p0.Ax (A2 ((p0.Ax.length:Int)-(1:Int))))) fun x17_14=>
 cond ((decide (p0.Bd<=p0.I))||(decide (p0.Bd>(A2 (x17_14.I+p0.W))))) (
  some (2:Int))<|
 some (0:Int))
theorem B4P {i:Nat} (h:0<i) (hm:i<=maxLen):A2 ((i:Int)-1)=((i-1:Nat):Int):=by
 rw [G9] at hm;rw [B9]<;>omega
theorem I9 {i n:Nat} (h:i<n) (hm:n<=maxLen):A2 ((i:Int)+1)=(i:Int)+1:=by
 rw [G9] at hm;rw [B9]<;>omega
theorem D1u (x:D0) (hl:x.Ax.length<=maxLen):A5W x 0=cond ((List.range x.Ax.length).any (B73 x)) (some 2) (D0n x):=by
 unfold A5W;refine A1G (fun i hi=> ?_) ?_
 ·have h1:x.Ax[i]? =some x.Ax[i]:=D4L hi;have hs:=I9 hi hl;unfold A4L B73;simp only [Int.ofNat_lt,hi,decide_true,D4B,M4,h1,D4x,hs]
  by_cases h0:0<i
  ·have hp:=B4P h0 (Nat.le_trans (Nat.le_of_lt hi) hl);have h2:x.Ax[i-1]? =some x.Ax[i-1]:=D4L (by omega)
   have h3:((i:Int)>0):=by omega
   simp only [hp,M4,h2,h3,h0,decide_true,G5,D4x,D48];cases decide (x.Ax[i].I<=x.Ax[i-1].I)<;>cases (((((decide (x.Ax[i].V<(-4096:Int)))||(decide (x.Ax[i].V>(4096:Int))))||(decide (x.Ax[i].I<(1:Int))))||(decide (x.Ax[i].I>x.I)))||(decide (x.Ax[i].I<=(A2 (x.I-x.W)))))<;>simp
  ·have h3: ¬((i:Int)>0):=by omega
   simp only [h3,h0,decide_false,G0,D4x,D42,D4A,Bool.or_false]
 ·unfold A4L;simp only [D40,decide_false,D4A]
  rfl
theorem D32 (x:D0) (hl:x.Ax.length<=maxLen):A54 x 0=cond ((List.range x.Ax.length).any (B28 x)) (some 2) (D0n x):=by
 unfold A54;refine A1G (fun i hi=> ?_) ?_
 ·have h1:x.Ax[i]? =some x.Ax[i]:=D4L hi;have hs:=I9 hi hl;unfold A4Z B28;simp only [Int.ofNat_lt,hi,decide_true,D4B,M4,h1,D4x,hs]
  by_cases h0:0<i
  ·have hp:=B4P h0 (Nat.le_trans (Nat.le_of_lt hi) hl);have h2:x.Ax[i-1]? =some x.Ax[i-1]:=D4L (by omega)
   have h3:((i:Int)>0):=by omega
   simp only [hp,M4,h2,h3,h0,decide_true,D48,Bool.and_true]
   by_cases hA:x.Ax[i].I<=x.Ax[i-1].I<;>cases ((!(H8 x.Ax[i].V))||(decide (x.Ax[i].I>x.I)))<;>simp [hA]
  ·have h3: ¬((i:Int)>0):=by omega
   simp only [h3,h0,decide_false,G0,D4x,D42,Bool.and_false,Bool.or_false]
 ·unfold A4Z;simp only [D40,decide_false,D4A]
  rfl
theorem G7 {α:Type} {l:List α} {i:Nat} (h:i<l.length):l[i]? =some l[i]:=D4L h
theorem asc (x:D0) (h:∀i,i<x.Ax.length->B28 x i=false): ∀i (hi:i<x.Ax.length),x.Ax[0].I<=x.Ax[i].I:=by
 intro i
 induction i with
 |zero=>intro hi;exact Int.le_refl _
 |succ i ih=>
  intro hi;have h1:=ih (by omega)
  have h2:=h (i+1) hi;simp only [B28,G7 hi,D5e,G7 (show i<x.Ax.length by omega),Nat.succ_pos,decide_true,D48,D47,D4O] at h2
  omega
def B1y (x:D0):Bool:=match x.Ax[0]? with
 |none=>false
 |some l=>decide (l.I<=A2 (x.I-x.W))||decide (l.I<1)
theorem D31 (x:D0):(List.range x.Ax.length).any (B73 x)=(B1y x||(List.range x.Ax.length).any (B28 x)):=by
 rw [D4S,D4I,A8o,A8o];constructor
 ·rintro ⟨i,hi,hb⟩
  by_cases hR: ∃i,i<x.Ax.length/\B28 x i=true
  ·exact .inr hR
  ·left;have hno: ∀i,i<x.Ax.length->B28 x i=false:=fun i hi=>by
    cases h:B28 x i with
    |false=>rfl
    |true=>exact absurd ⟨i,hi,h⟩ hR
   have ha:=asc x hno i hi;have h2:=hno i hi;have h0:0<x.Ax.length:=by omega
   simp only [B1y,G7 h0,D4I,D4z];simp only [B28,G7 hi,H8,D47,Bool.not_eq_false',D4F,D4z,D4O] at h2;simp only [B73,G7 hi,D4I,D4z] at hb;obtain ⟨⟨⟨h3,h4⟩,h5⟩,h6⟩:=h2;rcases hb with hb|hb
   ·omega
   ·rw [h6] at hb;cases hb
 ·rintro (h|⟨i,hi,hb⟩)
  ·have h0:0<x.Ax.length:=by
    rcases Nat.eq_zero_or_pos x.Ax.length with h0|h0
    ·simp [B1y,D5i h0] at h
    ·exact h0
   refine ⟨0,h0, ?_⟩;simp only [B1y,G7 h0,D4I,D4z] at h;simp only [B73,G7 h0,D4I,D4z];left;omega
  ·refine ⟨i,hi, ?_⟩;simp only [B28,G7 hi,H8,D4I,D4T,D5o,D4z,D4O] at hb;simp only [B73,G7 hi,D4I,D4z];rcases hb with hb|hb
   ·left;omega
   ·exact .inr hb
theorem B7X (x:D0) (hl:x.Ax.length<=maxLen):P9 x=A3n x:=by
 unfold P9 A3n;simp only [D1u x hl,D32 x hl,D31 x];have e1:(((((((decide (x.W<(1:Int)))||(decide (x.W>(1048576:Int))))||(decide (x.Cap<(1:Int))))||(decide (x.Cap>(64:Int))))||(decide (x.I<(0:Int))))||(decide (x.I>(1099511627776:Int))))||(decide ((x.Ax.length:Int)>x.Cap)))
  =((((((!(S0 x.W))||(decide (x.Cap<(1:Int))))||(decide (x.Cap>(64:Int))))||(decide (x.I<(0:Int))))||(decide (x.I>(1099511627776:Int))))||(decide ((x.Ax.length:Int)>x.Cap))):=by
  rw [D4S];simp only [S0,D4I,D4T,D5o,D4z,D4O];omega
 rw [e1]
 congr 2
 ·rw [show decide ((x.Ax.length:Int)>0)=((x.Ax.length:Int) !=0) by rw [D4S,D4z,bne_iff_ne];omega]
 ·by_cases h0:x.Ax= []
  ·simp [h0]
  ·have h1:0<x.Ax.length:=List.length_pos_iff.2 h0;have h2:((x.Ax.length:Int)==0)=false:=by rw [D5n];omega
   have h3:D1 x.Ax (0:Int)=some x.Ax[0]:=by simp [D1,h1]
   simp only [h2,h3,D4A,D4K,G5,D4x,D4Y,B1y,G7 h1]
   by_cases hA:x.Ax[0].I<=A2 (x.I-x.W)<;>by_cases hB:x.Ax[0].I<1<;>simp [hA,hB]
theorem D0p (x:D0) (hl:x.Ax.length<=maxLen):A7c x=B2O x:=by
 unfold A7c B2O;rw [B7X x hl]
theorem C6a (x:D0) (hl:x.Ax.length<=maxLen):B0H x x=some true:=by
 unfold B0H;have h:A9U x x 0=cond ((List.range x.Ax.length).any fun _=>false) (some false) (some true):=by
  unfold A9U;refine A1G (fun i hi=> ?_) ?_
  ·unfold A8F;simp [hi,I9 hi hl]
  ·unfold A8F;simp
 have hf:((List.range x.Ax.length).any fun _=>false)=false:=by simp
 rw [hf] at h;simp [h]
theorem B4k (x:D0) (hl:x.Ax.length<=maxLen): ∃r,P9 x=some r/\(r=0->0<=x.I/\x.I<=1099511627776/\1<=x.W/\x.W<=1048576/\1<=x.Cap/\x.Cap<=64/\(x.Ax.length:Int)<=x.Cap/\(x.Ax= []->x.I=0)/\(x.I=0->x.Bd=0)):=by
 unfold P9;simp only [D1u x hl]
 by_cases h:(((((((decide (x.W<(1:Int)))||(decide (x.W>(1048576:Int))))||(decide (x.Cap<(1:Int))))||(decide (x.Cap>(64:Int))))||(decide (x.I<(0:Int))))||(decide (x.I>(1099511627776:Int))))||(decide ((x.Ax.length:Int)>x.Cap)))=true
 ·rw [h];exact ⟨2,rfl,fun h=>by simp at h⟩
 ·rw [Bool.not_eq_true] at h;rw [h];simp only [D47,D4O] at h
  by_cases h0:x.I=0
  ·simp only [h0,beq_self_eq_true,D4B,D4A];cases hc:(decide ((x.Ax.length:Int)>(0:Int))||(x.Bd !=(0:Int)))
   ·simp only [D47,bne_eq_false_iff_eq] at hc;exact ⟨0,rfl,fun _=>⟨by omega,by omega,by omega,by omega,by omega,by omega,by omega,fun _=>trivial,fun _=>hc.2⟩⟩
   ·exact ⟨2,rfl,fun h=>by simp at h⟩
  ·have h0' :(x.I==0)=false:=by rw [D5n];exact h0
   simp only [h0',D4A]
   by_cases h1:x.Ax= []
   ·rw [h1];exact ⟨2,rfl,fun h=>by simp at h⟩
   ·have h2:((x.Ax.length:Int)==0)=false:=by
     have:=List.length_pos_iff.2 h1;rw [D5n];omega
    simp only [h2,D4A];have all: ∀r:Int,(r=0->0<=x.I/\x.I<=1099511627776/\1<=x.W/\x.W<=1048576/\1<=x.Cap/\x.Cap<=64/\(x.Ax.length:Int)<=x.Cap/\(x.Ax= []->x.I=0)/\(x.I=0->x.Bd=0)):=fun _ _=>⟨by omega,by omega,by omega,by omega,by omega,by omega,by omega,fun h=>absurd h h1,fun h=>absurd h h0⟩
    cases (List.range x.Ax.length).any (B73 x) with
    |true=>exact ⟨2,rfl,all _⟩
    |false=>
     simp only [D4A];unfold D0n;have hp:=List.length_pos_iff.2 h1;have hw:=B4P hp hl;simp only [hw,M4,G7 (show x.Ax.length-1<x.Ax.length by omega)]
     by_cases hN:x.Bd<=x.I
     ·simp only [hN,decide_true,D4J,G0,D4x,D5h,D4B];exact ⟨2,rfl,all _⟩
     ·simp only [hN,decide_false,D4K,G5,D4x,D4Y];cases decide (x.Bd>A2 ((x.Ax[x.Ax.length-1]'(by omega)).I+x.W))
      ·exact ⟨0,rfl,all _⟩
      ·exact ⟨2,rfl,all _⟩
end Go.Win
namespace Go.Win
open Go.Vc Go.Dec
theorem D1d:B3f=A6j:=rfl
theorem D1e:B1O=H8:=rfl
theorem C6P (a b c:Int):A6h a b c=I1 a b c:=by
 unfold A6h I1 S0 G3;rw [D4S];simp only [D4F,D4z];omega
theorem A7g (n w t:Int):W8 n w t=F3 n w t:=by
 unfold W8 B3b F3 G3 S0;have e:B0u=B0v:=rfl;rw [e];unfold B0v
 by_cases h1:n>=0/\n<=16777216
 ·by_cases h2:w>=1/\w<=1048576
  ·have c:(((!(decide (n>=0)&&decide (n<=16777216)))||decide (w<1))||decide (w>1048576))=false:=by
    simp only [D47,Bool.not_eq_false',D4F,D4z,D4O];omega
   simp only [c,D4A];have e1:A2 (n-w)=n-w:=by rw [B9]<;>omega
   have e2:A2 (n-w+1)=n-w+1:=by rw [B9]<;>omega
   rw [e1,e2,D4S];simp only [D4F,D4z,P3];split<;>omega
  ·have c:(((!(decide (n>=0)&&decide (n<=16777216)))||decide (w<1))||decide (w>1048576))=true:=by
    simp only [D4I,D4T,D5o,D4z,D4O];omega
   have d:(decide (w>=1)&&decide (w<=1048576))=false:=by
    simp only [D5o,D4O];omega
   simp only [c,d,D4B,Bool.and_false,D42]
   rfl
 ·have c:(((!(decide (n>=0)&&decide (n<=16777216)))||decide (w<1))||decide (w>1048576))=true:=by
   simp only [D4I,D4T,D5o,D4z,D4O];omega
  have d:(decide (n>=0)&&decide (n<=16777216))=false:=by
   simp only [D5o,D4O];omega
  simp only [c,d,D4B,D42]
  rfl
def B29 (l:List B3) (now:Int) (i:Nat):Bool:=match l[i]? with
 |none=>false
 |some p=>(decide (p.T<0)||decide (p.T>now))||(decide (0<i)&&match l[i-1]? with
  |some q=>decide (q.T>p.T)
  |none=>false)
noncomputable def B4i (l:List B3) (now:Int):Bool:=G3 now&& !(List.range l.length).any (B29 l now)
theorem C8D (l:List B3) (now:Int) (hl:l.length<=maxLen):A6j l now=some (B4i l now):=by
 unfold A6j B4i;cases ht:G3 now with
 |false=>rfl
 |true=>
  have h:A8E l now 0=cond ((List.range l.length).any (B29 l now)) (some false) (some true):=by
   unfold A8E;refine A1G (fun i hi=> ?_) ?_
   ·have hs:=I9 hi hl;unfold A7U B29;simp only [Int.ofNat_lt,hi,decide_true,D4B,M4,G7 hi,D4x,hs]
    by_cases h0:0<i
    ·have hp:=B4P h0 (Nat.le_trans (Nat.le_of_lt hi) hl);have h3:((i:Int)>0):=by omega
     simp only [hp,M4,G7 (show i-1<l.length by omega),h3,h0,decide_true,D48,Bool.and_true]
     cases (decide (l[i].T<0)||decide (l[i].T>now))<;>simp
    ·have h3: ¬((i:Int)>0):=by omega
     simp only [h3,h0,decide_false,G0,D4x,D42,Bool.and_false,Bool.or_false]
   ·unfold A7U;simp
  simp only [D4J,D4A,h];cases (List.range l.length).any (B29 l now)<;>rfl
theorem B9t (l:List B3) (hl:l.length<=maxLen):Z4 l l=some true:=by
 have h:A2n l l 0=cond ((List.range l.length).any fun _=>false) (some false) (some true):=by
  unfold A2n;refine A1G (fun i hi=> ?_) ?_
  ·unfold A1S;simp [hi,I9 hi hl]
  ·unfold A1S;simp
 have hf:((List.range l.length).any fun _=>false)=false:=by simp
 rw [hf] at h;unfold Z4;simp [h]
theorem C8t (x:C9) (hl:x.Av.length<=maxLen):A5r x x=some true:=by
 unfold A5r;simp [B9t x.Av hl]
theorem B6Q (x:C9):A0X x=V7 x:=by
 have e:A4t=A0E:=by
  funext x i
  unfold A4t A0E;simp only [A7g,D1e]
 unfold A0X V7 A9s A2R;rw [e,C6P,D1d]
noncomputable def okV (x:C9):Bool:=(I1 x.W x.Cap x.Now&&decide ((x.Av.length:Int)<=x.Cap))&&(B4i x.Av x.Now&&x.Av.all fun p=>F3 x.Now x.W p.T&&H8 p.V)
theorem D1F {α:Type} {l:List α} {p:α->Bool}:(List.range l.length).any (fun i=>match l[i]? with
  |some x=> !p x
  |none=>false)= !l.all p:=by
 rw [D4S,A8o];constructor
 ·rintro ⟨i,hi,h⟩;rw [G7 hi] at h;simp only [D4T] at h⊢;rw [List.all_eq_false];exact ⟨l[i],D5m hi,by simp [h]⟩
 ·intro h;simp only [D4T] at h;rw [List.all_eq_false] at h;obtain ⟨x,hx,hp⟩:=h;obtain ⟨i,hi,rfl⟩:=List.mem_iff_getElem.1 hx;refine ⟨i,hi, ?_⟩;rw [G7 hi];simpa using hp
theorem B4j (x:C9) (hl:x.Av.length<=maxLen):V7 x=some (if okV x then 0 else 2):=by
 have h:A2R x 0=cond (!(x.Av.all fun p=>F3 x.Now x.W p.T&&H8 p.V)) (some 2) (some 0):=by
  rw [<-D1F];unfold A2R;refine A1G (fun i hi=> ?_) ?_
  ·unfold A0E;simp only [Int.ofNat_lt,hi,decide_true,D4B,M4,G7 hi,D4x,I9 hi hl,Bool.not_and]
  ·unfold A0E;simp
 unfold V7 okV;rw [C8D x.Av x.Now hl,h];have hd:decide ((x.Av.length:Int)>x.Cap)= !decide ((x.Av.length:Int)<=x.Cap):=by
  rw [D4S];simp
 rw [hd];cases I1 x.W x.Cap x.Now<;>cases decide ((x.Av.length:Int)<=x.Cap)<;>cases B4i x.Av x.Now<;>cases (x.Av.all fun p=>F3 x.Now x.W p.T&&H8 p.V)<;>rfl
end Go.Win
namespace Go.Win
open Go.Vc Go.Dec
def H1 (w:A1):Prop:=0<=w.Hi/\w.Hi<18446744073709551616/\0<=w.Lo/\w.Lo<18446744073709551616
def wv (w:A1):Int:=w.Hi*18446744073709551616+w.Lo
def E9 (n:Int):A1:=⟨n/18446744073709551616,n%18446744073709551616⟩
theorem L1 (n:Int):wv (E9 n)=n:=by
 unfold wv E9;simp only;omega
theorem P5 {n:Int} (h0:0<=n) (h1:n<340282366920938463463374607431768211456):H1 (E9 n):=by
 unfold H1 E9;simp only;omega
theorem C37 {w:A1} (h:H1 w):E9 (wv w)=w:=by
 obtain ⟨a,b⟩:=w;unfold H1 at h;unfold E9 wv;simp only at h⊢
 congr 1<;>omega
theorem O7 {w:A1} (h:H1 w):0<=wv w/\wv w<340282366920938463463374607431768211456:=by
 unfold H1 at h;unfold wv;omega
theorem C2r (x y c:Int) (hx:0<=x) (hy:0<=y) (h0:0<=c) (h1:c<=1):N2 x y c=some ((x+y+c)%18446744073709551616,(x+y+c)/18446744073709551616):=by
 unfold N2;rw [D4C (⟨hx,hy,h0,h1⟩:0<=x/\0<=y/\0<=c/\c<=1)]
 rfl
theorem B20 (x y b:Int) (hx:0<=x) (hy:0<=y) (h0:0<=b) (h1:b<=1) (h2:y<18446744073709551616):K4 x y b=some ((x+18446744073709551616-y-b)%18446744073709551616,if x<y+b then 1 else 0):=by
 unfold K4;rw [D4C (⟨hx,hy,h0,h1,by omega⟩:0<=x/\0<=y/\0<=b/\b<=1/\y+b<=x+18446744073709551616)]
 rfl
theorem A47 {a b:A1} (ha:H1 a) (hb:H1 b):A46 a b=some (if wv a+wv b<340282366920938463463374607431768211456 then (E9 (wv a+wv b),true) else (⟨0,0⟩,false)):=by
 unfold H1 at ha hb;unfold A46;rw [C2r _ _ _ (by omega) (by omega) (by omega) (by omega)]
 simp only [D4x];rw [C2r _ _ _ (by omega) (by omega) (by omega) (by omega)]
 simp only [D4x];unfold wv
 by_cases h:a.Hi*18446744073709551616+a.Lo+(b.Hi*18446744073709551616+b.Lo)<340282366920938463463374607431768211456
 ·rw [if_pos h];have e:(a.Hi+b.Hi+(a.Lo+b.Lo+0)/18446744073709551616)/18446744073709551616=0:=by omega
  rw [e];simp only [D5a,D4A];unfold E9
  congr 3<;>omega
 ·rw [if_neg h];have e:((a.Hi+b.Hi+(a.Lo+b.Lo+0)/18446744073709551616)/18446744073709551616 !=0)=true:=by
   rw [bne_iff_ne];omega
  rw [e];rfl
theorem B1W:A7j=A46:=rfl
theorem B8H {a b:A1} (ha:H1 a) (hb:H1 b):A8S a b=some (if wv b<=wv a then (E9 (wv a-wv b),true) else (⟨0,0⟩,false)):=by
 unfold H1 at ha hb;unfold A8S;rw [B20 _ _ _ (by omega) (by omega) (by omega) (by omega) (by omega)]
 simp only [D4x];unfold wv
 by_cases hl:a.Lo<b.Lo+0
 ·rw [if_pos hl,B20 _ _ _ (by omega) (by omega) (by omega) (by omega) (by omega)]
  simp only [D4x]
  by_cases h:b.Hi*18446744073709551616+b.Lo<=a.Hi*18446744073709551616+a.Lo
  ·rw [if_pos h,if_neg (by omega)]
   simp only [D5a,D4A];unfold E9
   congr 3<;>omega
  ·rw [if_neg h,if_pos (by omega)]
   rfl
 ·rw [if_neg hl,B20 _ _ _ (by omega) (by omega) (by omega) (by omega) (by omega)]
  simp only [D4x]
  by_cases h:b.Hi*18446744073709551616+b.Lo<=a.Hi*18446744073709551616+a.Lo
  ·rw [if_pos h,if_neg (by omega)]
   simp only [D5a,D4A];unfold E9
   congr 3<;>omega
  ·rw [if_neg h,if_pos (by omega)]
   rfl
theorem A0K {a b:A1} (ha:H1 a) (hb:H1 b):S3 a b=if wv a<wv b then-1 else if wv a=wv b then 0 else 1:=by
 unfold H1 at ha hb;unfold S3 wv
 by_cases h:(decide (a.Hi<b.Hi)||((a.Hi==b.Hi)&&decide (a.Lo<b.Lo)))=true
 ·rw [h,D4B];simp only [D4I,D4F,D4z,D5r] at h;rw [if_pos (by omega)]
 ·rw [Bool.not_eq_true] at h;rw [h,D4A];simp only [D47,D5o,D4O,D5n] at h
  by_cases h2:(a.Hi==b.Hi&&(a.Lo==b.Lo&&true))=true
  ·rw [h2,D4B];simp only [D4F,D5r] at h2;rw [if_neg (by omega),if_pos (by omega)]
  ·rw [Bool.not_eq_true] at h2;rw [h2,D4A];simp only [D5o,D5n,Bool.true_eq_false,or_false] at h2;rw [if_neg (by omega),if_neg (by omega)]
theorem B4V {a:Int} (h1:-9223372036854775808<=a) (h2:a<=9223372036854775807):S8 a=if a<0 then-a else a:=by
 unfold S8
 by_cases h:a<0
 ·rw [D4C h,D4B,if_pos h,M0];show IntKind.u64.wrap _=_;rw [IntKind.wrap_u64];omega
 ·rw [D4E h,D4A,if_neg h,M0];omega
theorem A8n {a:Int} (h1:-9223372036854775808<=a) (h2:a<=9223372036854775807):G6 a=if a<0 then-a else a:=by
 unfold G6
 by_cases h:a<0
 ·rw [D4C h,D4B,if_pos h];have e1:A2 (a+1)=a+1:=by rw [B9]<;>omega
  have e2:IntKind.i64.wrap (0-(a+1))= -a-1:=by rw [IntKind.wrap_i64];omega
  rw [e1,e2,M0,M0];omega
 ·rw [D4E h,D4A,if_neg h,M0];omega
end Go.Win
namespace Go.Win
open Go.Vc Go.Dec
theorem D2Q {x:Int} (h0:0<=x) (h1:x<18446744073709551616):((BitVec.ofInt IntKind.u64.bits x&&&BitVec.ofInt IntKind.u64.bits 4294967295).toNat:Int)=x%4294967296:=by
 obtain ⟨n,rfl⟩:=Int.eq_ofNat_of_zero_le h0;have e:(BitVec.ofInt IntKind.u64.bits (n:Int)&&&BitVec.ofInt IntKind.u64.bits 4294967295).toNat=n%4294967296:=by
  have hb:IntKind.u64.bits=64:=rfl;rw [hb,BitVec.toNat_and,BitVec.toNat_ofInt,BitVec.toNat_ofInt];have h2:(((n:Int)%((2^64:Nat):Int)).toNat)=n:=by omega
  have h3:((4294967295:Int)%((2^64:Nat):Int)).toNat=2^32-1:=by decide
  rw [h2,h3,Nat.and_two_pow_sub_one_eq_mod]
 rw [e];omega
theorem C3N {x:Int} (h0:0<=x) (h1:x<18446744073709551616):S9 .u64 x 4294967295=x%4294967296:=by
 show IntKind.u64.wrap _=_;rw [D2Q h0 h1,IntKind.wrap_u64];omega
theorem C9r {x:Int} (h0:0<=x) (h1:x<18446744073709551616):S9 .u64 x 9223372036854775807=x%9223372036854775808:=by
 show IntKind.u64.wrap _=_;obtain ⟨n,rfl⟩:=Int.eq_ofNat_of_zero_le h0;have e:(BitVec.ofInt IntKind.u64.bits (n:Int)&&&BitVec.ofInt IntKind.u64.bits 9223372036854775807).toNat=n%9223372036854775808:=by
  have hb:IntKind.u64.bits=64:=rfl;rw [hb,BitVec.toNat_and,BitVec.toNat_ofInt,BitVec.toNat_ofInt];have h2:(((n:Int)%((2^64:Nat):Int)).toNat)=n:=by omega
  have h3:((9223372036854775807:Int)%((2^64:Nat):Int)).toNat=2^63-1:=by decide
  rw [h2,h3,Nat.and_two_pow_sub_one_eq_mod]
 rw [e,IntKind.wrap_u64];omega
theorem C3Q (x:Int):F8 .u64 x 32=x/4294967296:=by
 show x.fdiv (2^(min (32:Int).toNat IntKind.u64.bits))=_;have:(2:Int)^(min (32:Int).toNat IntKind.u64.bits)=4294967296:=by decide
 rw [this,Int.fdiv_eq_ediv_of_nonneg _ (by decide)]
theorem D4j (a b c d:Int):(a*4294967296+b)*(c*4294967296+d)=(a*c)*18446744073709551616+(a*d+b*c)*4294967296+b*d:=by
 grind
theorem B60 {a b:Int} (ha:0<=a/\a<4294967296) (hb:0<=b/\b<4294967296):0<=a*b/\a*b<=18446744065119617025:=by
 refine ⟨Int.mul_nonneg ha.1 hb.1, ?_⟩;have:=Int.mul_le_mul (show a<=4294967295 by omega) (show b<=4294967295 by omega) hb.1 (by decide)
 simpa using this
theorem C2u {x y:Int} (hx:0<=x/\x<18446744073709551616) (hy:0<=y/\y<18446744073709551616):Q4 x y=(x*y/18446744073709551616,x*y%18446744073709551616):=by
 unfold Q4;have e:=D4j (x/4294967296) (x%4294967296) (y/4294967296) (y%4294967296);rw [show x/4294967296*4294967296+x%4294967296=x by omega,show y/4294967296*4294967296+y%4294967296=y by omega] at e
 have bp:=B60 (a:=x%4294967296) (b:=y%4294967296) (by omega) (by omega)
 have bq:=B60 (a:=x/4294967296) (b:=y%4294967296) (by omega) (by omega)
 have br:=B60 (a:=x%4294967296) (b:=y/4294967296) (by omega) (by omega)
 have bs:=B60 (a:=x/4294967296) (b:=y/4294967296) (by omega) (by omega)
 congr 1
 ·rw [C3N hx.1 hx.2,C3N hy.1 hy.2,C3Q,C3Q]
  generalize x%4294967296*(y%4294967296)=p at*
  generalize x/4294967296*(y%4294967296)=q at*
  generalize x%4294967296*(y/4294967296)=r at*
  generalize x/4294967296*(y/4294967296)=s at*
  have w1: ∀n:Int,0<=n->n<18446744073709551616->A7 n=n:=fun n h1 h2=>by rw [M0];omega
  simp only [C3Q];rw [w1 p (by omega) (by omega),w1 q (by omega) (by omega),w1 (q+p/4294967296) (by omega) (by omega),C3N (by omega) (by omega),w1 r (by omega) (by omega),w1 ((q+p/4294967296)%4294967296+r) (by omega) (by omega),w1 s (by omega) (by omega),
   w1 (s+(q+p/4294967296)/4294967296) (by omega) (by omega),w1 _ (by omega) (by omega)]
  omega
theorem A4i {x y:Int} (hx:0<=x/\x<18446744073709551616) (hy:0<=y/\y<18446744073709551616):0<=x*y/\x*y<340282366920938463463374607431768211456:=by
 refine ⟨Int.mul_nonneg hx.1 hy.1, ?_⟩;have:=Int.mul_le_mul (show x<=18446744073709551615 by omega) (show y<=18446744073709551615 by omega) hy.1 (by decide)
 omega
theorem A2l {x y:Int} (hx:0<=x/\x<18446744073709551616) (hy:0<=y/\y<18446744073709551616):H5 x y=E9 (x*y):=by
 unfold H5;rw [C2u hx hy]
 rfl
def L6:List B3->Int
 | []=>0
 |p::l=>(if p.V<0 then 0 else p.V)+L6 l
def L5:List B3->Int
 | []=>0
 |p::l=>(if p.V<0 then-p.V else 0)+L5 l
theorem C5T (a b:List B3):L6 (a++b)=L6 a+L6 b:=by
 induction a with
 |nil=>simp [L6]
 |cons p a ih=>simp only [List.cons_append,L6,ih];omega
theorem C5I (a b:List B3):L5 (a++b)=L5 a+L5 b:=by
 induction a with
 |nil=>simp [L5]
 |cons p a ih=>simp only [List.cons_append,L5,ih];omega
def A66 (l:List B3):Prop:= ∀p∈l,-9223372036854775808<=p.V/\p.V<=9223372036854775807
theorem B4O (l:List B3) (h:A66 l):0<=L6 l/\L6 l<=l.length*9223372036854775808:=by
 induction l with
 |nil=>simp [L6]
 |cons p l ih=>
  have h1:=h p (by simp)
  have h2:=ih (fun q hq=>h q (by simp [hq]))
  simp only [L6,D4Q];split<;>omega
theorem B4K (l:List B3) (h:A66 l):0<=L5 l/\L5 l<=l.length*9223372036854775808:=by
 induction l with
 |nil=>simp [L5]
 |cons p l ih=>
  have h1:=h p (by simp)
  have h2:=ih (fun q hq=>h q (by simp [hq]))
  simp only [L5,D4Q];split<;>omega
theorem C1H {l:List B3} (h:A66 l) (i:Nat):A66 (l.take i):=fun p hp=>h p (List.mem_of_mem_take hp)
theorem C9X (l:List B3) {i:Nat} (hi:i<l.length):L6 (l.take (i+1))=L6 (l.take i)+(if l[i].V<0 then 0 else l[i].V):=by
 rw [List.take_succ_eq_append_getElem hi,C5T];simp [L6]
theorem C9F (l:List B3) {i:Nat} (hi:i<l.length):L5 (l.take (i+1))=L5 (l.take i)+(if l[i].V<0 then-l[i].V else 0):=by
 rw [List.take_succ_eq_append_getElem hi,C5I];simp [L5]
theorem C4O (l:List B3) (h:A66 l) (hl:l.length<=1000):
  A4b l=some (if L5 l<=L6 l then (false,E9 (L6 l-L5 l)) else (true,E9 (L5 l-L6 l))):=by
 have hm:l.length<=maxLen:=by rw [G9];omega
 unfold A4b B3N;obtain ⟨r,hr,hQ⟩:=J4 (f:=fun s:Int×Int×Int×Int×Int=>A7F l s.1 s.2.1 s.2.2.1 s.2.2.2.1 s.2.2.2.2)
  (fun s=> ∃i:Nat,i<=l.length/\s=((i:Int),(E9 (L6 (l.take i))).Hi,(E9 (L6 (l.take i))).Lo,(E9 (L5 (l.take i))).Hi,(E9 (L5 (l.take i))).Lo))
  (fun s=>l.length-s.1.toNat) (fun r=>r=(if L5 l<=L6 l then (false,E9 (L6 l-L5 l)) else (true,E9 (L5 l-L6 l)))) (0,0,0,0,0) ⟨0,Nat.zero_le _,rfl⟩ (by
   rintro _ ⟨i,hi,rfl⟩;simp only;have hP:=B4O (l.take i) (C1H h i);have hN:=B4K (l.take i) (C1H h i);have hlen:(l.take i).length<=1000:=by rw [D4Z];omega
   have oP:H1 (E9 (L6 (l.take i))):=P5 hP.1 (by omega)
   have oN:H1 (E9 (L5 (l.take i))):=P5 hN.1 (by omega)
   unfold A7F
   by_cases hlt:i<l.length
   ·left;have hr:=h l[i] (D5m hlt);have e1:(⟨(E9 (L6 (l.take i))).Hi,(E9 (L6 (l.take i))).Lo⟩:A1)=E9 (L6 (l.take i)):=rfl;have e2:(⟨(E9 (L5 (l.take i))).Hi,(E9 (L5 (l.take i))).Lo⟩:A1)=E9 (L5 (l.take i)):=rfl;have oV:H1 (H7 (S8 l[i].V)):=by
     rw [B4V hr.1 hr.2];unfold H1 H7;simp only;split<;>omega
    have vV:wv (H7 (S8 l[i].V))=if l[i].V<0 then-l[i].V else l[i].V:=by
     rw [B4V hr.1 hr.2];unfold wv H7;simp only;split<;>omega
    refine ⟨((i:Int)+1,(E9 (L6 (l.take (i+1)))).Hi,(E9 (L6 (l.take (i+1)))).Lo,(E9 (L5 (l.take (i+1)))).Hi,(E9 (L5 (l.take (i+1)))).Lo), ?_,⟨i+1,hlt,by simp⟩,by show l.length-((i:Int)+1).toNat<l.length-(i:Int).toNat;omega⟩
    simp only [Int.ofNat_lt,hlt,decide_true,D4B,M4,G7 hlt,D4x,e1,e2,I9 hlt hm];rw [C9X l hlt,C9F l hlt]
    by_cases hv:l[i].V<0
    ·rw [A47 oN oV,vV,L1];simp only [if_pos hv];rw [if_pos (by omega)]
     simp only [D4C hv,D4B,D4x,Int.add_zero]
    ·rw [A47 oP oV,vV,L1];simp only [if_neg hv];rw [if_pos (by omega)]
     simp only [D4E hv,D4A,D4x,Int.add_zero]
   ·right;have hn: ¬((i:Int)<(l.length:Int)):=by omega
    have hi2:i=l.length:=by omega
    subst hi2;rw [List.take_length] at*
    have e1:(⟨(E9 (L6 l)).Hi,(E9 (L6 l)).Lo⟩:A1)=E9 (L6 l):=rfl;have e2:(⟨(E9 (L5 l)).Hi,(E9 (L5 l)).Lo⟩:A1)=E9 (L5 l):=rfl;simp only [hn,decide_false,D4A,e1,e2];rw [A0K oP oN,B8H oP oN,B8H oN oP,L1,L1]
    by_cases hc:L5 l<=L6 l
    ·rw [if_pos hc];have:decide ((if L6 l<L5 l then (-1:Int) else if L6 l=L5 l then 0 else 1)>=0)=true:=by
      rw [D4z];split
      ·omega
      ·split<;>omega
     rw [this,if_pos hc];exact ⟨_,rfl,rfl⟩
    ·rw [if_neg hc];have:decide ((if L6 l<L5 l then (-1:Int) else if L6 l=L5 l then 0 else 1)>=0)=false:=by
      rw [D4O,if_pos (by omega)];omega
     rw [this,if_neg hc,if_pos (by omega)]
     exact ⟨_,rfl,rfl⟩)
 rw [hr,hQ]
def fit (t:Int):Int×Bool:=if-9223372036854775808<=t/\t<=9223372036854775807 then (t,true) else (0,false)
theorem C9d (l:List B3) (h:A66 l) (hl:l.length<=1000):B2r l=some (fit (L6 l-L5 l)):=by
 have hP:=B4O l h;have hN:=B4K l h;unfold B2r;rw [C4O l h hl];simp only [D4x]
 by_cases hc:L5 l<=L6 l
 ·rw [if_pos hc];unfold E9 fit;simp only [D4K,Bool.and_true,D4A]
  by_cases hf:L6 l-L5 l<=9223372036854775807
  ·rw [if_pos (by omega)]
   have c:((((L6 l-L5 l)/18446744073709551616 !=0)||decide ((L6 l-L5 l)%18446744073709551616>9223372036854775808))||((L6 l-L5 l)%18446744073709551616==9223372036854775808))=false:=by
    simp only [D47,bne_eq_false_iff_eq,D4O,D5n];omega
   rw [c,D4A]
   congr 2
   rw [B9]<;>omega
  ·rw [if_neg (by omega)]
   have c:((((L6 l-L5 l)/18446744073709551616 !=0)||decide ((L6 l-L5 l)%18446744073709551616>9223372036854775808))||((L6 l-L5 l)%18446744073709551616==9223372036854775808))=true:=by
    simp only [D4I,bne_iff_ne,D4z,D5r];omega
   rw [c];rfl
 ·rw [if_neg hc];unfold E9 fit;simp only [D4J,Bool.and_false,Bool.or_false,D4B]
  by_cases hf: -9223372036854775808<=L6 l-L5 l
  ·rw [if_pos (by omega)]
   have c:(((L5 l-L6 l)/18446744073709551616 !=0)||decide ((L5 l-L6 l)%18446744073709551616>9223372036854775808))=false:=by
    simp only [D47,bne_eq_false_iff_eq,D4O];omega
   rw [c,D4A]
   congr 2
   rw [B10,IntKind.wrap_u64];omega
  ·rw [if_neg (by omega)]
   have c:(((L5 l-L6 l)/18446744073709551616 !=0)||decide ((L5 l-L6 l)%18446744073709551616>9223372036854775808))=true:=by
    simp only [D4I,bne_iff_ne,D4z];omega
   rw [c];rfl
theorem C67 {a b:A1} (ha:H1 a) (hb:H1 b):A9u a b=some (if wv b<=wv a then (E9 (wv a-wv b),true) else (⟨0,0⟩,false)):=by
 have hc:O5 a b=if wv a<wv b then-1 else if wv a=wv b then 0 else 1:=A0K ha hb
 have hs:=B8H ha hb;unfold A9u;simp only [hc]
 by_cases h:wv b<=wv a
 ·have d:decide ((if wv a<wv b then (-1:Int) else if wv a=wv b then 0 else 1)<0)=false:=by
   rw [D4O,if_neg (by omega)];split<;>omega
  rw [d,D4A,if_pos h];rw [if_pos h] at hs;unfold A8S at hs;obtain ⟨y,h1,h2⟩:=bS hs;obtain ⟨z,h3,h4⟩:=bS h2;rw [h1];simp only [D4x];rw [h3];simp only [D4x];cases hz:z.2 !=0 with
  |true=>rw [hz] at h4;simp at h4
  |false=>exact cF hz h4
 ·have d:decide ((if wv a<wv b then (-1:Int) else if wv a=wv b then 0 else 1)<0)=true:=by
   rw [D4z,if_pos (by omega)];omega
  rw [d,if_neg h]
  rfl
theorem B7M {p q:A1} (hp:H1 p) (hq:H1 q): ∃x,A4X p q=some (x,decide (-9223372036854775808<=wv p-wv q/\wv p-wv q<=9223372036854775807))/\(-9223372036854775808<=wv p-wv q/\wv p-wv q<=9223372036854775807->x=wv p-wv q):=by
 have rp:=O7 hp;have rq:=O7 hq;unfold A4X;rw [C67 hp hq,C67 hq hp];simp only [D4x]
 by_cases h:wv q<=wv p
 ·rw [if_pos h];unfold E9;simp only [D4B];rw [C9r (by omega) (by omega)]
  refine ⟨A2 ((wv p-wv q)%18446744073709551616%9223372036854775808), ?_, ?_⟩
  ·congr 2
   rw [D4S,D4F,D5r,D4z,D4z];omega
  ·intro hf;rw [B9]<;>omega
 ·rw [if_neg h,if_pos (by omega)]
  unfold E9;simp only [D4A];rw [C9r (by omega) (by omega)]
  by_cases hm:wv q-wv p=9223372036854775808
  ·have c:((wv q-wv p)/18446744073709551616==0&&(wv q-wv p)%18446744073709551616==9223372036854775808)=true:=by
    rw [D4F,D5r,D5r];omega
   rw [c,D4B];refine ⟨-9223372036854775808, ?_, ?_⟩
   ·congr 2
    symm
    rw [D4z];omega
   ·intro _;omega
  ·have c:((wv q-wv p)/18446744073709551616==0&&(wv q-wv p)%18446744073709551616==9223372036854775808)=false:=by
    rw [D5o,D5n,D5n];omega
   rw [c,D4A];refine ⟨IntKind.i64.wrap (0-A2 ((wv q-wv p)%18446744073709551616%9223372036854775808)), ?_, ?_⟩
   ·congr 2
    rw [D4S,D4F,D5r,D4z,D4z];omega
   ·intro hf;have e:A2 ((wv q-wv p)%18446744073709551616%9223372036854775808)=wv q-wv p:=by rw [B9]<;>omega
    rw [e,IntKind.wrap_i64];omega
end Go.Win
namespace Go.Win
open Go.Vc Go.Dec
def pT:List A1->List Bool->Int
 |w::ws,b::bs=>(if b then 0 else wv w)+pT ws bs
 |_,_=>0
def nT:List A1->List Bool->Int
 |w::ws,b::bs=>(if b then wv w else 0)+nT ws bs
 |_,_=>0
theorem R8 {α:Type} {b:Bool} {k:Option α} (h:b=true):ck b k=k:=by rw [h];rfl
def okL (ws:List A1):Prop:= ∀w∈ws,H1 w
theorem C1w: ∀(a:List A1) (b:List Bool) (w:A1) (c:Bool),a.length=b.length->pT (a++ [w]) (b++ [c])=pT a b+(if c then 0 else wv w)
 | [], [],w,c,_=>by simp [pT]
 |x::a,y::b,w,c,h=>by
  simp only [List.cons_append,pT];rw [C1w a b w c (by simpa using h)];omega
 | [],_::_,_,_,h=>by simp at h
 |_::_, [],_,_,h=>by simp at h
theorem C1s: ∀(a:List A1) (b:List Bool) (w:A1) (c:Bool),a.length=b.length->nT (a++ [w]) (b++ [c])=nT a b+(if c then wv w else 0)
 | [], [],w,c,_=>by simp [nT]
 |x::a,y::b,w,c,h=>by
  simp only [List.cons_append,nT];rw [C1s a b w c (by simpa using h)];omega
 | [],_::_,_,_,h=>by simp at h
 |_::_, [],_,_,h=>by simp at h
theorem C0J (ws:List A1) (bs:List Bool) (hl:ws.length=bs.length) {i:Nat} (hi:i<ws.length):
  pT (ws.take (i+1)) (bs.take (i+1))=pT (ws.take i) (bs.take i)+(if bs[i]'(hl▸hi) then 0 else wv ws[i]):=by
 rw [List.take_succ_eq_append_getElem hi,List.take_succ_eq_append_getElem (hl▸hi),C1w _ _ _ _ (by simp only [D4Z];omega)]
theorem C0F (ws:List A1) (bs:List Bool) (hl:ws.length=bs.length) {i:Nat} (hi:i<ws.length):
  nT (ws.take (i+1)) (bs.take (i+1))=nT (ws.take i) (bs.take i)+(if bs[i]'(hl▸hi) then wv ws[i] else 0):=by
 rw [List.take_succ_eq_append_getElem hi,List.take_succ_eq_append_getElem (hl▸hi),C1s _ _ _ _ (by simp only [D4Z];omega)]
theorem D2q (ws:List A1) (bs:List Bool) (hl:ws.length=bs.length) (h:okL ws) {i:Nat} (hi:i<=ws.length):
  0<=pT (ws.take i) (bs.take i)/\pT (ws.take i) (bs.take i)<=pT ws bs:=by
 have up: ∀k,i+k<=ws.length->pT (ws.take i) (bs.take i)<=pT (ws.take (i+k)) (bs.take (i+k)):=by
  intro k
  induction k with
  |zero=>intro _;exact Int.le_refl _
  |succ k ih=>
   intro hk;have:=ih (by omega)
   have r:=O7 (h ws[i+k] (D5m (by omega)))
   rw [<-Nat.add_assoc,C0J ws bs hl (by omega)]
   split<;>omega
 have dn: ∀k,k<=ws.length->0<=pT (ws.take k) (bs.take k):=by
  intro k
  induction k with
  |zero=>intro _;simp [pT]
  |succ k ih=>
   intro hk;have:=ih (by omega)
   have r:=O7 (h ws[k] (D5m (by omega)))
   rw [C0J ws bs hl (by omega)]
   split<;>omega
 refine ⟨dn i hi, ?_⟩;have:=up (ws.length-i) (by omega)
 rw [show i+(ws.length-i)=ws.length by omega,List.take_length,hl,List.take_length] at this
 exact this
theorem D16 (ws:List A1) (bs:List Bool) (hl:ws.length=bs.length) (h:okL ws) {i:Nat} (hi:i<=ws.length):
  0<=nT (ws.take i) (bs.take i)/\nT (ws.take i) (bs.take i)<=nT ws bs:=by
 have up: ∀k,i+k<=ws.length->nT (ws.take i) (bs.take i)<=nT (ws.take (i+k)) (bs.take (i+k)):=by
  intro k
  induction k with
  |zero=>intro _;exact Int.le_refl _
  |succ k ih=>
   intro hk;have:=ih (by omega)
   have r:=O7 (h ws[i+k] (D5m (by omega)))
   rw [<-Nat.add_assoc,C0F ws bs hl (by omega)]
   split<;>omega
 have dn: ∀k,k<=ws.length->0<=nT (ws.take k) (bs.take k):=by
  intro k
  induction k with
  |zero=>intro _;simp [nT]
  |succ k ih=>
   intro hk;have:=ih (by omega)
   have r:=O7 (h ws[k] (D5m (by omega)))
   rw [C0F ws bs hl (by omega)]
   split<;>omega
 refine ⟨dn i hi, ?_⟩;have:=up (ws.length-i) (by omega)
 rw [show i+(ws.length-i)=ws.length by omega,List.take_length,hl,List.take_length] at this
 exact this
theorem C1F (ws:List A1) (bs:List Bool) (hl:ws.length=bs.length) (h:okL ws) (hm:ws.length<=maxLen):
  ∃P N ok,A6k ws bs=some (P,N,ok)/\H1 P/\H1 N/\
   ok=decide (pT ws bs<340282366920938463463374607431768211456/\nT ws bs<340282366920938463463374607431768211456)/\
   (ok=true->wv P=pT ws bs/\wv N=nT ws bs):=by
 unfold A6k B30;obtain ⟨r,hr,hQ⟩:=J4 (f:=fun s:Bool×Int×Int×Int×Int×Int=>A7V ws bs s.1 s.2.1 s.2.2.1 s.2.2.2.1 s.2.2.2.2.1 s.2.2.2.2.2)
  (fun s=> ∃(i:Nat) (P N:A1),i<=ws.length/\H1 P/\H1 N/\s=(s.1,(i:Int),P.Hi,P.Lo,N.Hi,N.Lo)/\
   (s.1=true->wv P=pT (ws.take i) (bs.take i)/\wv N=nT (ws.take i) (bs.take i))/\
   (s.1=false->340282366920938463463374607431768211456<=pT (ws.take i) (bs.take i)\/340282366920938463463374607431768211456<=nT (ws.take i) (bs.take i)))
  (fun s=>ws.length-s.2.1.toNat)
  (fun r=>H1 r.1/\H1 r.2.1/\
   r.2.2=decide (pT ws bs<340282366920938463463374607431768211456/\nT ws bs<340282366920938463463374607431768211456)/\
   (r.2.2=true->wv r.1=pT ws bs/\wv r.2.1=nT ws bs)) (true,0,0,0,0,0)
  ⟨0,⟨0,0⟩,⟨0,0⟩,Nat.zero_le _,by unfold H1;simp,by unfold H1;simp,rfl,by intro _;simp [wv,pT,nT],by intro e;simp at e⟩ (by
   rintro ⟨ok,v,a1,a2,a3,a4⟩ ⟨i,P,N,hi,oP,oN,e,hok,hbad⟩;simp only [Prod.mk.injEq,true_and] at e;obtain ⟨rfl,rfl,rfl,rfl,rfl⟩:=e;simp only at hok hbad⊢;unfold A7V
   by_cases hlt:i<ws.length
   ·left;have hltb:i<bs.length:=by omega
    have oV:=h ws[i] (D5m hlt);have e1:(⟨P.Hi,P.Lo⟩:A1)=P:=rfl;have e2:(⟨N.Hi,N.Lo⟩:A1)=N:=rfl;have sp:=C0J ws bs hl hlt;have sn:=C0F ws bs hl hlt;have mp:=D2q ws bs hl h hi;have mn:=D16 ws bs hl h hi;have rv:=O7 oV;have rp:=O7 oP;have rn:=O7 oN;simp only [Int.ofNat_lt,hlt,decide_true,D4B,M4,G7 hlt,G7 hltb,D4x,e1,e2,B1W];cases hb:bs[i] with
    |true=>
     rw [hb] at sp sn;simp only [if_true] at sp sn;rw [D4B,A47 oN oV];simp only [D4x];unfold A3e;rw [I9 hlt hm]
     by_cases hc:wv N+wv ws[i]<340282366920938463463374607431768211456
     ·rw [if_pos hc];refine ⟨_,rfl,⟨i+1,P,E9 (wv N+wv ws[i]),hlt,oP,P5 (by omega) hc,by simp, ?_, ?_⟩,by show ws.length-((i:Int)+1).toNat<ws.length-(i:Int).toNat;omega⟩
      ·intro ht;simp only [Bool.and_true] at ht;have:=hok ht;rw [L1];omega
      ·intro ht;simp only [Bool.and_true] at ht;have:=hbad ht;omega
     ·rw [if_neg hc];refine ⟨_,rfl,⟨i+1,P,⟨0,0⟩,hlt,oP,by unfold H1;simp,by simp, ?_, ?_⟩,by show ws.length-((i:Int)+1).toNat<ws.length-(i:Int).toNat;omega⟩
      ·intro ht;simp at ht
      ·intro _;cases hk:ok with
       |true=>have:=hok hk;omega
       |false=>have:=hbad hk;omega
    |false=>
     rw [hb] at sp sn;simp only [Bool.false_eq_true,if_false] at sp sn;rw [D4A,A47 oP oV];simp only [D4x];unfold A3e;rw [I9 hlt hm]
     by_cases hc:wv P+wv ws[i]<340282366920938463463374607431768211456
     ·rw [if_pos hc];refine ⟨_,rfl,⟨i+1,E9 (wv P+wv ws[i]),N,hlt,P5 (by omega) hc,oN,by simp, ?_, ?_⟩,by show ws.length-((i:Int)+1).toNat<ws.length-(i:Int).toNat;omega⟩
      ·intro ht;simp only [Bool.and_true] at ht;have:=hok ht;rw [L1];omega
      ·intro ht;simp only [Bool.and_true] at ht;have:=hbad ht;omega
     ·rw [if_neg hc];refine ⟨_,rfl,⟨i+1,⟨0,0⟩,N,hlt,by unfold H1;simp,oN,by simp, ?_, ?_⟩,by show ws.length-((i:Int)+1).toNat<ws.length-(i:Int).toNat;omega⟩
      ·intro ht;simp at ht
      ·intro _;cases hk:ok with
       |true=>have:=hok hk;omega
       |false=>have:=hbad hk;omega
   ·right;have hn: ¬((i:Int)<(ws.length:Int)):=by omega
    have hi2:i=ws.length:=by omega
    subst hi2;rw [List.take_length,hl,List.take_length] at hok hbad;simp only [hn,decide_false,D4A];refine ⟨_,rfl,oP,oN, ?_,hok⟩;have rp:=O7 oP;have rn:=O7 oN;cases hk:ok with
    |true=>have:=hok hk;symm;rw [D4z];omega
    |false=>have:=hbad hk;symm;rw [D4O];omega)
 obtain ⟨h1,h2,h3,h4⟩:=hQ;exact ⟨r.1,r.2.1,r.2.2,hr,h1,h2,h3,h4⟩
theorem C2E {v:Int} (h:-9223372036854775808<=v/\v<=9223372036854775807):H1 (F1 (G6 v))/\wv (F1 (G6 v))=if v<0 then-v else v:=by
 rw [A8n h.1 h.2];unfold H1 wv F1;simp only;split<;>omega
noncomputable def B04 (l:List B3):List A1:=l.map fun p=>F1 (G6 p.V)
def B3i (l:List B3):List Bool:=l.map fun p=>decide (p.V<0)
theorem D0X (l:List B3) (h:A66 l):pT (B04 l) (B3i l)=L6 l:=by
 induction l with
 |nil=>rfl
 |cons p l ih=>
  have h1:=(C2E (h p (by simp))).2
  show (if decide (p.V<0)=true then 0 else wv _)+pT (B04 l) (B3i l)=_
  rw [ih (fun q hq=>h q (by simp [hq])),h1,L6]
  by_cases hv:p.V<0
  ·simp [hv]
  ·simp [hv]
theorem D0N (l:List B3) (h:A66 l):nT (B04 l) (B3i l)=L5 l:=by
 induction l with
 |nil=>rfl
 |cons p l ih=>
  have h1:=(C2E (h p (by simp))).2
  show (if decide (p.V<0)=true then wv _ else 0)+nT (B04 l) (B3i l)=_
  rw [ih (fun q hq=>h q (by simp [hq])),h1,L5]
  by_cases hv:p.V<0
  ·simp [hv]
  ·simp [hv]
theorem D2u (l:List B3) (h:A66 l) (hl:l.length<=1000):B2E l=some (fit (L6 l-L5 l)):=by
 have hm:l.length<=maxLen:=by rw [G9];omega
 unfold B2E B6u;obtain ⟨r,hr,hQ⟩:=J4 (f:=fun s:List A1×List Bool×Int=>A6G l s.1 s.2.1 s.2.2)
  (fun s=> ∃i:Nat,i<=l.length/\s=(B04 (l.take i),B3i (l.take i),(i:Int)))
  (fun s=>l.length-s.2.2.toNat) (fun r=>r=fit (L6 l-L5 l)) ([], [],0) ⟨0,Nat.zero_le _,rfl⟩ (by
   rintro _ ⟨i,hi,rfl⟩;simp only;unfold A6G
   by_cases hlt:i<l.length
   ·left;simp only [Int.ofNat_lt,hlt,decide_true,D4B,M4,G7 hlt,D4x,I9 hlt hm];have l1:(B04 (l.take i)).length=i:=by unfold B04;rw [D5k,D4Z];omega
    have l2:(B3i (l.take i)).length=i:=by unfold B3i;rw [D5k,D4Z];omega
    rw [R8 (by rw [D4z,l1,D5c];omega),R8 (by rw [D4z,l2,D5c];omega)]
    refine ⟨_,rfl,⟨i+1,hlt, ?_⟩,by show l.length-((i:Int)+1).toNat<l.length-(i:Int).toNat;omega⟩
    unfold B04 B3i;rw [List.take_succ_eq_append_getElem hlt,D5w,D5w];simp
   ·right;have hn: ¬((i:Int)<(l.length:Int)):=by omega
    have hi2:i=l.length:=by omega
    subst hi2;rw [List.take_length];have hP:=B4O l h;have hN:=B4K l h;obtain ⟨P,N,ok,e1,oP,oN,e2,e3⟩:=C1F (B04 l) (B3i l) (by simp [B04,B3i]) (by
     intro w hw;obtain ⟨p,hp,rfl⟩:=List.mem_map.mp hw;exact (C2E (h p hp)).1) (by rw [B04,D5k];exact hm)
    rw [D0X l h,D0N l h] at e2 e3;have ok1:ok=true:=by rw [e2,D4z];omega
    have e4:=e3 ok1;obtain ⟨x,e5,e6⟩:=B7M oP oN;rw [e4.1,e4.2] at e5 e6;simp only [hn,decide_false,D4A,e1,D4x,e5];unfold fit
    by_cases hf: -9223372036854775808<=L6 l-L5 l/\L6 l-L5 l<=9223372036854775807
    ·rw [D4C hf,if_pos hf,e6 hf];exact ⟨_,rfl,rfl⟩
    ·rw [D4E hf,if_neg hf];exact ⟨_,rfl,rfl⟩)
 rw [hr,hQ]
def K1:List B3->Int
 | []=>0
 |p::l=>p.V*p.V+K1 l
theorem B4X (a b:List B3):K1 (a++b)=K1 a+K1 b:=by
 induction a with
 |nil=>simp [K1]
 |cons p a ih=>simp only [List.cons_append,K1,ih];omega
theorem B9T (v:Int):0<=v*v:=by
 rcases Int.le_total 0 v with h|h
 ·exact Int.mul_nonneg h h
 ·exact Int.mul_nonneg_of_nonpos_of_nonpos h h
theorem B4g (l:List B3):0<=K1 l:=by
 induction l with
 |nil=>simp [K1]
 |cons p l ih=>have:=B9T p.V;simp only [K1];omega
theorem C4F (l:List B3) {i:Nat} (hi:i<l.length):K1 (l.take (i+1))=K1 (l.take i)+l[i].V*l[i].V:=by
 rw [List.take_succ_eq_append_getElem hi,B4X];simp [K1]
theorem D08 (l:List B3) (i:Nat):K1 (l.take i)<=K1 l:=by
 have:=B4X (l.take i) (l.drop i);rw [List.take_append_drop] at this;have:=B4g (l.drop i);omega
theorem B8P (v:Int):(if v<0 then-v else v)*(if v<0 then-v else v)=v*v:=by
 split
 ·exact Int.neg_mul_neg v v
 ·rfl
noncomputable def sqW (l:List B3):List A1:=l.map fun p=>H5 (G6 p.V) (G6 p.V)
theorem D1z {v:Int} (h:-9223372036854775808<=v/\v<=9223372036854775807):H1 (H5 (G6 v) (G6 v))/\wv (H5 (G6 v) (G6 v))=v*v:=by
 have hx:0<=G6 v/\G6 v<18446744073709551616:=by
  rw [A8n h.1 h.2];split<;>omega
 rw [A2l hx hx];have:=A4i hx hx;refine ⟨P5 this.1 this.2, ?_⟩;rw [L1,A8n h.1 h.2,B8P]
theorem D39 (l:List B3) (h:A66 l):pT (sqW l) (List.replicate l.length false)=K1 l:=by
 induction l with
 |nil=>rfl
 |cons p l ih=>
  have h1:=(D1z (h p (by simp))).2
  show (if false=true then 0 else wv _)+pT (sqW l) (List.replicate l.length false)=_
  rw [ih (fun q hq=>h q (by simp [hq])),h1,K1]
  simp
theorem D34 (l:List B3):nT (sqW l) (List.replicate l.length false)=0:=by
 induction l with
 |nil=>rfl
 |cons p l ih=>
  show (if false=true then wv _ else 0)+nT (sqW l) (List.replicate l.length false)=_
  rw [ih];simp
theorem C4q (l:List B3) (h:A66 l) (hl:l.length<=1000):
  ∃P,A6H l=some (P,decide (K1 l<340282366920938463463374607431768211456))/\H1 P/\(K1 l<340282366920938463463374607431768211456->wv P=K1 l):=by
 have hm:l.length<=maxLen:=by rw [G9];omega
 unfold A6H B1P;obtain ⟨r,hr,hQ⟩:=J4 (f:=fun s:List A1×Int=>A2Q l s.1 s.2)
  (fun s=> ∃i:Nat,i<=l.length/\s=(sqW (l.take i),(i:Int)))
  (fun s=>l.length-s.2.toNat) (fun r=>r.2=decide (K1 l<340282366920938463463374607431768211456)/\H1 r.1/\(K1 l<340282366920938463463374607431768211456->wv r.1=K1 l)) ([],0) ⟨0,Nat.zero_le _,rfl⟩ (by
   rintro _ ⟨i,hi,rfl⟩;simp only;unfold A2Q;have l1:(sqW (l.take i)).length=i:=by unfold sqW;rw [D5k,D4Z];omega
   by_cases hlt:i<l.length
   ·left;simp only [Int.ofNat_lt,hlt,decide_true,D4B,M4,G7 hlt,D4x,I9 hlt hm];rw [R8 (by rw [D4z,l1,D5c];omega)]
    refine ⟨_,rfl,⟨i+1,hlt, ?_⟩,by show l.length-((i:Int)+1).toNat<l.length-(i:Int).toNat;omega⟩
    unfold sqW;rw [List.take_succ_eq_append_getElem hlt,D5w];simp
   ·right;have hn: ¬((i:Int)<(l.length:Int)):=by omega
    have hi2:i=l.length:=by omega
    subst hi2;rw [List.take_length] at*
    obtain ⟨P,N,ok,e1,oP,oN,e2,e3⟩:=C1F (sqW l) (List.replicate l.length false) (by simp [sqW]) (by
     intro w hw;obtain ⟨p,hp,rfl⟩:=List.mem_map.mp hw;exact (D1z (h p hp)).1) (by rw [sqW,D5k];exact hm)
    rw [D39 l h,D34 l] at e2 e3;simp only [hn,decide_false,D4A,l1];rw [R8 (by rw [D4z];omega),D5d,e1]
    simp only [D4x];have e4:ok=decide (K1 l<340282366920938463463374607431768211456):=by
     rw [e2,decide_eq_decide];omega
    refine ⟨_,rfl,e4,oP,fun hh=>(e3 (by rw [e4,D4z];exact hh)).1⟩)
 exact ⟨r.1,by rw [hr,<-hQ.1],hQ.2.1,hQ.2.2⟩
theorem C5Z (l:List B3) (h:A66 l) (hl:l.length<=1000):A6F l=some (fit (K1 l)):=by
 obtain ⟨P,e1,oP,e2⟩:=C4q l h hl;have o0:H1 (A1.mk 0 0):=by unfold H1;simp
 obtain ⟨x,e5,e6⟩:=B7M oP o0;have w0:wv (A1.mk 0 0)=0:=by simp [wv]
 have hnn:=B4g l;have rP:=O7 oP;rw [w0] at e5 e6;unfold A6F fit;rw [e1];simp only [D4x];rw [e5];simp only [D4x]
 by_cases hb:K1 l<340282366920938463463374607431768211456
 ·have hw:=e2 hb;rw [hw] at e6;rw [hw,D4C hb]
  by_cases hf:K1 l<=9223372036854775807
  ·rw [D4C (by omega),if_pos (by omega),e6 (by omega)]
   simp
  ·rw [D4E (by omega),if_neg (by omega)]
   rfl
 ·rw [D4E hb,if_neg (by omega)]
  rfl
theorem C78 {v:Int} (h:-9223372036854775808<=v/\v<=9223372036854775807):B3Y v v=fit (v*v):=by
 have hs:Z1 v=if v<0 then-v else v:=B4V h.1 h.2
 have hx:0<=Z1 v/\Z1 v<18446744073709551616:=by rw [hs];split<;>omega
 have hnn:=B9T v;unfold B3Y;simp only [beq_self_eq_true,D4J,D4A];rw [C2u hx hx,hs,B8P];unfold B0y fit;simp only [beq_self_eq_true,D4J,D4A];have:=A4i hx hx;rw [hs,B8P] at this
 by_cases hf:v*v<=9223372036854775807
 ·have c:((v*v/18446744073709551616 !=0)||decide (v*v%18446744073709551616>9223372036854775807))=false:=by
   simp only [D47,bne_eq_false_iff_eq,D4O];omega
  rw [c,D4A,if_pos (by omega)]
  congr 1
  rw [B9]<;>omega
 ·have c:((v*v/18446744073709551616 !=0)||decide (v*v%18446744073709551616>9223372036854775807))=true:=by
   simp only [D4I,bne_iff_ne,D4z];omega
  rw [c,D4B,if_neg (by omega)]
theorem D2a {a b:Int} (ha:-9223372036854775808<=a/\a<=9223372036854775807) (hb:-9223372036854775808<=b/\b<=9223372036854775807):B66 a b=fit (a+b):=by
 unfold B66 fit;rw [B10]
 by_cases hf: -9223372036854775808<=a+b/\a+b<=9223372036854775807
 ·rw [if_pos hf,show (a+b+9223372036854775808)%18446744073709551616-9223372036854775808=a+b by omega]
  have c:((decide (a>=0)==decide (b>=0))&& !(decide (a+b>=0)==decide (a>=0)))=false:=by
   by_cases x1:a>=0<;>by_cases x2:b>=0<;>by_cases x3:a+b>=0<;>simp [x1,x2,x3]<;>omega
  rw [c,D4A]
 ·rw [if_neg hf];have c:((decide (a>=0)==decide (b>=0))&& !(decide ((a+b+9223372036854775808)%18446744073709551616-9223372036854775808>=0)==decide (a>=0)))=true:=by
   by_cases x1:a>=0<;>by_cases x2:b>=0<;>by_cases x3:(a+b+9223372036854775808)%18446744073709551616-9223372036854775808>=0<;>simp [x1,x2,x3]<;>omega
  rw [c,D4B]
theorem C19 (l:List B3) (h:A66 l) (hl:l.length<=1000):A6w l=some (fit (K1 l)):=by
 have hm:l.length<=maxLen:=by rw [G9];omega
 unfold A6w B1u;obtain ⟨r,hr,hQ⟩:=J4 (f:=fun s:Int×Int=>A5Y l s.1 s.2)
  (fun s=> ∃i:Nat,i<=l.length/\s=(K1 (l.take i),(i:Int))/\K1 (l.take i)<=9223372036854775807)
  (fun s=>l.length-s.2.toNat) (fun r=>r=fit (K1 l)) (0,0) ⟨0,Nat.zero_le _,rfl,by simp [K1]⟩ (by
   rintro _ ⟨i,hi,rfl,hb⟩;simp only;have hnn:=B4g (l.take i);unfold A5Y
   by_cases hlt:i<l.length
   ·have hr:=h l[i] (D5m hlt);have hq:=B9T l[i].V;have st:=C4F l hlt;have mo:=D08 l (i+1);simp only [Int.ofNat_lt,hlt,decide_true,D4B,M4,G7 hlt,D4x,I9 hlt hm,C78 hr]
    by_cases hf:l[i].V*l[i].V<=9223372036854775807
    ·have f1:fit (l[i].V*l[i].V)=(l[i].V*l[i].V,true):=by unfold fit;rw [if_pos (by omega)]
     rw [f1];simp only [D4J,D4A];rw [D2a (by omega) (by omega)]
     by_cases hg:K1 (l.take i)+l[i].V*l[i].V<=9223372036854775807
     ·left;have f2:fit (K1 (l.take i)+l[i].V*l[i].V)=(K1 (l.take i)+l[i].V*l[i].V,true):=by unfold fit;rw [if_pos (by omega)]
      rw [f2];refine ⟨_,rfl,⟨i+1,hlt,by simp only [<-st,Int.natCast_add,Int.cast_ofNat_Int],by omega⟩,by show l.length-((i:Int)+1).toNat<l.length-(i:Int).toNat;omega⟩
     ·right;have f2:fit (K1 (l.take i)+l[i].V*l[i].V)=(0,false):=by unfold fit;rw [if_neg (by omega)]
      have f3:fit (K1 l)=(0,false):=by unfold fit;rw [if_neg (by omega)]
      rw [f2,f3];exact ⟨_,rfl,rfl⟩
    ·right;have f2:fit (l[i].V*l[i].V)=(0,false):=by unfold fit;rw [if_neg (by omega)]
     have f3:fit (K1 l)=(0,false):=by unfold fit;rw [if_neg (by omega)]
     rw [f2,f3];exact ⟨_,rfl,rfl⟩
   ·right;have hn: ¬((i:Int)<(l.length:Int)):=by omega
    have hi2:i=l.length:=by omega
    subst hi2;rw [List.take_length] at*
    simp only [hn,decide_false,D4A];have f3:fit (K1 l)=(K1 l,true):=by unfold fit;rw [if_pos (by omega)]
    exact ⟨_,rfl,f3.symm⟩)
 rw [hr,hQ]
theorem C8r {n:Int} (h:E3 .i64 n): -9223372036854775808<=n/\n<=9223372036854775807:=by
 simp [E3,Lit.wf,IntKind.min,IntKind.max,IntKind.signed,IntKind.bits] at h;omega
end Go.Win
namespace Go.Win
open Go.Vc Go.Dec
theorem B6W:M7=H5:=rfl
theorem A8T:H7=F1:=rfl
theorem D2x (a b c:Int):(0*18446744073709551616+a)*(b*18446744073709551616+c)=(a*b)*18446744073709551616+a*c:=by grind
theorem D2y (a b c:Int):(b*18446744073709551616+c)*(0*18446744073709551616+a)=(a*b)*18446744073709551616+a*c:=by grind
theorem C2K {a b c d:Int} (ha:1<=a) (hb:0<=b) (hc:1<=c) (hd:0<=d):340282366920938463463374607431768211456<=(a*18446744073709551616+b)*(c*18446744073709551616+d):=by
 have:=Int.mul_le_mul (show 18446744073709551616<=a*18446744073709551616+b by omega) (show 18446744073709551616<=c*18446744073709551616+d by omega) (by decide) (by omega)
 simpa using this
theorem C9E {h a b c:Int} (ha:0<=a/\a<18446744073709551616) (hb:0<=b/\b<18446744073709551616) (hc:0<=c/\c<18446744073709551616):
  A6p h a b c=some (if (a*b)*18446744073709551616+a*c<340282366920938463463374607431768211456 then (E9 ((a*b)*18446744073709551616+a*c),true) else (⟨0,0⟩,false)):=by
 have p1:=A4i ha hb;have p2:=A4i ha hc;unfold A6p;simp only [B6W];rw [A2l ha hc,A2l ha hb]
 generalize a*b=m at*
 generalize a*c=n at*
 have e1:(E9 m).Hi=m/18446744073709551616:=rfl;have e2:(E9 m).Lo=m%18446744073709551616:=rfl;rw [e1,e2]
 by_cases hh:m<18446744073709551616
 ·have c1:(m/18446744073709551616 !=0)=false:=by rw [bne_eq_false_iff_eq];omega
  have oM:H1 (A1.mk (m%18446744073709551616) 0):=by unfold H1;simp only;omega
  have vM:wv (A1.mk (m%18446744073709551616) 0)=m*18446744073709551616:=by unfold wv;simp only;omega
  rw [c1,D4A,A47 (P5 p2.1 p2.2) oM,L1,vM,Int.add_comm n];simp only [D4x]
 ·have c1:(m/18446744073709551616 !=0)=true:=by rw [bne_iff_ne];omega
  rw [c1,D4B,if_neg (by omega)]
theorem B17 {a b:A1} (ha:H1 a) (hb:H1 b):A3T a b=some (if wv a*wv b<340282366920938463463374607431768211456 then (E9 (wv a*wv b),true) else (⟨0,0⟩,false)):=by
 obtain ⟨ah,al⟩:=a;obtain ⟨bh,bl⟩:=b;unfold H1 at ha hb;simp only at ha hb;unfold A3T wv;simp only
 by_cases h1:ah=0
 ·subst h1;simp only [D5a,D42,D4A];rw [C9E (by omega) (by omega) (by omega),D2x]
 ·have c1:(ah !=0)=true:=by rw [bne_iff_ne];exact h1
  rw [c1]
  by_cases h2:bh=0
  ·subst h2;simp only [D5a,Bool.and_false,D4A,D4B];rw [C9E (by omega) (by omega) (by omega),D2y]
  ·have c2:(bh !=0)=true:=by rw [bne_iff_ne];exact h2
   have:=C2K (a:=ah) (b:=al) (c:=bh) (d:=bl) (by omega) (by omega) (by omega) (by omega)
   rw [c2,if_neg (by omega)]
   rfl
theorem B7a {a b:A1} (ha:H1 a) (hb:H1 b):A7k a b=some (if wv a*wv b<340282366920938463463374607431768211456 then (E9 (wv a*wv b),true) else (⟨0,0⟩,false)):=by
 obtain ⟨ah,al⟩:=a;obtain ⟨bh,bl⟩:=b;unfold H1 at ha hb;simp only at ha hb;unfold A7k wv;simp only;have q1:=A4i (x:=ah) (y:=bl) (by omega) (by omega)
 have q2:=A4i (x:=al) (y:=bh) (by omega) (by omega)
 have q3:=A4i (x:=al) (y:=bl) (by omega) (by omega)
 rw [A2l (by omega) (by omega),A2l (by omega) (by omega),A2l (by omega) (by omega)]
 have f1:(E9 (ah*bl)).Hi=ah*bl/18446744073709551616:=rfl;have f2:(E9 (ah*bl)).Lo=ah*bl%18446744073709551616:=rfl;have f3:(E9 (al*bh)).Hi=al*bh/18446744073709551616:=rfl;have f4:(E9 (al*bh)).Lo=al*bh%18446744073709551616:=rfl;rw [f1,f2,f3,f4,M0]
 by_cases h3:ah≠0/\bh≠0
 ·have c1:(ah !=0)=true:=by rw [bne_iff_ne];exact h3.1
  have c2:(bh !=0)=true:=by rw [bne_iff_ne];exact h3.2
  have:=C2K (a:=ah) (b:=al) (c:=bh) (d:=bl) (by omega) (by omega) (by omega) (by omega)
  rw [c1,c2,if_neg (by omega)]
  rfl
 ·have c1:((ah !=0)&&(bh !=0))=false:=by
   rw [D5o,bne_eq_false_iff_eq,bne_eq_false_iff_eq];omega
  have e:(ah*18446744073709551616+al)*(bh*18446744073709551616+bl)=(ah*bl+al*bh)*18446744073709551616+al*bl:=by
   by_cases h1:ah=0
   ·subst h1;grind
   ·have h2:bh=0:=by omega
    subst h2;grind
  have z:ah*bl=0\/al*bh=0:=by
   by_cases h1:ah=0
   ·left;rw [h1,Int.zero_mul]
   ·right;rw [show bh=0 by omega,Int.mul_zero]
  rw [c1,D4A,e]
  generalize ah*bl=m at*
  generalize al*bh=n at*
  generalize al*bl=k at*
  by_cases hh:m+n<18446744073709551616
  ·have c2:((m/18446744073709551616 !=0)||(n/18446744073709551616 !=0))=false:=by
    rw [D47,bne_eq_false_iff_eq,bne_eq_false_iff_eq];omega
   have oM:H1 (A1.mk ((m%18446744073709551616+n%18446744073709551616)%18446744073709551616) 0):=by unfold H1;simp only;omega
   have vM:wv (A1.mk ((m%18446744073709551616+n%18446744073709551616)%18446744073709551616) 0)=(m+n)*18446744073709551616:=by unfold wv;simp only;omega
   rw [c2,D4A,B1W,A47 (P5 q3.1 q3.2) oM,L1,vM,Int.add_comm k];simp only [D4x]
  ·have c2:((m/18446744073709551616 !=0)||(n/18446744073709551616 !=0))=true:=by
    rw [D4I,bne_iff_ne,bne_iff_ne];omega
   rw [c2,D4B,if_neg (by omega)]
theorem A88 {n:Int} (h:0<=n/\n<18446744073709551616):H1 (F1 n):=by
 unfold H1 F1;simp only;omega
noncomputable def B8y (n:Int):Nat->A1->A1×Bool
 |0,w=>(w,true)
 |k+1,w=>if wv w*wv (F1 n)<340282366920938463463374607431768211456 then B8y n k (E9 (wv w*wv (F1 n))) else (⟨0,0⟩,false)
theorem B9z {a b:A1} (ha:H1 a) (hb:H1 b):0<=wv a*wv b:=Int.mul_nonneg (O7 ha).1 (O7 hb).1
theorem C63 {n:Int} (hn:0<=n/\n<18446744073709551616): ∀(k:Nat) (w:A1),H1 w->H1 (B8y n k w).1
 |0,_,h=>h
 |k+1,w,h=>by
  unfold B8y;split
  ·exact C63 hn k _ (P5 (B9z h (A88 hn)) (by assumption))
  ·unfold H1;simp
theorem C2p {n:Int} (hn:0<=n/\n<18446744073709551616) (k:Nat): ∀(w:A1),(k:Int)<=9223372036854775807->H1 w->A9j n (k:Int) w.Hi w.Lo=some (B8y n k w):=by
 induction k with
 |zero=>
  intro w _ h;unfold A9j;rw [K9 (r:=(w,true))]
  ·rfl
  ·have c1:decide (((0:Nat):Int)>0)=false:=by rw [D4O];omega
   simp only [A8d,c1,D4A]
   rfl
 |succ k ih0=>
  intro w hk h;have ih:=fun w' h' =>ih0 w' (by omega) h'
  unfold A9j at ih⊢;have c1:decide (((k+1:Nat):Int)>0)=true:=by rw [D4z];omega
  have e1:(⟨w.Hi,w.Lo⟩:A1)=w:=rfl;have hw:A2 (((k+1:Nat):Int)-1)=(k:Int):=by rw [B9]<;>omega
  unfold B8y
  by_cases hf:wv w*wv (F1 n)<340282366920938463463374607431768211456
  ·rw [if_pos hf,K2 (s' :=((k:Int),(E9 (wv w*wv (F1 n))).Hi,(E9 (wv w*wv (F1 n))).Lo))]
   ·exact ih _ (P5 (B9z h (A88 hn)) hf)
   ·simp only [A8d,c1,D4B,e1,A8T,B17 h (A88 hn),if_pos hf,D4x,D4J,D4A,hw]
  ·rw [if_neg hf,K9 (r:=(⟨0,0⟩,false))];simp only [A8d,c1,D4B,e1,A8T,B17 h (A88 hn),if_neg hf,D4x,D4K]
theorem C4p {n:Int} (hn:0<=n/\n<18446744073709551616) (K:Int) (hK:K<=9223372036854775807) (k:Nat): ∀(w:A1),(k:Int)<=K->H1 w->
  A7R n K true (K-k) w.Hi w.Lo=some (B8y n k w):=by
 induction k with
 |zero=>
  intro w _ h;unfold A7R;rw [K9 (r:=(w,true))]
  ·rfl
  ·have c1:(decide (K-((0:Nat):Int)<K)&&true)=false:=by rw [Bool.and_true,D4O];omega
   simp only [A35,c1,D4A]
   rfl
 |succ k ih0=>
  intro w hk h;have ih:=fun w' h' =>ih0 w' (by omega) h'
  unfold A7R at ih⊢;have c1:(decide (K-((k+1:Nat):Int)<K)&&true)=true:=by rw [Bool.and_true,D4z];omega
  have e1:(⟨w.Hi,w.Lo⟩:A1)=w:=rfl;have hw:A2 (K-((k+1:Nat):Int)+1)=K-(k:Int):=by rw [B9]<;>omega
  unfold B8y
  by_cases hf:wv w*wv (F1 n)<340282366920938463463374607431768211456
  ·rw [if_pos hf,K2 (s' :=(true,K-(k:Int),(E9 (wv w*wv (F1 n))).Hi,(E9 (wv w*wv (F1 n))).Lo))]
   ·exact ih _ (P5 (B9z h (A88 hn)) hf)
   ·simp only [A35,c1,D4B,e1,B7a h (A88 hn),if_pos hf,D4x,hw]
  ·rw [if_neg hf,K2 (s' :=(false,K-(k:Int),0,0)),K9 (r:=(⟨0,0⟩,false))]
   ·simp only [A35,Bool.and_false,D4A]
    rfl
   ·simp only [A35,c1,D4B,e1,B7a h (A88 hn),if_neg hf,D4x,hw]
theorem B6r:H1 (A1.mk 0 1):=by unfold H1;simp
theorem D4p {n k:Int} (hn:0<=n/\n<18446744073709551616) (hk:0<=k/\k<=9223372036854775807):
  ∃r,B43 n k=some r/\B2C n k=some r/\H1 r.1:=by
 unfold B43 B2C;have c0:decide (k<0)=false:=by rw [D4O];omega
 rw [c0,D4A,D4A]
 by_cases h1:n<=1
 ·rw [D4C h1,D4B]
  by_cases h2:k=0
  ·subst h2;exact ⟨(A1.mk 0 1,true),by first|rfl|(simp;done)|(simp;rfl),by first|rfl|(simp;done)|(simp;rfl),B6r⟩
  ·have c2:(k==0)=false:=by rw [D5n];exact h2
   have c3:decide (k>0)=true:=by rw [D4z];omega
   rw [c2,c3]
   by_cases h3:n=0
   ·subst h3;exact ⟨(A1.mk 0 0,true),by first|rfl|(simp;done)|(simp;rfl),by first|rfl|(simp;done)|(simp;rfl),by unfold H1;simp⟩
   ·have:n=1:=by omega
    subst this;exact ⟨(A1.mk 0 1,true),by first|rfl|(simp;done)|(simp;rfl),by first|rfl|(simp;done)|(simp;rfl),B6r⟩
 ·rw [D4E h1,D4A];have c1:(n==1)=false:=by rw [D5n];omega
  have c2:(n==0)=false:=by rw [D5n];omega
  rw [c1,c2,Bool.or_false,D4A];obtain ⟨m,rfl⟩:=Int.eq_ofNat_of_zero_le hk.1;have e1:=C2p hn m (A1.mk 0 1) (by omega) B6r
  have e2:=C4p hn (m:Int) (by omega) m (A1.mk 0 1) (by omega) B6r
  rw [Int.sub_self] at e2;refine ⟨_,e1, ?_,C63 hn m _ B6r⟩
  by_cases h2:(m:Int)=0
  ·have:m=0:=by omega
   subst this
   rfl
  ·have c3:((m:Int)==0)=false:=by rw [D5n];exact h2
   rw [c3,D4A];exact e2
theorem D1h (n:Int):0<=A7 n/\A7 n<18446744073709551616:=by rw [M0];omega
end Go.Win
namespace Go.Win
open Go.Vc Go.Dec
theorem bla (f:Nat): ∀x:Nat,x<2^f->x≠0->1<=Lib.bitLenAux f x/\2^(Lib.bitLenAux f x-1)<=x/\x<2^Lib.bitLenAux f x:=by
 induction f with
 |zero=>intro x h h0;simp at h;exact absurd h h0
 |succ f ih=>
  intro x h h0;unfold Lib.bitLenAux;rw [if_neg h0]
  by_cases h1:x/2=0
  ·have:x=1:=by omega
   subst this;have e:Lib.bitLenAux f (1/2)=0:=by cases f<;>simp [Lib.bitLenAux]
   rw [e];simp
  ·have:=ih (x/2) (by rw [Nat.pow_succ] at h;omega) h1
   obtain ⟨b1,b2,b3⟩:=this
   generalize Lib.bitLenAux f (x/2)=b at*
   refine ⟨by omega, ?_, ?_⟩
   ·obtain ⟨c,rfl⟩: ∃c,b=c+1:=⟨b-1,by omega⟩
    rw [show 1+(c+1)-1=c+1 by omega,Nat.pow_succ]
    rw [show c+1-1=c by omega] at b2
    omega
   ·rw [Nat.add_comm,Nat.pow_succ];omega
theorem A3V {x:Int} (h0:0<x) (h1:x<18446744073709551616): ∃b:Nat,W2 x=some (b:Int)/\1<=b/\b<=64/\(2:Int)^(b-1)<=x/\x<2^b:=by
 obtain ⟨n,rfl⟩:=Int.eq_ofNat_of_zero_le (by omega:0<=x)
 have hb:=bla 64 n (by have:(2:Nat)^64=18446744073709551616:=by decide
                       omega) (by omega)
 refine ⟨Lib.bitLen n, ?_,hb.1, ?_, ?_, ?_⟩
 ·unfold W2;rw [R8 (by rw [D4z];omega),D5d]
 ·have:Lib.bitLen n-1<64:=by
   refine (Nat.pow_lt_pow_iff_right (a:=2) (by decide)).1 (Nat.lt_of_le_of_lt hb.2.1 ?_)
   have:(2:Nat)^64=18446744073709551616:=by decide
   omega
  omega
 ·have:=hb.2.1
  exact_mod_cast this
 ·have:=hb.2.2
  exact_mod_cast this
theorem B1C {a b k:Nat} (hb:b<2^k) (h:a*2^k+b<18446744073709551616):R3 .u64 ((a*2^k:Nat):Int) (b:Int)=((a*2^k+b:Nat):Int):=by
 show IntKind.u64.wrap _=_;have hbits:IntKind.u64.bits=64:=rfl;rw [hbits,IntKind.wrap_u64,BitVec.toNat_or,BitVec.toNat_ofInt,BitVec.toNat_ofInt];have e1:((((a*2^k:Nat):Int)%((2^64:Nat):Int)).toNat)=a*2^k:=by omega
 have e2:(((b:Int)%((2^64:Nat):Int)).toNat)=b:=by omega
 rw [e1,e2];have e3:a*2^k|||b=a*2^k+b:=by
  rw [<-Nat.shiftLeft_eq,Nat.shiftLeft_add_eq_or_of_lt hb]
 rw [e3];omega
theorem B3V (x:Int) {k:Nat} (hk:k<=64):D9 .u64 x (k:Int)=(x*2^k)%18446744073709551616:=by
 show IntKind.u64.wrap (x*2^(min (k:Int).toNat IntKind.u64.bits))=_;have:min (k:Int).toNat IntKind.u64.bits=k:=by
  have hbits:IntKind.u64.bits=64:=rfl;rw [hbits,D5d];omega
 rw [this,IntKind.wrap_u64]
theorem B3W (x:Int) {k:Nat} (hk:k<=64):F8 .u64 x (k:Int)=x/2^k:=by
 show x.fdiv (2^(min (k:Int).toNat IntKind.u64.bits))=_;have:min (k:Int).toNat IntKind.u64.bits=k:=by
  have hbits:IntKind.u64.bits=64:=rfl;rw [hbits,D5d];omega
 rw [this,Int.fdiv_eq_ediv_of_nonneg _ (Int.le_of_lt (Int.pow_pos (by decide)))]
noncomputable def A2i (a:A1) (k:Nat):A1×Bool:=
 if wv a*2^k<340282366920938463463374607431768211456 then (E9 (wv a*2^k),true) else (⟨0,0⟩,false)
theorem D0I {h l k:Nat} (hk:k<=63) (hl:l<18446744073709551616) (hno:((h:Int)*18446744073709551616+l)*2^k<340282366920938463463374607431768211456):
  (⟨R3 .u64 (D9 .u64 (h:Int) (k:Int)) (F8 .u64 (l:Int) ((64-k:Nat):Int)),D9 .u64 (l:Int) (k:Int)⟩:A1)=E9 (((h:Int)*18446744073709551616+l)*2^k):=by
 have hP:((2:Int)^k)=((2^k:Nat):Int):=by simp
 have hQ:((2:Int)^(64-k))=((2^(64-k):Nat):Int):=by simp
 have hPQ:2^(64-k)*2^k=18446744073709551616:=by
  rw [<-Nat.pow_add,show 64-k+k=64 by omega]
 rw [B3V _ (by omega),B3V _ (by omega),B3W _ (by omega)]
 rw [hP] at hno⊢;rw [hQ];have e:((h:Int)*18446744073709551616+l)*((2^k:Nat):Int)=((h*2^k:Nat):Int)*18446744073709551616+((l*2^k:Nat):Int):=by
  rw [Int.natCast_mul,Int.natCast_mul];grind
 have d1:l/2^(64-k)=(l*2^k)/18446744073709551616:=by
  rw [<-hPQ,Nat.mul_div_mul_right _ _ (Nat.two_pow_pos k)]
 have d2:l/2^(64-k)<2^k:=by
  rw [Nat.div_lt_iff_lt_mul (Nat.two_pow_pos _),Nat.mul_comm,hPQ];exact hl
 rw [e] at hno⊢;have c1:(h:Int)*((2^k:Nat):Int)=((h*2^k:Nat):Int):=by rw [Int.natCast_mul]
 have c2:(l:Int)*((2^k:Nat):Int)=((l*2^k:Nat):Int):=by rw [Int.natCast_mul]
 have c3:(l:Int)/((2^(64-k):Nat):Int)=((l/2^(64-k):Nat):Int):=by rw [Int.natCast_ediv]
 rw [c1,c2,c3];have c4:((h*2^k:Nat):Int)%18446744073709551616=((h*2^k:Nat):Int):=by omega
 rw [c4,B1C d2 (by rw [d1];omega),d1]
 unfold E9
 congr 1<;>omega
theorem Q7 (k:Nat):(0:Int)<2^k:=Int.pow_pos (by decide)
theorem C9h {h b k:Nat} (hb:1<=b) (h1:2^(b-1)<=h) (h2:h<2^b):(k+b<=64->(h+1)*2^k<=18446744073709551616)/\(64<k+b->18446744073709551616<=h*2^k):=by
 have e:(2:Nat)^64=18446744073709551616:=by decide
 refine ⟨fun hk=> ?_,fun hk=> ?_⟩
 ·have:=D4V (2^k) (show h+1<=2^b by omega)
  rw [<-Nat.pow_add] at this;have h3:=Nat.pow_le_pow_right (n:=2) (by decide) (show b+k<=64 by omega)
  omega
 ·have:=D4V (2^k) h1;rw [<-Nat.pow_add] at this;have h3:=Nat.pow_le_pow_right (n:=2) (by decide) (show 64<=b-1+k by omega)
  omega
theorem C1L {a:A1} (ha:H1 a) {k:Nat} (hk:k<=63):A7m a (k:Int)=some (A2i a k):=by
 obtain ⟨h,l⟩:=a;unfold H1 at ha;simp only at ha;obtain ⟨h,rfl⟩:=Int.eq_ofNat_of_zero_le ha.1;obtain ⟨l,rfl⟩:=Int.eq_ofNat_of_zero_le ha.2.2.1;unfold A7m A2i;have c0:decide ((k:Int)<0)=false:=by rw [D4O];omega
 have wvE:wv ⟨(h:Int),(l:Int)⟩=(h:Int)*18446744073709551616+l:=rfl;rw [c0,D4A,wvE];have e2:((h:Int)*18446744073709551616+l)*((2^k:Nat):Int)=((h*2^k:Nat):Int)*18446744073709551616+((l*2^k:Nat):Int):=by
  rw [Int.natCast_mul,Int.natCast_mul];grind
 have hP:((2:Int)^k)=((2^k:Nat):Int):=by simp
 have lP:=Nat.mul_lt_mul_of_pos_right (show l<18446744073709551616 by omega) (Nat.two_pow_pos k)
 have kP:=Nat.pow_le_pow_right (n:=2) (by decide) hk
 have c63:(2:Nat)^63=9223372036854775808:=by decide
 have ck1:decide ((k:Int)>=64)=false:=by rw [D4O];omega
 have wk:A7 (k:Int)=(k:Int):=by rw [M0];omega
 have w1:A2 (64-(k:Int))=((64-k:Nat):Int):=by rw [B9]<;>omega
 have w2:A7 ((64-k:Nat):Int)=((64-k:Nat):Int):=by rw [M0];omega
 have tail: ∀(_:((h:Int)*18446744073709551616+l)*2^k<340282366920938463463374607431768211456),
   (cond (decide ((k:Int)>=(64:Int))) (
    ck (decide (0<=(A7 (A2 ((k:Int)-(64:Int))))))<|
    some ((A1.mk (D9 .u64 (l:Int) (A7 (A2 ((k:Int)-(64:Int))))) (0:Int)),true))<|
   ck (decide (0<=(A7 (k:Int))))<|
   ck (decide (0<=(A7 (A2 ((64:Int)-(k:Int))))))<|
   ck (decide (0<=(A7 (k:Int))))<|
   some ((A1.mk (R3 .u64 (D9 .u64 (h:Int) (A7 (k:Int))) (F8 .u64 (l:Int) (A7 (A2 ((64:Int)-(k:Int)))))) (D9 .u64 (l:Int) (A7 (k:Int)))),true))
   =some (E9 (((h:Int)*18446744073709551616+l)*2^k),true):=by
  intro hno;rw [ck1,D4A,wk,w1,w2,R8 (by rw [D4z];omega),R8 (by rw [D4z];omega),R8 (by rw [D4z];omega),D0I hk (by omega) hno]
 by_cases hz:h=0/\l=0
 ·obtain ⟨rfl,rfl⟩:=hz;simp [A1r,E9]
 ·have z:A1r ⟨(h:Int),(l:Int)⟩=false:=by
   unfold A1r;simp only [D5o,D5n];omega
  simp only [z,D4A];unfold A7l
  by_cases hh:h=0
  ·subst hh;obtain ⟨b,b1,b2,b3,_,_⟩:=A3V (x:=(l:Int)) (by omega) (by omega)
   have c1:(((0:Nat):Int) !=0)=false:=rfl;have c2:decide ((k:Int)>A2 (128-(b:Int)))=false:=by
    rw [D4O,B9 (by omega) (by omega)];omega
   have hno:(((0:Nat):Int)*18446744073709551616+l)*2^k<340282366920938463463374607431768211456:=by
    rw [hP,e2,Nat.zero_mul];omega
   simp only [c1,D4A,b1,D4x,c2];rw [if_pos hno];exact tail hno
  ·obtain ⟨b,b1,b2,b3,b4,b5⟩:=A3V (x:=(h:Int)) (by omega) (by omega)
   have c1:((h:Int) !=0)=true:=by rw [bne_iff_ne];omega
   have fl:=C9h (h:=h) (b:=b) (k:=k) b2 (by exact_mod_cast b4) (by exact_mod_cast b5)
   have w3:A2 (64+(b:Int))=64+(b:Int):=by rw [B9]<;>omega
   have w4:A2 (128-(64+(b:Int)))=64-(b:Int):=by rw [B9]<;>omega
   simp only [c1,D4B,b1,D4x,w3,w4]
   by_cases hb:k+b<=64
   ·have c2:decide ((k:Int)>64-(b:Int))=false:=by rw [D4O];omega
    have f1:=fl.1 hb;rw [Nat.add_mul,Nat.one_mul] at f1;have hno:((h:Int)*18446744073709551616+l)*2^k<340282366920938463463374607431768211456:=by
     rw [hP,e2];omega
    rw [c2,D4A,if_pos hno];exact tail hno
   ·have c2:decide ((k:Int)>64-(b:Int))=true:=by rw [D4z];omega
    have f2:=fl.2 (by omega)
    rw [c2,D4B,if_neg];rw [hP,e2];omega
theorem C8m {a:A1} (ha:H1 a):K5 a 0=(E9 ((wv a*2)%340282366920938463463374607431768211456),wv a/170141183460469231731687303715884105728):=by
 obtain ⟨h,l⟩:=a;unfold H1 at ha;simp only at ha;obtain ⟨h,rfl⟩:=Int.eq_ofNat_of_zero_le ha.1;obtain ⟨l,rfl⟩:=Int.eq_ofNat_of_zero_le ha.2.2.1;unfold K5;have s1: ∀x:Int,D9 .u64 x 1=(x*2)%18446744073709551616:=fun x=>by
  have:=B3V x (k:=1) (by decide)
  simpa using this
 have s2: ∀x:Int,F8 .u64 x 63=x/9223372036854775808:=fun x=>by
  have:=B3W x (k:=63) (by decide)
  simpa using this
 have d1:=B1C (a:=h%9223372036854775808) (b:=l/9223372036854775808) (k:=1) (by omega) (by omega)
 have d2:=B1C (a:=l%9223372036854775808) (b:=0) (k:=1) (by omega) (by omega)
 have e1:((h:Int)*2)%18446744073709551616=((h%9223372036854775808*2^1:Nat):Int):=by omega
 have e2:((l:Int)*2)%18446744073709551616=((l%9223372036854775808*2^1:Nat):Int):=by omega
 have e3:(l:Int)/9223372036854775808=((l/9223372036854775808:Nat):Int):=by omega
 have e4:(0:Int)=((0:Nat):Int):=rfl;simp only [s1,s2,e1,e2,e3];rw [d1]
 conv=>lhs;lhs;rhs;rhs;rw [e4]
 rw [d2];unfold E9 wv;simp only
 congr 1
 ·congr 1<;>omega
 ·omega
theorem C4o {a:A1} (ha:H1 a) {k:Nat} (hk:k<=63):A5q a (k:Int)=some (A2i a k):=by
 have r:=O7 ha;unfold A5q;have c0:decide ((k:Int)<0)=false:=by rw [D4O];omega
 rw [c0,D4A];cases hz:(a.Hi==0&&(a.Lo==0&&true)) with
 |true=>
  simp only [Bool.and_true,D4F,D5r] at hz;obtain ⟨h,l⟩:=a;simp only at hz;obtain ⟨rfl,rfl⟩:=hz;simp [A2i,wv,E9]
 |false=>
  rw [D4A];unfold B5B;obtain ⟨q,hq,hQ⟩:=J4 (f:=fun s:Int×Int×Int=>A8D (k:Int) s.1 s.2.1 s.2.2)
   (fun s=> ∃i:Nat,i<=k/\wv a*2^i<340282366920938463463374607431768211456/\s=((i:Int),(E9 (wv a*2^i)).Hi,(E9 (wv a*2^i)).Lo))
   (fun s=>k-s.1.toNat) (fun q=>q=A2i a k) (0,a.Hi,a.Lo) ⟨0,Nat.zero_le _,by simpa using r.2,by rw [Int.pow_zero,Int.mul_one,C37 ha];rfl⟩ (by
    rintro _ ⟨i,hi,hb,rfl⟩;simp only;have hnn:0<=wv a*2^i:=Int.mul_nonneg r.1 (Int.le_of_lt (Q7 i));have e1:(⟨(E9 (wv a*2^i)).Hi,(E9 (wv a*2^i)).Lo⟩:A1)=E9 (wv a*2^i):=rfl;unfold A8D
    by_cases hlt:i<k
    ·rw [e1,C8m (P5 hnn hb),L1];have e2:wv a*2^(i+1)=wv a*2^i*2:=by rw [Int.pow_succ,Int.mul_assoc]
     simp only [Int.ofNat_lt,hlt,decide_true,D4B]
     by_cases hc:wv a*2^i*2<340282366920938463463374607431768211456
     ·left;have c1:(wv a*2^i/170141183460469231731687303715884105728 !=0)=false:=by rw [bne_eq_false_iff_eq];omega
      have e3:wv a*2^i*2%340282366920938463463374607431768211456=wv a*2^i*2:=by omega
      have e4:A2 ((i:Int)+1)=((i+1:Nat):Int):=by rw [B9]<;>omega
      rw [c1,D4A,e3,e4];exact ⟨_,rfl,⟨i+1,hlt,by rw [e2];exact hc,by rw [e2]⟩,by show k-(((i+1:Nat):Int)).toNat<k-(i:Int).toNat;omega⟩
     ·right;have c1:(wv a*2^i/170141183460469231731687303715884105728 !=0)=true:=by rw [bne_iff_ne];omega
      rw [c1,D4B];refine ⟨_,rfl, ?_⟩;unfold A2i;rw [if_neg];have e5:wv a*2^k=wv a*2^i*2*2^(k-(i+1)):=by
       rw [<-e2,Int.mul_assoc,<-Int.pow_add,show i+1+(k-(i+1))=k by omega]
      have:=Int.mul_le_mul (show 340282366920938463463374607431768211456<=wv a*2^i*2 by omega) (show (1:Int)<=2^(k-(i+1)) from Q7 _) (by decide) (by omega)
      rw [e5];omega
    ·right;have hik:i=k:=by omega
     subst hik;simp only [D40,decide_false,D4A,e1];refine ⟨_,rfl, ?_⟩;unfold A2i;rw [if_pos hb])
  rw [hq,hQ]
end Go.Win
namespace Go.Win
open Go.Vc Go.Dec
theorem B4r {α β:Type} {m:Option α} {f g:α->Option β} (h:∀x,m=some x->f x=g x):m.bind f=m.bind g:=by
 cases m with
 |none=>rfl
 |some x=>exact h x rfl
theorem C6S {α:Type} {l:List α} {i:Int} {x:α} (h:D1 l i=some x):x∈l:=D4M (B1B h).2
theorem C8X (x:D0) (hl:x.Ax.length<=maxLen): ∃a,A7c x=some a:=by
 obtain ⟨r,hr,hok⟩:=B4k x hl;unfold A7c;rw [hr];simp only [D4x]
 by_cases h0:r=0
 ·subst h0;simp only [D5a,D4A]
  by_cases h1:x.Ax= []
  ·rw [h1];exact ⟨_,rfl⟩
  ·have hp:=List.length_pos_iff.2 h1;have h2:((x.Ax.length:Int)==0)=false:=by rw [D5n];omega
   have h3:D1 x.Ax (0:Int)=some x.Ax[0]:=by simp [D1,hp]
   simp only [h2,D4A,h3,D4x];exact ⟨_,rfl⟩
 ·have:(r !=0)=true:=by simp [h0]
  simp only [this,D4B];exact ⟨_,rfl⟩
theorem C36 (l:List Int) (hl:l.length<=maxLen):R6 l l=some true:=by
 have h:Z5 l l 0=cond ((List.range l.length).any fun _=>false) (some false) (some true):=by
  unfold Z5;refine A1G (fun i hi=> ?_) ?_
  ·unfold S1;simp [hi,I9 hi hl]
  ·unfold S1;simp
 have hf:((List.range l.length).any fun _=>false)=false:=by simp
 rw [hf] at h;unfold R6;simp [h]
theorem C6b (x:E4) (hl:x.Aj.length<=maxLen) (hc:∀c∈x.Aj,c.Ax.length<=maxLen):A5C x x=some true:=by
 have h:A6L x x 0=cond ((List.range x.Aj.length).any fun _=>false) (some false) (some true):=by
  unfold A6L;refine A1G (fun i hi=> ?_) ?_
  ·unfold A5D;have:=C6a x.Aj[i] (hc _ (D5m hi));simp [hi,I9 hi hl,this]
  ·unfold A5D;simp
 have hf:((List.range x.Aj.length).any fun _=>false)=false:=by simp
 rw [hf] at h;unfold A5C;simp [h]
theorem B5G (s:E4) (hc:∀c∈s.Aj,c.Ax.length<=maxLen):S5 s=A1u s:=by
 have e:R4 s=A40 s:=by
  funext i
  unfold R4 A40
  congr 1
  refine B4r fun x hx=>B4r fun y _=> ?_;rw [B7X x (hc x (C6S hx))]
 unfold S5 A1u A2x B0m;rw [e]
theorem B1Z (s:E4) (hl:s.Aj.length<=maxLen) (hc:∀c∈s.Aj,c.Ax.length<=maxLen):
  ∃r,S5 s=some r/\(r=0->1<=s.Aj.length/\s.Aj.length<=16/\ ∀c∈s.Aj,P9 c=some 0):=by
 unfold S5
 by_cases h:(decide ((s.Aj.length:Int)<1)||decide ((s.Aj.length:Int)>16))=true
 ·rw [h];exact ⟨2,rfl,fun h=>by simp at h⟩
 ·rw [Bool.not_eq_true] at h;rw [h,D4A];simp only [D47,D4O] at h;unfold A2x;obtain ⟨r,hr,hQ⟩:=J4 (f:=fun i:Int=>R4 s i) (fun i=> ∃k:Nat,i=(k:Int)/\k<=s.Aj.length/\ ∀j (hj:j<s.Aj.length),j<k->P9 s.Aj[j]=some 0)
   (fun i=>s.Aj.length-i.toNat) (fun r=>r=2\/(r=0/\ ∀c∈s.Aj,P9 c=some 0)) 0 ⟨0,rfl,Nat.zero_le _,fun j _ hj=>by omega⟩ (by
    rintro _ ⟨k,rfl,hk,hv⟩;unfold R4
    by_cases hlt:k<s.Aj.length
    ·obtain ⟨q,hq,_⟩:=B4k s.Aj[k] (hc _ (D5m hlt));have h0:D1 s.Aj (0:Int)=some (s.Aj[0]'(by omega)):=by
      have:=G7 (show 0<s.Aj.length by omega)
      simp [D1,this]
     simp only [Int.ofNat_lt,hlt,decide_true,D4B,M4,G7 hlt,D4x,h0,hq];cases hb:(((q !=0)||(s.Aj[k].W !=(s.Aj[0]'(by omega)).W))||(s.Aj[k].Cap !=(s.Aj[0]'(by omega)).Cap))||(s.Aj[k].I !=(s.Aj[0]'(by omega)).I) with
     |true=>exact .inr ⟨2,rfl, .inl rfl⟩
     |false=>
      simp only [D47,bne_eq_false_iff_eq] at hb;left;refine ⟨(k:Int)+1,by rw [I9 hlt hl];rfl,⟨k+1,by simp,hlt,fun j hj hjk=> ?_⟩,by omega⟩
      by_cases hjk2:j=k
      ·subst hjk2;rw [hq,hb.1.1.1]
      ·exact hv j hj (by omega)
    ·right;have: ¬((k:Int)<(s.Aj.length:Int)):=by omega
     simp only [this,decide_false,D4A];refine ⟨0,rfl, .inr ⟨rfl,fun c hcm=> ?_⟩⟩;obtain ⟨j,hj,rfl⟩:=List.mem_iff_getElem.1 hcm;exact hv j hj (by omega))
  refine ⟨r,hr,fun h0=>⟨by omega,by omega, ?_⟩⟩
  rcases hQ with hQ|hQ
  ·omega
  ·exact hQ.2
theorem D0q (s:E4) (hc:∀c∈s.Aj,c.Ax.length<=maxLen):A5P s=B2P s:=by
 have e:A1y s=A6J s:=by
  funext l i
  unfold A1y A6J
  congr 1
  refine B4r fun x hx=> ?_;rw [D0p x (hc x (C6S hx))]
 unfold A5P B2P A9X B6E;rw [e,B5G s hc]
theorem C5e (s:E4) (hl:s.Aj.length<=maxLen) (hc:∀c∈s.Aj,c.Ax.length<=maxLen): ∃r,A5P s=some r/\r.1.length<=16:=by
 obtain ⟨q,hq,hok⟩:=B1Z s hl hc;unfold A5P;rw [hq,D4x]
 by_cases h0:q=0
 ·obtain ⟨h1,h2,h3⟩:=hok h0;subst h0;simp only [D5a,D4A];unfold A9X;exact J4 (f:=fun t:List Int×Int=>A1y s t.1 t.2) (fun t=> ∃k:Nat,t.2=(k:Int)/\t.1.length=k/\k<=s.Aj.length)
   (fun t=>s.Aj.length-t.1.length) (fun r=>r.1.length<=16) ([],0) ⟨0,rfl,rfl,Nat.zero_le _⟩ (by
    rintro ⟨l,_⟩ ⟨k,rfl,hkl,hk⟩;simp only at hkl⊢;unfold A1y
    by_cases hlt:k<s.Aj.length
    ·obtain ⟨a,ha⟩:=C8X s.Aj[k] (hc _ (D5m hlt));simp only [Int.ofNat_lt,hlt,decide_true,D4B,M4,G7 hlt,D4x,ha]
     by_cases he:a.2=0
     ·left;have hk2:decide ((l.length+ [a.1].length)*8<=140737488355328)=true:=by rw [D4z,D5c];omega
      refine ⟨(l++ [a.1],(k:Int)+1), ?_,⟨k+1,by simp,by simp [hkl],hlt⟩,by simp;omega⟩
      simp only [he,D5a,D4A,hk2,W4,I9 hlt hl]
     ·right;have hb:(a.2 !=0)=true:=by rw [bne_iff_ne];exact he
      simp only [hb,D4B];exact ⟨_,rfl,by simp⟩
    ·right;have: ¬((k:Int)<(s.Aj.length:Int)):=by omega
     simp only [this,decide_false,D4A];exact ⟨_,rfl,by show l.length<=16;omega⟩)
 ·have hb:(q !=0)=true:=by rw [bne_iff_ne];exact h0
  simp only [hb,D4B];exact ⟨_,rfl,by simp⟩
theorem D36 (n w c:Int) (h1:1<=n) (h2:n<=16):A9Y n w c 0 []=some (if (R2 w c).2=0 then (⟨List.replicate n.toNat (R2 w c).1⟩,0) else (⟨[]⟩,(R2 w c).2)):=by
 unfold A9Y
 by_cases he:(R2 w c).2=0
 ·rw [if_pos he];obtain ⟨r,hr,hQ⟩:=J4 (f:=fun t:Int×List D0=>A3u n w c t.1 t.2) (fun t=> ∃k:Nat,t=((k:Int),List.replicate k (R2 w c).1)/\(k:Int)<=n)
   (fun t=>(n-t.1).toNat) (fun r=>r=(⟨List.replicate n.toNat (R2 w c).1⟩,0)) (0, []) ⟨0,rfl,by omega⟩ (by
    rintro _ ⟨k,rfl,hk⟩;simp only;unfold A3u
    by_cases hlt:(k:Int)<n
    ·left;have hk2:decide (((List.replicate k (R2 w c).1).length+ [(R2 w c).1].length)*56<=140737488355328)=true:=by
      rw [D4z,D5c,D5y];omega
     have hs:A2 ((k:Int)+1)=(k:Int)+1:=by rw [B9]<;>omega
     refine ⟨((k:Int)+1,List.replicate (k+1) (R2 w c).1), ?_,⟨k+1,by simp,by omega⟩,by show (n-((k:Int)+1)).toNat<(n-(k:Int)).toNat;omega⟩
     simp only [hlt,decide_true,D4B,he,D5a,D4A];rw [hk2,W4,hs,List.replicate_succ']
    ·right;have:n.toNat=k:=by omega
     simp only [hlt,decide_false,D4A];exact ⟨_,rfl,by rw [this]⟩)
  rw [hr,hQ]
 ·rw [if_neg he];have hb:((R2 w c).2 !=0)=true:=by rw [bne_iff_ne];exact he
  refine K9 ?_;unfold A3u;have:(0:Int)<n:=by omega
  simp only [this,decide_true,D4B,hb]
theorem D29 (n w c:Int) (h1:1<=n) (h2:n<=16):B1R w c n []=some (if (Y1 w c).2=0 then (⟨List.replicate n.toNat (Y1 w c).1⟩,0) else (⟨[]⟩,(Y1 w c).2)):=by
 unfold B1R
 by_cases he:(Y1 w c).2=0
 ·rw [if_pos he];obtain ⟨r,hr,hQ⟩:=J4 (f:=fun t:Int×List D0=>A6K w c t.1 t.2) (fun t=> ∃k:Nat,t=(n-(k:Int),List.replicate k (Y1 w c).1)/\(k:Int)<=n)
   (fun t=>t.1.toNat) (fun r=>r=(⟨List.replicate n.toNat (Y1 w c).1⟩,0)) (n, []) ⟨0,by simp,by omega⟩ (by
    rintro _ ⟨k,rfl,hk⟩;simp only;unfold A6K
    by_cases hlt:n-(k:Int)>0
    ·left;have hk2:decide (((List.replicate k (Y1 w c).1).length+ [(Y1 w c).1].length)*56<=140737488355328)=true:=by
      rw [D4z,D5c,D5y];omega
     have hs:A2 (n-(k:Int)-1)=n-(k:Int)-1:=by rw [B9]<;>omega
     refine ⟨(n-(k:Int)-1,List.replicate (k+1) (Y1 w c).1), ?_,⟨k+1,by simp;omega,by omega⟩,by show (n-(k:Int)-1).toNat<(n-(k:Int)).toNat;omega⟩
     simp only [hlt,decide_true,D4B,he,D5a,D4A];rw [hk2,W4,hs,List.replicate_succ']
    ·right;have:n.toNat=k:=by omega
     simp only [hlt,decide_false,D4A];exact ⟨_,rfl,by rw [this]⟩)
  rw [hr,hQ]
 ·rw [if_neg he];have hb:((Y1 w c).2 !=0)=true:=by rw [bne_iff_ne];exact he
  refine K9 ?_;unfold A6K;have:n>(0:Int):=by omega
  simp only [this,decide_true,D4B,hb]
theorem D0O (p0 p1:Int):R2 p0 p1=Y1 p0 p1:=by
 unfold R2 Y1
 congr 1
 rw [D4S];simp only [S0,D4I,D4T,D5o,D4z,D4O];omega
end Go.Win
namespace Go.Win
open Go.Vc Go.Dec
def E0 (l:List A6) (i:Nat):A6:=l.getD i default
theorem B8p {l:List A6} {i:Nat} (h:i<l.length):l[i]? =some (E0 l i):=by
 unfold E0;rw [G7 h];simp [List.getD,G7 h]
theorem C6N {l:List A6} {i:Nat} (h:i<l.length):E0 l i=l[i]:=by
 have:=B8p h;rw [G7 h] at this;exact (D5g this).symm
theorem L9 {l:List A6} {i:Nat} (h:i<l.length):D1 l (i:Int)=some (E0 l i):=by
 rw [M4,B8p h]
def A7p (l:List A6) (N:Int) (i:Nat):Bool:=
 ((decide ((E0 l i).Bk<1)||decide ((E0 l i).Bk>(E0 l i).Bj))||decide ((E0 l i).Bj>N))||
 (decide (0<i)&&((decide ((E0 l (i-1)).V>(E0 l i).V)||decide ((E0 l (i-1)).Bk>=(E0 l i).Bk))||decide ((E0 l (i-1)).Bj>=(E0 l i).Bj)))
def A38 (l:List A6) (N:Int):Bool:=decide (0<l.length)&&((E0 l 0).Bj !=1||(E0 l (l.length-1)).Bk !=N)
def A9p (r:B6):Bool:= !(((decide (r.N<0))||(decide (r.N>1099511627776)))||(!(((r.Ad.length:Int)==0)==(r.N==0))))
def okB (r:B6):Bool:=A9p r&& !((List.range r.Ad.length).any (A7p r.Ad r.N)||A38 r.Ad r.N)
theorem B9J {i n:Nat} (h0:0<i) (h:i<=n) (hm:n<=maxLen):A2 ((i:Int)-1)=((i-1:Nat):Int):=by
 rw [G9] at hm;rw [B9]<;>omega
theorem A0h (r:B6) (hl:r.Ad.length<=1048576):T6 r=some (cond (okB r) 0 2):=by
 have hm:r.Ad.length<=maxLen:=by rw [G9];omega
 unfold T6;cases hh:A9p r with
 |false=>
  have h1:(((decide (r.N<0))||(decide (r.N>1099511627776)))||(!(((r.Ad.length:Int)==0)==(r.N==0))))=true:=nF (by unfold A9p at hh;exact hh)
  rw [h1,D4B];unfold okB;rw [hh]
  rfl
 |true=>
  have h1:(((decide (r.N<0))||(decide (r.N>1099511627776)))||(!(((r.Ad.length:Int)==0)==(r.N==0))))=false:=Go.Dec.nT (by unfold A9p at hh;exact hh)
  rw [h1,D4A];unfold B1M;have:=A1G (f:=fun s:Int=>A2P r s) (n:=r.Ad.length) (bad:=A7p r.Ad r.N) (E:=(2:Int)) (A:=some (cond (A38 r.Ad r.N) 2 0))
   (fun i hi=>by
    unfold A2P A7p;simp only [Int.ofNat_lt,hi,decide_true,D4B,L9 hi,D4x,I9 hi hm]
    by_cases h0:0<i
    ·rw [B9J h0 (Nat.le_of_lt hi) hm,L9 (by omega),D4C (by omega:(i:Int)>0),D4C h0]
     simp only [D4x,D4B,D48];cases ((decide ((E0 r.Ad i).Bk<1)||decide ((E0 r.Ad i).Bk>(E0 r.Ad i).Bj))||decide ((E0 r.Ad i).Bj>r.N)) with
     |true=>rfl
     |false=>
      simp only [D4A,D4Y]
    ·rw [D4E (by omega: ¬(i:Int)>0),D4E h0]
     simp only [D4A,D42,Bool.or_false])
   (by
    unfold A2P A38;simp only [D40,decide_false,D4A]
    by_cases h0:0<r.Ad.length
    ·rw [D4C (by omega:(r.Ad.length:Int)>0),D4C h0,B9J h0 (D5f _) hm]
     have e0:D1 r.Ad (0:Int)=some (E0 r.Ad 0):=L9 h0;rw [e0,L9 (by omega)]
     simp only [G5,D4x,D48];cases hb:(E0 r.Ad 0).Bj !=1 with
     |true=>simp
     |false=>
      simp only [D4K,G5,D4x,D4Y];cases (E0 r.Ad (r.Ad.length-1)).Bk !=r.N<;>rfl
    ·rw [D4E (by omega: ¬(r.Ad.length:Int)>0),D4E h0]
     simp)
  rw [show ((0:Int))=((0:Nat):Int) from rfl] at this⊢;rw [this];unfold okB;rw [hh];cases (List.range r.Ad.length).any (A7p r.Ad r.N)<;>cases A38 r.Ad r.N<;>rfl
theorem A0H (r:B6) (hl:r.Ad.length<=1048576):S2 r=some (cond (okB r) 0 2):=by
 have hm:r.Ad.length<=maxLen:=by rw [G9];omega
 unfold S2;cases hh:A9p r with
 |false=>
  have h1:(((decide (r.N<0))||(decide (r.N>1099511627776)))||(!(((r.Ad.length:Int)==0)==(r.N==0))))=true:=nF (by unfold A9p at hh;exact hh)
  rw [h1,D4B];unfold okB;rw [hh]
  rfl
 |true=>
  have h1:(((decide (r.N<0))||(decide (r.N>1099511627776)))||(!(((r.Ad.length:Int)==0)==(r.N==0))))=false:=Go.Dec.nT (by unfold A9p at hh;exact hh)
  rw [h1,D4A];unfold B0o;have:=A1G (f:=fun s:Int=>A2u r s) (n:=r.Ad.length)
   (bad:=fun i=>A7p r.Ad r.N i||((decide (i=0)&&(E0 r.Ad i).Bj !=1)||(decide (i=r.Ad.length-1)&&(E0 r.Ad i).Bk !=r.N))) (E:=(2:Int)) (A:=some 0)
   (fun i hi=>by
    unfold A2u A7p;have hlast:A2 ((r.Ad.length:Int)-1)=((r.Ad.length-1:Nat):Int):=B9J (by omega) (D5f _) hm
    have e1:((i:Int)==0)=decide (i=0):=by rw [D4S,D5r,D4z];omega
    have e2:((i:Int)==((r.Ad.length-1:Nat):Int))=decide (i=r.Ad.length-1):=by rw [D4S,D5r,D4z];omega
    simp only [Int.ofNat_lt,hi,decide_true,D4B,L9 hi,D4x,I9 hi hm,hlast,e1,e2]
    by_cases h0:0<i
    ·rw [B9J h0 (Nat.le_of_lt hi) hm,L9 (by omega),D4C (by omega:(i:Int)>0),D4C h0]
     simp only [D4x,D4B,D48];cases ((decide ((E0 r.Ad i).Bk<1)||decide ((E0 r.Ad i).Bk>(E0 r.Ad i).Bj))||decide ((E0 r.Ad i).Bj>r.N))<;>
      cases (decide (i=0)&&(E0 r.Ad i).Bj !=1)<;>cases (decide (i=r.Ad.length-1)&&(E0 r.Ad i).Bk !=r.N)<;>
      cases ((decide ((E0 r.Ad (i-1)).V>(E0 r.Ad i).V)||decide ((E0 r.Ad (i-1)).Bk>=(E0 r.Ad i).Bk))||decide ((E0 r.Ad (i-1)).Bj>=(E0 r.Ad i).Bj))<;>rfl
    ·rw [D4E (by omega: ¬(i:Int)>0),D4E h0]
     simp only [D4A,D42,Bool.or_false];cases ((decide ((E0 r.Ad i).Bk<1)||decide ((E0 r.Ad i).Bk>(E0 r.Ad i).Bj))||decide ((E0 r.Ad i).Bj>r.N))<;>
      cases (decide (i=0)&&(E0 r.Ad i).Bj !=1)<;>cases (decide (i=r.Ad.length-1)&&(E0 r.Ad i).Bk !=r.N)<;>rfl)
   (by
    unfold A2u;simp only [D40,decide_false,D4A])
  rw [show ((0:Int))=((0:Nat):Int) from rfl] at this⊢;rw [this];have hany:(List.range r.Ad.length).any (fun i=>A7p r.Ad r.N i||((decide (i=0)&&(E0 r.Ad i).Bj !=1)||(decide (i=r.Ad.length-1)&&(E0 r.Ad i).Bk !=r.N)))=
    ((List.range r.Ad.length).any (A7p r.Ad r.N)||A38 r.Ad r.N):=by
   rw [D4S,D4I,A8o,A8o];constructor
   ·rintro ⟨i,hi,h⟩;simp only [D4I,D4F,D4z] at h;rcases h with h|⟨rfl,h⟩|⟨rfl,h⟩
    ·exact .inl ⟨i,hi,h⟩
    ·right;unfold A38;simp only [D4F,D4z,D4I];exact ⟨hi, .inl h⟩
    ·right;unfold A38;simp only [D4F,D4z,D4I];exact ⟨by omega, .inr h⟩
   ·rintro (⟨i,hi,h⟩|h)
    ·exact ⟨i,hi,by rw [h];rfl⟩
    ·unfold A38 at h;simp only [D4F,D4z,D4I] at h;rcases h with ⟨h0,h|h⟩
     ·exact ⟨0,h0,by rw [h];simp⟩
     ·exact ⟨r.Ad.length-1,by omega,by rw [h];simp⟩
  rw [hany];unfold okB;rw [hh];cases ((List.range r.Ad.length).any (A7p r.Ad r.N)||A38 r.Ad r.N)<;>rfl
structure OkR (l:List A6) (N:Int):Prop where
 n0:0<=N
 n1:N<=1099511627776
 nil:l.length=0↔N=0
 rng: ∀i,i<l.length->1<=(E0 l i).Bk/\(E0 l i).Bk<=(E0 l i).Bj/\(E0 l i).Bj<=N
 up: ∀i,i+1<l.length->(E0 l i).V<=(E0 l (i+1)).V/\(E0 l i).Bk<(E0 l (i+1)).Bk/\(E0 l i).Bj<(E0 l (i+1)).Bj
 first:0<l.length->(E0 l 0).Bj=1
 last:0<l.length->(E0 l (l.length-1)).Bk=N
theorem A0a (r:B6):okB r=true↔OkR r.Ad r.N:=by
 unfold okB A9p A38;have hany:(List.range r.Ad.length).any (A7p r.Ad r.N)=false↔ ∀i,i<r.Ad.length->A7p r.Ad r.N i=false:=by
  rw [List.any_eq_false];constructor
  ·intro h i hi;have:=h i (List.mem_range.2 hi);simpa using this
  ·intro h i hi;have:=h i (List.mem_range.1 hi);simpa using this
 simp only [D4F,D4T,D47,D4O,Bool.not_eq_false',D5r,hany,D5o,bne_eq_false_iff_eq,gt_iff_lt];constructor
 ·rintro ⟨⟨⟨h1,h2⟩,h3⟩,h4,h5⟩;have h3' :r.Ad.length=0↔r.N=0:=by
   have:=congrArg (· =true) h3;simp only [D5r,eq_iff_iff] at this;omega
  refine ⟨by omega,by omega,h3',fun i hi=> ?_,fun i hi=> ?_,fun h0=> ?_,fun h0=> ?_⟩
  ·have:=h4 i hi;unfold A7p at this;simp only [D47,D4O] at this;omega
  ·have:=h4 (i+1) hi;unfold A7p at this;simp only [D47,D4O,D5o,D5e] at this;omega
  ·rcases h5 with h5|h5
   ·omega
   ·exact h5.1
  ·rcases h5 with h5|h5
   ·omega
   ·exact h5.2
 ·intro h;refine ⟨⟨⟨by have:=h.n0;omega,by have:=h.n1;omega⟩, ?_⟩,fun i hi=> ?_, ?_⟩
  ·have:=h.nil;rw [D4S,D5r,D5r];omega
  ·unfold A7p;have h1:=h.rng i hi;simp only [D47,D4O,D5o];refine ⟨by omega, ?_⟩
   by_cases h0:0<i
   ·right;have:=h.up (i-1) (by omega)
    rw [show i-1+1=i by omega] at this
    omega
   ·exact .inl h0
  ·by_cases h0:0<r.Ad.length
   ·exact .inr ⟨h.first h0,h.last h0⟩
   ·exact .inl h0
def B2t (l:List A6):Nat->Int
 |0=>1
 |i+1=>if i=0 then 1 else if (E0 l i).Bj-(E0 l (i-1)).Bk>B2t l i then (E0 l i).Bj-(E0 l (i-1)).Bk else B2t l i
theorem C3L (r:B6) (h:OkR r.Ad r.N) (hl:r.Ad.length<=1048576) (h0:0<r.Ad.length):A9b r 1 1=some (B2t r.Ad r.Ad.length):=by
 have hm:r.Ad.length<=maxLen:=by rw [G9];omega
 unfold A9b;obtain ⟨v,hv,hQ⟩:=J4 (f:=fun s:Int×Int=>B1J r s.1 s.2)
  (fun s=> ∃i:Nat,1<=i/\i<=r.Ad.length/\s=(B2t r.Ad i,(i:Int)))
  (fun s=>r.Ad.length-s.2.toNat) (fun v=>v=B2t r.Ad r.Ad.length) (1,1) ⟨1,D5f _,h0,rfl⟩ (by
   rintro _ ⟨i,h1,hi,rfl⟩;simp only;unfold B1J
   by_cases hlt:i<r.Ad.length
   ·left;have r1:=h.rng i hlt;have r2:=h.rng (i-1) (by omega)
    have n1:=h.n1;simp only [Int.ofNat_lt,hlt,decide_true,D4B,L9 hlt,D4x,I9 hlt hm,B9J h1 hi hm,L9 (show i-1<r.Ad.length by omega)]
    refine ⟨_,rfl,⟨i+1,by omega,hlt, ?_⟩,by show r.Ad.length-((i:Int)+1).toNat<r.Ad.length-(i:Int).toNat;omega⟩
    rw [B9 (by omega) (by omega)]
    have:B2t r.Ad (i+1)=P3 (B2t r.Ad i) ((E0 r.Ad i).Bj-(E0 r.Ad (i-1)).Bk):=by
     show (if i=0 then (1:Int) else _)=_
     rw [if_neg (by omega)]
    rw [this]
    rfl
   ·right;have hn: ¬((i:Int)<(r.Ad.length:Int)):=by omega
    have hi2:i=r.Ad.length:=by omega
    subst hi2;simp only [hn,decide_false,D4A];exact ⟨_,rfl,rfl⟩)
 rw [hv,hQ]
def C3K (l:List A6):Int:=if l.length=0 then 0 else B2t l l.length
theorem D0Z (r:B6) (hl:r.Ad.length<=1048576):B4S r=some (cond (okB r) (C3K r.Ad) 0):=by
 unfold B4S;rw [A0h r hl];simp only [D4x];cases hb:okB r with
 |false=>rfl
 |true=>
  have h:=(A0a r).1 hb;simp only [D4B,D5a,D4Y];unfold C3K
  by_cases h0:r.Ad.length=0
  ·rw [if_pos h0,h0];rfl
  ·have c:((r.Ad.length:Int)==0)=false:=by rw [D5n];omega
   rw [c,D4A,if_neg h0,C3L r h hl (by omega)]
theorem C92: @B6G= @A9b:=rfl
theorem D2s (r:B6) (hl:r.Ad.length<=1048576):B2Q r=some (cond (okB r) (C3K r.Ad) 0):=by
 unfold B2Q;rw [A0H r hl];simp only [D4x];cases hb:okB r with
 |false=>rfl
 |true=>
  have h:=(A0a r).1 hb;simp only [D4B,D5a,D4Y];unfold C3K
  by_cases h0:r.Ad.length=0
  ·rw [if_pos h0,h.nil.1 h0];rfl
  ·have c:(r.N==0)=false:=by rw [D5n];intro hc;exact h0 (h.nil.2 hc)
   rw [c,D4A,if_neg h0,C92,C3L r h hl (by omega)]
theorem A71 (l:List Int):(P7 l).length=l.length:=List.length_mergeSort _
end Go.Win
namespace Go.Win
open Go.Vc Go.Dec
theorem K3 {α:Type} {b:Bool} {bad:Prop} {X Y:α} (h:b=true↔bad):(bad->cond b X Y=X)/\(¬bad->cond b X Y=Y):=by
 cases b with
 |true=>exact ⟨fun _=>rfl,fun hn=>absurd (h.1 rfl) hn⟩
 |false=>exact ⟨fun hb=>absurd (h.2 hb) (by decide),fun _=>rfl⟩
theorem A2d {α:Type} (a b:Bool) (x y:α):cond a x (cond b x y)=cond (a||b) x y:=by cases a<;>rfl
def E1 (l:List B7) (j i:Nat):Int:=(((l.take i).countP fun b=>b.Aw==(j:Int)):Nat)
theorem C3y (l:List B7) (j:Nat):E1 l j 0=0:=by simp [E1]
theorem C3x {l:List B7} {i:Nat} (h:i<l.length) (j:Nat):E1 l j (i+1)=E1 l j i+(if (el l i).Aw=(j:Int) then 1 else 0):=by
 unfold E1;rw [List.take_add_one,B00 h,Option.toList_some,List.countP_append,List.countP_singleton];split<;>simp_all
theorem D2V (l:List B7) (j i:Nat):0<=E1 l j i:=by unfold E1;omega
theorem D2U (l:List B7) (j i:Nat):E1 l j i<=i:=by
 have:(l.take i).countP (fun b=>b.Aw==(j:Int))<=(l.take i).length:=List.countP_le_length;rw [D4Z] at this;unfold E1;omega
def A2D (l:List B7) (i:Nat):Prop:= ¬(0<=(el l i).T/\(el l i).T<=16777216/\0<=(el l i).Aw/\(el l i).Aw<=30)\/(0<i/\((el l (i-1)).T>(el l i).T\/(el l (i-1)).Aw<(el l i).Aw))
def B05 (l:List B7) (k:Int) (j:Nat):Prop:=E1 l j l.length>k+1\/((j:Int)<(el l 0).Aw/\E1 l j l.length<k)
def A8A (l:List B7) (k:Int):Prop:=(1<=k/\k<=128)/\(∀i,i<l.length-> ¬A2D l i)/\(0<l.length-> ∀j:Nat,(j:Int)<=(el l 0).Aw-> ¬B05 l k j)
theorem D1V (l:List B7) (i:Nat): [E1 l 0 i,E1 l 1 i,E1 l 2 i,E1 l 3 i,E1 l 4 i,E1 l 5 i,E1 l 6 i,E1 l 7 i,E1 l 8 i,E1 l 9 i,E1 l 10 i,E1 l 11 i,E1 l 12 i,E1 l 13 i,E1 l 14 i,E1 l 15 i,E1 l 16 i,E1 l 17 i,E1 l 18 i,E1 l 19 i,E1 l 20 i,E1 l 21 i,E1 l 22 i,E1 l 23 i,E1 l 24 i,E1 l 25 i,E1 l 26 i,E1 l 27 i,E1 l 28 i,E1 l 29 i,E1 l 30 i]=(List.range 31).map fun j=>E1 l j i:=rfl
theorem C0w (l:List B7) (i:Nat) {L:Int} (h0:0<=L) (h1:L<=30):D1 [E1 l 0 i,E1 l 1 i,E1 l 2 i,E1 l 3 i,E1 l 4 i,E1 l 5 i,E1 l 6 i,E1 l 7 i,E1 l 8 i,E1 l 9 i,E1 l 10 i,E1 l 11 i,E1 l 12 i,E1 l 13 i,E1 l 14 i,E1 l 15 i,E1 l 16 i,E1 l 17 i,E1 l 18 i,E1 l 19 i,E1 l 20 i,E1 l 21 i,E1 l 22 i,E1 l 23 i,E1 l 24 i,E1 l 25 i,E1 l 26 i,E1 l 27 i,E1 l 28 i,E1 l 29 i,E1 l 30 i] L=some (E1 l L.toNat i):=by
 rw [D1V];have:D1 ((List.range 31).map fun j=>E1 l j i) ((L.toNat:Nat):Int)=some (E1 l L.toNat i):=by
  rw [M4,D46,List.getElem?_range (by omega)]
  rfl
 rw [<-this]
 congr 1
 omega
theorem C3w {l:List B7} {i:Nat} (h:i<l.length) (hl:l.length<=maxLen) (h0:0<=(el l i).Aw) (j:Nat):
  (if (el l i).Aw.toNat=j then A2 (E1 l (el l i).Aw.toNat i+1) else E1 l j i)=E1 l j (i+1):=by
 rw [C3x h];have h1:=D2V l j i;have h2:=D2U l j i;rw [G9] at hl
 by_cases e:(el l i).Aw.toNat=j
 ·rw [if_pos e,e,if_pos (by omega),B9]<;>omega
 ·rw [if_neg e,if_neg (by omega)];omega
def stB (l:List B7) (i:Nat):Int×Int×Int×Int×Int×Int×Int×Int×Int×Int×Int×Int×Int×Int×Int×Int×Int×Int×Int×Int×Int×Int×Int×Int×Int×Int×Int×Int×Int×Int×Int×Int:=((i:Int),E1 l 0 i,E1 l 1 i,E1 l 2 i,E1 l 3 i,E1 l 4 i,E1 l 5 i,E1 l 6 i,E1 l 7 i,E1 l 8 i,E1 l 9 i,E1 l 10 i,E1 l 11 i,E1 l 12 i,E1 l 13 i,E1 l 14 i,E1 l 15 i,E1 l 16 i,E1 l 17 i,E1 l 18 i,E1 l 19 i,E1 l 20 i,E1 l 21 i,E1 l 22 i,E1 l 23 i,E1 l 24 i,E1 l 25 i,E1 l 26 i,E1 l 27 i,E1 l 28 i,E1 l 29 i,E1 l 30 i)
theorem C0e (l:List B7) (k:Int) (hk:1<=k/\k<=128) (h0:0<l.length) (hL:0<=(el l 0).Aw/\(el l 0).Aw<=30) (i:Nat) (hi:i=l.length):
  A2K k (E1 l 0 i) (E1 l 1 i) (E1 l 2 i) (E1 l 3 i) (E1 l 4 i) (E1 l 5 i) (E1 l 6 i) (E1 l 7 i) (E1 l 8 i) (E1 l 9 i) (E1 l 10 i) (E1 l 11 i) (E1 l 12 i) (E1 l 13 i) (E1 l 14 i) (E1 l 15 i) (E1 l 16 i) (E1 l 17 i) (E1 l 18 i) (E1 l 19 i) (E1 l 20 i) (E1 l 21 i) (E1 l 22 i) (E1 l 23 i) (E1 l 24 i) (E1 l 25 i) (E1 l 26 i) (E1 l 27 i) (E1 l 28 i) (E1 l 29 i) (E1 l 30 i) (el l 0) 0=some (T2 (∀j:Nat,(j:Int)<=(el l 0).Aw-> ¬B05 l k j)):=by
 unfold A2K;have H:=L2 (f:=fun s:Int=>A19 k (E1 l 0 i) (E1 l 1 i) (E1 l 2 i) (E1 l 3 i) (E1 l 4 i) (E1 l 5 i) (E1 l 6 i) (E1 l 7 i) (E1 l 8 i) (E1 l 9 i) (E1 l 10 i) (E1 l 11 i) (E1 l 12 i) (E1 l 13 i) (E1 l 14 i) (E1 l 15 i) (E1 l 16 i) (E1 l 17 i) (E1 l 18 i) (E1 l 19 i) (E1 l 20 i) (E1 l 21 i) (E1 l 22 i) (E1 l 23 i) (E1 l 24 i) (E1 l 25 i) (E1 l 26 i) (E1 l 27 i) (E1 l 28 i) (E1 l 29 i) (E1 l 30 i) (el l 0) s) ((el l 0).Aw.toNat+1) (B05 l k) false (some true)
  (fun j hj _=>by
   unfold A19;have e1:decide ((j:Int)<=(el l 0).Aw)=true:=D4C (by omega)
   have e2:A2 (k+1)=k+1:=by rw [B9]<;>omega
   have e3:A2 ((j:Int)+1)=((j+1:Nat):Int):=by rw [B9]<;>omega
   rw [e1,D4B,C0w l i (by omega) (by omega),D4x]
   simp only [D4x,e2,e3,D5d]
   by_cases g1:E1 l j i>k+1
   ·simp only [g1,decide_true,D4J,D42,G0,D4x,D5h,D4B];exact ⟨fun _=>trivial,fun hn=>absurd (.inl (hi▸g1)) hn⟩
   ·simp only [g1,decide_false,D4K,D48,D4Y]
    by_cases g2:(j:Int)<(el l 0).Aw
    ·simp only [g2,decide_true,G5,D4x,D48];refine K3 ?_;unfold B05;rw [D4z,<-hi];omega
    ·simp only [g2,decide_false,G0,D4x,D42,D4A];refine ⟨fun hb=> ?_,fun _=>trivial⟩;unfold B05 at hb;rw [<-hi] at hb;omega)
  (fun _=>by
   unfold A19;rw [D4E (by omega),D4A])
 by_cases hb: ∃j:Nat,j<(el l 0).Aw.toNat+1/\B05 l k j
 ·rw [H.1 hb,J9];intro hn;obtain ⟨j,h1,h2⟩:=hb;exact hn j (by omega) h2
 ·rw [H.2 fun j h1 h2=>hb ⟨j,h1,h2⟩,P6];intro j h1 h2;exact hb ⟨j,by omega,h2⟩
theorem A9D (l:List B7) (k:Int) (hl:l.length<=maxLen):A1Y l k=some (T2 (A8A l k)):=by
 unfold A1Y
 by_cases hk:1<=k/\k<=128
 ·have e:(decide (k<(1:Int))||decide (k>(128:Int)))=false:=by simp;omega
  rw [e,D4A];unfold B07;have H: ∀R,((∃i,0<=i/\i<l.length/\A2D l i)->R=some false)/\((∀i,0<=i->i<l.length-> ¬A2D l i)->R=(if 0<l.length then A2K k (E1 l 0 l.length) (E1 l 1 l.length) (E1 l 2 l.length) (E1 l 3 l.length) (E1 l 4 l.length) (E1 l 5 l.length) (E1 l 6 l.length) (E1 l 7 l.length) (E1 l 8 l.length) (E1 l 9 l.length) (E1 l 10 l.length) (E1 l 11 l.length) (E1 l 12 l.length) (E1 l 13 l.length) (E1 l 14 l.length) (E1 l 15 l.length) (E1 l 16 l.length) (E1 l 17 l.length) (E1 l 18 l.length) (E1 l 19 l.length) (E1 l 20 l.length) (E1 l 21 l.length) (E1 l 22 l.length) (E1 l 23 l.length) (E1 l 24 l.length) (E1 l 25 l.length) (E1 l 26 l.length) (E1 l 27 l.length) (E1 l 28 l.length) (E1 l 29 l.length) (E1 l 30 l.length) (el l 0) 0 else some true))->R=some (T2 (A8A l k)):=by
   intro R hR
   by_cases hb: ∃i,0<=i/\i<l.length/\A2D l i
   ·rw [hR.1 hb,J9];intro hn;obtain ⟨i,_,h1,h2⟩:=hb;exact hn.2.1 i h1 h2
   ·have hg: ∀i,0<=i->i<l.length-> ¬A2D l i:=fun i h1 h2 h3=>hb ⟨i,h1,h2,h3⟩;rw [hR.2 hg]
    by_cases h0:0<l.length
    ·have h1:=hg 0 (D5f _) h0;unfold A2D at h1;rw [if_pos h0,C0e l k hk h0 (by omega) l.length rfl]
     congr 1
     rw [D4S,I3,I3];exact ⟨fun h2=>⟨hk,fun i hi=>hg i (Nat.zero_le _) hi,fun _=>h2⟩,fun h2=>h2.2.2 h0⟩
    ·rw [if_neg h0,P6];exact ⟨hk,fun i hi=>hg i (Nat.zero_le _) hi,fun h=>absurd h h0⟩
  apply H;refine X9 (stB l) 0 l.length (Nat.zero_le _) (A2D l) false _ (fun i _ hi _=> ?_) (fun hg=> ?_)
  ·simp only [stB];unfold A5V;rw [D4C (by omega),D4B,G4 hi,D4x]
   simp only []
   by_cases hr:0<=(el l i).T/\(el l i).T<=16777216/\0<=(el l i).Aw/\(el l i).Aw<=30
   ·have e1:(!A2Z (el l i).T|| !V4 (el l i).Aw)=false:=by
     unfold A2Z V4;simp;omega
    rw [e1,D4A,C0w l i hr.2.2.1 hr.2.2.2];simp only [D4x,C3w hi hl hr.2.2.1,N4 hi hl];rcases i with _|i
    ·simp only [D40,gt_iff_lt,Int.natCast_zero,decide_false,G0,D4x,D42,D4A];refine ⟨fun hb=> ?_,fun _=>trivial⟩;unfold A2D at hb;omega
    ·have e2:decide (((i+1:Nat):Int)>0)=true:=D4C (by omega)
     rw [e2,A2k (by omega) (Nat.le_of_lt hi) hl,D5e,G4 (by omega)]
     simp only [G5,D4x,D48]
     by_cases g1:(el l i).T>(el l (i+1)).T
     ·simp only [g1,decide_true,D4J,G0,D4x,D5h,D4B];exact ⟨fun _=>trivial,fun hn=>absurd (.inr ⟨by omega, .inl (by rw [D5e];exact g1)⟩) hn⟩
     ·simp only [g1,decide_false,D4K,G5,D4x,D4Y];refine K3 ?_;unfold A2D;rw [D4z,D5e];omega
   ·have e1:(!A2Z (el l i).T|| !V4 (el l i).Aw)=true:=by
     unfold A2Z V4;rw [D4S];simp;omega
    rw [e1,D4B];exact ⟨fun _=>rfl,fun hn=>absurd (.inl hr) hn⟩
  ·simp only [stB];unfold A5V;rw [D4E (D40 _),D4A]
   congr 1
   by_cases h0:0<l.length
   ·have e1:((l.length:Int)==0)=false:=by rw [D5n];omega
    rw [e1,D4A,if_pos h0,A0T h0,D4x]
   ·have e1:((l.length:Int)==0)=true:=by
     have:l.length=0:=by omega
     rw [this];rfl
    rw [e1,D4B,if_neg h0]
 ·have e:(decide (k<(1:Int))||decide (k>(128:Int)))=true:=by
   rw [D4S];simp;omega
  rw [e,D4B,J9];exact fun h=>hk h.1
def A6Y (l:List B7) (i:Nat):List Int:=(List.range 31).map fun j=>E1 l j i
theorem C3z (l:List B7) (i:Nat) {L:Int} (h0:0<=L) (h1:L<=30):D1 (A6Y l i) L=some (E1 l L.toNat i):=C0w l i h0 h1
theorem B8m (l:List B7) (i:Nat):(A6Y l i).length=31:=by simp [A6Y]
theorem C9b {l:List B7} {i:Nat} (h:i<l.length) (hl:l.length<=maxLen) (h0:0<=(el l i).Aw) (h1:(el l i).Aw<=30):
  (A6Y l i).set (el l i).Aw.toNat (A2 (E1 l (el l i).Aw.toNat i+1))=A6Y l (i+1):=by
 apply List.ext_getElem?;intro j;rw [List.getElem?_set,B8m];unfold A6Y
 by_cases hj:j<31
 ·rw [D46,D46,List.getElem?_range hj];have:=C3w h hl h0 j;simp only [Option.map_some];rw [<-this];split<;>simp_all
 ·have:(el l i).Aw.toNat≠j:=by omega
  rw [if_neg this,D5u (by simp;omega),D5u (by simp;omega)]
theorem C8n (l:List B7) (k:Int) (hk:1<=k/\k<=128) (hg:∀i,i<l.length-> ¬A2D l i):
  A5t l k (A6Y l l.length) 0=some (T2 (0<l.length-> ∀j:Nat,(j:Int)<=(el l 0).Aw-> ¬B05 l k j)):=by
 unfold A5t;have hup: ∀i,i<l.length->(el l i).Aw<=(el l 0).Aw:=by
  intro i
  induction i with
  |zero=>intro _;exact Int.le_refl _
  |succ i ih=>
   intro hi;have h1:=hg (i+1) hi;unfold A2D at h1;rw [D5e] at h1;have:=ih (by omega)
   omega
 have hz:0<l.length-> ∀j:Nat,(el l 0).Aw<(j:Int)->E1 l j l.length=0:=by
  intro _ j hj;have: ∀i,i<=l.length->E1 l j i=0:=by
   intro i
   induction i with
   |zero=>intro _;exact C3y l j
   |succ i ih=>
    intro hi;rw [C3x (by omega),ih (by omega),if_neg]
    ·rfl
    ·have:=hup i (by omega);omega
  exact this _ (D5f _)
 have H:=L2 (f:=fun s:Int=>A4B l k (A6Y l l.length) s) 31 (fun j=>0<l.length/\B05 l k j) false (some true)
  (fun j hj _=>by
   unfold A4B;have e2:A2 (k+1)=k+1:=by rw [B9]<;>omega
   have e3:A2 ((j:Int)+1)=((j+1:Nat):Int):=by rw [B9]<;>omega
   have e4:((A6Y l l.length).length:Int)=31:=by rw [B8m];rfl
   rw [e4,D4C (by omega),D4B,C3z l _ (by omega) (by omega),D4x]
   simp only [e2,e3,D5d]
   by_cases h0:0<l.length
   ·rw [D4C (by omega:(l.length:Int)>0),A0T h0]
    simp only [G5,D4x,D48];refine K3 ?_;unfold B05;simp only [D4I,D4F,D4z];omega
   ·rw [D4E (by omega: ¬(l.length:Int)>0)]
    simp only [G0,D4x,D42,D4A];exact ⟨fun hb=>absurd hb.1 h0,fun _=>trivial⟩)
  (fun _=>by
   unfold A4B;have e4:((A6Y l l.length).length:Int)=31:=by rw [B8m];rfl
   rw [e4,D4E (by omega),D4A])
 by_cases hb: ∃j:Nat,j<31/\(0<l.length/\B05 l k j)
 ·rw [H.1 hb,J9];intro hn;obtain ⟨j,h1,h2,h3⟩:=hb
  by_cases h4:(j:Int)<=(el l 0).Aw
  ·exact hn h2 j h4 h3
  ·have:=hz h2 j (by omega)
   unfold B05 at h3;omega
 ·rw [H.2 fun j h1 h2=>hb ⟨j,h1,h2⟩,P6];intro h0 j h1 h2;have:=hg 0 h0;unfold A2D at this;exact hb ⟨j,by omega,h0,h2⟩
theorem B7S (l:List B7) (k:Int) (hl:l.length<=maxLen):A6m l k=some (T2 (A8A l k)):=by
 unfold A6m
 by_cases hk:1<=k/\k<=128
 ·have e:A5s k=true:=by unfold A5s;simp;omega
  simp only [e,D4J,D4A];have e2:(decide (0<=(31:Int)/\(31:Int)<=(31:Int)/\(31:Int)*8<=140737488355328/\(31:Int)<=140737488355328))=true:=by decide
  rw [e2,W4];unfold B34;have H: ∀R,((∃i,0<=i/\i<l.length/\A2D l i)->R=some false)/\((∀i,0<=i->i<l.length-> ¬A2D l i)->R=A5t l k (A6Y l l.length) 0)->R=some (T2 (A8A l k)):=by
   intro R hR
   by_cases hb: ∃i,0<=i/\i<l.length/\A2D l i
   ·rw [hR.1 hb,J9];intro hn;obtain ⟨i,_,h1,h2⟩:=hb;exact hn.2.1 i h1 h2
   ·have hg: ∀i,0<=i->i<l.length-> ¬A2D l i:=fun i h1 h2 h3=>hb ⟨i,h1,h2,h3⟩;rw [hR.2 hg,C8n l k hk fun i hi=>hg i (Nat.zero_le _) hi]
    congr 1
    rw [D4S,I3,I3];exact ⟨fun h2=>⟨hk,fun i hi=>hg i (Nat.zero_le _) hi,h2⟩,fun h2=>h2.2.2⟩
  apply H;have e0:(List.replicate ((31:Int)).toNat (0:Int),(0:Int))=(fun i:Nat=>(A6Y l i,(i:Int))) 0:=by
   have:List.replicate ((31:Int)).toNat (0:Int)=A6Y l 0:=by
    unfold A6Y;simp only [C3y]
    rfl
   rw [this];rfl
  rw [e0];refine X9 (fun i:Nat=>(A6Y l i,(i:Int))) 0 l.length (Nat.zero_le _) (A2D l) false _ (fun i _ hi _=> ?_) (fun hg=> ?_)
  ·simp only [];unfold A7X;rw [D4C (by omega),D4B,G4 hi,D4x]
   simp only []
   by_cases hr:0<=(el l i).T/\(el l i).T<=16777216/\0<=(el l i).Aw/\(el l i).Aw<=30
   ·have e1:((!G3 (el l i).T||decide ((el l i).Aw<0))||decide ((el l i).Aw>30))=false:=by
     unfold G3;simp;omega
    rw [e1,C3z l i hr.2.2.1 hr.2.2.2];simp only [D4x,C9b hi hl hr.2.2.1 hr.2.2.2,N4 hi hl,D4K,D48,D4Y];rcases i with _|i
    ·simp only [D40,gt_iff_lt,Int.natCast_zero,decide_false,G0,D4x,D42,D4A];refine ⟨fun hb=> ?_,fun _=>trivial⟩;unfold A2D at hb;omega
    ·have e2:decide (((i+1:Nat):Int)>0)=true:=D4C (by omega)
     rw [e2,A2k (by omega) (Nat.le_of_lt hi) hl,D5e,G4 (by omega)]
     simp only [G5,D4x,D48]
     by_cases g1:(el l i).T>(el l (i+1)).T
     ·simp only [g1,decide_true,D4J,G0,D4x,D5h,D4B];exact ⟨fun _=>trivial,fun hn=>absurd (.inr ⟨by omega, .inl (by rw [D5e];exact g1)⟩) hn⟩
     ·simp only [g1,decide_false,D4K,G5,D4x,D4Y];refine K3 ?_;unfold A2D;rw [D4z,D5e];omega
   ·have e1:((!G3 (el l i).T||decide ((el l i).Aw<0))||decide ((el l i).Aw>30))=true:=by
     unfold G3;rw [D4S];simp;omega
    rw [e1];simp only [D4J,D42,G0,D4x,D5h,D4B];exact ⟨fun _=>trivial,fun hn=>absurd (.inl hr) hn⟩
  ·simp only [];unfold A7X;rw [D4E (by omega),D4A]
 ·have e:A5s k=false:=by unfold A5s;simp;omega
  simp only [e,D4K,D4B];rw [J9];exact fun h=>hk h.1
end Go.Win
namespace Go.Win
open Go.Vc Go.Dec
theorem C7d (a b:Int):A2 (A2 a+b)=A2 (a+b):=by
 rw [B10,B10,B10];omega
theorem A1p (t:Int):G3 t=true↔0<=t/\t<=16777216:=by unfold G3;simp
theorem U1 (w c n:Int):I1 w c n=true↔(1<=w/\w<=1048576)/\(1<=c/\c<=65536)/\(0<=n/\n<=16777216):=by
 unfold I1 S0 G3;simp;omega
theorem R9 (k:Int):I6 k=true↔1<=k/\k<=64:=by unfold I6;simp
theorem A2B (v:Int):H8 v=true↔ -4096<=v/\v<=4096:=by unfold H8;simp
theorem D0H: ∀n:Fin 31,D9 .i64 1 (A7 (n.1:Int))=2^n.1:=by decide+kernel
theorem B4D {L:Int} (h0:0<=L) (h1:L<=30):D9 .i64 1 (A7 L)=2^L.toNat:=by
 have:=D0H ⟨L.toNat,by omega⟩
 simp only [] at this;rw [<-this]
 congr 2
 omega
def A4F (b:B7):Int:=if 0<=b.Aw/\b.Aw<=30 then 2^b.Aw.toNat else 0
def T9 (l:List B7):Int:=(l.map A4F).sum
theorem B8D:T9 []=0:=rfl
theorem B24 (b:B7) (l:List B7):T9 (b::l)=A4F b+T9 l:=by simp [T9]
theorem B7W (a b:List B7):T9 (a++b)=T9 a+T9 b:=by simp [T9]
theorem D05 (b:B7):0<=A4F b:=by
 unfold A4F;split
 ·exact Int.pow_nonneg (by decide)
 ·exact Int.le_refl 0
theorem B7e (l:List B7):0<=T9 l:=by
 induction l with
 |nil=>exact Int.le_refl 0
 |cons b l ih=>rw [B24];have:=D05 b;omega
theorem C1K {l:List B7} {i:Nat} (h:i<l.length):T9 (l.take (i+1))=T9 (l.take i)+A4F (el l i):=by
 rw [List.take_add_one,B00 h,Option.toList_some,B7W,B24,B8D];omega
theorem A4k (l:List B7) (hl:l.length<=maxLen):A1n l=some (A2 (T9 l)):=by
 unfold A1n B33;have H:=X9 (f:=fun s:Int×Int=>A4A l s.1 s.2) (fun i=>(A2 (T9 (l.take i)),(i:Int))) 0 l.length (Nat.zero_le _) (fun _=>False) 0 (some (A2 (T9 l)))
  (fun i _ hi _=>by
   refine ⟨fun h=>h.elim,fun _=> ?_⟩;simp only [];unfold A4A;rw [D4C (by omega:(i:Int)<(l.length:Int)),D4B,G4 hi,D4x,N4 hi hl,C1K hi]
   unfold A4F
   by_cases h:0<=(el l i).Aw/\(el l i).Aw<=30
   ·rw [D4C h.1,D4C h.2,if_pos h,B4D h.1 h.2,C7d];have:decide (0<=A7 (el l i).Aw)=true:=D4C (by rw [M0];omega)
    rw [this];rfl
   ·have e:(decide ((el l i).Aw>=0)&&decide ((el l i).Aw<=30))=false:=by
     rw [D4N];simpa using h
    rw [e,if_neg h,D4A,Int.add_zero])
  (fun _=>by
   simp only [];unfold A4A;rw [D4E (D40 _),D4A,List.take_length])
 exact H.2 (fun _ _ _ h=>h)
theorem B0W:A01=A1n:=rfl
def A7M (l:List B7) (W K Cap Now:Int):Prop:=
 ((1<=W/\W<=1048576)/\(1<=Cap/\Cap<=65536)/\(0<=Now/\Now<=16777216)/\(1<=K/\K<=64))/\A8A l K/\A2 (T9 l)<=Cap/\ ∀i,i<l.length->F3 Now W (el l i).T=true
theorem B9N (l:List B7) (W K Cap Now:Int) (hl:l.length<=maxLen):A7Y l W K Cap Now=some (T2 (A7M l W K Cap Now)):=by
 unfold A7Y;simp only []
 by_cases h1:(1<=W/\W<=1048576)/\(1<=Cap/\Cap<=65536)/\(0<=Now/\Now<=16777216)/\(1<=K/\K<=64)
 ·have e1:I1 W Cap Now=true:=(U1 _ _ _).2 ⟨h1.1,h1.2.1,h1.2.2.1⟩;have e2:I6 K=true:=(R9 _).2 h1.2.2.2;rw [e1,e2,B7S l K hl,A4k l hl];simp only [D4J,Bool.or_false,D4K,G5,D4x,D4Y]
  by_cases h2:A8A l K
  ·rw [P6 h2];simp only [D4J,D4K,G5,D4x,D4Y]
   by_cases h3:A2 (T9 l)<=Cap
   ·rw [D4E (by omega),D4A]
    unfold B5C;have H:=L2 (f:=fun s:Int=>A5u l W Now s) l.length (fun i=> ¬F3 Now W (el l i).T=true) false (some true)
     (fun i hi _=>by
      unfold A5u;rw [D4C (by omega:(i:Int)<(l.length:Int)),D4B,G4 hi,D4x,N4 hi hl]
      refine K3 ?_;simp)
     (fun _=>by
      unfold A5u;rw [D4E (D40 _),D4A])
    by_cases h4: ∀i,i<l.length->F3 Now W (el l i).T=true
    ·rw [H.2 fun i hi hn=>hn (h4 i hi),P6];exact ⟨h1,h2,h3,h4⟩
    ·rw [H.1,J9]
     ·exact fun h=>h4 h.2.2.2
     ·exact D5s fun hn=>h4 fun i hi=>D5s fun hc=>hn ⟨i,hi,hc⟩
   ·rw [D4C (by omega),D4B,J9]
    exact fun h=>h3 h.2.2.1
  ·rw [J9 h2];simp only [D4J,D4K,G0,D4x,D5h,D4B];rw [J9];exact fun h=>h2 h.2.1
 ·have e:(!I1 W Cap Now|| !I6 K)=true:=by
   rw [D4I,D4T,D4T,D4N,D4N,Ne,Ne,U1,R9];omega
  rw [e];simp only [D4J,G0,D4x,D5h,D4B];rw [J9];exact fun h=>h1 h.1
theorem B35 (x:D6) (hl:x.Ac.length<=maxLen):A3g x=some (vOf (A7M x.Ac x.W x.K x.Cap x.Now)):=by
 unfold A3g;rw [B9N _ _ _ _ _ hl,D4x]
 by_cases h:A7M x.Ac x.W x.K x.Cap x.Now
 ·rw [P6 h,O0 h];rfl
 ·rw [J9 h,H2 h];rfl
theorem A8s (w k c n:Int):A5d w k c n=true↔(1<=w/\w<=1048576)/\(1<=c/\c<=65536)/\(0<=n/\n<=16777216)/\(1<=k/\k<=64):=by
 unfold A5d;simp;omega
theorem B3K (x:D6) (hl:x.Ac.length<=maxLen):A21 x=some (vOf (A7M x.Ac x.W x.K x.Cap x.Now)):=by
 unfold A21;simp only []
 by_cases h1:A5d x.W x.K x.Cap x.Now=true
 ·have h1' :=(A8s _ _ _ _).1 h1;rw [h1,A9D _ _ hl,B0W,A4k _ hl];simp only [D4J,D4K,G5,D4x,D4Y]
  by_cases h2:A8A x.Ac x.K
  ·rw [P6 h2];simp only [D4J,D4K,G5,D4x,D4Y]
   by_cases h3:A2 (T9 x.Ac)<=x.Cap
   ·rw [D4E (by omega),D4A]
    unfold B0d;have H:=L2 (f:=fun s:Int=>A2f x s) x.Ac.length (fun i=> ¬F3 x.Now x.W (el x.Ac i).T=true) 2 (some 0)
     (fun i hi _=>by
      unfold A2f;rw [D4C (by omega:(i:Int)<(x.Ac.length:Int)),D4B,G4 hi,D4x,N4 hi hl]
      refine K3 ?_;simp [A7g])
     (fun _=>by
      unfold A2f;rw [D4E (D40 _),D4A])
    by_cases h4: ∀i,i<x.Ac.length->F3 x.Now x.W (el x.Ac i).T=true
    ·rw [H.2 fun i hi hn=>hn (h4 i hi),O0];exact ⟨h1',h2,h3,h4⟩
    ·rw [H.1,H2]
     ·exact fun h=>h4 h.2.2.2
     ·exact D5s fun hn=>h4 fun i hi=>D5s fun hc=>hn ⟨i,hi,hc⟩
   ·rw [D4C (by omega),D4B,H2]
    exact fun h=>h3 h.2.2.1
  ·rw [J9 h2];simp only [D4J,D4K,G0,D4x,D5h,D4B];rw [H2];exact fun h=>h2 h.2.1
 ·have h1' :=fun h=>h1 ((A8s _ _ _ _).2 h);rw [Bool.not_eq_true] at h1;rw [h1];simp only [D4J,D4K,G0,D4x,D5h,D4B];rw [H2];exact fun h=>h1' h.1
theorem B1Y (w k c m n:Int):A8L w k c m n=true↔((1<=w/\w<=1048576)/\(1<=c/\c<=65536)/\(0<=n/\n<=16777216)/\(1<=k/\k<=64))/\(1<=m/\m<=1024):=by
 unfold A8L;simp;omega
def C2v (x:E2):Prop:=A7M x.Ac x.W x.K x.Cap x.Now/\(1<=x.Bj/\x.Bj<=1024)
theorem B36 (x:E2) (hl:x.Ac.length<=maxLen):A3h x=some (vOf (C2v x)):=by
 unfold A3h;rw [B9N _ _ _ _ _ hl,D4x];simp only [];have e:A1K x.Bj=T2 (1<=x.Bj/\x.Bj<=1024):=by
  rw [D4S,I3];unfold A1K;simp
 rw [e]
 by_cases h:A7M x.Ac x.W x.K x.Cap x.Now
 ·rw [P6 h]
  by_cases h2:1<=x.Bj/\x.Bj<=1024
  ·rw [P6 h2,O0 ⟨h,h2⟩];rfl
  ·rw [J9 h2,H2 fun h3=>h2 h3.2];rfl
 ·rw [J9 h,H2 fun h3=>h h3.1];rfl
theorem B6N (x:E2) (hl:x.Ac.length<=maxLen):A42 x=some (vOf (C2v x)):=by
 unfold A42;simp only []
 by_cases h1:A8L x.W x.K x.Cap x.Bj x.Now=true
 ·have h1' :=(B1Y _ _ _ _ _).1 h1;rw [h1,A9D _ _ hl,B0W,A4k _ hl];simp only [D4J,D4K,G5,D4x,D4Y]
  by_cases h2:A8A x.Ac x.K
  ·rw [P6 h2];simp only [D4J,D4K,G5,D4x,D4Y]
   by_cases h3:A2 (T9 x.Ac)<=x.Cap
   ·rw [D4E (by omega),D4A]
    unfold B23;have H:=L2 (f:=fun s:Int=>A3P x s) x.Ac.length (fun i=> ¬F3 x.Now x.W (el x.Ac i).T=true) 2 (some 0)
     (fun i hi _=>by
      unfold A3P;rw [D4C (by omega:(i:Int)<(x.Ac.length:Int)),D4B,G4 hi,D4x,N4 hi hl]
      refine K3 ?_;simp [A7g])
     (fun _=>by
      unfold A3P;rw [D4E (D40 _),D4A])
    by_cases h4: ∀i,i<x.Ac.length->F3 x.Now x.W (el x.Ac i).T=true
    ·rw [H.2 fun i hi hn=>hn (h4 i hi),O0];exact ⟨⟨h1'.1,h2,h3,h4⟩,h1'.2⟩
    ·rw [H.1,H2]
     ·exact fun h=>h4 h.1.2.2.2
     ·exact D5s fun hn=>h4 fun i hi=>D5s fun hc=>hn ⟨i,hi,hc⟩
   ·rw [D4C (by omega),D4B,H2]
    exact fun h=>h3 h.1.2.2.1
  ·rw [J9 h2];simp only [D4J,D4K,G0,D4x,D5h,D4B];rw [H2];exact fun h=>h2 h.1.2.1
 ·have h1' :=fun h=>h1 ((B1Y _ _ _ _ _).2 h);rw [Bool.not_eq_true] at h1;rw [h1];simp only [D4J,D4K,G0,D4x,D5h,D4B];rw [H2];exact fun h=>h1' ⟨h.1.1,h.2⟩
theorem C6q (l:List B7) (hl:l.length<=maxLen):A3M l l=some true:=by
 unfold A3M;rw [D5a,D4A];unfold A9T;refine (L2 (f:=fun s:Int=>A3f l l s) l.length (fun _=>False) false (some true) (fun i hi _=>⟨fun h=>h.elim,fun _=> ?_⟩) (fun _=> ?_)).2 fun _ _ h=>h
 ·unfold A3f;rw [D4C (by omega:(i:Int)<(l.length:Int)),D4B,G4 hi]
  simp [N4 hi hl]
 ·unfold A3f;rw [D4E (D40 _),D4A]
theorem C53 (x:D6) (hl:x.Ac.length<=maxLen):A5v x x=some true:=by
 unfold A5v;simp [C6q _ hl]
theorem C54 (x:E2) (hl:x.Ac.length<=maxLen):A5w x x=some true:=by
 unfold A5w;simp [C6q _ hl]
end Go.Win
namespace Go.Win
open Go.Vc Go.Dec
def mk1 (seq cap now:Int) (m:D7):Prop:=(1<=m.Bm/\m.Bm<=seq)/\m.N=seq-m.Bm+1/\m.N<=cap/\0<=m.T/\m.T<=now
def mk2 (lo:Int) (m:D7):Prop:=lo<=m.Bk/\m.Bk<=m.Bj/\m.Bj<=4096/\U6 m.N m.Bk m.Bj m.S m.Q=true
def mk4 (o m:D7):Prop:=o.Bm<m.Bm/\o.T<=m.T/\o.Bk<=m.Bk/\m.Bj<=o.Bj/\U6 (A2 (o.N-m.N)) o.Bk o.Bj (A2 (o.S-m.S)) (A2 (o.Q-m.Q))=true
def A7K (seq:Int) (m:D7):Prop:=m.Bm=seq/\m.Bk=m.S/\m.Bj=m.S/\m.Q=A2 (m.S*m.S)
def B1F (l:List D7) (seq cap now w lo:Int) (i:Nat):Prop:=
 mk1 seq cap now (el l i)/\mk2 lo (el l i)/\((0<i\/l.length=1)->F3 now w (el l i).T=true)/\(0<i->mk4 (el l (i-1)) (el l i))
def A29 (l:List D7) (seq cap now w lo:Int):Prop:=
 (0<=seq/\seq<=1099511627776)/\(∀i,i<l.length->B1F l seq cap now w lo i)/\(0<l.length->A7K seq (el l (l.length-1)))
theorem A0V {n:Nat} {p:Nat->Prop} (h:¬ ∀i,i<n->p i): ∃i,i<n/\ ¬p i:=
 D5s fun hn=>h fun i hi=>D5s fun hc=>hn ⟨i,hi,hc⟩
theorem C32 {seq cap now:Int} (hs:0<=seq/\seq<=1099511627776) (m:D7):
  (((((decide (m.Bm<1)||decide (m.Bm>seq))||(m.N !=A2 (A2 (seq-m.Bm)+1)))||decide (m.N>cap))||decide (m.T<0))||decide (m.T>now))=true↔ ¬mk1 seq cap now m:=by
 unfold mk1
 by_cases h:1<=m.Bm/\m.Bm<=seq
 ·have e:A2 (A2 (seq-m.Bm)+1)=seq-m.Bm+1:=by rw [B9 (n:=seq-m.Bm) (by omega) (by omega),B9]<;>omega
  simp only [e,D4I,D4z,bne_iff_ne];omega
 ·simp only [D4I,D4z];constructor
  ·intro _ h2;exact h h2.1
  ·intro _;omega
theorem C1t (l:List D7) (seq cap now w lo:Int) (i:Nat):B1F l seq cap now w lo (i+1)↔
  mk1 seq cap now (el l (i+1))/\mk2 lo (el l (i+1))/\F3 now w (el l (i+1)).T=true/\mk4 (el l i) (el l (i+1)):=by
 unfold B1F;rw [D5e];constructor
 ·rintro ⟨h1,h2,h3,h4⟩;exact ⟨h1,h2,h3 (.inl (by omega)),h4 (by omega)⟩
 ·rintro ⟨h1,h2,h3,h4⟩;exact ⟨h1,h2,fun _=>h3,fun _=>h4⟩
theorem B7J (l:List D7) (seq cap now w lo:Int) (hl:l.length<=maxLen):A6f l seq cap now w lo=some (T2 (A29 l seq cap now w lo)):=by
 unfold A6f
 by_cases hs:0<=seq/\seq<=1099511627776
 ·have e:(decide (seq<0)||decide (seq>1099511627776))=false:=by simp;omega
  rw [e,D4A];unfold B3X;have H:=L2 (f:=fun s:Int=>A4y l seq cap now w lo s) l.length (fun i=> ¬B1F l seq cap now w lo i) false (some (T2 (0<l.length->A7K seq (el l (l.length-1)))))
   (fun i hi _=>by
    unfold A4y;rw [D4C (by omega:(i:Int)<(l.length:Int)),D4B,G4 hi,D4x,N4 hi hl]
    simp only [A7g]
    by_cases h1:mk1 seq cap now (el l i)
    ·have e1:=D4N.2 (fun h=>(C32 (cap:=cap) (now:=now) hs (el l i)).1 h h1);rw [e1,D4A]
     by_cases h2:mk2 lo (el l i)
     ·have e2:((((decide ((el l i).Bk<lo))||(decide ((el l i).Bj>(4096:Int))))||(decide ((el l i).Bk>(el l i).Bj)))||(!(U6 (el l i).N (el l i).Bk (el l i).Bj (el l i).S (el l i).Q)))=false:=by
       have:=h2.2.2.2;unfold mk2 at h2;rw [this];simp;omega
      rw [e2,D4A];rcases i with _|i
      ·have e3:(((0:Nat):Int)==0)=true:=rfl;have e4:decide (((0:Nat):Int)>0)=false:=rfl;rw [e3,e4,D4B,D4Y];refine K3 ?_;unfold B1F;simp only [D4F,D5r,D4T,Nat.lt_irrefl,false_or,false_implies,and_true,h1,h2,true_and];have:((l.length:Int)=1)↔l.length=1:=by omega
       rw [this,Classical.not_imp,Bool.not_eq_true]
      ·have e3:(((i+1:Nat):Int)==0)=false:=by rw [D5n];omega
       have e4:decide (((i+1:Nat):Int)>0)=true:=D4C (by omega)
       rw [e3,e4,D4A,D5h,D48,A2k (by omega) (Nat.le_of_lt hi) hl,D5e,G4 (by omega),D4x]
       simp only [A2d];refine K3 ?_;rw [C1t];simp only [h1,h2,true_and,D4I,D4T,D4z];unfold mk4;cases F3 now w (el l (i+1)).T with
       |false=>simp
       |true=>
        cases U6 (A2 ((el l i).N-(el l (i+1)).N)) (el l i).Bk (el l i).Bj (A2 ((el l i).S-(el l (i+1)).S)) (A2 ((el l i).Q-(el l (i+1)).Q)) with
        |false=>simp
        |true=>simp;omega
     ·have e2:((((decide ((el l i).Bk<lo))||(decide ((el l i).Bj>(4096:Int))))||(decide ((el l i).Bk>(el l i).Bj)))||(!(U6 (el l i).N (el l i).Bk (el l i).Bj (el l i).S (el l i).Q)))=true:=by
       unfold mk2 at h2;cases hf:U6 (el l i).N (el l i).Bk (el l i).Bj (el l i).S (el l i).Q with
       |false=>simp
       |true=>rw [hf] at h2;simp only [and_true] at h2;simp;omega
      rw [e2,D4B];exact ⟨fun _=>rfl,fun hn=>absurd (fun h=>h2 h.2.1) hn⟩
    ·have e1:=(C32 (cap:=cap) (now:=now) hs (el l i)).2 h1;rw [e1,D4B];exact ⟨fun _=>rfl,fun hn=>absurd (fun h=>h1 h.1) hn⟩)
   (fun _=>by
    unfold A4y;rw [D4E (D40 _),D4A]
    congr 1
    by_cases h0:0<l.length
    ·have e1:((l.length:Int)==0)=false:=by rw [D5n];omega
     rw [e1,D4A,A2k h0 (D5f _) hl,G4 (by omega),D4x]
     congr 1
     rw [D4S,I3];unfold A7K;simp [h0,and_assoc]
    ·have e1:((l.length:Int)==0)=true:=by
      have:l.length=0:=by omega
      rw [this];rfl
     rw [e1,D4B,P6];exact fun h=>absurd h h0)
  by_cases h: ∀i,i<l.length->B1F l seq cap now w lo i
  ·rw [H.2 fun i hi hn=>hn (h i hi)]
   congr 1
   rw [D4S,I3,I3];exact ⟨fun h2=>⟨hs,h,h2⟩,fun h2=>h2.2.2⟩
  ·rw [H.1 (A0V h),J9];exact fun h2=>h h2.2.1
 ·have e:(decide (seq<0)||decide (seq>1099511627776))=true:=by rw [D4S];simp;omega
  rw [e,D4B,J9];exact fun h=>hs h.1
theorem C1x (n s q lo hi:Int):A3N n s q lo hi=U6 n lo hi s q:=by
 unfold A3N U6
 rfl
theorem C3I {n lo hi s q:Int} (hn:0<=n/\n<=65536) (hlo:-4096<=lo/\lo<=4096) (hhi:-4096<=hi/\hi<=4096):
  U6 n lo hi s q=true↔n*lo<=s/\s<=n*hi/\0<=q/\q<=n*16777216/\s*s<=n*q:=by
 have b: ∀x:Int,-4096<=x->x<=4096-> -268435456<=n*x/\n*x<=268435456:=by
  intro x h1 h2;have h3:=Int.mul_le_mul_of_nonneg_left h1 hn.1;have h4:=Int.mul_le_mul_of_nonneg_left h2 hn.1;omega
 have b1:=b lo hlo.1 hlo.2;have b2:=b hi hhi.1 hhi.2;unfold U6;rw [B9 (n:=n*lo) (by omega) (by omega),B9 (n:=n*hi) (by omega) (by omega),B9 (n:=n*4096) (by omega) (by omega),B9 (n:=n*4096*4096) (by omega) (by omega)]
 simp only [D4F,D4z];have e:n*4096*4096=n*16777216:=by omega
 rw [e];constructor
 ·rintro ⟨⟨⟨⟨h1,h2⟩,h3⟩,h4⟩,h5⟩;have hs:s*s<=268435456*268435456:=by
   have h6:s.natAbs*s.natAbs<=268435456*268435456:=Nat.mul_le_mul (by omega) (by omega)
   have e2:(s.natAbs:Int)*s.natAbs=s*s:=Int.natAbs_mul_self;have h7:((s.natAbs*s.natAbs:Nat):Int)=(s.natAbs:Int)*s.natAbs:=by rw [Int.natCast_mul]
   omega
  have hs0:0<=s*s:=by
   have e2:(s.natAbs:Int)*s.natAbs=s*s:=Int.natAbs_mul_self;have:=Int.mul_nonneg (a:=(s.natAbs:Int)) (b:=s.natAbs) (by omega) (by omega)
   omega
  have hq:n*q<=65536*1099511627776:=Int.mul_le_mul hn.2 (by omega) h3 (by omega)
  have hq0:0<=n*q:=Int.mul_nonneg hn.1 h3;rw [B9 (by omega) (by omega),B9 (by omega) (by omega)] at h5
  exact ⟨h1,h2,h3,h4,h5⟩
 ·rintro ⟨h1,h2,h3,h4,h5⟩;have hs0:0<=s*s:=by
   have e2:(s.natAbs:Int)*s.natAbs=s*s:=Int.natAbs_mul_self;have:=Int.mul_nonneg (a:=(s.natAbs:Int)) (b:=s.natAbs) (by omega) (by omega)
   omega
  have hq:n*q<=65536*1099511627776:=Int.mul_le_mul hn.2 (by omega) h3 (by omega)
  have hq0:0<=n*q:=Int.mul_nonneg hn.1 h3;rw [B9 (n:=s*s) (by omega) (by omega),B9 (n:=n*q) (by omega) (by omega)]
  exact ⟨⟨⟨⟨h1,h2⟩,h3⟩,h4⟩,h5⟩
theorem C1p {agg v:Int} (ha:1<=agg/\agg<=4):A0v agg v=true↔L7 agg<=v/\v<=4096:=by
 unfold A0v L7;simp only [D4F,D4I,D4z,D5r,A2B];have:agg=1\/agg=2\/agg=3\/agg=4:=by omega
 rcases this with rfl|rfl|rfl|rfl
 ·show _↔(-4096:Int)<=v/\_;omega
 ·show _↔(0:Int)<=v/\_;omega
 ·show _↔(0:Int)<=v/\_;omega
 ·show _↔(-4096:Int)<=v/\_;omega
theorem A4Q (agg:Int): -4096<=L7 agg:=by
 unfold L7;cases (agg==2||agg==3)<;>decide
theorem D0L {seq cap now agg:Int} (ha:1<=agg/\agg<=4) (hc:cap<=65536) {m:D7} (h1:mk1 seq cap now m):
  ((((((((!(A0v agg m.Bk))||(!(A0v agg m.Bj)))||(decide (m.Bk>m.Bj)))||(decide (m.S<(A2 ((IntKind.i64.wrap (0-m.N))*(4096:Int))))))||(decide (m.S>(A2 (m.N*(4096:Int))))))||(decide (m.Q<(0:Int))))||(decide (m.Q>(A2 ((A2 (m.N*(4096:Int)))*(4096:Int))))))||(!(A3N m.N m.S m.Q m.Bk m.Bj)))=true↔ ¬mk2 (L7 agg) m:=by
 unfold mk1 at h1;have hn:0<=m.N/\m.N<=65536:=by omega
 have e0:IntKind.i64.wrap (0-m.N)= -m.N:=by
  show A2 (0-m.N)=_;rw [B9]<;>omega
 rw [e0,B9 (n:= -m.N*4096) (by omega) (by omega),B9 (n:=m.N*4096) (by omega) (by omega),B9 (n:=m.N*4096*4096) (by omega) (by omega),C1x]
 simp only [D4I,D4T,D4z];unfold mk2;rw [D4N,D4N,D4N,Ne,Ne,Ne,C1p ha,C1p ha];have hge:=A4Q agg
 by_cases hv:L7 agg<=m.Bk/\m.Bk<=m.Bj/\m.Bj<=4096
 ·have:=C3I (s:=m.S) (q:=m.Q) hn (lo:=m.Bk) (hi:=m.Bj) (by omega) (by omega)
  rw [this];have h3:=Int.mul_le_mul_of_nonneg_left (show-4096<=m.Bk by omega) hn.1
  have h4:=Int.mul_le_mul_of_nonneg_left (show m.Bj<=4096 by omega) hn.1
  omega
 ·omega
theorem C9B {seq cap now agg:Int} (ha:1<=agg/\agg<=4) (hc:cap<=65536) {m:D7} (h1:mk1 seq cap now m):
  ((((((((!(A0v agg m.Bk))||(!(A0v agg m.Bj)))||(decide (m.Bk>m.Bj)))||(decide (m.S<(A2 ((IntKind.i64.wrap (0-m.N))*(4096:Int))))))||(decide (m.S>(A2 (m.N*(4096:Int))))))||(decide (m.Q<(0:Int))))||(decide (m.Q>(A2 ((A2 (m.N*(4096:Int)))*(4096:Int))))))||(!(A3N m.N m.S m.Q m.Bk m.Bj)))=T2 (¬mk2 (L7 agg) m):=by
 rw [D4S,I3];exact D0L ha hc h1
theorem B7T (l:List D7) (agg w cap now seq:Int) (ha:1<=agg/\agg<=4) (hc:cap<=65536) (hn:now<=16777216) (hl:l.length<=maxLen):
  A6n l agg w cap now seq=some (T2 (A29 l seq cap now w (L7 agg))):=by
 unfold A6n
 by_cases hs:0<=seq/\seq<=1099511627776
 ·have e:(decide (seq<0)||decide (seq>1099511627776))=false:=by simp;omega
  rw [e,D4A];unfold B37;have H:=L2 (f:=fun s:Int=>A4C l agg w cap now seq s) l.length (fun i=> ¬(B1F l seq cap now w (L7 agg) i/\(i=l.length-1->A7K seq (el l i)))) false (some true)
   (fun i hi _=>by
    unfold A4C;rw [D4C (by omega:(i:Int)<(l.length:Int)),D4B,G4 hi,D4x,N4 hi hl]
    simp only [];have hlast:A2 ((l.length:Int)-1)=((l.length-1:Nat):Int):=A2k (by omega) (D5f _) hl
    have elast:((i:Int)==((l.length-1:Nat):Int))=decide (i=l.length-1):=by rw [D4S,D5r,D4z];omega
    rw [hlast,elast];have dlast:((((el l i).Bm !=seq||(el l i).Bk !=(el l i).S)||(el l i).Bj !=(el l i).S)||(el l i).Q !=A2 ((el l i).S*(el l i).S))=T2 (¬A7K seq (el l i)):=by
     rw [D4S,I3];unfold A7K;simp only [D4I,bne_iff_ne];omega
    by_cases h1:(1<=(el l i).Bm/\(el l i).Bm<=seq)/\(el l i).N=seq-(el l i).Bm+1/\(el l i).N<=cap
    ·have e1:(((decide ((el l i).Bm<1)||decide ((el l i).Bm>seq))||((el l i).N !=A2 (A2 (seq-(el l i).Bm)+1)))||decide ((el l i).N>cap))=false:=by
      have e:A2 (A2 (seq-(el l i).Bm)+1)=seq-(el l i).Bm+1:=by rw [B9 (n:=seq-(el l i).Bm) (by omega) (by omega),B9]<;>omega
      rw [e];simp;omega
     rw [e1]
     by_cases h1' :0<=(el l i).T/\(el l i).T<=now
     ·have hm1:mk1 seq cap now (el l i):=by unfold mk1;omega
      have e2:(!G3 (el l i).T||decide ((el l i).T>now))=false:=by
       have:=(A1p (el l i).T).2 (by omega)
       rw [this];simp;omega
      rw [e2];have e3:=C9B ha hc hm1;rcases i with _|i
      ·have e4:decide (((0:Nat):Int)>0)=false:=rfl;rw [e4];rw [e3,dlast];simp only [D4K,Bool.and_false,G0,D4x,D4Y,Bool.or_false,D42,D4A,A2d];refine K3 ?_;have e5:(((l.length:Int)==1)=true)↔l.length=1:=by rw [D5r];omega
       have e6:(0=l.length-1)↔l.length=1:=by omega
       rw [D4I,D4I,D4F,D4F,I3,I3,e5,D4z,D4T,D4N,e6];unfold B1F
       by_cases g1:mk2 (L7 agg) (el l 0)<;>by_cases g2:l.length=1<;>by_cases g3:F3 now w (el l 0).T=true<;>by_cases g5:A7K seq (el l 0)<;>simp [g1,g2,g3,g5,hm1]
      ·have e4:decide (((i+1:Nat):Int)>0)=true:=D4C (by omega)
       rw [e4,A2k (by omega) (Nat.le_of_lt hi) hl,D5e,G4 (by omega)]
       rw [e3,dlast];simp only [D4K,D48,G5,D4x,D4Y,D5h,D4B,A2d];refine K3 ?_;rw [C1t];simp only [D4I,D4F,I3,D4z,D4T,C1x];unfold mk4
       generalize hf:U6 (A2 ((el l i).N-(el l (i+1)).N)) (el l i).Bk (el l i).Bj (A2 ((el l i).S-(el l (i+1)).S)) (A2 ((el l i).Q-(el l (i+1)).Q))=F
       generalize F3 now w (el l (i+1)).T=V
       generalize mk2 (L7 agg) (el l (i+1))=M
       generalize A7K seq (el l (i+1))=Z
       by_cases g1:M<;>by_cases g2:Z<;>cases F<;>cases V<;>simp [g1,g2,hm1]<;>omega
     ·have e2:(!G3 (el l i).T||decide ((el l i).T>now))=true:=by
       rw [D4I,D4T,D4N,Ne,A1p,D4z];omega
      have hm1: ¬mk1 seq cap now (el l i):=by unfold mk1;omega
      rw [e2];simp only [D4J,D42,G0,D4x,D5h,D4B];rcases i with _|i
      ·have e4:decide (((0:Nat):Int)>0)=false:=rfl;rw [e4];simp only [Bool.and_false,D42,G0,D4x,Bool.or_false,D4A];exact ⟨fun _=>trivial,fun hn=>absurd (fun h=>hm1 h.1.1) hn⟩
      ·have e4:decide (((i+1:Nat):Int)>0)=true:=D4C (by omega)
       rw [e4,A2k (by omega) (Nat.le_of_lt hi) hl,D5e,G4 (by omega)]
       simp only [D4K,D48,G5,D4x,D4Y,ite_self,A2d];cases decide ((el l i).Bm>=(el l (i+1)).Bm) with
       |false=>exact ⟨fun _=>rfl,fun hn=>absurd (fun h=>hm1 h.1.1) hn⟩
       |true=>exact ⟨fun _=>rfl,fun hn=>absurd (fun h=>hm1 h.1.1) hn⟩
    ·have e1:(((decide ((el l i).Bm<1)||decide ((el l i).Bm>seq))||((el l i).N !=A2 (A2 (seq-(el l i).Bm)+1)))||decide ((el l i).N>cap))=true:=by
      by_cases h:1<=(el l i).Bm/\(el l i).Bm<=seq
      ·have e:A2 (A2 (seq-(el l i).Bm)+1)=seq-(el l i).Bm+1:=by rw [B9 (n:=seq-(el l i).Bm) (by omega) (by omega),B9]<;>omega
       simp only [e,D4I,D4z,bne_iff_ne];omega
      ·simp only [D4I,D4z];omega
     rw [e1];simp only [D4J,D42,G0,D4x,D5h,D4B];refine ⟨fun _=>trivial,fun hn=>absurd (fun h=>h1 ?_) hn⟩;have:=h.1.1;unfold mk1 at this;exact ⟨this.1,this.2.1,this.2.2.1⟩)
   (fun _=>by
    unfold A4C;rw [D4E (D40 _),D4A])
  by_cases h: ∀i,i<l.length->(B1F l seq cap now w (L7 agg) i/\(i=l.length-1->A7K seq (el l i)))
  ·rw [H.2 fun i hi hn=>hn (h i hi),P6];exact ⟨hs,fun i hi=>(h i hi).1,fun h0=>(h (l.length-1) (by omega)).2 rfl⟩
  ·rw [H.1 (A0V h),J9];rintro ⟨_,h2,h3⟩;exact h fun i hi=>⟨h2 i hi,fun e=>by subst e;exact h3 (by omega)⟩
 ·have e:(decide (seq<0)||decide (seq>1099511627776))=true:=by rw [D4S];simp;omega
  rw [e,D4B,J9];exact fun h=>hs h.1
end Go.Win
namespace Go.Win
open Go.Vc Go.Dec
theorem B9C {m:D7} (h1:-4096<=m.Bk/\m.Bk<=4096) (h2:-4096<=m.Bj/\m.Bj<=4096) (agg:Int):P0 m agg=N7 m agg:=by
 have e1:(B68 m.Bj m.Bk).1=m.Bj-m.Bk:=by
  unfold B68;rw [B9 (n:=m.Bj-m.Bk) (by omega) (by omega)]
  cases hb:((!((decide (m.Bj>=(0:Int)))==(decide (m.Bk>=(0:Int)))))&&(!((decide (m.Bj-m.Bk>=(0:Int)))==(decide (m.Bj>=(0:Int)))))) with
  |false=>rfl
  |true=>
   simp only [D4F,D4T,D5n,ne_eq] at hb;obtain ⟨g1,g2⟩:=hb
   by_cases a1:m.Bj>=0<;>by_cases a2:m.Bk>=0<;>by_cases a3:m.Bj-m.Bk>=0<;>simp [a1,a2,a3] at g1 g2<;>omega
 have e2:A7i m.Bj m.Bk=(m.Bj-m.Bk,true):=by
  unfold A7i;have:((decide (m.Bk<0)&&decide (m.Bj>A2 (9223372036854775807+m.Bk)))||(decide (m.Bk>0)&&decide (m.Bj<A2 (-9223372036854775808+m.Bk))))=false:=by
   by_cases g1:m.Bk<0
   ·rw [B9 (n:=9223372036854775807+m.Bk) (by omega) (by omega)]
    simp;omega
   ·by_cases g2:m.Bk>0
    ·rw [B9 (n:= -9223372036854775808+m.Bk) (by omega) (by omega)]
     simp;omega
    ·simp;omega
  rw [this,D4A,B9]<;>omega
 unfold P0 N7;rw [e2];simp only [e1,D4B]
 rfl
theorem B3R (w k c n:Int):A5h w k c n=true↔(1<=w/\w<=1048576)/\(1<=c/\c<=65536)/\(0<=n/\n<=16777216)/\(1<=k/\k<=64):=by
 unfold A5h;simp;omega
def A2F (w k c n:Int):Prop:=(1<=w/\w<=1048576)/\(1<=c/\c<=65536)/\(0<=n/\n<=16777216)/\(1<=k/\k<=64)
def C39 (x:D2):Prop:=(1<=x.Bg/\x.Bg<=4)/\A2F x.W x.K x.Cap x.Now/\A29 x.Ay x.Bm x.Cap x.Now x.W (L7 x.Bg)/\
 ∀i,i<x.Ay.length->(2<=i-> ¬J8 (el x.Ay (i-2)) (el x.Ay i) x.Bg x.K=true)/\
  (1<=i->(el x.Ay i).Bm-(el x.Ay (i-1)).Bm>1->J8 (el x.Ay (i-1)) (el x.Ay i) x.Bg x.K=true)
theorem A2E {l:List D7} {seq cap now w lo:Int} (hlo:-4096<=lo) (h:A29 l seq cap now w lo) {i:Nat} (hi:i<l.length):
  (1<=(el l i).Bm/\(el l i).Bm<=1099511627776)/\(-4096<=(el l i).Bk/\(el l i).Bk<=4096)/\(-4096<=(el l i).Bj/\(el l i).Bj<=4096):=by
 have h1:=h.2.1 i hi;unfold B1F mk1 mk2 at h1;have:=h.1;omega
theorem B2Y (x:D2) (hl:x.Ay.length<=maxLen):A2y x=some (vOf (C39 x)):=by
 unfold A2y;simp only []
 by_cases h1:(1<=x.Bg/\x.Bg<=4)/\A2F x.W x.K x.Cap x.Now
 ·have e1:A0w x.Bg x.W x.K x.Cap x.Now=true:=by
   unfold A0w;simp only [(B3R _ _ _ _).2 h1.2,Bool.and_true,D4F,D4z];exact h1.1
  rw [e1,B7J _ _ _ _ _ _ hl];simp only [D4J,D4K,G5,D4x,D4Y]
  by_cases h2:A29 x.Ay x.Bm x.Cap x.Now x.W (L7 x.Bg)
  ·rw [P6 h2,D4J,D4A];unfold A9v;have H:=L2 (f:=fun s:Int=>A1T x s) x.Ay.length (fun i=> ¬((2<=i-> ¬J8 (el x.Ay (i-2)) (el x.Ay i) x.Bg x.K=true)/\
     (1<=i->(el x.Ay i).Bm-(el x.Ay (i-1)).Bm>1->J8 (el x.Ay (i-1)) (el x.Ay i) x.Bg x.K=true))) 2 (some 0)
    (fun i hi _=>by
     unfold A1T;rw [D4C (by omega:(i:Int)<(x.Ay.length:Int)),D4B,G4 hi,D4x,N4 hi hl]
     simp only [];have key: ∀j,j+1=i->A2 ((el x.Ay i).Bm-(el x.Ay j).Bm)=(el x.Ay i).Bm-(el x.Ay j).Bm:=by
      intro j hj;have g1:=A2E (A4Q _) h2 hi;have g2:=A2E (A4Q _) h2 (show j<x.Ay.length by omega)
      rw [B9]<;>omega
     have key1:1<=i->D1 x.Ay (A2 ((i:Int)-1))=some (el x.Ay (i-1)):=fun h=>by rw [A2k (by omega) (Nat.le_of_lt hi) hl,G4 (by omega)]
     have key2:2<=i->D1 x.Ay (A2 ((i:Int)-2))=some (el x.Ay (i-2)):=fun h=>by
      have:A2 ((i:Int)-2)=((i-2:Nat):Int):=by rw [G9] at hl;rw [B9]<;>omega
      rw [this,G4 (by omega)]
     by_cases g1:1<=i
     ·rw [D4C (by omega:(i:Int)>=1),key1 g1]
      simp only [G5,D4x,D48,key (i-1) (by omega)]
      by_cases g3:(el x.Ay i).Bm-(el x.Ay (i-1)).Bm>1
      ·simp only [g3,decide_true,G5,D4x,D48]
       by_cases g2:2<=i
       ·rw [D4C (by omega:(i:Int)>=2),key2 g2]
        simp only [G5,D4x,D48,A2d];refine K3 ?_;simp only [g1,g2,D4I,D4T];cases J8 (el x.Ay (i-2)) (el x.Ay i) x.Bg x.K<;>cases J8 (el x.Ay (i-1)) (el x.Ay i) x.Bg x.K<;>simp
       ·rw [D4E (by omega: ¬(i:Int)>=2)]
        simp only [G0,D4x,D42,D4A];refine K3 ?_;simp only [g1,g2,D4T];cases J8 (el x.Ay (i-1)) (el x.Ay i) x.Bg x.K<;>simp
      ·simp only [g3,decide_false,G0,D4x,D42,D4A]
       by_cases g2:2<=i
       ·rw [D4C (by omega:(i:Int)>=2),key2 g2]
        simp only [G5,D4x,D48];refine K3 ?_;simp [g1,g2]
       ·rw [D4E (by omega: ¬(i:Int)>=2)]
        simp only [G0,D4x,D42,D4A];exact ⟨fun h=>absurd ⟨fun h2=>absurd h2 g2,fun _ h3=>h3.elim⟩ h,fun _=>trivial⟩
     ·rw [D4E (by omega: ¬(i:Int)>=2),D4E (by omega: ¬(i:Int)>=1)]
      simp only [G0,D4x,D42,D4A];exact ⟨fun h=>absurd ⟨fun h2=>absurd h2 (by omega),fun h3=>absurd h3 g1⟩ h,fun _=>trivial⟩)
    (fun _=>by
     unfold A1T;rw [D4E (D40 _),D4A])
   by_cases h3: ∀i,i<x.Ay.length->((2<=i-> ¬J8 (el x.Ay (i-2)) (el x.Ay i) x.Bg x.K=true)/\
     (1<=i->(el x.Ay i).Bm-(el x.Ay (i-1)).Bm>1->J8 (el x.Ay (i-1)) (el x.Ay i) x.Bg x.K=true))
   ·rw [H.2 fun i hi hn=>hn (h3 i hi),O0];exact ⟨h1.1,h1.2,h2,h3⟩
   ·rw [H.1 (A0V h3),H2];exact fun h=>h3 h.2.2.2
  ·rw [J9 h2,H2 fun h=>h2 h.2.2.1]
   rfl
 ·have e1:A0w x.Bg x.W x.K x.Cap x.Now=false:=by
   rw [D4N];intro h;unfold A0w at h;simp only [D4F,D4z,B3R] at h;exact h1 h
  rw [e1,H2 fun h=>h1 ⟨h.1,h.2.1⟩]
  rfl
theorem B38 (x:D2) (hl:x.Ay.length<=maxLen):A3i x=some (vOf (C39 x)):=by
 unfold A3i;simp only []
 by_cases h1:(1<=x.Bg/\x.Bg<=4)/\A2F x.W x.K x.Cap x.Now
 ·have e1:T7 x.Bg=true:=by unfold T7;simp;exact h1.1
  have e2:I1 x.W x.Cap x.Now=true:=(U1 _ _ _).2 ⟨h1.2.1,h1.2.2.1,h1.2.2.2.1⟩;have e3:I6 x.K=true:=(R9 _).2 h1.2.2.2.2;rw [e1,e2,e3,B7T _ _ _ _ _ _ h1.1 h1.2.2.1.2 h1.2.2.2.1.2 hl];simp only [D4J,D4K,G5,D4x,Bool.or_false,D4Y]
  by_cases h2:A29 x.Ay x.Bm x.Cap x.Now x.W (L7 x.Bg)
  ·rw [P6 h2,D4J,D4A];unfold B0h;have H:=L2 (f:=fun s:Int=>A2o x s) x.Ay.length (fun i=> ¬((2<=i-> ¬J8 (el x.Ay (i-2)) (el x.Ay i) x.Bg x.K=true)/\
     (1<=i->(el x.Ay i).Bm-(el x.Ay (i-1)).Bm>1->J8 (el x.Ay (i-1)) (el x.Ay i) x.Bg x.K=true))) 2 (some 0)
    (fun i hi _=>by
     unfold A2o;rw [D4C (by omega:(i:Int)<(x.Ay.length:Int)),D4B,G4 hi,D4x,N4 hi hl]
     simp only [];have eof: ∀j,j<x.Ay.length->N7 (el x.Ay j) x.Bg=P0 (el x.Ay j) x.Bg:=by
      intro j hj;have g2:=A2E (A4Q _) h2 hj;exact (B9C g2.2.1 g2.2.2 _).symm
     have near: ∀j,j<x.Ay.length->decide (A2 (A2 (x.K+1)*N7 (el x.Ay i) x.Bg)>=A2 (x.K*N7 (el x.Ay j) x.Bg))=J8 (el x.Ay j) (el x.Ay i) x.Bg x.K:=by
      intro j hj;rw [eof i hi,eof j hj];rfl
     have nearN: ∀j,j<x.Ay.length->decide (A2 (A2 (x.K+1)*N7 (el x.Ay i) x.Bg)<A2 (x.K*N7 (el x.Ay j) x.Bg))= !J8 (el x.Ay j) (el x.Ay i) x.Bg x.K:=by
      intro j hj;rw [<-near j hj,D4S,D4T,D4z,D4O];omega
     have key: ∀j,j+1=i->A2 ((el x.Ay j).Bm+1)=(el x.Ay j).Bm+1:=by
      intro j hj;have g2:=A2E (A4Q _) h2 (show j<x.Ay.length by omega)
      rw [B9]<;>omega
     have key1:1<=i->D1 x.Ay (A2 ((i:Int)-1))=some (el x.Ay (i-1)):=fun h=>by rw [A2k (by omega) (Nat.le_of_lt hi) hl,G4 (by omega)]
     have key2:2<=i->D1 x.Ay (A2 ((i:Int)-2))=some (el x.Ay (i-2)):=fun h=>by
      have:A2 ((i:Int)-2)=((i-2:Nat):Int):=by rw [G9] at hl;rw [B9]<;>omega
      rw [this,G4 (by omega)]
     by_cases g1:1<=i
     ·rw [D4C (by omega:(i:Int)>0),key1 g1]
      simp only [G5,D4x,D48,key (i-1) (by omega)]
      by_cases g3:(el x.Ay i).Bm-(el x.Ay (i-1)).Bm>1
      ·have g3' :(el x.Ay i).Bm>(el x.Ay (i-1)).Bm+1:=by omega
       simp only [g3,g3',decide_true,G5,D4x,D48,nearN (i-1) (by omega)]
       by_cases g2:2<=i
       ·rw [D4C (by omega:(i:Int)>1),key2 g2]
        simp only [G5,D4x,D48,A2d,near (i-2) (by omega)]
        refine K3 ?_;simp only [g1,g2,D4I,D4T];cases J8 (el x.Ay (i-2)) (el x.Ay i) x.Bg x.K<;>cases J8 (el x.Ay (i-1)) (el x.Ay i) x.Bg x.K<;>simp
       ·rw [D4E (by omega: ¬(i:Int)>1)]
        simp only [G0,D4x,D42,D4A];refine K3 ?_;simp only [g1,g2,D4T];cases J8 (el x.Ay (i-1)) (el x.Ay i) x.Bg x.K<;>simp
      ·have g3' : ¬(el x.Ay i).Bm>(el x.Ay (i-1)).Bm+1:=by omega
       simp only [g3,g3',decide_false,G0,D4x,D42,D4A]
       by_cases g2:2<=i
       ·rw [D4C (by omega:(i:Int)>1),key2 g2]
        simp only [G5,D4x,D48,near (i-2) (by omega)]
        refine K3 ?_;simp [g1,g2]
       ·rw [D4E (by omega: ¬(i:Int)>1)]
        simp only [G0,D4x,D42,D4A];exact ⟨fun h=>absurd ⟨fun h2=>absurd h2 g2,fun _ h3=>h3.elim⟩ h,fun _=>trivial⟩
     ·rw [D4E (by omega: ¬(i:Int)>1),D4E (by omega: ¬(i:Int)>0)]
      simp only [G0,D4x,D42,D4A];exact ⟨fun h=>absurd ⟨fun h2=>absurd h2 (by omega),fun h3=>absurd h3 g1⟩ h,fun _=>trivial⟩)
    (fun _=>by
     unfold A2o;rw [D4E (D40 _),D4A])
   by_cases h3: ∀i,i<x.Ay.length->((2<=i-> ¬J8 (el x.Ay (i-2)) (el x.Ay i) x.Bg x.K=true)/\
     (1<=i->(el x.Ay i).Bm-(el x.Ay (i-1)).Bm>1->J8 (el x.Ay (i-1)) (el x.Ay i) x.Bg x.K=true))
   ·rw [H.2 fun i hi hn=>hn (h3 i hi),O0];exact ⟨h1.1,h1.2,h2,h3⟩
   ·rw [H.1 (A0V h3),H2];exact fun h=>h3 h.2.2.2
  ·rw [J9 h2,H2 fun h=>h2 h.2.2.1]
   rfl
 ·have e1:((!T7 x.Bg|| !I1 x.W x.Cap x.Now)|| !I6 x.K)=true:=by
   rw [D4I,D4I,D4T,D4T,D4T,D4N,D4N,D4N,Ne,Ne,Ne,U1,R9];unfold T7;unfold A2F at h1;simp only [D4F,D4z];omega
  rw [e1,H2 fun h=>h1 ⟨h.1,h.2.1⟩]
  rfl
theorem C6X (l:List D7) (hl:l.length<=maxLen):Z6 l l=some true:=by
 unfold Z6;rw [D5a,D4A];unfold A4Y;refine (L2 (f:=fun s:Int=>A0l l l s) l.length (fun _=>False) false (some true) (fun i hi _=>⟨fun h=>h.elim,fun _=> ?_⟩) (fun _=> ?_)).2 fun _ _ h=>h
 ·unfold A0l;rw [D4C (by omega:(i:Int)<(l.length:Int)),D4B,G4 hi]
  simp [N4 hi hl]
 ·unfold A0l;rw [D4E (D40 _),D4A]
theorem C55 (x:D2) (hl:x.Ay.length<=maxLen):A5x x x=some true:=by
 unfold A5x;simp [C6X _ hl]
theorem C56 (x:D3) (hl:x.Ay.length<=maxLen):A5y x x=some true:=by
 unfold A5y;simp [C6X _ hl]
end Go.Win
namespace Go.Win
open Go.Vc Go.Dec
theorem B9Z {n:Int} (h:E3 .u64 n):0<=n/\n<18446744073709551616:=by
 simp [E3,Lit.wf,IntKind.min,IntKind.max,IntKind.signed,IntKind.bits] at h;omega
theorem B4t:S3=O5:=rfl
def A1M (m:D7):Prop:=(1<=m.N/\m.N<=65536)/\(-(m.N*4096)<=m.S/\m.S<=m.N*4096)/\(0<=m.Q/\m.Q<=m.N*16777216)/\m.S*m.S<=m.N*m.Q
theorem B2U {m:D7} (h1:1<=m.N/\m.N<=65536) (h2:-(m.N*4096)<=m.S/\m.S<=m.N*4096) (h3:0<=m.Q/\m.Q<=m.N*16777216):
  (0<=m.S*m.S/\m.S*m.S<=72057594037927936)/\(0<=m.N*m.Q/\m.N*m.Q<=72057594037927936):=by
 have e2:(m.S.natAbs:Int)*m.S.natAbs=m.S*m.S:=Int.natAbs_mul_self;have h6:m.S.natAbs*m.S.natAbs<=268435456*268435456:=Nat.mul_le_mul (by omega) (by omega)
 have h7:((m.S.natAbs*m.S.natAbs:Nat):Int)=(m.S.natAbs:Int)*m.S.natAbs:=by rw [Int.natCast_mul]
 have hq:m.N*m.Q<=65536*1099511627776:=Int.mul_le_mul h1.2 (by omega) h3.1 (by omega)
 have hq0:0<=m.N*m.Q:=Int.mul_nonneg (by omega) h3.1
 omega
theorem A2j (m:D7):Y0 m=true↔A1M m:=by
 unfold Y0 A1M
 by_cases h1:1<=m.N/\m.N<=65536
 ·have e0:IntKind.i64.wrap (0-m.N)= -m.N:=by
   show A2 (0-m.N)=_;rw [B9]<;>omega
  rw [e0,B9 (n:= -m.N*4096) (by omega) (by omega),B9 (n:=m.N*4096) (by omega) (by omega),B9 (n:=m.N*4096*4096) (by omega) (by omega)]
  simp only [D4F,D4z];constructor
  ·rintro ⟨⟨⟨⟨⟨_,h2⟩,h3⟩,h4⟩,h5⟩,h6⟩;have:=B2U h1 (by omega) (by omega)
   rw [B9 (by omega) (by omega),B9 (by omega) (by omega)] at h6
   exact ⟨h1,by omega,by omega,h6⟩
  ·rintro ⟨_,h2,h3,h4⟩;have:=B2U h1 h2 h3;rw [B9 (n:=m.S*m.S) (by omega) (by omega),B9 (n:=m.N*m.Q) (by omega) (by omega)]
   exact ⟨⟨⟨⟨⟨by omega,by omega⟩,by omega⟩,by omega⟩,by omega⟩,h4⟩
 ·simp only [D4F,D4z];constructor
  ·rintro ⟨⟨⟨⟨⟨h,_⟩,_⟩,_⟩,_⟩,_⟩;exact absurd h h1
  ·rintro ⟨h,_⟩;exact absurd h h1
theorem C4u (m:D7):A3w m=Y0 m:=by
 unfold A3w Y0;cases h:((((((decide (m.N<(1:Int)))||(decide (m.N>(65536:Int))))||(decide (m.S<(A2 ((IntKind.i64.wrap (0-m.N))*(4096:Int))))))||(decide (m.S>(A2 (m.N*(4096:Int))))))||(decide (m.Q<(0:Int))))||(decide (m.Q>(A2 ((A2 (m.N*(4096:Int)))*(4096:Int)))))) with
 |true=>
  rw [D4B]
  symm
  rw [D4N];intro h2;simp only [D4I,D4z] at h;simp only [D4F,D4z] at h2;omega
 |false=>
  rw [D4A];simp only [D47,D4O] at h;rw [D4S];simp only [D4F,D4z];omega
theorem C1M {a b:A1} (ha:H1 a) (hb:H1 b) (h:wv a*wv b<340282366920938463463374607431768211456):A3T a b=some (E9 (wv a*wv b),true):=by
 rw [B17 ha hb,if_pos h]
def A05 (m:D7):Int:=m.N*m.Q-m.S*m.S
theorem B4h {m:D7} (h:A1M m):0<=A05 m/\A05 m<=72057594037927936:=by
 have:=B2U h.1 h.2.1 h.2.2.1;have h4:=h.2.2.2;unfold A05;omega
theorem B9Y {m:D7} (h:A1M m):Z7 m=A05 m:=by
 have:=B2U h.1 h.2.1 h.2.2.1;have h4:=h.2.2.2;unfold Z7 A05;rw [B9 (n:=m.N*m.Q) (by omega) (by omega),B9 (n:=m.S*m.S) (by omega) (by omega),B9]<;>omega
theorem A1j {n:Int} (h0:0<=n) (h1:n<18446744073709551616):A7 n=n:=by rw [M0];omega
def A7y (a b:D7) (k:Int):Prop:=A1M a/\A1M b/\(1<=k/\k<=64)/\ ¬6*k*b.N<(6*k-1)*a.N/\A05 a*b.N*(6*k-1)<=A05 b*a.N*(6*k)
theorem A10 {a b A B:Int} (h1:0<=a/\a<=A) (h2:0<=b/\b<=B):0<=a*b/\a*b<=A*B:=
 ⟨Int.mul_nonneg h1.1 h2.1,Int.mul_le_mul h1.2 h2.2 h2.1 (Int.le_trans h1.1 h1.2)⟩
theorem B0X {x y:Int} (hx:0<=x/\x<18446744073709551616) (hy:0<=y/\y<18446744073709551616):H1 (H5 x y)/\wv (H5 x y)=x*y:=by
 rw [A2l hx hy];have:=A4i hx hy;exact ⟨P5 this.1 this.2,L1 _⟩
theorem C43 {n:Int} (h:0<=n/\n<18446744073709551616):H1 (F1 n)/\wv (F1 n)=n:=by
 refine ⟨A88 h, ?_⟩;show 0*18446744073709551616+n=n;omega
theorem C4E (a b:D7) (k:Int):A72 a b k=some (T2 (A7y a b k)):=by
 unfold A72;simp only [C4u]
 by_cases h1:A1M a/\A1M b/\(1<=k/\k<=64)
 ·obtain ⟨ha,hb,hk⟩:=h1;rw [(A2j a).2 ha,(A2j b).2 hb];have e:(((!true|| !true)||decide (k<1))||decide (k>64))=false:=by simp;omega
  rw [e,D4A];have ea:=ha.1;have eb:=hb.1;have n1:=A10 (a:=6*k) (A:=384) (b:=b.N) (B:=65536) (by omega) (by omega)
  have n2:=A10 (a:=6*k-1) (A:=383) (b:=a.N) (B:=65536) (by omega) (by omega)
  rw [B9 (n:=6*k) (by omega) (by omega),B9 (n:=6*k-1) (by omega) (by omega),B9 (n:=6*k*b.N) (by omega) (by omega),B9 (n:=(6*k-1)*a.N) (by omega) (by omega)]
  by_cases h2:6*k*b.N<(6*k-1)*a.N
  ·rw [D4C h2,D4B,J9 fun h=>h.2.2.2.1 h2]
  ·have ta:=B4h ha;have tb:=B4h hb;rw [D4E h2,D4A,B9Y ha,B9Y hb,A1j (n:=A05 b) (by omega) (by omega),A1j (n:=A05 a) (by omega) (by omega),A1j (n:=a.N) (by omega) (by omega),A1j (n:=b.N) (by omega) (by omega),
    A1j (n:=6*k) (by omega) (by omega),A1j (n:=6*k-1) (by omega) (by omega),B6W,A8T]
   have x1:=B0X (x:=A05 b) (y:=a.N) (by omega) (by omega)
   have x2:=C43 (n:=6*k) (by omega)
   have y1:=B0X (x:=A05 a) (y:=b.N) (by omega) (by omega)
   have y2:=C43 (n:=6*k-1) (by omega)
   have m1:=A10 (a:=A05 b) (b:=a.N) (A:=72057594037927936) (B:=65536) tb (by omega)
   have m2:=A10 (a:=A05 a) (b:=b.N) (A:=72057594037927936) (B:=65536) ta (by omega)
   have m3:=A10 (a:=A05 b*a.N) (b:=6*k) (B:=384) m1 (by omega)
   have m4:=A10 (a:=A05 a*b.N) (b:=6*k-1) (B:=383) m2 (by omega)
   rw [C1M x1.1 x2.1 (by rw [x1.2,x2.2];omega),D4x,C1M y1.1 y2.1 (by rw [y1.2,y2.2];omega),D4x,x1.2,x2.2,y1.2,y2.2]
   rw [A0K (P5 m3.1 (by omega)) (P5 m4.1 (by omega)),L1,L1]
   congr 1
   rw [D4S,I3,D4z];unfold A7y;constructor
   ·intro h;refine ⟨ha,hb,hk,h2, ?_⟩;split at h
    ·omega
    ·split at h<;>omega
   ·rintro ⟨_,_,_,_,h⟩;split
    ·omega
    ·split<;>omega
 ·have e:(((!Y0 a|| !Y0 b)||decide (k<1))||decide (k>64))=true:=by
   rw [D4I,D4I,D4I,D4T,D4T,D4N,D4N,Ne,Ne,A2j,A2j,D4z,D4z]
   by_cases g1:A1M a
   ·by_cases g2:A1M b
    ·have: ¬(1<=k/\k<=64):=fun h=>h1 ⟨g1,g2,h⟩;omega
    ·exact .inl (.inl (.inr g2))
   ·exact .inl (.inl (.inl g1))
  rw [e,D4B,J9 fun h=>h1 ⟨h.1,h.2.1,h.2.2.1⟩]
theorem C5X (a b:D7) (k:Int):A9d a b k=T2 (A7y a b k):=by
 unfold A9d;simp only []
 by_cases h1:A1M a/\A1M b/\(1<=k/\k<=64)
 ·obtain ⟨ha,hb,hk⟩:=h1;rw [(A2j a).2 ha,(A2j b).2 hb,(R9 k).2 hk];have ea:=ha.1;have eb:=hb.1;have n1:=A10 (a:=6*k) (A:=384) (b:=b.N) (B:=65536) (by omega) (by omega)
  have n2:=A10 (a:=6*k-1) (A:=383) (b:=a.N) (B:=65536) (by omega) (by omega)
  have n3:=A10 (a:=6*k) (A:=384) (b:=a.N) (B:=65536) (by omega) (by omega)
  have n4:=A10 (a:=6*k-1) (A:=383) (b:=b.N) (B:=65536) (by omega) (by omega)
  rw [B9 (n:=6*k) (by omega) (by omega),B9 (n:=6*k-1) (by omega) (by omega),B9 (n:=6*k*b.N) (by omega) (by omega),B9 (n:=(6*k-1)*a.N) (by omega) (by omega),
   B9 (n:=6*k*a.N) (by omega) (by omega),B9 (n:=(6*k-1)*b.N) (by omega) (by omega)]
  by_cases h2:6*k*b.N<(6*k-1)*a.N
  ·rw [D4C h2,J9 fun h=>h.2.2.2.1 h2];rfl
  ·have ta:=B4h ha;have tb:=B4h hb;rw [D4E h2];have et: ∀m,A1M m->A2 (A2 (m.N*m.Q)-A2 (m.S*m.S))=A05 m:=fun m hm=>B9Y hm;have ec:(((!true|| !true)|| !true)||false)=false:=rfl
   rw [ec,D4A,et a ha,et b hb,A1j (n:=A05 b) (by omega) (by omega),A1j (n:=A05 a) (by omega) (by omega),A1j (n:=6*k*a.N) (by omega) (by omega),A1j (n:=(6*k-1)*b.N) (by omega) (by omega)]
   have x1:=B0X (x:=A05 b) (y:=6*k*a.N) (by omega) (by omega)
   have y1:=B0X (x:=A05 a) (y:=(6*k-1)*b.N) (by omega) (by omega)
   rw [<-B4t,A0K x1.1 y1.1,x1.2,y1.2];have q1:A05 b*(6*k*a.N)=A05 b*a.N*(6*k):=by rw [Int.mul_comm (6*k) a.N,Int.mul_assoc]
   have q2:A05 a*((6*k-1)*b.N)=A05 a*b.N*(6*k-1):=by rw [Int.mul_comm (6*k-1) b.N,Int.mul_assoc]
   rw [q1,q2,D4S,I3,D4z];unfold A7y;constructor
   ·intro h;refine ⟨ha,hb,hk,h2, ?_⟩;split at h
    ·omega
    ·split at h<;>omega
   ·rintro ⟨_,_,_,_,h⟩;split
    ·omega
    ·split<;>omega
 ·have e:((!Y0 a|| !Y0 b)|| !I6 k)=true:=by
   rw [D4I,D4I,D4T,D4T,D4T,D4N,D4N,D4N,Ne,Ne,Ne,A2j,A2j,R9]
   by_cases g1:A1M a
   ·by_cases g2:A1M b
    ·exact .inr fun h=>h1 ⟨g1,g2,h⟩
    ·exact .inl (.inr g2)
   ·exact .inl (.inl g1)
  rw [e,J9 fun h=>h1 ⟨h.1,h.2.1,h.2.2.1⟩]
  rfl
def C8b (x:D3):Prop:=A2F x.W x.K x.Cap x.Now/\A29 x.Ay x.Bm x.Cap x.Now x.W (-4096)/\
 ∀i,2<=i->i<x.Ay.length-> ¬A7y (el x.Ay (i-2)) (el x.Ay i) x.K
theorem C3X {R:Type} {f:Int->Option (Int⊕R)} (n:Nat) (bad:Nat->Prop) (E:R) (A:Option R)
  (hs:∀i:Nat,2<=i->i<n->(bad i->f (i:Int)=some (.inr E))/\(¬bad i->f (i:Int)=some (.inl ((i+1:Nat):Int))))
  (hd:∀i:Nat,n<=i->f (i:Int)=Option.map Sum.inr A):
  ((∃i,2<=i/\i<n/\bad i)->loop f 2=some E)/\((∀i,2<=i->i<n-> ¬bad i)->loop f 2=A):=by
 by_cases h:2<=n
 ·exact X9 (f:=f) (fun i=>(i:Int)) 2 n h bad E A (fun i h1 h2 _=>hs i h1 h2) (fun _=>hd n (D5f _))
 ·refine ⟨fun ⟨i,h1,h2,_⟩=>by omega,fun _=> ?_⟩
  have:=hd 2 (by omega)
  rw [A8y];rw [show ((2:Nat):Int)=2 from rfl] at this;rw [this];cases A<;>rfl
theorem B2Z (x:D3) (hl:x.Ay.length<=maxLen):A2z x=some (vOf (C8b x)):=by
 unfold A2z;simp only []
 by_cases h1:A2F x.W x.K x.Cap x.Now
 ·rw [(B3R _ _ _ _).2 h1,B7J _ _ _ _ _ _ hl];simp only [D4J,D4K,G5,D4x,D4Y]
  by_cases h2:A29 x.Ay x.Bm x.Cap x.Now x.W (-4096)
  ·rw [P6 h2,D4J,D4A];unfold A9x;have H:=C3X (f:=fun s:Int=>A1U x s) x.Ay.length (fun i=>A7y (el x.Ay (i-2)) (el x.Ay i) x.K) 2 (some 0)
    (fun i h2 hi=>by
     unfold A1U;have:A2 ((i:Int)-2)=((i-2:Nat):Int):=by rw [G9] at hl;rw [B9]<;>omega
     rw [D4C (by omega:(i:Int)<(x.Ay.length:Int)),D4B,this,G4 hi,G4 (by omega),D4x,D4x,C4E,D4x,N4 hi hl]
     exact K3 I3)
    (fun i hi=>by
     unfold A1U;rw [D4E (by omega: ¬(i:Int)<(x.Ay.length:Int)),D4A])
   by_cases h3: ∀i,2<=i->i<x.Ay.length-> ¬A7y (el x.Ay (i-2)) (el x.Ay i) x.K
   ·rw [H.2 h3,O0 ⟨h1,h2,h3⟩]
   ·rw [H.1,H2 fun h=>h3 h.2.2];exact D5s fun hn=>h3 fun i a b c=>hn ⟨i,a,b,c⟩
  ·rw [J9 h2,H2 fun h=>h2 h.2.1]
   rfl
 ·rw [D4N.2 fun h=>h1 ((B3R _ _ _ _).1 h),H2 fun h=>h1 h.1]
  rfl
theorem B39 (x:D3) (hl:x.Ay.length<=maxLen):A3j x=some (vOf (C8b x)):=by
 unfold A3j;simp only []
 by_cases h1:A2F x.W x.K x.Cap x.Now
 ·have e2:I1 x.W x.Cap x.Now=true:=(U1 _ _ _).2 ⟨h1.1,h1.2.1,h1.2.2.1⟩;have e3:I6 x.K=true:=(R9 _).2 h1.2.2.2;have e4:L7 4= -4096:=rfl;rw [e2,e3,B7T _ _ _ _ _ _ (by decide) h1.2.1.2 h1.2.2.1.2 hl,e4]
  simp only [D4J,D4K,G5,D4x,Bool.or_false,D4Y]
  by_cases h2:A29 x.Ay x.Bm x.Cap x.Now x.W (-4096)
  ·rw [P6 h2,D4J,D4A];unfold B0i;have H:=C3X (f:=fun s:Int=>A2p x s) x.Ay.length (fun i=>A7y (el x.Ay (i-2)) (el x.Ay i) x.K) 2 (some 0)
    (fun i h2 hi=>by
     unfold A2p;have:A2 ((i:Int)-2)=((i-2:Nat):Int):=by rw [G9] at hl;rw [B9]<;>omega
     rw [D4C (by omega:(i:Int)<(x.Ay.length:Int)),D4B,this,G4 hi,G4 (by omega),D4x,D4x]
     simp only [C5X,N4 hi hl];exact K3 I3)
    (fun i hi=>by
     unfold A2p;rw [D4E (by omega: ¬(i:Int)<(x.Ay.length:Int)),D4A])
   by_cases h3: ∀i,2<=i->i<x.Ay.length-> ¬A7y (el x.Ay (i-2)) (el x.Ay i) x.K
   ·rw [H.2 h3,O0 ⟨h1,h2,h3⟩]
   ·rw [H.1,H2 fun h=>h3 h.2.2];exact D5s fun hn=>h3 fun i a b c=>hn ⟨i,a,b,c⟩
  ·rw [J9 h2,H2 fun h=>h2 h.2.1]
   rfl
 ·have e1:(!I1 x.W x.Cap x.Now|| !I6 x.K)=true:=by
   rw [D4I,D4T,D4T,D4N,D4N,Ne,Ne,U1,R9];unfold A2F at h1;omega
  rw [e1,H2 fun h=>h1 h.1]
  rfl
def C8a (x:D8):Prop:=((0<=x.P/\x.P<=4)/\(0<=x.Now/\x.Now<=16777216)/\(0<=x.Bb/\x.Bb<=x.Now)/\(x.Af.length:Int)=x.P+1)/\
 ∀i:Nat,1<=i->(i:Int)<=x.P->wv (el x.Af (i-1))<=wv (el x.Af i)/\
  (wv (el x.Af (i-1))*(x.Now-x.Bb+1)<340282366920938463463374607431768211456->wv (el x.Af i)<=wv (el x.Af (i-1))*(x.Now-x.Bb+1))
theorem B2z (x:D8):((((((decide (x.P<(0:Int)))||(decide (x.P>(4:Int))))||(!(G3 x.Now)))||(decide (x.Bb<(0:Int))))||(decide (x.Bb>x.Now)))||((x.Af.length:Int) !=(A2 (x.P+(1:Int)))))=true↔
  ¬((0<=x.P/\x.P<=4)/\(0<=x.Now/\x.Now<=16777216)/\(0<=x.Bb/\x.Bb<=x.Now)/\(x.Af.length:Int)=x.P+1):=by
 simp only [D4I,D4z,D4T,bne_iff_ne];rw [D4N,Ne,A1p]
 by_cases h:0<=x.P/\x.P<=4
 ·rw [B9 (by omega) (by omega)];omega
 ·omega
theorem C3W {R:Type} {f:Int->Option (Int⊕R)} (P:Nat) (bad:Nat->Prop) (E:R) (A:Option R)
  (hs:∀i:Nat,1<=i->i<=P->(bad i->f (i:Int)=some (.inr E))/\(¬bad i->f (i:Int)=some (.inl ((i+1:Nat):Int))))
  (hd:f ((P+1:Nat):Int)=Option.map Sum.inr A):
  ((∃i,1<=i/\i<=P/\bad i)->loop f 1=some E)/\((∀i,1<=i->i<=P-> ¬bad i)->loop f 1=A):=by
 have:=X9 (f:=f) (fun i=>(i:Int)) 1 (P+1) (by omega) bad E A (fun i h1 h2 _=>hs i h1 (by omega)) (fun _=>hd)
 exact ⟨fun ⟨i,h1,h2,h3⟩=>this.1 ⟨i,h1,by omega,h3⟩,fun h=>this.2 fun i h1 h2=>h i h1 (by omega)⟩
theorem C9a {a b:A1} (ha:H1 a) (hb:H1 b):decide (O5 a b>0)=decide (wv b<wv a):=by
 rw [<-B4t,A0K ha hb,D4S,D4z,D4z];split
 ·omega
 ·split<;>omega
theorem D2T {a b:A1} (ha:H1 a) (hb:H1 b):decide (O5 a b<0)=decide (wv a<wv b):=by
 rw [<-B4t,A0K ha hb,D4S,D4z,D4z];split
 ·omega
 ·split<;>omega
theorem C7e {a b:A1} (ha:H1 a) (hb:H1 b):decide (S3 a b>0)=decide (wv b<wv a):=C9a ha hb
def B6Y (x:D8) (i:Nat):Prop:= ¬(wv (el x.Af (i-1))<=wv (el x.Af i)/\
  (wv (el x.Af (i-1))*(x.Now-x.Bb+1)<340282366920938463463374607431768211456->wv (el x.Af i)<=wv (el x.Af (i-1))*(x.Now-x.Bb+1)))
theorem C4j {x:D8} (h1:(0<=x.P/\x.P<=4)/\(0<=x.Now/\x.Now<=16777216)/\(0<=x.Bb/\x.Bb<=x.Now)/\(x.Af.length:Int)=x.P+1):
  H1 (F1 (A7 (A2 (A2 (x.Now-x.Bb)+1))))/\wv (F1 (A7 (A2 (A2 (x.Now-x.Bb)+1))))=x.Now-x.Bb+1:=by
 rw [B9 (n:=x.Now-x.Bb) (by omega) (by omega),B9 (by omega) (by omega),A1j (by omega) (by omega)]
 exact C43 (by omega)
theorem C33 {a b:A1} (ha:H1 a) (hb:H1 b): ∃r,A3T a b=some r/\A7k a b=some r/\r.2=decide (wv a*wv b<340282366920938463463374607431768211456)/\H1 r.1/\(r.2=true->wv r.1=wv a*wv b):=by
 by_cases h:wv a*wv b<340282366920938463463374607431768211456
 ·refine ⟨(E9 (wv a*wv b),true),by rw [B17 ha hb,if_pos h],by rw [B7a ha hb,if_pos h],(D4C h).symm,P5 (B9z ha hb) h,fun _=>L1 _⟩
 ·exact ⟨(⟨0,0⟩,false),by rw [B17 ha hb,if_neg h],by rw [B7a ha hb,if_neg h],(D4E h).symm,by unfold H1;simp,fun h=>by cases h⟩
theorem B5z (x:D8) (hw:∀w∈x.Af,H1 w):A34 x=some (vOf (C8a x)):=by
 unfold A34;have et:B2A x.Now=G3 x.Now:=rfl;simp only [et]
 by_cases h1:(0<=x.P/\x.P<=4)/\(0<=x.Now/\x.Now<=16777216)/\(0<=x.Bb/\x.Bb<=x.Now)/\(x.Af.length:Int)=x.P+1
 ·rw [D4N.2 fun h=>(B2z x).1 h h1,D4A];unfold B1I;have hp:x.P=(x.P.toNat:Int):=by omega
  have H:=C3W (f:=fun s:Int=>A2O x (H7 (A7 (A2 (A2 (x.Now-x.Bb)+1)))) s) x.P.toNat (B6Y x) 2 (some 0)
   (fun i g1 g2=>by
    unfold A2O;have ew:A2 ((i:Int)-1)=((i-1:Nat):Int):=by rw [B9]<;>omega
    have es:A2 ((i:Int)+1)=((i+1:Nat):Int):=by rw [B9]<;>omega
    obtain ⟨o1,o2⟩:=C4j h1;have oi:=hw _ (A59 (show i<x.Af.length by omega))
    have oj:=hw _ (A59 (show i-1<x.Af.length by omega))
    obtain ⟨r,m1,m2,m3,m4,m5⟩:=C33 oj o1;rw [D4C (by omega:(i:Int)<=x.P),D4B,ew,es,G4 (by omega),G4 (by omega),A8T]
    simp only [D4x,m1,C7e oj oi];rw [o2] at m3 m5;unfold B6Y
    by_cases q1:wv (el x.Af (i-1))<=wv (el x.Af i)
    ·rw [D4E (by omega),D4A,m3]
     by_cases q2:wv (el x.Af (i-1))*(x.Now-x.Bb+1)<340282366920938463463374607431768211456
     ·have q3:=m5 (by rw [m3];exact D4C q2)
      rw [D4C q2];simp only [G5,D4x,D48,C7e oi m4,q3];refine K3 ?_;rw [D4z];simp only [q1,q2,true_and,true_implies,forall_const];omega
     ·rw [D4E q2];simp only [G0,D4x,D42,D4A];exact ⟨fun h=>absurd ⟨q1,fun h=>absurd h q2⟩ h,fun _=>trivial⟩
    ·rw [D4C (by omega),D4B]
     exact ⟨fun _=>rfl,fun h=>absurd (fun h2=>q1 h2.1) h⟩)
   (by
    unfold A2O;rw [D4E (by omega),D4A])
  by_cases h2: ∀i,1<=i->i<=x.P.toNat-> ¬B6Y x i
  ·rw [H.2 h2,O0];exact ⟨h1,fun i a b=>D5s fun h=>h2 i a (by omega) h⟩
  ·rw [H.1,H2]
   ·exact fun h=>h2 fun i a b c=>c (h.2 i a (by omega))
   ·exact D5s fun hn=>h2 fun i a b c=>hn ⟨i,a,b,c⟩
 ·rw [(B2z x).2 h1,D4B,H2 fun h=>h1 h.1]
theorem B4a (x:D8) (hw:∀w∈x.Af,H1 w):A3k x=some (vOf (C8a x)):=by
 unfold A3k;simp only []
 by_cases h1:(0<=x.P/\x.P<=4)/\(0<=x.Now/\x.Now<=16777216)/\(0<=x.Bb/\x.Bb<=x.Now)/\(x.Af.length:Int)=x.P+1
 ·rw [D4N.2 fun h=>(B2z x).1 h h1,D4A];unfold B0j;have hp:x.P=(x.P.toNat:Int):=by omega
  have H:=C3W (f:=fun s:Int=>A2q x s) x.P.toNat (B6Y x) 2 (some 0)
   (fun i g1 g2=>by
    unfold A2q;have ew:A2 ((i:Int)-1)=((i-1:Nat):Int):=by rw [B9]<;>omega
    have es:A2 ((i:Int)+1)=((i+1:Nat):Int):=by rw [B9]<;>omega
    obtain ⟨o1,o2⟩:=C4j h1;have oi:=hw _ (A59 (show i<x.Af.length by omega))
    have oj:=hw _ (A59 (show i-1<x.Af.length by omega))
    obtain ⟨r,m1,m2,m3,m4,m5⟩:=C33 oj o1;rw [D4C (by omega:(i:Int)<=x.P),D4B,ew,es,G4 (by omega),G4 (by omega),D4x]
    simp only [m2,D4x,D2T oi oj];rw [o2] at m3 m5;unfold B6Y
    by_cases q1:wv (el x.Af (i-1))<=wv (el x.Af i)
    ·rw [D4E (by omega),m3]
     by_cases q2:wv (el x.Af (i-1))*(x.Now-x.Bb+1)<340282366920938463463374607431768211456
     ·have q3:=m5 (by rw [m3];exact D4C q2)
      rw [D4C q2];simp only [D4K,G5,D4x,D48,D4Y,C9a oi m4,q3];refine K3 ?_;rw [D4z];simp only [q1,q2,true_and,true_implies,forall_const];omega
     ·rw [D4E q2];simp only [D4K,Bool.and_false,G0,D4x,D42,Bool.or_false,D4A];exact ⟨fun h=>absurd ⟨q1,fun h=>absurd h q2⟩ h,fun _=>trivial⟩
    ·rw [D4C (by omega)]
     simp only [D4J,D42,G0,D4x,D5h,D4B];exact ⟨fun _=>trivial,fun h=>absurd (fun h2=>q1 h2.1) h⟩)
   (by
    unfold A2q;rw [D4E (by omega),D4A])
  by_cases h2: ∀i,1<=i->i<=x.P.toNat-> ¬B6Y x i
  ·rw [H.2 h2,O0];exact ⟨h1,fun i a b=>D5s fun h=>h2 i a (by omega) h⟩
  ·rw [H.1,H2]
   ·exact fun h=>h2 fun i a b c=>c (h.2 i a (by omega))
   ·exact D5s fun hn=>h2 fun i a b c=>hn ⟨i,a,b,c⟩
 ·rw [(B2z x).2 h1,D4B,H2 fun h=>h1 h.1]
theorem D2G (l:List A1) (hl:l.length<=maxLen):A1t l l=some true:=by
 unfold A1t;rw [D5a,D4A];unfold A53;refine (L2 (f:=fun s:Int=>A0F l l s) l.length (fun _=>False) false (some true) (fun i hi _=>⟨fun h=>h.elim,fun _=> ?_⟩) (fun _=> ?_)).2 fun _ _ h=>h
 ·unfold A0F;rw [D4C (by omega:(i:Int)<(l.length:Int)),D4B,G4 hi]
  simp [N4 hi hl]
 ·unfold A0F;rw [D4E (D40 _),D4A]
theorem C57 (x:D8) (hl:x.Af.length<=maxLen):A5z x x=some true:=by
 unfold A5z;simp [D2G _ hl]
def C38 (x:G2):Prop:=((1<=(x.Bf.length:Int)/\(x.Bf.length:Int)<=64)/\(0<=x.Now/\x.Now<=16777216))/\
 ∀i,i<x.Bf.length->(0<=el x.Bf i/\el x.Bf i<=1099511627776)/\(x.Now<(i:Int)->el x.Bf i=0)
theorem B3S (x:G2) (hl:x.Bf.length<=maxLen):A25 x=some (vOf (C38 x)):=by
 unfold A25
 by_cases h1:(1<=(x.Bf.length:Int)/\(x.Bf.length:Int)<=64)/\(0<=x.Now/\x.Now<=16777216)
 ·have e:((((decide ((x.Bf.length:Int)<(1:Int)))||(decide ((x.Bf.length:Int)>(64:Int))))||(decide (x.Now<(0:Int))))||(decide (x.Now>(16777216:Int))))=false:=by
   rw [D4N];simp only [D4I,D4z,Ne];omega
  rw [e,D4A];unfold B0f;have H:=L2 (f:=fun s:Int=>A2h x s) x.Bf.length (fun i=> ¬((0<=el x.Bf i/\el x.Bf i<=1099511627776)/\(x.Now<(i:Int)->el x.Bf i=0))) 2 (some 0)
   (fun i hi _=>by
    unfold A2h;rw [D4C (by omega:(i:Int)<(x.Bf.length:Int)),D4B,G4 hi,D4x,N4 hi hl]
    refine K3 ?_;simp only [D4I,D4F,D4z,bne_iff_ne];omega)
   (fun _=>by
    unfold A2h;rw [D4E (D40 _),D4A])
  by_cases h2: ∀i,i<x.Bf.length->(0<=el x.Bf i/\el x.Bf i<=1099511627776)/\(x.Now<(i:Int)->el x.Bf i=0)
  ·rw [H.2 fun i hi hn=>hn (h2 i hi),O0 ⟨h1,h2⟩]
  ·rw [H.1 (A0V h2),H2 fun h=>h2 h.2]
 ·have e:((((decide ((x.Bf.length:Int)<(1:Int)))||(decide ((x.Bf.length:Int)>(64:Int))))||(decide (x.Now<(0:Int))))||(decide (x.Now>(16777216:Int))))=true:=by
   simp only [D4I,D4z];omega
  rw [e,D4B,H2 fun h=>h1 h.1]
theorem B4b (x:G2) (hl:x.Bf.length<=maxLen):A3l x=some (vOf (C38 x)):=by
 unfold A3l;simp only []
 by_cases h1:(1<=(x.Bf.length:Int)/\(x.Bf.length:Int)<=64)/\(0<=x.Now/\x.Now<=16777216)
 ·have e:(((decide ((x.Bf.length:Int)<(1:Int)))||(decide ((x.Bf.length:Int)>(64:Int))))||(!(G3 x.Now)))=false:=by
   rw [(A1p _).2 h1.2,D4N];simp only [D4I,D4z,Ne,D4J,Bool.false_eq_true,or_false,false_or];omega
  rw [e,D4A];unfold B0k;have H:=L2 (f:=fun s:Int=>A2r x s) x.Bf.length (fun i=> ¬((0<=el x.Bf i/\el x.Bf i<=1099511627776)/\(x.Now<(i:Int)->el x.Bf i=0))) 2 (some 0)
   (fun i hi _=>by
    unfold A2r;rw [D4C (by omega:(i:Int)<(x.Bf.length:Int)),D4B,G4 hi,D4x,N4 hi hl]
    refine K3 ?_;simp only [D4I,D4F,D4z,bne_iff_ne];omega)
   (fun _=>by
    unfold A2r;rw [D4E (D40 _),D4A])
  by_cases h2: ∀i,i<x.Bf.length->(0<=el x.Bf i/\el x.Bf i<=1099511627776)/\(x.Now<(i:Int)->el x.Bf i=0)
  ·rw [H.2 fun i hi hn=>hn (h2 i hi),O0 ⟨h1,h2⟩]
  ·rw [H.1 (A0V h2),H2 fun h=>h2 h.2]
 ·have e:(((decide ((x.Bf.length:Int)<(1:Int)))||(decide ((x.Bf.length:Int)>(64:Int))))||(!(G3 x.Now)))=true:=by
   simp only [D4I,D4z,D4T];rw [D4N,Ne,A1p];omega
  rw [e,D4B,H2 fun h=>h1 h.1]
def C79 (x:C8):Prop:=(((1<=x.W/\x.W<=1048576)/\(1<=x.Cap/\x.Cap<=65536)/\(0<=x.Now/\x.Now<=16777216))/\(x.Av.length:Int)<=x.Cap)/\
 ∀i,i<x.Av.length->(F3 x.Now x.W (el x.Av i).T=true/\ -4096<=(el x.Av i).V/\(el x.Av i).V<=4096)/\
  (1<=i->(el x.Av (i-1)).T<(el x.Av i).T/\W9 x.Bj (el x.Av i).V (el x.Av (i-1)).V=false)
theorem C2J (m:Bool) (a b:Int):A7Z m a b= !W9 m b a:=by
 cases m
 ·show (false||decide (a<b))= !decide (b<=a)
  rw [D4Y,D4S];simp
 ·show (decide (a>b)||false)= !decide (b>=a)
  rw [Bool.or_false,D4S];simp
theorem C3Z (a b c:Int):A4N a b c=I1 a b c:=by
 rw [D4S,U1];unfold A4N;simp;omega
theorem B1x (x:C8) (hl:x.Av.length<=maxLen):A1E x=some (vOf (C79 x)):=by
 unfold A1E;simp only [C3Z]
 by_cases h1:((1<=x.W/\x.W<=1048576)/\(1<=x.Cap/\x.Cap<=65536)/\(0<=x.Now/\x.Now<=16777216))/\(x.Av.length:Int)<=x.Cap
 ·rw [(U1 _ _ _).2 h1.1,D4E (by omega),D4J,D4Y,D4A]
  unfold A8i;have H:=L2 (f:=fun s:Int=>A1e x s) x.Av.length (fun i=> ¬((F3 x.Now x.W (el x.Av i).T=true/\ -4096<=(el x.Av i).V/\(el x.Av i).V<=4096)/\
    (1<=i->(el x.Av (i-1)).T<(el x.Av i).T/\W9 x.Bj (el x.Av i).V (el x.Av (i-1)).V=false))) 2 (some 0)
   (fun i hi _=>by
    unfold A1e;rw [D4C (by omega:(i:Int)<(x.Av.length:Int)),D4B,G4 hi,D4x,N4 hi hl]
    simp only [A7g]
    by_cases g1:F3 x.Now x.W (el x.Av i).T=true/\ -4096<=(el x.Av i).V/\(el x.Av i).V<=4096
    ·have e:(((!(F3 x.Now x.W (el x.Av i).T))||(decide ((el x.Av i).V<(-4096:Int))))||(decide ((el x.Av i).V>(4096:Int))))=false:=by
      rw [g1.1,D4N];simp only [D4I,D4z,Ne,D4J,Bool.false_eq_true,or_false,false_or];omega
     rw [e,D4A];rcases i with _|i
     ·have e4:decide (((0:Nat):Int)>0)=false:=rfl;rw [e4];simp only [D42,G0,D4x,D4A];exact ⟨fun h=>absurd ⟨g1,fun h=>absurd h (by decide)⟩ h,fun _=>trivial⟩
     ·have e4:decide (((i+1:Nat):Int)>0)=true:=D4C (by omega)
      rw [e4,A2k (by omega) (Nat.le_of_lt hi) hl,D5e,G4 (by omega)]
      simp only [G5,D4x,D48]
      by_cases g2:(el x.Av i).T>=(el x.Av (i+1)).T
      ·simp only [g2,decide_true,D5h,D4J,G0,D4x,D4B];refine ⟨fun _=>trivial,fun h=>absurd (fun h2=> ?_) h⟩;have:=(h2.2 (by omega)).1
       omega
      ·simp only [g2,decide_false,D4Y,D4K,G5,D4x];refine K3 ?_;simp only [g1,true_and,show 1<=i+1 from by omega,true_implies]
       have:(el x.Av i).T<(el x.Av (i+1)).T:=by omega
       simp [this]
    ·have e:(((!(F3 x.Now x.W (el x.Av i).T))||(decide ((el x.Av i).V<(-4096:Int))))||(decide ((el x.Av i).V>(4096:Int))))=true:=by
      cases hv:F3 x.Now x.W (el x.Av i).T with
      |false=>rfl
      |true=>rw [hv] at g1;simp only [true_and] at g1;simp only [D4I,D4z];omega
     rw [e,D4B];exact ⟨fun _=>rfl,fun h=>absurd (fun h2=>g1 h2.1) h⟩)
   (fun _=>by
    unfold A1e;rw [D4E (D40 _),D4A])
  by_cases h2: ∀i,i<x.Av.length->(F3 x.Now x.W (el x.Av i).T=true/\ -4096<=(el x.Av i).V/\(el x.Av i).V<=4096)/\
    (1<=i->(el x.Av (i-1)).T<(el x.Av i).T/\W9 x.Bj (el x.Av i).V (el x.Av (i-1)).V=false)
  ·rw [H.2 fun i hi hn=>hn (h2 i hi),O0 ⟨h1,h2⟩]
  ·rw [H.1 (A0V h2),H2 fun h=>h2 h.2]
 ·have e:((!(I1 x.W x.Cap x.Now))||(decide ((x.Av.length:Int)>x.Cap)))=true:=by
   rw [D4I,D4T,D4N,Ne,U1,D4z];omega
  rw [e,D4B,H2 fun h=>h1 h.1]
theorem B4c (x:C8) (hl:x.Av.length<=maxLen):A3m x=some (vOf (C79 x)):=by
 unfold A3m;simp only []
 by_cases h1:((1<=x.W/\x.W<=1048576)/\(1<=x.Cap/\x.Cap<=65536)/\(0<=x.Now/\x.Now<=16777216))/\(x.Av.length:Int)<=x.Cap
 ·rw [(U1 _ _ _).2 h1.1,D4E (by omega),D4J,D4Y,D4A]
  unfold B0l;have H:=L2 (f:=fun s:Int=>A2s x s) x.Av.length (fun i=> ¬((F3 x.Now x.W (el x.Av i).T=true/\ -4096<=(el x.Av i).V/\(el x.Av i).V<=4096)/\
    (1<=i->(el x.Av (i-1)).T<(el x.Av i).T/\W9 x.Bj (el x.Av i).V (el x.Av (i-1)).V=false))) 2 (some 0)
   (fun i hi _=>by
    unfold A2s;rw [D4C (by omega:(i:Int)<(x.Av.length:Int)),D4B,G4 hi,D4x,N4 hi hl]
    simp only [C2J,Bool.not_not]
    by_cases g1:F3 x.Now x.W (el x.Av i).T=true/\ -4096<=(el x.Av i).V/\(el x.Av i).V<=4096
    ·rw [g1.1,(A2B _).2 g1.2];rcases i with _|i
     ·have e4:decide (((0:Nat):Int)>0)=false:=rfl;rw [e4];simp only [D4J,Bool.or_false,D4K,Bool.and_false,D42,G0,D4x,D4A];exact ⟨fun h=>absurd ⟨⟨trivial,g1.2⟩,fun h=>absurd h (by decide)⟩ h,fun _=>trivial⟩
     ·have e4:decide (((i+1:Nat):Int)>0)=true:=D4C (by omega)
      rw [e4,A2k (by omega) (Nat.le_of_lt hi) hl,D5e,G4 (by omega)]
      simp only [D4J,Bool.or_false,D4K,G5,D4x,D48,D4Y]
      by_cases g2:(el x.Av i).T>=(el x.Av (i+1)).T
      ·simp only [g2,decide_true,D5h,D4J,G0,D4x,D4B];refine ⟨fun _=>trivial,fun h=>absurd (fun h2=> ?_) h⟩;have:=(h2.2 (by omega)).1
       omega
      ·simp only [g2,decide_false,D4Y,D4K,G5,D4x];refine K3 ?_;simp only [g1,true_and,show 1<=i+1 from by omega,true_implies]
       have:(el x.Av i).T<(el x.Av (i+1)).T:=by omega
       simp [this]
    ·have e:((!(F3 x.Now x.W (el x.Av i).T))||(!(H8 (el x.Av i).V)))=true:=by
      rw [D4I,D4T,D4T,D4N,D4N,Ne,Ne,A2B];exact D5s fun h=>g1 ⟨D5s fun h2=>h (.inl h2),D5s fun h2=>h (.inr h2)⟩
     rw [e];simp only [D4J,D42,G0,D4x,D5h,D4B];exact ⟨fun _=>trivial,fun h=>absurd (fun h2=>g1 h2.1) h⟩)
   (fun _=>by
    unfold A2s;rw [D4E (D40 _),D4A])
  by_cases h2: ∀i,i<x.Av.length->(F3 x.Now x.W (el x.Av i).T=true/\ -4096<=(el x.Av i).V/\(el x.Av i).V<=4096)/\
    (1<=i->(el x.Av (i-1)).T<(el x.Av i).T/\W9 x.Bj (el x.Av i).V (el x.Av (i-1)).V=false)
  ·rw [H.2 fun i hi hn=>hn (h2 i hi),O0 ⟨h1,h2⟩]
  ·rw [H.1 (A0V h2),H2 fun h=>h2 h.2]
 ·have e:((!(I1 x.W x.Cap x.Now))||(decide ((x.Av.length:Int)>x.Cap)))=true:=by
   rw [D4I,D4T,D4N,Ne,U1,D4z];omega
  rw [e,D4B,H2 fun h=>h1 h.1]
theorem C59 (x:C8) (hl:x.Av.length<=maxLen):A5B x x=some true:=by
 unfold A5B;simp [B9t _ hl]
end Go.Win
namespace Go.Win
open Go.Vc Go.Dec
def A6W (c:E5):Prop:=(1<=c.Ba/\c.Ba<=11)/\
 ((c.Ba=6\/c.Ba=10->c.W=0)/\(c.Ba=7->1<=c.W/\c.W<=64)/\(c.Ba≠6/\c.Ba≠10/\c.Ba≠7->1<=c.W/\c.W<=1048576))/\
 ((c.Ba=6\/c.Ba=7->c.Cap=0)/\(c.Ba=9->1<=c.Cap/\c.Cap<=64)/\(c.Ba=10->2<=c.Cap/\c.Cap<=65536)/\(c.Ba≠6/\c.Ba≠7/\c.Ba≠9/\c.Ba≠10->1<=c.Cap/\c.Cap<=65536))/\
 ((c.Ba=1\/c.Ba=6\/c.Ba=7\/c.Ba=8\/c.Ba=9->c.K=0)/\(c.Ba≠1/\c.Ba≠6/\c.Ba≠7/\c.Ba≠8/\c.Ba≠9->1<=c.K/\c.K<=64))/\
 ((c.Ba=4->1<=c.Bg/\c.Bg<=4)/\(c.Ba≠4->c.Bg=0))/\
 ((c.Ba=6->0<=c.P/\c.P<=4)/\(c.Ba≠6->c.P=0))/\
 ((c.Ba=9->1<=c.Aj/\c.Aj<=16)/\(c.Ba≠9->c.Aj=0))/\
 ((c.Ba=3->1<=c.Bj/\c.Bj<=1024)/\(c.Ba=8->0<=c.Bj/\c.Bj<=1)/\(c.Ba≠3/\c.Ba≠8->c.Bj=0))
open Classical in
noncomputable def vCf (p:Prop):Int:=if p then 0 else 1
theorem C8B {p:Prop} (h:p):vCf p=0:=by unfold vCf;rw [if_pos h]
theorem B90 {p:Prop} (h:¬p):vCf p=1:=by unfold vCf;rw [if_neg h]
theorem C3A {b:Bool} {p:Prop} (h:b=true↔ ¬p):cond b (1:Int) 0=vCf p:=by
 cases b with
 |true=>rw [B90 (h.1 rfl)];rfl
 |false=>rw [C8B (D5s fun hn=>absurd (h.2 hn) (by decide))];rfl
theorem A7z (c:E5):Y7 c=vCf (A6W c):=by
 obtain ⟨k,agg,w,kk,cap,p,ch,mx⟩:=c
 by_cases hk:1<=k/\k<=11
 ·have:k=1\/k=2\/k=3\/k=4\/k=5\/k=6\/k=7\/k=8\/k=9\/k=10\/k=11:=by omega
  rcases this with h|h|h|h|h|h|h|h|h|h|h<;>subst h<;>
   simp only [Y7,W5,A2e,A1Q,A0M,A0N,A0O,A0P,A0Q,A0R,A0S,
    B8,E8,B0,beq_self_eq_true,D48,Bool.and_true,D4B,D4A,show ((1:Int)==2)=false from rfl,show ((1:Int)==3)=false from rfl,show ((1:Int)==4)=false from rfl,show ((1:Int)==5)=false from rfl,show ((1:Int)==6)=false from rfl,show ((1:Int)==7)=false from rfl,show ((1:Int)==8)=false from rfl,show ((1:Int)==9)=false from rfl,show ((1:Int)==10)=false from rfl,show ((1:Int)==11)=false from rfl,
    show ((2:Int)==3)=false from rfl,show ((2:Int)==4)=false from rfl,show ((2:Int)==6)=false from rfl,show ((2:Int)==7)=false from rfl,show ((2:Int)==9)=false from rfl,show ((2:Int)==10)=false from rfl,
    show ((3:Int)==6)=false from rfl,show ((3:Int)==7)=false from rfl,show ((3:Int)==9)=false from rfl,show ((3:Int)==10)=false from rfl,
    show ((4:Int)==3)=false from rfl,show ((4:Int)==6)=false from rfl,show ((4:Int)==7)=false from rfl,show ((4:Int)==9)=false from rfl,show ((4:Int)==10)=false from rfl,
    show ((5:Int)==2)=false from rfl,show ((5:Int)==3)=false from rfl,show ((5:Int)==4)=false from rfl,show ((5:Int)==6)=false from rfl,show ((5:Int)==7)=false from rfl,show ((5:Int)==9)=false from rfl,show ((5:Int)==10)=false from rfl,
    show ((7:Int)==6)=false from rfl,
    show ((8:Int)==2)=false from rfl,show ((8:Int)==3)=false from rfl,show ((8:Int)==4)=false from rfl,show ((8:Int)==5)=false from rfl,show ((8:Int)==6)=false from rfl,show ((8:Int)==7)=false from rfl,show ((8:Int)==9)=false from rfl,show ((8:Int)==10)=false from rfl,show ((8:Int)==11)=false from rfl,
    show ((9:Int)==6)=false from rfl,show ((9:Int)==7)=false from rfl,show ((10:Int)==6)=false from rfl,show ((10:Int)==7)=false from rfl,show ((10:Int)==9)=false from rfl,
    show ((11:Int)==2)=false from rfl,show ((11:Int)==3)=false from rfl,show ((11:Int)==4)=false from rfl,show ((11:Int)==5)=false from rfl,show ((11:Int)==6)=false from rfl,show ((11:Int)==7)=false from rfl,show ((11:Int)==9)=false from rfl,show ((11:Int)==10)=false from rfl,
    show (decide ((1048576:Int)>0))=true from rfl,show (decide ((64:Int)>0))=true from rfl,show (decide ((0:Int)>0))=false from rfl]<;>
   refine C3A ?_<;>unfold A6W<;>simp [-not_and,-Classical.not_imp]<;>omega
 ·rw [B90 fun h=>hk h.1];have e: ∀n:Int,1<=n->n<=11->(k==n)=false:=fun n h1 h2=>by rw [D5n];omega
  unfold Y7 W5;simp only [e 6 (by decide) (by decide),e 7 (by decide) (by decide),e 9 (by decide) (by decide),e 10 (by decide) (by decide),e 3 (by decide) (by decide),e 4 (by decide) (by decide),e 2 (by decide) (by decide),e 5 (by decide) (by decide),e 11 (by decide) (by decide),e 8 (by decide) (by decide),e 1 (by decide) (by decide),D4A]
theorem A8J (c:E5):A0s c=vCf (A6W c):=by
 obtain ⟨k,agg,w,kk,cap,p,ch,mx⟩:=c;have emay:I1 w cap 0=true↔(1<=w/\w<=1048576)/\(1<=cap/\cap<=65536):=by rw [U1];omega
 have emk:=R9 kk;have eag:T7 agg=true↔1<=agg/\agg<=4:=by unfold T7;simp
 by_cases hk:1<=k/\k<=11
 ·have:k=1\/k=2\/k=3\/k=4\/k=5\/k=6\/k=7\/k=8\/k=9\/k=10\/k=11:=by omega
  rcases this with h|h|h|h|h|h|h|h|h|h|h<;>subst h<;>
   simp only [A0s,B3o,A3s,Q1,A70,A0Y,beq_self_eq_true,D48,Bool.and_true,D4B,D4A,show ((2:Int)==1)=false from rfl,show ((3:Int)==1)=false from rfl,show ((3:Int)==2)=false from rfl,show ((3:Int)==5)=false from rfl,show ((3:Int)==11)=false from rfl,
    show ((4:Int)==1)=false from rfl,show ((4:Int)==2)=false from rfl,show ((4:Int)==3)=false from rfl,show ((4:Int)==5)=false from rfl,show ((4:Int)==11)=false from rfl,
    show ((5:Int)==1)=false from rfl,show ((5:Int)==2)=false from rfl,
    show ((6:Int)==1)=false from rfl,show ((6:Int)==2)=false from rfl,show ((6:Int)==3)=false from rfl,show ((6:Int)==4)=false from rfl,show ((6:Int)==5)=false from rfl,show ((6:Int)==11)=false from rfl,
    show ((7:Int)==1)=false from rfl,show ((7:Int)==2)=false from rfl,show ((7:Int)==3)=false from rfl,show ((7:Int)==4)=false from rfl,show ((7:Int)==5)=false from rfl,show ((7:Int)==6)=false from rfl,show ((7:Int)==11)=false from rfl,
    show ((8:Int)==1)=false from rfl,show ((8:Int)==2)=false from rfl,show ((8:Int)==3)=false from rfl,show ((8:Int)==4)=false from rfl,show ((8:Int)==5)=false from rfl,show ((8:Int)==6)=false from rfl,show ((8:Int)==7)=false from rfl,show ((8:Int)==11)=false from rfl,
    show ((9:Int)==1)=false from rfl,show ((9:Int)==2)=false from rfl,show ((9:Int)==3)=false from rfl,show ((9:Int)==4)=false from rfl,show ((9:Int)==5)=false from rfl,show ((9:Int)==6)=false from rfl,show ((9:Int)==7)=false from rfl,show ((9:Int)==8)=false from rfl,show ((9:Int)==11)=false from rfl,
    show ((10:Int)==1)=false from rfl,show ((10:Int)==2)=false from rfl,show ((10:Int)==3)=false from rfl,show ((10:Int)==4)=false from rfl,show ((10:Int)==5)=false from rfl,show ((10:Int)==6)=false from rfl,show ((10:Int)==7)=false from rfl,show ((10:Int)==8)=false from rfl,show ((10:Int)==9)=false from rfl,show ((10:Int)==11)=false from rfl,
    show ((11:Int)==1)=false from rfl,show ((11:Int)==2)=false from rfl,show ((11:Int)==5)=false from rfl]<;>
   refine C3A ?_<;>unfold A6W<;>simp only [D4I,D4T,D5o,D47,D5n,D4O,ne_eq]<;>
   (try simp only [D4N,ne_eq,emay,emk,eag])<;>simp [-not_and,-Classical.not_imp]<;>omega
 ·rw [B90 fun h=>hk h.1];have e: ∀n:Int,1<=n->n<=11->(k==n)=false:=fun n h1 h2=>by rw [D5n];omega
  unfold A0s A70 A0Y;simp only [e 6 (by decide) (by decide),e 7 (by decide) (by decide),e 9 (by decide) (by decide),e 10 (by decide) (by decide),e 3 (by decide) (by decide),e 4 (by decide) (by decide),e 2 (by decide) (by decide),e 5 (by decide) (by decide),e 11 (by decide) (by decide),e 8 (by decide) (by decide),e 1 (by decide) (by decide),D4A,D4K,Bool.or_true,D4B]
end Go.Win
namespace Go.Win
open Go.Vc Go.Dec
def U9 (n k:Int):Int:=max 1 (n/k)
theorem C4L {n k:Int} (hn:0<=n) (hk:1<=k):Int.tdiv n k=n/k/\0<=n/k/\n/k<=n:=by
 refine ⟨Int.tdiv_eq_ediv_of_nonneg hn,Int.ediv_nonneg hn (by omega), ?_⟩
 exact Int.ediv_le_self k hn
theorem C6Y {n k:Int} (hn:0<=n/\n<=1099511627776) (hk:1<=k):A76 n k=some (U9 n k):=by
 obtain ⟨h1,h2,h3⟩:=C4L hn.1 hk;unfold A76 U9;rw [D4C (by omega),W4,h1,B9 (by omega) (by omega)]
 congr 1
 show (if n/k>1 then n/k else 1)=max 1 (n/k)
 split<;>omega
theorem D26 {x:B5} (hn:0<=x.N/\x.N<=1099511627776) (hk:1<=x.K):C0P x=some (U9 x.N x.K):=C6Y hn hk
theorem B2y {n k:Int} (hn:0<=n/\n<=1099511627776) (hk:1<=k):1<=U9 n k/\U9 n k<=1099511627776/\(1<=n->U9 n k<=n):=by
 obtain ⟨h1,h2,h3⟩:=C4L hn.1 hk;unfold U9;omega
def O4 (l:List M3) (i:Nat):Int:=((l.take i).map (·.G)).sum
theorem B21 (l:List M3):O4 l 0=0:=by simp [O4]
theorem A9A {l:List M3} {i:Nat} (h:i<l.length):O4 l (i+1)=O4 l i+(el l i).G:=by
 unfold O4;rw [List.take_add_one,B00 h];simp
def B4M (l:List M3) (M:Int) (i:Nat):Prop:=(-4096<=(el l i).V/\(el l i).V<=4096)/\(1<=(el l i).G/\0<=(el l i).D/\(el l i).G+(el l i).D<=M)/\(1<=i->(el l (i-1)).V<=(el l i).V)
def A6d (x:B5):Prop:=(1<=x.K/\x.K<=64)/\(2<=x.Cap/\x.Cap<=65536)/\(0<=x.N/\x.N<=1099511627776)/\(x.Aq.length:Int)<=x.Cap
def A9M (x:B5):Prop:=A6d x/\(x.Aq.length=0↔x.N=0)/\(∀i,i<x.Aq.length->B4M x.Aq (U9 x.N x.K) i)/\
 (0<x.Aq.length->(el x.Aq 0).G=1/\(el x.Aq 0).D=0/\(el x.Aq (x.Aq.length-1)).D=0/\O4 x.Aq x.Aq.length=x.N)
theorem B8B {l:List M3} {M:Int} (hM:M<=1099511627776) (hl:l.length<=65536): ∀i,i<=l.length->(∀j,j<i->B4M l M j)->(i:Int)<=O4 l i/\O4 l i<=i*1099511627776:=by
 intro i
 induction i with
 |zero=>intro _ _;rw [B21];omega
 |succ i ih=>
  intro hi h;have h1:=ih (by omega) fun j hj=>h j (by omega)
  have h2:=(h i (by omega)).2.1
  rw [A9A (by omega)]
  omega
theorem A1N (x:B5):A0t x=some (vOf (A9M x)):=by
 unfold A0t
 by_cases h1:A6d x
 ·have h1' :=h1;unfold A6d at h1';have e:(((((((decide (x.K<(1:Int)))||(decide (x.K>(64:Int))))||(decide (x.Cap<(2:Int))))||(decide (x.Cap>(65536:Int))))||(decide (x.N<(0:Int))))||(decide (x.N>(1099511627776:Int))))||(decide ((x.Aq.length:Int)>x.Cap)))=false:=by
   rw [D4N];simp only [D4I,D4z,Ne];omega
  rw [e,D4A];have hl:x.Aq.length<=65536:=by omega
  have hm:x.Aq.length<=maxLen:=by rw [G9];omega
  by_cases hN:x.N=0
  ·have eN:(x.N==0)=true:=by rw [hN];rfl
   rw [eN,D4B]
   by_cases h0:0<x.Aq.length
   ·rw [D4C (by omega),D4B,H2]
    intro h;have:=h.2.1;omega
   ·rw [D4E (by omega),D4A,O0]
    exact ⟨h1,⟨fun _=>hN,fun _=>by omega⟩,fun i hi=>absurd hi (by omega),fun h=>absurd h h0⟩
  ·have eN:(x.N==0)=false:=by rw [D5n];exact hN
   rw [eN,D4A]
   by_cases h0:0<x.Aq.length
   ·have e0:((x.Aq.length:Int)==0)=false:=by rw [D5n];omega
    rw [e0,D4A,C6Y h1'.2.2.1 h1'.1.1,D4x];have hM:=B2y (n:=x.N) (k:=x.K) h1'.2.2.1 h1'.1.1;unfold A8l;have H:=X9 (f:=fun s:Int×Int=>A1i x (U9 x.N x.K) s.1 s.2) (fun i=>(O4 x.Aq i,(i:Int))) 0 x.Aq.length (Nat.zero_le _) (fun i=> ¬B4M x.Aq (U9 x.N x.K) i) 2
     (some (vOf ((el x.Aq 0).G=1/\(el x.Aq 0).D=0/\(el x.Aq (x.Aq.length-1)).D=0/\O4 x.Aq x.Aq.length=x.N)))
     (fun i _ hi hp=>by
      simp only [];unfold A1i;have hs:=B8B (l:=x.Aq) hM.2.1 hl i (by omega) fun j hj=>D5s fun hn=>hp j (Nat.zero_le _) hj hn
      rw [D4C (by omega:(i:Int)<(x.Aq.length:Int)),D4B,G4 hi,D4x,N4 hi hm]
      unfold B4M
      by_cases g1: -4096<=(el x.Aq i).V/\(el x.Aq i).V<=4096
      ·have e1:(decide ((el x.Aq i).V< -4096)||decide ((el x.Aq i).V>4096))=false:=by simp;omega
       rw [e1];have key: ∀P:Prop,((((decide ((el x.Aq i).G<(1:Int)))||(decide ((el x.Aq i).D<(0:Int))))||(decide ((el x.Aq i).G>(U9 x.N x.K))))||(decide ((el x.Aq i).D>(A2 ((U9 x.N x.K)-(el x.Aq i).G)))))=true↔ ¬(1<=(el x.Aq i).G/\0<=(el x.Aq i).D/\(el x.Aq i).G+(el x.Aq i).D<=U9 x.N x.K):=by
        intro _;simp only [D4I,D4z]
        by_cases q:1<=(el x.Aq i).G/\(el x.Aq i).G<=U9 x.N x.K
        ·rw [B9 (by omega) (by omega)];omega
        ·omega
       have keyw:(1<=(el x.Aq i).G/\0<=(el x.Aq i).D/\(el x.Aq i).G+(el x.Aq i).D<=U9 x.N x.K)->A2 (O4 x.Aq i+(el x.Aq i).G)=O4 x.Aq (i+1):=by
        intro q;rw [A9A hi,B9]<;>omega
       have fin: ∀(c1:Bool) (P1:Prop),(c1=true↔ ¬P1)->
         (¬((-4096<=(el x.Aq i).V/\(el x.Aq i).V<=4096)/\(1<=(el x.Aq i).G/\0<=(el x.Aq i).D/\(el x.Aq i).G+(el x.Aq i).D<=U9 x.N x.K)/\P1)->
          (cond c1 (some (.inr 2)) (cond ((((decide ((el x.Aq i).G<(1:Int)))||(decide ((el x.Aq i).D<(0:Int))))||(decide ((el x.Aq i).G>(U9 x.N x.K))))||(decide ((el x.Aq i).D>(A2 ((U9 x.N x.K)-(el x.Aq i).G))))) (some (.inr 2)) (some (.inl (A2 (O4 x.Aq i+(el x.Aq i).G),((i+1:Nat):Int))))):Option ((Int×Int)⊕Int))=some (.inr 2))/\
         (¬ ¬((-4096<=(el x.Aq i).V/\(el x.Aq i).V<=4096)/\(1<=(el x.Aq i).G/\0<=(el x.Aq i).D/\(el x.Aq i).G+(el x.Aq i).D<=U9 x.N x.K)/\P1)->
          (cond c1 (some (.inr 2)) (cond ((((decide ((el x.Aq i).G<(1:Int)))||(decide ((el x.Aq i).D<(0:Int))))||(decide ((el x.Aq i).G>(U9 x.N x.K))))||(decide ((el x.Aq i).D>(A2 ((U9 x.N x.K)-(el x.Aq i).G))))) (some (.inr 2)) (some (.inl (A2 (O4 x.Aq i+(el x.Aq i).G),((i+1:Nat):Int))))):Option ((Int×Int)⊕Int))=some (.inl (O4 x.Aq (i+1),((i+1:Nat):Int)))):=by
        intro c1 P1 hc
        by_cases q:1<=(el x.Aq i).G/\0<=(el x.Aq i).D/\(el x.Aq i).G+(el x.Aq i).D<=U9 x.N x.K
        ·rw [D4N.2 fun h=>(key True).1 h q,D4A,keyw q];refine K3 ?_;rw [hc];exact ⟨fun h1 h2=>h1 h2.2.2,fun h1 h2=>h1 ⟨g1,q,h2⟩⟩
        ·rw [(key True).2 q,D4B];have:(cond c1 (some (.inr 2)) (some (.inr 2)):Option ((Int×Int)⊕Int))=some (.inr 2):=by cases c1<;>rfl
         rw [this];exact ⟨fun _=>rfl,fun h=>absurd (fun h2=>q h2.2.1) h⟩
       rcases i with _|i
       ·have e4:decide (((0:Nat):Int)>0)=false:=rfl;rw [e4];simp only [Bool.and_false,G0,D4x,D42,Bool.or_false];exact fin false _ ⟨fun h=>(by cases h),fun h=>absurd (fun h2=>absurd h2 (by decide)) h⟩
       ·have e4:decide (((i+1:Nat):Int)>0)=true:=D4C (by omega)
        rw [e4,A2k (by omega) (Nat.le_of_lt hi) hm,D5e,G4 (by omega)]
        simp only [D4K,Bool.and_true,G5,D4x,D48,D4Y];refine fin _ _ ?_;rw [D4z];constructor
        ·intro h1 h2;have:=h2 (by omega);omega
        ·intro h1;exact Int.not_le.1 fun h2=>h1 fun _=>h2
      ·have e1:(decide ((el x.Aq i).V< -4096)||decide ((el x.Aq i).V>4096))=true:=by simp;omega
       rw [e1];simp only [D4J,D42,G0,D4x,D5h,D4B];exact ⟨fun _=>trivial,fun h=>absurd (fun h2=>g1 h2.1) h⟩)
     (fun hp=>by
      simp only [];unfold A1i;rw [D4E (D40 _),D4A]
      congr 1
      rw [A0T h0,D4x,A2k h0 (D5f _) hm,G4 (by omega),D4x]
      by_cases q:(el x.Aq 0).G=1/\(el x.Aq 0).D=0/\(el x.Aq (x.Aq.length-1)).D=0/\O4 x.Aq x.Aq.length=x.N
      ·rw [O0 q];obtain ⟨q1,q2,q3,q4⟩:=q;rw [q1,q2,q3,q4];simp
      ·rw [H2 q];have:(((O4 x.Aq x.Aq.length !=x.N||(el x.Aq 0).G !=1)||(el x.Aq 0).D !=0)||(el x.Aq (x.Aq.length-1)).D !=0)=true:=by
        simp only [D4I,bne_iff_ne];omega
       rw [this];rfl)
    rw [show ((0:Int),(0:Int))=(O4 x.Aq 0,((0:Nat):Int)) from by rw [B21];rfl]
    by_cases h2: ∀i,i<x.Aq.length->B4M x.Aq (U9 x.N x.K) i
    ·rw [H.2 fun i _ hi hn=>hn (h2 i hi)]
     congr 1
     by_cases q:(el x.Aq 0).G=1/\(el x.Aq 0).D=0/\(el x.Aq (x.Aq.length-1)).D=0/\O4 x.Aq x.Aq.length=x.N
     ·rw [O0 q,O0];exact ⟨h1,⟨fun h=>by omega,fun h=>absurd h hN⟩,h2,fun _=>q⟩
     ·rw [H2 q,H2];exact fun h=>q (h.2.2.2 h0)
    ·obtain ⟨i,hi,hn⟩:=A0V h2;rw [H.1 ⟨i,Nat.zero_le _,hi,hn⟩,H2];exact fun h=>h2 h.2.2.1
   ·have e0:((x.Aq.length:Int)==0)=true:=by rw [show x.Aq.length=0 by omega];rfl
    rw [e0,D4B,H2];intro h;have:=h.2.1;omega
 ·have e:(((((((decide (x.K<(1:Int)))||(decide (x.K>(64:Int))))||(decide (x.Cap<(2:Int))))||(decide (x.Cap>(65536:Int))))||(decide (x.N<(0:Int))))||(decide (x.N>(1099511627776:Int))))||(decide ((x.Aq.length:Int)>x.Cap)))=true:=by
   unfold A6d at h1;simp only [D4I,D4z];omega
  rw [e,D4B,H2 fun h=>h1 h.1]
theorem A5G (x:B5):A3p x=some (vOf (A9M x)):=by
 unfold A3p;simp only []
 by_cases h1:A6d x/\(x.Aq.length=0↔x.N=0)
 ·have h1' :=h1.1;unfold A6d at h1';have en:(A0G x.K x.Cap).2=0:=by
   unfold A0G;have:(((!(I6 x.K))||(decide (x.Cap<(2:Int))))||(decide (x.Cap>(65536:Int))))=false:=by
    rw [(R9 _).2 h1'.1];simp;omega
   simp only [this,D4A]
  have eb:(((x.Aq.length:Int)==0)==(x.N==0))=true:=by
   rw [D5r,D4S,D5r,D5r];have:=h1.2;omega
  have e:((((((A0G x.K x.Cap).2 !=0)||(decide (x.N<(0:Int))))||(decide (x.N>(1099511627776:Int))))||(decide ((x.Aq.length:Int)>x.Cap)))||(!(((x.Aq.length:Int)==(0:Int))==(x.N==(0:Int)))))=false:=by
   rw [en,eb,D4N];simp only [D4I,D4z,Ne,D5a,D4J,Bool.false_eq_true,or_false,false_or];omega
  rw [e,D4A];have hl:x.Aq.length<=65536:=by omega
  have hm:x.Aq.length<=maxLen:=by rw [G9];omega
  have hM:=B2y (n:=x.N) (k:=x.K) h1'.2.2.1 h1'.1.1;unfold B0n
  let good:Nat->Prop:=fun i=>B4M x.Aq (U9 x.N x.K) i/\(i=0->(el x.Aq i).G=1/\(el x.Aq i).D=0)/\(i=x.Aq.length-1->(el x.Aq i).D=0)/\O4 x.Aq (i+1)<=x.N
  have H:=X9 (f:=fun s:Int×Int=>A2t x s.1 s.2) (fun i=>(O4 x.Aq i,(i:Int))) 0 x.Aq.length (Nat.zero_le _) (fun i=> ¬good i) 2
   (some (vOf (O4 x.Aq x.Aq.length=x.N)))
   (fun i _ hi hp=>by
    simp only [];unfold A2t;have hs:=B8B (l:=x.Aq) hM.2.1 hl i (by omega) fun j hj=>(D5s fun hn=>hp j (Nat.zero_le _) hj hn:good j).1
    rw [D4C (by omega:(i:Int)<(x.Aq.length:Int)),D4B,G4 hi,D4x,N4 hi hm,A2k (by omega) (D5f _) hm,D26 h1'.2.2.1 h1'.1.1]
    simp only [];have el0:((i:Int)==0)=decide (i=0):=by rw [D4S,D5r,D4z];omega
    have ell:((i:Int)==((x.Aq.length-1:Nat):Int))=decide (i=x.Aq.length-1):=by rw [D4S,D5r,D4z];omega
    rw [el0,ell];have hN1:1<=x.N:=by have:=h1.2;omega
    have hMN:=hM.2.2 hN1
    by_cases gA:(-4096<=(el x.Aq i).V/\(el x.Aq i).V<=4096)/\(1<=(el x.Aq i).G/\(el x.Aq i).G<=x.N)/\(0<=(el x.Aq i).D/\(el x.Aq i).D<=x.N)
    ·have eA:(((((!(H8 (el x.Aq i).V))||(decide ((el x.Aq i).G<(1:Int))))||(decide ((el x.Aq i).G>x.N)))||(decide ((el x.Aq i).D<(0:Int))))||(decide ((el x.Aq i).D>x.N)))=false:=by
      rw [(A2B _).2 gA.1,D4N];simp only [D4I,D4z,Ne,D4J,Bool.false_eq_true,or_false,false_or];omega
     rw [eA,B9 (n:=(el x.Aq i).G+(el x.Aq i).D) (by omega) (by omega),B9 (n:=O4 x.Aq i+(el x.Aq i).G) (by omega) (by omega),<-A9A hi]
     simp only [D4K,G5,D4x,D4Y];have fin: ∀(c1:Bool),(c1=true↔(1<=i/\(el x.Aq (i-1)).V>(el x.Aq i).V))->
       (¬good i->(cond (((decide ((el x.Aq i).G+(el x.Aq i).D>U9 x.N x.K)||c1)||(decide (i=0)&&((el x.Aq i).G !=1||(el x.Aq i).D !=0)))||(decide (i=x.Aq.length-1)&&(el x.Aq i).D !=0)) (some (.inr 2))
        (cond (decide (O4 x.Aq (i+1)>x.N)) (some (.inr 2)) (some (.inl (O4 x.Aq (i+1),((i+1:Nat):Int))))):Option ((Int×Int)⊕Int))=some (.inr 2))/\
       (¬ ¬good i->(cond (((decide ((el x.Aq i).G+(el x.Aq i).D>U9 x.N x.K)||c1)||(decide (i=0)&&((el x.Aq i).G !=1||(el x.Aq i).D !=0)))||(decide (i=x.Aq.length-1)&&(el x.Aq i).D !=0)) (some (.inr 2))
        (cond (decide (O4 x.Aq (i+1)>x.N)) (some (.inr 2)) (some (.inl (O4 x.Aq (i+1),((i+1:Nat):Int))))):Option ((Int×Int)⊕Int))=some (.inl (O4 x.Aq (i+1),((i+1:Nat):Int)))):=by
      intro c1 hc;rw [A2d];refine K3 ?_;simp only [D4I,D4F,D4z,bne_iff_ne,hc];show _↔ ¬(B4M x.Aq (U9 x.N x.K) i/\_);unfold B4M;omega
     rcases i with _|i
     ·have e4:decide (((0:Nat):Int)>0)=false:=rfl;rw [e4];simp only [Bool.and_false,G0,D4x,D42];exact fin false ⟨fun h=>(by cases h),fun h=>(by omega)⟩
     ·have e4:decide (((i+1:Nat):Int)>0)=true:=D4C (by omega)
      rw [e4,A2k (by omega) (Nat.le_of_lt hi) hm,D5e,G4 (by omega)]
      by_cases gB:(el x.Aq (i+1)).G+(el x.Aq (i+1)).D>U9 x.N x.K
      ·rw [D4C gB];simp only [D4J,D42,G0,D4x,D5h,D4B];refine ⟨fun _=>trivial,fun h=>absurd (fun h2:good (i+1)=> ?_) h⟩;have:=h2.1.2.1;omega
      ·have fin' :=fin (decide ((el x.Aq i).V>(el x.Aq (i+1)).V)) (by rw [D4z,D5e];omega)
       rw [D4E gB] at fin' ⊢;simp only [D4K,D48,G5,D4x];exact fin'
    ·have eA:(((((!(H8 (el x.Aq i).V))||(decide ((el x.Aq i).G<(1:Int))))||(decide ((el x.Aq i).G>x.N)))||(decide ((el x.Aq i).D<(0:Int))))||(decide ((el x.Aq i).D>x.N)))=true:=by
      simp only [D4I,D4z,D4T];rw [D4N,Ne,A2B];omega
     rw [eA];simp only [D4J,D5h,D42,G0,D4x,D4B];refine ⟨fun _=>trivial,fun h=>absurd (fun h2:good i=>gA ?_) h⟩;have:=h2.1;unfold B4M at this;omega)
   (fun hp=>by
    simp only [];unfold A2t;rw [D4E (D40 _),D4A]
    congr 1
    by_cases q:O4 x.Aq x.Aq.length=x.N
    ·rw [O0 q,q,D5a,D4A]
    ·rw [H2 q,(bne_iff_ne).2 q,D4B])
  rw [show ((0:Int),(0:Int))=(O4 x.Aq 0,((0:Nat):Int)) from by rw [B21];rfl]
  by_cases h2: ∀i,i<x.Aq.length->good i
  ·rw [H.2 fun i _ hi hn=>hn (h2 i hi)]
   congr 1
   by_cases q:O4 x.Aq x.Aq.length=x.N
   ·rw [O0 q,O0];exact ⟨h1.1,h1.2,fun i hi=>(h2 i hi).1,fun h0=>⟨((h2 0 h0).2.1 rfl).1,((h2 0 h0).2.1 rfl).2,(h2 (x.Aq.length-1) (by omega)).2.2.1 rfl,q⟩⟩
   ·rw [H2 q,H2];intro h
    by_cases h0:0<x.Aq.length
    ·exact q (h.2.2.2 h0).2.2.2
    ·have e0:x.Aq.length=0:=by omega
     rw [e0,B21] at q;have:=h1.2.1 e0;omega
  ·obtain ⟨i,hi,hn⟩:=A0V h2;rw [H.1 ⟨i,Nat.zero_le _,hi,hn⟩,H2];intro h;apply hn;have h0:0<x.Aq.length:=by omega
   have h5:=h.2.2.2 h0;refine ⟨h.2.2.1 i hi,fun e=>by subst e;exact ⟨h5.1,h5.2.1⟩,fun e=>by subst e;exact h5.2.2.1, ?_⟩
   have mono: ∀k,i+1+k<=x.Aq.length->O4 x.Aq (i+1)<=O4 x.Aq (i+1+k):=by
    intro k
    induction k with
    |zero=>intro _;exact Int.le_refl _
    |succ k ih=>
     intro hk;have g1:=ih (by omega)
     have g2:=(h.2.2.1 (i+1+k) (by omega)).2.1
     have g3:O4 x.Aq (i+1+(k+1))=_:=A9A (l:=x.Aq) (i:=i+1+k) (by omega)
     omega
   have:=mono (x.Aq.length-(i+1)) (by omega)
   rw [show i+1+(x.Aq.length-(i+1))=x.Aq.length by omega,h5.2.2.2] at this
   exact this
 ·have e:((((((A0G x.K x.Cap).2 !=0)||(decide (x.N<(0:Int))))||(decide (x.N>(1099511627776:Int))))||(decide ((x.Aq.length:Int)>x.Cap)))||(!(((x.Aq.length:Int)==(0:Int))==(x.N==(0:Int)))))=true:=by
   by_cases hk:(1<=x.K/\x.K<=64)/\(2<=x.Cap/\x.Cap<=65536)
   ·by_cases hb:(x.Aq.length=0↔x.N=0)
    ·simp only [D4I,D4z];unfold A6d at h1;omega
    ·have:(((x.Aq.length:Int)==0)==(x.N==0))=false:=by
      rw [D5n];intro h;have:=congrArg (· =true) h;simp only [D5r,eq_iff_iff] at this;omega
     rw [this];simp
   ·have en:(A0G x.K x.Cap).2=1:=by
     unfold A0G;have:(((!(I6 x.K))||(decide (x.Cap<(2:Int))))||(decide (x.Cap>(65536:Int))))=true:=by
      simp only [D4I,D4z,D4T];rw [D4N,Ne,R9];omega
     simp only [this,D4B]
    rw [en];rfl
  rw [e,D4B,H2 fun h=>h1 ⟨h.1,h.2.1⟩]
theorem C6c (x:B5) (hl:x.Aq.length<=maxLen):A5F x x=some true:=by
 unfold A5F;simp only [D5a,Bool.or_false,D4A];unfold A9V;refine (L2 (f:=fun s:Int=>A3o x x s) x.Aq.length (fun _=>False) false (some true) (fun i hi _=>⟨fun h=>h.elim,fun _=> ?_⟩) (fun _=> ?_)).2 fun _ _ h=>h
 ·unfold A3o;rw [D4C (by omega:(i:Int)<(x.Aq.length:Int)),D4B,G4 hi]
  simp [N4 hi hl]
 ·unfold A3o;rw [D4E (D40 _),D4A]
end Go.Win
namespace Go.Win
open Go.Vc Go.Dec
def inB (x:Int) (b:Nat):Prop:=(b=0/\x=0)\/(1<=b/\(2:Int)^(b-1)<=x/\x<2^b)
theorem C81: ∀(b:Nat) (x c:Int),inB x b->x<=9223372036854775807->0<=c->c+b<=1000->A6E x c=some (c+b):=by
 intro b
 induction b with
 |zero=>
  intro x c h hx hc hb;have hx0:x=0:=by
   rcases h with h|h
   ·exact h.2
   ·omega
  unfold A6E;rw [K9 (r:=c)]
  ·congr 1;omega
  ·unfold A5p;rw [hx0];rfl
 |succ b ih=>
  intro x c h hx hc hb;have h' :(2:Int)^b<=x/\x<2^(b+1):=by
   rcases h with h|h
   ·omega
   ·exact ⟨by simpa using h.2.1,h.2.2⟩
  have hp:=Q7 b;have hin:inB (x/2) b:=by
   by_cases h0:b=0
   ·subst h0;left;have e1:(2:Int)^0=1:=rfl;have e2:(2:Int)^(0+1)=2:=rfl;omega
   ·right;have e1:(2:Int)^b=2^(b-1)*2:=by rw [<-Int.pow_succ];congr 1;omega
    have e2:(2:Int)^(b+1)=2^b*2:=Int.pow_succ 2 b;omega
  have hst:A5p x c=some (.inl (x/2,c+1)):=by
   unfold A5p;rw [D4C (by omega),D4B,Int.tdiv_eq_ediv_of_nonneg (by omega),B9 (by omega) (by omega),B9 (by omega) (by omega)]
  have:=ih (x/2) (c+1) hin (by omega) (by omega) (by omega)
  unfold A6E at this⊢;rw [K2 hst,this]
  congr 1
  omega
theorem D1J {x:Int} (h0:0<x) (h1:x<=9223372036854775807): ∃b:Nat,B4L x=some (b:Int)/\B0F x=some (b:Int)/\1<=b/\b<=64/\(2:Int)^(b-1)<=x/\x<2^b:=by
 obtain ⟨b,g1,g2,g3,g4,g5⟩:=A3V h0 (by omega)
 refine ⟨b, ?_, ?_,g2,g3,g4,g5⟩
 ·unfold B4L;rw [D4E (by omega),D4A,A1j (by omega) (by omega),g1];rfl
 ·unfold B0F;rw [C81 b x 0 (.inr ⟨g2,g4,g5⟩) h1 (by omega) (by omega)]
  congr 1;omega
theorem B7c {k c:Int} (hk:1<=k/\k<=64) (hc:1<=c/\c<=65536): ∃b,A6D k c=some b/\A5M k c=some b/\1<=b/\b<=65536:=by
 obtain ⟨b,g1,g2,g3,g4,g5,g6⟩:=D1J (x:=c) (by omega) (by omega)
 have hm:=A10 (a:=2*k) (A:=128) (b:=(b:Int)+2) (B:=66) (by omega) (by omega)
 have hm2:1*1<=2*k*((b:Int)+2):=Int.mul_le_mul (by omega) (by omega) (by decide) (by omega)
 refine ⟨2*k*(b+2), ?_, ?_,by omega,by omega⟩
 ·unfold A6D;have e:A0g 1 k c 0=true:=by unfold A0g;simp;omega
  simp only [e,D4J,D4A,g1,D4x];rw [B9 (n:=2*k) (by omega) (by omega),B9 (n:=(b:Int)+2) (by omega) (by omega),B9 (by omega) (by omega)]
 ·unfold A5M;have e:(((!(I6 k))||(decide (c<(1:Int))))||(decide (c>(65536:Int))))=false:=by
   rw [(R9 k).2 hk];simp;omega
  simp only [e,D4A,g2,D4x];rw [B9 (n:=2*k) (by omega) (by omega),B9 (n:=(b:Int)+2) (by omega) (by omega),B9 (by omega) (by omega)]
def plainB (l:List D5):List B7:=l.map fun x=>⟨x.T,x.Aw⟩
theorem A3K (l:List D5):(plainB l).length=l.length:=by simp [plainB]
theorem C9W {l:List D5} {i:Nat} (h:i<l.length):el (plainB l) i=⟨(el l i).T,(el l i).Aw⟩:=by
 rw [B1r (by rw [A3K];exact h),B1r h]
 simp [plainB]
theorem B0C (l:List D5) (hl:l.length<=1048576):A2Y l=some (plainB l):=by
 unfold A2Y B2b;have H:=X9 (f:=fun s:List B7×Int=>A1z l s.1 s.2) (fun i=>(plainB (l.take i),(i:Int))) 0 l.length (Nat.zero_le _) (fun _=>False) [] (some (plainB l))
  (fun i _ hi _=>by
   refine ⟨fun h=>h.elim,fun _=> ?_⟩;simp only [];unfold A1z;have hm:l.length<=maxLen:=by rw [G9];omega
   rw [D4C (by omega:(i:Int)<(l.length:Int)),D4B,G4 hi,D4x,N4 hi hm]
   have e1:plainB (l.take (i+1))=plainB (l.take i)++ [⟨(el l i).T,(el l i).Aw⟩]:=by
    rw [List.take_add_one,B00 hi];simp [plainB]
   have e2:(plainB (l.take i)).length=i:=by rw [A3K,D4Z];omega
   rw [e1,e2,D4C (by simp only [D4Q,D43];omega),W4])
  (fun _=>by
   simp only [];unfold A1z;rw [D4E (D40 _),D4A,List.take_length])
 exact H.2 (fun _ _ _ h=>h)
theorem C4i:A9e=A2Y:=rfl
def alS (b:Int):Nat->Int
 |0=>0
 |i+1=>if (2:Int)^i>b+1 then 2*alS b i+((2:Int)^i-1+b-1)/b else alS b i
theorem D1E {b:Int} (hb:1<=b): ∀i:Nat,0<=alS b i/\alS b i<=i*2^i:=by
 intro i
 induction i with
 |zero=>exact ⟨Int.le_refl _,Int.le_refl _⟩
 |succ i ih=>
  have hp:=Q7 i;have e2:(2:Int)^(i+1)=2^i*2:=Int.pow_succ 2 i;have e3:((i+1:Nat):Int)*2^(i+1)=(i:Int)*2^i*2+2^i*2:=by
   rw [e2,Int.natCast_add,Int.add_mul,Int.mul_assoc];simp
  rw [e3];unfold alS;split
  ·have h1:((2:Int)^i-1+b-1)/b<=2^i:=by
    have:((2:Int)^i-1+b-1)/b<2^i+1:=by
     rw [Int.ediv_lt_iff_lt_mul (by omega),Int.add_mul,Int.one_mul]
     have:=Int.mul_le_mul_of_nonneg_left hb (show (0:Int)<=2^i by omega)
     omega
    omega
   have h2:0<=((2:Int)^i-1+b-1)/b:=Int.ediv_nonneg (by omega) (by omega)
   omega
  ·omega
theorem D2r: ∀n:Fin 31,(2:Int)^n.1<=1073741824:=by decide
theorem B9I {i:Nat} (h:i<=30):(2:Int)^i<=1073741824:=D2r ⟨i,by omega⟩
theorem C8R {b:Int} (hb:1<=b) {i:Nat} (hi:i<=30):0<=alS b i/\alS b i<=32212254720:=by
 obtain ⟨h1,h2⟩:=D1E hb i;have hp:=B9I hi;have:=A10 (a:=(i:Int)) (A:=30) (b:=2^i) (B:=1073741824) (by omega) ⟨Int.le_of_lt (Q7 i),hp⟩
 omega
theorem D1L {a b:Int} (ha:0<=a/\a<=4611686018427387904) (hb:1<=b/\b<=4611686018427387904):A87 a b=some ((a+b-1)/b,true):=by
 unfold A87;have e1:((b==0)||((a== -9223372036854775808)&&(b== -1)))=false:=by
  rw [D4N];simp only [D4I,D4F,D5r,Ne];omega
 rw [e1,D4A,D4C (by omega:b≠0),W4,W4,Int.tdiv_eq_ediv_of_nonneg ha.1,Int.tmod_eq_emod_of_nonneg ha.1]
 have hq:0<=a/b:=Int.ediv_nonneg ha.1 (by omega)
 have hq2:a/b<=a:=Int.ediv_le_self b ha.1;have hr:=Int.emod_nonneg a (show b≠0 by omega)
 have hr2:=Int.emod_lt_of_pos a (show 0<b by omega)
 have hd:=Int.mul_ediv_add_emod a b;rw [D4E (by omega: ¬a<0),D4E (by omega: ¬b<0)]
 by_cases h0:a%b=0
 ·have e2:(a%b !=0&&(false==false))=false:=by rw [h0];rfl
  rw [e2,D4A,B9 (by omega) (by omega)]
  have:(a+b-1)/b=a/b:=by
   have e3:a+b-1=(b-1)+b*(a/b):=by omega
   rw [e3,Int.add_mul_ediv_left _ _ (by omega),Int.ediv_eq_zero_of_lt (by omega) (by omega)];omega
  rw [this]
 ·have e2:(a%b !=0&&(false==false))=true:=by rw [D4F];exact ⟨bne_iff_ne.2 h0,rfl⟩
  rw [e2,D4B,B9 (n:=a/b) (by omega) (by omega),B9 (by omega) (by omega)]
  have:(a+b-1)/b=a/b+1:=by
   have e3:a+b-1=(a%b-1)+b*(a/b+1):=by rw [Int.mul_add];omega
   rw [e3,Int.add_mul_ediv_left _ _ (by omega),Int.ediv_eq_zero_of_lt (by omega) (by omega)];omega
  rw [this]
theorem B8Q {L b:Int} (hL:0<=L/\L<=30) (hb:1<=b/\b<=65536):A48 L b=some (alS b (L.toNat+1))/\A6M L b=some (alS b (L.toNat+1)):=by
 have e:((((decide (L<(0:Int)))||(decide (L>(30:Int))))||(decide (b<(1:Int))))||(decide (b>(65536:Int))))=false:=by
  rw [D4N];simp only [D4I,D4z,Ne];omega
 constructor
 ·unfold A48;rw [e,D4A];unfold A94;have H:=X9 (f:=fun s:Int×Int=>A17 L b s.1 s.2) (fun i=>(alS b i,(i:Int))) 0 (L.toNat+1) (Nat.zero_le _) (fun _=>False) 0 (some (alS b (L.toNat+1)))
   (fun i _ hi _=>by
    refine ⟨fun h=>h.elim,fun _=> ?_⟩;simp only [];unfold A17;have hp:=B9I (show i<=30 by omega)
    have hp0:=Q7 i;have ha:=C8R hb.1 (show i<=30 by omega)
    have es:A2 ((i:Int)+1)=((i+1:Nat):Int):=by rw [B9]<;>omega
    have ew:decide (0<=A7 (i:Int))=true:=D4C (by rw [A1j]<;>omega)
    rw [D4C (by omega:(i:Int)<=L),D4B,ew,W4,B4D (by omega) (by omega),D5d,es,B9 (n:=b+1) (by omega) (by omega)]
    by_cases h:(2:Int)^i>b+1
    ·rw [D4C h,D4B,B9 (n:=(2:Int)^i-1) (by omega) (by omega),D1L (by omega) (by omega),D4x,B9 (n:=2*alS b i) (by omega) (by omega)]
     have h1:0<=((2:Int)^i-1+b-1)/b:=Int.ediv_nonneg (by omega) (by omega)
     have h2:((2:Int)^i-1+b-1)/b<=(2:Int)^i-1+b-1:=Int.ediv_le_self b (by omega)
     simp only [];rw [B9 (by omega) (by omega)]
     have ea:alS b (i+1)=2*alS b i+((2:Int)^i-1+b-1)/b:=by rw [alS,if_pos h]
     rw [ea]
    ·rw [D4E h,D4A];have ea:alS b (i+1)=alS b i:=by rw [alS,if_neg h]
     rw [ea])
   (fun _=>by
    simp only [];unfold A17;rw [D4E (by omega),D4A])
  exact H.2 (fun _ _ _ h=>h)
 ·unfold A6M;rw [e,D4A];unfold B1V;have H:=X9 (f:=fun s:Int×Int=>A2U L b s.1 s.2) (fun i=>(alS b i,(i:Int))) 0 (L.toNat+1) (Nat.zero_le _) (fun _=>False) 0 (some (alS b (L.toNat+1)))
   (fun i _ hi _=>by
    refine ⟨fun h=>h.elim,fun _=> ?_⟩;simp only [];unfold A2U;have hp:=B9I (show i<=30 by omega)
    have hp0:=Q7 i;have ha:=C8R hb.1 (show i<=30 by omega)
    have es:A2 ((i:Int)+1)=((i+1:Nat):Int):=by rw [B9]<;>omega
    have ew:decide (0<=A7 (i:Int))=true:=D4C (by rw [A1j]<;>omega)
    rw [D4C (by omega:(i:Int)<=L),D4B,ew,W4,B4D (by omega) (by omega),D5d,es,B9 (n:=b+1) (by omega) (by omega)]
    by_cases h:(2:Int)^i>b+1
    ·have h1:0<=((2:Int)^i-1+b-1)/b:=Int.ediv_nonneg (by omega) (by omega)
     have h2:((2:Int)^i-1+b-1)/b<=(2:Int)^i-1+b-1:=Int.ediv_le_self b (by omega)
     rw [D4C h,D4B,D4C (by omega:b≠0),W4,B9 (n:=(2:Int)^i-1) (by omega) (by omega),B9 (n:=(2:Int)^i-1+b) (by omega) (by omega),B9 (n:=(2:Int)^i-1+b-1) (by omega) (by omega),
      Int.tdiv_eq_ediv_of_nonneg (by omega),B9 (n:=((2:Int)^i-1+b-1)/b) (by omega) (by omega),B9 (n:=2*alS b i) (by omega) (by omega),B9 (by omega) (by omega)]
     have ea:alS b (i+1)=2*alS b i+((2:Int)^i-1+b-1)/b:=by rw [alS,if_pos h]
     rw [ea]
    ·rw [D4E h,D4A];have ea:alS b (i+1)=alS b i:=by rw [alS,if_neg h]
     rw [ea])
   (fun _=>by
    simp only [];unfold A2U;rw [D4E (by omega),D4A])
  exact H.2 (fun _ _ _ h=>h)
def B0A (b:Int) (x:D5):Prop:=okB x.Az=true/\x.Az.N=2^x.Aw.toNat/\(x.Az.Ad.length:Int)<=b+1/\A2 (C3K x.Az.Ad-1)<=alS b (x.Aw.toNat+1)/\
 -4096<=(el x.Az.Ad 0).V/\(el x.Az.Ad (x.Az.Ad.length-1)).V<=4096/\(el x.Az.Ad 0).V<=x.Bc/\x.Bc<=(el x.Az.Ad (x.Az.Ad.length-1)).V
def A7L (l:List D5) (k b:Int):Prop:=(1<=b/\b<=65536)/\A8A (plainB l) k/\ ∀i,i<l.length->B0A b (el l i)
def A3v (l:List D5):Prop:=l.length<=1048576/\ ∀x∈l,x.Az.Ad.length<=1048576
theorem A5i {l:List D5} {k:Int} (h:A8A (plainB l) k) {i:Nat} (hi:i<l.length):0<=(el l i).Aw/\(el l i).Aw<=30:=by
 have:=h.2.1 i (by rw [A3K];exact hi)
 unfold A2D at this;rw [C9W hi] at this;simp only [] at this;omega
theorem C1A {r:B6} (h:okB r=true) {n:Nat} (hn:r.N=2^n):0<r.Ad.length:=by
 have h1:=(A0a r).1 h;have:=Q7 n;have h2:=h1.nil;omega
theorem C2N (l:List D5) (k b:Int) (hs:A3v l):A7t l k b=some (T2 (A7L l k b)):=by
 have hm:l.length<=maxLen:=by rw [G9];have:=hs.1;omega
 unfold A7t
 by_cases hb:1<=b/\b<=65536
 ·have e:(decide (b<1)||decide (b>65536))=false:=by simp;omega
  rw [e,B0C l hs.1];simp only [D4K,G5,D4x,D4Y];rw [A9D _ _ (by rw [A3K];exact hm),D4x]
  by_cases h2:A8A (plainB l) k
  ·rw [P6 h2,D4J,D4A];unfold B2a;have H:=L2 (f:=fun s:Int=>A3E l b s) l.length (fun i=> ¬B0A b (el l i)) false (some true)
    (fun i hi _=>by
     unfold A3E;have hv:=A5i h2 hi;have hr:=hs.2 _ (A59 hi);rw [D4C (by omega:(i:Int)<(l.length:Int)),D4B,G4 hi,D4x,N4 hi hm]
     generalize el l i=x at hv hr⊢
     have ew:decide (0<=A7 x.Aw)=true:=D4C (by rw [A1j]<;>omega)
     simp only [A0h x.Az hr,D4x,ew,Bool.or_true,W4,B4D hv.1 hv.2];have eb1:A2 (b+1)=b+1:=by rw [B9]<;>omega
     rw [eb1];cases hB:okB x.Az with
     |false=>
      simp only [D4A,show ((2:Int) !=0)=true from rfl,D5h,D4J,G0,D4x,D4B];exact ⟨fun _=>trivial,fun h=>absurd (fun h2:B0A b x=>by have:=h2.1;rw [hB] at this;cases this) h⟩
     |true=>
      simp only [D4B,show ((0:Int) !=0)=false from rfl,D4Y]
      by_cases g1:x.Az.N=2^x.Aw.toNat/\(x.Az.Ad.length:Int)<=b+1
      ·have e1:((x.Az.N !=2^x.Aw.toNat)||decide ((x.Az.Ad.length:Int)>b+1))=false:=by
        rw [g1.1,D5a,D4Y];exact D4E (by omega)
       rw [e1];have h0:=C1A hB g1.1;have hm2:x.Az.Ad.length<=maxLen:=by rw [G9];omega
       simp only [D4K,G5,D0Z x.Az hr,D4x,hB,D4B,(B8Q hv hb).1,D4Y,A0T h0,A2k h0 (D5f _) hm2,G4 (show x.Az.Ad.length-1<x.Az.Ad.length by omega)]
       rw [A2d];refine K3 ?_;unfold B0A;simp only [hB,g1,true_and,D4I,D4z];omega
      ·have e1:((x.Az.N !=2^x.Aw.toNat)||decide ((x.Az.Ad.length:Int)>b+1))=true:=by
        rw [D4I,bne_iff_ne,D4z]
        by_cases q:x.Az.N=2^x.Aw.toNat
        ·right;have: ¬(x.Az.Ad.length:Int)<=b+1:=fun h=>g1 ⟨q,h⟩;omega
        ·exact .inl q
       rw [e1];simp only [D4J,G0,D4x,D5h,D4B];exact ⟨fun _=>trivial,fun h=>absurd (fun h2=>g1 ⟨h2.2.1,h2.2.2.1⟩) h⟩)
    (fun _=>by
     unfold A3E;rw [D4E (D40 _),D4A])
   by_cases h3: ∀i,i<l.length->B0A b (el l i)
   ·rw [H.2 fun i hi hn=>hn (h3 i hi),P6];exact ⟨hb,h2,h3⟩
   ·rw [H.1 (A0V h3),J9];exact fun h=>h3 h.2.2
  ·rw [J9 h2,J9 fun h=>h2 h.2.1];rfl
 ·have e:(decide (b<1)||decide (b>65536))=true:=by
   rw [D4S];simp;omega
  rw [e,J9 fun h=>hb h.1];rfl
theorem C5Y (l:List D5) (k b:Int) (hs:A3v l):A9g l k b=some (T2 (A7L l k b)):=by
 have hm:l.length<=maxLen:=by rw [G9];have:=hs.1;omega
 unfold A9g
 by_cases hb:1<=b/\b<=65536
 ·have e:(decide (b<1)||decide (b>65536))=false:=by simp;omega
  rw [e,C4i,B0C l hs.1];simp only [D4K,G5,D4x,D4Y];rw [B7S _ _ (by rw [A3K];exact hm),D4x]
  by_cases h2:A8A (plainB l) k
  ·rw [P6 h2,D4J,D4A];unfold B4d;have H:=L2 (f:=fun s:Int=>A4E l b s) l.length (fun i=> ¬B0A b (el l i)) false (some true)
    (fun i hi _=>by
     unfold A4E;have hv:=A5i h2 hi;have hr:=hs.2 _ (A59 hi);rw [D4C (by omega:(i:Int)<(l.length:Int)),D4B,G4 hi,D4x,N4 hi hm]
     generalize el l i=x at hv hr⊢
     have ew:decide (0<=A7 x.Aw)=true:=D4C (by rw [A1j]<;>omega)
     simp only [A0H x.Az hr,D4x,ew,Bool.or_true,W4,B4D hv.1 hv.2];have eb1:A2 (b+1)=b+1:=by rw [B9]<;>omega
     rw [eb1];cases hB:okB x.Az with
     |false=>
      simp only [D4A,show ((2:Int) !=0)=true from rfl,D5h,D4J,G0,D4x,D4B];exact ⟨fun _=>trivial,fun h=>absurd (fun h2:B0A b x=>by have:=h2.1;rw [hB] at this;cases this) h⟩
     |true=>
      simp only [D4B,show ((0:Int) !=0)=false from rfl,D4Y]
      by_cases g1:x.Az.N=2^x.Aw.toNat/\(x.Az.Ad.length:Int)<=b+1
      ·have e1:((x.Az.N !=2^x.Aw.toNat)||decide ((x.Az.Ad.length:Int)>b+1))=false:=by
        rw [g1.1,D5a,D4Y];exact D4E (by omega)
       rw [e1];have h0:=C1A hB g1.1;have hm2:x.Az.Ad.length<=maxLen:=by rw [G9];omega
       simp only [D4K,G5,D2s x.Az hr,D4x,hB,D4B,(B8Q hv hb).2,D4Y,A0T h0,A2k h0 (D5f _) hm2,G4 (show x.Az.Ad.length-1<x.Az.Ad.length by omega)]
       by_cases g2:(-4096<=(el x.Az.Ad 0).V/\(el x.Az.Ad 0).V<=4096)/\(-4096<=(el x.Az.Ad (x.Az.Ad.length-1)).V/\(el x.Az.Ad (x.Az.Ad.length-1)).V<=4096)/\(el x.Az.Ad 0).V<=x.Bc/\x.Bc<=(el x.Az.Ad (x.Az.Ad.length-1)).V
       ·have e2:((((!(H8 (el x.Az.Ad 0).V))||(!(H8 (el x.Az.Ad (x.Az.Ad.length-1)).V)))||(decide (x.Bc<(el x.Az.Ad 0).V)))||(decide (x.Bc>(el x.Az.Ad (x.Az.Ad.length-1)).V)))=false:=by
         rw [(A2B _).2 g2.1,(A2B _).2 g2.2.1,D4N];simp only [D4I,D4z,Ne,D4J,Bool.false_eq_true,or_false,false_or];omega
        rw [e2,D4A];simp only [D4K,G5,D4x,D4Y];refine K3 ?_;unfold B0A;simp only [hB,g1,true_and,D4z];omega
       ·have e2:((((!(H8 (el x.Az.Ad 0).V))||(!(H8 (el x.Az.Ad (x.Az.Ad.length-1)).V)))||(decide (x.Bc<(el x.Az.Ad 0).V)))||(decide (x.Bc>(el x.Az.Ad (x.Az.Ad.length-1)).V)))=true:=by
         simp only [D4I,D4z,D4T];rw [D4N,D4N,Ne,Ne,A2B,A2B];omega
        rw [e2,D4A];simp only [D4J,G0,D4x,D5h,D4B];refine ⟨fun _=>trivial,fun h=>absurd (fun h2=>g2 ?_) h⟩;have:=h2.2.2.2;omega
      ·have e1:((x.Az.N !=2^x.Aw.toNat)||decide ((x.Az.Ad.length:Int)>b+1))=true:=by
        rw [D4I,bne_iff_ne,D4z]
        by_cases q:x.Az.N=2^x.Aw.toNat
        ·right;have: ¬(x.Az.Ad.length:Int)<=b+1:=fun h=>g1 ⟨q,h⟩;omega
        ·exact .inl q
       rw [e1,D4B];exact ⟨fun _=>rfl,fun h=>absurd (fun h2=>g1 ⟨h2.2.1,h2.2.2.1⟩) h⟩)
    (fun _=>by
     unfold A4E;rw [D4E (D40 _),D4A])
   by_cases h3: ∀i,i<l.length->B0A b (el l i)
   ·rw [H.2 fun i hi hn=>hn (h3 i hi),P6];exact ⟨hb,h2,h3⟩
   ·rw [H.1 (A0V h3),J9];exact fun h=>h3 h.2.2
  ·rw [J9 h2,J9 fun h=>h2 h.2.1];rfl
 ·have e:(decide (b<1)||decide (b>65536))=true:=by
   rw [D4S];simp;omega
  rw [e,J9 fun h=>hb h.1];rfl
theorem B5Q (l:List D5) (hs:A3v l):A7s l=some (A2 (T9 (plainB l)))/\A9f l=some (A2 (T9 (plainB l))):=by
 have hm:(plainB l).length<=maxLen:=by rw [G9,A3K];have:=hs.1;omega
 refine ⟨?_, ?_⟩
 ·unfold A7s;rw [B0C l hs.1,D4x,B0W,A4k _ hm];rfl
 ·unfold A9f;rw [C4i,B0C l hs.1,D4x,A4k _ hm];rfl
def C0H (x:C4):Prop:=A2F x.W x.K x.Cap x.Now/\(∀b,A5M x.K x.Cap=some b->A7L x.Ah (2*x.K) b)/\A2 (T9 (plainB x.Ah))<=x.Cap/\ ∀i,i<x.Ah.length->F3 x.Now x.W (el x.Ah i).T=true
theorem A50 (w k c n:Int):A0g w k c n=true↔A2F w k c n:=by
 unfold A0g A2F;simp;omega
theorem A51 (x:C4) (hs:A3v x.Ah):A0b x=some (vOf (C0H x)):=by
 have hm:x.Ah.length<=maxLen:=by rw [G9];have:=hs.1;omega
 unfold A0b;simp only []
 by_cases h1:A2F x.W x.K x.Cap x.Now
 ·obtain ⟨b,b1,b2,b3⟩:=B7c (k:=x.K) (c:=x.Cap) h1.2.2.2 h1.2.1;have hk:=h1.2.2.2;rw [(A50 _ _ _ _).2 h1,b1,B9 (n:=2*x.K) (by omega) (by omega)]
  simp only [D4J,D4K,G5,D4x,D4Y,C2N _ _ _ hs,(B5Q _ hs).1]
  by_cases h2:A7L x.Ah (2*x.K) b
  ·rw [P6 h2];simp only [D4J,D4K,G5,D4x,D4Y]
   by_cases h3:A2 (T9 (plainB x.Ah))<=x.Cap
   ·rw [D4E (by omega),D4A]
    unfold A7P;have H:=L2 (f:=fun s:Int=>A0W x s) x.Ah.length (fun i=> ¬F3 x.Now x.W (el x.Ah i).T=true) 2 (some 0)
     (fun i hi _=>by
      unfold A0W;rw [D4C (by omega:(i:Int)<(x.Ah.length:Int)),D4B,G4 hi,D4x,N4 hi hm]
      refine K3 ?_;simp [A7g])
     (fun _=>by
      unfold A0W;rw [D4E (D40 _),D4A])
    by_cases h4: ∀i,i<x.Ah.length->F3 x.Now x.W (el x.Ah i).T=true
    ·rw [H.2 fun i hi hn=>hn (h4 i hi),O0];exact ⟨h1,fun b' hb' =>by rw [b2] at hb';cases hb';exact h2,h3,h4⟩
    ·rw [H.1 (A0V h4),H2];exact fun h=>h4 h.2.2.2
   ·rw [D4C (by omega),D4B,H2]
    exact fun h=>h3 h.2.2.1
  ·rw [J9 h2];simp only [D4J,D4K,G0,D4x,D5h,D4B];rw [H2];exact fun h=>h2 (h.2.1 b b2)
 ·rw [D4N.2 fun h=>h1 ((A50 _ _ _ _).1 h),H2 fun h=>h1 h.1]
  rfl
theorem A8I (x:C4) (hs:A3v x.Ah):A1x x=some (vOf (C0H x)):=by
 have hm:x.Ah.length<=maxLen:=by rw [G9];have:=hs.1;omega
 unfold A1x;simp only []
 by_cases h1:A2F x.W x.K x.Cap x.Now
 ·obtain ⟨b,b1,b2,b3⟩:=B7c (k:=x.K) (c:=x.Cap) h1.2.2.2 h1.2.1;have hk:=h1.2.2.2;rw [(U1 _ _ _).2 ⟨h1.1,h1.2.1,h1.2.2.1⟩,(R9 _).2 hk,b2,B9 (n:=2*x.K) (by omega) (by omega)]
  simp only [D4J,D4K,G5,D4x,Bool.or_false,D4Y,C5Y _ _ _ hs,(B5Q _ hs).2]
  by_cases h2:A7L x.Ah (2*x.K) b
  ·rw [P6 h2];simp only [D4J,D4K,G5,D4x,D4Y]
   by_cases h3:A2 (T9 (plainB x.Ah))<=x.Cap
   ·rw [D4E (by omega),D4A]
    unfold B0p;have H:=L2 (f:=fun s:Int=>A2w x s) x.Ah.length (fun i=> ¬F3 x.Now x.W (el x.Ah i).T=true) 2 (some 0)
     (fun i hi _=>by
      unfold A2w;rw [D4C (by omega:(i:Int)<(x.Ah.length:Int)),D4B,G4 hi,D4x,N4 hi hm]
      refine K3 ?_;simp)
     (fun _=>by
      unfold A2w;rw [D4E (D40 _),D4A])
    by_cases h4: ∀i,i<x.Ah.length->F3 x.Now x.W (el x.Ah i).T=true
    ·rw [H.2 fun i hi hn=>hn (h4 i hi),O0];exact ⟨h1,fun b' hb' =>by rw [b2] at hb';cases hb';exact h2,h3,h4⟩
    ·rw [H.1 (A0V h4),H2];exact fun h=>h4 h.2.2.2
   ·rw [D4C (by omega),D4B,H2]
    exact fun h=>h3 h.2.2.1
  ·rw [J9 h2];simp only [D4J,D4K,G0,D4x,D5h,D4B];rw [H2];exact fun h=>h2 (h.2.1 b b2)
 ·have e1:(!I1 x.W x.Cap x.Now|| !I6 x.K)=true:=by
   rw [D4I,D4T,D4T,D4N,D4N,Ne,Ne,U1,R9];unfold A2F at h1;omega
  rw [e1,H2 fun h=>h1 h.1]
  rfl
theorem C4A (r:B6) (hl:r.Ad.length<=maxLen):B0K r r=some true:=by
 unfold B0K;simp only [D5a,Bool.or_false,D4A];unfold B5D;refine (L2 (f:=fun s:Int=>A5H r r s) r.Ad.length (fun _=>False) false (some true) (fun i hi _=>⟨fun h=>h.elim,fun _=> ?_⟩) (fun _=> ?_)).2 fun _ _ h=>h
 ·unfold A5H;rw [D4C (by omega:(i:Int)<(r.Ad.length:Int)),D4B,G4 hi]
  simp [N4 hi hl]
 ·unfold A5H;rw [D4E (D40 _),D4A]
theorem D1K (l:List D5) (hl:l.length<=maxLen) (he:∀x∈l,x.Az.Ad.length<=maxLen):A5I l l=some true:=by
 unfold A5I;rw [D5a,D4A];unfold A9W;refine (L2 (f:=fun s:Int=>A3r l l s) l.length (fun _=>False) false (some true) (fun i hi _=>⟨fun h=>h.elim,fun _=> ?_⟩) (fun _=> ?_)).2 fun _ _ h=>h
 ·unfold A3r;rw [D4C (by omega:(i:Int)<(l.length:Int)),D4B,G4 hi]
  simp [N4 hi hl,C4A _ (he _ (A59 hi))]
 ·unfold A3r;rw [D4E (D40 _),D4A]
theorem C6d (x:C4) (hl:x.Ah.length<=maxLen) (he:∀b∈x.Ah,b.Az.Ad.length<=maxLen):A5L x x=some true:=by
 unfold A5L;simp [D1K _ hl he]
end Go.Win
namespace Go.Win
open Go.Vc Go.Dec
theorem F5 {α:Type} {l:List α} (h:l.length<=1048576):l.length<=maxLen:=by rw [G9];omega
theorem B8G {l:List A1} (h:∀y∈l,A1P y): ∀w∈l,H1 w:=fun w hw=>⟨(B9Z (h w hw).1).1,(B9Z (h w hw).1).2,(B9Z (h w hw).2).1,(B9Z (h w hw).2).2⟩
theorem D2E (p:Prop):(vOf p==0)=T2 p:=by
 by_cases h:p
 ·rw [O0 h,P6 h];rfl
 ·rw [H2 h,J9 h];rfl
theorem C58 (x:G2) (hl:x.Bf.length<=maxLen):A5A x x=some true:=by
 unfold A5A;simp [C36 _ hl]
theorem B01 {α:Type} (l:List α):((l.length:Int) !=(([]:List α).length:Int))= !T2 (l.length=0):=by
 by_cases h:l.length=0
 ·rw [P6 h,h];rfl
 ·rw [J9 h];show ((l.length:Int) !=0)=true;rw [bne_iff_ne];omega
theorem A8j (l:List B3):Z4 l []=some (T2 (l.length=0)):=by
 unfold Z4;rw [B01]
 by_cases h:l.length=0
 ·rw [P6 h,D4J,D4A];unfold A2n;refine K9 ?_;unfold A1S;rw [h];rfl
 ·rw [J9 h];rfl
theorem B32 (l:List B7):A3M l []=some (T2 (l.length=0)):=by
 unfold A3M;rw [B01]
 by_cases h:l.length=0
 ·rw [P6 h,D4J,D4A];unfold A9T;refine K9 ?_;unfold A3f;rw [h];rfl
 ·rw [J9 h];rfl
theorem A8k (l:List D7):Z6 l []=some (T2 (l.length=0)):=by
 unfold Z6;rw [B01]
 by_cases h:l.length=0
 ·rw [P6 h,D4J,D4A];unfold A4Y;refine K9 ?_;unfold A0l;rw [h];rfl
 ·rw [J9 h];rfl
theorem B6A (l:List A1):A1t l []=some (T2 (l.length=0)):=by
 unfold A1t;rw [B01]
 by_cases h:l.length=0
 ·rw [P6 h,D4J,D4A];unfold A53;refine K9 ?_;unfold A0F;rw [h];rfl
 ·rw [J9 h];rfl
theorem B31 (l:List Int):R6 l []=some (T2 (l.length=0)):=by
 unfold R6;rw [B01]
 by_cases h:l.length=0
 ·rw [P6 h,D4J,D4A];unfold Z5;refine K9 ?_;unfold S1;rw [h];rfl
 ·rw [J9 h];rfl
theorem C0R (l:List D5):A5I l []=some (T2 (l.length=0)):=by
 unfold A5I;rw [B01]
 by_cases h:l.length=0
 ·rw [P6 h,D4J,D4A];unfold A9W;refine K9 ?_;unfold A3r;rw [h];rfl
 ·rw [J9 h];rfl
theorem A4f {α:Type} [Inhabited α] (g:Bool) (v:α):gd g (some v)=some (cond g v default):=by cases g<;>rfl
theorem A2C (g v d:Bool):(g&&cond g v d)=(g&&v):=by cases g<;>rfl
def B48 (x:C9):Prop:=x.W=0/\x.Cap=0/\x.Now=0/\x.Av.length=0
theorem C8M (x:C9):A5r x ⟨0,0,0, []⟩=some (T2 (B48 x)):=by
 unfold A5r;rw [A8j];simp only [A4f,D4x,A2C]
 congr 1
 rw [D4S,I3];unfold B48;simp only [D4F,D5r,I3,and_assoc]
def B7j (x:D6):Prop:=x.W=0/\x.K=0/\x.Cap=0/\x.Now=0/\x.Ac.length=0
theorem D0j (x:D6):A5v x ⟨0,0,0,0, []⟩=some (T2 (B7j x)):=by
 unfold A5v;rw [B32];simp only [A4f,D4x,A2C]
 congr 1
 rw [D4S,I3];unfold B7j;simp only [D4F,D5r,I3,and_assoc]
def C2z (x:E2):Prop:=x.W=0/\x.K=0/\x.Cap=0/\x.Bj=0/\x.Now=0/\x.Ac.length=0
theorem D2K (x:E2):A5w x ⟨0,0,0,0,0, []⟩=some (T2 (C2z x)):=by
 unfold A5w;rw [B32];simp only [A4f,D4x,A2C]
 congr 1
 rw [D4S,I3];unfold C2z;simp only [D4F,D5r,I3,and_assoc]
def B49 (x:D2):Prop:=x.Bg=0/\x.W=0/\x.K=0/\x.Cap=0/\x.Now=0/\x.Bm=0/\x.Ay.length=0
theorem C8O (x:D2):A5x x ⟨0,0,0,0,0,0, []⟩=some (T2 (B49 x)):=by
 unfold A5x;rw [A8k];simp only [A4f,D4x,A2C]
 congr 1
 rw [D4S,I3];unfold B49;simp only [D4F,D5r,I3,and_assoc]
def B5a (x:D3):Prop:=x.W=0/\x.K=0/\x.Cap=0/\x.Now=0/\x.Bm=0/\x.Ay.length=0
theorem C8P (x:D3):A5y x ⟨0,0,0,0,0, []⟩=some (T2 (B5a x)):=by
 unfold A5y;rw [A8k];simp only [A4f,D4x,A2C]
 congr 1
 rw [D4S,I3];unfold B5a;simp only [D4F,D5r,I3,and_assoc]
def C0b (x:D8):Prop:=x.P=0/\x.Bb=0/\x.Now=0/\x.Af.length=0
theorem D1k (x:D8):A5z x ⟨0,0,0, []⟩=some (T2 (C0b x)):=by
 unfold A5z;rw [B6A];simp only [A4f,D4x,A2C]
 congr 1
 rw [D4S,I3];unfold C0b;simp only [D4F,D5r,I3,and_assoc]
def B7k (x:G2):Prop:=x.Now=0/\x.Bf.length=0
theorem D0k (x:G2):A5A x ⟨0, []⟩=some (T2 (B7k x)):=by
 unfold A5A;rw [B31];simp only [A4f,D4x,A2C]
 congr 1
 rw [D4S,I3];unfold B7k;simp only [D4F,D5r,I3,and_assoc]
def B27 (x:C8):Prop:=x.Bj=false/\x.W=0/\x.Cap=0/\x.Now=0/\x.Av.length=0
theorem C6l (x:C8):A5B x ⟨false,0,0,0, []⟩=some (T2 (B27 x)):=by
 unfold A5B;rw [A8j];simp only [A4f,D4x,A2C]
 congr 1
 rw [D4S,I3];unfold B27;simp only [D4F,D5r,I3,and_assoc]
def A8U (x:E4):Prop:=x.Aj.length=0
theorem C8N (x:E4):A5C x ⟨[]⟩=some (T2 (A8U x)):=by
 unfold A5C
 by_cases h:A8U x
 ·have h' :=h;unfold A8U at h';rw [P6 h];have e:((x.Aj.length:Int) !=(([]:List D0).length:Int))=false:=by simp [h']
  rw [e,D4A];unfold A6L;refine K9 ?_;unfold A5D;rw [h'];rfl
 ·rw [J9 h];have e:((x.Aj.length:Int) !=(([]:List D0).length:Int))=true:=by
   unfold A8U at h;rw [D4S];simp only [D4I,bne_iff_ne,D43,iff_true,Int.natCast_zero,ne_eq];omega
  rw [e,D4B]
def A7o (x:B5):Prop:=x.K=0/\x.Cap=0/\x.N=0/\x.Aq.length=0
theorem C6m (x:B5):A5F x ⟨0,0,0, []⟩=some (T2 (A7o x)):=by
 unfold A5F
 by_cases h:A7o x
 ·have h' :=h;unfold A7o at h';rw [P6 h];have e:((((x.K !=0)||(x.Cap !=0))||(x.N !=0))||((x.Aq.length:Int) !=(([]:List M3).length:Int)))=false:=by simp [h']
  rw [e,D4A];unfold A9V;refine K9 ?_;unfold A3o;rw [h'.2.2.2];rfl
 ·rw [J9 h];have e:((((x.K !=0)||(x.Cap !=0))||(x.N !=0))||((x.Aq.length:Int) !=(([]:List M3).length:Int)))=true:=by
   unfold A7o at h;rw [D4S];simp only [D4I,bne_iff_ne,D43,iff_true,Int.natCast_zero,ne_eq];omega
  rw [e,D4B]
def B0Y (x:C4):Prop:=x.W=0/\x.K=0/\x.Cap=0/\x.Now=0/\x.Ah.length=0
theorem C46 (x:C4):A5L x ⟨0,0,0,0, []⟩=some (T2 (B0Y x)):=by
 unfold A5L;rw [C0R];simp only [A4f,D4x,A2C]
 congr 1
 rw [D4S,I3];unfold B0Y;simp only [D4F,D5r,I3,and_assoc]
theorem A00 (s:C7):N6 s=⟨s.Ak,if s.Ak.Ba=1 then s.Al else ⟨0,0,0, []⟩,if s.Ak.Ba=2 then s.As else ⟨0,0,0,0, []⟩,if s.Ak.Ba=3 then s.Sum else ⟨0,0,0,0,0, []⟩,if s.Ak.Ba=4 then s.Ao else ⟨0,0,0,0,0,0, []⟩,if s.Ak.Ba=5 then s.Ap else ⟨0,0,0,0,0, []⟩,if s.Ak.Ba=6 then s.Be else ⟨0,0,0, []⟩,if s.Ak.Ba=7 then s.Au else ⟨0, []⟩,if s.Ak.Ba=8 then s.Ae else ⟨false,0,0,0, []⟩,if s.Ak.Ba=9 then s.Am else ⟨[]⟩,if s.Ak.Ba=10 then s.Ag else ⟨0,0,0, []⟩,if s.Ak.Ba=11 then s.Ab else ⟨0,0,0,0, []⟩⟩:=by
 unfold N6 N3
 by_cases hk:1<=s.Ak.Ba/\s.Ak.Ba<=11
 ·have:s.Ak.Ba=1\/s.Ak.Ba=2\/s.Ak.Ba=3\/s.Ak.Ba=4\/s.Ak.Ba=5\/s.Ak.Ba=6\/s.Ak.Ba=7\/s.Ak.Ba=8\/s.Ak.Ba=9\/s.Ak.Ba=10\/s.Ak.Ba=11:=by omega
  rcases this with h|h|h|h|h|h|h|h|h|h|h
  all_goals
   rw [h];simp only [Int.reduceBEq,beq_self_eq_true,D4B,D4A,Int.reduceEq,if_true,if_false]
 ·have e: ∀j:Int,1<=j->j<=11->(s.Ak.Ba==j)=false:=fun j h1 h2=>D5n.2 (by omega)
  have e2: ∀j:Int,1<=j->j<=11-> ¬s.Ak.Ba=j:=fun j h1 h2=>by omega
  rw [e 1 (by decide) (by decide),e 2 (by decide) (by decide),e 3 (by decide) (by decide),e 4 (by decide) (by decide),e 5 (by decide) (by decide),e 6 (by decide) (by decide),e 7 (by decide) (by decide),e 8 (by decide) (by decide),e 9 (by decide) (by decide),e 10 (by decide) (by decide),e 11 (by decide) (by decide),if_neg (e2 1 (by decide) (by decide)),if_neg (e2 2 (by decide) (by decide)),if_neg (e2 3 (by decide) (by decide)),if_neg (e2 4 (by decide) (by decide)),if_neg (e2 5 (by decide) (by decide)),if_neg (e2 6 (by decide) (by decide)),if_neg (e2 7 (by decide) (by decide)),if_neg (e2 8 (by decide) (by decide)),if_neg (e2 9 (by decide) (by decide)),if_neg (e2 10 (by decide) (by decide)),if_neg (e2 11 (by decide) (by decide))]
  rfl
theorem C48 (s:C7):(N6 s).Ak=s.Ak:=by rw [A00]
theorem C49 (s:C7):(N6 s).Al=if s.Ak.Ba=1 then s.Al else ⟨0,0,0, []⟩:=by rw [A00]
theorem C7m (s:C7):(N6 s).As=if s.Ak.Ba=2 then s.As else ⟨0,0,0,0, []⟩:=by rw [A00]
theorem D0o (s:C7):(N6 s).Sum=if s.Ak.Ba=3 then s.Sum else ⟨0,0,0,0,0, []⟩:=by rw [A00]
theorem C5b (s:C7):(N6 s).Ao=if s.Ak.Ba=4 then s.Ao else ⟨0,0,0,0,0,0, []⟩:=by rw [A00]
theorem C5c (s:C7):(N6 s).Ap=if s.Ak.Ba=5 then s.Ap else ⟨0,0,0,0,0, []⟩:=by rw [A00]
theorem C8S (s:C7):(N6 s).Be=if s.Ak.Ba=6 then s.Be else ⟨0,0,0, []⟩:=by rw [A00]
theorem C7n (s:C7):(N6 s).Au=if s.Ak.Ba=7 then s.Au else ⟨0, []⟩:=by rw [A00]
theorem C2F (s:C7):(N6 s).Ae=if s.Ak.Ba=8 then s.Ae else ⟨false,0,0,0, []⟩:=by rw [A00]
theorem C5a (s:C7):(N6 s).Am=if s.Ak.Ba=9 then s.Am else ⟨[]⟩:=by rw [A00]
theorem C2G (s:C7):(N6 s).Ag=if s.Ak.Ba=10 then s.Ag else ⟨0,0,0, []⟩:=by rw [A00]
theorem C1O (s:C7):(N6 s).Ab=if s.Ak.Ba=11 then s.Ab else ⟨0,0,0,0, []⟩:=by rw [A00]
def A8B (s:C7):Prop:=(s.Ak.Ba≠1->B48 s.Al)/\(s.Ak.Ba≠2->B7j s.As)/\(s.Ak.Ba≠3->C2z s.Sum)/\(s.Ak.Ba≠4->B49 s.Ao)/\(s.Ak.Ba≠5->B5a s.Ap)/\(s.Ak.Ba≠6->C0b s.Be)/\(s.Ak.Ba≠7->B7k s.Au)/\(s.Ak.Ba≠8->B27 s.Ae)/\(s.Ak.Ba≠9->A8U s.Am)/\(s.Ak.Ba≠10->A7o s.Ag)/\(s.Ak.Ba≠11->B0Y s.Ab)
theorem A3t {α:Type} {Same:α->α->Option Bool} {x z:α} {zr:Prop} {k j:Int} (hr:Same x x=some true) (hz:Same x z=some (T2 zr)):Same x (if k=j then x else z)=some (T2 (k≠j->zr)):=by
 by_cases h:k=j
 ·rw [if_pos h,hr,P6 fun h2=>absurd h h2]
 ·rw [if_neg h,hz]
  congr 1
  rw [D4S,I3,I3];exact ⟨fun h2 _=>h2,fun h2=>h2 h⟩
theorem C8u (s:C7) (w:Q9 s):B0M s (N6 s)=some (T2 (A8B s)):=by
 obtain ⟨_,w1,w2,w3,w4,w5,w6,w7,w8,w9,w10,w11⟩:=w;have e1:=A3t (k:=s.Ak.Ba) (j:=1) (C8t s.Al (F5 w1.2.2.2.1)) (C8M s.Al);have e2:=A3t (k:=s.Ak.Ba) (j:=2) (C53 s.As (F5 w2.2.2.2.2.1)) (D0j s.As);have e3:=A3t (k:=s.Ak.Ba) (j:=3) (C54 s.Sum (F5 w3.2.2.2.2.2.1)) (D2K s.Sum);have e4:=A3t (k:=s.Ak.Ba) (j:=4) (C55 s.Ao (F5 w4.2.2.2.2.2.2.1)) (C8O s.Ao);have e5:=A3t (k:=s.Ak.Ba) (j:=5) (C56 s.Ap (F5 w5.2.2.2.2.2.1)) (C8P s.Ap);have e6:=A3t (k:=s.Ak.Ba) (j:=6) (C57 s.Be (F5 w6.2.2.2.1)) (D1k s.Be);have e7:=A3t (k:=s.Ak.Ba) (j:=7) (C58 s.Au (F5 w7.2.1)) (D0k s.Au);have e8:=A3t (k:=s.Ak.Ba) (j:=8) (C59 s.Ae (F5 w8.2.2.2.2.1)) (C6l s.Ae);have e9:=A3t (k:=s.Ak.Ba) (j:=9) (C6b s.Am (F5 w9.1) (fun c hc=>F5 (w9.2 c hc).2.2.2.2.1)) (C8N s.Am);have e10:=A3t (k:=s.Ak.Ba) (j:=10) (C6c s.Ag (F5 w10.2.2.2.1)) (C6m s.Ag);have e11:=A3t (k:=s.Ak.Ba) (j:=11) (C6d s.Ab (F5 w11.2.2.2.2.1) (fun b hb=>F5 (w11.2.2.2.2.2 b hb).2.2.2.2.1)) (C46 s.Ab);unfold B0M;rw [C48,C49,e1,C7m,e2,D0o,e3,C5b,e4,C5c,e5,C8S,e6,C7n,e7,C2F,e8,C5a,e9,C2G,e10,C1O,e11];simp only [beq_self_eq_true,D48,A4f,D4B,D4x,A2C]
 congr 1
 rw [D4S,I3];unfold A8B;simp only [D4F,I3,and_assoc]
theorem C9V (s:C7):A4G s=T2 (A8B s):=by
 unfold A4G;rw [D4S,I3];unfold A8B;unfold B48;unfold B7j;unfold C2z;unfold B49;unfold B5a;unfold C0b;unfold B7k;unfold B27;unfold A8U;unfold A7o;unfold B0Y;simp only [D0w,D4F,D4I,bne_iff_ne,D5r,D4z,ne_eq];have fin: ∀ {c:Prop} [Decidable c] {b:Bool},((if c then false else b)=true)↔(¬c/\b=true):=by
  intro c _ b
  by_cases h:c
  ·rw [if_pos h];exact ⟨fun h2=>(by cases h2),fun h2=>absurd h h2.1⟩
  ·rw [if_neg h];exact ⟨fun h2=>⟨h,h2⟩,fun h2=>h2.2⟩
 simp only [fin,D4I,D4F,D5r];cases s.Ae.Bj
 ·simp only [Bool.false_eq_true,false_or,true_and]
  repeat' apply and_congr
  all_goals first|omega|(simp;done)|(simp;omega)
 ·simp only [true_or,Bool.true_eq_false,false_and]
  repeat' apply and_congr
  all_goals first|omega|(simp;done)|(simp;omega)
def B6p (x:E4):Prop:=S5 x=some 0
theorem C8v (x:E4) (hl:x.Aj.length<=maxLen) (hc:∀c∈x.Aj,c.Ax.length<=maxLen): ∃r,S5 x=some r/\A1u x=some r/\(r==0)=T2 (B6p x)/\(r=0->0<x.Aj.length):=by
 obtain ⟨r,h1,h2⟩:=B1Z x hl hc;refine ⟨r,h1,by rw [<-B5G x hc];exact h1, ?_,fun h=>by have:=(h2 h).1;omega⟩
 rw [D4S,I3,D5r];unfold B6p;rw [h1];simp
theorem C8k (x:C9) (hl:x.Av.length<=maxLen):A0X x=some (vOf (okV x=true))/\V7 x=some (vOf (okV x=true)):=by
 have h:V7 x=some (vOf (okV x=true)):=by
  rw [B4j x hl]
  by_cases h:okV x=true
  ·rw [if_pos h,O0 h]
  ·rw [if_neg h,H2 h]
 exact ⟨by rw [B6Q];exact h,h⟩
def B4f (s:C7):Prop:=
 (s.Ak.Ba=1/\okV s.Al=true/\s.Al.W=s.Ak.W/\s.Al.Cap=s.Ak.Cap)\/
 (s.Ak.Ba=2/\A7M s.As.Ac s.As.W s.As.K s.As.Cap s.As.Now/\s.As.W=s.Ak.W/\s.As.K=s.Ak.K/\s.As.Cap=s.Ak.Cap)\/
 (s.Ak.Ba=3/\C2v s.Sum/\s.Sum.W=s.Ak.W/\s.Sum.K=s.Ak.K/\s.Sum.Cap=s.Ak.Cap/\s.Sum.Bj=s.Ak.Bj)\/
 (s.Ak.Ba=4/\C39 s.Ao/\s.Ao.W=s.Ak.W/\s.Ao.K=s.Ak.K/\s.Ao.Cap=s.Ak.Cap/\s.Ao.Bg=s.Ak.Bg)\/
 (s.Ak.Ba=5/\C8b s.Ap/\s.Ap.W=s.Ak.W/\s.Ap.K=s.Ak.K/\s.Ap.Cap=s.Ak.Cap)\/
 (s.Ak.Ba=6/\C8a s.Be/\s.Be.P=s.Ak.P)\/
 (s.Ak.Ba=7/\C38 s.Au/\(s.Au.Bf.length:Int)=s.Ak.W)\/
 (s.Ak.Ba=8/\C79 s.Ae/\s.Ae.W=s.Ak.W/\s.Ae.Cap=s.Ak.Cap/\s.Ae.Bj=(s.Ak.Bj==1))\/
 (s.Ak.Ba=9/\B6p s.Am/\(s.Am.Aj.length:Int)=s.Ak.Aj/\(el s.Am.Aj 0).W=s.Ak.W/\(el s.Am.Aj 0).Cap=s.Ak.Cap)\/
 (s.Ak.Ba=10/\A9M s.Ag/\s.Ag.K=s.Ak.K/\s.Ag.Cap=s.Ak.Cap)\/
 (s.Ak.Ba=11/\C0H s.Ab/\s.Ab.W=s.Ak.W/\s.Ab.K=s.Ak.K/\s.Ab.Cap=s.Ak.Cap)
theorem C8q (s:C7) (w:Q9 s) (hk:1<=s.Ak.Ba/\s.Ak.Ba<=11):A5T s=some (T2 (B4f s))/\B0N s=some (T2 (B4f s)):=by
 obtain ⟨_,w1,w2,w3,w4,w5,w6,w7,w8,w9,w10,w11⟩:=w;have e1:=C8k s.Al (F5 w1.2.2.2.1);have e2:=B3K s.As (F5 w2.2.2.2.2.1);have e2' :=B35 s.As (F5 w2.2.2.2.2.1);have e3:=B6N s.Sum (F5 w3.2.2.2.2.2.1);have e3' :=B36 s.Sum (F5 w3.2.2.2.2.2.1);have e4:=B2Y s.Ao (F5 w4.2.2.2.2.2.2.1);have e4' :=B38 s.Ao (F5 w4.2.2.2.2.2.2.1);have e5:=B2Z s.Ap (F5 w5.2.2.2.2.2.1);have e5' :=B39 s.Ap (F5 w5.2.2.2.2.2.1);have e6:=B5z s.Be (B8G w6.2.2.2.2);have e6' :=B4a s.Be (B8G w6.2.2.2.2);have e7:=B3S s.Au (F5 w7.2.1);have e7' :=B4b s.Au (F5 w7.2.1);have e8:=B1x s.Ae (F5 w8.2.2.2.2.1);have e8' :=B4c s.Ae (F5 w8.2.2.2.2.1);obtain ⟨r9,e9,e9',b9,p9⟩:=C8v s.Am (F5 w9.1) (fun c hc=>F5 (w9.2 c hc).2.2.2.2.1);have e10:=A1N s.Ag;have e10' :=A5G s.Ag;have hb:A3v s.Ab.Ah:=⟨w11.2.2.2.2.1,fun x hx=>(w11.2.2.2.2.2 x hx).2.2.2.2.1⟩;have e11:=A51 s.Ab hb;have e11' :=A8I s.Ab hb;have e: ∀j:Int,s.Ak.Ba≠j->(s.Ak.Ba==j)=false:=fun j h=>D5n.2 h;unfold B4f A5T B0N;rw [e1.1,e1.2,e2,e2',e3,e3',e4,e4',e5,e5',e6,e6',e7,e7',e8,e8',e9,e9',e10,e10',e11,e11'];have:s.Ak.Ba=1\/s.Ak.Ba=2\/s.Ak.Ba=3\/s.Ak.Ba=4\/s.Ak.Ba=5\/s.Ak.Ba=6\/s.Ak.Ba=7\/s.Ak.Ba=8\/s.Ak.Ba=9\/s.Ak.Ba=10\/s.Ak.Ba=11:=by omega
 rcases this with h|h|h|h|h|h|h|h|h|h|h
 all_goals rw [h]
 case inr.inr.inr.inr.inr.inr.inr.inr.inl=>
  simp only [Int.reduceBEq,beq_self_eq_true,D4B,D4A,D4x,b9,Int.reduceEq,false_and,false_or,or_false,true_and]
  by_cases q1:B6p s.Am/\(s.Am.Aj.length:Int)=s.Ak.Aj
  ·have h0:0<s.Am.Aj.length:=p9 (by have:=P6 q1.1;rw [<-b9,D5r] at this;exact this)
   have g:(T2 (B6p s.Am)&&((s.Am.Aj.length:Int)==s.Ak.Aj))=true:=by
    rw [D4F,I3,D5r];exact q1
   rw [g,A0T h0];simp only [G5,D4x,D48];have fin:some (((el s.Am.Aj 0).W==s.Ak.W)&&((el s.Am.Aj 0).Cap==s.Ak.Cap))=some (T2 (B6p s.Am/\(s.Am.Aj.length:Int)=s.Ak.Aj/\(el s.Am.Aj 0).W=s.Ak.W/\(el s.Am.Aj 0).Cap=s.Ak.Cap)):=by
    congr 1
    rw [D4S,I3,D4F,D5r,D5r];exact ⟨fun h=>⟨q1.1,q1.2,h.1,h.2⟩,fun h=>⟨h.2.2.1,h.2.2.2⟩⟩
   rw [<-fin];cases ((el s.Am.Aj 0).W==s.Ak.W)<;>exact ⟨rfl,rfl⟩
  ·have g:(T2 (B6p s.Am)&&((s.Am.Aj.length:Int)==s.Ak.Aj))=false:=by
    rw [D4N,Ne,D4F,I3,D5r];exact q1
   rw [g];simp only [G0,D4x,D42];rw [J9 fun h=>q1 ⟨h.1,h.2.1⟩];exact ⟨rfl,rfl⟩
 all_goals
  simp only [Int.reduceBEq,beq_self_eq_true,D4B,D4A,D4x,D2E,Int.reduceEq,false_and,false_or,or_false,true_and];constructor<;>congr 1<;>rw [D4S,I3]<;>simp only [D4F,I3,D5r]<;>grind
def C8c (s:C7):Prop:=A6W s.Ak/\B4f s/\A8B s
theorem A56 (s:C7) (w:Q9 s):A1c s=some (vOf (C8c s))/\A5N s=some (vOf (C8c s)):=by
 unfold A1c A5N;simp only [];rw [A7z,A8J,C9V,C8u s w]
 by_cases h1:A6W s.Ak
 ·obtain ⟨g1,g2⟩:=C8q s w h1.1;rw [C8B h1,g1,g2]
  by_cases h2:B4f s
  ·rw [P6 h2]
   by_cases h3:A8B s
   ·rw [P6 h3,O0 ⟨h1,h2,h3⟩];exact ⟨rfl,rfl⟩
   ·rw [J9 h3,H2 fun h=>h3 h.2.2];exact ⟨rfl,rfl⟩
  ·rw [J9 h2,H2 fun h=>h2 h.2.1];exact ⟨rfl,rfl⟩
 ·rw [B90 h1,H2 fun h=>h1 h.1];exact ⟨rfl,rfl⟩
end Go.Win
namespace Go.Win
open Go.Vc Go.Dec
def B6o (c:E5) (now:Int):C7:=⟨c,if c.Ba=1 then ⟨c.W,c.Cap,now, []⟩ else ⟨0,0,0, []⟩,
 if c.Ba=2 then ⟨c.W,c.K,c.Cap,now, []⟩ else ⟨0,0,0,0, []⟩,
 if c.Ba=3 then ⟨c.W,c.K,c.Cap,c.Bj,now, []⟩ else ⟨0,0,0,0,0, []⟩,
 if c.Ba=4 then ⟨c.Bg,c.W,c.K,c.Cap,now,0, []⟩ else ⟨0,0,0,0,0,0, []⟩,
 if c.Ba=5 then ⟨c.W,c.K,c.Cap,now,0, []⟩ else ⟨0,0,0,0,0, []⟩,
 if c.Ba=6 then ⟨c.P,now,now,List.replicate (c.P+1).toNat ⟨0,0⟩⟩ else ⟨0,0,0, []⟩,
 if c.Ba=7 then ⟨now,List.replicate c.W.toNat 0⟩ else ⟨0, []⟩,
 if c.Ba=8 then ⟨c.Bj==1,c.W,c.Cap,now, []⟩ else ⟨false,0,0,0, []⟩,
 if c.Ba=9 then ⟨List.replicate c.Aj.toNat ⟨c.W,c.Cap,0,0, []⟩⟩ else ⟨[]⟩,
 if c.Ba=10 then ⟨c.K,c.Cap,0, []⟩ else ⟨0,0,0, []⟩,
 if c.Ba=11 then ⟨c.W,c.K,c.Cap,now, []⟩ else ⟨0,0,0,0, []⟩⟩
theorem C74 {w c n:Int} (h1:1<=w/\w<=1048576) (h2:1<=c/\c<=65536) (h3:0<=n/\n<=16777216):A5o w c n=(⟨w,c,n, []⟩,0)/\B6v w c n=(⟨w,c,n, []⟩,0):=by
 unfold A5o B6v;simp only [C6P,(U1 w c n).2 ⟨h1,h2,h3⟩];exact ⟨rfl,rfl⟩
theorem C9G {w k c n:Int} (h:A2F w k c n):A7d w k c n=(⟨w,k,c,n, []⟩,0)/\B6w w k c n=(⟨w,k,c,n, []⟩,0):=by
 unfold A7d B6w;simp only [(A8s w k c n).2 h,(U1 w c n).2 ⟨h.1,h.2.1,h.2.2.1⟩,(R9 k).2 h.2.2.2];exact ⟨rfl,rfl⟩
theorem D19 {w k c m n:Int} (h:A2F w k c n) (hm:1<=m/\m<=1024):B02 w k c m n=(⟨w,k,c,m,n, []⟩,0)/\B6x w k c m n=(⟨w,k,c,m,n, []⟩,0):=by
 unfold B02 B6x;have e:A1K m=true:=by unfold A1K;simp;exact hm
 simp only [(B1Y w k c m n).2 ⟨h,hm⟩,(U1 w c n).2 ⟨h.1,h.2.1,h.2.2.1⟩,(R9 k).2 h.2.2.2,e];exact ⟨rfl,rfl⟩
theorem C76 {a w k c n:Int} (h:A2F w k c n) (ha:1<=a/\a<=4):A5Q a w k c n=(⟨a,w,k,c,n,0, []⟩,0)/\B6y a w k c n=(⟨a,w,k,c,n,0, []⟩,0):=by
 unfold A5Q B6y;have e:T7 a=true:=by unfold T7;simp;exact ha
 have e1:A0w a w k c n=true:=by
  unfold A0w;simp only [(B3R _ _ _ _).2 h,Bool.and_true,D4F,D4z];exact ha
 simp only [e1,(U1 w c n).2 ⟨h.1,h.2.1,h.2.2.1⟩,(R9 k).2 h.2.2.2,e];exact ⟨rfl,rfl⟩
theorem C77 {w k c n:Int} (h:A2F w k c n):A5R w k c n=(⟨w,k,c,n,0, []⟩,0)/\B6z w k c n=(⟨w,k,c,n,0, []⟩,0):=by
 unfold A5R B6z;simp only [(B3R w k c n).2 h,(U1 w c n).2 ⟨h.1,h.2.1,h.2.2.1⟩,(R9 k).2 h.2.2.2];exact ⟨rfl,rfl⟩
theorem D0P {p n:Int} (hp:0<=p/\p<=4) (hn:0<=n/\n<=16777216):B8x p n=some (⟨p,n,n,List.replicate (p+1).toNat ⟨0,0⟩⟩,0)/\B2L p n=some (⟨p,n,n,List.replicate (p+1).toNat ⟨0,0⟩⟩,0):=by
 have h:B2L p n=some (⟨p,n,n,List.replicate (p+1).toNat ⟨0,0⟩⟩,0):=by
  unfold B2L;have e:(((decide (p<(0:Int)))||(decide (p>(4:Int))))||(!(G3 n)))=false:=by
   rw [(A1p n).2 hn];simp;omega
  simp only [e,D4A,B9 (n:=p+1) (by omega) (by omega)]
  rw [D4C (by omega),W4]
 exact ⟨h,h⟩
theorem C9H {w n:Int} (hw:1<=w/\w<=64) (hn:0<=n/\n<=16777216):B2v w n=some (⟨n,List.replicate w.toNat 0⟩,0)/\B6C w n=some (⟨n,List.replicate w.toNat 0⟩,0):=by
 unfold B2v B6C;have e1:((((decide (w<(1:Int)))||(decide (w>(64:Int))))||(decide (n<(0:Int))))||(decide (n>(16777216:Int))))=false:=by simp;omega
 have e2:(((decide (w<(1:Int)))||(decide (w>(64:Int))))||(!(G3 n)))=false:=by
  rw [(A1p n).2 hn];simp;omega
 simp only [e1,e2,D4A];rw [D4C (by omega),W4]
 exact ⟨rfl,rfl⟩
theorem C5J {m:Bool} {w c n:Int} (h1:1<=w/\w<=1048576) (h2:1<=c/\c<=65536) (h3:0<=n/\n<=16777216):A4c m w c n=(⟨m,w,c,n, []⟩,0)/\B6D m w c n=(⟨m,w,c,n, []⟩,0):=by
 unfold A4c B6D;simp only [C3Z,(U1 w c n).2 ⟨h1,h2,h3⟩];exact ⟨rfl,rfl⟩
theorem C75 {n w c:Int} (hn:1<=n/\n<=16) (hw:1<=w/\w<=1048576) (hc:1<=c/\c<=64):B0Q n w c=some (⟨List.replicate n.toNat ⟨w,c,0,0, []⟩⟩,0)/\B6F n w c=some (⟨List.replicate n.toNat ⟨w,c,0,0, []⟩⟩,0):=by
 have e:(decide (n<(1:Int))||decide (n>(16:Int)))=false:=by simp;omega
 have e2:R2 w c=(⟨w,c,0,0, []⟩,0):=by
  unfold R2;have:((((decide (w<(1:Int)))||(decide (w>(1048576:Int))))||(decide (c<(1:Int))))||(decide (c>(64:Int))))=false:=by simp;omega
  rw [this,D4A]
 unfold B0Q B6F;rw [e,D4A,D4A,D36 n w c hn.1 hn.2,D29 n w c hn.1 hn.2,<-D0O,e2];exact ⟨rfl,rfl⟩
theorem C5K {k c:Int} (hk:1<=k/\k<=64) (hc:2<=c/\c<=65536):A4m k c=(⟨k,c,0, []⟩,0)/\A0G k c=(⟨k,c,0, []⟩,0):=by
 unfold A4m A0G;have e1:((((decide (k<(1:Int)))||(decide (k>(64:Int))))||(decide (c<(2:Int))))||(decide (c>(65536:Int))))=false:=by simp;omega
 have e2:(((!(I6 k))||(decide (c<(2:Int))))||(decide (c>(65536:Int))))=false:=by
  rw [(R9 k).2 hk];simp;omega
 simp only [e1,e2,D4A];exact ⟨trivial,trivial⟩
theorem C35 {w k c n:Int} (h:A2F w k c n):A3b w k c n=(⟨w,k,c,n, []⟩,0)/\B6H w k c n=(⟨w,k,c,n, []⟩,0):=by
 unfold A3b B6H;simp only [(A50 w k c n).2 h,(U1 w c n).2 ⟨h.1,h.2.1,h.2.2.1⟩,(R9 k).2 h.2.2.2];exact ⟨rfl,rfl⟩
theorem D3a {c:E5} {now:Int} (hc:A6W c) (hn:0<=now/\now<=16777216):A78 c now=some (B6o c now,0)/\C1C c now=some (B6o c now,0):=by
 unfold A78 C1C;have et:A9Z now=true:=(A1p now).2 hn;simp only [A7z,A8J,C8B hc,et,(A1p now).2 hn,D5a,D4J,D4A];obtain ⟨k,agg,w,kk,cap,p,ch,mx⟩:=c;have hc' :=hc;unfold A6W at hc';simp only [] at hc';have:k=1\/k=2\/k=3\/k=4\/k=5\/k=6\/k=7\/k=8\/k=9\/k=10\/k=11:=by omega
 rcases this with h|h|h|h|h|h|h|h|h|h|h<;>subst h<;>simp only [Int.reduceBEq,beq_self_eq_true,D4B,D4A]
 ·obtain ⟨e1,e2⟩:=C74 (w:=w) (c:=cap) (n:=now) (by omega) (by omega) hn
  rw [e1,e2];exact ⟨rfl,rfl⟩
 ·obtain ⟨e1,e2⟩:=C9G (w:=w) (k:=kk) (c:=cap) (n:=now) ⟨by omega,by omega,hn,by omega⟩
  rw [e1,e2];exact ⟨rfl,rfl⟩
 ·obtain ⟨e1,e2⟩:=D19 (w:=w) (k:=kk) (c:=cap) (n:=now) (m:=mx) ⟨by omega,by omega,hn,by omega⟩ (by omega)
  rw [e1,e2];exact ⟨rfl,rfl⟩
 ·obtain ⟨e1,e2⟩:=C76 (a:=agg) (w:=w) (k:=kk) (c:=cap) (n:=now) ⟨by omega,by omega,hn,by omega⟩ (by omega)
  rw [e1,e2];exact ⟨rfl,rfl⟩
 ·obtain ⟨e1,e2⟩:=C77 (w:=w) (k:=kk) (c:=cap) (n:=now) ⟨by omega,by omega,hn,by omega⟩
  rw [e1,e2];exact ⟨rfl,rfl⟩
 ·obtain ⟨e1,e2⟩:=D0P (p:=p) (n:=now) (by omega) hn
  rw [e1,e2];exact ⟨rfl,rfl⟩
 ·obtain ⟨e1,e2⟩:=C9H (w:=w) (n:=now) (by omega) hn
  rw [e1,e2];exact ⟨rfl,rfl⟩
 ·obtain ⟨e1,e2⟩:=C5J (m:=(mx==1)) (w:=w) (c:=cap) (n:=now) (by omega) (by omega) hn
  rw [e1,e2];exact ⟨rfl,rfl⟩
 ·obtain ⟨e1,e2⟩:=C75 (n:=ch) (w:=w) (c:=cap) (by omega) (by omega) (by omega)
  rw [e1,e2];exact ⟨rfl,rfl⟩
 ·obtain ⟨e1,e2⟩:=C5K (k:=kk) (c:=cap) (by omega) (by omega)
  rw [e1,e2];exact ⟨rfl,rfl⟩
 ·obtain ⟨e1,e2⟩:=C35 (w:=w) (k:=kk) (c:=cap) (n:=now) ⟨by omega,by omega,hn,by omega⟩
  rw [e1,e2];exact ⟨rfl,rfl⟩
def lenS (s:C7):Prop:=s.Al.Av.length<=maxLen/\s.As.Ac.length<=maxLen/\s.Sum.Ac.length<=maxLen/\s.Ao.Ay.length<=maxLen/\s.Ap.Ay.length<=maxLen/\s.Be.Af.length<=maxLen/\s.Au.Bf.length<=maxLen/\s.Ae.Av.length<=maxLen/\
 (s.Am.Aj.length<=maxLen/\ ∀c∈s.Am.Aj,c.Ax.length<=maxLen)/\s.Ag.Aq.length<=maxLen/\(s.Ab.Ah.length<=maxLen/\ ∀b∈s.Ab.Ah,b.Az.Ad.length<=maxLen)
theorem D14 (s:C7) (w:Q9 s):lenS s:=by
 obtain ⟨_,w1,w2,w3,w4,w5,w6,w7,w8,w9,w10,w11⟩:=w;exact ⟨F5 w1.2.2.2.1,F5 w2.2.2.2.2.1,F5 w3.2.2.2.2.2.1,F5 w4.2.2.2.2.2.2.1,F5 w5.2.2.2.2.2.1,F5 w6.2.2.2.1,F5 w7.2.1,F5 w8.2.2.2.2.1,
  ⟨F5 w9.1,fun c hc=>F5 (w9.2 c hc).2.2.2.2.1⟩,F5 w10.2.2.2.1,⟨F5 w11.2.2.2.2.1,fun b hb=>F5 (w11.2.2.2.2.2 b hb).2.2.2.2.1⟩⟩
theorem D18 {c:E5} {now:Int} (hc:A6W c) (hn:0<=now/\now<=16777216):Q9 (B6o c now):=by
 have i64: ∀ {n:Int},-9223372036854775808<=n/\n<=9223372036854775807->E3 .i64 n:=by
  intro n h;simp [E3,Lit.wf,IntKind.min,IntKind.max,IntKind.signed,IntKind.bits];omega
 have z:E3 .i64 0:=i64 (by omega)
 have hc' :=hc;unfold A6W at hc';have i1:E3 .i64 c.Ba:=i64 (by omega)
 have i2:E3 .i64 c.Bg:=i64 (by omega)
 have i3:E3 .i64 c.W:=i64 (by omega)
 have i4:E3 .i64 c.K:=i64 (by omega)
 have i5:E3 .i64 c.Cap:=i64 (by omega)
 have i6:E3 .i64 c.P:=i64 (by omega)
 have i7:E3 .i64 c.Aj:=i64 (by omega)
 have i8:E3 .i64 c.Bj:=i64 (by omega)
 have i9:E3 .i64 now:=i64 (by omega)
 have nl: ∀ {α:Type} {wf:α->Prop},A0J wf ([]:List α):=⟨Nat.zero_le _,fun y h=>by cases h⟩
 have hz:E3 .u64 0:=by simp [E3,Lit.wf,IntKind.min,IntKind.max,IntKind.signed,IntKind.bits]
 have ite: ∀ {α:Type} {wf:α->Prop} {p:Prop} [Decidable p] {a b:α},wf a->wf b->wf (if p then a else b):=by
  intro α wf p _ a b ha hb;split<;>assumption
 refine ⟨⟨i1,i2,i3,i4,i5,i6,i7,i8⟩,ite (wf:=A8O) ?_ ?_,ite (wf:=A90) ?_ ?_,ite (wf:=B3u) ?_ ?_,ite (wf:=A8Q) ?_ ?_,ite (wf:=A8R) ?_ ?_, ?_, ?_,ite (wf:=A8a) ?_ ?_, ?_,ite (wf:=A8c) ?_ ?_,ite (wf:=A7a) ?_ ?_⟩
 ·exact ⟨i3,i5,i9,nl⟩
 ·exact ⟨z,z,z,nl⟩
 ·exact ⟨i3,i4,i5,i9,nl⟩
 ·exact ⟨z,z,z,z,nl⟩
 ·exact ⟨i3,i4,i5,i8,i9,nl⟩
 ·exact ⟨z,z,z,z,z,nl⟩
 ·exact ⟨i2,i3,i4,i5,i9,z,nl⟩
 ·exact ⟨z,z,z,z,z,z,nl⟩
 ·exact ⟨i3,i4,i5,i9,z,nl⟩
 ·exact ⟨z,z,z,z,z,nl⟩
 ·show B12 (if c.Ba=6 then _ else _)
  by_cases h:c.Ba=6
  ·rw [if_pos h];refine ⟨i6,i9,i9, ?_,fun y hy=> ?_⟩
   ·rw [D5y];omega
   ·rw [List.eq_of_mem_replicate hy];exact ⟨hz,hz⟩
  ·rw [if_neg h];exact ⟨z,z,z,nl⟩
 ·show A91 (if c.Ba=7 then _ else _)
  by_cases h:c.Ba=7
  ·rw [if_pos h];refine ⟨i9, ?_,fun y hy=> ?_⟩
   ·rw [D5y];omega
   ·rw [List.eq_of_mem_replicate hy];exact z
  ·rw [if_neg h];exact ⟨z,nl⟩
 ·exact ⟨trivial,i3,i5,i9,nl⟩
 ·exact ⟨trivial,z,z,z,nl⟩
 ·show A8P (if c.Ba=9 then _ else _)
  by_cases h:c.Ba=9
  ·rw [if_pos h];refine ⟨?_,fun y hy=> ?_⟩
   ·rw [D5y];omega
   ·rw [List.eq_of_mem_replicate hy];exact ⟨i3,i5,z,z,nl⟩
  ·rw [if_neg h];exact nl
 ·exact ⟨i4,i5,z,nl⟩
 ·exact ⟨z,z,z,nl⟩
 ·exact ⟨i3,i4,i5,i9,nl⟩
 ·exact ⟨z,z,z,z,nl⟩
end Go.Win
namespace Go.Win
open Go.Vc Go.Dec
theorem C8C (l:List B3) (n:Int):B4i l n=true↔G3 n=true/\(∀p∈l,0<=p.T/\p.T<=n)/\l.Pairwise (fun a b=>a.T<=b.T):=by
 unfold B4i;rw [D4F,D4T];constructor
 ·rintro ⟨h1,h2⟩;have hno: ∀i,i<l.length->B29 l n i=false:=fun i hi=>by
   cases h:B29 l n i with
   |false=>rfl
   |true=>rw [A8o.2 ⟨i,hi,h⟩] at h2;cases h2
  refine ⟨h1,fun p hp=> ?_, ?_⟩
  ·obtain ⟨i,hi,rfl⟩:=List.mem_iff_getElem.1 hp;have:=hno i hi;simp only [B29,G7 hi,D47,D4O] at this;omega
  ·rw [List.pairwise_iff_getElem];intro i j hi hj hij;have adj: ∀k (hk:k+1<l.length),l[k].T<=l[k+1].T:=fun k hk=>by
    have:=hno (k+1) hk;simp only [B29,G7 hk,D5e,G7 (show k<l.length by omega),Nat.succ_pos,decide_true,D48,D47,D4O] at this
    omega
   have key: ∀d (hd:i+d<l.length),l[i].T<=l[i+d].T:=by
    intro d
    induction d with
    |zero=>intro _;exact Int.le_refl _
    |succ d ih=>
     intro hd;exact Int.le_trans (ih (by omega)) (adj (i+d) hd)
   have:=key (j-i) (by omega)
   have e:i+(j-i)=j:=by omega
   simpa [e] using this
 ·rintro ⟨h1,h2,h3⟩;refine ⟨h1, ?_⟩;cases hc:(List.range l.length).any (B29 l n) with
  |false=>rfl
  |true=>
   exfalso;obtain ⟨i,hi,hb⟩:=A8o.1 hc;have:=h2 l[i] (D5m hi);simp only [B29,G7 hi,D4I,D4F,D4z] at hb;rcases hb with (hb|hb)|⟨hb,hb2⟩
   ·omega
   ·omega
   ·rw [G7 (show i-1<l.length by omega)] at hb2
    simp only [D4z] at hb2;have:=List.pairwise_iff_getElem.1 h3 (i-1) i (by omega) hi (by omega)
    omega
theorem D2d (x:C9):okV x=true↔(1<=x.W/\x.W<=1048576)/\(1<=x.Cap/\x.Cap<=65536)/\G3 x.Now=true/\(x.Av.length:Int)<=x.Cap/\(∀p∈x.Av,0<=p.T/\p.T<=x.Now/\p.T>x.Now-x.W/\H8 p.V=true)/\x.Av.Pairwise (fun a b=>a.T<=b.T):=by
 unfold okV;rw [D4F,D4F,D4F,C8C,D49,D4z];have hm:I1 x.W x.Cap x.Now=true↔(1<=x.W/\x.W<=1048576)/\(1<=x.Cap/\x.Cap<=65536)/\G3 x.Now=true:=by
  unfold I1 S0;simp only [D4F,D4z];constructor
  ·rintro ⟨⟨⟨⟨a,b⟩,c⟩,d⟩,e⟩;exact ⟨⟨a,b⟩,⟨c,d⟩,e⟩
  ·rintro ⟨⟨a,b⟩,⟨c,d⟩,e⟩;exact ⟨⟨⟨⟨a,b⟩,c⟩,d⟩,e⟩
 rw [hm];constructor
 ·rintro ⟨⟨⟨h1,h2,h3⟩,h4⟩,⟨_,h6,h7⟩,h8⟩;refine ⟨h1,h2,h3,h4,fun p hp=> ?_,h7⟩;have a:=h6 p hp;have b:=h8 p hp;unfold F3 at b;unfold G3 at h3;simp only [D4F,D4z] at b h3;have e:A2 (x.Now-x.W)=x.Now-x.W:=by rw [B9]<;>omega
  rw [e] at b;exact ⟨a.1,a.2,b.1.1.2,b.2⟩
 ·rintro ⟨h1,h2,h3,h4,h5,h6⟩;refine ⟨⟨⟨h1,h2,h3⟩,h4⟩,⟨h3,fun p hp=>⟨(h5 p hp).1,(h5 p hp).2.1⟩,h6⟩,fun p hp=> ?_⟩;obtain ⟨a,b,c,d⟩:=h5 p hp;have h3' :=h3;unfold G3 at h3';simp only [D4F,D4z] at h3';have e:A2 (x.Now-x.W)=x.Now-x.W:=by rw [B9]<;>omega
  unfold F3 S0;rw [e];have ht:G3 p.T=true:=by
   unfold G3;simp only [D4F,D4z];omega
  simp only [D4F,D4z,h3,ht,d,true_and,and_true];omega
end Go.Win
namespace Go.Win
open Go.Vc Go.Dec
theorem A22 {α:Type} [Inhabited α] {n:Nat} {a:α} {i:Nat} (h:i<n):el (List.replicate n a) i=a:=by
 rw [B1r (by rw [D5y];exact h),List.getElem_replicate]
theorem D2J:wv ⟨0,0⟩=0:=rfl
theorem D17 {c:E5} {now:Int} (hc:A6W c) (hn:0<=now/\now<=16777216):C8c (B6o c now):=by
 have hc' :=hc;unfold A6W at hc';refine ⟨hc, ?_, ?_⟩
 ·have:c.Ba=1\/c.Ba=2\/c.Ba=3\/c.Ba=4\/c.Ba=5\/c.Ba=6\/c.Ba=7\/c.Ba=8\/c.Ba=9\/c.Ba=10\/c.Ba=11:=by omega
  unfold B4f B6o;have no: ∀ {α:Type} {p:Nat->Prop},∀i,i<([]:List α).length->p i:=fun i h=>absurd h (Nat.not_lt_zero i);have bk0: ∀ {k:Int},1<=k/\k<=128->A8A [] k:=fun h=>⟨h,no,fun h=>absurd h (Nat.not_lt_zero 0)⟩;have mk0: ∀ {a b d e:Int},A29 [] 0 a b d e:=⟨by omega,no,fun h=>absurd h (Nat.not_lt_zero 0)⟩
  have w0:A2 (T9 [])=0:=rfl;rcases this with h|h|h|h|h|h|h|h|h|h|h<;>simp only [h,Int.reduceEq,if_true,if_false,false_and,false_or,or_false,true_and,and_true]
  ·rw [D2d];refine ⟨by (try dsimp only);omega,by (try dsimp only);omega,(A1p _).2 hn, ?_,fun p hp=>(by cases hp),List.Pairwise.nil⟩
   show (0:Int)<=c.Cap;omega
  ·exact ⟨⟨by (try dsimp only);omega,by (try dsimp only);omega,hn,by (try dsimp only);omega⟩,bk0 (by (try dsimp only);omega),by (try dsimp only);rw [w0];omega,no⟩
  ·exact ⟨⟨⟨by (try dsimp only);omega,by (try dsimp only);omega,hn,by (try dsimp only);omega⟩,bk0 (by (try dsimp only);omega),by (try dsimp only);rw [w0];omega,no⟩,by (try dsimp only);omega⟩
  ·exact ⟨by (try dsimp only);omega,⟨by (try dsimp only);omega,by (try dsimp only);omega,hn,by (try dsimp only);omega⟩,mk0,no⟩
  ·exact ⟨⟨by (try dsimp only);omega,by (try dsimp only);omega,hn,by (try dsimp only);omega⟩,mk0,fun i _ h=>absurd h (Nat.not_lt_zero i)⟩
  ·refine ⟨⟨by (try dsimp only);omega,hn,by (try dsimp only);omega,by (try dsimp only);rw [D5y];omega⟩,fun i h1 h2=> ?_⟩
   have h2' :(i:Int)<=c.P:=h2;simp only [];rw [A22 (by (try dsimp only);omega),A22 (by (try dsimp only);omega),D2J]
   omega
  ·refine ⟨⟨⟨by (try dsimp only);rw [D5y];omega,hn⟩,fun i hi=> ?_⟩,by (try dsimp only);rw [D5y];omega⟩
   simp only [D5y] at hi;simp only [];rw [A22 hi];omega
  ·exact ⟨⟨⟨by (try dsimp only);omega,by (try dsimp only);omega,hn⟩,by show (0:Int)<=c.Cap;omega⟩,no⟩
  ·have h0:0<c.Aj.toNat:=by omega
   rw [A22 h0,D5y];refine ⟨?_,by omega,rfl,rfl⟩
   unfold B6p S5;have e:(decide (((⟨List.replicate c.Aj.toNat ⟨c.W,c.Cap,0,0, []⟩⟩:E4).Aj.length:Int)<1)||decide (((⟨List.replicate c.Aj.toNat ⟨c.W,c.Cap,0,0, []⟩⟩:E4).Aj.length:Int)>16))=false:=by
    simp only [D5y];simp;omega
   rw [e,D4A];unfold A2x;refine (L2 (f:=fun s:Int=>R4 ⟨List.replicate c.Aj.toNat ⟨c.W,c.Cap,0,0, []⟩⟩ s) c.Aj.toNat (fun _=>False) 2 (some 0) (fun i hi _=>⟨fun h=>h.elim,fun _=> ?_⟩) (fun _=> ?_)).2 fun _ _ h=>h
   ·unfold R4;have ec:P9 ⟨c.W,c.Cap,0,0, []⟩=some 0:=by
     unfold P9;have:(((((((decide (c.W<(1:Int)))||(decide (c.W>(1048576:Int))))||(decide (c.Cap<(1:Int))))||(decide (c.Cap>(64:Int))))||(decide ((0:Int)<(0:Int))))||(decide ((0:Int)>(1099511627776:Int))))||(decide ((([]:List A8p).length:Int)>c.Cap)))=false:=by
      rw [D4N];simp only [D4I,D4z,Ne,D43];omega
     simp only [this,D4A]
     rfl
    have h16:c.Aj.toNat<=16:=by omega
    have es:A2 ((i:Int)+1)=((i+1:Nat):Int):=by rw [B9]<;>omega
    have e1:D1 (List.replicate c.Aj.toNat (⟨c.W,c.Cap,0,0, []⟩:D0)) (i:Int)=some ⟨c.W,c.Cap,0,0, []⟩:=by rw [G4 (by rw [D5y];exact hi),A22 hi]
    have e0:D1 (List.replicate c.Aj.toNat (⟨c.W,c.Cap,0,0, []⟩:D0)) (0:Int)=some ⟨c.W,c.Cap,0,0, []⟩:=by rw [A0T (by rw [D5y];exact h0),A22 h0]
    have e2:decide ((i:Int)<((List.replicate c.Aj.toNat (⟨c.W,c.Cap,0,0, []⟩:D0)).length:Int))=true:=D4C (by rw [D5y];omega)
    simp only [e2,D4B,e0,e1,D4x,ec,D5a,Bool.or_false,D4A,es]
   ·unfold R4;have e2:decide ((c.Aj.toNat:Int)<((List.replicate c.Aj.toNat (⟨c.W,c.Cap,0,0, []⟩:D0)).length:Int))=false:=D4E (by rw [D5y];omega)
    simp only [e2,D4A]
  ·exact ⟨⟨by (try dsimp only);omega,by (try dsimp only);omega,by show (0:Int)<=0/\(0:Int)<=1099511627776;omega,by show (0:Int)<=c.Cap;omega⟩,⟨fun _=>rfl,fun _=>rfl⟩,no,fun h=>absurd h (Nat.not_lt_zero 0)⟩
  ·refine ⟨⟨by (try dsimp only);omega,by (try dsimp only);omega,hn,by (try dsimp only);omega⟩,fun b hb=> ?_,by show A2 (T9 [])<=c.Cap;rw [w0];omega,no⟩
   obtain ⟨b',_,b2,b3⟩:=B7c (k:=c.K) (c:=c.Cap) (by (try dsimp only);omega) (by (try dsimp only);omega)
   have hb' :A5M c.K c.Cap=some b:=hb;rw [b2] at hb';cases hb';exact ⟨b3,bk0 (by (try dsimp only);omega),no⟩
 ·unfold A8B B6o;refine ⟨?_, ?_, ?_, ?_, ?_, ?_, ?_, ?_, ?_, ?_, ?_⟩
  all_goals
   intro h;simp only [] at h;rw [if_neg h]
  ·exact ⟨rfl,rfl,rfl,rfl⟩
  ·exact ⟨rfl,rfl,rfl,rfl,rfl⟩
  ·exact ⟨rfl,rfl,rfl,rfl,rfl,rfl⟩
  ·exact ⟨rfl,rfl,rfl,rfl,rfl,rfl,rfl⟩
  ·exact ⟨rfl,rfl,rfl,rfl,rfl,rfl⟩
  ·exact ⟨rfl,rfl,rfl,rfl⟩
  ·exact ⟨rfl,rfl⟩
  ·exact ⟨rfl,rfl,rfl,rfl,rfl⟩
  ·exact rfl
  ·exact ⟨rfl,rfl,rfl,rfl⟩
  ·exact ⟨rfl,rfl,rfl,rfl,rfl⟩
theorem D1H:A6e=some true:=by
 unfold A6e;have hc:A6W ⟨6,0,0,0,0,2,0,0⟩:=by unfold A6W;simp
 obtain ⟨e1,_⟩:=D3a hc (now:=0) (by decide)
 rw [e1,D4x];have hw:=D18 hc (now:=0) (by decide)
 have hr:A3R (B6o ⟨6,0,0,0,0,2,0,0⟩ 0)=some 3:=by
  unfold A3R;rw [(A56 _ hw).1,O0 (D17 hc (by decide)),D4x]
  show A4v _ 3 0=some 3;unfold A4v;rw [K9 (r:=3)];show Option.map Sum.inr (A4w (B6o ⟨6,0,0,0,0,2,0,0⟩ 0) 3 0)=_;unfold A4w;rw [K9 (r:=3)]
  ·rfl
  ·rfl
 rw [hr]
 rfl
end Go.Win
