/- Plain laws of the functions on plain data. -/
import Derived.Test.YtkakobhohikfkaaGreatVc
import Derived.Test.YtkakobhohikfkaaGreatWin
set_option linter.unusedVariables false
set_option linter.unusedSimpArgs false
set_option linter.unnecessarySimpa false
set_option linter.unusedSectionVars false
namespace Go.Win
open Go.Vc Go.Dec
theorem C2 {n:Int} (h1:-9223372036854775808<=n) (h2:n<=9223372036854775807):A1 n=n:=by
 show IntKind.i64.wrap n=n;rw [IntKind.wrap_i64];omega
theorem B2F (n:Int):A1 n=(n+9223372036854775808)%18446744073709551616-9223372036854775808:=by
 show IntKind.i64.wrap n=_;rw [IntKind.wrap_i64]
theorem L7 (n:Int):A4 n=n%18446744073709551616:=by
 show IntKind.u64.wrap n=_;rw [IntKind.wrap_u64]
theorem B44 {R:Type} {f:Int->Option (Int⊕R)} {n:Nat} {bad:Nat->Bool} {E:R} {A:Option R}
  (hs:∀i:Nat,i<n->f i=cond (bad i) (some (.inr E)) (some (.inl ((i:Int)+1)))) (hd:f n=Option.map Sum.inr A):
  loop f 0=cond ((List.range n).any bad) (some E) A:=by
 have key: ∀k i:Nat,i+k=n->loop f i=cond ((List.range' i k).any bad) (some E) A:=by
  intro k
  induction k with
  |zero=>
   intro i hi;have hi:i=n:=by omega
   subst hi;rw [A3n,hd];cases A<;>rfl
  |succ k ih=>
   intro i hi;rw [A3n,hs i (by omega),List.range'_succ,List.any_cons]
   cases hb:bad i with
   |true=>rfl
   |false=>
    have:=ih (i+1) (by omega)
    simpa using this
 have:=key n 0 (by omega)
 rw [<-List.range_eq_range'] at this;exact this
theorem C6M {S R β:Type} {f:S->Option (S⊕R)} (st:Nat->β->S) (n:Nat) (I:Nat->β->Prop) (g:Nat->β->β) (A:β->Option R)
  (hs:∀(i:Nat) (b:β),i<n->I i b->f (st i b)=some (.inl (st (i+1) (g i b)))/\I (i+1) (g i b)) (hd:∀b,I n b->f (st n b)=Option.map Sum.inr (A b)) (b:β) (h0:I 0 b):
  loop f (st 0 b)=A ((List.range n).foldl (fun b i=>g i b) b)/\I n ((List.range n).foldl (fun b i=>g i b) b):=by
 have key: ∀k i:Nat,∀b,i+k=n->I i b->loop f (st i b)=A ((List.range' i k).foldl (fun b i=>g i b) b)/\I n ((List.range' i k).foldl (fun b i=>g i b) b):=by
  intro k
  induction k with
  |zero=>
   intro i b hi hb;have hi:i=n:=by omega
   subst hi;rw [A3n,hd b hb];simp only [List.range'_zero,List.foldl_nil];exact ⟨by (cases A b<;>rfl),hb⟩
  |succ k ih=>
   intro i b hi hb;obtain ⟨h1,h2⟩:=hs i b (by omega) hb
   rw [A3n,h1,List.range'_succ,List.foldl_cons];exact ih (i+1) _ (by omega) h2
 have:=key n 0 b (by omega) h0
 rw [<-List.range_eq_range'] at this;exact this
theorem C0l {n:Nat} {p:Nat->Bool}:(List.range n).any p=true↔ ∃i,i<n/\p i=true:=by
 simp [List.any_eq_true]
theorem I2:maxLen=9223372036854775807:=rfl
end Go.Win
namespace Go.Win
open Go.Vc Go.Dec
def el {α:Type} [Inhabited α] (l:List α) (i:Nat):α:=l.getD i default
theorem A5n {α:Type} [Inhabited α] {l:List α} {i:Nat} (h:i<l.length):l[i]? =some (el l i):=by
 unfold el;rw [D4R h];simp [List.getD,D4R h]
theorem L6 {α:Type} [Inhabited α] {l:List α} {i:Nat} (h:i<l.length):el l i=l[i]:=by
 have:=A5n h;rw [D4R h] at this;exact (D5m this).symm
theorem K0 {α:Type} [Inhabited α] {l:List α} {i:Nat} (h:i<l.length):C1 l (i:Int)=some (el l i):=by
 rw [U1,A5n h]
theorem A7r {α:Type} [Inhabited α] {l:List α} (h:0<l.length):C1 l (0:Int)=some (el l 0):=K0 h
theorem D4f {α:Type} [Inhabited α] {l:List α} {n:Int} (h0:0<=n) (h:n<l.length):C1 l n=some (el l n.toNat):=by
 have:C1 l ((n.toNat:Nat):Int)=some (el l n.toNat):=K0 (by omega)
 rw [<-this]
 congr 1
 omega
theorem L8 {α:Type} [Inhabited α] {l:List α} {i:Nat} (h:i<l.length):el l i∈l:=by
 rw [L6 h];exact D5s h
theorem A1Q {α:Type} [Inhabited α] {l:List α} {x:α} (h:x∈l): ∃i,i<l.length/\el l i=x:=by
 obtain ⟨i,hi,e⟩:=List.getElem_of_mem h;exact ⟨i,hi,by rw [L6 hi];exact e⟩
theorem B1q {i n:Nat} (h0:0<i) (h:i<=n) (hm:n<=maxLen):A1 ((i:Int)-1)=((i-1:Nat):Int):=by
 rw [I2] at hm;rw [C2]<;>omega
theorem A0F {i n:Nat} (h:i<n) (hm:n<=maxLen):A1 ((i:Int)+1)=((i+1:Nat):Int):=by
 rw [I2] at hm;rw [C2]<;>omega
theorem A5u {S R:Type} {f:S->Option (S⊕R)} (st:Nat->S) (a n:Nat) (han:a<=n) (bad:Nat->Prop) (E:R) (A:Option R)
  (hs:∀i,a<=i->i<n->(∀j,a<=j->j<i-> ¬bad j)->(bad i->f (st i)=some (.inr E))/\(¬bad i->f (st i)=some (.inl (st (i+1)))))
  (hd:(∀j,a<=j->j<n-> ¬bad j)->f (st n)=Option.map Sum.inr A):
  ((∃i,a<=i/\i<n/\bad i)->loop f (st a)=some E)/\((∀i,a<=i->i<n-> ¬bad i)->loop f (st a)=A):=by
 have key: ∀k i:Nat,a<=i->i+k=n->(∀j,a<=j->j<i-> ¬bad j)->
   ((∃j,i<=j/\j<n/\bad j)->loop f (st i)=some E)/\((∀j,i<=j->j<n-> ¬bad j)->loop f (st i)=A):=by
  intro k
  induction k with
  |zero=>
   intro i hai hi hb;have hi:i=n:=by omega
   subst hi;refine ⟨fun ⟨j,h1,h2,_⟩=>by omega,fun _=> ?_⟩
   rw [A3n,hd hb];cases A<;>rfl
  |succ k ih=>
   intro i hai hi hb;obtain ⟨h1,h2⟩:=hs i hai (by omega) hb
   by_cases hbi:bad i
   ·refine ⟨fun _=>S3 (h1 hbi),fun h=>absurd hbi (h i (D5l _) (by omega))⟩
   ·obtain ⟨g1,g2⟩:=ih (i+1) (by omega) (by omega) (fun j h3 h4=>by
     by_cases e:j=i
     ·subst e;exact hbi
     ·exact hb j h3 (by omega))
    rw [N8 (h2 hbi)];refine ⟨fun ⟨j,h3,h4,h5⟩=>g1 ⟨j, ?_,h4,h5⟩,fun h=>g2 fun j h3 h4=>h j (by omega) h4⟩
    by_cases e:j=i
    ·subst e;exact absurd h5 hbi
    ·omega
 exact key (n-a) a (D5l _) (by omega) (fun j _ _=>by omega)
theorem A0b {R:Type} {f:Int->Option (Int⊕R)} (n:Nat) (bad:Nat->Prop) (E:R) (A:Option R)
  (hs:∀i:Nat,i<n->(∀j,j<i-> ¬bad j)->(bad i->f (i:Int)=some (.inr E))/\(¬bad i->f (i:Int)=some (.inl ((i+1:Nat):Int))))
  (hd:(∀j,j<n-> ¬bad j)->f (n:Int)=Option.map Sum.inr A):
  ((∃i,i<n/\bad i)->loop f 0=some E)/\((∀i,i<n-> ¬bad i)->loop f 0=A):=by
 have:=A5u (f:=f) (fun i=>(i:Int)) 0 n (Nat.zero_le _) bad E A (fun i _ h2 h3=>hs i h2 fun j h4=>h3 j (Nat.zero_le _) h4) (fun h=>hd fun j h4=>h j (Nat.zero_le _) h4);exact ⟨fun ⟨i,h1,h2⟩=>this.1 ⟨i,Nat.zero_le _,h1,h2⟩,fun h=>this.2 fun i _ h1=>h i h1⟩
theorem C9J {α:Type} (b:Bool) (x y:α):cond b x y=if b=true then x else y:=by cases b<;>rfl
open Classical in
noncomputable def vOf (p:Prop):Int:=if p then 0 else 2
theorem O8 {p:Prop} (h:p):vOf p=0:=by unfold vOf;rw [if_pos h]
theorem J1 {p:Prop} (h:¬p):vOf p=2:=by unfold vOf;rw [if_neg h]
theorem C5W {p:Prop}:(vOf p !=0)=true↔ ¬p:=by
 unfold vOf;split<;>simp_all
open Classical in
noncomputable def bOf (p:Prop):Bool:=if p then true else false
theorem A1r {p:Prop} (h:p):bOf p=true:=by unfold bOf;rw [if_pos h]
theorem V5 {p:Prop} (h:¬p):bOf p=false:=by unfold bOf;rw [if_neg h]
theorem A0W {p:Prop}:bOf p=true↔p:=by
 unfold bOf;split<;>simp_all
end Go.Win
namespace Go.Win
open Go.Vc Go.Dec
def T {α:Type} (m:Option α) (Q:α->Prop):Prop:= ∃r,m=some r/\Q r
theorem yI {α:Type} {a:α} {Q:α->Prop} (h:Q a):T (some a) Q:=⟨a,rfl,h⟩
theorem yB {α β:Type} {m:Option α} {k:α->Option β} {Q:β->Prop} (h:T m fun a=>T (k a) Q):T (Option.bind m k) Q:=by
 obtain ⟨a,rfl,h⟩:=h;exact h
theorem yP {α β:Type} {m:Option α} {k:α->β} {Q:β->Prop} (h:T m fun a=>Q (k a)):T (Option.map k m) Q:=by
 obtain ⟨a,rfl,h⟩:=h;exact ⟨_,rfl,h⟩
theorem yC {α:Type} {b:Bool} {x y:Option α} {Q:α->Prop} (h1:b=true->T x Q) (h2:b=false->T y Q):T (cond b x y) Q:=by
 cases b with
 |true=>exact h1 rfl
 |false=>exact h2 rfl
theorem yK {α:Type} {b:Bool} {m:Option α} {Q:α->Prop} (h1:b=true) (h2:T m Q):T (ck b m) Q:=by subst h1;exact h2
theorem yG {α:Type} [Inhabited α] {b:Bool} {m:Option α} {Q:α->Prop} (h1:b=true->T m Q) (h2:b=false->Q default):T (gd b m) Q:=by
 cases b with
 |true=>exact h1 rfl
 |false=>exact yI (h2 rfl)
theorem yM {α:Type} {m:Option α} {P Q:α->Prop} (h1:T m P) (h2:∀a,P a->Q a):T m Q:=by
 obtain ⟨a,rfl,h⟩:=h1;exact ⟨a,rfl,h2 a h⟩
theorem yX {α:Type} [Inhabited α] {l:List α} {i:Int} {Q:α->Prop} (h1:0<=i/\i<l.length) (h2:el l i.toNat∈l->Q (el l i.toNat)):T (C1 l i) Q:=
 ⟨_,D4f h1.1 h1.2,h2 (L8 (by omega))⟩
class TS {α:Type} (m:Option α) (H:outParam Prop) (P:outParam (α->Prop)):Prop where
 pf:H->T m P
theorem yS {α:Type} {m:Option α} {H:Prop} {P Q:α->Prop} [i:TS m H P] (h:H) (k:∀a,P a->Q a):T m Q:=yM (i.pf h) k
theorem yL {S R:Type} {f:S->Option (S⊕R)} {s:S} {Q:R->Prop} (I:S->Prop) (μ:S->Nat) (h0:I s)
  (h: ∀s,I s->T (f s) fun x=>match x with
   | .inl s' =>I s' /\μ s' <μ s
   | .inr r=>Q r):T (loop f s) Q:=by
 refine U5 I μ Q s h0 fun s hs=> ?_;obtain ⟨x,e,g⟩:=h s hs;cases x with
 |inl s' =>exact .inl ⟨s',e,g⟩
 |inr r=>exact .inr ⟨r,e,g⟩
theorem T9 (i:Int) (h:0<=i/\i<=9223372036854775800):A1 (i+1)=i+1/\A1 (i-1)=i-1/\A1 (i+2)=i+2:=by
 refine ⟨?_, ?_, ?_⟩<;>(rw [C2]<;>omega)
theorem D2a {α:Type} {P:α->Prop} {l:List α} {a:α} (i:Nat) (h:∀w∈l,P w) (ha:P a): ∀w∈l.set i a,P w:=fun w hw=>by
 rcases List.mem_or_eq_of_mem_set hw with h1|h1
 ·exact h w h1
 ·rw [h1];exact ha
theorem D1F (a b:Int):A0h a b<=b/\A0h a b<=a/\(A0h a b=a\/A0h a b=b):=by unfold A0h;split<;>omega
theorem yE {α:Type} {m:Option α} {Q:α->Prop} (h:T m Q): ∃r,m=some r:=let ⟨r,e,_⟩:=h;⟨r,e⟩
theorem yZ {p:Prop} (h:p:=by
 first
  |trivial
  |assumption
  |omega
  |(simp only [D4F,D4U,D4J,D4W,D49,D5i,D5b,D45,D5C,D5q,D5D,D4O,D5d,D4L,D5u,bne_iff_ne,D5x,D5t,bne_eq_false_iff_eq,D4Z,Bool.not_eq_false',ne_eq,List.nil_append,List.append_nil,D5j,not_true,not_false_eq_true,true_and,and_true,Int.not_lt,Int.not_le,D5g,Bool.true_eq_false,Bool.false_eq_true,D5v,Prod.mk.injEq,Int.reduceEq,Int.reduceBNe,Int.reduceBEq,Int.reduceNe,Int.reduceLT,Int.reduceLE,Nat.reduceAdd,Nat.reduceLeDiff,reduceCtorEq,ge_iff_le,gt_iff_lt,false_and,and_false,true_or,or_true,false_or,or_false,Nat.zero_le];done)
  |(simp only [D4F,D4U,D4J,D4W,D49,D5i,D5b,D45,D5C,D5q,D5D,D4O,D5d,D4L,D5u,bne_iff_ne,D5x,D5t,bne_eq_false_iff_eq,D4Z,Bool.not_eq_false',ne_eq,List.nil_append,List.append_nil,D5j,not_true,not_false_eq_true,true_and,and_true,Int.not_lt,Int.not_le,D5g,Bool.true_eq_false,Bool.false_eq_true,D5v,Prod.mk.injEq,Int.reduceEq,Int.reduceBNe,Int.reduceBEq,Int.reduceNe,Int.reduceLT,Int.reduceLE,Nat.reduceAdd,Nat.reduceLeDiff,reduceCtorEq,ge_iff_le,gt_iff_lt,false_and,and_false,true_or,or_true,false_or,or_false,Nat.zero_le];first|omega|(and_intros<;>first|trivial|assumption|omega))
  |(simp only [D4F,D4U,D4J,D4W,D49,D5i,D5b,D45,D5C,D5q,D5D,D4O,D5d,D4L,D5u,bne_iff_ne,D5x,D5t,bne_eq_false_iff_eq,D4Z,Bool.not_eq_false',ne_eq,List.nil_append,List.append_nil,D5j,not_true,not_false_eq_true,true_and,and_true,Int.not_lt,Int.not_le,D5g,Bool.true_eq_false,Bool.false_eq_true,D5v,Prod.mk.injEq,Int.reduceEq,Int.reduceBNe,Int.reduceBEq,Int.reduceNe,Int.reduceLT,Int.reduceLE,Nat.reduceAdd,Nat.reduceLeDiff,reduceCtorEq,ge_iff_le,gt_iff_lt,false_and,and_false,true_or,or_true,false_or,or_false,Nat.zero_le,B2F,L7,I2] at*;first|omega|(and_intros<;>first|trivial|assumption|omega))
  |grind
  |(simp_all<;>first|omega|grind)):p:=h
theorem yT {p:Prop} (h:p:=by
 repeat' first
  |with_reducible refine yI ?_
  |with_reducible refine yB ?_
  |(with_reducible refine yC (fun h=> ?_) (fun h=> ?_))<;>try simp only [D4F,D4U,D4J,D4W,D49,D5i,D5b,D45,D5C,D5q,D5D,D4O,D5d,D4L,D5u,bne_iff_ne,D5x,D5t,bne_eq_false_iff_eq,D4Z,Bool.not_eq_false',ne_eq,List.nil_append,List.append_nil,D5j,not_true,not_false_eq_true,true_and,and_true,Int.not_lt,Int.not_le,D5g,Bool.true_eq_false,Bool.false_eq_true,D5v,Prod.mk.injEq,Int.reduceEq,Int.reduceBNe,Int.reduceBEq,Int.reduceNe,Int.reduceLT,Int.reduceLE,Nat.reduceAdd,Nat.reduceLeDiff,reduceCtorEq,ge_iff_le,gt_iff_lt,false_and,and_false,true_or,or_true,false_or,or_false,Nat.zero_le] at h
  |with_reducible refine yK ?_ ?_
  |(with_reducible refine yG (fun h=> ?_) (fun h=> ?_))<;>try simp only [D4F,D4U,D4J,D4W,D49,D5i,D5b,D45,D5C,D5q,D5D,D4O,D5d,D4L,D5u,bne_iff_ne,D5x,D5t,bne_eq_false_iff_eq,D4Z,Bool.not_eq_false',ne_eq,List.nil_append,List.append_nil,D5j,not_true,not_false_eq_true,true_and,and_true,Int.not_lt,Int.not_le,D5g,Bool.true_eq_false,Bool.false_eq_true,D5v,Prod.mk.injEq,Int.reduceEq,Int.reduceBNe,Int.reduceBEq,Int.reduceNe,Int.reduceLT,Int.reduceLE,Nat.reduceAdd,Nat.reduceLeDiff,reduceCtorEq,ge_iff_le,gt_iff_lt,false_and,and_false,true_or,or_true,false_or,or_false,Nat.zero_le] at h
  |with_reducible refine yX ?_ (fun _=> ?_)
  |with_reducible refine yP ?_
  |with_reducible refine yS ?_ (fun _ _=> ?_)
  |(refine yC (fun h=> ?_) (fun h=> ?_))<;>try simp only [D4F,D4U,D4J,D4W,D49,D5i,D5b,D45,D5C,D5q,D5D,D4O,D5d,D4L,D5u,bne_iff_ne,D5x,D5t,bne_eq_false_iff_eq,D4Z,Bool.not_eq_false',ne_eq,List.nil_append,List.append_nil,D5j,not_true,not_false_eq_true,true_and,and_true,Int.not_lt,Int.not_le,D5g,Bool.true_eq_false,Bool.false_eq_true,D5v,Prod.mk.injEq,Int.reduceEq,Int.reduceBNe,Int.reduceBEq,Int.reduceNe,Int.reduceLT,Int.reduceLE,Nat.reduceAdd,Nat.reduceLeDiff,reduceCtorEq,ge_iff_le,gt_iff_lt,false_and,and_false,true_or,or_true,false_or,or_false,Nat.zero_le] at h
  |refine yB ?_
  |refine yI ?_
  |exact yZ):p:=h
end Go.Win
set_option maxHeartbeats 4000000
namespace Go.Win
open Go.Vc Go.Dec
theorem T7 {α:Type} {b:Bool} {bad:Prop} {X Y:α} (h:b=true↔bad):(bad->cond b X Y=X)/\(¬bad->cond b X Y=Y):=by
 cases b with
 |true=>exact ⟨fun _=>rfl,fun hn=>absurd (h.1 rfl) hn⟩
 |false=>exact ⟨fun hb=>absurd (h.2 hb) (by decide),fun _=>rfl⟩
theorem B4Q {α:Type} (a b:Bool) (x y:α):cond a x (cond b x y)=cond (a||b) x y:=by cases a<;>rfl
def E8 (l:List A3) (j i:Nat):Int:=(((l.take i).countP fun b=>b.Bc==(j:Int)):Nat)
theorem C9H {l:List A3} {i:Nat} (h:i<l.length) (j:Nat):E8 l j (i+1)=E8 l j i+(if (el l i).Bc=(j:Int) then 1 else 0):=by
 unfold E8;rw [List.take_add_one,A5n h,Option.toList_some,List.countP_append,List.countP_singleton];split<;>simp_all
theorem D2M (l:List A3) (j i:Nat):0<=E8 l j i:=by unfold E8;omega
theorem D2L (l:List A3) (j i:Nat):E8 l j i<=i:=by
 have:(l.take i).countP (fun b=>b.Bc==(j:Int))<=(l.take i).length:=List.countP_le_length;rw [D45] at this;unfold E8;omega
def A8U (l:List A3) (i:Nat):Prop:= ¬(0<=(el l i).T/\(el l i).T<=16777216/\0<=(el l i).Bc/\(el l i).Bc<=30)\/(0<i/\((el l (i-1)).T>(el l i).T\/(el l (i-1)).Bc<(el l i).Bc))
def B3E (l:List A3) (k:Int) (j:Nat):Prop:=E8 l j l.length>k+1\/((j:Int)<(el l 0).Bc/\E8 l j l.length<k)
def A7g (l:List A3) (k:Int):Prop:=(1<=k/\k<=128)/\(∀i,i<l.length-> ¬A8U l i)/\(0<l.length-> ∀j:Nat,(j:Int)<=(el l 0).Bc-> ¬B3E l k j)
theorem D1v (l:List A3) (i:Nat): [E8 l 0 i,E8 l 1 i,E8 l 2 i,E8 l 3 i,E8 l 4 i,E8 l 5 i,E8 l 6 i,E8 l 7 i,E8 l 8 i,E8 l 9 i,E8 l 10 i,E8 l 11 i,E8 l 12 i,E8 l 13 i,E8 l 14 i,E8 l 15 i,E8 l 16 i,E8 l 17 i,E8 l 18 i,E8 l 19 i,E8 l 20 i,E8 l 21 i,E8 l 22 i,E8 l 23 i,E8 l 24 i,E8 l 25 i,E8 l 26 i,E8 l 27 i,E8 l 28 i,E8 l 29 i,E8 l 30 i]=(List.range 31).map fun j=>E8 l j i:=rfl
theorem C5B (l:List A3) (i:Nat) {L:Int} (h0:0<=L) (h1:L<=30):C1 [E8 l 0 i,E8 l 1 i,E8 l 2 i,E8 l 3 i,E8 l 4 i,E8 l 5 i,E8 l 6 i,E8 l 7 i,E8 l 8 i,E8 l 9 i,E8 l 10 i,E8 l 11 i,E8 l 12 i,E8 l 13 i,E8 l 14 i,E8 l 15 i,E8 l 16 i,E8 l 17 i,E8 l 18 i,E8 l 19 i,E8 l 20 i,E8 l 21 i,E8 l 22 i,E8 l 23 i,E8 l 24 i,E8 l 25 i,E8 l 26 i,E8 l 27 i,E8 l 28 i,E8 l 29 i,E8 l 30 i] L=some (E8 l L.toNat i):=by
 rw [D1v];have:C1 ((List.range 31).map fun j=>E8 l j i) ((L.toNat:Nat):Int)=some (E8 l L.toNat i):=by
  rw [U1,D5c,List.getElem?_range (by omega)]
  rfl
 rw [<-this]
 congr 1
 omega
theorem C9G {l:List A3} {i:Nat} (h:i<l.length) (hl:l.length<=maxLen) (h0:0<=(el l i).Bc) (j:Nat):
  (if (el l i).Bc.toNat=j then A1 (E8 l (el l i).Bc.toNat i+1) else E8 l j i)=E8 l j (i+1):=by
 rw [C9H h];have h1:=D2M l j i;have h2:=D2L l j i;rw [I2] at hl
 by_cases e:(el l i).Bc.toNat=j
 ·rw [if_pos e,e,if_pos (by omega),C2]<;>omega
 ·rw [if_neg e,if_neg (by omega)];omega
def stB (l:List A3) (i:Nat):Int×Int×Int×Int×Int×Int×Int×Int×Int×Int×Int×Int×Int×Int×Int×Int×Int×Int×Int×Int×Int×Int×Int×Int×Int×Int×Int×Int×Int×Int×Int×Int:=((i:Int),E8 l 0 i,E8 l 1 i,E8 l 2 i,E8 l 3 i,E8 l 4 i,E8 l 5 i,E8 l 6 i,E8 l 7 i,E8 l 8 i,E8 l 9 i,E8 l 10 i,E8 l 11 i,E8 l 12 i,E8 l 13 i,E8 l 14 i,E8 l 15 i,E8 l 16 i,E8 l 17 i,E8 l 18 i,E8 l 19 i,E8 l 20 i,E8 l 21 i,E8 l 22 i,E8 l 23 i,E8 l 24 i,E8 l 25 i,E8 l 26 i,E8 l 27 i,E8 l 28 i,E8 l 29 i,E8 l 30 i)
theorem C0m (l:List A3) (k:Int) (hk:1<=k/\k<=128) (h0:0<l.length) (hL:0<=(el l 0).Bc/\(el l 0).Bc<=30) (i:Nat) (hi:i=l.length):
  A2T k (E8 l 0 i) (E8 l 1 i) (E8 l 2 i) (E8 l 3 i) (E8 l 4 i) (E8 l 5 i) (E8 l 6 i) (E8 l 7 i) (E8 l 8 i) (E8 l 9 i) (E8 l 10 i) (E8 l 11 i) (E8 l 12 i) (E8 l 13 i) (E8 l 14 i) (E8 l 15 i) (E8 l 16 i) (E8 l 17 i) (E8 l 18 i) (E8 l 19 i) (E8 l 20 i) (E8 l 21 i) (E8 l 22 i) (E8 l 23 i) (E8 l 24 i) (E8 l 25 i) (E8 l 26 i) (E8 l 27 i) (E8 l 28 i) (E8 l 29 i) (E8 l 30 i) (el l 0) 0=some (bOf (∀j:Nat,(j:Int)<=(el l 0).Bc-> ¬B3E l k j)):=by
 unfold A2T;have H:=A0b (f:=fun s:Int=>A2u k (E8 l 0 i) (E8 l 1 i) (E8 l 2 i) (E8 l 3 i) (E8 l 4 i) (E8 l 5 i) (E8 l 6 i) (E8 l 7 i) (E8 l 8 i) (E8 l 9 i) (E8 l 10 i) (E8 l 11 i) (E8 l 12 i) (E8 l 13 i) (E8 l 14 i) (E8 l 15 i) (E8 l 16 i) (E8 l 17 i) (E8 l 18 i) (E8 l 19 i) (E8 l 20 i) (E8 l 21 i) (E8 l 22 i) (E8 l 23 i) (E8 l 24 i) (E8 l 25 i) (E8 l 26 i) (E8 l 27 i) (E8 l 28 i) (E8 l 29 i) (E8 l 30 i) (el l 0) s) ((el l 0).Bc.toNat+1) (B3E l k) false (some true)
  (fun j hj _=>by
   unfold A2u;have e1:decide ((j:Int)<=(el l 0).Bc)=true:=D4I (by omega)
   have e2:A1 (k+1)=k+1:=by rw [C2]<;>omega
   have e3:A1 ((j:Int)+1)=((j+1:Nat):Int):=by rw [C2]<;>omega
   rw [e1,D4H,C5B l i (by omega) (by omega),D4D]
   simp only [D4D,e2,e3,D5j]
   by_cases g1:E8 l j i>k+1
   ·simp only [g1,decide_true,D4P,D48,K7,D4D,D5n,D4H];exact ⟨fun _=>trivial,fun hn=>absurd (.inl (hi▸g1)) hn⟩
   ·simp only [g1,decide_false,D4Q,D5e,D44]
    by_cases g2:(j:Int)<(el l 0).Bc
    ·simp only [g2,decide_true,I0,D4D,D5e];refine T7 ?_;unfold B3E;rw [D4F,<-hi];omega
    ·simp only [g2,decide_false,K7,D4D,D48,D4G];refine ⟨fun hb=> ?_,fun _=>trivial⟩;unfold B3E at hb;rw [<-hi] at hb;omega)
  (fun _=>by
   unfold A2u;rw [D4K (by omega),D4G])
 by_cases hb: ∃j:Nat,j<(el l 0).Bc.toNat+1/\B3E l k j
 ·rw [H.1 hb,V5];intro hn;obtain ⟨j,h1,h2⟩:=hb;exact hn j (by omega) h2
 ·rw [H.2 fun j h1 h2=>hb ⟨j,h1,h2⟩,A1r];intro j h1 h2;exact hb ⟨j,by omega,h2⟩
theorem A6J (l:List A3) (k:Int) (hl:l.length<=maxLen):S6 l k=some (bOf (A7g l k)):=by
 unfold S6
 by_cases hk:1<=k/\k<=128
 ·have e:(decide (k<(1:Int))||decide (k>(128:Int)))=false:=by simp;omega
  rw [e,D4G];unfold A66;have H: ∀R,((∃i,0<=i/\i<l.length/\A8U l i)->R=some false)/\((∀i,0<=i->i<l.length-> ¬A8U l i)->R=(if 0<l.length then A2T k (E8 l 0 l.length) (E8 l 1 l.length) (E8 l 2 l.length) (E8 l 3 l.length) (E8 l 4 l.length) (E8 l 5 l.length) (E8 l 6 l.length) (E8 l 7 l.length) (E8 l 8 l.length) (E8 l 9 l.length) (E8 l 10 l.length) (E8 l 11 l.length) (E8 l 12 l.length) (E8 l 13 l.length) (E8 l 14 l.length) (E8 l 15 l.length) (E8 l 16 l.length) (E8 l 17 l.length) (E8 l 18 l.length) (E8 l 19 l.length) (E8 l 20 l.length) (E8 l 21 l.length) (E8 l 22 l.length) (E8 l 23 l.length) (E8 l 24 l.length) (E8 l 25 l.length) (E8 l 26 l.length) (E8 l 27 l.length) (E8 l 28 l.length) (E8 l 29 l.length) (E8 l 30 l.length) (el l 0) 0 else some true))->R=some (bOf (A7g l k)):=by
   intro R hR
   by_cases hb: ∃i,0<=i/\i<l.length/\A8U l i
   ·rw [hR.1 hb,V5];intro hn;obtain ⟨i,_,h1,h2⟩:=hb;exact hn.2.1 i h1 h2
   ·have hg: ∀i,0<=i->i<l.length-> ¬A8U l i:=fun i h1 h2 h3=>hb ⟨i,h1,h2,h3⟩;rw [hR.2 hg]
    by_cases h0:0<l.length
    ·have h1:=hg 0 (D5l _) h0;unfold A8U at h1;rw [if_pos h0,C0m l k hk h0 (by omega) l.length rfl]
     congr 1
     rw [D4Y,A0W,A0W];exact ⟨fun h2=>⟨hk,fun i hi=>hg i (Nat.zero_le _) hi,fun _=>h2⟩,fun h2=>h2.2.2 h0⟩
    ·rw [if_neg h0,A1r];exact ⟨hk,fun i hi=>hg i (Nat.zero_le _) hi,fun h=>absurd h h0⟩
  apply H;refine A5u (stB l) 0 l.length (Nat.zero_le _) (A8U l) false _ (fun i _ hi _=> ?_) (fun hg=> ?_)
  ·simp only [stB];unfold A51;rw [D4I (by omega),D4H,K0 hi,D4D]
   simp only []
   by_cases hr:0<=(el l i).T/\(el l i).T<=16777216/\0<=(el l i).Bc/\(el l i).Bc<=30
   ·have e1:(!A1M (el l i).T|| !A0a (el l i).Bc)=false:=by
     unfold A1M A0a;simp;omega
    rw [e1,D4G,C5B l i hr.2.2.1 hr.2.2.2];simp only [D4D,C9G hi hl hr.2.2.1,A0F hi hl];rcases i with _|i
    ·simp only [D46,gt_iff_lt,Int.natCast_zero,decide_false,K7,D4D,D48,D4G];refine ⟨fun hb=> ?_,fun _=>trivial⟩;unfold A8U at hb;omega
    ·have e2:decide (((i+1:Nat):Int)>0)=true:=D4I (by omega)
     rw [e2,B1q (by omega) (Nat.le_of_lt hi) hl,D5k,K0 (by omega)]
     simp only [I0,D4D,D5e]
     by_cases g1:(el l i).T>(el l (i+1)).T
     ·simp only [g1,decide_true,D4P,K7,D4D,D5n,D4H];exact ⟨fun _=>trivial,fun hn=>absurd (.inr ⟨by omega, .inl (by rw [D5k];exact g1)⟩) hn⟩
     ·simp only [g1,decide_false,D4Q,I0,D4D,D44];refine T7 ?_;unfold A8U;rw [D4F,D5k];omega
   ·have e1:(!A1M (el l i).T|| !A0a (el l i).Bc)=true:=by
     unfold A1M A0a;rw [D4Y];simp;omega
    rw [e1,D4H];exact ⟨fun _=>rfl,fun hn=>absurd (.inl hr) hn⟩
  ·simp only [stB];unfold A51;rw [D4K (D46 _),D4G]
   congr 1
   by_cases h0:0<l.length
   ·have e1:((l.length:Int)==0)=false:=by rw [D5t];omega
    rw [e1,D4G,if_pos h0,A7r h0,D4D]
   ·have e1:((l.length:Int)==0)=true:=by
     have:l.length=0:=by omega
     rw [this];rfl
    rw [e1,D4H,if_neg h0]
 ·have e:(decide (k<(1:Int))||decide (k>(128:Int)))=true:=by
   rw [D4Y];simp;omega
  rw [e,D4H,V5];exact fun h=>hk h.1
end Go.Win
set_option maxHeartbeats 4000000
namespace Go.Win
open Go.Vc Go.Dec
theorem C4s:A9w=A9G:=rfl
theorem D0P:A8h=M2:=rfl
theorem C5I (a b c:Int):A6x a b c=M7 a b c:=by
 unfold A6x M7 M6 G8;rw [D4Y];simp only [D4L,D4F];omega
theorem A04 (n w t:Int):P4 n w t=F7 n w t:=by
 unfold P4 A1C F7 G8 M6;have e:A2v=A5r:=rfl;rw [e];unfold A5r
 by_cases h1:n>=0/\n<=16777216
 ·by_cases h2:w>=1/\w<=1048576
  ·have c:(((!(decide (n>=0)&&decide (n<=16777216)))||decide (w<1))||decide (w>1048576))=false:=by
    simp only [D5d,Bool.not_eq_false',D4L,D4F,D4U];omega
   simp only [c,D4G];have e1:A1 (n-w)=n-w:=by rw [C2]<;>omega
   have e2:A1 (n-w+1)=n-w+1:=by rw [C2]<;>omega
   rw [e1,e2,D4Y];simp only [D4L,D4F,X8];split<;>omega
  ·have c:(((!(decide (n>=0)&&decide (n<=16777216)))||decide (w<1))||decide (w>1048576))=true:=by
    simp only [D4O,D4Z,D5u,D4F,D4U];omega
   have d:(decide (w>=1)&&decide (w<=1048576))=false:=by
    simp only [D5u,D4U];omega
   simp only [c,d,D4H,Bool.and_false,D48]
   rfl
 ·have c:(((!(decide (n>=0)&&decide (n<=16777216)))||decide (w<1))||decide (w>1048576))=true:=by
   simp only [D4O,D4Z,D5u,D4F,D4U];omega
  have d:(decide (n>=0)&&decide (n<=16777216))=false:=by
   simp only [D5u,D4U];omega
  simp only [c,d,D4H,D48]
  rfl
def B3F (l:List A8) (now:Int) (i:Nat):Bool:=match l[i]? with
 |none=>false
 |some p=>(decide (p.T<0)||decide (p.T>now))||(decide (0<i)&&match l[i-1]? with
  |some q=>decide (q.T>p.T)
  |none=>false)
noncomputable def A8u (l:List A8) (now:Int):Bool:=G8 now&& !(List.range l.length).any (B3F l now)
theorem B8M {i:Nat} (h:0<i) (hm:i<=maxLen):A1 ((i:Int)-1)=((i-1:Nat):Int):=by
 rw [I2] at hm;rw [C2]<;>omega
theorem V4 {i n:Nat} (h:i<n) (hm:n<=maxLen):A1 ((i:Int)+1)=(i:Int)+1:=by
 rw [I2] at hm;rw [C2]<;>omega
theorem L1 {α:Type} {l:List α} {i:Nat} (h:i<l.length):l[i]? =some l[i]:=D4R h
theorem B96 (l:List A8) (now:Int) (hl:l.length<=maxLen):A9G l now=some (A8u l now):=by
 unfold A9G A8u;cases ht:G8 now with
 |false=>rfl
 |true=>
  have h:A9e l now 0=cond ((List.range l.length).any (B3F l now)) (some false) (some true):=by
   unfold A9e;refine B44 (fun i hi=> ?_) ?_
   ·have hs:=V4 hi hl;unfold A8i B3F;simp only [Int.ofNat_lt,hi,decide_true,D4H,U1,L1 hi,D4D,hs]
    by_cases h0:0<i
    ·have hp:=B8M h0 (Nat.le_trans (Nat.le_of_lt hi) hl);have h3:((i:Int)>0):=by omega
     simp only [hp,U1,L1 (show i-1<l.length by omega),h3,h0,decide_true,D5e,Bool.and_true]
     cases (decide (l[i].T<0)||decide (l[i].T>now))<;>simp
    ·have h3: ¬((i:Int)>0):=by omega
     simp only [h3,h0,decide_false,K7,D4D,D48,Bool.and_false,Bool.or_false]
   ·unfold A8i;simp
  simp only [D4P,D4G,h];cases (List.range l.length).any (B3F l now)<;>rfl
noncomputable def A9B (l:List A8) (now w:Int):List A8:=l.filter fun p=>F7 now w p.T
def C2M {α:Type} (p:α->Bool) (l:List α) (i:Nat) (b:List α):List α:=match l[i]? with
 |some x=>if p x then b++ [x] else b
 |none=>b
theorem C3k {α:Type} (p:α->Bool) (l:List α): ∀(k:Nat) (acc:List α),k<=l.length->(List.range' (l.length-k) k).foldl (fun b i=>C2M p l i b) acc=acc++(l.drop (l.length-k)).filter p:=by
 intro k
 induction k with
 |zero=>intro acc _;simp
 |succ k ih=>
  intro acc hk;have hi:l.length-(k+1)<l.length:=by omega
  have e:l.length-(k+1)+1=l.length-k:=by omega
  rw [List.range'_succ,List.foldl_cons,e,ih _ (by omega),List.drop_eq_getElem_cons hi,List.filter_cons,e,C2M,L1 hi]
  simp only;split<;>simp
theorem C8q (l:List A8) (n w:Int) (hl:l.length<=1000000):B0s l n w [] 0=some (A9B l n w):=by
 have hm:l.length<=maxLen:=by rw [I2];omega
 unfold B0s;obtain ⟨h,_⟩:=C6M (R:=List A8) (f:=fun s:List A8×Int=>A5q l n w s.1 s.2) (fun i b=>(b,(i:Int))) l.length (fun i b=>b.length<=i)
  (C2M (fun p=>P4 n w p.T) l) (fun b=>some b) (fun i b hi hb=>by
    have hs:=V4 hi hm;unfold A5q C2M;simp only [Int.ofNat_lt,hi,decide_true,D4H,U1,L1 hi,D4D,hs];have hk:decide ((b.length+ [l[i]].length)*16<=140737488355328)=true:=by rw [D4F,D5i];omega
    rw [hk]
    by_cases hc:P4 n w l[i].T=true
    ·rw [if_pos hc,hc];exact ⟨rfl,by simp;omega⟩
    ·rw [if_neg hc];rw [Bool.not_eq_true] at hc;rw [hc];exact ⟨rfl,by omega⟩) (fun b _=>by
    unfold A5q;simp) [] (by simp)
 have hf:=C3k (fun p=>P4 n w p.T) l l.length [] (D5l _);rw [Nat.sub_self,<-List.range_eq_range'] at hf;simp only [List.drop_zero,List.nil_append] at hf;refine h.trans ?_;show some _=some _
 congr 1
 refine hf.trans ?_;unfold A9B;simp only [A04]
theorem C6x (l:List A8) (n w:Int) (hl:l.length<=1000000):B1f l n w=some (if A8u l n then A9B l n w else []):=by
 unfold B1f;rw [C4s,B96 l n (by rw [I2];omega)]
 cases A8u l n with
 |false=>rfl
 |true=>simp [C8q l n w hl]
theorem A8v (x:C8):W2 x=A3q x:=by
 have e:A4s=A0S:=by
  funext x i
  unfold A4s A0S;simp only [A04,D0P]
 unfold W2 A3q A93 A2Y;rw [e,C5I,C4s]
noncomputable def okV (x:C8):Bool:=(M7 x.W x.Cap x.Now&&decide ((x.Bb.length:Int)<=x.Cap))&&(A8u x.Bb x.Now&&x.Bb.all fun p=>F7 x.Now x.W p.T&&M2 p.V)
theorem D1p {α:Type} {l:List α} {p:α->Bool}:(List.range l.length).any (fun i=>match l[i]? with
  |some x=> !p x
  |none=>false)= !l.all p:=by
 rw [D4Y,C0l];constructor
 ·rintro ⟨i,hi,h⟩;rw [L1 hi] at h;simp only [D4Z] at h⊢;rw [List.all_eq_false];exact ⟨l[i],D5s hi,by simp [h]⟩
 ·intro h;simp only [D4Z] at h;rw [List.all_eq_false] at h;obtain ⟨x,hx,hp⟩:=h;obtain ⟨i,hi,rfl⟩:=List.mem_iff_getElem.1 hx;refine ⟨i,hi, ?_⟩;rw [L1 hi];simpa using hp
theorem A5T (x:C8) (hl:x.Bb.length<=maxLen):A3q x=some (if okV x then 0 else 2):=by
 have h:A2Y x 0=cond (!(x.Bb.all fun p=>F7 x.Now x.W p.T&&M2 p.V)) (some 2) (some 0):=by
  rw [<-D1p];unfold A2Y;refine B44 (fun i hi=> ?_) ?_
  ·unfold A0S;simp only [Int.ofNat_lt,hi,decide_true,D4H,U1,L1 hi,D4D,V4 hi hl,Bool.not_and]
  ·unfold A0S;simp
 unfold A3q okV;rw [B96 x.Bb x.Now hl,h];have hd:decide ((x.Bb.length:Int)>x.Cap)= !decide ((x.Bb.length:Int)<=x.Cap):=by
  rw [D4Y];simp
 rw [hd];cases M7 x.W x.Cap x.Now<;>cases decide ((x.Bb.length:Int)<=x.Cap)<;>cases A8u x.Bb x.Now<;>cases (x.Bb.all fun p=>F7 x.Now x.W p.T&&M2 p.V)<;>rfl
theorem C8K {x:C8} (h:okV x=true):1<=x.W/\x.W<=1048576/\1<=x.Cap/\x.Cap<=65536/\0<=x.Now/\x.Now<=16777216/\(x.Bb.length:Int)<=x.Cap:=by
 unfold okV M7 M6 G8 at h;simp only [D4L,D4F] at h;omega
theorem D1l (x:C8) (v:Int) (hl:x.Bb.length<=maxLen):T (A5E x v) fun r=>r.1.Bb.length<=65537:=by
 unfold A5E;rw [A8v,A5T x hl];cases hv:okV x with
 |false=>exact yT
 |true=>have:=C8K hv;exact yT
end Go.Win
set_option maxHeartbeats 4000000
namespace Go.Win
open Go.Vc Go.Dec
theorem C5Z (a b:Int):A1 (A1 a+b)=A1 (a+b):=by
 rw [B2F,B2F,B2F];omega
theorem A7E (t:Int):G8 t=true↔0<=t/\t<=16777216:=by unfold G8;simp
theorem B4p (w c n:Int):M7 w c n=true↔(1<=w/\w<=1048576)/\(1<=c/\c<=65536)/\(0<=n/\n<=16777216):=by
 unfold M7 M6 G8;simp;omega
theorem B8I (k:Int):N3 k=true↔1<=k/\k<=64:=by unfold N3;simp
theorem C9j (v:Int):M2 v=true↔ -4096<=v/\v<=4096:=by unfold M2;simp
theorem A1c (n w t:Int):F7 n w t=true↔(0<=n/\n<=16777216)/\(1<=w/\w<=1048576)/\(0<=t/\t<=16777216)/\n-w<t/\t<=n:=by
 unfold F7 M6 G8;simp only [D4L,D4F];constructor
 ·rintro ⟨⟨⟨⟨h1,h2⟩,h3⟩,h4⟩,h5⟩;rw [C2 (by omega) (by omega)] at h4
  omega
 ·rintro ⟨h1,h2,h3,h4,h5⟩;rw [C2 (by omega) (by omega)]
  omega
theorem C95: ∀n:Fin 31,E7 .i64 1 (A4 (n.1:Int))=2^n.1:=by decide+kernel
theorem C6H {L:Int} (h0:0<=L) (h1:L<=30):E7 .i64 1 (A4 L)=2^L.toNat:=by
 have:=C95 ⟨L.toNat,by omega⟩
 simp only [] at this;rw [<-this]
 congr 2
 omega
def A6Y (b:A3):Int:=if 0<=b.Bc/\b.Bc<=30 then 2^b.Bc.toNat else 0
def S9 (l:List A3):Int:=(l.map A6Y).sum
theorem C4p:S9 []=0:=rfl
theorem B0l (b:A3) (l:List A3):S9 (b::l)=A6Y b+S9 l:=by simp [S9]
theorem B8m (a b:List A3):S9 (a++b)=S9 a+S9 b:=by simp [S9]
theorem C4a (b:A3):0<=A6Y b:=by
 unfold A6Y;split
 ·exact Int.pow_nonneg (by decide)
 ·exact Int.le_refl 0
theorem C1c (l:List A3):0<=S9 l:=by
 induction l with
 |nil=>exact Int.le_refl 0
 |cons b l ih=>rw [B0l];have:=C4a b;omega
theorem C9g {l:List A3} {i:Nat} (h:i<l.length):S9 (l.take (i+1))=S9 (l.take i)+A6Y (el l i):=by
 rw [List.take_add_one,A5n h,Option.toList_some,B8m,B0l,C4p];omega
theorem A9H (l:List A3) (hl:l.length<=maxLen):A6y l=some (A1 (S9 l)):=by
 unfold A6y B4u;have H:=A5u (f:=fun s:Int×Int=>A4C l s.1 s.2) (fun i=>(A1 (S9 (l.take i)),(i:Int))) 0 l.length (Nat.zero_le _) (fun _=>False) 0 (some (A1 (S9 l)))
  (fun i _ hi _=>by
   refine ⟨fun h=>h.elim,fun _=> ?_⟩;simp only [];unfold A4C;rw [D4I (by omega:(i:Int)<(l.length:Int)),D4H,K0 hi,D4D,A0F hi hl,C9g hi]
   unfold A6Y
   by_cases h:0<=(el l i).Bc/\(el l i).Bc<=30
   ·rw [D4I h.1,D4I h.2,if_pos h,C6H h.1 h.2,C5Z];have:decide (0<=A4 (el l i).Bc)=true:=D4I (by rw [L7];omega)
    rw [this];rfl
   ·have e:(decide ((el l i).Bc>=0)&&decide ((el l i).Bc<=30))=false:=by
     rw [D4T];simpa using h
    rw [e,if_neg h,D4G,Int.add_zero])
  (fun _=>by
   simp only [];unfold A4C;rw [D4K (D46 _),D4G,List.take_length])
 exact H.2 (fun _ _ _ h=>h)
theorem B1Q:K8=A6y:=rfl
def A1S (l:List A3) (W K Cap Now:Int):Prop:=
 ((1<=W/\W<=1048576)/\(1<=Cap/\Cap<=65536)/\(0<=Now/\Now<=16777216)/\(1<=K/\K<=64))/\A7g l K/\A1 (S9 l)<=Cap/\ ∀i,i<l.length->F7 Now W (el l i).T=true
theorem A81 (w k c n:Int):A5m w k c n=true↔(1<=w/\w<=1048576)/\(1<=c/\c<=65536)/\(0<=n/\n<=16777216)/\(1<=k/\k<=64):=by
 unfold A5m;simp;omega
theorem A1H (x:E1) (hl:x.Ad.length<=maxLen):U9 x=some (vOf (A1S x.Ad x.W x.K x.Cap x.Now)):=by
 unfold U9;simp only []
 by_cases h1:A5m x.W x.K x.Cap x.Now=true
 ·have h1' :=(A81 _ _ _ _).1 h1;rw [h1,A6J _ _ hl,B1Q,A9H _ hl];simp only [D4P,D4Q,I0,D4D,D44]
  by_cases h2:A7g x.Ad x.K
  ·rw [A1r h2];simp only [D4P,D4Q,I0,D4D,D44]
   by_cases h3:A1 (S9 x.Ad)<=x.Cap
   ·rw [D4K (by omega),D4G]
    unfold B0T;have H:=A0b (f:=fun s:Int=>A2z x s) x.Ad.length (fun i=> ¬F7 x.Now x.W (el x.Ad i).T=true) 2 (some 0)
     (fun i hi _=>by
      unfold A2z;rw [D4I (by omega:(i:Int)<(x.Ad.length:Int)),D4H,K0 hi,D4D,A0F hi hl]
      refine T7 ?_;simp [A04])
     (fun _=>by
      unfold A2z;rw [D4K (D46 _),D4G])
    by_cases h4: ∀i,i<x.Ad.length->F7 x.Now x.W (el x.Ad i).T=true
    ·rw [H.2 fun i hi hn=>hn (h4 i hi),O8];exact ⟨h1',h2,h3,h4⟩
    ·rw [H.1,J1]
     ·exact fun h=>h4 h.2.2.2
     ·exact D5y fun hn=>h4 fun i hi=>D5y fun hc=>hn ⟨i,hi,hc⟩
   ·rw [D4I (by omega),D4H,J1]
    exact fun h=>h3 h.2.2.1
  ·rw [V5 h2];simp only [D4P,D4Q,K7,D4D,D5n,D4H];rw [J1];exact fun h=>h2 h.2.1
 ·have h1' :=fun h=>h1 ((A81 _ _ _ _).2 h);rw [Bool.not_eq_true] at h1;rw [h1];simp only [D4P,D4Q,K7,D4D,D5n,D4H];rw [J1];exact fun h=>h1' h.1
theorem B2B (w k c m n:Int):A9i w k c m n=true↔((1<=w/\w<=1048576)/\(1<=c/\c<=65536)/\(0<=n/\n<=16777216)/\(1<=k/\k<=64))/\(1<=m/\m<=1024):=by
 unfold A9i;simp;omega
def B7x (x:F0):Prop:=A1S x.Ad x.W x.K x.Cap x.Now/\(1<=x.Bs/\x.Bs<=1024)
theorem A8n (x:F0) (hl:x.Ad.length<=maxLen):A1U x=some (vOf (B7x x)):=by
 unfold A1U;simp only []
 by_cases h1:A9i x.W x.K x.Cap x.Bs x.Now=true
 ·have h1' :=(B2B _ _ _ _ _).1 h1;rw [h1,A6J _ _ hl,B1Q,A9H _ hl];simp only [D4P,D4Q,I0,D4D,D44]
  by_cases h2:A7g x.Ad x.K
  ·rw [A1r h2];simp only [D4P,D4Q,I0,D4D,D44]
   by_cases h3:A1 (S9 x.Ad)<=x.Cap
   ·rw [D4K (by omega),D4G]
    unfold B3x;have H:=A0b (f:=fun s:Int=>A3X x s) x.Ad.length (fun i=> ¬F7 x.Now x.W (el x.Ad i).T=true) 2 (some 0)
     (fun i hi _=>by
      unfold A3X;rw [D4I (by omega:(i:Int)<(x.Ad.length:Int)),D4H,K0 hi,D4D,A0F hi hl]
      refine T7 ?_;simp [A04])
     (fun _=>by
      unfold A3X;rw [D4K (D46 _),D4G])
    by_cases h4: ∀i,i<x.Ad.length->F7 x.Now x.W (el x.Ad i).T=true
    ·rw [H.2 fun i hi hn=>hn (h4 i hi),O8];exact ⟨⟨h1'.1,h2,h3,h4⟩,h1'.2⟩
    ·rw [H.1,J1]
     ·exact fun h=>h4 h.1.2.2.2
     ·exact D5y fun hn=>h4 fun i hi=>D5y fun hc=>hn ⟨i,hi,hc⟩
   ·rw [D4I (by omega),D4H,J1]
    exact fun h=>h3 h.1.2.2.1
  ·rw [V5 h2];simp only [D4P,D4Q,K7,D4D,D5n,D4H];rw [J1];exact fun h=>h2 h.1.2.1
 ·have h1' :=fun h=>h1 ((B2B _ _ _ _ _).2 h);rw [Bool.not_eq_true] at h1;rw [h1];simp only [D4P,D4Q,K7,D4D,D5n,D4H];rw [J1];exact fun h=>h1' ⟨h.1.1,h.2⟩
end Go.Win
set_option maxHeartbeats 4000000
namespace Go.Win
open Go.Vc Go.Dec
def mk1 (seq cap now:Int) (m:A6):Prop:=(1<=m.Bv/\m.Bv<=seq)/\m.N=seq-m.Bv+1/\m.N<=cap/\0<=m.T/\m.T<=now
def mk2 (lo:Int) (m:A6):Prop:=lo<=m.Bt/\m.Bt<=m.Bs/\m.Bs<=4096/\Y6 m.N m.Bt m.Bs m.S m.Q=true
def mk4 (o m:A6):Prop:=o.Bv<m.Bv/\o.T<=m.T/\o.Bt<=m.Bt/\m.Bs<=o.Bs/\Y6 (A1 (o.N-m.N)) o.Bt o.Bs (A1 (o.S-m.S)) (A1 (o.Q-m.Q))=true
def B6G (seq:Int) (m:A6):Prop:=m.Bv=seq/\m.Bt=m.S/\m.Bs=m.S/\m.Q=A1 (m.S*m.S)
def B6J (l:List A6) (seq cap now w lo:Int) (i:Nat):Prop:=
 mk1 seq cap now (el l i)/\mk2 lo (el l i)/\((0<i\/l.length=1)->F7 now w (el l i).T=true)/\(0<i->mk4 (el l (i-1)) (el l i))
def A4o (l:List A6) (seq cap now w lo:Int):Prop:=
 (0<=seq/\seq<=1099511627776)/\(∀i,i<l.length->B6J l seq cap now w lo i)/\(0<l.length->B6G seq (el l (l.length-1)))
theorem A5z {n:Nat} {p:Nat->Prop} (h:¬ ∀i,i<n->p i): ∃i,i<n/\ ¬p i:=
 D5y fun hn=>h fun i hi=>D5y fun hc=>hn ⟨i,hi,hc⟩
theorem C3E {seq cap now:Int} (hs:0<=seq/\seq<=1099511627776) (m:A6):
  (((((decide (m.Bv<1)||decide (m.Bv>seq))||(m.N !=A1 (A1 (seq-m.Bv)+1)))||decide (m.N>cap))||decide (m.T<0))||decide (m.T>now))=true↔ ¬mk1 seq cap now m:=by
 unfold mk1
 by_cases h:1<=m.Bv/\m.Bv<=seq
 ·have e:A1 (A1 (seq-m.Bv)+1)=seq-m.Bv+1:=by rw [C2 (n:=seq-m.Bv) (by omega) (by omega),C2]<;>omega
  simp only [e,D4O,D4F,bne_iff_ne];omega
 ·simp only [D4O,D4F];constructor
  ·intro _ h2;exact h h2.1
  ·intro _;omega
theorem C8J (l:List A6) (seq cap now w lo:Int) (i:Nat):B6J l seq cap now w lo (i+1)↔
  mk1 seq cap now (el l (i+1))/\mk2 lo (el l (i+1))/\F7 now w (el l (i+1)).T=true/\mk4 (el l i) (el l (i+1)):=by
 unfold B6J;rw [D5k];constructor
 ·rintro ⟨h1,h2,h3,h4⟩;exact ⟨h1,h2,h3 (.inl (by omega)),h4 (by omega)⟩
 ·rintro ⟨h1,h2,h3,h4⟩;exact ⟨h1,h2,fun _=>h3,fun _=>h4⟩
theorem B76 (l:List A6) (seq cap now w lo:Int) (hl:l.length<=maxLen):A6v l seq cap now w lo=some (bOf (A4o l seq cap now w lo)):=by
 unfold A6v
 by_cases hs:0<=seq/\seq<=1099511627776
 ·have e:(decide (seq<0)||decide (seq>1099511627776))=false:=by simp;omega
  rw [e,D4G];unfold B4o;have H:=A0b (f:=fun s:Int=>A4A l seq cap now w lo s) l.length (fun i=> ¬B6J l seq cap now w lo i) false (some (bOf (0<l.length->B6G seq (el l (l.length-1)))))
   (fun i hi _=>by
    unfold A4A;rw [D4I (by omega:(i:Int)<(l.length:Int)),D4H,K0 hi,D4D,A0F hi hl]
    simp only [A04]
    by_cases h1:mk1 seq cap now (el l i)
    ·have e1:=D4T.2 (fun h=>(C3E (cap:=cap) (now:=now) hs (el l i)).1 h h1);rw [e1,D4G]
     by_cases h2:mk2 lo (el l i)
     ·have e2:((((decide ((el l i).Bt<lo))||(decide ((el l i).Bs>(4096:Int))))||(decide ((el l i).Bt>(el l i).Bs)))||(!(Y6 (el l i).N (el l i).Bt (el l i).Bs (el l i).S (el l i).Q)))=false:=by
       have:=h2.2.2.2;unfold mk2 at h2;rw [this];simp;omega
      rw [e2,D4G];rcases i with _|i
      ·have e3:(((0:Nat):Int)==0)=true:=rfl;have e4:decide (((0:Nat):Int)>0)=false:=rfl;rw [e3,e4,D4H,D44];refine T7 ?_;unfold B6J;simp only [D4L,D5x,D4Z,Nat.lt_irrefl,false_or,false_implies,and_true,h1,h2,true_and];have:((l.length:Int)=1)↔l.length=1:=by omega
       rw [this,Classical.not_imp,Bool.not_eq_true]
      ·have e3:(((i+1:Nat):Int)==0)=false:=by rw [D5t];omega
       have e4:decide (((i+1:Nat):Int)>0)=true:=D4I (by omega)
       rw [e3,e4,D4G,D5n,D5e,B1q (by omega) (Nat.le_of_lt hi) hl,D5k,K0 (by omega),D4D]
       simp only [B4Q];refine T7 ?_;rw [C8J];simp only [h1,h2,true_and,D4O,D4Z,D4F];unfold mk4;cases F7 now w (el l (i+1)).T with
       |false=>simp
       |true=>
        cases Y6 (A1 ((el l i).N-(el l (i+1)).N)) (el l i).Bt (el l i).Bs (A1 ((el l i).S-(el l (i+1)).S)) (A1 ((el l i).Q-(el l (i+1)).Q)) with
        |false=>simp
        |true=>simp;omega
     ·have e2:((((decide ((el l i).Bt<lo))||(decide ((el l i).Bs>(4096:Int))))||(decide ((el l i).Bt>(el l i).Bs)))||(!(Y6 (el l i).N (el l i).Bt (el l i).Bs (el l i).S (el l i).Q)))=true:=by
       unfold mk2 at h2;cases hf:Y6 (el l i).N (el l i).Bt (el l i).Bs (el l i).S (el l i).Q with
       |false=>simp
       |true=>rw [hf] at h2;simp only [and_true] at h2;simp;omega
      rw [e2,D4H];exact ⟨fun _=>rfl,fun hn=>absurd (fun h=>h2 h.2.1) hn⟩
    ·have e1:=(C3E (cap:=cap) (now:=now) hs (el l i)).2 h1;rw [e1,D4H];exact ⟨fun _=>rfl,fun hn=>absurd (fun h=>h1 h.1) hn⟩)
   (fun _=>by
    unfold A4A;rw [D4K (D46 _),D4G]
    congr 1
    by_cases h0:0<l.length
    ·have e1:((l.length:Int)==0)=false:=by rw [D5t];omega
     rw [e1,D4G,B1q h0 (D5l _) hl,K0 (by omega),D4D]
     congr 1
     rw [D4Y,A0W];unfold B6G;simp [h0,and_assoc]
    ·have e1:((l.length:Int)==0)=true:=by
      have:l.length=0:=by omega
      rw [this];rfl
     rw [e1,D4H,A1r];exact fun h=>absurd h h0)
  by_cases h: ∀i,i<l.length->B6J l seq cap now w lo i
  ·rw [H.2 fun i hi hn=>hn (h i hi)]
   congr 1
   rw [D4Y,A0W,A0W];exact ⟨fun h2=>⟨hs,h,h2⟩,fun h2=>h2.2.2⟩
  ·rw [H.1 (A5z h),V5];exact fun h2=>h h2.2.1
 ·have e:(decide (seq<0)||decide (seq>1099511627776))=true:=by rw [D4Y];simp;omega
  rw [e,D4H,V5];exact fun h=>hs h.1
theorem B2c {n lo hi s q:Int} (hn:0<=n/\n<=65536) (hlo:-4096<=lo/\lo<=4096) (hhi:-4096<=hi/\hi<=4096):
  Y6 n lo hi s q=true↔n*lo<=s/\s<=n*hi/\0<=q/\q<=n*16777216/\s*s<=n*q:=by
 have b: ∀x:Int,-4096<=x->x<=4096-> -268435456<=n*x/\n*x<=268435456:=by
  intro x h1 h2;have h3:=Int.mul_le_mul_of_nonneg_left h1 hn.1;have h4:=Int.mul_le_mul_of_nonneg_left h2 hn.1;omega
 have b1:=b lo hlo.1 hlo.2;have b2:=b hi hhi.1 hhi.2;unfold Y6;rw [C2 (n:=n*lo) (by omega) (by omega),C2 (n:=n*hi) (by omega) (by omega),C2 (n:=n*4096) (by omega) (by omega),C2 (n:=n*4096*4096) (by omega) (by omega)]
 simp only [D4L,D4F];have e:n*4096*4096=n*16777216:=by omega
 rw [e];constructor
 ·rintro ⟨⟨⟨⟨h1,h2⟩,h3⟩,h4⟩,h5⟩;have hs:s*s<=268435456*268435456:=by
   have h6:s.natAbs*s.natAbs<=268435456*268435456:=Nat.mul_le_mul (by omega) (by omega)
   have e2:(s.natAbs:Int)*s.natAbs=s*s:=Int.natAbs_mul_self;have h7:((s.natAbs*s.natAbs:Nat):Int)=(s.natAbs:Int)*s.natAbs:=by rw [Int.natCast_mul]
   omega
  have hs0:0<=s*s:=by
   have e2:(s.natAbs:Int)*s.natAbs=s*s:=Int.natAbs_mul_self;have:=Int.mul_nonneg (a:=(s.natAbs:Int)) (b:=s.natAbs) (by omega) (by omega)
   omega
  have hq:n*q<=65536*1099511627776:=Int.mul_le_mul hn.2 (by omega) h3 (by omega)
  have hq0:0<=n*q:=Int.mul_nonneg hn.1 h3;rw [C2 (by omega) (by omega),C2 (by omega) (by omega)] at h5
  exact ⟨h1,h2,h3,h4,h5⟩
 ·rintro ⟨h1,h2,h3,h4,h5⟩;have hs0:0<=s*s:=by
   have e2:(s.natAbs:Int)*s.natAbs=s*s:=Int.natAbs_mul_self;have:=Int.mul_nonneg (a:=(s.natAbs:Int)) (b:=s.natAbs) (by omega) (by omega)
   omega
  have hq:n*q<=65536*1099511627776:=Int.mul_le_mul hn.2 (by omega) h3 (by omega)
  have hq0:0<=n*q:=Int.mul_nonneg hn.1 h3;rw [C2 (n:=s*s) (by omega) (by omega),C2 (n:=n*q) (by omega) (by omega)]
  exact ⟨⟨⟨⟨h1,h2⟩,h3⟩,h4⟩,h5⟩
theorem A3O (agg:Int): -4096<=S8 agg:=by
 unfold S8;cases (agg==2||agg==3)<;>decide
end Go.Win
set_option maxHeartbeats 4000000
namespace Go.Win
open Go.Vc Go.Dec
def H7 (w:A2):Prop:=0<=w.Hi/\w.Hi<18446744073709551616/\0<=w.Lo/\w.Lo<18446744073709551616
def wv (w:A2):Int:=w.Hi*18446744073709551616+w.Lo
def I5 (n:Int):A2:=⟨n/18446744073709551616,n%18446744073709551616⟩
theorem X7 (n:Int):wv (I5 n)=n:=by
 unfold wv I5;simp only;omega
theorem Y9 {n:Int} (h0:0<=n) (h1:n<340282366920938463463374607431768211456):H7 (I5 n):=by
 unfold H7 I5;simp only;omega
theorem D28 {w:A2} (h:H7 w):I5 (wv w)=w:=by
 obtain ⟨a,b⟩:=w;unfold H7 at h;unfold I5 wv;simp only at h⊢
 congr 1<;>omega
theorem A7n {w:A2} (h:H7 w):0<=wv w/\wv w<340282366920938463463374607431768211456:=by
 unfold H7 at h;unfold wv;omega
theorem C2K (x y c:Int) (hx:0<=x) (hy:0<=y) (h0:0<=c) (h1:c<=1):N2 x y c=some ((x+y+c)%18446744073709551616,(x+y+c)/18446744073709551616):=by
 unfold N2;rw [D4I (⟨hx,hy,h0,h1⟩:0<=x/\0<=y/\0<=c/\c<=1)]
 rfl
theorem B7z (x y b:Int) (hx:0<=x) (hy:0<=y) (h0:0<=b) (h1:b<=1) (h2:y<18446744073709551616):O6 x y b=some ((x+18446744073709551616-y-b)%18446744073709551616,if x<y+b then 1 else 0):=by
 unfold O6;rw [D4I (⟨hx,hy,h0,h1,by omega⟩:0<=x/\0<=y/\0<=b/\b<=1/\y+b<=x+18446744073709551616)]
 rfl
theorem B5m {a b:A2} (ha:H7 a) (hb:H7 b):A32 a b=some (if wv a+wv b<340282366920938463463374607431768211456 then (I5 (wv a+wv b),true) else (⟨0,0⟩,false)):=by
 unfold H7 at ha hb;unfold A32;rw [C2K _ _ _ (by omega) (by omega) (by omega) (by omega)]
 simp only [D4D];rw [C2K _ _ _ (by omega) (by omega) (by omega) (by omega)]
 simp only [D4D];unfold wv
 by_cases h:a.Hi*18446744073709551616+a.Lo+(b.Hi*18446744073709551616+b.Lo)<340282366920938463463374607431768211456
 ·rw [if_pos h];have e:(a.Hi+b.Hi+(a.Lo+b.Lo+0)/18446744073709551616)/18446744073709551616=0:=by omega
  rw [e];simp only [D5g,D4G];unfold I5
  congr 3<;>omega
 ·rw [if_neg h];have e:((a.Hi+b.Hi+(a.Lo+b.Lo+0)/18446744073709551616)/18446744073709551616 !=0)=true:=by
   rw [bne_iff_ne];omega
  rw [e];rfl
theorem C4F {a b:A2} (ha:H7 a) (hb:H7 b):B2M a b=some (if wv b<=wv a then (I5 (wv a-wv b),true) else (⟨0,0⟩,false)):=by
 unfold H7 at ha hb;unfold B2M;rw [B7z _ _ _ (by omega) (by omega) (by omega) (by omega) (by omega)]
 simp only [D4D];unfold wv
 by_cases hl:a.Lo<b.Lo+0
 ·rw [if_pos hl,B7z _ _ _ (by omega) (by omega) (by omega) (by omega) (by omega)]
  simp only [D4D]
  by_cases h:b.Hi*18446744073709551616+b.Lo<=a.Hi*18446744073709551616+a.Lo
  ·rw [if_pos h,if_neg (by omega)]
   simp only [D5g,D4G];unfold I5
   congr 3<;>omega
  ·rw [if_neg h,if_pos (by omega)]
   rfl
 ·rw [if_neg hl,B7z _ _ _ (by omega) (by omega) (by omega) (by omega) (by omega)]
  simp only [D4D]
  by_cases h:b.Hi*18446744073709551616+b.Lo<=a.Hi*18446744073709551616+a.Lo
  ·rw [if_pos h,if_neg (by omega)]
   simp only [D5g,D4G];unfold I5
   congr 3<;>omega
  ·rw [if_neg h,if_pos (by omega)]
   rfl
theorem A8A {a b:A2} (ha:H7 a) (hb:H7 b):R1 a b=if wv a<wv b then-1 else if wv a=wv b then 0 else 1:=by
 unfold H7 at ha hb;unfold R1 wv
 by_cases h:(decide (a.Hi<b.Hi)||((a.Hi==b.Hi)&&decide (a.Lo<b.Lo)))=true
 ·rw [h,D4H];simp only [D4O,D4L,D4F,D5x] at h;rw [if_pos (by omega)]
 ·rw [Bool.not_eq_true] at h;rw [h,D4G];simp only [D5d,D5u,D4U,D5t] at h
  by_cases h2:(a.Hi==b.Hi&&(a.Lo==b.Lo&&true))=true
  ·rw [h2,D4H];simp only [D4L,D5x] at h2;rw [if_neg (by omega),if_pos (by omega)]
  ·rw [Bool.not_eq_true] at h2;rw [h2,D4G];simp only [D5u,D5t,Bool.true_eq_false,or_false] at h2;rw [if_neg (by omega),if_neg (by omega)]
theorem B5h {a:Int} (h1:-9223372036854775808<=a) (h2:a<=9223372036854775807):Y4 a=if a<0 then-a else a:=by
 unfold Y4
 by_cases h:a<0
 ·rw [D4I h,D4H,if_pos h,L7];show IntKind.u64.wrap _=_;rw [IntKind.wrap_u64];omega
 ·rw [D4K h,D4G,if_neg h,L7];omega
theorem C5u {a:Int} (h1:-9223372036854775808<=a) (h2:a<=9223372036854775807):A7z a=if a<0 then-a else a:=by
 unfold A7z
 by_cases h:a<0
 ·rw [D4I h,D4H,if_pos h];have e1:A1 (a+1)=a+1:=by rw [C2]<;>omega
  have e2:IntKind.i64.wrap (0-(a+1))= -a-1:=by rw [IntKind.wrap_i64];omega
  rw [e1,e2,L7,L7];omega
 ·rw [D4K h,D4G,if_neg h,L7];omega
end Go.Win
set_option maxHeartbeats 4000000
namespace Go.Win
open Go.Vc Go.Dec
theorem D2z {x:Int} (h0:0<=x) (h1:x<18446744073709551616):((BitVec.ofInt IntKind.u64.bits x&&&BitVec.ofInt IntKind.u64.bits 4294967295).toNat:Int)=x%4294967296:=by
 obtain ⟨n,rfl⟩:=Int.eq_ofNat_of_zero_le h0;have e:(BitVec.ofInt IntKind.u64.bits (n:Int)&&&BitVec.ofInt IntKind.u64.bits 4294967295).toNat=n%4294967296:=by
  have hb:IntKind.u64.bits=64:=rfl;rw [hb,BitVec.toNat_and,BitVec.toNat_ofInt,BitVec.toNat_ofInt];have h2:(((n:Int)%((2^64:Nat):Int)).toNat)=n:=by omega
  have h3:((4294967295:Int)%((2^64:Nat):Int)).toNat=2^32-1:=by decide
  rw [h2,h3,Nat.and_two_pow_sub_one_eq_mod]
 rw [e];omega
theorem C3o {x:Int} (h0:0<=x) (h1:x<18446744073709551616):S2 .u64 x 4294967295=x%4294967296:=by
 show IntKind.u64.wrap _=_;rw [D2z h0 h1,IntKind.wrap_u64];omega
theorem C3s (x:Int):F8 .u64 x 32=x/4294967296:=by
 show x.fdiv (2^(min (32:Int).toNat IntKind.u64.bits))=_;have:(2:Int)^(min (32:Int).toNat IntKind.u64.bits)=4294967296:=by decide
 rw [this,Int.fdiv_eq_ediv_of_nonneg _ (by decide)]
theorem D4e (a b c d:Int):(a*4294967296+b)*(c*4294967296+d)=(a*c)*18446744073709551616+(a*d+b*c)*4294967296+b*d:=by
 grind
theorem B7j {a b:Int} (ha:0<=a/\a<4294967296) (hb:0<=b/\b<4294967296):0<=a*b/\a*b<=18446744065119617025:=by
 refine ⟨Int.mul_nonneg ha.1 hb.1, ?_⟩;have:=Int.mul_le_mul (show a<=4294967295 by omega) (show b<=4294967295 by omega) hb.1 (by decide)
 simpa using this
theorem C2N {x y:Int} (hx:0<=x/\x<18446744073709551616) (hy:0<=y/\y<18446744073709551616):Q7 x y=(x*y/18446744073709551616,x*y%18446744073709551616):=by
 unfold Q7;have e:=D4e (x/4294967296) (x%4294967296) (y/4294967296) (y%4294967296);rw [show x/4294967296*4294967296+x%4294967296=x by omega,show y/4294967296*4294967296+y%4294967296=y by omega] at e
 have bp:=B7j (a:=x%4294967296) (b:=y%4294967296) (by omega) (by omega)
 have bq:=B7j (a:=x/4294967296) (b:=y%4294967296) (by omega) (by omega)
 have br:=B7j (a:=x%4294967296) (b:=y/4294967296) (by omega) (by omega)
 have bs:=B7j (a:=x/4294967296) (b:=y/4294967296) (by omega) (by omega)
 congr 1
 ·rw [C3o hx.1 hx.2,C3o hy.1 hy.2,C3s,C3s]
  generalize x%4294967296*(y%4294967296)=p at*
  generalize x/4294967296*(y%4294967296)=q at*
  generalize x%4294967296*(y/4294967296)=r at*
  generalize x/4294967296*(y/4294967296)=s at*
  have w1: ∀n:Int,0<=n->n<18446744073709551616->A4 n=n:=fun n h1 h2=>by rw [L7];omega
  simp only [C3s];rw [w1 p (by omega) (by omega),w1 q (by omega) (by omega),w1 (q+p/4294967296) (by omega) (by omega),C3o (by omega) (by omega),w1 r (by omega) (by omega),w1 ((q+p/4294967296)%4294967296+r) (by omega) (by omega),w1 s (by omega) (by omega),
   w1 (s+(q+p/4294967296)/4294967296) (by omega) (by omega),w1 _ (by omega) (by omega)]
  omega
theorem A7y {x y:Int} (hx:0<=x/\x<18446744073709551616) (hy:0<=y/\y<18446744073709551616):0<=x*y/\x*y<340282366920938463463374607431768211456:=by
 refine ⟨Int.mul_nonneg hx.1 hy.1, ?_⟩;have:=Int.mul_le_mul (show x<=18446744073709551615 by omega) (show y<=18446744073709551615 by omega) hy.1 (by decide)
 omega
theorem A8c {x y:Int} (hx:0<=x/\x<18446744073709551616) (hy:0<=y/\y<18446744073709551616):R5 x y=I5 (x*y):=by
 unfold R5;rw [C2N hx hy]
 rfl
def M9:List A8->Int
 | []=>0
 |p::l=>(if p.V<0 then 0 else p.V)+M9 l
def M8:List A8->Int
 | []=>0
 |p::l=>(if p.V<0 then-p.V else 0)+M8 l
theorem C5c (a b:List A8):M9 (a++b)=M9 a+M9 b:=by
 induction a with
 |nil=>simp [M9]
 |cons p a ih=>simp only [List.cons_append,M9,ih];omega
theorem C42 (a b:List A8):M8 (a++b)=M8 a+M8 b:=by
 induction a with
 |nil=>simp [M8]
 |cons p a ih=>simp only [List.cons_append,M8,ih];omega
def B5g (l:List A8):Prop:= ∀p∈l,-9223372036854775808<=p.V/\p.V<=9223372036854775807
theorem B9H (l:List A8) (h:B5g l):0<=M9 l/\M9 l<=l.length*9223372036854775808:=by
 induction l with
 |nil=>simp [M9]
 |cons p l ih=>
  have h1:=h p (by simp)
  have h2:=ih (fun q hq=>h q (by simp [hq]))
  simp only [M9,D4W];split<;>omega
theorem B9x (l:List A8) (h:B5g l):0<=M8 l/\M8 l<=l.length*9223372036854775808:=by
 induction l with
 |nil=>simp [M8]
 |cons p l ih=>
  have h1:=h p (by simp)
  have h2:=ih (fun q hq=>h q (by simp [hq]))
  simp only [M8,D4W];split<;>omega
theorem C1X {l:List A8} (h:B5g l) (i:Nat):B5g (l.take i):=fun p hp=>h p (List.mem_of_mem_take hp)
theorem C8X (l:List A8) {i:Nat} (hi:i<l.length):M9 (l.take (i+1))=M9 (l.take i)+(if l[i].V<0 then 0 else l[i].V):=by
 rw [List.take_succ_eq_append_getElem hi,C5c];simp [M9]
theorem C8C (l:List A8) {i:Nat} (hi:i<l.length):M8 (l.take (i+1))=M8 (l.take i)+(if l[i].V<0 then-l[i].V else 0):=by
 rw [List.take_succ_eq_append_getElem hi,C42];simp [M8]
theorem C4q (l:List A8) (h:B5g l) (hl:l.length<=100000):
  A4j l=some (if M8 l<=M9 l then (false,I5 (M9 l-M8 l)) else (true,I5 (M8 l-M9 l))):=by
 have hm:l.length<=maxLen:=by rw [I2];omega
 unfold A4j B4g;obtain ⟨r,hr,hQ⟩:=U5 (f:=fun s:Int×Int×Int×Int×Int=>A7Y l s.1 s.2.1 s.2.2.1 s.2.2.2.1 s.2.2.2.2)
  (fun s=> ∃i:Nat,i<=l.length/\s=((i:Int),(I5 (M9 (l.take i))).Hi,(I5 (M9 (l.take i))).Lo,(I5 (M8 (l.take i))).Hi,(I5 (M8 (l.take i))).Lo))
  (fun s=>l.length-s.1.toNat) (fun r=>r=(if M8 l<=M9 l then (false,I5 (M9 l-M8 l)) else (true,I5 (M8 l-M9 l)))) (0,0,0,0,0) ⟨0,Nat.zero_le _,rfl⟩ (by
   rintro _ ⟨i,hi,rfl⟩;simp only;have hP:=B9H (l.take i) (C1X h i);have hN:=B9x (l.take i) (C1X h i);have hlen:(l.take i).length<=100000:=by rw [D45];omega
   have oP:H7 (I5 (M9 (l.take i))):=Y9 hP.1 (by omega)
   have oN:H7 (I5 (M8 (l.take i))):=Y9 hN.1 (by omega)
   unfold A7Y
   by_cases hlt:i<l.length
   ·left;have hr:=h l[i] (D5s hlt);have e1:(⟨(I5 (M9 (l.take i))).Hi,(I5 (M9 (l.take i))).Lo⟩:A2)=I5 (M9 (l.take i)):=rfl;have e2:(⟨(I5 (M8 (l.take i))).Hi,(I5 (M8 (l.take i))).Lo⟩:A2)=I5 (M8 (l.take i)):=rfl;have oV:H7 (J8 (Y4 l[i].V)):=by
     rw [B5h hr.1 hr.2];unfold H7 J8;simp only;split<;>omega
    have vV:wv (J8 (Y4 l[i].V))=if l[i].V<0 then-l[i].V else l[i].V:=by
     rw [B5h hr.1 hr.2];unfold wv J8;simp only;split<;>omega
    refine ⟨((i:Int)+1,(I5 (M9 (l.take (i+1)))).Hi,(I5 (M9 (l.take (i+1)))).Lo,(I5 (M8 (l.take (i+1)))).Hi,(I5 (M8 (l.take (i+1)))).Lo), ?_,⟨i+1,hlt,by simp⟩,by show l.length-((i:Int)+1).toNat<l.length-(i:Int).toNat;omega⟩
    simp only [Int.ofNat_lt,hlt,decide_true,D4H,U1,L1 hlt,D4D,e1,e2,V4 hlt hm];rw [C8X l hlt,C8C l hlt]
    by_cases hv:l[i].V<0
    ·rw [B5m oN oV,vV,X7];simp only [if_pos hv];rw [if_pos (by omega)]
     simp only [D4I hv,D4H,D4D,Int.add_zero]
    ·rw [B5m oP oV,vV,X7];simp only [if_neg hv];rw [if_pos (by omega)]
     simp only [D4K hv,D4G,D4D,Int.add_zero]
   ·right;have hn: ¬((i:Int)<(l.length:Int)):=by omega
    have hi2:i=l.length:=by omega
    subst hi2;rw [List.take_length] at*
    have e1:(⟨(I5 (M9 l)).Hi,(I5 (M9 l)).Lo⟩:A2)=I5 (M9 l):=rfl;have e2:(⟨(I5 (M8 l)).Hi,(I5 (M8 l)).Lo⟩:A2)=I5 (M8 l):=rfl;simp only [hn,decide_false,D4G,e1,e2];rw [A8A oP oN,C4F oP oN,C4F oN oP,X7,X7]
    by_cases hc:M8 l<=M9 l
    ·rw [if_pos hc];have:decide ((if M9 l<M8 l then (-1:Int) else if M9 l=M8 l then 0 else 1)>=0)=true:=by
      rw [D4F];split
      ·omega
      ·split<;>omega
     rw [this,if_pos hc];exact ⟨_,rfl,rfl⟩
    ·rw [if_neg hc];have:decide ((if M9 l<M8 l then (-1:Int) else if M9 l=M8 l then 0 else 1)>=0)=false:=by
      rw [D4U,if_pos (by omega)];omega
     rw [this,if_neg hc,if_pos (by omega)]
     exact ⟨_,rfl,rfl⟩)
 rw [hr,hQ]
def fit (t:Int):Int×Bool:=if-9223372036854775808<=t/\t<=9223372036854775807 then (t,true) else (0,false)
theorem C77 (l:List A8) (h:B5g l) (hl:l.length<=100000):B3a l=some (fit (M9 l-M8 l)):=by
 have hP:=B9H l h;have hN:=B9x l h;unfold B3a;rw [C4q l h (by omega)]
 simp only [D4D]
 by_cases hc:M8 l<=M9 l
 ·rw [if_pos hc];unfold I5 fit;simp only [D4Q,Bool.and_true,D4G]
  by_cases hf:M9 l-M8 l<=9223372036854775807
  ·rw [if_pos (by omega)]
   have c:((((M9 l-M8 l)/18446744073709551616 !=0)||decide ((M9 l-M8 l)%18446744073709551616>9223372036854775808))||((M9 l-M8 l)%18446744073709551616==9223372036854775808))=false:=by
    simp only [D5d,bne_eq_false_iff_eq,D4U,D5t];omega
   rw [c,D4G]
   congr 2
   rw [C2]<;>omega
  ·rw [if_neg (by omega)]
   have c:((((M9 l-M8 l)/18446744073709551616 !=0)||decide ((M9 l-M8 l)%18446744073709551616>9223372036854775808))||((M9 l-M8 l)%18446744073709551616==9223372036854775808))=true:=by
    simp only [D4O,bne_iff_ne,D4F,D5x];omega
   rw [c];rfl
 ·rw [if_neg hc];unfold I5 fit;simp only [D4P,Bool.and_false,Bool.or_false,D4H]
  by_cases hf: -9223372036854775808<=M9 l-M8 l
  ·rw [if_pos (by omega)]
   have c:(((M8 l-M9 l)/18446744073709551616 !=0)||decide ((M8 l-M9 l)%18446744073709551616>9223372036854775808))=false:=by
    simp only [D5d,bne_eq_false_iff_eq,D4U];omega
   rw [c,D4G]
   congr 2
   rw [B2F,IntKind.wrap_u64];omega
  ·rw [if_neg (by omega)]
   have c:(((M8 l-M9 l)/18446744073709551616 !=0)||decide ((M8 l-M9 l)%18446744073709551616>9223372036854775808))=true:=by
    simp only [D4O,bne_iff_ne,D4F];omega
   rw [c];rfl
end Go.Win
set_option maxHeartbeats 4000000
namespace Go.Win
open Go.Vc Go.Dec
def nT:List A2->List Bool->Int
 |w::ws,b::bs=>(if b then wv w else 0)+nT ws bs
 |_,_=>0
theorem Q5 {α:Type} {b:Bool} {k:Option α} (h:b=true):ck b k=k:=by rw [h];rfl
def P7:List A8->Int
 | []=>0
 |p::l=>p.V*p.V+P7 l
theorem B5j (a b:List A8):P7 (a++b)=P7 a+P7 b:=by
 induction a with
 |nil=>simp [P7]
 |cons p a ih=>simp only [List.cons_append,P7,ih];omega
theorem B9Z (v:Int):0<=v*v:=by
 rcases Int.le_total 0 v with h|h
 ·exact Int.mul_nonneg h h
 ·exact Int.mul_nonneg_of_nonpos_of_nonpos h h
theorem B65 (l:List A8):0<=P7 l:=by
 induction l with
 |nil=>simp [P7]
 |cons p l ih=>have:=B9Z p.V;simp only [P7];omega
theorem C4f (l:List A8) {i:Nat} (hi:i<l.length):P7 (l.take (i+1))=P7 (l.take i)+l[i].V*l[i].V:=by
 rw [List.take_succ_eq_append_getElem hi,B5j];simp [P7]
theorem D0H (l:List A8) (i:Nat):P7 (l.take i)<=P7 l:=by
 have:=B5j (l.take i) (l.drop i);rw [List.take_append_drop] at this;have:=B65 (l.drop i);omega
theorem C2Y (v:Int):(if v<0 then-v else v)*(if v<0 then-v else v)=v*v:=by
 split
 ·exact Int.neg_mul_neg v v
 ·rfl
theorem C6T {v:Int} (h:-9223372036854775808<=v/\v<=9223372036854775807):B7v v v=fit (v*v):=by
 have hs:Y8 v=if v<0 then-v else v:=B5h h.1 h.2
 have hx:0<=Y8 v/\Y8 v<18446744073709551616:=by rw [hs];split<;>omega
 have hnn:=B9Z v;unfold B7v;simp only [beq_self_eq_true,D4P,D4G];rw [C2N hx hx,hs,C2Y];unfold B1n fit;simp only [beq_self_eq_true,D4P,D4G];have:=A7y hx hx;rw [hs,C2Y] at this
 by_cases hf:v*v<=9223372036854775807
 ·have c:((v*v/18446744073709551616 !=0)||decide (v*v%18446744073709551616>9223372036854775807))=false:=by
   simp only [D5d,bne_eq_false_iff_eq,D4U];omega
  rw [c,D4G,if_pos (by omega)]
  congr 1
  rw [C2]<;>omega
 ·have c:((v*v/18446744073709551616 !=0)||decide (v*v%18446744073709551616>9223372036854775807))=true:=by
   simp only [D4O,bne_iff_ne,D4F];omega
  rw [c,D4H,if_neg (by omega)]
theorem D1R {a b:Int} (ha:-9223372036854775808<=a/\a<=9223372036854775807) (hb:-9223372036854775808<=b/\b<=9223372036854775807):B7t a b=fit (a+b):=by
 unfold B7t fit;rw [B2F]
 by_cases hf: -9223372036854775808<=a+b/\a+b<=9223372036854775807
 ·rw [if_pos hf,show (a+b+9223372036854775808)%18446744073709551616-9223372036854775808=a+b by omega]
  have c:((decide (a>=0)==decide (b>=0))&& !(decide (a+b>=0)==decide (a>=0)))=false:=by
   by_cases x1:a>=0<;>by_cases x2:b>=0<;>by_cases x3:a+b>=0<;>simp [x1,x2,x3]<;>omega
  rw [c,D4G]
 ·rw [if_neg hf];have c:((decide (a>=0)==decide (b>=0))&& !(decide ((a+b+9223372036854775808)%18446744073709551616-9223372036854775808>=0)==decide (a>=0)))=true:=by
   by_cases x1:a>=0<;>by_cases x2:b>=0<;>by_cases x3:(a+b+9223372036854775808)%18446744073709551616-9223372036854775808>=0<;>simp [x1,x2,x3]<;>omega
  rw [c,D4H]
theorem C2d (l:List A8) (h:B5g l) (hl:l.length<=100000):A6R l=some (fit (P7 l)):=by
 have hm:l.length<=maxLen:=by rw [I2];omega
 unfold A6R B18;obtain ⟨r,hr,hQ⟩:=U5 (f:=fun s:Int×Int=>A58 l s.1 s.2)
  (fun s=> ∃i:Nat,i<=l.length/\s=(P7 (l.take i),(i:Int))/\P7 (l.take i)<=9223372036854775807)
  (fun s=>l.length-s.2.toNat) (fun r=>r=fit (P7 l)) (0,0) ⟨0,Nat.zero_le _,rfl,by simp [P7]⟩ (by
   rintro _ ⟨i,hi,rfl,hb⟩;simp only;have hnn:=B65 (l.take i);unfold A58
   by_cases hlt:i<l.length
   ·have hr:=h l[i] (D5s hlt);have hq:=B9Z l[i].V;have st:=C4f l hlt;have mo:=D0H l (i+1);simp only [Int.ofNat_lt,hlt,decide_true,D4H,U1,L1 hlt,D4D,V4 hlt hm,C6T hr]
    by_cases hf:l[i].V*l[i].V<=9223372036854775807
    ·have f1:fit (l[i].V*l[i].V)=(l[i].V*l[i].V,true):=by unfold fit;rw [if_pos (by omega)]
     rw [f1];simp only [D4P,D4G];rw [D1R (by omega) (by omega)]
     by_cases hg:P7 (l.take i)+l[i].V*l[i].V<=9223372036854775807
     ·left;have f2:fit (P7 (l.take i)+l[i].V*l[i].V)=(P7 (l.take i)+l[i].V*l[i].V,true):=by unfold fit;rw [if_pos (by omega)]
      rw [f2];refine ⟨_,rfl,⟨i+1,hlt,by simp only [<-st,Int.natCast_add,Int.cast_ofNat_Int],by omega⟩,by show l.length-((i:Int)+1).toNat<l.length-(i:Int).toNat;omega⟩
     ·right;have f2:fit (P7 (l.take i)+l[i].V*l[i].V)=(0,false):=by unfold fit;rw [if_neg (by omega)]
      have f3:fit (P7 l)=(0,false):=by unfold fit;rw [if_neg (by omega)]
      rw [f2,f3];exact ⟨_,rfl,rfl⟩
    ·right;have f2:fit (l[i].V*l[i].V)=(0,false):=by unfold fit;rw [if_neg (by omega)]
     have f3:fit (P7 l)=(0,false):=by unfold fit;rw [if_neg (by omega)]
     rw [f2,f3];exact ⟨_,rfl,rfl⟩
   ·right;have hn: ¬((i:Int)<(l.length:Int)):=by omega
    have hi2:i=l.length:=by omega
    subst hi2;rw [List.take_length] at*
    simp only [hn,decide_false,D4G];have f3:fit (P7 l)=(P7 l,true):=by unfold fit;rw [if_pos (by omega)]
    exact ⟨_,rfl,f3.symm⟩)
 rw [hr,hQ]
theorem C7r {n:Int} (h:E2 .i64 n): -9223372036854775808<=n/\n<=9223372036854775807:=by
 simp [E2,Lit.wf,IntKind.min,IntKind.max,IntKind.signed,IntKind.bits] at h;omega
end Go.Win
set_option maxHeartbeats 4000000
namespace Go.Win
open Go.Vc Go.Dec
theorem B7h:P3=R5:=rfl
theorem B4I:J8=R6:=rfl
theorem D2b (a b c:Int):(0*18446744073709551616+a)*(b*18446744073709551616+c)=(a*b)*18446744073709551616+a*c:=by grind
theorem D2c (a b c:Int):(b*18446744073709551616+c)*(0*18446744073709551616+a)=(a*b)*18446744073709551616+a*c:=by grind
theorem C9D {a b c d:Int} (ha:1<=a) (hb:0<=b) (hc:1<=c) (hd:0<=d):340282366920938463463374607431768211456<=(a*18446744073709551616+b)*(c*18446744073709551616+d):=by
 have:=Int.mul_le_mul (show 18446744073709551616<=a*18446744073709551616+b by omega) (show 18446744073709551616<=c*18446744073709551616+d by omega) (by decide) (by omega)
 simpa using this
theorem C8B {h a b c:Int} (ha:0<=a/\a<18446744073709551616) (hb:0<=b/\b<18446744073709551616) (hc:0<=c/\c<18446744073709551616):
  A9N h a b c=some (if (a*b)*18446744073709551616+a*c<340282366920938463463374607431768211456 then (I5 ((a*b)*18446744073709551616+a*c),true) else (⟨0,0⟩,false)):=by
 have p1:=A7y ha hb;have p2:=A7y ha hc;unfold A9N;simp only [B7h];rw [A8c ha hc,A8c ha hb]
 generalize a*b=m at*
 generalize a*c=n at*
 have e1:(I5 m).Hi=m/18446744073709551616:=rfl;have e2:(I5 m).Lo=m%18446744073709551616:=rfl;rw [e1,e2]
 by_cases hh:m<18446744073709551616
 ·have c1:(m/18446744073709551616 !=0)=false:=by rw [bne_eq_false_iff_eq];omega
  have oM:H7 (A2.mk (m%18446744073709551616) 0):=by unfold H7;simp only;omega
  have vM:wv (A2.mk (m%18446744073709551616) 0)=m*18446744073709551616:=by unfold wv;simp only;omega
  rw [c1,D4G,B5m (Y9 p2.1 p2.2) oM,X7,vM,Int.add_comm n];simp only [D4D]
 ·have c1:(m/18446744073709551616 !=0)=true:=by rw [bne_iff_ne];omega
  rw [c1,D4H,if_neg (by omega)]
theorem A9p {a b:A2} (ha:H7 a) (hb:H7 b):A1Z a b=some (if wv a*wv b<340282366920938463463374607431768211456 then (I5 (wv a*wv b),true) else (⟨0,0⟩,false)):=by
 obtain ⟨ah,al⟩:=a;obtain ⟨bh,bl⟩:=b;unfold H7 at ha hb;simp only at ha hb;unfold A1Z wv;simp only
 by_cases h1:ah=0
 ·subst h1;simp only [D5g,D48,D4G];rw [C8B (by omega) (by omega) (by omega),D2b]
 ·have c1:(ah !=0)=true:=by rw [bne_iff_ne];exact h1
  rw [c1]
  by_cases h2:bh=0
  ·subst h2;simp only [D5g,Bool.and_false,D4G,D4H];rw [C8B (by omega) (by omega) (by omega),D2c]
  ·have c2:(bh !=0)=true:=by rw [bne_iff_ne];exact h2
   have:=C9D (a:=ah) (b:=al) (c:=bh) (d:=bl) (by omega) (by omega) (by omega) (by omega)
   rw [c2,if_neg (by omega)]
   rfl
theorem B3h {n:Int} (h:0<=n/\n<18446744073709551616):H7 (R6 n):=by
 unfold H7 R6;simp only;omega
noncomputable def C3R (n:Int):Nat->A2->A2×Bool
 |0,w=>(w,true)
 |k+1,w=>if wv w*wv (R6 n)<340282366920938463463374607431768211456 then C3R n k (I5 (wv w*wv (R6 n))) else (⟨0,0⟩,false)
theorem B9v {a b:A2} (ha:H7 a) (hb:H7 b):0<=wv a*wv b:=Int.mul_nonneg (A7n ha).1 (A7n hb).1
theorem C5R {n:Int} (hn:0<=n/\n<18446744073709551616): ∀(k:Nat) (w:A2),H7 w->H7 (C3R n k w).1
 |0,_,h=>h
 |k+1,w,h=>by
  unfold C3R;split
  ·exact C5R hn k _ (Y9 (B9v h (B3h hn)) (by assumption))
  ·unfold H7;simp
theorem C2J {n:Int} (hn:0<=n/\n<18446744073709551616) (k:Nat): ∀(w:A2),(k:Int)<=9223372036854775807->H7 w->A6H n (k:Int) w.Hi w.Lo=some (C3R n k w):=by
 induction k with
 |zero=>
  intro w _ h;unfold A6H;rw [S3 (r:=(w,true))]
  ·rfl
  ·have c1:decide (((0:Nat):Int)>0)=false:=by rw [D4U];omega
   simp only [A8z,c1,D4G]
   rfl
 |succ k ih0=>
  intro w hk h;have ih:=fun w' h' =>ih0 w' (by omega) h'
  unfold A6H at ih⊢;have c1:decide (((k+1:Nat):Int)>0)=true:=by rw [D4F];omega
  have e1:(⟨w.Hi,w.Lo⟩:A2)=w:=rfl;have hw:A1 (((k+1:Nat):Int)-1)=(k:Int):=by rw [C2]<;>omega
  unfold C3R
  by_cases hf:wv w*wv (R6 n)<340282366920938463463374607431768211456
  ·rw [if_pos hf,N8 (s' :=((k:Int),(I5 (wv w*wv (R6 n))).Hi,(I5 (wv w*wv (R6 n))).Lo))]
   ·exact ih _ (Y9 (B9v h (B3h hn)) hf)
   ·simp only [A8z,c1,D4H,e1,B4I,A9p h (B3h hn),if_pos hf,D4D,D4P,D4G,hw]
  ·rw [if_neg hf,S3 (r:=(⟨0,0⟩,false))];simp only [A8z,c1,D4H,e1,B4I,A9p h (B3h hn),if_neg hf,D4D,D4Q]
theorem C3L:H7 (A2.mk 0 1):=by unfold H7;simp
theorem U8 (n:Int):0<=A4 n/\A4 n<18446744073709551616:=by rw [L7];omega
end Go.Win
set_option maxHeartbeats 4000000
namespace Go.Win
open Go.Vc Go.Dec
theorem B9z {m:A6} (h1:-4096<=m.Bt/\m.Bt<=4096) (h2:-4096<=m.Bs/\m.Bs<=4096) (agg:Int):T3 m agg=A47 m agg:=by
 have e1:(B7w m.Bs m.Bt).1=m.Bs-m.Bt:=by
  unfold B7w;rw [C2 (n:=m.Bs-m.Bt) (by omega) (by omega)]
  cases hb:((!((decide (m.Bs>=(0:Int)))==(decide (m.Bt>=(0:Int)))))&&(!((decide (m.Bs-m.Bt>=(0:Int)))==(decide (m.Bs>=(0:Int)))))) with
  |false=>rfl
  |true=>
   simp only [D4L,D4Z,D5t,ne_eq] at hb;obtain ⟨g1,g2⟩:=hb
   by_cases a1:m.Bs>=0<;>by_cases a2:m.Bt>=0<;>by_cases a3:m.Bs-m.Bt>=0<;>simp [a1,a2,a3] at g1 g2<;>omega
 have e2:A46 m.Bs m.Bt=(m.Bs-m.Bt,true):=by
  unfold A46;have:((decide (m.Bt<0)&&decide (m.Bs>A1 (9223372036854775807+m.Bt)))||(decide (m.Bt>0)&&decide (m.Bs<A1 (-9223372036854775808+m.Bt))))=false:=by
   by_cases g1:m.Bt<0
   ·rw [C2 (n:=9223372036854775807+m.Bt) (by omega) (by omega)]
    simp;omega
   ·by_cases g2:m.Bt>0
    ·rw [C2 (n:= -9223372036854775808+m.Bt) (by omega) (by omega)]
     simp;omega
    ·simp;omega
  rw [this,D4G,C2]<;>omega
 unfold T3 A47;rw [e2];simp only [e1,D4H]
 rfl
theorem B4k (w k c n:Int):A5w w k c n=true↔(1<=w/\w<=1048576)/\(1<=c/\c<=65536)/\(0<=n/\n<=16777216)/\(1<=k/\k<=64):=by
 unfold A5w;simp;omega
def A7h (w k c n:Int):Prop:=(1<=w/\w<=1048576)/\(1<=c/\c<=65536)/\(0<=n/\n<=16777216)/\(1<=k/\k<=64)
def B3R (x:C9):Prop:=(1<=x.Bo/\x.Bo<=4)/\A7h x.W x.K x.Cap x.Now/\A4o x.Bf x.Bv x.Cap x.Now x.W (S8 x.Bo)/\
 ∀i,i<x.Bf.length->(2<=i-> ¬M3 (el x.Bf (i-2)) (el x.Bf i) x.Bo x.K=true)/\
  (1<=i->(el x.Bf i).Bv-(el x.Bf (i-1)).Bv>1->M3 (el x.Bf (i-1)) (el x.Bf i) x.Bo x.K=true)
theorem A6w {l:List A6} {seq cap now w lo:Int} (hlo:-4096<=lo) (h:A4o l seq cap now w lo) {i:Nat} (hi:i<l.length):
  (1<=(el l i).Bv/\(el l i).Bv<=1099511627776)/\(-4096<=(el l i).Bt/\(el l i).Bt<=4096)/\(-4096<=(el l i).Bs/\(el l i).Bs<=4096):=by
 have h1:=h.2.1 i hi;unfold B6J mk1 mk2 at h1;have:=h.1;omega
theorem A4F (x:C9) (hl:x.Bf.length<=maxLen):Z2 x=some (vOf (B3R x)):=by
 unfold Z2;simp only []
 by_cases h1:(1<=x.Bo/\x.Bo<=4)/\A7h x.W x.K x.Cap x.Now
 ·have e1:A0E x.Bo x.W x.K x.Cap x.Now=true:=by
   unfold A0E;simp only [(B4k _ _ _ _).2 h1.2,Bool.and_true,D4L,D4F];exact h1.1
  rw [e1,B76 _ _ _ _ _ _ hl];simp only [D4P,D4Q,I0,D4D,D44]
  by_cases h2:A4o x.Bf x.Bv x.Cap x.Now x.W (S8 x.Bo)
  ·rw [A1r h2,D4P,D4G];unfold A95;have H:=A0b (f:=fun s:Int=>A14 x s) x.Bf.length (fun i=> ¬((2<=i-> ¬M3 (el x.Bf (i-2)) (el x.Bf i) x.Bo x.K=true)/\
     (1<=i->(el x.Bf i).Bv-(el x.Bf (i-1)).Bv>1->M3 (el x.Bf (i-1)) (el x.Bf i) x.Bo x.K=true))) 2 (some 0)
    (fun i hi _=>by
     unfold A14;rw [D4I (by omega:(i:Int)<(x.Bf.length:Int)),D4H,K0 hi,D4D,A0F hi hl]
     simp only [];have key: ∀j,j+1=i->A1 ((el x.Bf i).Bv-(el x.Bf j).Bv)=(el x.Bf i).Bv-(el x.Bf j).Bv:=by
      intro j hj;have g1:=A6w (A3O _) h2 hi;have g2:=A6w (A3O _) h2 (show j<x.Bf.length by omega)
      rw [C2]<;>omega
     have key1:1<=i->C1 x.Bf (A1 ((i:Int)-1))=some (el x.Bf (i-1)):=fun h=>by rw [B1q (by omega) (Nat.le_of_lt hi) hl,K0 (by omega)]
     have key2:2<=i->C1 x.Bf (A1 ((i:Int)-2))=some (el x.Bf (i-2)):=fun h=>by
      have:A1 ((i:Int)-2)=((i-2:Nat):Int):=by rw [I2] at hl;rw [C2]<;>omega
      rw [this,K0 (by omega)]
     by_cases g1:1<=i
     ·rw [D4I (by omega:(i:Int)>=1),key1 g1]
      simp only [I0,D4D,D5e,key (i-1) (by omega)]
      by_cases g3:(el x.Bf i).Bv-(el x.Bf (i-1)).Bv>1
      ·simp only [g3,decide_true,I0,D4D,D5e]
       by_cases g2:2<=i
       ·rw [D4I (by omega:(i:Int)>=2),key2 g2]
        simp only [I0,D4D,D5e,B4Q];refine T7 ?_;simp only [g1,g2,D4O,D4Z];cases M3 (el x.Bf (i-2)) (el x.Bf i) x.Bo x.K<;>cases M3 (el x.Bf (i-1)) (el x.Bf i) x.Bo x.K<;>simp
       ·rw [D4K (by omega: ¬(i:Int)>=2)]
        simp only [K7,D4D,D48,D4G];refine T7 ?_;simp only [g1,g2,D4Z];cases M3 (el x.Bf (i-1)) (el x.Bf i) x.Bo x.K<;>simp
      ·simp only [g3,decide_false,K7,D4D,D48,D4G]
       by_cases g2:2<=i
       ·rw [D4I (by omega:(i:Int)>=2),key2 g2]
        simp only [I0,D4D,D5e];refine T7 ?_;simp [g1,g2]
       ·rw [D4K (by omega: ¬(i:Int)>=2)]
        simp only [K7,D4D,D48,D4G];exact ⟨fun h=>absurd ⟨fun h2=>absurd h2 g2,fun _ h3=>h3.elim⟩ h,fun _=>trivial⟩
     ·rw [D4K (by omega: ¬(i:Int)>=2),D4K (by omega: ¬(i:Int)>=1)]
      simp only [K7,D4D,D48,D4G];exact ⟨fun h=>absurd ⟨fun h2=>absurd h2 (by omega),fun h3=>absurd h3 g1⟩ h,fun _=>trivial⟩)
    (fun _=>by
     unfold A14;rw [D4K (D46 _),D4G])
   by_cases h3: ∀i,i<x.Bf.length->((2<=i-> ¬M3 (el x.Bf (i-2)) (el x.Bf i) x.Bo x.K=true)/\
     (1<=i->(el x.Bf i).Bv-(el x.Bf (i-1)).Bv>1->M3 (el x.Bf (i-1)) (el x.Bf i) x.Bo x.K=true))
   ·rw [H.2 fun i hi hn=>hn (h3 i hi),O8];exact ⟨h1.1,h1.2,h2,h3⟩
   ·rw [H.1 (A5z h3),J1];exact fun h=>h3 h.2.2.2
  ·rw [V5 h2,J1 fun h=>h2 h.2.2.1]
   rfl
 ·have e1:A0E x.Bo x.W x.K x.Cap x.Now=false:=by
   rw [D4T];intro h;unfold A0E at h;simp only [D4L,D4F,B4k] at h;exact h1 h
  rw [e1,J1 fun h=>h1 ⟨h.1,h.2.1⟩]
  rfl
end Go.Win
set_option maxHeartbeats 4000000
namespace Go.Win
open Go.Vc Go.Dec
theorem B93 {n:Int} (h:E2 .u64 n):0<=n/\n<18446744073709551616:=by
 simp [E2,Lit.wf,IntKind.min,IntKind.max,IntKind.signed,IntKind.bits] at h;omega
theorem C6q:R1=A4c:=rfl
def A6z (m:A6):Prop:=(1<=m.N/\m.N<=65536)/\(-(m.N*4096)<=m.S/\m.S<=m.N*4096)/\(0<=m.Q/\m.Q<=m.N*16777216)/\m.S*m.S<=m.N*m.Q
theorem B3q {m:A6} (h1:1<=m.N/\m.N<=65536) (h2:-(m.N*4096)<=m.S/\m.S<=m.N*4096) (h3:0<=m.Q/\m.Q<=m.N*16777216):
  (0<=m.S*m.S/\m.S*m.S<=72057594037927936)/\(0<=m.N*m.Q/\m.N*m.Q<=72057594037927936):=by
 have e2:(m.S.natAbs:Int)*m.S.natAbs=m.S*m.S:=Int.natAbs_mul_self;have h6:m.S.natAbs*m.S.natAbs<=268435456*268435456:=Nat.mul_le_mul (by omega) (by omega)
 have h7:((m.S.natAbs*m.S.natAbs:Nat):Int)=(m.S.natAbs:Int)*m.S.natAbs:=by rw [Int.natCast_mul]
 have hq:m.N*m.Q<=65536*1099511627776:=Int.mul_le_mul h1.2 (by omega) h3.1 (by omega)
 have hq0:0<=m.N*m.Q:=Int.mul_nonneg (by omega) h3.1
 omega
theorem A91 (m:A6):A2H m=true↔A6z m:=by
 unfold A2H A6z
 by_cases h1:1<=m.N/\m.N<=65536
 ·have e0:IntKind.i64.wrap (0-m.N)= -m.N:=by
   show A1 (0-m.N)=_;rw [C2]<;>omega
  rw [e0,C2 (n:= -m.N*4096) (by omega) (by omega),C2 (n:=m.N*4096) (by omega) (by omega),C2 (n:=m.N*4096*4096) (by omega) (by omega)]
  simp only [D4L,D4F];constructor
  ·rintro ⟨⟨⟨⟨⟨_,h2⟩,h3⟩,h4⟩,h5⟩,h6⟩;have:=B3q h1 (by omega) (by omega)
   rw [C2 (by omega) (by omega),C2 (by omega) (by omega)] at h6
   exact ⟨h1,by omega,by omega,h6⟩
  ·rintro ⟨_,h2,h3,h4⟩;have:=B3q h1 h2 h3;rw [C2 (n:=m.S*m.S) (by omega) (by omega),C2 (n:=m.N*m.Q) (by omega) (by omega)]
   exact ⟨⟨⟨⟨⟨by omega,by omega⟩,by omega⟩,by omega⟩,by omega⟩,h4⟩
 ·simp only [D4L,D4F];constructor
  ·rintro ⟨⟨⟨⟨⟨h,_⟩,_⟩,_⟩,_⟩,_⟩;exact absurd h h1
  ·rintro ⟨h,_⟩;exact absurd h h1
theorem C32 (m:A6):A3s m=A2H m:=by
 unfold A3s A2H;cases h:((((((decide (m.N<(1:Int)))||(decide (m.N>(65536:Int))))||(decide (m.S<(A1 ((IntKind.i64.wrap (0-m.N))*(4096:Int))))))||(decide (m.S>(A1 (m.N*(4096:Int))))))||(decide (m.Q<(0:Int))))||(decide (m.Q>(A1 ((A1 (m.N*(4096:Int)))*(4096:Int)))))) with
 |true=>
  rw [D4H]
  symm
  rw [D4T];intro h2;simp only [D4O,D4F] at h;simp only [D4L,D4F] at h2;omega
 |false=>
  rw [D4G];simp only [D5d,D4U] at h;rw [D4Y];simp only [D4L,D4F];omega
theorem C17 {a b:A2} (ha:H7 a) (hb:H7 b) (h:wv a*wv b<340282366920938463463374607431768211456):A1Z a b=some (I5 (wv a*wv b),true):=by
 rw [A9p ha hb,if_pos h]
def A6o (m:A6):Int:=m.N*m.Q-m.S*m.S
theorem C1b {m:A6} (h:A6z m):0<=A6o m/\A6o m<=72057594037927936:=by
 have:=B3q h.1 h.2.1 h.2.2.1;have h4:=h.2.2.2;unfold A6o;omega
theorem C4o {m:A6} (h:A6z m):A5O m=A6o m:=by
 have:=B3q h.1 h.2.1 h.2.2.1;have h4:=h.2.2.2;unfold A5O A6o;rw [C2 (n:=m.N*m.Q) (by omega) (by omega),C2 (n:=m.S*m.S) (by omega) (by omega),C2]<;>omega
theorem A9O {n:Int} (h0:0<=n) (h1:n<18446744073709551616):A4 n=n:=by rw [L7];omega
def B4e (a b:A6) (k:Int):Prop:=A6z a/\A6z b/\(1<=k/\k<=64)/\ ¬6*k*b.N<(6*k-1)*a.N/\A6o a*b.N*(6*k-1)<=A6o b*a.N*(6*k)
theorem A7w {a b A B:Int} (h1:0<=a/\a<=A) (h2:0<=b/\b<=B):0<=a*b/\a*b<=A*B:=
 ⟨Int.mul_nonneg h1.1 h2.1,Int.mul_le_mul h1.2 h2.2 h2.1 (Int.le_trans h1.1 h1.2)⟩
theorem C0i {x y:Int} (hx:0<=x/\x<18446744073709551616) (hy:0<=y/\y<18446744073709551616):H7 (R5 x y)/\wv (R5 x y)=x*y:=by
 rw [A8c hx hy];have:=A7y hx hy;exact ⟨Y9 this.1 this.2,X7 _⟩
theorem C4I {n:Int} (h:0<=n/\n<18446744073709551616):H7 (R6 n)/\wv (R6 n)=n:=by
 refine ⟨B3h h, ?_⟩;show 0*18446744073709551616+n=n;omega
theorem B64 (a b:A6) (k:Int):A5d a b k=some (bOf (B4e a b k)):=by
 unfold A5d;simp only [C32]
 by_cases h1:A6z a/\A6z b/\(1<=k/\k<=64)
 ·obtain ⟨ha,hb,hk⟩:=h1;rw [(A91 a).2 ha,(A91 b).2 hb];have e:(((!true|| !true)||decide (k<1))||decide (k>64))=false:=by simp;omega
  rw [e,D4G];have ea:=ha.1;have eb:=hb.1;have n1:=A7w (a:=6*k) (A:=384) (b:=b.N) (B:=65536) (by omega) (by omega)
  have n2:=A7w (a:=6*k-1) (A:=383) (b:=a.N) (B:=65536) (by omega) (by omega)
  rw [C2 (n:=6*k) (by omega) (by omega),C2 (n:=6*k-1) (by omega) (by omega),C2 (n:=6*k*b.N) (by omega) (by omega),C2 (n:=(6*k-1)*a.N) (by omega) (by omega)]
  by_cases h2:6*k*b.N<(6*k-1)*a.N
  ·rw [D4I h2,D4H,V5 fun h=>h.2.2.2.1 h2]
  ·have ta:=C1b ha;have tb:=C1b hb;rw [D4K h2,D4G,C4o ha,C4o hb,A9O (n:=A6o b) (by omega) (by omega),A9O (n:=A6o a) (by omega) (by omega),A9O (n:=a.N) (by omega) (by omega),A9O (n:=b.N) (by omega) (by omega),
    A9O (n:=6*k) (by omega) (by omega),A9O (n:=6*k-1) (by omega) (by omega),B7h,B4I]
   have x1:=C0i (x:=A6o b) (y:=a.N) (by omega) (by omega)
   have x2:=C4I (n:=6*k) (by omega)
   have y1:=C0i (x:=A6o a) (y:=b.N) (by omega) (by omega)
   have y2:=C4I (n:=6*k-1) (by omega)
   have m1:=A7w (a:=A6o b) (b:=a.N) (A:=72057594037927936) (B:=65536) tb (by omega)
   have m2:=A7w (a:=A6o a) (b:=b.N) (A:=72057594037927936) (B:=65536) ta (by omega)
   have m3:=A7w (a:=A6o b*a.N) (b:=6*k) (B:=384) m1 (by omega)
   have m4:=A7w (a:=A6o a*b.N) (b:=6*k-1) (B:=383) m2 (by omega)
   rw [C17 x1.1 x2.1 (by rw [x1.2,x2.2];omega),D4D,C17 y1.1 y2.1 (by rw [y1.2,y2.2];omega),D4D,x1.2,x2.2,y1.2,y2.2]
   rw [A8A (Y9 m3.1 (by omega)) (Y9 m4.1 (by omega)),X7,X7]
   congr 1
   rw [D4Y,A0W,D4F];unfold B4e;constructor
   ·intro h;refine ⟨ha,hb,hk,h2, ?_⟩;split at h
    ·omega
    ·split at h<;>omega
   ·rintro ⟨_,_,_,_,h⟩;split
    ·omega
    ·split<;>omega
 ·have e:(((!A2H a|| !A2H b)||decide (k<1))||decide (k>64))=true:=by
   rw [D4O,D4O,D4O,D4Z,D4Z,D4T,D4T,Ne,Ne,A91,A91,D4F,D4F]
   by_cases g1:A6z a
   ·by_cases g2:A6z b
    ·have: ¬(1<=k/\k<=64):=fun h=>h1 ⟨g1,g2,h⟩;omega
    ·exact .inl (.inl (.inr g2))
   ·exact .inl (.inl (.inl g1))
  rw [e,D4H,V5 fun h=>h1 ⟨h.1,h.2.1,h.2.2.1⟩]
def B8K (x:D1):Prop:=A7h x.W x.K x.Cap x.Now/\A4o x.Bf x.Bv x.Cap x.Now x.W (-4096)/\
 ∀i,2<=i->i<x.Bf.length-> ¬B4e (el x.Bf (i-2)) (el x.Bf i) x.K
theorem D0b {R:Type} {f:Int->Option (Int⊕R)} (n:Nat) (bad:Nat->Prop) (E:R) (A:Option R)
  (hs:∀i:Nat,2<=i->i<n->(bad i->f (i:Int)=some (.inr E))/\(¬bad i->f (i:Int)=some (.inl ((i+1:Nat):Int))))
  (hd:∀i:Nat,n<=i->f (i:Int)=Option.map Sum.inr A):
  ((∃i,2<=i/\i<n/\bad i)->loop f 2=some E)/\((∀i,2<=i->i<n-> ¬bad i)->loop f 2=A):=by
 by_cases h:2<=n
 ·exact A5u (f:=f) (fun i=>(i:Int)) 2 n h bad E A (fun i h1 h2 _=>hs i h1 h2) (fun _=>hd n (D5l _))
 ·refine ⟨fun ⟨i,h1,h2,_⟩=>by omega,fun _=> ?_⟩
  have:=hd 2 (by omega)
  rw [A3n];rw [show ((2:Nat):Int)=2 from rfl] at this;rw [this];cases A<;>rfl
theorem A4G (x:D1) (hl:x.Bf.length<=maxLen):Z3 x=some (vOf (B8K x)):=by
 unfold Z3;simp only []
 by_cases h1:A7h x.W x.K x.Cap x.Now
 ·rw [(B4k _ _ _ _).2 h1,B76 _ _ _ _ _ _ hl];simp only [D4P,D4Q,I0,D4D,D44]
  by_cases h2:A4o x.Bf x.Bv x.Cap x.Now x.W (-4096)
  ·rw [A1r h2,D4P,D4G];unfold A96;have H:=D0b (f:=fun s:Int=>A2c x s) x.Bf.length (fun i=>B4e (el x.Bf (i-2)) (el x.Bf i) x.K) 2 (some 0)
    (fun i h2 hi=>by
     unfold A2c;have:A1 ((i:Int)-2)=((i-2:Nat):Int):=by rw [I2] at hl;rw [C2]<;>omega
     rw [D4I (by omega:(i:Int)<(x.Bf.length:Int)),D4H,this,K0 hi,K0 (by omega),D4D,D4D,B64,D4D,A0F hi hl]
     exact T7 A0W)
    (fun i hi=>by
     unfold A2c;rw [D4K (by omega: ¬(i:Int)<(x.Bf.length:Int)),D4G])
   by_cases h3: ∀i,2<=i->i<x.Bf.length-> ¬B4e (el x.Bf (i-2)) (el x.Bf i) x.K
   ·rw [H.2 h3,O8 ⟨h1,h2,h3⟩]
   ·rw [H.1,J1 fun h=>h3 h.2.2];exact D5y fun hn=>h3 fun i a b c=>hn ⟨i,a,b,c⟩
  ·rw [V5 h2,J1 fun h=>h2 h.2.1]
   rfl
 ·rw [D4T.2 fun h=>h1 ((B4k _ _ _ _).1 h),J1 fun h=>h1 h.1]
  rfl
def C0z (x:E0):Prop:=((0<=x.P/\x.P<=4)/\(0<=x.Now/\x.Now<=16777216)/\(0<=x.Bj/\x.Bj<=x.Now)/\(x.Ag.length:Int)=x.P+1)/\
 ∀i:Nat,1<=i->(i:Int)<=x.P->wv (el x.Ag (i-1))<=wv (el x.Ag i)/\
  (wv (el x.Ag (i-1))*(x.Now-x.Bj+1)<340282366920938463463374607431768211456->wv (el x.Ag i)<=wv (el x.Ag (i-1))*(x.Now-x.Bj+1))
theorem C1R (x:E0):((((((decide (x.P<(0:Int)))||(decide (x.P>(4:Int))))||(!(G8 x.Now)))||(decide (x.Bj<(0:Int))))||(decide (x.Bj>x.Now)))||((x.Ag.length:Int) !=(A1 (x.P+(1:Int)))))=true↔
  ¬((0<=x.P/\x.P<=4)/\(0<=x.Now/\x.Now<=16777216)/\(0<=x.Bj/\x.Bj<=x.Now)/\(x.Ag.length:Int)=x.P+1):=by
 simp only [D4O,D4F,D4Z,bne_iff_ne];rw [D4T,Ne,A7E]
 by_cases h:0<=x.P/\x.P<=4
 ·rw [C2 (by omega) (by omega)];omega
 ·omega
theorem D0a {R:Type} {f:Int->Option (Int⊕R)} (P:Nat) (bad:Nat->Prop) (E:R) (A:Option R)
  (hs:∀i:Nat,1<=i->i<=P->(bad i->f (i:Int)=some (.inr E))/\(¬bad i->f (i:Int)=some (.inl ((i+1:Nat):Int))))
  (hd:f ((P+1:Nat):Int)=Option.map Sum.inr A):
  ((∃i,1<=i/\i<=P/\bad i)->loop f 1=some E)/\((∀i,1<=i->i<=P-> ¬bad i)->loop f 1=A):=by
 have:=A5u (f:=f) (fun i=>(i:Int)) 1 (P+1) (by omega) bad E A (fun i h1 h2 _=>hs i h1 (by omega)) (fun _=>hd)
 exact ⟨fun ⟨i,h1,h2,h3⟩=>this.1 ⟨i,h1,by omega,h3⟩,fun h=>this.2 fun i h1 h2=>h i h1 (by omega)⟩
theorem D2K {a b:A2} (ha:H7 a) (hb:H7 b):decide (A4c a b>0)=decide (wv b<wv a):=by
 rw [<-C6q,A8A ha hb,D4Y,D4F,D4F];split
 ·omega
 ·split<;>omega
theorem C50 {a b:A2} (ha:H7 a) (hb:H7 b):decide (R1 a b>0)=decide (wv b<wv a):=D2K ha hb
def C6o (x:E0) (i:Nat):Prop:= ¬(wv (el x.Ag (i-1))<=wv (el x.Ag i)/\
  (wv (el x.Ag (i-1))*(x.Now-x.Bj+1)<340282366920938463463374607431768211456->wv (el x.Ag i)<=wv (el x.Ag (i-1))*(x.Now-x.Bj+1)))
theorem D0s {x:E0} (h1:(0<=x.P/\x.P<=4)/\(0<=x.Now/\x.Now<=16777216)/\(0<=x.Bj/\x.Bj<=x.Now)/\(x.Ag.length:Int)=x.P+1):
  H7 (R6 (A4 (A1 (A1 (x.Now-x.Bj)+1))))/\wv (R6 (A4 (A1 (A1 (x.Now-x.Bj)+1))))=x.Now-x.Bj+1:=by
 rw [C2 (n:=x.Now-x.Bj) (by omega) (by omega),C2 (by omega) (by omega),A9O (by omega) (by omega)]
 exact C4I (by omega)
theorem D0f {a b:A2} (ha:H7 a) (hb:H7 b): ∃r,A1Z a b=some r/\r.2=decide (wv a*wv b<340282366920938463463374607431768211456)/\H7 r.1/\(r.2=true->wv r.1=wv a*wv b):=by
 by_cases h:wv a*wv b<340282366920938463463374607431768211456
 ·exact ⟨(I5 (wv a*wv b),true),by rw [A9p ha hb,if_pos h],(D4I h).symm,Y9 (B9v ha hb) h,fun _=>X7 _⟩
 ·exact ⟨(⟨0,0⟩,false),by rw [A9p ha hb,if_neg h],(D4K h).symm,by unfold H7;simp,fun h=>by cases h⟩
theorem A6U (x:E0) (hw:∀w∈x.Ag,H7 w):A1e x=some (vOf (C0z x)):=by
 unfold A1e;have et:B3k x.Now=G8 x.Now:=rfl;simp only [et]
 by_cases h1:(0<=x.P/\x.P<=4)/\(0<=x.Now/\x.Now<=16777216)/\(0<=x.Bj/\x.Bj<=x.Now)/\(x.Ag.length:Int)=x.P+1
 ·rw [D4T.2 fun h=>(C1R x).1 h h1,D4G];unfold B2p;have hp:x.P=(x.P.toNat:Int):=by omega
  have H:=D0a (f:=fun s:Int=>A2W x (J8 (A4 (A1 (A1 (x.Now-x.Bj)+1)))) s) x.P.toNat (C6o x) 2 (some 0)
   (fun i g1 g2=>by
    unfold A2W;have ew:A1 ((i:Int)-1)=((i-1:Nat):Int):=by rw [C2]<;>omega
    have es:A1 ((i:Int)+1)=((i+1:Nat):Int):=by rw [C2]<;>omega
    obtain ⟨o1,o2⟩:=D0s h1;have oi:=hw _ (L8 (show i<x.Ag.length by omega))
    have oj:=hw _ (L8 (show i-1<x.Ag.length by omega))
    obtain ⟨r,m1,m3,m4,m5⟩:=D0f oj o1;rw [D4I (by omega:(i:Int)<=x.P),D4H,ew,es,K0 (by omega),K0 (by omega),B4I]
    simp only [D4D,m1,C50 oj oi];rw [o2] at m3 m5;unfold C6o
    by_cases q1:wv (el x.Ag (i-1))<=wv (el x.Ag i)
    ·rw [D4K (by omega),D4G,m3]
     by_cases q2:wv (el x.Ag (i-1))*(x.Now-x.Bj+1)<340282366920938463463374607431768211456
     ·have q3:=m5 (by rw [m3];exact D4I q2)
      rw [D4I q2];simp only [I0,D4D,D5e,C50 oi m4,q3];refine T7 ?_;rw [D4F];simp only [q1,q2,true_and,true_implies,forall_const];omega
     ·rw [D4K q2];simp only [K7,D4D,D48,D4G];exact ⟨fun h=>absurd ⟨q1,fun h=>absurd h q2⟩ h,fun _=>trivial⟩
    ·rw [D4I (by omega),D4H]
     exact ⟨fun _=>rfl,fun h=>absurd (fun h2=>q1 h2.1) h⟩)
   (by
    unfold A2W;rw [D4K (by omega),D4G])
  by_cases h2: ∀i,1<=i->i<=x.P.toNat-> ¬C6o x i
  ·rw [H.2 h2,O8];exact ⟨h1,fun i a b=>D5y fun h=>h2 i a (by omega) h⟩
  ·rw [H.1,J1]
   ·exact fun h=>h2 fun i a b c=>c (h.2 i a (by omega))
   ·exact D5y fun hn=>h2 fun i a b c=>hn ⟨i,a,b,c⟩
 ·rw [(C1R x).2 h1,D4H,J1 fun h=>h1 h.1]
def C0y (x:F1):Prop:=((1<=(x.Bn.length:Int)/\(x.Bn.length:Int)<=64)/\(0<=x.Now/\x.Now<=16777216))/\
 ∀i,i<x.Bn.length->(0<=el x.Bn i/\el x.Bn i<=1099511627776)/\(x.Now<(i:Int)->el x.Bn i=0)
theorem A5t (x:F1) (hl:x.Bn.length<=maxLen):A0t x=some (vOf (C0y x)):=by
 unfold A0t
 by_cases h1:(1<=(x.Bn.length:Int)/\(x.Bn.length:Int)<=64)/\(0<=x.Now/\x.Now<=16777216)
 ·have e:((((decide ((x.Bn.length:Int)<(1:Int)))||(decide ((x.Bn.length:Int)>(64:Int))))||(decide (x.Now<(0:Int))))||(decide (x.Now>(16777216:Int))))=false:=by
   rw [D4T];simp only [D4O,D4F,Ne];omega
  rw [e,D4G];unfold B0W;have H:=A0b (f:=fun s:Int=>A2F x s) x.Bn.length (fun i=> ¬((0<=el x.Bn i/\el x.Bn i<=1099511627776)/\(x.Now<(i:Int)->el x.Bn i=0))) 2 (some 0)
   (fun i hi _=>by
    unfold A2F;rw [D4I (by omega:(i:Int)<(x.Bn.length:Int)),D4H,K0 hi,D4D,A0F hi hl]
    refine T7 ?_;simp only [D4O,D4L,D4F,bne_iff_ne];omega)
   (fun _=>by
    unfold A2F;rw [D4K (D46 _),D4G])
  by_cases h2: ∀i,i<x.Bn.length->(0<=el x.Bn i/\el x.Bn i<=1099511627776)/\(x.Now<(i:Int)->el x.Bn i=0)
  ·rw [H.2 fun i hi hn=>hn (h2 i hi),O8 ⟨h1,h2⟩]
  ·rw [H.1 (A5z h2),J1 fun h=>h2 h.2]
 ·have e:((((decide ((x.Bn.length:Int)<(1:Int)))||(decide ((x.Bn.length:Int)>(64:Int))))||(decide (x.Now<(0:Int))))||(decide (x.Now>(16777216:Int))))=true:=by
   simp only [D4O,D4F];omega
  rw [e,D4H,J1 fun h=>h1 h.1]
def B2k (x:B8):Prop:=(((1<=x.W/\x.W<=1048576)/\(1<=x.Cap/\x.Cap<=65536)/\(0<=x.Now/\x.Now<=16777216))/\(x.Bb.length:Int)<=x.Cap)/\
 ∀i,i<x.Bb.length->(F7 x.Now x.W (el x.Bb i).T=true/\ -4096<=(el x.Bb i).V/\(el x.Bb i).V<=4096)/\
  (1<=i->(el x.Bb (i-1)).T<(el x.Bb i).T/\W6 x.Bs (el x.Bb i).V (el x.Bb (i-1)).V=false)
theorem C3B (a b c:Int):A4V a b c=M7 a b c:=by
 rw [D4Y,B4p];unfold A4V;simp;omega
theorem A3M (x:B8) (hl:x.Bb.length<=maxLen):X0 x=some (vOf (B2k x)):=by
 unfold X0;simp only [C3B]
 by_cases h1:((1<=x.W/\x.W<=1048576)/\(1<=x.Cap/\x.Cap<=65536)/\(0<=x.Now/\x.Now<=16777216))/\(x.Bb.length:Int)<=x.Cap
 ·rw [(B4p _ _ _).2 h1.1,D4K (by omega),D4P,D44,D4G]
  unfold A8C;have H:=A0b (f:=fun s:Int=>A1u x s) x.Bb.length (fun i=> ¬((F7 x.Now x.W (el x.Bb i).T=true/\ -4096<=(el x.Bb i).V/\(el x.Bb i).V<=4096)/\
    (1<=i->(el x.Bb (i-1)).T<(el x.Bb i).T/\W6 x.Bs (el x.Bb i).V (el x.Bb (i-1)).V=false))) 2 (some 0)
   (fun i hi _=>by
    unfold A1u;rw [D4I (by omega:(i:Int)<(x.Bb.length:Int)),D4H,K0 hi,D4D,A0F hi hl]
    simp only [A04]
    by_cases g1:F7 x.Now x.W (el x.Bb i).T=true/\ -4096<=(el x.Bb i).V/\(el x.Bb i).V<=4096
    ·have e:(((!(F7 x.Now x.W (el x.Bb i).T))||(decide ((el x.Bb i).V<(-4096:Int))))||(decide ((el x.Bb i).V>(4096:Int))))=false:=by
      rw [g1.1,D4T];simp only [D4O,D4F,Ne,D4P,Bool.false_eq_true,or_false,false_or];omega
     rw [e,D4G];rcases i with _|i
     ·have e4:decide (((0:Nat):Int)>0)=false:=rfl;rw [e4];simp only [D48,K7,D4D,D4G];exact ⟨fun h=>absurd ⟨g1,fun h=>absurd h (by decide)⟩ h,fun _=>trivial⟩
     ·have e4:decide (((i+1:Nat):Int)>0)=true:=D4I (by omega)
      rw [e4,B1q (by omega) (Nat.le_of_lt hi) hl,D5k,K0 (by omega)]
      simp only [I0,D4D,D5e]
      by_cases g2:(el x.Bb i).T>=(el x.Bb (i+1)).T
      ·simp only [g2,decide_true,D5n,D4P,K7,D4D,D4H];refine ⟨fun _=>trivial,fun h=>absurd (fun h2=> ?_) h⟩;have:=(h2.2 (by omega)).1
       omega
      ·simp only [g2,decide_false,D44,D4Q,I0,D4D];refine T7 ?_;simp only [g1,true_and,show 1<=i+1 from by omega,true_implies]
       have:(el x.Bb i).T<(el x.Bb (i+1)).T:=by omega
       simp [this]
    ·have e:(((!(F7 x.Now x.W (el x.Bb i).T))||(decide ((el x.Bb i).V<(-4096:Int))))||(decide ((el x.Bb i).V>(4096:Int))))=true:=by
      cases hv:F7 x.Now x.W (el x.Bb i).T with
      |false=>rfl
      |true=>rw [hv] at g1;simp only [true_and] at g1;simp only [D4O,D4F];omega
     rw [e,D4H];exact ⟨fun _=>rfl,fun h=>absurd (fun h2=>g1 h2.1) h⟩)
   (fun _=>by
    unfold A1u;rw [D4K (D46 _),D4G])
  by_cases h2: ∀i,i<x.Bb.length->(F7 x.Now x.W (el x.Bb i).T=true/\ -4096<=(el x.Bb i).V/\(el x.Bb i).V<=4096)/\
    (1<=i->(el x.Bb (i-1)).T<(el x.Bb i).T/\W6 x.Bs (el x.Bb i).V (el x.Bb (i-1)).V=false)
  ·rw [H.2 fun i hi hn=>hn (h2 i hi),O8 ⟨h1,h2⟩]
  ·rw [H.1 (A5z h2),J1 fun h=>h2 h.2]
 ·have e:((!(M7 x.W x.Cap x.Now))||(decide ((x.Bb.length:Int)>x.Cap)))=true:=by
   rw [D4O,D4Z,D4T,Ne,B4p,D4F];omega
  rw [e,D4H,J1 fun h=>h1 h.1]
end Go.Win
set_option maxHeartbeats 4000000
namespace Go.Win
open Go.Vc Go.Dec
def A1N (c:B5):Prop:=(1<=c.Bi/\c.Bi<=11)/\
 ((c.Bi=6\/c.Bi=10->c.W=0)/\(c.Bi=7->1<=c.W/\c.W<=64)/\(c.Bi≠6/\c.Bi≠10/\c.Bi≠7->1<=c.W/\c.W<=1048576))/\
 ((c.Bi=6\/c.Bi=7->c.Cap=0)/\(c.Bi=9->1<=c.Cap/\c.Cap<=64)/\(c.Bi=10->2<=c.Cap/\c.Cap<=65536)/\(c.Bi≠6/\c.Bi≠7/\c.Bi≠9/\c.Bi≠10->1<=c.Cap/\c.Cap<=65536))/\
 ((c.Bi=1\/c.Bi=6\/c.Bi=7\/c.Bi=8\/c.Bi=9->c.K=0)/\(c.Bi≠1/\c.Bi≠6/\c.Bi≠7/\c.Bi≠8/\c.Bi≠9->1<=c.K/\c.K<=64))/\
 ((c.Bi=4->1<=c.Bo/\c.Bo<=4)/\(c.Bi≠4->c.Bo=0))/\
 ((c.Bi=6->0<=c.P/\c.P<=4)/\(c.Bi≠6->c.P=0))/\
 ((c.Bi=9->1<=c.Am/\c.Am<=16)/\(c.Bi≠9->c.Am=0))/\
 ((c.Bi=3->1<=c.Bs/\c.Bs<=1024)/\(c.Bi=8->0<=c.Bs/\c.Bs<=1)/\(c.Bi≠3/\c.Bi≠8->c.Bs=0))
open Classical in
noncomputable def vCf (p:Prop):Int:=if p then 0 else 1
theorem B94 {p:Prop} (h:p):vCf p=0:=by unfold vCf;rw [if_pos h]
theorem C2R {p:Prop} (h:¬p):vCf p=1:=by unfold vCf;rw [if_neg h]
theorem C9K {b:Bool} {p:Prop} (h:b=true↔ ¬p):cond b (1:Int) 0=vCf p:=by
 cases b with
 |true=>rw [C2R (h.1 rfl)];rfl
 |false=>rw [B94 (D5y fun hn=>absurd (h.2 hn) (by decide))];rfl
theorem A2x (c:B5):V7 c=vCf (A1N c):=by
 obtain ⟨k,agg,w,kk,cap,p,ch,mx⟩:=c
 by_cases hk:1<=k/\k<=11
 ·have:k=1\/k=2\/k=3\/k=4\/k=5\/k=6\/k=7\/k=8\/k=9\/k=10\/k=11:=by omega
  rcases this with h|h|h|h|h|h|h|h|h|h|h<;>subst h<;>
   simp only [V7,W3,A2w,A10,A0X,A0Y,A0Z,A00,A01,A02,A03,
    B3,F3,A9,beq_self_eq_true,D5e,Bool.and_true,D4H,D4G,show ((1:Int)==2)=false from rfl,show ((1:Int)==3)=false from rfl,show ((1:Int)==4)=false from rfl,show ((1:Int)==5)=false from rfl,show ((1:Int)==6)=false from rfl,show ((1:Int)==7)=false from rfl,show ((1:Int)==8)=false from rfl,show ((1:Int)==9)=false from rfl,show ((1:Int)==10)=false from rfl,show ((1:Int)==11)=false from rfl,
    show ((2:Int)==3)=false from rfl,show ((2:Int)==4)=false from rfl,show ((2:Int)==6)=false from rfl,show ((2:Int)==7)=false from rfl,show ((2:Int)==9)=false from rfl,show ((2:Int)==10)=false from rfl,
    show ((3:Int)==6)=false from rfl,show ((3:Int)==7)=false from rfl,show ((3:Int)==9)=false from rfl,show ((3:Int)==10)=false from rfl,
    show ((4:Int)==3)=false from rfl,show ((4:Int)==6)=false from rfl,show ((4:Int)==7)=false from rfl,show ((4:Int)==9)=false from rfl,show ((4:Int)==10)=false from rfl,
    show ((5:Int)==2)=false from rfl,show ((5:Int)==3)=false from rfl,show ((5:Int)==4)=false from rfl,show ((5:Int)==6)=false from rfl,show ((5:Int)==7)=false from rfl,show ((5:Int)==9)=false from rfl,show ((5:Int)==10)=false from rfl,
    show ((7:Int)==6)=false from rfl,
    show ((8:Int)==2)=false from rfl,show ((8:Int)==3)=false from rfl,show ((8:Int)==4)=false from rfl,show ((8:Int)==5)=false from rfl,show ((8:Int)==6)=false from rfl,show ((8:Int)==7)=false from rfl,show ((8:Int)==9)=false from rfl,show ((8:Int)==10)=false from rfl,show ((8:Int)==11)=false from rfl,
    show ((9:Int)==6)=false from rfl,show ((9:Int)==7)=false from rfl,show ((10:Int)==6)=false from rfl,show ((10:Int)==7)=false from rfl,show ((10:Int)==9)=false from rfl,
    show ((11:Int)==2)=false from rfl,show ((11:Int)==3)=false from rfl,show ((11:Int)==4)=false from rfl,show ((11:Int)==5)=false from rfl,show ((11:Int)==6)=false from rfl,show ((11:Int)==7)=false from rfl,show ((11:Int)==9)=false from rfl,show ((11:Int)==10)=false from rfl,
    show (decide ((1048576:Int)>0))=true from rfl,show (decide ((64:Int)>0))=true from rfl,show (decide ((0:Int)>0))=false from rfl]<;>
   refine C9K ?_<;>unfold A1N<;>simp [-not_and,-Classical.not_imp]<;>omega
 ·rw [C2R fun h=>hk h.1];have e: ∀n:Int,1<=n->n<=11->(k==n)=false:=fun n h1 h2=>by rw [D5t];omega
  unfold V7 W3;simp only [e 6 (by decide) (by decide),e 7 (by decide) (by decide),e 9 (by decide) (by decide),e 10 (by decide) (by decide),e 3 (by decide) (by decide),e 4 (by decide) (by decide),e 2 (by decide) (by decide),e 5 (by decide) (by decide),e 11 (by decide) (by decide),e 8 (by decide) (by decide),e 1 (by decide) (by decide),D4G]
end Go.Win
set_option maxHeartbeats 4000000
namespace Go.Win
open Go.Vc Go.Dec
def A0i (n k:Int):Int:=max 1 (n/k)
theorem C4k {n k:Int} (hn:0<=n) (hk:1<=k):Int.tdiv n k=n/k/\0<=n/k/\n/k<=n:=by
 refine ⟨Int.tdiv_eq_ediv_of_nonneg hn,Int.ediv_nonneg hn (by omega), ?_⟩
 exact Int.ediv_le_self k hn
theorem D1M {n k:Int} (hn:0<=n/\n<=1099511627776) (hk:1<=k):A3t n k=some (A0i n k):=by
 obtain ⟨h1,h2,h3⟩:=C4k hn.1 hk;unfold A3t A0i;rw [D4I (by omega),A2o,h1,C2 (by omega) (by omega)]
 congr 1
 show (if n/k>1 then n/k else 1)=max 1 (n/k)
 split<;>omega
theorem C8x {n k:Int} (hn:0<=n/\n<=1099511627776) (hk:1<=k):1<=A0i n k/\A0i n k<=1099511627776/\(1<=n->A0i n k<=n):=by
 obtain ⟨h1,h2,h3⟩:=C4k hn.1 hk;unfold A0i;omega
def A3W (l:List D9) (i:Nat):Int:=((l.take i).map (·.G)).sum
theorem C12 (l:List D9):A3W l 0=0:=by simp [A3W]
theorem C11 {l:List D9} {i:Nat} (h:i<l.length):A3W l (i+1)=A3W l i+(el l i).G:=by
 unfold A3W;rw [List.take_add_one,A5n h];simp
def C3G (l:List D9) (M:Int) (i:Nat):Prop:=(-4096<=(el l i).V/\(el l i).V<=4096)/\(1<=(el l i).G/\0<=(el l i).D/\(el l i).G+(el l i).D<=M)/\(1<=i->(el l (i-1)).V<=(el l i).V)
def B2f (x:B9):Prop:=(1<=x.K/\x.K<=64)/\(2<=x.Cap/\x.Cap<=65536)/\(0<=x.N/\x.N<=1099511627776)/\(x.Av.length:Int)<=x.Cap
def C0A (x:B9):Prop:=B2f x/\(x.Av.length=0↔x.N=0)/\(∀i,i<x.Av.length->C3G x.Av (A0i x.N x.K) i)/\
 (0<x.Av.length->(el x.Av 0).G=1/\(el x.Av 0).D=0/\(el x.Av (x.Av.length-1)).D=0/\A3W x.Av x.Av.length=x.N)
theorem D0I {l:List D9} {M:Int} (hM:M<=1099511627776) (hl:l.length<=65536): ∀i,i<=l.length->(∀j,j<i->C3G l M j)->(i:Int)<=A3W l i/\A3W l i<=i*1099511627776:=by
 intro i
 induction i with
 |zero=>intro _ _;rw [C12];omega
 |succ i ih=>
  intro hi h;have h1:=ih (by omega) fun j hj=>h j (by omega)
  have h2:=(h i (by omega)).2.1
  rw [C11 (by omega)]
  omega
theorem A3Z (x:B9):X1 x=some (vOf (C0A x)):=by
 unfold X1
 by_cases h1:B2f x
 ·have h1' :=h1;unfold B2f at h1';have e:(((((((decide (x.K<(1:Int)))||(decide (x.K>(64:Int))))||(decide (x.Cap<(2:Int))))||(decide (x.Cap>(65536:Int))))||(decide (x.N<(0:Int))))||(decide (x.N>(1099511627776:Int))))||(decide ((x.Av.length:Int)>x.Cap)))=false:=by
   rw [D4T];simp only [D4O,D4F,Ne];omega
  rw [e,D4G];have hl:x.Av.length<=65536:=by omega
  have hm:x.Av.length<=maxLen:=by rw [I2];omega
  by_cases hN:x.N=0
  ·have eN:(x.N==0)=true:=by rw [hN];rfl
   rw [eN,D4H]
   by_cases h0:0<x.Av.length
   ·rw [D4I (by omega),D4H,J1]
    intro h;have:=h.2.1;omega
   ·rw [D4K (by omega),D4G,O8]
    exact ⟨h1,⟨fun _=>hN,fun _=>by omega⟩,fun i hi=>absurd hi (by omega),fun h=>absurd h h0⟩
  ·have eN:(x.N==0)=false:=by rw [D5t];exact hN
   rw [eN,D4G]
   by_cases h0:0<x.Av.length
   ·have e0:((x.Av.length:Int)==0)=false:=by rw [D5t];omega
    rw [e0,D4G,D1M h1'.2.2.1 h1'.1.1,D4D];have hM:=C8x (n:=x.N) (k:=x.K) h1'.2.2.1 h1'.1.1;unfold A8L;have H:=A5u (f:=fun s:Int×Int=>A1z x (A0i x.N x.K) s.1 s.2) (fun i=>(A3W x.Av i,(i:Int))) 0 x.Av.length (Nat.zero_le _) (fun i=> ¬C3G x.Av (A0i x.N x.K) i) 2
     (some (vOf ((el x.Av 0).G=1/\(el x.Av 0).D=0/\(el x.Av (x.Av.length-1)).D=0/\A3W x.Av x.Av.length=x.N)))
     (fun i _ hi hp=>by
      simp only [];unfold A1z;have hs:=D0I (l:=x.Av) hM.2.1 hl i (by omega) fun j hj=>D5y fun hn=>hp j (Nat.zero_le _) hj hn
      rw [D4I (by omega:(i:Int)<(x.Av.length:Int)),D4H,K0 hi,D4D,A0F hi hm]
      unfold C3G
      by_cases g1: -4096<=(el x.Av i).V/\(el x.Av i).V<=4096
      ·have e1:(decide ((el x.Av i).V< -4096)||decide ((el x.Av i).V>4096))=false:=by simp;omega
       rw [e1];have key: ∀P:Prop,((((decide ((el x.Av i).G<(1:Int)))||(decide ((el x.Av i).D<(0:Int))))||(decide ((el x.Av i).G>(A0i x.N x.K))))||(decide ((el x.Av i).D>(A1 ((A0i x.N x.K)-(el x.Av i).G)))))=true↔ ¬(1<=(el x.Av i).G/\0<=(el x.Av i).D/\(el x.Av i).G+(el x.Av i).D<=A0i x.N x.K):=by
        intro _;simp only [D4O,D4F]
        by_cases q:1<=(el x.Av i).G/\(el x.Av i).G<=A0i x.N x.K
        ·rw [C2 (by omega) (by omega)];omega
        ·omega
       have keyw:(1<=(el x.Av i).G/\0<=(el x.Av i).D/\(el x.Av i).G+(el x.Av i).D<=A0i x.N x.K)->A1 (A3W x.Av i+(el x.Av i).G)=A3W x.Av (i+1):=by
        intro q;rw [C11 hi,C2]<;>omega
       have fin: ∀(c1:Bool) (P1:Prop),(c1=true↔ ¬P1)->
         (¬((-4096<=(el x.Av i).V/\(el x.Av i).V<=4096)/\(1<=(el x.Av i).G/\0<=(el x.Av i).D/\(el x.Av i).G+(el x.Av i).D<=A0i x.N x.K)/\P1)->
          (cond c1 (some (.inr 2)) (cond ((((decide ((el x.Av i).G<(1:Int)))||(decide ((el x.Av i).D<(0:Int))))||(decide ((el x.Av i).G>(A0i x.N x.K))))||(decide ((el x.Av i).D>(A1 ((A0i x.N x.K)-(el x.Av i).G))))) (some (.inr 2)) (some (.inl (A1 (A3W x.Av i+(el x.Av i).G),((i+1:Nat):Int))))):Option ((Int×Int)⊕Int))=some (.inr 2))/\
         (¬ ¬((-4096<=(el x.Av i).V/\(el x.Av i).V<=4096)/\(1<=(el x.Av i).G/\0<=(el x.Av i).D/\(el x.Av i).G+(el x.Av i).D<=A0i x.N x.K)/\P1)->
          (cond c1 (some (.inr 2)) (cond ((((decide ((el x.Av i).G<(1:Int)))||(decide ((el x.Av i).D<(0:Int))))||(decide ((el x.Av i).G>(A0i x.N x.K))))||(decide ((el x.Av i).D>(A1 ((A0i x.N x.K)-(el x.Av i).G))))) (some (.inr 2)) (some (.inl (A1 (A3W x.Av i+(el x.Av i).G),((i+1:Nat):Int))))):Option ((Int×Int)⊕Int))=some (.inl (A3W x.Av (i+1),((i+1:Nat):Int)))):=by
        intro c1 P1 hc
        by_cases q:1<=(el x.Av i).G/\0<=(el x.Av i).D/\(el x.Av i).G+(el x.Av i).D<=A0i x.N x.K
        ·rw [D4T.2 fun h=>(key True).1 h q,D4G,keyw q];refine T7 ?_;rw [hc];exact ⟨fun h1 h2=>h1 h2.2.2,fun h1 h2=>h1 ⟨g1,q,h2⟩⟩
        ·rw [(key True).2 q,D4H];have:(cond c1 (some (.inr 2)) (some (.inr 2)):Option ((Int×Int)⊕Int))=some (.inr 2):=by cases c1<;>rfl
         rw [this];exact ⟨fun _=>rfl,fun h=>absurd (fun h2=>q h2.2.1) h⟩
       rcases i with _|i
       ·have e4:decide (((0:Nat):Int)>0)=false:=rfl;rw [e4];simp only [Bool.and_false,K7,D4D,D48,Bool.or_false];exact fin false _ ⟨fun h=>(by cases h),fun h=>absurd (fun h2=>absurd h2 (by decide)) h⟩
       ·have e4:decide (((i+1:Nat):Int)>0)=true:=D4I (by omega)
        rw [e4,B1q (by omega) (Nat.le_of_lt hi) hm,D5k,K0 (by omega)]
        simp only [D4Q,Bool.and_true,I0,D4D,D5e,D44];refine fin _ _ ?_;rw [D4F];constructor
        ·intro h1 h2;have:=h2 (by omega);omega
        ·intro h1;exact Int.not_le.1 fun h2=>h1 fun _=>h2
      ·have e1:(decide ((el x.Av i).V< -4096)||decide ((el x.Av i).V>4096))=true:=by simp;omega
       rw [e1];simp only [D4P,D48,K7,D4D,D5n,D4H];exact ⟨fun _=>trivial,fun h=>absurd (fun h2=>g1 h2.1) h⟩)
     (fun hp=>by
      simp only [];unfold A1z;rw [D4K (D46 _),D4G]
      congr 1
      rw [A7r h0,D4D,B1q h0 (D5l _) hm,K0 (by omega),D4D]
      by_cases q:(el x.Av 0).G=1/\(el x.Av 0).D=0/\(el x.Av (x.Av.length-1)).D=0/\A3W x.Av x.Av.length=x.N
      ·rw [O8 q];obtain ⟨q1,q2,q3,q4⟩:=q;rw [q1,q2,q3,q4];simp
      ·rw [J1 q];have:(((A3W x.Av x.Av.length !=x.N||(el x.Av 0).G !=1)||(el x.Av 0).D !=0)||(el x.Av (x.Av.length-1)).D !=0)=true:=by
        simp only [D4O,bne_iff_ne];omega
       rw [this];rfl)
    rw [show ((0:Int),(0:Int))=(A3W x.Av 0,((0:Nat):Int)) from by rw [C12];rfl]
    by_cases h2: ∀i,i<x.Av.length->C3G x.Av (A0i x.N x.K) i
    ·rw [H.2 fun i _ hi hn=>hn (h2 i hi)]
     congr 1
     by_cases q:(el x.Av 0).G=1/\(el x.Av 0).D=0/\(el x.Av (x.Av.length-1)).D=0/\A3W x.Av x.Av.length=x.N
     ·rw [O8 q,O8];exact ⟨h1,⟨fun h=>by omega,fun h=>absurd h hN⟩,h2,fun _=>q⟩
     ·rw [J1 q,J1];exact fun h=>q (h.2.2.2 h0)
    ·obtain ⟨i,hi,hn⟩:=A5z h2;rw [H.1 ⟨i,Nat.zero_le _,hi,hn⟩,J1];exact fun h=>h2 h.2.2.1
   ·have e0:((x.Av.length:Int)==0)=true:=by rw [show x.Av.length=0 by omega];rfl
    rw [e0,D4H,J1];intro h;have:=h.2.1;omega
 ·have e:(((((((decide (x.K<(1:Int)))||(decide (x.K>(64:Int))))||(decide (x.Cap<(2:Int))))||(decide (x.Cap>(65536:Int))))||(decide (x.N<(0:Int))))||(decide (x.N>(1099511627776:Int))))||(decide ((x.Av.length:Int)>x.Cap)))=true:=by
   unfold B2f at h1;simp only [D4O,D4F];omega
  rw [e,D4H,J1 fun h=>h1 h.1]
end Go.Win
set_option maxHeartbeats 4000000
namespace Go.Win
open Go.Vc Go.Dec
theorem bla (f:Nat): ∀x:Nat,x<2^f->x≠0->1<=Lib.bitLenAux f x/\2^(Lib.bitLenAux f x-1)<=x/\x<2^Lib.bitLenAux f x:=by
 induction f with
 |zero=>intro x h h0;simp at h;exact absurd h h0
 |succ f ih=>
  intro x h h0;unfold Lib.bitLenAux;rw [if_neg h0]
  by_cases h1:x/2=0
  ·have:x=1:=by omega
   subst this;have e:Lib.bitLenAux f (1/2)=0:=by cases f<;>simp [Lib.bitLenAux]
   rw [e];simp
  ·have:=ih (x/2) (by rw [Nat.pow_succ] at h;omega) h1
   obtain ⟨b1,b2,b3⟩:=this
   generalize Lib.bitLenAux f (x/2)=b at*
   refine ⟨by omega, ?_, ?_⟩
   ·obtain ⟨c,rfl⟩: ∃c,b=c+1:=⟨b-1,by omega⟩
    rw [show 1+(c+1)-1=c+1 by omega,Nat.pow_succ]
    rw [show c+1-1=c by omega] at b2
    omega
   ·rw [Nat.add_comm,Nat.pow_succ];omega
theorem A34 {x:Int} (h0:0<x) (h1:x<18446744073709551616): ∃b:Nat,W1 x=some (b:Int)/\1<=b/\b<=64/\(2:Int)^(b-1)<=x/\x<2^b:=by
 obtain ⟨n,rfl⟩:=Int.eq_ofNat_of_zero_le (by omega:0<=x)
 have hb:=bla 64 n (by have:(2:Nat)^64=18446744073709551616:=by decide
                       omega) (by omega)
 refine ⟨Lib.bitLen n, ?_,hb.1, ?_, ?_, ?_⟩
 ·unfold W1;rw [Q5 (by rw [D4F];omega),D5j]
 ·have:Lib.bitLen n-1<64:=by
   refine (Nat.pow_lt_pow_iff_right (a:=2) (by decide)).1 (Nat.lt_of_le_of_lt hb.2.1 ?_)
   have:(2:Nat)^64=18446744073709551616:=by decide
   omega
  omega
 ·have:=hb.2.1
  exact_mod_cast this
 ·have:=hb.2.2
  exact_mod_cast this
theorem B8D {a b k:Nat} (hb:b<2^k) (h:a*2^k+b<18446744073709551616):Q6 .u64 ((a*2^k:Nat):Int) (b:Int)=((a*2^k+b:Nat):Int):=by
 show IntKind.u64.wrap _=_;have hbits:IntKind.u64.bits=64:=rfl;rw [hbits,IntKind.wrap_u64,BitVec.toNat_or,BitVec.toNat_ofInt,BitVec.toNat_ofInt];have e1:((((a*2^k:Nat):Int)%((2^64:Nat):Int)).toNat)=a*2^k:=by omega
 have e2:(((b:Int)%((2^64:Nat):Int)).toNat)=b:=by omega
 rw [e1,e2];have e3:a*2^k|||b=a*2^k+b:=by
  rw [<-Nat.shiftLeft_eq,Nat.shiftLeft_add_eq_or_of_lt hb]
 rw [e3];omega
theorem B7q (x:Int) {k:Nat} (hk:k<=64):E7 .u64 x (k:Int)=(x*2^k)%18446744073709551616:=by
 show IntKind.u64.wrap (x*2^(min (k:Int).toNat IntKind.u64.bits))=_;have:min (k:Int).toNat IntKind.u64.bits=k:=by
  have hbits:IntKind.u64.bits=64:=rfl;rw [hbits,D5j];omega
 rw [this,IntKind.wrap_u64]
theorem B4m (x:Int) {k:Nat} (hk:k<=64):F8 .u64 x (k:Int)=x/2^k:=by
 show x.fdiv (2^(min (k:Int).toNat IntKind.u64.bits))=_;have:min (k:Int).toNat IntKind.u64.bits=k:=by
  have hbits:IntKind.u64.bits=64:=rfl;rw [hbits,D5j];omega
 rw [this,Int.fdiv_eq_ediv_of_nonneg _ (Int.le_of_lt (Int.pow_pos (by decide)))]
noncomputable def C6K (a:A2) (k:Nat):A2×Bool:=
 if wv a*2^k<340282366920938463463374607431768211456 then (I5 (wv a*2^k),true) else (⟨0,0⟩,false)
theorem C97 {h l k:Nat} (hk:k<=63) (hl:l<18446744073709551616) (hno:((h:Int)*18446744073709551616+l)*2^k<340282366920938463463374607431768211456):
  (⟨Q6 .u64 (E7 .u64 (h:Int) (k:Int)) (F8 .u64 (l:Int) ((64-k:Nat):Int)),E7 .u64 (l:Int) (k:Int)⟩:A2)=I5 (((h:Int)*18446744073709551616+l)*2^k):=by
 have hP:((2:Int)^k)=((2^k:Nat):Int):=by simp
 have hQ:((2:Int)^(64-k))=((2^(64-k):Nat):Int):=by simp
 have hPQ:2^(64-k)*2^k=18446744073709551616:=by
  rw [<-Nat.pow_add,show 64-k+k=64 by omega]
 rw [B7q _ (by omega),B7q _ (by omega),B4m _ (by omega)]
 rw [hP] at hno⊢;rw [hQ];have e:((h:Int)*18446744073709551616+l)*((2^k:Nat):Int)=((h*2^k:Nat):Int)*18446744073709551616+((l*2^k:Nat):Int):=by
  rw [Int.natCast_mul,Int.natCast_mul];grind
 have d1:l/2^(64-k)=(l*2^k)/18446744073709551616:=by
  rw [<-hPQ,Nat.mul_div_mul_right _ _ (Nat.two_pow_pos k)]
 have d2:l/2^(64-k)<2^k:=by
  rw [Nat.div_lt_iff_lt_mul (Nat.two_pow_pos _),Nat.mul_comm,hPQ];exact hl
 rw [e] at hno⊢;have c1:(h:Int)*((2^k:Nat):Int)=((h*2^k:Nat):Int):=by rw [Int.natCast_mul]
 have c2:(l:Int)*((2^k:Nat):Int)=((l*2^k:Nat):Int):=by rw [Int.natCast_mul]
 have c3:(l:Int)/((2^(64-k):Nat):Int)=((l/2^(64-k):Nat):Int):=by rw [Int.natCast_ediv]
 rw [c1,c2,c3];have c4:((h*2^k:Nat):Int)%18446744073709551616=((h*2^k:Nat):Int):=by omega
 rw [c4,B8D d2 (by rw [d1];omega),d1]
 unfold I5
 congr 1<;>omega
theorem A0v (k:Nat):(0:Int)<2^k:=Int.pow_pos (by decide)
theorem C8c {h b k:Nat} (hb:1<=b) (h1:2^(b-1)<=h) (h2:h<2^b):(k+b<=64->(h+1)*2^k<=18446744073709551616)/\(64<k+b->18446744073709551616<=h*2^k):=by
 have e:(2:Nat)^64=18446744073709551616:=by decide
 refine ⟨fun hk=> ?_,fun hk=> ?_⟩
 ·have:=D41 (2^k) (show h+1<=2^b by omega)
  rw [<-Nat.pow_add] at this;have h3:=Nat.pow_le_pow_right (n:=2) (by decide) (show b+k<=64 by omega)
  omega
 ·have:=D41 (2^k) h1;rw [<-Nat.pow_add] at this;have h3:=Nat.pow_le_pow_right (n:=2) (by decide) (show 64<=b-1+k by omega)
  omega
theorem C9o {a:A2} (ha:H7 a) {k:Nat} (hk:k<=63):A3C a (k:Int)=some (C6K a k):=by
 obtain ⟨h,l⟩:=a;unfold H7 at ha;simp only at ha;obtain ⟨h,rfl⟩:=Int.eq_ofNat_of_zero_le ha.1;obtain ⟨l,rfl⟩:=Int.eq_ofNat_of_zero_le ha.2.2.1;unfold A3C C6K;have c0:decide ((k:Int)<0)=false:=by rw [D4U];omega
 have wvE:wv ⟨(h:Int),(l:Int)⟩=(h:Int)*18446744073709551616+l:=rfl;rw [c0,D4G,wvE];have e2:((h:Int)*18446744073709551616+l)*((2^k:Nat):Int)=((h*2^k:Nat):Int)*18446744073709551616+((l*2^k:Nat):Int):=by
  rw [Int.natCast_mul,Int.natCast_mul];grind
 have hP:((2:Int)^k)=((2^k:Nat):Int):=by simp
 have lP:=Nat.mul_lt_mul_of_pos_right (show l<18446744073709551616 by omega) (Nat.two_pow_pos k)
 have kP:=Nat.pow_le_pow_right (n:=2) (by decide) hk
 have c63:(2:Nat)^63=9223372036854775808:=by decide
 have ck1:decide ((k:Int)>=64)=false:=by rw [D4U];omega
 have wk:A4 (k:Int)=(k:Int):=by rw [L7];omega
 have w1:A1 (64-(k:Int))=((64-k:Nat):Int):=by rw [C2]<;>omega
 have w2:A4 ((64-k:Nat):Int)=((64-k:Nat):Int):=by rw [L7];omega
 have tail: ∀(_:((h:Int)*18446744073709551616+l)*2^k<340282366920938463463374607431768211456),
   (cond (decide ((k:Int)>=(64:Int))) (
    ck (decide (0<=(A4 (A1 ((k:Int)-(64:Int))))))<|
    some ((A2.mk (E7 .u64 (l:Int) (A4 (A1 ((k:Int)-(64:Int))))) (0:Int)),true))<|
   ck (decide (0<=(A4 (k:Int))))<|
   ck (decide (0<=(A4 (A1 ((64:Int)-(k:Int))))))<|
   ck (decide (0<=(A4 (k:Int))))<|
   some ((A2.mk (Q6 .u64 (E7 .u64 (h:Int) (A4 (k:Int))) (F8 .u64 (l:Int) (A4 (A1 ((64:Int)-(k:Int)))))) (E7 .u64 (l:Int) (A4 (k:Int)))),true))
   =some (I5 (((h:Int)*18446744073709551616+l)*2^k),true):=by
  intro hno;rw [ck1,D4G,wk,w1,w2,Q5 (by rw [D4F];omega),Q5 (by rw [D4F];omega),Q5 (by rw [D4F];omega),C97 hk (by omega) hno]
 by_cases hz:h=0/\l=0
 ·obtain ⟨rfl,rfl⟩:=hz;simp [N9,I5]
 ·have z:N9 ⟨(h:Int),(l:Int)⟩=false:=by
   unfold N9;simp only [D5u,D5t];omega
  simp only [z,D4G];unfold A7G
  by_cases hh:h=0
  ·subst hh;obtain ⟨b,b1,b2,b3,_,_⟩:=A34 (x:=(l:Int)) (by omega) (by omega)
   have c1:(((0:Nat):Int) !=0)=false:=rfl;have c2:decide ((k:Int)>A1 (128-(b:Int)))=false:=by
    rw [D4U,C2 (by omega) (by omega)];omega
   have hno:(((0:Nat):Int)*18446744073709551616+l)*2^k<340282366920938463463374607431768211456:=by
    rw [hP,e2,Nat.zero_mul];omega
   simp only [c1,D4G,b1,D4D,c2];rw [if_pos hno];exact tail hno
  ·obtain ⟨b,b1,b2,b3,b4,b5⟩:=A34 (x:=(h:Int)) (by omega) (by omega)
   have c1:((h:Int) !=0)=true:=by rw [bne_iff_ne];omega
   have fl:=C8c (h:=h) (b:=b) (k:=k) b2 (by exact_mod_cast b4) (by exact_mod_cast b5)
   have w3:A1 (64+(b:Int))=64+(b:Int):=by rw [C2]<;>omega
   have w4:A1 (128-(64+(b:Int)))=64-(b:Int):=by rw [C2]<;>omega
   simp only [c1,D4H,b1,D4D,w3,w4]
   by_cases hb:k+b<=64
   ·have c2:decide ((k:Int)>64-(b:Int))=false:=by rw [D4U];omega
    have f1:=fl.1 hb;rw [Nat.add_mul,Nat.one_mul] at f1;have hno:((h:Int)*18446744073709551616+l)*2^k<340282366920938463463374607431768211456:=by
     rw [hP,e2];omega
    rw [c2,D4G,if_pos hno];exact tail hno
   ·have c2:decide ((k:Int)>64-(b:Int))=true:=by rw [D4F];omega
    have f2:=fl.2 (by omega)
    rw [c2,D4H,if_neg];rw [hP,e2];omega
end Go.Win
set_option maxHeartbeats 4000000
namespace Go.Win
open Go.Vc Go.Dec
def J0 (l:List B4) (i:Nat):B4:=l.getD i default
theorem C3b {l:List B4} {i:Nat} (h:i<l.length):l[i]? =some (J0 l i):=by
 unfold J0;rw [L1 h];simp [List.getD,L1 h]
theorem C5G {l:List B4} {i:Nat} (h:i<l.length):J0 l i=l[i]:=by
 have:=C3b h;rw [L1 h] at this;exact (D5m this).symm
theorem Z6 {l:List B4} {i:Nat} (h:i<l.length):C1 l (i:Int)=some (J0 l i):=by
 rw [U1,C3b h]
def B4N (l:List B4) (N:Int) (i:Nat):Bool:=
 ((decide ((J0 l i).Bt<1)||decide ((J0 l i).Bt>(J0 l i).Bs))||decide ((J0 l i).Bs>N))||
 (decide (0<i)&&((decide ((J0 l (i-1)).V>(J0 l i).V)||decide ((J0 l (i-1)).Bt>=(J0 l i).Bt))||decide ((J0 l (i-1)).Bs>=(J0 l i).Bs)))
def B35 (l:List B4) (N:Int):Bool:=decide (0<l.length)&&((J0 l 0).Bs !=1||(J0 l (l.length-1)).Bt !=N)
def B6w (r:D0):Bool:= !(((decide (r.N<0))||(decide (r.N>1099511627776)))||(!(((r.Ae.length:Int)==0)==(r.N==0))))
def okB (r:D0):Bool:=B6w r&& !((List.range r.Ae.length).any (B4N r.Ae r.N)||B35 r.Ae r.N)
theorem C61 {i n:Nat} (h0:0<i) (h:i<=n) (hm:n<=maxLen):A1 ((i:Int)-1)=((i-1:Nat):Int):=by
 rw [I2] at hm;rw [C2]<;>omega
theorem A0e (r:D0) (hl:r.Ae.length<=1000000000):R4 r=some (cond (okB r) 0 2):=by
 have hm:r.Ae.length<=maxLen:=by rw [I2];omega
 unfold R4;cases hh:B6w r with
 |false=>
  have h1:(((decide (r.N<0))||(decide (r.N>1099511627776)))||(!(((r.Ae.length:Int)==0)==(r.N==0))))=true:=nF (by unfold B6w at hh;exact hh)
  rw [h1,D4H];unfold okB;rw [hh]
  rfl
 |true=>
  have h1:(((decide (r.N<0))||(decide (r.N>1099511627776)))||(!(((r.Ae.length:Int)==0)==(r.N==0))))=false:=Go.Dec.nT (by unfold B6w at hh;exact hh)
  rw [h1,D4G];unfold B2t;have:=B44 (f:=fun s:Int=>A2X r s) (n:=r.Ae.length) (bad:=B4N r.Ae r.N) (E:=(2:Int)) (A:=some (cond (B35 r.Ae r.N) 2 0))
   (fun i hi=>by
    unfold A2X B4N;simp only [Int.ofNat_lt,hi,decide_true,D4H,Z6 hi,D4D,V4 hi hm]
    by_cases h0:0<i
    ·rw [C61 h0 (Nat.le_of_lt hi) hm,Z6 (by omega),D4I (by omega:(i:Int)>0),D4I h0]
     simp only [D4D,D4H,D5e];cases ((decide ((J0 r.Ae i).Bt<1)||decide ((J0 r.Ae i).Bt>(J0 r.Ae i).Bs))||decide ((J0 r.Ae i).Bs>r.N)) with
     |true=>rfl
     |false=>
      simp only [D4G,D44]
    ·rw [D4K (by omega: ¬(i:Int)>0),D4K h0]
     simp only [D4G,D48,Bool.or_false])
   (by
    unfold A2X B35;simp only [D46,decide_false,D4G]
    by_cases h0:0<r.Ae.length
    ·rw [D4I (by omega:(r.Ae.length:Int)>0),D4I h0,C61 h0 (D5l _) hm]
     have e0:C1 r.Ae (0:Int)=some (J0 r.Ae 0):=Z6 h0;rw [e0,Z6 (by omega)]
     simp only [I0,D4D,D5e];cases hb:(J0 r.Ae 0).Bs !=1 with
     |true=>simp
     |false=>
      simp only [D4Q,I0,D4D,D44];cases (J0 r.Ae (r.Ae.length-1)).Bt !=r.N<;>rfl
    ·rw [D4K (by omega: ¬(r.Ae.length:Int)>0),D4K h0]
     simp)
  rw [show ((0:Int))=((0:Nat):Int) from rfl] at this⊢;rw [this];unfold okB;rw [hh];cases (List.range r.Ae.length).any (B4N r.Ae r.N)<;>cases B35 r.Ae r.N<;>rfl
structure OkR (l:List B4) (N:Int):Prop where
 n0:0<=N
 n1:N<=1099511627776
 nil:l.length=0↔N=0
 rng: ∀i,i<l.length->1<=(J0 l i).Bt/\(J0 l i).Bt<=(J0 l i).Bs/\(J0 l i).Bs<=N
 up: ∀i,i+1<l.length->(J0 l i).V<=(J0 l (i+1)).V/\(J0 l i).Bt<(J0 l (i+1)).Bt/\(J0 l i).Bs<(J0 l (i+1)).Bs
 first:0<l.length->(J0 l 0).Bs=1
 last:0<l.length->(J0 l (l.length-1)).Bt=N
theorem A89 (r:D0):okB r=true↔OkR r.Ae r.N:=by
 unfold okB B6w B35;have hany:(List.range r.Ae.length).any (B4N r.Ae r.N)=false↔ ∀i,i<r.Ae.length->B4N r.Ae r.N i=false:=by
  rw [List.any_eq_false];constructor
  ·intro h i hi;have:=h i (List.mem_range.2 hi);simpa using this
  ·intro h i hi;have:=h i (List.mem_range.1 hi);simpa using this
 simp only [D4L,D4Z,D5d,D4U,Bool.not_eq_false',D5x,hany,D5u,bne_eq_false_iff_eq,gt_iff_lt];constructor
 ·rintro ⟨⟨⟨h1,h2⟩,h3⟩,h4,h5⟩;have h3' :r.Ae.length=0↔r.N=0:=by
   have:=congrArg (· =true) h3;simp only [D5x,eq_iff_iff] at this;omega
  refine ⟨by omega,by omega,h3',fun i hi=> ?_,fun i hi=> ?_,fun h0=> ?_,fun h0=> ?_⟩
  ·have:=h4 i hi;unfold B4N at this;simp only [D5d,D4U] at this;omega
  ·have:=h4 (i+1) hi;unfold B4N at this;simp only [D5d,D4U,D5u,D5k] at this;omega
  ·rcases h5 with h5|h5
   ·omega
   ·exact h5.1
  ·rcases h5 with h5|h5
   ·omega
   ·exact h5.2
 ·intro h;refine ⟨⟨⟨by have:=h.n0;omega,by have:=h.n1;omega⟩, ?_⟩,fun i hi=> ?_, ?_⟩
  ·have:=h.nil;rw [D4Y,D5x,D5x];omega
  ·unfold B4N;have h1:=h.rng i hi;simp only [D5d,D4U,D5u];refine ⟨by omega, ?_⟩
   by_cases h0:0<i
   ·right;have:=h.up (i-1) (by omega)
    rw [show i-1+1=i by omega] at this
    omega
   ·exact .inl h0
  ·by_cases h0:0<r.Ae.length
   ·exact .inr ⟨h.first h0,h.last h0⟩
   ·exact .inl h0
def B3c (l:List B4):Nat->Int
 |0=>1
 |i+1=>if i=0 then 1 else if (J0 l i).Bs-(J0 l (i-1)).Bt>B3c l i then (J0 l i).Bs-(J0 l (i-1)).Bt else B3c l i
theorem C9W (r:D0) (h:OkR r.Ae r.N) (hl:r.Ae.length<=1000000000) (h0:0<r.Ae.length):B3T r 1 1=some (B3c r.Ae r.Ae.length):=by
 have hm:r.Ae.length<=maxLen:=by rw [I2];omega
 unfold B3T;obtain ⟨v,hv,hQ⟩:=U5 (f:=fun s:Int×Int=>B2q r s.1 s.2)
  (fun s=> ∃i:Nat,1<=i/\i<=r.Ae.length/\s=(B3c r.Ae i,(i:Int)))
  (fun s=>r.Ae.length-s.2.toNat) (fun v=>v=B3c r.Ae r.Ae.length) (1,1) ⟨1,D5l _,h0,rfl⟩ (by
   rintro _ ⟨i,h1,hi,rfl⟩;simp only;unfold B2q
   by_cases hlt:i<r.Ae.length
   ·left;have r1:=h.rng i hlt;have r2:=h.rng (i-1) (by omega)
    have n1:=h.n1;simp only [Int.ofNat_lt,hlt,decide_true,D4H,Z6 hlt,D4D,V4 hlt hm,C61 h1 hi hm,Z6 (show i-1<r.Ae.length by omega)]
    refine ⟨_,rfl,⟨i+1,by omega,hlt, ?_⟩,by show r.Ae.length-((i:Int)+1).toNat<r.Ae.length-(i:Int).toNat;omega⟩
    rw [C2 (by omega) (by omega)]
    have:B3c r.Ae (i+1)=X8 (B3c r.Ae i) ((J0 r.Ae i).Bs-(J0 r.Ae (i-1)).Bt):=by
     show (if i=0 then (1:Int) else _)=_
     rw [if_neg (by omega)]
    rw [this]
    rfl
   ·right;have hn: ¬((i:Int)<(r.Ae.length:Int)):=by omega
    have hi2:i=r.Ae.length:=by omega
    subst hi2;simp only [hn,decide_false,D4G];exact ⟨_,rfl,rfl⟩)
 rw [hv,hQ]
def C9V (l:List B4):Int:=if l.length=0 then 0 else B3c l l.length
theorem D0x (r:D0) (hl:r.Ae.length<=1000000000):B5e r=some (cond (okB r) (C9V r.Ae) 0):=by
 unfold B5e;rw [A0e r hl];simp only [D4D];cases hb:okB r with
 |false=>rfl
 |true=>
  have h:=(A89 r).1 hb;simp only [D4H,D5g,D44];unfold C9V
  by_cases h0:r.Ae.length=0
  ·rw [if_pos h0,h0];rfl
  ·have c:((r.Ae.length:Int)==0)=false:=by rw [D5t];omega
   rw [c,D4G,if_neg h0,C9W r h hl (by omega)]
theorem C4d (l:List Int):(A08 l).length=l.length:=List.length_mergeSort _
end Go.Win
set_option maxHeartbeats 4000000
namespace Go.Win
open Go.Vc Go.Dec
def inB (x:Int) (b:Nat):Prop:=(b=0/\x=0)\/(1<=b/\(2:Int)^(b-1)<=x/\x<2^b)
theorem C7W: ∀(b:Nat) (x c:Int),inB x b->x<=9223372036854775807->0<=c->c+b<=1000->A6X x c=some (c+b):=by
 intro b
 induction b with
 |zero=>
  intro x c h hx hc hb;have hx0:x=0:=by
   rcases h with h|h
   ·exact h.2
   ·omega
  unfold A6X;rw [S3 (r:=c)]
  ·congr 1;omega
  ·unfold A5G;rw [hx0];rfl
 |succ b ih=>
  intro x c h hx hc hb;have h' :(2:Int)^b<=x/\x<2^(b+1):=by
   rcases h with h|h
   ·omega
   ·exact ⟨by simpa using h.2.1,h.2.2⟩
  have hp:=A0v b;have hin:inB (x/2) b:=by
   by_cases h0:b=0
   ·subst h0;left;have e1:(2:Int)^0=1:=rfl;have e2:(2:Int)^(0+1)=2:=rfl;omega
   ·right;have e1:(2:Int)^b=2^(b-1)*2:=by rw [<-Int.pow_succ];congr 1;omega
    have e2:(2:Int)^(b+1)=2^b*2:=Int.pow_succ 2 b;omega
  have hst:A5G x c=some (.inl (x/2,c+1)):=by
   unfold A5G;rw [D4I (by omega),D4H,Int.tdiv_eq_ediv_of_nonneg (by omega),C2 (by omega) (by omega),C2 (by omega) (by omega)]
  have:=ih (x/2) (c+1) hin (by omega) (by omega) (by omega)
  unfold A6X at this⊢;rw [N8 hst,this]
  congr 1
  omega
theorem B1R {x:Int} (h0:0<x) (h1:x<=9223372036854775807): ∃b:Nat,B47 x=some (b:Int)/\A2G x=some (b:Int)/\1<=b/\b<=64/\(2:Int)^(b-1)<=x/\x<2^b:=by
 obtain ⟨b,g1,g2,g3,g4,g5⟩:=A34 h0 (by omega)
 refine ⟨b, ?_, ?_,g2,g3,g4,g5⟩
 ·unfold B47;rw [D4K (by omega),D4G,A9O (by omega) (by omega),g1];rfl
 ·unfold A2G;rw [C7W b x 0 (.inr ⟨g2,g4,g5⟩) h1 (by omega) (by omega)]
  congr 1;omega
theorem A7A {k c:Int} (hk:1<=k/\k<=64) (hc:1<=c/\c<=65536): ∃b,A39 k c=some b/\A2I k c=some b/\1<=b/\b<=65536:=by
 obtain ⟨b,g1,g2,g3,g4,g5,g6⟩:=B1R (x:=c) (by omega) (by omega)
 have hm:=A7w (a:=2*k) (A:=128) (b:=(b:Int)+2) (B:=66) (by omega) (by omega)
 have hm2:1*1<=2*k*((b:Int)+2):=Int.mul_le_mul (by omega) (by omega) (by decide) (by omega)
 refine ⟨2*k*(b+2), ?_, ?_,by omega,by omega⟩
 ·unfold A39;have e:A0d 1 k c 0=true:=by unfold A0d;simp;omega
  simp only [e,D4P,D4G,g1,D4D];rw [C2 (n:=2*k) (by omega) (by omega),C2 (n:=(b:Int)+2) (by omega) (by omega),C2 (by omega) (by omega)]
 ·unfold A2I;have e:(((!(N3 k))||(decide (c<(1:Int))))||(decide (c>(65536:Int))))=false:=by
   rw [(B8I k).2 hk];simp;omega
  simp only [e,D4G,g2,D4D];rw [C2 (n:=2*k) (by omega) (by omega),C2 (n:=(b:Int)+2) (by omega) (by omega),C2 (by omega) (by omega)]
def plainB (l:List B2):List A3:=l.map fun x=>⟨x.T,x.Bc⟩
theorem A1w (l:List B2):(plainB l).length=l.length:=by simp [plainB]
theorem C8V {l:List B2} {i:Nat} (h:i<l.length):el (plainB l) i=⟨(el l i).T,(el l i).Bc⟩:=by
 rw [L6 (by rw [A1w];exact h),L6 h]
 simp [plainB]
theorem B9G (l:List B2) (hl:l.length<=1048576):A4O l=some (plainB l):=by
 unfold A4O B2Y;have H:=A5u (f:=fun s:List A3×Int=>A3F l s.1 s.2) (fun i=>(plainB (l.take i),(i:Int))) 0 l.length (Nat.zero_le _) (fun _=>False) [] (some (plainB l))
  (fun i _ hi _=>by
   refine ⟨fun h=>h.elim,fun _=> ?_⟩;simp only [];unfold A3F;have hm:l.length<=maxLen:=by rw [I2];omega
   rw [D4I (by omega:(i:Int)<(l.length:Int)),D4H,K0 hi,D4D,A0F hi hm]
   have e1:plainB (l.take (i+1))=plainB (l.take i)++ [⟨(el l i).T,(el l i).Bc⟩]:=by
    rw [List.take_add_one,A5n hi];simp [plainB]
   have e2:(plainB (l.take i)).length=i:=by rw [A1w,D45];omega
   rw [e1,e2,D4I (by simp only [D4W,D49];omega),A2o])
  (fun _=>by
   simp only [];unfold A3F;rw [D4K (D46 _),D4G,List.take_length])
 exact H.2 (fun _ _ _ h=>h)
def alS (b:Int):Nat->Int
 |0=>0
 |i+1=>if (2:Int)^i>b+1 then 2*alS b i+((2:Int)^i-1+b-1)/b else alS b i
theorem D1o {b:Int} (hb:1<=b): ∀i:Nat,0<=alS b i/\alS b i<=i*2^i:=by
 intro i
 induction i with
 |zero=>exact ⟨Int.le_refl _,Int.le_refl _⟩
 |succ i ih=>
  have hp:=A0v i;have e2:(2:Int)^(i+1)=2^i*2:=Int.pow_succ 2 i;have e3:((i+1:Nat):Int)*2^(i+1)=(i:Int)*2^i*2+2^i*2:=by
   rw [e2,Int.natCast_add,Int.add_mul,Int.mul_assoc];simp
  rw [e3];unfold alS;split
  ·have h1:((2:Int)^i-1+b-1)/b<=2^i:=by
    have:((2:Int)^i-1+b-1)/b<2^i+1:=by
     rw [Int.ediv_lt_iff_lt_mul (by omega),Int.add_mul,Int.one_mul]
     have:=Int.mul_le_mul_of_nonneg_left hb (show (0:Int)<=2^i by omega)
     omega
    omega
   have h2:0<=((2:Int)^i-1+b-1)/b:=Int.ediv_nonneg (by omega) (by omega)
   omega
  ·omega
theorem D1X: ∀n:Fin 31,(2:Int)^n.1<=1073741824:=by decide
theorem C60 {i:Nat} (h:i<=30):(2:Int)^i<=1073741824:=D1X ⟨i,by omega⟩
theorem D2y {b:Int} (hb:1<=b) {i:Nat} (hi:i<=30):0<=alS b i/\alS b i<=32212254720:=by
 obtain ⟨h1,h2⟩:=D1o hb i;have hp:=C60 hi;have:=A7w (a:=(i:Int)) (A:=30) (b:=2^i) (B:=1073741824) (by omega) ⟨Int.le_of_lt (A0v i),hp⟩
 omega
theorem D1s {a b:Int} (ha:0<=a/\a<=4611686018427387904) (hb:1<=b/\b<=4611686018427387904):A9C a b=some ((a+b-1)/b,true):=by
 unfold A9C;have e1:((b==0)||((a== -9223372036854775808)&&(b== -1)))=false:=by
  rw [D4T];simp only [D4O,D4L,D5x,Ne];omega
 rw [e1,D4G,D4I (by omega:b≠0),A2o,A2o,Int.tdiv_eq_ediv_of_nonneg ha.1,Int.tmod_eq_emod_of_nonneg ha.1]
 have hq:0<=a/b:=Int.ediv_nonneg ha.1 (by omega)
 have hq2:a/b<=a:=Int.ediv_le_self b ha.1;have hr:=Int.emod_nonneg a (show b≠0 by omega)
 have hr2:=Int.emod_lt_of_pos a (show 0<b by omega)
 have hd:=Int.mul_ediv_add_emod a b;rw [D4K (by omega: ¬a<0),D4K (by omega: ¬b<0)]
 by_cases h0:a%b=0
 ·have e2:(a%b !=0&&(false==false))=false:=by rw [h0];rfl
  rw [e2,D4G,C2 (by omega) (by omega)]
  have:(a+b-1)/b=a/b:=by
   have e3:a+b-1=(b-1)+b*(a/b):=by omega
   rw [e3,Int.add_mul_ediv_left _ _ (by omega),Int.ediv_eq_zero_of_lt (by omega) (by omega)];omega
  rw [this]
 ·have e2:(a%b !=0&&(false==false))=true:=by rw [D4L];exact ⟨bne_iff_ne.2 h0,rfl⟩
  rw [e2,D4H,C2 (n:=a/b) (by omega) (by omega),C2 (by omega) (by omega)]
  have:(a+b-1)/b=a/b+1:=by
   have e3:a+b-1=(a%b-1)+b*(a/b+1):=by rw [Int.mul_add];omega
   rw [e3,Int.add_mul_ediv_left _ _ (by omega),Int.ediv_eq_zero_of_lt (by omega) (by omega)];omega
  rw [this]
theorem C6h {L b:Int} (hL:0<=L/\L<=30) (hb:1<=b/\b<=65536):A5i L b=some (alS b (L.toNat+1)):=by
 have e:((((decide (L<(0:Int)))||(decide (L>(30:Int))))||(decide (b<(1:Int))))||(decide (b>(65536:Int))))=false:=by
  rw [D4T];simp only [D4O,D4F,Ne];omega
 unfold A5i;rw [e,D4G];unfold B0O;have H:=A5u (f:=fun s:Int×Int=>A2t L b s.1 s.2) (fun i=>(alS b i,(i:Int))) 0 (L.toNat+1) (Nat.zero_le _) (fun _=>False) 0 (some (alS b (L.toNat+1)))
  (fun i _ hi _=>by
   refine ⟨fun h=>h.elim,fun _=> ?_⟩;simp only [];unfold A2t;have hp:=C60 (show i<=30 by omega)
   have hp0:=A0v i;have ha:=D2y hb.1 (show i<=30 by omega)
   have es:A1 ((i:Int)+1)=((i+1:Nat):Int):=by rw [C2]<;>omega
   have ew:decide (0<=A4 (i:Int))=true:=D4I (by rw [A9O]<;>omega)
   rw [D4I (by omega:(i:Int)<=L),D4H,ew,A2o,C6H (by omega) (by omega),D5j,es,C2 (n:=b+1) (by omega) (by omega)]
   by_cases h:(2:Int)^i>b+1
   ·rw [D4I h,D4H,C2 (n:=(2:Int)^i-1) (by omega) (by omega),D1s (by omega) (by omega),D4D,C2 (n:=2*alS b i) (by omega) (by omega)]
    have h1:0<=((2:Int)^i-1+b-1)/b:=Int.ediv_nonneg (by omega) (by omega)
    have h2:((2:Int)^i-1+b-1)/b<=(2:Int)^i-1+b-1:=Int.ediv_le_self b (by omega)
    simp only [];rw [C2 (by omega) (by omega),alS,if_pos h]
   ·rw [D4K h,D4G,alS,if_neg h])
  (fun _=>by
   simp only [];unfold A2t;rw [D4K (by omega),D4G])
 exact H.2 (fun _ _ _ h=>h)
def B9A (b:Int) (x:B2):Prop:=okB x.Bh=true/\x.Bh.N=2^x.Bc.toNat/\(x.Bh.Ae.length:Int)<=b+1/\A1 (C9V x.Bh.Ae-1)<=alS b (x.Bc.toNat+1)/\
 -4096<=(el x.Bh.Ae 0).V/\(el x.Bh.Ae (x.Bh.Ae.length-1)).V<=4096/\(el x.Bh.Ae 0).V<=x.Bk/\x.Bk<=(el x.Bh.Ae (x.Bh.Ae.length-1)).V
def B4q (l:List B2) (k b:Int):Prop:=(1<=b/\b<=65536)/\A7g (plainB l) k/\ ∀i,i<l.length->B9A b (el l i)
def Z8 (l:List B2):Prop:=l.length<=1048576/\ ∀x∈l,x.Bh.Ae.length<=1000000000
theorem C6U {l:List B2} {k:Int} (h:A7g (plainB l) k) {i:Nat} (hi:i<l.length):0<=(el l i).Bc/\(el l i).Bc<=30:=by
 have:=h.2.1 i (by rw [A1w];exact hi)
 unfold A8U at this;rw [C8V hi] at this;simp only [] at this;omega
theorem C82 {r:D0} (h:okB r=true) {n:Nat} (hn:r.N=2^n):0<r.Ae.length:=by
 have h1:=(A89 r).1 h;have:=A0v n;have h2:=h1.nil;omega
theorem B6c (l:List B2) (k b:Int) (hs:Z8 l):A27 l k b=some (bOf (B4q l k b)):=by
 have hm:l.length<=maxLen:=by rw [I2];have:=hs.1;omega
 unfold A27
 by_cases hb:1<=b/\b<=65536
 ·have e:(decide (b<1)||decide (b>65536))=false:=by simp;omega
  rw [e,B9G l hs.1];simp only [D4Q,I0,D4D,D44];rw [A6J _ _ (by rw [A1w];exact hm),D4D]
  by_cases h2:A7g (plainB l) k
  ·rw [A1r h2,D4P,D4G];unfold B2X;have H:=A0b (f:=fun s:Int=>A3E l b s) l.length (fun i=> ¬B9A b (el l i)) false (some true)
    (fun i hi _=>by
     unfold A3E;have hv:=C6U h2 hi;have hr:=hs.2 _ (L8 hi);rw [D4I (by omega:(i:Int)<(l.length:Int)),D4H,K0 hi,D4D,A0F hi hm]
     generalize el l i=x at hv hr⊢
     have ew:decide (0<=A4 x.Bc)=true:=D4I (by rw [A9O]<;>omega)
     simp only [A0e x.Bh (by omega),D4D,ew,Bool.or_true,A2o,C6H hv.1 hv.2]
     have eb1:A1 (b+1)=b+1:=by rw [C2]<;>omega
     rw [eb1];cases hB:okB x.Bh with
     |false=>
      simp only [D4G,show ((2:Int) !=0)=true from rfl,D5n,D4P,K7,D4D,D4H];exact ⟨fun _=>trivial,fun h=>absurd (fun h2:B9A b x=>by have:=h2.1;rw [hB] at this;cases this) h⟩
     |true=>
      simp only [D4H,show ((0:Int) !=0)=false from rfl,D44]
      by_cases g1:x.Bh.N=2^x.Bc.toNat/\(x.Bh.Ae.length:Int)<=b+1
      ·have e1:((x.Bh.N !=2^x.Bc.toNat)||decide ((x.Bh.Ae.length:Int)>b+1))=false:=by
        rw [g1.1,D5g,D44];exact D4K (by omega)
       rw [e1];have h0:=C82 hB g1.1;have hm2:x.Bh.Ae.length<=maxLen:=by rw [I2];omega
       simp only [D4Q,I0,D0x x.Bh (by omega),D4D,hB,D4H,(C6h hv hb),D44,A7r h0,B1q h0 (D5l _) hm2,K0 (show x.Bh.Ae.length-1<x.Bh.Ae.length by omega)]
       rw [B4Q];refine T7 ?_;unfold B9A;simp only [hB,g1,true_and,D4O,D4F];omega
      ·have e1:((x.Bh.N !=2^x.Bc.toNat)||decide ((x.Bh.Ae.length:Int)>b+1))=true:=by
        rw [D4O,bne_iff_ne,D4F]
        by_cases q:x.Bh.N=2^x.Bc.toNat
        ·right;have: ¬(x.Bh.Ae.length:Int)<=b+1:=fun h=>g1 ⟨q,h⟩;omega
        ·exact .inl q
       rw [e1];simp only [D4P,K7,D4D,D5n,D4H];exact ⟨fun _=>trivial,fun h=>absurd (fun h2=>g1 ⟨h2.2.1,h2.2.2.1⟩) h⟩)
    (fun _=>by
     unfold A3E;rw [D4K (D46 _),D4G])
   by_cases h3: ∀i,i<l.length->B9A b (el l i)
   ·rw [H.2 fun i hi hn=>hn (h3 i hi),A1r];exact ⟨hb,h2,h3⟩
   ·rw [H.1 (A5z h3),V5];exact fun h=>h3 h.2.2
  ·rw [V5 h2,V5 fun h=>h2 h.2.1];rfl
 ·have e:(decide (b<1)||decide (b>65536))=true:=by
   rw [D4Y];simp;omega
  rw [e,V5 fun h=>hb h.1];rfl
theorem B6b (l:List B2) (hs:Z8 l):A1L l=some (A1 (S9 (plainB l))):=by
 have hm:(plainB l).length<=maxLen:=by rw [I2,A1w];have:=hs.1;omega
 unfold A1L;rw [B9G l hs.1,D4D,B1Q,A9H _ hm];rfl
def B6K (x:C3):Prop:=A7h x.W x.K x.Cap x.Now/\(∀b,A2I x.K x.Cap=some b->B4q x.Ak (2*x.K) b)/\A1 (S9 (plainB x.Ak))<=x.Cap/\ ∀i,i<x.Ak.length->F7 x.Now x.W (el x.Ak i).T=true
theorem A6c (w k c n:Int):A0d w k c n=true↔A7h w k c n:=by
 unfold A0d A7h;simp;omega
theorem A1o (x:C3) (hs:Z8 x.Ak):T2 x=some (vOf (B6K x)):=by
 have hm:x.Ak.length<=maxLen:=by rw [I2];have:=hs.1;omega
 unfold T2;simp only []
 by_cases h1:A7h x.W x.K x.Cap x.Now
 ·obtain ⟨b,b1,b2,b3⟩:=A7A (k:=x.K) (c:=x.Cap) h1.2.2.2 h1.2.1;have hk:=h1.2.2.2;rw [(A6c _ _ _ _).2 h1,b1,C2 (n:=2*x.K) (by omega) (by omega)]
  simp only [D4P,D4Q,I0,D4D,D44,B6c _ _ _ hs,(B6b _ hs)]
  by_cases h2:B4q x.Ak (2*x.K) b
  ·rw [A1r h2];simp only [D4P,D4Q,I0,D4D,D44]
   by_cases h3:A1 (S9 (plainB x.Ak))<=x.Cap
   ·rw [D4K (by omega),D4G]
    unfold A8f;have H:=A0b (f:=fun s:Int=>A06 x s) x.Ak.length (fun i=> ¬F7 x.Now x.W (el x.Ak i).T=true) 2 (some 0)
     (fun i hi _=>by
      unfold A06;rw [D4I (by omega:(i:Int)<(x.Ak.length:Int)),D4H,K0 hi,D4D,A0F hi hm]
      refine T7 ?_;simp [A04])
     (fun _=>by
      unfold A06;rw [D4K (D46 _),D4G])
    by_cases h4: ∀i,i<x.Ak.length->F7 x.Now x.W (el x.Ak i).T=true
    ·rw [H.2 fun i hi hn=>hn (h4 i hi),O8];exact ⟨h1,fun b' hb' =>by rw [b2] at hb';cases hb';exact h2,h3,h4⟩
    ·rw [H.1 (A5z h4),J1];exact fun h=>h4 h.2.2.2
   ·rw [D4I (by omega),D4H,J1]
    exact fun h=>h3 h.2.2.1
  ·rw [V5 h2];simp only [D4P,D4Q,K7,D4D,D5n,D4H];rw [J1];exact fun h=>h2 (h.2.1 b b2)
 ·rw [D4T.2 fun h=>h1 ((A6c _ _ _ _).1 h),J1 fun h=>h1 h.1]
  rfl
end Go.Win
set_option maxHeartbeats 4000000
namespace Go.Win
open Go.Vc Go.Dec
def C9B (x:B7) (i:Nat):Bool:=match x.Be[i]? with
 |none=>false
 |some l=>(((((decide (l.V<(-4096:Int)))||(decide (l.V>(4096:Int))))||(decide (l.I<(1:Int))))||(decide (l.I>x.I)))||(decide (l.I<=(A1 (x.I-x.W)))))||
  (decide (0<i)&&match x.Be[i-1]? with
   |none=>false
   |some p=>decide (l.I<=p.I)||decide (l.I>A1 (p.I+x.W)))
noncomputable def D2C (x:B7) (i:Nat):Bool:=match x.Be[i]? with
 |none=>false
 |some l=>((!(M2 l.V))||(decide (l.I>x.I)))||
  (decide (0<i)&&match x.Be[i-1]? with
   |none=>false
   |some p=>decide (l.I<=p.I)||decide (l.I>A1 (p.I+x.W)))
def D2x (p0:B7):Option Int:=(Option.bind (gd (!(decide (p0.Bl<=p0.I))) (C1 p0.Be (A1 ((p0.Be.length:Int)-(1:Int))))) fun x17_14=>
 cond ((decide (p0.Bl<=p0.I))||(decide (p0.Bl>(A1 (x17_14.I+p0.W))))) (
  some (2:Int))<|
 some (0:Int))
theorem D3R (x:B7) (hl:x.Be.length<=maxLen):A52 x 0=cond ((List.range x.Be.length).any (C9B x)) (some 2) (D2x x):=by
 unfold A52;refine B44 (fun i hi=> ?_) ?_
 ·have h1:x.Be[i]? =some x.Be[i]:=D4R hi;have hs:=V4 hi hl;unfold A4T C9B;simp only [Int.ofNat_lt,hi,decide_true,D4H,U1,h1,D4D,hs]
  by_cases h0:0<i
  ·have hp:=B8M h0 (Nat.le_trans (Nat.le_of_lt hi) hl);have h2:x.Be[i-1]? =some x.Be[i-1]:=D4R (by omega)
   have h3:((i:Int)>0):=by omega
   simp only [hp,U1,h2,h3,h0,decide_true,I0,D4D,D5e];cases decide (x.Be[i].I<=x.Be[i-1].I)<;>cases (((((decide (x.Be[i].V<(-4096:Int)))||(decide (x.Be[i].V>(4096:Int))))||(decide (x.Be[i].I<(1:Int))))||(decide (x.Be[i].I>x.I)))||(decide (x.Be[i].I<=(A1 (x.I-x.W)))))<;>simp
  ·have h3: ¬((i:Int)>0):=by omega
   simp only [h3,h0,decide_false,K7,D4D,D48,D4G,Bool.or_false]
 ·unfold A4T;simp only [D46,decide_false,D4G]
  rfl
theorem asc (x:B7) (h:∀i,i<x.Be.length->D2C x i=false): ∀i (hi:i<x.Be.length),x.Be[0].I<=x.Be[i].I:=by
 intro i
 induction i with
 |zero=>intro hi;exact Int.le_refl _
 |succ i ih=>
  intro hi;have h1:=ih (by omega)
  have h2:=h (i+1) hi;simp only [D2C,L1 hi,D5k,L1 (show i<x.Be.length by omega),Nat.succ_pos,decide_true,D5e,D5d,D4U] at h2
  omega
theorem A3u (x:B7) (hl:x.Be.length<=maxLen): ∃r,P9 x=some r/\(r=0->0<=x.I/\x.I<=1099511627776/\1<=x.W/\x.W<=1048576/\1<=x.Cap/\x.Cap<=64/\(x.Be.length:Int)<=x.Cap/\(x.Be= []->x.I=0)/\(x.I=0->x.Bl=0)):=by
 unfold P9;simp only [D3R x hl]
 by_cases h:(((((((decide (x.W<(1:Int)))||(decide (x.W>(1048576:Int))))||(decide (x.Cap<(1:Int))))||(decide (x.Cap>(64:Int))))||(decide (x.I<(0:Int))))||(decide (x.I>(1099511627776:Int))))||(decide ((x.Be.length:Int)>x.Cap)))=true
 ·rw [h];exact ⟨2,rfl,fun h=>by simp at h⟩
 ·rw [Bool.not_eq_true] at h;rw [h];simp only [D5d,D4U] at h
  by_cases h0:x.I=0
  ·simp only [h0,beq_self_eq_true,D4H,D4G];cases hc:(decide ((x.Be.length:Int)>(0:Int))||(x.Bl !=(0:Int)))
   ·simp only [D5d,bne_eq_false_iff_eq] at hc;exact ⟨0,rfl,fun _=>⟨by omega,by omega,by omega,by omega,by omega,by omega,by omega,fun _=>trivial,fun _=>hc.2⟩⟩
   ·exact ⟨2,rfl,fun h=>by simp at h⟩
  ·have h0' :(x.I==0)=false:=by rw [D5t];exact h0
   simp only [h0',D4G]
   by_cases h1:x.Be= []
   ·rw [h1];exact ⟨2,rfl,fun h=>by simp at h⟩
   ·have h2:((x.Be.length:Int)==0)=false:=by
     have:=List.length_pos_iff.2 h1;rw [D5t];omega
    simp only [h2,D4G];have all: ∀r:Int,(r=0->0<=x.I/\x.I<=1099511627776/\1<=x.W/\x.W<=1048576/\1<=x.Cap/\x.Cap<=64/\(x.Be.length:Int)<=x.Cap/\(x.Be= []->x.I=0)/\(x.I=0->x.Bl=0)):=fun _ _=>⟨by omega,by omega,by omega,by omega,by omega,by omega,by omega,fun h=>absurd h h1,fun h=>absurd h h0⟩
    cases (List.range x.Be.length).any (C9B x) with
    |true=>exact ⟨2,rfl,all _⟩
    |false=>
     simp only [D4G];unfold D2x;have hp:=List.length_pos_iff.2 h1;have hw:=B8M hp hl;simp only [hw,U1,L1 (show x.Be.length-1<x.Be.length by omega)]
     by_cases hN:x.Bl<=x.I
     ·simp only [hN,decide_true,D4P,K7,D4D,D5n,D4H];exact ⟨2,rfl,all _⟩
     ·simp only [hN,decide_false,D4Q,I0,D4D,D44];cases decide (x.Bl>A1 ((x.Be[x.Be.length-1]'(by omega)).I+x.W))
      ·exact ⟨0,rfl,all _⟩
      ·exact ⟨2,rfl,all _⟩
end Go.Win
set_option maxHeartbeats 4000000
namespace Go.Win
open Go.Vc Go.Dec
theorem C7S (x:B7) (hl:x.Be.length<=maxLen): ∃a,B25 x=some a:=by
 obtain ⟨r,hr,hok⟩:=A3u x hl;unfold B25;rw [hr];simp only [D4D]
 by_cases h0:r=0
 ·subst h0;simp only [D5g,D4G]
  by_cases h1:x.Be= []
  ·rw [h1];exact ⟨_,rfl⟩
  ·have hp:=List.length_pos_iff.2 h1;have h2:((x.Be.length:Int)==0)=false:=by rw [D5t];omega
   have h3:C1 x.Be (0:Int)=some x.Be[0]:=by simp [C1,hp]
   simp only [h2,D4G,h3,D4D];exact ⟨_,rfl⟩
 ·have:(r !=0)=true:=by simp [h0]
  simp only [this,D4H];exact ⟨_,rfl⟩
theorem A1X (s:E4) (hl:s.Am.length<=maxLen) (hc:∀c∈s.Am,c.Be.length<=maxLen):
  ∃r,N4 s=some r/\(r=0->1<=s.Am.length/\s.Am.length<=16/\ ∀c∈s.Am,P9 c=some 0):=by
 unfold N4
 by_cases h:(decide ((s.Am.length:Int)<1)||decide ((s.Am.length:Int)>16))=true
 ·rw [h];exact ⟨2,rfl,fun h=>by simp at h⟩
 ·rw [Bool.not_eq_true] at h;rw [h,D4G];simp only [D5d,D4U] at h;unfold A2K;obtain ⟨r,hr,hQ⟩:=U5 (f:=fun i:Int=>T6 s i) (fun i=> ∃k:Nat,i=(k:Int)/\k<=s.Am.length/\ ∀j (hj:j<s.Am.length),j<k->P9 s.Am[j]=some 0)
   (fun i=>s.Am.length-i.toNat) (fun r=>r=2\/(r=0/\ ∀c∈s.Am,P9 c=some 0)) 0 ⟨0,rfl,Nat.zero_le _,fun j _ hj=>by omega⟩ (by
    rintro _ ⟨k,rfl,hk,hv⟩;unfold T6
    by_cases hlt:k<s.Am.length
    ·obtain ⟨q,hq,_⟩:=A3u s.Am[k] (hc _ (D5s hlt));have h0:C1 s.Am (0:Int)=some (s.Am[0]'(by omega)):=by
      have:=L1 (show 0<s.Am.length by omega)
      simp [C1,this]
     simp only [Int.ofNat_lt,hlt,decide_true,D4H,U1,L1 hlt,D4D,h0,hq];cases hb:(((q !=0)||(s.Am[k].W !=(s.Am[0]'(by omega)).W))||(s.Am[k].Cap !=(s.Am[0]'(by omega)).Cap))||(s.Am[k].I !=(s.Am[0]'(by omega)).I) with
     |true=>exact .inr ⟨2,rfl, .inl rfl⟩
     |false=>
      simp only [D5d,bne_eq_false_iff_eq] at hb;left;refine ⟨(k:Int)+1,by rw [V4 hlt hl];rfl,⟨k+1,by simp,hlt,fun j hj hjk=> ?_⟩,by omega⟩
      by_cases hjk2:j=k
      ·subst hjk2;rw [hq,hb.1.1.1]
      ·exact hv j hj (by omega)
    ·right;have: ¬((k:Int)<(s.Am.length:Int)):=by omega
     simp only [this,decide_false,D4G];refine ⟨0,rfl, .inr ⟨rfl,fun c hcm=> ?_⟩⟩;obtain ⟨j,hj,rfl⟩:=List.mem_iff_getElem.1 hcm;exact hv j hj (by omega))
  refine ⟨r,hr,fun h0=>⟨by omega,by omega, ?_⟩⟩
  rcases hQ with hQ|hQ
  ·omega
  ·exact hQ.2
theorem C4R (s:E4) (hl:s.Am.length<=maxLen) (hc:∀c∈s.Am,c.Be.length<=maxLen): ∃r,B1C s=some r/\r.1.length<=16:=by
 obtain ⟨q,hq,hok⟩:=A1X s hl hc;unfold B1C;rw [hq,D4D]
 by_cases h0:q=0
 ·obtain ⟨h1,h2,h3⟩:=hok h0;subst h0;simp only [D5g,D4G];unfold B5T;exact U5 (f:=fun t:List Int×Int=>A9g s t.1 t.2) (fun t=> ∃k:Nat,t.2=(k:Int)/\t.1.length=k/\k<=s.Am.length)
   (fun t=>s.Am.length-t.1.length) (fun r=>r.1.length<=16) ([],0) ⟨0,rfl,rfl,Nat.zero_le _⟩ (by
    rintro ⟨l,_⟩ ⟨k,rfl,hkl,hk⟩;simp only at hkl⊢;unfold A9g
    by_cases hlt:k<s.Am.length
    ·obtain ⟨a,ha⟩:=C7S s.Am[k] (hc _ (D5s hlt));simp only [Int.ofNat_lt,hlt,decide_true,D4H,U1,L1 hlt,D4D,ha]
     by_cases he:a.2=0
     ·left;have hk2:decide ((l.length+ [a.1].length)*8<=140737488355328)=true:=by rw [D4F,D5i];omega
      refine ⟨(l++ [a.1],(k:Int)+1), ?_,⟨k+1,by simp,by simp [hkl],hlt⟩,by simp;omega⟩
      simp only [he,D5g,D4G,hk2,A2o,V4 hlt hl]
     ·right;have hb:(a.2 !=0)=true:=by rw [bne_iff_ne];exact he
      simp only [hb,D4H];exact ⟨_,rfl,by simp⟩
    ·right;have: ¬((k:Int)<(s.Am.length:Int)):=by omega
     simp only [this,decide_false,D4G];exact ⟨_,rfl,by show l.length<=16;omega⟩)
 ·have hb:(q !=0)=true:=by rw [bne_iff_ne];exact h0
  simp only [hb,D4H];exact ⟨_,rfl,by simp⟩
theorem D3U (n w c:Int) (h1:1<=n) (h2:n<=16):B0A n w c 0 []=some (if (V6 w c).2=0 then (⟨List.replicate n.toNat (V6 w c).1⟩,0) else (⟨[]⟩,(V6 w c).2)):=by
 unfold B0A
 by_cases he:(V6 w c).2=0
 ·rw [if_pos he];obtain ⟨r,hr,hQ⟩:=U5 (f:=fun t:Int×List B7=>A5I n w c t.1 t.2) (fun t=> ∃k:Nat,t=((k:Int),List.replicate k (V6 w c).1)/\(k:Int)<=n)
   (fun t=>(n-t.1).toNat) (fun r=>r=(⟨List.replicate n.toNat (V6 w c).1⟩,0)) (0, []) ⟨0,rfl,by omega⟩ (by
    rintro _ ⟨k,rfl,hk⟩;simp only;unfold A5I
    by_cases hlt:(k:Int)<n
    ·left;have hk2:decide (((List.replicate k (V6 w c).1).length+ [(V6 w c).1].length)*56<=140737488355328)=true:=by
      rw [D4F,D5i,D5D];omega
     have hs:A1 ((k:Int)+1)=(k:Int)+1:=by rw [C2]<;>omega
     refine ⟨((k:Int)+1,List.replicate (k+1) (V6 w c).1), ?_,⟨k+1,by simp,by omega⟩,by show (n-((k:Int)+1)).toNat<(n-(k:Int)).toNat;omega⟩
     simp only [hlt,decide_true,D4H,he,D5g,D4G];rw [hk2,A2o,hs,List.replicate_succ']
    ·right;have:n.toNat=k:=by omega
     simp only [hlt,decide_false,D4G];exact ⟨_,rfl,by rw [this]⟩)
  rw [hr,hQ]
 ·rw [if_neg he];have hb:((V6 w c).2 !=0)=true:=by rw [bne_iff_ne];exact he
  refine S3 ?_;unfold A5I;have:(0:Int)<n:=by omega
  simp only [this,decide_true,D4H,hb]
instance {x:B7} {v:Int} {l:List G4} {tk:Bool} {s:J3}:TS (A3d x v l tk s) (l.length<=64) (fun r=>r.1.Be.length<=65):=⟨fun _=>by unfold A3d;exact yT⟩
set_option maxHeartbeats 2000000 in
theorem C5v (x:B7) (v:Int) (draws:List Int) (at_:Int) (hl:x.Be.length<=maxLen) (hd:draws.length<=maxLen):T (A9S x v draws at_) fun r=>r.1.Be.length<=65:=by
 obtain ⟨q,hq,hok⟩:=A3u x hl;unfold A9S;rw [hq]
 by_cases h:q=0
 ·obtain ⟨h1,h2,h3,h4,h5,h6,h7,_,h8⟩:=hok h;unfold A9T;exact yT
 ·clear hok;exact yT
theorem C4O (s:E4) (v:Int) (draws:List Int) (hl:s.Am.length<=maxLen) (hc:∀c∈s.Am,c.Be.length<=maxLen) (hd:draws.length<=maxLen):
  ∃r,B1B s v draws=some r/\r.1.Am.length<=16/\ ∀c∈r.1.Am,c.Be.length<=65:=by
 obtain ⟨q,hq,hok⟩:=A1X s hl hc;unfold B1B;rw [hq,D4D]
 by_cases h0:q=0
 ·obtain ⟨h1,h2,h3⟩:=hok h0;subst h0;simp only [D5g,D4G];unfold B5S;exact U5 (f:=fun t:Int×Int×List B7=>A9f s v draws t.1 t.2.1 t.2.2) (fun t=> ∃k:Nat,t.2.1=(k:Int)/\t.2.2.length=k/\k<=s.Am.length/\ ∀c∈t.2.2,c.Be.length<=65)
   (fun t=>s.Am.length-t.2.2.length) (fun r=>r.1.Am.length<=16/\ ∀c∈r.1.Am,c.Be.length<=65) (0,0, []) ⟨0,rfl,rfl,Nat.zero_le _,by simp⟩ (by
    rintro ⟨a,_,l⟩ ⟨k,rfl,hkl,hk,hm⟩;simp only at hkl hm⊢;unfold A9f
    by_cases hlt:k<s.Am.length
    ·obtain ⟨r,hr,hr2⟩:=C5v s.Am[k] v draws a (hc _ (D5s hlt)) hd;simp only [Int.ofNat_lt,hlt,decide_true,D4H,U1,L1 hlt,D4D,hr]
     by_cases he:r.2.2=0
     ·left;have hk2:decide ((l.length+ [r.1].length)*56<=140737488355328)=true:=by rw [D4F,D5i];omega
      refine ⟨(r.2.1,(k:Int)+1,l++ [r.1]), ?_,⟨k+1,by simp,by simp [hkl],hlt,fun c hcm=> ?_⟩,by simp;omega⟩
      ·simp only [he,D5g,D4G,hk2,A2o,V4 hlt hl]
      ·rcases D5p.1 hcm with h|h
       ·exact hm c h
       ·have:c=r.1:=by simpa using h
        rw [this];exact hr2
     ·right;have hb:(r.2.2 !=0)=true:=by rw [bne_iff_ne];exact he
      simp only [hb,D4H];exact ⟨_,rfl,by simp,by simp⟩
    ·right;have: ¬((k:Int)<(s.Am.length:Int)):=by omega
     simp only [this,decide_false,D4G];cases decide (a<(draws.length:Int)) with
     |true=>exact ⟨_,rfl,by simp,by simp⟩
     |false=>exact ⟨_,rfl,by show l.length<=16;omega,hm⟩)
 ·have hb:(q !=0)=true:=by rw [bne_iff_ne];exact h0
  rw [hb];exact ⟨_,rfl,by simp,by simp⟩
end Go.Win
set_option maxHeartbeats 4000000
namespace Go.Win
open Go.Vc Go.Dec
theorem I3 {α:Type} {l:List α} (h:l.length<=1048576):l.length<=maxLen:=by rw [I2];omega
theorem D0V {l:List A2} (h:∀y∈l,A8y y): ∀w∈l,H7 w:=fun w hw=>⟨(B93 (h w hw).1).1,(B93 (h w hw).1).2,(B93 (h w hw).2).1,(B93 (h w hw).2).2⟩
theorem D2f (p:Prop):(vOf p==0)=bOf p:=by
 by_cases h:p
 ·rw [O8 h,A1r h];rfl
 ·rw [J1 h,V5 h];rfl
def C4L (x:C8):Prop:=x.W=0/\x.Cap=0/\x.Now=0/\x.Bb.length=0
def C54 (x:E1):Prop:=x.W=0/\x.K=0/\x.Cap=0/\x.Now=0/\x.Ad.length=0
def D1j (x:F0):Prop:=x.W=0/\x.K=0/\x.Cap=0/\x.Bs=0/\x.Now=0/\x.Ad.length=0
def C4M (x:C9):Prop:=x.Bo=0/\x.W=0/\x.K=0/\x.Cap=0/\x.Now=0/\x.Bv=0/\x.Bf.length=0
def C4N (x:D1):Prop:=x.W=0/\x.K=0/\x.Cap=0/\x.Now=0/\x.Bv=0/\x.Bf.length=0
def C9q (x:E0):Prop:=x.P=0/\x.Bj=0/\x.Now=0/\x.Ag.length=0
def C55 (x:F1):Prop:=x.Now=0/\x.Bn.length=0
def C19 (x:B8):Prop:=x.Bs=false/\x.W=0/\x.Cap=0/\x.Now=0/\x.Bb.length=0
def B8Z (x:E4):Prop:=x.Am.length=0
def C2a (x:B9):Prop:=x.K=0/\x.Cap=0/\x.N=0/\x.Av.length=0
def B5t (x:C3):Prop:=x.W=0/\x.K=0/\x.Cap=0/\x.Now=0/\x.Ak.length=0
def A9a (s:A7):Prop:=(s.Ao.Bi≠1->C4L s.Aq)/\(s.Ao.Bi≠2->C54 s.Ay)/\(s.Ao.Bi≠3->D1j s.Sum)/\(s.Ao.Bi≠4->C4M s.As)/\(s.Ao.Bi≠5->C4N s.Au)/\(s.Ao.Bi≠6->C9q s.Bm)/\(s.Ao.Bi≠7->C55 s.Ba)/\(s.Ao.Bi≠8->C19 s.Af)/\(s.Ao.Bi≠9->B8Z s.Ar)/\(s.Ao.Bi≠10->C2a s.Ai)/\(s.Ao.Bi≠11->B5t s.Ab)
def X9 (s:A7):Prop:=s.Aq.Bb.length<=1048576/\s.Ay.Ad.length<=1048576/\s.Sum.Ad.length<=1048576/\s.As.Bf.length<=1048576/\s.Au.Bf.length<=1048576/\(s.Bm.Ag.length<=1048576/\ ∀w∈s.Bm.Ag,H7 w)/\s.Ba.Bn.length<=1048576/\s.Af.Bb.length<=1048576/\
 (s.Ar.Am.length<=1048576/\ ∀c∈s.Ar.Am,c.Be.length<=1048576)/\s.Ai.Av.length<=1048576/\Z8 s.Ab.Ak
theorem D1K {s:A7} (w:A7m s):X9 s:=by
 obtain ⟨_,w1,w2,w3,w4,w5,w6,w7,w8,w9,w10,w11⟩:=w;exact ⟨w1.2.2.2.1,w2.2.2.2.2.1,w3.2.2.2.2.2.1,w4.2.2.2.2.2.2.1,w5.2.2.2.2.2.1,⟨w6.2.2.2.1,D0V w6.2.2.2.2⟩,w7.2.1,w8.2.2.2.2.1,⟨w9.1,fun c hc=>(w9.2 c hc).2.2.2.2.1⟩,w10.2.2.2.1,⟨w11.2.2.2.2.1,fun b hb=>Nat.le_trans (w11.2.2.2.2.2 b hb).2.2.2.2.1 (by decide)⟩⟩
theorem C8U (s:A7):A4H s=bOf (A9a s):=by
 unfold A4H;rw [D4Y,A0W];unfold A9a;unfold C4L;unfold C54;unfold D1j;unfold C4M;unfold C4N;unfold C9q;unfold C55;unfold C19;unfold B8Z;unfold C2a;unfold B5t;simp only [C9J,D4L,D4O,bne_iff_ne,D5x,D4F,ne_eq];have fin: ∀ {c:Prop} [Decidable c] {b:Bool},((if c then false else b)=true)↔(¬c/\b=true):=by
  intro c _ b
  by_cases h:c
  ·rw [if_pos h];exact ⟨fun h2=>(by cases h2),fun h2=>absurd h h2.1⟩
  ·rw [if_neg h];exact ⟨fun h2=>⟨h,h2⟩,fun h2=>h2.2⟩
 simp only [fin,D4O,D4L,D5x];cases s.Af.Bs
 ·simp only [Bool.false_eq_true,false_or,true_and]
  repeat' apply and_congr
  all_goals first|omega|(simp;done)|(simp;omega)
 ·simp only [true_or,Bool.true_eq_false,false_and]
  repeat' apply and_congr
  all_goals first|omega|(simp;done)|(simp;omega)
def B49 (x:E4):Prop:=N4 x=some 0
theorem C7u (x:E4) (hl:x.Am.length<=maxLen) (hc:∀c∈x.Am,c.Be.length<=maxLen): ∃r,N4 x=some r/\(r==0)=bOf (B49 x)/\(r=0->0<x.Am.length):=by
 obtain ⟨r,h1,h2⟩:=A1X x hl hc;refine ⟨r,h1, ?_,fun h=>by have:=(h2 h).1;omega⟩
 rw [D4Y,A0W,D5x];unfold B49;rw [h1];simp
theorem C66 (x:C8) (hl:x.Bb.length<=maxLen):W2 x=some (vOf (okV x=true)):=by
 rw [A8v,A5T x hl]
 by_cases h:okV x=true
 ·rw [if_pos h,O8 h]
 ·rw [if_neg h,J1 h]
def A6A (s:A7):Prop:=
 (s.Ao.Bi=1/\okV s.Aq=true/\s.Aq.W=s.Ao.W/\s.Aq.Cap=s.Ao.Cap)\/
 (s.Ao.Bi=2/\A1S s.Ay.Ad s.Ay.W s.Ay.K s.Ay.Cap s.Ay.Now/\s.Ay.W=s.Ao.W/\s.Ay.K=s.Ao.K/\s.Ay.Cap=s.Ao.Cap)\/
 (s.Ao.Bi=3/\B7x s.Sum/\s.Sum.W=s.Ao.W/\s.Sum.K=s.Ao.K/\s.Sum.Cap=s.Ao.Cap/\s.Sum.Bs=s.Ao.Bs)\/
 (s.Ao.Bi=4/\B3R s.As/\s.As.W=s.Ao.W/\s.As.K=s.Ao.K/\s.As.Cap=s.Ao.Cap/\s.As.Bo=s.Ao.Bo)\/
 (s.Ao.Bi=5/\B8K s.Au/\s.Au.W=s.Ao.W/\s.Au.K=s.Ao.K/\s.Au.Cap=s.Ao.Cap)\/
 (s.Ao.Bi=6/\C0z s.Bm/\s.Bm.P=s.Ao.P)\/
 (s.Ao.Bi=7/\C0y s.Ba/\(s.Ba.Bn.length:Int)=s.Ao.W)\/
 (s.Ao.Bi=8/\B2k s.Af/\s.Af.W=s.Ao.W/\s.Af.Cap=s.Ao.Cap/\s.Af.Bs=(s.Ao.Bs==1))\/
 (s.Ao.Bi=9/\B49 s.Ar/\(s.Ar.Am.length:Int)=s.Ao.Am/\(el s.Ar.Am 0).W=s.Ao.W/\(el s.Ar.Am 0).Cap=s.Ao.Cap)\/
 (s.Ao.Bi=10/\C0A s.Ai/\s.Ai.K=s.Ao.K/\s.Ai.Cap=s.Ao.Cap)\/
 (s.Ao.Bi=11/\B6K s.Ab/\s.Ab.W=s.Ao.W/\s.Ab.K=s.Ao.K/\s.Ab.Cap=s.Ao.Cap)
theorem C7q (s:A7) (w:X9 s) (hk:1<=s.Ao.Bi/\s.Ao.Bi<=11):A5Q s=some (bOf (A6A s)):=by
 obtain ⟨w1,w2,w3,w4,w5,w6,w7,w8,w9,w10,w11⟩:=w;obtain ⟨r9,e9,b9,p9⟩:=C7u s.Ar (I3 w9.1) (fun c hc=>I3 (w9.2 c hc));unfold A6A A5Q;rw [C66 s.Aq (I3 w1),A1H s.Ay (I3 w2),A8n s.Sum (I3 w3),A4F s.As (I3 w4),A4G s.Au (I3 w5),A6U s.Bm w6.2,A5t s.Ba (I3 w7),A3M s.Af (I3 w8),e9,A3Z s.Ai,A1o s.Ab w11];have:s.Ao.Bi=1\/s.Ao.Bi=2\/s.Ao.Bi=3\/s.Ao.Bi=4\/s.Ao.Bi=5\/s.Ao.Bi=6\/s.Ao.Bi=7\/s.Ao.Bi=8\/s.Ao.Bi=9\/s.Ao.Bi=10\/s.Ao.Bi=11:=by omega
 rcases this with h|h|h|h|h|h|h|h|h|h|h
 all_goals rw [h]
 case inr.inr.inr.inr.inr.inr.inr.inr.inl=>
  simp only [Int.reduceBEq,beq_self_eq_true,D4H,D4G,D4D,b9,Int.reduceEq,false_and,false_or,or_false,true_and]
  by_cases q1:B49 s.Ar/\(s.Ar.Am.length:Int)=s.Ao.Am
  ·have h0:0<s.Ar.Am.length:=p9 (by have:=A1r q1.1;rw [<-b9,D5x] at this;exact this)
   have g:(bOf (B49 s.Ar)&&((s.Ar.Am.length:Int)==s.Ao.Am))=true:=by
    rw [D4L,A0W,D5x];exact q1
   rw [g,A7r h0];simp only [I0,D4D,D5e];have fin:some (((el s.Ar.Am 0).W==s.Ao.W)&&((el s.Ar.Am 0).Cap==s.Ao.Cap))=some (bOf (B49 s.Ar/\(s.Ar.Am.length:Int)=s.Ao.Am/\(el s.Ar.Am 0).W=s.Ao.W/\(el s.Ar.Am 0).Cap=s.Ao.Cap)):=by
    congr 1
    rw [D4Y,A0W,D4L,D5x,D5x];exact ⟨fun h=>⟨q1.1,q1.2,h.1,h.2⟩,fun h=>⟨h.2.2.1,h.2.2.2⟩⟩
   rw [<-fin];cases ((el s.Ar.Am 0).W==s.Ao.W)<;>rfl
  ·have g:(bOf (B49 s.Ar)&&((s.Ar.Am.length:Int)==s.Ao.Am))=false:=by
    rw [D4T,Ne,D4L,A0W,D5x];exact q1
   rw [g];simp only [K7,D4D,D48];rw [V5 fun h=>q1 ⟨h.1,h.2.1⟩]
 all_goals
  simp only [Int.reduceBEq,beq_self_eq_true,D4H,D4G,D4D,D2f,Int.reduceEq,false_and,false_or,or_false,true_and]
  try (congr 1<;>rw [D4Y,A0W]<;>simp only [D4L,A0W,D5x]<;>grind)
def A2j (s:A7):Prop:=A1N s.Ao/\A6A s/\A9a s
theorem Q9 (s:A7) (w:X9 s):K1 s=some (vOf (A2j s)):=by
 unfold K1;simp only [];rw [A2x,C8U]
 by_cases h1:A1N s.Ao
 ·rw [B94 h1,C7q s w h1.1]
  by_cases h2:A6A s
  ·rw [A1r h2]
   by_cases h3:A9a s
   ·rw [A1r h3,O8 ⟨h1,h2,h3⟩];rfl
   ·rw [V5 h3,J1 fun h=>h3 h.2.2];rfl
  ·rw [V5 h2,J1 fun h=>h2 h.2.1];rfl
 ·rw [C2R h1,J1 fun h=>h1 h.1];rfl
end Go.Win
set_option maxHeartbeats 4000000
namespace Go.Win
open Go.Vc Go.Dec
def C7H:A7:=⟨⟨0,0,0,0,0,0,0,0⟩,⟨0,0,0, []⟩,⟨0,0,0,0, []⟩,⟨0,0,0,0,0, []⟩,⟨0,0,0,0,0,0, []⟩,⟨0,0,0,0,0, []⟩,⟨0,0,0, []⟩,⟨0, []⟩,⟨false,0,0,0, []⟩,⟨[]⟩,⟨0,0,0, []⟩,⟨0,0,0,0, []⟩⟩
def B0v (c:B5) (now:Int):A7:=⟨c,if c.Bi=1 then ⟨c.W,c.Cap,now, []⟩ else ⟨0,0,0, []⟩,
 if c.Bi=2 then ⟨c.W,c.K,c.Cap,now, []⟩ else ⟨0,0,0,0, []⟩,
 if c.Bi=3 then ⟨c.W,c.K,c.Cap,c.Bs,now, []⟩ else ⟨0,0,0,0,0, []⟩,
 if c.Bi=4 then ⟨c.Bo,c.W,c.K,c.Cap,now,0, []⟩ else ⟨0,0,0,0,0,0, []⟩,
 if c.Bi=5 then ⟨c.W,c.K,c.Cap,now,0, []⟩ else ⟨0,0,0,0,0, []⟩,
 if c.Bi=6 then ⟨c.P,now,now,List.replicate (c.P+1).toNat ⟨0,0⟩⟩ else ⟨0,0,0, []⟩,
 if c.Bi=7 then ⟨now,List.replicate c.W.toNat 0⟩ else ⟨0, []⟩,
 if c.Bi=8 then ⟨c.Bs==1,c.W,c.Cap,now, []⟩ else ⟨false,0,0,0, []⟩,
 if c.Bi=9 then ⟨List.replicate c.Am.toNat ⟨c.W,c.Cap,0,0, []⟩⟩ else ⟨[]⟩,
 if c.Bi=10 then ⟨c.K,c.Cap,0, []⟩ else ⟨0,0,0, []⟩,
 if c.Bi=11 then ⟨c.W,c.K,c.Cap,now, []⟩ else ⟨0,0,0,0, []⟩⟩
theorem C6P {w c n:Int} (h1:1<=w/\w<=1048576) (h2:1<=c/\c<=65536) (h3:0<=n/\n<=16777216):B1t w c n=(⟨w,c,n, []⟩,0):=by
 unfold B1t;simp only [C5I,(B4p w c n).2 ⟨h1,h2,h3⟩];rfl
theorem C8D {w k c n:Int} (h:A7h w k c n):B26 w k c n=(⟨w,k,c,n, []⟩,0):=by
 unfold B26;simp only [(A81 w k c n).2 h];rfl
theorem D1Q {w k c m n:Int} (h:A7h w k c n) (hm:1<=m/\m<=1024):B7B w k c m n=(⟨w,k,c,m,n, []⟩,0):=by
 unfold B7B;simp only [(B2B w k c m n).2 ⟨h,hm⟩];rfl
theorem C6R {a w k c n:Int} (h:A7h w k c n) (ha:1<=a/\a<=4):B1F a w k c n=(⟨a,w,k,c,n,0, []⟩,0):=by
 unfold B1F;have e1:A0E a w k c n=true:=by
  unfold A0E;simp only [(B4k _ _ _ _).2 h,Bool.and_true,D4L,D4F];exact ha
 simp only [e1];rfl
theorem C6S {w k c n:Int} (h:A7h w k c n):B1I w k c n=(⟨w,k,c,n,0, []⟩,0):=by
 unfold B1I;simp only [(B4k w k c n).2 h];rfl
theorem D0j {p n:Int} (hp:0<=p/\p<=4) (hn:0<=n/\n<=16777216):B8L p n=some (⟨p,n,n,List.replicate (p+1).toNat ⟨0,0⟩⟩,0):=by
 show C1V p n=_;unfold C1V;have e:(((decide (p<(0:Int)))||(decide (p>(4:Int))))||(!(G8 n)))=false:=by
  rw [(A7E n).2 hn];simp;omega
 simp only [e,D4G,C2 (n:=p+1) (by omega) (by omega)]
 rw [D4I (by omega),A2o]
theorem C8F {w n:Int} (hw:1<=w/\w<=64) (hn:0<=n/\n<=16777216):B3e w n=some (⟨n,List.replicate w.toNat 0⟩,0):=by
 unfold B3e;have e1:((((decide (w<(1:Int)))||(decide (w>(64:Int))))||(decide (n<(0:Int))))||(decide (n>(16777216:Int))))=false:=by simp;omega
 simp only [e1,D4G];rw [D4I (by omega),A2o]
theorem C43 {m:Bool} {w c n:Int} (h1:1<=w/\w<=1048576) (h2:1<=c/\c<=65536) (h3:0<=n/\n<=16777216):A9y m w c n=(⟨m,w,c,n, []⟩,0):=by
 unfold A9y;simp only [C3B,(B4p w c n).2 ⟨h1,h2,h3⟩];rfl
theorem C6Q {n w c:Int} (hn:1<=n/\n<=16) (hw:1<=w/\w<=1048576) (hc:1<=c/\c<=64):B1D n w c=some (⟨List.replicate n.toNat ⟨w,c,0,0, []⟩⟩,0):=by
 have e:(decide (n<(1:Int))||decide (n>(16:Int)))=false:=by simp;omega
 have e2:V6 w c=(⟨w,c,0,0, []⟩,0):=by
  unfold V6;have:((((decide (w<(1:Int)))||(decide (w>(1048576:Int))))||(decide (c<(1:Int))))||(decide (c>(64:Int))))=false:=by simp;omega
  rw [this,D4G]
 unfold B1D;rw [e,D4G,D3U n w c hn.1 hn.2,e2];rfl
theorem C44 {k c:Int} (hk:1<=k/\k<=64) (hc:2<=c/\c<=65536):A9J k c=(⟨k,c,0, []⟩,0):=by
 unfold A9J;have e1:((((decide (k<(1:Int)))||(decide (k>(64:Int))))||(decide (c<(2:Int))))||(decide (c>(65536:Int))))=false:=by simp;omega
 simp only [e1,D4G]
theorem C3F {w k c n:Int} (h:A7h w k c n):A8e w k c n=(⟨w,k,c,n, []⟩,0):=by
 unfold A8e;simp only [(A6c w k c n).2 h];rfl
theorem C8E {c:B5} {now:Int} (hc:A1N c) (hn:0<=now/\now<=16777216):A1W c now=some (B0v c now,0):=by
 unfold A1W;have et:W8 now=true:=(A7E now).2 hn;simp only [A2x,B94 hc,et,D5g,D4P,D4G];obtain ⟨k,agg,w,kk,cap,p,ch,mx⟩:=c;have hc' :=hc;unfold A1N at hc';simp only [] at hc';have:k=1\/k=2\/k=3\/k=4\/k=5\/k=6\/k=7\/k=8\/k=9\/k=10\/k=11:=by omega
 rcases this with h|h|h|h|h|h|h|h|h|h|h<;>subst h<;>simp only [Int.reduceBEq,beq_self_eq_true,D4H,D4G]
 ·rw [C6P (w:=w) (c:=cap) (n:=now) (by omega) (by omega) hn];rfl
 ·rw [C8D (w:=w) (k:=kk) (c:=cap) (n:=now) ⟨by omega,by omega,hn,by omega⟩];rfl
 ·rw [D1Q (w:=w) (k:=kk) (c:=cap) (n:=now) (m:=mx) ⟨by omega,by omega,hn,by omega⟩ (by omega)];rfl
 ·rw [C6R (a:=agg) (w:=w) (k:=kk) (c:=cap) (n:=now) ⟨by omega,by omega,hn,by omega⟩ (by omega)];rfl
 ·rw [C6S (w:=w) (k:=kk) (c:=cap) (n:=now) ⟨by omega,by omega,hn,by omega⟩];rfl
 ·rw [D0j (p:=p) (n:=now) (by omega) hn];rfl
 ·rw [C8F (w:=w) (n:=now) (by omega) hn];rfl
 ·rw [C43 (m:=(mx==1)) (w:=w) (c:=cap) (n:=now) (by omega) (by omega) hn];rfl
 ·rw [C6Q (n:=ch) (w:=w) (c:=cap) (by omega) (by omega) (by omega)];rfl
 ·rw [C44 (k:=kk) (c:=cap) (by omega) (by omega)];rfl
 ·rw [C3F (w:=w) (k:=kk) (c:=cap) (n:=now) ⟨by omega,by omega,hn,by omega⟩];rfl
theorem D1P {c:B5} {now:Int} (h:¬(A1N c/\0<=now/\now<=16777216)):A1W c now=some (C7H,1):=by
 unfold A1W
 by_cases hc:A1N c
 ·have e2:W8 now=false:=D4T.2 fun h2=>h ⟨hc,(A7E now).1 h2⟩;simp only [A2x,B94 hc,e2,D5g,D4Q,D4G,D4H];rfl
 ·simp only [A2x,C2R hc,show ((1:Int) !=0)=true from rfl,D4H];rfl
theorem B5s:X9 C7H:=by
 refine ⟨?_, ?_, ?_, ?_, ?_,⟨?_,fun c h=>by cases h⟩, ?_, ?_,⟨?_,fun c h=>by cases h⟩, ?_, ?_,fun c h=>by cases h⟩<;>exact Nat.zero_le _
theorem D1O {c:B5} {now:Int} (hc:A1N c) (hn:0<=now/\now<=16777216):A7m (B0v c now):=by
 have i64: ∀ {n:Int},-9223372036854775808<=n/\n<=9223372036854775807->E2 .i64 n:=by
  intro n h;simp [E2,Lit.wf,IntKind.min,IntKind.max,IntKind.signed,IntKind.bits];omega
 have z:E2 .i64 0:=i64 (by omega)
 have hc' :=hc;unfold A1N at hc';have i1:E2 .i64 c.Bi:=i64 (by omega)
 have i2:E2 .i64 c.Bo:=i64 (by omega)
 have i3:E2 .i64 c.W:=i64 (by omega)
 have i4:E2 .i64 c.K:=i64 (by omega)
 have i5:E2 .i64 c.Cap:=i64 (by omega)
 have i6:E2 .i64 c.P:=i64 (by omega)
 have i7:E2 .i64 c.Am:=i64 (by omega)
 have i8:E2 .i64 c.Bs:=i64 (by omega)
 have i9:E2 .i64 now:=i64 (by omega)
 have nl: ∀ {α:Type} {wf:α->Prop},A2l wf ([]:List α):=⟨Nat.zero_le _,fun y h=>by cases h⟩
 have hz:E2 .u64 0:=by simp [E2,Lit.wf,IntKind.min,IntKind.max,IntKind.signed,IntKind.bits]
 have ite: ∀ {α:Type} {wf:α->Prop} {p:Prop} [Decidable p] {a b:α},wf a->wf b->wf (if p then a else b):=by
  intro α wf p _ a b ha hb;split<;>assumption
 refine ⟨⟨i1,i2,i3,i4,i5,i6,i7,i8⟩,ite (wf:=B4E) ?_ ?_,ite (wf:=B5X) ?_ ?_,ite (wf:=B8n) ?_ ?_,ite (wf:=B4G) ?_ ?_,ite (wf:=B4H) ?_ ?_, ?_, ?_,ite (wf:=B3B) ?_ ?_, ?_,ite (wf:=B3C) ?_ ?_,ite (wf:=B2H) ?_ ?_⟩
 ·exact ⟨i3,i5,i9,nl⟩
 ·exact ⟨z,z,z,nl⟩
 ·exact ⟨i3,i4,i5,i9,nl⟩
 ·exact ⟨z,z,z,z,nl⟩
 ·exact ⟨i3,i4,i5,i8,i9,nl⟩
 ·exact ⟨z,z,z,z,z,nl⟩
 ·exact ⟨i2,i3,i4,i5,i9,z,nl⟩
 ·exact ⟨z,z,z,z,z,z,nl⟩
 ·exact ⟨i3,i4,i5,i9,z,nl⟩
 ·exact ⟨z,z,z,z,z,nl⟩
 ·show B7f (if c.Bi=6 then _ else _)
  by_cases h:c.Bi=6
  ·rw [if_pos h];refine ⟨i6,i9,i9, ?_,fun y hy=> ?_⟩
   ·rw [D5D];omega
   ·rw [List.eq_of_mem_replicate hy];exact ⟨hz,hz⟩
  ·rw [if_neg h];exact ⟨z,z,z,nl⟩
 ·show B5Y (if c.Bi=7 then _ else _)
  by_cases h:c.Bi=7
  ·rw [if_pos h];refine ⟨i9, ?_,fun y hy=> ?_⟩
   ·rw [D5D];omega
   ·rw [List.eq_of_mem_replicate hy];exact z
  ·rw [if_neg h];exact ⟨z,nl⟩
 ·exact ⟨trivial,i3,i5,i9,nl⟩
 ·exact ⟨trivial,z,z,z,nl⟩
 ·show B4F (if c.Bi=9 then _ else _)
  by_cases h:c.Bi=9
  ·rw [if_pos h];refine ⟨?_,fun y hy=> ?_⟩
   ·rw [D5D];omega
   ·rw [List.eq_of_mem_replicate hy];exact ⟨i3,i5,z,z,nl⟩
  ·rw [if_neg h];exact nl
 ·exact ⟨i4,i5,z,nl⟩
 ·exact ⟨z,z,z,nl⟩
 ·exact ⟨i3,i4,i5,i9,nl⟩
 ·exact ⟨z,z,z,z,nl⟩
end Go.Win
set_option maxHeartbeats 4000000
namespace Go.Win
open Go.Vc Go.Dec
theorem B95 (l:List A8) (n:Int):A8u l n=true↔G8 n=true/\(∀p∈l,0<=p.T/\p.T<=n)/\l.Pairwise (fun a b=>a.T<=b.T):=by
 unfold A8u;rw [D4L,D4Z];constructor
 ·rintro ⟨h1,h2⟩;have hno: ∀i,i<l.length->B3F l n i=false:=fun i hi=>by
   cases h:B3F l n i with
   |false=>rfl
   |true=>rw [C0l.2 ⟨i,hi,h⟩] at h2;cases h2
  refine ⟨h1,fun p hp=> ?_, ?_⟩
  ·obtain ⟨i,hi,rfl⟩:=List.mem_iff_getElem.1 hp;have:=hno i hi;simp only [B3F,L1 hi,D5d,D4U] at this;omega
  ·rw [List.pairwise_iff_getElem];intro i j hi hj hij;have adj: ∀k (hk:k+1<l.length),l[k].T<=l[k+1].T:=fun k hk=>by
    have:=hno (k+1) hk;simp only [B3F,L1 hk,D5k,L1 (show k<l.length by omega),Nat.succ_pos,decide_true,D5e,D5d,D4U] at this
    omega
   have key: ∀d (hd:i+d<l.length),l[i].T<=l[i+d].T:=by
    intro d
    induction d with
    |zero=>intro _;exact Int.le_refl _
    |succ d ih=>
     intro hd;exact Int.le_trans (ih (by omega)) (adj (i+d) hd)
   have:=key (j-i) (by omega)
   have e:i+(j-i)=j:=by omega
   simpa [e] using this
 ·rintro ⟨h1,h2,h3⟩;refine ⟨h1, ?_⟩;cases hc:(List.range l.length).any (B3F l n) with
  |false=>rfl
  |true=>
   exfalso;obtain ⟨i,hi,hb⟩:=C0l.1 hc;have:=h2 l[i] (D5s hi);simp only [B3F,L1 hi,D4O,D4L,D4F] at hb;rcases hb with (hb|hb)|⟨hb,hb2⟩
   ·omega
   ·omega
   ·rw [L1 (show i-1<l.length by omega)] at hb2
    simp only [D4F] at hb2;have:=List.pairwise_iff_getElem.1 h3 (i-1) i (by omega) hi (by omega)
    omega
theorem B4r (x:C8):okV x=true↔(1<=x.W/\x.W<=1048576)/\(1<=x.Cap/\x.Cap<=65536)/\G8 x.Now=true/\(x.Bb.length:Int)<=x.Cap/\(∀p∈x.Bb,0<=p.T/\p.T<=x.Now/\p.T>x.Now-x.W/\M2 p.V=true)/\x.Bb.Pairwise (fun a b=>a.T<=b.T):=by
 unfold okV;rw [D4L,D4L,D4L,B95,D5f,D4F];have hm:M7 x.W x.Cap x.Now=true↔(1<=x.W/\x.W<=1048576)/\(1<=x.Cap/\x.Cap<=65536)/\G8 x.Now=true:=by
  unfold M7 M6;simp only [D4L,D4F];constructor
  ·rintro ⟨⟨⟨⟨a,b⟩,c⟩,d⟩,e⟩;exact ⟨⟨a,b⟩,⟨c,d⟩,e⟩
  ·rintro ⟨⟨a,b⟩,⟨c,d⟩,e⟩;exact ⟨⟨⟨⟨a,b⟩,c⟩,d⟩,e⟩
 rw [hm];constructor
 ·rintro ⟨⟨⟨h1,h2,h3⟩,h4⟩,⟨_,h6,h7⟩,h8⟩;refine ⟨h1,h2,h3,h4,fun p hp=> ?_,h7⟩;have a:=h6 p hp;have b:=h8 p hp;unfold F7 at b;unfold G8 at h3;simp only [D4L,D4F] at b h3;have e:A1 (x.Now-x.W)=x.Now-x.W:=by rw [C2]<;>omega
  rw [e] at b;exact ⟨a.1,a.2,b.1.1.2,b.2⟩
 ·rintro ⟨h1,h2,h3,h4,h5,h6⟩;refine ⟨⟨⟨h1,h2,h3⟩,h4⟩,⟨h3,fun p hp=>⟨(h5 p hp).1,(h5 p hp).2.1⟩,h6⟩,fun p hp=> ?_⟩;obtain ⟨a,b,c,d⟩:=h5 p hp;have h3' :=h3;unfold G8 at h3';simp only [D4L,D4F] at h3';have e:A1 (x.Now-x.W)=x.Now-x.W:=by rw [C2]<;>omega
  unfold F7 M6;rw [e];have ht:G8 p.T=true:=by
   unfold G8;simp only [D4L,D4F];omega
  simp only [D4L,D4F,h3,ht,d,true_and,and_true];omega
theorem B8T (t:Int):G8 t=true↔0<=t/\t<=16777216:=by
 unfold G8;simp only [D4L,D4F,ge_iff_le]
theorem C6g {x:C8} {t:Int} (h:okV x=true) (h1:x.Now<=t) (h2:t<=16777216):
  A5F x t=some (⟨x.W,x.Cap,t,A9B x.Bb t x.W⟩,0)/\okV ⟨x.W,x.Cap,t,A9B x.Bb t x.W⟩=true/\
  A9B x.Bb t x.W=x.Bb.filter fun p=>decide (p.T>A1 (t-x.W))&&decide (p.T<=t):=by
 obtain ⟨g1,g2,g3,g4,g5,g6⟩:=(B4r x).1 h;have hn:=(B8T x.Now).1 g3;have ht:G8 t=true:=(B8T t).2 (by omega)
 have hl:x.Bb.length<=maxLen:=by rw [I2];omega
 have hv:A8u x.Bb t=true:=(B95 _ _).2 ⟨ht,fun p hp=>by have:=g5 p hp;omega,g6⟩
 refine ⟨?_, ?_, ?_⟩
 ·unfold A5F;rw [A8v,A5T x hl,h];have hk:A2v x.Now=true:=g3;have hc:(decide (t<x.Now)||decide (t>16777216))=false:=by
   simp only [D5d,D4U];omega
  unfold Q0;simp only [D4D,if_true,D5g,D4G,hk,D4P,hc,C6x x.Bb t x.W (by omega),hv]
 ·refine (B4r _).2 ⟨g1,g2,ht, ?_,fun p hp=> ?_, ?_⟩
  ·show ((A9B x.Bb t x.W).length:Int)<=x.Cap;have:(A9B x.Bb t x.W).length<=x.Bb.length:=List.length_filter_le _ _;omega
  ·have hp' :=List.mem_filter.1 hp;have a:=g5 p hp'.1;have b:=hp'.2;unfold F7 at b;simp only [D4L,D4F] at b;have e:A1 (t-x.W)=t-x.W:=by rw [C2]<;>omega
   rw [e] at b;exact ⟨a.1,b.2,b.1.2,a.2.2.2⟩
  ·exact g6.filter _
 ·unfold A9B;refine List.filter_congr fun p hp=> ?_;have a:=g5 p hp;unfold F7 M6;have hpt:G8 p.T=true:=(B8T _).2 (by omega)
  rw [ht,hpt];have w1:decide (x.W>=1)=true:=by rw [D4F];omega
  have w2:decide (x.W<=1048576)=true:=by rw [D4F];omega
  simp [w1,w2]
end Go.Win
set_option maxHeartbeats 4000000
namespace Go.Win
open Go.Vc Go.Dec
theorem A3e {α:Type} [Inhabited α] {n:Nat} {a:α} {i:Nat} (h:i<n):el (List.replicate n a) i=a:=by
 rw [L6 (by rw [D5D];exact h),List.getElem_replicate]
theorem D2l:wv ⟨0,0⟩=0:=rfl
theorem B7s {c:B5} {now:Int} (hc:A1N c) (hn:0<=now/\now<=16777216):A2j (B0v c now):=by
 have hc' :=hc;unfold A1N at hc';refine ⟨hc, ?_, ?_⟩
 ·have:c.Bi=1\/c.Bi=2\/c.Bi=3\/c.Bi=4\/c.Bi=5\/c.Bi=6\/c.Bi=7\/c.Bi=8\/c.Bi=9\/c.Bi=10\/c.Bi=11:=by omega
  unfold A6A B0v;have no: ∀ {α:Type} {p:Nat->Prop},∀i,i<([]:List α).length->p i:=fun i h=>absurd h (Nat.not_lt_zero i);have bk0: ∀ {k:Int},1<=k/\k<=128->A7g [] k:=fun h=>⟨h,no,fun h=>absurd h (Nat.not_lt_zero 0)⟩;have mk0: ∀ {a b d e:Int},A4o [] 0 a b d e:=⟨by omega,no,fun h=>absurd h (Nat.not_lt_zero 0)⟩
  have w0:A1 (S9 [])=0:=rfl;rcases this with h|h|h|h|h|h|h|h|h|h|h<;>simp only [h,Int.reduceEq,if_true,if_false,false_and,false_or,or_false,true_and,and_true]
  ·rw [B4r];refine ⟨by (try dsimp only);omega,by (try dsimp only);omega,(A7E _).2 hn, ?_,fun p hp=>(by cases hp),List.Pairwise.nil⟩
   show (0:Int)<=c.Cap;omega
  ·exact ⟨⟨by (try dsimp only);omega,by (try dsimp only);omega,hn,by (try dsimp only);omega⟩,bk0 (by (try dsimp only);omega),by (try dsimp only);rw [w0];omega,no⟩
  ·exact ⟨⟨⟨by (try dsimp only);omega,by (try dsimp only);omega,hn,by (try dsimp only);omega⟩,bk0 (by (try dsimp only);omega),by (try dsimp only);rw [w0];omega,no⟩,by (try dsimp only);omega⟩
  ·exact ⟨by (try dsimp only);omega,⟨by (try dsimp only);omega,by (try dsimp only);omega,hn,by (try dsimp only);omega⟩,mk0,no⟩
  ·exact ⟨⟨by (try dsimp only);omega,by (try dsimp only);omega,hn,by (try dsimp only);omega⟩,mk0,fun i _ h=>absurd h (Nat.not_lt_zero i)⟩
  ·refine ⟨⟨by (try dsimp only);omega,hn,by (try dsimp only);omega,by (try dsimp only);rw [D5D];omega⟩,fun i h1 h2=> ?_⟩
   have h2' :(i:Int)<=c.P:=h2;simp only [];rw [A3e (by (try dsimp only);omega),A3e (by (try dsimp only);omega),D2l]
   omega
  ·refine ⟨⟨⟨by (try dsimp only);rw [D5D];omega,hn⟩,fun i hi=> ?_⟩,by (try dsimp only);rw [D5D];omega⟩
   simp only [D5D] at hi;simp only [];rw [A3e hi];omega
  ·exact ⟨⟨⟨by (try dsimp only);omega,by (try dsimp only);omega,hn⟩,by show (0:Int)<=c.Cap;omega⟩,no⟩
  ·have h0:0<c.Am.toNat:=by omega
   rw [A3e h0,D5D];refine ⟨?_,by omega,rfl,rfl⟩
   unfold B49 N4;have e:(decide (((⟨List.replicate c.Am.toNat ⟨c.W,c.Cap,0,0, []⟩⟩:E4).Am.length:Int)<1)||decide (((⟨List.replicate c.Am.toNat ⟨c.W,c.Cap,0,0, []⟩⟩:E4).Am.length:Int)>16))=false:=by
    simp only [D5D];simp;omega
   rw [e,D4G];unfold A2K;refine (A0b (f:=fun s:Int=>T6 ⟨List.replicate c.Am.toNat ⟨c.W,c.Cap,0,0, []⟩⟩ s) c.Am.toNat (fun _=>False) 2 (some 0) (fun i hi _=>⟨fun h=>h.elim,fun _=> ?_⟩) (fun _=> ?_)).2 fun _ _ h=>h
   ·unfold T6;have ec:P9 ⟨c.W,c.Cap,0,0, []⟩=some 0:=by
     unfold P9;have:(((((((decide (c.W<(1:Int)))||(decide (c.W>(1048576:Int))))||(decide (c.Cap<(1:Int))))||(decide (c.Cap>(64:Int))))||(decide ((0:Int)<(0:Int))))||(decide ((0:Int)>(1099511627776:Int))))||(decide ((([]:List G4).length:Int)>c.Cap)))=false:=by
      rw [D4T];simp only [D4O,D4F,Ne,D49];omega
     simp only [this,D4G]
     rfl
    have h16:c.Am.toNat<=16:=by omega
    have es:A1 ((i:Int)+1)=((i+1:Nat):Int):=by rw [C2]<;>omega
    have e1:C1 (List.replicate c.Am.toNat (⟨c.W,c.Cap,0,0, []⟩:B7)) (i:Int)=some ⟨c.W,c.Cap,0,0, []⟩:=by rw [K0 (by rw [D5D];exact hi),A3e hi]
    have e0:C1 (List.replicate c.Am.toNat (⟨c.W,c.Cap,0,0, []⟩:B7)) (0:Int)=some ⟨c.W,c.Cap,0,0, []⟩:=by rw [A7r (by rw [D5D];exact h0),A3e h0]
    have e2:decide ((i:Int)<((List.replicate c.Am.toNat (⟨c.W,c.Cap,0,0, []⟩:B7)).length:Int))=true:=D4I (by rw [D5D];omega)
    simp only [e2,D4H,e0,e1,D4D,ec,D5g,Bool.or_false,D4G,es]
   ·unfold T6;have e2:decide ((c.Am.toNat:Int)<((List.replicate c.Am.toNat (⟨c.W,c.Cap,0,0, []⟩:B7)).length:Int))=false:=D4K (by rw [D5D];omega)
    simp only [e2,D4G]
  ·exact ⟨⟨by (try dsimp only);omega,by (try dsimp only);omega,by show (0:Int)<=0/\(0:Int)<=1099511627776;omega,by show (0:Int)<=c.Cap;omega⟩,⟨fun _=>rfl,fun _=>rfl⟩,no,fun h=>absurd h (Nat.not_lt_zero 0)⟩
  ·refine ⟨⟨by (try dsimp only);omega,by (try dsimp only);omega,hn,by (try dsimp only);omega⟩,fun b hb=> ?_,by show A1 (S9 [])<=c.Cap;rw [w0];omega,no⟩
   obtain ⟨b',_,b2,b3⟩:=A7A (k:=c.K) (c:=c.Cap) (by (try dsimp only);omega) (by (try dsimp only);omega)
   have hb' :A2I c.K c.Cap=some b:=hb;rw [b2] at hb';cases hb';exact ⟨b3,bk0 (by (try dsimp only);omega),no⟩
 ·unfold A9a B0v;refine ⟨?_, ?_, ?_, ?_, ?_, ?_, ?_, ?_, ?_, ?_, ?_⟩
  all_goals
   intro h;simp only [] at h;rw [if_neg h]
  ·exact ⟨rfl,rfl,rfl,rfl⟩
  ·exact ⟨rfl,rfl,rfl,rfl,rfl⟩
  ·exact ⟨rfl,rfl,rfl,rfl,rfl,rfl⟩
  ·exact ⟨rfl,rfl,rfl,rfl,rfl,rfl,rfl⟩
  ·exact ⟨rfl,rfl,rfl,rfl,rfl,rfl⟩
  ·exact ⟨rfl,rfl,rfl,rfl⟩
  ·exact ⟨rfl,rfl⟩
  ·exact ⟨rfl,rfl,rfl,rfl,rfl⟩
  ·exact rfl
  ·exact ⟨rfl,rfl,rfl,rfl⟩
  ·exact ⟨rfl,rfl,rfl,rfl,rfl⟩
end Go.Win
set_option maxHeartbeats 4000000
namespace Go.Win
open Go.Vc Go.Dec
def C0j:E3:=⟨⟨⟨0,0⟩,⟨0,0⟩,⟨0,0⟩⟩, [],⟨⟨0,0⟩,⟨0,0⟩⟩⟩
def c6:B5:=⟨6,0,0,0,0,0,0,0⟩
end Go.Win
set_option maxHeartbeats 4000000
namespace Go.Win
open Go.Vc Go.Dec
def A54 {β:Type} (lv:β->Int) (X:List β) (j:Int):Nat:=X.countP fun x=>lv x==j
theorem C27 {β:Type} (lv:β->Int) (X Y:List β) (j:Int):A54 lv (X++Y) j=A54 lv X j+A54 lv Y j:=List.countP_append
theorem C1t {β:Type} {lv:β->Int} {X:List β} {j:Int} (h:∀x∈X,lv x≠j):A54 lv X j=0:=by
 unfold A54;rw [List.countP_eq_zero];intro x hx;rw [D5x];exact h x hx
structure CI {β:Type} (lv tm:β->Int) (Q:Int->Prop) (k l:Int) (X:List β):Prop where
 le: ∀j:Int,0<=j->(A54 lv X j:Int)<=k+1+(if j=l then 1 else 0)
 ge: ∀x∈X,∀j:Int,0<=j->j<lv x->k<=(A54 lv X j:Int)
 srt:X.Pairwise (fun a b=>tm a<=tm b)
 all: ∀x∈X,Q (tm x)
theorem C71 {β:Type} {lv tm:β->Int} {Q:Int->Prop} {k:Int} {P X:List β} (hs:(P++X).Pairwise (fun a b=>lv b<=lv a)) (h:CI lv tm Q k (-1) (P++X)):CI lv tm Q k (-1) X:=by
 obtain ⟨_,_,p3⟩:=List.pairwise_append.1 hs;refine ⟨fun j hj=> ?_,fun x hx j hj hjx=> ?_,(List.pairwise_append.1 h.srt).2.1,fun x hx=>h.all x (by simp [hx])⟩
 ·have:=h.le j hj;rw [C27] at this;omega
 ·have:=h.ge x (by simp [hx]) j hj hjx
  rw [C27,C1t (X:=P) (fun y hy=>by have:=p3 y hy x hx;omega)] at this
  omega
theorem B8w (l:List A3) (j:Nat):E8 l j l.length=(A54 (fun b:A3=>b.Bc) l (j:Int):Int):=by
 unfold E8 A54;rw [List.take_length]
def C7x (t:Int):Prop:=0<=t/\t<=16777216
theorem A80 {l:List A3} {k:Int} (h:A7g l k):CI (fun b:A3=>b.Bc) (fun b=>b.T) C7x k (-1) l/\l.Pairwise (fun a b=>b.Bc<=a.Bc)/\ ∀x∈l,0<=x.Bc/\x.Bc<=30:=by
 obtain ⟨hk,hb,hL⟩:=h;have rng: ∀i,i<l.length->(0<=(el l i).T/\(el l i).T<=16777216/\0<=(el l i).Bc/\(el l i).Bc<=30)/\(0<i->(el l (i-1)).T<=(el l i).T/\(el l i).Bc<=(el l (i-1)).Bc):=fun i hi=>by
  have:=hb i hi;unfold A8U at this;constructor
  ·have:=fun x=>this (.inl x);omega
  ·intro h0;have:=fun x=>this (.inr ⟨h0,x⟩);omega
 have mono: ∀d i,i+d<l.length->(el l i).T<=(el l (i+d)).T/\(el l (i+d)).Bc<=(el l i).Bc:=by
  intro d
  induction d with
  |zero=>intro i _;exact ⟨Int.le_refl _,Int.le_refl _⟩
  |succ d ih=>
   intro i hi;have a:=ih i (by omega)
   have b:=(rng (i+d+1) (by omega)).2 (by omega)
   rw [D5k] at b;rw [show i+(d+1)=i+d+1 by omega]
   omega
 have pw:l.Pairwise (fun a b=>a.T<=b.T/\b.Bc<=a.Bc):=by
  rw [List.pairwise_iff_getElem];intro i j hi hj hij;have:=mono (j-i) i (by omega)
  rw [show i+(j-i)=j by omega,L6 hi,L6 hj] at this
  exact this
 have top: ∀x∈l,0<l.length/\x.Bc<=(el l 0).Bc:=fun x hx=>by
  obtain ⟨i,hi,rfl⟩:=A1Q hx;have:=(mono i 0 (by omega)).2
  rw [Nat.zero_add] at this;exact ⟨by omega,this⟩
 refine ⟨⟨fun j hj=> ?_,fun x hx j hj hjx=> ?_,pw.imp fun h=>h.1,fun x hx=> ?_⟩,pw.imp fun h=>h.2,fun x hx=> ?_⟩
 ·rw [if_neg (by omega)]
  by_cases hz:A54 (fun b:A3=>b.Bc) l j=0
  ·rw [hz];omega
  ·have h0:0<l.length/\j<=(el l 0).Bc:=by
    apply D5y;intro hn;refine hz (C1t fun x hx e=>hn ?_);have:=top x hx;exact ⟨this.1,by omega⟩
   have:=hL h0.1 j.toNat (by omega)
   unfold B3E at this;have e:=B8w l j.toNat;rw [show ((j.toNat:Nat):Int)=j by omega] at e
   rw [e] at this;have:=fun x=>this (.inl x);omega
 ·have t:=top x hx;have:=hL t.1 j.toNat (by omega)
  unfold B3E at this;have e:=B8w l j.toNat;rw [show ((j.toNat:Nat):Int)=j by omega] at e
  rw [e] at this;have:=fun y=>this (.inr y);omega
 ·obtain ⟨i,hi,rfl⟩:=A1Q hx;have:=(rng i hi).1;exact ⟨this.1,this.2.1⟩
 ·obtain ⟨i,hi,rfl⟩:=A1Q hx;have:=(rng i hi).1;exact ⟨this.2.2.1,this.2.2.2⟩
theorem D0o {l:List A3} {k:Int} (hk:1<=k/\k<=128) (h:CI (fun b:A3=>b.Bc) (fun b=>b.T) C7x k (-1) l) (hs:l.Pairwise (fun a b=>b.Bc<=a.Bc)) (hl:∀x∈l,0<=x.Bc/\x.Bc<=30):A7g l k:=by
 refine ⟨hk,fun i hi hb=> ?_,fun h0 j hj hb=> ?_⟩
 ·unfold A8U at hb;have a:=h.all _ (L8 hi);unfold C7x at a;have b:=hl _ (L8 hi);rcases hb with hb|⟨h0,hb⟩
  ·omega
  ·have p1:=List.pairwise_iff_getElem.1 h.srt (i-1) i (by omega) hi (by omega)
   have p2:=List.pairwise_iff_getElem.1 hs (i-1) i (by omega) hi (by omega)
   rw [<-L6,<-L6] at p1 p2;omega
 ·unfold B3E at hb;rw [B8w] at hb;have a:=h.le (j:Int) (by omega)
  rw [if_neg (by omega)] at a
  have b:=h.ge _ (L8 h0) (j:Int) (by omega)
  omega
end Go.Win
set_option maxHeartbeats 4000000
namespace Go.Win
open Go.Vc Go.Dec
section
variable {β:Type} (lv:β->Int)
end
theorem D2J {α:Type} {p:Prop} [Decidable p] {x:Option α} (h:p):ck (decide p) x=x:=by rw [D4I h];rfl
end Go.Win
set_option maxHeartbeats 4000000
namespace Go.Win
open Go.Vc Go.Dec
theorem A7o {n:Int} (t:Int) (h:0<=n/\n<=16777216):(Q0 n t).2=B1u n t:=by
 have ht:A2v n=true:=by
  show A5r n=true;unfold A5r;simp only [D4L,D4F];omega
 unfold Q0 B1u;simp only [ht,D4P,D4G];cases (decide (t<n)||decide (t>16777216))<;>rfl
theorem B8A (n w:Int):A1C n w=O4 n w:=by
 unfold A1C O4 M6 G8;have e:A2v n=(decide (n>=0)&&decide (n<=16777216)):=rfl;simp only [e];have:((!(decide (n>=0)&&decide (n<=16777216))||decide (w<1))||decide (w>1048576))=(!(decide (n>=0)&&decide (n<=16777216))|| !(decide (w>=1)&&decide (w<=1048576))):=by
  by_cases h1:w<1
  ·simp [h1,show¬w>=1 by omega]
  ·by_cases h2:w>1048576
   ·simp [h2,show¬w<=1048576 by omega]
   ·simp [h1,h2,show w>=1 by omega,show w<=1048576 by omega]
 rw [this]
theorem B27 {α R:Type} {f:List α->Option (List α⊕R)} (p:α->Bool) (A:List α->Option R)
  (hs:∀x l,p x=true->f (x::l)=some (.inl l)) (hd:∀x l,p x=false->f (x::l)=Option.map Sum.inr (A (x::l))) (hn:f []=Option.map Sum.inr (A [])):
  ∀l,loop f l=A (l.dropWhile p)
 | []=>by
  rw [A3n,hn];show _=A [];cases A []<;>rfl
 |x::l=>by
  cases h:p x with
  |true=>rw [N8 (hs x l h),B27 p A hs hd hn l,List.dropWhile_cons,h];rfl
  |false=>
   rw [A3n,hd x l h,List.dropWhile_cons,h];show _=A (x::l);cases A (x::l)<;>rfl
theorem A83 {α:Type} {p:α->Bool} {l:List α} {x:α} (h:x∈l.dropWhile p):x∈l:=(List.dropWhile_sublist p).subset h
theorem A7c {α:Type} (p:α->Bool) (l:List α):(l.dropWhile p).length<=l.length:=(List.dropWhile_sublist p).length_le
theorem A7f {α:Type} (x:α) (l:List α):C1 (x::l) 0=some x:=rfl
theorem B1U {α:Type} (x:α) (l:List α):decide (((x::l).length:Int)>0)=true:=by rw [D4F,D4W];omega
theorem C3d {l:List A3} (hl:l.length<=1048576) (f:Int):A0r l f=some (l.dropWhile fun x=>decide (x.T<f)):=by
 have hd:=A7c (fun x:A3=>decide (x.T<f)) l
 ·unfold A0r A50;rw [B27 (fun x:A3=>decide (x.T<f)) (fun v=>ck (decide ((([]:List A3).length+v.length)*16<=140737488355328)) (some v))]
  ·rw [Q5 (by rw [D4F,D49];omega)]
  ·intro x l h;unfold A0L;rw [B1U,I0,A7f,D4D,h,Bool.and_self,D4H,Q5 (by rw [D4F,D4W];omega)]
   rfl
  ·intro x l h;unfold A0L;rw [B1U,I0,A7f,D4D,h,Bool.and_false,D4G,List.nil_append]
  ·unfold A0L
   rfl
theorem C9Q {l:List B2} (hl:l.length<=1048576) (f:Int):A2m l f=some (l.dropWhile fun x=>decide (x.T<f)):=by
 have hd:=A7c (fun x:B2=>decide (x.T<f)) l
 ·unfold A2m A61;rw [B27 (fun x:B2=>decide (x.T<f)) (fun v=>ck (decide ((([]:List B2).length+v.length)*56<=140737488355328)) (some v))]
  ·rw [Q5 (by rw [D4F,D49];omega)]
  ·intro x l h;unfold A1j;rw [B1U,I0,A7f,D4D,h,Bool.and_self,D4H,Q5 (by rw [D4F,D4W];omega)]
   rfl
  ·intro x l h;unfold A1j;rw [B1U,I0,A7f,D4D,h,Bool.and_false,D4G,List.nil_append]
  ·unfold A1j
   rfl
noncomputable def A2A (n w:Int):List A6->List A6
 | []=> []
 | [x]=>if F7 n w x.T then [x] else []
 |x::y::l=>if F7 n w y.T then x::y::l else A2A n w (y::l)
theorem B6l (n w:Int): ∀l,(A2A n w l).length<=l.length
 | []=>D5l _
 | [x]=>by unfold A2A;split<;>simp
 |x::y::l=>by
  unfold A2A;split
  ·exact D5l _
  ·have:=B6l n w (y::l);rw [D4W];omega
theorem B6F (n w:Int): ∀ {l:List A6},l.length<=1048576->A0u n w l=some (A2A n w l)
 | [],_=>by
  unfold A0u;exact S3 rfl
 | [x],_=>by
  have i1:gd (decide (((([x]:List A6).length:Nat):Int)>1)) (C1 [x] 1)=some default:=rfl;have i2:(((([x]:List A6).length:Nat):Int)==1)=true:=rfl;have i3:decide (((([x]:List A6).length:Nat):Int)>1)=false:=rfl;unfold A0u A2A;refine S3 ?_;unfold A1n;rw [i1,D4D,i2,I0,A7f];simp only [i3,D48,D4G,D5e,D4D,A04];cases F7 n w x.T<;>rfl
 |x::y::l,hl=>by
  have g:decide (((x::y::l).length:Int)>1)=true:=by rw [D4F,D4W,D4W];omega
  have g2:(((x::y::l).length:Int)==1)=false:=by rw [D5t,D4W,D4W];omega
  have i1:C1 (x::y::l) 1=some y:=rfl;have hk:decide (0<=(1:Int)/\(1:Int)<=((x::y::l).length:Int))=true:=by rw [D4F,D4W];omega
  have r1:=B6F n w (l:=y::l) (by rw [D4W] at hl;omega)
  unfold A0u at r1⊢;unfold A2A;cases h:F7 n w y.T with
  |true=>
   refine S3 ?_;unfold A1n;rw [g,I0,i1,D4D,g2,K7];simp only [A04,h,D4P,Bool.and_false,D4G,D4D,D48,List.nil_append];rw [Q5 (by rw [D4F,D49];omega)]
   rfl
  |false=>
   rw [if_neg (by decide),<-r1]
   refine N8 ?_;unfold A1n;rw [g,I0,i1,D4D];simp only [A04,h,D4Q,Bool.and_self,D4H];rw [Q5 hk]
   rfl
instance {l:List A3} {f:Int}:TS (A0r l f) (l.length<=1048576) (fun r=>r.length<=1048576):=⟨fun h=>by
 unfold A0r A50;refine yL (fun v=>v.length<=1048576) (fun v=>v.length) h fun v hv=> ?_;unfold A0L;exact yT⟩
instance {l:List A6} {a b:Int}:TS (A1d l a b) (l.length<=1048576) (fun r=>r.length<=1048576):=⟨fun h=>by
 unfold A1d A0u;refine yL (fun v=>v.length<=1048576) (fun v=>v.length) h fun v hv=> ?_;unfold A1n;exact yT⟩
instance {l:List B2} {a:Int}:TS (A2m l a) (l.length<=1048576) (fun r=>r.length<=1048576/\ ∀b∈r,b∈l):=⟨fun h=>by
 unfold A2m A61;refine yL (fun v=>v.length<=1048576/\ ∀b∈v,b∈l) (fun v=>v.length) ⟨h,fun _ h=>h⟩ fun v hv=> ?_;have hd: ∀b∈v.drop (1:Int).toNat,b∈l:=fun b hb=>hv.2 b (List.mem_of_mem_drop hb);unfold A1j;exact yT⟩
instance {x:B8} {t:Int} {v:List A8}:TS (A2E x t v) (v.length<=1048576) (fun r=>r.1.Bb.length<=1048576):=⟨fun h=>by
 unfold A2E;refine yL (fun v=>v.length<=1048576) (fun v=>v.length) h fun v hv=> ?_;unfold A12;exact yT⟩
theorem C92 {a:Int} {b:Nat} (h:0<=a):A0h a (b:Int)=((min a.toNat b:Nat):Int):=by
 show (if (b:Int)<a then (b:Int) else a)=_
 split<;>omega
def A78 (l:List Int) (d:Nat):List Int:=List.replicate (min d l.length) 0++l.take (l.length-min d l.length)
theorem B6H (l:List Int) (d:Nat):(A78 l d).length=l.length:=by
 unfold A78;rw [D4J,D5D,D45];omega
theorem C8y (l:List Int) (d j:Nat) (hj:j<l.length):(A78 l d)[j]? =some (if d<=j then l.getD (j-d) 0 else 0):=by
 unfold A78
 by_cases h:d<=j
 ·rw [if_pos h,D43 (by rw [D5D];omega),D5D,show min d l.length=d by omega,List.getElem?_take_of_lt (by omega),D4R (by omega)]
  rw [D5z,D4R (by omega)]
  rfl
 ·rw [if_neg h,D42 (by rw [D5D];omega),List.getElem?_replicate,if_pos (by omega)]
end Go.Win
set_option maxHeartbeats 4000000
namespace Go.Win
open Go.Vc Go.Dec
theorem D0D (b:A3):A6Y b<=1073741824:=by
 unfold A6Y
 by_cases h:0<=b.Bc/\b.Bc<=30
 ·rw [if_pos h];exact C60 (by omega)
 ·rw [if_neg h];decide
theorem D2e (l:List A3):S9 l<=l.length*1073741824:=by
 induction l with
 |nil=>simp [C4p]
 |cons b l ih=>
  have:=D0D b;rw [B0l,D4W]
  push_cast
  omega
theorem C1d {l:List A3} (hl:l.length<=1048576):A1 (S9 l)=S9 l:=by
 have h1:=C1c l;have h2:=D2e l;rw [C2]<;>omega
theorem D3O {k:Int} {l:List A3} {n v s:Int} (hk:1<=k/\k<=128) (hs:0<=s/\s<=n) (hn:n<=l.length) (hl:l.length<=1048577):
  T (A1s k l n v s) fun r=>match r with
   | .inl r=>r.1.length+1<=l.length/\0<=r.2.1/\r.2.1<=r.1.length
   | .inr r=>r=l:=by
 unfold A1s;refine yL (fun s=>0<=s/\s<=n) (fun s=>s.toNat) hs fun s hs=> ?_;have h1:=T9 s (by omega)
 have h2:A1 (n-s)=n-s/\A1 (k+2)=k+2:=by constructor<;>(rw [C2]<;>omega)
 unfold A3b;simp only [h1,h2];exact yT
instance {k:Int} {l:List A3} {t:Int}:TS (T1 l k t) ((1<=k/\k<=128)/\l.length<=1048576) (fun r=>r.length<=l.length+1):=⟨fun ⟨hk,hl⟩=>by
 unfold T1;refine yK (by simp;omega) ?_
 unfold A3G;have hn:(l++ [(⟨t,0⟩:A3)]).length=l.length+1:=by simp
 generalize l++ [(⟨t,0⟩:A3)]=L at hn
 refine yL (fun s=>s.1.length<=l.length+1/\0<=s.2.1/\s.2.1<=s.1.length) (fun s=>s.1.length) ⟨by show L.length<=_;omega,by simp,by simp⟩ fun s ⟨h1,h2,h3⟩=> ?_
 unfold A3a;refine yM (D3O hk ⟨h2,Int.le_refl _⟩ h3 (by omega)) fun r h=> ?_
 cases r with
 |inl r=>dsimp only at h⊢;omega
 |inr r=>dsimp only at h⊢;rw [h];exact h1⟩
instance {k t n:Int} {l:List A3}:TS (A29 k t n l) ((1<=k/\k<=128)/\0<=n/\n<=1024/\l.length+n<=1048576) (fun r=>r.length<=l.length+n.toNat):=⟨fun ⟨hk,h0,h1,h2⟩=>by
 unfold A29;refine yL (fun s=>0<=s.1/\s.1<=n/\s.2.length+s.1.toNat<=l.length+n.toNat) (fun s=>s.1.toNat) ⟨h0,Int.le_refl _,D5l _⟩ fun s hs=> ?_;have e:=T9 s.1 (by omega)
 unfold A6q;simp only [e];exact yT⟩
instance {l:List A3}:TS (K8 l) (l.length<=maxLen) (fun r=>r=A1 (S9 l)):=⟨fun h=>⟨_,by rw [B1Q,A9H _ h],rfl⟩⟩
instance {l:List A3} {k:Int}:TS (S6 l k) (l.length<=maxLen) (fun r=>r=bOf (A7g l k)):=⟨fun h=>⟨_,A6J l k h,rfl⟩⟩
theorem C7K (x:E1) (hl:x.Ad.length+1<=1048576):T (A2y x) fun r=>r.1.Ad.length<=x.Ad.length+1:=by
 have hm:x.Ad.length<=maxLen:=I3 (by omega)
 unfold A2y;rw [A1H x hm]
 by_cases hv:A1S x.Ad x.W x.K x.Cap x.Now
 ·have hk:1<=x.K/\x.K<=128:=hv.2.1.1;unfold A1F A2O;exact yT
 ·rw [J1 hv];exact yT
theorem D1m (x:F0) (v:Int) (hl:x.Ad.length+1024<=1048576):T (B1W x v) fun r=>r.1.Ad.length<=x.Ad.length+1024:=by
 have hm:x.Ad.length<=maxLen:=I3 (by omega)
 unfold B1W;rw [A8n x hm]
 by_cases hv:B7x x
 ·have hk:1<=x.K/\x.K<=128:=hv.1.2.1.1;unfold A4Q A2O;exact yT
 ·rw [J1 hv];exact yT
end Go.Win
