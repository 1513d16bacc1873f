/- Plain laws of the functions on plain data. -/
import Derived.Test.YtkakobhohikfkaaGreatVc
import Derived.Test.YtkakobhohikfkaaGreatWin
set_option linter.unusedVariables false
set_option linter.unusedSimpArgs false
set_option linter.unnecessarySimpa false
set_option linter.unusedSectionVars false
namespace Go.Win
open Go.Vc Go.Dec
theorem C7 {n:Int} (h1:-9223372036854775808<=n) (h2:n<=9223372036854775807):A1 n=n:=by
 show IntKind.i64.wrap n=n;rw [IntKind.wrap_i64];omega
theorem B0I (n:Int):A1 n=(n+9223372036854775808)%18446744073709551616-9223372036854775808:=by
 show IntKind.i64.wrap n=_;rw [IntKind.wrap_i64]
theorem K3 (n:Int):A4 n=n%18446744073709551616:=by
 show IntKind.u64.wrap n=_;rw [IntKind.wrap_u64]
theorem A38 {R:Type} {f:Int->Option (Int⊕R)} {n:Nat} {bad:Nat->Bool} {E:R} {A:Option R}
  (hs:∀i:Nat,i<n->f i=cond (bad i) (some (.inr E)) (some (.inl ((i:Int)+1)))) (hd:f n=Option.map Sum.inr A):
  loop f 0=cond ((List.range n).any bad) (some E) A:=by
 have key: ∀k i:Nat,i+k=n->loop f i=cond ((List.range' i k).any bad) (some E) A:=by
  intro k
  induction k with
  |zero=>
   intro i hi;have hi:i=n:=by omega
   subst hi;rw [A5Z,hd];cases A<;>rfl
  |succ k ih=>
   intro i hi;rw [A5Z,hs i (by omega),List.range'_succ,List.any_cons]
   cases hb:bad i with
   |true=>rfl
   |false=>
    have:=ih (i+1) (by omega)
    simpa using this
 have:=key n 0 (by omega)
 rw [<-List.range_eq_range'] at this;exact this
theorem C8w {S R β:Type} {f:S->Option (S⊕R)} (st:Nat->β->S) (n:Nat) (I:Nat->β->Prop) (g:Nat->β->β) (A:β->Option R)
  (hs:∀(i:Nat) (b:β),i<n->I i b->f (st i b)=some (.inl (st (i+1) (g i b)))/\I (i+1) (g i b)) (hd:∀b,I n b->f (st n b)=Option.map Sum.inr (A b)) (b:β) (h0:I 0 b):
  loop f (st 0 b)=A ((List.range n).foldl (fun b i=>g i b) b)/\I n ((List.range n).foldl (fun b i=>g i b) b):=by
 have key: ∀k i:Nat,∀b,i+k=n->I i b->loop f (st i b)=A ((List.range' i k).foldl (fun b i=>g i b) b)/\I n ((List.range' i k).foldl (fun b i=>g i b) b):=by
  intro k
  induction k with
  |zero=>
   intro i b hi hb;have hi:i=n:=by omega
   subst hi;rw [A5Z,hd b hb];simp only [List.range'_zero,List.foldl_nil];exact ⟨by (cases A b<;>rfl),hb⟩
  |succ k ih=>
   intro i b hi hb;obtain ⟨h1,h2⟩:=hs i b (by omega) hb
   rw [A5Z,h1,List.range'_succ,List.foldl_cons];exact ih (i+1) _ (by omega) h2
 have:=key n 0 b (by omega) h0
 rw [<-List.range_eq_range'] at this;exact this
theorem C0V {n:Nat} {p:Nat->Bool}:(List.range n).any p=true↔ ∃i,i<n/\p i=true:=by
 simp [List.any_eq_true]
theorem K0:maxLen=9223372036854775807:=rfl
end Go.Win
namespace Go.Win
open Go.Vc Go.Dec
def el {α:Type} [Inhabited α] (l:List α) (i:Nat):α:=l.getD i default
theorem A5S {α:Type} [Inhabited α] {l:List α} {i:Nat} (h:i<l.length):l[i]? =some (el l i):=by
 unfold el;rw [D7u h];simp [List.getD,D7u h]
theorem A0U {α:Type} [Inhabited α] {l:List α} {i:Nat} (h:i<l.length):el l i=l[i]:=by
 have:=A5S h;rw [D7u h] at this;exact (D7Z this).symm
theorem L1 {α:Type} [Inhabited α] {l:List α} {i:Nat} (h:i<l.length):C1 l (i:Int)=some (el l i):=by
 rw [S4,A5S h]
theorem A9n {α:Type} [Inhabited α] {l:List α} (h:0<l.length):C1 l (0:Int)=some (el l 0):=L1 h
theorem D63 {α:Type} [Inhabited α] {l:List α} {n:Int} (h0:0<=n) (h:n<l.length):C1 l n=some (el l n.toNat):=by
 have:C1 l ((n.toNat:Nat):Int)=some (el l n.toNat):=L1 (by omega)
 rw [<-this]
 congr 1
 omega
theorem A2P {α:Type} [Inhabited α] {l:List α} {i:Nat} (h:i<l.length):el l i∈l:=by
 rw [A0U h];exact D75 h
theorem B2P {α:Type} [Inhabited α] {l:List α} {x:α} (h:x∈l): ∃i,i<l.length/\el l i=x:=by
 obtain ⟨i,hi,e⟩:=List.getElem_of_mem h;exact ⟨i,hi,by rw [A0U hi];exact e⟩
theorem B1D {i n:Nat} (h0:0<i) (h:i<=n) (hm:n<=maxLen):A1 ((i:Int)-1)=((i-1:Nat):Int):=by
 rw [K0] at hm;rw [C7]<;>omega
theorem Z3 {i n:Nat} (h:i<n) (hm:n<=maxLen):A1 ((i:Int)+1)=((i+1:Nat):Int):=by
 rw [K0] at hm;rw [C7]<;>omega
theorem A4F {S R:Type} {f:S->Option (S⊕R)} (st:Nat->S) (a n:Nat) (han:a<=n) (bad:Nat->Prop) (E:R) (A:Option R)
  (hs:∀i,a<=i->i<n->(∀j,a<=j->j<i-> ¬bad j)->(bad i->f (st i)=some (.inr E))/\(¬bad i->f (st i)=some (.inl (st (i+1)))))
  (hd:(∀j,a<=j->j<n-> ¬bad j)->f (st n)=Option.map Sum.inr A):
  ((∃i,a<=i/\i<n/\bad i)->loop f (st a)=some E)/\((∀i,a<=i->i<n-> ¬bad i)->loop f (st a)=A):=by
 have key: ∀k i:Nat,a<=i->i+k=n->(∀j,a<=j->j<i-> ¬bad j)->
   ((∃j,i<=j/\j<n/\bad j)->loop f (st i)=some E)/\((∀j,i<=j->j<n-> ¬bad j)->loop f (st i)=A):=by
  intro k
  induction k with
  |zero=>
   intro i hai hi hb;have hi:i=n:=by omega
   subst hi;refine ⟨fun ⟨j,h1,h2,_⟩=>by omega,fun _=> ?_⟩
   rw [A5Z,hd hb];cases A<;>rfl
  |succ k ih=>
   intro i hai hi hb;obtain ⟨h1,h2⟩:=hs i hai (by omega) hb
   by_cases hbi:bad i
   ·refine ⟨fun _=>K4 (h1 hbi),fun h=>absurd hbi (h i (D7Y _) (by omega))⟩
   ·obtain ⟨g1,g2⟩:=ih (i+1) (by omega) (by omega) (fun j h3 h4=>by
     by_cases e:j=i
     ·subst e;exact hbi
     ·exact hb j h3 (by omega))
    rw [J6 (h2 hbi)];refine ⟨fun ⟨j,h3,h4,h5⟩=>g1 ⟨j, ?_,h4,h5⟩,fun h=>g2 fun j h3 h4=>h j (by omega) h4⟩
    by_cases e:j=i
    ·subst e;exact absurd h5 hbi
    ·omega
 exact key (n-a) a (D7Y _) (by omega) (fun j _ _=>by omega)
theorem Q6 {R:Type} {f:Int->Option (Int⊕R)} (n:Nat) (bad:Nat->Prop) (E:R) (A:Option R)
  (hs:∀i:Nat,i<n->(∀j,j<i-> ¬bad j)->(bad i->f (i:Int)=some (.inr E))/\(¬bad i->f (i:Int)=some (.inl ((i+1:Nat):Int))))
  (hd:(∀j,j<n-> ¬bad j)->f (n:Int)=Option.map Sum.inr A):
  ((∃i,i<n/\bad i)->loop f 0=some E)/\((∀i,i<n-> ¬bad i)->loop f 0=A):=by
 have:=A4F (f:=f) (fun i=>(i:Int)) 0 n (Nat.zero_le _) bad E A (fun i _ h2 h3=>hs i h2 fun j h4=>h3 j (Nat.zero_le _) h4) (fun h=>hd fun j h4=>h j (Nat.zero_le _) h4);exact ⟨fun ⟨i,h1,h2⟩=>this.1 ⟨i,Nat.zero_le _,h1,h2⟩,fun h=>this.2 fun i _ h1=>h i h1⟩
theorem D1I {α:Type} (b:Bool) (x y:α):cond b x y=if b=true then x else y:=by cases b<;>rfl
open Classical in
noncomputable def vOf (p:Prop):Int:=if p then 0 else 2
theorem V0 {p:Prop} (h:p):vOf p=0:=by unfold vOf;rw [if_pos h]
theorem I8 {p:Prop} (h:¬p):vOf p=2:=by unfold vOf;rw [if_neg h]
theorem C7x {p:Prop}:(vOf p !=0)=true↔ ¬p:=by
 unfold vOf;split<;>simp_all
open Classical in
noncomputable def bOf (p:Prop):Bool:=if p then true else false
theorem A1I {p:Prop} (h:p):bOf p=true:=by unfold bOf;rw [if_pos h]
theorem W5 {p:Prop} (h:¬p):bOf p=false:=by unfold bOf;rw [if_neg h]
theorem A1b {p:Prop}:bOf p=true↔p:=by
 unfold bOf;split<;>simp_all
end Go.Win
namespace Go.Win
open Go.Vc Go.Dec
def T {α:Type} (m:Option α) (Q:α->Prop):Prop:= ∃r,m=some r/\Q r
theorem yI {α:Type} {a:α} {Q:α->Prop} (h:Q a):T (some a) Q:=⟨a,rfl,h⟩
theorem yB {α β:Type} {m:Option α} {k:α->Option β} {Q:β->Prop} (h:T m fun a=>T (k a) Q):T (Option.bind m k) Q:=by
 obtain ⟨a,rfl,h⟩:=h;exact h
theorem yP {α β:Type} {m:Option α} {k:α->β} {Q:β->Prop} (h:T m fun a=>Q (k a)):T (Option.map k m) Q:=by
 obtain ⟨a,rfl,h⟩:=h;exact ⟨_,rfl,h⟩
theorem yC {α:Type} {b:Bool} {x y:Option α} {Q:α->Prop} (h1:b=true->T x Q) (h2:b=false->T y Q):T (cond b x y) Q:=by
 cases b with
 |true=>exact h1 rfl
 |false=>exact h2 rfl
theorem yK {α:Type} {b:Bool} {m:Option α} {Q:α->Prop} (h1:b=true) (h2:T m Q):T (ck b m) Q:=by subst h1;exact h2
theorem yG {α:Type} [Inhabited α] {b:Bool} {m:Option α} {Q:α->Prop} (h1:b=true->T m Q) (h2:b=false->Q default):T (gd b m) Q:=by
 cases b with
 |true=>exact h1 rfl
 |false=>exact yI (h2 rfl)
theorem yM {α:Type} {m:Option α} {P Q:α->Prop} (h1:T m P) (h2:∀a,P a->Q a):T m Q:=by
 obtain ⟨a,rfl,h⟩:=h1;exact ⟨a,rfl,h2 a h⟩
theorem yX {α:Type} [Inhabited α] {l:List α} {i:Int} {Q:α->Prop} (h1:0<=i/\i<l.length) (h2:el l i.toNat∈l->Q (el l i.toNat)):T (C1 l i) Q:=
 ⟨_,D63 h1.1 h1.2,h2 (A2P (by omega))⟩
class TS {α:Type} (m:Option α) (H:outParam Prop) (P:outParam (α->Prop)):Prop where
 pf:H->T m P
theorem yS {α:Type} {m:Option α} {H:Prop} {P Q:α->Prop} [i:TS m H P] (h:H) (k:∀a,P a->Q a):T m Q:=yM (i.pf h) k
theorem yL {S R:Type} {f:S->Option (S⊕R)} {s:S} {Q:R->Prop} (I:S->Prop) (μ:S->Nat) (h0:I s)
  (h: ∀s,I s->T (f s) fun x=>match x with
   | .inl s' =>I s' /\μ s' <μ s
   | .inr r=>Q r):T (loop f s) Q:=by
 refine R3 I μ Q s h0 fun s hs=> ?_;obtain ⟨x,e,g⟩:=h s hs;cases x with
 |inl s' =>exact .inl ⟨s',e,g⟩
 |inr r=>exact .inr ⟨r,e,g⟩
theorem A0k (i:Int) (h:0<=i/\i<=9223372036854775800):A1 (i+1)=i+1/\A1 (i-1)=i-1/\A1 (i+2)=i+2:=by
 refine ⟨?_, ?_, ?_⟩<;>(rw [C7]<;>omega)
theorem D4o {α:Type} {P:α->Prop} {l:List α} {a:α} (i:Nat) (h:∀w∈l,P w) (ha:P a): ∀w∈l.set i a,P w:=fun w hw=>by
 rcases List.mem_or_eq_of_mem_set hw with h1|h1
 ·exact h w h1
 ·rw [h1];exact ha
theorem C7d {α:Type} (l:List α) (i:Nat) (z:List α) (h:i+z.length<=l.length):(laid l i z).length=l.length:=by
 unfold laid;simp;omega
theorem D3I (a b:Int):A1L a b<=b/\A1L a b<=a/\(A1L a b=a\/A1L a b=b):=by unfold A1L;split<;>omega
theorem yE {α:Type} {m:Option α} {Q:α->Prop} (h:T m Q): ∃r,m=some r:=let ⟨r,e,_⟩:=h;⟨r,e⟩
theorem yZ {p:Prop} (h:p:=by
 first
  |trivial
  |assumption
  |omega
  |(simp only [D7i,D7x,D7m,D7z,D7M,D7V,D7O,D7I,D8g,D73,D8h,D7r,D7Q,D7o,D77,bne_iff_ne,D8a,D76,bne_eq_false_iff_eq,D7C,Bool.not_eq_false',ne_eq,List.nil_append,List.append_nil,D7W,not_true,not_false_eq_true,true_and,and_true,Int.not_lt,Int.not_le,D7T,Bool.true_eq_false,Bool.false_eq_true,D78,Prod.mk.injEq,Int.reduceEq,Int.reduceBNe,Int.reduceBEq,Int.reduceNe,Int.reduceLT,Int.reduceLE,Nat.reduceAdd,Nat.reduceLeDiff,reduceCtorEq,ge_iff_le,gt_iff_lt,false_and,and_false,true_or,or_true,false_or,or_false,Nat.zero_le];done)
  |(simp only [D7i,D7x,D7m,D7z,D7M,D7V,D7O,D7I,D8g,D73,D8h,D7r,D7Q,D7o,D77,bne_iff_ne,D8a,D76,bne_eq_false_iff_eq,D7C,Bool.not_eq_false',ne_eq,List.nil_append,List.append_nil,D7W,not_true,not_false_eq_true,true_and,and_true,Int.not_lt,Int.not_le,D7T,Bool.true_eq_false,Bool.false_eq_true,D78,Prod.mk.injEq,Int.reduceEq,Int.reduceBNe,Int.reduceBEq,Int.reduceNe,Int.reduceLT,Int.reduceLE,Nat.reduceAdd,Nat.reduceLeDiff,reduceCtorEq,ge_iff_le,gt_iff_lt,false_and,and_false,true_or,or_true,false_or,or_false,Nat.zero_le];first|omega|(and_intros<;>first|trivial|assumption|omega))
  |(simp only [D7i,D7x,D7m,D7z,D7M,D7V,D7O,D7I,D8g,D73,D8h,D7r,D7Q,D7o,D77,bne_iff_ne,D8a,D76,bne_eq_false_iff_eq,D7C,Bool.not_eq_false',ne_eq,List.nil_append,List.append_nil,D7W,not_true,not_false_eq_true,true_and,and_true,Int.not_lt,Int.not_le,D7T,Bool.true_eq_false,Bool.false_eq_true,D78,Prod.mk.injEq,Int.reduceEq,Int.reduceBNe,Int.reduceBEq,Int.reduceNe,Int.reduceLT,Int.reduceLE,Nat.reduceAdd,Nat.reduceLeDiff,reduceCtorEq,ge_iff_le,gt_iff_lt,false_and,and_false,true_or,or_true,false_or,or_false,Nat.zero_le,B0I,K3,K0] at*;first|omega|(and_intros<;>first|trivial|assumption|omega))
  |grind
  |(simp_all<;>first|omega|grind)):p:=h
theorem yT {p:Prop} (h:p:=by
 repeat' first
  |with_reducible refine yI ?_
  |with_reducible refine yB ?_
  |(with_reducible refine yC (fun h=> ?_) (fun h=> ?_))<;>try simp only [D7i,D7x,D7m,D7z,D7M,D7V,D7O,D7I,D8g,D73,D8h,D7r,D7Q,D7o,D77,bne_iff_ne,D8a,D76,bne_eq_false_iff_eq,D7C,Bool.not_eq_false',ne_eq,List.nil_append,List.append_nil,D7W,not_true,not_false_eq_true,true_and,and_true,Int.not_lt,Int.not_le,D7T,Bool.true_eq_false,Bool.false_eq_true,D78,Prod.mk.injEq,Int.reduceEq,Int.reduceBNe,Int.reduceBEq,Int.reduceNe,Int.reduceLT,Int.reduceLE,Nat.reduceAdd,Nat.reduceLeDiff,reduceCtorEq,ge_iff_le,gt_iff_lt,false_and,and_false,true_or,or_true,false_or,or_false,Nat.zero_le] at h
  |with_reducible refine yK ?_ ?_
  |(with_reducible refine yG (fun h=> ?_) (fun h=> ?_))<;>try simp only [D7i,D7x,D7m,D7z,D7M,D7V,D7O,D7I,D8g,D73,D8h,D7r,D7Q,D7o,D77,bne_iff_ne,D8a,D76,bne_eq_false_iff_eq,D7C,Bool.not_eq_false',ne_eq,List.nil_append,List.append_nil,D7W,not_true,not_false_eq_true,true_and,and_true,Int.not_lt,Int.not_le,D7T,Bool.true_eq_false,Bool.false_eq_true,D78,Prod.mk.injEq,Int.reduceEq,Int.reduceBNe,Int.reduceBEq,Int.reduceNe,Int.reduceLT,Int.reduceLE,Nat.reduceAdd,Nat.reduceLeDiff,reduceCtorEq,ge_iff_le,gt_iff_lt,false_and,and_false,true_or,or_true,false_or,or_false,Nat.zero_le] at h
  |with_reducible refine yX ?_ (fun _=> ?_)
  |with_reducible refine yP ?_
  |with_reducible refine yS ?_ (fun _ _=> ?_)
  |(refine yC (fun h=> ?_) (fun h=> ?_))<;>try simp only [D7i,D7x,D7m,D7z,D7M,D7V,D7O,D7I,D8g,D73,D8h,D7r,D7Q,D7o,D77,bne_iff_ne,D8a,D76,bne_eq_false_iff_eq,D7C,Bool.not_eq_false',ne_eq,List.nil_append,List.append_nil,D7W,not_true,not_false_eq_true,true_and,and_true,Int.not_lt,Int.not_le,D7T,Bool.true_eq_false,Bool.false_eq_true,D78,Prod.mk.injEq,Int.reduceEq,Int.reduceBNe,Int.reduceBEq,Int.reduceNe,Int.reduceLT,Int.reduceLE,Nat.reduceAdd,Nat.reduceLeDiff,reduceCtorEq,ge_iff_le,gt_iff_lt,false_and,and_false,true_or,or_true,false_or,or_false,Nat.zero_le] at h
  |refine yB ?_
  |refine yI ?_
  |exact yZ):p:=h
end Go.Win
set_option maxHeartbeats 4000000
namespace Go.Win
open Go.Vc Go.Dec
theorem U4 {α:Type} {b:Bool} {bad:Prop} {X Y:α} (h:b=true↔bad):(bad->cond b X Y=X)/\(¬bad->cond b X Y=Y):=by
 cases b with
 |true=>exact ⟨fun _=>rfl,fun hn=>absurd (h.1 rfl) hn⟩
 |false=>exact ⟨fun hb=>absurd (h.2 hb) (by decide),fun _=>rfl⟩
theorem B5g {α:Type} (a b:Bool) (x y:α):cond a x (cond b x y)=cond (a||b) x y:=by cases a<;>rfl
def F1 (l:List A3) (j i:Nat):Int:=(((l.take i).countP fun b=>b.Bc==(j:Int)):Nat)
theorem D1G {l:List A3} {i:Nat} (h:i<l.length) (j:Nat):F1 l j (i+1)=F1 l j i+(if (el l i).Bc=(j:Int) then 1 else 0):=by
 unfold F1;rw [List.take_add_one,A5S h,Option.toList_some,List.countP_append,List.countP_singleton];split<;>simp_all
theorem D46 (l:List A3) (j i:Nat):0<=F1 l j i:=by unfold F1;omega
theorem D45 (l:List A3) (j i:Nat):F1 l j i<=i:=by
 have:(l.take i).countP (fun b=>b.Bc==(j:Int))<=(l.take i).length:=List.countP_le_length;rw [D7I] at this;unfold F1;omega
def B2q (l:List A3) (i:Nat):Prop:= ¬(0<=(el l i).T/\(el l i).T<=16777216/\0<=(el l i).Bc/\(el l i).Bc<=30)\/(0<i/\((el l (i-1)).T>(el l i).T\/(el l (i-1)).Bc<(el l i).Bc))
def B6G (l:List A3) (k:Int) (j:Nat):Prop:=F1 l j l.length>k+1\/((j:Int)<(el l 0).Bc/\F1 l j l.length<k)
def B0Q (l:List A3) (k:Int):Prop:=(1<=k/\k<=128)/\(∀i,i<l.length-> ¬B2q l i)/\(0<l.length-> ∀j:Nat,(j:Int)<=(el l 0).Bc-> ¬B6G l k j)
theorem D3x (l:List A3) (i:Nat): [F1 l 0 i,F1 l 1 i,F1 l 2 i,F1 l 3 i,F1 l 4 i,F1 l 5 i,F1 l 6 i,F1 l 7 i,F1 l 8 i,F1 l 9 i,F1 l 10 i,F1 l 11 i,F1 l 12 i,F1 l 13 i,F1 l 14 i,F1 l 15 i,F1 l 16 i,F1 l 17 i,F1 l 18 i,F1 l 19 i,F1 l 20 i,F1 l 21 i,F1 l 22 i,F1 l 23 i,F1 l 24 i,F1 l 25 i,F1 l 26 i,F1 l 27 i,F1 l 28 i,F1 l 29 i,F1 l 30 i]=(List.range 31).map fun j=>F1 l j i:=rfl
theorem C62 (l:List A3) (i:Nat) {L:Int} (h0:0<=L) (h1:L<=30):C1 [F1 l 0 i,F1 l 1 i,F1 l 2 i,F1 l 3 i,F1 l 4 i,F1 l 5 i,F1 l 6 i,F1 l 7 i,F1 l 8 i,F1 l 9 i,F1 l 10 i,F1 l 11 i,F1 l 12 i,F1 l 13 i,F1 l 14 i,F1 l 15 i,F1 l 16 i,F1 l 17 i,F1 l 18 i,F1 l 19 i,F1 l 20 i,F1 l 21 i,F1 l 22 i,F1 l 23 i,F1 l 24 i,F1 l 25 i,F1 l 26 i,F1 l 27 i,F1 l 28 i,F1 l 29 i,F1 l 30 i] L=some (F1 l L.toNat i):=by
 rw [D3x];have:C1 ((List.range 31).map fun j=>F1 l j i) ((L.toNat:Nat):Int)=some (F1 l L.toNat i):=by
  rw [S4,D7P,List.getElem?_range (by omega)]
  rfl
 rw [<-this]
 congr 1
 omega
theorem D1F {l:List A3} {i:Nat} (h:i<l.length) (hl:l.length<=maxLen) (h0:0<=(el l i).Bc) (j:Nat):
  (if (el l i).Bc.toNat=j then A1 (F1 l (el l i).Bc.toNat i+1) else F1 l j i)=F1 l j (i+1):=by
 rw [D1G h];have h1:=D46 l j i;have h2:=D45 l j i;rw [K0] at hl
 by_cases e:(el l i).Bc.toNat=j
 ·rw [if_pos e,e,if_pos (by omega),C7]<;>omega
 ·rw [if_neg e,if_neg (by omega)];omega
def stB (l:List A3) (i:Nat):Int×Int×Int×Int×Int×Int×Int×Int×Int×Int×Int×Int×Int×Int×Int×Int×Int×Int×Int×Int×Int×Int×Int×Int×Int×Int×Int×Int×Int×Int×Int×Int:=((i:Int),F1 l 0 i,F1 l 1 i,F1 l 2 i,F1 l 3 i,F1 l 4 i,F1 l 5 i,F1 l 6 i,F1 l 7 i,F1 l 8 i,F1 l 9 i,F1 l 10 i,F1 l 11 i,F1 l 12 i,F1 l 13 i,F1 l 14 i,F1 l 15 i,F1 l 16 i,F1 l 17 i,F1 l 18 i,F1 l 19 i,F1 l 20 i,F1 l 21 i,F1 l 22 i,F1 l 23 i,F1 l 24 i,F1 l 25 i,F1 l 26 i,F1 l 27 i,F1 l 28 i,F1 l 29 i,F1 l 30 i)
theorem C0W (l:List A3) (k:Int) (hk:1<=k/\k<=128) (h0:0<l.length) (hL:0<=(el l 0).Bc/\(el l 0).Bc<=30) (i:Nat) (hi:i=l.length):
  A28 k (F1 l 0 i) (F1 l 1 i) (F1 l 2 i) (F1 l 3 i) (F1 l 4 i) (F1 l 5 i) (F1 l 6 i) (F1 l 7 i) (F1 l 8 i) (F1 l 9 i) (F1 l 10 i) (F1 l 11 i) (F1 l 12 i) (F1 l 13 i) (F1 l 14 i) (F1 l 15 i) (F1 l 16 i) (F1 l 17 i) (F1 l 18 i) (F1 l 19 i) (F1 l 20 i) (F1 l 21 i) (F1 l 22 i) (F1 l 23 i) (F1 l 24 i) (F1 l 25 i) (F1 l 26 i) (F1 l 27 i) (F1 l 28 i) (F1 l 29 i) (F1 l 30 i) (el l 0) 0=some (bOf (∀j:Nat,(j:Int)<=(el l 0).Bc-> ¬B6G l k j)):=by
 unfold A28;have H:=Q6 (f:=fun s:Int=>A2K k (F1 l 0 i) (F1 l 1 i) (F1 l 2 i) (F1 l 3 i) (F1 l 4 i) (F1 l 5 i) (F1 l 6 i) (F1 l 7 i) (F1 l 8 i) (F1 l 9 i) (F1 l 10 i) (F1 l 11 i) (F1 l 12 i) (F1 l 13 i) (F1 l 14 i) (F1 l 15 i) (F1 l 16 i) (F1 l 17 i) (F1 l 18 i) (F1 l 19 i) (F1 l 20 i) (F1 l 21 i) (F1 l 22 i) (F1 l 23 i) (F1 l 24 i) (F1 l 25 i) (F1 l 26 i) (F1 l 27 i) (F1 l 28 i) (F1 l 29 i) (F1 l 30 i) (el l 0) s) ((el l 0).Bc.toNat+1) (B6G l k) false (some true)
  (fun j hj _=>by
   unfold A2K;have e1:decide ((j:Int)<=(el l 0).Bc)=true:=D7l (by omega)
   have e2:A1 (k+1)=k+1:=by rw [C7]<;>omega
   have e3:A1 ((j:Int)+1)=((j+1:Nat):Int):=by rw [C7]<;>omega
   rw [e1,D7k,C62 l i (by omega) (by omega),D7g]
   simp only [D7g,e2,e3,D7W]
   by_cases g1:F1 l j i>k+1
   ·simp only [g1,decide_true,D7s,D7L,K8,D7g,D70,D7k];exact ⟨fun _=>trivial,fun hn=>absurd (.inl (hi▸g1)) hn⟩
   ·simp only [g1,decide_false,D7t,D7R,D7H]
    by_cases g2:(j:Int)<(el l 0).Bc
    ·simp only [g2,decide_true,J1,D7g,D7R];refine U4 ?_;unfold B6G;rw [D7i,<-hi];omega
    ·simp only [g2,decide_false,K8,D7g,D7L,D7j];refine ⟨fun hb=> ?_,fun _=>trivial⟩;unfold B6G at hb;rw [<-hi] at hb;omega)
  (fun _=>by
   unfold A2K;rw [D7n (by omega),D7j])
 by_cases hb: ∃j:Nat,j<(el l 0).Bc.toNat+1/\B6G l k j
 ·rw [H.1 hb,W5];intro hn;obtain ⟨j,h1,h2⟩:=hb;exact hn j (by omega) h2
 ·rw [H.2 fun j h1 h2=>hb ⟨j,h1,h2⟩,A1I];intro j h1 h2;exact hb ⟨j,by omega,h2⟩
theorem A7e (l:List A3) (k:Int) (hl:l.length<=maxLen):X7 l k=some (bOf (B0Q l k)):=by
 unfold X7
 by_cases hk:1<=k/\k<=128
 ·have e:(decide (k<(1:Int))||decide (k>(128:Int)))=false:=by simp;omega
  rw [e,D7j];unfold B2t;have H: ∀R,((∃i,0<=i/\i<l.length/\B2q l i)->R=some false)/\((∀i,0<=i->i<l.length-> ¬B2q l i)->R=(if 0<l.length then A28 k (F1 l 0 l.length) (F1 l 1 l.length) (F1 l 2 l.length) (F1 l 3 l.length) (F1 l 4 l.length) (F1 l 5 l.length) (F1 l 6 l.length) (F1 l 7 l.length) (F1 l 8 l.length) (F1 l 9 l.length) (F1 l 10 l.length) (F1 l 11 l.length) (F1 l 12 l.length) (F1 l 13 l.length) (F1 l 14 l.length) (F1 l 15 l.length) (F1 l 16 l.length) (F1 l 17 l.length) (F1 l 18 l.length) (F1 l 19 l.length) (F1 l 20 l.length) (F1 l 21 l.length) (F1 l 22 l.length) (F1 l 23 l.length) (F1 l 24 l.length) (F1 l 25 l.length) (F1 l 26 l.length) (F1 l 27 l.length) (F1 l 28 l.length) (F1 l 29 l.length) (F1 l 30 l.length) (el l 0) 0 else some true))->R=some (bOf (B0Q l k)):=by
   intro R hR
   by_cases hb: ∃i,0<=i/\i<l.length/\B2q l i
   ·rw [hR.1 hb,W5];intro hn;obtain ⟨i,_,h1,h2⟩:=hb;exact hn.2.1 i h1 h2
   ·have hg: ∀i,0<=i->i<l.length-> ¬B2q l i:=fun i h1 h2 h3=>hb ⟨i,h1,h2,h3⟩;rw [hR.2 hg]
    by_cases h0:0<l.length
    ·have h1:=hg 0 (D7Y _) h0;unfold B2q at h1;rw [if_pos h0,C0W l k hk h0 (by omega) l.length rfl]
     congr 1
     rw [D7B,A1b,A1b];exact ⟨fun h2=>⟨hk,fun i hi=>hg i (Nat.zero_le _) hi,fun _=>h2⟩,fun h2=>h2.2.2 h0⟩
    ·rw [if_neg h0,A1I];exact ⟨hk,fun i hi=>hg i (Nat.zero_le _) hi,fun h=>absurd h h0⟩
  apply H;refine A4F (stB l) 0 l.length (Nat.zero_le _) (B2q l) false _ (fun i _ hi _=> ?_) (fun hg=> ?_)
  ·simp only [stB];unfold A6v;rw [D7l (by omega),D7k,L1 hi,D7g]
   simp only []
   by_cases hr:0<=(el l i).T/\(el l i).T<=16777216/\0<=(el l i).Bc/\(el l i).Bc<=30
   ·have e1:(!A10 (el l i).T|| !A0s (el l i).Bc)=false:=by
     unfold A10 A0s;simp;omega
    rw [e1,D7j,C62 l i hr.2.2.1 hr.2.2.2];simp only [D7g,D1F hi hl hr.2.2.1,Z3 hi hl];rcases i with _|i
    ·simp only [D7J,gt_iff_lt,Int.natCast_zero,decide_false,K8,D7g,D7L,D7j];refine ⟨fun hb=> ?_,fun _=>trivial⟩;unfold B2q at hb;omega
    ·have e2:decide (((i+1:Nat):Int)>0)=true:=D7l (by omega)
     rw [e2,B1D (by omega) (Nat.le_of_lt hi) hl,D7X,L1 (by omega)]
     simp only [J1,D7g,D7R]
     by_cases g1:(el l i).T>(el l (i+1)).T
     ·simp only [g1,decide_true,D7s,K8,D7g,D70,D7k];exact ⟨fun _=>trivial,fun hn=>absurd (.inr ⟨by omega, .inl (by rw [D7X];exact g1)⟩) hn⟩
     ·simp only [g1,decide_false,D7t,J1,D7g,D7H];refine U4 ?_;unfold B2q;rw [D7i,D7X];omega
   ·have e1:(!A10 (el l i).T|| !A0s (el l i).Bc)=true:=by
     unfold A10 A0s;rw [D7B];simp;omega
    rw [e1,D7k];exact ⟨fun _=>rfl,fun hn=>absurd (.inl hr) hn⟩
  ·simp only [stB];unfold A6v;rw [D7n (D7J _),D7j]
   congr 1
   by_cases h0:0<l.length
   ·have e1:((l.length:Int)==0)=false:=by rw [D76];omega
    rw [e1,D7j,if_pos h0,A9n h0,D7g]
   ·have e1:((l.length:Int)==0)=true:=by
     have:l.length=0:=by omega
     rw [this];rfl
    rw [e1,D7k,if_neg h0]
 ·have e:(decide (k<(1:Int))||decide (k>(128:Int)))=true:=by
   rw [D7B];simp;omega
  rw [e,D7k,W5];exact fun h=>hk h.1
end Go.Win
set_option maxHeartbeats 4000000
namespace Go.Win
open Go.Vc Go.Dec
theorem C5g:A9V=A94:=rfl
theorem D2I:A8x=N9:=rfl
theorem C68 (a b c:Int):A61 a b c=Q8 a b c:=by
 unfold A61 Q8 A0h I7;rw [D7B];simp only [D7o,D7i];omega
theorem A5Y (n w t:Int):P6 n w t=I1 n w t:=by
 unfold P6 A4B I1 I7 A0h;have e:A2L=A5U:=rfl;rw [e];unfold A5U
 by_cases h1:n>=0/\n<=16777216
 ·by_cases h2:w>=1/\w<=1048576
  ·have c:(((!(decide (n>=0)&&decide (n<=16777216)))||decide (w<1))||decide (w>1048576))=false:=by
    simp only [D7Q,Bool.not_eq_false',D7o,D7i,D7x];omega
   simp only [c,D7j];have e1:A1 (n-w)=n-w:=by rw [C7]<;>omega
   have e2:A1 (n-w+1)=n-w+1:=by rw [C7]<;>omega
   rw [e1,e2,D7B];simp only [D7o,D7i,A0y];split<;>omega
  ·have c:(((!(decide (n>=0)&&decide (n<=16777216)))||decide (w<1))||decide (w>1048576))=true:=by
    simp only [D7r,D7C,D77,D7i,D7x];omega
   have d:(decide (w>=1)&&decide (w<=1048576))=false:=by
    simp only [D77,D7x];omega
   simp only [c,d,D7k,Bool.and_false,D7L]
   rfl
 ·have c:(((!(decide (n>=0)&&decide (n<=16777216)))||decide (w<1))||decide (w>1048576))=true:=by
   simp only [D7r,D7C,D77,D7i,D7x];omega
  have d:(decide (n>=0)&&decide (n<=16777216))=false:=by
   simp only [D77,D7x];omega
  simp only [c,d,D7k,D7L]
  rfl
def B33 (l:List A9) (now:Int) (i:Nat):Bool:=match l[i]? with
 |none=>false
 |some p=>(decide (p.T<0)||decide (p.T>now))||(decide (0<i)&&match l[i-1]? with
  |some q=>decide (q.T>p.T)
  |none=>false)
noncomputable def A8W (l:List A9) (now:Int):Bool:=I7 now&& !(List.range l.length).any (B33 l now)
theorem B9h {i:Nat} (h:0<i) (hm:i<=maxLen):A1 ((i:Int)-1)=((i-1:Nat):Int):=by
 rw [K0] at hm;rw [C7]<;>omega
theorem S6 {i n:Nat} (h:i<n) (hm:n<=maxLen):A1 ((i:Int)+1)=(i:Int)+1:=by
 rw [K0] at hm;rw [C7]<;>omega
theorem M9 {α:Type} {l:List α} {i:Nat} (h:i<l.length):l[i]? =some l[i]:=D7u h
theorem C0H (l:List A9) (now:Int) (hl:l.length<=maxLen):A94 l now=some (A8W l now):=by
 unfold A94 A8W;cases ht:I7 now with
 |false=>rfl
 |true=>
  have h:A9y l now 0=cond ((List.range l.length).any (B33 l now)) (some false) (some true):=by
   unfold A9y;refine A38 (fun i hi=> ?_) ?_
   ·have hs:=S6 hi hl;unfold A8y B33;simp only [Int.ofNat_lt,hi,decide_true,D7k,S4,M9 hi,D7g,hs]
    by_cases h0:0<i
    ·have hp:=B9h h0 (Nat.le_trans (Nat.le_of_lt hi) hl);have h3:((i:Int)>0):=by omega
     simp only [hp,S4,M9 (show i-1<l.length by omega),h3,h0,decide_true,D7R,Bool.and_true]
     cases (decide (l[i].T<0)||decide (l[i].T>now))<;>simp
    ·have h3: ¬((i:Int)>0):=by omega
     simp only [h3,h0,decide_false,K8,D7g,D7L,Bool.and_false,Bool.or_false]
   ·unfold A8y;simp
  simp only [D7s,D7j,h];cases (List.range l.length).any (B33 l now)<;>rfl
noncomputable def C3b (l:List A9) (now w:Int):List A9:=l.filter fun p=>I1 now w p.T
def C3a {α:Type} (p:α->Bool) (l:List α) (i:Nat) (b:List α):List α:=match l[i]? with
 |some x=>if p x then b++ [x] else b
 |none=>b
theorem C30 {α:Type} (p:α->Bool) (l:List α): ∀(k:Nat) (acc:List α),k<=l.length->(List.range' (l.length-k) k).foldl (fun b i=>C3a p l i b) acc=acc++(l.drop (l.length-k)).filter p:=by
 intro k
 induction k with
 |zero=>intro acc _;simp
 |succ k ih=>
  intro acc hk;have hi:l.length-(k+1)<l.length:=by omega
  have e:l.length-(k+1)+1=l.length-k:=by omega
  rw [List.range'_succ,List.foldl_cons,e,ih _ (by omega),List.drop_eq_getElem_cons hi,List.filter_cons,e,C3a,M9 hi]
  simp only;split<;>simp
theorem C92 (l:List A9) (n w:Int) (hl:l.length<=1000000):B0N l n w [] 0=some (C3b l n w):=by
 have hm:l.length<=maxLen:=by rw [K0];omega
 unfold B0N;obtain ⟨h,_⟩:=C8w (R:=List A9) (f:=fun s:List A9×Int=>A5T l n w s.1 s.2) (fun i b=>(b,(i:Int))) l.length (fun i b=>b.length<=i)
  (C3a (fun p=>P6 n w p.T) l) (fun b=>some b) (fun i b hi hb=>by
    have hs:=S6 hi hm;unfold A5T C3a;simp only [Int.ofNat_lt,hi,decide_true,D7k,S4,M9 hi,D7g,hs];have hk:decide ((b.length+ [l[i]].length)*16<=140737488355328)=true:=by rw [D7i,D7V];omega
    rw [hk]
    by_cases hc:P6 n w l[i].T=true
    ·rw [if_pos hc,hc];exact ⟨rfl,by simp;omega⟩
    ·rw [if_neg hc];rw [Bool.not_eq_true] at hc;rw [hc];exact ⟨rfl,by omega⟩) (fun b _=>by
    unfold A5T;simp) [] (by simp)
 have hf:=C30 (fun p=>P6 n w p.T) l l.length [] (D7Y _);rw [Nat.sub_self,<-List.range_eq_range'] at hf;simp only [List.drop_zero,List.nil_append] at hf;refine h.trans ?_;show some _=some _
 congr 1
 refine hf.trans ?_;unfold C3b;simp only [A5Y]
theorem C8h (l:List A9) (n w:Int) (hl:l.length<=1000000):B1u l n w=some (if A8W l n then C3b l n w else []):=by
 unfold B1u;rw [C5g,C0H l n (by rw [K0];omega)]
 cases A8W l n with
 |false=>rfl
 |true=>simp [C92 l n w hl]
theorem B9V (l:List A9) (hl:l.length<=maxLen):A2T l l=some true:=by
 have h:A5H l l 0=cond ((List.range l.length).any fun _=>false) (some false) (some true):=by
  unfold A5H;refine A38 (fun i hi=> ?_) ?_
  ·unfold A4N;simp [hi,S6 hi hl]
  ·unfold A4N;simp
 have hf:((List.range l.length).any fun _=>false)=false:=by simp
 rw [hf] at h;unfold A2T;simp [h]
theorem C85 (x:D0) (hl:x.Bb.length<=maxLen):B1I x x=some true:=by
 unfold B1I;simp [B9V x.Bb hl]
theorem A8X (x:D0):X0 x=A3K x:=by
 have e:A4M=A0Z:=by
  funext x i
  unfold A4M A0Z;simp only [A5Y,D2I]
 unfold X0 A3K B0s A3f;rw [e,C68,C5g]
noncomputable def okV (x:D0):Bool:=(Q8 x.W x.Cap x.Now&&decide ((x.Bb.length:Int)<=x.Cap))&&(A8W x.Bb x.Now&&x.Bb.all fun p=>I1 x.Now x.W p.T&&N9 p.V)
theorem D3k {α:Type} {l:List α} {p:α->Bool}:(List.range l.length).any (fun i=>match l[i]? with
  |some x=> !p x
  |none=>false)= !l.all p:=by
 rw [D7B,C0V];constructor
 ·rintro ⟨i,hi,h⟩;rw [M9 hi] at h;simp only [D7C] at h⊢;rw [List.all_eq_false];exact ⟨l[i],D75 hi,by simp [h]⟩
 ·intro h;simp only [D7C] at h;rw [List.all_eq_false] at h;obtain ⟨x,hx,hp⟩:=h;obtain ⟨i,hi,rfl⟩:=List.mem_iff_getElem.1 hx;refine ⟨i,hi, ?_⟩;rw [M9 hi];simpa using hp
theorem A6o (x:D0) (hl:x.Bb.length<=maxLen):A3K x=some (if okV x then 0 else 2):=by
 have h:A3f x 0=cond (!(x.Bb.all fun p=>I1 x.Now x.W p.T&&N9 p.V)) (some 2) (some 0):=by
  rw [<-D3k];unfold A3f;refine A38 (fun i hi=> ?_) ?_
  ·unfold A0Z;simp only [Int.ofNat_lt,hi,decide_true,D7k,S4,M9 hi,D7g,S6 hi hl,Bool.not_and]
  ·unfold A0Z;simp
 unfold A3K okV;rw [C0H x.Bb x.Now hl,h];have hd:decide ((x.Bb.length:Int)>x.Cap)= !decide ((x.Bb.length:Int)<=x.Cap):=by
  rw [D7B];simp
 rw [hd];cases Q8 x.W x.Cap x.Now<;>cases decide ((x.Bb.length:Int)<=x.Cap)<;>cases A8W x.Bb x.Now<;>cases (x.Bb.all fun p=>I1 x.Now x.W p.T&&N9 p.V)<;>rfl
theorem C2m {x:D0} (h:okV x=true):1<=x.W/\x.W<=1048576/\1<=x.Cap/\x.Cap<=65536/\0<=x.Now/\x.Now<=16777216/\(x.Bb.length:Int)<=x.Cap:=by
 unfold okV Q8 A0h I7 at h;simp only [D7o,D7i] at h;omega
theorem C5H (x:D0) (t:Int) (hl:x.Bb.length<=maxLen): ∃r,A59 x t=some r/\r.1.Bb.length<=65537:=by
 unfold A59;rw [A8X,A6o x hl];simp only [D7g];cases hv:okV x with
 |false=>exact ⟨_,rfl,Nat.zero_le _⟩
 |true=>
  obtain ⟨h1,h2,h3,h4,h5,h6,h7⟩:=C2m hv;have ht:A2L x.Now=true:=by
   show A5U x.Now=true;unfold A5U;simp only [D7o,D7i];omega
  unfold Q2;simp only [ht,D7s,D7j];cases (decide (t<x.Now)||decide (t>16777216)) with
  |true=>exact ⟨_,rfl,Nat.zero_le _⟩
  |false=>
   have hle:x.Bb.length<=1000000:=by omega
   simp only [C8h x.Bb t x.W hle];refine ⟨_,rfl, ?_⟩;show (if A8W x.Bb t then C3b x.Bb t x.W else []).length<=65537
   split
   ·exact Nat.le_trans (List.length_filter_le _ _) (by omega)
   ·exact Nat.zero_le _
theorem D3e (x:D0) (v:Int) (hl:x.Bb.length<=maxLen):T (B1F x v) fun r=>r.1.Bb.length<=65537:=by
 unfold B1F;rw [A8X,A6o x hl];cases hv:okV x with
 |false=>exact yT
 |true=>have:=C2m hv;exact yT
end Go.Win
set_option maxHeartbeats 4000000
namespace Go.Win
open Go.Vc Go.Dec
theorem D4z (a b:Int):A1 (A1 a+b)=A1 (a+b):=by
 rw [B0I,B0I,B0I];omega
theorem B0G (t:Int):I7 t=true↔0<=t/\t<=16777216:=by unfold I7;simp
theorem B4T (w c n:Int):Q8 w c n=true↔(1<=w/\w<=1048576)/\(1<=c/\c<=65536)/\(0<=n/\n<=16777216):=by
 unfold Q8 A0h I7;simp;omega
theorem D16 (k:Int):U7 k=true↔1<=k/\k<=64:=by unfold U7;simp
theorem D1a (v:Int):N9 v=true↔ -4096<=v/\v<=4096:=by unfold N9;simp
theorem D1Y: ∀n:Fin 31,E8 .i64 1 (A4 (n.1:Int))=2^n.1:=by decide+kernel
theorem C8r {L:Int} (h0:0<=L) (h1:L<=30):E8 .i64 1 (A4 L)=2^L.toNat:=by
 have:=D1Y ⟨L.toNat,by omega⟩
 simp only [] at this;rw [<-this]
 congr 2
 omega
def A7s (b:A3):Int:=if 0<=b.Bc/\b.Bc<=30 then 2^b.Bc.toNat else 0
def X6 (l:List A3):Int:=(l.map A7s).sum
theorem C5b:X6 []=0:=rfl
theorem B0H (b:A3) (l:List A3):X6 (b::l)=A7s b+X6 l:=by simp [X6]
theorem C6y (a b:List A3):X6 (a++b)=X6 a+X6 b:=by simp [X6]
theorem C4W (b:A3):0<=A7s b:=by
 unfold A7s;split
 ·exact Int.pow_nonneg (by decide)
 ·exact Int.le_refl 0
theorem C7v (l:List A3):0<=X6 l:=by
 induction l with
 |nil=>exact Int.le_refl 0
 |cons b l ih=>rw [B0H];have:=C4W b;omega
theorem D05 {l:List A3} {i:Nat} (h:i<l.length):X6 (l.take (i+1))=X6 (l.take i)+A7s (el l i):=by
 rw [List.take_add_one,A5S h,Option.toList_some,C6y,B0H,C5b];omega
theorem A95 (l:List A3) (hl:l.length<=maxLen):A62 l=some (A1 (X6 l)):=by
 unfold A62 B4W;have H:=A4F (f:=fun s:Int×Int=>A5c l s.1 s.2) (fun i=>(A1 (X6 (l.take i)),(i:Int))) 0 l.length (Nat.zero_le _) (fun _=>False) 0 (some (A1 (X6 l)))
  (fun i _ hi _=>by
   refine ⟨fun h=>h.elim,fun _=> ?_⟩;simp only [];unfold A5c;rw [D7l (by omega:(i:Int)<(l.length:Int)),D7k,L1 hi,D7g,Z3 hi hl,D05 hi]
   unfold A7s
   by_cases h:0<=(el l i).Bc/\(el l i).Bc<=30
   ·rw [D7l h.1,D7l h.2,if_pos h,C8r h.1 h.2,D4z];have:decide (0<=A4 (el l i).Bc)=true:=D7l (by rw [K3];omega)
    rw [this];rfl
   ·have e:(decide ((el l i).Bc>=0)&&decide ((el l i).Bc<=30))=false:=by
     rw [D7w];simpa using h
    rw [e,if_neg h,D7j,Int.add_zero])
  (fun _=>by
   simp only [];unfold A5c;rw [D7n (D7J _),D7j,List.take_length])
 exact H.2 (fun _ _ _ h=>h)
theorem B2i:T6=A62:=rfl
def B2Q (l:List A3) (W K Cap Now:Int):Prop:=
 ((1<=W/\W<=1048576)/\(1<=Cap/\Cap<=65536)/\(0<=Now/\Now<=16777216)/\(1<=K/\K<=64))/\B0Q l K/\A1 (X6 l)<=Cap/\ ∀i,i<l.length->I1 Now W (el l i).T=true
theorem A9l (w k c n:Int):A5Q w k c n=true↔(1<=w/\w<=1048576)/\(1<=c/\c<=65536)/\(0<=n/\n<=16777216)/\(1<=k/\k<=64):=by
 unfold A5Q;simp;omega
theorem A5R (x:E4) (hl:x.Ad.length<=maxLen):A0H x=some (vOf (B2Q x.Ad x.W x.K x.Cap x.Now)):=by
 unfold A0H;simp only []
 by_cases h1:A5Q x.W x.K x.Cap x.Now=true
 ·have h1' :=(A9l _ _ _ _).1 h1;rw [h1,A7e _ _ hl,B2i,A95 _ hl];simp only [D7s,D7t,J1,D7g,D7H]
  by_cases h2:B0Q x.Ad x.K
  ·rw [A1I h2];simp only [D7s,D7t,J1,D7g,D7H]
   by_cases h3:A1 (X6 x.Ad)<=x.Cap
   ·rw [D7n (by omega),D7j]
    unfold B1g;have H:=Q6 (f:=fun s:Int=>A2N x s) x.Ad.length (fun i=> ¬I1 x.Now x.W (el x.Ad i).T=true) 2 (some 0)
     (fun i hi _=>by
      unfold A2N;rw [D7l (by omega:(i:Int)<(x.Ad.length:Int)),D7k,L1 hi,D7g,Z3 hi hl]
      refine U4 ?_;simp [A5Y])
     (fun _=>by
      unfold A2N;rw [D7n (D7J _),D7j])
    by_cases h4: ∀i,i<x.Ad.length->I1 x.Now x.W (el x.Ad i).T=true
    ·rw [H.2 fun i hi hn=>hn (h4 i hi),V0];exact ⟨h1',h2,h3,h4⟩
    ·rw [H.1,I8]
     ·exact fun h=>h4 h.2.2.2
     ·exact D8b fun hn=>h4 fun i hi=>D8b fun hc=>hn ⟨i,hi,hc⟩
   ·rw [D7l (by omega),D7k,I8]
    exact fun h=>h3 h.2.2.1
  ·rw [W5 h2];simp only [D7s,D7t,K8,D7g,D70,D7k];rw [I8];exact fun h=>h2 h.2.1
 ·have h1' :=fun h=>h1 ((A9l _ _ _ _).2 h);rw [Bool.not_eq_true] at h1;rw [h1];simp only [D7s,D7t,K8,D7g,D70,D7k];rw [I8];exact fun h=>h1' h.1
theorem B25 (w k c m n:Int):A9G w k c m n=true↔((1<=w/\w<=1048576)/\(1<=c/\c<=65536)/\(0<=n/\n<=16777216)/\(1<=k/\k<=64))/\(1<=m/\m<=1024):=by
 unfold A9G;simp;omega
def C3e (x:F4):Prop:=B2Q x.Ad x.W x.K x.Cap x.Now/\(1<=x.Bs/\x.Bs<=1024)
theorem A8N (x:F4) (hl:x.Ad.length<=maxLen):A14 x=some (vOf (C3e x)):=by
 unfold A14;simp only []
 by_cases h1:A9G x.W x.K x.Cap x.Bs x.Now=true
 ·have h1' :=(B25 _ _ _ _ _).1 h1;rw [h1,A7e _ _ hl,B2i,A95 _ hl];simp only [D7s,D7t,J1,D7g,D7H]
  by_cases h2:B0Q x.Ad x.K
  ·rw [A1I h2];simp only [D7s,D7t,J1,D7g,D7H]
   by_cases h3:A1 (X6 x.Ad)<=x.Cap
   ·rw [D7n (by omega),D7j]
    unfold B30;have H:=Q6 (f:=fun s:Int=>A4f x s) x.Ad.length (fun i=> ¬I1 x.Now x.W (el x.Ad i).T=true) 2 (some 0)
     (fun i hi _=>by
      unfold A4f;rw [D7l (by omega:(i:Int)<(x.Ad.length:Int)),D7k,L1 hi,D7g,Z3 hi hl]
      refine U4 ?_;simp [A5Y])
     (fun _=>by
      unfold A4f;rw [D7n (D7J _),D7j])
    by_cases h4: ∀i,i<x.Ad.length->I1 x.Now x.W (el x.Ad i).T=true
    ·rw [H.2 fun i hi hn=>hn (h4 i hi),V0];exact ⟨⟨h1'.1,h2,h3,h4⟩,h1'.2⟩
    ·rw [H.1,I8]
     ·exact fun h=>h4 h.1.2.2.2
     ·exact D8b fun hn=>h4 fun i hi=>D8b fun hc=>hn ⟨i,hi,hc⟩
   ·rw [D7l (by omega),D7k,I8]
    exact fun h=>h3 h.1.2.2.1
  ·rw [W5 h2];simp only [D7s,D7t,K8,D7g,D70,D7k];rw [I8];exact fun h=>h2 h.1.2.1
 ·have h1' :=fun h=>h1 ((B25 _ _ _ _ _).2 h);rw [Bool.not_eq_true] at h1;rw [h1];simp only [D7s,D7t,K8,D7g,D70,D7k];rw [I8];exact fun h=>h1' ⟨h.1.1,h.2⟩
theorem C6F (l:List A3) (hl:l.length<=maxLen):A8z l l=some true:=by
 unfold A8z;rw [D7T,D7j];unfold B6k;refine (Q6 (f:=fun s:Int=>A6b l l s) l.length (fun _=>False) false (some true) (fun i hi _=>⟨fun h=>h.elim,fun _=> ?_⟩) (fun _=> ?_)).2 fun _ _ h=>h
 ·unfold A6b;rw [D7l (by omega:(i:Int)<(l.length:Int)),D7k,L1 hi]
  simp [Z3 hi hl]
 ·unfold A6b;rw [D7n (D7J _),D7j]
theorem C6f (x:E4) (hl:x.Ad.length<=maxLen):B1J x x=some true:=by
 unfold B1J;simp [C6F _ hl]
theorem C6g (x:F4) (hl:x.Ad.length<=maxLen):B1K x x=some true:=by
 unfold B1K;simp [C6F _ hl]
end Go.Win
set_option maxHeartbeats 4000000
namespace Go.Win
open Go.Vc Go.Dec
def mk1 (seq cap now:Int) (m:A7):Prop:=(1<=m.Bv/\m.Bv<=seq)/\m.N=seq-m.Bv+1/\m.N<=cap/\0<=m.T/\m.T<=now
def mk2 (lo:Int) (m:A7):Prop:=lo<=m.Bt/\m.Bt<=m.Bs/\m.Bs<=4096/\A0b m.N m.Bt m.Bs m.S m.Q=true
def mk4 (o m:A7):Prop:=o.Bv<m.Bv/\o.T<=m.T/\o.Bt<=m.Bt/\m.Bs<=o.Bs/\A0b (A1 (o.N-m.N)) o.Bt o.Bs (A1 (o.S-m.S)) (A1 (o.Q-m.Q))=true
def B93 (seq:Int) (m:A7):Prop:=m.Bv=seq/\m.Bt=m.S/\m.Bs=m.S/\m.Q=A1 (m.S*m.S)
def B7j (l:List A7) (seq cap now w lo:Int) (i:Nat):Prop:=
 mk1 seq cap now (el l i)/\mk2 lo (el l i)/\((0<i\/l.length=1)->I1 now w (el l i).T=true)/\(0<i->mk4 (el l (i-1)) (el l i))
def A54 (l:List A7) (seq cap now w lo:Int):Prop:=
 (0<=seq/\seq<=1099511627776)/\(∀i,i<l.length->B7j l seq cap now w lo i)/\(0<l.length->B93 seq (el l (l.length-1)))
theorem A53 {n:Nat} {p:Nat->Prop} (h:¬ ∀i,i<n->p i): ∃i,i<n/\ ¬p i:=
 D8b fun hn=>h fun i hi=>D8b fun hc=>hn ⟨i,hi,hc⟩
theorem C4l {seq cap now:Int} (hs:0<=seq/\seq<=1099511627776) (m:A7):
  (((((decide (m.Bv<1)||decide (m.Bv>seq))||(m.N !=A1 (A1 (seq-m.Bv)+1)))||decide (m.N>cap))||decide (m.T<0))||decide (m.T>now))=true↔ ¬mk1 seq cap now m:=by
 unfold mk1
 by_cases h:1<=m.Bv/\m.Bv<=seq
 ·have e:A1 (A1 (seq-m.Bv)+1)=seq-m.Bv+1:=by rw [C7 (n:=seq-m.Bv) (by omega) (by omega),C7]<;>omega
  simp only [e,D7r,D7i,bne_iff_ne];omega
 ·simp only [D7r,D7i];constructor
  ·intro _ h2;exact h h2.1
  ·intro _;omega
theorem D0j (l:List A7) (seq cap now w lo:Int) (i:Nat):B7j l seq cap now w lo (i+1)↔
  mk1 seq cap now (el l (i+1))/\mk2 lo (el l (i+1))/\I1 now w (el l (i+1)).T=true/\mk4 (el l i) (el l (i+1)):=by
 unfold B7j;rw [D7X];constructor
 ·rintro ⟨h1,h2,h3,h4⟩;exact ⟨h1,h2,h3 (.inl (by omega)),h4 (by omega)⟩
 ·rintro ⟨h1,h2,h3,h4⟩;exact ⟨h1,h2,fun _=>h3,fun _=>h4⟩
theorem B8H (l:List A7) (seq cap now w lo:Int) (hl:l.length<=maxLen):A6Z l seq cap now w lo=some (bOf (A54 l seq cap now w lo)):=by
 unfold A6Z
 by_cases hs:0<=seq/\seq<=1099511627776
 ·have e:(decide (seq<0)||decide (seq>1099511627776))=false:=by simp;omega
  rw [e,D7j];unfold B4S;have H:=Q6 (f:=fun s:Int=>A49 l seq cap now w lo s) l.length (fun i=> ¬B7j l seq cap now w lo i) false (some (bOf (0<l.length->B93 seq (el l (l.length-1)))))
   (fun i hi _=>by
    unfold A49;rw [D7l (by omega:(i:Int)<(l.length:Int)),D7k,L1 hi,D7g,Z3 hi hl]
    simp only [A5Y]
    by_cases h1:mk1 seq cap now (el l i)
    ·have e1:=D7w.2 (fun h=>(C4l (cap:=cap) (now:=now) hs (el l i)).1 h h1);rw [e1,D7j]
     by_cases h2:mk2 lo (el l i)
     ·have e2:((((decide ((el l i).Bt<lo))||(decide ((el l i).Bs>(4096:Int))))||(decide ((el l i).Bt>(el l i).Bs)))||(!(A0b (el l i).N (el l i).Bt (el l i).Bs (el l i).S (el l i).Q)))=false:=by
       have:=h2.2.2.2;unfold mk2 at h2;rw [this];simp;omega
      rw [e2,D7j];rcases i with _|i
      ·have e3:(((0:Nat):Int)==0)=true:=rfl;have e4:decide (((0:Nat):Int)>0)=false:=rfl;rw [e3,e4,D7k,D7H];refine U4 ?_;unfold B7j;simp only [D7o,D8a,D7C,Nat.lt_irrefl,false_or,false_implies,and_true,h1,h2,true_and];have:((l.length:Int)=1)↔l.length=1:=by omega
       rw [this,Classical.not_imp,Bool.not_eq_true]
      ·have e3:(((i+1:Nat):Int)==0)=false:=by rw [D76];omega
       have e4:decide (((i+1:Nat):Int)>0)=true:=D7l (by omega)
       rw [e3,e4,D7j,D70,D7R,B1D (by omega) (Nat.le_of_lt hi) hl,D7X,L1 (by omega),D7g]
       simp only [B5g];refine U4 ?_;rw [D0j];simp only [h1,h2,true_and,D7r,D7C,D7i];unfold mk4;cases I1 now w (el l (i+1)).T with
       |false=>simp
       |true=>
        cases A0b (A1 ((el l i).N-(el l (i+1)).N)) (el l i).Bt (el l i).Bs (A1 ((el l i).S-(el l (i+1)).S)) (A1 ((el l i).Q-(el l (i+1)).Q)) with
        |false=>simp
        |true=>simp;omega
     ·have e2:((((decide ((el l i).Bt<lo))||(decide ((el l i).Bs>(4096:Int))))||(decide ((el l i).Bt>(el l i).Bs)))||(!(A0b (el l i).N (el l i).Bt (el l i).Bs (el l i).S (el l i).Q)))=true:=by
       unfold mk2 at h2;cases hf:A0b (el l i).N (el l i).Bt (el l i).Bs (el l i).S (el l i).Q with
       |false=>simp
       |true=>rw [hf] at h2;simp only [and_true] at h2;simp;omega
      rw [e2,D7k];exact ⟨fun _=>rfl,fun hn=>absurd (fun h=>h2 h.2.1) hn⟩
    ·have e1:=(C4l (cap:=cap) (now:=now) hs (el l i)).2 h1;rw [e1,D7k];exact ⟨fun _=>rfl,fun hn=>absurd (fun h=>h1 h.1) hn⟩)
   (fun _=>by
    unfold A49;rw [D7n (D7J _),D7j]
    congr 1
    by_cases h0:0<l.length
    ·have e1:((l.length:Int)==0)=false:=by rw [D76];omega
     rw [e1,D7j,B1D h0 (D7Y _) hl,L1 (by omega),D7g]
     congr 1
     rw [D7B,A1b];unfold B93;simp [h0,and_assoc]
    ·have e1:((l.length:Int)==0)=true:=by
      have:l.length=0:=by omega
      rw [this];rfl
     rw [e1,D7k,A1I];exact fun h=>absurd h h0)
  by_cases h: ∀i,i<l.length->B7j l seq cap now w lo i
  ·rw [H.2 fun i hi hn=>hn (h i hi)]
   congr 1
   rw [D7B,A1b,A1b];exact ⟨fun h2=>⟨hs,h,h2⟩,fun h2=>h2.2.2⟩
  ·rw [H.1 (A53 h),W5];exact fun h2=>h h2.2.1
 ·have e:(decide (seq<0)||decide (seq>1099511627776))=true:=by rw [D7B];simp;omega
  rw [e,D7k,W5];exact fun h=>hs h.1
theorem B88 {n lo hi s q:Int} (hn:0<=n/\n<=65536) (hlo:-4096<=lo/\lo<=4096) (hhi:-4096<=hi/\hi<=4096):
  A0b n lo hi s q=true↔n*lo<=s/\s<=n*hi/\0<=q/\q<=n*16777216/\s*s<=n*q:=by
 have b: ∀x:Int,-4096<=x->x<=4096-> -268435456<=n*x/\n*x<=268435456:=by
  intro x h1 h2;have h3:=Int.mul_le_mul_of_nonneg_left h1 hn.1;have h4:=Int.mul_le_mul_of_nonneg_left h2 hn.1;omega
 have b1:=b lo hlo.1 hlo.2;have b2:=b hi hhi.1 hhi.2;unfold A0b;rw [C7 (n:=n*lo) (by omega) (by omega),C7 (n:=n*hi) (by omega) (by omega),C7 (n:=n*4096) (by omega) (by omega),C7 (n:=n*4096*4096) (by omega) (by omega)]
 simp only [D7o,D7i];have e:n*4096*4096=n*16777216:=by omega
 rw [e];constructor
 ·rintro ⟨⟨⟨⟨h1,h2⟩,h3⟩,h4⟩,h5⟩;have hs:s*s<=268435456*268435456:=by
   have h6:s.natAbs*s.natAbs<=268435456*268435456:=Nat.mul_le_mul (by omega) (by omega)
   have e2:(s.natAbs:Int)*s.natAbs=s*s:=Int.natAbs_mul_self;have h7:((s.natAbs*s.natAbs:Nat):Int)=(s.natAbs:Int)*s.natAbs:=by rw [Int.natCast_mul]
   omega
  have hs0:0<=s*s:=by
   have e2:(s.natAbs:Int)*s.natAbs=s*s:=Int.natAbs_mul_self;have:=Int.mul_nonneg (a:=(s.natAbs:Int)) (b:=s.natAbs) (by omega) (by omega)
   omega
  have hq:n*q<=65536*1099511627776:=Int.mul_le_mul hn.2 (by omega) h3 (by omega)
  have hq0:0<=n*q:=Int.mul_nonneg hn.1 h3;rw [C7 (by omega) (by omega),C7 (by omega) (by omega)] at h5
  exact ⟨h1,h2,h3,h4,h5⟩
 ·rintro ⟨h1,h2,h3,h4,h5⟩;have hs0:0<=s*s:=by
   have e2:(s.natAbs:Int)*s.natAbs=s*s:=Int.natAbs_mul_self;have:=Int.mul_nonneg (a:=(s.natAbs:Int)) (b:=s.natAbs) (by omega) (by omega)
   omega
  have hq:n*q<=65536*1099511627776:=Int.mul_le_mul hn.2 (by omega) h3 (by omega)
  have hq0:0<=n*q:=Int.mul_nonneg hn.1 h3;rw [C7 (n:=s*s) (by omega) (by omega),C7 (n:=n*q) (by omega) (by omega)]
  exact ⟨⟨⟨⟨h1,h2⟩,h3⟩,h4⟩,h5⟩
theorem A9t (agg:Int): -4096<=A02 agg:=by
 unfold A02;cases (agg==2||agg==3)<;>decide
end Go.Win
set_option maxHeartbeats 4000000
namespace Go.Win
open Go.Vc Go.Dec
def I2 (w:A2):Prop:=0<=w.Hi/\w.Hi<18446744073709551616/\0<=w.Lo/\w.Lo<18446744073709551616
def wv (w:A2):Int:=w.Hi*18446744073709551616+w.Lo
def I9 (n:Int):A2:=⟨n/18446744073709551616,n%18446744073709551616⟩
theorem Z1 (n:Int):wv (I9 n)=n:=by
 unfold wv I9;simp only;omega
theorem A0e {n:Int} (h0:0<=n) (h1:n<340282366920938463463374607431768211456):I2 (I9 n):=by
 unfold I2 I9;simp only;omega
theorem D5o {w:A2} (h:I2 w):I9 (wv w)=w:=by
 obtain ⟨a,b⟩:=w;unfold I2 at h;unfold I9 wv;simp only at h⊢
 congr 1<;>omega
theorem A9O {w:A2} (h:I2 w):0<=wv w/\wv w<340282366920938463463374607431768211456:=by
 unfold I2 at h;unfold wv;omega
theorem C28 (x y c:Int) (hx:0<=x) (hy:0<=y) (h0:0<=c) (h1:c<=1):N7 x y c=some ((x+y+c)%18446744073709551616,(x+y+c)/18446744073709551616):=by
 unfold N7;rw [D7l (⟨hx,hy,h0,h1⟩:0<=x/\0<=y/\0<=c/\c<=1)]
 rfl
theorem B79 (x y b:Int) (hx:0<=x) (hy:0<=y) (h0:0<=b) (h1:b<=1) (h2:y<18446744073709551616):P4 x y b=some ((x+18446744073709551616-y-b)%18446744073709551616,if x<y+b then 1 else 0):=by
 unfold P4;rw [D7l (⟨hx,hy,h0,h1,by omega⟩:0<=x/\0<=y/\0<=b/\b<=1/\y+b<=x+18446744073709551616)]
 rfl
theorem B5T {a b:A2} (ha:I2 a) (hb:I2 b):A4m a b=some (if wv a+wv b<340282366920938463463374607431768211456 then (I9 (wv a+wv b),true) else (⟨0,0⟩,false)):=by
 unfold I2 at ha hb;unfold A4m;rw [C28 _ _ _ (by omega) (by omega) (by omega) (by omega)]
 simp only [D7g];rw [C28 _ _ _ (by omega) (by omega) (by omega) (by omega)]
 simp only [D7g];unfold wv
 by_cases h:a.Hi*18446744073709551616+a.Lo+(b.Hi*18446744073709551616+b.Lo)<340282366920938463463374607431768211456
 ·rw [if_pos h];have e:(a.Hi+b.Hi+(a.Lo+b.Lo+0)/18446744073709551616)/18446744073709551616=0:=by omega
  rw [e];simp only [D7T,D7j];unfold I9
  congr 3<;>omega
 ·rw [if_neg h];have e:((a.Hi+b.Hi+(a.Lo+b.Lo+0)/18446744073709551616)/18446744073709551616 !=0)=true:=by
   rw [bne_iff_ne];omega
  rw [e];rfl
theorem C5t {a b:A2} (ha:I2 a) (hb:I2 b):B3f a b=some (if wv b<=wv a then (I9 (wv a-wv b),true) else (⟨0,0⟩,false)):=by
 unfold I2 at ha hb;unfold B3f;rw [B79 _ _ _ (by omega) (by omega) (by omega) (by omega) (by omega)]
 simp only [D7g];unfold wv
 by_cases hl:a.Lo<b.Lo+0
 ·rw [if_pos hl,B79 _ _ _ (by omega) (by omega) (by omega) (by omega) (by omega)]
  simp only [D7g]
  by_cases h:b.Hi*18446744073709551616+b.Lo<=a.Hi*18446744073709551616+a.Lo
  ·rw [if_pos h,if_neg (by omega)]
   simp only [D7T,D7j];unfold I9
   congr 3<;>omega
  ·rw [if_neg h,if_pos (by omega)]
   rfl
 ·rw [if_neg hl,B79 _ _ _ (by omega) (by omega) (by omega) (by omega) (by omega)]
  simp only [D7g]
  by_cases h:b.Hi*18446744073709551616+b.Lo<=a.Hi*18446744073709551616+a.Lo
  ·rw [if_pos h,if_neg (by omega)]
   simp only [D7T,D7j];unfold I9
   congr 3<;>omega
  ·rw [if_neg h,if_pos (by omega)]
   rfl
theorem A83 {a b:A2} (ha:I2 a) (hb:I2 b):T8 a b=if wv a<wv b then-1 else if wv a=wv b then 0 else 1:=by
 unfold I2 at ha hb;unfold T8 wv
 by_cases h:(decide (a.Hi<b.Hi)||((a.Hi==b.Hi)&&decide (a.Lo<b.Lo)))=true
 ·rw [h,D7k];simp only [D7r,D7o,D7i,D8a] at h;rw [if_pos (by omega)]
 ·rw [Bool.not_eq_true] at h;rw [h,D7j];simp only [D7Q,D77,D7x,D76] at h
  by_cases h2:(a.Hi==b.Hi&&(a.Lo==b.Lo&&true))=true
  ·rw [h2,D7k];simp only [D7o,D8a] at h2;rw [if_neg (by omega),if_pos (by omega)]
  ·rw [Bool.not_eq_true] at h2;rw [h2,D7j];simp only [D77,D76,Bool.true_eq_false,or_false] at h2;rw [if_neg (by omega),if_neg (by omega)]
theorem B5P {a:Int} (h1:-9223372036854775808<=a) (h2:a<=9223372036854775807):Z9 a=if a<0 then-a else a:=by
 unfold Z9
 by_cases h:a<0
 ·rw [D7l h,D7k,if_pos h,K3];show IntKind.u64.wrap _=_;rw [IntKind.wrap_u64];omega
 ·rw [D7n h,D7j,if_neg h,K3];omega
theorem C6D {a:Int} (h1:-9223372036854775808<=a) (h2:a<=9223372036854775807):A7X a=if a<0 then-a else a:=by
 unfold A7X
 by_cases h:a<0
 ·rw [D7l h,D7k,if_pos h];have e1:A1 (a+1)=a+1:=by rw [C7]<;>omega
  have e2:IntKind.i64.wrap (0-(a+1))= -a-1:=by rw [IntKind.wrap_i64];omega
  rw [e1,e2,K3,K3];omega
 ·rw [D7n h,D7j,if_neg h,K3];omega
end Go.Win
set_option maxHeartbeats 4000000
namespace Go.Win
open Go.Vc Go.Dec
theorem D4R {x:Int} (h0:0<=x) (h1:x<18446744073709551616):((BitVec.ofInt IntKind.u64.bits x&&&BitVec.ofInt IntKind.u64.bits 4294967295).toNat:Int)=x%4294967296:=by
 obtain ⟨n,rfl⟩:=Int.eq_ofNat_of_zero_le h0;have e:(BitVec.ofInt IntKind.u64.bits (n:Int)&&&BitVec.ofInt IntKind.u64.bits 4294967295).toNat=n%4294967296:=by
  have hb:IntKind.u64.bits=64:=rfl;rw [hb,BitVec.toNat_and,BitVec.toNat_ofInt,BitVec.toNat_ofInt];have h2:(((n:Int)%((2^64:Nat):Int)).toNat)=n:=by omega
  have h3:((4294967295:Int)%((2^64:Nat):Int)).toNat=2^32-1:=by decide
  rw [h2,h3,Nat.and_two_pow_sub_one_eq_mod]
 rw [e];omega
theorem C34 {x:Int} (h0:0<=x) (h1:x<18446744073709551616):O8 .u64 x 4294967295=x%4294967296:=by
 show IntKind.u64.wrap _=_;rw [D4R h0 h1,IntKind.wrap_u64];omega
theorem C38 (x:Int):G1 .u64 x 32=x/4294967296:=by
 show x.fdiv (2^(min (32:Int).toNat IntKind.u64.bits))=_;have:(2:Int)^(min (32:Int).toNat IntKind.u64.bits)=4294967296:=by decide
 rw [this,Int.fdiv_eq_ediv_of_nonneg _ (by decide)]
theorem D61 (a b c d:Int):(a*4294967296+b)*(c*4294967296+d)=(a*c)*18446744073709551616+(a*d+b*c)*4294967296+b*d:=by
 grind
theorem B7T {a b:Int} (ha:0<=a/\a<4294967296) (hb:0<=b/\b<4294967296):0<=a*b/\a*b<=18446744065119617025:=by
 refine ⟨Int.mul_nonneg ha.1 hb.1, ?_⟩;have:=Int.mul_le_mul (show a<=4294967295 by omega) (show b<=4294967295 by omega) hb.1 (by decide)
 simpa using this
theorem C3c {x y:Int} (hx:0<=x/\x<18446744073709551616) (hy:0<=y/\y<18446744073709551616):Q7 x y=(x*y/18446744073709551616,x*y%18446744073709551616):=by
 unfold Q7;have e:=D61 (x/4294967296) (x%4294967296) (y/4294967296) (y%4294967296);rw [show x/4294967296*4294967296+x%4294967296=x by omega,show y/4294967296*4294967296+y%4294967296=y by omega] at e
 have bp:=B7T (a:=x%4294967296) (b:=y%4294967296) (by omega) (by omega)
 have bq:=B7T (a:=x/4294967296) (b:=y%4294967296) (by omega) (by omega)
 have br:=B7T (a:=x%4294967296) (b:=y/4294967296) (by omega) (by omega)
 have bs:=B7T (a:=x/4294967296) (b:=y/4294967296) (by omega) (by omega)
 congr 1
 ·rw [C34 hx.1 hx.2,C34 hy.1 hy.2,C38,C38]
  generalize x%4294967296*(y%4294967296)=p at*
  generalize x/4294967296*(y%4294967296)=q at*
  generalize x%4294967296*(y/4294967296)=r at*
  generalize x/4294967296*(y/4294967296)=s at*
  have w1: ∀n:Int,0<=n->n<18446744073709551616->A4 n=n:=fun n h1 h2=>by rw [K3];omega
  simp only [C38];rw [w1 p (by omega) (by omega),w1 q (by omega) (by omega),w1 (q+p/4294967296) (by omega) (by omega),C34 (by omega) (by omega),w1 r (by omega) (by omega),w1 ((q+p/4294967296)%4294967296+r) (by omega) (by omega),w1 s (by omega) (by omega),
   w1 (s+(q+p/4294967296)/4294967296) (by omega) (by omega),w1 _ (by omega) (by omega)]
  omega
theorem A7W {x y:Int} (hx:0<=x/\x<18446744073709551616) (hy:0<=y/\y<18446744073709551616):0<=x*y/\x*y<340282366920938463463374607431768211456:=by
 refine ⟨Int.mul_nonneg hx.1 hy.1, ?_⟩;have:=Int.mul_le_mul (show x<=18446744073709551615 by omega) (show y<=18446744073709551615 by omega) hy.1 (by decide)
 omega
theorem A8r {x y:Int} (hx:0<=x/\x<18446744073709551616) (hy:0<=y/\y<18446744073709551616):R9 x y=I9 (x*y):=by
 unfold R9;rw [C3c hx hy]
 rfl
def N5:List A9->Int
 | []=>0
 |p::l=>(if p.V<0 then 0 else p.V)+N5 l
def N4:List A9->Int
 | []=>0
 |p::l=>(if p.V<0 then-p.V else 0)+N4 l
theorem C52 (a b:List A9):N5 (a++b)=N5 a+N5 b:=by
 induction a with
 |nil=>simp [N5]
 |cons p a ih=>simp only [List.cons_append,N5,ih];omega
theorem C5S (a b:List A9):N4 (a++b)=N4 a+N4 b:=by
 induction a with
 |nil=>simp [N4]
 |cons p a ih=>simp only [List.cons_append,N4,ih];omega
def B5M (l:List A9):Prop:= ∀p∈l,-9223372036854775808<=p.V/\p.V<=9223372036854775807
theorem C0j (l:List A9) (h:B5M l):0<=N5 l/\N5 l<=l.length*9223372036854775808:=by
 induction l with
 |nil=>simp [N5]
 |cons p l ih=>
  have h1:=h p (by simp)
  have h2:=ih (fun q hq=>h q (by simp [hq]))
  simp only [N5,D7z];split<;>omega
theorem B97 (l:List A9) (h:B5M l):0<=N4 l/\N4 l<=l.length*9223372036854775808:=by
 induction l with
 |nil=>simp [N4]
 |cons p l ih=>
  have h1:=h p (by simp)
  have h2:=ih (fun q hq=>h q (by simp [hq]))
  simp only [N4,D7z];split<;>omega
theorem C2v {l:List A9} (h:B5M l) (i:Nat):B5M (l.take i):=fun p hp=>h p (List.mem_of_mem_take hp)
theorem D0G (l:List A9) {i:Nat} (hi:i<l.length):N5 (l.take (i+1))=N5 (l.take i)+(if l[i].V<0 then 0 else l[i].V):=by
 rw [List.take_succ_eq_append_getElem hi,C52];simp [N5]
theorem D0d (l:List A9) {i:Nat} (hi:i<l.length):N4 (l.take (i+1))=N4 (l.take i)+(if l[i].V<0 then-l[i].V else 0):=by
 rw [List.take_succ_eq_append_getElem hi,C5S];simp [N4]
theorem C5c (l:List A9) (h:B5M l) (hl:l.length<=100000):
  A4C l=some (if N4 l<=N5 l then (false,I9 (N5 l-N4 l)) else (true,I9 (N4 l-N5 l))):=by
 have hm:l.length<=maxLen:=by rw [K0];omega
 unfold A4C B4L;obtain ⟨r,hr,hQ⟩:=R3 (f:=fun s:Int×Int×Int×Int×Int=>A8f l s.1 s.2.1 s.2.2.1 s.2.2.2.1 s.2.2.2.2)
  (fun s=> ∃i:Nat,i<=l.length/\s=((i:Int),(I9 (N5 (l.take i))).Hi,(I9 (N5 (l.take i))).Lo,(I9 (N4 (l.take i))).Hi,(I9 (N4 (l.take i))).Lo))
  (fun s=>l.length-s.1.toNat) (fun r=>r=(if N4 l<=N5 l then (false,I9 (N5 l-N4 l)) else (true,I9 (N4 l-N5 l)))) (0,0,0,0,0) ⟨0,Nat.zero_le _,rfl⟩ (by
   rintro _ ⟨i,hi,rfl⟩;simp only;have hP:=C0j (l.take i) (C2v h i);have hN:=B97 (l.take i) (C2v h i);have hlen:(l.take i).length<=100000:=by rw [D7I];omega
   have oP:I2 (I9 (N5 (l.take i))):=A0e hP.1 (by omega)
   have oN:I2 (I9 (N4 (l.take i))):=A0e hN.1 (by omega)
   unfold A8f
   by_cases hlt:i<l.length
   ·left;have hr:=h l[i] (D75 hlt);have e1:(⟨(I9 (N5 (l.take i))).Hi,(I9 (N5 (l.take i))).Lo⟩:A2)=I9 (N5 (l.take i)):=rfl;have e2:(⟨(I9 (N4 (l.take i))).Hi,(I9 (N4 (l.take i))).Lo⟩:A2)=I9 (N4 (l.take i)):=rfl;have oV:I2 (K6 (Z9 l[i].V)):=by
     rw [B5P hr.1 hr.2];unfold I2 K6;simp only;split<;>omega
    have vV:wv (K6 (Z9 l[i].V))=if l[i].V<0 then-l[i].V else l[i].V:=by
     rw [B5P hr.1 hr.2];unfold wv K6;simp only;split<;>omega
    refine ⟨((i:Int)+1,(I9 (N5 (l.take (i+1)))).Hi,(I9 (N5 (l.take (i+1)))).Lo,(I9 (N4 (l.take (i+1)))).Hi,(I9 (N4 (l.take (i+1)))).Lo), ?_,⟨i+1,hlt,by simp⟩,by show l.length-((i:Int)+1).toNat<l.length-(i:Int).toNat;omega⟩
    simp only [Int.ofNat_lt,hlt,decide_true,D7k,S4,M9 hlt,D7g,e1,e2,S6 hlt hm];rw [D0G l hlt,D0d l hlt]
    by_cases hv:l[i].V<0
    ·rw [B5T oN oV,vV,Z1];simp only [if_pos hv];rw [if_pos (by omega)]
     simp only [D7l hv,D7k,D7g,Int.add_zero]
    ·rw [B5T oP oV,vV,Z1];simp only [if_neg hv];rw [if_pos (by omega)]
     simp only [D7n hv,D7j,D7g,Int.add_zero]
   ·right;have hn: ¬((i:Int)<(l.length:Int)):=by omega
    have hi2:i=l.length:=by omega
    subst hi2;rw [List.take_length] at*
    have e1:(⟨(I9 (N5 l)).Hi,(I9 (N5 l)).Lo⟩:A2)=I9 (N5 l):=rfl;have e2:(⟨(I9 (N4 l)).Hi,(I9 (N4 l)).Lo⟩:A2)=I9 (N4 l):=rfl;simp only [hn,decide_false,D7j,e1,e2];rw [A83 oP oN,C5t oP oN,C5t oN oP,Z1,Z1]
    by_cases hc:N4 l<=N5 l
    ·rw [if_pos hc];have:decide ((if N5 l<N4 l then (-1:Int) else if N5 l=N4 l then 0 else 1)>=0)=true:=by
      rw [D7i];split
      ·omega
      ·split<;>omega
     rw [this,if_pos hc];exact ⟨_,rfl,rfl⟩
    ·rw [if_neg hc];have:decide ((if N5 l<N4 l then (-1:Int) else if N5 l=N4 l then 0 else 1)>=0)=false:=by
      rw [D7x,if_pos (by omega)];omega
     rw [this,if_neg hc,if_pos (by omega)]
     exact ⟨_,rfl,rfl⟩)
 rw [hr,hQ]
def fit (t:Int):Int×Bool:=if-9223372036854775808<=t/\t<=9223372036854775807 then (t,true) else (0,false)
theorem C9H (l:List A9) (h:B5M l) (hl:l.length<=100000):B3F l=some (fit (N5 l-N4 l)):=by
 have hP:=C0j l h;have hN:=B97 l h;unfold B3F;rw [C5c l h (by omega)]
 simp only [D7g]
 by_cases hc:N4 l<=N5 l
 ·rw [if_pos hc];unfold I9 fit;simp only [D7t,Bool.and_true,D7j]
  by_cases hf:N5 l-N4 l<=9223372036854775807
  ·rw [if_pos (by omega)]
   have c:((((N5 l-N4 l)/18446744073709551616 !=0)||decide ((N5 l-N4 l)%18446744073709551616>9223372036854775808))||((N5 l-N4 l)%18446744073709551616==9223372036854775808))=false:=by
    simp only [D7Q,bne_eq_false_iff_eq,D7x,D76];omega
   rw [c,D7j]
   congr 2
   rw [C7]<;>omega
  ·rw [if_neg (by omega)]
   have c:((((N5 l-N4 l)/18446744073709551616 !=0)||decide ((N5 l-N4 l)%18446744073709551616>9223372036854775808))||((N5 l-N4 l)%18446744073709551616==9223372036854775808))=true:=by
    simp only [D7r,bne_iff_ne,D7i,D8a];omega
   rw [c];rfl
 ·rw [if_neg hc];unfold I9 fit;simp only [D7s,Bool.and_false,Bool.or_false,D7k]
  by_cases hf: -9223372036854775808<=N5 l-N4 l
  ·rw [if_pos (by omega)]
   have c:(((N4 l-N5 l)/18446744073709551616 !=0)||decide ((N4 l-N5 l)%18446744073709551616>9223372036854775808))=false:=by
    simp only [D7Q,bne_eq_false_iff_eq,D7x];omega
   rw [c,D7j]
   congr 2
   rw [B0I,IntKind.wrap_u64];omega
  ·rw [if_neg (by omega)]
   have c:(((N4 l-N5 l)/18446744073709551616 !=0)||decide ((N4 l-N5 l)%18446744073709551616>9223372036854775808))=true:=by
    simp only [D7r,bne_iff_ne,D7i];omega
   rw [c];rfl
end Go.Win
set_option maxHeartbeats 4000000
namespace Go.Win
open Go.Vc Go.Dec
def nT:List A2->List Bool->Int
 |w::ws,b::bs=>(if b then wv w else 0)+nT ws bs
 |_,_=>0
theorem M4 {α:Type} {b:Bool} {k:Option α} (h:b=true):ck b k=k:=by rw [h];rfl
def P8:List A9->Int
 | []=>0
 |p::l=>p.V*p.V+P8 l
theorem B5Q (a b:List A9):P8 (a++b)=P8 a+P8 b:=by
 induction a with
 |nil=>simp [P8]
 |cons p a ih=>simp only [List.cons_append,P8,ih];omega
theorem C0B (v:Int):0<=v*v:=by
 rcases Int.le_total 0 v with h|h
 ·exact Int.mul_nonneg h h
 ·exact Int.mul_nonneg_of_nonpos_of_nonpos h h
theorem B7J (l:List A9):0<=P8 l:=by
 induction l with
 |nil=>simp [P8]
 |cons p l ih=>have:=C0B p.V;simp only [P8];omega
theorem C41 (l:List A9) {i:Nat} (hi:i<l.length):P8 (l.take (i+1))=P8 (l.take i)+l[i].V*l[i].V:=by
 rw [List.take_succ_eq_append_getElem hi,B5Q];simp [P8]
theorem D2C (l:List A9) (i:Nat):P8 (l.take i)<=P8 l:=by
 have:=B5Q (l.take i) (l.drop i);rw [List.take_append_drop] at this;have:=B7J (l.drop i);omega
theorem C3r (v:Int):(if v<0 then-v else v)*(if v<0 then-v else v)=v*v:=by
 split
 ·exact Int.neg_mul_neg v v
 ·rfl
theorem C8D {v:Int} (h:-9223372036854775808<=v/\v<=9223372036854775807):B74 v v=fit (v*v):=by
 have hs:A0d v=if v<0 then-v else v:=B5P h.1 h.2
 have hx:0<=A0d v/\A0d v<18446744073709551616:=by rw [hs];split<;>omega
 have hnn:=C0B v;unfold B74;simp only [beq_self_eq_true,D7s,D7j];rw [C3c hx hx,hs,C3r];unfold B1A fit;simp only [beq_self_eq_true,D7s,D7j];have:=A7W hx hx;rw [hs,C3r] at this
 by_cases hf:v*v<=9223372036854775807
 ·have c:((v*v/18446744073709551616 !=0)||decide (v*v%18446744073709551616>9223372036854775807))=false:=by
   simp only [D7Q,bne_eq_false_iff_eq,D7x];omega
  rw [c,D7j,if_pos (by omega)]
  congr 1
  rw [C7]<;>omega
 ·have c:((v*v/18446744073709551616 !=0)||decide (v*v%18446744073709551616>9223372036854775807))=true:=by
   simp only [D7r,bne_iff_ne,D7i];omega
  rw [c,D7k,if_neg (by omega)]
theorem D3S {a b:Int} (ha:-9223372036854775808<=a/\a<=9223372036854775807) (hb:-9223372036854775808<=b/\b<=9223372036854775807):B72 a b=fit (a+b):=by
 unfold B72 fit;rw [B0I]
 by_cases hf: -9223372036854775808<=a+b/\a+b<=9223372036854775807
 ·rw [if_pos hf,show (a+b+9223372036854775808)%18446744073709551616-9223372036854775808=a+b by omega]
  have c:((decide (a>=0)==decide (b>=0))&& !(decide (a+b>=0)==decide (a>=0)))=false:=by
   by_cases x1:a>=0<;>by_cases x2:b>=0<;>by_cases x3:a+b>=0<;>simp [x1,x2,x3]<;>omega
  rw [c,D7j]
 ·rw [if_neg hf];have c:((decide (a>=0)==decide (b>=0))&& !(decide ((a+b+9223372036854775808)%18446744073709551616-9223372036854775808>=0)==decide (a>=0)))=true:=by
   by_cases x1:a>=0<;>by_cases x2:b>=0<;>by_cases x3:(a+b+9223372036854775808)%18446744073709551616-9223372036854775808>=0<;>simp [x1,x2,x3]<;>omega
  rw [c,D7k]
theorem C2N (l:List A9) (h:B5M l) (hl:l.length<=100000):A7j l=some (fit (P8 l)):=by
 have hm:l.length<=maxLen:=by rw [K0];omega
 unfold A7j B2E;obtain ⟨r,hr,hQ⟩:=R3 (f:=fun s:Int×Int=>A6A l s.1 s.2)
  (fun s=> ∃i:Nat,i<=l.length/\s=(P8 (l.take i),(i:Int))/\P8 (l.take i)<=9223372036854775807)
  (fun s=>l.length-s.2.toNat) (fun r=>r=fit (P8 l)) (0,0) ⟨0,Nat.zero_le _,rfl,by simp [P8]⟩ (by
   rintro _ ⟨i,hi,rfl,hb⟩;simp only;have hnn:=B7J (l.take i);unfold A6A
   by_cases hlt:i<l.length
   ·have hr:=h l[i] (D75 hlt);have hq:=C0B l[i].V;have st:=C41 l hlt;have mo:=D2C l (i+1);simp only [Int.ofNat_lt,hlt,decide_true,D7k,S4,M9 hlt,D7g,S6 hlt hm,C8D hr]
    by_cases hf:l[i].V*l[i].V<=9223372036854775807
    ·have f1:fit (l[i].V*l[i].V)=(l[i].V*l[i].V,true):=by unfold fit;rw [if_pos (by omega)]
     rw [f1];simp only [D7s,D7j];rw [D3S (by omega) (by omega)]
     by_cases hg:P8 (l.take i)+l[i].V*l[i].V<=9223372036854775807
     ·left;have f2:fit (P8 (l.take i)+l[i].V*l[i].V)=(P8 (l.take i)+l[i].V*l[i].V,true):=by unfold fit;rw [if_pos (by omega)]
      rw [f2];refine ⟨_,rfl,⟨i+1,hlt,by simp only [<-st,Int.natCast_add,Int.cast_ofNat_Int],by omega⟩,by show l.length-((i:Int)+1).toNat<l.length-(i:Int).toNat;omega⟩
     ·right;have f2:fit (P8 (l.take i)+l[i].V*l[i].V)=(0,false):=by unfold fit;rw [if_neg (by omega)]
      have f3:fit (P8 l)=(0,false):=by unfold fit;rw [if_neg (by omega)]
      rw [f2,f3];exact ⟨_,rfl,rfl⟩
    ·right;have f2:fit (l[i].V*l[i].V)=(0,false):=by unfold fit;rw [if_neg (by omega)]
     have f3:fit (P8 l)=(0,false):=by unfold fit;rw [if_neg (by omega)]
     rw [f2,f3];exact ⟨_,rfl,rfl⟩
   ·right;have hn: ¬((i:Int)<(l.length:Int)):=by omega
    have hi2:i=l.length:=by omega
    subst hi2;rw [List.take_length] at*
    simp only [hn,decide_false,D7j];have f3:fit (P8 l)=(P8 l,true):=by unfold fit;rw [if_pos (by omega)]
    exact ⟨_,rfl,f3.symm⟩)
 rw [hr,hQ]
theorem C82 {n:Int} (h:E1 .i64 n): -9223372036854775808<=n/\n<=9223372036854775807:=by
 simp [E1,Lit.wf,IntKind.min,IntKind.max,IntKind.signed,IntKind.bits] at h;omega
end Go.Win
set_option maxHeartbeats 4000000
namespace Go.Win
open Go.Vc Go.Dec
theorem B7Q:R1=R9:=rfl
theorem B45:K6=S5:=rfl
theorem D4q (a b c:Int):(0*18446744073709551616+a)*(b*18446744073709551616+c)=(a*b)*18446744073709551616+a*c:=by grind
theorem D4r (a b c:Int):(b*18446744073709551616+c)*(0*18446744073709551616+a)=(a*b)*18446744073709551616+a*c:=by grind
theorem D1u {a b c d:Int} (ha:1<=a) (hb:0<=b) (hc:1<=c) (hd:0<=d):340282366920938463463374607431768211456<=(a*18446744073709551616+b)*(c*18446744073709551616+d):=by
 have:=Int.mul_le_mul (show 18446744073709551616<=a*18446744073709551616+b by omega) (show 18446744073709551616<=c*18446744073709551616+d by omega) (by decide) (by omega)
 simpa using this
theorem D0c {h a b c:Int} (ha:0<=a/\a<18446744073709551616) (hb:0<=b/\b<18446744073709551616) (hc:0<=c/\c<18446744073709551616):
  B0c h a b c=some (if (a*b)*18446744073709551616+a*c<340282366920938463463374607431768211456 then (I9 ((a*b)*18446744073709551616+a*c),true) else (⟨0,0⟩,false)):=by
 have p1:=A7W ha hb;have p2:=A7W ha hc;unfold B0c;simp only [B7Q];rw [A8r ha hc,A8r ha hb]
 generalize a*b=m at*
 generalize a*c=n at*
 have e1:(I9 m).Hi=m/18446744073709551616:=rfl;have e2:(I9 m).Lo=m%18446744073709551616:=rfl;rw [e1,e2]
 by_cases hh:m<18446744073709551616
 ·have c1:(m/18446744073709551616 !=0)=false:=by rw [bne_eq_false_iff_eq];omega
  have oM:I2 (A2.mk (m%18446744073709551616) 0):=by unfold I2;simp only;omega
  have vM:wv (A2.mk (m%18446744073709551616) 0)=m*18446744073709551616:=by unfold wv;simp only;omega
  rw [c1,D7j,B5T (A0e p2.1 p2.2) oM,Z1,vM,Int.add_comm n];simp only [D7g]
 ·have c1:(m/18446744073709551616 !=0)=true:=by rw [bne_iff_ne];omega
  rw [c1,D7k,if_neg (by omega)]
theorem A9N {a b:A2} (ha:I2 a) (hb:I2 b):A2a a b=some (if wv a*wv b<340282366920938463463374607431768211456 then (I9 (wv a*wv b),true) else (⟨0,0⟩,false)):=by
 obtain ⟨ah,al⟩:=a;obtain ⟨bh,bl⟩:=b;unfold I2 at ha hb;simp only at ha hb;unfold A2a wv;simp only
 by_cases h1:ah=0
 ·subst h1;simp only [D7T,D7L,D7j];rw [D0c (by omega) (by omega) (by omega),D4q]
 ·have c1:(ah !=0)=true:=by rw [bne_iff_ne];exact h1
  rw [c1]
  by_cases h2:bh=0
  ·subst h2;simp only [D7T,Bool.and_false,D7j,D7k];rw [D0c (by omega) (by omega) (by omega),D4r]
  ·have c2:(bh !=0)=true:=by rw [bne_iff_ne];exact h2
   have:=D1u (a:=ah) (b:=al) (c:=bh) (d:=bl) (by omega) (by omega) (by omega) (by omega)
   rw [c2,if_neg (by omega)]
   rfl
theorem B3Q {n:Int} (h:0<=n/\n<18446744073709551616):I2 (S5 n):=by
 unfold I2 S5;simp only;omega
noncomputable def C4z (n:Int):Nat->A2->A2×Bool
 |0,w=>(w,true)
 |k+1,w=>if wv w*wv (S5 n)<340282366920938463463374607431768211456 then C4z n k (I9 (wv w*wv (S5 n))) else (⟨0,0⟩,false)
theorem B95 {a b:A2} (ha:I2 a) (hb:I2 b):0<=wv a*wv b:=Int.mul_nonneg (A9O ha).1 (A9O hb).1
theorem C7q {n:Int} (hn:0<=n/\n<18446744073709551616): ∀(k:Nat) (w:A2),I2 w->I2 (C4z n k w).1
 |0,_,h=>h
 |k+1,w,h=>by
  unfold C4z;split
  ·exact C7q hn k _ (A0e (B95 h (B3Q hn)) (by assumption))
  ·unfold I2;simp
theorem C27 {n:Int} (hn:0<=n/\n<18446744073709551616) (k:Nat): ∀(w:A2),(k:Int)<=9223372036854775807->I2 w->A7a n (k:Int) w.Hi w.Lo=some (C4z n k w):=by
 induction k with
 |zero=>
  intro w _ h;unfold A7a;rw [K4 (r:=(w,true))]
  ·rfl
  ·have c1:decide (((0:Nat):Int)>0)=false:=by rw [D7x];omega
   simp only [A82,c1,D7j]
   rfl
 |succ k ih0=>
  intro w hk h;have ih:=fun w' h' =>ih0 w' (by omega) h'
  unfold A7a at ih⊢;have c1:decide (((k+1:Nat):Int)>0)=true:=by rw [D7i];omega
  have e1:(⟨w.Hi,w.Lo⟩:A2)=w:=rfl;have hw:A1 (((k+1:Nat):Int)-1)=(k:Int):=by rw [C7]<;>omega
  unfold C4z
  by_cases hf:wv w*wv (S5 n)<340282366920938463463374607431768211456
  ·rw [if_pos hf,J6 (s' :=((k:Int),(I9 (wv w*wv (S5 n))).Hi,(I9 (wv w*wv (S5 n))).Lo))]
   ·exact ih _ (A0e (B95 h (B3Q hn)) hf)
   ·simp only [A82,c1,D7k,e1,B45,A9N h (B3Q hn),if_pos hf,D7g,D7s,D7j,hw]
  ·rw [if_neg hf,K4 (r:=(⟨0,0⟩,false))];simp only [A82,c1,D7k,e1,B45,A9N h (B3Q hn),if_neg hf,D7g,D7t]
theorem C4u:I2 (A2.mk 0 1):=by unfold I2;simp
theorem W4 (n:Int):0<=A4 n/\A4 n<18446744073709551616:=by rw [K3];omega
end Go.Win
set_option maxHeartbeats 4000000
namespace Go.Win
open Go.Vc Go.Dec
theorem C3d {m:A7} (h1:-4096<=m.Bt/\m.Bt<=4096) (h2:-4096<=m.Bs/\m.Bs<=4096) (agg:Int):Y6 m agg=A7K m agg:=by
 have e1:(B75 m.Bs m.Bt).1=m.Bs-m.Bt:=by
  unfold B75;rw [C7 (n:=m.Bs-m.Bt) (by omega) (by omega)]
  cases hb:((!((decide (m.Bs>=(0:Int)))==(decide (m.Bt>=(0:Int)))))&&(!((decide (m.Bs-m.Bt>=(0:Int)))==(decide (m.Bs>=(0:Int)))))) with
  |false=>rfl
  |true=>
   simp only [D7o,D7C,D76,ne_eq] at hb;obtain ⟨g1,g2⟩:=hb
   by_cases a1:m.Bs>=0<;>by_cases a2:m.Bt>=0<;>by_cases a3:m.Bs-m.Bt>=0<;>simp [a1,a2,a3] at g1 g2<;>omega
 have e2:B0t m.Bs m.Bt=(m.Bs-m.Bt,true):=by
  unfold B0t;have:((decide (m.Bt<0)&&decide (m.Bs>A1 (9223372036854775807+m.Bt)))||(decide (m.Bt>0)&&decide (m.Bs<A1 (-9223372036854775808+m.Bt))))=false:=by
   by_cases g1:m.Bt<0
   ·rw [C7 (n:=9223372036854775807+m.Bt) (by omega) (by omega)]
    simp;omega
   ·by_cases g2:m.Bt>0
    ·rw [C7 (n:= -9223372036854775808+m.Bt) (by omega) (by omega)]
     simp;omega
    ·simp;omega
  rw [this,D7j,C7]<;>omega
 unfold Y6 A7K;rw [e2];simp only [e1,D7k]
 rfl
theorem B4P (w k c n:Int):A50 w k c n=true↔(1<=w/\w<=1048576)/\(1<=c/\c<=65536)/\(0<=n/\n<=16777216)/\(1<=k/\k<=64):=by
 unfold A50;simp;omega
def A8p (w k c n:Int):Prop:=(1<=w/\w<=1048576)/\(1<=c/\c<=65536)/\(0<=n/\n<=16777216)/\(1<=k/\k<=64)
def C09 (x:D3):Prop:=(1<=x.Bo/\x.Bo<=4)/\A8p x.W x.K x.Cap x.Now/\A54 x.Bf x.Bv x.Cap x.Now x.W (A02 x.Bo)/\
 ∀i,i<x.Bf.length->(2<=i-> ¬R4 (el x.Bf (i-2)) (el x.Bf i) x.Bo x.K=true)/\
  (1<=i->(el x.Bf i).Bv-(el x.Bf (i-1)).Bv>1->R4 (el x.Bf (i-1)) (el x.Bf i) x.Bo x.K=true)
theorem A60 {l:List A7} {seq cap now w lo:Int} (hlo:-4096<=lo) (h:A54 l seq cap now w lo) {i:Nat} (hi:i<l.length):
  (1<=(el l i).Bv/\(el l i).Bv<=1099511627776)/\(-4096<=(el l i).Bt/\(el l i).Bt<=4096)/\(-4096<=(el l i).Bs/\(el l i).Bs<=4096):=by
 have h1:=h.2.1 i hi;unfold B7j mk1 mk2 at h1;have:=h.1;omega
theorem A5g (x:D3) (hl:x.Bf.length<=maxLen):A0i x=some (vOf (C09 x)):=by
 unfold A0i;simp only []
 by_cases h1:(1<=x.Bo/\x.Bo<=4)/\A8p x.W x.K x.Cap x.Now
 ·have e1:A0Q x.Bo x.W x.K x.Cap x.Now=true:=by
   unfold A0Q;simp only [(B4P _ _ _ _).2 h1.2,Bool.and_true,D7o,D7i];exact h1.1
  rw [e1,B8H _ _ _ _ _ _ hl];simp only [D7s,D7t,J1,D7g,D7H]
  by_cases h2:A54 x.Bf x.Bv x.Cap x.Now x.W (A02 x.Bo)
  ·rw [A1I h2,D7s,D7j];unfold B0v;have H:=Q6 (f:=fun s:Int=>A2f x s) x.Bf.length (fun i=> ¬((2<=i-> ¬R4 (el x.Bf (i-2)) (el x.Bf i) x.Bo x.K=true)/\
     (1<=i->(el x.Bf i).Bv-(el x.Bf (i-1)).Bv>1->R4 (el x.Bf (i-1)) (el x.Bf i) x.Bo x.K=true))) 2 (some 0)
    (fun i hi _=>by
     unfold A2f;rw [D7l (by omega:(i:Int)<(x.Bf.length:Int)),D7k,L1 hi,D7g,Z3 hi hl]
     simp only [];have key: ∀j,j+1=i->A1 ((el x.Bf i).Bv-(el x.Bf j).Bv)=(el x.Bf i).Bv-(el x.Bf j).Bv:=by
      intro j hj;have g1:=A60 (A9t _) h2 hi;have g2:=A60 (A9t _) h2 (show j<x.Bf.length by omega)
      rw [C7]<;>omega
     have key1:1<=i->C1 x.Bf (A1 ((i:Int)-1))=some (el x.Bf (i-1)):=fun h=>by rw [B1D (by omega) (Nat.le_of_lt hi) hl,L1 (by omega)]
     have key2:2<=i->C1 x.Bf (A1 ((i:Int)-2))=some (el x.Bf (i-2)):=fun h=>by
      have:A1 ((i:Int)-2)=((i-2:Nat):Int):=by rw [K0] at hl;rw [C7]<;>omega
      rw [this,L1 (by omega)]
     by_cases g1:1<=i
     ·rw [D7l (by omega:(i:Int)>=1),key1 g1]
      simp only [J1,D7g,D7R,key (i-1) (by omega)]
      by_cases g3:(el x.Bf i).Bv-(el x.Bf (i-1)).Bv>1
      ·simp only [g3,decide_true,J1,D7g,D7R]
       by_cases g2:2<=i
       ·rw [D7l (by omega:(i:Int)>=2),key2 g2]
        simp only [J1,D7g,D7R,B5g];refine U4 ?_;simp only [g1,g2,D7r,D7C];cases R4 (el x.Bf (i-2)) (el x.Bf i) x.Bo x.K<;>cases R4 (el x.Bf (i-1)) (el x.Bf i) x.Bo x.K<;>simp
       ·rw [D7n (by omega: ¬(i:Int)>=2)]
        simp only [K8,D7g,D7L,D7j];refine U4 ?_;simp only [g1,g2,D7C];cases R4 (el x.Bf (i-1)) (el x.Bf i) x.Bo x.K<;>simp
      ·simp only [g3,decide_false,K8,D7g,D7L,D7j]
       by_cases g2:2<=i
       ·rw [D7l (by omega:(i:Int)>=2),key2 g2]
        simp only [J1,D7g,D7R];refine U4 ?_;simp [g1,g2]
       ·rw [D7n (by omega: ¬(i:Int)>=2)]
        simp only [K8,D7g,D7L,D7j];exact ⟨fun h=>absurd ⟨fun h2=>absurd h2 g2,fun _ h3=>h3.elim⟩ h,fun _=>trivial⟩
     ·rw [D7n (by omega: ¬(i:Int)>=2),D7n (by omega: ¬(i:Int)>=1)]
      simp only [K8,D7g,D7L,D7j];exact ⟨fun h=>absurd ⟨fun h2=>absurd h2 (by omega),fun h3=>absurd h3 g1⟩ h,fun _=>trivial⟩)
    (fun _=>by
     unfold A2f;rw [D7n (D7J _),D7j])
   by_cases h3: ∀i,i<x.Bf.length->((2<=i-> ¬R4 (el x.Bf (i-2)) (el x.Bf i) x.Bo x.K=true)/\
     (1<=i->(el x.Bf i).Bv-(el x.Bf (i-1)).Bv>1->R4 (el x.Bf (i-1)) (el x.Bf i) x.Bo x.K=true))
   ·rw [H.2 fun i hi hn=>hn (h3 i hi),V0];exact ⟨h1.1,h1.2,h2,h3⟩
   ·rw [H.1 (A53 h3),I8];exact fun h=>h3 h.2.2.2
  ·rw [W5 h2,I8 fun h=>h2 h.2.2.1]
   rfl
 ·have e1:A0Q x.Bo x.W x.K x.Cap x.Now=false:=by
   rw [D7w];intro h;unfold A0Q at h;simp only [D7o,D7i,B4P] at h;exact h1 h
  rw [e1,I8 fun h=>h1 ⟨h.1,h.2.1⟩]
  rfl
theorem C7k (l:List A7) (hl:l.length<=maxLen):A2U l l=some true:=by
 unfold A2U;rw [D7T,D7j];unfold B0u;refine (Q6 (f:=fun s:Int=>A2e l l s) l.length (fun _=>False) false (some true) (fun i hi _=>⟨fun h=>h.elim,fun _=> ?_⟩) (fun _=> ?_)).2 fun _ _ h=>h
 ·unfold A2e;rw [D7l (by omega:(i:Int)<(l.length:Int)),D7k,L1 hi]
  simp [Z3 hi hl]
 ·unfold A2e;rw [D7n (D7J _),D7j]
theorem C6h (x:D3) (hl:x.Bf.length<=maxLen):B1L x x=some true:=by
 unfold B1L;simp [C7k _ hl]
theorem C6i (x:D5) (hl:x.Bf.length<=maxLen):B1M x x=some true:=by
 unfold B1M;simp [C7k _ hl]
end Go.Win
set_option maxHeartbeats 4000000
namespace Go.Win
open Go.Vc Go.Dec
theorem C0G {n:Int} (h:E1 .u64 n):0<=n/\n<18446744073709551616:=by
 simp [E1,Lit.wf,IntKind.min,IntKind.max,IntKind.signed,IntKind.bits] at h;omega
theorem C8b:T8=A4y:=rfl
def A64 (m:A7):Prop:=(1<=m.N/\m.N<=65536)/\(-(m.N*4096)<=m.S/\m.S<=m.N*4096)/\(0<=m.Q/\m.Q<=m.N*16777216)/\m.S*m.S<=m.N*m.Q
theorem B3V {m:A7} (h1:1<=m.N/\m.N<=65536) (h2:-(m.N*4096)<=m.S/\m.S<=m.N*4096) (h3:0<=m.Q/\m.Q<=m.N*16777216):
  (0<=m.S*m.S/\m.S*m.S<=72057594037927936)/\(0<=m.N*m.Q/\m.N*m.Q<=72057594037927936):=by
 have e2:(m.S.natAbs:Int)*m.S.natAbs=m.S*m.S:=Int.natAbs_mul_self;have h6:m.S.natAbs*m.S.natAbs<=268435456*268435456:=Nat.mul_le_mul (by omega) (by omega)
 have h7:((m.S.natAbs*m.S.natAbs:Nat):Int)=(m.S.natAbs:Int)*m.S.natAbs:=by rw [Int.natCast_mul]
 have hq:m.N*m.Q<=65536*1099511627776:=Int.mul_le_mul h1.2 (by omega) h3.1 (by omega)
 have hq0:0<=m.N*m.Q:=Int.mul_nonneg (by omega) h3.1
 omega
theorem B0p (m:A7):A2V m=true↔A64 m:=by
 unfold A2V A64
 by_cases h1:1<=m.N/\m.N<=65536
 ·have e0:IntKind.i64.wrap (0-m.N)= -m.N:=by
   show A1 (0-m.N)=_;rw [C7]<;>omega
  rw [e0,C7 (n:= -m.N*4096) (by omega) (by omega),C7 (n:=m.N*4096) (by omega) (by omega),C7 (n:=m.N*4096*4096) (by omega) (by omega)]
  simp only [D7o,D7i];constructor
  ·rintro ⟨⟨⟨⟨⟨_,h2⟩,h3⟩,h4⟩,h5⟩,h6⟩;have:=B3V h1 (by omega) (by omega)
   rw [C7 (by omega) (by omega),C7 (by omega) (by omega)] at h6
   exact ⟨h1,by omega,by omega,h6⟩
  ·rintro ⟨_,h2,h3,h4⟩;have:=B3V h1 h2 h3;rw [C7 (n:=m.S*m.S) (by omega) (by omega),C7 (n:=m.N*m.Q) (by omega) (by omega)]
   exact ⟨⟨⟨⟨⟨by omega,by omega⟩,by omega⟩,by omega⟩,by omega⟩,h4⟩
 ·simp only [D7o,D7i];constructor
  ·rintro ⟨⟨⟨⟨⟨h,_⟩,_⟩,_⟩,_⟩,_⟩;exact absurd h h1
  ·rintro ⟨h,_⟩;exact absurd h h1
theorem C4N (m:A7):A3Q m=A2V m:=by
 unfold A3Q A2V;cases h:((((((decide (m.N<(1:Int)))||(decide (m.N>(65536:Int))))||(decide (m.S<(A1 ((IntKind.i64.wrap (0-m.N))*(4096:Int))))))||(decide (m.S>(A1 (m.N*(4096:Int))))))||(decide (m.Q<(0:Int))))||(decide (m.Q>(A1 ((A1 (m.N*(4096:Int)))*(4096:Int)))))) with
 |true=>
  rw [D7k]
  symm
  rw [D7w];intro h2;simp only [D7r,D7i] at h;simp only [D7o,D7i] at h2;omega
 |false=>
  rw [D7j];simp only [D7Q,D7x] at h;rw [D7B];simp only [D7o,D7i];omega
theorem C2G {a b:A2} (ha:I2 a) (hb:I2 b) (h:wv a*wv b<340282366920938463463374607431768211456):A2a a b=some (I9 (wv a*wv b),true):=by
 rw [A9N ha hb,if_pos h]
def A6P (m:A7):Int:=m.N*m.Q-m.S*m.S
theorem C1F {m:A7} (h:A64 m):0<=A6P m/\A6P m<=72057594037927936:=by
 have:=B3V h.1 h.2.1 h.2.2.1;have h4:=h.2.2.2;unfold A6P;omega
theorem C5a {m:A7} (h:A64 m):A6l m=A6P m:=by
 have:=B3V h.1 h.2.1 h.2.2.1;have h4:=h.2.2.2;unfold A6l A6P;rw [C7 (n:=m.N*m.Q) (by omega) (by omega),C7 (n:=m.S*m.S) (by omega) (by omega),C7]<;>omega
theorem B0d {n:Int} (h0:0<=n) (h1:n<18446744073709551616):A4 n=n:=by rw [K3];omega
def B6Q (a b:A7) (k:Int):Prop:=A64 a/\A64 b/\(1<=k/\k<=64)/\ ¬6*k*b.N<(6*k-1)*a.N/\A6P a*b.N*(6*k-1)<=A6P b*a.N*(6*k)
theorem A7U {a b A B:Int} (h1:0<=a/\a<=A) (h2:0<=b/\b<=B):0<=a*b/\a*b<=A*B:=
 ⟨Int.mul_nonneg h1.1 h2.1,Int.mul_le_mul h1.2 h2.2 h2.1 (Int.le_trans h1.1 h1.2)⟩
theorem C0S {x y:Int} (hx:0<=x/\x<18446744073709551616) (hy:0<=y/\y<18446744073709551616):I2 (R9 x y)/\wv (R9 x y)=x*y:=by
 rw [A8r hx hy];have:=A7W hx hy;exact ⟨A0e this.1 this.2,Z1 _⟩
theorem C5w {n:Int} (h:0<=n/\n<18446744073709551616):I2 (S5 n)/\wv (S5 n)=n:=by
 refine ⟨B3Q h, ?_⟩;show 0*18446744073709551616+n=n;omega
theorem B7I (a b:A7) (k:Int):A5K a b k=some (bOf (B6Q a b k)):=by
 unfold A5K;simp only [C4N]
 by_cases h1:A64 a/\A64 b/\(1<=k/\k<=64)
 ·obtain ⟨ha,hb,hk⟩:=h1;rw [(B0p a).2 ha,(B0p b).2 hb];have e:(((!true|| !true)||decide (k<1))||decide (k>64))=false:=by simp;omega
  rw [e,D7j];have ea:=ha.1;have eb:=hb.1;have n1:=A7U (a:=6*k) (A:=384) (b:=b.N) (B:=65536) (by omega) (by omega)
  have n2:=A7U (a:=6*k-1) (A:=383) (b:=a.N) (B:=65536) (by omega) (by omega)
  rw [C7 (n:=6*k) (by omega) (by omega),C7 (n:=6*k-1) (by omega) (by omega),C7 (n:=6*k*b.N) (by omega) (by omega),C7 (n:=(6*k-1)*a.N) (by omega) (by omega)]
  by_cases h2:6*k*b.N<(6*k-1)*a.N
  ·rw [D7l h2,D7k,W5 fun h=>h.2.2.2.1 h2]
  ·have ta:=C1F ha;have tb:=C1F hb;rw [D7n h2,D7j,C5a ha,C5a hb,B0d (n:=A6P b) (by omega) (by omega),B0d (n:=A6P a) (by omega) (by omega),B0d (n:=a.N) (by omega) (by omega),B0d (n:=b.N) (by omega) (by omega),
    B0d (n:=6*k) (by omega) (by omega),B0d (n:=6*k-1) (by omega) (by omega),B7Q,B45]
   have x1:=C0S (x:=A6P b) (y:=a.N) (by omega) (by omega)
   have x2:=C5w (n:=6*k) (by omega)
   have y1:=C0S (x:=A6P a) (y:=b.N) (by omega) (by omega)
   have y2:=C5w (n:=6*k-1) (by omega)
   have m1:=A7U (a:=A6P b) (b:=a.N) (A:=72057594037927936) (B:=65536) tb (by omega)
   have m2:=A7U (a:=A6P a) (b:=b.N) (A:=72057594037927936) (B:=65536) ta (by omega)
   have m3:=A7U (a:=A6P b*a.N) (b:=6*k) (B:=384) m1 (by omega)
   have m4:=A7U (a:=A6P a*b.N) (b:=6*k-1) (B:=383) m2 (by omega)
   rw [C2G x1.1 x2.1 (by rw [x1.2,x2.2];omega),D7g,C2G y1.1 y2.1 (by rw [y1.2,y2.2];omega),D7g,x1.2,x2.2,y1.2,y2.2]
   rw [A83 (A0e m3.1 (by omega)) (A0e m4.1 (by omega)),Z1,Z1]
   congr 1
   rw [D7B,A1b,D7i];unfold B6Q;constructor
   ·intro h;refine ⟨ha,hb,hk,h2, ?_⟩;split at h
    ·omega
    ·split at h<;>omega
   ·rintro ⟨_,_,_,_,h⟩;split
    ·omega
    ·split<;>omega
 ·have e:(((!A2V a|| !A2V b)||decide (k<1))||decide (k>64))=true:=by
   rw [D7r,D7r,D7r,D7C,D7C,D7w,D7w,Ne,Ne,B0p,B0p,D7i,D7i]
   by_cases g1:A64 a
   ·by_cases g2:A64 b
    ·have: ¬(1<=k/\k<=64):=fun h=>h1 ⟨g1,g2,h⟩;omega
    ·exact .inl (.inl (.inr g2))
   ·exact .inl (.inl (.inl g1))
  rw [e,D7k,W5 fun h=>h1 ⟨h.1,h.2.1,h.2.2.1⟩]
def C8F (x:D5):Prop:=A8p x.W x.K x.Cap x.Now/\A54 x.Bf x.Bv x.Cap x.Now x.W (-4096)/\
 ∀i,2<=i->i<x.Bf.length-> ¬B6Q (el x.Bf (i-2)) (el x.Bf i) x.K
theorem D14 {R:Type} {f:Int->Option (Int⊕R)} (n:Nat) (bad:Nat->Prop) (E:R) (A:Option R)
  (hs:∀i:Nat,2<=i->i<n->(bad i->f (i:Int)=some (.inr E))/\(¬bad i->f (i:Int)=some (.inl ((i+1:Nat):Int))))
  (hd:∀i:Nat,n<=i->f (i:Int)=Option.map Sum.inr A):
  ((∃i,2<=i/\i<n/\bad i)->loop f 2=some E)/\((∀i,2<=i->i<n-> ¬bad i)->loop f 2=A):=by
 by_cases h:2<=n
 ·exact A4F (f:=f) (fun i=>(i:Int)) 2 n h bad E A (fun i h1 h2 _=>hs i h1 h2) (fun _=>hd n (D7Y _))
 ·refine ⟨fun ⟨i,h1,h2,_⟩=>by omega,fun _=> ?_⟩
  have:=hd 2 (by omega)
  rw [A5Z];rw [show ((2:Nat):Int)=2 from rfl] at this;rw [this];cases A<;>rfl
theorem A5h (x:D5) (hl:x.Bf.length<=maxLen):A0j x=some (vOf (C8F x)):=by
 unfold A0j;simp only []
 by_cases h1:A8p x.W x.K x.Cap x.Now
 ·rw [(B4P _ _ _ _).2 h1,B8H _ _ _ _ _ _ hl];simp only [D7s,D7t,J1,D7g,D7H]
  by_cases h2:A54 x.Bf x.Bv x.Cap x.Now x.W (-4096)
  ·rw [A1I h2,D7s,D7j];unfold B0w;have H:=D14 (f:=fun s:Int=>A2h x s) x.Bf.length (fun i=>B6Q (el x.Bf (i-2)) (el x.Bf i) x.K) 2 (some 0)
    (fun i h2 hi=>by
     unfold A2h;have:A1 ((i:Int)-2)=((i-2:Nat):Int):=by rw [K0] at hl;rw [C7]<;>omega
     rw [D7l (by omega:(i:Int)<(x.Bf.length:Int)),D7k,this,L1 hi,L1 (by omega),D7g,D7g,B7I,D7g,Z3 hi hl]
     exact U4 A1b)
    (fun i hi=>by
     unfold A2h;rw [D7n (by omega: ¬(i:Int)<(x.Bf.length:Int)),D7j])
   by_cases h3: ∀i,2<=i->i<x.Bf.length-> ¬B6Q (el x.Bf (i-2)) (el x.Bf i) x.K
   ·rw [H.2 h3,V0 ⟨h1,h2,h3⟩]
   ·rw [H.1,I8 fun h=>h3 h.2.2];exact D8b fun hn=>h3 fun i a b c=>hn ⟨i,a,b,c⟩
  ·rw [W5 h2,I8 fun h=>h2 h.2.1]
   rfl
 ·rw [D7w.2 fun h=>h1 ((B4P _ _ _ _).1 h),I8 fun h=>h1 h.1]
  rfl
def D2d (x:E3):Prop:=((0<=x.P/\x.P<=4)/\(0<=x.Now/\x.Now<=16777216)/\(0<=x.Bj/\x.Bj<=x.Now)/\(x.Ag.length:Int)=x.P+1)/\
 ∀i:Nat,1<=i->(i:Int)<=x.P->wv (el x.Ag (i-1))<=wv (el x.Ag i)/\
  (wv (el x.Ag (i-1))*(x.Now-x.Bj+1)<340282366920938463463374607431768211456->wv (el x.Ag i)<=wv (el x.Ag (i-1))*(x.Now-x.Bj+1))
theorem C2p (x:E3):((((((decide (x.P<(0:Int)))||(decide (x.P>(4:Int))))||(!(I7 x.Now)))||(decide (x.Bj<(0:Int))))||(decide (x.Bj>x.Now)))||((x.Ag.length:Int) !=(A1 (x.P+(1:Int)))))=true↔
  ¬((0<=x.P/\x.P<=4)/\(0<=x.Now/\x.Now<=16777216)/\(0<=x.Bj/\x.Bj<=x.Now)/\(x.Ag.length:Int)=x.P+1):=by
 simp only [D7r,D7i,D7C,bne_iff_ne];rw [D7w,Ne,B0G]
 by_cases h:0<=x.P/\x.P<=4
 ·rw [C7 (by omega) (by omega)];omega
 ·omega
theorem D13 {R:Type} {f:Int->Option (Int⊕R)} (P:Nat) (bad:Nat->Prop) (E:R) (A:Option R)
  (hs:∀i:Nat,1<=i->i<=P->(bad i->f (i:Int)=some (.inr E))/\(¬bad i->f (i:Int)=some (.inl ((i+1:Nat):Int))))
  (hd:f ((P+1:Nat):Int)=Option.map Sum.inr A):
  ((∃i,1<=i/\i<=P/\bad i)->loop f 1=some E)/\((∀i,1<=i->i<=P-> ¬bad i)->loop f 1=A):=by
 have:=A4F (f:=f) (fun i=>(i:Int)) 1 (P+1) (by omega) bad E A (fun i h1 h2 _=>hs i h1 (by omega)) (fun _=>hd)
 exact ⟨fun ⟨i,h1,h2,h3⟩=>this.1 ⟨i,h1,by omega,h3⟩,fun h=>this.2 fun i h1 h2=>h i h1 (by omega)⟩
theorem D44 {a b:A2} (ha:I2 a) (hb:I2 b):decide (A4y a b>0)=decide (wv b<wv a):=by
 rw [<-C8b,A83 ha hb,D7B,D7i,D7i];split
 ·omega
 ·split<;>omega
theorem C7A {a b:A2} (ha:I2 a) (hb:I2 b):decide (T8 a b>0)=decide (wv b<wv a):=D44 ha hb
def C75 (x:E3) (i:Nat):Prop:= ¬(wv (el x.Ag (i-1))<=wv (el x.Ag i)/\
  (wv (el x.Ag (i-1))*(x.Now-x.Bj+1)<340282366920938463463374607431768211456->wv (el x.Ag i)<=wv (el x.Ag (i-1))*(x.Now-x.Bj+1)))
theorem D2l {x:E3} (h1:(0<=x.P/\x.P<=4)/\(0<=x.Now/\x.Now<=16777216)/\(0<=x.Bj/\x.Bj<=x.Now)/\(x.Ag.length:Int)=x.P+1):
  I2 (S5 (A4 (A1 (A1 (x.Now-x.Bj)+1))))/\wv (S5 (A4 (A1 (A1 (x.Now-x.Bj)+1))))=x.Now-x.Bj+1:=by
 rw [C7 (n:=x.Now-x.Bj) (by omega) (by omega),C7 (by omega) (by omega),B0d (by omega) (by omega)]
 exact C5w (by omega)
theorem D19 {a b:A2} (ha:I2 a) (hb:I2 b): ∃r,A2a a b=some r/\r.2=decide (wv a*wv b<340282366920938463463374607431768211456)/\I2 r.1/\(r.2=true->wv r.1=wv a*wv b):=by
 by_cases h:wv a*wv b<340282366920938463463374607431768211456
 ·exact ⟨(I9 (wv a*wv b),true),by rw [A9N ha hb,if_pos h],(D7l h).symm,A0e (B95 ha hb) h,fun _=>Z1 _⟩
 ·exact ⟨(⟨0,0⟩,false),by rw [A9N ha hb,if_neg h],(D7n h).symm,by unfold I2;simp,fun h=>by cases h⟩
theorem A7o (x:E3) (hw:∀w∈x.Ag,I2 w):A1s x=some (vOf (D2d x)):=by
 unfold A1s;have et:B3R x.Now=I7 x.Now:=rfl;simp only [et]
 by_cases h1:(0<=x.P/\x.P<=4)/\(0<=x.Now/\x.Now<=16777216)/\(0<=x.Bj/\x.Bj<=x.Now)/\(x.Ag.length:Int)=x.P+1
 ·rw [D7w.2 fun h=>(C2p x).1 h h1,D7j];unfold B2U;have hp:x.P=(x.P.toNat:Int):=by omega
  have H:=D13 (f:=fun s:Int=>A3d x (K6 (A4 (A1 (A1 (x.Now-x.Bj)+1)))) s) x.P.toNat (C75 x) 2 (some 0)
   (fun i g1 g2=>by
    unfold A3d;have ew:A1 ((i:Int)-1)=((i-1:Nat):Int):=by rw [C7]<;>omega
    have es:A1 ((i:Int)+1)=((i+1:Nat):Int):=by rw [C7]<;>omega
    obtain ⟨o1,o2⟩:=D2l h1;have oi:=hw _ (A2P (show i<x.Ag.length by omega))
    have oj:=hw _ (A2P (show i-1<x.Ag.length by omega))
    obtain ⟨r,m1,m3,m4,m5⟩:=D19 oj o1;rw [D7l (by omega:(i:Int)<=x.P),D7k,ew,es,L1 (by omega),L1 (by omega),B45]
    simp only [D7g,m1,C7A oj oi];rw [o2] at m3 m5;unfold C75
    by_cases q1:wv (el x.Ag (i-1))<=wv (el x.Ag i)
    ·rw [D7n (by omega),D7j,m3]
     by_cases q2:wv (el x.Ag (i-1))*(x.Now-x.Bj+1)<340282366920938463463374607431768211456
     ·have q3:=m5 (by rw [m3];exact D7l q2)
      rw [D7l q2];simp only [J1,D7g,D7R,C7A oi m4,q3];refine U4 ?_;rw [D7i];simp only [q1,q2,true_and,true_implies,forall_const];omega
     ·rw [D7n q2];simp only [K8,D7g,D7L,D7j];exact ⟨fun h=>absurd ⟨q1,fun h=>absurd h q2⟩ h,fun _=>trivial⟩
    ·rw [D7l (by omega),D7k]
     exact ⟨fun _=>rfl,fun h=>absurd (fun h2=>q1 h2.1) h⟩)
   (by
    unfold A3d;rw [D7n (by omega),D7j])
  by_cases h2: ∀i,1<=i->i<=x.P.toNat-> ¬C75 x i
  ·rw [H.2 h2,V0];exact ⟨h1,fun i a b=>D8b fun h=>h2 i a (by omega) h⟩
  ·rw [H.1,I8]
   ·exact fun h=>h2 fun i a b c=>c (h.2 i a (by omega))
   ·exact D8b fun hn=>h2 fun i a b c=>hn ⟨i,a,b,c⟩
 ·rw [(C2p x).2 h1,D7k,I8 fun h=>h1 h.1]
theorem D4A (l:List A2) (hl:l.length<=maxLen):A6c l l=some true:=by
 unfold A6c;rw [D7T,D7j];unfold B1n;refine (Q6 (f:=fun s:Int=>A2W l l s) l.length (fun _=>False) false (some true) (fun i hi _=>⟨fun h=>h.elim,fun _=> ?_⟩) (fun _=> ?_)).2 fun _ _ h=>h
 ·unfold A2W;rw [D7l (by omega:(i:Int)<(l.length:Int)),D7k,L1 hi]
  simp [Z3 hi hl]
 ·unfold A2W;rw [D7n (D7J _),D7j]
theorem C6j (x:E3) (hl:x.Ag.length<=maxLen):B1N x x=some true:=by
 unfold B1N;simp [D4A _ hl]
def C4n (x:F6):Prop:=((1<=(x.Bn.length:Int)/\(x.Bn.length:Int)<=64)/\(0<=x.Now/\x.Now<=16777216))/\
 ∀i,i<x.Bn.length->(0<=el x.Bn i/\el x.Bn i<=1099511627776)/\(x.Now<(i:Int)->el x.Bn i=0)
theorem A5X (x:F6) (hl:x.Bn.length<=maxLen):A0I x=some (vOf (C4n x)):=by
 unfold A0I
 by_cases h1:(1<=(x.Bn.length:Int)/\(x.Bn.length:Int)<=64)/\(0<=x.Now/\x.Now<=16777216)
 ·have e:((((decide ((x.Bn.length:Int)<(1:Int)))||(decide ((x.Bn.length:Int)>(64:Int))))||(decide (x.Now<(0:Int))))||(decide (x.Now>(16777216:Int))))=false:=by
   rw [D7w];simp only [D7r,D7i,Ne];omega
  rw [e,D7j];unfold B1i;have H:=Q6 (f:=fun s:Int=>A2R x s) x.Bn.length (fun i=> ¬((0<=el x.Bn i/\el x.Bn i<=1099511627776)/\(x.Now<(i:Int)->el x.Bn i=0))) 2 (some 0)
   (fun i hi _=>by
    unfold A2R;rw [D7l (by omega:(i:Int)<(x.Bn.length:Int)),D7k,L1 hi,D7g,Z3 hi hl]
    refine U4 ?_;simp only [D7r,D7o,D7i,bne_iff_ne];omega)
   (fun _=>by
    unfold A2R;rw [D7n (D7J _),D7j])
  by_cases h2: ∀i,i<x.Bn.length->(0<=el x.Bn i/\el x.Bn i<=1099511627776)/\(x.Now<(i:Int)->el x.Bn i=0)
  ·rw [H.2 fun i hi hn=>hn (h2 i hi),V0 ⟨h1,h2⟩]
  ·rw [H.1 (A53 h2),I8 fun h=>h2 h.2]
 ·have e:((((decide ((x.Bn.length:Int)<(1:Int)))||(decide ((x.Bn.length:Int)>(64:Int))))||(decide (x.Now<(0:Int))))||(decide (x.Now>(16777216:Int))))=true:=by
   simp only [D7r,D7i];omega
  rw [e,D7k,I8 fun h=>h1 h.1]
def D2c (x:C4):Prop:=(((1<=x.W/\x.W<=1048576)/\(1<=x.Cap/\x.Cap<=65536)/\(0<=x.Now/\x.Now<=16777216))/\(x.Bb.length:Int)<=x.Cap)/\
 ∀i,i<x.Bb.length->(I1 x.Now x.W (el x.Bb i).T=true/\ -4096<=(el x.Bb i).V/\(el x.Bb i).V<=4096)/\
  (1<=i->(el x.Bb (i-1)).T<(el x.Bb i).T/\A1r x.Bs (el x.Bb i).V (el x.Bb (i-1)).V=false)
theorem C4i (a b c:Int):A5v a b c=Q8 a b c:=by
 rw [D7B,B4T];unfold A5v;simp;omega
theorem A35 (x:C4) (hl:x.Bb.length<=maxLen):Y1 x=some (vOf (D2c x)):=by
 unfold Y1;simp only [C4i]
 by_cases h1:((1<=x.W/\x.W<=1048576)/\(1<=x.Cap/\x.Cap<=65536)/\(0<=x.Now/\x.Now<=16777216))/\(x.Bb.length:Int)<=x.Cap
 ·rw [(B4T _ _ _).2 h1.1,D7n (by omega),D7s,D7H,D7j]
  unfold A87;have H:=Q6 (f:=fun s:Int=>A1K x s) x.Bb.length (fun i=> ¬((I1 x.Now x.W (el x.Bb i).T=true/\ -4096<=(el x.Bb i).V/\(el x.Bb i).V<=4096)/\
    (1<=i->(el x.Bb (i-1)).T<(el x.Bb i).T/\A1r x.Bs (el x.Bb i).V (el x.Bb (i-1)).V=false))) 2 (some 0)
   (fun i hi _=>by
    unfold A1K;rw [D7l (by omega:(i:Int)<(x.Bb.length:Int)),D7k,L1 hi,D7g,Z3 hi hl]
    simp only [A5Y]
    by_cases g1:I1 x.Now x.W (el x.Bb i).T=true/\ -4096<=(el x.Bb i).V/\(el x.Bb i).V<=4096
    ·have e:(((!(I1 x.Now x.W (el x.Bb i).T))||(decide ((el x.Bb i).V<(-4096:Int))))||(decide ((el x.Bb i).V>(4096:Int))))=false:=by
      rw [g1.1,D7w];simp only [D7r,D7i,Ne,D7s,Bool.false_eq_true,or_false,false_or];omega
     rw [e,D7j];rcases i with _|i
     ·have e4:decide (((0:Nat):Int)>0)=false:=rfl;rw [e4];simp only [D7L,K8,D7g,D7j];exact ⟨fun h=>absurd ⟨g1,fun h=>absurd h (by decide)⟩ h,fun _=>trivial⟩
     ·have e4:decide (((i+1:Nat):Int)>0)=true:=D7l (by omega)
      rw [e4,B1D (by omega) (Nat.le_of_lt hi) hl,D7X,L1 (by omega)]
      simp only [J1,D7g,D7R]
      by_cases g2:(el x.Bb i).T>=(el x.Bb (i+1)).T
      ·simp only [g2,decide_true,D70,D7s,K8,D7g,D7k];refine ⟨fun _=>trivial,fun h=>absurd (fun h2=> ?_) h⟩;have:=(h2.2 (by omega)).1
       omega
      ·simp only [g2,decide_false,D7H,D7t,J1,D7g];refine U4 ?_;simp only [g1,true_and,show 1<=i+1 from by omega,true_implies]
       have:(el x.Bb i).T<(el x.Bb (i+1)).T:=by omega
       simp [this]
    ·have e:(((!(I1 x.Now x.W (el x.Bb i).T))||(decide ((el x.Bb i).V<(-4096:Int))))||(decide ((el x.Bb i).V>(4096:Int))))=true:=by
      cases hv:I1 x.Now x.W (el x.Bb i).T with
      |false=>rfl
      |true=>rw [hv] at g1;simp only [true_and] at g1;simp only [D7r,D7i];omega
     rw [e,D7k];exact ⟨fun _=>rfl,fun h=>absurd (fun h2=>g1 h2.1) h⟩)
   (fun _=>by
    unfold A1K;rw [D7n (D7J _),D7j])
  by_cases h2: ∀i,i<x.Bb.length->(I1 x.Now x.W (el x.Bb i).T=true/\ -4096<=(el x.Bb i).V/\(el x.Bb i).V<=4096)/\
    (1<=i->(el x.Bb (i-1)).T<(el x.Bb i).T/\A1r x.Bs (el x.Bb i).V (el x.Bb (i-1)).V=false)
  ·rw [H.2 fun i hi hn=>hn (h2 i hi),V0 ⟨h1,h2⟩]
  ·rw [H.1 (A53 h2),I8 fun h=>h2 h.2]
 ·have e:((!(Q8 x.W x.Cap x.Now))||(decide ((x.Bb.length:Int)>x.Cap)))=true:=by
   rw [D7r,D7C,D7w,Ne,B4T,D7i];omega
  rw [e,D7k,I8 fun h=>h1 h.1]
theorem C6l (x:C4) (hl:x.Bb.length<=maxLen):B1P x x=some true:=by
 unfold B1P;simp [B9V _ hl]
end Go.Win
set_option maxHeartbeats 4000000
namespace Go.Win
open Go.Vc Go.Dec
def A7F (c:E2):Prop:=(1<=c.Bi/\c.Bi<=11)/\
 ((c.Bi=6\/c.Bi=10->c.W=0)/\(c.Bi=7->1<=c.W/\c.W<=64)/\(c.Bi≠6/\c.Bi≠10/\c.Bi≠7->1<=c.W/\c.W<=1048576))/\
 ((c.Bi=6\/c.Bi=7->c.Cap=0)/\(c.Bi=9->1<=c.Cap/\c.Cap<=64)/\(c.Bi=10->2<=c.Cap/\c.Cap<=65536)/\(c.Bi≠6/\c.Bi≠7/\c.Bi≠9/\c.Bi≠10->1<=c.Cap/\c.Cap<=65536))/\
 ((c.Bi=1\/c.Bi=6\/c.Bi=7\/c.Bi=8\/c.Bi=9->c.K=0)/\(c.Bi≠1/\c.Bi≠6/\c.Bi≠7/\c.Bi≠8/\c.Bi≠9->1<=c.K/\c.K<=64))/\
 ((c.Bi=4->1<=c.Bo/\c.Bo<=4)/\(c.Bi≠4->c.Bo=0))/\
 ((c.Bi=6->0<=c.P/\c.P<=4)/\(c.Bi≠6->c.P=0))/\
 ((c.Bi=9->1<=c.Am/\c.Am<=16)/\(c.Bi≠9->c.Am=0))/\
 ((c.Bi=3->1<=c.Bs/\c.Bs<=1024)/\(c.Bi=8->0<=c.Bs/\c.Bs<=1)/\(c.Bi≠3/\c.Bi≠8->c.Bs=0))
open Classical in
noncomputable def vCf (p:Prop):Int:=if p then 0 else 1
theorem C3j {p:Prop} (h:p):vCf p=0:=by unfold vCf;rw [if_pos h]
theorem C3i {p:Prop} (h:¬p):vCf p=1:=by unfold vCf;rw [if_neg h]
theorem D1J {b:Bool} {p:Prop} (h:b=true↔ ¬p):cond b (1:Int) 0=vCf p:=by
 cases b with
 |true=>rw [C3i (h.1 rfl)];rfl
 |false=>rw [C3j (D8b fun hn=>absurd (h.2 hn) (by decide))];rfl
theorem A44 (c:E2):W7 c=vCf (A7F c):=by
 obtain ⟨k,agg,w,kk,cap,p,ch,mx⟩:=c
 by_cases hk:1<=k/\k<=11
 ·have:k=1\/k=2\/k=3\/k=4\/k=5\/k=6\/k=7\/k=8\/k=9\/k=10\/k=11:=by omega
  rcases this with h|h|h|h|h|h|h|h|h|h|h<;>subst h<;>
   simp only [W7,X1,A2M,A2b,A1c,A1d,A1e,A1f,A1g,A1h,A1i,
    B6,F7,B0,beq_self_eq_true,D7R,Bool.and_true,D7k,D7j,show ((1:Int)==2)=false from rfl,show ((1:Int)==3)=false from rfl,show ((1:Int)==4)=false from rfl,show ((1:Int)==5)=false from rfl,show ((1:Int)==6)=false from rfl,show ((1:Int)==7)=false from rfl,show ((1:Int)==8)=false from rfl,show ((1:Int)==9)=false from rfl,show ((1:Int)==10)=false from rfl,show ((1:Int)==11)=false from rfl,
    show ((2:Int)==3)=false from rfl,show ((2:Int)==4)=false from rfl,show ((2:Int)==6)=false from rfl,show ((2:Int)==7)=false from rfl,show ((2:Int)==9)=false from rfl,show ((2:Int)==10)=false from rfl,
    show ((3:Int)==6)=false from rfl,show ((3:Int)==7)=false from rfl,show ((3:Int)==9)=false from rfl,show ((3:Int)==10)=false from rfl,
    show ((4:Int)==3)=false from rfl,show ((4:Int)==6)=false from rfl,show ((4:Int)==7)=false from rfl,show ((4:Int)==9)=false from rfl,show ((4:Int)==10)=false from rfl,
    show ((5:Int)==2)=false from rfl,show ((5:Int)==3)=false from rfl,show ((5:Int)==4)=false from rfl,show ((5:Int)==6)=false from rfl,show ((5:Int)==7)=false from rfl,show ((5:Int)==9)=false from rfl,show ((5:Int)==10)=false from rfl,
    show ((7:Int)==6)=false from rfl,
    show ((8:Int)==2)=false from rfl,show ((8:Int)==3)=false from rfl,show ((8:Int)==4)=false from rfl,show ((8:Int)==5)=false from rfl,show ((8:Int)==6)=false from rfl,show ((8:Int)==7)=false from rfl,show ((8:Int)==9)=false from rfl,show ((8:Int)==10)=false from rfl,show ((8:Int)==11)=false from rfl,
    show ((9:Int)==6)=false from rfl,show ((9:Int)==7)=false from rfl,show ((10:Int)==6)=false from rfl,show ((10:Int)==7)=false from rfl,show ((10:Int)==9)=false from rfl,
    show ((11:Int)==2)=false from rfl,show ((11:Int)==3)=false from rfl,show ((11:Int)==4)=false from rfl,show ((11:Int)==5)=false from rfl,show ((11:Int)==6)=false from rfl,show ((11:Int)==7)=false from rfl,show ((11:Int)==9)=false from rfl,show ((11:Int)==10)=false from rfl,
    show (decide ((1048576:Int)>0))=true from rfl,show (decide ((64:Int)>0))=true from rfl,show (decide ((0:Int)>0))=false from rfl]<;>
   refine D1J ?_<;>unfold A7F<;>simp [-not_and,-Classical.not_imp]<;>omega
 ·rw [C3i fun h=>hk h.1];have e: ∀n:Int,1<=n->n<=11->(k==n)=false:=fun n h1 h2=>by rw [D76];omega
  unfold W7 X1;simp only [e 6 (by decide) (by decide),e 7 (by decide) (by decide),e 9 (by decide) (by decide),e 10 (by decide) (by decide),e 3 (by decide) (by decide),e 4 (by decide) (by decide),e 2 (by decide) (by decide),e 5 (by decide) (by decide),e 11 (by decide) (by decide),e 8 (by decide) (by decide),e 1 (by decide) (by decide),D7j]
end Go.Win
set_option maxHeartbeats 4000000
namespace Go.Win
open Go.Vc Go.Dec
def A0z (n k:Int):Int:=max 1 (n/k)
theorem C47 {n k:Int} (hn:0<=n) (hk:1<=k):Int.tdiv n k=n/k/\0<=n/k/\n/k<=n:=by
 refine ⟨Int.tdiv_eq_ediv_of_nonneg hn,Int.ediv_nonneg hn (by omega), ?_⟩
 exact Int.ediv_le_self k hn
theorem D3O {n k:Int} (hn:0<=n/\n<=1099511627776) (hk:1<=k):A3R n k=some (A0z n k):=by
 obtain ⟨h1,h2,h3⟩:=C47 hn.1 hk;unfold A3R A0z;rw [D7l (by omega),A0l,h1,C7 (by omega) (by omega)]
 congr 1
 show (if n/k>1 then n/k else 1)=max 1 (n/k)
 split<;>omega
theorem C99 {n k:Int} (hn:0<=n/\n<=1099511627776) (hk:1<=k):1<=A0z n k/\A0z n k<=1099511627776/\(1<=n->A0z n k<=n):=by
 obtain ⟨h1,h2,h3⟩:=C47 hn.1 hk;unfold A0z;omega
def A4e (l:List E0) (i:Nat):Int:=((l.take i).map (·.G)).sum
theorem C2A (l:List E0):A4e l 0=0:=by simp [A4e]
theorem C2z {l:List E0} {i:Nat} (h:i<l.length):A4e l (i+1)=A4e l i+(el l i).G:=by
 unfold A4e;rw [List.take_add_one,A5S h];simp
def C4p (l:List E0) (M:Int) (i:Nat):Prop:=(-4096<=(el l i).V/\(el l i).V<=4096)/\(1<=(el l i).G/\0<=(el l i).D/\(el l i).G+(el l i).D<=M)/\(1<=i->(el l (i-1)).V<=(el l i).V)
def B4Q (x:B8):Prop:=(1<=x.K/\x.K<=64)/\(2<=x.Cap/\x.Cap<=65536)/\(0<=x.N/\x.N<=1099511627776)/\(x.Av.length:Int)<=x.Cap
def C1a (x:B8):Prop:=B4Q x/\(x.Av.length=0↔x.N=0)/\(∀i,i<x.Av.length->C4p x.Av (A0z x.N x.K) i)/\
 (0<x.Av.length->(el x.Av 0).G=1/\(el x.Av 0).D=0/\(el x.Av (x.Av.length-1)).D=0/\A4e x.Av x.Av.length=x.N)
theorem D2D {l:List E0} {M:Int} (hM:M<=1099511627776) (hl:l.length<=65536): ∀i,i<=l.length->(∀j,j<i->C4p l M j)->(i:Int)<=A4e l i/\A4e l i<=i*1099511627776:=by
 intro i
 induction i with
 |zero=>intro _ _;rw [C2A];omega
 |succ i ih=>
  intro hi h;have h1:=ih (by omega) fun j hj=>h j (by omega)
  have h2:=(h i (by omega)).2.1
  rw [C2z (by omega)]
  omega
theorem A4h (x:B8):Y2 x=some (vOf (C1a x)):=by
 unfold Y2
 by_cases h1:B4Q x
 ·have h1' :=h1;unfold B4Q at h1';have e:(((((((decide (x.K<(1:Int)))||(decide (x.K>(64:Int))))||(decide (x.Cap<(2:Int))))||(decide (x.Cap>(65536:Int))))||(decide (x.N<(0:Int))))||(decide (x.N>(1099511627776:Int))))||(decide ((x.Av.length:Int)>x.Cap)))=false:=by
   rw [D7w];simp only [D7r,D7i,Ne];omega
  rw [e,D7j];have hl:x.Av.length<=65536:=by omega
  have hm:x.Av.length<=maxLen:=by rw [K0];omega
  by_cases hN:x.N=0
  ·have eN:(x.N==0)=true:=by rw [hN];rfl
   rw [eN,D7k]
   by_cases h0:0<x.Av.length
   ·rw [D7l (by omega),D7k,I8]
    intro h;have:=h.2.1;omega
   ·rw [D7n (by omega),D7j,V0]
    exact ⟨h1,⟨fun _=>hN,fun _=>by omega⟩,fun i hi=>absurd hi (by omega),fun h=>absurd h h0⟩
  ·have eN:(x.N==0)=false:=by rw [D76];exact hN
   rw [eN,D7j]
   by_cases h0:0<x.Av.length
   ·have e0:((x.Av.length:Int)==0)=false:=by rw [D76];omega
    rw [e0,D7j,D3O h1'.2.2.1 h1'.1.1,D7g];have hM:=C99 (n:=x.N) (k:=x.K) h1'.2.2.1 h1'.1.1;unfold A88;have H:=A4F (f:=fun s:Int×Int=>A1Q x (A0z x.N x.K) s.1 s.2) (fun i=>(A4e x.Av i,(i:Int))) 0 x.Av.length (Nat.zero_le _) (fun i=> ¬C4p x.Av (A0z x.N x.K) i) 2
     (some (vOf ((el x.Av 0).G=1/\(el x.Av 0).D=0/\(el x.Av (x.Av.length-1)).D=0/\A4e x.Av x.Av.length=x.N)))
     (fun i _ hi hp=>by
      simp only [];unfold A1Q;have hs:=D2D (l:=x.Av) hM.2.1 hl i (by omega) fun j hj=>D8b fun hn=>hp j (Nat.zero_le _) hj hn
      rw [D7l (by omega:(i:Int)<(x.Av.length:Int)),D7k,L1 hi,D7g,Z3 hi hm]
      unfold C4p
      by_cases g1: -4096<=(el x.Av i).V/\(el x.Av i).V<=4096
      ·have e1:(decide ((el x.Av i).V< -4096)||decide ((el x.Av i).V>4096))=false:=by simp;omega
       rw [e1];have key: ∀P:Prop,((((decide ((el x.Av i).G<(1:Int)))||(decide ((el x.Av i).D<(0:Int))))||(decide ((el x.Av i).G>(A0z x.N x.K))))||(decide ((el x.Av i).D>(A1 ((A0z x.N x.K)-(el x.Av i).G)))))=true↔ ¬(1<=(el x.Av i).G/\0<=(el x.Av i).D/\(el x.Av i).G+(el x.Av i).D<=A0z x.N x.K):=by
        intro _;simp only [D7r,D7i]
        by_cases q:1<=(el x.Av i).G/\(el x.Av i).G<=A0z x.N x.K
        ·rw [C7 (by omega) (by omega)];omega
        ·omega
       have keyw:(1<=(el x.Av i).G/\0<=(el x.Av i).D/\(el x.Av i).G+(el x.Av i).D<=A0z x.N x.K)->A1 (A4e x.Av i+(el x.Av i).G)=A4e x.Av (i+1):=by
        intro q;rw [C2z hi,C7]<;>omega
       have fin: ∀(c1:Bool) (P1:Prop),(c1=true↔ ¬P1)->
         (¬((-4096<=(el x.Av i).V/\(el x.Av i).V<=4096)/\(1<=(el x.Av i).G/\0<=(el x.Av i).D/\(el x.Av i).G+(el x.Av i).D<=A0z x.N x.K)/\P1)->
          (cond c1 (some (.inr 2)) (cond ((((decide ((el x.Av i).G<(1:Int)))||(decide ((el x.Av i).D<(0:Int))))||(decide ((el x.Av i).G>(A0z x.N x.K))))||(decide ((el x.Av i).D>(A1 ((A0z x.N x.K)-(el x.Av i).G))))) (some (.inr 2)) (some (.inl (A1 (A4e x.Av i+(el x.Av i).G),((i+1:Nat):Int))))):Option ((Int×Int)⊕Int))=some (.inr 2))/\
         (¬ ¬((-4096<=(el x.Av i).V/\(el x.Av i).V<=4096)/\(1<=(el x.Av i).G/\0<=(el x.Av i).D/\(el x.Av i).G+(el x.Av i).D<=A0z x.N x.K)/\P1)->
          (cond c1 (some (.inr 2)) (cond ((((decide ((el x.Av i).G<(1:Int)))||(decide ((el x.Av i).D<(0:Int))))||(decide ((el x.Av i).G>(A0z x.N x.K))))||(decide ((el x.Av i).D>(A1 ((A0z x.N x.K)-(el x.Av i).G))))) (some (.inr 2)) (some (.inl (A1 (A4e x.Av i+(el x.Av i).G),((i+1:Nat):Int))))):Option ((Int×Int)⊕Int))=some (.inl (A4e x.Av (i+1),((i+1:Nat):Int)))):=by
        intro c1 P1 hc
        by_cases q:1<=(el x.Av i).G/\0<=(el x.Av i).D/\(el x.Av i).G+(el x.Av i).D<=A0z x.N x.K
        ·rw [D7w.2 fun h=>(key True).1 h q,D7j,keyw q];refine U4 ?_;rw [hc];exact ⟨fun h1 h2=>h1 h2.2.2,fun h1 h2=>h1 ⟨g1,q,h2⟩⟩
        ·rw [(key True).2 q,D7k];have:(cond c1 (some (.inr 2)) (some (.inr 2)):Option ((Int×Int)⊕Int))=some (.inr 2):=by cases c1<;>rfl
         rw [this];exact ⟨fun _=>rfl,fun h=>absurd (fun h2=>q h2.2.1) h⟩
       rcases i with _|i
       ·have e4:decide (((0:Nat):Int)>0)=false:=rfl;rw [e4];simp only [Bool.and_false,K8,D7g,D7L,Bool.or_false];exact fin false _ ⟨fun h=>(by cases h),fun h=>absurd (fun h2=>absurd h2 (by decide)) h⟩
       ·have e4:decide (((i+1:Nat):Int)>0)=true:=D7l (by omega)
        rw [e4,B1D (by omega) (Nat.le_of_lt hi) hm,D7X,L1 (by omega)]
        simp only [D7t,Bool.and_true,J1,D7g,D7R,D7H];refine fin _ _ ?_;rw [D7i];constructor
        ·intro h1 h2;have:=h2 (by omega);omega
        ·intro h1;exact Int.not_le.1 fun h2=>h1 fun _=>h2
      ·have e1:(decide ((el x.Av i).V< -4096)||decide ((el x.Av i).V>4096))=true:=by simp;omega
       rw [e1];simp only [D7s,D7L,K8,D7g,D70,D7k];exact ⟨fun _=>trivial,fun h=>absurd (fun h2=>g1 h2.1) h⟩)
     (fun hp=>by
      simp only [];unfold A1Q;rw [D7n (D7J _),D7j]
      congr 1
      rw [A9n h0,D7g,B1D h0 (D7Y _) hm,L1 (by omega),D7g]
      by_cases q:(el x.Av 0).G=1/\(el x.Av 0).D=0/\(el x.Av (x.Av.length-1)).D=0/\A4e x.Av x.Av.length=x.N
      ·rw [V0 q];obtain ⟨q1,q2,q3,q4⟩:=q;rw [q1,q2,q3,q4];simp
      ·rw [I8 q];have:(((A4e x.Av x.Av.length !=x.N||(el x.Av 0).G !=1)||(el x.Av 0).D !=0)||(el x.Av (x.Av.length-1)).D !=0)=true:=by
        simp only [D7r,bne_iff_ne];omega
       rw [this];rfl)
    rw [show ((0:Int),(0:Int))=(A4e x.Av 0,((0:Nat):Int)) from by rw [C2A];rfl]
    by_cases h2: ∀i,i<x.Av.length->C4p x.Av (A0z x.N x.K) i
    ·rw [H.2 fun i _ hi hn=>hn (h2 i hi)]
     congr 1
     by_cases q:(el x.Av 0).G=1/\(el x.Av 0).D=0/\(el x.Av (x.Av.length-1)).D=0/\A4e x.Av x.Av.length=x.N
     ·rw [V0 q,V0];exact ⟨h1,⟨fun h=>by omega,fun h=>absurd h hN⟩,h2,fun _=>q⟩
     ·rw [I8 q,I8];exact fun h=>q (h.2.2.2 h0)
    ·obtain ⟨i,hi,hn⟩:=A53 h2;rw [H.1 ⟨i,Nat.zero_le _,hi,hn⟩,I8];exact fun h=>h2 h.2.2.1
   ·have e0:((x.Av.length:Int)==0)=true:=by rw [show x.Av.length=0 by omega];rfl
    rw [e0,D7k,I8];intro h;have:=h.2.1;omega
 ·have e:(((((((decide (x.K<(1:Int)))||(decide (x.K>(64:Int))))||(decide (x.Cap<(2:Int))))||(decide (x.Cap>(65536:Int))))||(decide (x.N<(0:Int))))||(decide (x.N>(1099511627776:Int))))||(decide ((x.Av.length:Int)>x.Cap)))=true:=by
   unfold B4Q at h1;simp only [D7r,D7i];omega
  rw [e,D7k,I8 fun h=>h1 h.1]
theorem C6o (x:B8) (hl:x.Av.length<=maxLen):B1S x x=some true:=by
 unfold B1S;simp only [D7T,Bool.or_false,D7j];unfold B6l;refine (Q6 (f:=fun s:Int=>A6d x x s) x.Av.length (fun _=>False) false (some true) (fun i hi _=>⟨fun h=>h.elim,fun _=> ?_⟩) (fun _=> ?_)).2 fun _ _ h=>h
 ·unfold A6d;rw [D7l (by omega:(i:Int)<(x.Av.length:Int)),D7k,L1 hi]
  simp [Z3 hi hl]
 ·unfold A6d;rw [D7n (D7J _),D7j]
end Go.Win
set_option maxHeartbeats 4000000
namespace Go.Win
open Go.Vc Go.Dec
theorem bla (f:Nat): ∀x:Nat,x<2^f->x≠0->1<=Lib.bitLenAux f x/\2^(Lib.bitLenAux f x-1)<=x/\x<2^Lib.bitLenAux f x:=by
 induction f with
 |zero=>intro x h h0;simp at h;exact absurd h h0
 |succ f ih=>
  intro x h h0;unfold Lib.bitLenAux;rw [if_neg h0]
  by_cases h1:x/2=0
  ·have:x=1:=by omega
   subst this;have e:Lib.bitLenAux f (1/2)=0:=by cases f<;>simp [Lib.bitLenAux]
   rw [e];simp
  ·have:=ih (x/2) (by rw [Nat.pow_succ] at h;omega) h1
   obtain ⟨b1,b2,b3⟩:=this
   generalize Lib.bitLenAux f (x/2)=b at*
   refine ⟨by omega, ?_, ?_⟩
   ·obtain ⟨c,rfl⟩: ∃c,b=c+1:=⟨b-1,by omega⟩
    rw [show 1+(c+1)-1=c+1 by omega,Nat.pow_succ]
    rw [show c+1-1=c by omega] at b2
    omega
   ·rw [Nat.add_comm,Nat.pow_succ];omega
theorem A4o {x:Int} (h0:0<x) (h1:x<18446744073709551616): ∃b:Nat,W9 x=some (b:Int)/\1<=b/\b<=64/\(2:Int)^(b-1)<=x/\x<2^b:=by
 obtain ⟨n,rfl⟩:=Int.eq_ofNat_of_zero_le (by omega:0<=x)
 have hb:=bla 64 n (by have:(2:Nat)^64=18446744073709551616:=by decide
                       omega) (by omega)
 refine ⟨Lib.bitLen n, ?_,hb.1, ?_, ?_, ?_⟩
 ·unfold W9;rw [M4 (by rw [D7i];omega),D7W]
 ·have:Lib.bitLen n-1<64:=by
   refine (Nat.pow_lt_pow_iff_right (a:=2) (by decide)).1 (Nat.lt_of_le_of_lt hb.2.1 ?_)
   have:(2:Nat)^64=18446744073709551616:=by decide
   omega
  omega
 ·have:=hb.2.1
  exact_mod_cast this
 ·have:=hb.2.2
  exact_mod_cast this
theorem B5q {a b k:Nat} (hb:b<2^k) (h:a*2^k+b<18446744073709551616):O0 .u64 ((a*2^k:Nat):Int) (b:Int)=((a*2^k+b:Nat):Int):=by
 show IntKind.u64.wrap _=_;have hbits:IntKind.u64.bits=64:=rfl;rw [hbits,IntKind.wrap_u64,BitVec.toNat_or,BitVec.toNat_ofInt,BitVec.toNat_ofInt];have e1:((((a*2^k:Nat):Int)%((2^64:Nat):Int)).toNat)=a*2^k:=by omega
 have e2:(((b:Int)%((2^64:Nat):Int)).toNat)=b:=by omega
 rw [e1,e2];have e3:a*2^k|||b=a*2^k+b:=by
  rw [<-Nat.shiftLeft_eq,Nat.shiftLeft_add_eq_or_of_lt hb]
 rw [e3];omega
theorem A9r (x:Int) {k:Nat} (hk:k<=64):E8 .u64 x (k:Int)=(x*2^k)%18446744073709551616:=by
 show IntKind.u64.wrap (x*2^(min (k:Int).toNat IntKind.u64.bits))=_;have:min (k:Int).toNat IntKind.u64.bits=k:=by
  have hbits:IntKind.u64.bits=64:=rfl;rw [hbits,D7W];omega
 rw [this,IntKind.wrap_u64]
theorem B2m (x:Int) {k:Nat} (hk:k<=64):G1 .u64 x (k:Int)=x/2^k:=by
 show x.fdiv (2^(min (k:Int).toNat IntKind.u64.bits))=_;have:min (k:Int).toNat IntKind.u64.bits=k:=by
  have hbits:IntKind.u64.bits=64:=rfl;rw [hbits,D7W];omega
 rw [this,Int.fdiv_eq_ediv_of_nonneg _ (Int.le_of_lt (Int.pow_pos (by decide)))]
noncomputable def C8u (a:A2) (k:Nat):A2×Bool:=
 if wv a*2^k<340282366920938463463374607431768211456 then (I9 (wv a*2^k),true) else (⟨0,0⟩,false)
theorem D10 {h l k:Nat} (hk:k<=63) (hl:l<18446744073709551616) (hno:((h:Int)*18446744073709551616+l)*2^k<340282366920938463463374607431768211456):
  (⟨O0 .u64 (E8 .u64 (h:Int) (k:Int)) (G1 .u64 (l:Int) ((64-k:Nat):Int)),E8 .u64 (l:Int) (k:Int)⟩:A2)=I9 (((h:Int)*18446744073709551616+l)*2^k):=by
 have hP:((2:Int)^k)=((2^k:Nat):Int):=by simp
 have hQ:((2:Int)^(64-k))=((2^(64-k):Nat):Int):=by simp
 have hPQ:2^(64-k)*2^k=18446744073709551616:=by
  rw [<-Nat.pow_add,show 64-k+k=64 by omega]
 rw [A9r _ (by omega),A9r _ (by omega),B2m _ (by omega)]
 rw [hP] at hno⊢;rw [hQ];have e:((h:Int)*18446744073709551616+l)*((2^k:Nat):Int)=((h*2^k:Nat):Int)*18446744073709551616+((l*2^k:Nat):Int):=by
  rw [Int.natCast_mul,Int.natCast_mul];grind
 have d1:l/2^(64-k)=(l*2^k)/18446744073709551616:=by
  rw [<-hPQ,Nat.mul_div_mul_right _ _ (Nat.two_pow_pos k)]
 have d2:l/2^(64-k)<2^k:=by
  rw [Nat.div_lt_iff_lt_mul (Nat.two_pow_pos _),Nat.mul_comm,hPQ];exact hl
 rw [e] at hno⊢;have c1:(h:Int)*((2^k:Nat):Int)=((h*2^k:Nat):Int):=by rw [Int.natCast_mul]
 have c2:(l:Int)*((2^k:Nat):Int)=((l*2^k:Nat):Int):=by rw [Int.natCast_mul]
 have c3:(l:Int)/((2^(64-k):Nat):Int)=((l/2^(64-k):Nat):Int):=by rw [Int.natCast_ediv]
 rw [c1,c2,c3];have c4:((h*2^k:Nat):Int)%18446744073709551616=((h*2^k:Nat):Int):=by omega
 rw [c4,B5q d2 (by rw [d1];omega),d1]
 unfold I9
 congr 1<;>omega
theorem A0J (k:Nat):(0:Int)<2^k:=Int.pow_pos (by decide)
theorem C9M {h b k:Nat} (hb:1<=b) (h1:2^(b-1)<=h) (h2:h<2^b):(k+b<=64->(h+1)*2^k<=18446744073709551616)/\(64<k+b->18446744073709551616<=h*2^k):=by
 have e:(2:Nat)^64=18446744073709551616:=by decide
 refine ⟨fun hk=> ?_,fun hk=> ?_⟩
 ·have:=D7E (2^k) (show h+1<=2^b by omega)
  rw [<-Nat.pow_add] at this;have h3:=Nat.pow_le_pow_right (n:=2) (by decide) (show b+k<=64 by omega)
  omega
 ·have:=D7E (2^k) h1;rw [<-Nat.pow_add] at this;have h3:=Nat.pow_le_pow_right (n:=2) (by decide) (show 64<=b-1+k by omega)
  omega
theorem D1g {a:A2} (ha:I2 a) {k:Nat} (hk:k<=63):A3V a (k:Int)=some (C8u a k):=by
 obtain ⟨h,l⟩:=a;unfold I2 at ha;simp only at ha;obtain ⟨h,rfl⟩:=Int.eq_ofNat_of_zero_le ha.1;obtain ⟨l,rfl⟩:=Int.eq_ofNat_of_zero_le ha.2.2.1;unfold A3V C8u;have c0:decide ((k:Int)<0)=false:=by rw [D7x];omega
 have wvE:wv ⟨(h:Int),(l:Int)⟩=(h:Int)*18446744073709551616+l:=rfl;rw [c0,D7j,wvE];have e2:((h:Int)*18446744073709551616+l)*((2^k:Nat):Int)=((h*2^k:Nat):Int)*18446744073709551616+((l*2^k:Nat):Int):=by
  rw [Int.natCast_mul,Int.natCast_mul];grind
 have hP:((2:Int)^k)=((2^k:Nat):Int):=by simp
 have lP:=Nat.mul_lt_mul_of_pos_right (show l<18446744073709551616 by omega) (Nat.two_pow_pos k)
 have kP:=Nat.pow_le_pow_right (n:=2) (by decide) hk
 have c63:(2:Nat)^63=9223372036854775808:=by decide
 have ck1:decide ((k:Int)>=64)=false:=by rw [D7x];omega
 have wk:A4 (k:Int)=(k:Int):=by rw [K3];omega
 have w1:A1 (64-(k:Int))=((64-k:Nat):Int):=by rw [C7]<;>omega
 have w2:A4 ((64-k:Nat):Int)=((64-k:Nat):Int):=by rw [K3];omega
 have tail: ∀(_:((h:Int)*18446744073709551616+l)*2^k<340282366920938463463374607431768211456),
   (cond (decide ((k:Int)>=(64:Int))) (
    ck (decide (0<=(A4 (A1 ((k:Int)-(64:Int))))))<|
    some ((A2.mk (E8 .u64 (l:Int) (A4 (A1 ((k:Int)-(64:Int))))) (0:Int)),true))<|
   ck (decide (0<=(A4 (k:Int))))<|
   ck (decide (0<=(A4 (A1 ((64:Int)-(k:Int))))))<|
   ck (decide (0<=(A4 (k:Int))))<|
   some ((A2.mk (O0 .u64 (E8 .u64 (h:Int) (A4 (k:Int))) (G1 .u64 (l:Int) (A4 (A1 ((64:Int)-(k:Int)))))) (E8 .u64 (l:Int) (A4 (k:Int)))),true))
   =some (I9 (((h:Int)*18446744073709551616+l)*2^k),true):=by
  intro hno;rw [ck1,D7j,wk,w1,w2,M4 (by rw [D7i];omega),M4 (by rw [D7i];omega),M4 (by rw [D7i];omega),D10 hk (by omega) hno]
 by_cases hz:h=0/\l=0
 ·obtain ⟨rfl,rfl⟩:=hz;simp [A09,I9]
 ·have z:A09 ⟨(h:Int),(l:Int)⟩=false:=by
   unfold A09;simp only [D77,D76];omega
  simp only [z,D7j];unfold A72
  by_cases hh:h=0
  ·subst hh;obtain ⟨b,b1,b2,b3,_,_⟩:=A4o (x:=(l:Int)) (by omega) (by omega)
   have c1:(((0:Nat):Int) !=0)=false:=rfl;have c2:decide ((k:Int)>A1 (128-(b:Int)))=false:=by
    rw [D7x,C7 (by omega) (by omega)];omega
   have hno:(((0:Nat):Int)*18446744073709551616+l)*2^k<340282366920938463463374607431768211456:=by
    rw [hP,e2,Nat.zero_mul];omega
   simp only [c1,D7j,b1,D7g,c2];rw [if_pos hno];exact tail hno
  ·obtain ⟨b,b1,b2,b3,b4,b5⟩:=A4o (x:=(h:Int)) (by omega) (by omega)
   have c1:((h:Int) !=0)=true:=by rw [bne_iff_ne];omega
   have fl:=C9M (h:=h) (b:=b) (k:=k) b2 (by exact_mod_cast b4) (by exact_mod_cast b5)
   have w3:A1 (64+(b:Int))=64+(b:Int):=by rw [C7]<;>omega
   have w4:A1 (128-(64+(b:Int)))=64-(b:Int):=by rw [C7]<;>omega
   simp only [c1,D7k,b1,D7g,w3,w4]
   by_cases hb:k+b<=64
   ·have c2:decide ((k:Int)>64-(b:Int))=false:=by rw [D7x];omega
    have f1:=fl.1 hb;rw [Nat.add_mul,Nat.one_mul] at f1;have hno:((h:Int)*18446744073709551616+l)*2^k<340282366920938463463374607431768211456:=by
     rw [hP,e2];omega
    rw [c2,D7j,if_pos hno];exact tail hno
   ·have c2:decide ((k:Int)>64-(b:Int))=true:=by rw [D7i];omega
    have f2:=fl.2 (by omega)
    rw [c2,D7k,if_neg];rw [hP,e2];omega
end Go.Win
set_option maxHeartbeats 4000000
namespace Go.Win
open Go.Vc Go.Dec
def J4 (l:List B4) (i:Nat):B4:=l.getD i default
theorem C3T {l:List B4} {i:Nat} (h:i<l.length):l[i]? =some (J4 l i):=by
 unfold J4;rw [M9 h];simp [List.getD,M9 h]
theorem C65 {l:List B4} {i:Nat} (h:i<l.length):J4 l i=l[i]:=by
 have:=C3T h;rw [M9 h] at this;exact (D7Z this).symm
theorem A0n {l:List B4} {i:Nat} (h:i<l.length):C1 l (i:Int)=some (J4 l i):=by
 rw [S4,C3T h]
def B5d (l:List B4) (N:Int) (i:Nat):Bool:=
 ((decide ((J4 l i).Bt<1)||decide ((J4 l i).Bt>(J4 l i).Bs))||decide ((J4 l i).Bs>N))||
 (decide (0<i)&&((decide ((J4 l (i-1)).V>(J4 l i).V)||decide ((J4 l (i-1)).Bt>=(J4 l i).Bt))||decide ((J4 l (i-1)).Bs>=(J4 l i).Bs)))
def B4y (l:List B4) (N:Int):Bool:=decide (0<l.length)&&((J4 l 0).Bs !=1||(J4 l (l.length-1)).Bt !=N)
def B64 (r:D4):Bool:= !(((decide (r.N<0))||(decide (r.N>1099511627776)))||(!(((r.Ae.length:Int)==0)==(r.N==0))))
def okB (r:D4):Bool:=B64 r&& !((List.range r.Ae.length).any (B5d r.Ae r.N)||B4y r.Ae r.N)
theorem C8Q {i n:Nat} (h0:0<i) (h:i<=n) (hm:n<=maxLen):A1 ((i:Int)-1)=((i-1:Nat):Int):=by
 rw [K0] at hm;rw [C7]<;>omega
theorem A0w (r:D4) (hl:r.Ae.length<=1000000000):R8 r=some (cond (okB r) 0 2):=by
 have hm:r.Ae.length<=maxLen:=by rw [K0];omega
 unfold R8;cases hh:B64 r with
 |false=>
  have h1:(((decide (r.N<0))||(decide (r.N>1099511627776)))||(!(((r.Ae.length:Int)==0)==(r.N==0))))=true:=nF (by unfold B64 at hh;exact hh)
  rw [h1,D7k];unfold okB;rw [hh]
  rfl
 |true=>
  have h1:(((decide (r.N<0))||(decide (r.N>1099511627776)))||(!(((r.Ae.length:Int)==0)==(r.N==0))))=false:=Go.Dec.nT (by unfold B64 at hh;exact hh)
  rw [h1,D7j];unfold B2Y;have:=A38 (f:=fun s:Int=>A3e r s) (n:=r.Ae.length) (bad:=B5d r.Ae r.N) (E:=(2:Int)) (A:=some (cond (B4y r.Ae r.N) 2 0))
   (fun i hi=>by
    unfold A3e B5d;simp only [Int.ofNat_lt,hi,decide_true,D7k,A0n hi,D7g,S6 hi hm]
    by_cases h0:0<i
    ·rw [C8Q h0 (Nat.le_of_lt hi) hm,A0n (by omega),D7l (by omega:(i:Int)>0),D7l h0]
     simp only [D7g,D7k,D7R];cases ((decide ((J4 r.Ae i).Bt<1)||decide ((J4 r.Ae i).Bt>(J4 r.Ae i).Bs))||decide ((J4 r.Ae i).Bs>r.N)) with
     |true=>rfl
     |false=>
      simp only [D7j,D7H]
    ·rw [D7n (by omega: ¬(i:Int)>0),D7n h0]
     simp only [D7j,D7L,Bool.or_false])
   (by
    unfold A3e B4y;simp only [D7J,decide_false,D7j]
    by_cases h0:0<r.Ae.length
    ·rw [D7l (by omega:(r.Ae.length:Int)>0),D7l h0,C8Q h0 (D7Y _) hm]
     have e0:C1 r.Ae (0:Int)=some (J4 r.Ae 0):=A0n h0;rw [e0,A0n (by omega)]
     simp only [J1,D7g,D7R];cases hb:(J4 r.Ae 0).Bs !=1 with
     |true=>simp
     |false=>
      simp only [D7t,J1,D7g,D7H];cases (J4 r.Ae (r.Ae.length-1)).Bt !=r.N<;>rfl
    ·rw [D7n (by omega: ¬(r.Ae.length:Int)>0),D7n h0]
     simp)
  rw [show ((0:Int))=((0:Nat):Int) from rfl] at this⊢;rw [this];unfold okB;rw [hh];cases (List.range r.Ae.length).any (B5d r.Ae r.N)<;>cases B4y r.Ae r.N<;>rfl
structure OkR (l:List B4) (N:Int):Prop where
 n0:0<=N
 n1:N<=1099511627776
 nil:l.length=0↔N=0
 rng: ∀i,i<l.length->1<=(J4 l i).Bt/\(J4 l i).Bt<=(J4 l i).Bs/\(J4 l i).Bs<=N
 up: ∀i,i+1<l.length->(J4 l i).V<=(J4 l (i+1)).V/\(J4 l i).Bt<(J4 l (i+1)).Bt/\(J4 l i).Bs<(J4 l (i+1)).Bs
 first:0<l.length->(J4 l 0).Bs=1
 last:0<l.length->(J4 l (l.length-1)).Bt=N
theorem A9u (r:D4):okB r=true↔OkR r.Ae r.N:=by
 unfold okB B64 B4y;have hany:(List.range r.Ae.length).any (B5d r.Ae r.N)=false↔ ∀i,i<r.Ae.length->B5d r.Ae r.N i=false:=by
  rw [List.any_eq_false];constructor
  ·intro h i hi;have:=h i (List.mem_range.2 hi);simpa using this
  ·intro h i hi;have:=h i (List.mem_range.1 hi);simpa using this
 simp only [D7o,D7C,D7Q,D7x,Bool.not_eq_false',D8a,hany,D77,bne_eq_false_iff_eq,gt_iff_lt];constructor
 ·rintro ⟨⟨⟨h1,h2⟩,h3⟩,h4,h5⟩;have h3' :r.Ae.length=0↔r.N=0:=by
   have:=congrArg (· =true) h3;simp only [D8a,eq_iff_iff] at this;omega
  refine ⟨by omega,by omega,h3',fun i hi=> ?_,fun i hi=> ?_,fun h0=> ?_,fun h0=> ?_⟩
  ·have:=h4 i hi;unfold B5d at this;simp only [D7Q,D7x] at this;omega
  ·have:=h4 (i+1) hi;unfold B5d at this;simp only [D7Q,D7x,D77,D7X] at this;omega
  ·rcases h5 with h5|h5
   ·omega
   ·exact h5.1
  ·rcases h5 with h5|h5
   ·omega
   ·exact h5.2
 ·intro h;refine ⟨⟨⟨by have:=h.n0;omega,by have:=h.n1;omega⟩, ?_⟩,fun i hi=> ?_, ?_⟩
  ·have:=h.nil;rw [D7B,D8a,D8a];omega
  ·unfold B5d;have h1:=h.rng i hi;simp only [D7Q,D7x,D77];refine ⟨by omega, ?_⟩
   by_cases h0:0<i
   ·right;have:=h.up (i-1) (by omega)
    rw [show i-1+1=i by omega] at this
    omega
   ·exact .inl h0
  ·by_cases h0:0<r.Ae.length
   ·exact .inr ⟨h.first h0,h.last h0⟩
   ·exact .inl h0
def B3J (l:List B4):Nat->Int
 |0=>1
 |i+1=>if i=0 then 1 else if (J4 l i).Bs-(J4 l (i-1)).Bt>B3J l i then (J4 l i).Bs-(J4 l (i-1)).Bt else B3J l i
theorem D1T (r:D4) (h:OkR r.Ae r.N) (hl:r.Ae.length<=1000000000) (h0:0<r.Ae.length):B4i r 1 1=some (B3J r.Ae r.Ae.length):=by
 have hm:r.Ae.length<=maxLen:=by rw [K0];omega
 unfold B4i;obtain ⟨v,hv,hQ⟩:=R3 (f:=fun s:Int×Int=>B2V r s.1 s.2)
  (fun s=> ∃i:Nat,1<=i/\i<=r.Ae.length/\s=(B3J r.Ae i,(i:Int)))
  (fun s=>r.Ae.length-s.2.toNat) (fun v=>v=B3J r.Ae r.Ae.length) (1,1) ⟨1,D7Y _,h0,rfl⟩ (by
   rintro _ ⟨i,h1,hi,rfl⟩;simp only;unfold B2V
   by_cases hlt:i<r.Ae.length
   ·left;have r1:=h.rng i hlt;have r2:=h.rng (i-1) (by omega)
    have n1:=h.n1;simp only [Int.ofNat_lt,hlt,decide_true,D7k,A0n hlt,D7g,S6 hlt hm,C8Q h1 hi hm,A0n (show i-1<r.Ae.length by omega)]
    refine ⟨_,rfl,⟨i+1,by omega,hlt, ?_⟩,by show r.Ae.length-((i:Int)+1).toNat<r.Ae.length-(i:Int).toNat;omega⟩
    rw [C7 (by omega) (by omega)]
    have:B3J r.Ae (i+1)=A0y (B3J r.Ae i) ((J4 r.Ae i).Bs-(J4 r.Ae (i-1)).Bt):=by
     show (if i=0 then (1:Int) else _)=_
     rw [if_neg (by omega)]
    rw [this]
    rfl
   ·right;have hn: ¬((i:Int)<(r.Ae.length:Int)):=by omega
    have hi2:i=r.Ae.length:=by omega
    subst hi2;simp only [hn,decide_false,D7j];exact ⟨_,rfl,rfl⟩)
 rw [hv,hQ]
def D1S (l:List B4):Int:=if l.length=0 then 0 else B3J l l.length
theorem D2o (r:D4) (hl:r.Ae.length<=1000000000):B5K r=some (cond (okB r) (D1S r.Ae) 0):=by
 unfold B5K;rw [A0w r hl];simp only [D7g];cases hb:okB r with
 |false=>rfl
 |true=>
  have h:=(A9u r).1 hb;simp only [D7k,D7T,D7H];unfold D1S
  by_cases h0:r.Ae.length=0
  ·rw [if_pos h0,h0];rfl
  ·have c:((r.Ae.length:Int)==0)=false:=by rw [D76];omega
   rw [c,D7j,if_neg h0,D1T r h hl (by omega)]
theorem C4Z (l:List Int):(A1o l).length=l.length:=List.length_mergeSort _
end Go.Win
set_option maxHeartbeats 4000000
namespace Go.Win
open Go.Vc Go.Dec
def inB (x:Int) (b:Nat):Prop:=(b=0/\x=0)\/(1<=b/\(2:Int)^(b-1)<=x/\x<2^b)
theorem C9z: ∀(b:Nat) (x c:Int),inB x b->x<=9223372036854775807->0<=c->c+b<=1000->A7r x c=some (c+b):=by
 intro b
 induction b with
 |zero=>
  intro x c h hx hc hb;have hx0:x=0:=by
   rcases h with h|h
   ·exact h.2
   ·omega
  unfold A7r;rw [K4 (r:=c)]
  ·congr 1;omega
  ·unfold A6a;rw [hx0];rfl
 |succ b ih=>
  intro x c h hx hc hb;have h' :(2:Int)^b<=x/\x<2^(b+1):=by
   rcases h with h|h
   ·omega
   ·exact ⟨by simpa using h.2.1,h.2.2⟩
  have hp:=A0J b;have hin:inB (x/2) b:=by
   by_cases h0:b=0
   ·subst h0;left;have e1:(2:Int)^0=1:=rfl;have e2:(2:Int)^(0+1)=2:=rfl;omega
   ·right;have e1:(2:Int)^b=2^(b-1)*2:=by rw [<-Int.pow_succ];congr 1;omega
    have e2:(2:Int)^(b+1)=2^b*2:=Int.pow_succ 2 b;omega
  have hst:A6a x c=some (.inl (x/2,c+1)):=by
   unfold A6a;rw [D7l (by omega),D7k,Int.tdiv_eq_ediv_of_nonneg (by omega),C7 (by omega) (by omega),C7 (by omega) (by omega)]
  have:=ih (x/2) (c+1) hin (by omega) (by omega) (by omega)
  unfold A7r at this⊢;rw [J6 hst,this]
  congr 1
  omega
theorem C6E {x:Int} (h0:0<x) (h1:x<=9223372036854775807): ∃b:Nat,B5C x=some (b:Int)/\B5L x=some (b:Int)/\1<=b/\b<=64/\(2:Int)^(b-1)<=x/\x<2^b:=by
 obtain ⟨b,g1,g2,g3,g4,g5⟩:=A4o h0 (by omega)
 refine ⟨b, ?_, ?_,g2,g3,g4,g5⟩
 ·unfold B5C;rw [D7n (by omega),D7j,B0d (by omega) (by omega),g1];rfl
 ·unfold B5L;rw [C9z b x 0 (.inr ⟨g2,g4,g5⟩) h1 (by omega) (by omega)]
  congr 1;omega
theorem B42 {k c:Int} (hk:1<=k/\k<=64) (hc:1<=c/\c<=65536): ∃b,A4w k c=some b/\A8A k c=some b/\1<=b/\b<=65536:=by
 obtain ⟨b,g1,g2,g3,g4,g5,g6⟩:=C6E (x:=c) (by omega) (by omega)
 have hm:=A7U (a:=2*k) (A:=128) (b:=(b:Int)+2) (B:=66) (by omega) (by omega)
 have hm2:1*1<=2*k*((b:Int)+2):=Int.mul_le_mul (by omega) (by omega) (by decide) (by omega)
 refine ⟨2*k*(b+2), ?_, ?_,by omega,by omega⟩
 ·unfold A4w;have e:A0v 1 k c 0=true:=by unfold A0v;simp;omega
  simp only [e,D7s,D7j,g1,D7g];rw [C7 (n:=2*k) (by omega) (by omega),C7 (n:=(b:Int)+2) (by omega) (by omega),C7 (by omega) (by omega)]
 ·unfold A8A;have e:(((!(U7 k))||(decide (c<(1:Int))))||(decide (c>(65536:Int))))=false:=by
   rw [(D16 k).2 hk];simp;omega
  simp only [e,D7j,g2,D7g];rw [C7 (n:=2*k) (by omega) (by omega),C7 (n:=(b:Int)+2) (by omega) (by omega),C7 (by omega) (by omega)]
def plainB (l:List B2):List A3:=l.map fun x=>⟨x.T,x.Bc⟩
theorem A2S (l:List B2):(plainB l).length=l.length:=by simp [plainB]
theorem D0F {l:List B2} {i:Nat} (h:i<l.length):el (plainB l) i=⟨(el l i).T,(el l i).Bc⟩:=by
 rw [A0U (by rw [A2S];exact h),A0U h]
 simp [plainB]
theorem C0i (l:List B2) (hl:l.length<=1048576):A5p l=some (plainB l):=by
 unfold A5p B3p;have H:=A4F (f:=fun s:List A3×Int=>A3Y l s.1 s.2) (fun i=>(plainB (l.take i),(i:Int))) 0 l.length (Nat.zero_le _) (fun _=>False) [] (some (plainB l))
  (fun i _ hi _=>by
   refine ⟨fun h=>h.elim,fun _=> ?_⟩;simp only [];unfold A3Y;have hm:l.length<=maxLen:=by rw [K0];omega
   rw [D7l (by omega:(i:Int)<(l.length:Int)),D7k,L1 hi,D7g,Z3 hi hm]
   have e1:plainB (l.take (i+1))=plainB (l.take i)++ [⟨(el l i).T,(el l i).Bc⟩]:=by
    rw [List.take_add_one,A5S hi];simp [plainB]
   have e2:(plainB (l.take i)).length=i:=by rw [A2S,D7I];omega
   rw [e1,e2,D7l (by simp only [D7z,D7M];omega),A0l])
  (fun _=>by
   simp only [];unfold A3Y;rw [D7n (D7J _),D7j,List.take_length])
 exact H.2 (fun _ _ _ h=>h)
def alS (b:Int):Nat->Int
 |0=>0
 |i+1=>if (2:Int)^i>b+1 then 2*alS b i+((2:Int)^i-1+b-1)/b else alS b i
theorem D3i {b:Int} (hb:1<=b): ∀i:Nat,0<=alS b i/\alS b i<=i*2^i:=by
 intro i
 induction i with
 |zero=>exact ⟨Int.le_refl _,Int.le_refl _⟩
 |succ i ih=>
  have hp:=A0J i;have e2:(2:Int)^(i+1)=2^i*2:=Int.pow_succ 2 i;have e3:((i+1:Nat):Int)*2^(i+1)=(i:Int)*2^i*2+2^i*2:=by
   rw [e2,Int.natCast_add,Int.add_mul,Int.mul_assoc];simp
  rw [e3];unfold alS;split
  ·have h1:((2:Int)^i-1+b-1)/b<=2^i:=by
    have:((2:Int)^i-1+b-1)/b<2^i+1:=by
     rw [Int.ediv_lt_iff_lt_mul (by omega),Int.add_mul,Int.one_mul]
     have:=Int.mul_le_mul_of_nonneg_left hb (show (0:Int)<=2^i by omega)
     omega
    omega
   have h2:0<=((2:Int)^i-1+b-1)/b:=Int.ediv_nonneg (by omega) (by omega)
   omega
  ·omega
theorem D39: ∀n:Fin 31,(2:Int)^n.1<=1073741824:=by decide
theorem C8P {i:Nat} (h:i<=30):(2:Int)^i<=1073741824:=D39 ⟨i,by omega⟩
theorem D4P {b:Int} (hb:1<=b) {i:Nat} (hi:i<=30):0<=alS b i/\alS b i<=32212254720:=by
 obtain ⟨h1,h2⟩:=D3i hb i;have hp:=C8P hi;have:=A7U (a:=(i:Int)) (A:=30) (b:=2^i) (B:=1073741824) (by omega) ⟨Int.le_of_lt (A0J i),hp⟩
 omega
theorem D3o {a b:Int} (ha:0<=a/\a<=4611686018427387904) (hb:1<=b/\b<=4611686018427387904):A91 a b=some ((a+b-1)/b,true):=by
 unfold A91;have e1:((b==0)||((a== -9223372036854775808)&&(b== -1)))=false:=by
  rw [D7w];simp only [D7r,D7o,D8a,Ne];omega
 rw [e1,D7j,D7l (by omega:b≠0),A0l,A0l,Int.tdiv_eq_ediv_of_nonneg ha.1,Int.tmod_eq_emod_of_nonneg ha.1]
 have hq:0<=a/b:=Int.ediv_nonneg ha.1 (by omega)
 have hq2:a/b<=a:=Int.ediv_le_self b ha.1;have hr:=Int.emod_nonneg a (show b≠0 by omega)
 have hr2:=Int.emod_lt_of_pos a (show 0<b by omega)
 have hd:=Int.mul_ediv_add_emod a b;rw [D7n (by omega: ¬a<0),D7n (by omega: ¬b<0)]
 by_cases h0:a%b=0
 ·have e2:(a%b !=0&&(false==false))=false:=by rw [h0];rfl
  rw [e2,D7j,C7 (by omega) (by omega)]
  have:(a+b-1)/b=a/b:=by
   have e3:a+b-1=(b-1)+b*(a/b):=by omega
   rw [e3,Int.add_mul_ediv_left _ _ (by omega),Int.ediv_eq_zero_of_lt (by omega) (by omega)];omega
  rw [this]
 ·have e2:(a%b !=0&&(false==false))=true:=by rw [D7o];exact ⟨bne_iff_ne.2 h0,rfl⟩
  rw [e2,D7k,C7 (n:=a/b) (by omega) (by omega),C7 (by omega) (by omega)]
  have:(a+b-1)/b=a/b+1:=by
   have e3:a+b-1=(a%b-1)+b*(a/b+1):=by rw [Int.mul_add];omega
   rw [e3,Int.add_mul_ediv_left _ _ (by omega),Int.ediv_eq_zero_of_lt (by omega) (by omega)];omega
  rw [this]
theorem C7W {L b:Int} (hL:0<=L/\L<=30) (hb:1<=b/\b<=65536):A5O L b=some (alS b (L.toNat+1)):=by
 have e:((((decide (L<(0:Int)))||(decide (L>(30:Int))))||(decide (b<(1:Int))))||(decide (b>(65536:Int))))=false:=by
  rw [D7w];simp only [D7r,D7i,Ne];omega
 unfold A5O;rw [e,D7j];unfold B1a;have H:=A4F (f:=fun s:Int×Int=>A2J L b s.1 s.2) (fun i=>(alS b i,(i:Int))) 0 (L.toNat+1) (Nat.zero_le _) (fun _=>False) 0 (some (alS b (L.toNat+1)))
  (fun i _ hi _=>by
   refine ⟨fun h=>h.elim,fun _=> ?_⟩;simp only [];unfold A2J;have hp:=C8P (show i<=30 by omega)
   have hp0:=A0J i;have ha:=D4P hb.1 (show i<=30 by omega)
   have es:A1 ((i:Int)+1)=((i+1:Nat):Int):=by rw [C7]<;>omega
   have ew:decide (0<=A4 (i:Int))=true:=D7l (by rw [B0d]<;>omega)
   rw [D7l (by omega:(i:Int)<=L),D7k,ew,A0l,C8r (by omega) (by omega),D7W,es,C7 (n:=b+1) (by omega) (by omega)]
   by_cases h:(2:Int)^i>b+1
   ·rw [D7l h,D7k,C7 (n:=(2:Int)^i-1) (by omega) (by omega),D3o (by omega) (by omega),D7g,C7 (n:=2*alS b i) (by omega) (by omega)]
    have h1:0<=((2:Int)^i-1+b-1)/b:=Int.ediv_nonneg (by omega) (by omega)
    have h2:((2:Int)^i-1+b-1)/b<=(2:Int)^i-1+b-1:=Int.ediv_le_self b (by omega)
    simp only [];rw [C7 (by omega) (by omega),alS,if_pos h]
   ·rw [D7n h,D7j,alS,if_neg h])
  (fun _=>by
   simp only [];unfold A2J;rw [D7n (by omega),D7j])
 exact H.2 (fun _ _ _ h=>h)
def B99 (b:Int) (x:B2):Prop:=okB x.Bh=true/\x.Bh.N=2^x.Bc.toNat/\(x.Bh.Ae.length:Int)<=b+1/\A1 (D1S x.Bh.Ae-1)<=alS b (x.Bc.toNat+1)/\
 -4096<=(el x.Bh.Ae 0).V/\(el x.Bh.Ae (x.Bh.Ae.length-1)).V<=4096/\(el x.Bh.Ae 0).V<=x.Bk/\x.Bk<=(el x.Bh.Ae (x.Bh.Ae.length-1)).V
def C0a (l:List B2) (k b:Int):Prop:=(1<=b/\b<=65536)/\B0Q (plainB l) k/\ ∀i,i<l.length->B99 b (el l i)
def A1V (l:List B2):Prop:=l.length<=1048576/\ ∀x∈l,x.Bh.Ae.length<=1000000000
theorem C8E {l:List B2} {k:Int} (h:B0Q (plainB l) k) {i:Nat} (hi:i<l.length):0<=(el l i).Bc/\(el l i).Bc<=30:=by
 have:=h.2.1 i (by rw [A2S];exact hi)
 unfold B2q at this;rw [D0F hi] at this;simp only [] at this;omega
theorem D0L {r:D4} (h:okB r=true) {n:Nat} (hn:r.N=2^n):0<r.Ae.length:=by
 have h1:=(A9u r).1 h;have:=A0J n;have h2:=h1.nil;omega
theorem B6I (l:List B2) (k b:Int) (hs:A1V l):A3t l k b=some (bOf (C0a l k b)):=by
 have hm:l.length<=maxLen:=by rw [K0];have:=hs.1;omega
 unfold A3t
 by_cases hb:1<=b/\b<=65536
 ·have e:(decide (b<1)||decide (b>65536))=false:=by simp;omega
  rw [e,C0i l hs.1];simp only [D7t,J1,D7g,D7H];rw [A7e _ _ (by rw [A2S];exact hm),D7g]
  by_cases h2:B0Q (plainB l) k
  ·rw [A1I h2,D7s,D7j];unfold B3o;have H:=Q6 (f:=fun s:Int=>A3X l b s) l.length (fun i=> ¬B99 b (el l i)) false (some true)
    (fun i hi _=>by
     unfold A3X;have hv:=C8E h2 hi;have hr:=hs.2 _ (A2P hi);rw [D7l (by omega:(i:Int)<(l.length:Int)),D7k,L1 hi,D7g,Z3 hi hm]
     generalize el l i=x at hv hr⊢
     have ew:decide (0<=A4 x.Bc)=true:=D7l (by rw [B0d]<;>omega)
     simp only [A0w x.Bh (by omega),D7g,ew,Bool.or_true,A0l,C8r hv.1 hv.2]
     have eb1:A1 (b+1)=b+1:=by rw [C7]<;>omega
     rw [eb1];cases hB:okB x.Bh with
     |false=>
      simp only [D7j,show ((2:Int) !=0)=true from rfl,D70,D7s,K8,D7g,D7k];exact ⟨fun _=>trivial,fun h=>absurd (fun h2:B99 b x=>by have:=h2.1;rw [hB] at this;cases this) h⟩
     |true=>
      simp only [D7k,show ((0:Int) !=0)=false from rfl,D7H]
      by_cases g1:x.Bh.N=2^x.Bc.toNat/\(x.Bh.Ae.length:Int)<=b+1
      ·have e1:((x.Bh.N !=2^x.Bc.toNat)||decide ((x.Bh.Ae.length:Int)>b+1))=false:=by
        rw [g1.1,D7T,D7H];exact D7n (by omega)
       rw [e1];have h0:=D0L hB g1.1;have hm2:x.Bh.Ae.length<=maxLen:=by rw [K0];omega
       simp only [D7t,J1,D2o x.Bh (by omega),D7g,hB,D7k,(C7W hv hb),D7H,A9n h0,B1D h0 (D7Y _) hm2,L1 (show x.Bh.Ae.length-1<x.Bh.Ae.length by omega)]
       rw [B5g];refine U4 ?_;unfold B99;simp only [hB,g1,true_and,D7r,D7i];omega
      ·have e1:((x.Bh.N !=2^x.Bc.toNat)||decide ((x.Bh.Ae.length:Int)>b+1))=true:=by
        rw [D7r,bne_iff_ne,D7i]
        by_cases q:x.Bh.N=2^x.Bc.toNat
        ·right;have: ¬(x.Bh.Ae.length:Int)<=b+1:=fun h=>g1 ⟨q,h⟩;omega
        ·exact .inl q
       rw [e1];simp only [D7s,K8,D7g,D70,D7k];exact ⟨fun _=>trivial,fun h=>absurd (fun h2=>g1 ⟨h2.2.1,h2.2.2.1⟩) h⟩)
    (fun _=>by
     unfold A3X;rw [D7n (D7J _),D7j])
   by_cases h3: ∀i,i<l.length->B99 b (el l i)
   ·rw [H.2 fun i hi hn=>hn (h3 i hi),A1I];exact ⟨hb,h2,h3⟩
   ·rw [H.1 (A53 h3),W5];exact fun h=>h3 h.2.2
  ·rw [W5 h2,W5 fun h=>h2 h.2.1];rfl
 ·have e:(decide (b<1)||decide (b>65536))=true:=by
   rw [D7B];simp;omega
  rw [e,W5 fun h=>hb h.1];rfl
theorem B6H (l:List B2) (hs:A1V l):A1Z l=some (A1 (X6 (plainB l))):=by
 have hm:(plainB l).length<=maxLen:=by rw [K0,A2S];have:=hs.1;omega
 unfold A1Z;rw [C0i l hs.1,D7g,B2i,A95 _ hm];rfl
def C4o (x:C2):Prop:=A8p x.W x.K x.Cap x.Now/\(∀b,A8A x.K x.Cap=some b->C0a x.Ak (2*x.K) b)/\A1 (X6 (plainB x.Ak))<=x.Cap/\ ∀i,i<x.Ak.length->I1 x.Now x.W (el x.Ak i).T=true
theorem A6E (w k c n:Int):A0v w k c n=true↔A8p w k c n:=by
 unfold A0v A8p;simp;omega
theorem A1D (x:C2) (hs:A1V x.Ak):U0 x=some (vOf (C4o x)):=by
 have hm:x.Ak.length<=maxLen:=by rw [K0];have:=hs.1;omega
 unfold U0;simp only []
 by_cases h1:A8p x.W x.K x.Cap x.Now
 ·obtain ⟨b,b1,b2,b3⟩:=B42 (k:=x.K) (c:=x.Cap) h1.2.2.2 h1.2.1;have hk:=h1.2.2.2;rw [(A6E _ _ _ _).2 h1,b1,C7 (n:=2*x.K) (by omega) (by omega)]
  simp only [D7s,D7t,J1,D7g,D7H,B6I _ _ _ hs,(B6H _ hs)]
  by_cases h2:C0a x.Ak (2*x.K) b
  ·rw [A1I h2];simp only [D7s,D7t,J1,D7g,D7H]
   by_cases h3:A1 (X6 (plainB x.Ak))<=x.Cap
   ·rw [D7n (by omega),D7j]
    unfold A8v;have H:=Q6 (f:=fun s:Int=>A1k x s) x.Ak.length (fun i=> ¬I1 x.Now x.W (el x.Ak i).T=true) 2 (some 0)
     (fun i hi _=>by
      unfold A1k;rw [D7l (by omega:(i:Int)<(x.Ak.length:Int)),D7k,L1 hi,D7g,Z3 hi hm]
      refine U4 ?_;simp [A5Y])
     (fun _=>by
      unfold A1k;rw [D7n (D7J _),D7j])
    by_cases h4: ∀i,i<x.Ak.length->I1 x.Now x.W (el x.Ak i).T=true
    ·rw [H.2 fun i hi hn=>hn (h4 i hi),V0];exact ⟨h1,fun b' hb' =>by rw [b2] at hb';cases hb';exact h2,h3,h4⟩
    ·rw [H.1 (A53 h4),I8];exact fun h=>h4 h.2.2.2
   ·rw [D7l (by omega),D7k,I8]
    exact fun h=>h3 h.2.2.1
  ·rw [W5 h2];simp only [D7s,D7t,K8,D7g,D70,D7k];rw [I8];exact fun h=>h2 (h.2.1 b b2)
 ·rw [D7w.2 fun h=>h1 ((A6E _ _ _ _).1 h),I8 fun h=>h1 h.1]
  rfl
theorem C4T (r:D4) (hl:r.Ae.length<=maxLen):B1T r r=some true:=by
 unfold B1T;simp only [D7T,Bool.or_false,D7j];unfold B6m;refine (Q6 (f:=fun s:Int=>A6e r r s) r.Ae.length (fun _=>False) false (some true) (fun i hi _=>⟨fun h=>h.elim,fun _=> ?_⟩) (fun _=> ?_)).2 fun _ _ h=>h
 ·unfold A6e;rw [D7l (by omega:(i:Int)<(r.Ae.length:Int)),D7k,L1 hi]
  simp [Z3 hi hl]
 ·unfold A6e;rw [D7n (D7J _),D7j]
theorem D3n (l:List B2) (hl:l.length<=maxLen) (he:∀x∈l,x.Bh.Ae.length<=maxLen):B1U l l=some true:=by
 unfold B1U;rw [D7T,D7j];unfold B6n;refine (Q6 (f:=fun s:Int=>A6f l l s) l.length (fun _=>False) false (some true) (fun i hi _=>⟨fun h=>h.elim,fun _=> ?_⟩) (fun _=> ?_)).2 fun _ _ h=>h
 ·unfold A6f;rw [D7l (by omega:(i:Int)<(l.length:Int)),D7k,L1 hi]
  simp [Z3 hi hl,C4T _ (he _ (A2P hi))]
 ·unfold A6f;rw [D7n (D7J _),D7j]
theorem C6p (x:C2) (hl:x.Ak.length<=maxLen) (he:∀b∈x.Ak,b.Bh.Ae.length<=maxLen):B1V x x=some true:=by
 unfold B1V;simp [D3n _ hl he]
end Go.Win
set_option maxHeartbeats 4000000
namespace Go.Win
open Go.Vc Go.Dec
def D1t (x:B7) (i:Nat):Bool:=match x.Be[i]? with
 |none=>false
 |some l=>(((((decide (l.V<(-4096:Int)))||(decide (l.V>(4096:Int))))||(decide (l.I<(1:Int))))||(decide (l.I>x.I)))||(decide (l.I<=(A1 (x.I-x.W)))))||
  (decide (0<i)&&match x.Be[i-1]? with
   |none=>false
   |some p=>decide (l.I<=p.I)||decide (l.I>A1 (p.I+x.W)))
def D4O (p0:B7):Option Int:=(Option.bind (gd (!(decide (p0.Bl<=p0.I))) (C1 p0.Be (A1 ((p0.Be.length:Int)-(1:Int))))) fun x17_14=>
 cond ((decide (p0.Bl<=p0.I))||(decide (p0.Bl>(A1 (x17_14.I+p0.W))))) (
  some (2:Int))<|
 some (0:Int))
theorem D6v (x:B7) (hl:x.Be.length<=maxLen):A6w x 0=cond ((List.range x.Be.length).any (D1t x)) (some 2) (D4O x):=by
 unfold A6w;refine A38 (fun i hi=> ?_) ?_
 ·have h1:x.Be[i]? =some x.Be[i]:=D7u hi;have hs:=S6 hi hl;unfold A5t D1t;simp only [Int.ofNat_lt,hi,decide_true,D7k,S4,h1,D7g,hs]
  by_cases h0:0<i
  ·have hp:=B9h h0 (Nat.le_trans (Nat.le_of_lt hi) hl);have h2:x.Be[i-1]? =some x.Be[i-1]:=D7u (by omega)
   have h3:((i:Int)>0):=by omega
   simp only [hp,S4,h2,h3,h0,decide_true,J1,D7g,D7R];cases decide (x.Be[i].I<=x.Be[i-1].I)<;>cases (((((decide (x.Be[i].V<(-4096:Int)))||(decide (x.Be[i].V>(4096:Int))))||(decide (x.Be[i].I<(1:Int))))||(decide (x.Be[i].I>x.I)))||(decide (x.Be[i].I<=(A1 (x.I-x.W)))))<;>simp
  ·have h3: ¬((i:Int)>0):=by omega
   simp only [h3,h0,decide_false,K8,D7g,D7L,D7j,Bool.or_false]
 ·unfold A5t;simp only [D7J,decide_false,D7j]
  rfl
theorem C6m (x:B7) (hl:x.Be.length<=maxLen):B1Q x x=some true:=by
 unfold B1Q;have h:B0U x x 0=cond ((List.range x.Be.length).any fun _=>false) (some false) (some true):=by
  unfold B0U;refine A38 (fun i hi=> ?_) ?_
  ·unfold A9z;simp [hi,S6 hi hl]
  ·unfold A9z;simp
 have hf:((List.range x.Be.length).any fun _=>false)=false:=by simp
 rw [hf] at h;simp [h]
theorem A9K (x:B7) (hl:x.Be.length<=maxLen): ∃r,S0 x=some r/\(r=0->0<=x.I/\x.I<=1099511627776/\1<=x.W/\x.W<=1048576/\1<=x.Cap/\x.Cap<=64/\(x.Be.length:Int)<=x.Cap/\(x.Be= []->x.I=0)/\(x.I=0->x.Bl=0)):=by
 unfold S0;simp only [D6v x hl]
 by_cases h:(((((((decide (x.W<(1:Int)))||(decide (x.W>(1048576:Int))))||(decide (x.Cap<(1:Int))))||(decide (x.Cap>(64:Int))))||(decide (x.I<(0:Int))))||(decide (x.I>(1099511627776:Int))))||(decide ((x.Be.length:Int)>x.Cap)))=true
 ·rw [h];exact ⟨2,rfl,fun h=>by simp at h⟩
 ·rw [Bool.not_eq_true] at h;rw [h];simp only [D7Q,D7x] at h
  by_cases h0:x.I=0
  ·simp only [h0,beq_self_eq_true,D7k,D7j];cases hc:(decide ((x.Be.length:Int)>(0:Int))||(x.Bl !=(0:Int)))
   ·simp only [D7Q,bne_eq_false_iff_eq] at hc;exact ⟨0,rfl,fun _=>⟨by omega,by omega,by omega,by omega,by omega,by omega,by omega,fun _=>trivial,fun _=>hc.2⟩⟩
   ·exact ⟨2,rfl,fun h=>by simp at h⟩
  ·have h0' :(x.I==0)=false:=by rw [D76];exact h0
   simp only [h0',D7j]
   by_cases h1:x.Be= []
   ·rw [h1];exact ⟨2,rfl,fun h=>by simp at h⟩
   ·have h2:((x.Be.length:Int)==0)=false:=by
     have:=List.length_pos_iff.2 h1;rw [D76];omega
    simp only [h2,D7j];have all: ∀r:Int,(r=0->0<=x.I/\x.I<=1099511627776/\1<=x.W/\x.W<=1048576/\1<=x.Cap/\x.Cap<=64/\(x.Be.length:Int)<=x.Cap/\(x.Be= []->x.I=0)/\(x.I=0->x.Bl=0)):=fun _ _=>⟨by omega,by omega,by omega,by omega,by omega,by omega,by omega,fun h=>absurd h h1,fun h=>absurd h h0⟩
    cases (List.range x.Be.length).any (D1t x) with
    |true=>exact ⟨2,rfl,all _⟩
    |false=>
     simp only [D7j];unfold D4O;have hp:=List.length_pos_iff.2 h1;have hw:=B9h hp hl;simp only [hw,S4,M9 (show x.Be.length-1<x.Be.length by omega)]
     by_cases hN:x.Bl<=x.I
     ·simp only [hN,decide_true,D7s,K8,D7g,D70,D7k];exact ⟨2,rfl,all _⟩
     ·simp only [hN,decide_false,D7t,J1,D7g,D7H];cases decide (x.Bl>A1 ((x.Be[x.Be.length-1]'(by omega)).I+x.W))
      ·exact ⟨0,rfl,all _⟩
      ·exact ⟨2,rfl,all _⟩
end Go.Win
set_option maxHeartbeats 4000000
namespace Go.Win
open Go.Vc Go.Dec
theorem C9u (x:B7) (hl:x.Be.length<=maxLen): ∃a,B3x x=some a:=by
 obtain ⟨r,hr,hok⟩:=A9K x hl;unfold B3x;rw [hr];simp only [D7g]
 by_cases h0:r=0
 ·subst h0;simp only [D7T,D7j]
  by_cases h1:x.Be= []
  ·rw [h1];exact ⟨_,rfl⟩
  ·have hp:=List.length_pos_iff.2 h1;have h2:((x.Be.length:Int)==0)=false:=by rw [D76];omega
   have h3:C1 x.Be (0:Int)=some x.Be[0]:=by simp [C1,hp]
   simp only [h2,D7j,h3,D7g];exact ⟨_,rfl⟩
 ·have:(r !=0)=true:=by simp [h0]
  simp only [this,D7k];exact ⟨_,rfl⟩
theorem B7i (l:List Int) (hl:l.length<=maxLen):U1 l l=some true:=by
 have h:A1O l l 0=cond ((List.range l.length).any fun _=>false) (some false) (some true):=by
  unfold A1O;refine A38 (fun i hi=> ?_) ?_
  ·unfold V3;simp [hi,S6 hi hl]
  ·unfold V3;simp
 have hf:((List.range l.length).any fun _=>false)=false:=by simp
 rw [hf] at h;unfold U1;simp [h]
theorem C6n (x:E9) (hl:x.Am.length<=maxLen) (hc:∀c∈x.Am,c.Be.length<=maxLen):B1R x x=some true:=by
 have h:B0V x x 0=cond ((List.range x.Am.length).any fun _=>false) (some false) (some true):=by
  unfold B0V;refine A38 (fun i hi=> ?_) ?_
  ·unfold A9A;have:=C6m x.Am[i] (hc _ (D75 hi));simp [hi,S6 hi hl,this]
  ·unfold A9A;simp
 have hf:((List.range x.Am.length).any fun _=>false)=false:=by simp
 rw [hf] at h;unfold B1R;simp [h]
theorem A7N (s:E9) (hl:s.Am.length<=maxLen) (hc:∀c∈s.Am,c.Be.length<=maxLen):
  ∃r,U9 s=some r/\(r=0->1<=s.Am.length/\s.Am.length<=16/\ ∀c∈s.Am,S0 c=some 0):=by
 unfold U9
 by_cases h:(decide ((s.Am.length:Int)<1)||decide ((s.Am.length:Int)>16))=true
 ·rw [h];exact ⟨2,rfl,fun h=>by simp at h⟩
 ·rw [Bool.not_eq_true] at h;rw [h,D7j];simp only [D7Q,D7x] at h;unfold A5J;obtain ⟨r,hr,hQ⟩:=R3 (f:=fun i:Int=>X2 s i) (fun i=> ∃k:Nat,i=(k:Int)/\k<=s.Am.length/\ ∀j (hj:j<s.Am.length),j<k->S0 s.Am[j]=some 0)
   (fun i=>s.Am.length-i.toNat) (fun r=>r=2\/(r=0/\ ∀c∈s.Am,S0 c=some 0)) 0 ⟨0,rfl,Nat.zero_le _,fun j _ hj=>by omega⟩ (by
    rintro _ ⟨k,rfl,hk,hv⟩;unfold X2
    by_cases hlt:k<s.Am.length
    ·obtain ⟨q,hq,_⟩:=A9K s.Am[k] (hc _ (D75 hlt));have h0:C1 s.Am (0:Int)=some (s.Am[0]'(by omega)):=by
      have:=M9 (show 0<s.Am.length by omega)
      simp [C1,this]
     simp only [Int.ofNat_lt,hlt,decide_true,D7k,S4,M9 hlt,D7g,h0,hq];cases hb:(((q !=0)||(s.Am[k].W !=(s.Am[0]'(by omega)).W))||(s.Am[k].Cap !=(s.Am[0]'(by omega)).Cap))||(s.Am[k].I !=(s.Am[0]'(by omega)).I) with
     |true=>exact .inr ⟨2,rfl, .inl rfl⟩
     |false=>
      simp only [D7Q,bne_eq_false_iff_eq] at hb;left;refine ⟨(k:Int)+1,by rw [S6 hlt hl];rfl,⟨k+1,by simp,hlt,fun j hj hjk=> ?_⟩,by omega⟩
      by_cases hjk2:j=k
      ·subst hjk2;rw [hq,hb.1.1.1]
      ·exact hv j hj (by omega)
    ·right;have: ¬((k:Int)<(s.Am.length:Int)):=by omega
     simp only [this,decide_false,D7j];refine ⟨0,rfl, .inr ⟨rfl,fun c hcm=> ?_⟩⟩;obtain ⟨j,hj,rfl⟩:=List.mem_iff_getElem.1 hcm;exact hv j hj (by omega))
  refine ⟨r,hr,fun h0=>⟨by omega,by omega, ?_⟩⟩
  rcases hQ with hQ|hQ
  ·omega
  ·exact hQ.2
theorem C5J (s:E9) (hl:s.Am.length<=maxLen) (hc:∀c∈s.Am,c.Be.length<=maxLen): ∃r,B10 s=some r/\r.1.length<=16:=by
 obtain ⟨q,hq,hok⟩:=A7N s hl hc;unfold B10;rw [hq,D7g]
 by_cases h0:q=0
 ·obtain ⟨h1,h2,h3⟩:=hok h0;subst h0;simp only [D7T,D7j];unfold B6r;exact R3 (f:=fun t:List Int×Int=>A9D s t.1 t.2) (fun t=> ∃k:Nat,t.2=(k:Int)/\t.1.length=k/\k<=s.Am.length)
   (fun t=>s.Am.length-t.1.length) (fun r=>r.1.length<=16) ([],0) ⟨0,rfl,rfl,Nat.zero_le _⟩ (by
    rintro ⟨l,_⟩ ⟨k,rfl,hkl,hk⟩;simp only at hkl⊢;unfold A9D
    by_cases hlt:k<s.Am.length
    ·obtain ⟨a,ha⟩:=C9u s.Am[k] (hc _ (D75 hlt));simp only [Int.ofNat_lt,hlt,decide_true,D7k,S4,M9 hlt,D7g,ha]
     by_cases he:a.2=0
     ·left;have hk2:decide ((l.length+ [a.1].length)*8<=140737488355328)=true:=by rw [D7i,D7V];omega
      refine ⟨(l++ [a.1],(k:Int)+1), ?_,⟨k+1,by simp,by simp [hkl],hlt⟩,by simp;omega⟩
      simp only [he,D7T,D7j,hk2,A0l,S6 hlt hl]
     ·right;have hb:(a.2 !=0)=true:=by rw [bne_iff_ne];exact he
      simp only [hb,D7k];exact ⟨_,rfl,by simp⟩
    ·right;have: ¬((k:Int)<(s.Am.length:Int)):=by omega
     simp only [this,decide_false,D7j];exact ⟨_,rfl,by show l.length<=16;omega⟩)
 ·have hb:(q !=0)=true:=by rw [bne_iff_ne];exact h0
  simp only [hb,D7k];exact ⟨_,rfl,by simp⟩
theorem D6y (n w c:Int) (h1:1<=n) (h2:n<=16):B0X n w c 0 []=some (if (W6 w c).2=0 then (⟨List.replicate n.toNat (W6 w c).1⟩,0) else (⟨[]⟩,(W6 w c).2)):=by
 unfold B0X
 by_cases he:(W6 w c).2=0
 ·rw [if_pos he];obtain ⟨r,hr,hQ⟩:=R3 (f:=fun t:Int×List B7=>A6i n w c t.1 t.2) (fun t=> ∃k:Nat,t=((k:Int),List.replicate k (W6 w c).1)/\(k:Int)<=n)
   (fun t=>(n-t.1).toNat) (fun r=>r=(⟨List.replicate n.toNat (W6 w c).1⟩,0)) (0, []) ⟨0,rfl,by omega⟩ (by
    rintro _ ⟨k,rfl,hk⟩;simp only;unfold A6i
    by_cases hlt:(k:Int)<n
    ·left;have hk2:decide (((List.replicate k (W6 w c).1).length+ [(W6 w c).1].length)*56<=140737488355328)=true:=by
      rw [D7i,D7V,D8h];omega
     have hs:A1 ((k:Int)+1)=(k:Int)+1:=by rw [C7]<;>omega
     refine ⟨((k:Int)+1,List.replicate (k+1) (W6 w c).1), ?_,⟨k+1,by simp,by omega⟩,by show (n-((k:Int)+1)).toNat<(n-(k:Int)).toNat;omega⟩
     simp only [hlt,decide_true,D7k,he,D7T,D7j];rw [hk2,A0l,hs,List.replicate_succ']
    ·right;have:n.toNat=k:=by omega
     simp only [hlt,decide_false,D7j];exact ⟨_,rfl,by rw [this]⟩)
  rw [hr,hQ]
 ·rw [if_neg he];have hb:((W6 w c).2 !=0)=true:=by rw [bne_iff_ne];exact he
  refine K4 ?_;unfold A6i;have:(0:Int)<n:=by omega
  simp only [this,decide_true,D7k,hb]
instance {x:B7} {v:Int} {l:List G4} {tk:Bool} {s:K7}:TS (A3y x v l tk s) (l.length<=64) (fun r=>r.1.Be.length<=65):=⟨fun _=>by unfold A3y;exact yT⟩
set_option maxHeartbeats 2000000 in
theorem D3f (x:B7) (v:Int) (draws:List Int) (at_:Int) (hl:x.Be.length<=maxLen) (hd:draws.length<=maxLen):T (B3w x v draws at_) fun r=>r.1.Be.length<=65:=by
 obtain ⟨q,hq,hok⟩:=A9K x hl;unfold B3w;rw [hq]
 by_cases h:q=0
 ·obtain ⟨h1,h2,h3,h4,h5,h6,h7,_,h8⟩:=hok h;unfold B6P;exact yT
 ·clear hok;exact yT
theorem C5D (s:E9) (v:Int) (draws:List Int) (hl:s.Am.length<=maxLen) (hc:∀c∈s.Am,c.Be.length<=maxLen) (hd:draws.length<=maxLen):
  ∃r,B1Z s v draws=some r/\r.1.Am.length<=16/\ ∀c∈r.1.Am,c.Be.length<=65:=by
 obtain ⟨q,hq,hok⟩:=A7N s hl hc;unfold B1Z;rw [hq,D7g]
 by_cases h0:q=0
 ·obtain ⟨h1,h2,h3⟩:=hok h0;subst h0;simp only [D7T,D7j];unfold B6q;exact R3 (f:=fun t:Int×Int×List B7=>A9C s v draws t.1 t.2.1 t.2.2) (fun t=> ∃k:Nat,t.2.1=(k:Int)/\t.2.2.length=k/\k<=s.Am.length/\ ∀c∈t.2.2,c.Be.length<=65)
   (fun t=>s.Am.length-t.2.2.length) (fun r=>r.1.Am.length<=16/\ ∀c∈r.1.Am,c.Be.length<=65) (0,0, []) ⟨0,rfl,rfl,Nat.zero_le _,by simp⟩ (by
    rintro ⟨a,_,l⟩ ⟨k,rfl,hkl,hk,hm⟩;simp only at hkl hm⊢;unfold A9C
    by_cases hlt:k<s.Am.length
    ·obtain ⟨r,hr,hr2⟩:=D3f s.Am[k] v draws a (hc _ (D75 hlt)) hd;simp only [Int.ofNat_lt,hlt,decide_true,D7k,S4,M9 hlt,D7g,hr]
     by_cases he:r.2.2=0
     ·left;have hk2:decide ((l.length+ [r.1].length)*56<=140737488355328)=true:=by rw [D7i,D7V];omega
      refine ⟨(r.2.1,(k:Int)+1,l++ [r.1]), ?_,⟨k+1,by simp,by simp [hkl],hlt,fun c hcm=> ?_⟩,by simp;omega⟩
      ·simp only [he,D7T,D7j,hk2,A0l,S6 hlt hl]
      ·rcases D72.1 hcm with h|h
       ·exact hm c h
       ·have:c=r.1:=by simpa using h
        rw [this];exact hr2
     ·right;have hb:(r.2.2 !=0)=true:=by rw [bne_iff_ne];exact he
      simp only [hb,D7k];exact ⟨_,rfl,by simp,by simp⟩
    ·right;have: ¬((k:Int)<(s.Am.length:Int)):=by omega
     simp only [this,decide_false,D7j];cases decide (a<(draws.length:Int)) with
     |true=>exact ⟨_,rfl,by simp,by simp⟩
     |false=>exact ⟨_,rfl,by show l.length<=16;omega,hm⟩)
 ·have hb:(q !=0)=true:=by rw [bne_iff_ne];exact h0
  rw [hb];exact ⟨_,rfl,by simp,by simp⟩
end Go.Win
set_option maxHeartbeats 4000000
namespace Go.Win
open Go.Vc Go.Dec
theorem H8 {α:Type} {l:List α} (h:l.length<=1048576):l.length<=maxLen:=by rw [K0];omega
theorem D2P {l:List A2} (h:∀y∈l,A08 y): ∀w∈l,I2 w:=fun w hw=>⟨(C0G (h w hw).1).1,(C0G (h w hw).1).2,(C0G (h w hw).2).1,(C0G (h w hw).2).2⟩
theorem D4x (p:Prop):(vOf p==0)=bOf p:=by
 by_cases h:p
 ·rw [V0 h,A1I h];rfl
 ·rw [I8 h,W5 h];rfl
theorem C6k (x:F6) (hl:x.Bn.length<=maxLen):B1O x x=some true:=by
 unfold B1O;simp [B7i _ hl]
def C5z (x:D0):Prop:=x.W=0/\x.Cap=0/\x.Now=0/\x.Bb.length=0
def C7I (x:E4):Prop:=x.W=0/\x.K=0/\x.Cap=0/\x.Now=0/\x.Ad.length=0
def D3d (x:F4):Prop:=x.W=0/\x.K=0/\x.Cap=0/\x.Bs=0/\x.Now=0/\x.Ad.length=0
def C5B (x:D3):Prop:=x.Bo=0/\x.W=0/\x.K=0/\x.Cap=0/\x.Now=0/\x.Bv=0/\x.Bf.length=0
def C5C (x:D5):Prop:=x.W=0/\x.K=0/\x.Cap=0/\x.Now=0/\x.Bv=0/\x.Bf.length=0
def D1j (x:E3):Prop:=x.P=0/\x.Bj=0/\x.Now=0/\x.Ag.length=0
def C7J (x:F6):Prop:=x.Now=0/\x.Bn.length=0
def C2I (x:C4):Prop:=x.Bs=false/\x.W=0/\x.Cap=0/\x.Now=0/\x.Bb.length=0
def C5A (x:E9):Prop:=x.Am.length=0
def C2J (x:B8):Prop:=x.K=0/\x.Cap=0/\x.N=0/\x.Av.length=0
def C0T (x:C2):Prop:=x.W=0/\x.K=0/\x.Cap=0/\x.Now=0/\x.Ak.length=0
def B4V (s:A8):Prop:=(s.Ao.Bi≠1->C5z s.Aq)/\(s.Ao.Bi≠2->C7I s.Ay)/\(s.Ao.Bi≠3->D3d s.Sum)/\(s.Ao.Bi≠4->C5B s.As)/\(s.Ao.Bi≠5->C5C s.Au)/\(s.Ao.Bi≠6->D1j s.Bm)/\(s.Ao.Bi≠7->C7J s.Ba)/\(s.Ao.Bi≠8->C2I s.Af)/\(s.Ao.Bi≠9->C5A s.Ar)/\(s.Ao.Bi≠10->C2J s.Ai)/\(s.Ao.Bi≠11->C0T s.Ab)
def A2o (s:A8):Prop:=s.Aq.Bb.length<=1048576/\s.Ay.Ad.length<=1048576/\s.Sum.Ad.length<=1048576/\s.As.Bf.length<=1048576/\s.Au.Bf.length<=1048576/\(s.Bm.Ag.length<=1048576/\ ∀w∈s.Bm.Ag,I2 w)/\s.Ba.Bn.length<=1048576/\s.Af.Bb.length<=1048576/\
 (s.Ar.Am.length<=1048576/\ ∀c∈s.Ar.Am,c.Be.length<=1048576)/\s.Ai.Av.length<=1048576/\A1V s.Ab.Ak
theorem C05 {s:A8} (w:R6 s):A2o s:=by
 obtain ⟨_,w1,w2,w3,w4,w5,w6,w7,w8,w9,w10,w11⟩:=w;exact ⟨w1.2.2.2.1,w2.2.2.2.2.1,w3.2.2.2.2.2.1,w4.2.2.2.2.2.2.1,w5.2.2.2.2.2.1,⟨w6.2.2.2.1,D2P w6.2.2.2.2⟩,w7.2.1,w8.2.2.2.2.1,⟨w9.1,fun c hc=>(w9.2 c hc).2.2.2.2.1⟩,w10.2.2.2.1,⟨w11.2.2.2.2.1,fun b hb=>Nat.le_trans (w11.2.2.2.2.2 b hb).2.2.2.2.1 (by decide)⟩⟩
theorem D0E (s:A8):A5i s=bOf (B4V s):=by
 unfold A5i;rw [D7B,A1b];unfold B4V;unfold C5z;unfold C7I;unfold D3d;unfold C5B;unfold C5C;unfold D1j;unfold C7J;unfold C2I;unfold C5A;unfold C2J;unfold C0T;simp only [D1I,D7o,D7r,bne_iff_ne,D8a,D7i,ne_eq];have fin: ∀ {c:Prop} [Decidable c] {b:Bool},((if c then false else b)=true)↔(¬c/\b=true):=by
  intro c _ b
  by_cases h:c
  ·rw [if_pos h];exact ⟨fun h2=>(by cases h2),fun h2=>absurd h h2.1⟩
  ·rw [if_neg h];exact ⟨fun h2=>⟨h,h2⟩,fun h2=>h2.2⟩
 simp only [fin,D7r,D7o,D8a];cases s.Af.Bs
 ·simp only [Bool.false_eq_true,false_or,true_and]
  repeat' apply and_congr
  all_goals first|omega|(simp;done)|(simp;omega)
 ·simp only [true_or,Bool.true_eq_false,false_and]
  repeat' apply and_congr
  all_goals first|omega|(simp;done)|(simp;omega)
def B7k (x:E9):Prop:=U9 x=some 0
theorem C87 (x:E9) (hl:x.Am.length<=maxLen) (hc:∀c∈x.Am,c.Be.length<=maxLen): ∃r,U9 x=some r/\(r==0)=bOf (B7k x)/\(r=0->0<x.Am.length):=by
 obtain ⟨r,h1,h2⟩:=A7N x hl hc;refine ⟨r,h1, ?_,fun h=>by have:=(h2 h).1;omega⟩
 rw [D7B,A1b,D8a];unfold B7k;rw [h1];simp
theorem C8V (x:D0) (hl:x.Bb.length<=maxLen):X0 x=some (vOf (okV x=true)):=by
 rw [A8X,A6o x hl]
 by_cases h:okV x=true
 ·rw [if_pos h,V0 h]
 ·rw [if_neg h,I8 h]
def B7F (s:A8):Prop:=
 (s.Ao.Bi=1/\okV s.Aq=true/\s.Aq.W=s.Ao.W/\s.Aq.Cap=s.Ao.Cap)\/
 (s.Ao.Bi=2/\B2Q s.Ay.Ad s.Ay.W s.Ay.K s.Ay.Cap s.Ay.Now/\s.Ay.W=s.Ao.W/\s.Ay.K=s.Ao.K/\s.Ay.Cap=s.Ao.Cap)\/
 (s.Ao.Bi=3/\C3e s.Sum/\s.Sum.W=s.Ao.W/\s.Sum.K=s.Ao.K/\s.Sum.Cap=s.Ao.Cap/\s.Sum.Bs=s.Ao.Bs)\/
 (s.Ao.Bi=4/\C09 s.As/\s.As.W=s.Ao.W/\s.As.K=s.Ao.K/\s.As.Cap=s.Ao.Cap/\s.As.Bo=s.Ao.Bo)\/
 (s.Ao.Bi=5/\C8F s.Au/\s.Au.W=s.Ao.W/\s.Au.K=s.Ao.K/\s.Au.Cap=s.Ao.Cap)\/
 (s.Ao.Bi=6/\D2d s.Bm/\s.Bm.P=s.Ao.P)\/
 (s.Ao.Bi=7/\C4n s.Ba/\(s.Ba.Bn.length:Int)=s.Ao.W)\/
 (s.Ao.Bi=8/\D2c s.Af/\s.Af.W=s.Ao.W/\s.Af.Cap=s.Ao.Cap/\s.Af.Bs=(s.Ao.Bs==1))\/
 (s.Ao.Bi=9/\B7k s.Ar/\(s.Ar.Am.length:Int)=s.Ao.Am/\(el s.Ar.Am 0).W=s.Ao.W/\(el s.Ar.Am 0).Cap=s.Ao.Cap)\/
 (s.Ao.Bi=10/\C1a s.Ai/\s.Ai.K=s.Ao.K/\s.Ai.Cap=s.Ao.Cap)\/
 (s.Ao.Bi=11/\C4o s.Ab/\s.Ab.W=s.Ao.W/\s.Ab.K=s.Ao.K/\s.Ab.Cap=s.Ao.Cap)
theorem C81 (s:A8) (w:A2o s) (hk:1<=s.Ao.Bi/\s.Ao.Bi<=11):A6n s=some (bOf (B7F s)):=by
 obtain ⟨w1,w2,w3,w4,w5,w6,w7,w8,w9,w10,w11⟩:=w;obtain ⟨r9,e9,b9,p9⟩:=C87 s.Ar (H8 w9.1) (fun c hc=>H8 (w9.2 c hc));unfold B7F A6n;rw [C8V s.Aq (H8 w1),A5R s.Ay (H8 w2),A8N s.Sum (H8 w3),A5g s.As (H8 w4),A5h s.Au (H8 w5),A7o s.Bm w6.2,A5X s.Ba (H8 w7),A35 s.Af (H8 w8),e9,A4h s.Ai,A1D s.Ab w11];have:s.Ao.Bi=1\/s.Ao.Bi=2\/s.Ao.Bi=3\/s.Ao.Bi=4\/s.Ao.Bi=5\/s.Ao.Bi=6\/s.Ao.Bi=7\/s.Ao.Bi=8\/s.Ao.Bi=9\/s.Ao.Bi=10\/s.Ao.Bi=11:=by omega
 rcases this with h|h|h|h|h|h|h|h|h|h|h
 all_goals rw [h]
 case inr.inr.inr.inr.inr.inr.inr.inr.inl=>
  simp only [Int.reduceBEq,beq_self_eq_true,D7k,D7j,D7g,b9,Int.reduceEq,false_and,false_or,or_false,true_and]
  by_cases q1:B7k s.Ar/\(s.Ar.Am.length:Int)=s.Ao.Am
  ·have h0:0<s.Ar.Am.length:=p9 (by have:=A1I q1.1;rw [<-b9,D8a] at this;exact this)
   have g:(bOf (B7k s.Ar)&&((s.Ar.Am.length:Int)==s.Ao.Am))=true:=by
    rw [D7o,A1b,D8a];exact q1
   rw [g,A9n h0];simp only [J1,D7g,D7R];have fin:some (((el s.Ar.Am 0).W==s.Ao.W)&&((el s.Ar.Am 0).Cap==s.Ao.Cap))=some (bOf (B7k s.Ar/\(s.Ar.Am.length:Int)=s.Ao.Am/\(el s.Ar.Am 0).W=s.Ao.W/\(el s.Ar.Am 0).Cap=s.Ao.Cap)):=by
    congr 1
    rw [D7B,A1b,D7o,D8a,D8a];exact ⟨fun h=>⟨q1.1,q1.2,h.1,h.2⟩,fun h=>⟨h.2.2.1,h.2.2.2⟩⟩
   rw [<-fin];cases ((el s.Ar.Am 0).W==s.Ao.W)<;>rfl
  ·have g:(bOf (B7k s.Ar)&&((s.Ar.Am.length:Int)==s.Ao.Am))=false:=by
    rw [D7w,Ne,D7o,A1b,D8a];exact q1
   rw [g];simp only [K8,D7g,D7L];rw [W5 fun h=>q1 ⟨h.1,h.2.1⟩]
 all_goals
  simp only [Int.reduceBEq,beq_self_eq_true,D7k,D7j,D7g,D4x,Int.reduceEq,false_and,false_or,or_false,true_and]
  try (congr 1<;>rw [D7B,A1b]<;>simp only [D7o,A1b,D8a]<;>grind)
def A8n (s:A8):Prop:=A7F s.Ao/\B7F s/\B4V s
theorem V7 (s:A8) (w:A2o s):J5 s=some (vOf (A8n s)):=by
 unfold J5;simp only [];rw [A44,D0E]
 by_cases h1:A7F s.Ao
 ·rw [C3j h1,C81 s w h1.1]
  by_cases h2:B7F s
  ·rw [A1I h2]
   by_cases h3:B4V s
   ·rw [A1I h3,V0 ⟨h1,h2,h3⟩];rfl
   ·rw [W5 h3,I8 fun h=>h3 h.2.2];rfl
  ·rw [W5 h2,I8 fun h=>h2 h.2.1];rfl
 ·rw [C3i h1,I8 fun h=>h1 h.1];rfl
theorem B8u (s:A8) (w:R6 s):J5 s=some (vOf (A8n s)):=V7 s (C05 w)
end Go.Win
set_option maxHeartbeats 4000000
namespace Go.Win
open Go.Vc Go.Dec
def A21:A8:=⟨⟨0,0,0,0,0,0,0,0⟩,⟨0,0,0, []⟩,⟨0,0,0,0, []⟩,⟨0,0,0,0,0, []⟩,⟨0,0,0,0,0,0, []⟩,⟨0,0,0,0,0, []⟩,⟨0,0,0, []⟩,⟨0, []⟩,⟨false,0,0,0, []⟩,⟨[]⟩,⟨0,0,0, []⟩,⟨0,0,0,0, []⟩⟩
def B7h (c:E2) (now:Int):A8:=⟨c,if c.Bi=1 then ⟨c.W,c.Cap,now, []⟩ else ⟨0,0,0, []⟩,
 if c.Bi=2 then ⟨c.W,c.K,c.Cap,now, []⟩ else ⟨0,0,0,0, []⟩,
 if c.Bi=3 then ⟨c.W,c.K,c.Cap,c.Bs,now, []⟩ else ⟨0,0,0,0,0, []⟩,
 if c.Bi=4 then ⟨c.Bo,c.W,c.K,c.Cap,now,0, []⟩ else ⟨0,0,0,0,0,0, []⟩,
 if c.Bi=5 then ⟨c.W,c.K,c.Cap,now,0, []⟩ else ⟨0,0,0,0,0, []⟩,
 if c.Bi=6 then ⟨c.P,now,now,List.replicate (c.P+1).toNat ⟨0,0⟩⟩ else ⟨0,0,0, []⟩,
 if c.Bi=7 then ⟨now,List.replicate c.W.toNat 0⟩ else ⟨0, []⟩,
 if c.Bi=8 then ⟨c.Bs==1,c.W,c.Cap,now, []⟩ else ⟨false,0,0,0, []⟩,
 if c.Bi=9 then ⟨List.replicate c.Am.toNat ⟨c.W,c.Cap,0,0, []⟩⟩ else ⟨[]⟩,
 if c.Bi=10 then ⟨c.K,c.Cap,0, []⟩ else ⟨0,0,0, []⟩,
 if c.Bi=11 then ⟨c.W,c.K,c.Cap,now, []⟩ else ⟨0,0,0,0, []⟩⟩
theorem C8z {w c n:Int} (h1:1<=w/\w<=1048576) (h2:1<=c/\c<=65536) (h3:0<=n/\n<=16777216):B1H w c n=(⟨w,c,n, []⟩,0):=by
 unfold B1H;simp only [C68,(B4T w c n).2 ⟨h1,h2,h3⟩];rfl
theorem D0e {w k c n:Int} (h:A8p w k c n):B3B w k c n=(⟨w,k,c,n, []⟩,0):=by
 unfold B3B;simp only [(A9l w k c n).2 h];rfl
theorem D3R {w k c m n:Int} (h:A8p w k c n) (hm:1<=m/\m<=1024):B8c w k c m n=(⟨w,k,c,m,n, []⟩,0):=by
 unfold B8c;simp only [(B25 w k c m n).2 ⟨h,hm⟩];rfl
theorem C8B {a w k c n:Int} (h:A8p w k c n) (ha:1<=a/\a<=4):B14 a w k c n=(⟨a,w,k,c,n,0, []⟩,0):=by
 unfold B14;have e1:A0Q a w k c n=true:=by
  unfold A0Q;simp only [(B4P _ _ _ _).2 h,Bool.and_true,D7o,D7i];exact ha
 simp only [e1];rfl
theorem C8C {w k c n:Int} (h:A8p w k c n):B18 w k c n=(⟨w,k,c,n,0, []⟩,0):=by
 unfold B18;simp only [(B4P w k c n).2 h];rfl
theorem D2b {p n:Int} (hp:0<=p/\p<=4) (hn:0<=n/\n<=16777216):B9g p n=some (⟨p,n,n,List.replicate (p+1).toNat ⟨0,0⟩⟩,0):=by
 show C2t p n=_;unfold C2t;have e:(((decide (p<(0:Int)))||(decide (p>(4:Int))))||(!(I7 n)))=false:=by
  rw [(B0G n).2 hn];simp;omega
 simp only [e,D7j,C7 (n:=p+1) (by omega) (by omega)]
 rw [D7l (by omega),A0l]
theorem D0g {w n:Int} (hw:1<=w/\w<=64) (hn:0<=n/\n<=16777216):B3M w n=some (⟨n,List.replicate w.toNat 0⟩,0):=by
 unfold B3M;have e1:((((decide (w<(1:Int)))||(decide (w>(64:Int))))||(decide (n<(0:Int))))||(decide (n>(16777216:Int))))=false:=by simp;omega
 simp only [e1,D7j];rw [D7l (by omega),A0l]
theorem C5T {m:Bool} {w c n:Int} (h1:1<=w/\w<=1048576) (h2:1<=c/\c<=65536) (h3:0<=n/\n<=16777216):A9Y m w c n=(⟨m,w,c,n, []⟩,0):=by
 unfold A9Y;simp only [C4i,(B4T w c n).2 ⟨h1,h2,h3⟩];rfl
theorem C8A {n w c:Int} (hn:1<=n/\n<=16) (hw:1<=w/\w<=1048576) (hc:1<=c/\c<=64):B11 n w c=some (⟨List.replicate n.toNat ⟨w,c,0,0, []⟩⟩,0):=by
 have e:(decide (n<(1:Int))||decide (n>(16:Int)))=false:=by simp;omega
 have e2:W6 w c=(⟨w,c,0,0, []⟩,0):=by
  unfold W6;have:((((decide (w<(1:Int)))||(decide (w>(1048576:Int))))||(decide (c<(1:Int))))||(decide (c>(64:Int))))=false:=by simp;omega
  rw [this,D7j]
 unfold B11;rw [e,D7j,D6y n w c hn.1 hn.2,e2];rfl
theorem C5U {k c:Int} (hk:1<=k/\k<=64) (hc:2<=c/\c<=65536):A98 k c=(⟨k,c,0, []⟩,0):=by
 unfold A98;have e1:((((decide (k<(1:Int)))||(decide (k>(64:Int))))||(decide (c<(2:Int))))||(decide (c>(65536:Int))))=false:=by simp;omega
 simp only [e1,D7j]
theorem C4m {w k c n:Int} (h:A8p w k c n):A8u w k c n=(⟨w,k,c,n, []⟩,0):=by
 unfold A8u;simp only [(A6E w k c n).2 h];rfl
theorem D0f {c:E2} {now:Int} (hc:A7F c) (hn:0<=now/\now<=16777216):A15 c now=some (B7h c now,0):=by
 unfold A15;have et:A2B now=true:=(B0G now).2 hn;simp only [A44,C3j hc,et,D7T,D7s,D7j];obtain ⟨k,agg,w,kk,cap,p,ch,mx⟩:=c;have hc' :=hc;unfold A7F at hc';simp only [] at hc';have:k=1\/k=2\/k=3\/k=4\/k=5\/k=6\/k=7\/k=8\/k=9\/k=10\/k=11:=by omega
 rcases this with h|h|h|h|h|h|h|h|h|h|h<;>subst h<;>simp only [Int.reduceBEq,beq_self_eq_true,D7k,D7j]
 ·rw [C8z (w:=w) (c:=cap) (n:=now) (by omega) (by omega) hn];rfl
 ·rw [D0e (w:=w) (k:=kk) (c:=cap) (n:=now) ⟨by omega,by omega,hn,by omega⟩];rfl
 ·rw [D3R (w:=w) (k:=kk) (c:=cap) (n:=now) (m:=mx) ⟨by omega,by omega,hn,by omega⟩ (by omega)];rfl
 ·rw [C8B (a:=agg) (w:=w) (k:=kk) (c:=cap) (n:=now) ⟨by omega,by omega,hn,by omega⟩ (by omega)];rfl
 ·rw [C8C (w:=w) (k:=kk) (c:=cap) (n:=now) ⟨by omega,by omega,hn,by omega⟩];rfl
 ·rw [D2b (p:=p) (n:=now) (by omega) hn];rfl
 ·rw [D0g (w:=w) (n:=now) (by omega) hn];rfl
 ·rw [C5T (m:=(mx==1)) (w:=w) (c:=cap) (n:=now) (by omega) (by omega) hn];rfl
 ·rw [C8A (n:=ch) (w:=w) (c:=cap) (by omega) (by omega) (by omega)];rfl
 ·rw [C5U (k:=kk) (c:=cap) (by omega) (by omega)];rfl
 ·rw [C4m (w:=w) (k:=kk) (c:=cap) (n:=now) ⟨by omega,by omega,hn,by omega⟩];rfl
theorem D3Q {c:E2} {now:Int} (h:¬(A7F c/\0<=now/\now<=16777216)):A15 c now=some (A21,1):=by
 unfold A15
 by_cases hc:A7F c
 ·have e2:A2B now=false:=D7w.2 fun h2=>h ⟨hc,(B0G now).1 h2⟩;simp only [A44,C3j hc,e2,D7T,D7t,D7j,D7k];rfl
 ·simp only [A44,C3i hc,show ((1:Int) !=0)=true from rfl,D7k];rfl
def lenS (s:A8):Prop:=s.Aq.Bb.length<=maxLen/\s.Ay.Ad.length<=maxLen/\s.Sum.Ad.length<=maxLen/\s.As.Bf.length<=maxLen/\s.Au.Bf.length<=maxLen/\s.Bm.Ag.length<=maxLen/\s.Ba.Bn.length<=maxLen/\s.Af.Bb.length<=maxLen/\
 (s.Ar.Am.length<=maxLen/\ ∀c∈s.Ar.Am,c.Be.length<=maxLen)/\s.Ai.Av.length<=maxLen/\(s.Ab.Ak.length<=maxLen/\ ∀b∈s.Ab.Ak,b.Bh.Ae.length<=maxLen)
theorem C6q (s:A8) (h:lenS s):A8C s s=some true:=by
 obtain ⟨h1,h2,h3,h4,h5,h6,h7,h8,h9,h10,h11⟩:=h;unfold A8C;rw [C85 _ h1,C6f _ h2,C6g _ h3,C6h _ h4,C6i _ h5,C6j _ h6,C6k _ h7,C6l _ h8,C6n _ h9.1 h9.2,C6o _ h10,C6p _ h11.1 h11.2];simp
theorem D11 {s:A8} (w:A2o s):lenS s:=by
 obtain ⟨w1,w2,w3,w4,w5,w6,w7,w8,w9,w10,w11⟩:=w;exact ⟨H8 w1,H8 w2,H8 w3,H8 w4,H8 w5,H8 w6.1,H8 w7,H8 w8,⟨H8 w9.1,fun c hc=>H8 (w9.2 c hc)⟩,H8 w10,⟨H8 w11.1,fun b hb=>by have:=w11.2 b hb;rw [K0];omega⟩⟩
theorem A84:A2o A21:=by
 refine ⟨?_, ?_, ?_, ?_, ?_,⟨?_,fun c h=>by cases h⟩, ?_, ?_,⟨?_,fun c h=>by cases h⟩, ?_, ?_,fun c h=>by cases h⟩<;>exact Nat.zero_le _
theorem C7l {c:E2} {now:Int} (hc:A7F c) (hn:0<=now/\now<=16777216):R6 (B7h c now):=by
 have i64: ∀ {n:Int},-9223372036854775808<=n/\n<=9223372036854775807->E1 .i64 n:=by
  intro n h;simp [E1,Lit.wf,IntKind.min,IntKind.max,IntKind.signed,IntKind.bits];omega
 have z:E1 .i64 0:=i64 (by omega)
 have hc' :=hc;unfold A7F at hc';have i1:E1 .i64 c.Bi:=i64 (by omega)
 have i2:E1 .i64 c.Bo:=i64 (by omega)
 have i3:E1 .i64 c.W:=i64 (by omega)
 have i4:E1 .i64 c.K:=i64 (by omega)
 have i5:E1 .i64 c.Cap:=i64 (by omega)
 have i6:E1 .i64 c.P:=i64 (by omega)
 have i7:E1 .i64 c.Am:=i64 (by omega)
 have i8:E1 .i64 c.Bs:=i64 (by omega)
 have i9:E1 .i64 now:=i64 (by omega)
 have nl: ∀ {α:Type} {wf:α->Prop},S9 wf ([]:List α):=⟨Nat.zero_le _,fun y h=>by cases h⟩
 have hz:E1 .u64 0:=by simp [E1,Lit.wf,IntKind.min,IntKind.max,IntKind.signed,IntKind.bits]
 have ite: ∀ {α:Type} {wf:α->Prop} {p:Prop} [Decidable p] {a b:α},wf a->wf b->wf (if p then a else b):=by
  intro α wf p _ a b ha hb;split<;>assumption
 refine ⟨⟨i1,i2,i3,i4,i5,i6,i7,i8⟩,ite (wf:=A6p) ?_ ?_,ite (wf:=A7u) ?_ ?_,ite (wf:=B0b) ?_ ?_,ite (wf:=A6r) ?_ ?_,ite (wf:=A6s) ?_ ?_, ?_, ?_,ite (wf:=A5l) ?_ ?_, ?_,ite (wf:=A5m) ?_ ?_,ite (wf:=A4l) ?_ ?_⟩
 ·exact ⟨i3,i5,i9,nl⟩
 ·exact ⟨z,z,z,nl⟩
 ·exact ⟨i3,i4,i5,i9,nl⟩
 ·exact ⟨z,z,z,z,nl⟩
 ·exact ⟨i3,i4,i5,i8,i9,nl⟩
 ·exact ⟨z,z,z,z,z,nl⟩
 ·exact ⟨i2,i3,i4,i5,i9,z,nl⟩
 ·exact ⟨z,z,z,z,z,z,nl⟩
 ·exact ⟨i3,i4,i5,i9,z,nl⟩
 ·exact ⟨z,z,z,z,z,nl⟩
 ·show A80 (if c.Bi=6 then _ else _)
  by_cases h:c.Bi=6
  ·rw [if_pos h];refine ⟨i6,i9,i9, ?_,fun y hy=> ?_⟩
   ·rw [D8h];omega
   ·rw [List.eq_of_mem_replicate hy];exact ⟨hz,hz⟩
  ·rw [if_neg h];exact ⟨z,z,z,nl⟩
 ·show A7v (if c.Bi=7 then _ else _)
  by_cases h:c.Bi=7
  ·rw [if_pos h];refine ⟨i9, ?_,fun y hy=> ?_⟩
   ·rw [D8h];omega
   ·rw [List.eq_of_mem_replicate hy];exact z
  ·rw [if_neg h];exact ⟨z,nl⟩
 ·exact ⟨trivial,i3,i5,i9,nl⟩
 ·exact ⟨trivial,z,z,z,nl⟩
 ·show A6q (if c.Bi=9 then _ else _)
  by_cases h:c.Bi=9
  ·rw [if_pos h];refine ⟨?_,fun y hy=> ?_⟩
   ·rw [D8h];omega
   ·rw [List.eq_of_mem_replicate hy];exact ⟨i3,i5,z,z,nl⟩
  ·rw [if_neg h];exact nl
 ·exact ⟨i4,i5,z,nl⟩
 ·exact ⟨z,z,z,nl⟩
 ·exact ⟨i3,i4,i5,i9,nl⟩
 ·exact ⟨z,z,z,z,nl⟩
end Go.Win
set_option maxHeartbeats 4000000
namespace Go.Win
open Go.Vc Go.Dec
theorem C9c (l:List A9) (n:Int):A8W l n=true↔I7 n=true/\(∀p∈l,0<=p.T/\p.T<=n)/\l.Pairwise (fun a b=>a.T<=b.T):=by
 unfold A8W;rw [D7o,D7C];constructor
 ·rintro ⟨h1,h2⟩;have hno: ∀i,i<l.length->B33 l n i=false:=fun i hi=>by
   cases h:B33 l n i with
   |false=>rfl
   |true=>rw [C0V.2 ⟨i,hi,h⟩] at h2;cases h2
  refine ⟨h1,fun p hp=> ?_, ?_⟩
  ·obtain ⟨i,hi,rfl⟩:=List.mem_iff_getElem.1 hp;have:=hno i hi;simp only [B33,M9 hi,D7Q,D7x] at this;omega
  ·rw [List.pairwise_iff_getElem];intro i j hi hj hij;have adj: ∀k (hk:k+1<l.length),l[k].T<=l[k+1].T:=fun k hk=>by
    have:=hno (k+1) hk;simp only [B33,M9 hk,D7X,M9 (show k<l.length by omega),Nat.succ_pos,decide_true,D7R,D7Q,D7x] at this
    omega
   have key: ∀d (hd:i+d<l.length),l[i].T<=l[i+d].T:=by
    intro d
    induction d with
    |zero=>intro _;exact Int.le_refl _
    |succ d ih=>
     intro hd;exact Int.le_trans (ih (by omega)) (adj (i+d) hd)
   have:=key (j-i) (by omega)
   have e:i+(j-i)=j:=by omega
   simpa [e] using this
 ·rintro ⟨h1,h2,h3⟩;refine ⟨h1, ?_⟩;cases hc:(List.range l.length).any (B33 l n) with
  |false=>rfl
  |true=>
   exfalso;obtain ⟨i,hi,hb⟩:=C0V.1 hc;have:=h2 l[i] (D75 hi);simp only [B33,M9 hi,D7r,D7o,D7i] at hb;rcases hb with (hb|hb)|⟨hb,hb2⟩
   ·omega
   ·omega
   ·rw [M9 (show i-1<l.length by omega)] at hb2
    simp only [D7i] at hb2;have:=List.pairwise_iff_getElem.1 h3 (i-1) i (by omega) hi (by omega)
    omega
theorem C7m (x:D0):okV x=true↔(1<=x.W/\x.W<=1048576)/\(1<=x.Cap/\x.Cap<=65536)/\I7 x.Now=true/\(x.Bb.length:Int)<=x.Cap/\(∀p∈x.Bb,0<=p.T/\p.T<=x.Now/\p.T>x.Now-x.W/\N9 p.V=true)/\x.Bb.Pairwise (fun a b=>a.T<=b.T):=by
 unfold okV;rw [D7o,D7o,D7o,C9c,D7S,D7i];have hm:Q8 x.W x.Cap x.Now=true↔(1<=x.W/\x.W<=1048576)/\(1<=x.Cap/\x.Cap<=65536)/\I7 x.Now=true:=by
  unfold Q8 A0h;simp only [D7o,D7i];constructor
  ·rintro ⟨⟨⟨⟨a,b⟩,c⟩,d⟩,e⟩;exact ⟨⟨a,b⟩,⟨c,d⟩,e⟩
  ·rintro ⟨⟨a,b⟩,⟨c,d⟩,e⟩;exact ⟨⟨⟨⟨a,b⟩,c⟩,d⟩,e⟩
 rw [hm];constructor
 ·rintro ⟨⟨⟨h1,h2,h3⟩,h4⟩,⟨_,h6,h7⟩,h8⟩;refine ⟨h1,h2,h3,h4,fun p hp=> ?_,h7⟩;have a:=h6 p hp;have b:=h8 p hp;unfold I1 at b;unfold I7 at h3;simp only [D7o,D7i] at b h3;have e:A1 (x.Now-x.W)=x.Now-x.W:=by rw [C7]<;>omega
  rw [e] at b;exact ⟨a.1,a.2,b.1.1.2,b.2⟩
 ·rintro ⟨h1,h2,h3,h4,h5,h6⟩;refine ⟨⟨⟨h1,h2,h3⟩,h4⟩,⟨h3,fun p hp=>⟨(h5 p hp).1,(h5 p hp).2.1⟩,h6⟩,fun p hp=> ?_⟩;obtain ⟨a,b,c,d⟩:=h5 p hp;have h3' :=h3;unfold I7 at h3';simp only [D7o,D7i] at h3';have e:A1 (x.Now-x.W)=x.Now-x.W:=by rw [C7]<;>omega
  unfold I1 A0h;rw [e];have ht:I7 p.T=true:=by
   unfold I7;simp only [D7o,D7i];omega
  simp only [D7o,D7i,h3,ht,d,true_and,and_true];omega
end Go.Win
set_option maxHeartbeats 4000000
namespace Go.Win
open Go.Vc Go.Dec
theorem A3z {α:Type} [Inhabited α] {n:Nat} {a:α} {i:Nat} (h:i<n):el (List.replicate n a) i=a:=by
 rw [A0U (by rw [D8h];exact h),List.getElem_replicate]
theorem D4H:wv ⟨0,0⟩=0:=rfl
theorem D3P {c:E2} {now:Int} (hc:A7F c) (hn:0<=now/\now<=16777216):A8n (B7h c now):=by
 have hc' :=hc;unfold A7F at hc';refine ⟨hc, ?_, ?_⟩
 ·have:c.Bi=1\/c.Bi=2\/c.Bi=3\/c.Bi=4\/c.Bi=5\/c.Bi=6\/c.Bi=7\/c.Bi=8\/c.Bi=9\/c.Bi=10\/c.Bi=11:=by omega
  unfold B7F B7h;have no: ∀ {α:Type} {p:Nat->Prop},∀i,i<([]:List α).length->p i:=fun i h=>absurd h (Nat.not_lt_zero i);have bk0: ∀ {k:Int},1<=k/\k<=128->B0Q [] k:=fun h=>⟨h,no,fun h=>absurd h (Nat.not_lt_zero 0)⟩;have mk0: ∀ {a b d e:Int},A54 [] 0 a b d e:=⟨by omega,no,fun h=>absurd h (Nat.not_lt_zero 0)⟩
  have w0:A1 (X6 [])=0:=rfl;rcases this with h|h|h|h|h|h|h|h|h|h|h<;>simp only [h,Int.reduceEq,if_true,if_false,false_and,false_or,or_false,true_and,and_true]
  ·rw [C7m];refine ⟨by (try dsimp only);omega,by (try dsimp only);omega,(B0G _).2 hn, ?_,fun p hp=>(by cases hp),List.Pairwise.nil⟩
   show (0:Int)<=c.Cap;omega
  ·exact ⟨⟨by (try dsimp only);omega,by (try dsimp only);omega,hn,by (try dsimp only);omega⟩,bk0 (by (try dsimp only);omega),by (try dsimp only);rw [w0];omega,no⟩
  ·exact ⟨⟨⟨by (try dsimp only);omega,by (try dsimp only);omega,hn,by (try dsimp only);omega⟩,bk0 (by (try dsimp only);omega),by (try dsimp only);rw [w0];omega,no⟩,by (try dsimp only);omega⟩
  ·exact ⟨by (try dsimp only);omega,⟨by (try dsimp only);omega,by (try dsimp only);omega,hn,by (try dsimp only);omega⟩,mk0,no⟩
  ·exact ⟨⟨by (try dsimp only);omega,by (try dsimp only);omega,hn,by (try dsimp only);omega⟩,mk0,fun i _ h=>absurd h (Nat.not_lt_zero i)⟩
  ·refine ⟨⟨by (try dsimp only);omega,hn,by (try dsimp only);omega,by (try dsimp only);rw [D8h];omega⟩,fun i h1 h2=> ?_⟩
   have h2' :(i:Int)<=c.P:=h2;simp only [];rw [A3z (by (try dsimp only);omega),A3z (by (try dsimp only);omega),D4H]
   omega
  ·refine ⟨⟨⟨by (try dsimp only);rw [D8h];omega,hn⟩,fun i hi=> ?_⟩,by (try dsimp only);rw [D8h];omega⟩
   simp only [D8h] at hi;simp only [];rw [A3z hi];omega
  ·exact ⟨⟨⟨by (try dsimp only);omega,by (try dsimp only);omega,hn⟩,by show (0:Int)<=c.Cap;omega⟩,no⟩
  ·have h0:0<c.Am.toNat:=by omega
   rw [A3z h0,D8h];refine ⟨?_,by omega,rfl,rfl⟩
   unfold B7k U9;have e:(decide (((⟨List.replicate c.Am.toNat ⟨c.W,c.Cap,0,0, []⟩⟩:E9).Am.length:Int)<1)||decide (((⟨List.replicate c.Am.toNat ⟨c.W,c.Cap,0,0, []⟩⟩:E9).Am.length:Int)>16))=false:=by
    simp only [D8h];simp;omega
   rw [e,D7j];unfold A5J;refine (Q6 (f:=fun s:Int=>X2 ⟨List.replicate c.Am.toNat ⟨c.W,c.Cap,0,0, []⟩⟩ s) c.Am.toNat (fun _=>False) 2 (some 0) (fun i hi _=>⟨fun h=>h.elim,fun _=> ?_⟩) (fun _=> ?_)).2 fun _ _ h=>h
   ·unfold X2;have ec:S0 ⟨c.W,c.Cap,0,0, []⟩=some 0:=by
     unfold S0;have:(((((((decide (c.W<(1:Int)))||(decide (c.W>(1048576:Int))))||(decide (c.Cap<(1:Int))))||(decide (c.Cap>(64:Int))))||(decide ((0:Int)<(0:Int))))||(decide ((0:Int)>(1099511627776:Int))))||(decide ((([]:List G4).length:Int)>c.Cap)))=false:=by
      rw [D7w];simp only [D7r,D7i,Ne,D7M];omega
     simp only [this,D7j]
     rfl
    have h16:c.Am.toNat<=16:=by omega
    have es:A1 ((i:Int)+1)=((i+1:Nat):Int):=by rw [C7]<;>omega
    have e1:C1 (List.replicate c.Am.toNat (⟨c.W,c.Cap,0,0, []⟩:B7)) (i:Int)=some ⟨c.W,c.Cap,0,0, []⟩:=by rw [L1 (by rw [D8h];exact hi),A3z hi]
    have e0:C1 (List.replicate c.Am.toNat (⟨c.W,c.Cap,0,0, []⟩:B7)) (0:Int)=some ⟨c.W,c.Cap,0,0, []⟩:=by rw [A9n (by rw [D8h];exact h0),A3z h0]
    have e2:decide ((i:Int)<((List.replicate c.Am.toNat (⟨c.W,c.Cap,0,0, []⟩:B7)).length:Int))=true:=D7l (by rw [D8h];omega)
    simp only [e2,D7k,e0,e1,D7g,ec,D7T,Bool.or_false,D7j,es]
   ·unfold X2;have e2:decide ((c.Am.toNat:Int)<((List.replicate c.Am.toNat (⟨c.W,c.Cap,0,0, []⟩:B7)).length:Int))=false:=D7n (by rw [D8h];omega)
    simp only [e2,D7j]
  ·exact ⟨⟨by (try dsimp only);omega,by (try dsimp only);omega,by show (0:Int)<=0/\(0:Int)<=1099511627776;omega,by show (0:Int)<=c.Cap;omega⟩,⟨fun _=>rfl,fun _=>rfl⟩,no,fun h=>absurd h (Nat.not_lt_zero 0)⟩
  ·refine ⟨⟨by (try dsimp only);omega,by (try dsimp only);omega,hn,by (try dsimp only);omega⟩,fun b hb=> ?_,by show A1 (X6 [])<=c.Cap;rw [w0];omega,no⟩
   obtain ⟨b',_,b2,b3⟩:=B42 (k:=c.K) (c:=c.Cap) (by (try dsimp only);omega) (by (try dsimp only);omega)
   have hb' :A8A c.K c.Cap=some b:=hb;rw [b2] at hb';cases hb';exact ⟨b3,bk0 (by (try dsimp only);omega),no⟩
 ·unfold B4V B7h;refine ⟨?_, ?_, ?_, ?_, ?_, ?_, ?_, ?_, ?_, ?_, ?_⟩
  all_goals
   intro h;simp only [] at h;rw [if_neg h]
  ·exact ⟨rfl,rfl,rfl,rfl⟩
  ·exact ⟨rfl,rfl,rfl,rfl,rfl⟩
  ·exact ⟨rfl,rfl,rfl,rfl,rfl,rfl⟩
  ·exact ⟨rfl,rfl,rfl,rfl,rfl,rfl,rfl⟩
  ·exact ⟨rfl,rfl,rfl,rfl,rfl,rfl⟩
  ·exact ⟨rfl,rfl,rfl,rfl⟩
  ·exact ⟨rfl,rfl⟩
  ·exact ⟨rfl,rfl,rfl,rfl,rfl⟩
  ·exact rfl
  ·exact ⟨rfl,rfl,rfl,rfl⟩
  ·exact ⟨rfl,rfl,rfl,rfl,rfl⟩
end Go.Win
set_option maxHeartbeats 4000000
namespace Go.Win
open Go.Vc Go.Dec
theorem D09:P3 [] 1=some true:=by
 have:A0p [] 0=some true:=by
  unfold A0p;exact K4 rfl
 unfold P3;have c:(((decide ((1:Int)<(1:Int)))||(decide ((1:Int)>(64:Int))))||(decide ((([]:List A6).length:Int)>(1:Int))))=false:=rfl
 rw [c,D7j,this]
theorem D6G:O2 ⟨0,1, []⟩=some 0:=by
 have:W1 ⟨0,1, []⟩ 0=some 0:=by
  unfold W1;exact K4 rfl
 unfold O2;show Option.bind (gd true (P3 [] 1)) _=_;rw [J1,D09,D7g];exact this
theorem D6d {S:A8} (hS:J5 S=some 0):P3 [⟨7,S⟩] 1=some true:=by
 have:A0p [⟨7,S⟩] 0=some true:=by
  unfold A0p;have s0:A01 [⟨7,S⟩] 0=some (.inl 1):=by
   unfold A01;have c:decide ((0:Int)<(([⟨7,S⟩]:List A6).length:Int))=true:=rfl;have i:C1 ([⟨7,S⟩]:List A6) 0=some ⟨7,S⟩:=rfl;have d1:decide ((7:Int)<0)=false:=rfl;have d2:decide ((7:Int)>1048576)=false:=rfl;have d3:decide ((0:Int)>0)=false:=rfl;simp only [c,D7k,i,D7g,d1,d2,d3,Bool.and_false,Bool.or_false,K8,D7t,J1,hS,D7L,D7T,D7j]
   rfl
  rw [J6 s0];exact K4 rfl
 unfold P3;have c:(((decide ((1:Int)<(1:Int)))||(decide ((1:Int)>(64:Int))))||(decide ((([⟨7,S⟩]:List A6).length:Int)>(1:Int))))=false:=rfl
 rw [c,D7j,this]
theorem D6H {S:A8} (hS:J5 S=some 0) (hc:(A9F S).1=0):O2 ⟨0,1, [⟨7,S⟩]⟩=some 0:=by
 have:W1 ⟨0,1, [⟨7,S⟩]⟩ 0=some 0:=by
  unfold W1;have s0:A3M ⟨0,1, [⟨7,S⟩]⟩ 0=some (.inl 1):=by
   unfold A3M;have c:decide ((0:Int)<(([⟨7,S⟩]:List A6).length:Int))=true:=rfl;have i:C1 ([⟨7,S⟩]:List A6) 0=some ⟨7,S⟩:=rfl;simp only [c,D7k,i,D7g,hc,D7T,Bool.and_false,D7j]
   rfl
  rw [J6 s0];exact K4 rfl
 unfold O2;show Option.bind (gd true (P3 [⟨7,S⟩] 1)) _=_;rw [J1,D6d hS,D7g];exact this
theorem D6u:X9 [] 7=some (0,false):=by
 have:A1W (([]:List A6).length:Int) [] 7=some 0:=by
  unfold A1W A6J;exact K4 rfl
 unfold X9;rw [this]
 rfl
theorem D3J {S:A8} (hS:J5 S=some 0):A1m [] 1 ⟨7,S⟩=some ([⟨7,S⟩],0):=by
 unfold A1m;rw [D09,D7g];show Option.bind (gd true (J5 S)) _=_;rw [J1,hS,D7g];have d1:decide ((7:Int)<0)=false:=rfl;have d2:decide ((7:Int)>1048576)=false:=rfl;have d3:((([]:List A6).length:Int)==1)=false:=rfl;have d4:decide ((0:Int)<=0/\(0:Int)<=(([]:List A6).length:Int))=true:=rfl;simp only [D7s,D7H,D7T,D7j,d1,d2,d3,d4,D6u,D7g,Bool.or_self,A0l,D7M,List.take_nil,List.drop_nil,List.append_nil,List.nil_append,D7V]
 rfl
theorem D62 {S:A8}:X5 [⟨7,S⟩]=some [7]:=by
 unfold X5 A5d;have s0:T4 [⟨7,S⟩] [] 0=some (.inl ([7],1)):=rfl;rw [J6 (f:=fun s:List Int×Int=>T4 [⟨7,S⟩] s.1 s.2) (s:=([],0)) s0];exact K4 rfl
def Z2:E7:=⟨⟨⟨0,0⟩,⟨0,0⟩,⟨0,0⟩⟩, [],⟨⟨0,0⟩,⟨0,0⟩⟩⟩
def c6:E2:=⟨6,0,0,0,0,0,0,0⟩
def s6:A8:=B7h c6 0
theorem C78:A7F c6:=by unfold A7F c6;simp
theorem D26:J5 s6=some 0:=by
 have hw:=C7l C78 (now:=0) (by decide)
 have:=(B8u _ hw);rw [V0 (D3P C78 (by decide))] at this
 exact this
theorem C3w:S2 ⟨0,1, []⟩ ⟨1,7,c6,0,0, [],⟨0,0,0⟩, []⟩=some (⟨0,1, [⟨7,s6⟩]⟩,⟨0,Z2, [], []⟩):=by
 unfold S2;rw [D6G,D7g];show Option.bind (U3 ⟨⟨0,1, []⟩,⟨1,7,c6,0,0, [],⟨0,0,0⟩, []⟩,⟨0,Z2, [], []⟩⟩) _=_;have:U3 ⟨⟨0,1, []⟩,⟨1,7,c6,0,0, [],⟨0,0,0⟩, []⟩,⟨0,Z2, [], []⟩⟩=some (0,⟨⟨0,1, [⟨7,s6⟩]⟩,⟨1,7,c6,0,0, [],⟨0,0,0⟩, []⟩,⟨0,Z2, [], []⟩⟩):=by
  unfold U3;have d1:decide ((7:Int)<0)=false:=rfl;have d2:decide ((7:Int)>1048576)=false:=rfl;have e1:A15 c6 0=some (s6,0):=(D0f C78 (now:=0) (by decide))
  simp only [d1,d2,Bool.or_self,D7j,e1,D7g,D7T,D3J D26]
 rw [this]
 rfl
theorem C7Z:S2 ⟨0,1, [⟨7,s6⟩]⟩ ⟨6,0,⟨0,0,0,0,0,0,0,0⟩,0,0, [],⟨0,0,0⟩, []⟩=some (⟨0,1, [⟨7,s6⟩]⟩,⟨0,Z2, [7], []⟩):=by
 unfold S2;rw [D6H D26 (by rfl),D7g]
 show Option.bind (A0m ⟨⟨0,1, [⟨7,s6⟩]⟩,⟨6,0,⟨0,0,0,0,0,0,0,0⟩,0,0, [],⟨0,0,0⟩, []⟩,⟨0,Z2, [], []⟩⟩) _=_;unfold A0m;show Option.bind (Option.bind (X5 [⟨7,s6⟩]) _) _=_;rw [D62]
 rfl
theorem D3m:A6Y=some true:=by
 unfold A6Y;show Option.bind (S2 ⟨0,1, []⟩ ⟨1,7,c6,0,0, [],⟨0,0,0⟩, []⟩) _=_;rw [C3w,D7g];show Option.bind (S2 ⟨0,1, [⟨7,s6⟩]⟩ ⟨6,0,⟨0,0,0,0,0,0,0,0⟩,0,0, [],⟨0,0,0⟩, []⟩) _=_;rw [C7Z,D7g]
 rfl
end Go.Win
set_option maxHeartbeats 4000000
namespace Go.Win
open Go.Vc Go.Dec
def B38 {β:Type} (lv:β->Int) (X:List β) (j:Int):Nat:=X.countP fun x=>lv x==j
theorem C9E {β:Type} {lv:β->Int} {X:List β} {j:Int} (h:∀x∈X,lv x≠j):B38 lv X j=0:=by
 unfold B38;rw [List.countP_eq_zero];intro x hx;rw [D8a];exact h x hx
structure CI {β:Type} (lv tm:β->Int) (Q:Int->Prop) (k l:Int) (X:List β):Prop where
 le: ∀j:Int,0<=j->(B38 lv X j:Int)<=k+1+(if j=l then 1 else 0)
 ge: ∀x∈X,∀j:Int,0<=j->j<lv x->k<=(B38 lv X j:Int)
 srt:X.Pairwise (fun a b=>tm a<=tm b)
 all: ∀x∈X,Q (tm x)
theorem C3M (l:List A3) (j:Nat):F1 l j l.length=(B38 (fun b:A3=>b.Bc) l (j:Int):Int):=by
 unfold F1 B38;rw [List.take_length]
def D6K (t:Int):Prop:=0<=t/\t<=16777216
theorem B86 {l:List A3} {k:Int} (h:B0Q l k):CI (fun b:A3=>b.Bc) (fun b=>b.T) D6K k (-1) l/\l.Pairwise (fun a b=>b.Bc<=a.Bc)/\ ∀x∈l,0<=x.Bc/\x.Bc<=30:=by
 obtain ⟨hk,hb,hL⟩:=h;have rng: ∀i,i<l.length->(0<=(el l i).T/\(el l i).T<=16777216/\0<=(el l i).Bc/\(el l i).Bc<=30)/\(0<i->(el l (i-1)).T<=(el l i).T/\(el l i).Bc<=(el l (i-1)).Bc):=fun i hi=>by
  have:=hb i hi;unfold B2q at this;constructor
  ·have:=fun x=>this (.inl x);omega
  ·intro h0;have:=fun x=>this (.inr ⟨h0,x⟩);omega
 have mono: ∀d i,i+d<l.length->(el l i).T<=(el l (i+d)).T/\(el l (i+d)).Bc<=(el l i).Bc:=by
  intro d
  induction d with
  |zero=>intro i _;exact ⟨Int.le_refl _,Int.le_refl _⟩
  |succ d ih=>
   intro i hi;have a:=ih i (by omega)
   have b:=(rng (i+d+1) (by omega)).2 (by omega)
   rw [D7X] at b;rw [show i+(d+1)=i+d+1 by omega]
   omega
 have pw:l.Pairwise (fun a b=>a.T<=b.T/\b.Bc<=a.Bc):=by
  rw [List.pairwise_iff_getElem];intro i j hi hj hij;have:=mono (j-i) i (by omega)
  rw [show i+(j-i)=j by omega,A0U hi,A0U hj] at this
  exact this
 have top: ∀x∈l,0<l.length/\x.Bc<=(el l 0).Bc:=fun x hx=>by
  obtain ⟨i,hi,rfl⟩:=B2P hx;have:=(mono i 0 (by omega)).2
  rw [Nat.zero_add] at this;exact ⟨by omega,this⟩
 refine ⟨⟨fun j hj=> ?_,fun x hx j hj hjx=> ?_,pw.imp fun h=>h.1,fun x hx=> ?_⟩,pw.imp fun h=>h.2,fun x hx=> ?_⟩
 ·rw [if_neg (by omega)]
  by_cases hz:B38 (fun b:A3=>b.Bc) l j=0
  ·rw [hz];omega
  ·have h0:0<l.length/\j<=(el l 0).Bc:=by
    apply D8b;intro hn;refine hz (C9E fun x hx e=>hn ?_);have:=top x hx;exact ⟨this.1,by omega⟩
   have:=hL h0.1 j.toNat (by omega)
   unfold B6G at this;have e:=C3M l j.toNat;rw [show ((j.toNat:Nat):Int)=j by omega] at e
   rw [e] at this;have:=fun x=>this (.inl x);omega
 ·have t:=top x hx;have:=hL t.1 j.toNat (by omega)
  unfold B6G at this;have e:=C3M l j.toNat;rw [show ((j.toNat:Nat):Int)=j by omega] at e
  rw [e] at this;have:=fun y=>this (.inr y);omega
 ·obtain ⟨i,hi,rfl⟩:=B2P hx;have:=(rng i hi).1;exact ⟨this.1,this.2.1⟩
 ·obtain ⟨i,hi,rfl⟩:=B2P hx;have:=(rng i hi).1;exact ⟨this.2.2.1,this.2.2.2⟩
end Go.Win
set_option maxHeartbeats 4000000
namespace Go.Win
open Go.Vc Go.Dec
section
variable {β:Type} (lv:β->Int)
end
end Go.Win
set_option maxHeartbeats 4000000
namespace Go.Win
open Go.Vc Go.Dec
instance {l:List A3} {f:Int}:TS (A3v l f) (l.length<=1048576) (fun r=>r.length<=1048576):=⟨fun h=>by
 unfold A3v B1d;refine yL (fun v=>v.length<=1048576) (fun v=>v.length) h fun v hv=> ?_;unfold B0g;exact yT⟩
instance {l:List A7} {a b:Int}:TS (A4v l a b) (l.length<=1048576) (fun r=>r.length<=1048576):=⟨fun h=>by
 unfold A4v B2O;refine yL (fun v=>v.length<=1048576) (fun v=>v.length) h fun v hv=> ?_;unfold B1k;exact yT⟩
instance {l:List B2} {a:Int}:TS (A7c l a) (l.length<=1048576) (fun r=>r.length<=1048576/\ ∀b∈r,b∈l):=⟨fun h=>by
 unfold A7c B2r;refine yL (fun v=>v.length<=1048576/\ ∀b∈v,b∈l) (fun v=>v.length) ⟨h,fun _ h=>h⟩ fun v hv=> ?_;have hd: ∀b∈v.drop (1:Int).toNat,b∈l:=fun b hb=>hv.2 b (List.mem_of_mem_drop hb);unfold B1b;exact yT⟩
theorem C9n (x:E4) (t:Int) (hl:x.Ad.length<=1048576):T (A7h x t) fun r=>r.1.Ad.length<=1048576:=by
 unfold A7h;rw [A5R x (H8 hl)];exact yT
theorem D3h (x:F4) (t:Int) (hl:x.Ad.length<=1048576):T (A97 x t) fun r=>r.1.Ad.length<=1048576:=by
 unfold A97;rw [A8N x (H8 hl)];exact yT
theorem C7T (x:D3) (t:Int) (hl:x.Bf.length<=1048576):T (A6j x t) fun r=>r.1.Bf.length<=1048576:=by
 unfold A6j;rw [A5g x (H8 hl)];exact yT
theorem C7U (x:D5) (t:Int) (hl:x.Bf.length<=1048576):T (A6k x t) fun r=>r.1.Bf.length<=1048576:=by
 unfold A6k;rw [A5h x (H8 hl)];exact yT
theorem D1o (x:E3) (t:Int) (hl:x.Ag.length<=1048576) (hw:∀w∈x.Ag,I2 w):T (A8q x t) fun r=>r.1.Ag.length<=1048576/\ ∀w∈r.1.Ag,I2 w:=by
 have no: ∀w∈([]:List A2),I2 w:=fun w h=>by cases h
 unfold A8q;rw [A7o x hw];exact yT
theorem C3t (x:C2) (t:Int) (hb:A1V x.Ak):T (A4b x t) fun r=>r.1.Ak.length<=1048576/\ ∀b∈r.1.Ak,b∈x.Ak:=by
 have hl:=hb.1;have no: ∀w∈([]:List B2),w∈x.Ak:=fun w h=>by cases h
 unfold A4b;rw [A1D x hb];exact yT
instance {x:C4} {t:Int} {v:List A9}:TS (A5u x t v) (v.length<=1048576) (fun r=>r.1.Bb.length<=1048576):=⟨fun h=>by
 unfold A5u;refine yL (fun v=>v.length<=1048576) (fun v=>v.length) h fun v hv=> ?_;unfold A86;exact yT⟩
theorem C5G (x:C4) (t:Int) (hl:x.Bb.length<=1048576):T (A46 x t) fun r=>r.1.Bb.length<=1048576:=by
 unfold A46;rw [A35 x (H8 hl)];exact yT
theorem D4U {n t:Int} (h:(Q2 n t).2=0) (hn:0<=n/\n<=16777216):A1 (t-n)=t-n/\n<=t:=by
 have e0:A2L n=true:=by unfold A2L;simp;omega
 unfold Q2 at h;rw [e0] at h
 by_cases g:t<n\/16777216<t
 ·have e:(decide (t<n)||decide (t>16777216))=true:=by simp;omega
  rw [e] at h;cases h
 ·exact ⟨by rw [C7]<;>omega,by omega⟩
theorem C9o (x:F6) (t:Int) (hl:x.Bn.length<=1048576):T (A7k x t) fun r=>r.1.Bn.length<=1048576:=by
 unfold A7k;rw [A5X x (H8 hl)]
 by_cases hv:C4n x
 ·refine yB (yI ?_);have hn:=hv.1.2;rw [V0 hv];refine yC (fun h=> ?_) (fun _=>yC (fun h=>yI (Nat.zero_le _)) fun h=> ?_)
  ·cases h
  rw [bne_eq_false_iff_eq] at h;have:=D4U h hn
  generalize hm:A1L (A1 (t-x.Now)) ((([]:List Int)++x.Bn).length:Int)=m
  have:=D3I (A1 (t-x.Now)) ((([]:List Int)++x.Bn).length:Int);rw [hm] at this;simp only [List.nil_append] at*
  have h1:=C7d x.Bn m.toNat (x.Bn.take (x.Bn.length-m.toNat)) (by rw [D7I];omega)
  have h2:=C7d (laid x.Bn m.toNat (x.Bn.take (x.Bn.length-m.toNat))) 0 (List.replicate m.toNat 0) (by rw [D8h];omega)
  exact yT
 ·rw [I8 hv];exact yT
theorem C7V (s:A8) (w:A2o s) (t:Int): ∃r,A4j s t=some r/\A2o r.1:=by
 obtain ⟨h1,h2,h3,h4,h5,h6,h7,h8,h9,h10,h11⟩:=id w;unfold A4j;rw [(V7 s w),D7g]
 by_cases hv:A8n s
 ·rw [V0 hv];simp only [D7T,D7j];have fin: ∀(f:Int) (re:D0) (co:E4) (su:F4) (sm:D3) (sp:D5) (po:E3) (hn:Int) (hs:List Int) (ex:C4) (qu:C2),
    A2o ⟨s.Ao,re,co,su,sm,sp,po,⟨hn,hs⟩,ex,s.Ar,s.Ai,qu⟩-> ∃r,K5 s f re co su sm sp po hn hs ex qu=some r/\A2o r.1:=by
   intro f re co su sm sp po hn hs ex qu h;unfold K5;cases (f !=0) with
   |true=>exact ⟨_,rfl,A84⟩
   |false=>exact ⟨_,rfl,h⟩
  cases c1:(s.Ao.Bi==(1:Int)) with
  |true=>
   obtain ⟨r,e1,e3⟩:=C5H s.Aq t (H8 h1);simp only [D7k,e1,D7g];exact fin _ _ _ _ _ _ _ _ _ _ _ ⟨Nat.le_trans e3 (by decide),h2,h3,h4,h5,h6,h7,h8,h9,h10,h11⟩
  |false=>
  cases c2:(s.Ao.Bi==(2:Int)) with
  |true=>
   obtain ⟨r,e1,e3⟩:=C9n s.Ay t h2;simp only [D7k,D7j,e1,D7g];exact fin _ _ _ _ _ _ _ _ _ _ _ ⟨h1,e3,h3,h4,h5,h6,h7,h8,h9,h10,h11⟩
  |false=>
  cases c3:(s.Ao.Bi==(3:Int)) with
  |true=>
   obtain ⟨r,e1,e3⟩:=D3h s.Sum t h3;simp only [D7k,D7j,e1,D7g];exact fin _ _ _ _ _ _ _ _ _ _ _ ⟨h1,h2,e3,h4,h5,h6,h7,h8,h9,h10,h11⟩
  |false=>
  cases c4:(s.Ao.Bi==(4:Int)) with
  |true=>
   obtain ⟨r,e1,e3⟩:=C7T s.As t h4;simp only [D7k,D7j,e1,D7g];exact fin _ _ _ _ _ _ _ _ _ _ _ ⟨h1,h2,h3,e3,h5,h6,h7,h8,h9,h10,h11⟩
  |false=>
  cases c5:(s.Ao.Bi==(5:Int)) with
  |true=>
   obtain ⟨r,e1,e3⟩:=C7U s.Au t h5;simp only [D7k,D7j,e1,D7g];exact fin _ _ _ _ _ _ _ _ _ _ _ ⟨h1,h2,h3,h4,e3,h6,h7,h8,h9,h10,h11⟩
  |false=>
  cases c6:(s.Ao.Bi==(6:Int)) with
  |true=>
   obtain ⟨r,e1,e3⟩:=D1o s.Bm t h6.1 h6.2;simp only [D7k,D7j,e1,D7g];exact fin _ _ _ _ _ _ _ _ _ _ _ ⟨h1,h2,h3,h4,h5,e3,h7,h8,h9,h10,h11⟩
  |false=>
  cases c7:(s.Ao.Bi==(7:Int)) with
  |true=>
   obtain ⟨r,e1,e3⟩:=C9o s.Ba t h7;simp only [D7k,D7j,e1,D7g];exact fin _ _ _ _ _ _ _ _ _ _ _ ⟨h1,h2,h3,h4,h5,h6,e3,h8,h9,h10,h11⟩
  |false=>
  cases c8:(s.Ao.Bi==(8:Int)) with
  |true=>
   obtain ⟨r,e1,e3⟩:=C5G s.Af t h8;simp only [D7k,D7j,e1,D7g];exact fin _ _ _ _ _ _ _ _ _ _ _ ⟨h1,h2,h3,h4,h5,h6,h7,e3,h9,h10,h11⟩
  |false=>
  cases c11:(s.Ao.Bi==(11:Int)) with
  |true=>
   obtain ⟨r,e1,e3,e4⟩:=C3t s.Ab t h11;simp only [D7k,D7j,e1,D7g];exact fin _ _ _ _ _ _ _ _ _ _ _ ⟨h1,h2,h3,h4,h5,h6,h7,h8,h9,h10,e3,fun b hb=>h11.2 b (e4 b hb)⟩
  |false=>
   simp only [D7j];have et:A2B t=I7 t:=rfl;rw [et];cases (!I7 t) with
   |true=>rw [D7k];exact fin _ _ _ _ _ _ _ _ _ _ _ ⟨h1,h2,h3,h4,h5,h6,h7,h8,h9,h10,h11⟩
   |false=>rw [D7j];exact fin _ _ _ _ _ _ _ _ _ _ _ ⟨h1,h2,h3,h4,h5,h6,h7,h8,h9,h10,h11⟩
 ·rw [I8 hv];exact ⟨_,rfl,A84⟩
end Go.Win
set_option maxHeartbeats 4000000
namespace Go.Win
open Go.Vc Go.Dec
theorem D2z (b:A3):A7s b<=1073741824:=by
 unfold A7s
 by_cases h:0<=b.Bc/\b.Bc<=30
 ·rw [if_pos h];exact C8P (by omega)
 ·rw [if_neg h];decide
theorem D4u (l:List A3):X6 l<=l.length*1073741824:=by
 induction l with
 |nil=>simp [C5b]
 |cons b l ih=>
  have:=D2z b;rw [B0H,D7z]
  push_cast
  omega
theorem D6a {l:List A3} (hl:l.length<=1048576):A1 (X6 l)=X6 l:=by
 have h1:=C7v l;have h2:=D4u l;rw [C7]<;>omega
theorem D6r {k:Int} {l:List A3} {n v s:Int} (hk:1<=k/\k<=128) (hs:0<=s/\s<=n) (hn:n<=l.length) (hl:l.length<=1048577):
  T (A3Z k l n v s) fun r=>match r with
   | .inl r=>r.1.length+1<=l.length/\0<=r.2.1/\r.2.1<=r.1.length
   | .inr r=>r=l:=by
 unfold A3Z;refine yL (fun s=>0<=s/\s<=n) (fun s=>s.toNat) hs fun s hs=> ?_;have h1:=A0k s (by omega)
 have h2:A1 (n-s)=n-s/\A1 (k+2)=k+2:=by constructor<;>(rw [C7]<;>omega)
 unfold A3x;simp only [h1,h2];exact yT
instance {k:Int} {l:List A3} {t:Int}:TS (A1B l k t) ((1<=k/\k<=128)/\l.length<=1048576) (fun r=>r.length<=l.length+1):=⟨fun ⟨hk,hl⟩=>by
 unfold A1B;refine yK (by simp;omega) ?_
 unfold A75;have hn:(l++ [(⟨t,0⟩:A3)]).length=l.length+1:=by simp
 generalize l++ [(⟨t,0⟩:A3)]=L at hn
 refine yL (fun s=>s.1.length<=l.length+1/\0<=s.2.1/\s.2.1<=s.1.length) (fun s=>s.1.length) ⟨by show L.length<=_;omega,by simp,by simp⟩ fun s ⟨h1,h2,h3⟩=> ?_
 unfold A7Q;refine yM (D6r hk ⟨h2,Int.le_refl _⟩ h3 (by omega)) fun r h=> ?_
 cases r with
 |inl r=>dsimp only at h⊢;omega
 |inr r=>dsimp only at h⊢;rw [h];exact h1⟩
instance {k t n:Int} {l:List A3}:TS (A3w k t n l) ((1<=k/\k<=128)/\0<=n/\n<=1024/\l.length+n<=1048576) (fun r=>r.length<=l.length+n.toNat):=⟨fun ⟨hk,h0,h1,h2⟩=>by
 unfold A3w;refine yL (fun s=>0<=s.1/\s.1<=n/\s.2.length+s.1.toNat<=l.length+n.toNat) (fun s=>s.1.toNat) ⟨h0,Int.le_refl _,D7Y _⟩ fun s hs=> ?_;have e:=A0k s.1 (by omega)
 unfold A6R;simp only [e];exact yT⟩
instance {l:List A3}:TS (T6 l) (l.length<=maxLen) (fun r=>r=A1 (X6 l)):=⟨fun h=>⟨_,by rw [B2i,A95 _ h],rfl⟩⟩
instance {l:List A3} {k:Int}:TS (X7 l k) (l.length<=maxLen) (fun r=>r=bOf (B0Q l k)):=⟨fun h=>⟨_,A7e l k h,rfl⟩⟩
theorem C9l (x:E4) (hl:x.Ad.length+1<=1048576):T (B3z x) fun r=>r.1.Ad.length<=x.Ad.length+1:=by
 have hm:x.Ad.length<=maxLen:=H8 (by omega)
 unfold B3z;rw [A5R x hm]
 by_cases hv:B2Q x.Ad x.W x.K x.Cap x.Now
 ·have hk:1<=x.K/\x.K<=128:=hv.2.1.1;unfold A9f A6S;exact yT
 ·rw [I8 hv];exact yT
theorem D3g (x:F4) (v:Int) (hl:x.Ad.length+1024<=1048576):T (B8a x v) fun r=>r.1.Ad.length<=x.Ad.length+1024:=by
 have hm:x.Ad.length<=maxLen:=H8 (by omega)
 unfold B8a;rw [A8N x hm]
 by_cases hv:C3e x
 ·have hk:1<=x.K/\x.K<=128:=hv.1.2.1.1;unfold A5q A6S;exact yT
 ·rw [I8 hv];exact yT
end Go.Win
