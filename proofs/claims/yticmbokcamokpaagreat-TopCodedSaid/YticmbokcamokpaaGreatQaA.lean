/- Plain laws of the functions on plain data. -/
import Derived.Test.YticmbokcamokpaaGreatWinA
import Derived.Test.YticmbokcamokpaaGreatVdA
import Derived.Test.YticmbokcamokpaaGreatVc
import Derived.Test.YticmbokcamokpaaGreatWin
set_option linter.unusedVariables false
set_option linter.unusedSimpArgs false
set_option linter.unnecessarySimpa false
set_option linter.unusedSectionVars false
namespace Go.Win
open Go.Vc Go.Dec
theorem C4 {n:Int} (h1:-9223372036854775808<=n) (h2:n<=9223372036854775807):A1 n=n:=by
 show IntKind.i64.wrap n=n;rw [IntKind.wrap_i64];omega
theorem A8i (n:Int):A1 n=(n+9223372036854775808)%18446744073709551616-9223372036854775808:=by
 show IntKind.i64.wrap n=_;rw [IntKind.wrap_i64]
theorem K2 (n:Int):A5 n=n%18446744073709551616:=by
 show IntKind.u64.wrap n=_;rw [IntKind.wrap_u64]
theorem A6D {R:Type} {f:Int->Option (Int⊕R)} {n:Nat} {bad:Nat->Bool} {E:R} {A:Option R}
  (hs:∀i:Nat,i<n->f i=cond (bad i) (some (.inr E)) (some (.inl ((i:Int)+1)))) (hd:f n=Option.map Sum.inr A):
  loop f 0=cond ((List.range n).any bad) (some E) A:=by
 have key: ∀k i:Nat,i+k=n->loop f i=cond ((List.range' i k).any bad) (some E) A:=by
  intro k
  induction k with
  |zero=>
   intro i hi;have hi:i=n:=by omega
   subst hi;rw [A4P,hd];cases A<;>rfl
  |succ k ih=>
   intro i hi;rw [A4P,hs i (by omega),List.range'_succ,List.any_cons]
   cases hb:bad i with
   |true=>rfl
   |false=>
    have:=ih (i+1) (by omega)
    simpa using this
 have:=key n 0 (by omega)
 rw [<-List.range_eq_range'] at this;exact this
theorem C9m {S R β:Type} {f:S->Option (S⊕R)} (st:Nat->β->S) (n:Nat) (I:Nat->β->Prop) (g:Nat->β->β) (A:β->Option R)
  (hs:∀(i:Nat) (b:β),i<n->I i b->f (st i b)=some (.inl (st (i+1) (g i b)))/\I (i+1) (g i b)) (hd:∀b,I n b->f (st n b)=Option.map Sum.inr (A b)) (b:β) (h0:I 0 b):
  loop f (st 0 b)=A ((List.range n).foldl (fun b i=>g i b) b)/\I n ((List.range n).foldl (fun b i=>g i b) b):=by
 have key: ∀k i:Nat,∀b,i+k=n->I i b->loop f (st i b)=A ((List.range' i k).foldl (fun b i=>g i b) b)/\I n ((List.range' i k).foldl (fun b i=>g i b) b):=by
  intro k
  induction k with
  |zero=>
   intro i b hi hb;have hi:i=n:=by omega
   subst hi;rw [A4P,hd b hb];simp only [List.range'_zero,List.foldl_nil];exact ⟨by (cases A b<;>rfl),hb⟩
  |succ k ih=>
   intro i b hi hb;obtain ⟨h1,h2⟩:=hs i b (by omega) hb
   rw [A4P,h1,List.range'_succ,List.foldl_cons];exact ih (i+1) _ (by omega) h2
 have:=key n 0 b (by omega) h0
 rw [<-List.range_eq_range'] at this;exact this
theorem C2o {n:Nat} {p:Nat->Bool}:(List.range n).any p=true↔ ∃i,i<n/\p i=true:=by
 simp [List.any_eq_true]
theorem I2:maxLen=9223372036854775807:=rfl
end Go.Win
namespace Go.Win
open Go.Vc Go.Dec
def el {α:Type} [Inhabited α] (l:List α) (i:Nat):α:=l.getD i default
theorem A4F {α:Type} [Inhabited α] {l:List α} {i:Nat} (h:i<l.length):l[i]? =some (el l i):=by
 unfold el;rw [D8o h];simp [List.getD,D8o h]
theorem L8 {α:Type} [Inhabited α] {l:List α} {i:Nat} (h:i<l.length):el l i=l[i]:=by
 have:=A4F h;rw [D8o h] at this;exact (D8T this).symm
theorem J5 {α:Type} [Inhabited α] {l:List α} {i:Nat} (h:i<l.length):B9 l (i:Int)=some (el l i):=by
 rw [S0,A4F h]
theorem B0x {α:Type} [Inhabited α] {l:List α} (h:0<l.length):B9 l (0:Int)=some (el l 0):=J5 h
theorem D7t {α:Type} [Inhabited α] {l:List α} {n:Int} (h0:0<=n) (h:n<l.length):B9 l n=some (el l n.toNat):=by
 have:B9 l ((n.toNat:Nat):Int)=some (el l n.toNat):=J5 (by omega)
 rw [<-this]
 congr 1
 omega
theorem O4 {α:Type} [Inhabited α] {l:List α} {i:Nat} (h:i<l.length):el l i∈l:=by
 rw [L8 h];exact D8Z h
theorem A2l {α:Type} [Inhabited α] {l:List α} {x:α} (h:x∈l): ∃i,i<l.length/\el l i=x:=by
 obtain ⟨i,hi,e⟩:=List.getElem_of_mem h;exact ⟨i,hi,by rw [L8 hi];exact e⟩
theorem B2S {i n:Nat} (h0:0<i) (h:i<=n) (hm:n<=maxLen):A1 ((i:Int)-1)=((i-1:Nat):Int):=by
 rw [I2] at hm;rw [C4]<;>omega
theorem A0s {i n:Nat} (h:i<n) (hm:n<=maxLen):A1 ((i:Int)+1)=((i+1:Nat):Int):=by
 rw [I2] at hm;rw [C4]<;>omega
theorem A5M {S R:Type} {f:S->Option (S⊕R)} (st:Nat->S) (a n:Nat) (han:a<=n) (bad:Nat->Prop) (E:R) (A:Option R)
  (hs:∀i,a<=i->i<n->(∀j,a<=j->j<i-> ¬bad j)->(bad i->f (st i)=some (.inr E))/\(¬bad i->f (st i)=some (.inl (st (i+1)))))
  (hd:(∀j,a<=j->j<n-> ¬bad j)->f (st n)=Option.map Sum.inr A):
  ((∃i,a<=i/\i<n/\bad i)->loop f (st a)=some E)/\((∀i,a<=i->i<n-> ¬bad i)->loop f (st a)=A):=by
 have key: ∀k i:Nat,a<=i->i+k=n->(∀j,a<=j->j<i-> ¬bad j)->
   ((∃j,i<=j/\j<n/\bad j)->loop f (st i)=some E)/\((∀j,i<=j->j<n-> ¬bad j)->loop f (st i)=A):=by
  intro k
  induction k with
  |zero=>
   intro i hai hi hb;have hi:i=n:=by omega
   subst hi;refine ⟨fun ⟨j,h1,h2,_⟩=>by omega,fun _=> ?_⟩
   rw [A4P,hd hb];cases A<;>rfl
  |succ k ih=>
   intro i hai hi hb;obtain ⟨h1,h2⟩:=hs i hai (by omega) hb
   by_cases hbi:bad i
   ·refine ⟨fun _=>M5 (h1 hbi),fun h=>absurd hbi (h i (D8S _) (by omega))⟩
   ·obtain ⟨g1,g2⟩:=ih (i+1) (by omega) (by omega) (fun j h3 h4=>by
     by_cases e:j=i
     ·subst e;exact hbi
     ·exact hb j h3 (by omega))
    rw [M1 (h2 hbi)];refine ⟨fun ⟨j,h3,h4,h5⟩=>g1 ⟨j, ?_,h4,h5⟩,fun h=>g2 fun j h3 h4=>h j (by omega) h4⟩
    by_cases e:j=i
    ·subst e;exact absurd h5 hbi
    ·omega
 exact key (n-a) a (D8S _) (by omega) (fun j _ _=>by omega)
theorem R6 {R:Type} {f:Int->Option (Int⊕R)} (n:Nat) (bad:Nat->Prop) (E:R) (A:Option R)
  (hs:∀i:Nat,i<n->(∀j,j<i-> ¬bad j)->(bad i->f (i:Int)=some (.inr E))/\(¬bad i->f (i:Int)=some (.inl ((i+1:Nat):Int))))
  (hd:(∀j,j<n-> ¬bad j)->f (n:Int)=Option.map Sum.inr A):
  ((∃i,i<n/\bad i)->loop f 0=some E)/\((∀i,i<n-> ¬bad i)->loop f 0=A):=by
 have:=A5M (f:=f) (fun i=>(i:Int)) 0 n (Nat.zero_le _) bad E A (fun i _ h2 h3=>hs i h2 fun j h4=>h3 j (Nat.zero_le _) h4) (fun h=>hd fun j h4=>h j (Nat.zero_le _) h4);exact ⟨fun ⟨i,h1,h2⟩=>this.1 ⟨i,Nat.zero_le _,h1,h2⟩,fun h=>this.2 fun i _ h1=>h i h1⟩
theorem D2h {α:Type} (b:Bool) (x y:α):cond b x y=if b=true then x else y:=by cases b<;>rfl
open Classical in
noncomputable def R0 (p:Prop):Int:=if p then 0 else 2
theorem O3 {p:Prop} (h:p):R0 p=0:=by unfold R0;rw [if_pos h]
theorem J7 {p:Prop} (h:¬p):R0 p=2:=by unfold R0;rw [if_neg h]
theorem C8v {p:Prop}:(R0 p !=0)=true↔ ¬p:=by
 unfold R0;split<;>simp_all
open Classical in
noncomputable def G3 (p:Prop):Bool:=if p then true else false
theorem A2z {p:Prop} (h:p):G3 p=true:=by unfold G3;rw [if_pos h]
theorem X6 {p:Prop} (h:¬p):G3 p=false:=by unfold G3;rw [if_neg h]
theorem A1Q {p:Prop}:G3 p=true↔p:=by
 unfold G3;split<;>simp_all
end Go.Win
namespace Go.Win
open Go.Vc Go.Dec
def T {α:Type} (m:Option α) (Q:α->Prop):Prop:= ∃r,m=some r/\Q r
theorem yI {α:Type} {a:α} {Q:α->Prop} (h:Q a):T (some a) Q:=⟨a,rfl,h⟩
theorem yB {α β:Type} {m:Option α} {k:α->Option β} {Q:β->Prop} (h:T m fun a=>T (k a) Q):T (Option.bind m k) Q:=by
 obtain ⟨a,rfl,h⟩:=h;exact h
theorem yP {α β:Type} {m:Option α} {k:α->β} {Q:β->Prop} (h:T m fun a=>Q (k a)):T (Option.map k m) Q:=by
 obtain ⟨a,rfl,h⟩:=h;exact ⟨_,rfl,h⟩
theorem yC {α:Type} {b:Bool} {x y:Option α} {Q:α->Prop} (h1:b=true->T x Q) (h2:b=false->T y Q):T (cond b x y) Q:=by
 cases b with
 |true=>exact h1 rfl
 |false=>exact h2 rfl
theorem yK {α:Type} {b:Bool} {m:Option α} {Q:α->Prop} (h1:b=true) (h2:T m Q):T (ck b m) Q:=by subst h1;exact h2
theorem yG {α:Type} [Inhabited α] {b:Bool} {m:Option α} {Q:α->Prop} (h1:b=true->T m Q) (h2:b=false->Q default):T (gd b m) Q:=by
 cases b with
 |true=>exact h1 rfl
 |false=>exact yI (h2 rfl)
theorem yM {α:Type} {m:Option α} {P Q:α->Prop} (h1:T m P) (h2:∀a,P a->Q a):T m Q:=by
 obtain ⟨a,rfl,h⟩:=h1;exact ⟨a,rfl,h2 a h⟩
theorem yX {α:Type} [Inhabited α] {l:List α} {i:Int} {Q:α->Prop} (h1:0<=i/\i<l.length) (h2:el l i.toNat∈l->Q (el l i.toNat)):T (B9 l i) Q:=
 ⟨_,D7t h1.1 h1.2,h2 (O4 (by omega))⟩
class TS {α:Type} (m:Option α) (H:outParam Prop) (P:outParam (α->Prop)):Prop where
 pf:H->T m P
theorem yS {α:Type} {m:Option α} {H:Prop} {P Q:α->Prop} [i:TS m H P] (h:H) (k:∀a,P a->Q a):T m Q:=yM (i.pf h) k
theorem yL {S R:Type} {f:S->Option (S⊕R)} {s:S} {Q:R->Prop} (I:S->Prop) (μ:S->Nat) (h0:I s)
  (h: ∀s,I s->T (f s) fun x=>match x with
   | .inl s' =>I s' /\μ s' <μ s
   | .inr r=>Q r):T (loop f s) Q:=by
 refine W6 I μ Q s h0 fun s hs=> ?_;obtain ⟨x,e,g⟩:=h s hs;cases x with
 |inl s' =>exact .inl ⟨s',e,g⟩
 |inr r=>exact .inr ⟨r,e,g⟩
theorem T2 (i:Int) (h:0<=i/\i<=9223372036854775800):A1 (i+1)=i+1/\A1 (i-1)=i-1/\A1 (i+2)=i+2:=by
 refine ⟨?_, ?_, ?_⟩<;>(rw [C4]<;>omega)
theorem D4S {α:Type} {P:α->Prop} {l:List α} {a:α} (i:Nat) (h:∀w∈l,P w) (ha:P a): ∀w∈l.set i a,P w:=fun w hw=>by
 rcases List.mem_or_eq_of_mem_set hw with h1|h1
 ·exact h w h1
 ·rw [h1];exact ha
theorem yE {α:Type} {m:Option α} {Q:α->Prop} (h:T m Q): ∃r,m=some r:=let ⟨r,e,_⟩:=h;⟨r,e⟩
theorem yZ {p:Prop} (h:p:=by
 first
  |trivial
  |assumption
  |omega
  |(simp only [D8c,D8r,D8g,D8t,D8G,D8P,D8I,D8C,D9a,D8X,D9b,D8l,D8K,D8i,D81,bne_iff_ne,D84,D80,bne_eq_false_iff_eq,D8w,Bool.not_eq_false',ne_eq,List.nil_append,List.append_nil,D8Q,not_true,not_false_eq_true,true_and,and_true,Int.not_lt,Int.not_le,D8N,Bool.true_eq_false,Bool.false_eq_true,D82,Prod.mk.injEq,Int.reduceEq,Int.reduceBNe,Int.reduceBEq,Int.reduceNe,Int.reduceLT,Int.reduceLE,Nat.reduceAdd,Nat.reduceLeDiff,reduceCtorEq,ge_iff_le,gt_iff_lt,false_and,and_false,true_or,or_true,false_or,or_false,Nat.zero_le];done)
  |(simp only [D8c,D8r,D8g,D8t,D8G,D8P,D8I,D8C,D9a,D8X,D9b,D8l,D8K,D8i,D81,bne_iff_ne,D84,D80,bne_eq_false_iff_eq,D8w,Bool.not_eq_false',ne_eq,List.nil_append,List.append_nil,D8Q,not_true,not_false_eq_true,true_and,and_true,Int.not_lt,Int.not_le,D8N,Bool.true_eq_false,Bool.false_eq_true,D82,Prod.mk.injEq,Int.reduceEq,Int.reduceBNe,Int.reduceBEq,Int.reduceNe,Int.reduceLT,Int.reduceLE,Nat.reduceAdd,Nat.reduceLeDiff,reduceCtorEq,ge_iff_le,gt_iff_lt,false_and,and_false,true_or,or_true,false_or,or_false,Nat.zero_le];first|omega|(and_intros<;>first|trivial|assumption|omega))
  |(simp only [D8c,D8r,D8g,D8t,D8G,D8P,D8I,D8C,D9a,D8X,D9b,D8l,D8K,D8i,D81,bne_iff_ne,D84,D80,bne_eq_false_iff_eq,D8w,Bool.not_eq_false',ne_eq,List.nil_append,List.append_nil,D8Q,not_true,not_false_eq_true,true_and,and_true,Int.not_lt,Int.not_le,D8N,Bool.true_eq_false,Bool.false_eq_true,D82,Prod.mk.injEq,Int.reduceEq,Int.reduceBNe,Int.reduceBEq,Int.reduceNe,Int.reduceLT,Int.reduceLE,Nat.reduceAdd,Nat.reduceLeDiff,reduceCtorEq,ge_iff_le,gt_iff_lt,false_and,and_false,true_or,or_true,false_or,or_false,Nat.zero_le,A8i,K2,I2] at*;first|omega|(and_intros<;>first|trivial|assumption|omega))
  |grind
  |(simp_all<;>first|omega|grind)):p:=h
theorem yT {p:Prop} (h:p:=by
 repeat' first
  |with_reducible refine yI ?_
  |with_reducible refine yB ?_
  |(with_reducible refine yC (fun h=> ?_) (fun h=> ?_))<;>try simp only [D8c,D8r,D8g,D8t,D8G,D8P,D8I,D8C,D9a,D8X,D9b,D8l,D8K,D8i,D81,bne_iff_ne,D84,D80,bne_eq_false_iff_eq,D8w,Bool.not_eq_false',ne_eq,List.nil_append,List.append_nil,D8Q,not_true,not_false_eq_true,true_and,and_true,Int.not_lt,Int.not_le,D8N,Bool.true_eq_false,Bool.false_eq_true,D82,Prod.mk.injEq,Int.reduceEq,Int.reduceBNe,Int.reduceBEq,Int.reduceNe,Int.reduceLT,Int.reduceLE,Nat.reduceAdd,Nat.reduceLeDiff,reduceCtorEq,ge_iff_le,gt_iff_lt,false_and,and_false,true_or,or_true,false_or,or_false,Nat.zero_le] at h
  |with_reducible refine yK ?_ ?_
  |(with_reducible refine yG (fun h=> ?_) (fun h=> ?_))<;>try simp only [D8c,D8r,D8g,D8t,D8G,D8P,D8I,D8C,D9a,D8X,D9b,D8l,D8K,D8i,D81,bne_iff_ne,D84,D80,bne_eq_false_iff_eq,D8w,Bool.not_eq_false',ne_eq,List.nil_append,List.append_nil,D8Q,not_true,not_false_eq_true,true_and,and_true,Int.not_lt,Int.not_le,D8N,Bool.true_eq_false,Bool.false_eq_true,D82,Prod.mk.injEq,Int.reduceEq,Int.reduceBNe,Int.reduceBEq,Int.reduceNe,Int.reduceLT,Int.reduceLE,Nat.reduceAdd,Nat.reduceLeDiff,reduceCtorEq,ge_iff_le,gt_iff_lt,false_and,and_false,true_or,or_true,false_or,or_false,Nat.zero_le] at h
  |with_reducible refine yX ?_ (fun _=> ?_)
  |with_reducible refine yP ?_
  |with_reducible refine yS ?_ (fun _ _=> ?_)
  |(refine yC (fun h=> ?_) (fun h=> ?_))<;>try simp only [D8c,D8r,D8g,D8t,D8G,D8P,D8I,D8C,D9a,D8X,D9b,D8l,D8K,D8i,D81,bne_iff_ne,D84,D80,bne_eq_false_iff_eq,D8w,Bool.not_eq_false',ne_eq,List.nil_append,List.append_nil,D8Q,not_true,not_false_eq_true,true_and,and_true,Int.not_lt,Int.not_le,D8N,Bool.true_eq_false,Bool.false_eq_true,D82,Prod.mk.injEq,Int.reduceEq,Int.reduceBNe,Int.reduceBEq,Int.reduceNe,Int.reduceLT,Int.reduceLE,Nat.reduceAdd,Nat.reduceLeDiff,reduceCtorEq,ge_iff_le,gt_iff_lt,false_and,and_false,true_or,or_true,false_or,or_false,Nat.zero_le] at h
  |refine yB ?_
  |refine yI ?_
  |exact yZ):p:=h
end Go.Win
set_option maxHeartbeats 4000000
namespace Go.Win
open Go.Vc Go.Dec
theorem V8 {α:Type} {b:Bool} {bad:Prop} {X Y:α} (h:b=true↔bad):(bad->cond b X Y=X)/\(¬bad->cond b X Y=Y):=by
 grind
theorem B6o {α:Type} (a b:Bool) (x y:α):cond a x (cond b x y)=cond (a||b) x y:=by cases a<;>rfl
def F0 (l:List A3) (j i:Nat):Int:=(((l.take i).countP fun b=>b.Bd==(j:Int)):Nat)
theorem D2g {l:List A3} {i:Nat} (h:i<l.length) (j:Nat):F0 l j (i+1)=F0 l j i+(if (el l i).Bd=(j:Int) then 1 else 0):=by
 unfold F0;rw [List.take_add_one,A4F h,Option.toList_some,List.countP_append,List.countP_singleton];split<;>simp_all
theorem D5G (l:List A3) (j i:Nat):0<=F0 l j i:=by unfold F0;omega
theorem D5F (l:List A3) (j i:Nat):F0 l j i<=i:=by
 have:(l.take i).countP (fun b=>b.Bd==(j:Int))<=(l.take i).length:=List.countP_le_length;rw [D8C] at this;unfold F0;omega
def A8D (l:List A3) (i:Nat):Prop:= ¬(0<=(el l i).T/\(el l i).T<=16777216/\0<=(el l i).Bd/\(el l i).Bd<=30)\/(0<i/\((el l (i-1)).T>(el l i).T\/(el l (i-1)).Bd<(el l i).Bd))
def B48 (l:List A3) (k:Int) (j:Nat):Prop:=F0 l j l.length>k+1\/((j:Int)<(el l 0).Bd/\F0 l j l.length<k)
def A7W (l:List A3) (k:Int):Prop:=(1<=k/\k<=128)/\(∀i,i<l.length-> ¬A8D l i)/\(0<l.length-> ∀j:Nat,(j:Int)<=(el l 0).Bd-> ¬B48 l k j)
theorem D4a (l:List A3) (i:Nat): [F0 l 0 i,F0 l 1 i,F0 l 2 i,F0 l 3 i,F0 l 4 i,F0 l 5 i,F0 l 6 i,F0 l 7 i,F0 l 8 i,F0 l 9 i,F0 l 10 i,F0 l 11 i,F0 l 12 i,F0 l 13 i,F0 l 14 i,F0 l 15 i,F0 l 16 i,F0 l 17 i,F0 l 18 i,F0 l 19 i,F0 l 20 i,F0 l 21 i,F0 l 22 i,F0 l 23 i,F0 l 24 i,F0 l 25 i,F0 l 26 i,F0 l 27 i,F0 l 28 i,F0 l 29 i,F0 l 30 i]=(List.range 31).map fun j=>F0 l j i:=rfl
theorem C73 (l:List A3) (i:Nat) {L:Int} (h0:0<=L) (h1:L<=30):B9 [F0 l 0 i,F0 l 1 i,F0 l 2 i,F0 l 3 i,F0 l 4 i,F0 l 5 i,F0 l 6 i,F0 l 7 i,F0 l 8 i,F0 l 9 i,F0 l 10 i,F0 l 11 i,F0 l 12 i,F0 l 13 i,F0 l 14 i,F0 l 15 i,F0 l 16 i,F0 l 17 i,F0 l 18 i,F0 l 19 i,F0 l 20 i,F0 l 21 i,F0 l 22 i,F0 l 23 i,F0 l 24 i,F0 l 25 i,F0 l 26 i,F0 l 27 i,F0 l 28 i,F0 l 29 i,F0 l 30 i] L=some (F0 l L.toNat i):=by
 rw [D4a];have:B9 ((List.range 31).map fun j=>F0 l j i) ((L.toNat:Nat):Int)=some (F0 l L.toNat i):=by
  rw [S0,D8J,List.getElem?_range (by omega)]
  rfl
 grind
theorem D2f {l:List A3} {i:Nat} (h:i<l.length) (hl:l.length<=maxLen) (h0:0<=(el l i).Bd) (j:Nat):
  (if (el l i).Bd.toNat=j then A1 (F0 l (el l i).Bd.toNat i+1) else F0 l j i)=F0 l j (i+1):=by
 rw [D2g h];have h1:=D5G l j i;have h2:=D5F l j i;rw [I2] at hl
 by_cases e:(el l i).Bd.toNat=j
 ·rw [if_pos e,e,if_pos (by omega),C4]<;>omega
 omega
def stB (l:List A3) (i:Nat):Int×Int×Int×Int×Int×Int×Int×Int×Int×Int×Int×Int×Int×Int×Int×Int×Int×Int×Int×Int×Int×Int×Int×Int×Int×Int×Int×Int×Int×Int×Int×Int:=((i:Int),F0 l 0 i,F0 l 1 i,F0 l 2 i,F0 l 3 i,F0 l 4 i,F0 l 5 i,F0 l 6 i,F0 l 7 i,F0 l 8 i,F0 l 9 i,F0 l 10 i,F0 l 11 i,F0 l 12 i,F0 l 13 i,F0 l 14 i,F0 l 15 i,F0 l 16 i,F0 l 17 i,F0 l 18 i,F0 l 19 i,F0 l 20 i,F0 l 21 i,F0 l 22 i,F0 l 23 i,F0 l 24 i,F0 l 25 i,F0 l 26 i,F0 l 27 i,F0 l 28 i,F0 l 29 i,F0 l 30 i)
theorem C2r (l:List A3) (k:Int) (hk:1<=k/\k<=128) (h0:0<l.length) (hL:0<=(el l 0).Bd/\(el l 0).Bd<=30) (i:Nat) (hi:i=l.length):
  A4f k (F0 l 0 i) (F0 l 1 i) (F0 l 2 i) (F0 l 3 i) (F0 l 4 i) (F0 l 5 i) (F0 l 6 i) (F0 l 7 i) (F0 l 8 i) (F0 l 9 i) (F0 l 10 i) (F0 l 11 i) (F0 l 12 i) (F0 l 13 i) (F0 l 14 i) (F0 l 15 i) (F0 l 16 i) (F0 l 17 i) (F0 l 18 i) (F0 l 19 i) (F0 l 20 i) (F0 l 21 i) (F0 l 22 i) (F0 l 23 i) (F0 l 24 i) (F0 l 25 i) (F0 l 26 i) (F0 l 27 i) (F0 l 28 i) (F0 l 29 i) (F0 l 30 i) (el l 0) 0=some (G3 (∀j:Nat,(j:Int)<=(el l 0).Bd-> ¬B48 l k j)):=by
 unfold A4f;have H:=R6 (f:=fun s:Int=>A3K k (F0 l 0 i) (F0 l 1 i) (F0 l 2 i) (F0 l 3 i) (F0 l 4 i) (F0 l 5 i) (F0 l 6 i) (F0 l 7 i) (F0 l 8 i) (F0 l 9 i) (F0 l 10 i) (F0 l 11 i) (F0 l 12 i) (F0 l 13 i) (F0 l 14 i) (F0 l 15 i) (F0 l 16 i) (F0 l 17 i) (F0 l 18 i) (F0 l 19 i) (F0 l 20 i) (F0 l 21 i) (F0 l 22 i) (F0 l 23 i) (F0 l 24 i) (F0 l 25 i) (F0 l 26 i) (F0 l 27 i) (F0 l 28 i) (F0 l 29 i) (F0 l 30 i) (el l 0) s) ((el l 0).Bd.toNat+1) (B48 l k) false (some true)
  (fun j hj _=>by
   unfold A3K;have e1:decide ((j:Int)<=(el l 0).Bd)=true:=D8f (by omega)
   have e2:A1 (k+1)=k+1:=by rw [C4]<;>omega
   have e3:A1 ((j:Int)+1)=((j+1:Nat):Int):=by rw [C4]<;>omega
   rw [e1,D8e,C73 l i (by omega) (by omega),D8a]
   simp only [D8a,e2,e3,D8Q]
   by_cases g1:F0 l j i>k+1
   ·simp only [g1,decide_true,D8m,D8F,L6,D8a,D8U,D8e];exact ⟨fun _=>trivial,fun hn=>absurd (.inl (hi▸g1)) hn⟩
   ·simp only [g1,decide_false,D8n,D8L,D8B]
    by_cases g2:(j:Int)<(el l 0).Bd
    ·simp only [g2,decide_true,H7,D8a,D8L];refine V8 ?_;unfold B48
     grind
    ·simp only [g2,decide_false,L6,D8a,D8F,D8d];refine ⟨fun hb=> ?_,fun _=>trivial⟩;unfold B48 at hb
     grind)
  (fun _=>by
   unfold A3K;rw [D8h (by omega),D8d])
 by_cases hb: ∃j:Nat,j<(el l 0).Bd.toNat+1/\B48 l k j
 ·rw [H.1 hb,X6]
  grind
 ·rw [H.2 fun j h1 h2=>hb ⟨j,h1,h2⟩,A2z]
  grind
theorem A8l (l:List A3) (k:Int) (hl:l.length<=maxLen):U6 l k=some (G3 (A7W l k)):=by
 unfold U6
 by_cases hk:1<=k/\k<=128
 ·have e:(decide (k<(1:Int))||decide (k>(128:Int)))=false:=by simp;omega
  rw [e,D8d];unfold A8J;have H: ∀R,((∃i,0<=i/\i<l.length/\A8D l i)->R=some false)/\((∀i,0<=i->i<l.length-> ¬A8D l i)->R=(if 0<l.length then A4f k (F0 l 0 l.length) (F0 l 1 l.length) (F0 l 2 l.length) (F0 l 3 l.length) (F0 l 4 l.length) (F0 l 5 l.length) (F0 l 6 l.length) (F0 l 7 l.length) (F0 l 8 l.length) (F0 l 9 l.length) (F0 l 10 l.length) (F0 l 11 l.length) (F0 l 12 l.length) (F0 l 13 l.length) (F0 l 14 l.length) (F0 l 15 l.length) (F0 l 16 l.length) (F0 l 17 l.length) (F0 l 18 l.length) (F0 l 19 l.length) (F0 l 20 l.length) (F0 l 21 l.length) (F0 l 22 l.length) (F0 l 23 l.length) (F0 l 24 l.length) (F0 l 25 l.length) (F0 l 26 l.length) (F0 l 27 l.length) (F0 l 28 l.length) (F0 l 29 l.length) (F0 l 30 l.length) (el l 0) 0 else some true))->R=some (G3 (A7W l k)):=by
   intro R hR
   by_cases hb: ∃i,0<=i/\i<l.length/\A8D l i
   ·rw [hR.1 hb,X6];intro hn;obtain ⟨i,_,h1,h2⟩:=hb;exact hn.2.1 i h1 h2
   ·have hg: ∀i,0<=i->i<l.length-> ¬A8D l i:=fun i h1 h2 h3=>hb ⟨i,h1,h2,h3⟩;rw [hR.2 hg]
    by_cases h0:0<l.length
    ·have h1:=hg 0 (D8S _) h0;unfold A8D at h1;rw [if_pos h0,C2r l k hk h0 (by omega) l.length rfl]
     congr 1
     rw [D8v,A1Q,A1Q];exact ⟨fun h2=>⟨hk,fun i hi=>hg i (Nat.zero_le _) hi,fun _=>h2⟩,fun h2=>h2.2.2 h0⟩
    ·rw [if_neg h0,A2z];exact ⟨hk,fun i hi=>hg i (Nat.zero_le _) hi,fun h=>absurd h h0⟩
  apply H;refine A5M (stB l) 0 l.length (Nat.zero_le _) (A8D l) false _ (fun i _ hi _=> ?_) (fun hg=> ?_)
  ·simp only [stB];unfold A7M;rw [D8f (by omega),D8e,J5 hi,D8a]
   simp only []
   by_cases hr:0<=(el l i).T/\(el l i).T<=16777216/\0<=(el l i).Bd/\(el l i).Bd<=30
   ·have e1:(!A26 (el l i).T|| !A0T (el l i).Bd)=false:=by
     unfold A26 A0T;simp;omega
    rw [e1,D8d,C73 l i hr.2.2.1 hr.2.2.2];simp only [D8a,D2f hi hl hr.2.2.1,A0s hi hl];rcases i with _|i
    ·simp only [D8D,gt_iff_lt,Int.natCast_zero,decide_false,L6,D8a,D8F,D8d];refine ⟨fun hb=> ?_,fun _=>trivial⟩;unfold A8D at hb;omega
    ·have e2:decide (((i+1:Nat):Int)>0)=true:=D8f (by omega)
     rw [e2,B2S (by omega) (Nat.le_of_lt hi) hl,D8R,J5 (by omega)]
     simp only [H7,D8a,D8L]
     by_cases g1:(el l i).T>(el l (i+1)).T
     ·simp only [g1,decide_true,D8m,L6,D8a,D8U,D8e];exact ⟨fun _=>trivial,fun hn=>absurd (.inr ⟨by omega, .inl (by grind)⟩) hn⟩
     ·simp only [g1,decide_false,D8n,H7,D8a,D8B];refine V8 ?_;unfold A8D
      grind
   ·have e1:(!A26 (el l i).T|| !A0T (el l i).Bd)=true:=by
     unfold A26 A0T
     grind
    rw [e1,D8e];exact ⟨fun _=>rfl,fun hn=>absurd (.inl hr) hn⟩
  ·simp only [stB];unfold A7M;rw [D8h (D8D _),D8d]
   congr 1
   by_cases h0:0<l.length
   ·have e1:((l.length:Int)==0)=false:=by grind
    rw [e1,D8d,if_pos h0,B0x h0,D8a]
   grind
 ·have e:(decide (k<(1:Int))||decide (k>(128:Int)))=true:=by
   grind
  rw [e,D8e,X6];exact fun h=>hk h.1
end Go.Win
set_option maxHeartbeats 4000000
namespace Go.Win
open Go.Vc Go.Dec
theorem C6F:B07=B1h:=rfl
theorem D3q:A9R=M6:=rfl
theorem C8d (a b c:Int):A8b a b c=R7 a b c:=by
 unfold A8b R7 Q2 H4
 grind
theorem A10 (n w t:Int):Q4 n w t=F9 n w t:=by
 unfold Q4 A2S F9 H4 Q2;have e:A3L=A66:=rfl;rw [e];unfold A66
 by_cases h1:n>=0/\n<=16777216
 ·by_cases h2:w>=1/\w<=1048576
  ·have c:(((!(decide (n>=0)&&decide (n<=16777216)))||decide (w<1))||decide (w>1048576))=false:=by
    grind
   simp only [c,D8d];have e1:A1 (n-w)=n-w:=by rw [C4]<;>omega
   have e2:A1 (n-w+1)=n-w+1:=by rw [C4]<;>omega
   rw [e1,e2,D8v];simp only [D8i,D8c,A0t];split<;>omega
  grind
 grind
def B49 (l:List A8) (now:Int) (i:Nat):Bool:=match l[i]? with
 |none=>false
 |some p=>(decide (p.T<0)||decide (p.T>now))||(decide (0<i)&&match l[i-1]? with
  |some q=>decide (q.T>p.T)
  |none=>false)
noncomputable def B0b (l:List A8) (now:Int):Bool:=H4 now&& !(List.range l.length).any (B49 l now)
theorem C0G {i:Nat} (h:0<i) (hm:i<=maxLen):A1 ((i:Int)-1)=((i-1:Nat):Int):=by
 rw [I2] at hm;rw [C4]<;>omega
theorem T0 {i n:Nat} (h:i<n) (hm:n<=maxLen):A1 ((i:Int)+1)=(i:Int)+1:=by
 rw [I2] at hm;rw [C4]<;>omega
theorem M0 {α:Type} {l:List α} {i:Nat} (h:i<l.length):l[i]? =some l[i]:=D8o h
theorem C17 (l:List A8) (now:Int) (hl:l.length<=maxLen):B1h l now=some (B0b l now):=by
 unfold B1h B0b;cases ht:H4 now with
 |false=>rfl
 |true=>
  have h:B0J l now 0=cond ((List.range l.length).any (B49 l now)) (some false) (some true):=by
   unfold B0J;refine A6D (fun i hi=> ?_) ?_
   ·have hs:=T0 hi hl;unfold A9S B49;simp only [Int.ofNat_lt,hi,decide_true,D8e,S0,M0 hi,D8a,hs]
    by_cases h0:0<i
    ·have hp:=C0G h0 (Nat.le_trans (Nat.le_of_lt hi) hl);have h3:((i:Int)>0):=by omega
     simp only [hp,S0,M0 (show i-1<l.length by omega),h3,h0,decide_true,D8L,Bool.and_true]
     cases (decide (l[i].T<0)||decide (l[i].T>now))<;>simp
    simp_all
   ·unfold A9S;simp
  simp only [D8m,D8d,h];cases (List.range l.length).any (B49 l now)<;>rfl
noncomputable def B1c (l:List A8) (now w:Int):List A8:=l.filter fun p=>F9 now w p.T
def C4K {α:Type} (p:α->Bool) (l:List α) (i:Nat) (b:List α):List α:=match l[i]? with
 |some x=>if p x then b++ [x] else b
 |none=>b
theorem C5r {α:Type} (p:α->Bool) (l:List α): ∀(k:Nat) (acc:List α),k<=l.length->(List.range' (l.length-k) k).foldl (fun b i=>C4K p l i b) acc=acc++(l.drop (l.length-k)).filter p:=by
 intro k
 induction k with
 |zero=>simp
 |succ k ih=>
  intro acc hk;have hi:l.length-(k+1)<l.length:=by omega
  have e:l.length-(k+1)+1=l.length-k:=by omega
  rw [List.range'_succ,List.foldl_cons,e,ih _ (by omega),List.drop_eq_getElem_cons hi,List.filter_cons,e,C4K,M0 hi]
  simp only;split<;>simp
theorem D0S (l:List A8) (n w:Int) (hl:l.length<=1000000):B11 l n w [] 0=some (B1c l n w):=by
 have hm:l.length<=maxLen:=by rw [I2];omega
 unfold B11;obtain ⟨h,_⟩:=C9m (R:=List A8) (f:=fun s:List A8×Int=>A65 l n w s.1 s.2) (fun i b=>(b,(i:Int))) l.length (fun i b=>b.length<=i)
  (C4K (fun p=>Q4 n w p.T) l) (fun b=>some b) (fun i b hi hb=>by
    have hs:=T0 hi hm;unfold A65 C4K;simp only [Int.ofNat_lt,hi,decide_true,D8e,S0,M0 hi,D8a,hs];have hk:decide ((b.length+ [l[i]].length)*16<=140737488355328)=true:=by grind
    rw [hk]
    by_cases hc:Q4 n w l[i].T=true
    ·simp_all
    grind) (fun b _=>by
    unfold A65;simp) [] (by simp)
 have hf:=C5r (fun p=>Q4 n w p.T) l l.length [] (D8S _);rw [Nat.sub_self,<-List.range_eq_range'] at hf;simp only [List.drop_zero,List.nil_append] at hf;refine h.trans ?_;show some _=some _
 congr 1
 refine hf.trans ?_;unfold B1c;simp only [A10]
theorem C85 (l:List A8) (n w:Int) (hl:l.length<=1000000):B2J l n w=some (if B0b l n then B1c l n w else []):=by
 unfold B2J;rw [C6F,C17 l n (by rw [I2];omega)]
 cases B0b l n with
 |false=>rfl
 |true=>simp [D0S l n w hl]
theorem C1k (l:List A8) (hl:l.length<=maxLen):A3W l l=some true:=by
 have h:A6M l l 0=cond ((List.range l.length).any fun _=>false) (some false) (some true):=by
  unfold A6M;refine A6D (fun i hi=> ?_) ?_
  ·unfold A5U;simp [hi,T0 hi hl]
  ·unfold A5U;simp
 have hf:((List.range l.length).any fun _=>false)=false:=by simp
 rw [hf] at h;unfold A3W;simp [h]
theorem C9S (x:D0) (hl:x.Bc.length<=maxLen):B2X x x=some true:=by
 unfold B2X;simp [C1k x.Bc hl]
theorem B0c (x:D0):Y2 x=A4U x:=by
 have e:A5T=A1I:=by
  funext x i
  unfold A5T A1I;simp only [A10,D3q]
 unfold Y2 A4U B1G A4j;rw [e,C8d,C6F]
noncomputable def okV (x:D0):Bool:=(R7 x.W x.Cap x.Now&&decide ((x.Bc.length:Int)<=x.Cap))&&(B0b x.Bc x.Now&&x.Bc.all fun p=>F9 x.Now x.W p.T&&M6 p.V)
theorem D34 {α:Type} {l:List α} {p:α->Bool}:(List.range l.length).any (fun i=>match l[i]? with
  |some x=> !p x
  |none=>false)= !l.all p:=by
 rw [D8v,C2o];constructor
 ·grind
 ·intro h;simp only [D8w] at h;rw [List.all_eq_false] at h;obtain ⟨x,hx,hp⟩:=h;obtain ⟨i,hi,rfl⟩:=List.mem_iff_getElem.1 hx;refine ⟨i,hi, ?_⟩
  grind
theorem A7G (x:D0) (hl:x.Bc.length<=maxLen):A4U x=some (if okV x then 0 else 2):=by
 have h:A4j x 0=cond (!(x.Bc.all fun p=>F9 x.Now x.W p.T&&M6 p.V)) (some 2) (some 0):=by
  rw [<-D34];unfold A4j;refine A6D (fun i hi=> ?_) ?_
  ·unfold A1I;simp only [Int.ofNat_lt,hi,decide_true,D8e,S0,M0 hi,D8a,T0 hi hl,Bool.not_and]
  ·unfold A1I;simp
 unfold A4U okV;rw [C17 x.Bc x.Now hl,h];have hd:decide ((x.Bc.length:Int)>x.Cap)= !decide ((x.Bc.length:Int)<=x.Cap):=by
  grind
 rw [hd];cases R7 x.W x.Cap x.Now<;>cases decide ((x.Bc.length:Int)<=x.Cap)<;>cases B0b x.Bc x.Now<;>cases (x.Bc.all fun p=>F9 x.Now x.W p.T&&M6 p.V)<;>rfl
theorem D1b {x:D0} (h:okV x=true):1<=x.W/\x.W<=1048576/\1<=x.Cap/\x.Cap<=65536/\0<=x.Now/\x.Now<=16777216/\(x.Bc.length:Int)<=x.Cap:=by
 unfold okV R7 Q2 H4 at h
 grind
theorem D3Z (x:D0) (v:Int) (hl:x.Bc.length<=maxLen):T (A7i x v) fun r=>r.1.Bc.length<=65537:=by
 unfold A7i;rw [B0c,A7G x hl];cases hv:okV x with
 |false=>exact yT
 |true=>have:=D1b hv;exact yT
end Go.Win
set_option maxHeartbeats 4000000
namespace Go.Win
open Go.Vc Go.Dec
theorem D42 (a b:Int):A1 (A1 a+b)=A1 (a+b):=by
 rw [A8i,A8i,A8i];omega
theorem A9l (t:Int):H4 t=true↔0<=t/\t<=16777216:=by unfold H4;simp
theorem B54 (w c n:Int):R7 w c n=true↔(1<=w/\w<=1048576)/\(1<=c/\c<=65536)/\(0<=n/\n<=16777216):=by
 unfold R7 Q2 H4;simp;omega
theorem C5J (k:Int):U3 k=true↔1<=k/\k<=64:=by unfold U3;simp
theorem D1N (v:Int):M6 v=true↔ -4096<=v/\v<=4096:=by unfold M6;simp
theorem A36 (n w t:Int):F9 n w t=true↔(0<=n/\n<=16777216)/\(1<=w/\w<=1048576)/\(0<=t/\t<=16777216)/\n-w<t/\t<=n:=by
 unfold F9 Q2 H4;simp only [D8i,D8c];constructor
 ·rintro ⟨⟨⟨⟨h1,h2⟩,h3⟩,h4⟩,h5⟩;rw [C4 (by omega) (by omega)] at h4
  omega
 ·rintro ⟨h1,h2,h3,h4,h5⟩;rw [C4 (by omega) (by omega)]
  omega
theorem D2C: ∀n:Fin 31,E5 .i64 1 (A5 (n.1:Int))=2^n.1:=by decide+kernel
theorem C9g {L:Int} (h0:0<=L) (h1:L<=30):E5 .i64 1 (A5 L)=2^L.toNat:=by
 have:=D2C ⟨L.toNat,by omega⟩
 simp only [] at this;rw [<-this]
 congr 2
 omega
def A8A (b:A3):Int:=if 0<=b.Bd/\b.Bd<=30 then 2^b.Bd.toNat else 0
def U9 (l:List A3):Int:=(l.map A8A).sum
theorem C6B:U9 []=0:=rfl
theorem B1X (b:A3) (l:List A3):U9 (b::l)=A8A b+U9 l:=by simp [U9]
theorem C0e (a b:List A3):U9 (a++b)=U9 a+U9 b:=by simp [U9]
theorem C6o (b:A3):0<=A8A b:=by
 unfold A8A;split
 ·exact Int.pow_nonneg (by decide)
 ·exact Int.le_refl 0
theorem C3c (l:List A3):0<=U9 l:=by
 induction l with
 |nil=>exact Int.le_refl 0
 |cons b l ih=>rw [B1X];have:=C6o b;omega
theorem D1J {l:List A3} {i:Nat} (h:i<l.length):U9 (l.take (i+1))=U9 (l.take i)+A8A (el l i):=by
 rw [List.take_add_one,A4F h,Option.toList_some,C0e,B1X,C6B];omega
theorem B1i (l:List A3) (hl:l.length<=maxLen):A8c l=some (A1 (U9 l)):=by
 unfold A8c B57;have H:=A5M (f:=fun s:Int×Int=>A6e l s.1 s.2) (fun i=>(A1 (U9 (l.take i)),(i:Int))) 0 l.length (Nat.zero_le _) (fun _=>False) 0 (some (A1 (U9 l)))
  (fun i _ hi _=>by
   refine ⟨fun h=>h.elim,fun _=> ?_⟩;simp only [];unfold A6e;rw [D8f (by omega:(i:Int)<(l.length:Int)),D8e,J5 hi,D8a,A0s hi hl,D1J hi]
   unfold A8A
   by_cases h:0<=(el l i).Bd/\(el l i).Bd<=30
   ·rw [D8f h.1,D8f h.2,if_pos h,C9g h.1 h.2,D42];have:decide (0<=A5 (el l i).Bd)=true:=D8f (by rw [K2];omega)
    rw [this];rfl
   ·have e:(decide ((el l i).Bd>=0)&&decide ((el l i).Bd<=30))=false:=by
     rw [D8q];simpa using h
    rw [e,if_neg h,D8d,Int.add_zero])
  (fun _=>by
   simp only [];unfold A6e;rw [D8h (D8D _),D8d,List.take_length])
 exact H.2 (fun _ _ _ h=>h)
theorem B3n:L7=A8c:=rfl
def A3c (l:List A3) (W K Cap Now:Int):Prop:=
 ((1<=W/\W<=1048576)/\(1<=Cap/\Cap<=65536)/\(0<=Now/\Now<=16777216)/\(1<=K/\K<=64))/\A7W l K/\A1 (U9 l)<=Cap/\ ∀i,i<l.length->F9 Now W (el l i).T=true
theorem B0u (w k c n:Int):A62 w k c n=true↔(1<=w/\w<=1048576)/\(1<=c/\c<=65536)/\(0<=n/\n<=16777216)/\(1<=k/\k<=64):=by
 unfold A62;simp;omega
theorem A20 (x:E4) (hl:x.Ad.length<=maxLen):W9 x=some (R0 (A3c x.Ad x.W x.K x.Cap x.Now)):=by
 unfold W9;simp only []
 by_cases h1:A62 x.W x.K x.Cap x.Now=true
 ·have h1' :=(B0u _ _ _ _).1 h1;rw [h1,A8l _ _ hl,B3n,B1i _ hl];simp only [D8m,D8n,H7,D8a,D8B]
  by_cases h2:A7W x.Ad x.K
  ·rw [A2z h2];simp only [D8m,D8n,H7,D8a,D8B]
   by_cases h3:A1 (U9 x.Ad)<=x.Cap
   ·rw [D8h (by omega),D8d]
    unfold B2v;have H:=R6 (f:=fun s:Int=>A3P x s) x.Ad.length (fun i=> ¬F9 x.Now x.W (el x.Ad i).T=true) 2 (some 0)
     (fun i hi _=>by
      unfold A3P;rw [D8f (by omega:(i:Int)<(x.Ad.length:Int)),D8e,J5 hi,D8a,A0s hi hl]
      refine V8 ?_;simp [A10])
     (fun _=>by
      unfold A3P;rw [D8h (D8D _),D8d])
    by_cases h4: ∀i,i<x.Ad.length->F9 x.Now x.W (el x.Ad i).T=true
    ·rw [H.2 fun i hi hn=>hn (h4 i hi),O3];exact ⟨h1',h2,h3,h4⟩
    ·rw [H.1,J7]
     ·exact fun h=>h4 h.2.2.2
     ·exact D85 fun hn=>h4 fun i hi=>D85 fun hc=>hn ⟨i,hi,hc⟩
   ·rw [D8f (by omega),D8e,J7]
    exact fun h=>h3 h.2.2.1
  ·rw [X6 h2];simp only [D8m,D8n,L6,D8a,D8U,D8e];rw [J7];exact fun h=>h2 h.2.1
 ·have h1' :=fun h=>h1 ((B0u _ _ _ _).2 h);rw [Bool.not_eq_true] at h1;rw [h1];simp only [D8m,D8n,L6,D8a,D8U,D8e];rw [J7];exact fun h=>h1' h.1
theorem B35 (w k c m n:Int):B0P w k c m n=true↔((1<=w/\w<=1048576)/\(1<=c/\c<=65536)/\(0<=n/\n<=16777216)/\(1<=k/\k<=64))/\(1<=m/\m<=1024):=by
 unfold B0P;simp;omega
def B9l (x:F3):Prop:=A3c x.Ad x.W x.K x.Cap x.Now/\(1<=x.Bu/\x.Bu<=1024)
theorem A96 (x:F3) (hl:x.Ad.length<=maxLen):A3d x=some (R0 (B9l x)):=by
 unfold A3d;simp only []
 by_cases h1:B0P x.W x.K x.Cap x.Bu x.Now=true
 ·have h1' :=(B35 _ _ _ _ _).1 h1;rw [h1,A8l _ _ hl,B3n,B1i _ hl];simp only [D8m,D8n,H7,D8a,D8B]
  by_cases h2:A7W x.Ad x.K
  ·rw [A2z h2];simp only [D8m,D8n,H7,D8a,D8B]
   by_cases h3:A1 (U9 x.Ad)<=x.Cap
   ·rw [D8h (by omega),D8d]
    unfold B44;have H:=R6 (f:=fun s:Int=>A5q x s) x.Ad.length (fun i=> ¬F9 x.Now x.W (el x.Ad i).T=true) 2 (some 0)
     (fun i hi _=>by
      unfold A5q;rw [D8f (by omega:(i:Int)<(x.Ad.length:Int)),D8e,J5 hi,D8a,A0s hi hl]
      refine V8 ?_;simp [A10])
     (fun _=>by
      unfold A5q;rw [D8h (D8D _),D8d])
    by_cases h4: ∀i,i<x.Ad.length->F9 x.Now x.W (el x.Ad i).T=true
    ·rw [H.2 fun i hi hn=>hn (h4 i hi),O3];exact ⟨⟨h1'.1,h2,h3,h4⟩,h1'.2⟩
    ·rw [H.1,J7]
     ·exact fun h=>h4 h.1.2.2.2
     ·exact D85 fun hn=>h4 fun i hi=>D85 fun hc=>hn ⟨i,hi,hc⟩
   ·rw [D8f (by omega),D8e,J7]
    exact fun h=>h3 h.1.2.2.1
  ·rw [X6 h2];simp only [D8m,D8n,L6,D8a,D8U,D8e];rw [J7];exact fun h=>h2 h.1.2.1
 ·have h1' :=fun h=>h1 ((B35 _ _ _ _ _).2 h);rw [Bool.not_eq_true] at h1;rw [h1];simp only [D8m,D8n,L6,D8a,D8U,D8e];rw [J7];exact fun h=>h1' ⟨h.1.1,h.2⟩
theorem C7X (l:List A3) (hl:l.length<=maxLen):A9T l l=some true:=by
 unfold A9T;rw [D8N,D8d];unfold B7q;refine (R6 (f:=fun s:Int=>A7l l l s) l.length (fun _=>False) false (some true) (fun i hi _=>⟨fun h=>h.elim,fun _=> ?_⟩) (fun _=> ?_)).2 fun _ _ h=>h
 ·unfold A7l;rw [D8f (by omega:(i:Int)<(l.length:Int)),D8e,J5 hi]
  simp [A0s hi hl]
 ·unfold A7l;rw [D8h (D8D _),D8d]
theorem C7C (x:E4) (hl:x.Ad.length<=maxLen):B2Y x x=some true:=by
 unfold B2Y;simp [C7X _ hl]
theorem C7D (x:F3) (hl:x.Ad.length<=maxLen):B2Z x x=some true:=by
 unfold B2Z;simp [C7X _ hl]
end Go.Win
set_option maxHeartbeats 4000000
namespace Go.Win
open Go.Vc Go.Dec
def mk1 (seq cap now:Int) (m:A6):Prop:=(1<=m.Bx/\m.Bx<=seq)/\m.N=seq-m.Bx+1/\m.N<=cap/\0<=m.T/\m.T<=now
def mk2 (lo:Int) (m:A6):Prop:=lo<=m.Bv/\m.Bv<=m.Bu/\m.Bu<=4096/\A0a m.N m.Bv m.Bu m.S m.Q=true
def mk4 (o m:A6):Prop:=o.Bx<m.Bx/\o.T<=m.T/\o.Bv<=m.Bv/\m.Bu<=o.Bu/\A0a (A1 (o.N-m.N)) o.Bv o.Bu (A1 (o.S-m.S)) (A1 (o.Q-m.Q))=true
def B8m (seq:Int) (m:A6):Prop:=m.Bx=seq/\m.Bv=m.S/\m.Bu=m.S/\m.Q=A1 (m.S*m.S)
def B8q (l:List A6) (seq cap now w lo:Int) (i:Nat):Prop:=
 mk1 seq cap now (el l i)/\mk2 lo (el l i)/\((0<i\/l.length=1)->F9 now w (el l i).T=true)/\(0<i->mk4 (el l (i-1)) (el l i))
def A4Q (l:List A6) (seq cap now w lo:Int):Prop:=
 (0<=seq/\seq<=1099511627776)/\(∀i,i<l.length->B8q l seq cap now w lo i)/\(0<l.length->B8m seq (el l (l.length-1)))
theorem A7d {n:Nat} {p:Nat->Prop} (h:¬ ∀i,i<n->p i): ∃i,i<n/\ ¬p i:=
 D85 fun hn=>h fun i hi=>D85 fun hc=>hn ⟨i,hi,hc⟩
theorem C5N {seq cap now:Int} (hs:0<=seq/\seq<=1099511627776) (m:A6):
  (((((decide (m.Bx<1)||decide (m.Bx>seq))||(m.N !=A1 (A1 (seq-m.Bx)+1)))||decide (m.N>cap))||decide (m.T<0))||decide (m.T>now))=true↔ ¬mk1 seq cap now m:=by
 unfold mk1
 by_cases h:1<=m.Bx/\m.Bx<=seq
 ·have e:A1 (A1 (seq-m.Bx)+1)=seq-m.Bx+1:=by rw [C4 (n:=seq-m.Bx) (by omega) (by omega),C4]<;>omega
  grind
 grind
theorem D1a (l:List A6) (seq cap now w lo:Int) (i:Nat):B8q l seq cap now w lo (i+1)↔
  mk1 seq cap now (el l (i+1))/\mk2 lo (el l (i+1))/\F9 now w (el l (i+1)).T=true/\mk4 (el l i) (el l (i+1)):=by
 unfold B8q;simp
theorem B9X (l:List A6) (seq cap now w lo:Int) (hl:l.length<=maxLen):A79 l seq cap now w lo=some (G3 (A4Q l seq cap now w lo)):=by
 unfold A79
 by_cases hs:0<=seq/\seq<=1099511627776
 ·have e:(decide (seq<0)||decide (seq>1099511627776))=false:=by simp;omega
  rw [e,D8d];unfold B53;have H:=R6 (f:=fun s:Int=>A6c l seq cap now w lo s) l.length (fun i=> ¬B8q l seq cap now w lo i) false (some (G3 (0<l.length->B8m seq (el l (l.length-1)))))
   (fun i hi _=>by
    unfold A6c;rw [D8f (by omega:(i:Int)<(l.length:Int)),D8e,J5 hi,D8a,A0s hi hl]
    simp only [A10]
    by_cases h1:mk1 seq cap now (el l i)
    ·have e1:=D8q.2 (fun h=>(C5N (cap:=cap) (now:=now) hs (el l i)).1 h h1);rw [e1,D8d]
     by_cases h2:mk2 lo (el l i)
     ·have e2:((((decide ((el l i).Bv<lo))||(decide ((el l i).Bu>(4096:Int))))||(decide ((el l i).Bv>(el l i).Bu)))||(!(A0a (el l i).N (el l i).Bv (el l i).Bu (el l i).S (el l i).Q)))=false:=by
       have:=h2.2.2.2;unfold mk2 at h2
       grind
      rw [e2,D8d];rcases i with _|i
      ·have e3:(((0:Nat):Int)==0)=true:=rfl;have e4:decide (((0:Nat):Int)>0)=false:=rfl;rw [e3,e4,D8e,D8B];refine V8 ?_;unfold B8q;simp only [D8i,D84,D8w,Nat.lt_irrefl,false_or,false_implies,and_true,h1,h2,true_and];have:((l.length:Int)=1)↔l.length=1:=by omega
       rw [this,Classical.not_imp,Bool.not_eq_true]
      ·have e3:(((i+1:Nat):Int)==0)=false:=by rfl
       have e4:decide (((i+1:Nat):Int)>0)=true:=D8f (by omega)
       rw [e3,e4,D8d,D8U,D8L,B2S (by omega) (Nat.le_of_lt hi) hl,D8R,J5 (by omega),D8a]
       simp only [B6o];refine V8 ?_;rw [D1a];simp only [h1,h2,true_and,D8l,D8w,D8c];unfold mk4
       grind
     ·have e2:((((decide ((el l i).Bv<lo))||(decide ((el l i).Bu>(4096:Int))))||(decide ((el l i).Bv>(el l i).Bu)))||(!(A0a (el l i).N (el l i).Bv (el l i).Bu (el l i).S (el l i).Q)))=true:=by
       unfold mk2 at h2
       grind
      rw [e2,D8e];exact ⟨fun _=>rfl,fun hn=>absurd (fun h=>h2 h.2.1) hn⟩
    ·have e1:=(C5N (cap:=cap) (now:=now) hs (el l i)).2 h1;rw [e1,D8e];exact ⟨fun _=>rfl,fun hn=>absurd (fun h=>h1 h.1) hn⟩)
   (fun _=>by
    unfold A6c;rw [D8h (D8D _),D8d]
    congr 1
    by_cases h0:0<l.length
    ·have e1:((l.length:Int)==0)=false:=by grind
     rw [e1,D8d,B2S h0 (D8S _) hl,J5 (by omega),D8a]
     congr 1
     rw [D8v,A1Q];unfold B8m
     grind
    ·have e1:((l.length:Int)==0)=true:=by
      grind
     rw [e1,D8e,A2z];omega)
  by_cases h: ∀i,i<l.length->B8q l seq cap now w lo i
  ·rw [H.2 fun i hi hn=>hn (h i hi)]
   congr 1
   rw [D8v,A1Q,A1Q];exact ⟨fun h2=>⟨hs,h,h2⟩,fun h2=>h2.2.2⟩
  ·rw [H.1 (A7d h),X6];exact fun h2=>h h2.2.1
 ·have e:(decide (seq<0)||decide (seq>1099511627776))=true:=by grind
  rw [e,D8e,X6];exact fun h=>hs h.1
theorem B3K {n lo hi s q:Int} (hn:0<=n/\n<=65536) (hlo:-4096<=lo/\lo<=4096) (hhi:-4096<=hi/\hi<=4096):
  A0a n lo hi s q=true↔n*lo<=s/\s<=n*hi/\0<=q/\q<=n*16777216/\s*s<=n*q:=by
 have b: ∀x:Int,-4096<=x->x<=4096-> -268435456<=n*x/\n*x<=268435456:=by
  intro x h1 h2;have h3:=Int.mul_le_mul_of_nonneg_left h1 hn.1;have h4:=Int.mul_le_mul_of_nonneg_left h2 hn.1;omega
 have b1:=b lo hlo.1 hlo.2;have b2:=b hi hhi.1 hhi.2;unfold A0a;rw [C4 (n:=n*lo) (by omega) (by omega),C4 (n:=n*hi) (by omega) (by omega),C4 (n:=n*4096) (by omega) (by omega),C4 (n:=n*4096*4096) (by omega) (by omega)]
 simp only [D8i,D8c];have e:n*4096*4096=n*16777216:=by omega
 rw [e];constructor
 ·rintro ⟨⟨⟨⟨h1,h2⟩,h3⟩,h4⟩,h5⟩;have hs:s*s<=268435456*268435456:=by
   have h6:s.natAbs*s.natAbs<=268435456*268435456:=Nat.mul_le_mul (by omega) (by omega)
   grind
  have hs0:0<=s*s:=by
   have e2:(s.natAbs:Int)*s.natAbs=s*s:=Int.natAbs_mul_self
   grind
  have hq:n*q<=65536*1099511627776:=Int.mul_le_mul hn.2 (by omega) h3 (by omega)
  have hq0:0<=n*q:=Int.mul_nonneg hn.1 h3;rw [C4 (by omega) (by omega),C4 (by omega) (by omega)] at h5
  omega
 ·rintro ⟨h1,h2,h3,h4,h5⟩;have hs0:0<=s*s:=by
   have e2:(s.natAbs:Int)*s.natAbs=s*s:=Int.natAbs_mul_self
   grind
  have hq:n*q<=65536*1099511627776:=Int.mul_le_mul hn.2 (by omega) h3 (by omega)
  have hq0:0<=n*q:=Int.mul_nonneg hn.1 h3;rw [C4 (n:=s*s) (by omega) (by omega),C4 (n:=n*q) (by omega) (by omega)]
  omega
theorem A8W (agg:Int): -4096<=Z5 agg:=by
 unfold Z5;cases (agg==2||agg==3)<;>decide
end Go.Win
set_option maxHeartbeats 4000000
namespace Go.Win
open Go.Vc Go.Dec
def I0 (w:A2):Prop:=0<=w.Hi/\w.Hi<18446744073709551616/\0<=w.Lo/\w.Lo<18446744073709551616
def wv (w:A2):Int:=w.Hi*18446744073709551616+w.Lo
def J0 (n:Int):A2:=⟨n/18446744073709551616,n%18446744073709551616⟩
theorem A0q (n:Int):wv (J0 n)=n:=by
 unfold wv J0;simp only;omega
theorem A0C {n:Int} (h0:0<=n) (h1:n<340282366920938463463374607431768211456):I0 (J0 n):=by
 unfold I0 J0;simp only;omega
theorem D5Y {w:A2} (h:I0 w):J0 (wv w)=w:=by
 obtain ⟨a,b⟩:=w;unfold I0 at h;unfold J0 wv;simp only at h⊢
 congr 1<;>omega
theorem A84 {w:A2} (h:I0 w):0<=wv w/\wv w<340282366920938463463374607431768211456:=by
 unfold I0 at h;unfold wv;omega
theorem C4H (x y c:Int) (hx:0<=x) (hy:0<=y) (h0:0<=c) (h1:c<=1):N9 x y c=some ((x+y+c)%18446744073709551616,(x+y+c)/18446744073709551616):=by
 unfold N9;rw [D8f (⟨hx,hy,h0,h1⟩:0<=x/\0<=y/\0<=c/\c<=1)]
 rfl
theorem B9o (x y b:Int) (hx:0<=x) (hy:0<=y) (h0:0<=b) (h1:b<=1) (h2:y<18446744073709551616):P9 x y b=some ((x+18446744073709551616-y-b)%18446744073709551616,if x<y+b then 1 else 0):=by
 unfold P9;rw [D8f (⟨hx,hy,h0,h1,by omega⟩:0<=x/\0<=y/\0<=b/\b<=1/\y+b<=x+18446744073709551616)]
 rfl
theorem B6U {a b:A2} (ha:I0 a) (hb:I0 b):A5v a b=some (if wv a+wv b<340282366920938463463374607431768211456 then (J0 (wv a+wv b),true) else (⟨0,0⟩,false)):=by
 unfold I0 at ha hb;unfold A5v;rw [C4H _ _ _ (by omega) (by omega) (by omega) (by omega)]
 simp only [D8a];rw [C4H _ _ _ (by omega) (by omega) (by omega) (by omega)]
 simp only [D8a];unfold wv
 by_cases h:a.Hi*18446744073709551616+a.Lo+(b.Hi*18446744073709551616+b.Lo)<340282366920938463463374607431768211456
 ·rw [if_pos h];have e:(a.Hi+b.Hi+(a.Lo+b.Lo+0)/18446744073709551616)/18446744073709551616=0:=by omega
  rw [e];simp only [D8N,D8d];unfold J0
  congr 3<;>omega
 ·rw [if_neg h];have e:((a.Hi+b.Hi+(a.Lo+b.Lo+0)/18446744073709551616)/18446744073709551616 !=0)=true:=by
   rw [bne_iff_ne];omega
  rw [e];rfl
theorem C6Q {a b:A2} (ha:I0 a) (hb:I0 b):B4g a b=some (if wv b<=wv a then (J0 (wv a-wv b),true) else (⟨0,0⟩,false)):=by
 unfold I0 at ha hb;unfold B4g;rw [B9o _ _ _ (by omega) (by omega) (by omega) (by omega) (by omega)]
 simp only [D8a];unfold wv
 by_cases hl:a.Lo<b.Lo+0
 ·rw [if_pos hl,B9o _ _ _ (by omega) (by omega) (by omega) (by omega) (by omega)]
  simp only [D8a]
  by_cases h:b.Hi*18446744073709551616+b.Lo<=a.Hi*18446744073709551616+a.Lo
  ·rw [if_pos h,if_neg (by omega)]
   simp only [D8N,D8d];unfold J0
   congr 3<;>omega
  ·rw [if_neg h,if_pos (by omega)]
   rfl
 ·rw [if_neg hl,B9o _ _ _ (by omega) (by omega) (by omega) (by omega) (by omega)]
  simp only [D8a]
  by_cases h:b.Hi*18446744073709551616+b.Lo<=a.Hi*18446744073709551616+a.Lo
  ·rw [if_pos h,if_neg (by omega)]
   simp only [D8N,D8d];unfold J0
   congr 3<;>omega
  ·rw [if_neg h,if_pos (by omega)]
   rfl
theorem B0k {a b:A2} (ha:I0 a) (hb:I0 b):R8 a b=if wv a<wv b then-1 else if wv a=wv b then 0 else 1:=by
 unfold I0 at ha hb;unfold R8 wv
 by_cases h:(decide (a.Hi<b.Hi)||((a.Hi==b.Hi)&&decide (a.Lo<b.Lo)))=true
 ·rw [h,D8e];simp only [D8l,D8i,D8c,D84] at h;rw [if_pos (by omega)]
 ·rw [Bool.not_eq_true] at h;rw [h,D8d];simp only [D8K,D81,D8r,D80] at h
  by_cases h2:(a.Hi==b.Hi&&(a.Lo==b.Lo&&true))=true
  ·rw [h2,D8e];simp only [D8i,D84] at h2;rw [if_neg (by omega),if_pos (by omega)]
  ·rw [Bool.not_eq_true] at h2;rw [h2,D8d];simp only [D81,D80,Bool.true_eq_false,or_false] at h2;rw [if_neg (by omega),if_neg (by omega)]
theorem B6P {a:Int} (h1:-9223372036854775808<=a) (h2:a<=9223372036854775807):A0z a=if a<0 then-a else a:=by
 unfold A0z
 by_cases h:a<0
 ·rw [D8f h,D8e,if_pos h,K2];show IntKind.u64.wrap _=_;rw [IntKind.wrap_u64];omega
 ·rw [D8h h,D8d,if_neg h,K2];omega
theorem C7U {a:Int} (h1:-9223372036854775808<=a) (h2:a<=9223372036854775807):A9f a=if a<0 then-a else a:=by
 unfold A9f
 by_cases h:a<0
 ·rw [D8f h,D8e,if_pos h];have e1:A1 (a+1)=a+1:=by rw [C4]<;>omega
  have e2:IntKind.i64.wrap (0-(a+1))= -a-1:=by rw [IntKind.wrap_i64];omega
  rw [e1,e2,K2,K2];omega
 ·rw [D8h h,D8d,if_neg h,K2];omega
end Go.Win
set_option maxHeartbeats 4000000
namespace Go.Win
open Go.Vc Go.Dec
theorem D5r {x:Int} (h0:0<=x) (h1:x<18446744073709551616):((BitVec.ofInt IntKind.u64.bits x&&&BitVec.ofInt IntKind.u64.bits 4294967295).toNat:Int)=x%4294967296:=by
 obtain ⟨n,rfl⟩:=Int.eq_ofNat_of_zero_le h0;have e:(BitVec.ofInt IntKind.u64.bits (n:Int)&&&BitVec.ofInt IntKind.u64.bits 4294967295).toNat=n%4294967296:=by
  have hb:IntKind.u64.bits=64:=rfl;rw [hb,BitVec.toNat_and,BitVec.toNat_ofInt,BitVec.toNat_ofInt];have h2:(((n:Int)%((2^64:Nat):Int)).toNat)=n:=by omega
  have h3:((4294967295:Int)%((2^64:Nat):Int)).toNat=2^32-1:=by decide
  rw [h2,h3,Nat.and_two_pow_sub_one_eq_mod]
 omega
theorem C5v {x:Int} (h0:0<=x) (h1:x<18446744073709551616):P7 .u64 x 4294967295=x%4294967296:=by
 show IntKind.u64.wrap _=_;rw [D5r h0 h1,IntKind.wrap_u64];omega
theorem C5z (x:Int):G0 .u64 x 32=x/4294967296:=by
 show x.fdiv (2^(min (32:Int).toNat IntKind.u64.bits))=_;have:(2:Int)^(min (32:Int).toNat IntKind.u64.bits)=4294967296:=by decide
 rw [this,Int.fdiv_eq_ediv_of_nonneg _ (by decide)]
theorem D7s (a b c d:Int):(a*4294967296+b)*(c*4294967296+d)=(a*c)*18446744073709551616+(a*d+b*c)*4294967296+b*d:=by
 grind
theorem B81 {a b:Int} (ha:0<=a/\a<4294967296) (hb:0<=b/\b<4294967296):0<=a*b/\a*b<=18446744065119617025:=by
 refine ⟨Int.mul_nonneg ha.1 hb.1, ?_⟩;have:=Int.mul_le_mul (show a<=4294967295 by omega) (show b<=4294967295 by omega) hb.1 (by decide)
 omega
theorem C4M {x y:Int} (hx:0<=x/\x<18446744073709551616) (hy:0<=y/\y<18446744073709551616):Y1 x y=(x*y/18446744073709551616,x*y%18446744073709551616):=by
 unfold Y1;have e:=D7s (x/4294967296) (x%4294967296) (y/4294967296) (y%4294967296);rw [show x/4294967296*4294967296+x%4294967296=x by omega,show y/4294967296*4294967296+y%4294967296=y by omega] at e
 have bp:=B81 (a:=x%4294967296) (b:=y%4294967296) (by omega) (by omega)
 have bq:=B81 (a:=x/4294967296) (b:=y%4294967296) (by omega) (by omega)
 have br:=B81 (a:=x%4294967296) (b:=y/4294967296) (by omega) (by omega)
 have bs:=B81 (a:=x/4294967296) (b:=y/4294967296) (by omega) (by omega)
 congr 1
 ·rw [C5v hx.1 hx.2,C5v hy.1 hy.2,C5z,C5z]
  generalize x%4294967296*(y%4294967296)=p at*
  generalize x/4294967296*(y%4294967296)=q at*
  generalize x%4294967296*(y/4294967296)=r at*
  generalize x/4294967296*(y/4294967296)=s at*
  have w1: ∀n:Int,0<=n->n<18446744073709551616->A5 n=n:=fun n h1 h2=>by rw [K2];omega
  simp only [C5z];rw [w1 p (by omega) (by omega),w1 q (by omega) (by omega),w1 (q+p/4294967296) (by omega) (by omega),C5v (by omega) (by omega),w1 r (by omega) (by omega),w1 ((q+p/4294967296)%4294967296+r) (by omega) (by omega),w1 s (by omega) (by omega),
   w1 (s+(q+p/4294967296)/4294967296) (by omega) (by omega),w1 _ (by omega) (by omega)]
  omega
theorem A9e {x y:Int} (hx:0<=x/\x<18446744073709551616) (hy:0<=y/\y<18446744073709551616):0<=x*y/\x*y<340282366920938463463374607431768211456:=by
 refine ⟨Int.mul_nonneg hx.1 hy.1, ?_⟩;have:=Int.mul_le_mul (show x<=18446744073709551615 by omega) (show y<=18446744073709551615 by omega) hy.1 (by decide)
 omega
theorem A9L {x y:Int} (hx:0<=x/\x<18446744073709551616) (hy:0<=y/\y<18446744073709551616):S6 x y=J0 (x*y):=by
 unfold S6;rw [C4M hx hy]
 rfl
def N5:List A8->Int
 | []=>0
 |p::l=>(if p.V<0 then 0 else p.V)+N5 l
def N4:List A8->Int
 | []=>0
 |p::l=>(if p.V<0 then-p.V else 0)+N4 l
theorem C7p (a b:List A8):N5 (a++b)=N5 a+N5 b:=by
 induction a with
 |nil=>simp [N5]
 |cons p a ih=>simp only [List.cons_append,N5,ih];omega
theorem C7e (a b:List A8):N4 (a++b)=N4 a+N4 b:=by
 induction a with
 |nil=>simp [N4]
 |cons p a ih=>simp only [List.cons_append,N4,ih];omega
def B6O (l:List A8):Prop:= ∀p∈l,-9223372036854775808<=p.V/\p.V<=9223372036854775807
theorem C1H (l:List A8) (h:B6O l):0<=N5 l/\N5 l<=l.length*9223372036854775808:=by
 induction l with
 |nil=>simp [N5]
 |cons p l ih=>
  have h1:=h p (by simp)
  have h2:=ih (fun q hq=>h q (by simp [hq]))
  simp only [N5,D8t];split<;>omega
theorem C1x (l:List A8) (h:B6O l):0<=N4 l/\N4 l<=l.length*9223372036854775808:=by
 induction l with
 |nil=>simp [N4]
 |cons p l ih=>
  have h1:=h p (by simp)
  have h2:=ih (fun q hq=>h q (by simp [hq]))
  simp only [N4,D8t];split<;>omega
theorem C32 {l:List A8} (h:B6O l) (i:Nat):B6O (l.take i):=fun p hp=>h p (List.mem_of_mem_take hp)
theorem D1o (l:List A8) {i:Nat} (hi:i<l.length):N5 (l.take (i+1))=N5 (l.take i)+(if l[i].V<0 then 0 else l[i].V):=by
 rw [List.take_succ_eq_append_getElem hi,C7p];simp [N5]
theorem D04 (l:List A8) {i:Nat} (hi:i<l.length):N4 (l.take (i+1))=N4 (l.take i)+(if l[i].V<0 then-l[i].V else 0):=by
 rw [List.take_succ_eq_append_getElem hi,C7e];simp [N4]
theorem C6C (l:List A8) (h:B6O l) (hl:l.length<=100000):
  A5I l=some (if N4 l<=N5 l then (false,J0 (N5 l-N4 l)) else (true,J0 (N4 l-N5 l))):=by
 have hm:l.length<=maxLen:=by rw [I2];omega
 unfold A5I B5W;obtain ⟨r,hr,hQ⟩:=W6 (f:=fun s:Int×Int×Int×Int×Int=>A9A l s.1 s.2.1 s.2.2.1 s.2.2.2.1 s.2.2.2.2)
  (fun s=> ∃i:Nat,i<=l.length/\s=((i:Int),(J0 (N5 (l.take i))).Hi,(J0 (N5 (l.take i))).Lo,(J0 (N4 (l.take i))).Hi,(J0 (N4 (l.take i))).Lo))
  (fun s=>l.length-s.1.toNat) (fun r=>r=(if N4 l<=N5 l then (false,J0 (N5 l-N4 l)) else (true,J0 (N4 l-N5 l)))) (0,0,0,0,0) ⟨0,Nat.zero_le _,rfl⟩ (by
   rintro _ ⟨i,hi,rfl⟩;simp only;have hP:=C1H (l.take i) (C32 h i);have hN:=C1x (l.take i) (C32 h i);have hlen:(l.take i).length<=100000:=by grind
   have oP:I0 (J0 (N5 (l.take i))):=A0C hP.1 (by omega)
   have oN:I0 (J0 (N4 (l.take i))):=A0C hN.1 (by omega)
   unfold A9A
   by_cases hlt:i<l.length
   ·left;have hr:=h l[i] (D8Z hlt);have e1:(⟨(J0 (N5 (l.take i))).Hi,(J0 (N5 (l.take i))).Lo⟩:A2)=J0 (N5 (l.take i)):=rfl;have e2:(⟨(J0 (N4 (l.take i))).Hi,(J0 (N4 (l.take i))).Lo⟩:A2)=J0 (N4 (l.take i)):=rfl;have oV:I0 (K5 (A0z l[i].V)):=by
     rw [B6P hr.1 hr.2];unfold I0 K5;simp only;split<;>omega
    have vV:wv (K5 (A0z l[i].V))=if l[i].V<0 then-l[i].V else l[i].V:=by
     rw [B6P hr.1 hr.2];unfold wv K5;simp only;split<;>omega
    refine ⟨((i:Int)+1,(J0 (N5 (l.take (i+1)))).Hi,(J0 (N5 (l.take (i+1)))).Lo,(J0 (N4 (l.take (i+1)))).Hi,(J0 (N4 (l.take (i+1)))).Lo), ?_,⟨i+1,hlt,by simp⟩,by omega⟩
    simp only [Int.ofNat_lt,hlt,decide_true,D8e,S0,M0 hlt,D8a,e1,e2,T0 hlt hm];rw [D1o l hlt,D04 l hlt]
    by_cases hv:l[i].V<0
    ·rw [B6U oN oV,vV,A0q]
     grind
    ·rw [B6U oP oV,vV,A0q]
     grind
   ·right;have hn: ¬((i:Int)<(l.length:Int)):=by omega
    have hi2:i=l.length:=by omega
    subst hi2;rw [List.take_length] at*
    have e1:(⟨(J0 (N5 l)).Hi,(J0 (N5 l)).Lo⟩:A2)=J0 (N5 l):=rfl;have e2:(⟨(J0 (N4 l)).Hi,(J0 (N4 l)).Lo⟩:A2)=J0 (N4 l):=rfl;simp only [hn,decide_false,D8d,e1,e2];rw [B0k oP oN,C6Q oP oN,C6Q oN oP,A0q,A0q]
    grind)
 rw [hr,hQ]
def fit (t:Int):Int×Bool:=if-9223372036854775808<=t/\t<=9223372036854775807 then (t,true) else (0,false)
theorem D0y (l:List A8) (h:B6O l) (hl:l.length<=100000):B4J l=some (fit (N5 l-N4 l)):=by
 have hP:=C1H l h;have hN:=C1x l h;unfold B4J;rw [C6C l h (by omega)]
 simp only [D8a]
 by_cases hc:N4 l<=N5 l
 ·rw [if_pos hc];unfold J0 fit;simp only [D8n,Bool.and_true,D8d]
  by_cases hf:N5 l-N4 l<=9223372036854775807
  ·rw [if_pos (by omega)]
   have c:((((N5 l-N4 l)/18446744073709551616 !=0)||decide ((N5 l-N4 l)%18446744073709551616>9223372036854775808))||((N5 l-N4 l)%18446744073709551616==9223372036854775808))=false:=by
    grind
   rw [c,D8d]
   congr 2
   rw [C4]<;>omega
  grind
 ·rw [if_neg hc];unfold J0 fit;simp only [D8m,Bool.and_false,Bool.or_false,D8e]
  by_cases hf: -9223372036854775808<=N5 l-N4 l
  ·rw [if_pos (by omega)]
   have c:(((N4 l-N5 l)/18446744073709551616 !=0)||decide ((N4 l-N5 l)%18446744073709551616>9223372036854775808))=false:=by
    grind
   rw [c,D8d]
   congr 2
   rw [A8i,IntKind.wrap_u64];omega
  grind
end Go.Win
set_option maxHeartbeats 4000000
namespace Go.Win
open Go.Vc Go.Dec
theorem K7 {α:Type} {b:Bool} {k:Option α} (h:b=true):ck b k=k:=by rw [h];rfl
def Q8:List A8->Int
 | []=>0
 |p::l=>p.V*p.V+Q8 l
theorem B6R (a b:List A8):Q8 (a++b)=Q8 a+Q8 b:=by
 induction a with
 |nil=>simp [Q8]
 |cons p a ih=>simp only [List.cons_append,Q8,ih];omega
theorem C10 (v:Int):0<=v*v:=by
 rcases Int.le_total 0 v with h|h
 ·exact Int.mul_nonneg h h
 ·exact Int.mul_nonneg_of_nonpos_of_nonpos h h
theorem B8M (l:List A8):0<=Q8 l:=by
 induction l with
 |nil=>simp [Q8]
 |cons p l ih=>have:=C10 p.V;simp only [Q8];omega
theorem C6s (l:List A8) {i:Nat} (hi:i<l.length):Q8 (l.take (i+1))=Q8 (l.take i)+l[i].V*l[i].V:=by
 rw [List.take_succ_eq_append_getElem hi,B6R];simp [Q8]
theorem D3g (l:List A8) (i:Nat):Q8 (l.take i)<=Q8 l:=by
 have:=B6R (l.take i) (l.drop i);rw [List.take_append_drop] at this;have:=B8M (l.drop i);omega
theorem C4Y (v:Int):(if v<0 then-v else v)*(if v<0 then-v else v)=v*v:=by
 split
 ·exact Int.neg_mul_neg v v
 ·rfl
theorem C9t {v:Int} (h:-9223372036854775808<=v/\v<=9223372036854775807):B9i v v=fit (v*v):=by
 have hs:B0E v=if v<0 then-v else v:=B6P h.1 h.2
 have hx:0<=B0E v/\B0E v<18446744073709551616:=by rw [hs];split<;>omega
 have hnn:=C10 v;unfold B9i;simp only [beq_self_eq_true,D8m,D8d];rw [C4M hx hx,hs,C4Y];unfold B6F fit;simp only [beq_self_eq_true,D8m,D8d];have:=A9e hx hx;rw [hs,C4Y] at this
 by_cases hf:v*v<=9223372036854775807
 ·have c:((v*v/18446744073709551616 !=0)||decide (v*v%18446744073709551616>9223372036854775807))=false:=by
   simp only [D8K,bne_eq_false_iff_eq,D8r];omega
  rw [c,D8d,if_pos (by omega)]
  congr 1
  rw [C4]<;>omega
 ·have c:((v*v/18446744073709551616 !=0)||decide (v*v%18446744073709551616>9223372036854775807))=true:=by
   simp only [D8l,bne_iff_ne,D8c];omega
  rw [c,D8e,if_neg (by omega)]
theorem D4A {a b:Int} (ha:-9223372036854775808<=a/\a<=9223372036854775807) (hb:-9223372036854775808<=b/\b<=9223372036854775807):B9g a b=fit (a+b):=by
 unfold B9g fit;rw [A8i]
 by_cases hf: -9223372036854775808<=a+b/\a+b<=9223372036854775807
 ·rw [if_pos hf,show (a+b+9223372036854775808)%18446744073709551616-9223372036854775808=a+b by omega]
  have c:((decide (a>=0)==decide (b>=0))&& !(decide (a+b>=0)==decide (a>=0)))=false:=by
   by_cases x1:a>=0<;>by_cases x2:b>=0<;>by_cases x3:a+b>=0<;>simp [x1,x2,x3]<;>omega
  rw [c,D8d]
 ·rw [if_neg hf];have c:((decide (a>=0)==decide (b>=0))&& !(decide ((a+b+9223372036854775808)%18446744073709551616-9223372036854775808>=0)==decide (a>=0)))=true:=by
   by_cases x1:a>=0<;>by_cases x2:b>=0<;>by_cases x3:(a+b+9223372036854775808)%18446744073709551616-9223372036854775808>=0<;>simp [x1,x2,x3]<;>omega
  rw [c,D8e]
theorem C4k (l:List A8) (h:B6O l) (hl:l.length<=100000):A8s l=some (fit (Q8 l)):=by
 have hm:l.length<=maxLen:=by rw [I2];omega
 unfold A8s B3G;obtain ⟨r,hr,hQ⟩:=W6 (f:=fun s:Int×Int=>A7S l s.1 s.2)
  (fun s=> ∃i:Nat,i<=l.length/\s=(Q8 (l.take i),(i:Int))/\Q8 (l.take i)<=9223372036854775807)
  (fun s=>l.length-s.2.toNat) (fun r=>r=fit (Q8 l)) (0,0) ⟨0,Nat.zero_le _,rfl,by simp [Q8]⟩ (by
   rintro _ ⟨i,hi,rfl,hb⟩;simp only;have hnn:=B8M (l.take i);unfold A7S
   by_cases hlt:i<l.length
   ·have hr:=h l[i] (D8Z hlt);have hq:=C10 l[i].V;have st:=C6s l hlt;have mo:=D3g l (i+1);simp only [Int.ofNat_lt,hlt,decide_true,D8e,S0,M0 hlt,D8a,T0 hlt hm,C9t hr]
    by_cases hf:l[i].V*l[i].V<=9223372036854775807
    ·have f1:fit (l[i].V*l[i].V)=(l[i].V*l[i].V,true):=by unfold fit;rw [if_pos (by omega)]
     rw [f1];simp only [D8m,D8d];rw [D4A (by omega) (by omega)]
     by_cases hg:Q8 (l.take i)+l[i].V*l[i].V<=9223372036854775807
     ·left;have f2:fit (Q8 (l.take i)+l[i].V*l[i].V)=(Q8 (l.take i)+l[i].V*l[i].V,true):=by unfold fit;rw [if_pos (by omega)]
      rw [f2];refine ⟨_,rfl,⟨i+1,hlt,by simp only [<-st,Int.natCast_add,Int.cast_ofNat_Int],by omega⟩,by show l.length-((i:Int)+1).toNat<l.length-(i:Int).toNat;omega⟩
     ·right;have f2:fit (Q8 (l.take i)+l[i].V*l[i].V)=(0,false):=by unfold fit;rw [if_neg (by omega)]
      have f3:fit (Q8 l)=(0,false):=by unfold fit;rw [if_neg (by omega)]
      rw [f2,f3];exact ⟨_,rfl,rfl⟩
    ·right;have f2:fit (l[i].V*l[i].V)=(0,false):=by unfold fit;rw [if_neg (by omega)]
     have f3:fit (Q8 l)=(0,false):=by unfold fit;rw [if_neg (by omega)]
     rw [f2,f3];exact ⟨_,rfl,rfl⟩
   ·right;have hn: ¬((i:Int)<(l.length:Int)):=by omega
    have hi2:i=l.length:=by omega
    subst hi2;rw [List.take_length] at*
    simp only [hn,decide_false,D8d];have f3:fit (Q8 l)=(Q8 l,true):=by unfold fit;rw [if_pos (by omega)]
    exact ⟨_,rfl,f3.symm⟩)
 rw [hr,hQ]
theorem C9N {n:Int} (h:D6 .i64 n): -9223372036854775808<=n/\n<=9223372036854775807:=by
 simp [D6,Lit.wf,IntKind.min,IntKind.max,IntKind.signed,IntKind.bits] at h;omega
end Go.Win
set_option maxHeartbeats 4000000
namespace Go.Win
open Go.Vc Go.Dec
theorem B8W:Q3=S6:=rfl
theorem B6e:K5=S9:=rfl
theorem D4U (a b c:Int):(0*18446744073709551616+a)*(b*18446744073709551616+c)=(a*b)*18446744073709551616+a*c:=by grind
theorem D4V (a b c:Int):(b*18446744073709551616+c)*(0*18446744073709551616+a)=(a*b)*18446744073709551616+a*c:=by grind
theorem D19 {a b c d:Int} (ha:1<=a) (hb:0<=b) (hc:1<=c) (hd:0<=d):340282366920938463463374607431768211456<=(a*18446744073709551616+b)*(c*18446744073709551616+d):=by
 have:=Int.mul_le_mul (show 18446744073709551616<=a*18446744073709551616+b by omega) (show 18446744073709551616<=c*18446744073709551616+d by omega) (by decide) (by omega)
 simpa using this
theorem D03 {h a b c:Int} (ha:0<=a/\a<18446744073709551616) (hb:0<=b/\b<18446744073709551616) (hc:0<=c/\c<18446744073709551616):
  B1o h a b c=some (if (a*b)*18446744073709551616+a*c<340282366920938463463374607431768211456 then (J0 ((a*b)*18446744073709551616+a*c),true) else (⟨0,0⟩,false)):=by
 have p1:=A9e ha hb;have p2:=A9e ha hc;unfold B1o;simp only [B8W];rw [A9L ha hc,A9L ha hb]
 generalize a*b=m at*
 generalize a*c=n at*
 have e1:(J0 m).Hi=m/18446744073709551616:=rfl;have e2:(J0 m).Lo=m%18446744073709551616:=rfl;rw [e1,e2]
 by_cases hh:m<18446744073709551616
 ·have c1:(m/18446744073709551616 !=0)=false:=by rw [bne_eq_false_iff_eq];omega
  have oM:I0 (A2.mk (m%18446744073709551616) 0):=by unfold I0;simp only;omega
  have vM:wv (A2.mk (m%18446744073709551616) 0)=m*18446744073709551616:=by unfold wv;simp only;omega
  rw [c1,D8d,B6U (A0C p2.1 p2.2) oM,A0q,vM,Int.add_comm n];simp only [D8a]
 ·have c1:(m/18446744073709551616 !=0)=true:=by rw [bne_iff_ne];omega
  rw [c1,D8e,if_neg (by omega)]
theorem B01 {a b:A2} (ha:I0 a) (hb:I0 b):A3j a b=some (if wv a*wv b<340282366920938463463374607431768211456 then (J0 (wv a*wv b),true) else (⟨0,0⟩,false)):=by
 obtain ⟨ah,al⟩:=a;obtain ⟨bh,bl⟩:=b;unfold I0 at ha hb;simp only at ha hb;unfold A3j wv;simp only
 by_cases h1:ah=0
 ·subst h1;simp only [D8N,D8F,D8d];rw [D03 (by omega) (by omega) (by omega),D4U]
 ·have c1:(ah !=0)=true:=by rw [bne_iff_ne];exact h1
  rw [c1]
  by_cases h2:bh=0
  ·subst h2;simp only [D8N,Bool.and_false,D8d,D8e];rw [D03 (by omega) (by omega) (by omega),D4V]
  ·have c2:(bh !=0)=true:=by rw [bne_iff_ne];exact h2
   have:=D19 (a:=ah) (b:=al) (c:=bh) (d:=bl) (by omega) (by omega) (by omega) (by omega)
   rw [c2,if_neg (by omega)]
   rfl
theorem B4P {n:Int} (h:0<=n/\n<18446744073709551616):I0 (S9 n):=by
 unfold I0 S9;simp only;omega
noncomputable def C51 (n:Int):Nat->A2->A2×Bool
 |0,w=>(w,true)
 |k+1,w=>if wv w*wv (S9 n)<340282366920938463463374607431768211456 then C51 n k (J0 (wv w*wv (S9 n))) else (⟨0,0⟩,false)
theorem C1v {a b:A2} (ha:I0 a) (hb:I0 b):0<=wv a*wv b:=Int.mul_nonneg (A84 ha).1 (A84 hb).1
theorem C8q {n:Int} (hn:0<=n/\n<18446744073709551616): ∀(k:Nat) (w:A2),I0 w->I0 (C51 n k w).1
 |0,_,h=>h
 |k+1,w,h=>by
  unfold C51;split
  ·exact C8q hn k _ (A0C (C1v h (B4P hn)) (by assumption))
  ·unfold I0;simp
theorem C4G {n:Int} (hn:0<=n/\n<18446744073709551616) (k:Nat): ∀(w:A2),(k:Int)<=9223372036854775807->I0 w->A8j n (k:Int) w.Hi w.Lo=some (C51 n k w):=by
 induction k with
 |zero=>
  intro w _ h;unfold A8j;rw [M5 (r:=(w,true))]
  ·rfl
  ·have c1:decide (((0:Nat):Int)>0)=false:=by rw [D8r];omega
   simp only [B0j,c1,D8d]
   rfl
 |succ k ih0=>
  intro w hk h;have ih:=fun w' h' =>ih0 w' (by omega) h'
  unfold A8j at ih⊢;have c1:decide (((k+1:Nat):Int)>0)=true:=by rw [D8c];omega
  have e1:(⟨w.Hi,w.Lo⟩:A2)=w:=rfl;have hw:A1 (((k+1:Nat):Int)-1)=(k:Int):=by rw [C4]<;>omega
  unfold C51
  by_cases hf:wv w*wv (S9 n)<340282366920938463463374607431768211456
  ·rw [if_pos hf,M1 (s' :=((k:Int),(J0 (wv w*wv (S9 n))).Hi,(J0 (wv w*wv (S9 n))).Lo))]
   ·exact ih _ (A0C (C1v h (B4P hn)) hf)
   ·simp only [B0j,c1,D8e,e1,B6e,B01 h (B4P hn),if_pos hf,D8a,D8m,D8d,hw]
  ·rw [if_neg hf,M5 (r:=(⟨0,0⟩,false))];simp only [B0j,c1,D8e,e1,B6e,B01 h (B4P hn),if_neg hf,D8a,D8n]
theorem C5U:I0 (A2.mk 0 1):=by unfold I0;simp
theorem U4 (n:Int):0<=A5 n/\A5 n<18446744073709551616:=by rw [K2];omega
end Go.Win
set_option maxHeartbeats 4000000
namespace Go.Win
open Go.Vc Go.Dec
theorem C4N {m:A6} (h1:-4096<=m.Bv/\m.Bv<=4096) (h2:-4096<=m.Bu/\m.Bu<=4096) (agg:Int):A0l m agg=A8Y m agg:=by
 have e1:(B9j m.Bu m.Bv).1=m.Bu-m.Bv:=by
  unfold B9j;rw [C4 (n:=m.Bu-m.Bv) (by omega) (by omega)]
  cases hb:((!((decide (m.Bu>=(0:Int)))==(decide (m.Bv>=(0:Int)))))&&(!((decide (m.Bu-m.Bv>=(0:Int)))==(decide (m.Bu>=(0:Int)))))) with
  |false=>rfl
  |true=>
   simp only [D8i,D8w,D80,ne_eq] at hb;obtain ⟨g1,g2⟩:=hb
   by_cases a1:m.Bu>=0<;>by_cases a2:m.Bv>=0<;>by_cases a3:m.Bu-m.Bv>=0<;>simp [a1,a2,a3] at g1 g2<;>omega
 have e2:B1H m.Bu m.Bv=(m.Bu-m.Bv,true):=by
  unfold B1H;have:((decide (m.Bv<0)&&decide (m.Bu>A1 (9223372036854775807+m.Bv)))||(decide (m.Bv>0)&&decide (m.Bu<A1 (-9223372036854775808+m.Bv))))=false:=by
   by_cases g1:m.Bv<0
   ·rw [C4 (n:=9223372036854775807+m.Bv) (by omega) (by omega)]
    simp;omega
   ·by_cases g2:m.Bv>0
    ·rw [C4 (n:= -9223372036854775808+m.Bv) (by omega) (by omega)]
     simp;omega
    ·simp;omega
  rw [this,D8d,C4]<;>omega
 unfold A0l A8Y;rw [e2];simp only [e1,D8e]
 rfl
theorem B50 (w k c n:Int):A7a w k c n=true↔(1<=w/\w<=1048576)/\(1<=c/\c<=65536)/\(0<=n/\n<=16777216)/\(1<=k/\k<=64):=by
 unfold A7a;simp;omega
def A5S (w k c n:Int):Prop:=(1<=w/\w<=1048576)/\(1<=c/\c<=65536)/\(0<=n/\n<=16777216)/\(1<=k/\k<=64)
def B6I (x:D2):Prop:=(1<=x.Bp/\x.Bp<=4)/\A5S x.W x.K x.Cap x.Now/\A4Q x.Bg x.Bx x.Cap x.Now x.W (Z5 x.Bp)/\
 ∀i,i<x.Bg.length->(2<=i-> ¬P5 (el x.Bg (i-2)) (el x.Bg i) x.Bp x.K=true)/\
  (1<=i->(el x.Bg i).Bx-(el x.Bg (i-1)).Bx>1->P5 (el x.Bg (i-1)) (el x.Bg i) x.Bp x.K=true)
theorem A8a {l:List A6} {seq cap now w lo:Int} (hlo:-4096<=lo) (h:A4Q l seq cap now w lo) {i:Nat} (hi:i<l.length):
  (1<=(el l i).Bx/\(el l i).Bx<=1099511627776)/\(-4096<=(el l i).Bv/\(el l i).Bv<=4096)/\(-4096<=(el l i).Bu/\(el l i).Bu<=4096):=by
 have h1:=h.2.1 i hi;unfold B8q mk1 mk2 at h1;have:=h.1;omega
theorem A6j (x:D2) (hl:x.Bg.length<=maxLen):A0F x=some (R0 (B6I x)):=by
 unfold A0F;simp only []
 by_cases h1:(1<=x.Bp/\x.Bp<=4)/\A5S x.W x.K x.Cap x.Now
 ·have e1:A1z x.Bp x.W x.K x.Cap x.Now=true:=by
   unfold A1z;simp only [(B50 _ _ _ _).2 h1.2,Bool.and_true,D8i,D8c];exact h1.1
  rw [e1,B9X _ _ _ _ _ _ hl];simp only [D8m,D8n,H7,D8a,D8B]
  by_cases h2:A4Q x.Bg x.Bx x.Cap x.Now x.W (Z5 x.Bp)
  ·rw [A2z h2,D8m,D8d];unfold B1K;have H:=R6 (f:=fun s:Int=>A3o x s) x.Bg.length (fun i=> ¬((2<=i-> ¬P5 (el x.Bg (i-2)) (el x.Bg i) x.Bp x.K=true)/\
     (1<=i->(el x.Bg i).Bx-(el x.Bg (i-1)).Bx>1->P5 (el x.Bg (i-1)) (el x.Bg i) x.Bp x.K=true))) 2 (some 0)
    (fun i hi _=>by
     unfold A3o;rw [D8f (by omega:(i:Int)<(x.Bg.length:Int)),D8e,J5 hi,D8a,A0s hi hl]
     simp only [];have key: ∀j,j+1=i->A1 ((el x.Bg i).Bx-(el x.Bg j).Bx)=(el x.Bg i).Bx-(el x.Bg j).Bx:=by
      intro j hj;have g1:=A8a (A8W _) h2 hi;have g2:=A8a (A8W _) h2 (show j<x.Bg.length by omega)
      rw [C4]<;>omega
     have key1:1<=i->B9 x.Bg (A1 ((i:Int)-1))=some (el x.Bg (i-1)):=fun h=>by rw [B2S (by omega) (Nat.le_of_lt hi) hl,J5 (by omega)]
     have key2:2<=i->B9 x.Bg (A1 ((i:Int)-2))=some (el x.Bg (i-2)):=fun h=>by
      have:A1 ((i:Int)-2)=((i-2:Nat):Int):=by rw [I2] at hl;rw [C4]<;>omega
      rw [this,J5 (by omega)]
     by_cases g1:1<=i
     ·rw [D8f (by omega:(i:Int)>=1),key1 g1]
      simp only [H7,D8a,D8L,key (i-1) (by omega)]
      by_cases g3:(el x.Bg i).Bx-(el x.Bg (i-1)).Bx>1
      ·simp only [g3,decide_true,H7,D8a,D8L]
       by_cases g2:2<=i
       ·rw [D8f (by omega:(i:Int)>=2),key2 g2]
        simp only [H7,D8a,D8L,B6o];refine V8 ?_;simp only [g1,g2,D8l,D8w];cases P5 (el x.Bg (i-2)) (el x.Bg i) x.Bp x.K<;>cases P5 (el x.Bg (i-1)) (el x.Bg i) x.Bp x.K<;>simp
       ·rw [D8h (by omega: ¬(i:Int)>=2)]
        simp only [L6,D8a,D8F,D8d];refine V8 ?_;simp only [g1,g2,D8w];cases P5 (el x.Bg (i-1)) (el x.Bg i) x.Bp x.K<;>simp
      ·simp only [g3,decide_false,L6,D8a,D8F,D8d]
       by_cases g2:2<=i
       ·rw [D8f (by omega:(i:Int)>=2),key2 g2]
        simp only [H7,D8a,D8L];refine V8 ?_;simp [g1,g2]
       ·rw [D8h (by omega: ¬(i:Int)>=2)]
        simp only [L6,D8a,D8F,D8d];exact ⟨fun h=>absurd ⟨fun h2=>absurd h2 g2,fun _ h3=>h3.elim⟩ h,fun _=>trivial⟩
     ·rw [D8h (by omega: ¬(i:Int)>=2),D8h (by omega: ¬(i:Int)>=1)]
      simp only [L6,D8a,D8F,D8d];exact ⟨fun h=>absurd ⟨fun h2=>absurd h2 (by omega),fun h3=>absurd h3 g1⟩ h,fun _=>trivial⟩)
    (fun _=>by
     unfold A3o;rw [D8h (D8D _),D8d])
   by_cases h3: ∀i,i<x.Bg.length->((2<=i-> ¬P5 (el x.Bg (i-2)) (el x.Bg i) x.Bp x.K=true)/\
     (1<=i->(el x.Bg i).Bx-(el x.Bg (i-1)).Bx>1->P5 (el x.Bg (i-1)) (el x.Bg i) x.Bp x.K=true))
   ·rw [H.2 fun i hi hn=>hn (h3 i hi),O3];exact ⟨h1.1,h1.2,h2,h3⟩
   ·rw [H.1 (A7d h3),J7];exact fun h=>h3 h.2.2.2
  ·rw [X6 h2,J7 fun h=>h2 h.2.2.1]
   rfl
 ·have e1:A1z x.Bp x.W x.K x.Cap x.Now=false:=by
   rw [D8q];intro h;unfold A1z at h;simp only [D8i,D8c,B50] at h;exact h1 h
  rw [e1,J7 fun h=>h1 ⟨h.1,h.2.1⟩]
  rfl
theorem C8l (l:List A6) (hl:l.length<=maxLen):A3X l l=some true:=by
 unfold A3X;rw [D8N,D8d];unfold B1I;refine (R6 (f:=fun s:Int=>A3n l l s) l.length (fun _=>False) false (some true) (fun i hi _=>⟨fun h=>h.elim,fun _=> ?_⟩) (fun _=> ?_)).2 fun _ _ h=>h
 ·unfold A3n;rw [D8f (by omega:(i:Int)<(l.length:Int)),D8e,J5 hi]
  simp [A0s hi hl]
 ·unfold A3n;rw [D8h (D8D _),D8d]
theorem C7E (x:D2) (hl:x.Bg.length<=maxLen):B20 x x=some true:=by
 unfold B20;simp [C8l _ hl]
theorem C7F (x:D5) (hl:x.Bg.length<=maxLen):B21 x x=some true:=by
 unfold B21;simp [C8l _ hl]
end Go.Win
set_option maxHeartbeats 4000000
namespace Go.Win
open Go.Vc Go.Dec
theorem C14 {n:Int} (h:D6 .u64 n):0<=n/\n<18446744073709551616:=by
 simp [D6,Lit.wf,IntKind.min,IntKind.max,IntKind.signed,IntKind.bits] at h;omega
theorem C8Z:R8=A5C:=rfl
def A8d (m:A6):Prop:=(1<=m.N/\m.N<=65536)/\(-(m.N*4096)<=m.S/\m.S<=m.N*4096)/\(0<=m.Q/\m.Q<=m.N*16777216)/\m.S*m.S<=m.N*m.Q
theorem B4Y {m:A6} (h1:1<=m.N/\m.N<=65536) (h2:-(m.N*4096)<=m.S/\m.S<=m.N*4096) (h3:0<=m.Q/\m.Q<=m.N*16777216):
  (0<=m.S*m.S/\m.S*m.S<=72057594037927936)/\(0<=m.N*m.Q/\m.N*m.Q<=72057594037927936):=by
 have e2:(m.S.natAbs:Int)*m.S.natAbs=m.S*m.S:=Int.natAbs_mul_self;have h6:m.S.natAbs*m.S.natAbs<=268435456*268435456:=Nat.mul_le_mul (by omega) (by omega)
 have h7:((m.S.natAbs*m.S.natAbs:Nat):Int)=(m.S.natAbs:Int)*m.S.natAbs:=by rw [Int.natCast_mul]
 have hq:m.N*m.Q<=65536*1099511627776:=Int.mul_le_mul h1.2 (by omega) h3.1 (by omega)
 have hq0:0<=m.N*m.Q:=Int.mul_nonneg (by omega) h3.1
 omega
theorem B1E (m:A6):A3Y m=true↔A8d m:=by
 unfold A3Y A8d
 by_cases h1:1<=m.N/\m.N<=65536
 ·have e0:IntKind.i64.wrap (0-m.N)= -m.N:=by
   show A1 (0-m.N)=_;rw [C4]<;>omega
  rw [e0,C4 (n:= -m.N*4096) (by omega) (by omega),C4 (n:=m.N*4096) (by omega) (by omega),C4 (n:=m.N*4096*4096) (by omega) (by omega)]
  simp only [D8i,D8c];constructor
  ·rintro ⟨⟨⟨⟨⟨_,h2⟩,h3⟩,h4⟩,h5⟩,h6⟩;have:=B4Y h1 (by omega) (by omega)
   rw [C4 (by omega) (by omega),C4 (by omega) (by omega)] at h6
   omega
  ·rintro ⟨_,h2,h3,h4⟩;have:=B4Y h1 h2 h3;rw [C4 (n:=m.S*m.S) (by omega) (by omega),C4 (n:=m.N*m.Q) (by omega) (by omega)]
   omega
 grind
theorem C6e (m:A6):A4X m=A3Y m:=by
 unfold A4X A3Y
 grind
theorem C4d {a b:A2} (ha:I0 a) (hb:I0 b) (h:wv a*wv b<340282366920938463463374607431768211456):A3j a b=some (J0 (wv a*wv b),true):=by
 rw [B01 ha hb,if_pos h]
def A73 (m:A6):Int:=m.N*m.Q-m.S*m.S
theorem C3b {m:A6} (h:A8d m):0<=A73 m/\A73 m<=72057594037927936:=by
 have:=B4Y h.1 h.2.1 h.2.2.1;have h4:=h.2.2.2;unfold A73;omega
theorem C6z {m:A6} (h:A8d m):A7A m=A73 m:=by
 have:=B4Y h.1 h.2.1 h.2.2.1;have h4:=h.2.2.2;unfold A7A A73;rw [C4 (n:=m.N*m.Q) (by omega) (by omega),C4 (n:=m.S*m.S) (by omega) (by omega),C4]<;>omega
theorem B1p {n:Int} (h0:0<=n) (h1:n<18446744073709551616):A5 n=n:=by rw [K2];omega
def B5T (a b:A6) (k:Int):Prop:=A8d a/\A8d b/\(1<=k/\k<=64)/\ ¬6*k*b.N<(6*k-1)*a.N/\A73 a*b.N*(6*k-1)<=A73 b*a.N*(6*k)
theorem A9b {a b A B:Int} (h1:0<=a/\a<=A) (h2:0<=b/\b<=B):0<=a*b/\a*b<=A*B:=
 ⟨Int.mul_nonneg h1.1 h2.1,Int.mul_le_mul h1.2 h2.2 h2.1 (Int.le_trans h1.1 h1.2)⟩
theorem C2l {x y:Int} (hx:0<=x/\x<18446744073709551616) (hy:0<=y/\y<18446744073709551616):I0 (S6 x y)/\wv (S6 x y)=x*y:=by
 rw [A9L hx hy];have:=A9e hx hy;exact ⟨A0C this.1 this.2,A0q _⟩
theorem C6U {n:Int} (h:0<=n/\n<18446744073709551616):I0 (S9 n)/\wv (S9 n)=n:=by
 refine ⟨B4P h, ?_⟩;show 0*18446744073709551616+n=n;omega
theorem B8L (a b:A6) (k:Int):A6S a b k=some (G3 (B5T a b k)):=by
 unfold A6S;simp only [C6e]
 by_cases h1:A8d a/\A8d b/\(1<=k/\k<=64)
 ·obtain ⟨ha,hb,hk⟩:=h1;rw [(B1E a).2 ha,(B1E b).2 hb];have e:(((!true|| !true)||decide (k<1))||decide (k>64))=false:=by simp;omega
  rw [e,D8d];have ea:=ha.1;have eb:=hb.1;have n1:=A9b (a:=6*k) (A:=384) (b:=b.N) (B:=65536) (by omega) (by omega)
  have n2:=A9b (a:=6*k-1) (A:=383) (b:=a.N) (B:=65536) (by omega) (by omega)
  rw [C4 (n:=6*k) (by omega) (by omega),C4 (n:=6*k-1) (by omega) (by omega),C4 (n:=6*k*b.N) (by omega) (by omega),C4 (n:=(6*k-1)*a.N) (by omega) (by omega)]
  by_cases h2:6*k*b.N<(6*k-1)*a.N
  ·rw [D8f h2,D8e,X6 fun h=>h.2.2.2.1 h2]
  ·have ta:=C3b ha;have tb:=C3b hb;rw [D8h h2,D8d,C6z ha,C6z hb,B1p (n:=A73 b) (by omega) (by omega),B1p (n:=A73 a) (by omega) (by omega),B1p (n:=a.N) (by omega) (by omega),B1p (n:=b.N) (by omega) (by omega),
    B1p (n:=6*k) (by omega) (by omega),B1p (n:=6*k-1) (by omega) (by omega),B8W,B6e]
   have x1:=C2l (x:=A73 b) (y:=a.N) (by omega) (by omega)
   have x2:=C6U (n:=6*k) (by omega)
   have y1:=C2l (x:=A73 a) (y:=b.N) (by omega) (by omega)
   have y2:=C6U (n:=6*k-1) (by omega)
   have m1:=A9b (a:=A73 b) (b:=a.N) (A:=72057594037927936) (B:=65536) tb (by omega)
   have m2:=A9b (a:=A73 a) (b:=b.N) (A:=72057594037927936) (B:=65536) ta (by omega)
   have m3:=A9b (a:=A73 b*a.N) (b:=6*k) (B:=384) m1 (by omega)
   have m4:=A9b (a:=A73 a*b.N) (b:=6*k-1) (B:=383) m2 (by omega)
   rw [C4d x1.1 x2.1 (by grind),D8a,C4d y1.1 y2.1 (by grind),D8a,x1.2,x2.2,y1.2,y2.2]
   rw [B0k (A0C m3.1 (by omega)) (A0C m4.1 (by omega)),A0q,A0q]
   congr 1
   rw [D8v,A1Q,D8c];unfold B5T
   grind
 ·have e:(((!A3Y a|| !A3Y b)||decide (k<1))||decide (k>64))=true:=by
   rw [D8l,D8l,D8l,D8w,D8w,D8q,D8q,Ne,Ne,B1E,B1E,D8c,D8c]
   grind
  rw [e,D8e,X6 fun h=>h1 ⟨h.1,h.2.1,h.2.2.1⟩]
def C2D (x:D5):Prop:=A5S x.W x.K x.Cap x.Now/\A4Q x.Bg x.Bx x.Cap x.Now x.W (-4096)/\
 ∀i,2<=i->i<x.Bg.length-> ¬B5T (el x.Bg (i-2)) (el x.Bg i) x.K
theorem D2J {R:Type} {f:Int->Option (Int⊕R)} (n:Nat) (bad:Nat->Prop) (E:R) (A:Option R)
  (hs:∀i:Nat,2<=i->i<n->(bad i->f (i:Int)=some (.inr E))/\(¬bad i->f (i:Int)=some (.inl ((i+1:Nat):Int))))
  (hd:∀i:Nat,n<=i->f (i:Int)=Option.map Sum.inr A):
  ((∃i,2<=i/\i<n/\bad i)->loop f 2=some E)/\((∀i,2<=i->i<n-> ¬bad i)->loop f 2=A):=by
 by_cases h:2<=n
 ·exact A5M (f:=f) (fun i=>(i:Int)) 2 n h bad E A (fun i h1 h2 _=>hs i h1 h2) (fun _=>hd n (D8S _))
 ·refine ⟨fun ⟨i,h1,h2,_⟩=>by omega,fun _=> ?_⟩
  have:=hd 2 (by omega)
  rw [A4P];rw [show ((2:Nat):Int)=2 from rfl] at this;rw [this];cases A<;>rfl
theorem A6k (x:D5) (hl:x.Bg.length<=maxLen):A0G x=some (R0 (C2D x)):=by
 unfold A0G;simp only []
 by_cases h1:A5S x.W x.K x.Cap x.Now
 ·rw [(B50 _ _ _ _).2 h1,B9X _ _ _ _ _ _ hl];simp only [D8m,D8n,H7,D8a,D8B]
  by_cases h2:A4Q x.Bg x.Bx x.Cap x.Now x.W (-4096)
  ·rw [A2z h2,D8m,D8d];unfold B1L;have H:=D2J (f:=fun s:Int=>A3p x s) x.Bg.length (fun i=>B5T (el x.Bg (i-2)) (el x.Bg i) x.K) 2 (some 0)
    (fun i h2 hi=>by
     unfold A3p;have:A1 ((i:Int)-2)=((i-2:Nat):Int):=by rw [I2] at hl;rw [C4]<;>omega
     rw [D8f (by omega:(i:Int)<(x.Bg.length:Int)),D8e,this,J5 hi,J5 (by omega),D8a,D8a,B8L,D8a,A0s hi hl]
     exact V8 A1Q)
    (fun i hi=>by
     unfold A3p;rw [D8h (by omega: ¬(i:Int)<(x.Bg.length:Int)),D8d])
   by_cases h3: ∀i,2<=i->i<x.Bg.length-> ¬B5T (el x.Bg (i-2)) (el x.Bg i) x.K
   ·rw [H.2 h3,O3 ⟨h1,h2,h3⟩]
   ·rw [H.1,J7 fun h=>h3 h.2.2]
    grind
  ·rw [X6 h2,J7 fun h=>h2 h.2.1]
   rfl
 ·rw [D8q.2 fun h=>h1 ((B50 _ _ _ _).1 h),J7 fun h=>h1 h.1]
  rfl
def C2C (x:E2):Prop:=((0<=x.P/\x.P<=4)/\(0<=x.Now/\x.Now<=16777216)/\(0<=x.Bk/\x.Bk<=x.Now)/\(x.Ag.length:Int)=x.P+1)/\
 ∀i:Nat,1<=i->(i:Int)<=x.P->wv (el x.Ag (i-1))<=wv (el x.Ag i)/\
  (wv (el x.Ag (i-1))*(x.Now-x.Bk+1)<340282366920938463463374607431768211456->wv (el x.Ag i)<=wv (el x.Ag (i-1))*(x.Now-x.Bk+1))
theorem C3V (x:E2):((((((decide (x.P<(0:Int)))||(decide (x.P>(4:Int))))||(!(H4 x.Now)))||(decide (x.Bk<(0:Int))))||(decide (x.Bk>x.Now)))||((x.Ag.length:Int) !=(A1 (x.P+(1:Int)))))=true↔
  ¬((0<=x.P/\x.P<=4)/\(0<=x.Now/\x.Now<=16777216)/\(0<=x.Bk/\x.Bk<=x.Now)/\(x.Ag.length:Int)=x.P+1):=by
 simp only [D8l,D8c,D8w,bne_iff_ne];rw [D8q,Ne,A9l]
 by_cases h:0<=x.P/\x.P<=4
 ·rw [C4 (by omega) (by omega)];omega
 ·omega
theorem D2I {R:Type} {f:Int->Option (Int⊕R)} (P:Nat) (bad:Nat->Prop) (E:R) (A:Option R)
  (hs:∀i:Nat,1<=i->i<=P->(bad i->f (i:Int)=some (.inr E))/\(¬bad i->f (i:Int)=some (.inl ((i+1:Nat):Int))))
  (hd:f ((P+1:Nat):Int)=Option.map Sum.inr A):
  ((∃i,1<=i/\i<=P/\bad i)->loop f 1=some E)/\((∀i,1<=i->i<=P-> ¬bad i)->loop f 1=A):=by
 have:=A5M (f:=f) (fun i=>(i:Int)) 1 (P+1) (by omega) bad E A (fun i h1 h2 _=>hs i h1 (by omega)) (fun _=>hd)
 grind
theorem D5E {a b:A2} (ha:I0 a) (hb:I0 b):decide (A5C a b>0)=decide (wv b<wv a):=by
 rw [<-C8Z,B0k ha hb,D8v,D8c,D8c];omega
theorem C8y {a b:A2} (ha:I0 a) (hb:I0 b):decide (R8 a b>0)=decide (wv b<wv a):=D5E ha hb
def C8X (x:E2) (i:Nat):Prop:= ¬(wv (el x.Ag (i-1))<=wv (el x.Ag i)/\
  (wv (el x.Ag (i-1))*(x.Now-x.Bk+1)<340282366920938463463374607431768211456->wv (el x.Ag i)<=wv (el x.Ag (i-1))*(x.Now-x.Bk+1)))
theorem D20 {x:E2} (h1:(0<=x.P/\x.P<=4)/\(0<=x.Now/\x.Now<=16777216)/\(0<=x.Bk/\x.Bk<=x.Now)/\(x.Ag.length:Int)=x.P+1):
  I0 (S9 (A5 (A1 (A1 (x.Now-x.Bk)+1))))/\wv (S9 (A5 (A1 (A1 (x.Now-x.Bk)+1))))=x.Now-x.Bk+1:=by
 rw [C4 (n:=x.Now-x.Bk) (by omega) (by omega),C4 (by omega) (by omega),B1p (by omega) (by omega)]
 exact C6U (by omega)
theorem D2N {a b:A2} (ha:I0 a) (hb:I0 b): ∃r,A3j a b=some r/\r.2=decide (wv a*wv b<340282366920938463463374607431768211456)/\I0 r.1/\(r.2=true->wv r.1=wv a*wv b):=by
 by_cases h:wv a*wv b<340282366920938463463374607431768211456
 ·exact ⟨(J0 (wv a*wv b),true),by rw [B01 ha hb,if_pos h],(D8f h).symm,A0C (C1v ha hb) h,fun _=>A0q _⟩
 ·exact ⟨(⟨0,0⟩,false),by rw [B01 ha hb,if_neg h],(D8h h).symm,by unfold I0;simp,fun h=>by cases h⟩
theorem A8v (x:E2) (hw:∀w∈x.Ag,I0 w):A2a x=some (R0 (C2C x)):=by
 unfold A2a;have et:B4S x.Now=H4 x.Now:=rfl;simp only [et]
 by_cases h1:(0<=x.P/\x.P<=4)/\(0<=x.Now/\x.Now<=16777216)/\(0<=x.Bk/\x.Bk<=x.Now)/\(x.Ag.length:Int)=x.P+1
 ·rw [D8q.2 fun h=>(C3V x).1 h h1,D8d];unfold B3U;have hp:x.P=(x.P.toNat:Int):=by omega
  have H:=D2I (f:=fun s:Int=>A4h x (K5 (A5 (A1 (A1 (x.Now-x.Bk)+1)))) s) x.P.toNat (C8X x) 2 (some 0)
   (fun i g1 g2=>by
    unfold A4h;have ew:A1 ((i:Int)-1)=((i-1:Nat):Int):=by rw [C4]<;>omega
    have es:A1 ((i:Int)+1)=((i+1:Nat):Int):=by rw [C4]<;>omega
    obtain ⟨o1,o2⟩:=D20 h1;have oi:=hw _ (O4 (show i<x.Ag.length by omega))
    have oj:=hw _ (O4 (show i-1<x.Ag.length by omega))
    obtain ⟨r,m1,m3,m4,m5⟩:=D2N oj o1;rw [D8f (by omega:(i:Int)<=x.P),D8e,ew,es,J5 (by omega),J5 (by omega),B6e]
    simp only [D8a,m1,C8y oj oi];rw [o2] at m3 m5;unfold C8X
    by_cases q1:wv (el x.Ag (i-1))<=wv (el x.Ag i)
    ·rw [D8h (by omega),D8d,m3]
     by_cases q2:wv (el x.Ag (i-1))*(x.Now-x.Bk+1)<340282366920938463463374607431768211456
     ·have q3:=m5 (by grind)
      rw [D8f q2];simp only [H7,D8a,D8L,C8y oi m4,q3]
      grind
     ·rw [D8h q2];simp only [L6,D8a,D8F,D8d]
      grind
    grind)
   (by
    unfold A4h;rw [D8h (by omega),D8d])
  by_cases h2: ∀i,1<=i->i<=x.P.toNat-> ¬C8X x i
  ·rw [H.2 h2,O3];exact ⟨h1,fun i a b=>D85 fun h=>h2 i a (by omega) h⟩
  ·rw [H.1,J7]
   ·exact fun h=>h2 fun i a b c=>c (h.2 i a (by omega))
   grind
 ·rw [(C3V x).2 h1,D8e,J7 fun h=>h1 h.1]
theorem D43 (l:List A2) (hl:l.length<=maxLen):A7m l l=some true:=by
 unfold A7m;rw [D8N,D8d];unfold B2B;refine (R6 (f:=fun s:Int=>A3Z l l s) l.length (fun _=>False) false (some true) (fun i hi _=>⟨fun h=>h.elim,fun _=> ?_⟩) (fun _=> ?_)).2 fun _ _ h=>h
 ·unfold A3Z;rw [D8f (by omega:(i:Int)<(l.length:Int)),D8e,J5 hi]
  simp [A0s hi hl]
 ·unfold A3Z;rw [D8h (D8D _),D8d]
theorem C7G (x:E2) (hl:x.Ag.length<=maxLen):B22 x x=some true:=by
 unfold B22;simp [D43 _ hl]
def C2B (x:F4):Prop:=((1<=(x.Bo.length:Int)/\(x.Bo.length:Int)<=64)/\(0<=x.Now/\x.Now<=16777216))/\
 ∀i,i<x.Bo.length->(0<=el x.Bo i/\el x.Bo i<=1099511627776)/\(x.Now<(i:Int)->el x.Bo i=0)
theorem A68 (x:F4) (hl:x.Bo.length<=maxLen):A1j x=some (R0 (C2B x)):=by
 unfold A1j
 by_cases h1:(1<=(x.Bo.length:Int)/\(x.Bo.length:Int)<=64)/\(0<=x.Now/\x.Now<=16777216)
 ·have e:((((decide ((x.Bo.length:Int)<(1:Int)))||(decide ((x.Bo.length:Int)>(64:Int))))||(decide (x.Now<(0:Int))))||(decide (x.Now>(16777216:Int))))=false:=by
   grind
  rw [e,D8d];unfold B2x;have H:=R6 (f:=fun s:Int=>A3U x s) x.Bo.length (fun i=> ¬((0<=el x.Bo i/\el x.Bo i<=1099511627776)/\(x.Now<(i:Int)->el x.Bo i=0))) 2 (some 0)
   (fun i hi _=>by
    unfold A3U;rw [D8f (by omega:(i:Int)<(x.Bo.length:Int)),D8e,J5 hi,D8a,A0s hi hl]
    grind)
   (fun _=>by
    unfold A3U;rw [D8h (D8D _),D8d])
  by_cases h2: ∀i,i<x.Bo.length->(0<=el x.Bo i/\el x.Bo i<=1099511627776)/\(x.Now<(i:Int)->el x.Bo i=0)
  ·rw [H.2 fun i hi hn=>hn (h2 i hi),O3 ⟨h1,h2⟩]
  ·rw [H.1 (A7d h2),J7 fun h=>h2 h.2]
 ·have e:((((decide ((x.Bo.length:Int)<(1:Int)))||(decide ((x.Bo.length:Int)>(64:Int))))||(decide (x.Now<(0:Int))))||(decide (x.Now>(16777216:Int))))=true:=by
   grind
  rw [e,D8e,J7 fun h=>h1 h.1]
def B5j (x:C2):Prop:=(((1<=x.W/\x.W<=1048576)/\(1<=x.Cap/\x.Cap<=65536)/\(0<=x.Now/\x.Now<=16777216))/\(x.Bc.length:Int)<=x.Cap)/\
 ∀i,i<x.Bc.length->(F9 x.Now x.W (el x.Bc i).T=true/\ -4096<=(el x.Bc i).V/\(el x.Bc i).V<=4096)/\
  (1<=i->(el x.Bc (i-1)).T<(el x.Bc i).T/\Z9 x.Bu (el x.Bc i).V (el x.Bc (i-1)).V=false)
theorem C5K (a b c:Int):A6A a b c=R7 a b c:=by
 rw [D8v,B54];unfold A6A;simp;omega
theorem A5f (x:C2) (hl:x.Bc.length<=maxLen):A0f x=some (R0 (B5j x)):=by
 unfold A0f;simp only [C5K]
 by_cases h1:((1<=x.W/\x.W<=1048576)/\(1<=x.Cap/\x.Cap<=65536)/\(0<=x.Now/\x.Now<=16777216))/\(x.Bc.length:Int)<=x.Cap
 ·rw [(B54 _ _ _).2 h1.1,D8h (by omega),D8m,D8B,D8d]
  unfold B0m;have H:=R6 (f:=fun s:Int=>A2E x s) x.Bc.length (fun i=> ¬((F9 x.Now x.W (el x.Bc i).T=true/\ -4096<=(el x.Bc i).V/\(el x.Bc i).V<=4096)/\
    (1<=i->(el x.Bc (i-1)).T<(el x.Bc i).T/\Z9 x.Bu (el x.Bc i).V (el x.Bc (i-1)).V=false))) 2 (some 0)
   (fun i hi _=>by
    unfold A2E;rw [D8f (by omega:(i:Int)<(x.Bc.length:Int)),D8e,J5 hi,D8a,A0s hi hl]
    simp only [A10]
    by_cases g1:F9 x.Now x.W (el x.Bc i).T=true/\ -4096<=(el x.Bc i).V/\(el x.Bc i).V<=4096
    ·have e:(((!(F9 x.Now x.W (el x.Bc i).T))||(decide ((el x.Bc i).V<(-4096:Int))))||(decide ((el x.Bc i).V>(4096:Int))))=false:=by
      grind
     rw [e,D8d];rcases i with _|i
     ·simp_all
     ·have e4:decide (((i+1:Nat):Int)>0)=true:=D8f (by omega)
      rw [e4,B2S (by omega) (Nat.le_of_lt hi) hl,D8R,J5 (by omega)]
      simp only [H7,D8a,D8L]
      by_cases g2:(el x.Bc i).T>=(el x.Bc (i+1)).T
      ·simp only [g2,decide_true,D8U,D8m,L6,D8a,D8e]
       grind
      ·simp only [g2,decide_false,D8B,D8n,H7,D8a]
       grind
    grind)
   (fun _=>by
    unfold A2E;rw [D8h (D8D _),D8d])
  by_cases h2: ∀i,i<x.Bc.length->(F9 x.Now x.W (el x.Bc i).T=true/\ -4096<=(el x.Bc i).V/\(el x.Bc i).V<=4096)/\
    (1<=i->(el x.Bc (i-1)).T<(el x.Bc i).T/\Z9 x.Bu (el x.Bc i).V (el x.Bc (i-1)).V=false)
  ·rw [H.2 fun i hi hn=>hn (h2 i hi),O3 ⟨h1,h2⟩]
  ·rw [H.1 (A7d h2),J7 fun h=>h2 h.2]
 ·have e:((!(R7 x.W x.Cap x.Now))||(decide ((x.Bc.length:Int)>x.Cap)))=true:=by
   rw [D8l,D8w,D8q,Ne,B54,D8c];omega
  rw [e,D8e,J7 fun h=>h1 h.1]
theorem C7I (x:C2) (hl:x.Bc.length<=maxLen):B24 x x=some true:=by
 unfold B24;simp [C1k _ hl]
end Go.Win
set_option maxHeartbeats 4000000
namespace Go.Win
open Go.Vc Go.Dec
def A3w (c:B7):Prop:=(1<=c.Bj/\c.Bj<=11)/\
 ((c.Bj=6\/c.Bj=10->c.W=0)/\(c.Bj=7->1<=c.W/\c.W<=64)/\(c.Bj≠6/\c.Bj≠10/\c.Bj≠7->1<=c.W/\c.W<=1048576))/\
 ((c.Bj=6\/c.Bj=7->c.Cap=0)/\(c.Bj=9->1<=c.Cap/\c.Cap<=64)/\(c.Bj=10->2<=c.Cap/\c.Cap<=65536)/\(c.Bj≠6/\c.Bj≠7/\c.Bj≠9/\c.Bj≠10->1<=c.Cap/\c.Cap<=65536))/\
 ((c.Bj=1\/c.Bj=6\/c.Bj=7\/c.Bj=8\/c.Bj=9->c.K=0)/\(c.Bj≠1/\c.Bj≠6/\c.Bj≠7/\c.Bj≠8/\c.Bj≠9->1<=c.K/\c.K<=64))/\
 ((c.Bj=4->1<=c.Bp/\c.Bp<=4)/\(c.Bj≠4->c.Bp=0))/\
 ((c.Bj=6->0<=c.P/\c.P<=4)/\(c.Bj≠6->c.P=0))/\
 ((c.Bj=9->1<=c.Ao/\c.Ao<=16)/\(c.Bj≠9->c.Ao=0))/\
 ((c.Bj=3->1<=c.Bu/\c.Bu<=1024)/\(c.Bj=8->0<=c.Bu/\c.Bu<=1)/\(c.Bj≠3/\c.Bj≠8->c.Bu=0))
open Classical in
noncomputable def vCf (p:Prop):Int:=if p then 0 else 1
theorem C15 {p:Prop} (h:p):vCf p=0:=by unfold vCf;rw [if_pos h]
theorem C4R {p:Prop} (h:¬p):vCf p=1:=by unfold vCf;rw [if_neg h]
theorem D2i {b:Bool} {p:Prop} (h:b=true↔ ¬p):cond b (1:Int) 0=vCf p:=by
 cases b with
 |true=>rw [C4R (h.1 rfl)];rfl
 |false=>rw [C15 (D85 fun hn=>absurd (h.2 hn) (by decide))];rfl
theorem A3N (c:B7):X8 c=vCf (A3w c):=by
 obtain ⟨k,agg,w,kk,cap,p,ch,mx⟩:=c
 by_cases hk:1<=k/\k<=11
 ·have:k=1\/k=2\/k=3\/k=4\/k=5\/k=6\/k=7\/k=8\/k=9\/k=10\/k=11:=by omega
  rcases this with h|h|h|h|h|h|h|h|h|h|h<;>subst h<;>
   simp only [X8,Y4,A3M,A3k,A1R,A1S,A1T,A1U,A1V,A1W,A1X,
    B3,F6,B0,beq_self_eq_true,D8L,Bool.and_true,D8e,D8d,show ((1:Int)==2)=false from rfl,show ((1:Int)==3)=false from rfl,show ((1:Int)==4)=false from rfl,show ((1:Int)==5)=false from rfl,show ((1:Int)==6)=false from rfl,show ((1:Int)==7)=false from rfl,show ((1:Int)==8)=false from rfl,show ((1:Int)==9)=false from rfl,show ((1:Int)==10)=false from rfl,show ((1:Int)==11)=false from rfl,
    show ((2:Int)==3)=false from rfl,show ((2:Int)==4)=false from rfl,show ((2:Int)==6)=false from rfl,show ((2:Int)==7)=false from rfl,show ((2:Int)==9)=false from rfl,show ((2:Int)==10)=false from rfl,
    show ((3:Int)==6)=false from rfl,show ((3:Int)==7)=false from rfl,show ((3:Int)==9)=false from rfl,show ((3:Int)==10)=false from rfl,
    show ((4:Int)==3)=false from rfl,show ((4:Int)==6)=false from rfl,show ((4:Int)==7)=false from rfl,show ((4:Int)==9)=false from rfl,show ((4:Int)==10)=false from rfl,
    show ((5:Int)==2)=false from rfl,show ((5:Int)==3)=false from rfl,show ((5:Int)==4)=false from rfl,show ((5:Int)==6)=false from rfl,show ((5:Int)==7)=false from rfl,show ((5:Int)==9)=false from rfl,show ((5:Int)==10)=false from rfl,
    show ((7:Int)==6)=false from rfl,
    show ((8:Int)==2)=false from rfl,show ((8:Int)==3)=false from rfl,show ((8:Int)==4)=false from rfl,show ((8:Int)==5)=false from rfl,show ((8:Int)==6)=false from rfl,show ((8:Int)==7)=false from rfl,show ((8:Int)==9)=false from rfl,show ((8:Int)==10)=false from rfl,show ((8:Int)==11)=false from rfl,
    show ((9:Int)==6)=false from rfl,show ((9:Int)==7)=false from rfl,show ((10:Int)==6)=false from rfl,show ((10:Int)==7)=false from rfl,show ((10:Int)==9)=false from rfl,
    show ((11:Int)==2)=false from rfl,show ((11:Int)==3)=false from rfl,show ((11:Int)==4)=false from rfl,show ((11:Int)==5)=false from rfl,show ((11:Int)==6)=false from rfl,show ((11:Int)==7)=false from rfl,show ((11:Int)==9)=false from rfl,show ((11:Int)==10)=false from rfl,
    show (decide ((1048576:Int)>0))=true from rfl,show (decide ((64:Int)>0))=true from rfl,show (decide ((0:Int)>0))=false from rfl]<;>
   refine D2i ?_<;>unfold A3w<;>simp [-not_and,-Classical.not_imp]<;>omega
 ·rw [C4R fun h=>hk h.1];have e: ∀n:Int,1<=n->n<=11->(k==n)=false:=fun n h1 h2=>by rw [D80];omega
  unfold X8 Y4;simp only [e 6 (by decide) (by decide),e 7 (by decide) (by decide),e 9 (by decide) (by decide),e 10 (by decide) (by decide),e 3 (by decide) (by decide),e 4 (by decide) (by decide),e 2 (by decide) (by decide),e 5 (by decide) (by decide),e 11 (by decide) (by decide),e 8 (by decide) (by decide),e 1 (by decide) (by decide),D8d]
end Go.Win
set_option maxHeartbeats 4000000
namespace Go.Win
open Go.Vc Go.Dec
def A0r (n k:Int):Int:=max 1 (n/k)
theorem C0O {n k:Int} (hn:0<=n) (hk:1<=k):Int.tdiv n k=n/k/\0<=n/k/\n/k<=n:=by
 refine ⟨Int.tdiv_eq_ediv_of_nonneg hn,Int.ediv_nonneg hn (by omega), ?_⟩
 exact Int.ediv_le_self k hn
theorem D4v {n k:Int} (hn:0<=n/\n<=1099511627776) (hk:1<=k):A4Y n k=some (A0r n k):=by
 obtain ⟨h1,h2,h3⟩:=C0O hn.1 hk;unfold A4Y A0r;rw [D8f (by omega),A2Y,h1,C4 (by omega) (by omega)]
 congr 1
 show (if n/k>1 then n/k else 1)=max 1 (n/k)
 split<;>omega
theorem D0Z {n k:Int} (hn:0<=n/\n<=1099511627776) (hk:1<=k):1<=A0r n k/\A0r n k<=1099511627776/\(1<=n->A0r n k<=n):=by
 obtain ⟨h1,h2,h3⟩:=C0O hn.1 hk;unfold A0r;omega
def A5p (l:List E0) (i:Nat):Int:=((l.take i).map (·.G)).sum
theorem C38 (l:List E0):A5p l 0=0:=by simp [A5p]
theorem C37 {l:List E0} {i:Nat} (h:i<l.length):A5p l (i+1)=A5p l i+(el l i).G:=by
 unfold A5p;rw [List.take_add_one,A4F h];simp
def C2F (l:List E0) (M:Int) (i:Nat):Prop:=(-4096<=(el l i).V/\(el l i).V<=4096)/\(1<=(el l i).G/\0<=(el l i).D/\(el l i).G+(el l i).D<=M)/\(1<=i->(el l (i-1)).V<=(el l i).V)
def B1B (x:C1):Prop:=(1<=x.K/\x.K<=64)/\(2<=x.Cap/\x.Cap<=65536)/\(0<=x.N/\x.N<=1099511627776)/\(x.Aw.length:Int)<=x.Cap
def C2E (x:C1):Prop:=B1B x/\(x.Aw.length=0↔x.N=0)/\(∀i,i<x.Aw.length->C2F x.Aw (A0r x.N x.K) i)/\
 (0<x.Aw.length->(el x.Aw 0).G=1/\(el x.Aw 0).D=0/\(el x.Aw (x.Aw.length-1)).D=0/\A5p x.Aw x.Aw.length=x.N)
theorem D3h {l:List E0} {M:Int} (hM:M<=1099511627776) (hl:l.length<=65536): ∀i,i<=l.length->(∀j,j<i->C2F l M j)->(i:Int)<=A5p l i/\A5p l i<=i*1099511627776:=by
 intro i
 induction i with
 |zero=>intro _ _;rw [C38];omega
 |succ i ih=>
  intro hi h;have h1:=ih (by omega) fun j hj=>h j (by omega)
  have h2:=(h i (by omega)).2.1
  rw [C37 (by omega)]
  omega
theorem A5s (x:C1):A0h x=some (R0 (C2E x)):=by
 unfold A0h
 by_cases h1:B1B x
 ·have h1' :=h1;unfold B1B at h1';have e:(((((((decide (x.K<(1:Int)))||(decide (x.K>(64:Int))))||(decide (x.Cap<(2:Int))))||(decide (x.Cap>(65536:Int))))||(decide (x.N<(0:Int))))||(decide (x.N>(1099511627776:Int))))||(decide ((x.Aw.length:Int)>x.Cap)))=false:=by
   grind
  rw [e,D8d];have hl:x.Aw.length<=65536:=by omega
  have hm:x.Aw.length<=maxLen:=by rw [I2];omega
  by_cases hN:x.N=0
  ·have eN:(x.N==0)=true:=by rw [hN];rfl
   rw [eN,D8e]
   by_cases h0:0<x.Aw.length
   ·rw [D8f (by omega),D8e,J7]
    intro h;have:=h.2.1;omega
   ·rw [D8h (by omega),D8d,O3]
    exact ⟨h1,⟨fun _=>hN,fun _=>by omega⟩,fun i hi=>absurd hi (by omega),fun h=>absurd h h0⟩
  ·have eN:(x.N==0)=false:=by grind
   rw [eN,D8d]
   by_cases h0:0<x.Aw.length
   ·have e0:((x.Aw.length:Int)==0)=false:=by grind
    rw [e0,D8d,D4v h1'.2.2.1 h1'.1.1,D8a];have hM:=D0Z (n:=x.N) (k:=x.K) h1'.2.2.1 h1'.1.1;unfold B0o;have H:=A5M (f:=fun s:Int×Int=>A2M x (A0r x.N x.K) s.1 s.2) (fun i=>(A5p x.Aw i,(i:Int))) 0 x.Aw.length (Nat.zero_le _) (fun i=> ¬C2F x.Aw (A0r x.N x.K) i) 2
     (some (R0 ((el x.Aw 0).G=1/\(el x.Aw 0).D=0/\(el x.Aw (x.Aw.length-1)).D=0/\A5p x.Aw x.Aw.length=x.N)))
     (fun i _ hi hp=>by
      simp only [];unfold A2M;have hs:=D3h (l:=x.Aw) hM.2.1 hl i (by omega) fun j hj=>D85 fun hn=>hp j (Nat.zero_le _) hj hn
      rw [D8f (by omega:(i:Int)<(x.Aw.length:Int)),D8e,J5 hi,D8a,A0s hi hm]
      unfold C2F
      by_cases g1: -4096<=(el x.Aw i).V/\(el x.Aw i).V<=4096
      ·have e1:(decide ((el x.Aw i).V< -4096)||decide ((el x.Aw i).V>4096))=false:=by simp;omega
       rw [e1];have key: ∀P:Prop,((((decide ((el x.Aw i).G<(1:Int)))||(decide ((el x.Aw i).D<(0:Int))))||(decide ((el x.Aw i).G>(A0r x.N x.K))))||(decide ((el x.Aw i).D>(A1 ((A0r x.N x.K)-(el x.Aw i).G)))))=true↔ ¬(1<=(el x.Aw i).G/\0<=(el x.Aw i).D/\(el x.Aw i).G+(el x.Aw i).D<=A0r x.N x.K):=by
        intro _;simp only [D8l,D8c]
        by_cases q:1<=(el x.Aw i).G/\(el x.Aw i).G<=A0r x.N x.K
        ·rw [C4 (by omega) (by omega)];omega
        ·omega
       have keyw:(1<=(el x.Aw i).G/\0<=(el x.Aw i).D/\(el x.Aw i).G+(el x.Aw i).D<=A0r x.N x.K)->A1 (A5p x.Aw i+(el x.Aw i).G)=A5p x.Aw (i+1):=by
        intro q;rw [C37 hi,C4]<;>omega
       have fin: ∀(c1:Bool) (P1:Prop),(c1=true↔ ¬P1)->
         (¬((-4096<=(el x.Aw i).V/\(el x.Aw i).V<=4096)/\(1<=(el x.Aw i).G/\0<=(el x.Aw i).D/\(el x.Aw i).G+(el x.Aw i).D<=A0r x.N x.K)/\P1)->
          (cond c1 (some (.inr 2)) (cond ((((decide ((el x.Aw i).G<(1:Int)))||(decide ((el x.Aw i).D<(0:Int))))||(decide ((el x.Aw i).G>(A0r x.N x.K))))||(decide ((el x.Aw i).D>(A1 ((A0r x.N x.K)-(el x.Aw i).G))))) (some (.inr 2)) (some (.inl (A1 (A5p x.Aw i+(el x.Aw i).G),((i+1:Nat):Int))))):Option ((Int×Int)⊕Int))=some (.inr 2))/\
         (¬ ¬((-4096<=(el x.Aw i).V/\(el x.Aw i).V<=4096)/\(1<=(el x.Aw i).G/\0<=(el x.Aw i).D/\(el x.Aw i).G+(el x.Aw i).D<=A0r x.N x.K)/\P1)->
          (cond c1 (some (.inr 2)) (cond ((((decide ((el x.Aw i).G<(1:Int)))||(decide ((el x.Aw i).D<(0:Int))))||(decide ((el x.Aw i).G>(A0r x.N x.K))))||(decide ((el x.Aw i).D>(A1 ((A0r x.N x.K)-(el x.Aw i).G))))) (some (.inr 2)) (some (.inl (A1 (A5p x.Aw i+(el x.Aw i).G),((i+1:Nat):Int))))):Option ((Int×Int)⊕Int))=some (.inl (A5p x.Aw (i+1),((i+1:Nat):Int)))):=by
        intro c1 P1 hc
        by_cases q:1<=(el x.Aw i).G/\0<=(el x.Aw i).D/\(el x.Aw i).G+(el x.Aw i).D<=A0r x.N x.K
        ·rw [D8q.2 fun h=>(key True).1 h q,D8d,keyw q]
         grind
        ·rw [(key True).2 q,D8e]
         grind
       rcases i with _|i
       ·have e4:decide (((0:Nat):Int)>0)=false:=rfl;rw [e4];simp only [Bool.and_false,L6,D8a,D8F,Bool.or_false];exact fin false _ ⟨fun h=>(by cases h),fun h=>absurd (fun h2=>absurd h2 (by decide)) h⟩
       ·have e4:decide (((i+1:Nat):Int)>0)=true:=D8f (by omega)
        rw [e4,B2S (by omega) (Nat.le_of_lt hi) hm,D8R,J5 (by omega)]
        simp only [D8n,Bool.and_true,H7,D8a,D8L,D8B];refine fin _ _ ?_;simp
      ·have e1:(decide ((el x.Aw i).V< -4096)||decide ((el x.Aw i).V>4096))=true:=by simp;omega
       rw [e1];simp only [D8m,D8F,L6,D8a,D8U,D8e]
       grind)
     (fun hp=>by
      simp only [];unfold A2M;rw [D8h (D8D _),D8d]
      congr 1
      rw [B0x h0,D8a,B2S h0 (D8S _) hm,J5 (by omega),D8a]
      by_cases q:(el x.Aw 0).G=1/\(el x.Aw 0).D=0/\(el x.Aw (x.Aw.length-1)).D=0/\A5p x.Aw x.Aw.length=x.N
      ·rw [O3 q]
       grind
      ·rw [J7 q]
       grind)
    rw [show ((0:Int),(0:Int))=(A5p x.Aw 0,((0:Nat):Int)) from by rfl]
    by_cases h2: ∀i,i<x.Aw.length->C2F x.Aw (A0r x.N x.K) i
    ·rw [H.2 fun i _ hi hn=>hn (h2 i hi)]
     congr 1
     by_cases q:(el x.Aw 0).G=1/\(el x.Aw 0).D=0/\(el x.Aw (x.Aw.length-1)).D=0/\A5p x.Aw x.Aw.length=x.N
     ·rw [O3 q,O3];exact ⟨h1,⟨fun h=>by omega,fun h=>absurd h hN⟩,h2,fun _=>q⟩
     ·rw [J7 q,J7];exact fun h=>q (h.2.2.2 h0)
    ·obtain ⟨i,hi,hn⟩:=A7d h2;rw [H.1 ⟨i,Nat.zero_le _,hi,hn⟩,J7];exact fun h=>h2 h.2.2.1
   ·have e0:((x.Aw.length:Int)==0)=true:=by grind
    rw [e0,D8e,J7];intro h;have:=h.2.1;omega
 ·have e:(((((((decide (x.K<(1:Int)))||(decide (x.K>(64:Int))))||(decide (x.Cap<(2:Int))))||(decide (x.Cap>(65536:Int))))||(decide (x.N<(0:Int))))||(decide (x.N>(1099511627776:Int))))||(decide ((x.Aw.length:Int)>x.Cap)))=true:=by
   unfold B1B at h1
   grind
  rw [e,D8e,J7 fun h=>h1 h.1]
theorem C7L (x:C1) (hl:x.Aw.length<=maxLen):B27 x x=some true:=by
 unfold B27;simp only [D8N,Bool.or_false,D8d];unfold B7r;refine (R6 (f:=fun s:Int=>A7n x x s) x.Aw.length (fun _=>False) false (some true) (fun i hi _=>⟨fun h=>h.elim,fun _=> ?_⟩) (fun _=> ?_)).2 fun _ _ h=>h
 ·unfold A7n;rw [D8f (by omega:(i:Int)<(x.Aw.length:Int)),D8e,J5 hi]
  simp [A0s hi hl]
 ·unfold A7n;rw [D8h (D8D _),D8d]
end Go.Win
set_option maxHeartbeats 4000000
namespace Go.Win
open Go.Vc Go.Dec
theorem bla (f:Nat): ∀x:Nat,x<2^f->x≠0->1<=Lib.bitLenAux f x/\2^(Lib.bitLenAux f x-1)<=x/\x<2^Lib.bitLenAux f x:=by
 induction f with
 |zero=>intro x h h0;simp at h;exact absurd h h0
 |succ f ih=>
  intro x h h0;unfold Lib.bitLenAux;rw [if_neg h0]
  by_cases h1:x/2=0
  ·have:x=1:=by omega
   subst this;have e:Lib.bitLenAux f (1/2)=0:=by cases f<;>simp [Lib.bitLenAux]
   rw [e];simp
  ·have:=ih (x/2) (by rw [Nat.pow_succ] at h;omega) h1
   obtain ⟨b1,b2,b3⟩:=this
   generalize Lib.bitLenAux f (x/2)=b at*
   refine ⟨by omega, ?_, ?_⟩
   ·obtain ⟨c,rfl⟩: ∃c,b=c+1:=⟨b-1,by omega⟩
    rw [show 1+(c+1)-1=c+1 by omega,Nat.pow_succ]
    rw [show c+1-1=c by omega] at b2
    omega
   ·rw [Nat.add_comm,Nat.pow_succ];omega
theorem A5x {x:Int} (h0:0<x) (h1:x<18446744073709551616): ∃b:Nat,Y0 x=some (b:Int)/\1<=b/\b<=64/\(2:Int)^(b-1)<=x/\x<2^b:=by
 obtain ⟨n,rfl⟩:=Int.eq_ofNat_of_zero_le (by omega:0<=x)
 have hb:=bla 64 n (by have:(2:Nat)^64=18446744073709551616:=by decide
                       omega) (by omega)
 refine ⟨Lib.bitLen n, ?_,hb.1, ?_, ?_, ?_⟩
 ·unfold Y0;rw [K7 (by rw [D8c];omega),D8Q]
 ·have:Lib.bitLen n-1<64:=by
   refine (Nat.pow_lt_pow_iff_right (a:=2) (by decide)).1 (Nat.lt_of_le_of_lt hb.2.1 ?_)
   have:(2:Nat)^64=18446744073709551616:=by decide
   omega
  omega
 ·have:=hb.2.1
  exact_mod_cast this
 ·have:=hb.2.2
  exact_mod_cast this
theorem B6w {a b k:Nat} (hb:b<2^k) (h:a*2^k+b<18446744073709551616):N8 .u64 ((a*2^k:Nat):Int) (b:Int)=((a*2^k+b:Nat):Int):=by
 show IntKind.u64.wrap _=_;have hbits:IntKind.u64.bits=64:=rfl;rw [hbits,IntKind.wrap_u64,BitVec.toNat_or,BitVec.toNat_ofInt,BitVec.toNat_ofInt];have e1:((((a*2^k:Nat):Int)%((2^64:Nat):Int)).toNat)=a*2^k:=by omega
 have e2:(((b:Int)%((2^64:Nat):Int)).toNat)=b:=by omega
 rw [e1,e2];have e3:a*2^k|||b=a*2^k+b:=by
  rw [<-Nat.shiftLeft_eq,Nat.shiftLeft_add_eq_or_of_lt hb]
 rw [e3];omega
theorem B0C (x:Int) {k:Nat} (hk:k<=64):E5 .u64 x (k:Int)=(x*2^k)%18446744073709551616:=by
 show IntKind.u64.wrap (x*2^(min (k:Int).toNat IntKind.u64.bits))=_;have:min (k:Int).toNat IntKind.u64.bits=k:=by
  have hbits:IntKind.u64.bits=64:=rfl;rw [hbits,D8Q];omega
 rw [this,IntKind.wrap_u64]
theorem A9a (x:Int) {k:Nat} (hk:k<=64):G0 .u64 x (k:Int)=x/2^k:=by
 show x.fdiv (2^(min (k:Int).toNat IntKind.u64.bits))=_;have:min (k:Int).toNat IntKind.u64.bits=k:=by
  have hbits:IntKind.u64.bits=64:=rfl;rw [hbits,D8Q];omega
 rw [this,Int.fdiv_eq_ediv_of_nonneg _ (Int.le_of_lt (Int.pow_pos (by decide)))]
noncomputable def C9j (a:A2) (k:Nat):A2×Bool:=
 if wv a*2^k<340282366920938463463374607431768211456 then (J0 (wv a*2^k),true) else (⟨0,0⟩,false)
theorem D2E {h l k:Nat} (hk:k<=63) (hl:l<18446744073709551616) (hno:((h:Int)*18446744073709551616+l)*2^k<340282366920938463463374607431768211456):
  (⟨N8 .u64 (E5 .u64 (h:Int) (k:Int)) (G0 .u64 (l:Int) ((64-k:Nat):Int)),E5 .u64 (l:Int) (k:Int)⟩:A2)=J0 (((h:Int)*18446744073709551616+l)*2^k):=by
 have hP:((2:Int)^k)=((2^k:Nat):Int):=by simp
 have hQ:((2:Int)^(64-k))=((2^(64-k):Nat):Int):=by simp
 have hPQ:2^(64-k)*2^k=18446744073709551616:=by
  rw [<-Nat.pow_add,show 64-k+k=64 by omega]
 rw [B0C _ (by omega),B0C _ (by omega),A9a _ (by omega)]
 rw [hP] at hno⊢;rw [hQ];have e:((h:Int)*18446744073709551616+l)*((2^k:Nat):Int)=((h*2^k:Nat):Int)*18446744073709551616+((l*2^k:Nat):Int):=by
  rw [Int.natCast_mul,Int.natCast_mul];grind
 have d1:l/2^(64-k)=(l*2^k)/18446744073709551616:=by
  rw [<-hPQ,Nat.mul_div_mul_right _ _ (Nat.two_pow_pos k)]
 have d2:l/2^(64-k)<2^k:=by
  rw [Nat.div_lt_iff_lt_mul (Nat.two_pow_pos _),Nat.mul_comm,hPQ];exact hl
 rw [e] at hno⊢;have c1:(h:Int)*((2^k:Nat):Int)=((h*2^k:Nat):Int):=by rw [Int.natCast_mul]
 have c2:(l:Int)*((2^k:Nat):Int)=((l*2^k:Nat):Int):=by rw [Int.natCast_mul]
 have c3:(l:Int)/((2^(64-k):Nat):Int)=((l/2^(64-k):Nat):Int):=by rw [Int.natCast_ediv]
 rw [c1,c2,c3];have c4:((h*2^k:Nat):Int)%18446744073709551616=((h*2^k:Nat):Int):=by omega
 rw [c4,B6w d2 (by rw [d1];omega),d1]
 unfold J0
 congr 1<;>omega
theorem A1l (k:Nat):(0:Int)<2^k:=Int.pow_pos (by decide)
theorem D0D {h b k:Nat} (hb:1<=b) (h1:2^(b-1)<=h) (h2:h<2^b):(k+b<=64->(h+1)*2^k<=18446744073709551616)/\(64<k+b->18446744073709551616<=h*2^k):=by
 have e:(2:Nat)^64=18446744073709551616:=by decide
 refine ⟨fun hk=> ?_,fun hk=> ?_⟩
 ·have:=D8y (2^k) (show h+1<=2^b by omega)
  rw [<-Nat.pow_add] at this;have h3:=Nat.pow_le_pow_right (n:=2) (by decide) (show b+k<=64 by omega)
  omega
 ·have:=D8y (2^k) h1;rw [<-Nat.pow_add] at this;have h3:=Nat.pow_le_pow_right (n:=2) (by decide) (show 64<=b-1+k by omega)
  omega
theorem D1T {a:A2} (ha:I0 a) {k:Nat} (hk:k<=63):A45 a (k:Int)=some (C9j a k):=by
 obtain ⟨h,l⟩:=a;unfold I0 at ha;simp only at ha;obtain ⟨h,rfl⟩:=Int.eq_ofNat_of_zero_le ha.1;obtain ⟨l,rfl⟩:=Int.eq_ofNat_of_zero_le ha.2.2.1;unfold A45 C9j;have c0:decide ((k:Int)<0)=false:=by rw [D8r];omega
 have wvE:wv ⟨(h:Int),(l:Int)⟩=(h:Int)*18446744073709551616+l:=rfl;rw [c0,D8d,wvE];have e2:((h:Int)*18446744073709551616+l)*((2^k:Nat):Int)=((h*2^k:Nat):Int)*18446744073709551616+((l*2^k:Nat):Int):=by
  rw [Int.natCast_mul,Int.natCast_mul];grind
 have hP:((2:Int)^k)=((2^k:Nat):Int):=by simp
 have lP:=Nat.mul_lt_mul_of_pos_right (show l<18446744073709551616 by omega) (Nat.two_pow_pos k)
 have kP:=Nat.pow_le_pow_right (n:=2) (by decide) hk
 have c63:(2:Nat)^63=9223372036854775808:=by decide
 have ck1:decide ((k:Int)>=64)=false:=by rw [D8r];omega
 have wk:A5 (k:Int)=(k:Int):=by rw [K2];omega
 have w1:A1 (64-(k:Int))=((64-k:Nat):Int):=by rw [C4]<;>omega
 have w2:A5 ((64-k:Nat):Int)=((64-k:Nat):Int):=by rw [K2];omega
 have tail: ∀(_:((h:Int)*18446744073709551616+l)*2^k<340282366920938463463374607431768211456),
   (cond (decide ((k:Int)>=(64:Int))) (
    ck (decide (0<=(A5 (A1 ((k:Int)-(64:Int))))))<|
    some ((A2.mk (E5 .u64 (l:Int) (A5 (A1 ((k:Int)-(64:Int))))) (0:Int)),true))<|
   ck (decide (0<=(A5 (k:Int))))<|
   ck (decide (0<=(A5 (A1 ((64:Int)-(k:Int))))))<|
   ck (decide (0<=(A5 (k:Int))))<|
   some ((A2.mk (N8 .u64 (E5 .u64 (h:Int) (A5 (k:Int))) (G0 .u64 (l:Int) (A5 (A1 ((64:Int)-(k:Int)))))) (E5 .u64 (l:Int) (A5 (k:Int)))),true))
   =some (J0 (((h:Int)*18446744073709551616+l)*2^k),true):=by
  intro hno;rw [ck1,D8d,wk,w1,w2,K7 (by rw [D8c];omega),K7 (by rw [D8c];omega),K7 (by rw [D8c];omega),D2E hk (by omega) hno]
 by_cases hz:h=0/\l=0
 ·obtain ⟨rfl,rfl⟩:=hz;simp [A0p,J0]
 ·have z:A0p ⟨(h:Int),(l:Int)⟩=false:=by
   unfold A0p;simp only [D81,D80];omega
  simp only [z,D8d];unfold A9o
  by_cases hh:h=0
  ·subst hh;obtain ⟨b,b1,b2,b3,_,_⟩:=A5x (x:=(l:Int)) (by omega) (by omega)
   have c1:(((0:Nat):Int) !=0)=false:=rfl;have c2:decide ((k:Int)>A1 (128-(b:Int)))=false:=by
    rw [D8r,C4 (by omega) (by omega)];omega
   have hno:(((0:Nat):Int)*18446744073709551616+l)*2^k<340282366920938463463374607431768211456:=by
    rw [hP,e2,Nat.zero_mul];omega
   simp only [c1,D8d,b1,D8a,c2];rw [if_pos hno];exact tail hno
  ·obtain ⟨b,b1,b2,b3,b4,b5⟩:=A5x (x:=(h:Int)) (by omega) (by omega)
   have c1:((h:Int) !=0)=true:=by rw [bne_iff_ne];omega
   have fl:=D0D (h:=h) (b:=b) (k:=k) b2 (by exact_mod_cast b4) (by exact_mod_cast b5)
   have w3:A1 (64+(b:Int))=64+(b:Int):=by rw [C4]<;>omega
   have w4:A1 (128-(64+(b:Int)))=64-(b:Int):=by rw [C4]<;>omega
   simp only [c1,D8e,b1,D8a,w3,w4]
   by_cases hb:k+b<=64
   ·have c2:decide ((k:Int)>64-(b:Int))=false:=by rw [D8r];omega
    have f1:=fl.1 hb;rw [Nat.add_mul,Nat.one_mul] at f1;have hno:((h:Int)*18446744073709551616+l)*2^k<340282366920938463463374607431768211456:=by
     rw [hP,e2];omega
    rw [c2,D8d,if_pos hno];exact tail hno
   ·have c2:decide ((k:Int)>64-(b:Int))=true:=by rw [D8c];omega
    have f2:=fl.2 (by omega)
    rw [c2,D8e,if_neg];rw [hP,e2];omega
end Go.Win
set_option maxHeartbeats 4000000
namespace Go.Win
open Go.Vc Go.Dec
def J4 (l:List B2) (i:Nat):B2:=l.getD i default
theorem C5i {l:List B2} {i:Nat} (h:i<l.length):l[i]? =some (J4 l i):=by
 unfold J4;rw [M0 h];simp [List.getD,M0 h]
theorem C8a {l:List B2} {i:Nat} (h:i<l.length):J4 l i=l[i]:=by
 have:=C5i h;rw [M0 h] at this;exact (D8T this).symm
theorem A0K {l:List B2} {i:Nat} (h:i<l.length):B9 l (i:Int)=some (J4 l i):=by
 rw [S0,C5i h]
def B6k (l:List B2) (N:Int) (i:Nat):Bool:=
 ((decide ((J4 l i).Bv<1)||decide ((J4 l i).Bv>(J4 l i).Bu))||decide ((J4 l i).Bu>N))||
 (decide (0<i)&&((decide ((J4 l (i-1)).V>(J4 l i).V)||decide ((J4 l (i-1)).Bv>=(J4 l i).Bv))||decide ((J4 l (i-1)).Bu>=(J4 l i).Bu)))
def B5D (l:List B2) (N:Int):Bool:=decide (0<l.length)&&((J4 l 0).Bu !=1||(J4 l (l.length-1)).Bv !=N)
def B8b (r:D4):Bool:= !(((decide (r.N<0))||(decide (r.N>1099511627776)))||(!(((r.Ae.length:Int)==0)==(r.N==0))))
def okB (r:D4):Bool:=B8b r&& !((List.range r.Ae.length).any (B6k r.Ae r.N)||B5D r.Ae r.N)
theorem C9B {i n:Nat} (h0:0<i) (h:i<=n) (hm:n<=maxLen):A1 ((i:Int)-1)=((i-1:Nat):Int):=by
 rw [I2] at hm;rw [C4]<;>omega
theorem A0X (r:D4) (hl:r.Ae.length<=1000000000):S5 r=some (cond (okB r) 0 2):=by
 have hm:r.Ae.length<=maxLen:=by rw [I2];omega
 unfold S5;cases hh:B8b r with
 |false=>
  have h1:(((decide (r.N<0))||(decide (r.N>1099511627776)))||(!(((r.Ae.length:Int)==0)==(r.N==0))))=true:=nF (by unfold B8b at hh;exact hh)
  rw [h1,D8e];unfold okB;rw [hh]
  rfl
 |true=>
  have h1:(((decide (r.N<0))||(decide (r.N>1099511627776)))||(!(((r.Ae.length:Int)==0)==(r.N==0))))=false:=Go.Dec.nT (by unfold B8b at hh;exact hh)
  rw [h1,D8d];unfold B3Y;have:=A6D (f:=fun s:Int=>A4i r s) (n:=r.Ae.length) (bad:=B6k r.Ae r.N) (E:=(2:Int)) (A:=some (cond (B5D r.Ae r.N) 2 0))
   (fun i hi=>by
    unfold A4i B6k;simp only [Int.ofNat_lt,hi,decide_true,D8e,A0K hi,D8a,T0 hi hm]
    by_cases h0:0<i
    ·rw [C9B h0 (Nat.le_of_lt hi) hm,A0K (by omega),D8f (by omega:(i:Int)>0),D8f h0]
     simp only [D8a,D8e,D8L];cases ((decide ((J4 r.Ae i).Bv<1)||decide ((J4 r.Ae i).Bv>(J4 r.Ae i).Bu))||decide ((J4 r.Ae i).Bu>r.N)) with
     |true=>rfl
     |false=>
      simp only [D8d,D8B]
    ·rw [D8h (by omega: ¬(i:Int)>0),D8h h0]
     simp only [D8d,D8F,Bool.or_false])
   (by
    unfold A4i B5D;simp only [D8D,decide_false,D8d]
    by_cases h0:0<r.Ae.length
    ·rw [D8f (by omega:(r.Ae.length:Int)>0),D8f h0,C9B h0 (D8S _) hm]
     have e0:B9 r.Ae (0:Int)=some (J4 r.Ae 0):=A0K h0;rw [e0,A0K (by omega)]
     simp only [H7,D8a,D8L];cases hb:(J4 r.Ae 0).Bu !=1 with
     |true=>simp
     |false=>
      simp only [D8n,H7,D8a,D8B];cases (J4 r.Ae (r.Ae.length-1)).Bv !=r.N<;>rfl
    ·rw [D8h (by omega: ¬(r.Ae.length:Int)>0),D8h h0]
     simp)
  rw [show ((0:Int))=((0:Nat):Int) from rfl] at this⊢;rw [this];unfold okB;rw [hh];cases (List.range r.Ae.length).any (B6k r.Ae r.N)<;>cases B5D r.Ae r.N<;>rfl
structure OkR (l:List B2) (N:Int):Prop where
 n0:0<=N
 n1:N<=1099511627776
 nil:l.length=0↔N=0
 rng: ∀i,i<l.length->1<=(J4 l i).Bv/\(J4 l i).Bv<=(J4 l i).Bu/\(J4 l i).Bu<=N
 up: ∀i,i+1<l.length->(J4 l i).V<=(J4 l (i+1)).V/\(J4 l i).Bv<(J4 l (i+1)).Bv/\(J4 l i).Bu<(J4 l (i+1)).Bu
 first:0<l.length->(J4 l 0).Bu=1
 last:0<l.length->(J4 l (l.length-1)).Bv=N
theorem A9d (r:D4):okB r=true↔OkR r.Ae r.N:=by
 unfold okB B8b B5D;have hany:(List.range r.Ae.length).any (B6k r.Ae r.N)=false↔ ∀i,i<r.Ae.length->B6k r.Ae r.N i=false:=by
  rw [List.any_eq_false];constructor
  ·intro h i hi;have:=h i (List.mem_range.2 hi);simpa using this
  ·intro h i hi;have:=h i (List.mem_range.1 hi);simpa using this
 simp only [D8i,D8w,D8K,D8r,Bool.not_eq_false',D84,hany,D81,bne_eq_false_iff_eq,gt_iff_lt];constructor
 ·rintro ⟨⟨⟨h1,h2⟩,h3⟩,h4,h5⟩;have h3' :r.Ae.length=0↔r.N=0:=by
   have:=congrArg (· =true) h3;simp only [D84,eq_iff_iff] at this;omega
  refine ⟨by omega,by omega,h3',fun i hi=> ?_,fun i hi=> ?_,fun h0=> ?_,fun h0=> ?_⟩
  ·have:=h4 i hi;unfold B6k at this;simp only [D8K,D8r] at this;omega
  ·have:=h4 (i+1) hi;unfold B6k at this;simp only [D8K,D8r,D81,D8R] at this;omega
  ·rcases h5 with h5|h5
   ·omega
   ·exact h5.1
  ·rcases h5 with h5|h5
   ·omega
   ·exact h5.2
 ·intro h;refine ⟨⟨⟨by have:=h.n0;omega,by have:=h.n1;omega⟩, ?_⟩,fun i hi=> ?_, ?_⟩
  ·have:=h.nil;rw [D8v,D84,D84];omega
  ·unfold B6k;have h1:=h.rng i hi;simp only [D8K,D8r,D81];refine ⟨by omega, ?_⟩
   by_cases h0:0<i
   ·right;have:=h.up (i-1) (by omega)
    rw [show i-1+1=i by omega] at this
    omega
   ·exact .inl h0
  ·by_cases h0:0<r.Ae.length
   ·exact .inr ⟨h.first h0,h.last h0⟩
   ·exact .inl h0
def B4L (l:List B2):Nat->Int
 |0=>1
 |i+1=>if i=0 then 1 else if (J4 l i).Bu-(J4 l (i-1)).Bv>B4L l i then (J4 l i).Bu-(J4 l (i-1)).Bv else B4L l i
theorem D2u (r:D4) (h:OkR r.Ae r.N) (hl:r.Ae.length<=1000000000) (h0:0<r.Ae.length):B5m r 1 1=some (B4L r.Ae r.Ae.length):=by
 have hm:r.Ae.length<=maxLen:=by rw [I2];omega
 unfold B5m;obtain ⟨v,hv,hQ⟩:=W6 (f:=fun s:Int×Int=>B3V r s.1 s.2)
  (fun s=> ∃i:Nat,1<=i/\i<=r.Ae.length/\s=(B4L r.Ae i,(i:Int)))
  (fun s=>r.Ae.length-s.2.toNat) (fun v=>v=B4L r.Ae r.Ae.length) (1,1) ⟨1,D8S _,h0,rfl⟩ (by
   rintro _ ⟨i,h1,hi,rfl⟩;simp only;unfold B3V
   by_cases hlt:i<r.Ae.length
   ·left;have r1:=h.rng i hlt;have r2:=h.rng (i-1) (by omega)
    have n1:=h.n1;simp only [Int.ofNat_lt,hlt,decide_true,D8e,A0K hlt,D8a,T0 hlt hm,C9B h1 hi hm,A0K (show i-1<r.Ae.length by omega)]
    refine ⟨_,rfl,⟨i+1,by omega,hlt, ?_⟩,by show r.Ae.length-((i:Int)+1).toNat<r.Ae.length-(i:Int).toNat;omega⟩
    rw [C4 (by omega) (by omega)]
    have:B4L r.Ae (i+1)=A0t (B4L r.Ae i) ((J4 r.Ae i).Bu-(J4 r.Ae (i-1)).Bv):=by
     show (if i=0 then (1:Int) else _)=_
     rw [if_neg (by omega)]
    rw [this]
    rfl
   ·right;have hn: ¬((i:Int)<(r.Ae.length:Int)):=by omega
    have hi2:i=r.Ae.length:=by omega
    subst hi2;simp only [hn,decide_false,D8d];exact ⟨_,rfl,rfl⟩)
 rw [hv,hQ]
def D2t (l:List B2):Int:=if l.length=0 then 0 else B4L l l.length
theorem D24 (r:D4) (hl:r.Ae.length<=1000000000):B6M r=some (cond (okB r) (D2t r.Ae) 0):=by
 unfold B6M;rw [A0X r hl];simp only [D8a];cases hb:okB r with
 |false=>rfl
 |true=>
  have h:=(A9d r).1 hb;simp only [D8e,D8N,D8B];unfold D2t
  by_cases h0:r.Ae.length=0
  ·rw [if_pos h0,h0];rfl
  ·have c:((r.Ae.length:Int)==0)=false:=by rw [D80];omega
   rw [c,D8d,if_neg h0,D2u r h hl (by omega)]
theorem C6q (l:List Int):(A14 l).length=l.length:=List.length_mergeSort _
end Go.Win
set_option maxHeartbeats 4000000
namespace Go.Win
open Go.Vc Go.Dec
def inB (x:Int) (b:Nat):Prop:=(b=0/\x=0)\/(1<=b/\(2:Int)^(b-1)<=x/\x<2^b)
theorem D0l: ∀(b:Nat) (x c:Int),inB x b->x<=9223372036854775807->0<=c->c+b<=1000->A8y x c=some (c+b):=by
 intro b
 induction b with
 |zero=>
  intro x c h hx hc hb;have hx0:x=0:=by
   rcases h with h|h
   ·exact h.2
   ·omega
  unfold A8y;rw [M5 (r:=c)]
  ·simp
  ·unfold A7k
   grind
 |succ b ih=>
  intro x c h hx hc hb;have h' :(2:Int)^b<=x/\x<2^(b+1):=by
   rcases h with h|h
   ·omega
   grind
  have hp:=A1l b;have hin:inB (x/2) b:=by
   by_cases h0:b=0
   ·subst h0;left;omega
   ·right;have e1:(2:Int)^b=2^(b-1)*2:=by rw [<-Int.pow_succ];grind
    omega
  have hst:A7k x c=some (.inl (x/2,c+1)):=by
   unfold A7k;rw [D8f (by omega),D8e,Int.tdiv_eq_ediv_of_nonneg (by omega),C4 (by omega) (by omega),C4 (by omega) (by omega)]
  have:=ih (x/2) (c+1) hin (by omega) (by omega) (by omega)
  unfold A8y at this⊢;rw [M1 hst,this]
  grind
theorem C2q {x:Int} (h0:0<x) (h1:x<=9223372036854775807): ∃b:Nat,B6E x=some (b:Int)/\B6N x=some (b:Int)/\1<=b/\b<=64/\(2:Int)^(b-1)<=x/\x<2^b:=by
 obtain ⟨b,g1,g2,g3,g4,g5⟩:=A5x h0 (by omega)
 refine ⟨b, ?_, ?_,g2,g3,g4,g5⟩
 ·unfold B6E;rw [D8h (by omega),D8d,B1p (by omega) (by omega),g1];rfl
 ·unfold B6N;rw [D0l b x 0 (.inr ⟨g2,g4,g5⟩) h1 (by omega) (by omega)]
  simp
theorem A9g {k c:Int} (hk:1<=k/\k<=64) (hc:1<=c/\c<=65536): ∃b,A5z k c=some b/\A5m k c=some b/\1<=b/\b<=65536:=by
 obtain ⟨b,g1,g2,g3,g4,g5,g6⟩:=C2q (x:=c) (by omega) (by omega)
 have hm:=A9b (a:=2*k) (A:=128) (b:=(b:Int)+2) (B:=66) (by omega) (by omega)
 have hm2:1*1<=2*k*((b:Int)+2):=Int.mul_le_mul (by omega) (by omega) (by decide) (by omega)
 refine ⟨2*k*(b+2), ?_, ?_,by omega,by omega⟩
 ·unfold A5z;have e:A0W 1 k c 0=true:=by unfold A0W;simp;omega
  simp only [e,D8m,D8d,g1,D8a];rw [C4 (n:=2*k) (by omega) (by omega),C4 (n:=(b:Int)+2) (by omega) (by omega),C4 (by omega) (by omega)]
 ·unfold A5m;have e:(((!(U3 k))||(decide (c<(1:Int))))||(decide (c>(65536:Int))))=false:=by
   rw [(C5J k).2 hk];simp;omega
  simp only [e,D8d,g2,D8a];rw [C4 (n:=2*k) (by omega) (by omega),C4 (n:=(b:Int)+2) (by omega) (by omega),C4 (by omega) (by omega)]
def A0 (l:List B1):List A3:=l.map fun x=>⟨x.T,x.Bd⟩
theorem A1x (l:List B1):(A0 l).length=l.length:=by simp [A0]
theorem C3U {l:List B1} {i:Nat} (h:i<l.length):el (A0 l) i=⟨(el l i).T,(el l i).Bd⟩:=by
 rw [L8 (by rw [A1x];exact h),L8 h]
 simp [A0]
theorem C1G (l:List B1) (hl:l.length<=1048576):A6r l=some (A0 l):=by
 unfold A6r B4w;have H:=A5M (f:=fun s:List A3×Int=>A49 l s.1 s.2) (fun i=>(A0 (l.take i),(i:Int))) 0 l.length (Nat.zero_le _) (fun _=>False) [] (some (A0 l))
  (fun i _ hi _=>by
   refine ⟨fun h=>h.elim,fun _=> ?_⟩;simp only [];unfold A49;have hm:l.length<=maxLen:=by rw [I2];omega
   rw [D8f (by omega:(i:Int)<(l.length:Int)),D8e,J5 hi,D8a,A0s hi hm]
   have e1:A0 (l.take (i+1))=A0 (l.take i)++ [⟨(el l i).T,(el l i).Bd⟩]:=by
    rw [List.take_add_one,A4F hi];simp [A0]
   have e2:(A0 (l.take i)).length=i:=by rw [A1x,D8C];omega
   rw [e1,e2,D8f (by grind),A2Y])
  (fun _=>by
   simp only [];unfold A49;rw [D8h (D8D _),D8d,List.take_length])
 exact H.2 (fun _ _ _ h=>h)
def alS (b:Int):Nat->Int
 |0=>0
 |i+1=>if (2:Int)^i>b+1 then 2*alS b i+((2:Int)^i-1+b-1)/b else alS b i
theorem D32 {b:Int} (hb:1<=b): ∀i:Nat,0<=alS b i/\alS b i<=i*2^i:=by
 intro i
 induction i with
 |zero=>exact ⟨Int.le_refl _,Int.le_refl _⟩
 |succ i ih=>
  have hp:=A1l i;have e2:(2:Int)^(i+1)=2^i*2:=Int.pow_succ 2 i;have e3:((i+1:Nat):Int)*2^(i+1)=(i:Int)*2^i*2+2^i*2:=by
   grind
  rw [e3];unfold alS;split
  ·have h1:((2:Int)^i-1+b-1)/b<=2^i:=by
    have:((2:Int)^i-1+b-1)/b<2^i+1:=by
     rw [Int.ediv_lt_iff_lt_mul (by omega),Int.add_mul,Int.one_mul]
     have:=Int.mul_le_mul_of_nonneg_left hb (show (0:Int)<=2^i by omega)
     omega
    omega
   have h2:0<=((2:Int)^i-1+b-1)/b:=Int.ediv_nonneg (by omega) (by omega)
   omega
  ·omega
theorem D4G: ∀n:Fin 31,(2:Int)^n.1<=1073741824:=by decide
theorem C9A {i:Nat} (h:i<=30):(2:Int)^i<=1073741824:=D4G ⟨i,by omega⟩
theorem D5p {b:Int} (hb:1<=b) {i:Nat} (hi:i<=30):0<=alS b i/\alS b i<=32212254720:=by
 obtain ⟨h1,h2⟩:=D32 hb i;have hp:=C9A hi;have:=A9b (a:=(i:Int)) (A:=30) (b:=2^i) (B:=1073741824) (by omega) ⟨Int.le_of_lt (A1l i),hp⟩
 omega
theorem D37 {a b:Int} (ha:0<=a/\a<=4611686018427387904) (hb:1<=b/\b<=4611686018427387904):B1d a b=some ((a+b-1)/b,true):=by
 unfold B1d;have e1:((b==0)||((a== -9223372036854775808)&&(b== -1)))=false:=by
  grind
 rw [e1,D8d,D8f (by omega:b≠0),A2Y,A2Y,Int.tdiv_eq_ediv_of_nonneg ha.1,Int.tmod_eq_emod_of_nonneg ha.1]
 have hq:0<=a/b:=Int.ediv_nonneg ha.1 (by omega)
 have hq2:a/b<=a:=Int.ediv_le_self b ha.1;have hr:=Int.emod_nonneg a (show b≠0 by omega)
 have hr2:=Int.emod_lt_of_pos a (show 0<b by omega)
 have hd:=Int.mul_ediv_add_emod a b;rw [D8h (by omega: ¬a<0),D8h (by omega: ¬b<0)]
 by_cases h0:a%b=0
 ·have e2:(a%b !=0&&(false==false))=false:=by rw [h0];rfl
  rw [e2,D8d,C4 (by omega) (by omega)]
  have:(a+b-1)/b=a/b:=by
   have e3:a+b-1=(b-1)+b*(a/b):=by omega
   rw [e3,Int.add_mul_ediv_left _ _ (by omega),Int.ediv_eq_zero_of_lt (by omega) (by omega)];omega
  rw [this]
 ·have e2:(a%b !=0&&(false==false))=true:=by grind
  rw [e2,D8e,C4 (n:=a/b) (by omega) (by omega),C4 (by omega) (by omega)]
  have:(a+b-1)/b=a/b+1:=by
   have e3:a+b-1=(a%b-1)+b*(a/b+1):=by grind
   rw [e3,Int.add_mul_ediv_left _ _ (by omega),Int.ediv_eq_zero_of_lt (by omega) (by omega)];omega
  rw [this]
theorem C8P {L b:Int} (hL:0<=L/\L<=30) (hb:1<=b/\b<=65536):A60 L b=some (alS b (L.toNat+1)):=by
 have e:((((decide (L<(0:Int)))||(decide (L>(30:Int))))||(decide (b<(1:Int))))||(decide (b>(65536:Int))))=false:=by
  grind
 unfold A60;rw [e,D8d];unfold B2q;have H:=A5M (f:=fun s:Int×Int=>A3J L b s.1 s.2) (fun i=>(alS b i,(i:Int))) 0 (L.toNat+1) (Nat.zero_le _) (fun _=>False) 0 (some (alS b (L.toNat+1)))
  (fun i _ hi _=>by
   refine ⟨fun h=>h.elim,fun _=> ?_⟩;simp only [];unfold A3J;have hp:=C9A (show i<=30 by omega)
   have hp0:=A1l i;have ha:=D5p hb.1 (show i<=30 by omega)
   have es:A1 ((i:Int)+1)=((i+1:Nat):Int):=by rw [C4]<;>omega
   have ew:decide (0<=A5 (i:Int))=true:=D8f (by rw [B1p]<;>omega)
   rw [D8f (by omega:(i:Int)<=L),D8e,ew,A2Y,C9g (by omega) (by omega),D8Q,es,C4 (n:=b+1) (by omega) (by omega)]
   by_cases h:(2:Int)^i>b+1
   ·rw [D8f h,D8e,C4 (n:=(2:Int)^i-1) (by omega) (by omega),D37 (by omega) (by omega),D8a,C4 (n:=2*alS b i) (by omega) (by omega)]
    have h1:0<=((2:Int)^i-1+b-1)/b:=Int.ediv_nonneg (by omega) (by omega)
    have h2:((2:Int)^i-1+b-1)/b<=(2:Int)^i-1+b-1:=Int.ediv_le_self b (by omega)
    simp only [];rw [C4 (by omega) (by omega),alS,if_pos h]
   ·rw [D8h h,D8d,alS,if_neg h])
  (fun _=>by
   simp only [];unfold A3J;rw [D8h (by omega),D8d])
 exact H.2 (fun _ _ _ h=>h)
def B9k (b:Int) (x:B1):Prop:=okB x.Bi=true/\x.Bi.N=2^x.Bd.toNat/\(x.Bi.Ae.length:Int)<=b+1/\A1 (D2t x.Bi.Ae-1)<=alS b (x.Bd.toNat+1)/\
 -4096<=(el x.Bi.Ae 0).V/\(el x.Bi.Ae (x.Bi.Ae.length-1)).V<=4096/\(el x.Bi.Ae 0).V<=x.Bl/\x.Bl<=(el x.Bi.Ae (x.Bi.Ae.length-1)).V
def B55 (l:List B1) (k b:Int):Prop:=(1<=b/\b<=65536)/\A7W (A0 l) k/\ ∀i,i<l.length->B9k b (el l i)
def A1o (l:List B1):Prop:=l.length<=1048576/\ ∀x∈l,x.Bi.Ae.length<=1000000000
theorem C9u {l:List B1} {k:Int} (h:A7W (A0 l) k) {i:Nat} (hi:i<l.length):0<=(el l i).Bd/\(el l i).Bd<=30:=by
 have:=h.2.1 i (by rw [A1x];exact hi)
 unfold A8D at this;rw [C3U hi] at this
 grind
theorem D1t {r:D4} (h:okB r=true) {n:Nat} (hn:r.N=2^n):0<r.Ae.length:=by
 have h1:=(A9d r).1 h;have:=A1l n;have h2:=h1.nil;omega
theorem B7P (l:List B1) (k b:Int) (hs:A1o l):A4y l k b=some (G3 (B55 l k b)):=by
 have hm:l.length<=maxLen:=by rw [I2];have:=hs.1;omega
 unfold A4y
 by_cases hb:1<=b/\b<=65536
 ·have e:(decide (b<1)||decide (b>65536))=false:=by simp;omega
  rw [e,C1G l hs.1];simp only [D8n,H7,D8a,D8B];rw [A8l _ _ (by rw [A1x];exact hm),D8a]
  by_cases h2:A7W (A0 l) k
  ·rw [A2z h2,D8m,D8d];unfold B4v;have H:=R6 (f:=fun s:Int=>A48 l b s) l.length (fun i=> ¬B9k b (el l i)) false (some true)
    (fun i hi _=>by
     unfold A48;have hv:=C9u h2 hi;have hr:=hs.2 _ (O4 hi);rw [D8f (by omega:(i:Int)<(l.length:Int)),D8e,J5 hi,D8a,A0s hi hm]
     generalize el l i=x at hv hr⊢
     have ew:decide (0<=A5 x.Bd)=true:=D8f (by rw [B1p]<;>omega)
     simp only [A0X x.Bi (by omega),D8a,ew,Bool.or_true,A2Y,C9g hv.1 hv.2]
     have eb1:A1 (b+1)=b+1:=by rw [C4]<;>omega
     rw [eb1];cases hB:okB x.Bi with
     |false=>
      simp only [D8d,show ((2:Int) !=0)=true from rfl,D8U,D8m,L6,D8a,D8e];exact ⟨fun _=>trivial,fun h=>absurd (fun h2:B9k b x=>by have:=h2.1;grind) h⟩
     |true=>
      simp only [D8e,show ((0:Int) !=0)=false from rfl,D8B]
      by_cases g1:x.Bi.N=2^x.Bd.toNat/\(x.Bi.Ae.length:Int)<=b+1
      ·have e1:((x.Bi.N !=2^x.Bd.toNat)||decide ((x.Bi.Ae.length:Int)>b+1))=false:=by
        grind
       rw [e1];have h0:=D1t hB g1.1;have hm2:x.Bi.Ae.length<=maxLen:=by rw [I2];omega
       simp only [D8n,H7,D24 x.Bi (by omega),D8a,hB,D8e,(C8P hv hb),D8B,B0x h0,B2S h0 (D8S _) hm2,J5 (show x.Bi.Ae.length-1<x.Bi.Ae.length by omega)]
       rw [B6o];refine V8 ?_;unfold B9k
       grind
      ·have e1:((x.Bi.N !=2^x.Bd.toNat)||decide ((x.Bi.Ae.length:Int)>b+1))=true:=by
        grind
       rw [e1];simp only [D8m,L6,D8a,D8U,D8e];exact ⟨fun _=>trivial,fun h=>absurd (fun h2=>g1 ⟨h2.2.1,h2.2.2.1⟩) h⟩)
    (fun _=>by
     unfold A48;rw [D8h (D8D _),D8d])
   by_cases h3: ∀i,i<l.length->B9k b (el l i)
   ·rw [H.2 fun i hi hn=>hn (h3 i hi),A2z];exact ⟨hb,h2,h3⟩
   ·rw [H.1 (A7d h3),X6];exact fun h=>h3 h.2.2
  ·rw [X6 h2,X6 fun h=>h2 h.2.1];rfl
 ·have e:(decide (b<1)||decide (b>65536))=true:=by
   grind
  rw [e,X6 fun h=>hb h.1];rfl
theorem B7O (l:List B1) (hs:A1o l):A25 l=some (A1 (U9 (A0 l))):=by
 have hm:(A0 l).length<=maxLen:=by rw [I2,A1x];have:=hs.1;omega
 unfold A25;rw [C1G l hs.1,D8a,B3n,B1i _ hm];rfl
def C0E (x:C3):Prop:=A5S x.W x.K x.Cap x.Now/\(∀b,A5m x.K x.Cap=some b->B55 x.Al (2*x.K) b)/\A1 (U9 (A0 x.Al))<=x.Cap/\ ∀i,i<x.Al.length->F9 x.Now x.W (el x.Al i).T=true
theorem A7X (w k c n:Int):A0W w k c n=true↔A5S w k c n:=by
 unfold A0W A5S;simp;omega
theorem A2m (x:C3) (hs:A1o x.Al):V5 x=some (R0 (C0E x)):=by
 have hm:x.Al.length<=maxLen:=by rw [I2];have:=hs.1;omega
 unfold V5;simp only []
 by_cases h1:A5S x.W x.K x.Cap x.Now
 ·obtain ⟨b,b1,b2,b3⟩:=A9g (k:=x.K) (c:=x.Cap) h1.2.2.2 h1.2.1;have hk:=h1.2.2.2;rw [(A7X _ _ _ _).2 h1,b1,C4 (n:=2*x.K) (by omega) (by omega)]
  simp only [D8m,D8n,H7,D8a,D8B,B7P _ _ _ hs,(B7O _ hs)]
  by_cases h2:B55 x.Al (2*x.K) b
  ·rw [A2z h2];simp only [D8m,D8n,H7,D8a,D8B]
   by_cases h3:A1 (U9 (A0 x.Al))<=x.Cap
   ·rw [D8h (by omega),D8d]
    unfold A9O;have H:=R6 (f:=fun s:Int=>A12 x s) x.Al.length (fun i=> ¬F9 x.Now x.W (el x.Al i).T=true) 2 (some 0)
     (fun i hi _=>by
      unfold A12;rw [D8f (by omega:(i:Int)<(x.Al.length:Int)),D8e,J5 hi,D8a,A0s hi hm]
      refine V8 ?_;simp [A10])
     (fun _=>by
      unfold A12;rw [D8h (D8D _),D8d])
    by_cases h4: ∀i,i<x.Al.length->F9 x.Now x.W (el x.Al i).T=true
    ·rw [H.2 fun i hi hn=>hn (h4 i hi),O3];exact ⟨h1,fun b' hb' =>by grind,h3,h4⟩
    ·rw [H.1 (A7d h4),J7];exact fun h=>h4 h.2.2.2
   ·rw [D8f (by omega),D8e,J7]
    exact fun h=>h3 h.2.2.1
  ·rw [X6 h2];simp only [D8m,D8n,L6,D8a,D8U,D8e];rw [J7];exact fun h=>h2 (h.2.1 b b2)
 ·rw [D8q.2 fun h=>h1 ((A7X _ _ _ _).1 h),J7 fun h=>h1 h.1]
  rfl
theorem C6l (r:D4) (hl:r.Ae.length<=maxLen):B28 r r=some true:=by
 unfold B28;simp only [D8N,Bool.or_false,D8d];unfold B7s;refine (R6 (f:=fun s:Int=>A7o r r s) r.Ae.length (fun _=>False) false (some true) (fun i hi _=>⟨fun h=>h.elim,fun _=> ?_⟩) (fun _=> ?_)).2 fun _ _ h=>h
 ·unfold A7o;rw [D8f (by omega:(i:Int)<(r.Ae.length:Int)),D8e,J5 hi]
  simp [A0s hi hl]
 ·unfold A7o;rw [D8h (D8D _),D8d]
theorem D36 (l:List B1) (hl:l.length<=maxLen) (he:∀x∈l,x.Bi.Ae.length<=maxLen):B29 l l=some true:=by
 unfold B29;rw [D8N,D8d];unfold B7t;refine (R6 (f:=fun s:Int=>A7p l l s) l.length (fun _=>False) false (some true) (fun i hi _=>⟨fun h=>h.elim,fun _=> ?_⟩) (fun _=> ?_)).2 fun _ _ h=>h
 ·unfold A7p;rw [D8f (by omega:(i:Int)<(l.length:Int)),D8e,J5 hi]
  simp [A0s hi hl,C6l _ (he _ (O4 hi))]
 ·unfold A7p;rw [D8h (D8D _),D8d]
theorem C7M (x:C3) (hl:x.Al.length<=maxLen) (he:∀b∈x.Al,b.Bi.Ae.length<=maxLen):B3a x x=some true:=by
 unfold B3a;simp [D36 _ hl he]
end Go.Win
set_option maxHeartbeats 4000000
namespace Go.Win
open Go.Vc Go.Dec
def C44 (x:B5) (i:Nat):Bool:=match x.Bf[i]? with
 |none=>false
 |some l=>(((((decide (l.V<(-4096:Int)))||(decide (l.V>(4096:Int))))||(decide (l.I<(1:Int))))||(decide (l.I>x.I)))||(decide (l.I<=(A1 (x.I-x.W)))))||
  (decide (0<i)&&match x.Bf[i-1]? with
   |none=>false
   |some p=>decide (l.I<=p.I)||decide (l.I>A1 (p.I+x.W)))
noncomputable def D5v (x:B5) (i:Nat):Bool:=match x.Bf[i]? with
 |none=>false
 |some l=>((!(M6 l.V))||(decide (l.I>x.I)))||
  (decide (0<i)&&match x.Bf[i-1]? with
   |none=>false
   |some p=>decide (l.I<=p.I)||decide (l.I>A1 (p.I+x.W)))
def D13 (p0:B5):Option Int:=(Option.bind (gd (!(decide (p0.Bm<=p0.I))) (B9 p0.Bf (A1 ((p0.Bf.length:Int)-(1:Int))))) fun x17_14=>
 cond ((decide (p0.Bm<=p0.I))||(decide (p0.Bm>(A1 (x17_14.I+p0.W))))) (
  some (2:Int))<|
 some (0:Int))
theorem D3J (x:B5) (hl:x.Bf.length<=maxLen):A7N x 0=cond ((List.range x.Bf.length).any (C44 x)) (some 2) (D13 x):=by
 unfold A7N;refine A6D (fun i hi=> ?_) ?_
 ·have h1:x.Bf[i]? =some x.Bf[i]:=D8o hi;have hs:=T0 hi hl;unfold A6w C44;simp only [Int.ofNat_lt,hi,decide_true,D8e,S0,h1,D8a,hs]
  by_cases h0:0<i
  ·have hp:=C0G h0 (Nat.le_trans (Nat.le_of_lt hi) hl);have h2:x.Bf[i-1]? =some x.Bf[i-1]:=D8o (by omega)
   have h3:((i:Int)>0):=by omega
   simp only [hp,S0,h2,h3,h0,decide_true,H7,D8a,D8L];cases decide (x.Bf[i].I<=x.Bf[i-1].I)<;>cases (((((decide (x.Bf[i].V<(-4096:Int)))||(decide (x.Bf[i].V>(4096:Int))))||(decide (x.Bf[i].I<(1:Int))))||(decide (x.Bf[i].I>x.I)))||(decide (x.Bf[i].I<=(A1 (x.I-x.W)))))<;>simp
  simp_all
 ·unfold A6w;simp only [D8D,decide_false,D8d]
  rfl
theorem asc (x:B5) (h:∀i,i<x.Bf.length->D5v x i=false): ∀i (hi:i<x.Bf.length),x.Bf[0].I<=x.Bf[i].I:=by
 intro i
 induction i with
 |zero=>omega
 |succ i ih=>
  intro hi;have h1:=ih (by omega)
  have h2:=h (i+1) hi;simp only [D5v,M0 hi,D8R,M0 (show i<x.Bf.length by omega),Nat.succ_pos,decide_true,D8L,D8K,D8r] at h2
  omega
theorem C7J (x:B5) (hl:x.Bf.length<=maxLen):B25 x x=some true:=by
 unfold B25;have h:B18 x x 0=cond ((List.range x.Bf.length).any fun _=>false) (some false) (some true):=by
  unfold B18;refine A6D (fun i hi=> ?_) ?_
  ·unfold B0K;simp [hi,T0 hi hl]
  ·unfold B0K;simp
 grind
theorem A24 (x:B5) (hl:x.Bf.length<=maxLen): ∃r,N6 x=some r/\(r=0->0<=x.I/\x.I<=1099511627776/\1<=x.W/\x.W<=1048576/\1<=x.Cap/\x.Cap<=64/\(x.Bf.length:Int)<=x.Cap/\(x.Bf= []->x.I=0)/\(x.I=0->x.Bm=0)):=by
 unfold N6;simp only [D3J x hl]
 by_cases h:(((((((decide (x.W<(1:Int)))||(decide (x.W>(1048576:Int))))||(decide (x.Cap<(1:Int))))||(decide (x.Cap>(64:Int))))||(decide (x.I<(0:Int))))||(decide (x.I>(1099511627776:Int))))||(decide ((x.Bf.length:Int)>x.Cap)))=true
 ·rw [h];simp
 ·rw [Bool.not_eq_true] at h;rw [h];simp only [D8K,D8r] at h
  by_cases h0:x.I=0
  ·simp only [h0,beq_self_eq_true,D8e,D8d];cases hc:(decide ((x.Bf.length:Int)>(0:Int))||(x.Bm !=(0:Int)))
   ·grind
   simp
  ·have h0' :(x.I==0)=false:=by grind
   simp only [h0',D8d]
   by_cases h1:x.Bf= []
   ·simp_all
   ·have h2:((x.Bf.length:Int)==0)=false:=by
     simp_all
    simp only [h2,D8d];have all: ∀r:Int,(r=0->0<=x.I/\x.I<=1099511627776/\1<=x.W/\x.W<=1048576/\1<=x.Cap/\x.Cap<=64/\(x.Bf.length:Int)<=x.Cap/\(x.Bf= []->x.I=0)/\(x.I=0->x.Bm=0)):=fun _ _=>⟨by omega,by omega,by omega,by omega,by omega,by omega,by omega,fun h=>absurd h h1,fun h=>absurd h h0⟩
    cases (List.range x.Bf.length).any (C44 x) with
    |true=>simp
    |false=>
     simp only [D8d];unfold D13;have hp:=List.length_pos_iff.2 h1;have hw:=C0G hp hl;simp only [hw,S0,M0 (show x.Bf.length-1<x.Bf.length by omega)]
     by_cases hN:x.Bm<=x.I
     ·simp_all
     ·simp only [hN,decide_false,D8n,H7,D8a,D8B];cases decide (x.Bm>A1 ((x.Bf[x.Bf.length-1]'(by omega)).I+x.W))
      ·grind
      simp
end Go.Win
set_option maxHeartbeats 4000000
namespace Go.Win
open Go.Vc Go.Dec
theorem D4n {α:Type} {l:List α} {i:Int} {x:α} (h:B9 l i=some x):x∈l:=D8p (B3O h).2
theorem D0h (x:B5) (hl:x.Bf.length<=maxLen): ∃a,B4E x=some a:=by
 obtain ⟨r,hr,hok⟩:=A24 x hl;unfold B4E;rw [hr];simp only [D8a]
 by_cases h0:r=0
 ·subst h0;simp only [D8N,D8d]
  by_cases h1:x.Bf= []
  ·simp_all
  ·have hp:=List.length_pos_iff.2 h1;have h2:((x.Bf.length:Int)==0)=false:=by grind
   have h3:B9 x.Bf (0:Int)=some x.Bf[0]:=by simp [B9,hp]
   simp only [h2,D8d,h3,D8a];simp
 ·have:(r !=0)=true:=by simp [h0]
  simp only [this,D8e];simp
theorem B8p (l:List Int) (hl:l.length<=maxLen):A2n l l=some true:=by
 have h:A5l l l 0=cond ((List.range l.length).any fun _=>false) (some false) (some true):=by
  unfold A5l;refine A6D (fun i hi=> ?_) ?_
  ·unfold A4T;simp [hi,T0 hi hl]
  ·unfold A4T;simp
 have hf:((List.range l.length).any fun _=>false)=false:=by simp
 rw [hf] at h;unfold A2n;simp [h]
theorem C7K (x:E7) (hl:x.Ao.length<=maxLen) (hc:∀c∈x.Ao,c.Bf.length<=maxLen):B26 x x=some true:=by
 have h:B19 x x 0=cond ((List.range x.Ao.length).any fun _=>false) (some false) (some true):=by
  unfold B19;refine A6D (fun i hi=> ?_) ?_
  ·unfold B0L;have:=C7J x.Ao[i] (hc _ (D8Z hi));simp [hi,T0 hi hl,this]
  ·unfold B0L;simp
 have hf:((List.range x.Ao.length).any fun _=>false)=false:=by simp
 rw [hf] at h;unfold B26;simp [h]
theorem A1s (s:E7) (hl:s.Ao.length<=maxLen) (hc:∀c∈s.Ao,c.Bf.length<=maxLen):
  ∃r,Q0 s=some r/\(r=0->1<=s.Ao.length/\s.Ao.length<=16/\ ∀c∈s.Ao,N6 c=some 0):=by
 unfold Q0
 by_cases h:(decide ((s.Ao.length:Int)<1)||decide ((s.Ao.length:Int)>16))=true
 ·rw [h];simp
 ·rw [Bool.not_eq_true] at h;rw [h,D8d];simp only [D8K,D8r] at h;unfold A6Q;obtain ⟨r,hr,hQ⟩:=W6 (f:=fun i:Int=>Y6 s i) (fun i=> ∃k:Nat,i=(k:Int)/\k<=s.Ao.length/\ ∀j (hj:j<s.Ao.length),j<k->N6 s.Ao[j]=some 0)
   (fun i=>s.Ao.length-i.toNat) (fun r=>r=2\/(r=0/\ ∀c∈s.Ao,N6 c=some 0)) 0 ⟨0,rfl,Nat.zero_le _,fun j _ hj=>by omega⟩ (by
    rintro _ ⟨k,rfl,hk,hv⟩;unfold Y6
    by_cases hlt:k<s.Ao.length
    ·obtain ⟨q,hq,_⟩:=A24 s.Ao[k] (hc _ (D8Z hlt));have h0:B9 s.Ao (0:Int)=some (s.Ao[0]'(by omega)):=by
      have:=M0 (show 0<s.Ao.length by omega)
      simp [B9,this]
     simp only [Int.ofNat_lt,hlt,decide_true,D8e,S0,M0 hlt,D8a,h0,hq];cases hb:(((q !=0)||(s.Ao[k].W !=(s.Ao[0]'(by omega)).W))||(s.Ao[k].Cap !=(s.Ao[0]'(by omega)).Cap))||(s.Ao[k].I !=(s.Ao[0]'(by omega)).I) with
     |true=>simp
     |false=>
      simp only [D8K,bne_eq_false_iff_eq] at hb;left;refine ⟨(k:Int)+1,by rw [T0 hlt hl];rfl,⟨k+1,by simp,hlt,fun j hj hjk=> ?_⟩,by omega⟩
      grind
    ·right;have: ¬((k:Int)<(s.Ao.length:Int)):=by omega
     simp only [this,decide_false,D8d];refine ⟨0,rfl, .inr ⟨rfl,fun c hcm=> ?_⟩⟩;obtain ⟨j,hj,rfl⟩:=List.mem_iff_getElem.1 hcm
     grind)
  grind
theorem C65 (s:E7) (hl:s.Ao.length<=maxLen) (hc:∀c∈s.Ao,c.Bf.length<=maxLen): ∃r,B3f s=some r/\r.1.length<=16:=by
 obtain ⟨q,hq,hok⟩:=A1s s hl hc;unfold B3f;rw [hq,D8a]
 by_cases h0:q=0
 ·obtain ⟨h1,h2,h3⟩:=hok h0;subst h0;simp only [D8N,D8d];unfold B7x;exact W6 (f:=fun t:List Int×Int=>B0N s t.1 t.2) (fun t=> ∃k:Nat,t.2=(k:Int)/\t.1.length=k/\k<=s.Ao.length)
   (fun t=>s.Ao.length-t.1.length) (fun r=>r.1.length<=16) ([],0) ⟨0,rfl,rfl,Nat.zero_le _⟩ (by
    rintro ⟨l,_⟩ ⟨k,rfl,hkl,hk⟩;simp only at hkl⊢;unfold B0N
    by_cases hlt:k<s.Ao.length
    ·obtain ⟨a,ha⟩:=D0h s.Ao[k] (hc _ (D8Z hlt));simp only [Int.ofNat_lt,hlt,decide_true,D8e,S0,M0 hlt,D8a,ha]
     by_cases he:a.2=0
     ·left;have hk2:decide ((l.length+ [a.1].length)*8<=140737488355328)=true:=by grind
      refine ⟨(l++ [a.1],(k:Int)+1), ?_,⟨k+1,by simp,by simp [hkl],hlt⟩,by simp;omega⟩
      simp only [he,D8N,D8d,hk2,A2Y,T0 hlt hl]
     ·right;have hb:(a.2 !=0)=true:=by grind
      simp only [hb,D8e];simp
    ·right;have: ¬((k:Int)<(s.Ao.length:Int)):=by omega
     simp only [this,decide_false,D8d];exact ⟨_,rfl,by grind⟩)
 ·have hb:(q !=0)=true:=by grind
  simp only [hb,D8e];simp
theorem D6V (n w c:Int) (h1:1<=n) (h2:n<=16):B2b n w c 0 []=some (if (X7 w c).2=0 then (⟨List.replicate n.toNat (X7 w c).1⟩,0) else (⟨[]⟩,(X7 w c).2)):=by
 unfold B2b
 by_cases he:(X7 w c).2=0
 ·rw [if_pos he];obtain ⟨r,hr,hQ⟩:=W6 (f:=fun t:Int×List B5=>A7s n w c t.1 t.2) (fun t=> ∃k:Nat,t=((k:Int),List.replicate k (X7 w c).1)/\(k:Int)<=n)
   (fun t=>(n-t.1).toNat) (fun r=>r=(⟨List.replicate n.toNat (X7 w c).1⟩,0)) (0, []) ⟨0,rfl,by omega⟩ (by
    rintro _ ⟨k,rfl,hk⟩;simp only;unfold A7s
    by_cases hlt:(k:Int)<n
    ·left;have hk2:decide (((List.replicate k (X7 w c).1).length+ [(X7 w c).1].length)*56<=140737488355328)=true:=by
      grind
     have hs:A1 ((k:Int)+1)=(k:Int)+1:=by rw [C4]<;>omega
     refine ⟨((k:Int)+1,List.replicate (k+1) (X7 w c).1), ?_,⟨k+1,by simp,by omega⟩,by omega⟩
     simp only [hlt,decide_true,D8e,he,D8N,D8d];rw [hk2,A2Y,hs,List.replicate_succ']
    grind)
  rw [hr,hQ]
 ·rw [if_neg he];have hb:((X7 w c).2 !=0)=true:=by grind
  refine M5 ?_;unfold A7s
  grind
instance {x:B5} {v:Int} {l:List G1} {tk:Bool} {s:K0}:TS (A4E x v l tk s) (l.length<=64) (fun r=>r.1.Bf.length<=65):=⟨fun _=>by unfold A4E;exact yT⟩
set_option maxHeartbeats 2000000 in
theorem C7V (x:B5) (v:Int) (draws:List Int) (at_:Int) (hl:x.Bf.length<=maxLen) (hd:draws.length<=maxLen):T (B1u x v draws at_) fun r=>r.1.Bf.length<=65:=by
 obtain ⟨q,hq,hok⟩:=A24 x hl;unfold B1u;rw [hq]
 by_cases h:q=0
 ·obtain ⟨h1,h2,h3,h4,h5,h6,h7,_,h8⟩:=hok h;unfold B1v;exact yT
 ·clear hok;exact yT
theorem C61 (s:E7) (v:Int) (draws:List Int) (hl:s.Ao.length<=maxLen) (hc:∀c∈s.Ao,c.Bf.length<=maxLen) (hd:draws.length<=maxLen):
  ∃r,B3e s v draws=some r/\r.1.Ao.length<=16/\ ∀c∈r.1.Ao,c.Bf.length<=65:=by
 obtain ⟨q,hq,hok⟩:=A1s s hl hc;unfold B3e;rw [hq,D8a]
 by_cases h0:q=0
 ·obtain ⟨h1,h2,h3⟩:=hok h0;subst h0;simp only [D8N,D8d];unfold B7w;exact W6 (f:=fun t:Int×Int×List B5=>B0M s v draws t.1 t.2.1 t.2.2) (fun t=> ∃k:Nat,t.2.1=(k:Int)/\t.2.2.length=k/\k<=s.Ao.length/\ ∀c∈t.2.2,c.Bf.length<=65)
   (fun t=>s.Ao.length-t.2.2.length) (fun r=>r.1.Ao.length<=16/\ ∀c∈r.1.Ao,c.Bf.length<=65) (0,0, []) ⟨0,rfl,rfl,Nat.zero_le _,by simp⟩ (by
    rintro ⟨a,_,l⟩ ⟨k,rfl,hkl,hk,hm⟩;simp only at hkl hm⊢;unfold B0M
    by_cases hlt:k<s.Ao.length
    ·obtain ⟨r,hr,hr2⟩:=C7V s.Ao[k] v draws a (hc _ (D8Z hlt)) hd;simp only [Int.ofNat_lt,hlt,decide_true,D8e,S0,M0 hlt,D8a,hr]
     by_cases he:r.2.2=0
     ·left;have hk2:decide ((l.length+ [r.1].length)*56<=140737488355328)=true:=by grind
      refine ⟨(r.2.1,(k:Int)+1,l++ [r.1]), ?_,⟨k+1,by simp,by simp [hkl],hlt,fun c hcm=> ?_⟩,by simp;omega⟩
      ·simp only [he,D8N,D8d,hk2,A2Y,T0 hlt hl]
      grind
     ·right;have hb:(r.2.2 !=0)=true:=by grind
      simp only [hb,D8e];simp
    ·right;have: ¬((k:Int)<(s.Ao.length:Int)):=by omega
     simp only [this,decide_false,D8d];cases decide (a<(draws.length:Int)) with
     |true=>simp
     |false=>exact ⟨_,rfl,by grind,hm⟩)
 ·have hb:(q !=0)=true:=by grind
  rw [hb];simp
end Go.Win
set_option maxHeartbeats 4000000
namespace Go.Win
open Go.Vc Go.Dec
theorem G8 {α:Type} {l:List α} (h:l.length<=1048576):l.length<=maxLen:=by rw [I2];omega
theorem D3x {l:List A2} (h:∀y∈l,B0i y): ∀w∈l,I0 w:=fun w hw=>⟨(C14 (h w hw).1).1,(C14 (h w hw).1).2,(C14 (h w hw).2).1,(C14 (h w hw).2).2⟩
theorem D40 (p:Prop):(R0 p==0)=G3 p:=by
 by_cases h:p
 ·rw [O3 h,A2z h];rfl
 ·rw [J7 h,X6 h];rfl
theorem C7H (x:F4) (hl:x.Bo.length<=maxLen):B23 x x=some true:=by
 unfold B23;simp [B8p _ hl]
def C6X (x:D0):Prop:=x.W=0/\x.Cap=0/\x.Now=0/\x.Bc.length=0
def C8C (x:E4):Prop:=x.W=0/\x.K=0/\x.Cap=0/\x.Now=0/\x.Ad.length=0
def D3W (x:F3):Prop:=x.W=0/\x.K=0/\x.Cap=0/\x.Bu=0/\x.Now=0/\x.Ad.length=0
def C6Z (x:D2):Prop:=x.Bp=0/\x.W=0/\x.K=0/\x.Cap=0/\x.Now=0/\x.Bx=0/\x.Bg.length=0
def C60 (x:D5):Prop:=x.W=0/\x.K=0/\x.Cap=0/\x.Now=0/\x.Bx=0/\x.Bg.length=0
def D1W (x:E2):Prop:=x.P=0/\x.Bk=0/\x.Now=0/\x.Ag.length=0
def C8D (x:F4):Prop:=x.Now=0/\x.Bo.length=0
def C4f (x:C2):Prop:=x.Bu=false/\x.W=0/\x.Cap=0/\x.Now=0/\x.Bc.length=0
def C6Y (x:E7):Prop:=x.Ao.length=0
def C4g (x:C1):Prop:=x.K=0/\x.Cap=0/\x.N=0/\x.Aw.length=0
def C2m (x:C3):Prop:=x.W=0/\x.K=0/\x.Cap=0/\x.Now=0/\x.Al.length=0
def B0F (s:A9):Prop:=(s.Ap.Bj≠1->C6X s.Ar)/\(s.Ap.Bj≠2->C8C s.Az)/\(s.Ap.Bj≠3->D3W s.Sum)/\(s.Ap.Bj≠4->C6Z s.Au)/\(s.Ap.Bj≠5->C60 s.Av)/\(s.Ap.Bj≠6->D1W s.Bn)/\(s.Ap.Bj≠7->C8D s.Bb)/\(s.Ap.Bj≠8->C4f s.Af)/\(s.Ap.Bj≠9->C6Y s.As)/\(s.Ap.Bj≠10->C4g s.Aj)/\(s.Ap.Bj≠11->C2m s.Ab)
def X4 (s:A9):Prop:=s.Ar.Bc.length<=1048576/\s.Az.Ad.length<=1048576/\s.Sum.Ad.length<=1048576/\s.Au.Bg.length<=1048576/\s.Av.Bg.length<=1048576/\(s.Bn.Ag.length<=1048576/\ ∀w∈s.Bn.Ag,I0 w)/\s.Bb.Bo.length<=1048576/\s.Af.Bc.length<=1048576/\
 (s.As.Ao.length<=1048576/\ ∀c∈s.As.Ao,c.Bf.length<=1048576)/\s.Aj.Aw.length<=1048576/\A1o s.Ab.Al
theorem D4s {s:A9} (w:A3h s):X4 s:=by
 obtain ⟨_,w1,w2,w3,w4,w5,w6,w7,w8,w9,w10,w11⟩:=w;exact ⟨w1.2.2.2.1,w2.2.2.2.2.1,w3.2.2.2.2.2.1,w4.2.2.2.2.2.2.1,w5.2.2.2.2.2.1,⟨w6.2.2.2.1,D3x w6.2.2.2.2⟩,w7.2.1,w8.2.2.2.2.1,⟨w9.1,fun c hc=>(w9.2 c hc).2.2.2.2.1⟩,w10.2.2.2.1,⟨w11.2.2.2.2.1,fun b hb=>Nat.le_trans (w11.2.2.2.2.2 b hb).2.2.2.2.1 (by decide)⟩⟩
theorem D1n (s:A9):A6l s=G3 (B0F s):=by
 unfold A6l;rw [D8v,A1Q];unfold B0F;unfold C6X;unfold C8C;unfold D3W;unfold C6Z;unfold C60;unfold D1W;unfold C8D;unfold C4f;unfold C6Y;unfold C4g;unfold C2m;simp only [D2h,D8i,D8l,bne_iff_ne,D84,D8c,ne_eq];have fin: ∀ {c:Prop} [Decidable c] {b:Bool},((if c then false else b)=true)↔(¬c/\b=true):=by
  simp
 simp only [fin,D8l,D8i,D84];cases s.Af.Bu
 ·simp only [Bool.false_eq_true,false_or,true_and]
  repeat' apply and_congr
  all_goals first|omega|(simp;done)|(simp;omega)
 ·simp only [true_or,Bool.true_eq_false,false_and]
  repeat' apply and_congr
  all_goals first|omega|(simp;done)|(simp;omega)
def B8r (x:E7):Prop:=Q0 x=some 0
theorem C9U (x:E7) (hl:x.Ao.length<=maxLen) (hc:∀c∈x.Ao,c.Bf.length<=maxLen): ∃r,Q0 x=some r/\(r==0)=G3 (B8r x)/\(r=0->0<x.Ao.length):=by
 obtain ⟨r,h1,h2⟩:=A1s x hl hc;refine ⟨r,h1, ?_,fun h=>by omega⟩
 rw [D8v,A1Q,D84];unfold B8r
 grind
theorem C9G (x:D0) (hl:x.Bc.length<=maxLen):Y2 x=some (R0 (okV x=true)):=by
 rw [B0c,A7G x hl]
 by_cases h:okV x=true
 ·rw [if_pos h,O3 h]
 ·rw [if_neg h,J7 h]
def A9Z (s:A9):Prop:=
 (s.Ap.Bj=1/\okV s.Ar=true/\s.Ar.W=s.Ap.W/\s.Ar.Cap=s.Ap.Cap)\/
 (s.Ap.Bj=2/\A3c s.Az.Ad s.Az.W s.Az.K s.Az.Cap s.Az.Now/\s.Az.W=s.Ap.W/\s.Az.K=s.Ap.K/\s.Az.Cap=s.Ap.Cap)\/
 (s.Ap.Bj=3/\B9l s.Sum/\s.Sum.W=s.Ap.W/\s.Sum.K=s.Ap.K/\s.Sum.Cap=s.Ap.Cap/\s.Sum.Bu=s.Ap.Bu)\/
 (s.Ap.Bj=4/\B6I s.Au/\s.Au.W=s.Ap.W/\s.Au.K=s.Ap.K/\s.Au.Cap=s.Ap.Cap/\s.Au.Bp=s.Ap.Bp)\/
 (s.Ap.Bj=5/\C2D s.Av/\s.Av.W=s.Ap.W/\s.Av.K=s.Ap.K/\s.Av.Cap=s.Ap.Cap)\/
 (s.Ap.Bj=6/\C2C s.Bn/\s.Bn.P=s.Ap.P)\/
 (s.Ap.Bj=7/\C2B s.Bb/\(s.Bb.Bo.length:Int)=s.Ap.W)\/
 (s.Ap.Bj=8/\B5j s.Af/\s.Af.W=s.Ap.W/\s.Af.Cap=s.Ap.Cap/\s.Af.Bu=(s.Ap.Bu==1))\/
 (s.Ap.Bj=9/\B8r s.As/\(s.As.Ao.length:Int)=s.Ap.Ao/\(el s.As.Ao 0).W=s.Ap.W/\(el s.As.Ao 0).Cap=s.Ap.Cap)\/
 (s.Ap.Bj=10/\C2E s.Aj/\s.Aj.K=s.Ap.K/\s.Aj.Cap=s.Ap.Cap)\/
 (s.Ap.Bj=11/\C0E s.Ab/\s.Ab.W=s.Ap.W/\s.Ab.K=s.Ap.K/\s.Ab.Cap=s.Ap.Cap)
theorem C9M (s:A9) (w:X4 s) (hk:1<=s.Ap.Bj/\s.Ap.Bj<=11):A7C s=some (G3 (A9Z s)):=by
 obtain ⟨w1,w2,w3,w4,w5,w6,w7,w8,w9,w10,w11⟩:=w;obtain ⟨r9,e9,b9,p9⟩:=C9U s.As (G8 w9.1) (fun c hc=>G8 (w9.2 c hc));unfold A9Z A7C;rw [C9G s.Ar (G8 w1),A20 s.Az (G8 w2),A96 s.Sum (G8 w3),A6j s.Au (G8 w4),A6k s.Av (G8 w5),A8v s.Bn w6.2,A68 s.Bb (G8 w7),A5f s.Af (G8 w8),e9,A5s s.Aj,A2m s.Ab w11];have:s.Ap.Bj=1\/s.Ap.Bj=2\/s.Ap.Bj=3\/s.Ap.Bj=4\/s.Ap.Bj=5\/s.Ap.Bj=6\/s.Ap.Bj=7\/s.Ap.Bj=8\/s.Ap.Bj=9\/s.Ap.Bj=10\/s.Ap.Bj=11:=by omega
 rcases this with h|h|h|h|h|h|h|h|h|h|h
 all_goals rw [h]
 case inr.inr.inr.inr.inr.inr.inr.inr.inl=>
  simp only [Int.reduceBEq,beq_self_eq_true,D8e,D8d,D8a,b9,Int.reduceEq,false_and,false_or,or_false,true_and]
  by_cases q1:B8r s.As/\(s.As.Ao.length:Int)=s.Ap.Ao
  ·have h0:0<s.As.Ao.length:=p9 (by have:=A2z q1.1;grind)
   have g:(G3 (B8r s.As)&&((s.As.Ao.length:Int)==s.Ap.Ao))=true:=by
    rw [D8i,A1Q,D84];exact q1
   rw [g,B0x h0];simp only [H7,D8a,D8L];have fin:some (((el s.As.Ao 0).W==s.Ap.W)&&((el s.As.Ao 0).Cap==s.Ap.Cap))=some (G3 (B8r s.As/\(s.As.Ao.length:Int)=s.Ap.Ao/\(el s.As.Ao 0).W=s.Ap.W/\(el s.As.Ao 0).Cap=s.Ap.Cap)):=by
    congr 1
    rw [D8v,A1Q,D8i,D84,D84]
    grind
   rw [<-fin];cases ((el s.As.Ao 0).W==s.Ap.W)<;>rfl
  ·have g:(G3 (B8r s.As)&&((s.As.Ao.length:Int)==s.Ap.Ao))=false:=by
    rw [D8q,Ne,D8i,A1Q,D84];exact q1
   rw [g];simp only [L6,D8a,D8F];rw [X6 fun h=>q1 ⟨h.1,h.2.1⟩]
 all_goals
  simp only [Int.reduceBEq,beq_self_eq_true,D8e,D8d,D8a,D40,Int.reduceEq,false_and,false_or,or_false,true_and]
  try (congr 1<;>rw [D8v,A1Q]<;>simp only [D8i,A1Q,D84]<;>grind)
def A19 (s:A9):Prop:=A3w s.Ap/\A9Z s/\B0F s
theorem T4 (s:A9) (w:X4 s):N2 s=some (R0 (A19 s)):=by
 unfold N2;simp only [];rw [A3N,D1n]
 by_cases h1:A3w s.Ap
 ·rw [C15 h1,C9M s w h1.1]
  by_cases h2:A9Z s
  ·rw [A2z h2]
   by_cases h3:B0F s
   ·rw [A2z h3,O3 ⟨h1,h2,h3⟩];rfl
   ·rw [X6 h3,J7 fun h=>h3 h.2.2];rfl
  ·rw [X6 h2,J7 fun h=>h2 h.2.1];rfl
 ·rw [C4R h1,J7 fun h=>h1 h.1];rfl
end Go.Win
set_option maxHeartbeats 4000000
namespace Go.Win
open Go.Vc Go.Dec
def C4S:A9:=⟨⟨0,0,0,0,0,0,0,0⟩,⟨0,0,0, []⟩,⟨0,0,0,0, []⟩,⟨0,0,0,0,0, []⟩,⟨0,0,0,0,0,0, []⟩,⟨0,0,0,0,0, []⟩,⟨0,0,0, []⟩,⟨0, []⟩,⟨false,0,0,0, []⟩,⟨[]⟩,⟨0,0,0, []⟩,⟨0,0,0,0, []⟩⟩
def B14 (c:B7) (now:Int):A9:=⟨c,if c.Bj=1 then ⟨c.W,c.Cap,now, []⟩ else ⟨0,0,0, []⟩,
 if c.Bj=2 then ⟨c.W,c.K,c.Cap,now, []⟩ else ⟨0,0,0,0, []⟩,
 if c.Bj=3 then ⟨c.W,c.K,c.Cap,c.Bu,now, []⟩ else ⟨0,0,0,0,0, []⟩,
 if c.Bj=4 then ⟨c.Bp,c.W,c.K,c.Cap,now,0, []⟩ else ⟨0,0,0,0,0,0, []⟩,
 if c.Bj=5 then ⟨c.W,c.K,c.Cap,now,0, []⟩ else ⟨0,0,0,0,0, []⟩,
 if c.Bj=6 then ⟨c.P,now,now,List.replicate (c.P+1).toNat ⟨0,0⟩⟩ else ⟨0,0,0, []⟩,
 if c.Bj=7 then ⟨now,List.replicate c.W.toNat 0⟩ else ⟨0, []⟩,
 if c.Bj=8 then ⟨c.Bu==1,c.W,c.Cap,now, []⟩ else ⟨false,0,0,0, []⟩,
 if c.Bj=9 then ⟨List.replicate c.Ao.toNat ⟨c.W,c.Cap,0,0, []⟩⟩ else ⟨[]⟩,
 if c.Bj=10 then ⟨c.K,c.Cap,0, []⟩ else ⟨0,0,0, []⟩,
 if c.Bj=11 then ⟨c.W,c.K,c.Cap,now, []⟩ else ⟨0,0,0,0, []⟩⟩
theorem C9p {w c n:Int} (h1:1<=w/\w<=1048576) (h2:1<=c/\c<=65536) (h3:0<=n/\n<=16777216):B2V w c n=(⟨w,c,n, []⟩,0):=by
 unfold B2V;simp only [C8d,(B54 w c n).2 ⟨h1,h2,h3⟩];rfl
theorem D05 {w k c n:Int} (h:A5S w k c n):B4F w k c n=(⟨w,k,c,n, []⟩,0):=by
 unfold B4F;simp only [(B0u w k c n).2 h];rfl
theorem D4z {w k c m n:Int} (h:A5S w k c n) (hm:1<=m/\m<=1024):B9q w k c m n=(⟨w,k,c,m,n, []⟩,0):=by
 unfold B9q;simp only [(B35 w k c m n).2 ⟨h,hm⟩];rfl
theorem C9r {a w k c n:Int} (h:A5S w k c n) (ha:1<=a/\a<=4):B3i a w k c n=(⟨a,w,k,c,n,0, []⟩,0):=by
 unfold B3i;have e1:A1z a w k c n=true:=by
  unfold A1z;simp only [(B50 _ _ _ _).2 h,Bool.and_true,D8i,D8c];exact ha
 grind
theorem C9s {w k c n:Int} (h:A5S w k c n):B3l w k c n=(⟨w,k,c,n,0, []⟩,0):=by
 unfold B3l;simp only [(B50 w k c n).2 h];rfl
theorem D2Q {p n:Int} (hp:0<=p/\p<=4) (hn:0<=n/\n<=16777216):C0F p n=some (⟨p,n,n,List.replicate (p+1).toNat ⟨0,0⟩⟩,0):=by
 show C30 p n=_;unfold C30;have e:(((decide (p<(0:Int)))||(decide (p>(4:Int))))||(!(H4 n)))=false:=by
  rw [(A9l n).2 hn];simp;omega
 simp only [e,D8d,C4 (n:=p+1) (by omega) (by omega)]
 rw [D8f (by omega),A2Y]
theorem D07 {w n:Int} (hw:1<=w/\w<=64) (hn:0<=n/\n<=16777216):B4N w n=some (⟨n,List.replicate w.toNat 0⟩,0):=by
 unfold B4N;have e1:((((decide (w<(1:Int)))||(decide (w>(64:Int))))||(decide (n<(0:Int))))||(decide (n>(16777216:Int))))=false:=by simp;omega
 simp only [e1,D8d];rw [D8f (by omega),A2Y]
theorem C7f {m:Bool} {w c n:Int} (h1:1<=w/\w<=1048576) (h2:1<=c/\c<=65536) (h3:0<=n/\n<=16777216):B09 m w c n=(⟨m,w,c,n, []⟩,0):=by
 unfold B09;simp only [C5K,(B54 w c n).2 ⟨h1,h2,h3⟩];rfl
theorem C9q {n w c:Int} (hn:1<=n/\n<=16) (hw:1<=w/\w<=1048576) (hc:1<=c/\c<=64):B3g n w c=some (⟨List.replicate n.toNat ⟨w,c,0,0, []⟩⟩,0):=by
 have e:(decide (n<(1:Int))||decide (n>(16:Int)))=false:=by simp;omega
 have e2:X7 w c=(⟨w,c,0,0, []⟩,0):=by
  unfold X7;have:((((decide (w<(1:Int)))||(decide (w>(1048576:Int))))||(decide (c<(1:Int))))||(decide (c>(64:Int))))=false:=by simp;omega
  rw [this,D8d]
 unfold B3g;rw [e,D8d,D6V n w c hn.1 hn.2,e2];rfl
theorem C7g {k c:Int} (hk:1<=k/\k<=64) (hc:2<=c/\c<=65536):B1l k c=(⟨k,c,0, []⟩,0):=by
 unfold B1l
 grind
theorem C5O {w k c n:Int} (h:A5S w k c n):A9N w k c n=(⟨w,k,c,n, []⟩,0):=by
 unfold A9N;simp only [(A7X w k c n).2 h];rfl
theorem D06 {c:B7} {now:Int} (hc:A3w c) (hn:0<=now/\now<=16777216):A3f c now=some (B14 c now,0):=by
 unfold A3f;have et:A0c now=true:=(A9l now).2 hn;simp only [A3N,C15 hc,et,D8N,D8m,D8d];obtain ⟨k,agg,w,kk,cap,p,ch,mx⟩:=c;have hc' :=hc;unfold A3w at hc';simp only [] at hc';have:k=1\/k=2\/k=3\/k=4\/k=5\/k=6\/k=7\/k=8\/k=9\/k=10\/k=11:=by omega
 rcases this with h|h|h|h|h|h|h|h|h|h|h<;>subst h<;>simp only [Int.reduceBEq,beq_self_eq_true,D8e,D8d]
 ·rw [C9p (w:=w) (c:=cap) (n:=now) (by omega) (by omega) hn];rfl
 ·rw [D05 (w:=w) (k:=kk) (c:=cap) (n:=now) ⟨by omega,by omega,hn,by omega⟩];rfl
 ·rw [D4z (w:=w) (k:=kk) (c:=cap) (n:=now) (m:=mx) ⟨by omega,by omega,hn,by omega⟩ (by omega)];rfl
 ·rw [C9r (a:=agg) (w:=w) (k:=kk) (c:=cap) (n:=now) ⟨by omega,by omega,hn,by omega⟩ (by omega)];rfl
 ·rw [C9s (w:=w) (k:=kk) (c:=cap) (n:=now) ⟨by omega,by omega,hn,by omega⟩];rfl
 ·rw [D2Q (p:=p) (n:=now) (by omega) hn];rfl
 ·rw [D07 (w:=w) (n:=now) (by omega) hn];rfl
 ·rw [C7f (m:=(mx==1)) (w:=w) (c:=cap) (n:=now) (by omega) (by omega) hn];rfl
 ·rw [C9q (n:=ch) (w:=w) (c:=cap) (by omega) (by omega) (by omega)];rfl
 ·rw [C7g (k:=kk) (c:=cap) (by omega) (by omega)];rfl
 ·rw [C5O (w:=w) (k:=kk) (c:=cap) (n:=now) ⟨by omega,by omega,hn,by omega⟩];rfl
theorem D4y {c:B7} {now:Int} (h:¬(A3w c/\0<=now/\now<=16777216)):A3f c now=some (C4S,1):=by
 unfold A3f
 by_cases hc:A3w c
 ·have e2:A0c now=false:=D8q.2 fun h2=>h ⟨hc,(A9l now).1 h2⟩;simp only [A3N,C15 hc,e2,D8N,D8n,D8d,D8e];rfl
 ·simp only [A3N,C4R hc,show ((1:Int) !=0)=true from rfl,D8e];rfl
def C6T (s:A9):Prop:=s.Ar.Bc.length<=maxLen/\s.Az.Ad.length<=maxLen/\s.Sum.Ad.length<=maxLen/\s.Au.Bg.length<=maxLen/\s.Av.Bg.length<=maxLen/\s.Bn.Ag.length<=maxLen/\s.Bb.Bo.length<=maxLen/\s.Af.Bc.length<=maxLen/\
 (s.As.Ao.length<=maxLen/\ ∀c∈s.As.Ao,c.Bf.length<=maxLen)/\s.Aj.Aw.length<=maxLen/\(s.Ab.Al.length<=maxLen/\ ∀b∈s.Ab.Al,b.Bi.Ae.length<=maxLen)
theorem C7N (s:A9) (h:C6T s):A9V s s=some true:=by
 obtain ⟨h1,h2,h3,h4,h5,h6,h7,h8,h9,h10,h11⟩:=h;unfold A9V;rw [C9S _ h1,C7C _ h2,C7D _ h3,C7E _ h4,C7F _ h5,C7G _ h6,C7H _ h7,C7I _ h8,C7K _ h9.1 h9.2,C7L _ h10,C7M _ h11.1 h11.2];simp
theorem D2G {s:A9} (w:X4 s):C6T s:=by
 obtain ⟨w1,w2,w3,w4,w5,w6,w7,w8,w9,w10,w11⟩:=w;exact ⟨G8 w1,G8 w2,G8 w3,G8 w4,G8 w5,G8 w6.1,G8 w7,G8 w8,⟨G8 w9.1,fun c hc=>G8 (w9.2 c hc)⟩,G8 w10,⟨G8 w11.1,fun b hb=>by have:=w11.2 b hb;rw [I2];omega⟩⟩
theorem B60:X4 C4S:=by
 refine ⟨?_, ?_, ?_, ?_, ?_,⟨?_,fun c h=>by cases h⟩, ?_, ?_,⟨?_,fun c h=>by cases h⟩, ?_, ?_,fun c h=>by cases h⟩<;>exact Nat.zero_le _
theorem D4x {c:B7} {now:Int} (hc:A3w c) (hn:0<=now/\now<=16777216):A3h (B14 c now):=by
 have i64: ∀ {n:Int},-9223372036854775808<=n/\n<=9223372036854775807->D6 .i64 n:=by
  intro n h;simp [D6,Lit.wf,IntKind.min,IntKind.max,IntKind.signed,IntKind.bits];omega
 have z:D6 .i64 0:=i64 (by omega)
 have hc' :=hc;unfold A3w at hc';have i1:D6 .i64 c.Bj:=i64 (by omega)
 have i2:D6 .i64 c.Bp:=i64 (by omega)
 have i3:D6 .i64 c.W:=i64 (by omega)
 have i4:D6 .i64 c.K:=i64 (by omega)
 have i5:D6 .i64 c.Cap:=i64 (by omega)
 have i6:D6 .i64 c.P:=i64 (by omega)
 have i7:D6 .i64 c.Ao:=i64 (by omega)
 have i8:D6 .i64 c.Bu:=i64 (by omega)
 have i9:D6 .i64 now:=i64 (by omega)
 have nl: ∀ {α:Type} {wf:α->Prop},A1t wf ([]:List α):=⟨Nat.zero_le _,fun y h=>by cases h⟩
 have hz:D6 .u64 0:=by rfl
 have ite: ∀ {α:Type} {wf:α->Prop} {p:Prop} [Decidable p] {a b:α},wf a->wf b->wf (if p then a else b):=by
  intro α wf p _ a b ha hb;split<;>assumption
 refine ⟨⟨i1,i2,i3,i4,i5,i6,i7,i8⟩,ite (wf:=B0X) ?_ ?_,ite (wf:=B2m) ?_ ?_,ite (wf:=B5x) ?_ ?_,ite (wf:=B0Z) ?_ ?_,ite (wf:=B00) ?_ ?_, ?_, ?_,ite (wf:=B0f) ?_ ?_, ?_,ite (wf:=B0h) ?_ ?_,ite (wf:=A83) ?_ ?_⟩
 ·exact ⟨i3,i5,i9,nl⟩
 ·exact ⟨z,z,z,nl⟩
 ·exact ⟨i3,i4,i5,i9,nl⟩
 ·exact ⟨z,z,z,z,nl⟩
 ·exact ⟨i3,i4,i5,i8,i9,nl⟩
 ·exact ⟨z,z,z,z,z,nl⟩
 ·exact ⟨i2,i3,i4,i5,i9,z,nl⟩
 ·exact ⟨z,z,z,z,z,z,nl⟩
 ·exact ⟨i3,i4,i5,i9,z,nl⟩
 ·exact ⟨z,z,z,z,z,nl⟩
 ·show B4b (if c.Bj=6 then _ else _)
  by_cases h:c.Bj=6
  ·rw [if_pos h];refine ⟨i6,i9,i9, ?_,fun y hy=> ?_⟩
   ·grind
   ·rw [List.eq_of_mem_replicate hy];exact ⟨hz,hz⟩
  ·rw [if_neg h];exact ⟨z,z,z,nl⟩
 ·show B2n (if c.Bj=7 then _ else _)
  by_cases h:c.Bj=7
  ·rw [if_pos h];refine ⟨i9, ?_,fun y hy=> ?_⟩
   ·grind
   grind
  ·rw [if_neg h];exact ⟨z,nl⟩
 ·exact ⟨trivial,i3,i5,i9,nl⟩
 ·exact ⟨trivial,z,z,z,nl⟩
 ·show B0Y (if c.Bj=9 then _ else _)
  by_cases h:c.Bj=9
  ·rw [if_pos h];refine ⟨?_,fun y hy=> ?_⟩
   ·grind
   ·rw [List.eq_of_mem_replicate hy];exact ⟨i3,i5,z,z,nl⟩
  ·rw [if_neg h];exact nl
 ·exact ⟨i4,i5,z,nl⟩
 ·exact ⟨z,z,z,nl⟩
 ·exact ⟨i3,i4,i5,i9,nl⟩
 ·exact ⟨z,z,z,z,nl⟩
end Go.Win
set_option maxHeartbeats 4000000
namespace Go.Win
open Go.Vc Go.Dec
theorem C16 (l:List A8) (n:Int):B0b l n=true↔H4 n=true/\(∀p∈l,0<=p.T/\p.T<=n)/\l.Pairwise (fun a b=>a.T<=b.T):=by
 unfold B0b;rw [D8i,D8w];constructor
 ·rintro ⟨h1,h2⟩;have hno: ∀i,i<l.length->B49 l n i=false:=fun i hi=>by
   cases h:B49 l n i with
   |false=>rfl
   |true=>rw [C2o.2 ⟨i,hi,h⟩] at h2;cases h2
  refine ⟨h1,fun p hp=> ?_, ?_⟩
  ·obtain ⟨i,hi,rfl⟩:=List.mem_iff_getElem.1 hp;have:=hno i hi;simp only [B49,M0 hi,D8K,D8r] at this;omega
  ·rw [List.pairwise_iff_getElem];intro i j hi hj hij;have adj: ∀k (hk:k+1<l.length),l[k].T<=l[k+1].T:=fun k hk=>by
    have:=hno (k+1) hk;simp only [B49,M0 hk,D8R,M0 (show k<l.length by omega),Nat.succ_pos,decide_true,D8L,D8K,D8r] at this
    omega
   have key: ∀d (hd:i+d<l.length),l[i].T<=l[i+d].T:=by
    intro d
    induction d with
    |zero=>intro _;exact Int.le_refl _
    |succ d ih=>
     intro hd;exact Int.le_trans (ih (by omega)) (adj (i+d) hd)
   have:=key (j-i) (by omega)
   have e:i+(j-i)=j:=by omega
   simpa [e] using this
 ·rintro ⟨h1,h2,h3⟩;refine ⟨h1, ?_⟩;cases hc:(List.range l.length).any (B49 l n) with
  |false=>rfl
  |true=>
   exfalso;obtain ⟨i,hi,hb⟩:=C2o.1 hc;have:=h2 l[i] (D8Z hi);simp only [B49,M0 hi,D8l,D8i,D8c] at hb;rcases hb with (hb|hb)|⟨hb,hb2⟩
   ·omega
   ·omega
   ·rw [M0 (show i-1<l.length by omega)] at hb2
    simp only [D8c] at hb2;have:=List.pairwise_iff_getElem.1 h3 (i-1) i (by omega) hi (by omega)
    omega
theorem B3s (x:D0):okV x=true↔(1<=x.W/\x.W<=1048576)/\(1<=x.Cap/\x.Cap<=65536)/\H4 x.Now=true/\(x.Bc.length:Int)<=x.Cap/\(∀p∈x.Bc,0<=p.T/\p.T<=x.Now/\p.T>x.Now-x.W/\M6 p.V=true)/\x.Bc.Pairwise (fun a b=>a.T<=b.T):=by
 unfold okV;rw [D8i,D8i,D8i,C16,D8M,D8c];have hm:R7 x.W x.Cap x.Now=true↔(1<=x.W/\x.W<=1048576)/\(1<=x.Cap/\x.Cap<=65536)/\H4 x.Now=true:=by
  unfold R7 Q2;simp only [D8i,D8c];constructor
  ·rintro ⟨⟨⟨⟨a,b⟩,c⟩,d⟩,e⟩;exact ⟨⟨a,b⟩,⟨c,d⟩,e⟩
  ·rintro ⟨⟨a,b⟩,⟨c,d⟩,e⟩;exact ⟨⟨⟨⟨a,b⟩,c⟩,d⟩,e⟩
 rw [hm];constructor
 ·rintro ⟨⟨⟨h1,h2,h3⟩,h4⟩,⟨_,h6,h7⟩,h8⟩;refine ⟨h1,h2,h3,h4,fun p hp=> ?_,h7⟩;have a:=h6 p hp;have b:=h8 p hp;unfold F9 at b;unfold H4 at h3;simp only [D8i,D8c] at b h3;have e:A1 (x.Now-x.W)=x.Now-x.W:=by rw [C4]<;>omega
  rw [e] at b;exact ⟨a.1,a.2,b.1.1.2,b.2⟩
 ·rintro ⟨h1,h2,h3,h4,h5,h6⟩;refine ⟨⟨⟨h1,h2,h3⟩,h4⟩,⟨h3,fun p hp=>⟨(h5 p hp).1,(h5 p hp).2.1⟩,h6⟩,fun p hp=> ?_⟩;obtain ⟨a,b,c,d⟩:=h5 p hp;have h3' :=h3;unfold H4 at h3';simp only [D8i,D8c] at h3';have e:A1 (x.Now-x.W)=x.Now-x.W:=by rw [C4]<;>omega
  unfold F9 Q2;rw [e];have ht:H4 p.T=true:=by
   unfold H4;simp only [D8i,D8c];omega
  simp only [D8i,D8c,h3,ht,d,true_and,and_true];omega
theorem C0P (t:Int):H4 t=true↔0<=t/\t<=16777216:=by
 unfold H4;simp only [D8i,D8c,ge_iff_le]
theorem C8O {x:D0} {t:Int} (h:okV x=true) (h1:x.Now<=t) (h2:t<=16777216):
  A7j x t=some (⟨x.W,x.Cap,t,B1c x.Bc t x.W⟩,0)/\okV ⟨x.W,x.Cap,t,B1c x.Bc t x.W⟩=true/\
  B1c x.Bc t x.W=x.Bc.filter fun p=>decide (p.T>A1 (t-x.W))&&decide (p.T<=t):=by
 obtain ⟨g1,g2,g3,g4,g5,g6⟩:=(B3s x).1 h;have hn:=(C0P x.Now).1 g3;have ht:H4 t=true:=(C0P t).2 (by omega)
 have hl:x.Bc.length<=maxLen:=by rw [I2];omega
 have hv:B0b x.Bc t=true:=(C16 _ _).2 ⟨ht,fun p hp=>by have:=g5 p hp;omega,g6⟩
 refine ⟨?_, ?_, ?_⟩
 ·unfold A7j;rw [B0c,A7G x hl,h];have hk:A3L x.Now=true:=g3;have hc:(decide (t<x.Now)||decide (t>16777216))=false:=by
   simp only [D8K,D8r];omega
  unfold R1;simp only [D8a,if_true,D8N,D8d,hk,D8m,hc,C85 x.Bc t x.W (by omega),hv]
 ·refine (B3s _).2 ⟨g1,g2,ht, ?_,fun p hp=> ?_, ?_⟩
  ·show ((B1c x.Bc t x.W).length:Int)<=x.Cap;have:(B1c x.Bc t x.W).length<=x.Bc.length:=List.length_filter_le _ _;omega
  ·have hp' :=List.mem_filter.1 hp;have a:=g5 p hp'.1;have b:=hp'.2;unfold F9 at b;simp only [D8i,D8c] at b;have e:A1 (t-x.W)=t-x.W:=by rw [C4]<;>omega
   rw [e] at b;exact ⟨a.1,b.2,b.1.2,a.2.2.2⟩
  ·exact g6.filter _
 ·unfold B1c;refine List.filter_congr fun p hp=> ?_;have a:=g5 p hp;unfold F9 Q2;have hpt:H4 p.T=true:=(C0P _).2 (by omega)
  rw [ht,hpt];have w1:decide (x.W>=1)=true:=by rw [D8c];omega
  have w2:decide (x.W<=1048576)=true:=by rw [D8c];omega
  simp [w1,w2]
end Go.Win
set_option maxHeartbeats 4000000
namespace Go.Win
open Go.Vc Go.Dec
theorem A4G {α:Type} [Inhabited α] {n:Nat} {a:α} {i:Nat} (h:i<n):el (List.replicate n a) i=a:=by
 rw [L8 (by rw [D9b];exact h),List.getElem_replicate]
theorem D5a:wv ⟨0,0⟩=0:=rfl
theorem B9f {c:B7} {now:Int} (hc:A3w c) (hn:0<=now/\now<=16777216):A19 (B14 c now):=by
 have hc' :=hc;unfold A3w at hc';refine ⟨hc, ?_, ?_⟩
 ·have:c.Bj=1\/c.Bj=2\/c.Bj=3\/c.Bj=4\/c.Bj=5\/c.Bj=6\/c.Bj=7\/c.Bj=8\/c.Bj=9\/c.Bj=10\/c.Bj=11:=by omega
  unfold A9Z B14;have no: ∀ {α:Type} {p:Nat->Prop},∀i,i<([]:List α).length->p i:=fun i h=>absurd h (Nat.not_lt_zero i);have bk0: ∀ {k:Int},1<=k/\k<=128->A7W [] k:=fun h=>⟨h,no,fun h=>absurd h (Nat.not_lt_zero 0)⟩;have mk0: ∀ {a b d e:Int},A4Q [] 0 a b d e:=⟨by omega,no,fun h=>absurd h (Nat.not_lt_zero 0)⟩
  have w0:A1 (U9 [])=0:=rfl;rcases this with h|h|h|h|h|h|h|h|h|h|h<;>simp only [h,Int.reduceEq,if_true,if_false,false_and,false_or,or_false,true_and,and_true]
  ·rw [B3s];refine ⟨by (try dsimp only);omega,by (try dsimp only);omega,(A9l _).2 hn, ?_,fun p hp=>(by cases hp),List.Pairwise.nil⟩
   show (0:Int)<=c.Cap;omega
  ·exact ⟨⟨by (try dsimp only);omega,by (try dsimp only);omega,hn,by (try dsimp only);omega⟩,bk0 (by (try dsimp only);omega),by (try dsimp only);rw [w0];omega,no⟩
  ·exact ⟨⟨⟨by (try dsimp only);omega,by (try dsimp only);omega,hn,by (try dsimp only);omega⟩,bk0 (by (try dsimp only);omega),by (try dsimp only);rw [w0];omega,no⟩,by (try dsimp only);omega⟩
  ·exact ⟨by (try dsimp only);omega,⟨by (try dsimp only);omega,by (try dsimp only);omega,hn,by (try dsimp only);omega⟩,mk0,no⟩
  ·exact ⟨⟨by (try dsimp only);omega,by (try dsimp only);omega,hn,by (try dsimp only);omega⟩,mk0,fun i _ h=>absurd h (Nat.not_lt_zero i)⟩
  ·refine ⟨⟨by (try dsimp only);omega,hn,by (try dsimp only);omega,by (try dsimp only);rw [D9b];omega⟩,fun i h1 h2=> ?_⟩
   have h2' :(i:Int)<=c.P:=h2;simp only [];rw [A4G (by (try dsimp only);omega),A4G (by (try dsimp only);omega),D5a]
   omega
  ·refine ⟨⟨⟨by (try dsimp only);rw [D9b];omega,hn⟩,fun i hi=> ?_⟩,by (try dsimp only);rw [D9b];omega⟩
   simp only [D9b] at hi;simp only [];rw [A4G hi];omega
  ·exact ⟨⟨⟨by (try dsimp only);omega,by (try dsimp only);omega,hn⟩,by show (0:Int)<=c.Cap;omega⟩,no⟩
  ·have h0:0<c.Ao.toNat:=by omega
   rw [A4G h0,D9b];refine ⟨?_,by omega,rfl,rfl⟩
   unfold B8r Q0;have e:(decide (((⟨List.replicate c.Ao.toNat ⟨c.W,c.Cap,0,0, []⟩⟩:E7).Ao.length:Int)<1)||decide (((⟨List.replicate c.Ao.toNat ⟨c.W,c.Cap,0,0, []⟩⟩:E7).Ao.length:Int)>16))=false:=by
    simp only [D9b];simp;omega
   rw [e,D8d];unfold A6Q;refine (R6 (f:=fun s:Int=>Y6 ⟨List.replicate c.Ao.toNat ⟨c.W,c.Cap,0,0, []⟩⟩ s) c.Ao.toNat (fun _=>False) 2 (some 0) (fun i hi _=>⟨fun h=>h.elim,fun _=> ?_⟩) (fun _=> ?_)).2 fun _ _ h=>h
   ·unfold Y6;have ec:N6 ⟨c.W,c.Cap,0,0, []⟩=some 0:=by
     unfold N6;have:(((((((decide (c.W<(1:Int)))||(decide (c.W>(1048576:Int))))||(decide (c.Cap<(1:Int))))||(decide (c.Cap>(64:Int))))||(decide ((0:Int)<(0:Int))))||(decide ((0:Int)>(1099511627776:Int))))||(decide ((([]:List G1).length:Int)>c.Cap)))=false:=by
      rw [D8q];simp only [D8l,D8c,Ne,D8G];omega
     simp only [this,D8d]
     rfl
    have h16:c.Ao.toNat<=16:=by omega
    have es:A1 ((i:Int)+1)=((i+1:Nat):Int):=by rw [C4]<;>omega
    have e1:B9 (List.replicate c.Ao.toNat (⟨c.W,c.Cap,0,0, []⟩:B5)) (i:Int)=some ⟨c.W,c.Cap,0,0, []⟩:=by rw [J5 (by rw [D9b];exact hi),A4G hi]
    have e0:B9 (List.replicate c.Ao.toNat (⟨c.W,c.Cap,0,0, []⟩:B5)) (0:Int)=some ⟨c.W,c.Cap,0,0, []⟩:=by rw [B0x (by rw [D9b];exact h0),A4G h0]
    have e2:decide ((i:Int)<((List.replicate c.Ao.toNat (⟨c.W,c.Cap,0,0, []⟩:B5)).length:Int))=true:=D8f (by rw [D9b];omega)
    simp only [e2,D8e,e0,e1,D8a,ec,D8N,Bool.or_false,D8d,es]
   ·unfold Y6;have e2:decide ((c.Ao.toNat:Int)<((List.replicate c.Ao.toNat (⟨c.W,c.Cap,0,0, []⟩:B5)).length:Int))=false:=D8h (by rw [D9b];omega)
    simp only [e2,D8d]
  ·exact ⟨⟨by (try dsimp only);omega,by (try dsimp only);omega,by show (0:Int)<=0/\(0:Int)<=1099511627776;omega,by show (0:Int)<=c.Cap;omega⟩,⟨fun _=>rfl,fun _=>rfl⟩,no,fun h=>absurd h (Nat.not_lt_zero 0)⟩
  ·refine ⟨⟨by (try dsimp only);omega,by (try dsimp only);omega,hn,by (try dsimp only);omega⟩,fun b hb=> ?_,by show A1 (U9 [])<=c.Cap;rw [w0];omega,no⟩
   obtain ⟨b',_,b2,b3⟩:=A9g (k:=c.K) (c:=c.Cap) (by (try dsimp only);omega) (by (try dsimp only);omega)
   have hb' :A5m c.K c.Cap=some b:=hb;rw [b2] at hb';cases hb';exact ⟨b3,bk0 (by (try dsimp only);omega),no⟩
 ·unfold B0F B14;refine ⟨?_, ?_, ?_, ?_, ?_, ?_, ?_, ?_, ?_, ?_, ?_⟩
  all_goals
   intro h;simp only [] at h;rw [if_neg h]
  ·exact ⟨rfl,rfl,rfl,rfl⟩
  ·exact ⟨rfl,rfl,rfl,rfl,rfl⟩
  ·exact ⟨rfl,rfl,rfl,rfl,rfl,rfl⟩
  ·exact ⟨rfl,rfl,rfl,rfl,rfl,rfl,rfl⟩
  ·exact ⟨rfl,rfl,rfl,rfl,rfl,rfl⟩
  ·exact ⟨rfl,rfl,rfl,rfl⟩
  ·exact ⟨rfl,rfl⟩
  ·exact ⟨rfl,rfl,rfl,rfl,rfl⟩
  ·exact rfl
  ·exact ⟨rfl,rfl,rfl,rfl⟩
  ·exact ⟨rfl,rfl,rfl,rfl,rfl⟩
end Go.Win
set_option maxHeartbeats 4000000
namespace Go.Win
open Go.Vc Go.Dec
def B4k:E3:=⟨⟨⟨0,0⟩,⟨0,0⟩,⟨0,0⟩⟩, [],⟨⟨0,0⟩,⟨0,0⟩⟩⟩
end Go.Win
set_option maxHeartbeats 4000000
namespace Go.Win
open Go.Vc Go.Dec
def A7P {β:Type} (lv:β->Int) (X:List β) (j:Int):Nat:=X.countP fun x=>lv x==j
theorem C5b {β:Type} (lv:β->Int) (X Y:List β) (j:Int):A7P lv (X++Y) j=A7P lv X j+A7P lv Y j:=List.countP_append
theorem C3y {β:Type} {lv:β->Int} {X:List β} {j:Int} (h:∀x∈X,lv x≠j):A7P lv X j=0:=by
 unfold A7P;rw [List.countP_eq_zero];intro x hx;rw [D84];exact h x hx
structure CI {β:Type} (lv tm:β->Int) (Q:Int->Prop) (k l:Int) (X:List β):Prop where
 le: ∀j:Int,0<=j->(A7P lv X j:Int)<=k+1+(if j=l then 1 else 0)
 ge: ∀x∈X,∀j:Int,0<=j->j<lv x->k<=(A7P lv X j:Int)
 srt:X.Pairwise (fun a b=>tm a<=tm b)
 all: ∀x∈X,Q (tm x)
theorem D0s {β:Type} {lv tm:β->Int} {Q:Int->Prop} {k:Int} {P X:List β} (hs:(P++X).Pairwise (fun a b=>lv b<=lv a)) (h:CI lv tm Q k (-1) (P++X)):CI lv tm Q k (-1) X:=by
 obtain ⟨_,_,p3⟩:=List.pairwise_append.1 hs;refine ⟨fun j hj=> ?_,fun x hx j hj hjx=> ?_,(List.pairwise_append.1 h.srt).2.1,fun x hx=>h.all x (by simp [hx])⟩
 ·have:=h.le j hj;rw [C5b] at this;omega
 ·have:=h.ge x (by simp [hx]) j hj hjx
  rw [C5b,C3y (X:=P) (fun y hy=>by have:=p3 y hy x hx;omega)] at this
  omega
theorem C0q (l:List A3) (j:Nat):F0 l j l.length=(A7P (fun b:A3=>b.Bd) l (j:Int):Int):=by
 unfold F0 A7P;rw [List.take_length]
def C9Y (t:Int):Prop:=0<=t/\t<=16777216
theorem A6x {l:List A3} {k:Int} (h:A7W l k):CI (fun b:A3=>b.Bd) (fun b=>b.T) C9Y k (-1) l/\l.Pairwise (fun a b=>b.Bd<=a.Bd)/\ ∀x∈l,0<=x.Bd/\x.Bd<=30:=by
 obtain ⟨hk,hb,hL⟩:=h;have rng: ∀i,i<l.length->(0<=(el l i).T/\(el l i).T<=16777216/\0<=(el l i).Bd/\(el l i).Bd<=30)/\(0<i->(el l (i-1)).T<=(el l i).T/\(el l i).Bd<=(el l (i-1)).Bd):=fun i hi=>by
  have:=hb i hi;unfold A8D at this;constructor
  ·have:=fun x=>this (.inl x);omega
  ·intro h0;have:=fun x=>this (.inr ⟨h0,x⟩);omega
 have mono: ∀d i,i+d<l.length->(el l i).T<=(el l (i+d)).T/\(el l (i+d)).Bd<=(el l i).Bd:=by
  intro d
  induction d with
  |zero=>intro i _;exact ⟨Int.le_refl _,Int.le_refl _⟩
  |succ d ih=>
   intro i hi;have a:=ih i (by omega)
   have b:=(rng (i+d+1) (by omega)).2 (by omega)
   rw [D8R] at b;rw [show i+(d+1)=i+d+1 by omega]
   omega
 have pw:l.Pairwise (fun a b=>a.T<=b.T/\b.Bd<=a.Bd):=by
  rw [List.pairwise_iff_getElem];intro i j hi hj hij;have:=mono (j-i) i (by omega)
  rw [show i+(j-i)=j by omega,L8 hi,L8 hj] at this
  exact this
 have top: ∀x∈l,0<l.length/\x.Bd<=(el l 0).Bd:=fun x hx=>by
  obtain ⟨i,hi,rfl⟩:=A2l hx;have:=(mono i 0 (by omega)).2
  rw [Nat.zero_add] at this;exact ⟨by omega,this⟩
 refine ⟨⟨fun j hj=> ?_,fun x hx j hj hjx=> ?_,pw.imp fun h=>h.1,fun x hx=> ?_⟩,pw.imp fun h=>h.2,fun x hx=> ?_⟩
 ·rw [if_neg (by omega)]
  by_cases hz:A7P (fun b:A3=>b.Bd) l j=0
  ·rw [hz];omega
  ·have h0:0<l.length/\j<=(el l 0).Bd:=by
    apply D85;intro hn;refine hz (C3y fun x hx e=>hn ?_);have:=top x hx;exact ⟨this.1,by omega⟩
   have:=hL h0.1 j.toNat (by omega)
   unfold B48 at this;have e:=C0q l j.toNat;rw [show ((j.toNat:Nat):Int)=j by omega] at e
   rw [e] at this;have:=fun x=>this (.inl x);omega
 ·have t:=top x hx;have:=hL t.1 j.toNat (by omega)
  unfold B48 at this;have e:=C0q l j.toNat;rw [show ((j.toNat:Nat):Int)=j by omega] at e
  rw [e] at this;have:=fun y=>this (.inr y);omega
 ·obtain ⟨i,hi,rfl⟩:=A2l hx;have:=(rng i hi).1;exact ⟨this.1,this.2.1⟩
 ·obtain ⟨i,hi,rfl⟩:=A2l hx;have:=(rng i hi).1;exact ⟨this.2.2.1,this.2.2.2⟩
theorem D2V {l:List A3} {k:Int} (hk:1<=k/\k<=128) (h:CI (fun b:A3=>b.Bd) (fun b=>b.T) C9Y k (-1) l) (hs:l.Pairwise (fun a b=>b.Bd<=a.Bd)) (hl:∀x∈l,0<=x.Bd/\x.Bd<=30):A7W l k:=by
 refine ⟨hk,fun i hi hb=> ?_,fun h0 j hj hb=> ?_⟩
 ·unfold A8D at hb;have a:=h.all _ (O4 hi);unfold C9Y at a;have b:=hl _ (O4 hi);rcases hb with hb|⟨h0,hb⟩
  ·omega
  ·have p1:=List.pairwise_iff_getElem.1 h.srt (i-1) i (by omega) hi (by omega)
   have p2:=List.pairwise_iff_getElem.1 hs (i-1) i (by omega) hi (by omega)
   rw [<-L8,<-L8] at p1 p2;omega
 ·unfold B48 at hb;rw [C0q] at hb;have a:=h.le (j:Int) (by omega)
  rw [if_neg (by omega)] at a
  have b:=h.ge _ (O4 h0) (j:Int) (by omega)
  omega
end Go.Win
set_option maxHeartbeats 4000000
namespace Go.Win
open Go.Vc Go.Dec
section
variable {β:Type} (lv:β->Int)
end
theorem D5D {α:Type} {p:Prop} [Decidable p] {x:Option α} (h:p):ck (decide p) x=x:=by rw [D8f h];rfl
end Go.Win
set_option maxHeartbeats 4000000
namespace Go.Win
open Go.Vc Go.Dec
theorem A85 {n:Int} (t:Int) (h:0<=n/\n<=16777216):(R1 n t).2=B2W n t:=by
 have ht:A3L n=true:=by
  show A66 n=true;unfold A66;simp only [D8i,D8c];omega
 unfold R1 B2W;simp only [ht,D8m,D8d];cases (decide (t<n)||decide (t>16777216))<;>rfl
theorem C0v (n w:Int):A2S n w=P4 n w:=by
 unfold A2S P4 Q2 H4;have e:A3L n=(decide (n>=0)&&decide (n<=16777216)):=rfl;simp only [e];have:((!(decide (n>=0)&&decide (n<=16777216))||decide (w<1))||decide (w>1048576))=(!(decide (n>=0)&&decide (n<=16777216))|| !(decide (w>=1)&&decide (w<=1048576))):=by
  by_cases h1:w<1
  ·simp [h1,show¬w>=1 by omega]
  ·by_cases h2:w>1048576
   ·simp [h2,show¬w<=1048576 by omega]
   ·simp [h1,h2,show w>=1 by omega,show w<=1048576 by omega]
 rw [this]
theorem B4G {α R:Type} {f:List α->Option (List α⊕R)} (p:α->Bool) (A:List α->Option R)
  (hs:∀x l,p x=true->f (x::l)=some (.inl l)) (hd:∀x l,p x=false->f (x::l)=Option.map Sum.inr (A (x::l))) (hn:f []=Option.map Sum.inr (A [])):
  ∀l,loop f l=A (l.dropWhile p)
 | []=>by
  rw [A4P,hn];show _=A [];cases A []<;>rfl
 |x::l=>by
  cases h:p x with
  |true=>rw [M1 (hs x l h),B4G p A hs hd hn l,List.dropWhile_cons,h];rfl
  |false=>
   rw [A4P,hd x l h,List.dropWhile_cons,h];show _=A (x::l);cases A (x::l)<;>rfl
theorem B0w {α:Type} {p:α->Bool} {l:List α} {x:α} (h:x∈l.dropWhile p):x∈l:=(List.dropWhile_sublist p).subset h
theorem A8R {α:Type} (p:α->Bool) (l:List α):(l.dropWhile p).length<=l.length:=(List.dropWhile_sublist p).length_le
theorem A8U {α:Type} (x:α) (l:List α):B9 (x::l) 0=some x:=rfl
theorem B3r {α:Type} (x:α) (l:List α):decide (((x::l).length:Int)>0)=true:=by rw [D8c,D8t];omega
theorem C5k {l:List A3} (hl:l.length<=1048576) (f:Int):A1d l f=some (l.dropWhile fun x=>decide (x.T<f)):=by
 have hd:=A8R (fun x:A3=>decide (x.T<f)) l
 ·unfold A1d A7L;rw [B4G (fun x:A3=>decide (x.T<f)) (fun v=>ck (decide ((([]:List A3).length+v.length)*16<=140737488355328)) (some v))]
  ·rw [K7 (by rw [D8c,D8G];omega)]
  ·intro x l h;unfold A1D;rw [B3r,H7,A8U,D8a,h,Bool.and_self,D8e,K7 (by rw [D8c,D8t];omega)]
   rfl
  ·intro x l h;unfold A1D;rw [B3r,H7,A8U,D8a,h,Bool.and_false,D8d,List.nil_append]
  ·unfold A1D
   rfl
theorem D2o {l:List B1} (hl:l.length<=1048576) (f:Int):A3z l f=some (l.dropWhile fun x=>decide (x.T<f)):=by
 have hd:=A8R (fun x:B1=>decide (x.T<f)) l
 ·unfold A3z A8E;rw [B4G (fun x:B1=>decide (x.T<f)) (fun v=>ck (decide ((([]:List B1).length+v.length)*56<=140737488355328)) (some v))]
  ·rw [K7 (by rw [D8c,D8G];omega)]
  ·intro x l h;unfold A2h;rw [B3r,H7,A8U,D8a,h,Bool.and_self,D8e,K7 (by rw [D8c,D8t];omega)]
   rfl
  ·intro x l h;unfold A2h;rw [B3r,H7,A8U,D8a,h,Bool.and_false,D8d,List.nil_append]
  ·unfold A2h
   rfl
noncomputable def A3Q (n w:Int):List A6->List A6
 | []=> []
 | [x]=>if F9 n w x.T then [x] else []
 |x::y::l=>if F9 n w y.T then x::y::l else A3Q n w (y::l)
theorem B7Z (n w:Int): ∀l,(A3Q n w l).length<=l.length
 | []=>D8S _
 | [x]=>by unfold A3Q;split<;>simp
 |x::y::l=>by
  unfold A3Q;split
  ·exact D8S _
  ·have:=B7Z n w (y::l);rw [D8t];omega
theorem B8l (n w:Int): ∀ {l:List A6},l.length<=1048576->A1k n w l=some (A3Q n w l)
 | [],_=>by
  unfold A1k;exact M5 rfl
 | [x],_=>by
  have i1:gd (decide (((([x]:List A6).length:Nat):Int)>1)) (B9 [x] 1)=some default:=rfl;have i2:(((([x]:List A6).length:Nat):Int)==1)=true:=rfl;have i3:decide (((([x]:List A6).length:Nat):Int)>1)=false:=rfl;unfold A1k A3Q;refine M5 ?_;unfold A2k;rw [i1,D8a,i2,H7,A8U];simp only [i3,D8F,D8d,D8L,D8a,A10];cases F9 n w x.T<;>rfl
 |x::y::l,hl=>by
  have g:decide (((x::y::l).length:Int)>1)=true:=by rw [D8c,D8t,D8t];omega
  have g2:(((x::y::l).length:Int)==1)=false:=by rw [D80,D8t,D8t];omega
  have i1:B9 (x::y::l) 1=some y:=rfl;have hk:decide (0<=(1:Int)/\(1:Int)<=((x::y::l).length:Int))=true:=by rw [D8c,D8t];omega
  have r1:=B8l n w (l:=y::l) (by rw [D8t] at hl;omega)
  unfold A1k at r1⊢;unfold A3Q;cases h:F9 n w y.T with
  |true=>
   refine M5 ?_;unfold A2k;rw [g,H7,i1,D8a,g2,L6];simp only [A10,h,D8m,Bool.and_false,D8d,D8a,D8F,List.nil_append];rw [K7 (by rw [D8c,D8G];omega)]
   rfl
  |false=>
   rw [if_neg (by decide),<-r1]
   refine M1 ?_;unfold A2k;rw [g,H7,i1,D8a];simp only [A10,h,D8n,Bool.and_self,D8e];rw [K7 hk]
   rfl
instance {l:List A3} {f:Int}:TS (A1d l f) (l.length<=1048576) (fun r=>r.length<=1048576):=⟨fun h=>by
 unfold A1d A7L;refine yL (fun v=>v.length<=1048576) (fun v=>v.length) h fun v hv=> ?_;unfold A1D;exact yT⟩
instance {l:List A6} {a b:Int}:TS (A18 l a b) (l.length<=1048576) (fun r=>r.length<=1048576):=⟨fun h=>by
 unfold A18 A1k;refine yL (fun v=>v.length<=1048576) (fun v=>v.length) h fun v hv=> ?_;unfold A2k;exact yT⟩
instance {l:List B1} {a:Int}:TS (A3z l a) (l.length<=1048576) (fun r=>r.length<=1048576/\ ∀b∈r,b∈l):=⟨fun h=>by
 unfold A3z A8E;refine yL (fun v=>v.length<=1048576/\ ∀b∈v,b∈l) (fun v=>v.length) ⟨h,fun _ h=>h⟩ fun v hv=> ?_;have hd: ∀b∈v.drop (1:Int).toNat,b∈l:=fun b hb=>hv.2 b (List.mem_of_mem_drop hb);unfold A2h;exact yT⟩
instance {x:C2} {t:Int} {v:List A8}:TS (A3T x t v) (v.length<=1048576) (fun r=>r.1.Bc.length<=1048576):=⟨fun h=>by
 unfold A3T;refine yL (fun v=>v.length<=1048576) (fun v=>v.length) h fun v hv=> ?_;unfold A3l;exact yT⟩
theorem D2z {a:Int} {b:Nat} (h:0<=a):A4M a (b:Int)=((min a.toNat b:Nat):Int):=by
 show (if (b:Int)<a then (b:Int) else a)=_
 split<;>omega
def A9H (l:List Int) (d:Nat):List Int:=List.replicate (min d l.length) 0++l.take (l.length-min d l.length)
theorem B8n (l:List Int) (d:Nat):(A9H l d).length=l.length:=by
 unfold A9H;rw [D8g,D9b,D8C];omega
theorem D00 (l:List Int) (d j:Nat) (hj:j<l.length):(A9H l d)[j]? =some (if d<=j then l.getD (j-d) 0 else 0):=by
 unfold A9H
 by_cases h:d<=j
 ·rw [if_pos h,D8A (by rw [D9b];omega),D9b,show min d l.length=d by omega,List.getElem?_take_of_lt (by omega),D8o (by omega)]
  rw [D86,D8o (by omega)]
  rfl
 ·rw [if_neg h,D8z (by rw [D9b];omega),List.getElem?_replicate,if_pos (by omega)]
end Go.Win
set_option maxHeartbeats 4000000
namespace Go.Win
open Go.Vc Go.Dec
theorem D3d (b:A3):A8A b<=1073741824:=by
 unfold A8A
 by_cases h:0<=b.Bd/\b.Bd<=30
 ·rw [if_pos h];exact C9A (by omega)
 ·rw [if_neg h];decide
theorem D4Y (l:List A3):U9 l<=l.length*1073741824:=by
 induction l with
 |nil=>simp [C6B]
 |cons b l ih=>
  have:=D3d b;rw [B1X,D8t]
  push_cast
  omega
theorem C3d {l:List A3} (hl:l.length<=1048576):A1 (U9 l)=U9 l:=by
 have h1:=C3c l;have h2:=D4Y l;rw [C4]<;>omega
theorem D6O {k:Int} {l:List A3} {n v s:Int} (hk:1<=k/\k<=128) (hs:0<=s/\s<=n) (hn:n<=l.length) (hl:l.length<=1048577):
  T (A2A k l n v s) fun r=>match r with
   | .inl r=>r.1.length+1<=l.length/\0<=r.2.1/\r.2.1<=r.1.length
   | .inr r=>r=l:=by
 unfold A2A;refine yL (fun s=>0<=s/\s<=n) (fun s=>s.toNat) hs fun s hs=> ?_;have h1:=T2 s (by omega)
 have h2:A1 (n-s)=n-s/\A1 (k+2)=k+2:=by constructor<;>(rw [C4]<;>omega)
 unfold A4C;simp only [h1,h2];exact yT
instance {k:Int} {l:List A3} {t:Int}:TS (V3 l k t) ((1<=k/\k<=128)/\l.length<=1048576) (fun r=>r.length<=l.length+1):=⟨fun ⟨hk,hl⟩=>by
 unfold V3;refine yK (by simp;omega) ?_
 unfold A5a;have hn:(l++ [(⟨t,0⟩:A3)]).length=l.length+1:=by simp
 generalize l++ [(⟨t,0⟩:A3)]=L at hn
 refine yL (fun s=>s.1.length<=l.length+1/\0<=s.2.1/\s.2.1<=s.1.length) (fun s=>s.1.length) ⟨by show L.length<=_;omega,by simp,by simp⟩ fun s ⟨h1,h2,h3⟩=> ?_
 unfold A4B;refine yM (D6O hk ⟨h2,Int.le_refl _⟩ h3 (by omega)) fun r h=> ?_
 cases r with
 |inl r=>dsimp only at h⊢;omega
 |inr r=>dsimp only at h⊢;rw [h];exact h1⟩
instance {k t n:Int} {l:List A3}:TS (A4A k t n l) ((1<=k/\k<=128)/\0<=n/\n<=1024/\l.length+n<=1048576) (fun r=>r.length<=l.length+n.toNat):=⟨fun ⟨hk,h0,h1,h2⟩=>by
 unfold A4A;refine yL (fun s=>0<=s.1/\s.1<=n/\s.2.length+s.1.toNat<=l.length+n.toNat) (fun s=>s.1.toNat) ⟨h0,Int.le_refl _,D8S _⟩ fun s hs=> ?_;have e:=T2 s.1 (by omega)
 unfold A75;simp only [e];exact yT⟩
instance {l:List A3}:TS (L7 l) (l.length<=maxLen) (fun r=>r=A1 (U9 l)):=⟨fun h=>⟨_,by rw [B3n,B1i _ h],rfl⟩⟩
instance {l:List A3} {k:Int}:TS (U6 l k) (l.length<=maxLen) (fun r=>r=G3 (A7W l k)):=⟨fun h=>⟨_,A8l l k h,rfl⟩⟩
theorem C99 (x:E4) (hl:x.Ad.length+1<=1048576):T (A3O x) fun r=>r.1.Ad.length<=x.Ad.length+1:=by
 have hm:x.Ad.length<=maxLen:=G8 (by omega)
 unfold A3O;rw [A20 x hm]
 by_cases hv:A3c x.Ad x.W x.K x.Cap x.Now
 ·have hk:1<=x.K/\x.K<=128:=hv.2.1.1;unfold A2X A34;exact yT
 ·rw [J7 hv];exact yT
theorem D30 (x:F3) (v:Int) (hl:x.Ad.length+1024<=1048576):T (B3u x v) fun r=>r.1.Ad.length<=x.Ad.length+1024:=by
 have hm:x.Ad.length<=maxLen:=G8 (by omega)
 unfold B3u;rw [A96 x hm]
 by_cases hv:B9l x
 ·have hk:1<=x.K/\x.K<=128:=hv.1.2.1.1;unfold A6t A34;exact yT
 ·rw [J7 hv];exact yT
end Go.Win
