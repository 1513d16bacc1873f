/- Plain laws of the functions on plain data. -/
import Derived.Test.YtmipeaidieflmaaGreatVc
import Derived.Test.YtmipeaidieflmaaGreatWin
set_option linter.unusedVariables false
set_option linter.unusedSimpArgs false
set_option linter.unnecessarySimpa false
set_option linter.unusedSectionVars false
namespace Go.Win
open Go.Vc Go.Dec
theorem D5 {n:Int} (h1:-9223372036854775808<=n) (h2:n<=9223372036854775807):A3 n=n:=by
 show IntKind.i64.wrap n=n;rw [IntKind.wrap_i64];omega
theorem B18 (n:Int):A3 n=(n+9223372036854775808)%18446744073709551616-9223372036854775808:=by
 show IntKind.i64.wrap n=_;rw [IntKind.wrap_i64]
theorem A2x (n:Int):F3 n=n%18446744073709551616:=by
 show IntKind.u64.wrap n=_;rw [IntKind.wrap_u64]
theorem A24 {R:Type} {f:Int->Option (Int⊕R)} {n:Nat} {bad:Nat->Bool} {E:R} {A:Option R}
  (hs:∀i:Nat,i<n->f i=cond (bad i) (some (.inr E)) (some (.inl ((i:Int)+1)))) (hd:f n=Option.map Sum.inr A):
  loop f 0=cond ((List.range n).any bad) (some E) A:=by
 have key: ∀k i:Nat,i+k=n->loop f i=cond ((List.range' i k).any bad) (some E) A:=by
  intro k
  induction k with
  |zero=>
   intro i hi;have hi:i=n:=by omega
   subst hi;rw [A4F,hd];cases A<;>rfl
  |succ k ih=>
   intro i hi;rw [A4F,hs i (by omega),List.range'_succ,List.any_cons]
   cases hb:bad i with
   |true=>rfl
   |false=>
    have:=ih (i+1) (by omega)
    simpa using this
 have:=key n 0 (by omega)
 rw [<-List.range_eq_range'] at this;exact this
theorem B3b {n:Nat} {p:Nat->Bool}:(List.range n).any p=true↔ ∃i,i<n/\p i=true:=by
 simp [List.any_eq_true]
theorem N2:maxLen=9223372036854775807:=rfl
end Go.Win
namespace Go.Win
open Go.Vc Go.Dec
def el {α:Type} [Inhabited α] (l:List α) (i:Nat):α:=l.getD i default
theorem A8L {α:Type} [Inhabited α] {l:List α} {i:Nat} (h:i<l.length):l[i]? =some (el l i):=by
 unfold el;rw [D2i h];simp [List.getD,D2i h]
theorem B85 {α:Type} [Inhabited α] {l:List α} {i:Nat} (h:i<l.length):el l i=l[i]:=by
 have:=A8L h;rw [D2i h] at this;exact (D2N this).symm
theorem I5 {α:Type} [Inhabited α] {l:List α} {i:Nat} (h:i<l.length):E4 l (i:Int)=some (el l i):=by
 rw [A0Y,A8L h]
theorem B1b {α:Type} [Inhabited α] {l:List α} (h:0<l.length):E4 l (0:Int)=some (el l 0):=I5 h
theorem A7U {α:Type} [Inhabited α] {l:List α} {i:Nat} (h:i<l.length):el l i∈l:=by
 rw [B85 h];exact D2T h
theorem C7z {α:Type} [Inhabited α] {l:List α} {x:α} (h:x∈l): ∃i,i<l.length/\el l i=x:=by
 obtain ⟨i,hi,e⟩:=List.getElem_of_mem h;exact ⟨i,hi,by rw [B85 hi];exact e⟩
theorem A10 {i n:Nat} (h0:0<i) (h:i<=n) (hm:n<=maxLen):A3 ((i:Int)-1)=((i-1:Nat):Int):=by
 rw [N2] at hm;rw [D5]<;>omega
theorem Q9 {i n:Nat} (h:i<n) (hm:n<=maxLen):A3 ((i:Int)+1)=((i+1:Nat):Int):=by
 rw [N2] at hm;rw [D5]<;>omega
theorem A2s {S R:Type} {f:S->Option (S⊕R)} (st:Nat->S) (a n:Nat) (han:a<=n) (bad:Nat->Prop) (E:R) (A:Option R)
  (hs:∀i,a<=i->i<n->(∀j,a<=j->j<i-> ¬bad j)->(bad i->f (st i)=some (.inr E))/\(¬bad i->f (st i)=some (.inl (st (i+1)))))
  (hd:(∀j,a<=j->j<n-> ¬bad j)->f (st n)=Option.map Sum.inr A):
  ((∃i,a<=i/\i<n/\bad i)->loop f (st a)=some E)/\((∀i,a<=i->i<n-> ¬bad i)->loop f (st a)=A):=by
 have key: ∀k i:Nat,a<=i->i+k=n->(∀j,a<=j->j<i-> ¬bad j)->
   ((∃j,i<=j/\j<n/\bad j)->loop f (st i)=some E)/\((∀j,i<=j->j<n-> ¬bad j)->loop f (st i)=A):=by
  intro k
  induction k with
  |zero=>
   intro i hai hi hb;have hi:i=n:=by omega
   subst hi;refine ⟨fun ⟨j,h1,h2,_⟩=>by omega,fun _=> ?_⟩
   rw [A4F,hd hb];cases A<;>rfl
  |succ k ih=>
   intro i hai hi hb;obtain ⟨h1,h2⟩:=hs i hai (by omega) hb
   by_cases hbi:bad i
   ·refine ⟨fun _=>L4 (h1 hbi),fun h=>absurd hbi (h i (D2M _) (by omega))⟩
   ·obtain ⟨g1,g2⟩:=ih (i+1) (by omega) (by omega) (fun j h3 h4=>by
     by_cases e:j=i
     ·subst e;exact hbi
     ·exact hb j h3 (by omega))
    rw [U8 (h2 hbi)];refine ⟨fun ⟨j,h3,h4,h5⟩=>g1 ⟨j, ?_,h4,h5⟩,fun h=>g2 fun j h3 h4=>h j (by omega) h4⟩
    by_cases e:j=i
    ·subst e;exact absurd h5 hbi
    ·omega
 exact key (n-a) a (D2M _) (by omega) (fun j _ _=>by omega)
theorem M0 {R:Type} {f:Int->Option (Int⊕R)} (n:Nat) (bad:Nat->Prop) (E:R) (A:Option R)
  (hs:∀i:Nat,i<n->(∀j,j<i-> ¬bad j)->(bad i->f (i:Int)=some (.inr E))/\(¬bad i->f (i:Int)=some (.inl ((i+1:Nat):Int))))
  (hd:(∀j,j<n-> ¬bad j)->f (n:Int)=Option.map Sum.inr A):
  ((∃i,i<n/\bad i)->loop f 0=some E)/\((∀i,i<n-> ¬bad i)->loop f 0=A):=by
 have:=A2s (f:=f) (fun i=>(i:Int)) 0 n (Nat.zero_le _) bad E A (fun i _ h2 h3=>hs i h2 fun j h4=>h3 j (Nat.zero_le _) h4) (fun h=>hd fun j h4=>h j (Nat.zero_le _) h4);exact ⟨fun ⟨i,h1,h2⟩=>this.1 ⟨i,Nat.zero_le _,h1,h2⟩,fun h=>this.2 fun i _ h1=>h i h1⟩
theorem C8v {α:Type} (b:Bool) (x y:α):cond b x y=if b=true then x else y:=by cases b<;>rfl
open Classical in
noncomputable def vOf (p:Prop):Int:=if p then 0 else 2
theorem Q3 {p:Prop} (h:p):vOf p=0:=by unfold vOf;rw [if_pos h]
theorem I7 {p:Prop} (h:¬p):vOf p=2:=by unfold vOf;rw [if_neg h]
theorem C5H {p:Prop}:(vOf p !=0)=true↔ ¬p:=by
 unfold vOf;split<;>simp_all
open Classical in
noncomputable def S1 (p:Prop):Bool:=if p then true else false
theorem O9 {p:Prop} (h:p):S1 p=true:=by unfold S1;rw [if_pos h]
theorem K8 {p:Prop} (h:¬p):S1 p=false:=by unfold S1;rw [if_neg h]
theorem J2 {p:Prop}:S1 p=true↔p:=by
 unfold S1;split<;>simp_all
end Go.Win
namespace Go.Win
open Go.Vc Go.Dec
theorem L1 {α:Type} {b:Bool} {bad:Prop} {X Y:α} (h:b=true↔bad):(bad->cond b X Y=X)/\(¬bad->cond b X Y=Y):=by
 cases b with
 |true=>exact ⟨fun _=>rfl,fun hn=>absurd (h.1 rfl) hn⟩
 |false=>exact ⟨fun hb=>absurd (h.2 hb) (by decide),fun _=>rfl⟩
theorem A2C {α:Type} (a b:Bool) (x y:α):cond a x (cond b x y)=cond (a||b) x y:=by cases a<;>rfl
def E8 (l:List A9) (j i:Nat):Int:=(((l.take i).countP fun b=>b.Aw==(j:Int)):Nat)
theorem C2W (l:List A9) (j:Nat):E8 l j 0=0:=by simp [E8]
theorem C2V {l:List A9} {i:Nat} (h:i<l.length) (j:Nat):E8 l j (i+1)=E8 l j i+(if (el l i).Aw=(j:Int) then 1 else 0):=by
 unfold E8;rw [List.take_add_one,A8L h,Option.toList_some,List.countP_append,List.countP_singleton];split<;>simp_all
theorem D0S (l:List A9) (j i:Nat):0<=E8 l j i:=by unfold E8;omega
theorem D0R (l:List A9) (j i:Nat):E8 l j i<=i:=by
 have:(l.take i).countP (fun b=>b.Aw==(j:Int))<=(l.take i).length:=List.countP_le_length;rw [D2w] at this;unfold E8;omega
def A3v (l:List A9) (i:Nat):Prop:= ¬(0<=(el l i).T/\(el l i).T<=16777216/\0<=(el l i).Aw/\(el l i).Aw<=30)\/(0<i/\((el l (i-1)).T>(el l i).T\/(el l (i-1)).Aw<(el l i).Aw))
def B1i (l:List A9) (k:Int) (j:Nat):Prop:=E8 l j l.length>k+1\/((j:Int)<(el l 0).Aw/\E8 l j l.length<k)
def A9R (l:List A9) (k:Int):Prop:=(1<=k/\k<=128)/\(∀i,i<l.length-> ¬A3v l i)/\(0<l.length-> ∀j:Nat,(j:Int)<=(el l 0).Aw-> ¬B1i l k j)
theorem C9X (l:List A9) (i:Nat): [E8 l 0 i,E8 l 1 i,E8 l 2 i,E8 l 3 i,E8 l 4 i,E8 l 5 i,E8 l 6 i,E8 l 7 i,E8 l 8 i,E8 l 9 i,E8 l 10 i,E8 l 11 i,E8 l 12 i,E8 l 13 i,E8 l 14 i,E8 l 15 i,E8 l 16 i,E8 l 17 i,E8 l 18 i,E8 l 19 i,E8 l 20 i,E8 l 21 i,E8 l 22 i,E8 l 23 i,E8 l 24 i,E8 l 25 i,E8 l 26 i,E8 l 27 i,E8 l 28 i,E8 l 29 i,E8 l 30 i]=(List.range 31).map fun j=>E8 l j i:=rfl
theorem B99 (l:List A9) (i:Nat) {L:Int} (h0:0<=L) (h1:L<=30):E4 [E8 l 0 i,E8 l 1 i,E8 l 2 i,E8 l 3 i,E8 l 4 i,E8 l 5 i,E8 l 6 i,E8 l 7 i,E8 l 8 i,E8 l 9 i,E8 l 10 i,E8 l 11 i,E8 l 12 i,E8 l 13 i,E8 l 14 i,E8 l 15 i,E8 l 16 i,E8 l 17 i,E8 l 18 i,E8 l 19 i,E8 l 20 i,E8 l 21 i,E8 l 22 i,E8 l 23 i,E8 l 24 i,E8 l 25 i,E8 l 26 i,E8 l 27 i,E8 l 28 i,E8 l 29 i,E8 l 30 i] L=some (E8 l L.toNat i):=by
 rw [C9X];have:E4 ((List.range 31).map fun j=>E8 l j i) ((L.toNat:Nat):Int)=some (E8 l L.toNat i):=by
  rw [A0Y,D2D,List.getElem?_range (by omega)]
  rfl
 rw [<-this]
 congr 1
 omega
theorem C2U {l:List A9} {i:Nat} (h:i<l.length) (hl:l.length<=maxLen) (h0:0<=(el l i).Aw) (j:Nat):
  (if (el l i).Aw.toNat=j then A3 (E8 l (el l i).Aw.toNat i+1) else E8 l j i)=E8 l j (i+1):=by
 rw [C2V h];have h1:=D0S l j i;have h2:=D0R l j i;rw [N2] at hl
 by_cases e:(el l i).Aw.toNat=j
 ·rw [if_pos e,e,if_pos (by omega),D5]<;>omega
 ·rw [if_neg e,if_neg (by omega)];omega
def stB (l:List A9) (i:Nat):Int×Int×Int×Int×Int×Int×Int×Int×Int×Int×Int×Int×Int×Int×Int×Int×Int×Int×Int×Int×Int×Int×Int×Int×Int×Int×Int×Int×Int×Int×Int×Int:=((i:Int),E8 l 0 i,E8 l 1 i,E8 l 2 i,E8 l 3 i,E8 l 4 i,E8 l 5 i,E8 l 6 i,E8 l 7 i,E8 l 8 i,E8 l 9 i,E8 l 10 i,E8 l 11 i,E8 l 12 i,E8 l 13 i,E8 l 14 i,E8 l 15 i,E8 l 16 i,E8 l 17 i,E8 l 18 i,E8 l 19 i,E8 l 20 i,E8 l 21 i,E8 l 22 i,E8 l 23 i,E8 l 24 i,E8 l 25 i,E8 l 26 i,E8 l 27 i,E8 l 28 i,E8 l 29 i,E8 l 30 i)
theorem B9U (l:List A9) (k:Int) (hk:1<=k/\k<=128) (h0:0<l.length) (hL:0<=(el l 0).Aw/\(el l 0).Aw<=30) (i:Nat) (hi:i=l.length):
  A3c k (E8 l 0 i) (E8 l 1 i) (E8 l 2 i) (E8 l 3 i) (E8 l 4 i) (E8 l 5 i) (E8 l 6 i) (E8 l 7 i) (E8 l 8 i) (E8 l 9 i) (E8 l 10 i) (E8 l 11 i) (E8 l 12 i) (E8 l 13 i) (E8 l 14 i) (E8 l 15 i) (E8 l 16 i) (E8 l 17 i) (E8 l 18 i) (E8 l 19 i) (E8 l 20 i) (E8 l 21 i) (E8 l 22 i) (E8 l 23 i) (E8 l 24 i) (E8 l 25 i) (E8 l 26 i) (E8 l 27 i) (E8 l 28 i) (E8 l 29 i) (E8 l 30 i) (el l 0) 0=some (S1 (∀j:Nat,(j:Int)<=(el l 0).Aw-> ¬B1i l k j)):=by
 unfold A3c;have H:=M0 (f:=fun s:Int=>A2B k (E8 l 0 i) (E8 l 1 i) (E8 l 2 i) (E8 l 3 i) (E8 l 4 i) (E8 l 5 i) (E8 l 6 i) (E8 l 7 i) (E8 l 8 i) (E8 l 9 i) (E8 l 10 i) (E8 l 11 i) (E8 l 12 i) (E8 l 13 i) (E8 l 14 i) (E8 l 15 i) (E8 l 16 i) (E8 l 17 i) (E8 l 18 i) (E8 l 19 i) (E8 l 20 i) (E8 l 21 i) (E8 l 22 i) (E8 l 23 i) (E8 l 24 i) (E8 l 25 i) (E8 l 26 i) (E8 l 27 i) (E8 l 28 i) (E8 l 29 i) (E8 l 30 i) (el l 0) s) ((el l 0).Aw.toNat+1) (B1i l k) false (some true)
  (fun j hj _=>by
   unfold A2B;have e1:decide ((j:Int)<=(el l 0).Aw)=true:=D19 (by omega)
   have e2:A3 (k+1)=k+1:=by rw [D5]<;>omega
   have e3:A3 ((j:Int)+1)=((j+1:Nat):Int):=by rw [D5]<;>omega
   rw [e1,D18,B99 l i (by omega) (by omega),D14]
   simp only [D14,e2,e3,D2K]
   by_cases g1:E8 l j i>k+1
   ·simp only [g1,decide_true,D2g,D2z,G6,D14,D2O,D18];exact ⟨fun _=>trivial,fun hn=>absurd (.inl (hi▸g1)) hn⟩
   ·simp only [g1,decide_false,D2h,D2F,D2v]
    by_cases g2:(j:Int)<(el l 0).Aw
    ·simp only [g2,decide_true,G8,D14,D2F];refine L1 ?_;unfold B1i;rw [D16,<-hi];omega
    ·simp only [g2,decide_false,G6,D14,D2z,D17];refine ⟨fun hb=> ?_,fun _=>trivial⟩;unfold B1i at hb;rw [<-hi] at hb;omega)
  (fun _=>by
   unfold A2B;rw [D2b (by omega),D17])
 by_cases hb: ∃j:Nat,j<(el l 0).Aw.toNat+1/\B1i l k j
 ·rw [H.1 hb,K8];intro hn;obtain ⟨j,h1,h2⟩:=hb;exact hn j (by omega) h2
 ·rw [H.2 fun j h1 h2=>hb ⟨j,h1,h2⟩,O9];intro j h1 h2;exact hb ⟨j,by omega,h2⟩
theorem A9G (l:List A9) (k:Int) (hl:l.length<=maxLen):A2n l k=some (S1 (A9R l k)):=by
 unfold A2n
 by_cases hk:1<=k/\k<=128
 ·have e:(decide (k<(1:Int))||decide (k>(128:Int)))=false:=by simp;omega
  rw [e,D17];unfold B1k;have H: ∀R,((∃i,0<=i/\i<l.length/\A3v l i)->R=some false)/\((∀i,0<=i->i<l.length-> ¬A3v l i)->R=(if 0<l.length then A3c k (E8 l 0 l.length) (E8 l 1 l.length) (E8 l 2 l.length) (E8 l 3 l.length) (E8 l 4 l.length) (E8 l 5 l.length) (E8 l 6 l.length) (E8 l 7 l.length) (E8 l 8 l.length) (E8 l 9 l.length) (E8 l 10 l.length) (E8 l 11 l.length) (E8 l 12 l.length) (E8 l 13 l.length) (E8 l 14 l.length) (E8 l 15 l.length) (E8 l 16 l.length) (E8 l 17 l.length) (E8 l 18 l.length) (E8 l 19 l.length) (E8 l 20 l.length) (E8 l 21 l.length) (E8 l 22 l.length) (E8 l 23 l.length) (E8 l 24 l.length) (E8 l 25 l.length) (E8 l 26 l.length) (E8 l 27 l.length) (E8 l 28 l.length) (E8 l 29 l.length) (E8 l 30 l.length) (el l 0) 0 else some true))->R=some (S1 (A9R l k)):=by
   intro R hR
   by_cases hb: ∃i,0<=i/\i<l.length/\A3v l i
   ·rw [hR.1 hb,K8];intro hn;obtain ⟨i,_,h1,h2⟩:=hb;exact hn.2.1 i h1 h2
   ·have hg: ∀i,0<=i->i<l.length-> ¬A3v l i:=fun i h1 h2 h3=>hb ⟨i,h1,h2,h3⟩;rw [hR.2 hg]
    by_cases h0:0<l.length
    ·have h1:=hg 0 (D2M _) h0;unfold A3v at h1;rw [if_pos h0,B9U l k hk h0 (by omega) l.length rfl]
     congr 1
     rw [D2p,J2,J2];exact ⟨fun h2=>⟨hk,fun i hi=>hg i (Nat.zero_le _) hi,fun _=>h2⟩,fun h2=>h2.2.2 h0⟩
    ·rw [if_neg h0,O9];exact ⟨hk,fun i hi=>hg i (Nat.zero_le _) hi,fun h=>absurd h h0⟩
  apply H;refine A2s (stB l) 0 l.length (Nat.zero_le _) (A3v l) false _ (fun i _ hi _=> ?_) (fun hg=> ?_)
  ·simp only [stB];unfold A6t;rw [D19 (by omega),D18,I5 hi,D14]
   simp only []
   by_cases hr:0<=(el l i).T/\(el l i).T<=16777216/\0<=(el l i).Aw/\(el l i).Aw<=30
   ·have e1:(!A3x (el l i).T|| !A08 (el l i).Aw)=false:=by
     unfold A3x A08;simp;omega
    rw [e1,D17,B99 l i hr.2.2.1 hr.2.2.2];simp only [D14,C2U hi hl hr.2.2.1,Q9 hi hl];rcases i with _|i
    ·simp only [D2x,gt_iff_lt,Int.natCast_zero,decide_false,G6,D14,D2z,D17];refine ⟨fun hb=> ?_,fun _=>trivial⟩;unfold A3v at hb;omega
    ·have e2:decide (((i+1:Nat):Int)>0)=true:=D19 (by omega)
     rw [e2,A10 (by omega) (Nat.le_of_lt hi) hl,D2L,I5 (by omega)]
     simp only [G8,D14,D2F]
     by_cases g1:(el l i).T>(el l (i+1)).T
     ·simp only [g1,decide_true,D2g,G6,D14,D2O,D18];exact ⟨fun _=>trivial,fun hn=>absurd (.inr ⟨by omega, .inl (by rw [D2L];exact g1)⟩) hn⟩
     ·simp only [g1,decide_false,D2h,G8,D14,D2v];refine L1 ?_;unfold A3v;rw [D16,D2L];omega
   ·have e1:(!A3x (el l i).T|| !A08 (el l i).Aw)=true:=by
     unfold A3x A08;rw [D2p];simp;omega
    rw [e1,D18];exact ⟨fun _=>rfl,fun hn=>absurd (.inl hr) hn⟩
  ·simp only [stB];unfold A6t;rw [D2b (D2x _),D17]
   congr 1
   by_cases h0:0<l.length
   ·have e1:((l.length:Int)==0)=false:=by rw [D2U];omega
    rw [e1,D17,if_pos h0,B1b h0,D14]
   ·have e1:((l.length:Int)==0)=true:=by
     have:l.length=0:=by omega
     rw [this];rfl
    rw [e1,D18,if_neg h0]
 ·have e:(decide (k<(1:Int))||decide (k>(128:Int)))=true:=by
   rw [D2p];simp;omega
  rw [e,D18,K8];exact fun h=>hk h.1
def A7k (l:List A9) (i:Nat):List Int:=(List.range 31).map fun j=>E8 l j i
theorem C2X (l:List A9) (i:Nat) {L:Int} (h0:0<=L) (h1:L<=30):E4 (A7k l i) L=some (E8 l L.toNat i):=B99 l i h0 h1
theorem B8h (l:List A9) (i:Nat):(A7k l i).length=31:=by simp [A7k]
theorem C7g {l:List A9} {i:Nat} (h:i<l.length) (hl:l.length<=maxLen) (h0:0<=(el l i).Aw) (h1:(el l i).Aw<=30):
  (A7k l i).set (el l i).Aw.toNat (A3 (E8 l (el l i).Aw.toNat i+1))=A7k l (i+1):=by
 apply List.ext_getElem?;intro j;rw [List.getElem?_set,B8h];unfold A7k
 by_cases hj:j<31
 ·rw [D2D,D2D,List.getElem?_range hj];have:=C2U h hl h0 j;simp only [Option.map_some];rw [<-this];split<;>simp_all
 ·have:(el l i).Aw.toNat≠j:=by omega
  rw [if_neg this,D21 (by simp;omega),D21 (by simp;omega)]
theorem C6G (l:List A9) (k:Int) (hk:1<=k/\k<=128) (hg:∀i,i<l.length-> ¬A3v l i):
  A5W l k (A7k l l.length) 0=some (S1 (0<l.length-> ∀j:Nat,(j:Int)<=(el l 0).Aw-> ¬B1i l k j)):=by
 unfold A5W;have hup: ∀i,i<l.length->(el l i).Aw<=(el l 0).Aw:=by
  intro i
  induction i with
  |zero=>intro _;exact Int.le_refl _
  |succ i ih=>
   intro hi;have h1:=hg (i+1) hi;unfold A3v at h1;rw [D2L] at h1;have:=ih (by omega)
   omega
 have hz:0<l.length-> ∀j:Nat,(el l 0).Aw<(j:Int)->E8 l j l.length=0:=by
  intro _ j hj;have: ∀i,i<=l.length->E8 l j i=0:=by
   intro i
   induction i with
   |zero=>intro _;exact C2W l j
   |succ i ih=>
    intro hi;rw [C2V (by omega),ih (by omega),if_neg]
    ·rfl
    ·have:=hup i (by omega);omega
  exact this _ (D2M _)
 have H:=M0 (f:=fun s:Int=>A48 l k (A7k l l.length) s) 31 (fun j=>0<l.length/\B1i l k j) false (some true)
  (fun j hj _=>by
   unfold A48;have e2:A3 (k+1)=k+1:=by rw [D5]<;>omega
   have e3:A3 ((j:Int)+1)=((j+1:Nat):Int):=by rw [D5]<;>omega
   have e4:((A7k l l.length).length:Int)=31:=by rw [B8h];rfl
   rw [e4,D19 (by omega),D18,C2X l _ (by omega) (by omega),D14]
   simp only [e2,e3,D2K]
   by_cases h0:0<l.length
   ·rw [D19 (by omega:(l.length:Int)>0),B1b h0]
    simp only [G8,D14,D2F];refine L1 ?_;unfold B1i;simp only [D2f,D2c,D16];omega
   ·rw [D2b (by omega: ¬(l.length:Int)>0)]
    simp only [G6,D14,D2z,D17];exact ⟨fun hb=>absurd hb.1 h0,fun _=>trivial⟩)
  (fun _=>by
   unfold A48;have e4:((A7k l l.length).length:Int)=31:=by rw [B8h];rfl
   rw [e4,D2b (by omega),D17])
 by_cases hb: ∃j:Nat,j<31/\(0<l.length/\B1i l k j)
 ·rw [H.1 hb,K8];intro hn;obtain ⟨j,h1,h2,h3⟩:=hb
  by_cases h4:(j:Int)<=(el l 0).Aw
  ·exact hn h2 j h4 h3
  ·have:=hz h2 j (by omega)
   unfold B1i at h3;omega
 ·rw [H.2 fun j h1 h2=>hb ⟨j,h1,h2⟩,O9];intro h0 j h1 h2;have:=hg 0 h0;unfold A3v at this;exact hb ⟨j,by omega,h0,h2⟩
theorem B7y (l:List A9) (k:Int) (hl:l.length<=maxLen):A6P l k=some (S1 (A9R l k)):=by
 unfold A6P
 by_cases hk:1<=k/\k<=128
 ·have e:A5V k=true:=by unfold A5V;simp;omega
  simp only [e,D2g,D17];have e2:(decide (0<=(31:Int)/\(31:Int)<=(31:Int)/\(31:Int)*8<=140737488355328/\(31:Int)<=140737488355328))=true:=by decide
  rw [e2,A0Q];unfold B3S;have H: ∀R,((∃i,0<=i/\i<l.length/\A3v l i)->R=some false)/\((∀i,0<=i->i<l.length-> ¬A3v l i)->R=A5W l k (A7k l l.length) 0)->R=some (S1 (A9R l k)):=by
   intro R hR
   by_cases hb: ∃i,0<=i/\i<l.length/\A3v l i
   ·rw [hR.1 hb,K8];intro hn;obtain ⟨i,_,h1,h2⟩:=hb;exact hn.2.1 i h1 h2
   ·have hg: ∀i,0<=i->i<l.length-> ¬A3v l i:=fun i h1 h2 h3=>hb ⟨i,h1,h2,h3⟩;rw [hR.2 hg,C6G l k hk fun i hi=>hg i (Nat.zero_le _) hi]
    congr 1
    rw [D2p,J2,J2];exact ⟨fun h2=>⟨hk,fun i hi=>hg i (Nat.zero_le _) hi,h2⟩,fun h2=>h2.2.2⟩
  apply H;have e0:(List.replicate ((31:Int)).toNat (0:Int),(0:Int))=(fun i:Nat=>(A7k l i,(i:Int))) 0:=by
   have:List.replicate ((31:Int)).toNat (0:Int)=A7k l 0:=by
    unfold A7k;simp only [C2W]
    rfl
   rw [this];rfl
  rw [e0];refine A2s (fun i:Nat=>(A7k l i,(i:Int))) 0 l.length (Nat.zero_le _) (A3v l) false _ (fun i _ hi _=> ?_) (fun hg=> ?_)
  ·simp only [];unfold A76;rw [D19 (by omega),D18,I5 hi,D14]
   simp only []
   by_cases hr:0<=(el l i).T/\(el l i).T<=16777216/\0<=(el l i).Aw/\(el l i).Aw<=30
   ·have e1:((!J9 (el l i).T||decide ((el l i).Aw<0))||decide ((el l i).Aw>30))=false:=by
     unfold J9;simp;omega
    rw [e1,C2X l i hr.2.2.1 hr.2.2.2];simp only [D14,C7g hi hl hr.2.2.1 hr.2.2.2,Q9 hi hl,D2h,D2F,D2v];rcases i with _|i
    ·simp only [D2x,gt_iff_lt,Int.natCast_zero,decide_false,G6,D14,D2z,D17];refine ⟨fun hb=> ?_,fun _=>trivial⟩;unfold A3v at hb;omega
    ·have e2:decide (((i+1:Nat):Int)>0)=true:=D19 (by omega)
     rw [e2,A10 (by omega) (Nat.le_of_lt hi) hl,D2L,I5 (by omega)]
     simp only [G8,D14,D2F]
     by_cases g1:(el l i).T>(el l (i+1)).T
     ·simp only [g1,decide_true,D2g,G6,D14,D2O,D18];exact ⟨fun _=>trivial,fun hn=>absurd (.inr ⟨by omega, .inl (by rw [D2L];exact g1)⟩) hn⟩
     ·simp only [g1,decide_false,D2h,G8,D14,D2v];refine L1 ?_;unfold A3v;rw [D16,D2L];omega
   ·have e1:((!J9 (el l i).T||decide ((el l i).Aw<0))||decide ((el l i).Aw>30))=true:=by
     unfold J9;rw [D2p];simp;omega
    rw [e1];simp only [D2g,D2z,G6,D14,D2O,D18];exact ⟨fun _=>trivial,fun hn=>absurd (.inl hr) hn⟩
  ·simp only [];unfold A76;rw [D2b (by omega),D17]
 ·have e:A5V k=false:=by unfold A5V;simp;omega
  simp only [e,D2h,D18];rw [K8];exact fun h=>hk h.1
end Go.Win
namespace Go.Win
open Go.Vc Go.Dec
theorem C9m:B2Z=A6O:=rfl
theorem C9n:B1V=J6:=rfl
theorem C92 (a b c:Int):A9c a b c=M2 a b c:=by
 unfold A9c M2 Z9 J9;rw [D2p];simp only [D2c,D16];omega
theorem B1d (n w t:Int):A0z n w t=G9 n w t:=by
 unfold A0z B2W G9 J9 Z9;have e:B0G=B0I:=rfl;rw [e];unfold B0I
 by_cases h1:n>=0/\n<=16777216
 ·by_cases h2:w>=1/\w<=1048576
  ·have c:(((!(decide (n>=0)&&decide (n<=16777216)))||decide (w<1))||decide (w>1048576))=false:=by
    simp only [D2E,Bool.not_eq_false',D2c,D16,D2l];omega
   simp only [c,D17];have e1:A3 (n-w)=n-w:=by rw [D5]<;>omega
   have e2:A3 (n-w+1)=n-w+1:=by rw [D5]<;>omega
   rw [e1,e2,D2p];simp only [D2c,D16,B8m];split<;>omega
  ·have c:(((!(decide (n>=0)&&decide (n<=16777216)))||decide (w<1))||decide (w>1048576))=true:=by
    simp only [D2f,D2q,D2V,D16,D2l];omega
   have d:(decide (w>=1)&&decide (w<=1048576))=false:=by
    simp only [D2V,D2l];omega
   simp only [c,d,D18,Bool.and_false,D2z]
   rfl
 ·have c:(((!(decide (n>=0)&&decide (n<=16777216)))||decide (w<1))||decide (w>1048576))=true:=by
   simp only [D2f,D2q,D2V,D16,D2l];omega
  have d:(decide (n>=0)&&decide (n<=16777216))=false:=by
   simp only [D2V,D2l];omega
  simp only [c,d,D18,D2z]
  rfl
def C53 (l:List D7) (now:Int) (i:Nat):Bool:=match l[i]? with
 |none=>false
 |some p=>(decide (p.T<0)||decide (p.T>now))||(decide (0<i)&&match l[i-1]? with
  |some q=>decide (q.T>p.T)
  |none=>false)
noncomputable def B9H (l:List D7) (now:Int):Bool:=J9 now&& !(List.range l.length).any (C53 l now)
theorem B4K {i:Nat} (h:0<i) (hm:i<=maxLen):A3 ((i:Int)-1)=((i-1:Nat):Int):=by
 rw [N2] at hm;rw [D5]<;>omega
theorem A1e {i n:Nat} (h:i<n) (hm:n<=maxLen):A3 ((i:Int)+1)=(i:Int)+1:=by
 rw [N2] at hm;rw [D5]<;>omega
theorem R4 {α:Type} {l:List α} {i:Nat} (h:i<l.length):l[i]? =some l[i]:=D2i h
theorem C6P (l:List D7) (now:Int) (hl:l.length<=maxLen):A6O l now=some (B9H l now):=by
 unfold A6O B9H;cases ht:J9 now with
 |false=>rfl
 |true=>
  have h:A8S l now 0=cond ((List.range l.length).any (C53 l now)) (some false) (some true):=by
   unfold A8S;refine A24 (fun i hi=> ?_) ?_
   ·have hs:=A1e hi hl;unfold A75 C53;simp only [Int.ofNat_lt,hi,decide_true,D18,A0Y,R4 hi,D14,hs]
    by_cases h0:0<i
    ·have hp:=B4K h0 (Nat.le_trans (Nat.le_of_lt hi) hl);have h3:((i:Int)>0):=by omega
     simp only [hp,A0Y,R4 (show i-1<l.length by omega),h3,h0,decide_true,D2F,Bool.and_true]
     cases (decide (l[i].T<0)||decide (l[i].T>now))<;>simp
    ·have h3: ¬((i:Int)>0):=by omega
     simp only [h3,h0,decide_false,G6,D14,D2z,Bool.and_false,Bool.or_false]
   ·unfold A75;simp
  simp only [D2g,D17,h];cases (List.range l.length).any (C53 l now)<;>rfl
theorem B9f (l:List D7) (hl:l.length<=maxLen):Z8 l l=some true:=by
 have h:A2K l l 0=cond ((List.range l.length).any fun _=>false) (some false) (some true):=by
  unfold A2K;refine A24 (fun i hi=> ?_) ?_
  ·unfold A11;simp [hi,A1e hi hl]
  ·unfold A11;simp
 have hf:((List.range l.length).any fun _=>false)=false:=by simp
 rw [hf] at h;unfold Z8;simp [h]
theorem B9z (x:E9) (hl:x.Av.length<=maxLen):A5U x x=some true:=by
 unfold A5U;simp [B9f x.Av hl]
theorem C37 (x:E9):A2J x=Y6 x:=by
 have e:A4M=A0I:=by
  funext x i
  unfold A4M A0I;simp only [B1d,C9n]
 unfold A2J Y6 A9t A3h;rw [e,C92,C9m]
noncomputable def okV (x:E9):Bool:=(M2 x.W x.Cap x.Now&&decide ((x.Av.length:Int)<=x.Cap))&&(B9H x.Av x.Now&&x.Av.all fun p=>G9 x.Now x.W p.T&&J6 p.V)
theorem C9Q {α:Type} {l:List α} {p:α->Bool}:(List.range l.length).any (fun i=>match l[i]? with
  |some x=> !p x
  |none=>false)= !l.all p:=by
 rw [D2p,B3b];constructor
 ·rintro ⟨i,hi,h⟩;rw [R4 hi] at h;simp only [D2q] at h⊢;rw [List.all_eq_false];exact ⟨l[i],D2T hi,by simp [h]⟩
 ·intro h;simp only [D2q] at h;rw [List.all_eq_false] at h;obtain ⟨x,hx,hp⟩:=h;obtain ⟨i,hi,rfl⟩:=List.mem_iff_getElem.1 hx;refine ⟨i,hi, ?_⟩;rw [R4 hi];simpa using hp
theorem C0K (x:E9) (hl:x.Av.length<=maxLen):Y6 x=some (if okV x then 0 else 2):=by
 have h:A3h x 0=cond (!(x.Av.all fun p=>G9 x.Now x.W p.T&&J6 p.V)) (some 2) (some 0):=by
  rw [<-C9Q];unfold A3h;refine A24 (fun i hi=> ?_) ?_
  ·unfold A0I;simp only [Int.ofNat_lt,hi,decide_true,D18,A0Y,R4 hi,D14,A1e hi hl,Bool.not_and]
  ·unfold A0I;simp
 unfold Y6 okV;rw [C6P x.Av x.Now hl,h];have hd:decide ((x.Av.length:Int)>x.Cap)= !decide ((x.Av.length:Int)<=x.Cap):=by
  rw [D2p];simp
 rw [hd];cases M2 x.W x.Cap x.Now<;>cases decide ((x.Av.length:Int)<=x.Cap)<;>cases B9H x.Av x.Now<;>cases (x.Av.all fun p=>G9 x.Now x.W p.T&&J6 p.V)<;>rfl
end Go.Win
namespace Go.Win
open Go.Vc Go.Dec
theorem D0t (a b:Int):A3 (A3 a+b)=A3 (a+b):=by
 rw [B18,B18,B18];omega
theorem A9E (t:Int):J9 t=true↔0<=t/\t<=16777216:=by unfold J9;simp
theorem A01 (w c n:Int):M2 w c n=true↔(1<=w/\w<=1048576)/\(1<=c/\c<=65536)/\(0<=n/\n<=16777216):=by
 unfold M2 Z9 J9;simp;omega
theorem Z5 (k:Int):L6 k=true↔1<=k/\k<=64:=by unfold L6;simp
theorem A2Y (v:Int):J6 v=true↔ -4096<=v/\v<=4096:=by unfold J6;simp
theorem C8H: ∀n:Fin 31,R5 .i64 1 (F3 (n.1:Int))=2^n.1:=by decide+kernel
theorem B9e {L:Int} (h0:0<=L) (h1:L<=30):R5 .i64 1 (F3 L)=2^L.toNat:=by
 have:=C8H ⟨L.toNat,by omega⟩
 simp only [] at this;rw [<-this]
 congr 2
 omega
def C2e (b:A9):Int:=if 0<=b.Aw/\b.Aw<=30 then 2^b.Aw.toNat else 0
def A2m (l:List A9):Int:=(l.map C2e).sum
theorem C9h:A2m []=0:=rfl
theorem C75 (b:A9) (l:List A9):A2m (b::l)=C2e b+A2m l:=by simp [A2m]
theorem C42 (a b:List A9):A2m (a++b)=A2m a+A2m b:=by simp [A2m]
theorem C76 {l:List A9} {i:Nat} (h:i<l.length):A2m (l.take (i+1))=A2m (l.take i)+C2e (el l i):=by
 rw [List.take_add_one,A8L h,Option.toList_some,C42,C75,C9h];omega
theorem A6Q (l:List A9) (hl:l.length<=maxLen):A4H l=some (A3 (A2m l)):=by
 unfold A4H B3R;have H:=A2s (f:=fun s:Int×Int=>A47 l s.1 s.2) (fun i=>(A3 (A2m (l.take i)),(i:Int))) 0 l.length (Nat.zero_le _) (fun _=>False) 0 (some (A3 (A2m l)))
  (fun i _ hi _=>by
   refine ⟨fun h=>h.elim,fun _=> ?_⟩;simp only [];unfold A47;rw [D19 (by omega:(i:Int)<(l.length:Int)),D18,I5 hi,D14,Q9 hi hl,C76 hi]
   unfold C2e
   by_cases h:0<=(el l i).Aw/\(el l i).Aw<=30
   ·rw [D19 h.1,D19 h.2,if_pos h,B9e h.1 h.2,D0t];have:decide (0<=F3 (el l i).Aw)=true:=D19 (by rw [A2x];omega)
    rw [this];rfl
   ·have e:(decide ((el l i).Aw>=0)&&decide ((el l i).Aw<=30))=false:=by
     rw [D2k];simpa using h
    rw [e,if_neg h,D17,Int.add_zero])
  (fun _=>by
   simp only [];unfold A47;rw [D2b (D2x _),D17,List.take_length])
 exact H.2 (fun _ _ _ h=>h)
theorem B4S:A4q=A4H:=rfl
def B1P (l:List A9) (W K Cap Now:Int):Prop:=
 ((1<=W/\W<=1048576)/\(1<=Cap/\Cap<=65536)/\(0<=Now/\Now<=16777216)/\(1<=K/\K<=64))/\A9R l K/\A3 (A2m l)<=Cap/\ ∀i,i<l.length->G9 Now W (el l i).T=true
theorem B9u (l:List A9) (W K Cap Now:Int) (hl:l.length<=maxLen):A77 l W K Cap Now=some (S1 (B1P l W K Cap Now)):=by
 unfold A77;simp only []
 by_cases h1:(1<=W/\W<=1048576)/\(1<=Cap/\Cap<=65536)/\(0<=Now/\Now<=16777216)/\(1<=K/\K<=64)
 ·have e1:M2 W Cap Now=true:=(A01 _ _ _).2 ⟨h1.1,h1.2.1,h1.2.2.1⟩;have e2:L6 K=true:=(Z5 _).2 h1.2.2.2;rw [e1,e2,B7y l K hl,A6Q l hl];simp only [D2g,Bool.or_false,D2h,G8,D14,D2v]
  by_cases h2:A9R l K
  ·rw [O9 h2];simp only [D2g,D2h,G8,D14,D2v]
   by_cases h3:A3 (A2m l)<=Cap
   ·rw [D2b (by omega),D17]
    unfold B5i;have H:=M0 (f:=fun s:Int=>A5X l W Now s) l.length (fun i=> ¬G9 Now W (el l i).T=true) false (some true)
     (fun i hi _=>by
      unfold A5X;rw [D19 (by omega:(i:Int)<(l.length:Int)),D18,I5 hi,D14,Q9 hi hl]
      refine L1 ?_;simp)
     (fun _=>by
      unfold A5X;rw [D2b (D2x _),D17])
    by_cases h4: ∀i,i<l.length->G9 Now W (el l i).T=true
    ·rw [H.2 fun i hi hn=>hn (h4 i hi),O9];exact ⟨h1,h2,h3,h4⟩
    ·rw [H.1,K8]
     ·exact fun h=>h4 h.2.2.2
     ·exact D2Z fun hn=>h4 fun i hi=>D2Z fun hc=>hn ⟨i,hi,hc⟩
   ·rw [D19 (by omega),D18,K8]
    exact fun h=>h3 h.2.2.1
  ·rw [K8 h2];simp only [D2g,D2h,G6,D14,D2O,D18];rw [K8];exact fun h=>h2 h.2.1
 ·have e:(!M2 W Cap Now|| !L6 K)=true:=by
   rw [D2f,D2q,D2q,D2k,D2k,Ne,Ne,A01,Z5];omega
  rw [e];simp only [D2g,G6,D14,D2O,D18];rw [K8];exact fun h=>h1 h.1
theorem C0r (x:G1) (hl:x.Ac.length<=maxLen):A5Z x=some (vOf (B1P x.Ac x.W x.K x.Cap x.Now)):=by
 unfold A5Z;rw [B9u _ _ _ _ _ hl,D14]
 by_cases h:B1P x.Ac x.W x.K x.Cap x.Now
 ·rw [O9 h,Q3 h];rfl
 ·rw [K8 h,I7 h];rfl
theorem B3F (w k c n:Int):A7T w k c n=true↔(1<=w/\w<=1048576)/\(1<=c/\c<=65536)/\(0<=n/\n<=16777216)/\(1<=k/\k<=64):=by
 unfold A7T;simp;omega
theorem C0a (x:G1) (hl:x.Ac.length<=maxLen):A5N x=some (vOf (B1P x.Ac x.W x.K x.Cap x.Now)):=by
 unfold A5N;simp only []
 by_cases h1:A7T x.W x.K x.Cap x.Now=true
 ·have h1' :=(B3F _ _ _ _).1 h1;rw [h1,A9G _ _ hl,B4S,A6Q _ hl];simp only [D2g,D2h,G8,D14,D2v]
  by_cases h2:A9R x.Ac x.K
  ·rw [O9 h2];simp only [D2g,D2h,G8,D14,D2v]
   by_cases h3:A3 (A2m x.Ac)<=x.Cap
   ·rw [D2b (by omega),D17]
    unfold B0d;have H:=M0 (f:=fun s:Int=>A2F x s) x.Ac.length (fun i=> ¬G9 x.Now x.W (el x.Ac i).T=true) 2 (some 0)
     (fun i hi _=>by
      unfold A2F;rw [D19 (by omega:(i:Int)<(x.Ac.length:Int)),D18,I5 hi,D14,Q9 hi hl]
      refine L1 ?_;simp [B1d])
     (fun _=>by
      unfold A2F;rw [D2b (D2x _),D17])
    by_cases h4: ∀i,i<x.Ac.length->G9 x.Now x.W (el x.Ac i).T=true
    ·rw [H.2 fun i hi hn=>hn (h4 i hi),Q3];exact ⟨h1',h2,h3,h4⟩
    ·rw [H.1,I7]
     ·exact fun h=>h4 h.2.2.2
     ·exact D2Z fun hn=>h4 fun i hi=>D2Z fun hc=>hn ⟨i,hi,hc⟩
   ·rw [D19 (by omega),D18,I7]
    exact fun h=>h3 h.2.2.1
  ·rw [K8 h2];simp only [D2g,D2h,G6,D14,D2O,D18];rw [I7];exact fun h=>h2 h.2.1
 ·have h1' :=fun h=>h1 ((B3F _ _ _ _).2 h);rw [Bool.not_eq_true] at h1;rw [h1];simp only [D2g,D2h,G6,D14,D2O,D18];rw [I7];exact fun h=>h1' h.1
theorem B6E (w k c m n:Int):B13 w k c m n=true↔((1<=w/\w<=1048576)/\(1<=c/\c<=65536)/\(0<=n/\n<=16777216)/\(1<=k/\k<=64))/\(1<=m/\m<=1024):=by
 unfold B13;simp;omega
def C6x (x:I0):Prop:=B1P x.Ac x.W x.K x.Cap x.Now/\(1<=x.Bj/\x.Bj<=1024)
theorem C0s (x:I0) (hl:x.Ac.length<=maxLen):A51 x=some (vOf (C6x x)):=by
 unfold A51;rw [B9u _ _ _ _ _ hl,D14];simp only [];have e:A78 x.Bj=S1 (1<=x.Bj/\x.Bj<=1024):=by
  rw [D2p,J2];unfold A78;simp
 rw [e]
 by_cases h:B1P x.Ac x.W x.K x.Cap x.Now
 ·rw [O9 h]
  by_cases h2:1<=x.Bj/\x.Bj<=1024
  ·rw [O9 h2,Q3 ⟨h,h2⟩];rfl
  ·rw [K8 h2,I7 fun h3=>h2 h3.2];rfl
 ·rw [K8 h,I7 fun h3=>h h3.1];rfl
theorem C3Y (x:I0) (hl:x.Ac.length<=maxLen):A8k x=some (vOf (C6x x)):=by
 unfold A8k;simp only []
 by_cases h1:B13 x.W x.K x.Cap x.Bj x.Now=true
 ·have h1' :=(B6E _ _ _ _ _).1 h1;rw [h1,A9G _ _ hl,B4S,A6Q _ hl];simp only [D2g,D2h,G8,D14,D2v]
  by_cases h2:A9R x.Ac x.K
  ·rw [O9 h2];simp only [D2g,D2h,G8,D14,D2v]
   by_cases h3:A3 (A2m x.Ac)<=x.Cap
   ·rw [D2b (by omega),D17]
    unfold B2O;have H:=M0 (f:=fun s:Int=>A4k x s) x.Ac.length (fun i=> ¬G9 x.Now x.W (el x.Ac i).T=true) 2 (some 0)
     (fun i hi _=>by
      unfold A4k;rw [D19 (by omega:(i:Int)<(x.Ac.length:Int)),D18,I5 hi,D14,Q9 hi hl]
      refine L1 ?_;simp [B1d])
     (fun _=>by
      unfold A4k;rw [D2b (D2x _),D17])
    by_cases h4: ∀i,i<x.Ac.length->G9 x.Now x.W (el x.Ac i).T=true
    ·rw [H.2 fun i hi hn=>hn (h4 i hi),Q3];exact ⟨⟨h1'.1,h2,h3,h4⟩,h1'.2⟩
    ·rw [H.1,I7]
     ·exact fun h=>h4 h.1.2.2.2
     ·exact D2Z fun hn=>h4 fun i hi=>D2Z fun hc=>hn ⟨i,hi,hc⟩
   ·rw [D19 (by omega),D18,I7]
    exact fun h=>h3 h.1.2.2.1
  ·rw [K8 h2];simp only [D2g,D2h,G6,D14,D2O,D18];rw [I7];exact fun h=>h2 h.1.2.1
 ·have h1' :=fun h=>h1 ((B6E _ _ _ _ _).2 h);rw [Bool.not_eq_true] at h1;rw [h1];simp only [D2g,D2h,G6,D14,D2O,D18];rw [I7];exact fun h=>h1' ⟨h.1.1,h.2⟩
theorem C5d (l:List A9) (hl:l.length<=maxLen):A4d l l=some true:=by
 unfold A4d;rw [D2H,D17];unfold A9S;refine (M0 (f:=fun s:Int=>A3H l l s) l.length (fun _=>False) false (some true) (fun i hi _=>⟨fun h=>h.elim,fun _=> ?_⟩) (fun _=> ?_)).2 fun _ _ h=>h
 ·unfold A3H;rw [D19 (by omega:(i:Int)<(l.length:Int)),D18,I5 hi]
  simp [Q9 hi hl]
 ·unfold A3H;rw [D2b (D2x _),D17]
theorem B7D (x:G1) (hl:x.Ac.length<=maxLen):A5Y x x=some true:=by
 unfold A5Y;simp [C5d _ hl]
theorem B7E (x:I0) (hl:x.Ac.length<=maxLen):A50 x x=some true:=by
 unfold A50;simp [C5d _ hl]
end Go.Win
namespace Go.Win
open Go.Vc Go.Dec
def mk1 (seq cap now:Int) (m:D0):Prop:=(1<=m.Bl/\m.Bl<=seq)/\m.N=seq-m.Bl+1/\m.N<=cap/\0<=m.T/\m.T<=now
def mk2 (lo:Int) (m:D0):Prop:=lo<=m.Bk/\m.Bk<=m.Bj/\m.Bj<=4096/\T8 m.N m.Bk m.Bj m.S m.Q=true
def mk4 (o m:D0):Prop:=o.Bl<m.Bl/\o.T<=m.T/\o.Bk<=m.Bk/\m.Bj<=o.Bj/\T8 (A3 (o.N-m.N)) o.Bk o.Bj (A3 (o.S-m.S)) (A3 (o.Q-m.Q))=true
def A71 (seq:Int) (m:D0):Prop:=m.Bl=seq/\m.Bk=m.S/\m.Bj=m.S/\m.Q=A3 (m.S*m.S)
def B21 (l:List D0) (seq cap now w lo:Int) (i:Nat):Prop:=
 mk1 seq cap now (el l i)/\mk2 lo (el l i)/\((0<i\/l.length=1)->G9 now w (el l i).T=true)/\(0<i->mk4 (el l (i-1)) (el l i))
def A5Q (l:List D0) (seq cap now w lo:Int):Prop:=
 (0<=seq/\seq<=1099511627776)/\(∀i,i<l.length->B21 l seq cap now w lo i)/\(0<l.length->A71 seq (el l (l.length-1)))
theorem Y5 {n:Nat} {p:Nat->Prop} (h:¬ ∀i,i<n->p i): ∃i,i<n/\ ¬p i:=
 D2Z fun hn=>h fun i hi=>D2Z fun hc=>hn ⟨i,hi,hc⟩
theorem C3s {seq cap now:Int} (hs:0<=seq/\seq<=1099511627776) (m:D0):
  (((((decide (m.Bl<1)||decide (m.Bl>seq))||(m.N !=A3 (A3 (seq-m.Bl)+1)))||decide (m.N>cap))||decide (m.T<0))||decide (m.T>now))=true↔ ¬mk1 seq cap now m:=by
 unfold mk1
 by_cases h:1<=m.Bl/\m.Bl<=seq
 ·have e:A3 (A3 (seq-m.Bl)+1)=seq-m.Bl+1:=by rw [D5 (n:=seq-m.Bl) (by omega) (by omega),D5]<;>omega
  simp only [e,D2f,D16,bne_iff_ne];omega
 ·simp only [D2f,D16];constructor
  ·intro _ h2;exact h h2.1
  ·intro _;omega
theorem C1n (l:List D0) (seq cap now w lo:Int) (i:Nat):B21 l seq cap now w lo (i+1)↔
  mk1 seq cap now (el l (i+1))/\mk2 lo (el l (i+1))/\G9 now w (el l (i+1)).T=true/\mk4 (el l i) (el l (i+1)):=by
 unfold B21;rw [D2L];constructor
 ·rintro ⟨h1,h2,h3,h4⟩;exact ⟨h1,h2,h3 (.inl (by omega)),h4 (by omega)⟩
 ·rintro ⟨h1,h2,h3,h4⟩;exact ⟨h1,h2,fun _=>h3,fun _=>h4⟩
theorem B7p (l:List D0) (seq cap now w lo:Int) (hl:l.length<=maxLen):A6N l seq cap now w lo=some (S1 (A5Q l seq cap now w lo)):=by
 unfold A6N
 by_cases hs:0<=seq/\seq<=1099511627776
 ·have e:(decide (seq<0)||decide (seq>1099511627776))=false:=by simp;omega
  rw [e,D17];unfold B3L;have H:=M0 (f:=fun s:Int=>A46 l seq cap now w lo s) l.length (fun i=> ¬B21 l seq cap now w lo i) false (some (S1 (0<l.length->A71 seq (el l (l.length-1)))))
   (fun i hi _=>by
    unfold A46;rw [D19 (by omega:(i:Int)<(l.length:Int)),D18,I5 hi,D14,Q9 hi hl]
    simp only [B1d]
    by_cases h1:mk1 seq cap now (el l i)
    ·have e1:=D2k.2 (fun h=>(C3s (cap:=cap) (now:=now) hs (el l i)).1 h h1);rw [e1,D17]
     by_cases h2:mk2 lo (el l i)
     ·have e2:((((decide ((el l i).Bk<lo))||(decide ((el l i).Bj>(4096:Int))))||(decide ((el l i).Bk>(el l i).Bj)))||(!(T8 (el l i).N (el l i).Bk (el l i).Bj (el l i).S (el l i).Q)))=false:=by
       have:=h2.2.2.2;unfold mk2 at h2;rw [this];simp;omega
      rw [e2,D17];rcases i with _|i
      ·have e3:(((0:Nat):Int)==0)=true:=rfl;have e4:decide (((0:Nat):Int)>0)=false:=rfl;rw [e3,e4,D18,D2v];refine L1 ?_;unfold B21;simp only [D2c,D2Y,D2q,Nat.lt_irrefl,false_or,false_implies,and_true,h1,h2,true_and];have:((l.length:Int)=1)↔l.length=1:=by omega
       rw [this,Classical.not_imp,Bool.not_eq_true]
      ·have e3:(((i+1:Nat):Int)==0)=false:=by rw [D2U];omega
       have e4:decide (((i+1:Nat):Int)>0)=true:=D19 (by omega)
       rw [e3,e4,D17,D2O,D2F,A10 (by omega) (Nat.le_of_lt hi) hl,D2L,I5 (by omega),D14]
       simp only [A2C];refine L1 ?_;rw [C1n];simp only [h1,h2,true_and,D2f,D2q,D16];unfold mk4;cases G9 now w (el l (i+1)).T with
       |false=>simp
       |true=>
        cases T8 (A3 ((el l i).N-(el l (i+1)).N)) (el l i).Bk (el l i).Bj (A3 ((el l i).S-(el l (i+1)).S)) (A3 ((el l i).Q-(el l (i+1)).Q)) with
        |false=>simp
        |true=>simp;omega
     ·have e2:((((decide ((el l i).Bk<lo))||(decide ((el l i).Bj>(4096:Int))))||(decide ((el l i).Bk>(el l i).Bj)))||(!(T8 (el l i).N (el l i).Bk (el l i).Bj (el l i).S (el l i).Q)))=true:=by
       unfold mk2 at h2;cases hf:T8 (el l i).N (el l i).Bk (el l i).Bj (el l i).S (el l i).Q with
       |false=>simp
       |true=>rw [hf] at h2;simp only [and_true] at h2;simp;omega
      rw [e2,D18];exact ⟨fun _=>rfl,fun hn=>absurd (fun h=>h2 h.2.1) hn⟩
    ·have e1:=(C3s (cap:=cap) (now:=now) hs (el l i)).2 h1;rw [e1,D18];exact ⟨fun _=>rfl,fun hn=>absurd (fun h=>h1 h.1) hn⟩)
   (fun _=>by
    unfold A46;rw [D2b (D2x _),D17]
    congr 1
    by_cases h0:0<l.length
    ·have e1:((l.length:Int)==0)=false:=by rw [D2U];omega
     rw [e1,D17,A10 h0 (D2M _) hl,I5 (by omega),D14]
     congr 1
     rw [D2p,J2];unfold A71;simp [h0,and_assoc]
    ·have e1:((l.length:Int)==0)=true:=by
      have:l.length=0:=by omega
      rw [this];rfl
     rw [e1,D18,O9];exact fun h=>absurd h h0)
  by_cases h: ∀i,i<l.length->B21 l seq cap now w lo i
  ·rw [H.2 fun i hi hn=>hn (h i hi)]
   congr 1
   rw [D2p,J2,J2];exact ⟨fun h2=>⟨hs,h,h2⟩,fun h2=>h2.2.2⟩
  ·rw [H.1 (Y5 h),K8];exact fun h2=>h h2.2.1
 ·have e:(decide (seq<0)||decide (seq>1099511627776))=true:=by rw [D2p];simp;omega
  rw [e,D18,K8];exact fun h=>hs h.1
theorem C1r (n s q lo hi:Int):A4e n s q lo hi=T8 n lo hi s q:=by
 unfold A4e T8
 rfl
theorem C8z {n lo hi s q:Int} (hn:0<=n/\n<=65536) (hlo:-4096<=lo/\lo<=4096) (hhi:-4096<=hi/\hi<=4096):
  T8 n lo hi s q=true↔n*lo<=s/\s<=n*hi/\0<=q/\q<=n*16777216/\s*s<=n*q:=by
 have b: ∀x:Int,-4096<=x->x<=4096-> -268435456<=n*x/\n*x<=268435456:=by
  intro x h1 h2;have h3:=Int.mul_le_mul_of_nonneg_left h1 hn.1;have h4:=Int.mul_le_mul_of_nonneg_left h2 hn.1;omega
 have b1:=b lo hlo.1 hlo.2;have b2:=b hi hhi.1 hhi.2;unfold T8;rw [D5 (n:=n*lo) (by omega) (by omega),D5 (n:=n*hi) (by omega) (by omega),D5 (n:=n*4096) (by omega) (by omega),D5 (n:=n*4096*4096) (by omega) (by omega)]
 simp only [D2c,D16];have e:n*4096*4096=n*16777216:=by omega
 rw [e];constructor
 ·rintro ⟨⟨⟨⟨h1,h2⟩,h3⟩,h4⟩,h5⟩;have hs:s*s<=268435456*268435456:=by
   have h6:s.natAbs*s.natAbs<=268435456*268435456:=Nat.mul_le_mul (by omega) (by omega)
   have e2:(s.natAbs:Int)*s.natAbs=s*s:=Int.natAbs_mul_self;have h7:((s.natAbs*s.natAbs:Nat):Int)=(s.natAbs:Int)*s.natAbs:=by rw [Int.natCast_mul]
   omega
  have hs0:0<=s*s:=by
   have e2:(s.natAbs:Int)*s.natAbs=s*s:=Int.natAbs_mul_self;have:=Int.mul_nonneg (a:=(s.natAbs:Int)) (b:=s.natAbs) (by omega) (by omega)
   omega
  have hq:n*q<=65536*1099511627776:=Int.mul_le_mul hn.2 (by omega) h3 (by omega)
  have hq0:0<=n*q:=Int.mul_nonneg hn.1 h3;rw [D5 (by omega) (by omega),D5 (by omega) (by omega)] at h5
  exact ⟨h1,h2,h3,h4,h5⟩
 ·rintro ⟨h1,h2,h3,h4,h5⟩;have hs0:0<=s*s:=by
   have e2:(s.natAbs:Int)*s.natAbs=s*s:=Int.natAbs_mul_self;have:=Int.mul_nonneg (a:=(s.natAbs:Int)) (b:=s.natAbs) (by omega) (by omega)
   omega
  have hq:n*q<=65536*1099511627776:=Int.mul_le_mul hn.2 (by omega) h3 (by omega)
  have hq0:0<=n*q:=Int.mul_nonneg hn.1 h3;rw [D5 (n:=s*s) (by omega) (by omega),D5 (n:=n*q) (by omega) (by omega)]
  exact ⟨⟨⟨⟨h1,h2⟩,h3⟩,h4⟩,h5⟩
theorem C1k {agg v:Int} (ha:1<=agg/\agg<=4):A0B agg v=true↔M8 agg<=v/\v<=4096:=by
 unfold A0B M8;simp only [D2c,D2f,D16,D2Y,A2Y];have:agg=1\/agg=2\/agg=3\/agg=4:=by omega
 rcases this with rfl|rfl|rfl|rfl
 ·show _↔(-4096:Int)<=v/\_;omega
 ·show _↔(0:Int)<=v/\_;omega
 ·show _↔(0:Int)<=v/\_;omega
 ·show _↔(-4096:Int)<=v/\_;omega
theorem B1O (agg:Int): -4096<=M8 agg:=by
 unfold M8;cases (agg==2||agg==3)<;>decide
theorem C8K {seq cap now agg:Int} (ha:1<=agg/\agg<=4) (hc:cap<=65536) {m:D0} (h1:mk1 seq cap now m):
  ((((((((!(A0B agg m.Bk))||(!(A0B agg m.Bj)))||(decide (m.Bk>m.Bj)))||(decide (m.S<(A3 ((IntKind.i64.wrap (0-m.N))*(4096:Int))))))||(decide (m.S>(A3 (m.N*(4096:Int))))))||(decide (m.Q<(0:Int))))||(decide (m.Q>(A3 ((A3 (m.N*(4096:Int)))*(4096:Int))))))||(!(A4e m.N m.S m.Q m.Bk m.Bj)))=true↔ ¬mk2 (M8 agg) m:=by
 unfold mk1 at h1;have hn:0<=m.N/\m.N<=65536:=by omega
 have e0:IntKind.i64.wrap (0-m.N)= -m.N:=by
  show A3 (0-m.N)=_;rw [D5]<;>omega
 rw [e0,D5 (n:= -m.N*4096) (by omega) (by omega),D5 (n:=m.N*4096) (by omega) (by omega),D5 (n:=m.N*4096*4096) (by omega) (by omega),C1r]
 simp only [D2f,D2q,D16];unfold mk2;rw [D2k,D2k,D2k,Ne,Ne,Ne,C1k ha,C1k ha];have hge:=B1O agg
 by_cases hv:M8 agg<=m.Bk/\m.Bk<=m.Bj/\m.Bj<=4096
 ·have:=C8z (s:=m.S) (q:=m.Q) hn (lo:=m.Bk) (hi:=m.Bj) (by omega) (by omega)
  rw [this];have h3:=Int.mul_le_mul_of_nonneg_left (show-4096<=m.Bk by omega) hn.1
  have h4:=Int.mul_le_mul_of_nonneg_left (show m.Bj<=4096 by omega) hn.1
  omega
 ·omega
theorem C7A {seq cap now agg:Int} (ha:1<=agg/\agg<=4) (hc:cap<=65536) {m:D0} (h1:mk1 seq cap now m):
  ((((((((!(A0B agg m.Bk))||(!(A0B agg m.Bj)))||(decide (m.Bk>m.Bj)))||(decide (m.S<(A3 ((IntKind.i64.wrap (0-m.N))*(4096:Int))))))||(decide (m.S>(A3 (m.N*(4096:Int))))))||(decide (m.Q<(0:Int))))||(decide (m.Q>(A3 ((A3 (m.N*(4096:Int)))*(4096:Int))))))||(!(A4e m.N m.S m.Q m.Bk m.Bj)))=S1 (¬mk2 (M8 agg) m):=by
 rw [D2p,J2];exact C8K ha hc h1
theorem B7z (l:List D0) (agg w cap now seq:Int) (ha:1<=agg/\agg<=4) (hc:cap<=65536) (hn:now<=16777216) (hl:l.length<=maxLen):
  A6R l agg w cap now seq=some (S1 (A5Q l seq cap now w (M8 agg))):=by
 unfold A6R
 by_cases hs:0<=seq/\seq<=1099511627776
 ·have e:(decide (seq<0)||decide (seq>1099511627776))=false:=by simp;omega
  rw [e,D17];unfold B3T;have H:=M0 (f:=fun s:Int=>A49 l agg w cap now seq s) l.length (fun i=> ¬(B21 l seq cap now w (M8 agg) i/\(i=l.length-1->A71 seq (el l i)))) false (some true)
   (fun i hi _=>by
    unfold A49;rw [D19 (by omega:(i:Int)<(l.length:Int)),D18,I5 hi,D14,Q9 hi hl]
    simp only [];have hlast:A3 ((l.length:Int)-1)=((l.length-1:Nat):Int):=A10 (by omega) (D2M _) hl
    have elast:((i:Int)==((l.length-1:Nat):Int))=decide (i=l.length-1):=by rw [D2p,D2Y,D16];omega
    rw [hlast,elast];have dlast:((((el l i).Bl !=seq||(el l i).Bk !=(el l i).S)||(el l i).Bj !=(el l i).S)||(el l i).Q !=A3 ((el l i).S*(el l i).S))=S1 (¬A71 seq (el l i)):=by
     rw [D2p,J2];unfold A71;simp only [D2f,bne_iff_ne];omega
    by_cases h1:(1<=(el l i).Bl/\(el l i).Bl<=seq)/\(el l i).N=seq-(el l i).Bl+1/\(el l i).N<=cap
    ·have e1:(((decide ((el l i).Bl<1)||decide ((el l i).Bl>seq))||((el l i).N !=A3 (A3 (seq-(el l i).Bl)+1)))||decide ((el l i).N>cap))=false:=by
      have e:A3 (A3 (seq-(el l i).Bl)+1)=seq-(el l i).Bl+1:=by rw [D5 (n:=seq-(el l i).Bl) (by omega) (by omega),D5]<;>omega
      rw [e];simp;omega
     rw [e1]
     by_cases h1' :0<=(el l i).T/\(el l i).T<=now
     ·have hm1:mk1 seq cap now (el l i):=by unfold mk1;omega
      have e2:(!J9 (el l i).T||decide ((el l i).T>now))=false:=by
       have:=(A9E (el l i).T).2 (by omega)
       rw [this];simp;omega
      rw [e2];have e3:=C7A ha hc hm1;rcases i with _|i
      ·have e4:decide (((0:Nat):Int)>0)=false:=rfl;rw [e4];rw [e3,dlast];simp only [D2h,Bool.and_false,G6,D14,D2v,Bool.or_false,D2z,D17,A2C];refine L1 ?_;have e5:(((l.length:Int)==1)=true)↔l.length=1:=by rw [D2Y];omega
       have e6:(0=l.length-1)↔l.length=1:=by omega
       rw [D2f,D2f,D2c,D2c,J2,J2,e5,D16,D2q,D2k,e6];unfold B21
       by_cases g1:mk2 (M8 agg) (el l 0)<;>by_cases g2:l.length=1<;>by_cases g3:G9 now w (el l 0).T=true<;>by_cases g5:A71 seq (el l 0)<;>simp [g1,g2,g3,g5,hm1]
      ·have e4:decide (((i+1:Nat):Int)>0)=true:=D19 (by omega)
       rw [e4,A10 (by omega) (Nat.le_of_lt hi) hl,D2L,I5 (by omega)]
       rw [e3,dlast];simp only [D2h,D2F,G8,D14,D2v,D2O,D18,A2C];refine L1 ?_;rw [C1n];simp only [D2f,D2c,J2,D16,D2q,C1r];unfold mk4
       generalize hf:T8 (A3 ((el l i).N-(el l (i+1)).N)) (el l i).Bk (el l i).Bj (A3 ((el l i).S-(el l (i+1)).S)) (A3 ((el l i).Q-(el l (i+1)).Q))=F
       generalize G9 now w (el l (i+1)).T=V
       generalize mk2 (M8 agg) (el l (i+1))=M
       generalize A71 seq (el l (i+1))=Z
       by_cases g1:M<;>by_cases g2:Z<;>cases F<;>cases V<;>simp [g1,g2,hm1]<;>omega
     ·have e2:(!J9 (el l i).T||decide ((el l i).T>now))=true:=by
       rw [D2f,D2q,D2k,Ne,A9E,D16];omega
      have hm1: ¬mk1 seq cap now (el l i):=by unfold mk1;omega
      rw [e2];simp only [D2g,D2z,G6,D14,D2O,D18];rcases i with _|i
      ·have e4:decide (((0:Nat):Int)>0)=false:=rfl;rw [e4];simp only [Bool.and_false,D2z,G6,D14,Bool.or_false,D17];exact ⟨fun _=>trivial,fun hn=>absurd (fun h=>hm1 h.1.1) hn⟩
      ·have e4:decide (((i+1:Nat):Int)>0)=true:=D19 (by omega)
       rw [e4,A10 (by omega) (Nat.le_of_lt hi) hl,D2L,I5 (by omega)]
       simp only [D2h,D2F,G8,D14,D2v,ite_self,A2C];cases decide ((el l i).Bl>=(el l (i+1)).Bl) with
       |false=>exact ⟨fun _=>rfl,fun hn=>absurd (fun h=>hm1 h.1.1) hn⟩
       |true=>exact ⟨fun _=>rfl,fun hn=>absurd (fun h=>hm1 h.1.1) hn⟩
    ·have e1:(((decide ((el l i).Bl<1)||decide ((el l i).Bl>seq))||((el l i).N !=A3 (A3 (seq-(el l i).Bl)+1)))||decide ((el l i).N>cap))=true:=by
      by_cases h:1<=(el l i).Bl/\(el l i).Bl<=seq
      ·have e:A3 (A3 (seq-(el l i).Bl)+1)=seq-(el l i).Bl+1:=by rw [D5 (n:=seq-(el l i).Bl) (by omega) (by omega),D5]<;>omega
       simp only [e,D2f,D16,bne_iff_ne];omega
      ·simp only [D2f,D16];omega
     rw [e1];simp only [D2g,D2z,G6,D14,D2O,D18];refine ⟨fun _=>trivial,fun hn=>absurd (fun h=>h1 ?_) hn⟩;have:=h.1.1;unfold mk1 at this;exact ⟨this.1,this.2.1,this.2.2.1⟩)
   (fun _=>by
    unfold A49;rw [D2b (D2x _),D17])
  by_cases h: ∀i,i<l.length->(B21 l seq cap now w (M8 agg) i/\(i=l.length-1->A71 seq (el l i)))
  ·rw [H.2 fun i hi hn=>hn (h i hi),O9];exact ⟨hs,fun i hi=>(h i hi).1,fun h0=>(h (l.length-1) (by omega)).2 rfl⟩
  ·rw [H.1 (Y5 h),K8];rintro ⟨_,h2,h3⟩;exact h fun i hi=>⟨h2 i hi,fun e=>by subst e;exact h3 (by omega)⟩
 ·have e:(decide (seq<0)||decide (seq>1099511627776))=true:=by rw [D2p];simp;omega
  rw [e,D18,K8];exact fun h=>hs h.1
end Go.Win
namespace Go.Win
open Go.Vc Go.Dec
def Y1 (w:C7):Prop:=0<=w.Hi/\w.Hi<18446744073709551616/\0<=w.Lo/\w.Lo<18446744073709551616
def wv (w:C7):Int:=w.Hi*18446744073709551616+w.Lo
def ofW (n:Int):C7:=⟨n/18446744073709551616,n%18446744073709551616⟩
theorem B39 (n:Int):wv (ofW n)=n:=by
 unfold wv ofW;simp only;omega
theorem B3M {n:Int} (h0:0<=n) (h1:n<340282366920938463463374607431768211456):Y1 (ofW n):=by
 unfold Y1 ofW;simp only;omega
theorem C4o {w:C7} (h:Y1 w):0<=wv w/\wv w<340282366920938463463374607431768211456:=by
 unfold Y1 at h;unfold wv;omega
theorem C9x (x y c:Int) (hx:0<=x) (hy:0<=y) (h0:0<=c) (h1:c<=1):T9 x y c=some ((x+y+c)%18446744073709551616,(x+y+c)/18446744073709551616):=by
 unfold T9;rw [D19 (⟨hx,hy,h0,h1⟩:0<=x/\0<=y/\0<=c/\c<=1)]
 rfl
theorem C4g {a b:C7} (ha:Y1 a) (hb:Y1 b):B2b a b=some (if wv a+wv b<340282366920938463463374607431768211456 then (ofW (wv a+wv b),true) else (⟨0,0⟩,false)):=by
 unfold Y1 at ha hb;unfold B2b;rw [C9x _ _ _ (by omega) (by omega) (by omega) (by omega)]
 simp only [D14];rw [C9x _ _ _ (by omega) (by omega) (by omega) (by omega)]
 simp only [D14];unfold wv
 by_cases h:a.Hi*18446744073709551616+a.Lo+(b.Hi*18446744073709551616+b.Lo)<340282366920938463463374607431768211456
 ·rw [if_pos h];have e:(a.Hi+b.Hi+(a.Lo+b.Lo+0)/18446744073709551616)/18446744073709551616=0:=by omega
  rw [e];simp only [D2H,D17];unfold ofW
  congr 3<;>omega
 ·rw [if_neg h];have e:((a.Hi+b.Hi+(a.Lo+b.Lo+0)/18446744073709551616)/18446744073709551616 !=0)=true:=by
   rw [bne_iff_ne];omega
  rw [e];rfl
theorem C3I:B6x=B2b:=rfl
theorem A8o {a b:C7} (ha:Y1 a) (hb:Y1 b):A0d a b=if wv a<wv b then-1 else if wv a=wv b then 0 else 1:=by
 unfold Y1 at ha hb;unfold A0d wv
 by_cases h:(decide (a.Hi<b.Hi)||((a.Hi==b.Hi)&&decide (a.Lo<b.Lo)))=true
 ·rw [h,D18];simp only [D2f,D2c,D16,D2Y] at h;rw [if_pos (by omega)]
 ·rw [Bool.not_eq_true] at h;rw [h,D17];simp only [D2E,D2V,D2l,D2U] at h
  by_cases h2:(a.Hi==b.Hi&&(a.Lo==b.Lo&&true))=true
  ·rw [h2,D18];simp only [D2c,D2Y] at h2;rw [if_neg (by omega),if_pos (by omega)]
  ·rw [Bool.not_eq_true] at h2;rw [h2,D17];simp only [D2V,D2U,Bool.true_eq_false,or_false] at h2;rw [if_neg (by omega),if_neg (by omega)]
end Go.Win
namespace Go.Win
open Go.Vc Go.Dec
theorem D0F {x:Int} (h0:0<=x) (h1:x<18446744073709551616):((BitVec.ofInt IntKind.u64.bits x&&&BitVec.ofInt IntKind.u64.bits 4294967295).toNat:Int)=x%4294967296:=by
 obtain ⟨n,rfl⟩:=Int.eq_ofNat_of_zero_le h0;have e:(BitVec.ofInt IntKind.u64.bits (n:Int)&&&BitVec.ofInt IntKind.u64.bits 4294967295).toNat=n%4294967296:=by
  have hb:IntKind.u64.bits=64:=rfl;rw [hb,BitVec.toNat_and,BitVec.toNat_ofInt,BitVec.toNat_ofInt];have h2:(((n:Int)%((2^64:Nat):Int)).toNat)=n:=by omega
  have h3:((4294967295:Int)%((2^64:Nat):Int)).toNat=2^32-1:=by decide
  rw [h2,h3,Nat.and_two_pow_sub_one_eq_mod]
 rw [e];omega
theorem C3g {x:Int} (h0:0<=x) (h1:x<18446744073709551616):V9 .u64 x 4294967295=x%4294967296:=by
 show IntKind.u64.wrap _=_;rw [D0F h0 h1,IntKind.wrap_u64];omega
theorem C3j (x:Int):A0E .u64 x 32=x/4294967296:=by
 show x.fdiv (2^(min (32:Int).toNat IntKind.u64.bits))=_;have:(2:Int)^(min (32:Int).toNat IntKind.u64.bits)=4294967296:=by decide
 rw [this,Int.fdiv_eq_ediv_of_nonneg _ (by decide)]
theorem D1X (a b c d:Int):(a*4294967296+b)*(c*4294967296+d)=(a*c)*18446744073709551616+(a*d+b*c)*4294967296+b*d:=by
 grind
theorem B6Q {a b:Int} (ha:0<=a/\a<4294967296) (hb:0<=b/\b<4294967296):0<=a*b/\a*b<=18446744065119617025:=by
 refine ⟨Int.mul_nonneg ha.1 hb.1, ?_⟩;have:=Int.mul_le_mul (show a<=4294967295 by omega) (show b<=4294967295 by omega) hb.1 (by decide)
 simpa using this
theorem D1E {x y:Int} (hx:0<=x/\x<18446744073709551616) (hy:0<=y/\y<18446744073709551616):A2I x y=(x*y/18446744073709551616,x*y%18446744073709551616):=by
 unfold A2I;have e:=D1X (x/4294967296) (x%4294967296) (y/4294967296) (y%4294967296);rw [show x/4294967296*4294967296+x%4294967296=x by omega,show y/4294967296*4294967296+y%4294967296=y by omega] at e
 have bp:=B6Q (a:=x%4294967296) (b:=y%4294967296) (by omega) (by omega)
 have bq:=B6Q (a:=x/4294967296) (b:=y%4294967296) (by omega) (by omega)
 have br:=B6Q (a:=x%4294967296) (b:=y/4294967296) (by omega) (by omega)
 have bs:=B6Q (a:=x/4294967296) (b:=y/4294967296) (by omega) (by omega)
 congr 1
 ·rw [C3g hx.1 hx.2,C3g hy.1 hy.2,C3j,C3j]
  generalize x%4294967296*(y%4294967296)=p at*
  generalize x/4294967296*(y%4294967296)=q at*
  generalize x%4294967296*(y/4294967296)=r at*
  generalize x/4294967296*(y/4294967296)=s at*
  have w1: ∀n:Int,0<=n->n<18446744073709551616->F3 n=n:=fun n h1 h2=>by rw [A2x];omega
  simp only [C3j];rw [w1 p (by omega) (by omega),w1 q (by omega) (by omega),w1 (q+p/4294967296) (by omega) (by omega),C3g (by omega) (by omega),w1 r (by omega) (by omega),w1 ((q+p/4294967296)%4294967296+r) (by omega) (by omega),w1 s (by omega) (by omega),
   w1 (s+(q+p/4294967296)/4294967296) (by omega) (by omega),w1 _ (by omega) (by omega)]
  omega
theorem B1f {x y:Int} (hx:0<=x/\x<18446744073709551616) (hy:0<=y/\y<18446744073709551616):0<=x*y/\x*y<340282366920938463463374607431768211456:=by
 refine ⟨Int.mul_nonneg hx.1 hy.1, ?_⟩;have:=Int.mul_le_mul (show x<=18446744073709551615 by omega) (show y<=18446744073709551615 by omega) hy.1 (by decide)
 omega
theorem A5S {x y:Int} (hx:0<=x/\x<18446744073709551616) (hy:0<=y/\y<18446744073709551616):N7 x y=ofW (x*y):=by
 unfold N7;rw [D1E hx hy]
 rfl
end Go.Win
namespace Go.Win
open Go.Vc Go.Dec
def nT:List C7->List Bool->Int
 |w::ws,b::bs=>(if b then wv w else 0)+nT ws bs
 |_,_=>0
theorem K3 {α:Type} {b:Bool} {k:Option α} (h:b=true):ck b k=k:=by rw [h];rfl
end Go.Win
namespace Go.Win
open Go.Vc Go.Dec
theorem B6J:X2=N7:=rfl
theorem C5N:A1K=A25:=rfl
theorem D0g (a b c:Int):(0*18446744073709551616+a)*(b*18446744073709551616+c)=(a*b)*18446744073709551616+a*c:=by grind
theorem D0h (a b c:Int):(b*18446744073709551616+c)*(0*18446744073709551616+a)=(a*b)*18446744073709551616+a*c:=by grind
theorem C2r {a b c d:Int} (ha:1<=a) (hb:0<=b) (hc:1<=c) (hd:0<=d):340282366920938463463374607431768211456<=(a*18446744073709551616+b)*(c*18446744073709551616+d):=by
 have:=Int.mul_le_mul (show 18446744073709551616<=a*18446744073709551616+b by omega) (show 18446744073709551616<=c*18446744073709551616+d by omega) (by decide) (by omega)
 simpa using this
theorem C7D {h a b c:Int} (ha:0<=a/\a<18446744073709551616) (hb:0<=b/\b<18446744073709551616) (hc:0<=c/\c<18446744073709551616):
  A6Y h a b c=some (if (a*b)*18446744073709551616+a*c<340282366920938463463374607431768211456 then (ofW ((a*b)*18446744073709551616+a*c),true) else (⟨0,0⟩,false)):=by
 have p1:=B1f ha hb;have p2:=B1f ha hc;unfold A6Y;simp only [B6J];rw [A5S ha hc,A5S ha hb]
 generalize a*b=m at*
 generalize a*c=n at*
 have e1:(ofW m).Hi=m/18446744073709551616:=rfl;have e2:(ofW m).Lo=m%18446744073709551616:=rfl;rw [e1,e2]
 by_cases hh:m<18446744073709551616
 ·have c1:(m/18446744073709551616 !=0)=false:=by rw [bne_eq_false_iff_eq];omega
  have oM:Y1 (C7.mk (m%18446744073709551616) 0):=by unfold Y1;simp only;omega
  have vM:wv (C7.mk (m%18446744073709551616) 0)=m*18446744073709551616:=by unfold wv;simp only;omega
  rw [c1,D17,C4g (B3M p2.1 p2.2) oM,B39,vM,Int.add_comm n];simp only [D14]
 ·have c1:(m/18446744073709551616 !=0)=true:=by rw [bne_iff_ne];omega
  rw [c1,D18,if_neg (by omega)]
theorem B8C {a b:C7} (ha:Y1 a) (hb:Y1 b):A5J a b=some (if wv a*wv b<340282366920938463463374607431768211456 then (ofW (wv a*wv b),true) else (⟨0,0⟩,false)):=by
 obtain ⟨ah,al⟩:=a;obtain ⟨bh,bl⟩:=b;unfold Y1 at ha hb;simp only at ha hb;unfold A5J wv;simp only
 by_cases h1:ah=0
 ·subst h1;simp only [D2H,D2z,D17];rw [C7D (by omega) (by omega) (by omega),D0g]
 ·have c1:(ah !=0)=true:=by rw [bne_iff_ne];exact h1
  rw [c1]
  by_cases h2:bh=0
  ·subst h2;simp only [D2H,Bool.and_false,D17,D18];rw [C7D (by omega) (by omega) (by omega),D0h]
  ·have c2:(bh !=0)=true:=by rw [bne_iff_ne];exact h2
   have:=C2r (a:=ah) (b:=al) (c:=bh) (d:=bl) (by omega) (by omega) (by omega) (by omega)
   rw [c2,if_neg (by omega)]
   rfl
theorem C5x {a b:C7} (ha:Y1 a) (hb:Y1 b):A9u a b=some (if wv a*wv b<340282366920938463463374607431768211456 then (ofW (wv a*wv b),true) else (⟨0,0⟩,false)):=by
 obtain ⟨ah,al⟩:=a;obtain ⟨bh,bl⟩:=b;unfold Y1 at ha hb;simp only at ha hb;unfold A9u wv;simp only;have q1:=B1f (x:=ah) (y:=bl) (by omega) (by omega)
 have q2:=B1f (x:=al) (y:=bh) (by omega) (by omega)
 have q3:=B1f (x:=al) (y:=bl) (by omega) (by omega)
 rw [A5S (by omega) (by omega),A5S (by omega) (by omega),A5S (by omega) (by omega)]
 have f1:(ofW (ah*bl)).Hi=ah*bl/18446744073709551616:=rfl;have f2:(ofW (ah*bl)).Lo=ah*bl%18446744073709551616:=rfl;have f3:(ofW (al*bh)).Hi=al*bh/18446744073709551616:=rfl;have f4:(ofW (al*bh)).Lo=al*bh%18446744073709551616:=rfl;rw [f1,f2,f3,f4,A2x]
 by_cases h3:ah≠0/\bh≠0
 ·have c1:(ah !=0)=true:=by rw [bne_iff_ne];exact h3.1
  have c2:(bh !=0)=true:=by rw [bne_iff_ne];exact h3.2
  have:=C2r (a:=ah) (b:=al) (c:=bh) (d:=bl) (by omega) (by omega) (by omega) (by omega)
  rw [c1,c2,if_neg (by omega)]
  rfl
 ·have c1:((ah !=0)&&(bh !=0))=false:=by
   rw [D2V,bne_eq_false_iff_eq,bne_eq_false_iff_eq];omega
  have e:(ah*18446744073709551616+al)*(bh*18446744073709551616+bl)=(ah*bl+al*bh)*18446744073709551616+al*bl:=by
   by_cases h1:ah=0
   ·subst h1;grind
   ·have h2:bh=0:=by omega
    subst h2;grind
  have z:ah*bl=0\/al*bh=0:=by
   by_cases h1:ah=0
   ·left;rw [h1,Int.zero_mul]
   ·right;rw [show bh=0 by omega,Int.mul_zero]
  rw [c1,D17,e]
  generalize ah*bl=m at*
  generalize al*bh=n at*
  generalize al*bl=k at*
  by_cases hh:m+n<18446744073709551616
  ·have c2:((m/18446744073709551616 !=0)||(n/18446744073709551616 !=0))=false:=by
    rw [D2E,bne_eq_false_iff_eq,bne_eq_false_iff_eq];omega
   have oM:Y1 (C7.mk ((m%18446744073709551616+n%18446744073709551616)%18446744073709551616) 0):=by unfold Y1;simp only;omega
   have vM:wv (C7.mk ((m%18446744073709551616+n%18446744073709551616)%18446744073709551616) 0)=(m+n)*18446744073709551616:=by unfold wv;simp only;omega
   rw [c2,D17,C3I,C4g (B3M q3.1 q3.2) oM,B39,vM,Int.add_comm k];simp only [D14]
  ·have c2:((m/18446744073709551616 !=0)||(n/18446744073709551616 !=0))=true:=by
    rw [D2f,bne_iff_ne,bne_iff_ne];omega
   rw [c2,D18,if_neg (by omega)]
theorem D1H {n:Int} (h:0<=n/\n<18446744073709551616):Y1 (A25 n):=by
 unfold Y1 A25;simp only;omega
theorem D03 {a b:C7} (ha:Y1 a) (hb:Y1 b):0<=wv a*wv b:=Int.mul_nonneg (C4o ha).1 (C4o hb).1
end Go.Win
namespace Go.Win
open Go.Vc Go.Dec
theorem D1G {m:D0} (h1:-4096<=m.Bk/\m.Bk<=4096) (h2:-4096<=m.Bj/\m.Bj<=4096) (agg:Int):A7E m agg=W3 m agg:=by
 have e1:(B6W m.Bj m.Bk).1=m.Bj-m.Bk:=by
  unfold B6W;rw [D5 (n:=m.Bj-m.Bk) (by omega) (by omega)]
  cases hb:((!((decide (m.Bj>=(0:Int)))==(decide (m.Bk>=(0:Int)))))&&(!((decide (m.Bj-m.Bk>=(0:Int)))==(decide (m.Bj>=(0:Int)))))) with
  |false=>rfl
  |true=>
   simp only [D2c,D2q,D2U,ne_eq] at hb;obtain ⟨g1,g2⟩:=hb
   by_cases a1:m.Bj>=0<;>by_cases a2:m.Bk>=0<;>by_cases a3:m.Bj-m.Bk>=0<;>simp [a1,a2,a3] at g1 g2<;>omega
 have e2:B2D m.Bj m.Bk=(m.Bj-m.Bk,true):=by
  unfold B2D;have:((decide (m.Bk<0)&&decide (m.Bj>A3 (9223372036854775807+m.Bk)))||(decide (m.Bk>0)&&decide (m.Bj<A3 (-9223372036854775808+m.Bk))))=false:=by
   by_cases g1:m.Bk<0
   ·rw [D5 (n:=9223372036854775807+m.Bk) (by omega) (by omega)]
    simp;omega
   ·by_cases g2:m.Bk>0
    ·rw [D5 (n:= -9223372036854775808+m.Bk) (by omega) (by omega)]
     simp;omega
    ·simp;omega
  rw [this,D17,D5]<;>omega
 unfold A7E W3;rw [e2];simp only [e1,D18]
 rfl
theorem B9c (w k c n:Int):A70 w k c n=true↔(1<=w/\w<=1048576)/\(1<=c/\c<=65536)/\(0<=n/\n<=16777216)/\(1<=k/\k<=64):=by
 unfold A70;simp;omega
def A72 (w k c n:Int):Prop:=(1<=w/\w<=1048576)/\(1<=c/\c<=65536)/\(0<=n/\n<=16777216)/\(1<=k/\k<=64)
def C8R (x:F0):Prop:=(1<=x.Bh/\x.Bh<=4)/\A72 x.W x.K x.Cap x.Now/\A5Q x.Az x.Bl x.Cap x.Now x.W (M8 x.Bh)/\
 ∀i,i<x.Az.length->(2<=i-> ¬L5 (el x.Az (i-2)) (el x.Az i) x.Bh x.K=true)/\
  (1<=i->(el x.Az i).Bl-(el x.Az (i-1)).Bl>1->L5 (el x.Az (i-1)) (el x.Az i) x.Bh x.K=true)
theorem A87 {l:List D0} {seq cap now w lo:Int} (hlo:-4096<=lo) (h:A5Q l seq cap now w lo) {i:Nat} (hi:i<l.length):
  (1<=(el l i).Bl/\(el l i).Bl<=1099511627776)/\(-4096<=(el l i).Bk/\(el l i).Bk<=4096)/\(-4096<=(el l i).Bj/\(el l i).Bj<=4096):=by
 have h1:=h.2.1 i hi;unfold B21 mk1 mk2 at h1;have:=h.1;omega
theorem B9A (x:F0) (hl:x.Az.length<=maxLen):A5i x=some (vOf (C8R x)):=by
 unfold A5i;simp only []
 by_cases h1:(1<=x.Bh/\x.Bh<=4)/\A72 x.W x.K x.Cap x.Now
 ·have e1:A4J x.Bh x.W x.K x.Cap x.Now=true:=by
   unfold A4J;simp only [(B9c _ _ _ _).2 h1.2,Bool.and_true,D2c,D16];exact h1.1
  rw [e1,B7p _ _ _ _ _ _ hl];simp only [D2g,D2h,G8,D14,D2v]
  by_cases h2:A5Q x.Az x.Bl x.Cap x.Now x.W (M8 x.Bh)
  ·rw [O9 h2,D2g,D17];unfold A9v;have H:=M0 (f:=fun s:Int=>A13 x s) x.Az.length (fun i=> ¬((2<=i-> ¬L5 (el x.Az (i-2)) (el x.Az i) x.Bh x.K=true)/\
     (1<=i->(el x.Az i).Bl-(el x.Az (i-1)).Bl>1->L5 (el x.Az (i-1)) (el x.Az i) x.Bh x.K=true))) 2 (some 0)
    (fun i hi _=>by
     unfold A13;rw [D19 (by omega:(i:Int)<(x.Az.length:Int)),D18,I5 hi,D14,Q9 hi hl]
     simp only [];have key: ∀j,j+1=i->A3 ((el x.Az i).Bl-(el x.Az j).Bl)=(el x.Az i).Bl-(el x.Az j).Bl:=by
      intro j hj;have g1:=A87 (B1O _) h2 hi;have g2:=A87 (B1O _) h2 (show j<x.Az.length by omega)
      rw [D5]<;>omega
     have key1:1<=i->E4 x.Az (A3 ((i:Int)-1))=some (el x.Az (i-1)):=fun h=>by rw [A10 (by omega) (Nat.le_of_lt hi) hl,I5 (by omega)]
     have key2:2<=i->E4 x.Az (A3 ((i:Int)-2))=some (el x.Az (i-2)):=fun h=>by
      have:A3 ((i:Int)-2)=((i-2:Nat):Int):=by rw [N2] at hl;rw [D5]<;>omega
      rw [this,I5 (by omega)]
     by_cases g1:1<=i
     ·rw [D19 (by omega:(i:Int)>=1),key1 g1]
      simp only [G8,D14,D2F,key (i-1) (by omega)]
      by_cases g3:(el x.Az i).Bl-(el x.Az (i-1)).Bl>1
      ·simp only [g3,decide_true,G8,D14,D2F]
       by_cases g2:2<=i
       ·rw [D19 (by omega:(i:Int)>=2),key2 g2]
        simp only [G8,D14,D2F,A2C];refine L1 ?_;simp only [g1,g2,D2f,D2q];cases L5 (el x.Az (i-2)) (el x.Az i) x.Bh x.K<;>cases L5 (el x.Az (i-1)) (el x.Az i) x.Bh x.K<;>simp
       ·rw [D2b (by omega: ¬(i:Int)>=2)]
        simp only [G6,D14,D2z,D17];refine L1 ?_;simp only [g1,g2,D2q];cases L5 (el x.Az (i-1)) (el x.Az i) x.Bh x.K<;>simp
      ·simp only [g3,decide_false,G6,D14,D2z,D17]
       by_cases g2:2<=i
       ·rw [D19 (by omega:(i:Int)>=2),key2 g2]
        simp only [G8,D14,D2F];refine L1 ?_;simp [g1,g2]
       ·rw [D2b (by omega: ¬(i:Int)>=2)]
        simp only [G6,D14,D2z,D17];exact ⟨fun h=>absurd ⟨fun h2=>absurd h2 g2,fun _ h3=>h3.elim⟩ h,fun _=>trivial⟩
     ·rw [D2b (by omega: ¬(i:Int)>=2),D2b (by omega: ¬(i:Int)>=1)]
      simp only [G6,D14,D2z,D17];exact ⟨fun h=>absurd ⟨fun h2=>absurd h2 (by omega),fun h3=>absurd h3 g1⟩ h,fun _=>trivial⟩)
    (fun _=>by
     unfold A13;rw [D2b (D2x _),D17])
   by_cases h3: ∀i,i<x.Az.length->((2<=i-> ¬L5 (el x.Az (i-2)) (el x.Az i) x.Bh x.K=true)/\
     (1<=i->(el x.Az i).Bl-(el x.Az (i-1)).Bl>1->L5 (el x.Az (i-1)) (el x.Az i) x.Bh x.K=true))
   ·rw [H.2 fun i hi hn=>hn (h3 i hi),Q3];exact ⟨h1.1,h1.2,h2,h3⟩
   ·rw [H.1 (Y5 h3),I7];exact fun h=>h3 h.2.2.2
  ·rw [K8 h2,I7 fun h=>h2 h.2.2.1]
   rfl
 ·have e1:A4J x.Bh x.W x.K x.Cap x.Now=false:=by
   rw [D2k];intro h;unfold A4J at h;simp only [D2c,D16,B9c] at h;exact h1 h
  rw [e1,I7 fun h=>h1 ⟨h.1,h.2.1⟩]
  rfl
theorem C0t (x:F0) (hl:x.Az.length<=maxLen):A53 x=some (vOf (C8R x)):=by
 unfold A53;simp only []
 by_cases h1:(1<=x.Bh/\x.Bh<=4)/\A72 x.W x.K x.Cap x.Now
 ·have e1:A0a x.Bh=true:=by unfold A0a;simp;exact h1.1
  have e2:M2 x.W x.Cap x.Now=true:=(A01 _ _ _).2 ⟨h1.2.1,h1.2.2.1,h1.2.2.2.1⟩;have e3:L6 x.K=true:=(Z5 _).2 h1.2.2.2.2;rw [e1,e2,e3,B7z _ _ _ _ _ _ h1.1 h1.2.2.1.2 h1.2.2.2.1.2 hl];simp only [D2g,D2h,G8,D14,Bool.or_false,D2v]
  by_cases h2:A5Q x.Az x.Bl x.Cap x.Now x.W (M8 x.Bh)
  ·rw [O9 h2,D2g,D17];unfold B0j;have H:=M0 (f:=fun s:Int=>A2L x s) x.Az.length (fun i=> ¬((2<=i-> ¬L5 (el x.Az (i-2)) (el x.Az i) x.Bh x.K=true)/\
     (1<=i->(el x.Az i).Bl-(el x.Az (i-1)).Bl>1->L5 (el x.Az (i-1)) (el x.Az i) x.Bh x.K=true))) 2 (some 0)
    (fun i hi _=>by
     unfold A2L;rw [D19 (by omega:(i:Int)<(x.Az.length:Int)),D18,I5 hi,D14,Q9 hi hl]
     simp only [];have eof: ∀j,j<x.Az.length->W3 (el x.Az j) x.Bh=A7E (el x.Az j) x.Bh:=by
      intro j hj;have g2:=A87 (B1O _) h2 hj;exact (D1G g2.2.1 g2.2.2 _).symm
     have near: ∀j,j<x.Az.length->decide (A3 (A3 (x.K+1)*W3 (el x.Az i) x.Bh)>=A3 (x.K*W3 (el x.Az j) x.Bh))=L5 (el x.Az j) (el x.Az i) x.Bh x.K:=by
      intro j hj;rw [eof i hi,eof j hj];rfl
     have nearN: ∀j,j<x.Az.length->decide (A3 (A3 (x.K+1)*W3 (el x.Az i) x.Bh)<A3 (x.K*W3 (el x.Az j) x.Bh))= !L5 (el x.Az j) (el x.Az i) x.Bh x.K:=by
      intro j hj;rw [<-near j hj,D2p,D2q,D16,D2l];omega
     have key: ∀j,j+1=i->A3 ((el x.Az j).Bl+1)=(el x.Az j).Bl+1:=by
      intro j hj;have g2:=A87 (B1O _) h2 (show j<x.Az.length by omega)
      rw [D5]<;>omega
     have key1:1<=i->E4 x.Az (A3 ((i:Int)-1))=some (el x.Az (i-1)):=fun h=>by rw [A10 (by omega) (Nat.le_of_lt hi) hl,I5 (by omega)]
     have key2:2<=i->E4 x.Az (A3 ((i:Int)-2))=some (el x.Az (i-2)):=fun h=>by
      have:A3 ((i:Int)-2)=((i-2:Nat):Int):=by rw [N2] at hl;rw [D5]<;>omega
      rw [this,I5 (by omega)]
     by_cases g1:1<=i
     ·rw [D19 (by omega:(i:Int)>0),key1 g1]
      simp only [G8,D14,D2F,key (i-1) (by omega)]
      by_cases g3:(el x.Az i).Bl-(el x.Az (i-1)).Bl>1
      ·have g3' :(el x.Az i).Bl>(el x.Az (i-1)).Bl+1:=by omega
       simp only [g3,g3',decide_true,G8,D14,D2F,nearN (i-1) (by omega)]
       by_cases g2:2<=i
       ·rw [D19 (by omega:(i:Int)>1),key2 g2]
        simp only [G8,D14,D2F,A2C,near (i-2) (by omega)]
        refine L1 ?_;simp only [g1,g2,D2f,D2q];cases L5 (el x.Az (i-2)) (el x.Az i) x.Bh x.K<;>cases L5 (el x.Az (i-1)) (el x.Az i) x.Bh x.K<;>simp
       ·rw [D2b (by omega: ¬(i:Int)>1)]
        simp only [G6,D14,D2z,D17];refine L1 ?_;simp only [g1,g2,D2q];cases L5 (el x.Az (i-1)) (el x.Az i) x.Bh x.K<;>simp
      ·have g3' : ¬(el x.Az i).Bl>(el x.Az (i-1)).Bl+1:=by omega
       simp only [g3,g3',decide_false,G6,D14,D2z,D17]
       by_cases g2:2<=i
       ·rw [D19 (by omega:(i:Int)>1),key2 g2]
        simp only [G8,D14,D2F,near (i-2) (by omega)]
        refine L1 ?_;simp [g1,g2]
       ·rw [D2b (by omega: ¬(i:Int)>1)]
        simp only [G6,D14,D2z,D17];exact ⟨fun h=>absurd ⟨fun h2=>absurd h2 g2,fun _ h3=>h3.elim⟩ h,fun _=>trivial⟩
     ·rw [D2b (by omega: ¬(i:Int)>1),D2b (by omega: ¬(i:Int)>0)]
      simp only [G6,D14,D2z,D17];exact ⟨fun h=>absurd ⟨fun h2=>absurd h2 (by omega),fun h3=>absurd h3 g1⟩ h,fun _=>trivial⟩)
    (fun _=>by
     unfold A2L;rw [D2b (D2x _),D17])
   by_cases h3: ∀i,i<x.Az.length->((2<=i-> ¬L5 (el x.Az (i-2)) (el x.Az i) x.Bh x.K=true)/\
     (1<=i->(el x.Az i).Bl-(el x.Az (i-1)).Bl>1->L5 (el x.Az (i-1)) (el x.Az i) x.Bh x.K=true))
   ·rw [H.2 fun i hi hn=>hn (h3 i hi),Q3];exact ⟨h1.1,h1.2,h2,h3⟩
   ·rw [H.1 (Y5 h3),I7];exact fun h=>h3 h.2.2.2
  ·rw [K8 h2,I7 fun h=>h2 h.2.2.1]
   rfl
 ·have e1:((!A0a x.Bh|| !M2 x.W x.Cap x.Now)|| !L6 x.K)=true:=by
   rw [D2f,D2f,D2q,D2q,D2q,D2k,D2k,D2k,Ne,Ne,Ne,A01,Z5];unfold A0a;unfold A72 at h1;simp only [D2c,D16];omega
  rw [e1,I7 fun h=>h1 ⟨h.1,h.2.1⟩]
  rfl
theorem C5q (l:List D0) (hl:l.length<=maxLen):A0b l l=some true:=by
 unfold A0b;rw [D2H,D17];unfold A5w;refine (M0 (f:=fun s:Int=>A0q l l s) l.length (fun _=>False) false (some true) (fun i hi _=>⟨fun h=>h.elim,fun _=> ?_⟩) (fun _=> ?_)).2 fun _ _ h=>h
 ·unfold A0q;rw [D19 (by omega:(i:Int)<(l.length:Int)),D18,I5 hi]
  simp [Q9 hi hl]
 ·unfold A0q;rw [D2b (D2x _),D17]
theorem B7F (x:F0) (hl:x.Az.length<=maxLen):A52 x x=some true:=by
 unfold A52;simp [C5q _ hl]
theorem B7G (x:F1) (hl:x.Az.length<=maxLen):A54 x x=some true:=by
 unfold A54;simp [C5q _ hl]
end Go.Win
namespace Go.Win
open Go.Vc Go.Dec
theorem B9G {n:Int} (h:E0 .u64 n):0<=n/\n<18446744073709551616:=by
 simp [E0,Lit.wf,IntKind.min,IntKind.max,IntKind.signed,IntKind.bits] at h;omega
theorem B4s:A0d=X6:=rfl
def A1V (m:D0):Prop:=(1<=m.N/\m.N<=65536)/\(-(m.N*4096)<=m.S/\m.S<=m.N*4096)/\(0<=m.Q/\m.Q<=m.N*16777216)/\m.S*m.S<=m.N*m.Q
theorem B2I {m:D0} (h1:1<=m.N/\m.N<=65536) (h2:-(m.N*4096)<=m.S/\m.S<=m.N*4096) (h3:0<=m.Q/\m.Q<=m.N*16777216):
  (0<=m.S*m.S/\m.S*m.S<=72057594037927936)/\(0<=m.N*m.Q/\m.N*m.Q<=72057594037927936):=by
 have e2:(m.S.natAbs:Int)*m.S.natAbs=m.S*m.S:=Int.natAbs_mul_self;have h6:m.S.natAbs*m.S.natAbs<=268435456*268435456:=Nat.mul_le_mul (by omega) (by omega)
 have h7:((m.S.natAbs*m.S.natAbs:Nat):Int)=(m.S.natAbs:Int)*m.S.natAbs:=by rw [Int.natCast_mul]
 have hq:m.N*m.Q<=65536*1099511627776:=Int.mul_le_mul h1.2 (by omega) h3.1 (by omega)
 have hq0:0<=m.N*m.Q:=Int.mul_nonneg (by omega) h3.1
 omega
theorem A30 (m:D0):A0J m=true↔A1V m:=by
 unfold A0J A1V
 by_cases h1:1<=m.N/\m.N<=65536
 ·have e0:IntKind.i64.wrap (0-m.N)= -m.N:=by
   show A3 (0-m.N)=_;rw [D5]<;>omega
  rw [e0,D5 (n:= -m.N*4096) (by omega) (by omega),D5 (n:=m.N*4096) (by omega) (by omega),D5 (n:=m.N*4096*4096) (by omega) (by omega)]
  simp only [D2c,D16];constructor
  ·rintro ⟨⟨⟨⟨⟨_,h2⟩,h3⟩,h4⟩,h5⟩,h6⟩;have:=B2I h1 (by omega) (by omega)
   rw [D5 (by omega) (by omega),D5 (by omega) (by omega)] at h6
   exact ⟨h1,by omega,by omega,h6⟩
  ·rintro ⟨_,h2,h3,h4⟩;have:=B2I h1 h2 h3;rw [D5 (n:=m.S*m.S) (by omega) (by omega),D5 (n:=m.N*m.Q) (by omega) (by omega)]
   exact ⟨⟨⟨⟨⟨by omega,by omega⟩,by omega⟩,by omega⟩,by omega⟩,h4⟩
 ·simp only [D2c,D16];constructor
  ·rintro ⟨⟨⟨⟨⟨h,_⟩,_⟩,_⟩,_⟩,_⟩;exact absurd h h1
  ·rintro ⟨h,_⟩;exact absurd h h1
theorem C86 (m:D0):A5C m=A0J m:=by
 unfold A5C A0J;cases h:((((((decide (m.N<(1:Int)))||(decide (m.N>(65536:Int))))||(decide (m.S<(A3 ((IntKind.i64.wrap (0-m.N))*(4096:Int))))))||(decide (m.S>(A3 (m.N*(4096:Int))))))||(decide (m.Q<(0:Int))))||(decide (m.Q>(A3 ((A3 (m.N*(4096:Int)))*(4096:Int)))))) with
 |true=>
  rw [D18]
  symm
  rw [D2k];intro h2;simp only [D2f,D16] at h;simp only [D2c,D16] at h2;omega
 |false=>
  rw [D17];simp only [D2E,D2l] at h;rw [D2p];simp only [D2c,D16];omega
theorem C1E {a b:C7} (ha:Y1 a) (hb:Y1 b) (h:wv a*wv b<340282366920938463463374607431768211456):A5J a b=some (ofW (wv a*wv b),true):=by
 rw [B8C ha hb,if_pos h]
def A1B (m:D0):Int:=m.N*m.Q-m.S*m.S
theorem B60 {m:D0} (h:A1V m):0<=A1B m/\A1B m<=72057594037927936:=by
 have:=B2I h.1 h.2.1 h.2.2.1;have h4:=h.2.2.2;unfold A1B;omega
theorem C32 {m:D0} (h:A1V m):A1z m=A1B m:=by
 have:=B2I h.1 h.2.1 h.2.2.1;have h4:=h.2.2.2;unfold A1z A1B;rw [D5 (n:=m.N*m.Q) (by omega) (by omega),D5 (n:=m.S*m.S) (by omega) (by omega),D5]<;>omega
theorem A3t {n:Int} (h0:0<=n) (h1:n<18446744073709551616):F3 n=n:=by rw [A2x];omega
def A7S (a b:D0) (k:Int):Prop:=A1V a/\A1V b/\(1<=k/\k<=64)/\ ¬6*k*b.N<(6*k-1)*a.N/\A1B a*b.N*(6*k-1)<=A1B b*a.N*(6*k)
theorem A2t {a b A B:Int} (h1:0<=a/\a<=A) (h2:0<=b/\b<=B):0<=a*b/\a*b<=A*B:=
 ⟨Int.mul_nonneg h1.1 h2.1,Int.mul_le_mul h1.2 h2.2 h2.1 (Int.le_trans h1.1 h1.2)⟩
theorem B08 {x y:Int} (hx:0<=x/\x<18446744073709551616) (hy:0<=y/\y<18446744073709551616):Y1 (N7 x y)/\wv (N7 x y)=x*y:=by
 rw [A5S hx hy];have:=B1f hx hy;exact ⟨B3M this.1 this.2,B39 _⟩
theorem C4n {n:Int} (h:0<=n/\n<18446744073709551616):Y1 (A25 n)/\wv (A25 n)=n:=by
 refine ⟨D1H h, ?_⟩;show 0*18446744073709551616+n=n;omega
theorem C3U (a b:D0) (k:Int):A8j a b k=some (S1 (A7S a b k)):=by
 unfold A8j;simp only [C86]
 by_cases h1:A1V a/\A1V b/\(1<=k/\k<=64)
 ·obtain ⟨ha,hb,hk⟩:=h1;rw [(A30 a).2 ha,(A30 b).2 hb];have e:(((!true|| !true)||decide (k<1))||decide (k>64))=false:=by simp;omega
  rw [e,D17];have ea:=ha.1;have eb:=hb.1;have n1:=A2t (a:=6*k) (A:=384) (b:=b.N) (B:=65536) (by omega) (by omega)
  have n2:=A2t (a:=6*k-1) (A:=383) (b:=a.N) (B:=65536) (by omega) (by omega)
  rw [D5 (n:=6*k) (by omega) (by omega),D5 (n:=6*k-1) (by omega) (by omega),D5 (n:=6*k*b.N) (by omega) (by omega),D5 (n:=(6*k-1)*a.N) (by omega) (by omega)]
  by_cases h2:6*k*b.N<(6*k-1)*a.N
  ·rw [D19 h2,D18,K8 fun h=>h.2.2.2.1 h2]
  ·have ta:=B60 ha;have tb:=B60 hb;rw [D2b h2,D17,C32 ha,C32 hb,A3t (n:=A1B b) (by omega) (by omega),A3t (n:=A1B a) (by omega) (by omega),A3t (n:=a.N) (by omega) (by omega),A3t (n:=b.N) (by omega) (by omega),
    A3t (n:=6*k) (by omega) (by omega),A3t (n:=6*k-1) (by omega) (by omega),B6J,C5N]
   have x1:=B08 (x:=A1B b) (y:=a.N) (by omega) (by omega)
   have x2:=C4n (n:=6*k) (by omega)
   have y1:=B08 (x:=A1B a) (y:=b.N) (by omega) (by omega)
   have y2:=C4n (n:=6*k-1) (by omega)
   have m1:=A2t (a:=A1B b) (b:=a.N) (A:=72057594037927936) (B:=65536) tb (by omega)
   have m2:=A2t (a:=A1B a) (b:=b.N) (A:=72057594037927936) (B:=65536) ta (by omega)
   have m3:=A2t (a:=A1B b*a.N) (b:=6*k) (B:=384) m1 (by omega)
   have m4:=A2t (a:=A1B a*b.N) (b:=6*k-1) (B:=383) m2 (by omega)
   rw [C1E x1.1 x2.1 (by rw [x1.2,x2.2];omega),D14,C1E y1.1 y2.1 (by rw [y1.2,y2.2];omega),D14,x1.2,x2.2,y1.2,y2.2]
   rw [A8o (B3M m3.1 (by omega)) (B3M m4.1 (by omega)),B39,B39]
   congr 1
   rw [D2p,J2,D16];unfold A7S;constructor
   ·intro h;refine ⟨ha,hb,hk,h2, ?_⟩;split at h
    ·omega
    ·split at h<;>omega
   ·rintro ⟨_,_,_,_,h⟩;split
    ·omega
    ·split<;>omega
 ·have e:(((!A0J a|| !A0J b)||decide (k<1))||decide (k>64))=true:=by
   rw [D2f,D2f,D2f,D2q,D2q,D2k,D2k,Ne,Ne,A30,A30,D16,D16]
   by_cases g1:A1V a
   ·by_cases g2:A1V b
    ·have: ¬(1<=k/\k<=64):=fun h=>h1 ⟨g1,g2,h⟩;omega
    ·exact .inl (.inl (.inr g2))
   ·exact .inl (.inl (.inl g1))
  rw [e,D18,K8 fun h=>h1 ⟨h.1,h.2.1,h.2.2.1⟩]
theorem C4R (a b:D0) (k:Int):A9d a b k=S1 (A7S a b k):=by
 unfold A9d;simp only []
 by_cases h1:A1V a/\A1V b/\(1<=k/\k<=64)
 ·obtain ⟨ha,hb,hk⟩:=h1;rw [(A30 a).2 ha,(A30 b).2 hb,(Z5 k).2 hk];have ea:=ha.1;have eb:=hb.1;have n1:=A2t (a:=6*k) (A:=384) (b:=b.N) (B:=65536) (by omega) (by omega)
  have n2:=A2t (a:=6*k-1) (A:=383) (b:=a.N) (B:=65536) (by omega) (by omega)
  have n3:=A2t (a:=6*k) (A:=384) (b:=a.N) (B:=65536) (by omega) (by omega)
  have n4:=A2t (a:=6*k-1) (A:=383) (b:=b.N) (B:=65536) (by omega) (by omega)
  rw [D5 (n:=6*k) (by omega) (by omega),D5 (n:=6*k-1) (by omega) (by omega),D5 (n:=6*k*b.N) (by omega) (by omega),D5 (n:=(6*k-1)*a.N) (by omega) (by omega),
   D5 (n:=6*k*a.N) (by omega) (by omega),D5 (n:=(6*k-1)*b.N) (by omega) (by omega)]
  by_cases h2:6*k*b.N<(6*k-1)*a.N
  ·rw [D19 h2,K8 fun h=>h.2.2.2.1 h2];rfl
  ·have ta:=B60 ha;have tb:=B60 hb;rw [D2b h2];have et: ∀m,A1V m->A3 (A3 (m.N*m.Q)-A3 (m.S*m.S))=A1B m:=fun m hm=>C32 hm;have ec:(((!true|| !true)|| !true)||false)=false:=rfl
   rw [ec,D17,et a ha,et b hb,A3t (n:=A1B b) (by omega) (by omega),A3t (n:=A1B a) (by omega) (by omega),A3t (n:=6*k*a.N) (by omega) (by omega),A3t (n:=(6*k-1)*b.N) (by omega) (by omega)]
   have x1:=B08 (x:=A1B b) (y:=6*k*a.N) (by omega) (by omega)
   have y1:=B08 (x:=A1B a) (y:=(6*k-1)*b.N) (by omega) (by omega)
   rw [<-B4s,A8o x1.1 y1.1,x1.2,y1.2];have q1:A1B b*(6*k*a.N)=A1B b*a.N*(6*k):=by rw [Int.mul_comm (6*k) a.N,Int.mul_assoc]
   have q2:A1B a*((6*k-1)*b.N)=A1B a*b.N*(6*k-1):=by rw [Int.mul_comm (6*k-1) b.N,Int.mul_assoc]
   rw [q1,q2,D2p,J2,D16];unfold A7S;constructor
   ·intro h;refine ⟨ha,hb,hk,h2, ?_⟩;split at h
    ·omega
    ·split at h<;>omega
   ·rintro ⟨_,_,_,_,h⟩;split
    ·omega
    ·split<;>omega
 ·have e:((!A0J a|| !A0J b)|| !L6 k)=true:=by
   rw [D2f,D2f,D2q,D2q,D2q,D2k,D2k,D2k,Ne,Ne,Ne,A30,A30,Z5]
   by_cases g1:A1V a
   ·by_cases g2:A1V b
    ·exact .inr fun h=>h1 ⟨g1,g2,h⟩
    ·exact .inl (.inr g2)
   ·exact .inl (.inl g1)
  rw [e,K8 fun h=>h1 ⟨h.1,h.2.1,h.2.2.1⟩]
  rfl
def C8S (x:F1):Prop:=A72 x.W x.K x.Cap x.Now/\A5Q x.Az x.Bl x.Cap x.Now x.W (-4096)/\
 ∀i,2<=i->i<x.Az.length-> ¬A7S (el x.Az (i-2)) (el x.Az i) x.K
theorem C3p {R:Type} {f:Int->Option (Int⊕R)} (n:Nat) (bad:Nat->Prop) (E:R) (A:Option R)
  (hs:∀i:Nat,2<=i->i<n->(bad i->f (i:Int)=some (.inr E))/\(¬bad i->f (i:Int)=some (.inl ((i+1:Nat):Int))))
  (hd:∀i:Nat,n<=i->f (i:Int)=Option.map Sum.inr A):
  ((∃i,2<=i/\i<n/\bad i)->loop f 2=some E)/\((∀i,2<=i->i<n-> ¬bad i)->loop f 2=A):=by
 by_cases h:2<=n
 ·exact A2s (f:=f) (fun i=>(i:Int)) 2 n h bad E A (fun i h1 h2 _=>hs i h1 h2) (fun _=>hd n (D2M _))
 ·refine ⟨fun ⟨i,h1,h2,_⟩=>by omega,fun _=> ?_⟩
  have:=hd 2 (by omega)
  rw [A4F];rw [show ((2:Nat):Int)=2 from rfl] at this;rw [this];cases A<;>rfl
theorem B9E (x:F1) (hl:x.Az.length<=maxLen):A5j x=some (vOf (C8S x)):=by
 unfold A5j;simp only []
 by_cases h1:A72 x.W x.K x.Cap x.Now
 ·rw [(B9c _ _ _ _).2 h1,B7p _ _ _ _ _ _ hl];simp only [D2g,D2h,G8,D14,D2v]
  by_cases h2:A5Q x.Az x.Bl x.Cap x.Now x.W (-4096)
  ·rw [O9 h2,D2g,D17];unfold A9w;have H:=C3p (f:=fun s:Int=>A15 x s) x.Az.length (fun i=>A7S (el x.Az (i-2)) (el x.Az i) x.K) 2 (some 0)
    (fun i h2 hi=>by
     unfold A15;have:A3 ((i:Int)-2)=((i-2:Nat):Int):=by rw [N2] at hl;rw [D5]<;>omega
     rw [D19 (by omega:(i:Int)<(x.Az.length:Int)),D18,this,I5 hi,I5 (by omega),D14,D14,C3U,D14,Q9 hi hl]
     exact L1 J2)
    (fun i hi=>by
     unfold A15;rw [D2b (by omega: ¬(i:Int)<(x.Az.length:Int)),D17])
   by_cases h3: ∀i,2<=i->i<x.Az.length-> ¬A7S (el x.Az (i-2)) (el x.Az i) x.K
   ·rw [H.2 h3,Q3 ⟨h1,h2,h3⟩]
   ·rw [H.1,I7 fun h=>h3 h.2.2];exact D2Z fun hn=>h3 fun i a b c=>hn ⟨i,a,b,c⟩
  ·rw [K8 h2,I7 fun h=>h2 h.2.1]
   rfl
 ·rw [D2k.2 fun h=>h1 ((B9c _ _ _ _).1 h),I7 fun h=>h1 h.1]
  rfl
theorem C0u (x:F1) (hl:x.Az.length<=maxLen):A55 x=some (vOf (C8S x)):=by
 unfold A55;simp only []
 by_cases h1:A72 x.W x.K x.Cap x.Now
 ·have e2:M2 x.W x.Cap x.Now=true:=(A01 _ _ _).2 ⟨h1.1,h1.2.1,h1.2.2.1⟩;have e3:L6 x.K=true:=(Z5 _).2 h1.2.2.2;have e4:M8 4= -4096:=rfl;rw [e2,e3,B7z _ _ _ _ _ _ (by decide) h1.2.1.2 h1.2.2.1.2 hl,e4]
  simp only [D2g,D2h,G8,D14,Bool.or_false,D2v]
  by_cases h2:A5Q x.Az x.Bl x.Cap x.Now x.W (-4096)
  ·rw [O9 h2,D2g,D17];unfold B0k;have H:=C3p (f:=fun s:Int=>A2M x s) x.Az.length (fun i=>A7S (el x.Az (i-2)) (el x.Az i) x.K) 2 (some 0)
    (fun i h2 hi=>by
     unfold A2M;have:A3 ((i:Int)-2)=((i-2:Nat):Int):=by rw [N2] at hl;rw [D5]<;>omega
     rw [D19 (by omega:(i:Int)<(x.Az.length:Int)),D18,this,I5 hi,I5 (by omega),D14,D14]
     simp only [C4R,Q9 hi hl];exact L1 J2)
    (fun i hi=>by
     unfold A2M;rw [D2b (by omega: ¬(i:Int)<(x.Az.length:Int)),D17])
   by_cases h3: ∀i,2<=i->i<x.Az.length-> ¬A7S (el x.Az (i-2)) (el x.Az i) x.K
   ·rw [H.2 h3,Q3 ⟨h1,h2,h3⟩]
   ·rw [H.1,I7 fun h=>h3 h.2.2];exact D2Z fun hn=>h3 fun i a b c=>hn ⟨i,a,b,c⟩
  ·rw [K8 h2,I7 fun h=>h2 h.2.1]
   rfl
 ·have e1:(!M2 x.W x.Cap x.Now|| !L6 x.K)=true:=by
   rw [D2f,D2q,D2q,D2k,D2k,Ne,Ne,A01,Z5];unfold A72 at h1;omega
  rw [e1,I7 fun h=>h1 h.1]
  rfl
def C8P (x:G2):Prop:=((0<=x.P/\x.P<=4)/\(0<=x.Now/\x.Now<=16777216)/\(0<=x.Bc/\x.Bc<=x.Now)/\(x.Af.length:Int)=x.P+1)/\
 ∀i:Nat,1<=i->(i:Int)<=x.P->wv (el x.Af (i-1))<=wv (el x.Af i)/\
  (wv (el x.Af (i-1))*(x.Now-x.Bc+1)<340282366920938463463374607431768211456->wv (el x.Af i)<=wv (el x.Af (i-1))*(x.Now-x.Bc+1))
theorem B2C (x:G2):((((((decide (x.P<(0:Int)))||(decide (x.P>(4:Int))))||(!(J9 x.Now)))||(decide (x.Bc<(0:Int))))||(decide (x.Bc>x.Now)))||((x.Af.length:Int) !=(A3 (x.P+(1:Int)))))=true↔
  ¬((0<=x.P/\x.P<=4)/\(0<=x.Now/\x.Now<=16777216)/\(0<=x.Bc/\x.Bc<=x.Now)/\(x.Af.length:Int)=x.P+1):=by
 simp only [D2f,D16,D2q,bne_iff_ne];rw [D2k,Ne,A9E]
 by_cases h:0<=x.P/\x.P<=4
 ·rw [D5 (by omega) (by omega)];omega
 ·omega
theorem C3o {R:Type} {f:Int->Option (Int⊕R)} (P:Nat) (bad:Nat->Prop) (E:R) (A:Option R)
  (hs:∀i:Nat,1<=i->i<=P->(bad i->f (i:Int)=some (.inr E))/\(¬bad i->f (i:Int)=some (.inl ((i+1:Nat):Int))))
  (hd:f ((P+1:Nat):Int)=Option.map Sum.inr A):
  ((∃i,1<=i/\i<=P/\bad i)->loop f 1=some E)/\((∀i,1<=i->i<=P-> ¬bad i)->loop f 1=A):=by
 have:=A2s (f:=f) (fun i=>(i:Int)) 1 (P+1) (by omega) bad E A (fun i h1 h2 _=>hs i h1 (by omega)) (fun _=>hd)
 exact ⟨fun ⟨i,h1,h2,h3⟩=>this.1 ⟨i,h1,by omega,h3⟩,fun h=>this.2 fun i h1 h2=>h i h1 (by omega)⟩
theorem C7f {a b:C7} (ha:Y1 a) (hb:Y1 b):decide (X6 a b>0)=decide (wv b<wv a):=by
 rw [<-B4s,A8o ha hb,D2p,D16,D16];split
 ·omega
 ·split<;>omega
theorem D0Q {a b:C7} (ha:Y1 a) (hb:Y1 b):decide (X6 a b<0)=decide (wv a<wv b):=by
 rw [<-B4s,A8o ha hb,D2p,D16,D16];split
 ·omega
 ·split<;>omega
theorem C5L {a b:C7} (ha:Y1 a) (hb:Y1 b):decide (A0d a b>0)=decide (wv b<wv a):=C7f ha hb
def B6N (x:G2) (i:Nat):Prop:= ¬(wv (el x.Af (i-1))<=wv (el x.Af i)/\
  (wv (el x.Af (i-1))*(x.Now-x.Bc+1)<340282366920938463463374607431768211456->wv (el x.Af i)<=wv (el x.Af (i-1))*(x.Now-x.Bc+1)))
theorem C3F {x:G2} (h1:(0<=x.P/\x.P<=4)/\(0<=x.Now/\x.Now<=16777216)/\(0<=x.Bc/\x.Bc<=x.Now)/\(x.Af.length:Int)=x.P+1):
  Y1 (A25 (F3 (A3 (A3 (x.Now-x.Bc)+1))))/\wv (A25 (F3 (A3 (A3 (x.Now-x.Bc)+1))))=x.Now-x.Bc+1:=by
 rw [D5 (n:=x.Now-x.Bc) (by omega) (by omega),D5 (by omega) (by omega),A3t (by omega) (by omega)]
 exact C4n (by omega)
theorem C3v {a b:C7} (ha:Y1 a) (hb:Y1 b): ∃r,A5J a b=some r/\A9u a b=some r/\r.2=decide (wv a*wv b<340282366920938463463374607431768211456)/\Y1 r.1/\(r.2=true->wv r.1=wv a*wv b):=by
 by_cases h:wv a*wv b<340282366920938463463374607431768211456
 ·refine ⟨(ofW (wv a*wv b),true),by rw [B8C ha hb,if_pos h],by rw [C5x ha hb,if_pos h],(D19 h).symm,B3M (D03 ha hb) h,fun _=>B39 _⟩
 ·exact ⟨(⟨0,0⟩,false),by rw [B8C ha hb,if_neg h],by rw [C5x ha hb,if_neg h],(D2b h).symm,by unfold Y1;simp,fun h=>by cases h⟩
theorem C1W (x:G2) (hw:∀w∈x.Af,Y1 w):A67 x=some (vOf (C8P x)):=by
 unfold A67;have et:B6v x.Now=J9 x.Now:=rfl;simp only [et]
 by_cases h1:(0<=x.P/\x.P<=4)/\(0<=x.Now/\x.Now<=16777216)/\(0<=x.Bc/\x.Bc<=x.Now)/\(x.Af.length:Int)=x.P+1
 ·rw [D2k.2 fun h=>(B2C x).1 h h1,D17];unfold B1R;have hp:x.P=(x.P.toNat:Int):=by omega
  have H:=C3o (f:=fun s:Int=>A3e x (A1K (F3 (A3 (A3 (x.Now-x.Bc)+1)))) s) x.P.toNat (B6N x) 2 (some 0)
   (fun i g1 g2=>by
    unfold A3e;have ew:A3 ((i:Int)-1)=((i-1:Nat):Int):=by rw [D5]<;>omega
    have es:A3 ((i:Int)+1)=((i+1:Nat):Int):=by rw [D5]<;>omega
    obtain ⟨o1,o2⟩:=C3F h1;have oi:=hw _ (A7U (show i<x.Af.length by omega))
    have oj:=hw _ (A7U (show i-1<x.Af.length by omega))
    obtain ⟨r,m1,m2,m3,m4,m5⟩:=C3v oj o1;rw [D19 (by omega:(i:Int)<=x.P),D18,ew,es,I5 (by omega),I5 (by omega),C5N]
    simp only [D14,m1,C5L oj oi];rw [o2] at m3 m5;unfold B6N
    by_cases q1:wv (el x.Af (i-1))<=wv (el x.Af i)
    ·rw [D2b (by omega),D17,m3]
     by_cases q2:wv (el x.Af (i-1))*(x.Now-x.Bc+1)<340282366920938463463374607431768211456
     ·have q3:=m5 (by rw [m3];exact D19 q2)
      rw [D19 q2];simp only [G8,D14,D2F,C5L oi m4,q3];refine L1 ?_;rw [D16];simp only [q1,q2,true_and,true_implies,forall_const];omega
     ·rw [D2b q2];simp only [G6,D14,D2z,D17];exact ⟨fun h=>absurd ⟨q1,fun h=>absurd h q2⟩ h,fun _=>trivial⟩
    ·rw [D19 (by omega),D18]
     exact ⟨fun _=>rfl,fun h=>absurd (fun h2=>q1 h2.1) h⟩)
   (by
    unfold A3e;rw [D2b (by omega),D17])
  by_cases h2: ∀i,1<=i->i<=x.P.toNat-> ¬B6N x i
  ·rw [H.2 h2,Q3];exact ⟨h1,fun i a b=>D2Z fun h=>h2 i a (by omega) h⟩
  ·rw [H.1,I7]
   ·exact fun h=>h2 fun i a b c=>c (h.2 i a (by omega))
   ·exact D2Z fun hn=>h2 fun i a b c=>hn ⟨i,a,b,c⟩
 ·rw [(B2C x).2 h1,D18,I7 fun h=>h1 h.1]
theorem C0v (x:G2) (hw:∀w∈x.Af,Y1 w):A57 x=some (vOf (C8P x)):=by
 unfold A57;simp only []
 by_cases h1:(0<=x.P/\x.P<=4)/\(0<=x.Now/\x.Now<=16777216)/\(0<=x.Bc/\x.Bc<=x.Now)/\(x.Af.length:Int)=x.P+1
 ·rw [D2k.2 fun h=>(B2C x).1 h h1,D17];unfold B0l;have hp:x.P=(x.P.toNat:Int):=by omega
  have H:=C3o (f:=fun s:Int=>A2N x s) x.P.toNat (B6N x) 2 (some 0)
   (fun i g1 g2=>by
    unfold A2N;have ew:A3 ((i:Int)-1)=((i-1:Nat):Int):=by rw [D5]<;>omega
    have es:A3 ((i:Int)+1)=((i+1:Nat):Int):=by rw [D5]<;>omega
    obtain ⟨o1,o2⟩:=C3F h1;have oi:=hw _ (A7U (show i<x.Af.length by omega))
    have oj:=hw _ (A7U (show i-1<x.Af.length by omega))
    obtain ⟨r,m1,m2,m3,m4,m5⟩:=C3v oj o1;rw [D19 (by omega:(i:Int)<=x.P),D18,ew,es,I5 (by omega),I5 (by omega),D14]
    simp only [m2,D14,D0Q oi oj];rw [o2] at m3 m5;unfold B6N
    by_cases q1:wv (el x.Af (i-1))<=wv (el x.Af i)
    ·rw [D2b (by omega),m3]
     by_cases q2:wv (el x.Af (i-1))*(x.Now-x.Bc+1)<340282366920938463463374607431768211456
     ·have q3:=m5 (by rw [m3];exact D19 q2)
      rw [D19 q2];simp only [D2h,G8,D14,D2F,D2v,C7f oi m4,q3];refine L1 ?_;rw [D16];simp only [q1,q2,true_and,true_implies,forall_const];omega
     ·rw [D2b q2];simp only [D2h,Bool.and_false,G6,D14,D2z,Bool.or_false,D17];exact ⟨fun h=>absurd ⟨q1,fun h=>absurd h q2⟩ h,fun _=>trivial⟩
    ·rw [D19 (by omega)]
     simp only [D2g,D2z,G6,D14,D2O,D18];exact ⟨fun _=>trivial,fun h=>absurd (fun h2=>q1 h2.1) h⟩)
   (by
    unfold A2N;rw [D2b (by omega),D17])
  by_cases h2: ∀i,1<=i->i<=x.P.toNat-> ¬B6N x i
  ·rw [H.2 h2,Q3];exact ⟨h1,fun i a b=>D2Z fun h=>h2 i a (by omega) h⟩
  ·rw [H.1,I7]
   ·exact fun h=>h2 fun i a b c=>c (h.2 i a (by omega))
   ·exact D2Z fun hn=>h2 fun i a b c=>hn ⟨i,a,b,c⟩
 ·rw [(B2C x).2 h1,D18,I7 fun h=>h1 h.1]
theorem D0u (l:List C7) (hl:l.length<=maxLen):A1H l l=some true:=by
 unfold A1H;rw [D2H,D17];unfold A6x;refine (M0 (f:=fun s:Int=>A0K l l s) l.length (fun _=>False) false (some true) (fun i hi _=>⟨fun h=>h.elim,fun _=> ?_⟩) (fun _=> ?_)).2 fun _ _ h=>h
 ·unfold A0K;rw [D19 (by omega:(i:Int)<(l.length:Int)),D18,I5 hi]
  simp [Q9 hi hl]
 ·unfold A0K;rw [D2b (D2x _),D17]
theorem B7H (x:G2) (hl:x.Af.length<=maxLen):A56 x x=some true:=by
 unfold A56;simp [D0u _ hl]
def C8O (x:J7):Prop:=((1<=(x.Bg.length:Int)/\(x.Bg.length:Int)<=64)/\(0<=x.Now/\x.Now<=16777216))/\
 ∀i,i<x.Bg.length->(0<=el x.Bg i/\el x.Bg i<=1099511627776)/\(x.Now<(i:Int)->el x.Bg i=0)
theorem C0f (x:J7) (hl:x.Bg.length<=maxLen):A5P x=some (vOf (C8O x)):=by
 unfold A5P
 by_cases h1:(1<=(x.Bg.length:Int)/\(x.Bg.length:Int)<=64)/\(0<=x.Now/\x.Now<=16777216)
 ·have e:((((decide ((x.Bg.length:Int)<(1:Int)))||(decide ((x.Bg.length:Int)>(64:Int))))||(decide (x.Now<(0:Int))))||(decide (x.Now>(16777216:Int))))=false:=by
   rw [D2k];simp only [D2f,D16,Ne];omega
  rw [e,D17];unfold B0e;have H:=M0 (f:=fun s:Int=>A2G x s) x.Bg.length (fun i=> ¬((0<=el x.Bg i/\el x.Bg i<=1099511627776)/\(x.Now<(i:Int)->el x.Bg i=0))) 2 (some 0)
   (fun i hi _=>by
    unfold A2G;rw [D19 (by omega:(i:Int)<(x.Bg.length:Int)),D18,I5 hi,D14,Q9 hi hl]
    refine L1 ?_;simp only [D2f,D2c,D16,bne_iff_ne];omega)
   (fun _=>by
    unfold A2G;rw [D2b (D2x _),D17])
  by_cases h2: ∀i,i<x.Bg.length->(0<=el x.Bg i/\el x.Bg i<=1099511627776)/\(x.Now<(i:Int)->el x.Bg i=0)
  ·rw [H.2 fun i hi hn=>hn (h2 i hi),Q3 ⟨h1,h2⟩]
  ·rw [H.1 (Y5 h2),I7 fun h=>h2 h.2]
 ·have e:((((decide ((x.Bg.length:Int)<(1:Int)))||(decide ((x.Bg.length:Int)>(64:Int))))||(decide (x.Now<(0:Int))))||(decide (x.Now>(16777216:Int))))=true:=by
   simp only [D2f,D16];omega
  rw [e,D18,I7 fun h=>h1 h.1]
theorem C0w (x:J7) (hl:x.Bg.length<=maxLen):A59 x=some (vOf (C8O x)):=by
 unfold A59;simp only []
 by_cases h1:(1<=(x.Bg.length:Int)/\(x.Bg.length:Int)<=64)/\(0<=x.Now/\x.Now<=16777216)
 ·have e:(((decide ((x.Bg.length:Int)<(1:Int)))||(decide ((x.Bg.length:Int)>(64:Int))))||(!(J9 x.Now)))=false:=by
   rw [(A9E _).2 h1.2,D2k];simp only [D2f,D16,Ne,D2g,Bool.false_eq_true,or_false,false_or];omega
  rw [e,D17];unfold B0m;have H:=M0 (f:=fun s:Int=>A2O x s) x.Bg.length (fun i=> ¬((0<=el x.Bg i/\el x.Bg i<=1099511627776)/\(x.Now<(i:Int)->el x.Bg i=0))) 2 (some 0)
   (fun i hi _=>by
    unfold A2O;rw [D19 (by omega:(i:Int)<(x.Bg.length:Int)),D18,I5 hi,D14,Q9 hi hl]
    refine L1 ?_;simp only [D2f,D2c,D16,bne_iff_ne];omega)
   (fun _=>by
    unfold A2O;rw [D2b (D2x _),D17])
  by_cases h2: ∀i,i<x.Bg.length->(0<=el x.Bg i/\el x.Bg i<=1099511627776)/\(x.Now<(i:Int)->el x.Bg i=0)
  ·rw [H.2 fun i hi hn=>hn (h2 i hi),Q3 ⟨h1,h2⟩]
  ·rw [H.1 (Y5 h2),I7 fun h=>h2 h.2]
 ·have e:(((decide ((x.Bg.length:Int)<(1:Int)))||(decide ((x.Bg.length:Int)>(64:Int))))||(!(J9 x.Now)))=true:=by
   simp only [D2f,D16,D2q];rw [D2k,Ne,A9E];omega
  rw [e,D18,I7 fun h=>h1 h.1]
def C8N (x:E5):Prop:=(((1<=x.W/\x.W<=1048576)/\(1<=x.Cap/\x.Cap<=65536)/\(0<=x.Now/\x.Now<=16777216))/\(x.Av.length:Int)<=x.Cap)/\
 ∀i,i<x.Av.length->(G9 x.Now x.W (el x.Av i).T=true/\ -4096<=(el x.Av i).V/\(el x.Av i).V<=4096)/\
  (1<=i->(el x.Av (i-1)).T<(el x.Av i).T/\X4 x.Bj (el x.Av i).V (el x.Av (i-1)).V=false)
theorem C2q (m:Bool) (a b:Int):A79 m a b= !X4 m b a:=by
 cases m
 ·show (false||decide (a<b))= !decide (b<=a)
  rw [D2v,D2p];simp
 ·show (decide (a>b)||false)= !decide (b>=a)
  rw [Bool.or_false,D2p];simp
theorem C8J (a b c:Int):A7V a b c=M2 a b c:=by
 rw [D2p,A01];unfold A7V;simp;omega
theorem B8j (x:E5) (hl:x.Av.length<=maxLen):A38 x=some (vOf (C8N x)):=by
 unfold A38;simp only [C8J]
 by_cases h1:((1<=x.W/\x.W<=1048576)/\(1<=x.Cap/\x.Cap<=65536)/\(0<=x.Now/\x.Now<=16777216))/\(x.Av.length:Int)<=x.Cap
 ·rw [(A01 _ _ _).2 h1.1,D2b (by omega),D2g,D2v,D17]
  unfold A8z;have H:=M0 (f:=fun s:Int=>A1s x s) x.Av.length (fun i=> ¬((G9 x.Now x.W (el x.Av i).T=true/\ -4096<=(el x.Av i).V/\(el x.Av i).V<=4096)/\
    (1<=i->(el x.Av (i-1)).T<(el x.Av i).T/\X4 x.Bj (el x.Av i).V (el x.Av (i-1)).V=false))) 2 (some 0)
   (fun i hi _=>by
    unfold A1s;rw [D19 (by omega:(i:Int)<(x.Av.length:Int)),D18,I5 hi,D14,Q9 hi hl]
    simp only [B1d]
    by_cases g1:G9 x.Now x.W (el x.Av i).T=true/\ -4096<=(el x.Av i).V/\(el x.Av i).V<=4096
    ·have e:(((!(G9 x.Now x.W (el x.Av i).T))||(decide ((el x.Av i).V<(-4096:Int))))||(decide ((el x.Av i).V>(4096:Int))))=false:=by
      rw [g1.1,D2k];simp only [D2f,D16,Ne,D2g,Bool.false_eq_true,or_false,false_or];omega
     rw [e,D17];rcases i with _|i
     ·have e4:decide (((0:Nat):Int)>0)=false:=rfl;rw [e4];simp only [D2z,G6,D14,D17];exact ⟨fun h=>absurd ⟨g1,fun h=>absurd h (by decide)⟩ h,fun _=>trivial⟩
     ·have e4:decide (((i+1:Nat):Int)>0)=true:=D19 (by omega)
      rw [e4,A10 (by omega) (Nat.le_of_lt hi) hl,D2L,I5 (by omega)]
      simp only [G8,D14,D2F]
      by_cases g2:(el x.Av i).T>=(el x.Av (i+1)).T
      ·simp only [g2,decide_true,D2O,D2g,G6,D14,D18];refine ⟨fun _=>trivial,fun h=>absurd (fun h2=> ?_) h⟩;have:=(h2.2 (by omega)).1
       omega
      ·simp only [g2,decide_false,D2v,D2h,G8,D14];refine L1 ?_;simp only [g1,true_and,show 1<=i+1 from by omega,true_implies]
       have:(el x.Av i).T<(el x.Av (i+1)).T:=by omega
       simp [this]
    ·have e:(((!(G9 x.Now x.W (el x.Av i).T))||(decide ((el x.Av i).V<(-4096:Int))))||(decide ((el x.Av i).V>(4096:Int))))=true:=by
      cases hv:G9 x.Now x.W (el x.Av i).T with
      |false=>rfl
      |true=>rw [hv] at g1;simp only [true_and] at g1;simp only [D2f,D16];omega
     rw [e,D18];exact ⟨fun _=>rfl,fun h=>absurd (fun h2=>g1 h2.1) h⟩)
   (fun _=>by
    unfold A1s;rw [D2b (D2x _),D17])
  by_cases h2: ∀i,i<x.Av.length->(G9 x.Now x.W (el x.Av i).T=true/\ -4096<=(el x.Av i).V/\(el x.Av i).V<=4096)/\
    (1<=i->(el x.Av (i-1)).T<(el x.Av i).T/\X4 x.Bj (el x.Av i).V (el x.Av (i-1)).V=false)
  ·rw [H.2 fun i hi hn=>hn (h2 i hi),Q3 ⟨h1,h2⟩]
  ·rw [H.1 (Y5 h2),I7 fun h=>h2 h.2]
 ·have e:((!(M2 x.W x.Cap x.Now))||(decide ((x.Av.length:Int)>x.Cap)))=true:=by
   rw [D2f,D2q,D2k,Ne,A01,D16];omega
  rw [e,D18,I7 fun h=>h1 h.1]
theorem C0x (x:E5) (hl:x.Av.length<=maxLen):A6b x=some (vOf (C8N x)):=by
 unfold A6b;simp only []
 by_cases h1:((1<=x.W/\x.W<=1048576)/\(1<=x.Cap/\x.Cap<=65536)/\(0<=x.Now/\x.Now<=16777216))/\(x.Av.length:Int)<=x.Cap
 ·rw [(A01 _ _ _).2 h1.1,D2b (by omega),D2g,D2v,D17]
  unfold B0n;have H:=M0 (f:=fun s:Int=>A2P x s) x.Av.length (fun i=> ¬((G9 x.Now x.W (el x.Av i).T=true/\ -4096<=(el x.Av i).V/\(el x.Av i).V<=4096)/\
    (1<=i->(el x.Av (i-1)).T<(el x.Av i).T/\X4 x.Bj (el x.Av i).V (el x.Av (i-1)).V=false))) 2 (some 0)
   (fun i hi _=>by
    unfold A2P;rw [D19 (by omega:(i:Int)<(x.Av.length:Int)),D18,I5 hi,D14,Q9 hi hl]
    simp only [C2q,Bool.not_not]
    by_cases g1:G9 x.Now x.W (el x.Av i).T=true/\ -4096<=(el x.Av i).V/\(el x.Av i).V<=4096
    ·rw [g1.1,(A2Y _).2 g1.2];rcases i with _|i
     ·have e4:decide (((0:Nat):Int)>0)=false:=rfl;rw [e4];simp only [D2g,Bool.or_false,D2h,Bool.and_false,D2z,G6,D14,D17];exact ⟨fun h=>absurd ⟨⟨trivial,g1.2⟩,fun h=>absurd h (by decide)⟩ h,fun _=>trivial⟩
     ·have e4:decide (((i+1:Nat):Int)>0)=true:=D19 (by omega)
      rw [e4,A10 (by omega) (Nat.le_of_lt hi) hl,D2L,I5 (by omega)]
      simp only [D2g,Bool.or_false,D2h,G8,D14,D2F,D2v]
      by_cases g2:(el x.Av i).T>=(el x.Av (i+1)).T
      ·simp only [g2,decide_true,D2O,D2g,G6,D14,D18];refine ⟨fun _=>trivial,fun h=>absurd (fun h2=> ?_) h⟩;have:=(h2.2 (by omega)).1
       omega
      ·simp only [g2,decide_false,D2v,D2h,G8,D14];refine L1 ?_;simp only [g1,true_and,show 1<=i+1 from by omega,true_implies]
       have:(el x.Av i).T<(el x.Av (i+1)).T:=by omega
       simp [this]
    ·have e:((!(G9 x.Now x.W (el x.Av i).T))||(!(J6 (el x.Av i).V)))=true:=by
      rw [D2f,D2q,D2q,D2k,D2k,Ne,Ne,A2Y];exact D2Z fun h=>g1 ⟨D2Z fun h2=>h (.inl h2),D2Z fun h2=>h (.inr h2)⟩
     rw [e];simp only [D2g,D2z,G6,D14,D2O,D18];exact ⟨fun _=>trivial,fun h=>absurd (fun h2=>g1 h2.1) h⟩)
   (fun _=>by
    unfold A2P;rw [D2b (D2x _),D17])
  by_cases h2: ∀i,i<x.Av.length->(G9 x.Now x.W (el x.Av i).T=true/\ -4096<=(el x.Av i).V/\(el x.Av i).V<=4096)/\
    (1<=i->(el x.Av (i-1)).T<(el x.Av i).T/\X4 x.Bj (el x.Av i).V (el x.Av (i-1)).V=false)
  ·rw [H.2 fun i hi hn=>hn (h2 i hi),Q3 ⟨h1,h2⟩]
  ·rw [H.1 (Y5 h2),I7 fun h=>h2 h.2]
 ·have e:((!(M2 x.W x.Cap x.Now))||(decide ((x.Av.length:Int)>x.Cap)))=true:=by
   rw [D2f,D2q,D2k,Ne,A01,D16];omega
  rw [e,D18,I7 fun h=>h1 h.1]
theorem B7J (x:E5) (hl:x.Av.length<=maxLen):A6a x x=some true:=by
 unfold A6a;simp [B9f _ hl]
end Go.Win
namespace Go.Win
open Go.Vc Go.Dec
def B98 (c:E1):Prop:=(1<=c.Bb/\c.Bb<=11)/\
 ((c.Bb=6\/c.Bb=10->c.W=0)/\(c.Bb=7->1<=c.W/\c.W<=64)/\(c.Bb≠6/\c.Bb≠10/\c.Bb≠7->1<=c.W/\c.W<=1048576))/\
 ((c.Bb=6\/c.Bb=7->c.Cap=0)/\(c.Bb=9->1<=c.Cap/\c.Cap<=64)/\(c.Bb=10->2<=c.Cap/\c.Cap<=65536)/\(c.Bb≠6/\c.Bb≠7/\c.Bb≠9/\c.Bb≠10->1<=c.Cap/\c.Cap<=65536))/\
 ((c.Bb=1\/c.Bb=6\/c.Bb=7\/c.Bb=8\/c.Bb=9->c.K=0)/\(c.Bb≠1/\c.Bb≠6/\c.Bb≠7/\c.Bb≠8/\c.Bb≠9->1<=c.K/\c.K<=64))/\
 ((c.Bb=4->1<=c.Bh/\c.Bh<=4)/\(c.Bb≠4->c.Bh=0))/\
 ((c.Bb=6->0<=c.P/\c.P<=4)/\(c.Bb≠6->c.P=0))/\
 ((c.Bb=9->1<=c.Aj/\c.Aj<=16)/\(c.Bb≠9->c.Aj=0))/\
 ((c.Bb=3->1<=c.Bj/\c.Bj<=1024)/\(c.Bb=8->0<=c.Bj/\c.Bj<=1)/\(c.Bb≠3/\c.Bb≠8->c.Bj=0))
open Classical in
noncomputable def vCf (p:Prop):Int:=if p then 0 else 1
theorem C9I {p:Prop} (h:p):vCf p=0:=by unfold vCf;rw [if_pos h]
theorem C2f {p:Prop} (h:¬p):vCf p=1:=by unfold vCf;rw [if_neg h]
theorem C2Z {b:Bool} {p:Prop} (h:b=true↔ ¬p):cond b (1:Int) 0=vCf p:=by
 cases b with
 |true=>rw [C2f (h.1 rfl)];rfl
 |false=>rw [C9I (D2Z fun hn=>absurd (h.2 hn) (by decide))];rfl
theorem B82 (c:E1):A2D c=vCf (B98 c):=by
 obtain ⟨k,agg,w,kk,cap,p,ch,mx⟩:=c
 by_cases hk:1<=k/\k<=11
 ·have:k=1\/k=2\/k=3\/k=4\/k=5\/k=6\/k=7\/k=8\/k=9\/k=10\/k=11:=by omega
  rcases this with h|h|h|h|h|h|h|h|h|h|h<;>subst h<;>
   simp only [A2D,W9,A2E,A1Z,A0R,A0S,A0T,A0U,A0V,A0W,A0X,
    C2,F8,B3,beq_self_eq_true,D2F,Bool.and_true,D18,D17,show ((1:Int)==2)=false from rfl,show ((1:Int)==3)=false from rfl,show ((1:Int)==4)=false from rfl,show ((1:Int)==5)=false from rfl,show ((1:Int)==6)=false from rfl,show ((1:Int)==7)=false from rfl,show ((1:Int)==8)=false from rfl,show ((1:Int)==9)=false from rfl,show ((1:Int)==10)=false from rfl,show ((1:Int)==11)=false from rfl,
    show ((2:Int)==3)=false from rfl,show ((2:Int)==4)=false from rfl,show ((2:Int)==6)=false from rfl,show ((2:Int)==7)=false from rfl,show ((2:Int)==9)=false from rfl,show ((2:Int)==10)=false from rfl,
    show ((3:Int)==6)=false from rfl,show ((3:Int)==7)=false from rfl,show ((3:Int)==9)=false from rfl,show ((3:Int)==10)=false from rfl,
    show ((4:Int)==3)=false from rfl,show ((4:Int)==6)=false from rfl,show ((4:Int)==7)=false from rfl,show ((4:Int)==9)=false from rfl,show ((4:Int)==10)=false from rfl,
    show ((5:Int)==2)=false from rfl,show ((5:Int)==3)=false from rfl,show ((5:Int)==4)=false from rfl,show ((5:Int)==6)=false from rfl,show ((5:Int)==7)=false from rfl,show ((5:Int)==9)=false from rfl,show ((5:Int)==10)=false from rfl,
    show ((7:Int)==6)=false from rfl,
    show ((8:Int)==2)=false from rfl,show ((8:Int)==3)=false from rfl,show ((8:Int)==4)=false from rfl,show ((8:Int)==5)=false from rfl,show ((8:Int)==6)=false from rfl,show ((8:Int)==7)=false from rfl,show ((8:Int)==9)=false from rfl,show ((8:Int)==10)=false from rfl,show ((8:Int)==11)=false from rfl,
    show ((9:Int)==6)=false from rfl,show ((9:Int)==7)=false from rfl,show ((10:Int)==6)=false from rfl,show ((10:Int)==7)=false from rfl,show ((10:Int)==9)=false from rfl,
    show ((11:Int)==2)=false from rfl,show ((11:Int)==3)=false from rfl,show ((11:Int)==4)=false from rfl,show ((11:Int)==5)=false from rfl,show ((11:Int)==6)=false from rfl,show ((11:Int)==7)=false from rfl,show ((11:Int)==9)=false from rfl,show ((11:Int)==10)=false from rfl,
    show (decide ((1048576:Int)>0))=true from rfl,show (decide ((64:Int)>0))=true from rfl,show (decide ((0:Int)>0))=false from rfl]<;>
   refine C2Z ?_<;>unfold B98<;>simp [-not_and,-Classical.not_imp]<;>omega
 ·rw [C2f fun h=>hk h.1];have e: ∀n:Int,1<=n->n<=11->(k==n)=false:=fun n h1 h2=>by rw [D2U];omega
  unfold A2D W9;simp only [e 6 (by decide) (by decide),e 7 (by decide) (by decide),e 9 (by decide) (by decide),e 10 (by decide) (by decide),e 3 (by decide) (by decide),e 4 (by decide) (by decide),e 2 (by decide) (by decide),e 5 (by decide) (by decide),e 11 (by decide) (by decide),e 8 (by decide) (by decide),e 1 (by decide) (by decide),D17]
theorem C0D (c:E1):A3N c=vCf (B98 c):=by
 obtain ⟨k,agg,w,kk,cap,p,ch,mx⟩:=c;have emay:M2 w cap 0=true↔(1<=w/\w<=1048576)/\(1<=cap/\cap<=65536):=by rw [A01];omega
 have emk:=Z5 kk;have eag:A0a agg=true↔1<=agg/\agg<=4:=by unfold A0a;simp
 by_cases hk:1<=k/\k<=11
 ·have:k=1\/k=2\/k=3\/k=4\/k=5\/k=6\/k=7\/k=8\/k=9\/k=10\/k=11:=by omega
  rcases this with h|h|h|h|h|h|h|h|h|h|h<;>subst h<;>
   simp only [A3N,B23,A3M,P6,A8b,A04,beq_self_eq_true,D2F,Bool.and_true,D18,D17,show ((2:Int)==1)=false from rfl,show ((3:Int)==1)=false from rfl,show ((3:Int)==2)=false from rfl,show ((3:Int)==5)=false from rfl,show ((3:Int)==11)=false from rfl,
    show ((4:Int)==1)=false from rfl,show ((4:Int)==2)=false from rfl,show ((4:Int)==3)=false from rfl,show ((4:Int)==5)=false from rfl,show ((4:Int)==11)=false from rfl,
    show ((5:Int)==1)=false from rfl,show ((5:Int)==2)=false from rfl,
    show ((6:Int)==1)=false from rfl,show ((6:Int)==2)=false from rfl,show ((6:Int)==3)=false from rfl,show ((6:Int)==4)=false from rfl,show ((6:Int)==5)=false from rfl,show ((6:Int)==11)=false from rfl,
    show ((7:Int)==1)=false from rfl,show ((7:Int)==2)=false from rfl,show ((7:Int)==3)=false from rfl,show ((7:Int)==4)=false from rfl,show ((7:Int)==5)=false from rfl,show ((7:Int)==6)=false from rfl,show ((7:Int)==11)=false from rfl,
    show ((8:Int)==1)=false from rfl,show ((8:Int)==2)=false from rfl,show ((8:Int)==3)=false from rfl,show ((8:Int)==4)=false from rfl,show ((8:Int)==5)=false from rfl,show ((8:Int)==6)=false from rfl,show ((8:Int)==7)=false from rfl,show ((8:Int)==11)=false from rfl,
    show ((9:Int)==1)=false from rfl,show ((9:Int)==2)=false from rfl,show ((9:Int)==3)=false from rfl,show ((9:Int)==4)=false from rfl,show ((9:Int)==5)=false from rfl,show ((9:Int)==6)=false from rfl,show ((9:Int)==7)=false from rfl,show ((9:Int)==8)=false from rfl,show ((9:Int)==11)=false from rfl,
    show ((10:Int)==1)=false from rfl,show ((10:Int)==2)=false from rfl,show ((10:Int)==3)=false from rfl,show ((10:Int)==4)=false from rfl,show ((10:Int)==5)=false from rfl,show ((10:Int)==6)=false from rfl,show ((10:Int)==7)=false from rfl,show ((10:Int)==8)=false from rfl,show ((10:Int)==9)=false from rfl,show ((10:Int)==11)=false from rfl,
    show ((11:Int)==1)=false from rfl,show ((11:Int)==2)=false from rfl,show ((11:Int)==5)=false from rfl]<;>
   refine C2Z ?_<;>unfold B98<;>simp only [D2f,D2q,D2V,D2E,D2U,D2l,ne_eq]<;>
   (try simp only [D2k,ne_eq,emay,emk,eag])<;>simp [-not_and,-Classical.not_imp]<;>omega
 ·rw [C2f fun h=>hk h.1];have e: ∀n:Int,1<=n->n<=11->(k==n)=false:=fun n h1 h2=>by rw [D2U];omega
  unfold A3N A8b A04;simp only [e 6 (by decide) (by decide),e 7 (by decide) (by decide),e 9 (by decide) (by decide),e 10 (by decide) (by decide),e 3 (by decide) (by decide),e 4 (by decide) (by decide),e 2 (by decide) (by decide),e 5 (by decide) (by decide),e 11 (by decide) (by decide),e 8 (by decide) (by decide),e 1 (by decide) (by decide),D17,D2h,Bool.or_true,D18]
end Go.Win
namespace Go.Win
open Go.Vc Go.Dec
def U5 (n k:Int):Int:=max 1 (n/k)
theorem C30 {n k:Int} (hn:0<=n) (hk:1<=k):Int.tdiv n k=n/k/\0<=n/k/\n/k<=n:=by
 refine ⟨Int.tdiv_eq_ediv_of_nonneg hn,Int.ediv_nonneg hn (by omega), ?_⟩
 exact Int.ediv_le_self k hn
theorem C5r {n k:Int} (hn:0<=n/\n<=1099511627776) (hk:1<=k):A8l n k=some (U5 n k):=by
 obtain ⟨h1,h2,h3⟩:=C30 hn.1 hk;unfold A8l U5;rw [D19 (by omega),A0Q,h1,D5 (by omega) (by omega)]
 congr 1
 show (if n/k>1 then n/k else 1)=max 1 (n/k)
 split<;>omega
theorem D02 {x:D8} (hn:0<=x.N/\x.N<=1099511627776) (hk:1<=x.K):C0y x=some (U5 x.N x.K):=C5r hn hk
theorem C1m {n k:Int} (hn:0<=n/\n<=1099511627776) (hk:1<=k):1<=U5 n k/\U5 n k<=1099511627776/\(1<=n->U5 n k<=n):=by
 obtain ⟨h1,h2,h3⟩:=C30 hn.1 hk;unfold U5;omega
def V6 (l:List E3) (i:Nat):Int:=((l.take i).map (·.G)).sum
theorem B2N (l:List E3):V6 l 0=0:=by simp [V6]
theorem B2M {l:List E3} {i:Nat} (h:i<l.length):V6 l (i+1)=V6 l i+(el l i).G:=by
 unfold V6;rw [List.take_add_one,A8L h];simp
def B4I (l:List E3) (M:Int) (i:Nat):Prop:=(-4096<=(el l i).V/\(el l i).V<=4096)/\(1<=(el l i).G/\0<=(el l i).D/\(el l i).G+(el l i).D<=M)/\(1<=i->(el l (i-1)).V<=(el l i).V)
def B1H (x:D8):Prop:=(1<=x.K/\x.K<=64)/\(2<=x.Cap/\x.Cap<=65536)/\(0<=x.N/\x.N<=1099511627776)/\(x.Aq.length:Int)<=x.Cap
def C8T (x:D8):Prop:=B1H x/\(x.Aq.length=0↔x.N=0)/\(∀i,i<x.Aq.length->B4I x.Aq (U5 x.N x.K) i)/\
 (0<x.Aq.length->(el x.Aq 0).G=1/\(el x.Aq 0).D=0/\(el x.Aq (x.Aq.length-1)).D=0/\V6 x.Aq x.Aq.length=x.N)
theorem C3V {l:List E3} {M:Int} (hM:M<=1099511627776) (hl:l.length<=65536): ∀i,i<=l.length->(∀j,j<i->B4I l M j)->(i:Int)<=V6 l i/\V6 l i<=i*1099511627776:=by
 intro i
 induction i with
 |zero=>intro _ _;rw [B2N];omega
 |succ i ih=>
  intro hi h;have h1:=ih (by omega) fun j hj=>h j (by omega)
  have h2:=(h i (by omega)).2.1
  rw [B2M (by omega)]
  omega
theorem B8A (x:D8):A4l x=some (vOf (C8T x)):=by
 unfold A4l
 by_cases h1:B1H x
 ·have h1' :=h1;unfold B1H at h1';have e:(((((((decide (x.K<(1:Int)))||(decide (x.K>(64:Int))))||(decide (x.Cap<(2:Int))))||(decide (x.Cap>(65536:Int))))||(decide (x.N<(0:Int))))||(decide (x.N>(1099511627776:Int))))||(decide ((x.Aq.length:Int)>x.Cap)))=false:=by
   rw [D2k];simp only [D2f,D16,Ne];omega
  rw [e,D17];have hl:x.Aq.length<=65536:=by omega
  have hm:x.Aq.length<=maxLen:=by rw [N2];omega
  by_cases hN:x.N=0
  ·have eN:(x.N==0)=true:=by rw [hN];rfl
   rw [eN,D18]
   by_cases h0:0<x.Aq.length
   ·rw [D19 (by omega),D18,I7]
    intro h;have:=h.2.1;omega
   ·rw [D2b (by omega),D17,Q3]
    exact ⟨h1,⟨fun _=>hN,fun _=>by omega⟩,fun i hi=>absurd hi (by omega),fun h=>absurd h h0⟩
  ·have eN:(x.N==0)=false:=by rw [D2U];exact hN
   rw [eN,D17]
   by_cases h0:0<x.Aq.length
   ·have e0:((x.Aq.length:Int)==0)=false:=by rw [D2U];omega
    rw [e0,D17,C5r h1'.2.2.1 h1'.1.1,D14];have hM:=C1m (n:=x.N) (k:=x.K) h1'.2.2.1 h1'.1.1;unfold A8E;have H:=A2s (f:=fun s:Int×Int=>A1A x (U5 x.N x.K) s.1 s.2) (fun i=>(V6 x.Aq i,(i:Int))) 0 x.Aq.length (Nat.zero_le _) (fun i=> ¬B4I x.Aq (U5 x.N x.K) i) 2
     (some (vOf ((el x.Aq 0).G=1/\(el x.Aq 0).D=0/\(el x.Aq (x.Aq.length-1)).D=0/\V6 x.Aq x.Aq.length=x.N)))
     (fun i _ hi hp=>by
      simp only [];unfold A1A;have hs:=C3V (l:=x.Aq) hM.2.1 hl i (by omega) fun j hj=>D2Z fun hn=>hp j (Nat.zero_le _) hj hn
      rw [D19 (by omega:(i:Int)<(x.Aq.length:Int)),D18,I5 hi,D14,Q9 hi hm]
      unfold B4I
      by_cases g1: -4096<=(el x.Aq i).V/\(el x.Aq i).V<=4096
      ·have e1:(decide ((el x.Aq i).V< -4096)||decide ((el x.Aq i).V>4096))=false:=by simp;omega
       rw [e1];have key: ∀P:Prop,((((decide ((el x.Aq i).G<(1:Int)))||(decide ((el x.Aq i).D<(0:Int))))||(decide ((el x.Aq i).G>(U5 x.N x.K))))||(decide ((el x.Aq i).D>(A3 ((U5 x.N x.K)-(el x.Aq i).G)))))=true↔ ¬(1<=(el x.Aq i).G/\0<=(el x.Aq i).D/\(el x.Aq i).G+(el x.Aq i).D<=U5 x.N x.K):=by
        intro _;simp only [D2f,D16]
        by_cases q:1<=(el x.Aq i).G/\(el x.Aq i).G<=U5 x.N x.K
        ·rw [D5 (by omega) (by omega)];omega
        ·omega
       have keyw:(1<=(el x.Aq i).G/\0<=(el x.Aq i).D/\(el x.Aq i).G+(el x.Aq i).D<=U5 x.N x.K)->A3 (V6 x.Aq i+(el x.Aq i).G)=V6 x.Aq (i+1):=by
        intro q;rw [B2M hi,D5]<;>omega
       have fin: ∀(c1:Bool) (P1:Prop),(c1=true↔ ¬P1)->
         (¬((-4096<=(el x.Aq i).V/\(el x.Aq i).V<=4096)/\(1<=(el x.Aq i).G/\0<=(el x.Aq i).D/\(el x.Aq i).G+(el x.Aq i).D<=U5 x.N x.K)/\P1)->
          (cond c1 (some (.inr 2)) (cond ((((decide ((el x.Aq i).G<(1:Int)))||(decide ((el x.Aq i).D<(0:Int))))||(decide ((el x.Aq i).G>(U5 x.N x.K))))||(decide ((el x.Aq i).D>(A3 ((U5 x.N x.K)-(el x.Aq i).G))))) (some (.inr 2)) (some (.inl (A3 (V6 x.Aq i+(el x.Aq i).G),((i+1:Nat):Int))))):Option ((Int×Int)⊕Int))=some (.inr 2))/\
         (¬ ¬((-4096<=(el x.Aq i).V/\(el x.Aq i).V<=4096)/\(1<=(el x.Aq i).G/\0<=(el x.Aq i).D/\(el x.Aq i).G+(el x.Aq i).D<=U5 x.N x.K)/\P1)->
          (cond c1 (some (.inr 2)) (cond ((((decide ((el x.Aq i).G<(1:Int)))||(decide ((el x.Aq i).D<(0:Int))))||(decide ((el x.Aq i).G>(U5 x.N x.K))))||(decide ((el x.Aq i).D>(A3 ((U5 x.N x.K)-(el x.Aq i).G))))) (some (.inr 2)) (some (.inl (A3 (V6 x.Aq i+(el x.Aq i).G),((i+1:Nat):Int))))):Option ((Int×Int)⊕Int))=some (.inl (V6 x.Aq (i+1),((i+1:Nat):Int)))):=by
        intro c1 P1 hc
        by_cases q:1<=(el x.Aq i).G/\0<=(el x.Aq i).D/\(el x.Aq i).G+(el x.Aq i).D<=U5 x.N x.K
        ·rw [D2k.2 fun h=>(key True).1 h q,D17,keyw q];refine L1 ?_;rw [hc];exact ⟨fun h1 h2=>h1 h2.2.2,fun h1 h2=>h1 ⟨g1,q,h2⟩⟩
        ·rw [(key True).2 q,D18];have:(cond c1 (some (.inr 2)) (some (.inr 2)):Option ((Int×Int)⊕Int))=some (.inr 2):=by cases c1<;>rfl
         rw [this];exact ⟨fun _=>rfl,fun h=>absurd (fun h2=>q h2.2.1) h⟩
       rcases i with _|i
       ·have e4:decide (((0:Nat):Int)>0)=false:=rfl;rw [e4];simp only [Bool.and_false,G6,D14,D2z,Bool.or_false];exact fin false _ ⟨fun h=>(by cases h),fun h=>absurd (fun h2=>absurd h2 (by decide)) h⟩
       ·have e4:decide (((i+1:Nat):Int)>0)=true:=D19 (by omega)
        rw [e4,A10 (by omega) (Nat.le_of_lt hi) hm,D2L,I5 (by omega)]
        simp only [D2h,Bool.and_true,G8,D14,D2F,D2v];refine fin _ _ ?_;rw [D16];constructor
        ·intro h1 h2;have:=h2 (by omega);omega
        ·intro h1;exact Int.not_le.1 fun h2=>h1 fun _=>h2
      ·have e1:(decide ((el x.Aq i).V< -4096)||decide ((el x.Aq i).V>4096))=true:=by simp;omega
       rw [e1];simp only [D2g,D2z,G6,D14,D2O,D18];exact ⟨fun _=>trivial,fun h=>absurd (fun h2=>g1 h2.1) h⟩)
     (fun hp=>by
      simp only [];unfold A1A;rw [D2b (D2x _),D17]
      congr 1
      rw [B1b h0,D14,A10 h0 (D2M _) hm,I5 (by omega),D14]
      by_cases q:(el x.Aq 0).G=1/\(el x.Aq 0).D=0/\(el x.Aq (x.Aq.length-1)).D=0/\V6 x.Aq x.Aq.length=x.N
      ·rw [Q3 q];obtain ⟨q1,q2,q3,q4⟩:=q;rw [q1,q2,q3,q4];simp
      ·rw [I7 q];have:(((V6 x.Aq x.Aq.length !=x.N||(el x.Aq 0).G !=1)||(el x.Aq 0).D !=0)||(el x.Aq (x.Aq.length-1)).D !=0)=true:=by
        simp only [D2f,bne_iff_ne];omega
       rw [this];rfl)
    rw [show ((0:Int),(0:Int))=(V6 x.Aq 0,((0:Nat):Int)) from by rw [B2N];rfl]
    by_cases h2: ∀i,i<x.Aq.length->B4I x.Aq (U5 x.N x.K) i
    ·rw [H.2 fun i _ hi hn=>hn (h2 i hi)]
     congr 1
     by_cases q:(el x.Aq 0).G=1/\(el x.Aq 0).D=0/\(el x.Aq (x.Aq.length-1)).D=0/\V6 x.Aq x.Aq.length=x.N
     ·rw [Q3 q,Q3];exact ⟨h1,⟨fun h=>by omega,fun h=>absurd h hN⟩,h2,fun _=>q⟩
     ·rw [I7 q,I7];exact fun h=>q (h.2.2.2 h0)
    ·obtain ⟨i,hi,hn⟩:=Y5 h2;rw [H.1 ⟨i,Nat.zero_le _,hi,hn⟩,I7];exact fun h=>h2 h.2.2.1
   ·have e0:((x.Aq.length:Int)==0)=true:=by rw [show x.Aq.length=0 by omega];rfl
    rw [e0,D18,I7];intro h;have:=h.2.1;omega
 ·have e:(((((((decide (x.K<(1:Int)))||(decide (x.K>(64:Int))))||(decide (x.Cap<(2:Int))))||(decide (x.Cap>(65536:Int))))||(decide (x.N<(0:Int))))||(decide (x.N>(1099511627776:Int))))||(decide ((x.Aq.length:Int)>x.Cap)))=true:=by
   unfold B1H at h1;simp only [D2f,D16];omega
  rw [e,D18,I7 fun h=>h1 h.1]
theorem C0z (x:D8):A6g x=some (vOf (C8T x)):=by
 unfold A6g;simp only []
 by_cases h1:B1H x/\(x.Aq.length=0↔x.N=0)
 ·have h1' :=h1.1;unfold B1H at h1';have en:(A32 x.K x.Cap).2=0:=by
   unfold A32;have:(((!(L6 x.K))||(decide (x.Cap<(2:Int))))||(decide (x.Cap>(65536:Int))))=false:=by
    rw [(Z5 _).2 h1'.1];simp;omega
   simp only [this,D17]
  have eb:(((x.Aq.length:Int)==0)==(x.N==0))=true:=by
   rw [D2Y,D2p,D2Y,D2Y];have:=h1.2;omega
  have e:((((((A32 x.K x.Cap).2 !=0)||(decide (x.N<(0:Int))))||(decide (x.N>(1099511627776:Int))))||(decide ((x.Aq.length:Int)>x.Cap)))||(!(((x.Aq.length:Int)==(0:Int))==(x.N==(0:Int)))))=false:=by
   rw [en,eb,D2k];simp only [D2f,D16,Ne,D2H,D2g,Bool.false_eq_true,or_false,false_or];omega
  rw [e,D17];have hl:x.Aq.length<=65536:=by omega
  have hm:x.Aq.length<=maxLen:=by rw [N2];omega
  have hM:=C1m (n:=x.N) (k:=x.K) h1'.2.2.1 h1'.1.1;unfold B0p
  let good:Nat->Prop:=fun i=>B4I x.Aq (U5 x.N x.K) i/\(i=0->(el x.Aq i).G=1/\(el x.Aq i).D=0)/\(i=x.Aq.length-1->(el x.Aq i).D=0)/\V6 x.Aq (i+1)<=x.N
  have H:=A2s (f:=fun s:Int×Int=>A2Q x s.1 s.2) (fun i=>(V6 x.Aq i,(i:Int))) 0 x.Aq.length (Nat.zero_le _) (fun i=> ¬good i) 2
   (some (vOf (V6 x.Aq x.Aq.length=x.N)))
   (fun i _ hi hp=>by
    simp only [];unfold A2Q;have hs:=C3V (l:=x.Aq) hM.2.1 hl i (by omega) fun j hj=>(D2Z fun hn=>hp j (Nat.zero_le _) hj hn:good j).1
    rw [D19 (by omega:(i:Int)<(x.Aq.length:Int)),D18,I5 hi,D14,Q9 hi hm,A10 (by omega) (D2M _) hm,D02 h1'.2.2.1 h1'.1.1]
    simp only [];have el0:((i:Int)==0)=decide (i=0):=by rw [D2p,D2Y,D16];omega
    have ell:((i:Int)==((x.Aq.length-1:Nat):Int))=decide (i=x.Aq.length-1):=by rw [D2p,D2Y,D16];omega
    rw [el0,ell];have hN1:1<=x.N:=by have:=h1.2;omega
    have hMN:=hM.2.2 hN1
    by_cases gA:(-4096<=(el x.Aq i).V/\(el x.Aq i).V<=4096)/\(1<=(el x.Aq i).G/\(el x.Aq i).G<=x.N)/\(0<=(el x.Aq i).D/\(el x.Aq i).D<=x.N)
    ·have eA:(((((!(J6 (el x.Aq i).V))||(decide ((el x.Aq i).G<(1:Int))))||(decide ((el x.Aq i).G>x.N)))||(decide ((el x.Aq i).D<(0:Int))))||(decide ((el x.Aq i).D>x.N)))=false:=by
      rw [(A2Y _).2 gA.1,D2k];simp only [D2f,D16,Ne,D2g,Bool.false_eq_true,or_false,false_or];omega
     rw [eA,D5 (n:=(el x.Aq i).G+(el x.Aq i).D) (by omega) (by omega),D5 (n:=V6 x.Aq i+(el x.Aq i).G) (by omega) (by omega),<-B2M hi]
     simp only [D2h,G8,D14,D2v];have fin: ∀(c1:Bool),(c1=true↔(1<=i/\(el x.Aq (i-1)).V>(el x.Aq i).V))->
       (¬good i->(cond (((decide ((el x.Aq i).G+(el x.Aq i).D>U5 x.N x.K)||c1)||(decide (i=0)&&((el x.Aq i).G !=1||(el x.Aq i).D !=0)))||(decide (i=x.Aq.length-1)&&(el x.Aq i).D !=0)) (some (.inr 2))
        (cond (decide (V6 x.Aq (i+1)>x.N)) (some (.inr 2)) (some (.inl (V6 x.Aq (i+1),((i+1:Nat):Int))))):Option ((Int×Int)⊕Int))=some (.inr 2))/\
       (¬ ¬good i->(cond (((decide ((el x.Aq i).G+(el x.Aq i).D>U5 x.N x.K)||c1)||(decide (i=0)&&((el x.Aq i).G !=1||(el x.Aq i).D !=0)))||(decide (i=x.Aq.length-1)&&(el x.Aq i).D !=0)) (some (.inr 2))
        (cond (decide (V6 x.Aq (i+1)>x.N)) (some (.inr 2)) (some (.inl (V6 x.Aq (i+1),((i+1:Nat):Int))))):Option ((Int×Int)⊕Int))=some (.inl (V6 x.Aq (i+1),((i+1:Nat):Int)))):=by
      intro c1 hc;rw [A2C];refine L1 ?_;simp only [D2f,D2c,D16,bne_iff_ne,hc];show _↔ ¬(B4I x.Aq (U5 x.N x.K) i/\_);unfold B4I;omega
     rcases i with _|i
     ·have e4:decide (((0:Nat):Int)>0)=false:=rfl;rw [e4];simp only [Bool.and_false,G6,D14,D2z];exact fin false ⟨fun h=>(by cases h),fun h=>(by omega)⟩
     ·have e4:decide (((i+1:Nat):Int)>0)=true:=D19 (by omega)
      rw [e4,A10 (by omega) (Nat.le_of_lt hi) hm,D2L,I5 (by omega)]
      by_cases gB:(el x.Aq (i+1)).G+(el x.Aq (i+1)).D>U5 x.N x.K
      ·rw [D19 gB];simp only [D2g,D2z,G6,D14,D2O,D18];refine ⟨fun _=>trivial,fun h=>absurd (fun h2:good (i+1)=> ?_) h⟩;have:=h2.1.2.1;omega
      ·have fin' :=fin (decide ((el x.Aq i).V>(el x.Aq (i+1)).V)) (by rw [D16,D2L];omega)
       rw [D2b gB] at fin' ⊢;simp only [D2h,D2F,G8,D14];exact fin'
    ·have eA:(((((!(J6 (el x.Aq i).V))||(decide ((el x.Aq i).G<(1:Int))))||(decide ((el x.Aq i).G>x.N)))||(decide ((el x.Aq i).D<(0:Int))))||(decide ((el x.Aq i).D>x.N)))=true:=by
      simp only [D2f,D16,D2q];rw [D2k,Ne,A2Y];omega
     rw [eA];simp only [D2g,D2O,D2z,G6,D14,D18];refine ⟨fun _=>trivial,fun h=>absurd (fun h2:good i=>gA ?_) h⟩;have:=h2.1;unfold B4I at this;omega)
   (fun hp=>by
    simp only [];unfold A2Q;rw [D2b (D2x _),D17]
    congr 1
    by_cases q:V6 x.Aq x.Aq.length=x.N
    ·rw [Q3 q,q,D2H,D17]
    ·rw [I7 q,(bne_iff_ne).2 q,D18])
  rw [show ((0:Int),(0:Int))=(V6 x.Aq 0,((0:Nat):Int)) from by rw [B2N];rfl]
  by_cases h2: ∀i,i<x.Aq.length->good i
  ·rw [H.2 fun i _ hi hn=>hn (h2 i hi)]
   congr 1
   by_cases q:V6 x.Aq x.Aq.length=x.N
   ·rw [Q3 q,Q3];exact ⟨h1.1,h1.2,fun i hi=>(h2 i hi).1,fun h0=>⟨((h2 0 h0).2.1 rfl).1,((h2 0 h0).2.1 rfl).2,(h2 (x.Aq.length-1) (by omega)).2.2.1 rfl,q⟩⟩
   ·rw [I7 q,I7];intro h
    by_cases h0:0<x.Aq.length
    ·exact q (h.2.2.2 h0).2.2.2
    ·have e0:x.Aq.length=0:=by omega
     rw [e0,B2N] at q;have:=h1.2.1 e0;omega
  ·obtain ⟨i,hi,hn⟩:=Y5 h2;rw [H.1 ⟨i,Nat.zero_le _,hi,hn⟩,I7];intro h;apply hn;have h0:0<x.Aq.length:=by omega
   have h5:=h.2.2.2 h0;refine ⟨h.2.2.1 i hi,fun e=>by subst e;exact ⟨h5.1,h5.2.1⟩,fun e=>by subst e;exact h5.2.2.1, ?_⟩
   have mono: ∀k,i+1+k<=x.Aq.length->V6 x.Aq (i+1)<=V6 x.Aq (i+1+k):=by
    intro k
    induction k with
    |zero=>intro _;exact Int.le_refl _
    |succ k ih=>
     intro hk;have g1:=ih (by omega)
     have g2:=(h.2.2.1 (i+1+k) (by omega)).2.1
     have g3:V6 x.Aq (i+1+(k+1))=_:=B2M (l:=x.Aq) (i:=i+1+k) (by omega)
     omega
   have:=mono (x.Aq.length-(i+1)) (by omega)
   rw [show i+1+(x.Aq.length-(i+1))=x.Aq.length by omega,h5.2.2.2] at this
   exact this
 ·have e:((((((A32 x.K x.Cap).2 !=0)||(decide (x.N<(0:Int))))||(decide (x.N>(1099511627776:Int))))||(decide ((x.Aq.length:Int)>x.Cap)))||(!(((x.Aq.length:Int)==(0:Int))==(x.N==(0:Int)))))=true:=by
   by_cases hk:(1<=x.K/\x.K<=64)/\(2<=x.Cap/\x.Cap<=65536)
   ·by_cases hb:(x.Aq.length=0↔x.N=0)
    ·simp only [D2f,D16];unfold B1H at h1;omega
    ·have:(((x.Aq.length:Int)==0)==(x.N==0))=false:=by
      rw [D2U];intro h;have:=congrArg (· =true) h;simp only [D2Y,eq_iff_iff] at this;omega
     rw [this];simp
   ·have en:(A32 x.K x.Cap).2=1:=by
     unfold A32;have:(((!(L6 x.K))||(decide (x.Cap<(2:Int))))||(decide (x.Cap>(65536:Int))))=true:=by
      simp only [D2f,D16,D2q];rw [D2k,Ne,Z5];omega
     simp only [this,D18]
    rw [en];rfl
  rw [e,D18,I7 fun h=>h1 ⟨h.1,h.2.1⟩]
theorem B7L (x:D8) (hl:x.Aq.length<=maxLen):A6f x x=some true:=by
 unfold A6f;simp only [D2H,Bool.or_false,D17];unfold A9U;refine (M0 (f:=fun s:Int=>A3J x x s) x.Aq.length (fun _=>False) false (some true) (fun i hi _=>⟨fun h=>h.elim,fun _=> ?_⟩) (fun _=> ?_)).2 fun _ _ h=>h
 ·unfold A3J;rw [D19 (by omega:(i:Int)<(x.Aq.length:Int)),D18,I5 hi]
  simp [Q9 hi hl]
 ·unfold A3J;rw [D2b (D2x _),D17]
end Go.Win
namespace Go.Win
open Go.Vc Go.Dec
theorem bla (f:Nat): ∀x:Nat,x<2^f->x≠0->1<=Lib.bitLenAux f x/\2^(Lib.bitLenAux f x-1)<=x/\x<2^Lib.bitLenAux f x:=by
 induction f with
 |zero=>intro x h h0;simp at h;exact absurd h h0
 |succ f ih=>
  intro x h h0;unfold Lib.bitLenAux;rw [if_neg h0]
  by_cases h1:x/2=0
  ·have:x=1:=by omega
   subst this;have e:Lib.bitLenAux f (1/2)=0:=by cases f<;>simp [Lib.bitLenAux]
   rw [e];simp
  ·have:=ih (x/2) (by rw [Nat.pow_succ] at h;omega) h1
   obtain ⟨b1,b2,b3⟩:=this
   generalize Lib.bitLenAux f (x/2)=b at*
   refine ⟨by omega, ?_, ?_⟩
   ·obtain ⟨c,rfl⟩: ∃c,b=c+1:=⟨b-1,by omega⟩
    rw [show 1+(c+1)-1=c+1 by omega,Nat.pow_succ]
    rw [show c+1-1=c by omega] at b2
    omega
   ·rw [Nat.add_comm,Nat.pow_succ];omega
theorem C1H {x:Int} (h0:0<x) (h1:x<18446744073709551616): ∃b:Nat,A2H x=some (b:Int)/\1<=b/\b<=64/\(2:Int)^(b-1)<=x/\x<2^b:=by
 obtain ⟨n,rfl⟩:=Int.eq_ofNat_of_zero_le (by omega:0<=x)
 have hb:=bla 64 n (by have:(2:Nat)^64=18446744073709551616:=by decide
                       omega) (by omega)
 refine ⟨Lib.bitLen n, ?_,hb.1, ?_, ?_, ?_⟩
 ·unfold A2H;rw [K3 (by rw [D16];omega),D2K]
 ·have:Lib.bitLen n-1<64:=by
   refine (Nat.pow_lt_pow_iff_right (a:=2) (by decide)).1 (Nat.lt_of_le_of_lt hb.2.1 ?_)
   have:(2:Nat)^64=18446744073709551616:=by decide
   omega
  omega
 ·have:=hb.2.1
  exact_mod_cast this
 ·have:=hb.2.2
  exact_mod_cast this
theorem C8G {a b k:Nat} (hb:b<2^k) (h:a*2^k+b<18446744073709551616):ior .u64 ((a*2^k:Nat):Int) (b:Int)=((a*2^k+b:Nat):Int):=by
 show IntKind.u64.wrap _=_;have hbits:IntKind.u64.bits=64:=rfl;rw [hbits,IntKind.wrap_u64,BitVec.toNat_or,BitVec.toNat_ofInt,BitVec.toNat_ofInt];have e1:((((a*2^k:Nat):Int)%((2^64:Nat):Int)).toNat)=a*2^k:=by omega
 have e2:(((b:Int)%((2^64:Nat):Int)).toNat)=b:=by omega
 rw [e1,e2];have e3:a*2^k|||b=a*2^k+b:=by
  rw [<-Nat.shiftLeft_eq,Nat.shiftLeft_add_eq_or_of_lt hb]
 rw [e3];omega
theorem C0j (x:Int) {k:Nat} (hk:k<=64):R5 .u64 x (k:Int)=(x*2^k)%18446744073709551616:=by
 show IntKind.u64.wrap (x*2^(min (k:Int).toNat IntKind.u64.bits))=_;have:min (k:Int).toNat IntKind.u64.bits=k:=by
  have hbits:IntKind.u64.bits=64:=rfl;rw [hbits,D2K];omega
 rw [this,IntKind.wrap_u64]
theorem C5k (x:Int) {k:Nat} (hk:k<=64):A0E .u64 x (k:Int)=x/2^k:=by
 show x.fdiv (2^(min (k:Int).toNat IntKind.u64.bits))=_;have:min (k:Int).toNat IntKind.u64.bits=k:=by
  have hbits:IntKind.u64.bits=64:=rfl;rw [hbits,D2K];omega
 rw [this,Int.fdiv_eq_ediv_of_nonneg _ (Int.le_of_lt (Int.pow_pos (by decide)))]
theorem A8Q (k:Nat):(0:Int)<2^k:=Int.pow_pos (by decide)
end Go.Win
namespace Go.Win
open Go.Vc Go.Dec
def P4 (l:List F6) (i:Nat):F6:=l.getD i default
theorem C8y {l:List F6} {i:Nat} (h:i<l.length):l[i]? =some (P4 l i):=by
 unfold P4;rw [R4 h];simp [List.getD,R4 h]
theorem A7w {l:List F6} {i:Nat} (h:i<l.length):E4 l (i:Int)=some (P4 l i):=by
 rw [A0Y,C8y h]
def A7J (l:List F6) (N:Int) (i:Nat):Bool:=
 ((decide ((P4 l i).Bk<1)||decide ((P4 l i).Bk>(P4 l i).Bj))||decide ((P4 l i).Bj>N))||
 (decide (0<i)&&((decide ((P4 l (i-1)).V>(P4 l i).V)||decide ((P4 l (i-1)).Bk>=(P4 l i).Bk))||decide ((P4 l (i-1)).Bj>=(P4 l i).Bj)))
def A4A (l:List F6) (N:Int):Bool:=decide (0<l.length)&&((P4 l 0).Bj !=1||(P4 l (l.length-1)).Bk !=N)
def A9p (r:H5):Bool:= !(((decide (r.N<0))||(decide (r.N>1099511627776)))||(!(((r.Ad.length:Int)==0)==(r.N==0))))
def okB (r:H5):Bool:=A9p r&& !((List.range r.Ad.length).any (A7J r.Ad r.N)||A4A r.Ad r.N)
theorem B9s {i n:Nat} (h0:0<i) (h:i<=n) (hm:n<=maxLen):A3 ((i:Int)-1)=((i-1:Nat):Int):=by
 rw [N2] at hm;rw [D5]<;>omega
theorem B5h (r:H5) (hl:r.Ad.length<=1048576):A4v r=some (cond (okB r) 0 2):=by
 have hm:r.Ad.length<=maxLen:=by rw [N2];omega
 unfold A4v;cases hh:A9p r with
 |false=>
  have h1:(((decide (r.N<0))||(decide (r.N>1099511627776)))||(!(((r.Ad.length:Int)==0)==(r.N==0))))=true:=nF (by unfold A9p at hh;exact hh)
  rw [h1,D18];unfold okB;rw [hh]
  rfl
 |true=>
  have h1:(((decide (r.N<0))||(decide (r.N>1099511627776)))||(!(((r.Ad.length:Int)==0)==(r.N==0))))=false:=Go.Dec.nT (by unfold A9p at hh;exact hh)
  rw [h1,D17];unfold B1T;have:=A24 (f:=fun s:Int=>A3g r s) (n:=r.Ad.length) (bad:=A7J r.Ad r.N) (E:=(2:Int)) (A:=some (cond (A4A r.Ad r.N) 2 0))
   (fun i hi=>by
    unfold A3g A7J;simp only [Int.ofNat_lt,hi,decide_true,D18,A7w hi,D14,A1e hi hm]
    by_cases h0:0<i
    ·rw [B9s h0 (Nat.le_of_lt hi) hm,A7w (by omega),D19 (by omega:(i:Int)>0),D19 h0]
     simp only [D14,D18,D2F];cases ((decide ((P4 r.Ad i).Bk<1)||decide ((P4 r.Ad i).Bk>(P4 r.Ad i).Bj))||decide ((P4 r.Ad i).Bj>r.N)) with
     |true=>rfl
     |false=>
      simp only [D17,D2v]
    ·rw [D2b (by omega: ¬(i:Int)>0),D2b h0]
     simp only [D17,D2z,Bool.or_false])
   (by
    unfold A3g A4A;simp only [D2x,decide_false,D17]
    by_cases h0:0<r.Ad.length
    ·rw [D19 (by omega:(r.Ad.length:Int)>0),D19 h0,B9s h0 (D2M _) hm]
     have e0:E4 r.Ad (0:Int)=some (P4 r.Ad 0):=A7w h0;rw [e0,A7w (by omega)]
     simp only [G8,D14,D2F];cases hb:(P4 r.Ad 0).Bj !=1 with
     |true=>simp
     |false=>
      simp only [D2h,G8,D14,D2v];cases (P4 r.Ad (r.Ad.length-1)).Bk !=r.N<;>rfl
    ·rw [D2b (by omega: ¬(r.Ad.length:Int)>0),D2b h0]
     simp)
  rw [show ((0:Int))=((0:Nat):Int) from rfl] at this⊢;rw [this];unfold okB;rw [hh];cases (List.range r.Ad.length).any (A7J r.Ad r.N)<;>cases A4A r.Ad r.N<;>rfl
theorem B6A (r:H5) (hl:r.Ad.length<=1048576):A3K r=some (cond (okB r) 0 2):=by
 have hm:r.Ad.length<=maxLen:=by rw [N2];omega
 unfold A3K;cases hh:A9p r with
 |false=>
  have h1:(((decide (r.N<0))||(decide (r.N>1099511627776)))||(!(((r.Ad.length:Int)==0)==(r.N==0))))=true:=nF (by unfold A9p at hh;exact hh)
  rw [h1,D18];unfold okB;rw [hh]
  rfl
 |true=>
  have h1:(((decide (r.N<0))||(decide (r.N>1099511627776)))||(!(((r.Ad.length:Int)==0)==(r.N==0))))=false:=Go.Dec.nT (by unfold A9p at hh;exact hh)
  rw [h1,D17];unfold B0q;have:=A24 (f:=fun s:Int=>A2R r s) (n:=r.Ad.length)
   (bad:=fun i=>A7J r.Ad r.N i||((decide (i=0)&&(P4 r.Ad i).Bj !=1)||(decide (i=r.Ad.length-1)&&(P4 r.Ad i).Bk !=r.N))) (E:=(2:Int)) (A:=some 0)
   (fun i hi=>by
    unfold A2R A7J;have hlast:A3 ((r.Ad.length:Int)-1)=((r.Ad.length-1:Nat):Int):=B9s (by omega) (D2M _) hm
    have e1:((i:Int)==0)=decide (i=0):=by rw [D2p,D2Y,D16];omega
    have e2:((i:Int)==((r.Ad.length-1:Nat):Int))=decide (i=r.Ad.length-1):=by rw [D2p,D2Y,D16];omega
    simp only [Int.ofNat_lt,hi,decide_true,D18,A7w hi,D14,A1e hi hm,hlast,e1,e2]
    by_cases h0:0<i
    ·rw [B9s h0 (Nat.le_of_lt hi) hm,A7w (by omega),D19 (by omega:(i:Int)>0),D19 h0]
     simp only [D14,D18,D2F];cases ((decide ((P4 r.Ad i).Bk<1)||decide ((P4 r.Ad i).Bk>(P4 r.Ad i).Bj))||decide ((P4 r.Ad i).Bj>r.N))<;>
      cases (decide (i=0)&&(P4 r.Ad i).Bj !=1)<;>cases (decide (i=r.Ad.length-1)&&(P4 r.Ad i).Bk !=r.N)<;>
      cases ((decide ((P4 r.Ad (i-1)).V>(P4 r.Ad i).V)||decide ((P4 r.Ad (i-1)).Bk>=(P4 r.Ad i).Bk))||decide ((P4 r.Ad (i-1)).Bj>=(P4 r.Ad i).Bj))<;>rfl
    ·rw [D2b (by omega: ¬(i:Int)>0),D2b h0]
     simp only [D17,D2z,Bool.or_false];cases ((decide ((P4 r.Ad i).Bk<1)||decide ((P4 r.Ad i).Bk>(P4 r.Ad i).Bj))||decide ((P4 r.Ad i).Bj>r.N))<;>
      cases (decide (i=0)&&(P4 r.Ad i).Bj !=1)<;>cases (decide (i=r.Ad.length-1)&&(P4 r.Ad i).Bk !=r.N)<;>rfl)
   (by
    unfold A2R;simp only [D2x,decide_false,D17])
  rw [show ((0:Int))=((0:Nat):Int) from rfl] at this⊢;rw [this];have hany:(List.range r.Ad.length).any (fun i=>A7J r.Ad r.N i||((decide (i=0)&&(P4 r.Ad i).Bj !=1)||(decide (i=r.Ad.length-1)&&(P4 r.Ad i).Bk !=r.N)))=
    ((List.range r.Ad.length).any (A7J r.Ad r.N)||A4A r.Ad r.N):=by
   rw [D2p,D2f,B3b,B3b];constructor
   ·rintro ⟨i,hi,h⟩;simp only [D2f,D2c,D16] at h;rcases h with h|⟨rfl,h⟩|⟨rfl,h⟩
    ·exact .inl ⟨i,hi,h⟩
    ·right;unfold A4A;simp only [D2c,D16,D2f];exact ⟨hi, .inl h⟩
    ·right;unfold A4A;simp only [D2c,D16,D2f];exact ⟨by omega, .inr h⟩
   ·rintro (⟨i,hi,h⟩|h)
    ·exact ⟨i,hi,by rw [h];rfl⟩
    ·unfold A4A at h;simp only [D2c,D16,D2f] at h;rcases h with ⟨h0,h|h⟩
     ·exact ⟨0,h0,by rw [h];simp⟩
     ·exact ⟨r.Ad.length-1,by omega,by rw [h];simp⟩
  rw [hany];unfold okB;rw [hh];cases ((List.range r.Ad.length).any (A7J r.Ad r.N)||A4A r.Ad r.N)<;>rfl
structure OkR (l:List F6) (N:Int):Prop where
 n0:0<=N
 n1:N<=1099511627776
 nil:l.length=0↔N=0
 rng: ∀i,i<l.length->1<=(P4 l i).Bk/\(P4 l i).Bk<=(P4 l i).Bj/\(P4 l i).Bj<=N
 up: ∀i,i+1<l.length->(P4 l i).V<=(P4 l (i+1)).V/\(P4 l i).Bk<(P4 l (i+1)).Bk/\(P4 l i).Bj<(P4 l (i+1)).Bj
 first:0<l.length->(P4 l 0).Bj=1
 last:0<l.length->(P4 l (l.length-1)).Bk=N
theorem C0n (r:H5):okB r=true↔OkR r.Ad r.N:=by
 unfold okB A9p A4A;have hany:(List.range r.Ad.length).any (A7J r.Ad r.N)=false↔ ∀i,i<r.Ad.length->A7J r.Ad r.N i=false:=by
  rw [List.any_eq_false];constructor
  ·intro h i hi;have:=h i (List.mem_range.2 hi);simpa using this
  ·intro h i hi;have:=h i (List.mem_range.1 hi);simpa using this
 simp only [D2c,D2q,D2E,D2l,Bool.not_eq_false',D2Y,hany,D2V,bne_eq_false_iff_eq,gt_iff_lt];constructor
 ·rintro ⟨⟨⟨h1,h2⟩,h3⟩,h4,h5⟩;have h3' :r.Ad.length=0↔r.N=0:=by
   have:=congrArg (· =true) h3;simp only [D2Y,eq_iff_iff] at this;omega
  refine ⟨by omega,by omega,h3',fun i hi=> ?_,fun i hi=> ?_,fun h0=> ?_,fun h0=> ?_⟩
  ·have:=h4 i hi;unfold A7J at this;simp only [D2E,D2l] at this;omega
  ·have:=h4 (i+1) hi;unfold A7J at this;simp only [D2E,D2l,D2V,D2L] at this;omega
  ·rcases h5 with h5|h5
   ·omega
   ·exact h5.1
  ·rcases h5 with h5|h5
   ·omega
   ·exact h5.2
 ·intro h;refine ⟨⟨⟨by have:=h.n0;omega,by have:=h.n1;omega⟩, ?_⟩,fun i hi=> ?_, ?_⟩
  ·have:=h.nil;rw [D2p,D2Y,D2Y];omega
  ·unfold A7J;have h1:=h.rng i hi;simp only [D2E,D2l,D2V];refine ⟨by omega, ?_⟩
   by_cases h0:0<i
   ·right;have:=h.up (i-1) (by omega)
    rw [show i-1+1=i by omega] at this
    omega
   ·exact .inl h0
  ·by_cases h0:0<r.Ad.length
   ·exact .inr ⟨h.first h0,h.last h0⟩
   ·exact .inl h0
def B2y (l:List F6):Nat->Int
 |0=>1
 |i+1=>if i=0 then 1 else if (P4 l i).Bj-(P4 l (i-1)).Bk>B2y l i then (P4 l i).Bj-(P4 l (i-1)).Bk else B2y l i
theorem C3d (r:H5) (h:OkR r.Ad r.N) (hl:r.Ad.length<=1048576) (h0:0<r.Ad.length):A9a r 1 1=some (B2y r.Ad r.Ad.length):=by
 have hm:r.Ad.length<=maxLen:=by rw [N2];omega
 unfold A9a;obtain ⟨v,hv,hQ⟩:=A8O (f:=fun s:Int×Int=>B1S r s.1 s.2)
  (fun s=> ∃i:Nat,1<=i/\i<=r.Ad.length/\s=(B2y r.Ad i,(i:Int)))
  (fun s=>r.Ad.length-s.2.toNat) (fun v=>v=B2y r.Ad r.Ad.length) (1,1) ⟨1,D2M _,h0,rfl⟩ (by
   rintro _ ⟨i,h1,hi,rfl⟩;simp only;unfold B1S
   by_cases hlt:i<r.Ad.length
   ·left;have r1:=h.rng i hlt;have r2:=h.rng (i-1) (by omega)
    have n1:=h.n1;simp only [Int.ofNat_lt,hlt,decide_true,D18,A7w hlt,D14,A1e hlt hm,B9s h1 hi hm,A7w (show i-1<r.Ad.length by omega)]
    refine ⟨_,rfl,⟨i+1,by omega,hlt, ?_⟩,by show r.Ad.length-((i:Int)+1).toNat<r.Ad.length-(i:Int).toNat;omega⟩
    rw [D5 (by omega) (by omega)]
    have:B2y r.Ad (i+1)=B8m (B2y r.Ad i) ((P4 r.Ad i).Bj-(P4 r.Ad (i-1)).Bk):=by
     show (if i=0 then (1:Int) else _)=_
     rw [if_neg (by omega)]
    rw [this]
    rfl
   ·right;have hn: ¬((i:Int)<(r.Ad.length:Int)):=by omega
    have hi2:i=r.Ad.length:=by omega
    subst hi2;simp only [hn,decide_false,D17];exact ⟨_,rfl,rfl⟩)
 rw [hv,hQ]
def C3c (l:List F6):Int:=if l.length=0 then 0 else B2y l l.length
theorem C80 (r:H5) (hl:r.Ad.length<=1048576):B4N r=some (cond (okB r) (C3c r.Ad) 0):=by
 unfold B4N;rw [B5h r hl];simp only [D14];cases hb:okB r with
 |false=>rfl
 |true=>
  have h:=(C0n r).1 hb;simp only [D18,D2H,D2v];unfold C3c
  by_cases h0:r.Ad.length=0
  ·rw [if_pos h0,h0];rfl
  ·have c:((r.Ad.length:Int)==0)=false:=by rw [D2U];omega
   rw [c,D17,if_neg h0,C3d r h hl (by omega)]
theorem C7V: @B6z= @A9a:=rfl
theorem D0d (r:H5) (hl:r.Ad.length<=1048576):B2E r=some (cond (okB r) (C3c r.Ad) 0):=by
 unfold B2E;rw [B6A r hl];simp only [D14];cases hb:okB r with
 |false=>rfl
 |true=>
  have h:=(C0n r).1 hb;simp only [D18,D2H,D2v];unfold C3c
  by_cases h0:r.Ad.length=0
  ·rw [if_pos h0,h.nil.1 h0];rfl
  ·have c:(r.N==0)=false:=by rw [D2U];intro hc;exact h0 (h.nil.2 hc)
   rw [c,D17,if_neg h0,C7V,C3d r h hl (by omega)]
end Go.Win
namespace Go.Win
open Go.Vc Go.Dec
def inB (x:Int) (b:Nat):Prop:=(b=0/\x=0)\/(1<=b/\(2:Int)^(b-1)<=x/\x<2^b)
theorem C69: ∀(b:Nat) (x c:Int),inB x b->x<=9223372036854775807->0<=c->c+b<=1000->A7a x c=some (c+b):=by
 intro b
 induction b with
 |zero=>
  intro x c h hx hc hb;have hx0:x=0:=by
   rcases h with h|h
   ·exact h.2
   ·omega
  unfold A7a;rw [L4 (r:=c)]
  ·congr 1;omega
  ·unfold A5T;rw [hx0];rfl
 |succ b ih=>
  intro x c h hx hc hb;have h' :(2:Int)^b<=x/\x<2^(b+1):=by
   rcases h with h|h
   ·omega
   ·exact ⟨by simpa using h.2.1,h.2.2⟩
  have hp:=A8Q b;have hin:inB (x/2) b:=by
   by_cases h0:b=0
   ·subst h0;left;have e1:(2:Int)^0=1:=rfl;have e2:(2:Int)^(0+1)=2:=rfl;omega
   ·right;have e1:(2:Int)^b=2^(b-1)*2:=by rw [<-Int.pow_succ];congr 1;omega
    have e2:(2:Int)^(b+1)=2^b*2:=Int.pow_succ 2 b;omega
  have hst:A5T x c=some (.inl (x/2,c+1)):=by
   unfold A5T;rw [D19 (by omega),D18,Int.tdiv_eq_ediv_of_nonneg (by omega),D5 (by omega) (by omega),D5 (by omega) (by omega)]
  have:=ih (x/2) (c+1) hin (by omega) (by omega) (by omega)
  unfold A7a at this⊢;rw [U8 hst,this]
  congr 1
  omega
theorem C9T {x:Int} (h0:0<x) (h1:x<=9223372036854775807): ∃b:Nat,B4H x=some (b:Int)/\B0Q x=some (b:Int)/\1<=b/\b<=64/\(2:Int)^(b-1)<=x/\x<2^b:=by
 obtain ⟨b,g1,g2,g3,g4,g5⟩:=C1H h0 (by omega)
 refine ⟨b, ?_, ?_,g2,g3,g4,g5⟩
 ·unfold B4H;rw [D2b (by omega),D17,A3t (by omega) (by omega),g1];rfl
 ·unfold B0Q;rw [C69 b x 0 (.inr ⟨g2,g4,g5⟩) h1 (by omega) (by omega)]
  congr 1;omega
theorem C5A {k c:Int} (hk:1<=k/\k<=64) (hc:1<=c/\c<=65536): ∃b,A69 k c=some b/\A8a k c=some b/\1<=b/\b<=65536:=by
 obtain ⟨b,g1,g2,g3,g4,g5,g6⟩:=C9T (x:=c) (by omega) (by omega)
 have hm:=A2t (a:=2*k) (A:=128) (b:=(b:Int)+2) (B:=66) (by omega) (by omega)
 have hm2:1*1<=2*k*((b:Int)+2):=Int.mul_le_mul (by omega) (by omega) (by decide) (by omega)
 refine ⟨2*k*(b+2), ?_, ?_,by omega,by omega⟩
 ·unfold A69;have e:A1c 1 k c 0=true:=by unfold A1c;simp;omega
  simp only [e,D2g,D17,g1,D14];rw [D5 (n:=2*k) (by omega) (by omega),D5 (n:=(b:Int)+2) (by omega) (by omega),D5 (by omega) (by omega)]
 ·unfold A8a;have e:(((!(L6 k))||(decide (c<(1:Int))))||(decide (c>(65536:Int))))=false:=by
   rw [(Z5 k).2 hk];simp;omega
  simp only [e,D17,g2,D14];rw [D5 (n:=2*k) (by omega) (by omega),D5 (n:=(b:Int)+2) (by omega) (by omega),D5 (by omega) (by omega)]
def plainB (l:List D1):List A9:=l.map fun x=>⟨x.T,x.Aw⟩
theorem A5R (l:List D1):(plainB l).length=l.length:=by simp [plainB]
theorem C7P {l:List D1} {i:Nat} (h:i<l.length):el (plainB l) i=⟨(el l i).T,(el l i).Aw⟩:=by
 rw [B85 (by rw [A5R];exact h),B85 h]
 simp [plainB]
theorem B0P (l:List D1) (hl:l.length<=1048576):A3w l=some (plainB l):=by
 unfold A3w B2p;have H:=A2s (f:=fun s:List A9×Int=>A1M l s.1 s.2) (fun i=>(plainB (l.take i),(i:Int))) 0 l.length (Nat.zero_le _) (fun _=>False) [] (some (plainB l))
  (fun i _ hi _=>by
   refine ⟨fun h=>h.elim,fun _=> ?_⟩;simp only [];unfold A1M;have hm:l.length<=maxLen:=by rw [N2];omega
   rw [D19 (by omega:(i:Int)<(l.length:Int)),D18,I5 hi,D14,Q9 hi hm]
   have e1:plainB (l.take (i+1))=plainB (l.take i)++ [⟨(el l i).T,(el l i).Aw⟩]:=by
    rw [List.take_add_one,A8L hi];simp [plainB]
   have e2:(plainB (l.take i)).length=i:=by rw [A5R,D2w];omega
   rw [e1,e2,D19 (by simp only [D2n,D2A];omega),A0Q])
  (fun _=>by
   simp only [];unfold A1M;rw [D2b (D2x _),D17,List.take_length])
 exact H.2 (fun _ _ _ h=>h)
theorem C3E:A9e=A3w:=rfl
def alS (b:Int):Nat->Int
 |0=>0
 |i+1=>if (2:Int)^i>b+1 then 2*alS b i+((2:Int)^i-1+b-1)/b else alS b i
theorem C9O {b:Int} (hb:1<=b): ∀i:Nat,0<=alS b i/\alS b i<=i*2^i:=by
 intro i
 induction i with
 |zero=>exact ⟨Int.le_refl _,Int.le_refl _⟩
 |succ i ih=>
  have hp:=A8Q i;have e2:(2:Int)^(i+1)=2^i*2:=Int.pow_succ 2 i;have e3:((i+1:Nat):Int)*2^(i+1)=(i:Int)*2^i*2+2^i*2:=by
   rw [e2,Int.natCast_add,Int.add_mul,Int.mul_assoc];simp
  rw [e3];unfold alS;split
  ·have h1:((2:Int)^i-1+b-1)/b<=2^i:=by
    have:((2:Int)^i-1+b-1)/b<2^i+1:=by
     rw [Int.ediv_lt_iff_lt_mul (by omega),Int.add_mul,Int.one_mul]
     have:=Int.mul_le_mul_of_nonneg_left hb (show (0:Int)<=2^i by omega)
     omega
    omega
   have h2:0<=((2:Int)^i-1+b-1)/b:=Int.ediv_nonneg (by omega) (by omega)
   omega
  ·omega
theorem D0b: ∀n:Fin 31,(2:Int)^n.1<=1073741824:=by decide
theorem C6B {i:Nat} (h:i<=30):(2:Int)^i<=1073741824:=D0b ⟨i,by omega⟩
theorem C63 {b:Int} (hb:1<=b) {i:Nat} (hi:i<=30):0<=alS b i/\alS b i<=32212254720:=by
 obtain ⟨h1,h2⟩:=C9O hb i;have hp:=C6B hi;have:=A2t (a:=(i:Int)) (A:=30) (b:=2^i) (B:=1073741824) (by omega) ⟨Int.le_of_lt (A8Q i),hp⟩
 omega
theorem C9W {a b:Int} (ha:0<=a/\a<=4611686018427387904) (hb:1<=b/\b<=4611686018427387904):A86 a b=some ((a+b-1)/b,true):=by
 unfold A86;have e1:((b==0)||((a== -9223372036854775808)&&(b== -1)))=false:=by
  rw [D2k];simp only [D2f,D2c,D2Y,Ne];omega
 rw [e1,D17,D19 (by omega:b≠0),A0Q,A0Q,Int.tdiv_eq_ediv_of_nonneg ha.1,Int.tmod_eq_emod_of_nonneg ha.1]
 have hq:0<=a/b:=Int.ediv_nonneg ha.1 (by omega)
 have hq2:a/b<=a:=Int.ediv_le_self b ha.1;have hr:=Int.emod_nonneg a (show b≠0 by omega)
 have hr2:=Int.emod_lt_of_pos a (show 0<b by omega)
 have hd:=Int.mul_ediv_add_emod a b;rw [D2b (by omega: ¬a<0),D2b (by omega: ¬b<0)]
 by_cases h0:a%b=0
 ·have e2:(a%b !=0&&(false==false))=false:=by rw [h0];rfl
  rw [e2,D17,D5 (by omega) (by omega)]
  have:(a+b-1)/b=a/b:=by
   have e3:a+b-1=(b-1)+b*(a/b):=by omega
   rw [e3,Int.add_mul_ediv_left _ _ (by omega),Int.ediv_eq_zero_of_lt (by omega) (by omega)];omega
  rw [this]
 ·have e2:(a%b !=0&&(false==false))=true:=by rw [D2c];exact ⟨bne_iff_ne.2 h0,rfl⟩
  rw [e2,D18,D5 (n:=a/b) (by omega) (by omega),D5 (by omega) (by omega)]
  have:(a+b-1)/b=a/b+1:=by
   have e3:a+b-1=(a%b-1)+b*(a/b+1):=by rw [Int.mul_add];omega
   rw [e3,Int.add_mul_ediv_left _ _ (by omega),Int.ediv_eq_zero_of_lt (by omega) (by omega)];omega
  rw [this]
theorem B8I {L b:Int} (hL:0<=L/\L<=30) (hb:1<=b/\b<=65536):A5L L b=some (alS b (L.toNat+1))/\A7c L b=some (alS b (L.toNat+1)):=by
 have e:((((decide (L<(0:Int)))||(decide (L>(30:Int))))||(decide (b<(1:Int))))||(decide (b>(65536:Int))))=false:=by
  rw [D2k];simp only [D2f,D16,Ne];omega
 constructor
 ·unfold A5L;rw [e,D17];unfold B0a;have H:=A2s (f:=fun s:Int×Int=>A2A L b s.1 s.2) (fun i=>(alS b i,(i:Int))) 0 (L.toNat+1) (Nat.zero_le _) (fun _=>False) 0 (some (alS b (L.toNat+1)))
   (fun i _ hi _=>by
    refine ⟨fun h=>h.elim,fun _=> ?_⟩;simp only [];unfold A2A;have hp:=C6B (show i<=30 by omega)
    have hp0:=A8Q i;have ha:=C63 hb.1 (show i<=30 by omega)
    have es:A3 ((i:Int)+1)=((i+1:Nat):Int):=by rw [D5]<;>omega
    have ew:decide (0<=F3 (i:Int))=true:=D19 (by rw [A3t]<;>omega)
    rw [D19 (by omega:(i:Int)<=L),D18,ew,A0Q,B9e (by omega) (by omega),D2K,es,D5 (n:=b+1) (by omega) (by omega)]
    by_cases h:(2:Int)^i>b+1
    ·rw [D19 h,D18,D5 (n:=(2:Int)^i-1) (by omega) (by omega),C9W (by omega) (by omega),D14,D5 (n:=2*alS b i) (by omega) (by omega)]
     have h1:0<=((2:Int)^i-1+b-1)/b:=Int.ediv_nonneg (by omega) (by omega)
     have h2:((2:Int)^i-1+b-1)/b<=(2:Int)^i-1+b-1:=Int.ediv_le_self b (by omega)
     simp only [];rw [D5 (by omega) (by omega)]
     have ea:alS b (i+1)=2*alS b i+((2:Int)^i-1+b-1)/b:=by rw [alS,if_pos h]
     rw [ea]
    ·rw [D2b h,D17];have ea:alS b (i+1)=alS b i:=by rw [alS,if_neg h]
     rw [ea])
   (fun _=>by
    simp only [];unfold A2A;rw [D2b (by omega),D17])
  exact H.2 (fun _ _ _ h=>h)
 ·unfold A7c;rw [e,D17];unfold B1W;have H:=A2s (f:=fun s:Int×Int=>A3i L b s.1 s.2) (fun i=>(alS b i,(i:Int))) 0 (L.toNat+1) (Nat.zero_le _) (fun _=>False) 0 (some (alS b (L.toNat+1)))
   (fun i _ hi _=>by
    refine ⟨fun h=>h.elim,fun _=> ?_⟩;simp only [];unfold A3i;have hp:=C6B (show i<=30 by omega)
    have hp0:=A8Q i;have ha:=C63 hb.1 (show i<=30 by omega)
    have es:A3 ((i:Int)+1)=((i+1:Nat):Int):=by rw [D5]<;>omega
    have ew:decide (0<=F3 (i:Int))=true:=D19 (by rw [A3t]<;>omega)
    rw [D19 (by omega:(i:Int)<=L),D18,ew,A0Q,B9e (by omega) (by omega),D2K,es,D5 (n:=b+1) (by omega) (by omega)]
    by_cases h:(2:Int)^i>b+1
    ·have h1:0<=((2:Int)^i-1+b-1)/b:=Int.ediv_nonneg (by omega) (by omega)
     have h2:((2:Int)^i-1+b-1)/b<=(2:Int)^i-1+b-1:=Int.ediv_le_self b (by omega)
     rw [D19 h,D18,D19 (by omega:b≠0),A0Q,D5 (n:=(2:Int)^i-1) (by omega) (by omega),D5 (n:=(2:Int)^i-1+b) (by omega) (by omega),D5 (n:=(2:Int)^i-1+b-1) (by omega) (by omega),
      Int.tdiv_eq_ediv_of_nonneg (by omega),D5 (n:=((2:Int)^i-1+b-1)/b) (by omega) (by omega),D5 (n:=2*alS b i) (by omega) (by omega),D5 (by omega) (by omega)]
     have ea:alS b (i+1)=2*alS b i+((2:Int)^i-1+b-1)/b:=by rw [alS,if_pos h]
     rw [ea]
    ·rw [D2b h,D17];have ea:alS b (i+1)=alS b i:=by rw [alS,if_neg h]
     rw [ea])
   (fun _=>by
    simp only [];unfold A3i;rw [D2b (by omega),D17])
  exact H.2 (fun _ _ _ h=>h)
def B0N (b:Int) (x:D1):Prop:=okB x.Ba=true/\x.Ba.N=2^x.Aw.toNat/\(x.Ba.Ad.length:Int)<=b+1/\A3 (C3c x.Ba.Ad-1)<=alS b (x.Aw.toNat+1)/\
 -4096<=(el x.Ba.Ad 0).V/\(el x.Ba.Ad (x.Ba.Ad.length-1)).V<=4096/\(el x.Ba.Ad 0).V<=x.Bd/\x.Bd<=(el x.Ba.Ad (x.Ba.Ad.length-1)).V
def B6r (l:List D1) (k b:Int):Prop:=(1<=b/\b<=65536)/\A9R (plainB l) k/\ ∀i,i<l.length->B0N b (el l i)
def B1g (l:List D1):Prop:=l.length<=1048576/\ ∀x∈l,x.Ba.Ad.length<=1048576
theorem B9l {l:List D1} {k:Int} (h:A9R (plainB l) k) {i:Nat} (hi:i<l.length):0<=(el l i).Aw/\(el l i).Aw<=30:=by
 have:=h.2.1 i (by rw [A5R];exact hi)
 unfold A3v at this;rw [C7P hi] at this;simp only [] at this;omega
theorem C1t {r:H5} (h:okB r=true) {n:Nat} (hn:r.N=2^n):0<r.Ad.length:=by
 have h1:=(C0n r).1 h;have:=A8Q n;have h2:=h1.nil;omega
theorem C2u (l:List D1) (k b:Int) (hs:B1g l):A7L l k b=some (S1 (B6r l k b)):=by
 have hm:l.length<=maxLen:=by rw [N2];have:=hs.1;omega
 unfold A7L
 by_cases hb:1<=b/\b<=65536
 ·have e:(decide (b<1)||decide (b>65536))=false:=by simp;omega
  rw [e,B0P l hs.1];simp only [D2h,G8,D14,D2v];rw [A9G _ _ (by rw [A5R];exact hm),D14]
  by_cases h2:A9R (plainB l) k
  ·rw [O9 h2,D2g,D17];unfold B2o;have H:=M0 (f:=fun s:Int=>A35 l b s) l.length (fun i=> ¬B0N b (el l i)) false (some true)
    (fun i hi _=>by
     unfold A35;have hv:=B9l h2 hi;have hr:=hs.2 _ (A7U hi);rw [D19 (by omega:(i:Int)<(l.length:Int)),D18,I5 hi,D14,Q9 hi hm]
     generalize el l i=x at hv hr⊢
     have ew:decide (0<=F3 x.Aw)=true:=D19 (by rw [A3t]<;>omega)
     simp only [B5h x.Ba hr,D14,ew,Bool.or_true,A0Q,B9e hv.1 hv.2];have eb1:A3 (b+1)=b+1:=by rw [D5]<;>omega
     rw [eb1];cases hB:okB x.Ba with
     |false=>
      simp only [D17,show ((2:Int) !=0)=true from rfl,D2O,D2g,G6,D14,D18];exact ⟨fun _=>trivial,fun h=>absurd (fun h2:B0N b x=>by have:=h2.1;rw [hB] at this;cases this) h⟩
     |true=>
      simp only [D18,show ((0:Int) !=0)=false from rfl,D2v]
      by_cases g1:x.Ba.N=2^x.Aw.toNat/\(x.Ba.Ad.length:Int)<=b+1
      ·have e1:((x.Ba.N !=2^x.Aw.toNat)||decide ((x.Ba.Ad.length:Int)>b+1))=false:=by
        rw [g1.1,D2H,D2v];exact D2b (by omega)
       rw [e1];have h0:=C1t hB g1.1;have hm2:x.Ba.Ad.length<=maxLen:=by rw [N2];omega
       simp only [D2h,G8,C80 x.Ba hr,D14,hB,D18,(B8I hv hb).1,D2v,B1b h0,A10 h0 (D2M _) hm2,I5 (show x.Ba.Ad.length-1<x.Ba.Ad.length by omega)]
       rw [A2C];refine L1 ?_;unfold B0N;simp only [hB,g1,true_and,D2f,D16];omega
      ·have e1:((x.Ba.N !=2^x.Aw.toNat)||decide ((x.Ba.Ad.length:Int)>b+1))=true:=by
        rw [D2f,bne_iff_ne,D16]
        by_cases q:x.Ba.N=2^x.Aw.toNat
        ·right;have: ¬(x.Ba.Ad.length:Int)<=b+1:=fun h=>g1 ⟨q,h⟩;omega
        ·exact .inl q
       rw [e1];simp only [D2g,G6,D14,D2O,D18];exact ⟨fun _=>trivial,fun h=>absurd (fun h2=>g1 ⟨h2.2.1,h2.2.2.1⟩) h⟩)
    (fun _=>by
     unfold A35;rw [D2b (D2x _),D17])
   by_cases h3: ∀i,i<l.length->B0N b (el l i)
   ·rw [H.2 fun i hi hn=>hn (h3 i hi),O9];exact ⟨hb,h2,h3⟩
   ·rw [H.1 (Y5 h3),K8];exact fun h=>h3 h.2.2
  ·rw [K8 h2,K8 fun h=>h2 h.2.1];rfl
 ·have e:(decide (b<1)||decide (b>65536))=true:=by
   rw [D2p];simp;omega
  rw [e,K8 fun h=>hb h.1];rfl
theorem C4S (l:List D1) (k b:Int) (hs:B1g l):A9g l k b=some (S1 (B6r l k b)):=by
 have hm:l.length<=maxLen:=by rw [N2];have:=hs.1;omega
 unfold A9g
 by_cases hb:1<=b/\b<=65536
 ·have e:(decide (b<1)||decide (b>65536))=false:=by simp;omega
  rw [e,C3E,B0P l hs.1];simp only [D2h,G8,D14,D2v];rw [B7y _ _ (by rw [A5R];exact hm),D14]
  by_cases h2:A9R (plainB l) k
  ·rw [O9 h2,D2g,D17];unfold B3U;have H:=M0 (f:=fun s:Int=>A5a l b s) l.length (fun i=> ¬B0N b (el l i)) false (some true)
    (fun i hi _=>by
     unfold A5a;have hv:=B9l h2 hi;have hr:=hs.2 _ (A7U hi);rw [D19 (by omega:(i:Int)<(l.length:Int)),D18,I5 hi,D14,Q9 hi hm]
     generalize el l i=x at hv hr⊢
     have ew:decide (0<=F3 x.Aw)=true:=D19 (by rw [A3t]<;>omega)
     simp only [B6A x.Ba hr,D14,ew,Bool.or_true,A0Q,B9e hv.1 hv.2];have eb1:A3 (b+1)=b+1:=by rw [D5]<;>omega
     rw [eb1];cases hB:okB x.Ba with
     |false=>
      simp only [D17,show ((2:Int) !=0)=true from rfl,D2O,D2g,G6,D14,D18];exact ⟨fun _=>trivial,fun h=>absurd (fun h2:B0N b x=>by have:=h2.1;rw [hB] at this;cases this) h⟩
     |true=>
      simp only [D18,show ((0:Int) !=0)=false from rfl,D2v]
      by_cases g1:x.Ba.N=2^x.Aw.toNat/\(x.Ba.Ad.length:Int)<=b+1
      ·have e1:((x.Ba.N !=2^x.Aw.toNat)||decide ((x.Ba.Ad.length:Int)>b+1))=false:=by
        rw [g1.1,D2H,D2v];exact D2b (by omega)
       rw [e1];have h0:=C1t hB g1.1;have hm2:x.Ba.Ad.length<=maxLen:=by rw [N2];omega
       simp only [D2h,G8,D0d x.Ba hr,D14,hB,D18,(B8I hv hb).2,D2v,B1b h0,A10 h0 (D2M _) hm2,I5 (show x.Ba.Ad.length-1<x.Ba.Ad.length by omega)]
       by_cases g2:(-4096<=(el x.Ba.Ad 0).V/\(el x.Ba.Ad 0).V<=4096)/\(-4096<=(el x.Ba.Ad (x.Ba.Ad.length-1)).V/\(el x.Ba.Ad (x.Ba.Ad.length-1)).V<=4096)/\(el x.Ba.Ad 0).V<=x.Bd/\x.Bd<=(el x.Ba.Ad (x.Ba.Ad.length-1)).V
       ·have e2:((((!(J6 (el x.Ba.Ad 0).V))||(!(J6 (el x.Ba.Ad (x.Ba.Ad.length-1)).V)))||(decide (x.Bd<(el x.Ba.Ad 0).V)))||(decide (x.Bd>(el x.Ba.Ad (x.Ba.Ad.length-1)).V)))=false:=by
         rw [(A2Y _).2 g2.1,(A2Y _).2 g2.2.1,D2k];simp only [D2f,D16,Ne,D2g,Bool.false_eq_true,or_false,false_or];omega
        rw [e2,D17];simp only [D2h,G8,D14,D2v];refine L1 ?_;unfold B0N;simp only [hB,g1,true_and,D16];omega
       ·have e2:((((!(J6 (el x.Ba.Ad 0).V))||(!(J6 (el x.Ba.Ad (x.Ba.Ad.length-1)).V)))||(decide (x.Bd<(el x.Ba.Ad 0).V)))||(decide (x.Bd>(el x.Ba.Ad (x.Ba.Ad.length-1)).V)))=true:=by
         simp only [D2f,D16,D2q];rw [D2k,D2k,Ne,Ne,A2Y,A2Y];omega
        rw [e2,D17];simp only [D2g,G6,D14,D2O,D18];refine ⟨fun _=>trivial,fun h=>absurd (fun h2=>g2 ?_) h⟩;have:=h2.2.2.2;omega
      ·have e1:((x.Ba.N !=2^x.Aw.toNat)||decide ((x.Ba.Ad.length:Int)>b+1))=true:=by
        rw [D2f,bne_iff_ne,D16]
        by_cases q:x.Ba.N=2^x.Aw.toNat
        ·right;have: ¬(x.Ba.Ad.length:Int)<=b+1:=fun h=>g1 ⟨q,h⟩;omega
        ·exact .inl q
       rw [e1,D18];exact ⟨fun _=>rfl,fun h=>absurd (fun h2=>g1 ⟨h2.2.1,h2.2.2.1⟩) h⟩)
    (fun _=>by
     unfold A5a;rw [D2b (D2x _),D17])
   by_cases h3: ∀i,i<l.length->B0N b (el l i)
   ·rw [H.2 fun i hi hn=>hn (h3 i hi),O9];exact ⟨hb,h2,h3⟩
   ·rw [H.1 (Y5 h3),K8];exact fun h=>h3 h.2.2
  ·rw [K8 h2,K8 fun h=>h2 h.2.1];rfl
 ·have e:(decide (b<1)||decide (b>65536))=true:=by
   rw [D2p];simp;omega
  rw [e,K8 fun h=>hb h.1];rfl
theorem B5N (l:List D1) (hs:B1g l):A7K l=some (A3 (A2m (plainB l)))/\A9f l=some (A3 (A2m (plainB l))):=by
 have hm:(plainB l).length<=maxLen:=by rw [N2,A5R];have:=hs.1;omega
 refine ⟨?_, ?_⟩
 ·unfold A7K;rw [B0P l hs.1,D14,B4S,A6Q _ hm];rfl
 ·unfold A9f;rw [C3E,B0P l hs.1,D14,A6Q _ hm];rfl
def C8Q (x:E2):Prop:=A72 x.W x.K x.Cap x.Now/\(∀b,A8a x.K x.Cap=some b->B6r x.Ai (2*x.K) b)/\A3 (A2m (plainB x.Ai))<=x.Cap/\ ∀i,i<x.Ai.length->G9 x.Now x.W (el x.Ai i).T=true
theorem B0h (w k c n:Int):A1c w k c n=true↔A72 w k c n:=by
 unfold A1c A72;simp;omega
theorem B7c (x:E2) (hs:B1g x.Ai):A3f x=some (vOf (C8Q x)):=by
 have hm:x.Ai.length<=maxLen:=by rw [N2];have:=hs.1;omega
 unfold A3f;simp only []
 by_cases h1:A72 x.W x.K x.Cap x.Now
 ·obtain ⟨b,b1,b2,b3⟩:=C5A (k:=x.K) (c:=x.Cap) h1.2.2.2 h1.2.1;have hk:=h1.2.2.2;rw [(B0h _ _ _ _).2 h1,b1,D5 (n:=2*x.K) (by omega) (by omega)]
  simp only [D2g,D2h,G8,D14,D2v,C2u _ _ _ hs,(B5N _ hs).1]
  by_cases h2:B6r x.Ai (2*x.K) b
  ·rw [O9 h2];simp only [D2g,D2h,G8,D14,D2v]
   by_cases h3:A3 (A2m (plainB x.Ai))<=x.Cap
   ·rw [D2b (by omega),D17]
    unfold A74;have H:=M0 (f:=fun s:Int=>A02 x s) x.Ai.length (fun i=> ¬G9 x.Now x.W (el x.Ai i).T=true) 2 (some 0)
     (fun i hi _=>by
      unfold A02;rw [D19 (by omega:(i:Int)<(x.Ai.length:Int)),D18,I5 hi,D14,Q9 hi hm]
      refine L1 ?_;simp [B1d])
     (fun _=>by
      unfold A02;rw [D2b (D2x _),D17])
    by_cases h4: ∀i,i<x.Ai.length->G9 x.Now x.W (el x.Ai i).T=true
    ·rw [H.2 fun i hi hn=>hn (h4 i hi),Q3];exact ⟨h1,fun b' hb' =>by rw [b2] at hb';cases hb';exact h2,h3,h4⟩
    ·rw [H.1 (Y5 h4),I7];exact fun h=>h4 h.2.2.2
   ·rw [D19 (by omega),D18,I7]
    exact fun h=>h3 h.2.2.1
  ·rw [K8 h2];simp only [D2g,D2h,G6,D14,D2O,D18];rw [I7];exact fun h=>h2 (h.2.1 b b2)
 ·rw [D2k.2 fun h=>h1 ((B0h _ _ _ _).1 h),I7 fun h=>h1 h.1]
  rfl
theorem C0C (x:E2) (hs:B1g x.Ai):A6k x=some (vOf (C8Q x)):=by
 have hm:x.Ai.length<=maxLen:=by rw [N2];have:=hs.1;omega
 unfold A6k;simp only []
 by_cases h1:A72 x.W x.K x.Cap x.Now
 ·obtain ⟨b,b1,b2,b3⟩:=C5A (k:=x.K) (c:=x.Cap) h1.2.2.2 h1.2.1;have hk:=h1.2.2.2;rw [(A01 _ _ _).2 ⟨h1.1,h1.2.1,h1.2.2.1⟩,(Z5 _).2 hk,b2,D5 (n:=2*x.K) (by omega) (by omega)]
  simp only [D2g,D2h,G8,D14,Bool.or_false,D2v,C4S _ _ _ hs,(B5N _ hs).2]
  by_cases h2:B6r x.Ai (2*x.K) b
  ·rw [O9 h2];simp only [D2g,D2h,G8,D14,D2v]
   by_cases h3:A3 (A2m (plainB x.Ai))<=x.Cap
   ·rw [D2b (by omega),D17]
    unfold B0r;have H:=M0 (f:=fun s:Int=>A2S x s) x.Ai.length (fun i=> ¬G9 x.Now x.W (el x.Ai i).T=true) 2 (some 0)
     (fun i hi _=>by
      unfold A2S;rw [D19 (by omega:(i:Int)<(x.Ai.length:Int)),D18,I5 hi,D14,Q9 hi hm]
      refine L1 ?_;simp)
     (fun _=>by
      unfold A2S;rw [D2b (D2x _),D17])
    by_cases h4: ∀i,i<x.Ai.length->G9 x.Now x.W (el x.Ai i).T=true
    ·rw [H.2 fun i hi hn=>hn (h4 i hi),Q3];exact ⟨h1,fun b' hb' =>by rw [b2] at hb';cases hb';exact h2,h3,h4⟩
    ·rw [H.1 (Y5 h4),I7];exact fun h=>h4 h.2.2.2
   ·rw [D19 (by omega),D18,I7]
    exact fun h=>h3 h.2.2.1
  ·rw [K8 h2];simp only [D2g,D2h,G6,D14,D2O,D18];rw [I7];exact fun h=>h2 (h.2.1 b b2)
 ·have e1:(!M2 x.W x.Cap x.Now|| !L6 x.K)=true:=by
   rw [D2f,D2q,D2q,D2k,D2k,Ne,Ne,A01,Z5];unfold A72 at h1;omega
  rw [e1,I7 fun h=>h1 h.1]
  rfl
theorem C3R (r:H5) (hl:r.Ad.length<=maxLen):B0S r r=some true:=by
 unfold B0S;simp only [D2H,Bool.or_false,D17];unfold B5j;refine (M0 (f:=fun s:Int=>A6h r r s) r.Ad.length (fun _=>False) false (some true) (fun i hi _=>⟨fun h=>h.elim,fun _=> ?_⟩) (fun _=> ?_)).2 fun _ _ h=>h
 ·unfold A6h;rw [D19 (by omega:(i:Int)<(r.Ad.length:Int)),D18,I5 hi]
  simp [Q9 hi hl]
 ·unfold A6h;rw [D2b (D2x _),D17]
theorem C9U (l:List D1) (hl:l.length<=maxLen) (he:∀x∈l,x.Ba.Ad.length<=maxLen):A6i l l=some true:=by
 unfold A6i;rw [D2H,D17];unfold A9V;refine (M0 (f:=fun s:Int=>A3L l l s) l.length (fun _=>False) false (some true) (fun i hi _=>⟨fun h=>h.elim,fun _=> ?_⟩) (fun _=> ?_)).2 fun _ _ h=>h
 ·unfold A3L;rw [D19 (by omega:(i:Int)<(l.length:Int)),D18,I5 hi]
  simp [Q9 hi hl,C3R _ (he _ (A7U hi))]
 ·unfold A3L;rw [D2b (D2x _),D17]
theorem B7M (x:E2) (hl:x.Ai.length<=maxLen) (he:∀b∈x.Ai,b.Ba.Ad.length<=maxLen):A6j x x=some true:=by
 unfold A6j;simp [C9U _ hl he]
end Go.Win
namespace Go.Win
open Go.Vc Go.Dec
def B7T (x:C8) (i:Nat):Bool:=match x.Ay[i]? with
 |none=>false
 |some l=>(((((decide (l.V<(-4096:Int)))||(decide (l.V>(4096:Int))))||(decide (l.I<(1:Int))))||(decide (l.I>x.I)))||(decide (l.I<=(A3 (x.I-x.W)))))||
  (decide (0<i)&&match x.Ay[i-1]? with
   |none=>false
   |some p=>decide (l.I<=p.I)||decide (l.I>A3 (p.I+x.W)))
noncomputable def B2Q (x:C8) (i:Nat):Bool:=match x.Ay[i]? with
 |none=>false
 |some l=>((!(J6 l.V))||(decide (l.I>x.I)))||
  (decide (0<i)&&match x.Ay[i-1]? with
   |none=>false
   |some p=>decide (l.I<=p.I)||decide (l.I>A3 (p.I+x.W)))
def C8h (p0:C8):Option Int:=(Option.bind (gd (!(decide (p0.Be<=p0.I))) (E4 p0.Ay (A3 ((p0.Ay.length:Int)-(1:Int))))) fun x17_14=>
 cond ((decide (p0.Be<=p0.I))||(decide (p0.Be>(A3 (x17_14.I+p0.W))))) (
  some (2:Int))<|
 some (0:Int))
theorem C9D (x:C8) (hl:x.Ay.length<=maxLen):A6w x 0=cond ((List.range x.Ay.length).any (B7T x)) (some 2) (C8h x):=by
 unfold A6w;refine A24 (fun i hi=> ?_) ?_
 ·have h1:x.Ay[i]? =some x.Ay[i]:=D2i hi;have hs:=A1e hi hl;unfold A5q B7T;simp only [Int.ofNat_lt,hi,decide_true,D18,A0Y,h1,D14,hs]
  by_cases h0:0<i
  ·have hp:=B4K h0 (Nat.le_trans (Nat.le_of_lt hi) hl);have h2:x.Ay[i-1]? =some x.Ay[i-1]:=D2i (by omega)
   have h3:((i:Int)>0):=by omega
   simp only [hp,A0Y,h2,h3,h0,decide_true,G8,D14,D2F];cases decide (x.Ay[i].I<=x.Ay[i-1].I)<;>cases (((((decide (x.Ay[i].V<(-4096:Int)))||(decide (x.Ay[i].V>(4096:Int))))||(decide (x.Ay[i].I<(1:Int))))||(decide (x.Ay[i].I>x.I)))||(decide (x.Ay[i].I<=(A3 (x.I-x.W)))))<;>simp
  ·have h3: ¬((i:Int)>0):=by omega
   simp only [h3,h0,decide_false,G6,D14,D2z,D17,Bool.or_false]
 ·unfold A5q;simp only [D2x,decide_false,D17]
  rfl
theorem D1C (x:C8) (hl:x.Ay.length<=maxLen):A6y x 0=cond ((List.range x.Ay.length).any (B2Q x)) (some 2) (C8h x):=by
 unfold A6y;refine A24 (fun i hi=> ?_) ?_
 ·have h1:x.Ay[i]? =some x.Ay[i]:=D2i hi;have hs:=A1e hi hl;unfold A5x B2Q;simp only [Int.ofNat_lt,hi,decide_true,D18,A0Y,h1,D14,hs]
  by_cases h0:0<i
  ·have hp:=B4K h0 (Nat.le_trans (Nat.le_of_lt hi) hl);have h2:x.Ay[i-1]? =some x.Ay[i-1]:=D2i (by omega)
   have h3:((i:Int)>0):=by omega
   simp only [hp,A0Y,h2,h3,h0,decide_true,D2F,Bool.and_true]
   by_cases hA:x.Ay[i].I<=x.Ay[i-1].I<;>cases ((!(J6 x.Ay[i].V))||(decide (x.Ay[i].I>x.I)))<;>simp [hA]
  ·have h3: ¬((i:Int)>0):=by omega
   simp only [h3,h0,decide_false,G6,D14,D2z,Bool.and_false,Bool.or_false]
 ·unfold A5x;simp only [D2x,decide_false,D17]
  rfl
theorem asc (x:C8) (h:∀i,i<x.Ay.length->B2Q x i=false): ∀i (hi:i<x.Ay.length),x.Ay[0].I<=x.Ay[i].I:=by
 intro i
 induction i with
 |zero=>intro hi;exact Int.le_refl _
 |succ i ih=>
  intro hi;have h1:=ih (by omega)
  have h2:=h (i+1) hi;simp only [B2Q,R4 hi,D2L,R4 (show i<x.Ay.length by omega),Nat.succ_pos,decide_true,D2F,D2E,D2l] at h2
  omega
def B1E (x:C8):Bool:=match x.Ay[0]? with
 |none=>false
 |some l=>decide (l.I<=A3 (x.I-x.W))||decide (l.I<1)
theorem D1A (x:C8):(List.range x.Ay.length).any (B7T x)=(B1E x||(List.range x.Ay.length).any (B2Q x)):=by
 rw [D2p,D2f,B3b,B3b];constructor
 ·rintro ⟨i,hi,hb⟩
  by_cases hR: ∃i,i<x.Ay.length/\B2Q x i=true
  ·exact .inr hR
  ·left;have hno: ∀i,i<x.Ay.length->B2Q x i=false:=fun i hi=>by
    cases h:B2Q x i with
    |false=>rfl
    |true=>exact absurd ⟨i,hi,h⟩ hR
   have ha:=asc x hno i hi;have h2:=hno i hi;have h0:0<x.Ay.length:=by omega
   simp only [B1E,R4 h0,D2f,D16];simp only [B2Q,R4 hi,J6,D2E,Bool.not_eq_false',D2c,D16,D2l] at h2;simp only [B7T,R4 hi,D2f,D16] at hb;obtain ⟨⟨⟨h3,h4⟩,h5⟩,h6⟩:=h2;rcases hb with hb|hb
   ·omega
   ·rw [h6] at hb;cases hb
 ·rintro (h|⟨i,hi,hb⟩)
  ·have h0:0<x.Ay.length:=by
    rcases Nat.eq_zero_or_pos x.Ay.length with h0|h0
    ·simp [B1E,D2P h0] at h
    ·exact h0
   refine ⟨0,h0, ?_⟩;simp only [B1E,R4 h0,D2f,D16] at h;simp only [B7T,R4 h0,D2f,D16];left;omega
  ·refine ⟨i,hi, ?_⟩;simp only [B2Q,R4 hi,J6,D2f,D2q,D2V,D16,D2l] at hb;simp only [B7T,R4 hi,D2f,D16];rcases hb with hb|hb
   ·left;omega
   ·exact .inr hb
theorem C43 (x:C8) (hl:x.Ay.length<=maxLen):V1 x=A6c x:=by
 unfold V1 A6c;simp only [C9D x hl,D1C x hl,D1A x];have e1:(((((((decide (x.W<(1:Int)))||(decide (x.W>(1048576:Int))))||(decide (x.Cap<(1:Int))))||(decide (x.Cap>(64:Int))))||(decide (x.I<(0:Int))))||(decide (x.I>(1099511627776:Int))))||(decide ((x.Ay.length:Int)>x.Cap)))
  =((((((!(Z9 x.W))||(decide (x.Cap<(1:Int))))||(decide (x.Cap>(64:Int))))||(decide (x.I<(0:Int))))||(decide (x.I>(1099511627776:Int))))||(decide ((x.Ay.length:Int)>x.Cap))):=by
  rw [D2p];simp only [Z9,D2f,D2q,D2V,D16,D2l];omega
 rw [e1]
 congr 2
 ·rw [show decide ((x.Ay.length:Int)>0)=((x.Ay.length:Int) !=0) by rw [D2p,D16,bne_iff_ne];omega]
 ·by_cases h0:x.Ay= []
  ·simp [h0]
  ·have h1:0<x.Ay.length:=List.length_pos_iff.2 h0;have h2:((x.Ay.length:Int)==0)=false:=by rw [D2U];omega
   have h3:E4 x.Ay (0:Int)=some x.Ay[0]:=by simp [E4,h1]
   simp only [h2,h3,D17,D2h,G8,D14,D2v,B1E,R4 h1]
   by_cases hA:x.Ay[0].I<=A3 (x.I-x.W)<;>by_cases hB:x.Ay[0].I<1<;>simp [hA,hB]
theorem C4X (x:C8) (hl:x.Ay.length<=maxLen):B0R x x=some true:=by
 unfold B0R;have h:A9T x x 0=cond ((List.range x.Ay.length).any fun _=>false) (some false) (some true):=by
  unfold A9T;refine A24 (fun i hi=> ?_) ?_
  ·unfold A8T;simp [hi,A1e hi hl]
  ·unfold A8T;simp
 have hf:((List.range x.Ay.length).any fun _=>false)=false:=by simp
 rw [hf] at h;simp [h]
theorem C0L (x:C8) (hl:x.Ay.length<=maxLen): ∃r,V1 x=some r/\(r=0->0<=x.I/\x.I<=1099511627776/\1<=x.W/\x.W<=1048576/\1<=x.Cap/\x.Cap<=64/\(x.Ay.length:Int)<=x.Cap/\(x.Ay= []->x.I=0)/\(x.I=0->x.Be=0)):=by
 unfold V1;simp only [C9D x hl]
 by_cases h:(((((((decide (x.W<(1:Int)))||(decide (x.W>(1048576:Int))))||(decide (x.Cap<(1:Int))))||(decide (x.Cap>(64:Int))))||(decide (x.I<(0:Int))))||(decide (x.I>(1099511627776:Int))))||(decide ((x.Ay.length:Int)>x.Cap)))=true
 ·rw [h];exact ⟨2,rfl,fun h=>by simp at h⟩
 ·rw [Bool.not_eq_true] at h;rw [h];simp only [D2E,D2l] at h
  by_cases h0:x.I=0
  ·simp only [h0,beq_self_eq_true,D18,D17];cases hc:(decide ((x.Ay.length:Int)>(0:Int))||(x.Be !=(0:Int)))
   ·simp only [D2E,bne_eq_false_iff_eq] at hc;exact ⟨0,rfl,fun _=>⟨by omega,by omega,by omega,by omega,by omega,by omega,by omega,fun _=>trivial,fun _=>hc.2⟩⟩
   ·exact ⟨2,rfl,fun h=>by simp at h⟩
  ·have h0' :(x.I==0)=false:=by rw [D2U];exact h0
   simp only [h0',D17]
   by_cases h1:x.Ay= []
   ·rw [h1];exact ⟨2,rfl,fun h=>by simp at h⟩
   ·have h2:((x.Ay.length:Int)==0)=false:=by
     have:=List.length_pos_iff.2 h1;rw [D2U];omega
    simp only [h2,D17];have all: ∀r:Int,(r=0->0<=x.I/\x.I<=1099511627776/\1<=x.W/\x.W<=1048576/\1<=x.Cap/\x.Cap<=64/\(x.Ay.length:Int)<=x.Cap/\(x.Ay= []->x.I=0)/\(x.I=0->x.Be=0)):=fun _ _=>⟨by omega,by omega,by omega,by omega,by omega,by omega,by omega,fun h=>absurd h h1,fun h=>absurd h h0⟩
    cases (List.range x.Ay.length).any (B7T x) with
    |true=>exact ⟨2,rfl,all _⟩
    |false=>
     simp only [D17];unfold C8h;have hp:=List.length_pos_iff.2 h1;have hw:=B4K hp hl;simp only [hw,A0Y,R4 (show x.Ay.length-1<x.Ay.length by omega)]
     by_cases hN:x.Be<=x.I
     ·simp only [hN,decide_true,D2g,G6,D14,D2O,D18];exact ⟨2,rfl,all _⟩
     ·simp only [hN,decide_false,D2h,G8,D14,D2v];cases decide (x.Be>A3 ((x.Ay[x.Ay.length-1]'(by omega)).I+x.W))
      ·exact ⟨0,rfl,all _⟩
      ·exact ⟨2,rfl,all _⟩
end Go.Win
namespace Go.Win
open Go.Vc Go.Dec
theorem B8L {α β:Type} {m:Option α} {f g:α->Option β} (h:∀x,m=some x->f x=g x):m.bind f=m.bind g:=by
 cases m with
 |none=>rfl
 |some x=>exact h x rfl
theorem C94 {α:Type} {l:List α} {i:Int} {x:α} (h:E4 l i=some x):x∈l:=D2j (B1J h).2
theorem B6q (l:List Int) (hl:l.length<=maxLen):W2 l l=some true:=by
 have h:A1t l l 0=cond ((List.range l.length).any fun _=>false) (some false) (some true):=by
  unfold A1t;refine A24 (fun i hi=> ?_) ?_
  ·unfold A03;simp [hi,A1e hi hl]
  ·unfold A03;simp
 have hf:((List.range l.length).any fun _=>false)=false:=by simp
 rw [hf] at h;unfold W2;simp [h]
theorem B7K (x:I2) (hl:x.Aj.length<=maxLen) (hc:∀c∈x.Aj,c.Ay.length<=maxLen):A6d x x=some true:=by
 have h:A7b x x 0=cond ((List.range x.Aj.length).any fun _=>false) (some false) (some true):=by
  unfold A7b;refine A24 (fun i hi=> ?_) ?_
  ·unfold A6e;have:=C4X x.Aj[i] (hc _ (D2T hi));simp [hi,A1e hi hl,this]
  ·unfold A6e;simp
 have hf:((List.range x.Aj.length).any fun _=>false)=false:=by simp
 rw [hf] at h;unfold A6d;simp [h]
theorem C11 (s:I2) (hc:∀c∈s.Aj,c.Ay.length<=maxLen):W4 s=A3I s:=by
 have e:A0r s=A5y s:=by
  funext i
  unfold A0r A5y
  congr 1
  refine B8L fun x hx=>B8L fun y _=> ?_;rw [C43 x (hc x (C94 hx))]
 unfold W4 A3I A5B B0o;rw [e]
theorem B8B (s:I2) (hl:s.Aj.length<=maxLen) (hc:∀c∈s.Aj,c.Ay.length<=maxLen):
  ∃r,W4 s=some r/\(r=0->1<=s.Aj.length/\s.Aj.length<=16/\ ∀c∈s.Aj,V1 c=some 0):=by
 unfold W4
 by_cases h:(decide ((s.Aj.length:Int)<1)||decide ((s.Aj.length:Int)>16))=true
 ·rw [h];exact ⟨2,rfl,fun h=>by simp at h⟩
 ·rw [Bool.not_eq_true] at h;rw [h,D17];simp only [D2E,D2l] at h;unfold A5B;obtain ⟨r,hr,hQ⟩:=A8O (f:=fun i:Int=>A0r s i) (fun i=> ∃k:Nat,i=(k:Int)/\k<=s.Aj.length/\ ∀j (hj:j<s.Aj.length),j<k->V1 s.Aj[j]=some 0)
   (fun i=>s.Aj.length-i.toNat) (fun r=>r=2\/(r=0/\ ∀c∈s.Aj,V1 c=some 0)) 0 ⟨0,rfl,Nat.zero_le _,fun j _ hj=>by omega⟩ (by
    rintro _ ⟨k,rfl,hk,hv⟩;unfold A0r
    by_cases hlt:k<s.Aj.length
    ·obtain ⟨q,hq,_⟩:=C0L s.Aj[k] (hc _ (D2T hlt));have h0:E4 s.Aj (0:Int)=some (s.Aj[0]'(by omega)):=by
      have:=R4 (show 0<s.Aj.length by omega)
      simp [E4,this]
     simp only [Int.ofNat_lt,hlt,decide_true,D18,A0Y,R4 hlt,D14,h0,hq];cases hb:(((q !=0)||(s.Aj[k].W !=(s.Aj[0]'(by omega)).W))||(s.Aj[k].Cap !=(s.Aj[0]'(by omega)).Cap))||(s.Aj[k].I !=(s.Aj[0]'(by omega)).I) with
     |true=>exact .inr ⟨2,rfl, .inl rfl⟩
     |false=>
      simp only [D2E,bne_eq_false_iff_eq] at hb;left;refine ⟨(k:Int)+1,by rw [A1e hlt hl];rfl,⟨k+1,by simp,hlt,fun j hj hjk=> ?_⟩,by omega⟩
      by_cases hjk2:j=k
      ·subst hjk2;rw [hq,hb.1.1.1]
      ·exact hv j hj (by omega)
    ·right;have: ¬((k:Int)<(s.Aj.length:Int)):=by omega
     simp only [this,decide_false,D17];refine ⟨0,rfl, .inr ⟨rfl,fun c hcm=> ?_⟩⟩;obtain ⟨j,hj,rfl⟩:=List.mem_iff_getElem.1 hcm;exact hv j hj (by omega))
  refine ⟨r,hr,fun h0=>⟨by omega,by omega, ?_⟩⟩
  rcases hQ with hQ|hQ
  ·omega
  ·exact hQ.2
end Go.Win
namespace Go.Win
open Go.Vc Go.Dec
theorem K0 {α:Type} {l:List α} (h:l.length<=1048576):l.length<=maxLen:=by rw [N2];omega
theorem C4h {l:List C7} (h:∀y∈l,S0 y): ∀w∈l,Y1 w:=fun w hw=>⟨(B9G (h w hw).1).1,(B9G (h w hw).1).2,(B9G (h w hw).2).1,(B9G (h w hw).2).2⟩
theorem D0r (p:Prop):(vOf p==0)=S1 p:=by
 by_cases h:p
 ·rw [Q3 h,O9 h];rfl
 ·rw [I7 h,K8 h];rfl
theorem B7I (x:J7) (hl:x.Bg.length<=maxLen):A58 x x=some true:=by
 unfold A58;simp [B6q _ hl]
theorem B1c {α:Type} (l:List α):((l.length:Int) !=(([]:List α).length:Int))= !S1 (l.length=0):=by
 by_cases h:l.length=0
 ·rw [O9 h,h];rfl
 ·rw [K8 h];show ((l.length:Int) !=0)=true;rw [bne_iff_ne];omega
theorem A8B (l:List D7):Z8 l []=some (S1 (l.length=0)):=by
 unfold Z8;rw [B1c]
 by_cases h:l.length=0
 ·rw [O9 h,D2g,D17];unfold A2K;refine L4 ?_;unfold A11;rw [h];rfl
 ·rw [K8 h];rfl
theorem B3Q (l:List A9):A4d l []=some (S1 (l.length=0)):=by
 unfold A4d;rw [B1c]
 by_cases h:l.length=0
 ·rw [O9 h,D2g,D17];unfold A9S;refine L4 ?_;unfold A3H;rw [h];rfl
 ·rw [K8 h];rfl
theorem A8C (l:List D0):A0b l []=some (S1 (l.length=0)):=by
 unfold A0b;rw [B1c]
 by_cases h:l.length=0
 ·rw [O9 h,D2g,D17];unfold A5w;refine L4 ?_;unfold A0q;rw [h];rfl
 ·rw [K8 h];rfl
theorem B6y (l:List C7):A1H l []=some (S1 (l.length=0)):=by
 unfold A1H;rw [B1c]
 by_cases h:l.length=0
 ·rw [O9 h,D2g,D17];unfold A6x;refine L4 ?_;unfold A0K;rw [h];rfl
 ·rw [K8 h];rfl
theorem B3P (l:List Int):W2 l []=some (S1 (l.length=0)):=by
 unfold W2;rw [B1c]
 by_cases h:l.length=0
 ·rw [O9 h,D2g,D17];unfold A1t;refine L4 ?_;unfold A03;rw [h];rfl
 ·rw [K8 h];rfl
theorem C0B (l:List D1):A6i l []=some (S1 (l.length=0)):=by
 unfold A6i;rw [B1c]
 by_cases h:l.length=0
 ·rw [O9 h,D2g,D17];unfold A9V;refine L4 ?_;unfold A3L;rw [h];rfl
 ·rw [K8 h];rfl
theorem A4E {α:Type} [Inhabited α] (g:Bool) (v:α):gd g (some v)=some (cond g v default):=by cases g<;>rfl
theorem A22 (g v d:Bool):(g&&cond g v d)=(g&&v):=by cases g<;>rfl
def B2d (x:E9):Prop:=x.W=0/\x.Cap=0/\x.Now=0/\x.Av.length=0
theorem C6Y (x:E9):A5U x ⟨0,0,0, []⟩=some (S1 (B2d x)):=by
 unfold A5U;rw [A8B];simp only [A4E,D14,A22]
 congr 1
 rw [D2p,J2];unfold B2d;simp only [D2c,D2Y,J2,and_assoc]
def B4a (x:G1):Prop:=x.W=0/\x.K=0/\x.Cap=0/\x.Now=0/\x.Ac.length=0
theorem C8d (x:G1):A5Y x ⟨0,0,0,0, []⟩=some (S1 (B4a x)):=by
 unfold A5Y;rw [B3Q];simp only [A4E,D14,A22]
 congr 1
 rw [D2p,J2];unfold B4a;simp only [D2c,D2Y,J2,and_assoc]
def B9S (x:I0):Prop:=x.W=0/\x.K=0/\x.Cap=0/\x.Bj=0/\x.Now=0/\x.Ac.length=0
theorem D0z (x:I0):A50 x ⟨0,0,0,0,0, []⟩=some (S1 (B9S x)):=by
 unfold A50;rw [B3Q];simp only [A4E,D14,A22]
 congr 1
 rw [D2p,J2];unfold B9S;simp only [D2c,D2Y,J2,and_assoc]
def B2e (x:F0):Prop:=x.Bh=0/\x.W=0/\x.K=0/\x.Cap=0/\x.Now=0/\x.Bl=0/\x.Az.length=0
theorem C60 (x:F0):A52 x ⟨0,0,0,0,0,0, []⟩=some (S1 (B2e x)):=by
 unfold A52;rw [A8C];simp only [A4E,D14,A22]
 congr 1
 rw [D2p,J2];unfold B2e;simp only [D2c,D2Y,J2,and_assoc]
def B2f (x:F1):Prop:=x.W=0/\x.K=0/\x.Cap=0/\x.Now=0/\x.Bl=0/\x.Az.length=0
theorem C61 (x:F1):A54 x ⟨0,0,0,0,0, []⟩=some (S1 (B2f x)):=by
 unfold A54;rw [A8C];simp only [A4E,D14,A22]
 congr 1
 rw [D2p,J2];unfold B2f;simp only [D2c,D2Y,J2,and_assoc]
def B6M (x:G2):Prop:=x.P=0/\x.Bc=0/\x.Now=0/\x.Af.length=0
theorem C9u (x:G2):A56 x ⟨0,0,0, []⟩=some (S1 (B6M x)):=by
 unfold A56;rw [B6y];simp only [A4E,D14,A22]
 congr 1
 rw [D2p,J2];unfold B6M;simp only [D2c,D2Y,J2,and_assoc]
def B4b (x:J7):Prop:=x.Now=0/\x.Bg.length=0
theorem C8e (x:J7):A58 x ⟨0, []⟩=some (S1 (B4b x)):=by
 unfold A58;rw [B3P];simp only [A4E,D14,A22]
 congr 1
 rw [D2p,J2];unfold B4b;simp only [D2c,D2Y,J2,and_assoc]
def A9F (x:E5):Prop:=x.Bj=false/\x.W=0/\x.Cap=0/\x.Now=0/\x.Av.length=0
theorem C48 (x:E5):A6a x ⟨false,0,0,0, []⟩=some (S1 (A9F x)):=by
 unfold A6a;rw [A8B];simp only [A4E,D14,A22]
 congr 1
 rw [D2p,J2];unfold A9F;simp only [D2c,D2Y,J2,and_assoc]
def A7s (x:I2):Prop:=x.Aj.length=0
theorem C6Z (x:I2):A6d x ⟨[]⟩=some (S1 (A7s x)):=by
 unfold A6d
 by_cases h:A7s x
 ·have h' :=h;unfold A7s at h';rw [O9 h];have e:((x.Aj.length:Int) !=(([]:List C8).length:Int))=false:=by simp [h']
  rw [e,D17];unfold A7b;refine L4 ?_;unfold A6e;rw [h'];rfl
 ·rw [K8 h];have e:((x.Aj.length:Int) !=(([]:List C8).length:Int))=true:=by
   unfold A7s at h;rw [D2p];simp only [D2f,bne_iff_ne,D2A,iff_true,Int.natCast_zero,ne_eq];omega
  rw [e,D18]
def A5K (x:D8):Prop:=x.K=0/\x.Cap=0/\x.N=0/\x.Aq.length=0
theorem C49 (x:D8):A6f x ⟨0,0,0, []⟩=some (S1 (A5K x)):=by
 unfold A6f
 by_cases h:A5K x
 ·have h' :=h;unfold A5K at h';rw [O9 h];have e:((((x.K !=0)||(x.Cap !=0))||(x.N !=0))||((x.Aq.length:Int) !=(([]:List E3).length:Int)))=false:=by simp [h']
  rw [e,D17];unfold A9U;refine L4 ?_;unfold A3J;rw [h'.2.2.2];rfl
 ·rw [K8 h];have e:((((x.K !=0)||(x.Cap !=0))||(x.N !=0))||((x.Aq.length:Int) !=(([]:List E3).length:Int)))=true:=by
   unfold A5K at h;rw [D2p];simp only [D2f,bne_iff_ne,D2A,iff_true,Int.natCast_zero,ne_eq];omega
  rw [e,D18]
def A8p (x:E2):Prop:=x.W=0/\x.K=0/\x.Cap=0/\x.Now=0/\x.Ai.length=0
theorem C4q (x:E2):A6j x ⟨0,0,0,0, []⟩=some (S1 (A8p x)):=by
 unfold A6j;rw [C0B];simp only [A4E,D14,A22]
 congr 1
 rw [D2p,J2];unfold A8p;simp only [D2c,D2Y,J2,and_assoc]
theorem A07 (s:B0):O1 s=⟨s.Ak,if s.Ak.Bb=1 then s.Al else ⟨0,0,0, []⟩,if s.Ak.Bb=2 then s.Ar else ⟨0,0,0,0, []⟩,if s.Ak.Bb=3 then s.Sum else ⟨0,0,0,0,0, []⟩,if s.Ak.Bb=4 then s.Ao else ⟨0,0,0,0,0,0, []⟩,if s.Ak.Bb=5 then s.Ap else ⟨0,0,0,0,0, []⟩,if s.Ak.Bb=6 then s.Bf else ⟨0,0,0, []⟩,if s.Ak.Bb=7 then s.Au else ⟨0, []⟩,if s.Ak.Bb=8 then s.Ae else ⟨false,0,0,0, []⟩,if s.Ak.Bb=9 then s.Am else ⟨[]⟩,if s.Ak.Bb=10 then s.Ah else ⟨0,0,0, []⟩,if s.Ak.Bb=11 then s.Aa else ⟨0,0,0,0, []⟩⟩:=by
 unfold O1 N9
 by_cases hk:1<=s.Ak.Bb/\s.Ak.Bb<=11
 ·have:s.Ak.Bb=1\/s.Ak.Bb=2\/s.Ak.Bb=3\/s.Ak.Bb=4\/s.Ak.Bb=5\/s.Ak.Bb=6\/s.Ak.Bb=7\/s.Ak.Bb=8\/s.Ak.Bb=9\/s.Ak.Bb=10\/s.Ak.Bb=11:=by omega
  rcases this with h|h|h|h|h|h|h|h|h|h|h
  all_goals
   rw [h];simp only [Int.reduceBEq,beq_self_eq_true,D18,D17,Int.reduceEq,if_true,if_false]
 ·have e: ∀j:Int,1<=j->j<=11->(s.Ak.Bb==j)=false:=fun j h1 h2=>D2U.2 (by omega)
  have e2: ∀j:Int,1<=j->j<=11-> ¬s.Ak.Bb=j:=fun j h1 h2=>by omega
  rw [e 1 (by decide) (by decide),e 2 (by decide) (by decide),e 3 (by decide) (by decide),e 4 (by decide) (by decide),e 5 (by decide) (by decide),e 6 (by decide) (by decide),e 7 (by decide) (by decide),e 8 (by decide) (by decide),e 9 (by decide) (by decide),e 10 (by decide) (by decide),e 11 (by decide) (by decide),if_neg (e2 1 (by decide) (by decide)),if_neg (e2 2 (by decide) (by decide)),if_neg (e2 3 (by decide) (by decide)),if_neg (e2 4 (by decide) (by decide)),if_neg (e2 5 (by decide) (by decide)),if_neg (e2 6 (by decide) (by decide)),if_neg (e2 7 (by decide) (by decide)),if_neg (e2 8 (by decide) (by decide)),if_neg (e2 9 (by decide) (by decide)),if_neg (e2 10 (by decide) (by decide)),if_neg (e2 11 (by decide) (by decide))]
  rfl
theorem C4s (s:B0):(O1 s).Ak=s.Ak:=by rw [A07]
theorem C4t (s:B0):(O1 s).Al=if s.Ak.Bb=1 then s.Al else ⟨0,0,0, []⟩:=by rw [A07]
theorem C5Y (s:B0):(O1 s).Ar=if s.Ak.Bb=2 then s.Ar else ⟨0,0,0,0, []⟩:=by rw [A07]
theorem C8i (s:B0):(O1 s).Sum=if s.Ak.Bb=3 then s.Sum else ⟨0,0,0,0,0, []⟩:=by rw [A07]
theorem C4v (s:B0):(O1 s).Ao=if s.Ak.Bb=4 then s.Ao else ⟨0,0,0,0,0,0, []⟩:=by rw [A07]
theorem C4w (s:B0):(O1 s).Ap=if s.Ak.Bb=5 then s.Ap else ⟨0,0,0,0,0, []⟩:=by rw [A07]
theorem C64 (s:B0):(O1 s).Bf=if s.Ak.Bb=6 then s.Bf else ⟨0,0,0, []⟩:=by rw [A07]
theorem C5Z (s:B0):(O1 s).Au=if s.Ak.Bb=7 then s.Au else ⟨0, []⟩:=by rw [A07]
theorem C2l (s:B0):(O1 s).Ae=if s.Ak.Bb=8 then s.Ae else ⟨false,0,0,0, []⟩:=by rw [A07]
theorem C4u (s:B0):(O1 s).Am=if s.Ak.Bb=9 then s.Am else ⟨[]⟩:=by rw [A07]
theorem C2m (s:B0):(O1 s).Ah=if s.Ak.Bb=10 then s.Ah else ⟨0,0,0, []⟩:=by rw [A07]
theorem C1G (s:B0):(O1 s).Aa=if s.Ak.Bb=11 then s.Aa else ⟨0,0,0,0, []⟩:=by rw [A07]
def B1e (s:B0):Prop:=(s.Ak.Bb≠1->B2d s.Al)/\(s.Ak.Bb≠2->B4a s.Ar)/\(s.Ak.Bb≠3->B9S s.Sum)/\(s.Ak.Bb≠4->B2e s.Ao)/\(s.Ak.Bb≠5->B2f s.Ap)/\(s.Ak.Bb≠6->B6M s.Bf)/\(s.Ak.Bb≠7->B4b s.Au)/\(s.Ak.Bb≠8->A9F s.Ae)/\(s.Ak.Bb≠9->A7s s.Am)/\(s.Ak.Bb≠10->A5K s.Ah)/\(s.Ak.Bb≠11->A8p s.Aa)
theorem A3Q {α:Type} {Same:α->α->Option Bool} {x z:α} {zr:Prop} {k j:Int} (hr:Same x x=some true) (hz:Same x z=some (S1 zr)):Same x (if k=j then x else z)=some (S1 (k≠j->zr)):=by
 by_cases h:k=j
 ·rw [if_pos h,hr,O9 fun h2=>absurd h h2]
 ·rw [if_neg h,hz]
  congr 1
  rw [D2p,J2,J2];exact ⟨fun h2 _=>h2,fun h2=>h2 h⟩
theorem C6L (s:B0) (w:L2 s):A4f s (O1 s)=some (S1 (B1e s)):=by
 obtain ⟨_,w1,w2,w3,w4,w5,w6,w7,w8,w9,w10,w11⟩:=w;have e1:=A3Q (k:=s.Ak.Bb) (j:=1) (B9z s.Al (K0 w1.2.2.2.1)) (C6Y s.Al);have e2:=A3Q (k:=s.Ak.Bb) (j:=2) (B7D s.Ar (K0 w2.2.2.2.2.1)) (C8d s.Ar);have e3:=A3Q (k:=s.Ak.Bb) (j:=3) (B7E s.Sum (K0 w3.2.2.2.2.2.1)) (D0z s.Sum);have e4:=A3Q (k:=s.Ak.Bb) (j:=4) (B7F s.Ao (K0 w4.2.2.2.2.2.2.1)) (C60 s.Ao);have e5:=A3Q (k:=s.Ak.Bb) (j:=5) (B7G s.Ap (K0 w5.2.2.2.2.2.1)) (C61 s.Ap);have e6:=A3Q (k:=s.Ak.Bb) (j:=6) (B7H s.Bf (K0 w6.2.2.2.1)) (C9u s.Bf);have e7:=A3Q (k:=s.Ak.Bb) (j:=7) (B7I s.Au (K0 w7.2.1)) (C8e s.Au);have e8:=A3Q (k:=s.Ak.Bb) (j:=8) (B7J s.Ae (K0 w8.2.2.2.2.1)) (C48 s.Ae);have e9:=A3Q (k:=s.Ak.Bb) (j:=9) (B7K s.Am (K0 w9.1) (fun c hc=>K0 (w9.2 c hc).2.2.2.2.1)) (C6Z s.Am);have e10:=A3Q (k:=s.Ak.Bb) (j:=10) (B7L s.Ah (K0 w10.2.2.2.1)) (C49 s.Ah);have e11:=A3Q (k:=s.Ak.Bb) (j:=11) (B7M s.Aa (K0 w11.2.2.2.2.1) (fun b hb=>K0 (w11.2.2.2.2.2 b hb).2.2.2.2.1)) (C4q s.Aa);unfold A4f;rw [C4s,C4t,e1,C5Y,e2,C8i,e3,C4v,e4,C4w,e5,C64,e6,C5Z,e7,C2l,e8,C4u,e9,C2m,e10,C1G,e11];simp only [beq_self_eq_true,D2F,A4E,D18,D14,A22]
 congr 1
 rw [D2p,J2];unfold B1e;simp only [D2c,J2,and_assoc]
theorem C7O (s:B0):A5k s=S1 (B1e s):=by
 unfold A5k;rw [D2p,J2];unfold B1e;unfold B2d;unfold B4a;unfold B9S;unfold B2e;unfold B2f;unfold B6M;unfold B4b;unfold A9F;unfold A7s;unfold A5K;unfold A8p;simp only [C8v,D2c,D2f,bne_iff_ne,D2Y,D16,ne_eq];have fin: ∀ {c:Prop} [Decidable c] {b:Bool},((if c then false else b)=true)↔(¬c/\b=true):=by
  intro c _ b
  by_cases h:c
  ·rw [if_pos h];exact ⟨fun h2=>(by cases h2),fun h2=>absurd h h2.1⟩
  ·rw [if_neg h];exact ⟨fun h2=>⟨h,h2⟩,fun h2=>h2.2⟩
 simp only [fin,D2f,D2c,D2Y];cases s.Ae.Bj
 ·simp only [Bool.false_eq_true,false_or,true_and]
  repeat' apply and_congr
  all_goals first|omega|(simp;done)|(simp;omega)
 ·simp only [true_or,Bool.true_eq_false,false_and]
  repeat' apply and_congr
  all_goals first|omega|(simp;done)|(simp;omega)
def B8t (x:I2):Prop:=W4 x=some 0
theorem C6M (x:I2) (hl:x.Aj.length<=maxLen) (hc:∀c∈x.Aj,c.Ay.length<=maxLen): ∃r,W4 x=some r/\A3I x=some r/\(r==0)=S1 (B8t x)/\(r=0->0<x.Aj.length):=by
 obtain ⟨r,h1,h2⟩:=B8B x hl hc;refine ⟨r,h1,by rw [<-C11 x hc];exact h1, ?_,fun h=>by have:=(h2 h).1;omega⟩
 rw [D2p,J2,D2Y];unfold B8t;rw [h1];simp
theorem C6C (x:E9) (hl:x.Av.length<=maxLen):A2J x=some (vOf (okV x=true))/\Y6 x=some (vOf (okV x=true)):=by
 have h:Y6 x=some (vOf (okV x=true)):=by
  rw [C0K x hl]
  by_cases h:okV x=true
  ·rw [if_pos h,Q3 h]
  ·rw [if_neg h,I7 h]
 exact ⟨by rw [C37];exact h,h⟩
def B6C (s:B0):Prop:=
 (s.Ak.Bb=1/\okV s.Al=true/\s.Al.W=s.Ak.W/\s.Al.Cap=s.Ak.Cap)\/
 (s.Ak.Bb=2/\B1P s.Ar.Ac s.Ar.W s.Ar.K s.Ar.Cap s.Ar.Now/\s.Ar.W=s.Ak.W/\s.Ar.K=s.Ak.K/\s.Ar.Cap=s.Ak.Cap)\/
 (s.Ak.Bb=3/\C6x s.Sum/\s.Sum.W=s.Ak.W/\s.Sum.K=s.Ak.K/\s.Sum.Cap=s.Ak.Cap/\s.Sum.Bj=s.Ak.Bj)\/
 (s.Ak.Bb=4/\C8R s.Ao/\s.Ao.W=s.Ak.W/\s.Ao.K=s.Ak.K/\s.Ao.Cap=s.Ak.Cap/\s.Ao.Bh=s.Ak.Bh)\/
 (s.Ak.Bb=5/\C8S s.Ap/\s.Ap.W=s.Ak.W/\s.Ap.K=s.Ak.K/\s.Ap.Cap=s.Ak.Cap)\/
 (s.Ak.Bb=6/\C8P s.Bf/\s.Bf.P=s.Ak.P)\/
 (s.Ak.Bb=7/\C8O s.Au/\(s.Au.Bg.length:Int)=s.Ak.W)\/
 (s.Ak.Bb=8/\C8N s.Ae/\s.Ae.W=s.Ak.W/\s.Ae.Cap=s.Ak.Cap/\s.Ae.Bj=(s.Ak.Bj==1))\/
 (s.Ak.Bb=9/\B8t s.Am/\(s.Am.Aj.length:Int)=s.Ak.Aj/\(el s.Am.Aj 0).W=s.Ak.W/\(el s.Am.Aj 0).Cap=s.Ak.Cap)\/
 (s.Ak.Bb=10/\C8T s.Ah/\s.Ah.K=s.Ak.K/\s.Ah.Cap=s.Ak.Cap)\/
 (s.Ak.Bb=11/\C8Q s.Aa/\s.Aa.W=s.Ak.W/\s.Aa.K=s.Ak.K/\s.Aa.Cap=s.Ak.Cap)
theorem C6K (s:B0) (w:L2 s) (hk:1<=s.Ak.Bb/\s.Ak.Bb<=11):A6r s=some (S1 (B6C s))/\B0T s=some (S1 (B6C s)):=by
 obtain ⟨_,w1,w2,w3,w4,w5,w6,w7,w8,w9,w10,w11⟩:=w;have e1:=C6C s.Al (K0 w1.2.2.2.1);have e2:=C0a s.Ar (K0 w2.2.2.2.2.1);have e2' :=C0r s.Ar (K0 w2.2.2.2.2.1);have e3:=C3Y s.Sum (K0 w3.2.2.2.2.2.1);have e3' :=C0s s.Sum (K0 w3.2.2.2.2.2.1);have e4:=B9A s.Ao (K0 w4.2.2.2.2.2.2.1);have e4' :=C0t s.Ao (K0 w4.2.2.2.2.2.2.1);have e5:=B9E s.Ap (K0 w5.2.2.2.2.2.1);have e5' :=C0u s.Ap (K0 w5.2.2.2.2.2.1);have e6:=C1W s.Bf (C4h w6.2.2.2.2);have e6' :=C0v s.Bf (C4h w6.2.2.2.2);have e7:=C0f s.Au (K0 w7.2.1);have e7' :=C0w s.Au (K0 w7.2.1);have e8:=B8j s.Ae (K0 w8.2.2.2.2.1);have e8' :=C0x s.Ae (K0 w8.2.2.2.2.1);obtain ⟨r9,e9,e9',b9,p9⟩:=C6M s.Am (K0 w9.1) (fun c hc=>K0 (w9.2 c hc).2.2.2.2.1);have e10:=B8A s.Ah;have e10' :=C0z s.Ah;have hb:B1g s.Aa.Ai:=⟨w11.2.2.2.2.1,fun x hx=>(w11.2.2.2.2.2 x hx).2.2.2.2.1⟩;have e11:=B7c s.Aa hb;have e11' :=C0C s.Aa hb;have e: ∀j:Int,s.Ak.Bb≠j->(s.Ak.Bb==j)=false:=fun j h=>D2U.2 h;unfold B6C A6r B0T;rw [e1.1,e1.2,e2,e2',e3,e3',e4,e4',e5,e5',e6,e6',e7,e7',e8,e8',e9,e9',e10,e10',e11,e11'];have:s.Ak.Bb=1\/s.Ak.Bb=2\/s.Ak.Bb=3\/s.Ak.Bb=4\/s.Ak.Bb=5\/s.Ak.Bb=6\/s.Ak.Bb=7\/s.Ak.Bb=8\/s.Ak.Bb=9\/s.Ak.Bb=10\/s.Ak.Bb=11:=by omega
 rcases this with h|h|h|h|h|h|h|h|h|h|h
 all_goals rw [h]
 case inr.inr.inr.inr.inr.inr.inr.inr.inl=>
  simp only [Int.reduceBEq,beq_self_eq_true,D18,D17,D14,b9,Int.reduceEq,false_and,false_or,or_false,true_and]
  by_cases q1:B8t s.Am/\(s.Am.Aj.length:Int)=s.Ak.Aj
  ·have h0:0<s.Am.Aj.length:=p9 (by have:=O9 q1.1;rw [<-b9,D2Y] at this;exact this)
   have g:(S1 (B8t s.Am)&&((s.Am.Aj.length:Int)==s.Ak.Aj))=true:=by
    rw [D2c,J2,D2Y];exact q1
   rw [g,B1b h0];simp only [G8,D14,D2F];have fin:some (((el s.Am.Aj 0).W==s.Ak.W)&&((el s.Am.Aj 0).Cap==s.Ak.Cap))=some (S1 (B8t s.Am/\(s.Am.Aj.length:Int)=s.Ak.Aj/\(el s.Am.Aj 0).W=s.Ak.W/\(el s.Am.Aj 0).Cap=s.Ak.Cap)):=by
    congr 1
    rw [D2p,J2,D2c,D2Y,D2Y];exact ⟨fun h=>⟨q1.1,q1.2,h.1,h.2⟩,fun h=>⟨h.2.2.1,h.2.2.2⟩⟩
   rw [<-fin];cases ((el s.Am.Aj 0).W==s.Ak.W)<;>exact ⟨rfl,rfl⟩
  ·have g:(S1 (B8t s.Am)&&((s.Am.Aj.length:Int)==s.Ak.Aj))=false:=by
    rw [D2k,Ne,D2c,J2,D2Y];exact q1
   rw [g];simp only [G6,D14,D2z];rw [K8 fun h=>q1 ⟨h.1,h.2.1⟩];exact ⟨rfl,rfl⟩
 all_goals
  simp only [Int.reduceBEq,beq_self_eq_true,D18,D17,D14,D0r,Int.reduceEq,false_and,false_or,or_false,true_and];constructor<;>congr 1<;>rw [D2p,J2]<;>simp only [D2c,J2,D2Y]<;>grind
def B6t (s:B0):Prop:=B98 s.Ak/\B6C s/\B1e s
theorem B0w (s:B0) (w:L2 s):A1p s=some (vOf (B6t s))/\A3O s=some (vOf (B6t s)):=by
 unfold A1p A3O;simp only [];rw [B82,C0D,C7O,C6L s w]
 by_cases h1:B98 s.Ak
 ·obtain ⟨g1,g2⟩:=C6K s w h1.1;rw [C9I h1,g1,g2]
  by_cases h2:B6C s
  ·rw [O9 h2]
   by_cases h3:B1e s
   ·rw [O9 h3,Q3 ⟨h1,h2,h3⟩];exact ⟨rfl,rfl⟩
   ·rw [K8 h3,I7 fun h=>h3 h.2.2];exact ⟨rfl,rfl⟩
  ·rw [K8 h2,I7 fun h=>h2 h.2.1];exact ⟨rfl,rfl⟩
 ·rw [C2f h1,I7 fun h=>h1 h.1];exact ⟨rfl,rfl⟩
end Go.Win
namespace Go.Win
open Go.Vc Go.Dec
def A5l:B0:=⟨⟨0,0,0,0,0,0,0,0⟩,⟨0,0,0, []⟩,⟨0,0,0,0, []⟩,⟨0,0,0,0,0, []⟩,⟨0,0,0,0,0,0, []⟩,⟨0,0,0,0,0, []⟩,⟨0,0,0, []⟩,⟨0, []⟩,⟨false,0,0,0, []⟩,⟨[]⟩,⟨0,0,0, []⟩,⟨0,0,0,0, []⟩⟩
def lenS (s:B0):Prop:=s.Al.Av.length<=maxLen/\s.Ar.Ac.length<=maxLen/\s.Sum.Ac.length<=maxLen/\s.Ao.Az.length<=maxLen/\s.Ap.Az.length<=maxLen/\s.Bf.Af.length<=maxLen/\s.Au.Bg.length<=maxLen/\s.Ae.Av.length<=maxLen/\
 (s.Am.Aj.length<=maxLen/\ ∀c∈s.Am.Aj,c.Ay.length<=maxLen)/\s.Ah.Aq.length<=maxLen/\(s.Aa.Ai.length<=maxLen/\ ∀b∈s.Aa.Ai,b.Ba.Ad.length<=maxLen)
theorem C4Y (s:B0) (h:lenS s):A4f s s=some true:=by
 obtain ⟨h1,h2,h3,h4,h5,h6,h7,h8,h9,h10,h11⟩:=h;unfold A4f;rw [B9z _ h1,B7D _ h2,B7E _ h3,B7F _ h4,B7G _ h5,B7H _ h6,B7I _ h7,B7J _ h8,B7K _ h9.1 h9.2,B7L _ h10,B7M _ h11.1 h11.2];simp
theorem C95 (s:B0) (w:L2 s):lenS s:=by
 obtain ⟨_,w1,w2,w3,w4,w5,w6,w7,w8,w9,w10,w11⟩:=w;exact ⟨K0 w1.2.2.2.1,K0 w2.2.2.2.2.1,K0 w3.2.2.2.2.2.1,K0 w4.2.2.2.2.2.2.1,K0 w5.2.2.2.2.2.1,K0 w6.2.2.2.1,K0 w7.2.1,K0 w8.2.2.2.2.1,
  ⟨K0 w9.1,fun c hc=>K0 (w9.2 c hc).2.2.2.2.1⟩,K0 w10.2.2.2.1,⟨K0 w11.2.2.2.2.1,fun b hb=>K0 (w11.2.2.2.2.2 b hb).2.2.2.2.1⟩⟩
end Go.Win
namespace Go.Win
open Go.Vc Go.Dec
theorem C3u (a:Int) {n:Int} (h1:1<=n) (h2:n<=4611686018427387904): ∃r,B4E a n=some r/\0<=r/\r<n:=by
 have g1:=Int.tmod_lt_of_pos a (show 0<n by omega)
 have g2:=Int.lt_tmod_of_pos a (show 0<n by omega)
 unfold B4E;have hk:decide (n≠0)=true:=by rw [D16];omega
 rw [hk,A0Q]
 by_cases h:a.tmod n<0
 ·have e:A3 (a.tmod n+n)=a.tmod n+n:=by rw [D5]<;>omega
  rw [D19 h,D18,e];exact ⟨_,rfl,by omega,by omega⟩
 ·rw [D2b h,D17];exact ⟨_,rfl,by omega,by omega⟩
end Go.Win
