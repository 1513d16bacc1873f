/- Plain laws of the functions on plain data. -/
import Derived.Test.YtnanpdjjnegknaaGreatVc
import Derived.Test.YtnanpdjjnegknaaGreatWin
set_option linter.unusedVariables false
set_option linter.unusedSimpArgs false
set_option linter.unnecessarySimpa false
set_option linter.unusedSectionVars false
namespace Go.Win
open Go.Vc Go.Dec
theorem F4 {n:Int} (h1:-9223372036854775808<=n) (h2:n<=9223372036854775807):A2 n=n:=by
 show IntKind.i64.wrap n=n;rw [IntKind.wrap_i64];omega
theorem C4U (n:Int):A2 n=(n+9223372036854775808)%18446744073709551616-9223372036854775808:=by
 show IntKind.i64.wrap n=_;rw [IntKind.wrap_i64]
theorem B6S (n:Int):A8 n=n%18446744073709551616:=by
 show IntKind.u64.wrap n=_;rw [IntKind.wrap_u64]
theorem A1J {R:Type} {f:Int->Option (Int⊕R)} {n:Nat} {bad:Nat->Bool} {E:R} {A:Option R}
  (hs:∀i:Nat,i<n->f i=cond (bad i) (some (.inr E)) (some (.inl ((i:Int)+1)))) (hd:f n=Option.map Sum.inr A):
  loop f 0=cond ((List.range n).any bad) (some E) A:=by
 have key: ∀k i:Nat,i+k=n->loop f i=cond ((List.range' i k).any bad) (some E) A:=by
  intro k
  induction k with
  |zero=>
   intro i hi;have hi:i=n:=by omega
   subst hi;rw [A9Y,hd];cases A<;>rfl
  |succ k ih=>
   intro i hi;rw [A9Y,hs i (by omega),List.range'_succ,List.any_cons]
   cases hb:bad i with
   |true=>rfl
   |false=>
    have:=ih (i+1) (by omega)
    simpa using this
 have:=key n 0 (by omega)
 rw [<-List.range_eq_range'] at this;exact this
theorem A6X {n:Nat} {p:Nat->Bool}:(List.range n).any p=true↔ ∃i,i<n/\p i=true:=by
 simp [List.any_eq_true]
theorem M2:maxLen=9223372036854775807:=rfl
end Go.Win
namespace Go.Win
open Go.Vc Go.Dec
def el {α:Type} [Inhabited α] (l:List α) (i:Nat):α:=l.getD i default
theorem A9V {α:Type} [Inhabited α] {l:List α} {i:Nat} (h:i<l.length):l[i]? =some (el l i):=by
 unfold el;rw [D15 h];simp [List.getD,D15 h]
theorem B9d {α:Type} [Inhabited α] {l:List α} {i:Nat} (h:i<l.length):el l i=l[i]:=by
 have:=A9V h;rw [D15 h] at this;exact (D2A this).symm
theorem I7 {α:Type} [Inhabited α] {l:List α} {i:Nat} (h:i<l.length):D3 l (i:Int)=some (el l i):=by
 rw [A1b,A9V h]
theorem A63 {α:Type} [Inhabited α] {l:List α} (h:0<l.length):D3 l (0:Int)=some (el l 0):=I7 h
theorem B0j {α:Type} [Inhabited α] {l:List α} {i:Nat} (h:i<l.length):el l i∈l:=by
 rw [B9d h];exact D2G h
theorem A1v {i n:Nat} (h0:0<i) (h:i<=n) (hm:n<=maxLen):A2 ((i:Int)-1)=((i-1:Nat):Int):=by
 rw [M2] at hm;rw [F4]<;>omega
theorem S8 {i n:Nat} (h:i<n) (hm:n<=maxLen):A2 ((i:Int)+1)=((i+1:Nat):Int):=by
 rw [M2] at hm;rw [F4]<;>omega
theorem A2d {S R:Type} {f:S->Option (S⊕R)} (st:Nat->S) (a n:Nat) (han:a<=n) (bad:Nat->Prop) (E:R) (A:Option R)
  (hs:∀i,a<=i->i<n->(∀j,a<=j->j<i-> ¬bad j)->(bad i->f (st i)=some (.inr E))/\(¬bad i->f (st i)=some (.inl (st (i+1)))))
  (hd:(∀j,a<=j->j<n-> ¬bad j)->f (st n)=Option.map Sum.inr A):
  ((∃i,a<=i/\i<n/\bad i)->loop f (st a)=some E)/\((∀i,a<=i->i<n-> ¬bad i)->loop f (st a)=A):=by
 have key: ∀k i:Nat,a<=i->i+k=n->(∀j,a<=j->j<i-> ¬bad j)->
   ((∃j,i<=j/\j<n/\bad j)->loop f (st i)=some E)/\((∀j,i<=j->j<n-> ¬bad j)->loop f (st i)=A):=by
  intro k
  induction k with
  |zero=>
   intro i hai hi hb;have hi:i=n:=by omega
   subst hi;refine ⟨fun ⟨j,h1,h2,_⟩=>by omega,fun _=> ?_⟩
   rw [A9Y,hd hb];cases A<;>rfl
  |succ k ih=>
   intro i hai hi hb;obtain ⟨h1,h2⟩:=hs i hai (by omega) hb
   by_cases hbi:bad i
   ·refine ⟨fun _=>O8 (h1 hbi),fun h=>absurd hbi (h i (D2z _) (by omega))⟩
   ·obtain ⟨g1,g2⟩:=ih (i+1) (by omega) (by omega) (fun j h3 h4=>by
     by_cases e:j=i
     ·subst e;exact hbi
     ·exact hb j h3 (by omega))
    rw [A66 (h2 hbi)];refine ⟨fun ⟨j,h3,h4,h5⟩=>g1 ⟨j, ?_,h4,h5⟩,fun h=>g2 fun j h3 h4=>h j (by omega) h4⟩
    by_cases e:j=i
    ·subst e;exact absurd h5 hbi
    ·omega
 exact key (n-a) a (D2z _) (by omega) (fun j _ _=>by omega)
theorem M4 {R:Type} {f:Int->Option (Int⊕R)} (n:Nat) (bad:Nat->Prop) (E:R) (A:Option R)
  (hs:∀i:Nat,i<n->(∀j,j<i-> ¬bad j)->(bad i->f (i:Int)=some (.inr E))/\(¬bad i->f (i:Int)=some (.inl ((i+1:Nat):Int))))
  (hd:(∀j,j<n-> ¬bad j)->f (n:Int)=Option.map Sum.inr A):
  ((∃i,i<n/\bad i)->loop f 0=some E)/\((∀i,i<n-> ¬bad i)->loop f 0=A):=by
 have:=A2d (f:=f) (fun i=>(i:Int)) 0 n (Nat.zero_le _) bad E A (fun i _ h2 h3=>hs i h2 fun j h4=>h3 j (Nat.zero_le _) h4) (fun h=>hd fun j h4=>h j (Nat.zero_le _) h4);exact ⟨fun ⟨i,h1,h2⟩=>this.1 ⟨i,Nat.zero_le _,h1,h2⟩,fun h=>this.2 fun i _ h1=>h i h1⟩
theorem C85 {α:Type} (b:Bool) (x y:α):cond b x y=if b=true then x else y:=by cases b<;>rfl
open Classical in
noncomputable def vOf (p:Prop):Int:=if p then 0 else 2
theorem U1 {p:Prop} (h:p):vOf p=0:=by unfold vOf;rw [if_pos h]
theorem J5 {p:Prop} (h:¬p):vOf p=2:=by unfold vOf;rw [if_neg h]
open Classical in
noncomputable def Q7 (p:Prop):Bool:=if p then true else false
theorem O6 {p:Prop} (h:p):Q7 p=true:=by unfold Q7;rw [if_pos h]
theorem L1 {p:Prop} (h:¬p):Q7 p=false:=by unfold Q7;rw [if_neg h]
theorem I8 {p:Prop}:Q7 p=true↔p:=by
 unfold Q7;split<;>simp_all
end Go.Win
namespace Go.Win
open Go.Vc Go.Dec
theorem L3 {α:Type} {b:Bool} {bad:Prop} {X Y:α} (h:b=true↔bad):(bad->cond b X Y=X)/\(¬bad->cond b X Y=Y):=by
 cases b with
 |true=>exact ⟨fun _=>rfl,fun hn=>absurd (h.1 rfl) hn⟩
 |false=>exact ⟨fun hb=>absurd (h.2 hb) (by decide),fun _=>rfl⟩
theorem A1q {α:Type} (a b:Bool) (x y:α):cond a x (cond b x y)=cond (a||b) x y:=by cases a<;>rfl
def F5 (l:List A7) (j i:Nat):Int:=(((l.take i).countP fun b=>b.Bc==(j:Int)):Nat)
theorem C3M (l:List A7) (j:Nat):F5 l j 0=0:=by simp [F5]
theorem C3L {l:List A7} {i:Nat} (h:i<l.length) (j:Nat):F5 l j (i+1)=F5 l j i+(if (el l i).Bc=(j:Int) then 1 else 0):=by
 unfold F5;rw [List.take_add_one,A9V h,Option.toList_some,List.countP_append,List.countP_singleton];split<;>simp_all
theorem D0K (l:List A7) (j i:Nat):0<=F5 l j i:=by unfold F5;omega
theorem D0J (l:List A7) (j i:Nat):F5 l j i<=i:=by
 have:(l.take i).countP (fun b=>b.Bc==(j:Int))<=(l.take i).length:=List.countP_le_length;rw [D2j] at this;unfold F5;omega
def A12 (l:List A7) (i:Nat):Prop:= ¬(0<=(el l i).T/\(el l i).T<=16777216/\0<=(el l i).Bc/\(el l i).Bc<=30)\/(0<i/\((el l (i-1)).T>(el l i).T\/(el l (i-1)).Bc<(el l i).Bc))
def A92 (l:List A7) (k:Int) (j:Nat):Prop:=F5 l j l.length>k+1\/((j:Int)<(el l 0).Bc/\F5 l j l.length<k)
def A67 (l:List A7) (k:Int):Prop:=(1<=k/\k<=128)/\(∀i,i<l.length-> ¬A12 l i)/\(0<l.length-> ∀j:Nat,(j:Int)<=(el l 0).Bc-> ¬A92 l k j)
theorem D0c (l:List A7) (i:Nat): [F5 l 0 i,F5 l 1 i,F5 l 2 i,F5 l 3 i,F5 l 4 i,F5 l 5 i,F5 l 6 i,F5 l 7 i,F5 l 8 i,F5 l 9 i,F5 l 10 i,F5 l 11 i,F5 l 12 i,F5 l 13 i,F5 l 14 i,F5 l 15 i,F5 l 16 i,F5 l 17 i,F5 l 18 i,F5 l 19 i,F5 l 20 i,F5 l 21 i,F5 l 22 i,F5 l 23 i,F5 l 24 i,F5 l 25 i,F5 l 26 i,F5 l 27 i,F5 l 28 i,F5 l 29 i,F5 l 30 i]=(List.range 31).map fun j=>F5 l j i:=rfl
theorem C0w (l:List A7) (i:Nat) {L:Int} (h0:0<=L) (h1:L<=30):D3 [F5 l 0 i,F5 l 1 i,F5 l 2 i,F5 l 3 i,F5 l 4 i,F5 l 5 i,F5 l 6 i,F5 l 7 i,F5 l 8 i,F5 l 9 i,F5 l 10 i,F5 l 11 i,F5 l 12 i,F5 l 13 i,F5 l 14 i,F5 l 15 i,F5 l 16 i,F5 l 17 i,F5 l 18 i,F5 l 19 i,F5 l 20 i,F5 l 21 i,F5 l 22 i,F5 l 23 i,F5 l 24 i,F5 l 25 i,F5 l 26 i,F5 l 27 i,F5 l 28 i,F5 l 29 i,F5 l 30 i] L=some (F5 l L.toNat i):=by
 rw [D0c];have:D3 ((List.range 31).map fun j=>F5 l j i) ((L.toNat:Nat):Int)=some (F5 l L.toNat i):=by
  rw [A1b,D2q,List.getElem?_range (by omega)]
  rfl
 rw [<-this]
 congr 1
 omega
theorem C3K {l:List A7} {i:Nat} (h:i<l.length) (hl:l.length<=maxLen) (h0:0<=(el l i).Bc) (j:Nat):
  (if (el l i).Bc.toNat=j then A2 (F5 l (el l i).Bc.toNat i+1) else F5 l j i)=F5 l j (i+1):=by
 rw [C3L h];have h1:=D0K l j i;have h2:=D0J l j i;rw [M2] at hl
 by_cases e:(el l i).Bc.toNat=j
 ·rw [if_pos e,e,if_pos (by omega),F4]<;>omega
 ·rw [if_neg e,if_neg (by omega)];omega
def stB (l:List A7) (i:Nat):Int×Int×Int×Int×Int×Int×Int×Int×Int×Int×Int×Int×Int×Int×Int×Int×Int×Int×Int×Int×Int×Int×Int×Int×Int×Int×Int×Int×Int×Int×Int×Int:=((i:Int),F5 l 0 i,F5 l 1 i,F5 l 2 i,F5 l 3 i,F5 l 4 i,F5 l 5 i,F5 l 6 i,F5 l 7 i,F5 l 8 i,F5 l 9 i,F5 l 10 i,F5 l 11 i,F5 l 12 i,F5 l 13 i,F5 l 14 i,F5 l 15 i,F5 l 16 i,F5 l 17 i,F5 l 18 i,F5 l 19 i,F5 l 20 i,F5 l 21 i,F5 l 22 i,F5 l 23 i,F5 l 24 i,F5 l 25 i,F5 l 26 i,F5 l 27 i,F5 l 28 i,F5 l 29 i,F5 l 30 i)
theorem C0k (l:List A7) (k:Int) (hk:1<=k/\k<=128) (h0:0<l.length) (hL:0<=(el l 0).Bc/\(el l 0).Bc<=30) (i:Nat) (hi:i=l.length):
  A1N k (F5 l 0 i) (F5 l 1 i) (F5 l 2 i) (F5 l 3 i) (F5 l 4 i) (F5 l 5 i) (F5 l 6 i) (F5 l 7 i) (F5 l 8 i) (F5 l 9 i) (F5 l 10 i) (F5 l 11 i) (F5 l 12 i) (F5 l 13 i) (F5 l 14 i) (F5 l 15 i) (F5 l 16 i) (F5 l 17 i) (F5 l 18 i) (F5 l 19 i) (F5 l 20 i) (F5 l 21 i) (F5 l 22 i) (F5 l 23 i) (F5 l 24 i) (F5 l 25 i) (F5 l 26 i) (F5 l 27 i) (F5 l 28 i) (F5 l 29 i) (F5 l 30 i) (el l 0) 0=some (Q7 (∀j:Nat,(j:Int)<=(el l 0).Bc-> ¬A92 l k j)):=by
 unfold A1N;have H:=M4 (f:=fun s:Int=>A1j k (F5 l 0 i) (F5 l 1 i) (F5 l 2 i) (F5 l 3 i) (F5 l 4 i) (F5 l 5 i) (F5 l 6 i) (F5 l 7 i) (F5 l 8 i) (F5 l 9 i) (F5 l 10 i) (F5 l 11 i) (F5 l 12 i) (F5 l 13 i) (F5 l 14 i) (F5 l 15 i) (F5 l 16 i) (F5 l 17 i) (F5 l 18 i) (F5 l 19 i) (F5 l 20 i) (F5 l 21 i) (F5 l 22 i) (F5 l 23 i) (F5 l 24 i) (F5 l 25 i) (F5 l 26 i) (F5 l 27 i) (F5 l 28 i) (F5 l 29 i) (F5 l 30 i) (el l 0) s) ((el l 0).Bc.toNat+1) (A92 l k) false (some true)
  (fun j hj _=>by
   unfold A1j;have e1:decide ((j:Int)<=(el l 0).Bc)=true:=D1W (by omega)
   have e2:A2 (k+1)=k+1:=by rw [F4]<;>omega
   have e3:A2 ((j:Int)+1)=((j+1:Nat):Int):=by rw [F4]<;>omega
   rw [e1,D1V,C0w l i (by omega) (by omega),D1R]
   simp only [D1R,e2,e3,D2x]
   by_cases g1:F5 l j i>k+1
   ·simp only [g1,decide_true,D13,D2m,H5,D1R,D2B,D1V];exact ⟨fun _=>trivial,fun hn=>absurd (.inl (hi▸g1)) hn⟩
   ·simp only [g1,decide_false,D14,D2s,D2i]
    by_cases g2:(j:Int)<(el l 0).Bc
    ·simp only [g2,decide_true,H7,D1R,D2s];refine L3 ?_;unfold A92;rw [D1T,<-hi];omega
    ·simp only [g2,decide_false,H5,D1R,D2m,D1U];refine ⟨fun hb=> ?_,fun _=>trivial⟩;unfold A92 at hb;rw [<-hi] at hb;omega)
  (fun _=>by
   unfold A1j;rw [D1Y (by omega),D1U])
 by_cases hb: ∃j:Nat,j<(el l 0).Bc.toNat+1/\A92 l k j
 ·rw [H.1 hb,L1];intro hn;obtain ⟨j,h1,h2⟩:=hb;exact hn j (by omega) h2
 ·rw [H.2 fun j h1 h2=>hb ⟨j,h1,h2⟩,O6];intro j h1 h2;exact hb ⟨j,by omega,h2⟩
theorem A8e (l:List A7) (k:Int) (hl:l.length<=maxLen):Y1 l k=some (Q7 (A67 l k)):=by
 unfold Y1
 by_cases hk:1<=k/\k<=128
 ·have e:(decide (k<(1:Int))||decide (k>(128:Int)))=false:=by simp;omega
  rw [e,D1U];unfold A94;have H: ∀R,((∃i,0<=i/\i<l.length/\A12 l i)->R=some false)/\((∀i,0<=i->i<l.length-> ¬A12 l i)->R=(if 0<l.length then A1N k (F5 l 0 l.length) (F5 l 1 l.length) (F5 l 2 l.length) (F5 l 3 l.length) (F5 l 4 l.length) (F5 l 5 l.length) (F5 l 6 l.length) (F5 l 7 l.length) (F5 l 8 l.length) (F5 l 9 l.length) (F5 l 10 l.length) (F5 l 11 l.length) (F5 l 12 l.length) (F5 l 13 l.length) (F5 l 14 l.length) (F5 l 15 l.length) (F5 l 16 l.length) (F5 l 17 l.length) (F5 l 18 l.length) (F5 l 19 l.length) (F5 l 20 l.length) (F5 l 21 l.length) (F5 l 22 l.length) (F5 l 23 l.length) (F5 l 24 l.length) (F5 l 25 l.length) (F5 l 26 l.length) (F5 l 27 l.length) (F5 l 28 l.length) (F5 l 29 l.length) (F5 l 30 l.length) (el l 0) 0 else some true))->R=some (Q7 (A67 l k)):=by
   intro R hR
   by_cases hb: ∃i,0<=i/\i<l.length/\A12 l i
   ·rw [hR.1 hb,L1];intro hn;obtain ⟨i,_,h1,h2⟩:=hb;exact hn.2.1 i h1 h2
   ·have hg: ∀i,0<=i->i<l.length-> ¬A12 l i:=fun i h1 h2 h3=>hb ⟨i,h1,h2,h3⟩;rw [hR.2 hg]
    by_cases h0:0<l.length
    ·have h1:=hg 0 (D2z _) h0;unfold A12 at h1;rw [if_pos h0,C0k l k hk h0 (by omega) l.length rfl]
     congr 1
     rw [D2c,I8,I8];exact ⟨fun h2=>⟨hk,fun i hi=>hg i (Nat.zero_le _) hi,fun _=>h2⟩,fun h2=>h2.2.2 h0⟩
    ·rw [if_neg h0,O6];exact ⟨hk,fun i hi=>hg i (Nat.zero_le _) hi,fun h=>absurd h h0⟩
  apply H;refine A2d (stB l) 0 l.length (Nat.zero_le _) (A12 l) false _ (fun i _ hi _=> ?_) (fun hg=> ?_)
  ·simp only [stB];unfold A4z;rw [D1W (by omega),D1V,I7 hi,D1R]
   simp only []
   by_cases hr:0<=(el l i).T/\(el l i).T<=16777216/\0<=(el l i).Bc/\(el l i).Bc<=30
   ·have e1:(!A0T (el l i).T|| !Y2 (el l i).Bc)=false:=by
     unfold A0T Y2;simp;omega
    rw [e1,D1U,C0w l i hr.2.2.1 hr.2.2.2];simp only [D1R,C3K hi hl hr.2.2.1,S8 hi hl];rcases i with _|i
    ·simp only [D2k,gt_iff_lt,Int.natCast_zero,decide_false,H5,D1R,D2m,D1U];refine ⟨fun hb=> ?_,fun _=>trivial⟩;unfold A12 at hb;omega
    ·have e2:decide (((i+1:Nat):Int)>0)=true:=D1W (by omega)
     rw [e2,A1v (by omega) (Nat.le_of_lt hi) hl,D2y,I7 (by omega)]
     simp only [H7,D1R,D2s]
     by_cases g1:(el l i).T>(el l (i+1)).T
     ·simp only [g1,decide_true,D13,H5,D1R,D2B,D1V];exact ⟨fun _=>trivial,fun hn=>absurd (.inr ⟨by omega, .inl (by rw [D2y];exact g1)⟩) hn⟩
     ·simp only [g1,decide_false,D14,H7,D1R,D2i];refine L3 ?_;unfold A12;rw [D1T,D2y];omega
   ·have e1:(!A0T (el l i).T|| !Y2 (el l i).Bc)=true:=by
     unfold A0T Y2;rw [D2c];simp;omega
    rw [e1,D1V];exact ⟨fun _=>rfl,fun hn=>absurd (.inl hr) hn⟩
  ·simp only [stB];unfold A4z;rw [D1Y (D2k _),D1U]
   congr 1
   by_cases h0:0<l.length
   ·have e1:((l.length:Int)==0)=false:=by rw [D2H];omega
    rw [e1,D1U,if_pos h0,A63 h0,D1R]
   ·have e1:((l.length:Int)==0)=true:=by
     have:l.length=0:=by omega
     rw [this];rfl
    rw [e1,D1V,if_neg h0]
 ·have e:(decide (k<(1:Int))||decide (k>(128:Int)))=true:=by
   rw [D2c];simp;omega
  rw [e,D1V,L1];exact fun h=>hk h.1
def A5s (l:List A7) (i:Nat):List Int:=(List.range 31).map fun j=>F5 l j i
theorem C3N (l:List A7) (i:Nat) {L:Int} (h0:0<=L) (h1:L<=30):D3 (A5s l i) L=some (F5 l L.toNat i):=C0w l i h0 h1
theorem B8m (l:List A7) (i:Nat):(A5s l i).length=31:=by simp [A5s]
theorem C76 {l:List A7} {i:Nat} (h:i<l.length) (hl:l.length<=maxLen) (h0:0<=(el l i).Bc) (h1:(el l i).Bc<=30):
  (A5s l i).set (el l i).Bc.toNat (A2 (F5 l (el l i).Bc.toNat i+1))=A5s l (i+1):=by
 apply List.ext_getElem?;intro j;rw [List.getElem?_set,B8m];unfold A5s
 by_cases hj:j<31
 ·rw [D2q,D2q,List.getElem?_range hj];have:=C3K h hl h0 j;simp only [Option.map_some];rw [<-this];split<;>simp_all
 ·have:(el l i).Bc.toNat≠j:=by omega
  rw [if_neg this,D2O (by simp;omega),D2O (by simp;omega)]
theorem C7v (l:List A7) (k:Int) (hk:1<=k/\k<=128) (hg:∀i,i<l.length-> ¬A12 l i):
  A31 l k (A5s l l.length) 0=some (Q7 (0<l.length-> ∀j:Nat,(j:Int)<=(el l 0).Bc-> ¬A92 l k j)):=by
 unfold A31;have hup: ∀i,i<l.length->(el l i).Bc<=(el l 0).Bc:=by
  intro i
  induction i with
  |zero=>intro _;exact Int.le_refl _
  |succ i ih=>
   intro hi;have h1:=hg (i+1) hi;unfold A12 at h1;rw [D2y] at h1;have:=ih (by omega)
   omega
 have hz:0<l.length-> ∀j:Nat,(el l 0).Bc<(j:Int)->F5 l j l.length=0:=by
  intro _ j hj;have: ∀i,i<=l.length->F5 l j i=0:=by
   intro i
   induction i with
   |zero=>intro _;exact C3M l j
   |succ i ih=>
    intro hi;rw [C3L (by omega),ih (by omega),if_neg]
    ·rfl
    ·have:=hup i (by omega);omega
  exact this _ (D2z _)
 have H:=M4 (f:=fun s:Int=>A3j l k (A5s l l.length) s) 31 (fun j=>0<l.length/\A92 l k j) false (some true)
  (fun j hj _=>by
   unfold A3j;have e2:A2 (k+1)=k+1:=by rw [F4]<;>omega
   have e3:A2 ((j:Int)+1)=((j+1:Nat):Int):=by rw [F4]<;>omega
   have e4:((A5s l l.length).length:Int)=31:=by rw [B8m];rfl
   rw [e4,D1W (by omega),D1V,C3N l _ (by omega) (by omega),D1R]
   simp only [e2,e3,D2x]
   by_cases h0:0<l.length
   ·rw [D1W (by omega:(l.length:Int)>0),A63 h0]
    simp only [H7,D1R,D2s];refine L3 ?_;unfold A92;simp only [D12,D1Z,D1T];omega
   ·rw [D1Y (by omega: ¬(l.length:Int)>0)]
    simp only [H5,D1R,D2m,D1U];exact ⟨fun hb=>absurd hb.1 h0,fun _=>trivial⟩)
  (fun _=>by
   unfold A3j;have e4:((A5s l l.length).length:Int)=31:=by rw [B8m];rfl
   rw [e4,D1Y (by omega),D1U])
 by_cases hb: ∃j:Nat,j<31/\(0<l.length/\A92 l k j)
 ·rw [H.1 hb,L1];intro hn;obtain ⟨j,h1,h2,h3⟩:=hb
  by_cases h4:(j:Int)<=(el l 0).Bc
  ·exact hn h2 j h4 h3
  ·have:=hz h2 j (by omega)
   unfold A92 at h3;omega
 ·rw [H.2 fun j h1 h2=>hb ⟨j,h1,h2⟩,O6];intro h0 j h1 h2;have:=hg 0 h0;unfold A12 at this;exact hb ⟨j,by omega,h0,h2⟩
theorem B7P (l:List A7) (k:Int) (hl:l.length<=maxLen):A7K l k=some (Q7 (A67 l k)):=by
 unfold A7K
 by_cases hk:1<=k/\k<=128
 ·have e:A6a k=true:=by unfold A6a;simp;omega
  simp only [e,D13,D1U];have e2:(decide (0<=(31:Int)/\(31:Int)<=(31:Int)/\(31:Int)*8<=140737488355328/\(31:Int)<=140737488355328))=true:=by decide
  rw [e2,Z3];unfold B26;have H: ∀R,((∃i,0<=i/\i<l.length/\A12 l i)->R=some false)/\((∀i,0<=i->i<l.length-> ¬A12 l i)->R=A31 l k (A5s l l.length) 0)->R=some (Q7 (A67 l k)):=by
   intro R hR
   by_cases hb: ∃i,0<=i/\i<l.length/\A12 l i
   ·rw [hR.1 hb,L1];intro hn;obtain ⟨i,_,h1,h2⟩:=hb;exact hn.2.1 i h1 h2
   ·have hg: ∀i,0<=i->i<l.length-> ¬A12 l i:=fun i h1 h2 h3=>hb ⟨i,h1,h2,h3⟩;rw [hR.2 hg,C7v l k hk fun i hi=>hg i (Nat.zero_le _) hi]
    congr 1
    rw [D2c,I8,I8];exact ⟨fun h2=>⟨hk,fun i hi=>hg i (Nat.zero_le _) hi,h2⟩,fun h2=>h2.2.2⟩
  apply H;have e0:(List.replicate ((31:Int)).toNat (0:Int),(0:Int))=(fun i:Nat=>(A5s l i,(i:Int))) 0:=by
   have:List.replicate ((31:Int)).toNat (0:Int)=A5s l 0:=by
    unfold A5s;simp only [C3M]
    rfl
   rw [this];rfl
  rw [e0];refine A2d (fun i:Nat=>(A5s l i,(i:Int))) 0 l.length (Nat.zero_le _) (A12 l) false _ (fun i _ hi _=> ?_) (fun hg=> ?_)
  ·simp only [];unfold A6b;rw [D1W (by omega),D1V,I7 hi,D1R]
   simp only []
   by_cases hr:0<=(el l i).T/\(el l i).T<=16777216/\0<=(el l i).Bc/\(el l i).Bc<=30
   ·have e1:((!I1 (el l i).T||decide ((el l i).Bc<0))||decide ((el l i).Bc>30))=false:=by
     unfold I1;simp;omega
    rw [e1,C3N l i hr.2.2.1 hr.2.2.2];simp only [D1R,C76 hi hl hr.2.2.1 hr.2.2.2,S8 hi hl,D14,D2s,D2i];rcases i with _|i
    ·simp only [D2k,gt_iff_lt,Int.natCast_zero,decide_false,H5,D1R,D2m,D1U];refine ⟨fun hb=> ?_,fun _=>trivial⟩;unfold A12 at hb;omega
    ·have e2:decide (((i+1:Nat):Int)>0)=true:=D1W (by omega)
     rw [e2,A1v (by omega) (Nat.le_of_lt hi) hl,D2y,I7 (by omega)]
     simp only [H7,D1R,D2s]
     by_cases g1:(el l i).T>(el l (i+1)).T
     ·simp only [g1,decide_true,D13,H5,D1R,D2B,D1V];exact ⟨fun _=>trivial,fun hn=>absurd (.inr ⟨by omega, .inl (by rw [D2y];exact g1)⟩) hn⟩
     ·simp only [g1,decide_false,D14,H7,D1R,D2i];refine L3 ?_;unfold A12;rw [D1T,D2y];omega
   ·have e1:((!I1 (el l i).T||decide ((el l i).Bc<0))||decide ((el l i).Bc>30))=true:=by
     unfold I1;rw [D2c];simp;omega
    rw [e1];simp only [D13,D2m,H5,D1R,D2B,D1V];exact ⟨fun _=>trivial,fun hn=>absurd (.inl hr) hn⟩
  ·simp only [];unfold A6b;rw [D1Y (by omega),D1U]
 ·have e:A6a k=false:=by unfold A6a;simp;omega
  simp only [e,D14,D1V];rw [L1];exact fun h=>hk h.1
end Go.Win
namespace Go.Win
open Go.Vc Go.Dec
theorem C9H:A7z=A7J:=rfl
theorem C9I:A58=J9:=rfl
theorem C6k (a b c:Int):A4X a b c=J4 a b c:=by
 unfold A4X J4 R2 I1;rw [D2c];simp only [D1Z,D1T];omega
theorem A9X (n w t:Int):N5 n w t=H6 n w t:=by
 unfold N5 Z8 H6 I1 R2;have e:A5U=A9t:=rfl;rw [e];unfold A9t
 by_cases h1:n>=0/\n<=16777216
 ·by_cases h2:w>=1/\w<=1048576
  ·have c:(((!(decide (n>=0)&&decide (n<=16777216)))||decide (w<1))||decide (w>1048576))=false:=by
    simp only [D2r,Bool.not_eq_false',D1Z,D1T,D18];omega
   simp only [c,D1U];have e1:A2 (n-w)=n-w:=by rw [F4]<;>omega
   have e2:A2 (n-w+1)=n-w+1:=by rw [F4]<;>omega
   rw [e1,e2,D2c];simp only [D1Z,D1T,A0U];split<;>omega
  ·have c:(((!(decide (n>=0)&&decide (n<=16777216)))||decide (w<1))||decide (w>1048576))=true:=by
    simp only [D12,D2d,D2I,D1T,D18];omega
   have d:(decide (w>=1)&&decide (w<=1048576))=false:=by
    simp only [D2I,D18];omega
   simp only [c,d,D1V,Bool.and_false,D2m]
   rfl
 ·have c:(((!(decide (n>=0)&&decide (n<=16777216)))||decide (w<1))||decide (w>1048576))=true:=by
   simp only [D12,D2d,D2I,D1T,D18];omega
  have d:(decide (n>=0)&&decide (n<=16777216))=false:=by
   simp only [D2I,D18];omega
  simp only [c,d,D1V,D2m]
  rfl
def B1I (l:List D0) (now:Int) (i:Nat):Bool:=match l[i]? with
 |none=>false
 |some p=>(decide (p.T<0)||decide (p.T>now))||(decide (0<i)&&match l[i-1]? with
  |some q=>decide (q.T>p.T)
  |none=>false)
noncomputable def B3l (l:List D0) (now:Int):Bool:=I1 now&& !(List.range l.length).any (B1I l now)
theorem B3Y {i:Nat} (h:0<i) (hm:i<=maxLen):A2 ((i:Int)-1)=((i-1:Nat):Int):=by
 rw [M2] at hm;rw [F4]<;>omega
theorem A0A {i n:Nat} (h:i<n) (hm:n<=maxLen):A2 ((i:Int)+1)=(i:Int)+1:=by
 rw [M2] at hm;rw [F4]<;>omega
theorem M9 {α:Type} {l:List α} {i:Nat} (h:i<l.length):l[i]? =some l[i]:=D15 h
theorem C7I (l:List D0) (now:Int) (hl:l.length<=maxLen):A7J l now=some (B3l l now):=by
 unfold A7J B3l;cases ht:I1 now with
 |false=>rfl
 |true=>
  have h:A7b l now 0=cond ((List.range l.length).any (B1I l now)) (some false) (some true):=by
   unfold A7b;refine A1J (fun i hi=> ?_) ?_
   ·have hs:=A0A hi hl;unfold A59 B1I;simp only [Int.ofNat_lt,hi,decide_true,D1V,A1b,M9 hi,D1R,hs]
    by_cases h0:0<i
    ·have hp:=B3Y h0 (Nat.le_trans (Nat.le_of_lt hi) hl);have h3:((i:Int)>0):=by omega
     simp only [hp,A1b,M9 (show i-1<l.length by omega),h3,h0,decide_true,D2s,Bool.and_true]
     cases (decide (l[i].T<0)||decide (l[i].T>now))<;>simp
    ·have h3: ¬((i:Int)>0):=by omega
     simp only [h3,h0,decide_false,H5,D1R,D2m,Bool.and_false,Bool.or_false]
   ·unfold A59;simp
  simp only [D13,D1U,h];cases (List.range l.length).any (B1I l now)<;>rfl
theorem B9v (l:List D0) (hl:l.length<=maxLen):X4 l l=some true:=by
 have h:A1w l l 0=cond ((List.range l.length).any fun _=>false) (some false) (some true):=by
  unfold A1w;refine A1J (fun i hi=> ?_) ?_
  ·unfold A03;simp [hi,A0A hi hl]
  ·unfold A03;simp
 have hf:((List.range l.length).any fun _=>false)=false:=by simp
 rw [hf] at h;unfold X4;simp [h]
theorem C7B (x:C6) (hl:x.Bb.length<=maxLen):A30 x x=some true:=by
 unfold A30;simp [B9v x.Bb hl]
theorem C4S (x:C6):U9 x=Z7 x:=by
 have e:A3b=A0h:=by
  funext x i
  unfold A3b A0h;simp only [A9X,C9I]
 unfold U9 Z7 A7Z A1W;rw [e,C6k,C9H]
noncomputable def okV (x:C6):Bool:=(J4 x.W x.Cap x.Now&&decide ((x.Bb.length:Int)<=x.Cap))&&(B3l x.Bb x.Now&&x.Bb.all fun p=>H6 x.Now x.W p.T&&J9 p.V)
theorem C98 {α:Type} {l:List α} {p:α->Bool}:(List.range l.length).any (fun i=>match l[i]? with
  |some x=> !p x
  |none=>false)= !l.all p:=by
 rw [D2c,A6X];constructor
 ·rintro ⟨i,hi,h⟩;rw [M9 hi] at h;simp only [D2d] at h⊢;rw [List.all_eq_false];exact ⟨l[i],D2G hi,by simp [h]⟩
 ·intro h;simp only [D2d] at h;rw [List.all_eq_false] at h;obtain ⟨x,hx,hp⟩:=h;obtain ⟨i,hi,rfl⟩:=List.mem_iff_getElem.1 hx;refine ⟨i,hi, ?_⟩;rw [M9 hi];simpa using hp
theorem C06 (x:C6) (hl:x.Bb.length<=maxLen):Z7 x=some (if okV x then 0 else 2):=by
 have h:A1W x 0=cond (!(x.Bb.all fun p=>H6 x.Now x.W p.T&&J9 p.V)) (some 2) (some 0):=by
  rw [<-C98];unfold A1W;refine A1J (fun i hi=> ?_) ?_
  ·unfold A0h;simp only [Int.ofNat_lt,hi,decide_true,D1V,A1b,M9 hi,D1R,A0A hi hl,Bool.not_and]
  ·unfold A0h;simp
 unfold Z7 okV;rw [C7I x.Bb x.Now hl,h];have hd:decide ((x.Bb.length:Int)>x.Cap)= !decide ((x.Bb.length:Int)<=x.Cap):=by
  rw [D2c];simp
 rw [hd];cases J4 x.W x.Cap x.Now<;>cases decide ((x.Bb.length:Int)<=x.Cap)<;>cases B3l x.Bb x.Now<;>cases (x.Bb.all fun p=>H6 x.Now x.W p.T&&J9 p.V)<;>rfl
end Go.Win
namespace Go.Win
open Go.Vc Go.Dec
theorem D0w (a b:Int):A2 (A2 a+b)=A2 (a+b):=by
 rw [C4U,C4U,C4U];omega
theorem A0P (t:Int):I1 t=true↔0<=t/\t<=16777216:=by unfold I1;simp
theorem R7 (w c n:Int):J4 w c n=true↔(1<=w/\w<=1048576)/\(1<=c/\c<=65536)/\(0<=n/\n<=16777216):=by
 unfold J4 R2 I1;simp;omega
theorem Q1 (k:Int):J3 k=true↔1<=k/\k<=64:=by unfold J3;simp
theorem A1H (v:Int):J9 v=true↔ -4096<=v/\v<=4096:=by unfold J9;simp
theorem C9f: ∀n:Fin 31,F3 .i64 1 (A8 (n.1:Int))=2^n.1:=by decide+kernel
theorem B9u {L:Int} (h0:0<=L) (h1:L<=30):F3 .i64 1 (A8 L)=2^L.toNat:=by
 have:=C9f ⟨L.toNat,by omega⟩
 simp only [] at this;rw [<-this]
 congr 2
 omega
def C2W (b:A7):Int:=if 0<=b.Bc/\b.Bc<=30 then 2^b.Bc.toNat else 0
def A0K (l:List A7):Int:=(l.map C2W).sum
theorem C9F:A0K []=0:=rfl
theorem C8O (b:A7) (l:List A7):A0K (b::l)=C2W b+A0K l:=by simp [A0K]
theorem C56 (a b:List A7):A0K (a++b)=A0K a+A0K b:=by simp [A0K]
theorem C8P {l:List A7} {i:Nat} (h:i<l.length):A0K (l.take (i+1))=A0K (l.take i)+C2W (el l i):=by
 rw [List.take_add_one,A9V h,Option.toList_some,C56,C8O,C9F];omega
theorem A4Z (l:List A7) (hl:l.length<=maxLen):A4Y l=some (A2 (A0K l)):=by
 unfold A4Y B25;have H:=A2d (f:=fun s:Int×Int=>A3i l s.1 s.2) (fun i=>(A2 (A0K (l.take i)),(i:Int))) 0 l.length (Nat.zero_le _) (fun _=>False) 0 (some (A2 (A0K l)))
  (fun i _ hi _=>by
   refine ⟨fun h=>h.elim,fun _=> ?_⟩;simp only [];unfold A3i;rw [D1W (by omega:(i:Int)<(l.length:Int)),D1V,I7 hi,D1R,S8 hi hl,C8P hi]
   unfold C2W
   by_cases h:0<=(el l i).Bc/\(el l i).Bc<=30
   ·rw [D1W h.1,D1W h.2,if_pos h,B9u h.1 h.2,D0w];have:decide (0<=A8 (el l i).Bc)=true:=D1W (by rw [B6S];omega)
    rw [this];rfl
   ·have e:(decide ((el l i).Bc>=0)&&decide ((el l i).Bc<=30))=false:=by
     rw [D17];simpa using h
    rw [e,if_neg h,D1U,Int.add_zero])
  (fun _=>by
   simp only [];unfold A3i;rw [D1Y (D2k _),D1U,List.take_length])
 exact H.2 (fun _ _ _ h=>h)
theorem B39:T5=A4Y:=rfl
def B0y (l:List A7) (W K Cap Now:Int):Prop:=
 ((1<=W/\W<=1048576)/\(1<=Cap/\Cap<=65536)/\(0<=Now/\Now<=16777216)/\(1<=K/\K<=64))/\A67 l K/\A2 (A0K l)<=Cap/\ ∀i,i<l.length->H6 Now W (el l i).T=true
theorem B9O (l:List A7) (W K Cap Now:Int) (hl:l.length<=maxLen):A9B l W K Cap Now=some (Q7 (B0y l W K Cap Now)):=by
 unfold A9B;simp only []
 by_cases h1:(1<=W/\W<=1048576)/\(1<=Cap/\Cap<=65536)/\(0<=Now/\Now<=16777216)/\(1<=K/\K<=64)
 ·have e1:J4 W Cap Now=true:=(R7 _ _ _).2 ⟨h1.1,h1.2.1,h1.2.2.1⟩;have e2:J3 K=true:=(Q1 _).2 h1.2.2.2;rw [e1,e2,B7P l K hl,A4Z l hl];simp only [D13,Bool.or_false,D14,H7,D1R,D2i]
  by_cases h2:A67 l K
  ·rw [O6 h2];simp only [D13,D14,H7,D1R,D2i]
   by_cases h3:A2 (A0K l)<=Cap
   ·rw [D1Y (by omega),D1U]
    unfold B4F;have H:=M4 (f:=fun s:Int=>A32 l W Now s) l.length (fun i=> ¬H6 Now W (el l i).T=true) false (some true)
     (fun i hi _=>by
      unfold A32;rw [D1W (by omega:(i:Int)<(l.length:Int)),D1V,I7 hi,D1R,S8 hi hl]
      refine L3 ?_;simp)
     (fun _=>by
      unfold A32;rw [D1Y (D2k _),D1U])
    by_cases h4: ∀i,i<l.length->H6 Now W (el l i).T=true
    ·rw [H.2 fun i hi hn=>hn (h4 i hi),O6];exact ⟨h1,h2,h3,h4⟩
    ·rw [H.1,L1]
     ·exact fun h=>h4 h.2.2.2
     ·exact D2M fun hn=>h4 fun i hi=>D2M fun hc=>hn ⟨i,hi,hc⟩
   ·rw [D1W (by omega),D1V,L1]
    exact fun h=>h3 h.2.2.1
  ·rw [L1 h2];simp only [D13,D14,H5,D1R,D2B,D1V];rw [L1];exact fun h=>h2 h.2.1
 ·have e:(!J4 W Cap Now|| !J3 K)=true:=by
   rw [D12,D2d,D2d,D17,D17,Ne,Ne,R7,Q1];omega
  rw [e];simp only [D13,H5,D1R,D2B,D1V];rw [L1];exact fun h=>h1 h.1
theorem C0R (x:D4) (hl:x.Ad.length<=maxLen):A7c x=some (vOf (B0y x.Ad x.W x.K x.Cap x.Now)):=by
 unfold A7c;rw [B9O _ _ _ _ _ hl,D1R]
 by_cases h:B0y x.Ad x.W x.K x.Cap x.Now
 ·rw [O6 h,U1 h];rfl
 ·rw [L1 h,J5 h];rfl
theorem A62 (w k c n:Int):A3R w k c n=true↔(1<=w/\w<=1048576)/\(1<=c/\c<=65536)/\(0<=n/\n<=16777216)/\(1<=k/\k<=64):=by
 unfold A3R;simp;omega
theorem C0x (x:D4) (hl:x.Ad.length<=maxLen):Z4 x=some (vOf (B0y x.Ad x.W x.K x.Cap x.Now)):=by
 unfold Z4;simp only []
 by_cases h1:A3R x.W x.K x.Cap x.Now=true
 ·have h1' :=(A62 _ _ _ _).1 h1;rw [h1,A8e _ _ hl,B39,A4Z _ hl];simp only [D13,D14,H7,D1R,D2i]
  by_cases h2:A67 x.Ad x.K
  ·rw [O6 h2];simp only [D13,D14,H7,D1R,D2i]
   by_cases h3:A2 (A0K x.Ad)<=x.Cap
   ·rw [D1Y (by omega),D1U]
    unfold A8P;have H:=M4 (f:=fun s:Int=>A1s x s) x.Ad.length (fun i=> ¬H6 x.Now x.W (el x.Ad i).T=true) 2 (some 0)
     (fun i hi _=>by
      unfold A1s;rw [D1W (by omega:(i:Int)<(x.Ad.length:Int)),D1V,I7 hi,D1R,S8 hi hl]
      refine L3 ?_;simp [A9X])
     (fun _=>by
      unfold A1s;rw [D1Y (D2k _),D1U])
    by_cases h4: ∀i,i<x.Ad.length->H6 x.Now x.W (el x.Ad i).T=true
    ·rw [H.2 fun i hi hn=>hn (h4 i hi),U1];exact ⟨h1',h2,h3,h4⟩
    ·rw [H.1,J5]
     ·exact fun h=>h4 h.2.2.2
     ·exact D2M fun hn=>h4 fun i hi=>D2M fun hc=>hn ⟨i,hi,hc⟩
   ·rw [D1W (by omega),D1V,J5]
    exact fun h=>h3 h.2.2.1
  ·rw [L1 h2];simp only [D13,D14,H5,D1R,D2B,D1V];rw [J5];exact fun h=>h2 h.2.1
 ·have h1' :=fun h=>h1 ((A62 _ _ _ _).2 h);rw [Bool.not_eq_true] at h1;rw [h1];simp only [D13,D14,H5,D1R,D2B,D1V];rw [J5];exact fun h=>h1' h.1
theorem B0O (w k c m n:Int):A7q w k c m n=true↔((1<=w/\w<=1048576)/\(1<=c/\c<=65536)/\(0<=n/\n<=16777216)/\(1<=k/\k<=64))/\(1<=m/\m<=1024):=by
 unfold A7q;simp;omega
def C7o (x:E8):Prop:=B0y x.Ad x.W x.K x.Cap x.Now/\(1<=x.Bs/\x.Bs<=1024)
theorem C0S (x:E8) (hl:x.Ad.length<=maxLen):A7d x=some (vOf (C7o x)):=by
 unfold A7d;rw [B9O _ _ _ _ _ hl,D1R];simp only [];have e:A2h x.Bs=Q7 (1<=x.Bs/\x.Bs<=1024):=by
  rw [D2c,I8];unfold A2h;simp
 rw [e]
 by_cases h:B0y x.Ad x.W x.K x.Cap x.Now
 ·rw [O6 h]
  by_cases h2:1<=x.Bs/\x.Bs<=1024
  ·rw [O6 h2,U1 ⟨h,h2⟩];rfl
  ·rw [L1 h2,J5 fun h3=>h2 h3.2];rfl
 ·rw [L1 h,J5 fun h3=>h h3.1];rfl
theorem C4L (x:E8) (hl:x.Ad.length<=maxLen):A00 x=some (vOf (C7o x)):=by
 unfold A00;simp only []
 by_cases h1:A7q x.W x.K x.Cap x.Bs x.Now=true
 ·have h1' :=(B0O _ _ _ _ _).1 h1;rw [h1,A8e _ _ hl,B39,A4Z _ hl];simp only [D13,D14,H7,D1R,D2i]
  by_cases h2:A67 x.Ad x.K
  ·rw [O6 h2];simp only [D13,D14,H7,D1R,D2i]
   by_cases h3:A2 (A0K x.Ad)<=x.Cap
   ·rw [D1Y (by omega),D1U]
    unfold B1A;have H:=M4 (f:=fun s:Int=>A2L x s) x.Ad.length (fun i=> ¬H6 x.Now x.W (el x.Ad i).T=true) 2 (some 0)
     (fun i hi _=>by
      unfold A2L;rw [D1W (by omega:(i:Int)<(x.Ad.length:Int)),D1V,I7 hi,D1R,S8 hi hl]
      refine L3 ?_;simp [A9X])
     (fun _=>by
      unfold A2L;rw [D1Y (D2k _),D1U])
    by_cases h4: ∀i,i<x.Ad.length->H6 x.Now x.W (el x.Ad i).T=true
    ·rw [H.2 fun i hi hn=>hn (h4 i hi),U1];exact ⟨⟨h1'.1,h2,h3,h4⟩,h1'.2⟩
    ·rw [H.1,J5]
     ·exact fun h=>h4 h.1.2.2.2
     ·exact D2M fun hn=>h4 fun i hi=>D2M fun hc=>hn ⟨i,hi,hc⟩
   ·rw [D1W (by omega),D1V,J5]
    exact fun h=>h3 h.1.2.2.1
  ·rw [L1 h2];simp only [D13,D14,H5,D1R,D2B,D1V];rw [J5];exact fun h=>h2 h.1.2.1
 ·have h1' :=fun h=>h1 ((B0O _ _ _ _ _).2 h);rw [Bool.not_eq_true] at h1;rw [h1];simp only [D13,D14,H5,D1R,D2B,D1V];rw [J5];exact fun h=>h1' ⟨h.1.1,h.2⟩
theorem C6h (l:List A7) (hl:l.length<=maxLen):A2J l l=some true:=by
 unfold A2J;rw [D2u,D1U];unfold A8q;refine (M4 (f:=fun s:Int=>A2g l l s) l.length (fun _=>False) false (some true) (fun i hi _=>⟨fun h=>h.elim,fun _=> ?_⟩) (fun _=> ?_)).2 fun _ _ h=>h
 ·unfold A2g;rw [D1W (by omega:(i:Int)<(l.length:Int)),D1V,I7 hi]
  simp [S8 hi hl]
 ·unfold A2g;rw [D1Y (D2k _),D1U]
theorem C5U (x:D4) (hl:x.Ad.length<=maxLen):A33 x x=some true:=by
 unfold A33;simp [C6h _ hl]
theorem C5V (x:E8) (hl:x.Ad.length<=maxLen):A34 x x=some true:=by
 unfold A34;simp [C6h _ hl]
end Go.Win
namespace Go.Win
open Go.Vc Go.Dec
def mk1 (seq cap now:Int) (m:B4):Prop:=(1<=m.Bv/\m.Bv<=seq)/\m.N=seq-m.Bv+1/\m.N<=cap/\0<=m.T/\m.T<=now
def mk2 (lo:Int) (m:B4):Prop:=lo<=m.Bt/\m.Bt<=m.Bs/\m.Bs<=4096/\S7 m.N m.Bt m.Bs m.S m.Q=true
def mk4 (o m:B4):Prop:=o.Bv<m.Bv/\o.T<=m.T/\o.Bt<=m.Bt/\m.Bs<=o.Bs/\S7 (A2 (o.N-m.N)) o.Bt o.Bs (A2 (o.S-m.S)) (A2 (o.Q-m.Q))=true
def A53 (seq:Int) (m:B4):Prop:=m.Bv=seq/\m.Bt=m.S/\m.Bs=m.S/\m.Q=A2 (m.S*m.S)
def B1U (l:List B4) (seq cap now w lo:Int) (i:Nat):Prop:=
 mk1 seq cap now (el l i)/\mk2 lo (el l i)/\((0<i\/l.length=1)->H6 now w (el l i).T=true)/\(0<i->mk4 (el l (i-1)) (el l i))
def A26 (l:List B4) (seq cap now w lo:Int):Prop:=
 (0<=seq/\seq<=1099511627776)/\(∀i,i<l.length->B1U l seq cap now w lo i)/\(0<l.length->A53 seq (el l (l.length-1)))
theorem A0s {n:Nat} {p:Nat->Prop} (h:¬ ∀i,i<n->p i): ∃i,i<n/\ ¬p i:=
 D2M fun hn=>h fun i hi=>D2M fun hc=>hn ⟨i,hi,hc⟩
theorem C4f {seq cap now:Int} (hs:0<=seq/\seq<=1099511627776) (m:B4):
  (((((decide (m.Bv<1)||decide (m.Bv>seq))||(m.N !=A2 (A2 (seq-m.Bv)+1)))||decide (m.N>cap))||decide (m.T<0))||decide (m.T>now))=true↔ ¬mk1 seq cap now m:=by
 unfold mk1
 by_cases h:1<=m.Bv/\m.Bv<=seq
 ·have e:A2 (A2 (seq-m.Bv)+1)=seq-m.Bv+1:=by rw [F4 (n:=seq-m.Bv) (by omega) (by omega),F4]<;>omega
  simp only [e,D12,D1T,bne_iff_ne];omega
 ·simp only [D12,D1T];constructor
  ·intro _ h2;exact h h2.1
  ·intro _;omega
theorem C1O (l:List B4) (seq cap now w lo:Int) (i:Nat):B1U l seq cap now w lo (i+1)↔
  mk1 seq cap now (el l (i+1))/\mk2 lo (el l (i+1))/\H6 now w (el l (i+1)).T=true/\mk4 (el l i) (el l (i+1)):=by
 unfold B1U;rw [D2y];constructor
 ·rintro ⟨h1,h2,h3,h4⟩;exact ⟨h1,h2,h3 (.inl (by omega)),h4 (by omega)⟩
 ·rintro ⟨h1,h2,h3,h4⟩;exact ⟨h1,h2,fun _=>h3,fun _=>h4⟩
theorem B7H (l:List B4) (seq cap now w lo:Int) (hl:l.length<=maxLen):A4W l seq cap now w lo=some (Q7 (A26 l seq cap now w lo)):=by
 unfold A4W
 by_cases hs:0<=seq/\seq<=1099511627776
 ·have e:(decide (seq<0)||decide (seq>1099511627776))=false:=by simp;omega
  rw [e,D1U];unfold B2W;have H:=M4 (f:=fun s:Int=>A3h l seq cap now w lo s) l.length (fun i=> ¬B1U l seq cap now w lo i) false (some (Q7 (0<l.length->A53 seq (el l (l.length-1)))))
   (fun i hi _=>by
    unfold A3h;rw [D1W (by omega:(i:Int)<(l.length:Int)),D1V,I7 hi,D1R,S8 hi hl]
    simp only [A9X]
    by_cases h1:mk1 seq cap now (el l i)
    ·have e1:=D17.2 (fun h=>(C4f (cap:=cap) (now:=now) hs (el l i)).1 h h1);rw [e1,D1U]
     by_cases h2:mk2 lo (el l i)
     ·have e2:((((decide ((el l i).Bt<lo))||(decide ((el l i).Bs>(4096:Int))))||(decide ((el l i).Bt>(el l i).Bs)))||(!(S7 (el l i).N (el l i).Bt (el l i).Bs (el l i).S (el l i).Q)))=false:=by
       have:=h2.2.2.2;unfold mk2 at h2;rw [this];simp;omega
      rw [e2,D1U];rcases i with _|i
      ·have e3:(((0:Nat):Int)==0)=true:=rfl;have e4:decide (((0:Nat):Int)>0)=false:=rfl;rw [e3,e4,D1V,D2i];refine L3 ?_;unfold B1U;simp only [D1Z,D2L,D2d,Nat.lt_irrefl,false_or,false_implies,and_true,h1,h2,true_and];have:((l.length:Int)=1)↔l.length=1:=by omega
       rw [this,Classical.not_imp,Bool.not_eq_true]
      ·have e3:(((i+1:Nat):Int)==0)=false:=by rw [D2H];omega
       have e4:decide (((i+1:Nat):Int)>0)=true:=D1W (by omega)
       rw [e3,e4,D1U,D2B,D2s,A1v (by omega) (Nat.le_of_lt hi) hl,D2y,I7 (by omega),D1R]
       simp only [A1q];refine L3 ?_;rw [C1O];simp only [h1,h2,true_and,D12,D2d,D1T];unfold mk4;cases H6 now w (el l (i+1)).T with
       |false=>simp
       |true=>
        cases S7 (A2 ((el l i).N-(el l (i+1)).N)) (el l i).Bt (el l i).Bs (A2 ((el l i).S-(el l (i+1)).S)) (A2 ((el l i).Q-(el l (i+1)).Q)) with
        |false=>simp
        |true=>simp;omega
     ·have e2:((((decide ((el l i).Bt<lo))||(decide ((el l i).Bs>(4096:Int))))||(decide ((el l i).Bt>(el l i).Bs)))||(!(S7 (el l i).N (el l i).Bt (el l i).Bs (el l i).S (el l i).Q)))=true:=by
       unfold mk2 at h2;cases hf:S7 (el l i).N (el l i).Bt (el l i).Bs (el l i).S (el l i).Q with
       |false=>simp
       |true=>rw [hf] at h2;simp only [and_true] at h2;simp;omega
      rw [e2,D1V];exact ⟨fun _=>rfl,fun hn=>absurd (fun h=>h2 h.2.1) hn⟩
    ·have e1:=(C4f (cap:=cap) (now:=now) hs (el l i)).2 h1;rw [e1,D1V];exact ⟨fun _=>rfl,fun hn=>absurd (fun h=>h1 h.1) hn⟩)
   (fun _=>by
    unfold A3h;rw [D1Y (D2k _),D1U]
    congr 1
    by_cases h0:0<l.length
    ·have e1:((l.length:Int)==0)=false:=by rw [D2H];omega
     rw [e1,D1U,A1v h0 (D2z _) hl,I7 (by omega),D1R]
     congr 1
     rw [D2c,I8];unfold A53;simp [h0,and_assoc]
    ·have e1:((l.length:Int)==0)=true:=by
      have:l.length=0:=by omega
      rw [this];rfl
     rw [e1,D1V,O6];exact fun h=>absurd h h0)
  by_cases h: ∀i,i<l.length->B1U l seq cap now w lo i
  ·rw [H.2 fun i hi hn=>hn (h i hi)]
   congr 1
   rw [D2c,I8,I8];exact ⟨fun h2=>⟨hs,h,h2⟩,fun h2=>h2.2.2⟩
  ·rw [H.1 (A0s h),L1];exact fun h2=>h h2.2.1
 ·have e:(decide (seq<0)||decide (seq>1099511627776))=true:=by rw [D2c];simp;omega
  rw [e,D1V,L1];exact fun h=>hs h.1
theorem C1R (n s q lo hi:Int):A35 n s q lo hi=S7 n lo hi s q:=by
 unfold A35 S7
 rfl
theorem C88 {n lo hi s q:Int} (hn:0<=n/\n<=65536) (hlo:-4096<=lo/\lo<=4096) (hhi:-4096<=hi/\hi<=4096):
  S7 n lo hi s q=true↔n*lo<=s/\s<=n*hi/\0<=q/\q<=n*16777216/\s*s<=n*q:=by
 have b: ∀x:Int,-4096<=x->x<=4096-> -268435456<=n*x/\n*x<=268435456:=by
  intro x h1 h2;have h3:=Int.mul_le_mul_of_nonneg_left h1 hn.1;have h4:=Int.mul_le_mul_of_nonneg_left h2 hn.1;omega
 have b1:=b lo hlo.1 hlo.2;have b2:=b hi hhi.1 hhi.2;unfold S7;rw [F4 (n:=n*lo) (by omega) (by omega),F4 (n:=n*hi) (by omega) (by omega),F4 (n:=n*4096) (by omega) (by omega),F4 (n:=n*4096*4096) (by omega) (by omega)]
 simp only [D1Z,D1T];have e:n*4096*4096=n*16777216:=by omega
 rw [e];constructor
 ·rintro ⟨⟨⟨⟨h1,h2⟩,h3⟩,h4⟩,h5⟩;have hs:s*s<=268435456*268435456:=by
   have h6:s.natAbs*s.natAbs<=268435456*268435456:=Nat.mul_le_mul (by omega) (by omega)
   have e2:(s.natAbs:Int)*s.natAbs=s*s:=Int.natAbs_mul_self;have h7:((s.natAbs*s.natAbs:Nat):Int)=(s.natAbs:Int)*s.natAbs:=by rw [Int.natCast_mul]
   omega
  have hs0:0<=s*s:=by
   have e2:(s.natAbs:Int)*s.natAbs=s*s:=Int.natAbs_mul_self;have:=Int.mul_nonneg (a:=(s.natAbs:Int)) (b:=s.natAbs) (by omega) (by omega)
   omega
  have hq:n*q<=65536*1099511627776:=Int.mul_le_mul hn.2 (by omega) h3 (by omega)
  have hq0:0<=n*q:=Int.mul_nonneg hn.1 h3;rw [F4 (by omega) (by omega),F4 (by omega) (by omega)] at h5
  exact ⟨h1,h2,h3,h4,h5⟩
 ·rintro ⟨h1,h2,h3,h4,h5⟩;have hs0:0<=s*s:=by
   have e2:(s.natAbs:Int)*s.natAbs=s*s:=Int.natAbs_mul_self;have:=Int.mul_nonneg (a:=(s.natAbs:Int)) (b:=s.natAbs) (by omega) (by omega)
   omega
  have hq:n*q<=65536*1099511627776:=Int.mul_le_mul hn.2 (by omega) h3 (by omega)
  have hq0:0<=n*q:=Int.mul_nonneg hn.1 h3;rw [F4 (n:=s*s) (by omega) (by omega),F4 (n:=n*q) (by omega) (by omega)]
  exact ⟨⟨⟨⟨h1,h2⟩,h3⟩,h4⟩,h5⟩
theorem C1L {agg v:Int} (ha:1<=agg/\agg<=4):A0M agg v=true↔L6 agg<=v/\v<=4096:=by
 unfold A0M L6;simp only [D1Z,D12,D1T,D2L,A1H];have:agg=1\/agg=2\/agg=3\/agg=4:=by omega
 rcases this with rfl|rfl|rfl|rfl
 ·show _↔(-4096:Int)<=v/\_;omega
 ·show _↔(0:Int)<=v/\_;omega
 ·show _↔(0:Int)<=v/\_;omega
 ·show _↔(-4096:Int)<=v/\_;omega
theorem B0x (agg:Int): -4096<=L6 agg:=by
 unfold L6;cases (agg==2||agg==3)<;>decide
theorem C9h {seq cap now agg:Int} (ha:1<=agg/\agg<=4) (hc:cap<=65536) {m:B4} (h1:mk1 seq cap now m):
  ((((((((!(A0M agg m.Bt))||(!(A0M agg m.Bs)))||(decide (m.Bt>m.Bs)))||(decide (m.S<(A2 ((IntKind.i64.wrap (0-m.N))*(4096:Int))))))||(decide (m.S>(A2 (m.N*(4096:Int))))))||(decide (m.Q<(0:Int))))||(decide (m.Q>(A2 ((A2 (m.N*(4096:Int)))*(4096:Int))))))||(!(A35 m.N m.S m.Q m.Bt m.Bs)))=true↔ ¬mk2 (L6 agg) m:=by
 unfold mk1 at h1;have hn:0<=m.N/\m.N<=65536:=by omega
 have e0:IntKind.i64.wrap (0-m.N)= -m.N:=by
  show A2 (0-m.N)=_;rw [F4]<;>omega
 rw [e0,F4 (n:= -m.N*4096) (by omega) (by omega),F4 (n:=m.N*4096) (by omega) (by omega),F4 (n:=m.N*4096*4096) (by omega) (by omega),C1R]
 simp only [D12,D2d,D1T];unfold mk2;rw [D17,D17,D17,Ne,Ne,Ne,C1L ha,C1L ha];have hge:=B0x agg
 by_cases hv:L6 agg<=m.Bt/\m.Bt<=m.Bs/\m.Bs<=4096
 ·have:=C88 (s:=m.S) (q:=m.Q) hn (lo:=m.Bt) (hi:=m.Bs) (by omega) (by omega)
  rw [this];have h3:=Int.mul_le_mul_of_nonneg_left (show-4096<=m.Bt by omega) hn.1
  have h4:=Int.mul_le_mul_of_nonneg_left (show m.Bs<=4096 by omega) hn.1
  omega
 ·omega
theorem C8q {seq cap now agg:Int} (ha:1<=agg/\agg<=4) (hc:cap<=65536) {m:B4} (h1:mk1 seq cap now m):
  ((((((((!(A0M agg m.Bt))||(!(A0M agg m.Bs)))||(decide (m.Bt>m.Bs)))||(decide (m.S<(A2 ((IntKind.i64.wrap (0-m.N))*(4096:Int))))))||(decide (m.S>(A2 (m.N*(4096:Int))))))||(decide (m.Q<(0:Int))))||(decide (m.Q>(A2 ((A2 (m.N*(4096:Int)))*(4096:Int))))))||(!(A35 m.N m.S m.Q m.Bt m.Bs)))=Q7 (¬mk2 (L6 agg) m):=by
 rw [D2c,I8];exact C9h ha hc h1
theorem B7R (l:List B4) (agg w cap now seq:Int) (ha:1<=agg/\agg<=4) (hc:cap<=65536) (hn:now<=16777216) (hl:l.length<=maxLen):
  A7L l agg w cap now seq=some (Q7 (A26 l seq cap now w (L6 agg))):=by
 unfold A7L
 by_cases hs:0<=seq/\seq<=1099511627776
 ·have e:(decide (seq<0)||decide (seq>1099511627776))=false:=by simp;omega
  rw [e,D1U];unfold B27;have H:=M4 (f:=fun s:Int=>A3k l agg w cap now seq s) l.length (fun i=> ¬(B1U l seq cap now w (L6 agg) i/\(i=l.length-1->A53 seq (el l i)))) false (some true)
   (fun i hi _=>by
    unfold A3k;rw [D1W (by omega:(i:Int)<(l.length:Int)),D1V,I7 hi,D1R,S8 hi hl]
    simp only [];have hlast:A2 ((l.length:Int)-1)=((l.length-1:Nat):Int):=A1v (by omega) (D2z _) hl
    have elast:((i:Int)==((l.length-1:Nat):Int))=decide (i=l.length-1):=by rw [D2c,D2L,D1T];omega
    rw [hlast,elast];have dlast:((((el l i).Bv !=seq||(el l i).Bt !=(el l i).S)||(el l i).Bs !=(el l i).S)||(el l i).Q !=A2 ((el l i).S*(el l i).S))=Q7 (¬A53 seq (el l i)):=by
     rw [D2c,I8];unfold A53;simp only [D12,bne_iff_ne];omega
    by_cases h1:(1<=(el l i).Bv/\(el l i).Bv<=seq)/\(el l i).N=seq-(el l i).Bv+1/\(el l i).N<=cap
    ·have e1:(((decide ((el l i).Bv<1)||decide ((el l i).Bv>seq))||((el l i).N !=A2 (A2 (seq-(el l i).Bv)+1)))||decide ((el l i).N>cap))=false:=by
      have e:A2 (A2 (seq-(el l i).Bv)+1)=seq-(el l i).Bv+1:=by rw [F4 (n:=seq-(el l i).Bv) (by omega) (by omega),F4]<;>omega
      rw [e];simp;omega
     rw [e1]
     by_cases h1' :0<=(el l i).T/\(el l i).T<=now
     ·have hm1:mk1 seq cap now (el l i):=by unfold mk1;omega
      have e2:(!I1 (el l i).T||decide ((el l i).T>now))=false:=by
       have:=(A0P (el l i).T).2 (by omega)
       rw [this];simp;omega
      rw [e2];have e3:=C8q ha hc hm1;rcases i with _|i
      ·have e4:decide (((0:Nat):Int)>0)=false:=rfl;rw [e4];rw [e3,dlast];simp only [D14,Bool.and_false,H5,D1R,D2i,Bool.or_false,D2m,D1U,A1q];refine L3 ?_;have e5:(((l.length:Int)==1)=true)↔l.length=1:=by rw [D2L];omega
       have e6:(0=l.length-1)↔l.length=1:=by omega
       rw [D12,D12,D1Z,D1Z,I8,I8,e5,D1T,D2d,D17,e6];unfold B1U
       by_cases g1:mk2 (L6 agg) (el l 0)<;>by_cases g2:l.length=1<;>by_cases g3:H6 now w (el l 0).T=true<;>by_cases g5:A53 seq (el l 0)<;>simp [g1,g2,g3,g5,hm1]
      ·have e4:decide (((i+1:Nat):Int)>0)=true:=D1W (by omega)
       rw [e4,A1v (by omega) (Nat.le_of_lt hi) hl,D2y,I7 (by omega)]
       rw [e3,dlast];simp only [D14,D2s,H7,D1R,D2i,D2B,D1V,A1q];refine L3 ?_;rw [C1O];simp only [D12,D1Z,I8,D1T,D2d,C1R];unfold mk4
       generalize hf:S7 (A2 ((el l i).N-(el l (i+1)).N)) (el l i).Bt (el l i).Bs (A2 ((el l i).S-(el l (i+1)).S)) (A2 ((el l i).Q-(el l (i+1)).Q))=F
       generalize H6 now w (el l (i+1)).T=V
       generalize mk2 (L6 agg) (el l (i+1))=M
       generalize A53 seq (el l (i+1))=Z
       by_cases g1:M<;>by_cases g2:Z<;>cases F<;>cases V<;>simp [g1,g2,hm1]<;>omega
     ·have e2:(!I1 (el l i).T||decide ((el l i).T>now))=true:=by
       rw [D12,D2d,D17,Ne,A0P,D1T];omega
      have hm1: ¬mk1 seq cap now (el l i):=by unfold mk1;omega
      rw [e2];simp only [D13,D2m,H5,D1R,D2B,D1V];rcases i with _|i
      ·have e4:decide (((0:Nat):Int)>0)=false:=rfl;rw [e4];simp only [Bool.and_false,D2m,H5,D1R,Bool.or_false,D1U];exact ⟨fun _=>trivial,fun hn=>absurd (fun h=>hm1 h.1.1) hn⟩
      ·have e4:decide (((i+1:Nat):Int)>0)=true:=D1W (by omega)
       rw [e4,A1v (by omega) (Nat.le_of_lt hi) hl,D2y,I7 (by omega)]
       simp only [D14,D2s,H7,D1R,D2i,ite_self,A1q];cases decide ((el l i).Bv>=(el l (i+1)).Bv) with
       |false=>exact ⟨fun _=>rfl,fun hn=>absurd (fun h=>hm1 h.1.1) hn⟩
       |true=>exact ⟨fun _=>rfl,fun hn=>absurd (fun h=>hm1 h.1.1) hn⟩
    ·have e1:(((decide ((el l i).Bv<1)||decide ((el l i).Bv>seq))||((el l i).N !=A2 (A2 (seq-(el l i).Bv)+1)))||decide ((el l i).N>cap))=true:=by
      by_cases h:1<=(el l i).Bv/\(el l i).Bv<=seq
      ·have e:A2 (A2 (seq-(el l i).Bv)+1)=seq-(el l i).Bv+1:=by rw [F4 (n:=seq-(el l i).Bv) (by omega) (by omega),F4]<;>omega
       simp only [e,D12,D1T,bne_iff_ne];omega
      ·simp only [D12,D1T];omega
     rw [e1];simp only [D13,D2m,H5,D1R,D2B,D1V];refine ⟨fun _=>trivial,fun hn=>absurd (fun h=>h1 ?_) hn⟩;have:=h.1.1;unfold mk1 at this;exact ⟨this.1,this.2.1,this.2.2.1⟩)
   (fun _=>by
    unfold A3k;rw [D1Y (D2k _),D1U])
  by_cases h: ∀i,i<l.length->(B1U l seq cap now w (L6 agg) i/\(i=l.length-1->A53 seq (el l i)))
  ·rw [H.2 fun i hi hn=>hn (h i hi),O6];exact ⟨hs,fun i hi=>(h i hi).1,fun h0=>(h (l.length-1) (by omega)).2 rfl⟩
  ·rw [H.1 (A0s h),L1];rintro ⟨_,h2,h3⟩;exact h fun i hi=>⟨h2 i hi,fun e=>by subst e;exact h3 (by omega)⟩
 ·have e:(decide (seq<0)||decide (seq>1099511627776))=true:=by rw [D2c];simp;omega
  rw [e,D1V,L1];exact fun h=>hs h.1
end Go.Win
namespace Go.Win
open Go.Vc Go.Dec
def V4 (w:A3):Prop:=0<=w.Hi/\w.Hi<18446744073709551616/\0<=w.Lo/\w.Lo<18446744073709551616
def wv (w:A3):Int:=w.Hi*18446744073709551616+w.Lo
def ofW (n:Int):A3:=⟨n/18446744073709551616,n%18446744073709551616⟩
theorem B3u (n:Int):wv (ofW n)=n:=by
 unfold wv ofW;simp only;omega
theorem B2X {n:Int} (h0:0<=n) (h1:n<340282366920938463463374607431768211456):V4 (ofW n):=by
 unfold V4 ofW;simp only;omega
theorem C5d {w:A3} (h:V4 w):0<=wv w/\wv w<340282366920938463463374607431768211456:=by
 unfold V4 at h;unfold wv;omega
theorem C9R (x y c:Int) (hx:0<=x) (hy:0<=y) (h0:0<=c) (h1:c<=1):P2 x y c=some ((x+y+c)%18446744073709551616,(x+y+c)/18446744073709551616):=by
 unfold P2;rw [D1W (⟨hx,hy,h0,h1⟩:0<=x/\0<=y/\0<=c/\c<=1)]
 rfl
theorem C48 {a b:A3} (ha:V4 a) (hb:V4 b):A2R a b=some (if wv a+wv b<340282366920938463463374607431768211456 then (ofW (wv a+wv b),true) else (⟨0,0⟩,false)):=by
 unfold V4 at ha hb;unfold A2R;rw [C9R _ _ _ (by omega) (by omega) (by omega) (by omega)]
 simp only [D1R];rw [C9R _ _ _ (by omega) (by omega) (by omega) (by omega)]
 simp only [D1R];unfold wv
 by_cases h:a.Hi*18446744073709551616+a.Lo+(b.Hi*18446744073709551616+b.Lo)<340282366920938463463374607431768211456
 ·rw [if_pos h];have e:(a.Hi+b.Hi+(a.Lo+b.Lo+0)/18446744073709551616)/18446744073709551616=0:=by omega
  rw [e];simp only [D2u,D1U];unfold ofW
  congr 3<;>omega
 ·rw [if_neg h];have e:((a.Hi+b.Hi+(a.Lo+b.Lo+0)/18446744073709551616)/18446744073709551616 !=0)=true:=by
   rw [bne_iff_ne];omega
  rw [e];rfl
theorem C4x:C1W=A2R:=rfl
theorem A6i {a b:A3} (ha:V4 a) (hb:V4 b):R4 a b=if wv a<wv b then-1 else if wv a=wv b then 0 else 1:=by
 unfold V4 at ha hb;unfold R4 wv
 by_cases h:(decide (a.Hi<b.Hi)||((a.Hi==b.Hi)&&decide (a.Lo<b.Lo)))=true
 ·rw [h,D1V];simp only [D12,D1Z,D1T,D2L] at h;rw [if_pos (by omega)]
 ·rw [Bool.not_eq_true] at h;rw [h,D1U];simp only [D2r,D2I,D18,D2H] at h
  by_cases h2:(a.Hi==b.Hi&&(a.Lo==b.Lo&&true))=true
  ·rw [h2,D1V];simp only [D1Z,D2L] at h2;rw [if_neg (by omega),if_pos (by omega)]
  ·rw [Bool.not_eq_true] at h2;rw [h2,D1U];simp only [D2I,D2H,Bool.true_eq_false,or_false] at h2;rw [if_neg (by omega),if_neg (by omega)]
end Go.Win
namespace Go.Win
open Go.Vc Go.Dec
theorem D0G {x:Int} (h0:0<=x) (h1:x<18446744073709551616):((BitVec.ofInt IntKind.u64.bits x&&&BitVec.ofInt IntKind.u64.bits 4294967295).toNat:Int)=x%4294967296:=by
 obtain ⟨n,rfl⟩:=Int.eq_ofNat_of_zero_le h0;have e:(BitVec.ofInt IntKind.u64.bits (n:Int)&&&BitVec.ofInt IntKind.u64.bits 4294967295).toNat=n%4294967296:=by
  have hb:IntKind.u64.bits=64:=rfl;rw [hb,BitVec.toNat_and,BitVec.toNat_ofInt,BitVec.toNat_ofInt];have h2:(((n:Int)%((2^64:Nat):Int)).toNat)=n:=by omega
  have h3:((4294967295:Int)%((2^64:Nat):Int)).toNat=2^32-1:=by decide
  rw [h2,h3,Nat.and_two_pow_sub_one_eq_mod]
 rw [e];omega
theorem C31 {x:Int} (h0:0<=x) (h1:x<18446744073709551616):S5 .u64 x 4294967295=x%4294967296:=by
 show IntKind.u64.wrap _=_;rw [D0G h0 h1,IntKind.wrap_u64];omega
theorem C35 (x:Int):G9 .u64 x 32=x/4294967296:=by
 show x.fdiv (2^(min (32:Int).toNat IntKind.u64.bits))=_;have:(2:Int)^(min (32:Int).toNat IntKind.u64.bits)=4294967296:=by decide
 rw [this,Int.fdiv_eq_ediv_of_nonneg _ (by decide)]
theorem D1F (a b c d:Int):(a*4294967296+b)*(c*4294967296+d)=(a*c)*18446744073709551616+(a*d+b*c)*4294967296+b*d:=by
 grind
theorem B6G {a b:Int} (ha:0<=a/\a<4294967296) (hb:0<=b/\b<4294967296):0<=a*b/\a*b<=18446744065119617025:=by
 refine ⟨Int.mul_nonneg ha.1 hb.1, ?_⟩;have:=Int.mul_le_mul (show a<=4294967295 by omega) (show b<=4294967295 by omega) hb.1 (by decide)
 simpa using this
theorem D1p {x y:Int} (hx:0<=x/\x<18446744073709551616) (hy:0<=y/\y<18446744073709551616):P3 x y=(x*y/18446744073709551616,x*y%18446744073709551616):=by
 unfold P3;have e:=D1F (x/4294967296) (x%4294967296) (y/4294967296) (y%4294967296);rw [show x/4294967296*4294967296+x%4294967296=x by omega,show y/4294967296*4294967296+y%4294967296=y by omega] at e
 have bp:=B6G (a:=x%4294967296) (b:=y%4294967296) (by omega) (by omega)
 have bq:=B6G (a:=x/4294967296) (b:=y%4294967296) (by omega) (by omega)
 have br:=B6G (a:=x%4294967296) (b:=y/4294967296) (by omega) (by omega)
 have bs:=B6G (a:=x/4294967296) (b:=y/4294967296) (by omega) (by omega)
 congr 1
 ·rw [C31 hx.1 hx.2,C31 hy.1 hy.2,C35,C35]
  generalize x%4294967296*(y%4294967296)=p at*
  generalize x/4294967296*(y%4294967296)=q at*
  generalize x%4294967296*(y/4294967296)=r at*
  generalize x/4294967296*(y/4294967296)=s at*
  have w1: ∀n:Int,0<=n->n<18446744073709551616->A8 n=n:=fun n h1 h2=>by rw [B6S];omega
  simp only [C35];rw [w1 p (by omega) (by omega),w1 q (by omega) (by omega),w1 (q+p/4294967296) (by omega) (by omega),C31 (by omega) (by omega),w1 r (by omega) (by omega),w1 ((q+p/4294967296)%4294967296+r) (by omega) (by omega),w1 s (by omega) (by omega),
   w1 (s+(q+p/4294967296)/4294967296) (by omega) (by omega),w1 _ (by omega) (by omega)]
  omega
theorem A9Z {x y:Int} (hx:0<=x/\x<18446744073709551616) (hy:0<=y/\y<18446744073709551616):0<=x*y/\x*y<340282366920938463463374607431768211456:=by
 refine ⟨Int.mul_nonneg hx.1 hy.1, ?_⟩;have:=Int.mul_le_mul (show x<=18446744073709551615 by omega) (show y<=18446744073709551615 by omega) hy.1 (by decide)
 omega
theorem A3X {x y:Int} (hx:0<=x/\x<18446744073709551616) (hy:0<=y/\y<18446744073709551616):T7 x y=ofW (x*y):=by
 unfold T7;rw [D1p hx hy]
 rfl
end Go.Win
namespace Go.Win
open Go.Vc Go.Dec
def nT:List A3->List Bool->Int
 |w::ws,b::bs=>(if b then wv w else 0)+nT ws bs
 |_,_=>0
theorem D0H {α:Type} {b:Bool} {k:Option α} (h:b=true):ck b k=k:=by rw [h];rfl
end Go.Win
namespace Go.Win
open Go.Vc Go.Dec
theorem B6C:N1=T7:=rfl
theorem C6E:J6=A3z:=rfl
theorem D0s (a b c:Int):(0*18446744073709551616+a)*(b*18446744073709551616+c)=(a*b)*18446744073709551616+a*c:=by grind
theorem D0t (a b c:Int):(b*18446744073709551616+c)*(0*18446744073709551616+a)=(a*b)*18446744073709551616+a*c:=by grind
theorem C29 {a b c d:Int} (ha:1<=a) (hb:0<=b) (hc:1<=c) (hd:0<=d):340282366920938463463374607431768211456<=(a*18446744073709551616+b)*(c*18446744073709551616+d):=by
 have:=Int.mul_le_mul (show 18446744073709551616<=a*18446744073709551616+b by omega) (show 18446744073709551616<=c*18446744073709551616+d by omega) (by decide) (by omega)
 simpa using this
theorem C8t {h a b c:Int} (ha:0<=a/\a<18446744073709551616) (hb:0<=b/\b<18446744073709551616) (hc:0<=c/\c<18446744073709551616):
  A48 h a b c=some (if (a*b)*18446744073709551616+a*c<340282366920938463463374607431768211456 then (ofW ((a*b)*18446744073709551616+a*c),true) else (⟨0,0⟩,false)):=by
 have p1:=A9Z ha hb;have p2:=A9Z ha hc;unfold A48;simp only [B6C];rw [A3X ha hc,A3X ha hb]
 generalize a*b=m at*
 generalize a*c=n at*
 have e1:(ofW m).Hi=m/18446744073709551616:=rfl;have e2:(ofW m).Lo=m%18446744073709551616:=rfl;rw [e1,e2]
 by_cases hh:m<18446744073709551616
 ·have c1:(m/18446744073709551616 !=0)=false:=by rw [bne_eq_false_iff_eq];omega
  have oM:V4 (A3.mk (m%18446744073709551616) 0):=by unfold V4;simp only;omega
  have vM:wv (A3.mk (m%18446744073709551616) 0)=m*18446744073709551616:=by unfold wv;simp only;omega
  rw [c1,D1U,C48 (B2X p2.1 p2.2) oM,B3u,vM,Int.add_comm n];simp only [D1R]
 ·have c1:(m/18446744073709551616 !=0)=true:=by rw [bne_iff_ne];omega
  rw [c1,D1V,if_neg (by omega)]
theorem B8K {a b:A3} (ha:V4 a) (hb:V4 b):A1L a b=some (if wv a*wv b<340282366920938463463374607431768211456 then (ofW (wv a*wv b),true) else (⟨0,0⟩,false)):=by
 obtain ⟨ah,al⟩:=a;obtain ⟨bh,bl⟩:=b;unfold V4 at ha hb;simp only at ha hb;unfold A1L wv;simp only
 by_cases h1:ah=0
 ·subst h1;simp only [D2u,D2m,D1U];rw [C8t (by omega) (by omega) (by omega),D0s]
 ·have c1:(ah !=0)=true:=by rw [bne_iff_ne];exact h1
  rw [c1]
  by_cases h2:bh=0
  ·subst h2;simp only [D2u,Bool.and_false,D1U,D1V];rw [C8t (by omega) (by omega) (by omega),D0t]
  ·have c2:(bh !=0)=true:=by rw [bne_iff_ne];exact h2
   have:=C29 (a:=ah) (b:=al) (c:=bh) (d:=bl) (by omega) (by omega) (by omega) (by omega)
   rw [c2,if_neg (by omega)]
   rfl
theorem C6w {a b:A3} (ha:V4 a) (hb:V4 b):B1l a b=some (if wv a*wv b<340282366920938463463374607431768211456 then (ofW (wv a*wv b),true) else (⟨0,0⟩,false)):=by
 obtain ⟨ah,al⟩:=a;obtain ⟨bh,bl⟩:=b;unfold V4 at ha hb;simp only at ha hb;unfold B1l wv;simp only;have q1:=A9Z (x:=ah) (y:=bl) (by omega) (by omega)
 have q2:=A9Z (x:=al) (y:=bh) (by omega) (by omega)
 have q3:=A9Z (x:=al) (y:=bl) (by omega) (by omega)
 rw [A3X (by omega) (by omega),A3X (by omega) (by omega),A3X (by omega) (by omega)]
 have f1:(ofW (ah*bl)).Hi=ah*bl/18446744073709551616:=rfl;have f2:(ofW (ah*bl)).Lo=ah*bl%18446744073709551616:=rfl;have f3:(ofW (al*bh)).Hi=al*bh/18446744073709551616:=rfl;have f4:(ofW (al*bh)).Lo=al*bh%18446744073709551616:=rfl;rw [f1,f2,f3,f4,B6S]
 by_cases h3:ah≠0/\bh≠0
 ·have c1:(ah !=0)=true:=by rw [bne_iff_ne];exact h3.1
  have c2:(bh !=0)=true:=by rw [bne_iff_ne];exact h3.2
  have:=C29 (a:=ah) (b:=al) (c:=bh) (d:=bl) (by omega) (by omega) (by omega) (by omega)
  rw [c1,c2,if_neg (by omega)]
  rfl
 ·have c1:((ah !=0)&&(bh !=0))=false:=by
   rw [D2I,bne_eq_false_iff_eq,bne_eq_false_iff_eq];omega
  have e:(ah*18446744073709551616+al)*(bh*18446744073709551616+bl)=(ah*bl+al*bh)*18446744073709551616+al*bl:=by
   by_cases h1:ah=0
   ·subst h1;grind
   ·have h2:bh=0:=by omega
    subst h2;grind
  have z:ah*bl=0\/al*bh=0:=by
   by_cases h1:ah=0
   ·left;rw [h1,Int.zero_mul]
   ·right;rw [show bh=0 by omega,Int.mul_zero]
  rw [c1,D1U,e]
  generalize ah*bl=m at*
  generalize al*bh=n at*
  generalize al*bl=k at*
  by_cases hh:m+n<18446744073709551616
  ·have c2:((m/18446744073709551616 !=0)||(n/18446744073709551616 !=0))=false:=by
    rw [D2r,bne_eq_false_iff_eq,bne_eq_false_iff_eq];omega
   have oM:V4 (A3.mk ((m%18446744073709551616+n%18446744073709551616)%18446744073709551616) 0):=by unfold V4;simp only;omega
   have vM:wv (A3.mk ((m%18446744073709551616+n%18446744073709551616)%18446744073709551616) 0)=(m+n)*18446744073709551616:=by unfold wv;simp only;omega
   rw [c2,D1U,C4x,C48 (B2X q3.1 q3.2) oM,B3u,vM,Int.add_comm k];simp only [D1R]
  ·have c2:((m/18446744073709551616 !=0)||(n/18446744073709551616 !=0))=true:=by
    rw [D12,bne_iff_ne,bne_iff_ne];omega
   rw [c2,D1V,if_neg (by omega)]
theorem D1t {n:Int} (h:0<=n/\n<18446744073709551616):V4 (A3z n):=by
 unfold V4 A3z;simp only;omega
theorem D0X {a b:A3} (ha:V4 a) (hb:V4 b):0<=wv a*wv b:=Int.mul_nonneg (C5d ha).1 (C5d hb).1
end Go.Win
namespace Go.Win
open Go.Vc Go.Dec
theorem D1s {m:B4} (h1:-4096<=m.Bt/\m.Bt<=4096) (h2:-4096<=m.Bs/\m.Bs<=4096) (agg:Int):S1 m agg=A0Y m agg:=by
 have e1:(B6M m.Bs m.Bt).1=m.Bs-m.Bt:=by
  unfold B6M;rw [F4 (n:=m.Bs-m.Bt) (by omega) (by omega)]
  cases hb:((!((decide (m.Bs>=(0:Int)))==(decide (m.Bt>=(0:Int)))))&&(!((decide (m.Bs-m.Bt>=(0:Int)))==(decide (m.Bs>=(0:Int)))))) with
  |false=>rfl
  |true=>
   simp only [D1Z,D2d,D2H,ne_eq] at hb;obtain ⟨g1,g2⟩:=hb
   by_cases a1:m.Bs>=0<;>by_cases a2:m.Bt>=0<;>by_cases a3:m.Bs-m.Bt>=0<;>simp [a1,a2,a3] at g1 g2<;>omega
 have e2:B53 m.Bs m.Bt=(m.Bs-m.Bt,true):=by
  unfold B53;have:((decide (m.Bt<0)&&decide (m.Bs>A2 (9223372036854775807+m.Bt)))||(decide (m.Bt>0)&&decide (m.Bs<A2 (-9223372036854775808+m.Bt))))=false:=by
   by_cases g1:m.Bt<0
   ·rw [F4 (n:=9223372036854775807+m.Bt) (by omega) (by omega)]
    simp;omega
   ·by_cases g2:m.Bt>0
    ·rw [F4 (n:= -9223372036854775808+m.Bt) (by omega) (by omega)]
     simp;omega
    ·simp;omega
  rw [this,D1U,F4]<;>omega
 unfold S1 A0Y;rw [e2];simp only [e1,D1V]
 rfl
theorem B2R (w k c n:Int):A3V w k c n=true↔(1<=w/\w<=1048576)/\(1<=c/\c<=65536)/\(0<=n/\n<=16777216)/\(1<=k/\k<=64):=by
 unfold A3V;simp;omega
def A2H (w k c n:Int):Prop:=(1<=w/\w<=1048576)/\(1<=c/\c<=65536)/\(0<=n/\n<=16777216)/\(1<=k/\k<=64)
def C9p (x:C7):Prop:=(1<=x.Bo/\x.Bo<=4)/\A2H x.W x.K x.Cap x.Now/\A26 x.Bf x.Bv x.Cap x.Now x.W (L6 x.Bo)/\
 ∀i,i<x.Bf.length->(2<=i-> ¬K4 (el x.Bf (i-2)) (el x.Bf i) x.Bo x.K=true)/\
  (1<=i->(el x.Bf i).Bv-(el x.Bf (i-1)).Bv>1->K4 (el x.Bf (i-1)) (el x.Bf i) x.Bo x.K=true)
theorem A7E {l:List B4} {seq cap now w lo:Int} (hlo:-4096<=lo) (h:A26 l seq cap now w lo) {i:Nat} (hi:i<l.length):
  (1<=(el l i).Bv/\(el l i).Bv<=1099511627776)/\(-4096<=(el l i).Bt/\(el l i).Bt<=4096)/\(-4096<=(el l i).Bs/\(el l i).Bs<=4096):=by
 have h1:=h.2.1 i hi;unfold B1U mk1 mk2 at h1;have:=h.1;omega
theorem B9X (x:C7) (hl:x.Bf.length<=maxLen):X6 x=some (vOf (C9p x)):=by
 unfold X6;simp only []
 by_cases h1:(1<=x.Bo/\x.Bo<=4)/\A2H x.W x.K x.Cap x.Now
 ·have e1:A0b x.Bo x.W x.K x.Cap x.Now=true:=by
   unfold A0b;simp only [(B2R _ _ _ _).2 h1.2,Bool.and_true,D1Z,D1T];exact h1.1
  rw [e1,B7H _ _ _ _ _ _ hl];simp only [D13,D14,H7,D1R,D2i]
  by_cases h2:A26 x.Bf x.Bv x.Cap x.Now x.W (L6 x.Bo)
  ·rw [O6 h2,D13,D1U];unfold A72;have H:=M4 (f:=fun s:Int=>A04 x s) x.Bf.length (fun i=> ¬((2<=i-> ¬K4 (el x.Bf (i-2)) (el x.Bf i) x.Bo x.K=true)/\
     (1<=i->(el x.Bf i).Bv-(el x.Bf (i-1)).Bv>1->K4 (el x.Bf (i-1)) (el x.Bf i) x.Bo x.K=true))) 2 (some 0)
    (fun i hi _=>by
     unfold A04;rw [D1W (by omega:(i:Int)<(x.Bf.length:Int)),D1V,I7 hi,D1R,S8 hi hl]
     simp only [];have key: ∀j,j+1=i->A2 ((el x.Bf i).Bv-(el x.Bf j).Bv)=(el x.Bf i).Bv-(el x.Bf j).Bv:=by
      intro j hj;have g1:=A7E (B0x _) h2 hi;have g2:=A7E (B0x _) h2 (show j<x.Bf.length by omega)
      rw [F4]<;>omega
     have key1:1<=i->D3 x.Bf (A2 ((i:Int)-1))=some (el x.Bf (i-1)):=fun h=>by rw [A1v (by omega) (Nat.le_of_lt hi) hl,I7 (by omega)]
     have key2:2<=i->D3 x.Bf (A2 ((i:Int)-2))=some (el x.Bf (i-2)):=fun h=>by
      have:A2 ((i:Int)-2)=((i-2:Nat):Int):=by rw [M2] at hl;rw [F4]<;>omega
      rw [this,I7 (by omega)]
     by_cases g1:1<=i
     ·rw [D1W (by omega:(i:Int)>=1),key1 g1]
      simp only [H7,D1R,D2s,key (i-1) (by omega)]
      by_cases g3:(el x.Bf i).Bv-(el x.Bf (i-1)).Bv>1
      ·simp only [g3,decide_true,H7,D1R,D2s]
       by_cases g2:2<=i
       ·rw [D1W (by omega:(i:Int)>=2),key2 g2]
        simp only [H7,D1R,D2s,A1q];refine L3 ?_;simp only [g1,g2,D12,D2d];cases K4 (el x.Bf (i-2)) (el x.Bf i) x.Bo x.K<;>cases K4 (el x.Bf (i-1)) (el x.Bf i) x.Bo x.K<;>simp
       ·rw [D1Y (by omega: ¬(i:Int)>=2)]
        simp only [H5,D1R,D2m,D1U];refine L3 ?_;simp only [g1,g2,D2d];cases K4 (el x.Bf (i-1)) (el x.Bf i) x.Bo x.K<;>simp
      ·simp only [g3,decide_false,H5,D1R,D2m,D1U]
       by_cases g2:2<=i
       ·rw [D1W (by omega:(i:Int)>=2),key2 g2]
        simp only [H7,D1R,D2s];refine L3 ?_;simp [g1,g2]
       ·rw [D1Y (by omega: ¬(i:Int)>=2)]
        simp only [H5,D1R,D2m,D1U];exact ⟨fun h=>absurd ⟨fun h2=>absurd h2 g2,fun _ h3=>h3.elim⟩ h,fun _=>trivial⟩
     ·rw [D1Y (by omega: ¬(i:Int)>=2),D1Y (by omega: ¬(i:Int)>=1)]
      simp only [H5,D1R,D2m,D1U];exact ⟨fun h=>absurd ⟨fun h2=>absurd h2 (by omega),fun h3=>absurd h3 g1⟩ h,fun _=>trivial⟩)
    (fun _=>by
     unfold A04;rw [D1Y (D2k _),D1U])
   by_cases h3: ∀i,i<x.Bf.length->((2<=i-> ¬K4 (el x.Bf (i-2)) (el x.Bf i) x.Bo x.K=true)/\
     (1<=i->(el x.Bf i).Bv-(el x.Bf (i-1)).Bv>1->K4 (el x.Bf (i-1)) (el x.Bf i) x.Bo x.K=true))
   ·rw [H.2 fun i hi hn=>hn (h3 i hi),U1];exact ⟨h1.1,h1.2,h2,h3⟩
   ·rw [H.1 (A0s h3),J5];exact fun h=>h3 h.2.2.2
  ·rw [L1 h2,J5 fun h=>h2 h.2.2.1]
   rfl
 ·have e1:A0b x.Bo x.W x.K x.Cap x.Now=false:=by
   rw [D17];intro h;unfold A0b at h;simp only [D1Z,D1T,B2R] at h;exact h1 h
  rw [e1,J5 fun h=>h1 ⟨h.1,h.2.1⟩]
  rfl
theorem C0T (x:C7) (hl:x.Bf.length<=maxLen):A7e x=some (vOf (C9p x)):=by
 unfold A7e;simp only []
 by_cases h1:(1<=x.Bo/\x.Bo<=4)/\A2H x.W x.K x.Cap x.Now
 ·have e1:T4 x.Bo=true:=by unfold T4;simp;exact h1.1
  have e2:J4 x.W x.Cap x.Now=true:=(R7 _ _ _).2 ⟨h1.2.1,h1.2.2.1,h1.2.2.2.1⟩;have e3:J3 x.K=true:=(Q1 _).2 h1.2.2.2.2;rw [e1,e2,e3,B7R _ _ _ _ _ _ h1.1 h1.2.2.1.2 h1.2.2.2.1.2 hl];simp only [D13,D14,H7,D1R,Bool.or_false,D2i]
  by_cases h2:A26 x.Bf x.Bv x.Cap x.Now x.W (L6 x.Bo)
  ·rw [O6 h2,D13,D1U];unfold A8X;have H:=M4 (f:=fun s:Int=>A1x x s) x.Bf.length (fun i=> ¬((2<=i-> ¬K4 (el x.Bf (i-2)) (el x.Bf i) x.Bo x.K=true)/\
     (1<=i->(el x.Bf i).Bv-(el x.Bf (i-1)).Bv>1->K4 (el x.Bf (i-1)) (el x.Bf i) x.Bo x.K=true))) 2 (some 0)
    (fun i hi _=>by
     unfold A1x;rw [D1W (by omega:(i:Int)<(x.Bf.length:Int)),D1V,I7 hi,D1R,S8 hi hl]
     simp only [];have eof: ∀j,j<x.Bf.length->A0Y (el x.Bf j) x.Bo=S1 (el x.Bf j) x.Bo:=by
      intro j hj;have g2:=A7E (B0x _) h2 hj;exact (D1s g2.2.1 g2.2.2 _).symm
     have near: ∀j,j<x.Bf.length->decide (A2 (A2 (x.K+1)*A0Y (el x.Bf i) x.Bo)>=A2 (x.K*A0Y (el x.Bf j) x.Bo))=K4 (el x.Bf j) (el x.Bf i) x.Bo x.K:=by
      intro j hj;rw [eof i hi,eof j hj];rfl
     have nearN: ∀j,j<x.Bf.length->decide (A2 (A2 (x.K+1)*A0Y (el x.Bf i) x.Bo)<A2 (x.K*A0Y (el x.Bf j) x.Bo))= !K4 (el x.Bf j) (el x.Bf i) x.Bo x.K:=by
      intro j hj;rw [<-near j hj,D2c,D2d,D1T,D18];omega
     have key: ∀j,j+1=i->A2 ((el x.Bf j).Bv+1)=(el x.Bf j).Bv+1:=by
      intro j hj;have g2:=A7E (B0x _) h2 (show j<x.Bf.length by omega)
      rw [F4]<;>omega
     have key1:1<=i->D3 x.Bf (A2 ((i:Int)-1))=some (el x.Bf (i-1)):=fun h=>by rw [A1v (by omega) (Nat.le_of_lt hi) hl,I7 (by omega)]
     have key2:2<=i->D3 x.Bf (A2 ((i:Int)-2))=some (el x.Bf (i-2)):=fun h=>by
      have:A2 ((i:Int)-2)=((i-2:Nat):Int):=by rw [M2] at hl;rw [F4]<;>omega
      rw [this,I7 (by omega)]
     by_cases g1:1<=i
     ·rw [D1W (by omega:(i:Int)>0),key1 g1]
      simp only [H7,D1R,D2s,key (i-1) (by omega)]
      by_cases g3:(el x.Bf i).Bv-(el x.Bf (i-1)).Bv>1
      ·have g3' :(el x.Bf i).Bv>(el x.Bf (i-1)).Bv+1:=by omega
       simp only [g3,g3',decide_true,H7,D1R,D2s,nearN (i-1) (by omega)]
       by_cases g2:2<=i
       ·rw [D1W (by omega:(i:Int)>1),key2 g2]
        simp only [H7,D1R,D2s,A1q,near (i-2) (by omega)]
        refine L3 ?_;simp only [g1,g2,D12,D2d];cases K4 (el x.Bf (i-2)) (el x.Bf i) x.Bo x.K<;>cases K4 (el x.Bf (i-1)) (el x.Bf i) x.Bo x.K<;>simp
       ·rw [D1Y (by omega: ¬(i:Int)>1)]
        simp only [H5,D1R,D2m,D1U];refine L3 ?_;simp only [g1,g2,D2d];cases K4 (el x.Bf (i-1)) (el x.Bf i) x.Bo x.K<;>simp
      ·have g3' : ¬(el x.Bf i).Bv>(el x.Bf (i-1)).Bv+1:=by omega
       simp only [g3,g3',decide_false,H5,D1R,D2m,D1U]
       by_cases g2:2<=i
       ·rw [D1W (by omega:(i:Int)>1),key2 g2]
        simp only [H7,D1R,D2s,near (i-2) (by omega)]
        refine L3 ?_;simp [g1,g2]
       ·rw [D1Y (by omega: ¬(i:Int)>1)]
        simp only [H5,D1R,D2m,D1U];exact ⟨fun h=>absurd ⟨fun h2=>absurd h2 g2,fun _ h3=>h3.elim⟩ h,fun _=>trivial⟩
     ·rw [D1Y (by omega: ¬(i:Int)>1),D1Y (by omega: ¬(i:Int)>0)]
      simp only [H5,D1R,D2m,D1U];exact ⟨fun h=>absurd ⟨fun h2=>absurd h2 (by omega),fun h3=>absurd h3 g1⟩ h,fun _=>trivial⟩)
    (fun _=>by
     unfold A1x;rw [D1Y (D2k _),D1U])
   by_cases h3: ∀i,i<x.Bf.length->((2<=i-> ¬K4 (el x.Bf (i-2)) (el x.Bf i) x.Bo x.K=true)/\
     (1<=i->(el x.Bf i).Bv-(el x.Bf (i-1)).Bv>1->K4 (el x.Bf (i-1)) (el x.Bf i) x.Bo x.K=true))
   ·rw [H.2 fun i hi hn=>hn (h3 i hi),U1];exact ⟨h1.1,h1.2,h2,h3⟩
   ·rw [H.1 (A0s h3),J5];exact fun h=>h3 h.2.2.2
  ·rw [L1 h2,J5 fun h=>h2 h.2.2.1]
   rfl
 ·have e1:((!T4 x.Bo|| !J4 x.W x.Cap x.Now)|| !J3 x.K)=true:=by
   rw [D12,D12,D2d,D2d,D2d,D17,D17,D17,Ne,Ne,Ne,R7,Q1];unfold T4;unfold A2H at h1;simp only [D1Z,D1T];omega
  rw [e1,J5 fun h=>h1 ⟨h.1,h.2.1⟩]
  rfl
theorem C6n (l:List B4) (hl:l.length<=maxLen):X5 l l=some true:=by
 unfold X5;rw [D2u,D1U];unfold A3A;refine (M4 (f:=fun s:Int=>Y9 l l s) l.length (fun _=>False) false (some true) (fun i hi _=>⟨fun h=>h.elim,fun _=> ?_⟩) (fun _=> ?_)).2 fun _ _ h=>h
 ·unfold Y9;rw [D1W (by omega:(i:Int)<(l.length:Int)),D1V,I7 hi]
  simp [S8 hi hl]
 ·unfold Y9;rw [D1Y (D2k _),D1U]
theorem C5W (x:C7) (hl:x.Bf.length<=maxLen):A36 x x=some true:=by
 unfold A36;simp [C6n _ hl]
theorem C5X (x:C8) (hl:x.Bf.length<=maxLen):A37 x x=some true:=by
 unfold A37;simp [C6n _ hl]
end Go.Win
namespace Go.Win
open Go.Vc Go.Dec
theorem B95 {n:Int} (h:F1 .u64 n):0<=n/\n<18446744073709551616:=by
 simp [F1,Lit.wf,IntKind.min,IntKind.max,IntKind.signed,IntKind.bits] at h;omega
theorem B3E:R4=A1e:=rfl
def A0Z (m:B4):Prop:=(1<=m.N/\m.N<=65536)/\(-(m.N*4096)<=m.S/\m.S<=m.N*4096)/\(0<=m.Q/\m.Q<=m.N*16777216)/\m.S*m.S<=m.N*m.Q
theorem B1q {m:B4} (h1:1<=m.N/\m.N<=65536) (h2:-(m.N*4096)<=m.S/\m.S<=m.N*4096) (h3:0<=m.Q/\m.Q<=m.N*16777216):
  (0<=m.S*m.S/\m.S*m.S<=72057594037927936)/\(0<=m.N*m.Q/\m.N*m.Q<=72057594037927936):=by
 have e2:(m.S.natAbs:Int)*m.S.natAbs=m.S*m.S:=Int.natAbs_mul_self;have h6:m.S.natAbs*m.S.natAbs<=268435456*268435456:=Nat.mul_le_mul (by omega) (by omega)
 have h7:((m.S.natAbs*m.S.natAbs:Nat):Int)=(m.S.natAbs:Int)*m.S.natAbs:=by rw [Int.natCast_mul]
 have hq:m.N*m.Q<=65536*1099511627776:=Int.mul_le_mul h1.2 (by omega) h3.1 (by omega)
 have hq0:0<=m.N*m.Q:=Int.mul_nonneg (by omega) h3.1
 omega
theorem A2s (m:B4):A0N m=true↔A0Z m:=by
 unfold A0N A0Z
 by_cases h1:1<=m.N/\m.N<=65536
 ·have e0:IntKind.i64.wrap (0-m.N)= -m.N:=by
   show A2 (0-m.N)=_;rw [F4]<;>omega
  rw [e0,F4 (n:= -m.N*4096) (by omega) (by omega),F4 (n:=m.N*4096) (by omega) (by omega),F4 (n:=m.N*4096*4096) (by omega) (by omega)]
  simp only [D1Z,D1T];constructor
  ·rintro ⟨⟨⟨⟨⟨_,h2⟩,h3⟩,h4⟩,h5⟩,h6⟩;have:=B1q h1 (by omega) (by omega)
   rw [F4 (by omega) (by omega),F4 (by omega) (by omega)] at h6
   exact ⟨h1,by omega,by omega,h6⟩
  ·rintro ⟨_,h2,h3,h4⟩;have:=B1q h1 h2 h3;rw [F4 (n:=m.S*m.S) (by omega) (by omega),F4 (n:=m.N*m.Q) (by omega) (by omega)]
   exact ⟨⟨⟨⟨⟨by omega,by omega⟩,by omega⟩,by omega⟩,by omega⟩,h4⟩
 ·simp only [D1Z,D1T];constructor
  ·rintro ⟨⟨⟨⟨⟨h,_⟩,_⟩,_⟩,_⟩,_⟩;exact absurd h h1
  ·rintro ⟨h,_⟩;exact absurd h h1
theorem C9B (m:B4):A2p m=A0N m:=by
 unfold A2p A0N;cases h:((((((decide (m.N<(1:Int)))||(decide (m.N>(65536:Int))))||(decide (m.S<(A2 ((IntKind.i64.wrap (0-m.N))*(4096:Int))))))||(decide (m.S>(A2 (m.N*(4096:Int))))))||(decide (m.Q<(0:Int))))||(decide (m.Q>(A2 ((A2 (m.N*(4096:Int)))*(4096:Int)))))) with
 |true=>
  rw [D1V]
  symm
  rw [D17];intro h2;simp only [D12,D1T] at h;simp only [D1Z,D1T] at h2;omega
 |false=>
  rw [D1U];simp only [D2r,D18] at h;rw [D2c];simp only [D1Z,D1T];omega
theorem C11 {a b:A3} (ha:V4 a) (hb:V4 b) (h:wv a*wv b<340282366920938463463374607431768211456):A1L a b=some (ofW (wv a*wv b),true):=by
 rw [B8K ha hb,if_pos h]
def A0J (m:B4):Int:=m.N*m.Q-m.S*m.S
theorem B6O {m:B4} (h:A0Z m):0<=A0J m/\A0J m<=72057594037927936:=by
 have:=B1q h.1 h.2.1 h.2.2.1;have h4:=h.2.2.2;unfold A0J;omega
theorem C4P {m:B4} (h:A0Z m):X9 m=A0J m:=by
 have:=B1q h.1 h.2.1 h.2.2.1;have h4:=h.2.2.2;unfold X9 A0J;rw [F4 (n:=m.N*m.Q) (by omega) (by omega),F4 (n:=m.S*m.S) (by omega) (by omega),F4]<;>omega
theorem A10 {n:Int} (h0:0<=n) (h1:n<18446744073709551616):A8 n=n:=by rw [B6S];omega
def A5V (a b:B4) (k:Int):Prop:=A0Z a/\A0Z b/\(1<=k/\k<=64)/\ ¬6*k*b.N<(6*k-1)*a.N/\A0J a*b.N*(6*k-1)<=A0J b*a.N*(6*k)
theorem A1c {a b A B:Int} (h1:0<=a/\a<=A) (h2:0<=b/\b<=B):0<=a*b/\a*b<=A*B:=
 ⟨Int.mul_nonneg h1.1 h2.1,Int.mul_le_mul h1.2 h2.2 h2.1 (Int.le_trans h1.1 h1.2)⟩
theorem A9S {x y:Int} (hx:0<=x/\x<18446744073709551616) (hy:0<=y/\y<18446744073709551616):V4 (T7 x y)/\wv (T7 x y)=x*y:=by
 rw [A3X hx hy];have:=A9Z hx hy;exact ⟨B2X this.1 this.2,B3u _⟩
theorem C5c {n:Int} (h:0<=n/\n<18446744073709551616):V4 (A3z n)/\wv (A3z n)=n:=by
 refine ⟨D1t h, ?_⟩;show 0*18446744073709551616+n=n;omega
theorem C4I (a b:B4) (k:Int):A3F a b k=some (Q7 (A5V a b k)):=by
 unfold A3F;simp only [C9B]
 by_cases h1:A0Z a/\A0Z b/\(1<=k/\k<=64)
 ·obtain ⟨ha,hb,hk⟩:=h1;rw [(A2s a).2 ha,(A2s b).2 hb];have e:(((!true|| !true)||decide (k<1))||decide (k>64))=false:=by simp;omega
  rw [e,D1U];have ea:=ha.1;have eb:=hb.1;have n1:=A1c (a:=6*k) (A:=384) (b:=b.N) (B:=65536) (by omega) (by omega)
  have n2:=A1c (a:=6*k-1) (A:=383) (b:=a.N) (B:=65536) (by omega) (by omega)
  rw [F4 (n:=6*k) (by omega) (by omega),F4 (n:=6*k-1) (by omega) (by omega),F4 (n:=6*k*b.N) (by omega) (by omega),F4 (n:=(6*k-1)*a.N) (by omega) (by omega)]
  by_cases h2:6*k*b.N<(6*k-1)*a.N
  ·rw [D1W h2,D1V,L1 fun h=>h.2.2.2.1 h2]
  ·have ta:=B6O ha;have tb:=B6O hb;rw [D1Y h2,D1U,C4P ha,C4P hb,A10 (n:=A0J b) (by omega) (by omega),A10 (n:=A0J a) (by omega) (by omega),A10 (n:=a.N) (by omega) (by omega),A10 (n:=b.N) (by omega) (by omega),
    A10 (n:=6*k) (by omega) (by omega),A10 (n:=6*k-1) (by omega) (by omega),B6C,C6E]
   have x1:=A9S (x:=A0J b) (y:=a.N) (by omega) (by omega)
   have x2:=C5c (n:=6*k) (by omega)
   have y1:=A9S (x:=A0J a) (y:=b.N) (by omega) (by omega)
   have y2:=C5c (n:=6*k-1) (by omega)
   have m1:=A1c (a:=A0J b) (b:=a.N) (A:=72057594037927936) (B:=65536) tb (by omega)
   have m2:=A1c (a:=A0J a) (b:=b.N) (A:=72057594037927936) (B:=65536) ta (by omega)
   have m3:=A1c (a:=A0J b*a.N) (b:=6*k) (B:=384) m1 (by omega)
   have m4:=A1c (a:=A0J a*b.N) (b:=6*k-1) (B:=383) m2 (by omega)
   rw [C11 x1.1 x2.1 (by rw [x1.2,x2.2];omega),D1R,C11 y1.1 y2.1 (by rw [y1.2,y2.2];omega),D1R,x1.2,x2.2,y1.2,y2.2]
   rw [A6i (B2X m3.1 (by omega)) (B2X m4.1 (by omega)),B3u,B3u]
   congr 1
   rw [D2c,I8,D1T];unfold A5V;constructor
   ·intro h;refine ⟨ha,hb,hk,h2, ?_⟩;split at h
    ·omega
    ·split at h<;>omega
   ·rintro ⟨_,_,_,_,h⟩;split
    ·omega
    ·split<;>omega
 ·have e:(((!A0N a|| !A0N b)||decide (k<1))||decide (k>64))=true:=by
   rw [D12,D12,D12,D2d,D2d,D17,D17,Ne,Ne,A2s,A2s,D1T,D1T]
   by_cases g1:A0Z a
   ·by_cases g2:A0Z b
    ·have: ¬(1<=k/\k<=64):=fun h=>h1 ⟨g1,g2,h⟩;omega
    ·exact .inl (.inl (.inr g2))
   ·exact .inl (.inl (.inl g1))
  rw [e,D1V,L1 fun h=>h1 ⟨h.1,h.2.1,h.2.2.1⟩]
theorem C5P (a b:B4) (k:Int):B1W a b k=Q7 (A5V a b k):=by
 unfold B1W;simp only []
 by_cases h1:A0Z a/\A0Z b/\(1<=k/\k<=64)
 ·obtain ⟨ha,hb,hk⟩:=h1;rw [(A2s a).2 ha,(A2s b).2 hb,(Q1 k).2 hk];have ea:=ha.1;have eb:=hb.1;have n1:=A1c (a:=6*k) (A:=384) (b:=b.N) (B:=65536) (by omega) (by omega)
  have n2:=A1c (a:=6*k-1) (A:=383) (b:=a.N) (B:=65536) (by omega) (by omega)
  have n3:=A1c (a:=6*k) (A:=384) (b:=a.N) (B:=65536) (by omega) (by omega)
  have n4:=A1c (a:=6*k-1) (A:=383) (b:=b.N) (B:=65536) (by omega) (by omega)
  rw [F4 (n:=6*k) (by omega) (by omega),F4 (n:=6*k-1) (by omega) (by omega),F4 (n:=6*k*b.N) (by omega) (by omega),F4 (n:=(6*k-1)*a.N) (by omega) (by omega),
   F4 (n:=6*k*a.N) (by omega) (by omega),F4 (n:=(6*k-1)*b.N) (by omega) (by omega)]
  by_cases h2:6*k*b.N<(6*k-1)*a.N
  ·rw [D1W h2,L1 fun h=>h.2.2.2.1 h2];rfl
  ·have ta:=B6O ha;have tb:=B6O hb;rw [D1Y h2];have et: ∀m,A0Z m->A2 (A2 (m.N*m.Q)-A2 (m.S*m.S))=A0J m:=fun m hm=>C4P hm;have ec:(((!true|| !true)|| !true)||false)=false:=rfl
   rw [ec,D1U,et a ha,et b hb,A10 (n:=A0J b) (by omega) (by omega),A10 (n:=A0J a) (by omega) (by omega),A10 (n:=6*k*a.N) (by omega) (by omega),A10 (n:=(6*k-1)*b.N) (by omega) (by omega)]
   have x1:=A9S (x:=A0J b) (y:=6*k*a.N) (by omega) (by omega)
   have y1:=A9S (x:=A0J a) (y:=(6*k-1)*b.N) (by omega) (by omega)
   rw [<-B3E,A6i x1.1 y1.1,x1.2,y1.2];have q1:A0J b*(6*k*a.N)=A0J b*a.N*(6*k):=by rw [Int.mul_comm (6*k) a.N,Int.mul_assoc]
   have q2:A0J a*((6*k-1)*b.N)=A0J a*b.N*(6*k-1):=by rw [Int.mul_comm (6*k-1) b.N,Int.mul_assoc]
   rw [q1,q2,D2c,I8,D1T];unfold A5V;constructor
   ·intro h;refine ⟨ha,hb,hk,h2, ?_⟩;split at h
    ·omega
    ·split at h<;>omega
   ·rintro ⟨_,_,_,_,h⟩;split
    ·omega
    ·split<;>omega
 ·have e:((!A0N a|| !A0N b)|| !J3 k)=true:=by
   rw [D12,D12,D2d,D2d,D2d,D17,D17,D17,Ne,Ne,Ne,A2s,A2s,Q1]
   by_cases g1:A0Z a
   ·by_cases g2:A0Z b
    ·exact .inr fun h=>h1 ⟨g1,g2,h⟩
    ·exact .inl (.inr g2)
   ·exact .inl (.inl g1)
  rw [e,L1 fun h=>h1 ⟨h.1,h.2.1,h.2.2.1⟩]
  rfl
def C9q (x:C8):Prop:=A2H x.W x.K x.Cap x.Now/\A26 x.Bf x.Bv x.Cap x.Now x.W (-4096)/\
 ∀i,2<=i->i<x.Bf.length-> ¬A5V (el x.Bf (i-2)) (el x.Bf i) x.K
theorem C4a {R:Type} {f:Int->Option (Int⊕R)} (n:Nat) (bad:Nat->Prop) (E:R) (A:Option R)
  (hs:∀i:Nat,2<=i->i<n->(bad i->f (i:Int)=some (.inr E))/\(¬bad i->f (i:Int)=some (.inl ((i+1:Nat):Int))))
  (hd:∀i:Nat,n<=i->f (i:Int)=Option.map Sum.inr A):
  ((∃i,2<=i/\i<n/\bad i)->loop f 2=some E)/\((∀i,2<=i->i<n-> ¬bad i)->loop f 2=A):=by
 by_cases h:2<=n
 ·exact A2d (f:=f) (fun i=>(i:Int)) 2 n h bad E A (fun i h1 h2 _=>hs i h1 h2) (fun _=>hd n (D2z _))
 ·refine ⟨fun ⟨i,h1,h2,_⟩=>by omega,fun _=> ?_⟩
  have:=hd 2 (by omega)
  rw [A9Y];rw [show ((2:Nat):Int)=2 from rfl] at this;rw [this];cases A<;>rfl
theorem B92 (x:C8) (hl:x.Bf.length<=maxLen):X8 x=some (vOf (C9q x)):=by
 unfold X8;simp only []
 by_cases h1:A2H x.W x.K x.Cap x.Now
 ·rw [(B2R _ _ _ _).2 h1,B7H _ _ _ _ _ _ hl];simp only [D13,D14,H7,D1R,D2i]
  by_cases h2:A26 x.Bf x.Bv x.Cap x.Now x.W (-4096)
  ·rw [O6 h2,D13,D1U];unfold A73;have H:=C4a (f:=fun s:Int=>A05 x s) x.Bf.length (fun i=>A5V (el x.Bf (i-2)) (el x.Bf i) x.K) 2 (some 0)
    (fun i h2 hi=>by
     unfold A05;have:A2 ((i:Int)-2)=((i-2:Nat):Int):=by rw [M2] at hl;rw [F4]<;>omega
     rw [D1W (by omega:(i:Int)<(x.Bf.length:Int)),D1V,this,I7 hi,I7 (by omega),D1R,D1R,C4I,D1R,S8 hi hl]
     exact L3 I8)
    (fun i hi=>by
     unfold A05;rw [D1Y (by omega: ¬(i:Int)<(x.Bf.length:Int)),D1U])
   by_cases h3: ∀i,2<=i->i<x.Bf.length-> ¬A5V (el x.Bf (i-2)) (el x.Bf i) x.K
   ·rw [H.2 h3,U1 ⟨h1,h2,h3⟩]
   ·rw [H.1,J5 fun h=>h3 h.2.2];exact D2M fun hn=>h3 fun i a b c=>hn ⟨i,a,b,c⟩
  ·rw [L1 h2,J5 fun h=>h2 h.2.1]
   rfl
 ·rw [D17.2 fun h=>h1 ((B2R _ _ _ _).1 h),J5 fun h=>h1 h.1]
  rfl
theorem C0U (x:C8) (hl:x.Bf.length<=maxLen):A7f x=some (vOf (C9q x)):=by
 unfold A7f;simp only []
 by_cases h1:A2H x.W x.K x.Cap x.Now
 ·have e2:J4 x.W x.Cap x.Now=true:=(R7 _ _ _).2 ⟨h1.1,h1.2.1,h1.2.2.1⟩;have e3:J3 x.K=true:=(Q1 _).2 h1.2.2.2;have e4:L6 4= -4096:=rfl;rw [e2,e3,B7R _ _ _ _ _ _ (by decide) h1.2.1.2 h1.2.2.1.2 hl,e4]
  simp only [D13,D14,H7,D1R,Bool.or_false,D2i]
  by_cases h2:A26 x.Bf x.Bv x.Cap x.Now x.W (-4096)
  ·rw [O6 h2,D13,D1U];unfold A8Y;have H:=C4a (f:=fun s:Int=>A1y x s) x.Bf.length (fun i=>A5V (el x.Bf (i-2)) (el x.Bf i) x.K) 2 (some 0)
    (fun i h2 hi=>by
     unfold A1y;have:A2 ((i:Int)-2)=((i-2:Nat):Int):=by rw [M2] at hl;rw [F4]<;>omega
     rw [D1W (by omega:(i:Int)<(x.Bf.length:Int)),D1V,this,I7 hi,I7 (by omega),D1R,D1R]
     simp only [C5P,S8 hi hl];exact L3 I8)
    (fun i hi=>by
     unfold A1y;rw [D1Y (by omega: ¬(i:Int)<(x.Bf.length:Int)),D1U])
   by_cases h3: ∀i,2<=i->i<x.Bf.length-> ¬A5V (el x.Bf (i-2)) (el x.Bf i) x.K
   ·rw [H.2 h3,U1 ⟨h1,h2,h3⟩]
   ·rw [H.1,J5 fun h=>h3 h.2.2];exact D2M fun hn=>h3 fun i a b c=>hn ⟨i,a,b,c⟩
  ·rw [L1 h2,J5 fun h=>h2 h.2.1]
   rfl
 ·have e1:(!J4 x.W x.Cap x.Now|| !J3 x.K)=true:=by
   rw [D12,D2d,D2d,D17,D17,Ne,Ne,R7,Q1];unfold A2H at h1;omega
  rw [e1,J5 fun h=>h1 h.1]
  rfl
def C9n (x:D5):Prop:=((0<=x.P/\x.P<=4)/\(0<=x.Now/\x.Now<=16777216)/\(0<=x.Bj/\x.Bj<=x.Now)/\(x.Ag.length:Int)=x.P+1)/\
 ∀i:Nat,1<=i->(i:Int)<=x.P->wv (el x.Ag (i-1))<=wv (el x.Ag i)/\
  (wv (el x.Ag (i-1))*(x.Now-x.Bj+1)<340282366920938463463374607431768211456->wv (el x.Ag i)<=wv (el x.Ag (i-1))*(x.Now-x.Bj+1))
theorem B1j (x:D5):((((((decide (x.P<(0:Int)))||(decide (x.P>(4:Int))))||(!(I1 x.Now)))||(decide (x.Bj<(0:Int))))||(decide (x.Bj>x.Now)))||((x.Ag.length:Int) !=(A2 (x.P+(1:Int)))))=true↔
  ¬((0<=x.P/\x.P<=4)/\(0<=x.Now/\x.Now<=16777216)/\(0<=x.Bj/\x.Bj<=x.Now)/\(x.Ag.length:Int)=x.P+1):=by
 simp only [D12,D1T,D2d,bne_iff_ne];rw [D17,Ne,A0P]
 by_cases h:0<=x.P/\x.P<=4
 ·rw [F4 (by omega) (by omega)];omega
 ·omega
theorem C39 {R:Type} {f:Int->Option (Int⊕R)} (P:Nat) (bad:Nat->Prop) (E:R) (A:Option R)
  (hs:∀i:Nat,1<=i->i<=P->(bad i->f (i:Int)=some (.inr E))/\(¬bad i->f (i:Int)=some (.inl ((i+1:Nat):Int))))
  (hd:f ((P+1:Nat):Int)=Option.map Sum.inr A):
  ((∃i,1<=i/\i<=P/\bad i)->loop f 1=some E)/\((∀i,1<=i->i<=P-> ¬bad i)->loop f 1=A):=by
 have:=A2d (f:=f) (fun i=>(i:Int)) 1 (P+1) (by omega) bad E A (fun i h1 h2 _=>hs i h1 (by omega)) (fun _=>hd)
 exact ⟨fun ⟨i,h1,h2,h3⟩=>this.1 ⟨i,h1,by omega,h3⟩,fun h=>this.2 fun i h1 h2=>h i h1 (by omega)⟩
theorem C75 {a b:A3} (ha:V4 a) (hb:V4 b):decide (A1e a b>0)=decide (wv b<wv a):=by
 rw [<-B3E,A6i ha hb,D2c,D1T,D1T];split
 ·omega
 ·split<;>omega
theorem D0I {a b:A3} (ha:V4 a) (hb:V4 b):decide (A1e a b<0)=decide (wv a<wv b):=by
 rw [<-B3E,A6i ha hb,D2c,D1T,D1T];split
 ·omega
 ·split<;>omega
theorem C6D {a b:A3} (ha:V4 a) (hb:V4 b):decide (R4 a b>0)=decide (wv b<wv a):=C75 ha hb
def B6E (x:D5) (i:Nat):Prop:= ¬(wv (el x.Ag (i-1))<=wv (el x.Ag i)/\
  (wv (el x.Ag (i-1))*(x.Now-x.Bj+1)<340282366920938463463374607431768211456->wv (el x.Ag i)<=wv (el x.Ag (i-1))*(x.Now-x.Bj+1)))
theorem C4v {x:D5} (h1:(0<=x.P/\x.P<=4)/\(0<=x.Now/\x.Now<=16777216)/\(0<=x.Bj/\x.Bj<=x.Now)/\(x.Ag.length:Int)=x.P+1):
  V4 (A3z (A8 (A2 (A2 (x.Now-x.Bj)+1))))/\wv (A3z (A8 (A2 (A2 (x.Now-x.Bj)+1))))=x.Now-x.Bj+1:=by
 rw [F4 (n:=x.Now-x.Bj) (by omega) (by omega),F4 (by omega) (by omega),A10 (by omega) (by omega)]
 exact C5c (by omega)
theorem C4g {a b:A3} (ha:V4 a) (hb:V4 b): ∃r,A1L a b=some r/\B1l a b=some r/\r.2=decide (wv a*wv b<340282366920938463463374607431768211456)/\V4 r.1/\(r.2=true->wv r.1=wv a*wv b):=by
 by_cases h:wv a*wv b<340282366920938463463374607431768211456
 ·refine ⟨(ofW (wv a*wv b),true),by rw [B8K ha hb,if_pos h],by rw [C6w ha hb,if_pos h],(D1W h).symm,B2X (D0X ha hb) h,fun _=>B3u _⟩
 ·exact ⟨(⟨0,0⟩,false),by rw [B8K ha hb,if_neg h],by rw [C6w ha hb,if_neg h],(D1Y h).symm,by unfold V4;simp,fun h=>by cases h⟩
theorem C2o (x:D5) (hw:∀w∈x.Ag,V4 w):A0y x=some (vOf (C9n x)):=by
 unfold A0y;have et:B1k x.Now=I1 x.Now:=rfl;simp only [et]
 by_cases h1:(0<=x.P/\x.P<=4)/\(0<=x.Now/\x.Now<=16777216)/\(0<=x.Bj/\x.Bj<=x.Now)/\(x.Ag.length:Int)=x.P+1
 ·rw [D17.2 fun h=>(B1j x).1 h h1,D1U];unfold B0B;have hp:x.P=(x.P.toNat:Int):=by omega
  have H:=C39 (f:=fun s:Int=>A1U x (J6 (A8 (A2 (A2 (x.Now-x.Bj)+1)))) s) x.P.toNat (B6E x) 2 (some 0)
   (fun i g1 g2=>by
    unfold A1U;have ew:A2 ((i:Int)-1)=((i-1:Nat):Int):=by rw [F4]<;>omega
    have es:A2 ((i:Int)+1)=((i+1:Nat):Int):=by rw [F4]<;>omega
    obtain ⟨o1,o2⟩:=C4v h1;have oi:=hw _ (B0j (show i<x.Ag.length by omega))
    have oj:=hw _ (B0j (show i-1<x.Ag.length by omega))
    obtain ⟨r,m1,m2,m3,m4,m5⟩:=C4g oj o1;rw [D1W (by omega:(i:Int)<=x.P),D1V,ew,es,I7 (by omega),I7 (by omega),C6E]
    simp only [D1R,m1,C6D oj oi];rw [o2] at m3 m5;unfold B6E
    by_cases q1:wv (el x.Ag (i-1))<=wv (el x.Ag i)
    ·rw [D1Y (by omega),D1U,m3]
     by_cases q2:wv (el x.Ag (i-1))*(x.Now-x.Bj+1)<340282366920938463463374607431768211456
     ·have q3:=m5 (by rw [m3];exact D1W q2)
      rw [D1W q2];simp only [H7,D1R,D2s,C6D oi m4,q3];refine L3 ?_;rw [D1T];simp only [q1,q2,true_and,true_implies,forall_const];omega
     ·rw [D1Y q2];simp only [H5,D1R,D2m,D1U];exact ⟨fun h=>absurd ⟨q1,fun h=>absurd h q2⟩ h,fun _=>trivial⟩
    ·rw [D1W (by omega),D1V]
     exact ⟨fun _=>rfl,fun h=>absurd (fun h2=>q1 h2.1) h⟩)
   (by
    unfold A1U;rw [D1Y (by omega),D1U])
  by_cases h2: ∀i,1<=i->i<=x.P.toNat-> ¬B6E x i
  ·rw [H.2 h2,U1];exact ⟨h1,fun i a b=>D2M fun h=>h2 i a (by omega) h⟩
  ·rw [H.1,J5]
   ·exact fun h=>h2 fun i a b c=>c (h.2 i a (by omega))
   ·exact D2M fun hn=>h2 fun i a b c=>hn ⟨i,a,b,c⟩
 ·rw [(B1j x).2 h1,D1V,J5 fun h=>h1 h.1]
theorem C0V (x:D5) (hw:∀w∈x.Ag,V4 w):A7g x=some (vOf (C9n x)):=by
 unfold A7g;simp only []
 by_cases h1:(0<=x.P/\x.P<=4)/\(0<=x.Now/\x.Now<=16777216)/\(0<=x.Bj/\x.Bj<=x.Now)/\(x.Ag.length:Int)=x.P+1
 ·rw [D17.2 fun h=>(B1j x).1 h h1,D1U];unfold A8Z;have hp:x.P=(x.P.toNat:Int):=by omega
  have H:=C39 (f:=fun s:Int=>A1z x s) x.P.toNat (B6E x) 2 (some 0)
   (fun i g1 g2=>by
    unfold A1z;have ew:A2 ((i:Int)-1)=((i-1:Nat):Int):=by rw [F4]<;>omega
    have es:A2 ((i:Int)+1)=((i+1:Nat):Int):=by rw [F4]<;>omega
    obtain ⟨o1,o2⟩:=C4v h1;have oi:=hw _ (B0j (show i<x.Ag.length by omega))
    have oj:=hw _ (B0j (show i-1<x.Ag.length by omega))
    obtain ⟨r,m1,m2,m3,m4,m5⟩:=C4g oj o1;rw [D1W (by omega:(i:Int)<=x.P),D1V,ew,es,I7 (by omega),I7 (by omega),D1R]
    simp only [m2,D1R,D0I oi oj];rw [o2] at m3 m5;unfold B6E
    by_cases q1:wv (el x.Ag (i-1))<=wv (el x.Ag i)
    ·rw [D1Y (by omega),m3]
     by_cases q2:wv (el x.Ag (i-1))*(x.Now-x.Bj+1)<340282366920938463463374607431768211456
     ·have q3:=m5 (by rw [m3];exact D1W q2)
      rw [D1W q2];simp only [D14,H7,D1R,D2s,D2i,C75 oi m4,q3];refine L3 ?_;rw [D1T];simp only [q1,q2,true_and,true_implies,forall_const];omega
     ·rw [D1Y q2];simp only [D14,Bool.and_false,H5,D1R,D2m,Bool.or_false,D1U];exact ⟨fun h=>absurd ⟨q1,fun h=>absurd h q2⟩ h,fun _=>trivial⟩
    ·rw [D1W (by omega)]
     simp only [D13,D2m,H5,D1R,D2B,D1V];exact ⟨fun _=>trivial,fun h=>absurd (fun h2=>q1 h2.1) h⟩)
   (by
    unfold A1z;rw [D1Y (by omega),D1U])
  by_cases h2: ∀i,1<=i->i<=x.P.toNat-> ¬B6E x i
  ·rw [H.2 h2,U1];exact ⟨h1,fun i a b=>D2M fun h=>h2 i a (by omega) h⟩
  ·rw [H.1,J5]
   ·exact fun h=>h2 fun i a b c=>c (h.2 i a (by omega))
   ·exact D2M fun hn=>h2 fun i a b c=>hn ⟨i,a,b,c⟩
 ·rw [(B1j x).2 h1,D1V,J5 fun h=>h1 h.1]
theorem D0x (l:List A3) (hl:l.length<=maxLen):A0R l l=some true:=by
 unfold A0R;rw [D2u,D1U];unfold A4I;refine (M4 (f:=fun s:Int=>A0i l l s) l.length (fun _=>False) false (some true) (fun i hi _=>⟨fun h=>h.elim,fun _=> ?_⟩) (fun _=> ?_)).2 fun _ _ h=>h
 ·unfold A0i;rw [D1W (by omega:(i:Int)<(l.length:Int)),D1V,I7 hi]
  simp [S8 hi hl]
 ·unfold A0i;rw [D1Y (D2k _),D1U]
theorem C5Y (x:D5) (hl:x.Ag.length<=maxLen):A38 x x=some true:=by
 unfold A38;simp [D0x _ hl]
def C9m (x:F6):Prop:=((1<=(x.Bn.length:Int)/\(x.Bn.length:Int)<=64)/\(0<=x.Now/\x.Now<=16777216))/\
 ∀i,i<x.Bn.length->(0<=el x.Bn i/\el x.Bn i<=1099511627776)/\(x.Now<(i:Int)->el x.Bn i=0)
theorem C0G (x:F6) (hl:x.Bn.length<=maxLen):Z6 x=some (vOf (C9m x)):=by
 unfold Z6
 by_cases h1:(1<=(x.Bn.length:Int)/\(x.Bn.length:Int)<=64)/\(0<=x.Now/\x.Now<=16777216)
 ·have e:((((decide ((x.Bn.length:Int)<(1:Int)))||(decide ((x.Bn.length:Int)>(64:Int))))||(decide (x.Now<(0:Int))))||(decide (x.Now>(16777216:Int))))=false:=by
   rw [D17];simp only [D12,D1T,Ne];omega
  rw [e,D1U];unfold A8U;have H:=M4 (f:=fun s:Int=>A1u x s) x.Bn.length (fun i=> ¬((0<=el x.Bn i/\el x.Bn i<=1099511627776)/\(x.Now<(i:Int)->el x.Bn i=0))) 2 (some 0)
   (fun i hi _=>by
    unfold A1u;rw [D1W (by omega:(i:Int)<(x.Bn.length:Int)),D1V,I7 hi,D1R,S8 hi hl]
    refine L3 ?_;simp only [D12,D1Z,D1T,bne_iff_ne];omega)
   (fun _=>by
    unfold A1u;rw [D1Y (D2k _),D1U])
  by_cases h2: ∀i,i<x.Bn.length->(0<=el x.Bn i/\el x.Bn i<=1099511627776)/\(x.Now<(i:Int)->el x.Bn i=0)
  ·rw [H.2 fun i hi hn=>hn (h2 i hi),U1 ⟨h1,h2⟩]
  ·rw [H.1 (A0s h2),J5 fun h=>h2 h.2]
 ·have e:((((decide ((x.Bn.length:Int)<(1:Int)))||(decide ((x.Bn.length:Int)>(64:Int))))||(decide (x.Now<(0:Int))))||(decide (x.Now>(16777216:Int))))=true:=by
   simp only [D12,D1T];omega
  rw [e,D1V,J5 fun h=>h1 h.1]
theorem C0W (x:F6) (hl:x.Bn.length<=maxLen):A7h x=some (vOf (C9m x)):=by
 unfold A7h;simp only []
 by_cases h1:(1<=(x.Bn.length:Int)/\(x.Bn.length:Int)<=64)/\(0<=x.Now/\x.Now<=16777216)
 ·have e:(((decide ((x.Bn.length:Int)<(1:Int)))||(decide ((x.Bn.length:Int)>(64:Int))))||(!(I1 x.Now)))=false:=by
   rw [(A0P _).2 h1.2,D17];simp only [D12,D1T,Ne,D13,Bool.false_eq_true,or_false,false_or];omega
  rw [e,D1U];unfold A80;have H:=M4 (f:=fun s:Int=>A1A x s) x.Bn.length (fun i=> ¬((0<=el x.Bn i/\el x.Bn i<=1099511627776)/\(x.Now<(i:Int)->el x.Bn i=0))) 2 (some 0)
   (fun i hi _=>by
    unfold A1A;rw [D1W (by omega:(i:Int)<(x.Bn.length:Int)),D1V,I7 hi,D1R,S8 hi hl]
    refine L3 ?_;simp only [D12,D1Z,D1T,bne_iff_ne];omega)
   (fun _=>by
    unfold A1A;rw [D1Y (D2k _),D1U])
  by_cases h2: ∀i,i<x.Bn.length->(0<=el x.Bn i/\el x.Bn i<=1099511627776)/\(x.Now<(i:Int)->el x.Bn i=0)
  ·rw [H.2 fun i hi hn=>hn (h2 i hi),U1 ⟨h1,h2⟩]
  ·rw [H.1 (A0s h2),J5 fun h=>h2 h.2]
 ·have e:(((decide ((x.Bn.length:Int)<(1:Int)))||(decide ((x.Bn.length:Int)>(64:Int))))||(!(I1 x.Now)))=true:=by
   simp only [D12,D1T,D2d];rw [D17,Ne,A0P];omega
  rw [e,D1V,J5 fun h=>h1 h.1]
def C9l (x:B9):Prop:=(((1<=x.W/\x.W<=1048576)/\(1<=x.Cap/\x.Cap<=65536)/\(0<=x.Now/\x.Now<=16777216))/\(x.Bb.length:Int)<=x.Cap)/\
 ∀i,i<x.Bb.length->(H6 x.Now x.W (el x.Bb i).T=true/\ -4096<=(el x.Bb i).V/\(el x.Bb i).V<=4096)/\
  (1<=i->(el x.Bb (i-1)).T<(el x.Bb i).T/\Q8 x.Bs (el x.Bb i).V (el x.Bb (i-1)).V=false)
theorem C28 (m:Bool) (a b:Int):B6c m a b= !Q8 m b a:=by
 cases m
 ·show (false||decide (a<b))= !decide (b<=a)
  rw [D2i,D2c];simp
 ·show (decide (a>b)||false)= !decide (b>=a)
  rw [Bool.or_false,D2c];simp
theorem C4e (a b c:Int):A3t a b c=J4 a b c:=by
 rw [D2c,R7];unfold A3t;simp;omega
theorem B8r (x:B9) (hl:x.Bb.length<=maxLen):V9 x=some (vOf (C9l x)):=by
 unfold V9;simp only [C4e]
 by_cases h1:((1<=x.W/\x.W<=1048576)/\(1<=x.Cap/\x.Cap<=65536)/\(0<=x.Now/\x.Now<=16777216))/\(x.Bb.length:Int)<=x.Cap
 ·rw [(R7 _ _ _).2 h1.1,D1Y (by omega),D13,D2i,D1U]
  unfold A6u;have H:=M4 (f:=fun s:Int=>A0F x s) x.Bb.length (fun i=> ¬((H6 x.Now x.W (el x.Bb i).T=true/\ -4096<=(el x.Bb i).V/\(el x.Bb i).V<=4096)/\
    (1<=i->(el x.Bb (i-1)).T<(el x.Bb i).T/\Q8 x.Bs (el x.Bb i).V (el x.Bb (i-1)).V=false))) 2 (some 0)
   (fun i hi _=>by
    unfold A0F;rw [D1W (by omega:(i:Int)<(x.Bb.length:Int)),D1V,I7 hi,D1R,S8 hi hl]
    simp only [A9X]
    by_cases g1:H6 x.Now x.W (el x.Bb i).T=true/\ -4096<=(el x.Bb i).V/\(el x.Bb i).V<=4096
    ·have e:(((!(H6 x.Now x.W (el x.Bb i).T))||(decide ((el x.Bb i).V<(-4096:Int))))||(decide ((el x.Bb i).V>(4096:Int))))=false:=by
      rw [g1.1,D17];simp only [D12,D1T,Ne,D13,Bool.false_eq_true,or_false,false_or];omega
     rw [e,D1U];rcases i with _|i
     ·have e4:decide (((0:Nat):Int)>0)=false:=rfl;rw [e4];simp only [D2m,H5,D1R,D1U];exact ⟨fun h=>absurd ⟨g1,fun h=>absurd h (by decide)⟩ h,fun _=>trivial⟩
     ·have e4:decide (((i+1:Nat):Int)>0)=true:=D1W (by omega)
      rw [e4,A1v (by omega) (Nat.le_of_lt hi) hl,D2y,I7 (by omega)]
      simp only [H7,D1R,D2s]
      by_cases g2:(el x.Bb i).T>=(el x.Bb (i+1)).T
      ·simp only [g2,decide_true,D2B,D13,H5,D1R,D1V];refine ⟨fun _=>trivial,fun h=>absurd (fun h2=> ?_) h⟩;have:=(h2.2 (by omega)).1
       omega
      ·simp only [g2,decide_false,D2i,D14,H7,D1R];refine L3 ?_;simp only [g1,true_and,show 1<=i+1 from by omega,true_implies]
       have:(el x.Bb i).T<(el x.Bb (i+1)).T:=by omega
       simp [this]
    ·have e:(((!(H6 x.Now x.W (el x.Bb i).T))||(decide ((el x.Bb i).V<(-4096:Int))))||(decide ((el x.Bb i).V>(4096:Int))))=true:=by
      cases hv:H6 x.Now x.W (el x.Bb i).T with
      |false=>rfl
      |true=>rw [hv] at g1;simp only [true_and] at g1;simp only [D12,D1T];omega
     rw [e,D1V];exact ⟨fun _=>rfl,fun h=>absurd (fun h2=>g1 h2.1) h⟩)
   (fun _=>by
    unfold A0F;rw [D1Y (D2k _),D1U])
  by_cases h2: ∀i,i<x.Bb.length->(H6 x.Now x.W (el x.Bb i).T=true/\ -4096<=(el x.Bb i).V/\(el x.Bb i).V<=4096)/\
    (1<=i->(el x.Bb (i-1)).T<(el x.Bb i).T/\Q8 x.Bs (el x.Bb i).V (el x.Bb (i-1)).V=false)
  ·rw [H.2 fun i hi hn=>hn (h2 i hi),U1 ⟨h1,h2⟩]
  ·rw [H.1 (A0s h2),J5 fun h=>h2 h.2]
 ·have e:((!(J4 x.W x.Cap x.Now))||(decide ((x.Bb.length:Int)>x.Cap)))=true:=by
   rw [D12,D2d,D17,Ne,R7,D1T];omega
  rw [e,D1V,J5 fun h=>h1 h.1]
theorem C0X (x:B9) (hl:x.Bb.length<=maxLen):A7i x=some (vOf (C9l x)):=by
 unfold A7i;simp only []
 by_cases h1:((1<=x.W/\x.W<=1048576)/\(1<=x.Cap/\x.Cap<=65536)/\(0<=x.Now/\x.Now<=16777216))/\(x.Bb.length:Int)<=x.Cap
 ·rw [(R7 _ _ _).2 h1.1,D1Y (by omega),D13,D2i,D1U]
  unfold A81;have H:=M4 (f:=fun s:Int=>A1B x s) x.Bb.length (fun i=> ¬((H6 x.Now x.W (el x.Bb i).T=true/\ -4096<=(el x.Bb i).V/\(el x.Bb i).V<=4096)/\
    (1<=i->(el x.Bb (i-1)).T<(el x.Bb i).T/\Q8 x.Bs (el x.Bb i).V (el x.Bb (i-1)).V=false))) 2 (some 0)
   (fun i hi _=>by
    unfold A1B;rw [D1W (by omega:(i:Int)<(x.Bb.length:Int)),D1V,I7 hi,D1R,S8 hi hl]
    simp only [C28,Bool.not_not]
    by_cases g1:H6 x.Now x.W (el x.Bb i).T=true/\ -4096<=(el x.Bb i).V/\(el x.Bb i).V<=4096
    ·rw [g1.1,(A1H _).2 g1.2];rcases i with _|i
     ·have e4:decide (((0:Nat):Int)>0)=false:=rfl;rw [e4];simp only [D13,Bool.or_false,D14,Bool.and_false,D2m,H5,D1R,D1U];exact ⟨fun h=>absurd ⟨⟨trivial,g1.2⟩,fun h=>absurd h (by decide)⟩ h,fun _=>trivial⟩
     ·have e4:decide (((i+1:Nat):Int)>0)=true:=D1W (by omega)
      rw [e4,A1v (by omega) (Nat.le_of_lt hi) hl,D2y,I7 (by omega)]
      simp only [D13,Bool.or_false,D14,H7,D1R,D2s,D2i]
      by_cases g2:(el x.Bb i).T>=(el x.Bb (i+1)).T
      ·simp only [g2,decide_true,D2B,D13,H5,D1R,D1V];refine ⟨fun _=>trivial,fun h=>absurd (fun h2=> ?_) h⟩;have:=(h2.2 (by omega)).1
       omega
      ·simp only [g2,decide_false,D2i,D14,H7,D1R];refine L3 ?_;simp only [g1,true_and,show 1<=i+1 from by omega,true_implies]
       have:(el x.Bb i).T<(el x.Bb (i+1)).T:=by omega
       simp [this]
    ·have e:((!(H6 x.Now x.W (el x.Bb i).T))||(!(J9 (el x.Bb i).V)))=true:=by
      rw [D12,D2d,D2d,D17,D17,Ne,Ne,A1H];exact D2M fun h=>g1 ⟨D2M fun h2=>h (.inl h2),D2M fun h2=>h (.inr h2)⟩
     rw [e];simp only [D13,D2m,H5,D1R,D2B,D1V];exact ⟨fun _=>trivial,fun h=>absurd (fun h2=>g1 h2.1) h⟩)
   (fun _=>by
    unfold A1B;rw [D1Y (D2k _),D1U])
  by_cases h2: ∀i,i<x.Bb.length->(H6 x.Now x.W (el x.Bb i).T=true/\ -4096<=(el x.Bb i).V/\(el x.Bb i).V<=4096)/\
    (1<=i->(el x.Bb (i-1)).T<(el x.Bb i).T/\Q8 x.Bs (el x.Bb i).V (el x.Bb (i-1)).V=false)
  ·rw [H.2 fun i hi hn=>hn (h2 i hi),U1 ⟨h1,h2⟩]
  ·rw [H.1 (A0s h2),J5 fun h=>h2 h.2]
 ·have e:((!(J4 x.W x.Cap x.Now))||(decide ((x.Bb.length:Int)>x.Cap)))=true:=by
   rw [D12,D2d,D17,Ne,R7,D1T];omega
  rw [e,D1V,J5 fun h=>h1 h.1]
theorem C50 (x:B9) (hl:x.Bb.length<=maxLen):A4a x x=some true:=by
 unfold A4a;simp [B9v _ hl]
end Go.Win
namespace Go.Win
open Go.Vc Go.Dec
def A5S (c:E9):Prop:=(1<=c.Bi/\c.Bi<=11)/\
 ((c.Bi=6\/c.Bi=10->c.W=0)/\(c.Bi=7->1<=c.W/\c.W<=64)/\(c.Bi≠6/\c.Bi≠10/\c.Bi≠7->1<=c.W/\c.W<=1048576))/\
 ((c.Bi=6\/c.Bi=7->c.Cap=0)/\(c.Bi=9->1<=c.Cap/\c.Cap<=64)/\(c.Bi=10->2<=c.Cap/\c.Cap<=65536)/\(c.Bi≠6/\c.Bi≠7/\c.Bi≠9/\c.Bi≠10->1<=c.Cap/\c.Cap<=65536))/\
 ((c.Bi=1\/c.Bi=6\/c.Bi=7\/c.Bi=8\/c.Bi=9->c.K=0)/\(c.Bi≠1/\c.Bi≠6/\c.Bi≠7/\c.Bi≠8/\c.Bi≠9->1<=c.K/\c.K<=64))/\
 ((c.Bi=4->1<=c.Bo/\c.Bo<=4)/\(c.Bi≠4->c.Bo=0))/\
 ((c.Bi=6->0<=c.P/\c.P<=4)/\(c.Bi≠6->c.P=0))/\
 ((c.Bi=9->1<=c.Am/\c.Am<=16)/\(c.Bi≠9->c.Am=0))/\
 ((c.Bi=3->1<=c.Bs/\c.Bs<=1024)/\(c.Bi=8->0<=c.Bs/\c.Bs<=1)/\(c.Bi≠3/\c.Bi≠8->c.Bs=0))
open Classical in
noncomputable def vCf (p:Prop):Int:=if p then 0 else 1
theorem C7G {p:Prop} (h:p):vCf p=0:=by unfold vCf;rw [if_pos h]
theorem C2X {p:Prop} (h:¬p):vCf p=1:=by unfold vCf;rw [if_neg h]
theorem C3P {b:Bool} {p:Prop} (h:b=true↔ ¬p):cond b (1:Int) 0=vCf p:=by
 cases b with
 |true=>rw [C2X (h.1 rfl)];rfl
 |false=>rw [C7G (D2M fun hn=>absurd (h.2 hn) (by decide))];rfl
theorem B1c (c:E9):U5 c=vCf (A5S c):=by
 obtain ⟨k,agg,w,kk,cap,p,ch,mx⟩:=c
 by_cases hk:1<=k/\k<=11
 ·have:k=1\/k=2\/k=3\/k=4\/k=5\/k=6\/k=7\/k=8\/k=9\/k=10\/k=11:=by omega
  rcases this with h|h|h|h|h|h|h|h|h|h|h<;>subst h<;>
   simp only [U5,V0,A1r,A01,A0l,A0m,A0n,A0o,A0p,A0q,A0r,
    C2,F9,B1,beq_self_eq_true,D2s,Bool.and_true,D1V,D1U,show ((1:Int)==2)=false from rfl,show ((1:Int)==3)=false from rfl,show ((1:Int)==4)=false from rfl,show ((1:Int)==5)=false from rfl,show ((1:Int)==6)=false from rfl,show ((1:Int)==7)=false from rfl,show ((1:Int)==8)=false from rfl,show ((1:Int)==9)=false from rfl,show ((1:Int)==10)=false from rfl,show ((1:Int)==11)=false from rfl,
    show ((2:Int)==3)=false from rfl,show ((2:Int)==4)=false from rfl,show ((2:Int)==6)=false from rfl,show ((2:Int)==7)=false from rfl,show ((2:Int)==9)=false from rfl,show ((2:Int)==10)=false from rfl,
    show ((3:Int)==6)=false from rfl,show ((3:Int)==7)=false from rfl,show ((3:Int)==9)=false from rfl,show ((3:Int)==10)=false from rfl,
    show ((4:Int)==3)=false from rfl,show ((4:Int)==6)=false from rfl,show ((4:Int)==7)=false from rfl,show ((4:Int)==9)=false from rfl,show ((4:Int)==10)=false from rfl,
    show ((5:Int)==2)=false from rfl,show ((5:Int)==3)=false from rfl,show ((5:Int)==4)=false from rfl,show ((5:Int)==6)=false from rfl,show ((5:Int)==7)=false from rfl,show ((5:Int)==9)=false from rfl,show ((5:Int)==10)=false from rfl,
    show ((7:Int)==6)=false from rfl,
    show ((8:Int)==2)=false from rfl,show ((8:Int)==3)=false from rfl,show ((8:Int)==4)=false from rfl,show ((8:Int)==5)=false from rfl,show ((8:Int)==6)=false from rfl,show ((8:Int)==7)=false from rfl,show ((8:Int)==9)=false from rfl,show ((8:Int)==10)=false from rfl,show ((8:Int)==11)=false from rfl,
    show ((9:Int)==6)=false from rfl,show ((9:Int)==7)=false from rfl,show ((10:Int)==6)=false from rfl,show ((10:Int)==7)=false from rfl,show ((10:Int)==9)=false from rfl,
    show ((11:Int)==2)=false from rfl,show ((11:Int)==3)=false from rfl,show ((11:Int)==4)=false from rfl,show ((11:Int)==5)=false from rfl,show ((11:Int)==6)=false from rfl,show ((11:Int)==7)=false from rfl,show ((11:Int)==9)=false from rfl,show ((11:Int)==10)=false from rfl,
    show (decide ((1048576:Int)>0))=true from rfl,show (decide ((64:Int)>0))=true from rfl,show (decide ((0:Int)>0))=false from rfl]<;>
   refine C3P ?_<;>unfold A5S<;>simp [-not_and,-Classical.not_imp]<;>omega
 ·rw [C2X fun h=>hk h.1];have e: ∀n:Int,1<=n->n<=11->(k==n)=false:=fun n h1 h2=>by rw [D2H];omega
  unfold U5 V0;simp only [e 6 (by decide) (by decide),e 7 (by decide) (by decide),e 9 (by decide) (by decide),e 10 (by decide) (by decide),e 3 (by decide) (by decide),e 4 (by decide) (by decide),e 2 (by decide) (by decide),e 5 (by decide) (by decide),e 11 (by decide) (by decide),e 8 (by decide) (by decide),e 1 (by decide) (by decide),D1U]
theorem B29 (c:E9):A2k c=vCf (A5S c):=by
 obtain ⟨k,agg,w,kk,cap,p,ch,mx⟩:=c;have emay:J4 w cap 0=true↔(1<=w/\w<=1048576)/\(1<=cap/\cap<=65536):=by rw [R7];omega
 have emk:=Q1 kk;have eag:T4 agg=true↔1<=agg/\agg<=4:=by unfold T4;simp
 by_cases hk:1<=k/\k<=11
 ·have:k=1\/k=2\/k=3\/k=4\/k=5\/k=6\/k=7\/k=8\/k=9\/k=10\/k=11:=by omega
  rcases this with h|h|h|h|h|h|h|h|h|h|h<;>subst h<;>
   simp only [A2k,B7S,A4j,Q2,B0L,A1F,beq_self_eq_true,D2s,Bool.and_true,D1V,D1U,show ((2:Int)==1)=false from rfl,show ((3:Int)==1)=false from rfl,show ((3:Int)==2)=false from rfl,show ((3:Int)==5)=false from rfl,show ((3:Int)==11)=false from rfl,
    show ((4:Int)==1)=false from rfl,show ((4:Int)==2)=false from rfl,show ((4:Int)==3)=false from rfl,show ((4:Int)==5)=false from rfl,show ((4:Int)==11)=false from rfl,
    show ((5:Int)==1)=false from rfl,show ((5:Int)==2)=false from rfl,
    show ((6:Int)==1)=false from rfl,show ((6:Int)==2)=false from rfl,show ((6:Int)==3)=false from rfl,show ((6:Int)==4)=false from rfl,show ((6:Int)==5)=false from rfl,show ((6:Int)==11)=false from rfl,
    show ((7:Int)==1)=false from rfl,show ((7:Int)==2)=false from rfl,show ((7:Int)==3)=false from rfl,show ((7:Int)==4)=false from rfl,show ((7:Int)==5)=false from rfl,show ((7:Int)==6)=false from rfl,show ((7:Int)==11)=false from rfl,
    show ((8:Int)==1)=false from rfl,show ((8:Int)==2)=false from rfl,show ((8:Int)==3)=false from rfl,show ((8:Int)==4)=false from rfl,show ((8:Int)==5)=false from rfl,show ((8:Int)==6)=false from rfl,show ((8:Int)==7)=false from rfl,show ((8:Int)==11)=false from rfl,
    show ((9:Int)==1)=false from rfl,show ((9:Int)==2)=false from rfl,show ((9:Int)==3)=false from rfl,show ((9:Int)==4)=false from rfl,show ((9:Int)==5)=false from rfl,show ((9:Int)==6)=false from rfl,show ((9:Int)==7)=false from rfl,show ((9:Int)==8)=false from rfl,show ((9:Int)==11)=false from rfl,
    show ((10:Int)==1)=false from rfl,show ((10:Int)==2)=false from rfl,show ((10:Int)==3)=false from rfl,show ((10:Int)==4)=false from rfl,show ((10:Int)==5)=false from rfl,show ((10:Int)==6)=false from rfl,show ((10:Int)==7)=false from rfl,show ((10:Int)==8)=false from rfl,show ((10:Int)==9)=false from rfl,show ((10:Int)==11)=false from rfl,
    show ((11:Int)==1)=false from rfl,show ((11:Int)==2)=false from rfl,show ((11:Int)==5)=false from rfl]<;>
   refine C3P ?_<;>unfold A5S<;>simp only [D12,D2d,D2I,D2r,D2H,D18,ne_eq]<;>
   (try simp only [D17,ne_eq,emay,emk,eag])<;>simp [-not_and,-Classical.not_imp]<;>omega
 ·rw [C2X fun h=>hk h.1];have e: ∀n:Int,1<=n->n<=11->(k==n)=false:=fun n h1 h2=>by rw [D2H];omega
  unfold A2k B0L A1F;simp only [e 6 (by decide) (by decide),e 7 (by decide) (by decide),e 9 (by decide) (by decide),e 10 (by decide) (by decide),e 3 (by decide) (by decide),e 4 (by decide) (by decide),e 2 (by decide) (by decide),e 5 (by decide) (by decide),e 11 (by decide) (by decide),e 8 (by decide) (by decide),e 1 (by decide) (by decide),D1U,D14,Bool.or_true,D1V]
end Go.Win
namespace Go.Win
open Go.Vc Go.Dec
def S9 (n k:Int):Int:=max 1 (n/k)
theorem C4N {n k:Int} (hn:0<=n) (hk:1<=k):Int.tdiv n k=n/k/\0<=n/k/\n/k<=n:=by
 refine ⟨Int.tdiv_eq_ediv_of_nonneg hn,Int.ediv_nonneg hn (by omega), ?_⟩
 exact Int.ediv_le_self k hn
theorem C6o {n k:Int} (hn:0<=n/\n<=1099511627776) (hk:1<=k):A3G n k=some (S9 n k):=by
 obtain ⟨h1,h2,h3⟩:=C4N hn.1 hk;unfold A3G S9;rw [D1W (by omega),Z3,h1,F4 (by omega) (by omega)]
 congr 1
 show (if n/k>1 then n/k else 1)=max 1 (n/k)
 split<;>omega
theorem D0W {x:B6} (hn:0<=x.N/\x.N<=1099511627776) (hk:1<=x.K):C6v x=some (S9 x.N x.K):=C6o hn hk
theorem C1N {n k:Int} (hn:0<=n/\n<=1099511627776) (hk:1<=k):1<=S9 n k/\S9 n k<=1099511627776/\(1<=n->S9 n k<=n):=by
 obtain ⟨h1,h2,h3⟩:=C4N hn.1 hk;unfold S9;omega
def U0 (l:List E6) (i:Nat):Int:=((l.take i).map (·.G)).sum
theorem B1z (l:List E6):U0 l 0=0:=by simp [U0]
theorem B1y {l:List E6} {i:Nat} (h:i<l.length):U0 l (i+1)=U0 l i+(el l i).G:=by
 unfold U0;rw [List.take_add_one,A9V h];simp
def B3X (l:List E6) (M:Int) (i:Nat):Prop:=(-4096<=(el l i).V/\(el l i).V<=4096)/\(1<=(el l i).G/\0<=(el l i).D/\(el l i).G+(el l i).D<=M)/\(1<=i->(el l (i-1)).V<=(el l i).V)
def B0t (x:B6):Prop:=(1<=x.K/\x.K<=64)/\(2<=x.Cap/\x.Cap<=65536)/\(0<=x.N/\x.N<=1099511627776)/\(x.Av.length:Int)<=x.Cap
def C9r (x:B6):Prop:=B0t x/\(x.Av.length=0↔x.N=0)/\(∀i,i<x.Av.length->B3X x.Av (S9 x.N x.K) i)/\
 (0<x.Av.length->(el x.Av 0).G=1/\(el x.Av 0).D=0/\(el x.Av (x.Av.length-1)).D=0/\U0 x.Av x.Av.length=x.N)
theorem C4K {l:List E6} {M:Int} (hM:M<=1099511627776) (hl:l.length<=65536): ∀i,i<=l.length->(∀j,j<i->B3X l M j)->(i:Int)<=U0 l i/\U0 l i<=i*1099511627776:=by
 intro i
 induction i with
 |zero=>intro _ _;rw [B1z];omega
 |succ i ih=>
  intro hi h;have h1:=ih (by omega) fun j hj=>h j (by omega)
  have h2:=(h i (by omega)).2.1
  rw [B1y (by omega)]
  omega
theorem B8E (x:B6):W1 x=some (vOf (C9r x)):=by
 unfold W1
 by_cases h1:B0t x
 ·have h1' :=h1;unfold B0t at h1';have e:(((((((decide (x.K<(1:Int)))||(decide (x.K>(64:Int))))||(decide (x.Cap<(2:Int))))||(decide (x.Cap>(65536:Int))))||(decide (x.N<(0:Int))))||(decide (x.N>(1099511627776:Int))))||(decide ((x.Av.length:Int)>x.Cap)))=false:=by
   rw [D17];simp only [D12,D1T,Ne];omega
  rw [e,D1U];have hl:x.Av.length<=65536:=by omega
  have hm:x.Av.length<=maxLen:=by rw [M2];omega
  by_cases hN:x.N=0
  ·have eN:(x.N==0)=true:=by rw [hN];rfl
   rw [eN,D1V]
   by_cases h0:0<x.Av.length
   ·rw [D1W (by omega),D1V,J5]
    intro h;have:=h.2.1;omega
   ·rw [D1Y (by omega),D1U,U1]
    exact ⟨h1,⟨fun _=>hN,fun _=>by omega⟩,fun i hi=>absurd hi (by omega),fun h=>absurd h h0⟩
  ·have eN:(x.N==0)=false:=by rw [D2H];exact hN
   rw [eN,D1U]
   by_cases h0:0<x.Av.length
   ·have e0:((x.Av.length:Int)==0)=false:=by rw [D2H];omega
    rw [e0,D1U,C6o h1'.2.2.1 h1'.1.1,D1R];have hM:=C1N (n:=x.N) (k:=x.K) h1'.2.2.1 h1'.1.1;unfold A6M;have H:=A2d (f:=fun s:Int×Int=>A0I x (S9 x.N x.K) s.1 s.2) (fun i=>(U0 x.Av i,(i:Int))) 0 x.Av.length (Nat.zero_le _) (fun i=> ¬B3X x.Av (S9 x.N x.K) i) 2
     (some (vOf ((el x.Av 0).G=1/\(el x.Av 0).D=0/\(el x.Av (x.Av.length-1)).D=0/\U0 x.Av x.Av.length=x.N)))
     (fun i _ hi hp=>by
      simp only [];unfold A0I;have hs:=C4K (l:=x.Av) hM.2.1 hl i (by omega) fun j hj=>D2M fun hn=>hp j (Nat.zero_le _) hj hn
      rw [D1W (by omega:(i:Int)<(x.Av.length:Int)),D1V,I7 hi,D1R,S8 hi hm]
      unfold B3X
      by_cases g1: -4096<=(el x.Av i).V/\(el x.Av i).V<=4096
      ·have e1:(decide ((el x.Av i).V< -4096)||decide ((el x.Av i).V>4096))=false:=by simp;omega
       rw [e1];have key: ∀P:Prop,((((decide ((el x.Av i).G<(1:Int)))||(decide ((el x.Av i).D<(0:Int))))||(decide ((el x.Av i).G>(S9 x.N x.K))))||(decide ((el x.Av i).D>(A2 ((S9 x.N x.K)-(el x.Av i).G)))))=true↔ ¬(1<=(el x.Av i).G/\0<=(el x.Av i).D/\(el x.Av i).G+(el x.Av i).D<=S9 x.N x.K):=by
        intro _;simp only [D12,D1T]
        by_cases q:1<=(el x.Av i).G/\(el x.Av i).G<=S9 x.N x.K
        ·rw [F4 (by omega) (by omega)];omega
        ·omega
       have keyw:(1<=(el x.Av i).G/\0<=(el x.Av i).D/\(el x.Av i).G+(el x.Av i).D<=S9 x.N x.K)->A2 (U0 x.Av i+(el x.Av i).G)=U0 x.Av (i+1):=by
        intro q;rw [B1y hi,F4]<;>omega
       have fin: ∀(c1:Bool) (P1:Prop),(c1=true↔ ¬P1)->
         (¬((-4096<=(el x.Av i).V/\(el x.Av i).V<=4096)/\(1<=(el x.Av i).G/\0<=(el x.Av i).D/\(el x.Av i).G+(el x.Av i).D<=S9 x.N x.K)/\P1)->
          (cond c1 (some (.inr 2)) (cond ((((decide ((el x.Av i).G<(1:Int)))||(decide ((el x.Av i).D<(0:Int))))||(decide ((el x.Av i).G>(S9 x.N x.K))))||(decide ((el x.Av i).D>(A2 ((S9 x.N x.K)-(el x.Av i).G))))) (some (.inr 2)) (some (.inl (A2 (U0 x.Av i+(el x.Av i).G),((i+1:Nat):Int))))):Option ((Int×Int)⊕Int))=some (.inr 2))/\
         (¬ ¬((-4096<=(el x.Av i).V/\(el x.Av i).V<=4096)/\(1<=(el x.Av i).G/\0<=(el x.Av i).D/\(el x.Av i).G+(el x.Av i).D<=S9 x.N x.K)/\P1)->
          (cond c1 (some (.inr 2)) (cond ((((decide ((el x.Av i).G<(1:Int)))||(decide ((el x.Av i).D<(0:Int))))||(decide ((el x.Av i).G>(S9 x.N x.K))))||(decide ((el x.Av i).D>(A2 ((S9 x.N x.K)-(el x.Av i).G))))) (some (.inr 2)) (some (.inl (A2 (U0 x.Av i+(el x.Av i).G),((i+1:Nat):Int))))):Option ((Int×Int)⊕Int))=some (.inl (U0 x.Av (i+1),((i+1:Nat):Int)))):=by
        intro c1 P1 hc
        by_cases q:1<=(el x.Av i).G/\0<=(el x.Av i).D/\(el x.Av i).G+(el x.Av i).D<=S9 x.N x.K
        ·rw [D17.2 fun h=>(key True).1 h q,D1U,keyw q];refine L3 ?_;rw [hc];exact ⟨fun h1 h2=>h1 h2.2.2,fun h1 h2=>h1 ⟨g1,q,h2⟩⟩
        ·rw [(key True).2 q,D1V];have:(cond c1 (some (.inr 2)) (some (.inr 2)):Option ((Int×Int)⊕Int))=some (.inr 2):=by cases c1<;>rfl
         rw [this];exact ⟨fun _=>rfl,fun h=>absurd (fun h2=>q h2.2.1) h⟩
       rcases i with _|i
       ·have e4:decide (((0:Nat):Int)>0)=false:=rfl;rw [e4];simp only [Bool.and_false,H5,D1R,D2m,Bool.or_false];exact fin false _ ⟨fun h=>(by cases h),fun h=>absurd (fun h2=>absurd h2 (by decide)) h⟩
       ·have e4:decide (((i+1:Nat):Int)>0)=true:=D1W (by omega)
        rw [e4,A1v (by omega) (Nat.le_of_lt hi) hm,D2y,I7 (by omega)]
        simp only [D14,Bool.and_true,H7,D1R,D2s,D2i];refine fin _ _ ?_;rw [D1T];constructor
        ·intro h1 h2;have:=h2 (by omega);omega
        ·intro h1;exact Int.not_le.1 fun h2=>h1 fun _=>h2
      ·have e1:(decide ((el x.Av i).V< -4096)||decide ((el x.Av i).V>4096))=true:=by simp;omega
       rw [e1];simp only [D13,D2m,H5,D1R,D2B,D1V];exact ⟨fun _=>trivial,fun h=>absurd (fun h2=>g1 h2.1) h⟩)
     (fun hp=>by
      simp only [];unfold A0I;rw [D1Y (D2k _),D1U]
      congr 1
      rw [A63 h0,D1R,A1v h0 (D2z _) hm,I7 (by omega),D1R]
      by_cases q:(el x.Av 0).G=1/\(el x.Av 0).D=0/\(el x.Av (x.Av.length-1)).D=0/\U0 x.Av x.Av.length=x.N
      ·rw [U1 q];obtain ⟨q1,q2,q3,q4⟩:=q;rw [q1,q2,q3,q4];simp
      ·rw [J5 q];have:(((U0 x.Av x.Av.length !=x.N||(el x.Av 0).G !=1)||(el x.Av 0).D !=0)||(el x.Av (x.Av.length-1)).D !=0)=true:=by
        simp only [D12,bne_iff_ne];omega
       rw [this];rfl)
    rw [show ((0:Int),(0:Int))=(U0 x.Av 0,((0:Nat):Int)) from by rw [B1z];rfl]
    by_cases h2: ∀i,i<x.Av.length->B3X x.Av (S9 x.N x.K) i
    ·rw [H.2 fun i _ hi hn=>hn (h2 i hi)]
     congr 1
     by_cases q:(el x.Av 0).G=1/\(el x.Av 0).D=0/\(el x.Av (x.Av.length-1)).D=0/\U0 x.Av x.Av.length=x.N
     ·rw [U1 q,U1];exact ⟨h1,⟨fun h=>by omega,fun h=>absurd h hN⟩,h2,fun _=>q⟩
     ·rw [J5 q,J5];exact fun h=>q (h.2.2.2 h0)
    ·obtain ⟨i,hi,hn⟩:=A0s h2;rw [H.1 ⟨i,Nat.zero_le _,hi,hn⟩,J5];exact fun h=>h2 h.2.2.1
   ·have e0:((x.Av.length:Int)==0)=true:=by rw [show x.Av.length=0 by omega];rfl
    rw [e0,D1V,J5];intro h;have:=h.2.1;omega
 ·have e:(((((((decide (x.K<(1:Int)))||(decide (x.K>(64:Int))))||(decide (x.Cap<(2:Int))))||(decide (x.Cap>(65536:Int))))||(decide (x.N<(0:Int))))||(decide (x.N>(1099511627776:Int))))||(decide ((x.Av.length:Int)>x.Cap)))=true:=by
   unfold B0t at h1;simp only [D12,D1T];omega
  rw [e,D1V,J5 fun h=>h1 h.1]
theorem C0Y (x:B6):A7l x=some (vOf (C9r x)):=by
 unfold A7l;simp only []
 by_cases h1:B0t x/\(x.Av.length=0↔x.N=0)
 ·have h1' :=h1.1;unfold B0t at h1';have en:(A0O x.K x.Cap).2=0:=by
   unfold A0O;have:(((!(J3 x.K))||(decide (x.Cap<(2:Int))))||(decide (x.Cap>(65536:Int))))=false:=by
    rw [(Q1 _).2 h1'.1];simp;omega
   simp only [this,D1U]
  have eb:(((x.Av.length:Int)==0)==(x.N==0))=true:=by
   rw [D2L,D2c,D2L,D2L];have:=h1.2;omega
  have e:((((((A0O x.K x.Cap).2 !=0)||(decide (x.N<(0:Int))))||(decide (x.N>(1099511627776:Int))))||(decide ((x.Av.length:Int)>x.Cap)))||(!(((x.Av.length:Int)==(0:Int))==(x.N==(0:Int)))))=false:=by
   rw [en,eb,D17];simp only [D12,D1T,Ne,D2u,D13,Bool.false_eq_true,or_false,false_or];omega
  rw [e,D1U];have hl:x.Av.length<=65536:=by omega
  have hm:x.Av.length<=maxLen:=by rw [M2];omega
  have hM:=C1N (n:=x.N) (k:=x.K) h1'.2.2.1 h1'.1.1;unfold A83
  let good:Nat->Prop:=fun i=>B3X x.Av (S9 x.N x.K) i/\(i=0->(el x.Av i).G=1/\(el x.Av i).D=0)/\(i=x.Av.length-1->(el x.Av i).D=0)/\U0 x.Av (i+1)<=x.N
  have H:=A2d (f:=fun s:Int×Int=>A1C x s.1 s.2) (fun i=>(U0 x.Av i,(i:Int))) 0 x.Av.length (Nat.zero_le _) (fun i=> ¬good i) 2
   (some (vOf (U0 x.Av x.Av.length=x.N)))
   (fun i _ hi hp=>by
    simp only [];unfold A1C;have hs:=C4K (l:=x.Av) hM.2.1 hl i (by omega) fun j hj=>(D2M fun hn=>hp j (Nat.zero_le _) hj hn:good j).1
    rw [D1W (by omega:(i:Int)<(x.Av.length:Int)),D1V,I7 hi,D1R,S8 hi hm,A1v (by omega) (D2z _) hm,D0W h1'.2.2.1 h1'.1.1]
    simp only [];have el0:((i:Int)==0)=decide (i=0):=by rw [D2c,D2L,D1T];omega
    have ell:((i:Int)==((x.Av.length-1:Nat):Int))=decide (i=x.Av.length-1):=by rw [D2c,D2L,D1T];omega
    rw [el0,ell];have hN1:1<=x.N:=by have:=h1.2;omega
    have hMN:=hM.2.2 hN1
    by_cases gA:(-4096<=(el x.Av i).V/\(el x.Av i).V<=4096)/\(1<=(el x.Av i).G/\(el x.Av i).G<=x.N)/\(0<=(el x.Av i).D/\(el x.Av i).D<=x.N)
    ·have eA:(((((!(J9 (el x.Av i).V))||(decide ((el x.Av i).G<(1:Int))))||(decide ((el x.Av i).G>x.N)))||(decide ((el x.Av i).D<(0:Int))))||(decide ((el x.Av i).D>x.N)))=false:=by
      rw [(A1H _).2 gA.1,D17];simp only [D12,D1T,Ne,D13,Bool.false_eq_true,or_false,false_or];omega
     rw [eA,F4 (n:=(el x.Av i).G+(el x.Av i).D) (by omega) (by omega),F4 (n:=U0 x.Av i+(el x.Av i).G) (by omega) (by omega),<-B1y hi]
     simp only [D14,H7,D1R,D2i];have fin: ∀(c1:Bool),(c1=true↔(1<=i/\(el x.Av (i-1)).V>(el x.Av i).V))->
       (¬good i->(cond (((decide ((el x.Av i).G+(el x.Av i).D>S9 x.N x.K)||c1)||(decide (i=0)&&((el x.Av i).G !=1||(el x.Av i).D !=0)))||(decide (i=x.Av.length-1)&&(el x.Av i).D !=0)) (some (.inr 2))
        (cond (decide (U0 x.Av (i+1)>x.N)) (some (.inr 2)) (some (.inl (U0 x.Av (i+1),((i+1:Nat):Int))))):Option ((Int×Int)⊕Int))=some (.inr 2))/\
       (¬ ¬good i->(cond (((decide ((el x.Av i).G+(el x.Av i).D>S9 x.N x.K)||c1)||(decide (i=0)&&((el x.Av i).G !=1||(el x.Av i).D !=0)))||(decide (i=x.Av.length-1)&&(el x.Av i).D !=0)) (some (.inr 2))
        (cond (decide (U0 x.Av (i+1)>x.N)) (some (.inr 2)) (some (.inl (U0 x.Av (i+1),((i+1:Nat):Int))))):Option ((Int×Int)⊕Int))=some (.inl (U0 x.Av (i+1),((i+1:Nat):Int)))):=by
      intro c1 hc;rw [A1q];refine L3 ?_;simp only [D12,D1Z,D1T,bne_iff_ne,hc];show _↔ ¬(B3X x.Av (S9 x.N x.K) i/\_);unfold B3X;omega
     rcases i with _|i
     ·have e4:decide (((0:Nat):Int)>0)=false:=rfl;rw [e4];simp only [Bool.and_false,H5,D1R,D2m];exact fin false ⟨fun h=>(by cases h),fun h=>(by omega)⟩
     ·have e4:decide (((i+1:Nat):Int)>0)=true:=D1W (by omega)
      rw [e4,A1v (by omega) (Nat.le_of_lt hi) hm,D2y,I7 (by omega)]
      by_cases gB:(el x.Av (i+1)).G+(el x.Av (i+1)).D>S9 x.N x.K
      ·rw [D1W gB];simp only [D13,D2m,H5,D1R,D2B,D1V];refine ⟨fun _=>trivial,fun h=>absurd (fun h2:good (i+1)=> ?_) h⟩;have:=h2.1.2.1;omega
      ·have fin' :=fin (decide ((el x.Av i).V>(el x.Av (i+1)).V)) (by rw [D1T,D2y];omega)
       rw [D1Y gB] at fin' ⊢;simp only [D14,D2s,H7,D1R];exact fin'
    ·have eA:(((((!(J9 (el x.Av i).V))||(decide ((el x.Av i).G<(1:Int))))||(decide ((el x.Av i).G>x.N)))||(decide ((el x.Av i).D<(0:Int))))||(decide ((el x.Av i).D>x.N)))=true:=by
      simp only [D12,D1T,D2d];rw [D17,Ne,A1H];omega
     rw [eA];simp only [D13,D2B,D2m,H5,D1R,D1V];refine ⟨fun _=>trivial,fun h=>absurd (fun h2:good i=>gA ?_) h⟩;have:=h2.1;unfold B3X at this;omega)
   (fun hp=>by
    simp only [];unfold A1C;rw [D1Y (D2k _),D1U]
    congr 1
    by_cases q:U0 x.Av x.Av.length=x.N
    ·rw [U1 q,q,D2u,D1U]
    ·rw [J5 q,(bne_iff_ne).2 q,D1V])
  rw [show ((0:Int),(0:Int))=(U0 x.Av 0,((0:Nat):Int)) from by rw [B1z];rfl]
  by_cases h2: ∀i,i<x.Av.length->good i
  ·rw [H.2 fun i _ hi hn=>hn (h2 i hi)]
   congr 1
   by_cases q:U0 x.Av x.Av.length=x.N
   ·rw [U1 q,U1];exact ⟨h1.1,h1.2,fun i hi=>(h2 i hi).1,fun h0=>⟨((h2 0 h0).2.1 rfl).1,((h2 0 h0).2.1 rfl).2,(h2 (x.Av.length-1) (by omega)).2.2.1 rfl,q⟩⟩
   ·rw [J5 q,J5];intro h
    by_cases h0:0<x.Av.length
    ·exact q (h.2.2.2 h0).2.2.2
    ·have e0:x.Av.length=0:=by omega
     rw [e0,B1z] at q;have:=h1.2.1 e0;omega
  ·obtain ⟨i,hi,hn⟩:=A0s h2;rw [H.1 ⟨i,Nat.zero_le _,hi,hn⟩,J5];intro h;apply hn;have h0:0<x.Av.length:=by omega
   have h5:=h.2.2.2 h0;refine ⟨h.2.2.1 i hi,fun e=>by subst e;exact ⟨h5.1,h5.2.1⟩,fun e=>by subst e;exact h5.2.2.1, ?_⟩
   have mono: ∀k,i+1+k<=x.Av.length->U0 x.Av (i+1)<=U0 x.Av (i+1+k):=by
    intro k
    induction k with
    |zero=>intro _;exact Int.le_refl _
    |succ k ih=>
     intro hk;have g1:=ih (by omega)
     have g2:=(h.2.2.1 (i+1+k) (by omega)).2.1
     have g3:U0 x.Av (i+1+(k+1))=_:=B1y (l:=x.Av) (i:=i+1+k) (by omega)
     omega
   have:=mono (x.Av.length-(i+1)) (by omega)
   rw [show i+1+(x.Av.length-(i+1))=x.Av.length by omega,h5.2.2.2] at this
   exact this
 ·have e:((((((A0O x.K x.Cap).2 !=0)||(decide (x.N<(0:Int))))||(decide (x.N>(1099511627776:Int))))||(decide ((x.Av.length:Int)>x.Cap)))||(!(((x.Av.length:Int)==(0:Int))==(x.N==(0:Int)))))=true:=by
   by_cases hk:(1<=x.K/\x.K<=64)/\(2<=x.Cap/\x.Cap<=65536)
   ·by_cases hb:(x.Av.length=0↔x.N=0)
    ·simp only [D12,D1T];unfold B0t at h1;omega
    ·have:(((x.Av.length:Int)==0)==(x.N==0))=false:=by
      rw [D2H];intro h;have:=congrArg (· =true) h;simp only [D2L,eq_iff_iff] at this;omega
     rw [this];simp
   ·have en:(A0O x.K x.Cap).2=1:=by
     unfold A0O;have:(((!(J3 x.K))||(decide (x.Cap<(2:Int))))||(decide (x.Cap>(65536:Int))))=true:=by
      simp only [D12,D1T,D2d];rw [D17,Ne,Q1];omega
     simp only [this,D1V]
    rw [en];rfl
  rw [e,D1V,J5 fun h=>h1 ⟨h.1,h.2.1⟩]
theorem C53 (x:B6) (hl:x.Av.length<=maxLen):A4e x x=some true:=by
 unfold A4e;simp only [D2u,Bool.or_false,D1U];unfold A8s;refine (M4 (f:=fun s:Int=>A2i x x s) x.Av.length (fun _=>False) false (some true) (fun i hi _=>⟨fun h=>h.elim,fun _=> ?_⟩) (fun _=> ?_)).2 fun _ _ h=>h
 ·unfold A2i;rw [D1W (by omega:(i:Int)<(x.Av.length:Int)),D1V,I7 hi]
  simp [S8 hi hl]
 ·unfold A2i;rw [D1Y (D2k _),D1U]
end Go.Win
namespace Go.Win
open Go.Vc Go.Dec
theorem bla (f:Nat): ∀x:Nat,x<2^f->x≠0->1<=Lib.bitLenAux f x/\2^(Lib.bitLenAux f x-1)<=x/\x<2^Lib.bitLenAux f x:=by
 induction f with
 |zero=>intro x h h0;simp at h;exact absurd h h0
 |succ f ih=>
  intro x h h0;unfold Lib.bitLenAux;rw [if_neg h0]
  by_cases h1:x/2=0
  ·have:x=1:=by omega
   subst this;have e:Lib.bitLenAux f (1/2)=0:=by cases f<;>simp [Lib.bitLenAux]
   rw [e];simp
  ·have:=ih (x/2) (by rw [Nat.pow_succ] at h;omega) h1
   obtain ⟨b1,b2,b3⟩:=this
   generalize Lib.bitLenAux f (x/2)=b at*
   refine ⟨by omega, ?_, ?_⟩
   ·obtain ⟨c,rfl⟩: ∃c,b=c+1:=⟨b-1,by omega⟩
    rw [show 1+(c+1)-1=c+1 by omega,Nat.pow_succ]
    rw [show c+1-1=c by omega] at b2
    omega
   ·rw [Nat.add_comm,Nat.pow_succ];omega
theorem C14 {x:Int} (h0:0<x) (h1:x<18446744073709551616): ∃b:Nat,U7 x=some (b:Int)/\1<=b/\b<=64/\(2:Int)^(b-1)<=x/\x<2^b:=by
 obtain ⟨n,rfl⟩:=Int.eq_ofNat_of_zero_le (by omega:0<=x)
 have hb:=bla 64 n (by have:(2:Nat)^64=18446744073709551616:=by decide
                       omega) (by omega)
 refine ⟨Lib.bitLen n, ?_,hb.1, ?_, ?_, ?_⟩
 ·unfold U7;rw [D0H (by rw [D1T];omega),D2x]
 ·have:Lib.bitLen n-1<64:=by
   refine (Nat.pow_lt_pow_iff_right (a:=2) (by decide)).1 (Nat.lt_of_le_of_lt hb.2.1 ?_)
   have:(2:Nat)^64=18446744073709551616:=by decide
   omega
  omega
 ·have:=hb.2.1
  exact_mod_cast this
 ·have:=hb.2.2
  exact_mod_cast this
theorem A69 (k:Nat):(0:Int)<2^k:=Int.pow_pos (by decide)
end Go.Win
namespace Go.Win
open Go.Vc Go.Dec
def O4 (l:List D7) (i:Nat):D7:=l.getD i default
theorem C87 {l:List D7} {i:Nat} (h:i<l.length):l[i]? =some (O4 l i):=by
 unfold O4;rw [M9 h];simp [List.getD,M9 h]
theorem A5F {l:List D7} {i:Nat} (h:i<l.length):D3 l (i:Int)=some (O4 l i):=by
 rw [A1b,C87 h]
def A5O (l:List D7) (N:Int) (i:Nat):Bool:=
 ((decide ((O4 l i).Bt<1)||decide ((O4 l i).Bt>(O4 l i).Bs))||decide ((O4 l i).Bs>N))||
 (decide (0<i)&&((decide ((O4 l (i-1)).V>(O4 l i).V)||decide ((O4 l (i-1)).Bt>=(O4 l i).Bt))||decide ((O4 l (i-1)).Bs>=(O4 l i).Bs)))
def A2Z (l:List D7) (N:Int):Bool:=decide (0<l.length)&&((O4 l 0).Bs !=1||(O4 l (l.length-1)).Bt !=N)
def A7S (r:E3):Bool:= !(((decide (r.N<0))||(decide (r.N>1099511627776)))||(!(((r.Ae.length:Int)==0)==(r.N==0))))
def okB (r:E3):Bool:=A7S r&& !((List.range r.Ae.length).any (A5O r.Ae r.N)||A2Z r.Ae r.N)
theorem B9I {i n:Nat} (h0:0<i) (h:i<=n) (hm:n<=maxLen):A2 ((i:Int)-1)=((i-1:Nat):Int):=by
 rw [M2] at hm;rw [F4]<;>omega
theorem B4D (r:E3) (hl:r.Ae.length<=1000000000):R1 r=some (cond (okB r) 0 2):=by
 have hm:r.Ae.length<=maxLen:=by rw [M2];omega
 unfold R1;cases hh:A7S r with
 |false=>
  have h1:(((decide (r.N<0))||(decide (r.N>1099511627776)))||(!(((r.Ae.length:Int)==0)==(r.N==0))))=true:=nF (by unfold A7S at hh;exact hh)
  rw [h1,D1V];unfold okB;rw [hh]
  rfl
 |true=>
  have h1:(((decide (r.N<0))||(decide (r.N>1099511627776)))||(!(((r.Ae.length:Int)==0)==(r.N==0))))=false:=Go.Dec.nT (by unfold A7S at hh;exact hh)
  rw [h1,D1U];unfold B0F;have:=A1J (f:=fun s:Int=>A1V r s) (n:=r.Ae.length) (bad:=A5O r.Ae r.N) (E:=(2:Int)) (A:=some (cond (A2Z r.Ae r.N) 2 0))
   (fun i hi=>by
    unfold A1V A5O;simp only [Int.ofNat_lt,hi,decide_true,D1V,A5F hi,D1R,A0A hi hm]
    by_cases h0:0<i
    ·rw [B9I h0 (Nat.le_of_lt hi) hm,A5F (by omega),D1W (by omega:(i:Int)>0),D1W h0]
     simp only [D1R,D1V,D2s];cases ((decide ((O4 r.Ae i).Bt<1)||decide ((O4 r.Ae i).Bt>(O4 r.Ae i).Bs))||decide ((O4 r.Ae i).Bs>r.N)) with
     |true=>rfl
     |false=>
      simp only [D1U,D2i]
    ·rw [D1Y (by omega: ¬(i:Int)>0),D1Y h0]
     simp only [D1U,D2m,Bool.or_false])
   (by
    unfold A1V A2Z;simp only [D2k,decide_false,D1U]
    by_cases h0:0<r.Ae.length
    ·rw [D1W (by omega:(r.Ae.length:Int)>0),D1W h0,B9I h0 (D2z _) hm]
     have e0:D3 r.Ae (0:Int)=some (O4 r.Ae 0):=A5F h0;rw [e0,A5F (by omega)]
     simp only [H7,D1R,D2s];cases hb:(O4 r.Ae 0).Bs !=1 with
     |true=>simp
     |false=>
      simp only [D14,H7,D1R,D2i];cases (O4 r.Ae (r.Ae.length-1)).Bt !=r.N<;>rfl
    ·rw [D1Y (by omega: ¬(r.Ae.length:Int)>0),D1Y h0]
     simp)
  rw [show ((0:Int))=((0:Nat):Int) from rfl] at this⊢;rw [this];unfold okB;rw [hh];cases (List.range r.Ae.length).any (A5O r.Ae r.N)<;>cases A2Z r.Ae r.N<;>rfl
theorem B6i (r:E3) (hl:r.Ae.length<=1000000000):A4g r=some (cond (okB r) 0 2):=by
 have hm:r.Ae.length<=maxLen:=by rw [M2];omega
 unfold A4g;cases hh:A7S r with
 |false=>
  have h1:(((decide (r.N<0))||(decide (r.N>1099511627776)))||(!(((r.Ae.length:Int)==0)==(r.N==0))))=true:=nF (by unfold A7S at hh;exact hh)
  rw [h1,D1V];unfold okB;rw [hh]
  rfl
 |true=>
  have h1:(((decide (r.N<0))||(decide (r.N>1099511627776)))||(!(((r.Ae.length:Int)==0)==(r.N==0))))=false:=Go.Dec.nT (by unfold A7S at hh;exact hh)
  rw [h1,D1U];unfold A84;have:=A1J (f:=fun s:Int=>A1D r s) (n:=r.Ae.length)
   (bad:=fun i=>A5O r.Ae r.N i||((decide (i=0)&&(O4 r.Ae i).Bs !=1)||(decide (i=r.Ae.length-1)&&(O4 r.Ae i).Bt !=r.N))) (E:=(2:Int)) (A:=some 0)
   (fun i hi=>by
    unfold A1D A5O;have hlast:A2 ((r.Ae.length:Int)-1)=((r.Ae.length-1:Nat):Int):=B9I (by omega) (D2z _) hm
    have e1:((i:Int)==0)=decide (i=0):=by rw [D2c,D2L,D1T];omega
    have e2:((i:Int)==((r.Ae.length-1:Nat):Int))=decide (i=r.Ae.length-1):=by rw [D2c,D2L,D1T];omega
    simp only [Int.ofNat_lt,hi,decide_true,D1V,A5F hi,D1R,A0A hi hm,hlast,e1,e2]
    by_cases h0:0<i
    ·rw [B9I h0 (Nat.le_of_lt hi) hm,A5F (by omega),D1W (by omega:(i:Int)>0),D1W h0]
     simp only [D1R,D1V,D2s];cases ((decide ((O4 r.Ae i).Bt<1)||decide ((O4 r.Ae i).Bt>(O4 r.Ae i).Bs))||decide ((O4 r.Ae i).Bs>r.N))<;>
      cases (decide (i=0)&&(O4 r.Ae i).Bs !=1)<;>cases (decide (i=r.Ae.length-1)&&(O4 r.Ae i).Bt !=r.N)<;>
      cases ((decide ((O4 r.Ae (i-1)).V>(O4 r.Ae i).V)||decide ((O4 r.Ae (i-1)).Bt>=(O4 r.Ae i).Bt))||decide ((O4 r.Ae (i-1)).Bs>=(O4 r.Ae i).Bs))<;>rfl
    ·rw [D1Y (by omega: ¬(i:Int)>0),D1Y h0]
     simp only [D1U,D2m,Bool.or_false];cases ((decide ((O4 r.Ae i).Bt<1)||decide ((O4 r.Ae i).Bt>(O4 r.Ae i).Bs))||decide ((O4 r.Ae i).Bs>r.N))<;>
      cases (decide (i=0)&&(O4 r.Ae i).Bs !=1)<;>cases (decide (i=r.Ae.length-1)&&(O4 r.Ae i).Bt !=r.N)<;>rfl)
   (by
    unfold A1D;simp only [D2k,decide_false,D1U])
  rw [show ((0:Int))=((0:Nat):Int) from rfl] at this⊢;rw [this];have hany:(List.range r.Ae.length).any (fun i=>A5O r.Ae r.N i||((decide (i=0)&&(O4 r.Ae i).Bs !=1)||(decide (i=r.Ae.length-1)&&(O4 r.Ae i).Bt !=r.N)))=
    ((List.range r.Ae.length).any (A5O r.Ae r.N)||A2Z r.Ae r.N):=by
   rw [D2c,D12,A6X,A6X];constructor
   ·rintro ⟨i,hi,h⟩;simp only [D12,D1Z,D1T] at h;rcases h with h|⟨rfl,h⟩|⟨rfl,h⟩
    ·exact .inl ⟨i,hi,h⟩
    ·right;unfold A2Z;simp only [D1Z,D1T,D12];exact ⟨hi, .inl h⟩
    ·right;unfold A2Z;simp only [D1Z,D1T,D12];exact ⟨by omega, .inr h⟩
   ·rintro (⟨i,hi,h⟩|h)
    ·exact ⟨i,hi,by rw [h];rfl⟩
    ·unfold A2Z at h;simp only [D1Z,D1T,D12] at h;rcases h with ⟨h0,h|h⟩
     ·exact ⟨0,h0,by rw [h];simp⟩
     ·exact ⟨r.Ae.length-1,by omega,by rw [h];simp⟩
  rw [hany];unfold okB;rw [hh];cases ((List.range r.Ae.length).any (A5O r.Ae r.N)||A2Z r.Ae r.N)<;>rfl
structure OkR (l:List D7) (N:Int):Prop where
 n0:0<=N
 n1:N<=1099511627776
 nil:l.length=0↔N=0
 rng: ∀i,i<l.length->1<=(O4 l i).Bt/\(O4 l i).Bt<=(O4 l i).Bs/\(O4 l i).Bs<=N
 up: ∀i,i+1<l.length->(O4 l i).V<=(O4 l (i+1)).V/\(O4 l i).Bt<(O4 l (i+1)).Bt/\(O4 l i).Bs<(O4 l (i+1)).Bs
 first:0<l.length->(O4 l 0).Bs=1
 last:0<l.length->(O4 l (l.length-1)).Bt=N
theorem C0N (r:E3):okB r=true↔OkR r.Ae r.N:=by
 unfold okB A7S A2Z;have hany:(List.range r.Ae.length).any (A5O r.Ae r.N)=false↔ ∀i,i<r.Ae.length->A5O r.Ae r.N i=false:=by
  rw [List.any_eq_false];constructor
  ·intro h i hi;have:=h i (List.mem_range.2 hi);simpa using this
  ·intro h i hi;have:=h i (List.mem_range.1 hi);simpa using this
 simp only [D1Z,D2d,D2r,D18,Bool.not_eq_false',D2L,hany,D2I,bne_eq_false_iff_eq,gt_iff_lt];constructor
 ·rintro ⟨⟨⟨h1,h2⟩,h3⟩,h4,h5⟩;have h3' :r.Ae.length=0↔r.N=0:=by
   have:=congrArg (· =true) h3;simp only [D2L,eq_iff_iff] at this;omega
  refine ⟨by omega,by omega,h3',fun i hi=> ?_,fun i hi=> ?_,fun h0=> ?_,fun h0=> ?_⟩
  ·have:=h4 i hi;unfold A5O at this;simp only [D2r,D18] at this;omega
  ·have:=h4 (i+1) hi;unfold A5O at this;simp only [D2r,D18,D2I,D2y] at this;omega
  ·rcases h5 with h5|h5
   ·omega
   ·exact h5.1
  ·rcases h5 with h5|h5
   ·omega
   ·exact h5.2
 ·intro h;refine ⟨⟨⟨by have:=h.n0;omega,by have:=h.n1;omega⟩, ?_⟩,fun i hi=> ?_, ?_⟩
  ·have:=h.nil;rw [D2c,D2L,D2L];omega
  ·unfold A5O;have h1:=h.rng i hi;simp only [D2r,D18,D2I];refine ⟨by omega, ?_⟩
   by_cases h0:0<i
   ·right;have:=h.up (i-1) (by omega)
    rw [show i-1+1=i by omega] at this
    omega
   ·exact .inl h0
  ·by_cases h0:0<r.Ae.length
   ·exact .inr ⟨h.first h0,h.last h0⟩
   ·exact .inl h0
def B1f (l:List D7):Nat->Int
 |0=>1
 |i+1=>if i=0 then 1 else if (O4 l i).Bs-(O4 l (i-1)).Bt>B1f l i then (O4 l i).Bs-(O4 l (i-1)).Bt else B1f l i
theorem C3Y (r:E3) (h:OkR r.Ae r.N) (hl:r.Ae.length<=1000000000) (h0:0<r.Ae.length):A7H r 1 1=some (B1f r.Ae r.Ae.length):=by
 have hm:r.Ae.length<=maxLen:=by rw [M2];omega
 unfold A7H;obtain ⟨v,hv,hQ⟩:=B3T (f:=fun s:Int×Int=>B0D r s.1 s.2)
  (fun s=> ∃i:Nat,1<=i/\i<=r.Ae.length/\s=(B1f r.Ae i,(i:Int)))
  (fun s=>r.Ae.length-s.2.toNat) (fun v=>v=B1f r.Ae r.Ae.length) (1,1) ⟨1,D2z _,h0,rfl⟩ (by
   rintro _ ⟨i,h1,hi,rfl⟩;simp only;unfold B0D
   by_cases hlt:i<r.Ae.length
   ·left;have r1:=h.rng i hlt;have r2:=h.rng (i-1) (by omega)
    have n1:=h.n1;simp only [Int.ofNat_lt,hlt,decide_true,D1V,A5F hlt,D1R,A0A hlt hm,B9I h1 hi hm,A5F (show i-1<r.Ae.length by omega)]
    refine ⟨_,rfl,⟨i+1,by omega,hlt, ?_⟩,by show r.Ae.length-((i:Int)+1).toNat<r.Ae.length-(i:Int).toNat;omega⟩
    rw [F4 (by omega) (by omega)]
    have:B1f r.Ae (i+1)=A0U (B1f r.Ae i) ((O4 r.Ae i).Bs-(O4 r.Ae (i-1)).Bt):=by
     show (if i=0 then (1:Int) else _)=_
     rw [if_neg (by omega)]
    rw [this]
    rfl
   ·right;have hn: ¬((i:Int)<(r.Ae.length:Int)):=by omega
    have hi2:i=r.Ae.length:=by omega
    subst hi2;simp only [hn,decide_false,D1U];exact ⟨_,rfl,rfl⟩)
 rw [hv,hQ]
def C3X (l:List D7):Int:=if l.length=0 then 0 else B1f l l.length
theorem C9y (r:E3) (hl:r.Ae.length<=1000000000):B31 r=some (cond (okB r) (C3X r.Ae) 0):=by
 unfold B31;rw [B4D r hl];simp only [D1R];cases hb:okB r with
 |false=>rfl
 |true=>
  have h:=(C0N r).1 hb;simp only [D1V,D2u,D2i];unfold C3X
  by_cases h0:r.Ae.length=0
  ·rw [if_pos h0,h0];rfl
  ·have c:((r.Ae.length:Int)==0)=false:=by rw [D2H];omega
   rw [c,D1U,if_neg h0,C3Y r h hl (by omega)]
theorem C8J: @B6f= @A7H:=rfl
theorem D0p (r:E3) (hl:r.Ae.length<=1000000000):B6e r=some (cond (okB r) (C3X r.Ae) 0):=by
 unfold B6e;rw [B6i r hl];simp only [D1R];cases hb:okB r with
 |false=>rfl
 |true=>
  have h:=(C0N r).1 hb;simp only [D1V,D2u,D2i];unfold C3X
  by_cases h0:r.Ae.length=0
  ·rw [if_pos h0,h.nil.1 h0];rfl
  ·have c:(r.N==0)=false:=by rw [D2H];intro hc;exact h0 (h.nil.2 hc)
   rw [c,D1U,if_neg h0,C8J,C3Y r h hl (by omega)]
end Go.Win
namespace Go.Win
open Go.Vc Go.Dec
def inB (x:Int) (b:Nat):Prop:=(b=0/\x=0)\/(1<=b/\(2:Int)^(b-1)<=x/\x<2^b)
theorem C7Z: ∀(b:Nat) (x c:Int),inB x b->x<=9223372036854775807->0<=c->c+b<=1000->A5g x c=some (c+b):=by
 intro b
 induction b with
 |zero=>
  intro x c h hx hc hb;have hx0:x=0:=by
   rcases h with h|h
   ·exact h.2
   ·omega
  unfold A5g;rw [O8 (r:=c)]
  ·congr 1;omega
  ·unfold A3Z;rw [hx0];rfl
 |succ b ih=>
  intro x c h hx hc hb;have h' :(2:Int)^b<=x/\x<2^(b+1):=by
   rcases h with h|h
   ·omega
   ·exact ⟨by simpa using h.2.1,h.2.2⟩
  have hp:=A69 b;have hin:inB (x/2) b:=by
   by_cases h0:b=0
   ·subst h0;left;have e1:(2:Int)^0=1:=rfl;have e2:(2:Int)^(0+1)=2:=rfl;omega
   ·right;have e1:(2:Int)^b=2^(b-1)*2:=by rw [<-Int.pow_succ];congr 1;omega
    have e2:(2:Int)^(b+1)=2^b*2:=Int.pow_succ 2 b;omega
  have hst:A3Z x c=some (.inl (x/2,c+1)):=by
   unfold A3Z;rw [D1W (by omega),D1V,Int.tdiv_eq_ediv_of_nonneg (by omega),F4 (by omega) (by omega),F4 (by omega) (by omega)]
  have:=ih (x/2) (c+1) hin (by omega) (by omega) (by omega)
  unfold A5g at this⊢;rw [A66 hst,this]
  congr 1
  omega
theorem C99 {x:Int} (h0:0<x) (h1:x<=9223372036854775807): ∃b:Nat,B3V x=some (b:Int)/\B34 x=some (b:Int)/\1<=b/\b<=64/\(2:Int)^(b-1)<=x/\x<2^b:=by
 obtain ⟨b,g1,g2,g3,g4,g5⟩:=C14 h0 (by omega)
 refine ⟨b, ?_, ?_,g2,g3,g4,g5⟩
 ·unfold B3V;rw [D1Y (by omega),D1U,A10 (by omega) (by omega),g1];rfl
 ·unfold B34;rw [C7Z b x 0 (.inr ⟨g2,g4,g5⟩) h1 (by omega) (by omega)]
  congr 1;omega
theorem C03 {k c:Int} (hk:1<=k/\k<=64) (hc:1<=c/\c<=65536): ∃b,A2U k c=some b/\A6c k c=some b/\1<=b/\b<=65536:=by
 obtain ⟨b,g1,g2,g3,g4,g5,g6⟩:=C99 (x:=c) (by omega) (by omega)
 have hm:=A1c (a:=2*k) (A:=128) (b:=(b:Int)+2) (B:=66) (by omega) (by omega)
 have hm2:1*1<=2*k*((b:Int)+2):=Int.mul_le_mul (by omega) (by omega) (by decide) (by omega)
 refine ⟨2*k*(b+2), ?_, ?_,by omega,by omega⟩
 ·unfold A2U;have e:Y4 1 k c 0=true:=by unfold Y4;simp;omega
  simp only [e,D13,D1U,g1,D1R];rw [F4 (n:=2*k) (by omega) (by omega),F4 (n:=(b:Int)+2) (by omega) (by omega),F4 (by omega) (by omega)]
 ·unfold A6c;have e:(((!(J3 k))||(decide (c<(1:Int))))||(decide (c>(65536:Int))))=false:=by
   rw [(Q1 k).2 hk];simp;omega
  simp only [e,D1U,g2,D1R];rw [F4 (n:=2*k) (by omega) (by omega),F4 (n:=(b:Int)+2) (by omega) (by omega),F4 (by omega) (by omega)]
def plainB (l:List C4):List A7:=l.map fun x=>⟨x.T,x.Bc⟩
theorem A3W (l:List C4):(plainB l).length=l.length:=by simp [plainB]
theorem C8G {l:List C4} {i:Nat} (h:i<l.length):el (plainB l) i=⟨(el l i).T,(el l i).Bc⟩:=by
 rw [B9d (by rw [A3W];exact h),B9d h]
 simp [plainB]
theorem A9A (l:List C4) (hl:l.length<=1048576):A14 l=some (plainB l):=by
 unfold A14 B03;have H:=A2d (f:=fun s:List A7×Int=>A0S l s.1 s.2) (fun i=>(plainB (l.take i),(i:Int))) 0 l.length (Nat.zero_le _) (fun _=>False) [] (some (plainB l))
  (fun i _ hi _=>by
   refine ⟨fun h=>h.elim,fun _=> ?_⟩;simp only [];unfold A0S;have hm:l.length<=maxLen:=by rw [M2];omega
   rw [D1W (by omega:(i:Int)<(l.length:Int)),D1V,I7 hi,D1R,S8 hi hm]
   have e1:plainB (l.take (i+1))=plainB (l.take i)++ [⟨(el l i).T,(el l i).Bc⟩]:=by
    rw [List.take_add_one,A9V hi];simp [plainB]
   have e2:(plainB (l.take i)).length=i:=by rw [A3W,D2j];omega
   rw [e1,e2,D1W (by simp only [D2a,D2n];omega),Z3])
  (fun _=>by
   simp only [];unfold A0S;rw [D1Y (D2k _),D1U,List.take_length])
 exact H.2 (fun _ _ _ h=>h)
theorem C4r:B1X=A14:=rfl
def alS (b:Int):Nat->Int
 |0=>0
 |i+1=>if (2:Int)^i>b+1 then 2*alS b i+((2:Int)^i-1+b-1)/b else alS b i
theorem C97 {b:Int} (hb:1<=b): ∀i:Nat,0<=alS b i/\alS b i<=i*2^i:=by
 intro i
 induction i with
 |zero=>exact ⟨Int.le_refl _,Int.le_refl _⟩
 |succ i ih=>
  have hp:=A69 i;have e2:(2:Int)^(i+1)=2^i*2:=Int.pow_succ 2 i;have e3:((i+1:Nat):Int)*2^(i+1)=(i:Int)*2^i*2+2^i*2:=by
   rw [e2,Int.natCast_add,Int.add_mul,Int.mul_assoc];simp
  rw [e3];unfold alS;split
  ·have h1:((2:Int)^i-1+b-1)/b<=2^i:=by
    have:((2:Int)^i-1+b-1)/b<2^i+1:=by
     rw [Int.ediv_lt_iff_lt_mul (by omega),Int.add_mul,Int.one_mul]
     have:=Int.mul_le_mul_of_nonneg_left hb (show (0:Int)<=2^i by omega)
     omega
    omega
   have h2:0<=((2:Int)^i-1+b-1)/b:=Int.ediv_nonneg (by omega) (by omega)
   omega
  ·omega
theorem D0o: ∀n:Fin 31,(2:Int)^n.1<=1073741824:=by decide
theorem C7t {i:Nat} (h:i<=30):(2:Int)^i<=1073741824:=D0o ⟨i,by omega⟩
theorem C7U {b:Int} (hb:1<=b) {i:Nat} (hi:i<=30):0<=alS b i/\alS b i<=32212254720:=by
 obtain ⟨h1,h2⟩:=C97 hb i;have hp:=C7t hi;have:=A1c (a:=(i:Int)) (A:=30) (b:=2^i) (B:=1073741824) (by omega) ⟨Int.le_of_lt (A69 i),hp⟩
 omega
theorem D0b {a b:Int} (ha:0<=a/\a<=4611686018427387904) (hb:1<=b/\b<=4611686018427387904):A7D a b=some ((a+b-1)/b,true):=by
 unfold A7D;have e1:((b==0)||((a== -9223372036854775808)&&(b== -1)))=false:=by
  rw [D17];simp only [D12,D1Z,D2L,Ne];omega
 rw [e1,D1U,D1W (by omega:b≠0),Z3,Z3,Int.tdiv_eq_ediv_of_nonneg ha.1,Int.tmod_eq_emod_of_nonneg ha.1]
 have hq:0<=a/b:=Int.ediv_nonneg ha.1 (by omega)
 have hq2:a/b<=a:=Int.ediv_le_self b ha.1;have hr:=Int.emod_nonneg a (show b≠0 by omega)
 have hr2:=Int.emod_lt_of_pos a (show 0<b by omega)
 have hd:=Int.mul_ediv_add_emod a b;rw [D1Y (by omega: ¬a<0),D1Y (by omega: ¬b<0)]
 by_cases h0:a%b=0
 ·have e2:(a%b !=0&&(false==false))=false:=by rw [h0];rfl
  rw [e2,D1U,F4 (by omega) (by omega)]
  have:(a+b-1)/b=a/b:=by
   have e3:a+b-1=(b-1)+b*(a/b):=by omega
   rw [e3,Int.add_mul_ediv_left _ _ (by omega),Int.ediv_eq_zero_of_lt (by omega) (by omega)];omega
  rw [this]
 ·have e2:(a%b !=0&&(false==false))=true:=by rw [D1Z];exact ⟨bne_iff_ne.2 h0,rfl⟩
  rw [e2,D1V,F4 (n:=a/b) (by omega) (by omega),F4 (by omega) (by omega)]
  have:(a+b-1)/b=a/b+1:=by
   have e3:a+b-1=(a%b-1)+b*(a/b+1):=by rw [Int.mul_add];omega
   rw [e3,Int.add_mul_ediv_left _ _ (by omega),Int.ediv_eq_zero_of_lt (by omega) (by omega)];omega
  rw [this]
theorem B8Q {L b:Int} (hL:0<=L/\L<=30) (hb:1<=b/\b<=65536):A3L L b=some (alS b (L.toNat+1))/\A8t L b=some (alS b (L.toNat+1)):=by
 have e:((((decide (L<(0:Int)))||(decide (L>(30:Int))))||(decide (b<(1:Int))))||(decide (b>(65536:Int))))=false:=by
  rw [D17];simp only [D12,D1T,Ne];omega
 constructor
 ·unfold A3L;rw [e,D1U];unfold A8K;have H:=A2d (f:=fun s:Int×Int=>A1i L b s.1 s.2) (fun i=>(alS b i,(i:Int))) 0 (L.toNat+1) (Nat.zero_le _) (fun _=>False) 0 (some (alS b (L.toNat+1)))
   (fun i _ hi _=>by
    refine ⟨fun h=>h.elim,fun _=> ?_⟩;simp only [];unfold A1i;have hp:=C7t (show i<=30 by omega)
    have hp0:=A69 i;have ha:=C7U hb.1 (show i<=30 by omega)
    have es:A2 ((i:Int)+1)=((i+1:Nat):Int):=by rw [F4]<;>omega
    have ew:decide (0<=A8 (i:Int))=true:=D1W (by rw [A10]<;>omega)
    rw [D1W (by omega:(i:Int)<=L),D1V,ew,Z3,B9u (by omega) (by omega),D2x,es,F4 (n:=b+1) (by omega) (by omega)]
    by_cases h:(2:Int)^i>b+1
    ·rw [D1W h,D1V,F4 (n:=(2:Int)^i-1) (by omega) (by omega),D0b (by omega) (by omega),D1R,F4 (n:=2*alS b i) (by omega) (by omega)]
     have h1:0<=((2:Int)^i-1+b-1)/b:=Int.ediv_nonneg (by omega) (by omega)
     have h2:((2:Int)^i-1+b-1)/b<=(2:Int)^i-1+b-1:=Int.ediv_le_self b (by omega)
     simp only [];rw [F4 (by omega) (by omega)]
     have ea:alS b (i+1)=2*alS b i+((2:Int)^i-1+b-1)/b:=by rw [alS,if_pos h]
     rw [ea]
    ·rw [D1Y h,D1U];have ea:alS b (i+1)=alS b i:=by rw [alS,if_neg h]
     rw [ea])
   (fun _=>by
    simp only [];unfold A1i;rw [D1Y (by omega),D1U])
  exact H.2 (fun _ _ _ h=>h)
 ·unfold A8t;rw [e,D1U];unfold B0K;have H:=A2d (f:=fun s:Int×Int=>A1X L b s.1 s.2) (fun i=>(alS b i,(i:Int))) 0 (L.toNat+1) (Nat.zero_le _) (fun _=>False) 0 (some (alS b (L.toNat+1)))
   (fun i _ hi _=>by
    refine ⟨fun h=>h.elim,fun _=> ?_⟩;simp only [];unfold A1X;have hp:=C7t (show i<=30 by omega)
    have hp0:=A69 i;have ha:=C7U hb.1 (show i<=30 by omega)
    have es:A2 ((i:Int)+1)=((i+1:Nat):Int):=by rw [F4]<;>omega
    have ew:decide (0<=A8 (i:Int))=true:=D1W (by rw [A10]<;>omega)
    rw [D1W (by omega:(i:Int)<=L),D1V,ew,Z3,B9u (by omega) (by omega),D2x,es,F4 (n:=b+1) (by omega) (by omega)]
    by_cases h:(2:Int)^i>b+1
    ·have h1:0<=((2:Int)^i-1+b-1)/b:=Int.ediv_nonneg (by omega) (by omega)
     have h2:((2:Int)^i-1+b-1)/b<=(2:Int)^i-1+b-1:=Int.ediv_le_self b (by omega)
     rw [D1W h,D1V,D1W (by omega:b≠0),Z3,F4 (n:=(2:Int)^i-1) (by omega) (by omega),F4 (n:=(2:Int)^i-1+b) (by omega) (by omega),F4 (n:=(2:Int)^i-1+b-1) (by omega) (by omega),
      Int.tdiv_eq_ediv_of_nonneg (by omega),F4 (n:=((2:Int)^i-1+b-1)/b) (by omega) (by omega),F4 (n:=2*alS b i) (by omega) (by omega),F4 (by omega) (by omega)]
     have ea:alS b (i+1)=2*alS b i+((2:Int)^i-1+b-1)/b:=by rw [alS,if_pos h]
     rw [ea]
    ·rw [D1Y h,D1U];have ea:alS b (i+1)=alS b i:=by rw [alS,if_neg h]
     rw [ea])
   (fun _=>by
    simp only [];unfold A1X;rw [D1Y (by omega),D1U])
  exact H.2 (fun _ _ _ h=>h)
def A9y (b:Int) (x:C4):Prop:=okB x.Bh=true/\x.Bh.N=2^x.Bc.toNat/\(x.Bh.Ae.length:Int)<=b+1/\A2 (C3X x.Bh.Ae-1)<=alS b (x.Bc.toNat+1)/\
 -4096<=(el x.Bh.Ae 0).V/\(el x.Bh.Ae (x.Bh.Ae.length-1)).V<=4096/\(el x.Bh.Ae 0).V<=x.Bk/\x.Bk<=(el x.Bh.Ae (x.Bh.Ae.length-1)).V
def B5Y (l:List C4) (k b:Int):Prop:=(1<=b/\b<=65536)/\A67 (plainB l) k/\ ∀i,i<l.length->A9y b (el l i)
def A7p (l:List C4):Prop:=l.length<=1048576/\ ∀x∈l,x.Bh.Ae.length<=1000000000
theorem B9B {l:List C4} {k:Int} (h:A67 (plainB l) k) {i:Nat} (hi:i<l.length):0<=(el l i).Bc/\(el l i).Bc<=30:=by
 have:=h.2.1 i (by rw [A3W];exact hi)
 unfold A12 at this;rw [C8G hi] at this;simp only [] at this;omega
theorem C1U {r:E3} (h:okB r=true) {n:Nat} (hn:r.N=2^n):0<r.Ae.length:=by
 have h1:=(C0N r).1 h;have:=A69 n;have h2:=h1.nil;omega
theorem C3c (l:List C4) (k b:Int) (hs:A7p l):A3p l k b=some (Q7 (B5Y l k b)):=by
 have hm:l.length<=maxLen:=by rw [M2];have:=hs.1;omega
 unfold A3p
 by_cases hb:1<=b/\b<=65536
 ·have e:(decide (b<1)||decide (b>65536))=false:=by simp;omega
  rw [e,A9A l hs.1];simp only [D14,H7,D1R,D2i];rw [A8e _ _ (by rw [A3W];exact hm),D1R]
  by_cases h2:A67 (plainB l) k
  ·rw [O6 h2,D13,D1U];unfold B02;have H:=M4 (f:=fun s:Int=>A2A l b s) l.length (fun i=> ¬A9y b (el l i)) false (some true)
    (fun i hi _=>by
     unfold A2A;have hv:=B9B h2 hi;have hr:=hs.2 _ (B0j hi);rw [D1W (by omega:(i:Int)<(l.length:Int)),D1V,I7 hi,D1R,S8 hi hm]
     generalize el l i=x at hv hr⊢
     have ew:decide (0<=A8 x.Bc)=true:=D1W (by rw [A10]<;>omega)
     simp only [B4D x.Bh (by omega),D1R,ew,Bool.or_true,Z3,B9u hv.1 hv.2]
     have eb1:A2 (b+1)=b+1:=by rw [F4]<;>omega
     rw [eb1];cases hB:okB x.Bh with
     |false=>
      simp only [D1U,show ((2:Int) !=0)=true from rfl,D2B,D13,H5,D1R,D1V];exact ⟨fun _=>trivial,fun h=>absurd (fun h2:A9y b x=>by have:=h2.1;rw [hB] at this;cases this) h⟩
     |true=>
      simp only [D1V,show ((0:Int) !=0)=false from rfl,D2i]
      by_cases g1:x.Bh.N=2^x.Bc.toNat/\(x.Bh.Ae.length:Int)<=b+1
      ·have e1:((x.Bh.N !=2^x.Bc.toNat)||decide ((x.Bh.Ae.length:Int)>b+1))=false:=by
        rw [g1.1,D2u,D2i];exact D1Y (by omega)
       rw [e1];have h0:=C1U hB g1.1;have hm2:x.Bh.Ae.length<=maxLen:=by rw [M2];omega
       simp only [D14,H7,C9y x.Bh (by omega),D1R,hB,D1V,(B8Q hv hb).1,D2i,A63 h0,A1v h0 (D2z _) hm2,I7 (show x.Bh.Ae.length-1<x.Bh.Ae.length by omega)]
       rw [A1q];refine L3 ?_;unfold A9y;simp only [hB,g1,true_and,D12,D1T];omega
      ·have e1:((x.Bh.N !=2^x.Bc.toNat)||decide ((x.Bh.Ae.length:Int)>b+1))=true:=by
        rw [D12,bne_iff_ne,D1T]
        by_cases q:x.Bh.N=2^x.Bc.toNat
        ·right;have: ¬(x.Bh.Ae.length:Int)<=b+1:=fun h=>g1 ⟨q,h⟩;omega
        ·exact .inl q
       rw [e1];simp only [D13,H5,D1R,D2B,D1V];exact ⟨fun _=>trivial,fun h=>absurd (fun h2=>g1 ⟨h2.2.1,h2.2.2.1⟩) h⟩)
    (fun _=>by
     unfold A2A;rw [D1Y (D2k _),D1U])
   by_cases h3: ∀i,i<l.length->A9y b (el l i)
   ·rw [H.2 fun i hi hn=>hn (h3 i hi),O6];exact ⟨hb,h2,h3⟩
   ·rw [H.1 (A0s h3),L1];exact fun h=>h3 h.2.2
  ·rw [L1 h2,L1 fun h=>h2 h.2.1];rfl
 ·have e:(decide (b<1)||decide (b>65536))=true:=by
   rw [D2c];simp;omega
  rw [e,L1 fun h=>hb h.1];rfl
theorem C5Q (l:List C4) (k b:Int) (hs:A7p l):B1Z l k b=some (Q7 (B5Y l k b)):=by
 have hm:l.length<=maxLen:=by rw [M2];have:=hs.1;omega
 unfold B1Z
 by_cases hb:1<=b/\b<=65536
 ·have e:(decide (b<1)||decide (b>65536))=false:=by simp;omega
  rw [e,C4r,A9A l hs.1];simp only [D14,H7,D1R,D2i];rw [B7P _ _ (by rw [A3W];exact hm),D1R]
  by_cases h2:A67 (plainB l) k
  ·rw [O6 h2,D13,D1U];unfold B28;have H:=M4 (f:=fun s:Int=>A3l l b s) l.length (fun i=> ¬A9y b (el l i)) false (some true)
    (fun i hi _=>by
     unfold A3l;have hv:=B9B h2 hi;have hr:=hs.2 _ (B0j hi);rw [D1W (by omega:(i:Int)<(l.length:Int)),D1V,I7 hi,D1R,S8 hi hm]
     generalize el l i=x at hv hr⊢
     have ew:decide (0<=A8 x.Bc)=true:=D1W (by rw [A10]<;>omega)
     simp only [B6i x.Bh (by omega),D1R,ew,Bool.or_true,Z3,B9u hv.1 hv.2]
     have eb1:A2 (b+1)=b+1:=by rw [F4]<;>omega
     rw [eb1];cases hB:okB x.Bh with
     |false=>
      simp only [D1U,show ((2:Int) !=0)=true from rfl,D2B,D13,H5,D1R,D1V];exact ⟨fun _=>trivial,fun h=>absurd (fun h2:A9y b x=>by have:=h2.1;rw [hB] at this;cases this) h⟩
     |true=>
      simp only [D1V,show ((0:Int) !=0)=false from rfl,D2i]
      by_cases g1:x.Bh.N=2^x.Bc.toNat/\(x.Bh.Ae.length:Int)<=b+1
      ·have e1:((x.Bh.N !=2^x.Bc.toNat)||decide ((x.Bh.Ae.length:Int)>b+1))=false:=by
        rw [g1.1,D2u,D2i];exact D1Y (by omega)
       rw [e1];have h0:=C1U hB g1.1;have hm2:x.Bh.Ae.length<=maxLen:=by rw [M2];omega
       simp only [D14,H7,D0p x.Bh (by omega),D1R,hB,D1V,(B8Q hv hb).2,D2i,A63 h0,A1v h0 (D2z _) hm2,I7 (show x.Bh.Ae.length-1<x.Bh.Ae.length by omega)]
       by_cases g2:(-4096<=(el x.Bh.Ae 0).V/\(el x.Bh.Ae 0).V<=4096)/\(-4096<=(el x.Bh.Ae (x.Bh.Ae.length-1)).V/\(el x.Bh.Ae (x.Bh.Ae.length-1)).V<=4096)/\(el x.Bh.Ae 0).V<=x.Bk/\x.Bk<=(el x.Bh.Ae (x.Bh.Ae.length-1)).V
       ·have e2:((((!(J9 (el x.Bh.Ae 0).V))||(!(J9 (el x.Bh.Ae (x.Bh.Ae.length-1)).V)))||(decide (x.Bk<(el x.Bh.Ae 0).V)))||(decide (x.Bk>(el x.Bh.Ae (x.Bh.Ae.length-1)).V)))=false:=by
         rw [(A1H _).2 g2.1,(A1H _).2 g2.2.1,D17];simp only [D12,D1T,Ne,D13,Bool.false_eq_true,or_false,false_or];omega
        rw [e2,D1U];simp only [D14,H7,D1R,D2i];refine L3 ?_;unfold A9y;simp only [hB,g1,true_and,D1T];omega
       ·have e2:((((!(J9 (el x.Bh.Ae 0).V))||(!(J9 (el x.Bh.Ae (x.Bh.Ae.length-1)).V)))||(decide (x.Bk<(el x.Bh.Ae 0).V)))||(decide (x.Bk>(el x.Bh.Ae (x.Bh.Ae.length-1)).V)))=true:=by
         simp only [D12,D1T,D2d];rw [D17,D17,Ne,Ne,A1H,A1H];omega
        rw [e2,D1U];simp only [D13,H5,D1R,D2B,D1V];refine ⟨fun _=>trivial,fun h=>absurd (fun h2=>g2 ?_) h⟩;have:=h2.2.2.2;omega
      ·have e1:((x.Bh.N !=2^x.Bc.toNat)||decide ((x.Bh.Ae.length:Int)>b+1))=true:=by
        rw [D12,bne_iff_ne,D1T]
        by_cases q:x.Bh.N=2^x.Bc.toNat
        ·right;have: ¬(x.Bh.Ae.length:Int)<=b+1:=fun h=>g1 ⟨q,h⟩;omega
        ·exact .inl q
       rw [e1,D1V];exact ⟨fun _=>rfl,fun h=>absurd (fun h2=>g1 ⟨h2.2.1,h2.2.2.1⟩) h⟩)
    (fun _=>by
     unfold A3l;rw [D1Y (D2k _),D1U])
   by_cases h3: ∀i,i<l.length->A9y b (el l i)
   ·rw [H.2 fun i hi hn=>hn (h3 i hi),O6];exact ⟨hb,h2,h3⟩
   ·rw [H.1 (A0s h3),L1];exact fun h=>h3 h.2.2
  ·rw [L1 h2,L1 fun h=>h2 h.2.1];rfl
 ·have e:(decide (b<1)||decide (b>65536))=true:=by
   rw [D2c];simp;omega
  rw [e,L1 fun h=>hb h.1];rfl
theorem B5f (l:List C4) (hs:A7p l):A13 l=some (A2 (A0K (plainB l)))/\B1Y l=some (A2 (A0K (plainB l))):=by
 have hm:(plainB l).length<=maxLen:=by rw [M2,A3W];have:=hs.1;omega
 refine ⟨?_, ?_⟩
 ·unfold A13;rw [A9A l hs.1,D1R,B39,A4Z _ hm];rfl
 ·unfold B1Y;rw [C4r,A9A l hs.1,D1R,A4Z _ hm];rfl
def C9o (x:B7):Prop:=A2H x.W x.K x.Cap x.Now/\(∀b,A6c x.K x.Cap=some b->B5Y x.Ak (2*x.K) b)/\A2 (A0K (plainB x.Ak))<=x.Cap/\ ∀i,i<x.Ak.length->H6 x.Now x.W (el x.Ak i).T=true
theorem A4H (w k c n:Int):Y4 w k c n=true↔A2H w k c n:=by
 unfold Y4 A2H;simp;omega
theorem B7i (x:B7) (hs:A7p x.Ak):S0 x=some (vOf (C9o x)):=by
 have hm:x.Ak.length<=maxLen:=by rw [M2];have:=hs.1;omega
 unfold S0;simp only []
 by_cases h1:A2H x.W x.K x.Cap x.Now
 ·obtain ⟨b,b1,b2,b3⟩:=C03 (k:=x.K) (c:=x.Cap) h1.2.2.2 h1.2.1;have hk:=h1.2.2.2;rw [(A4H _ _ _ _).2 h1,b1,F4 (n:=2*x.K) (by omega) (by omega)]
  simp only [D13,D14,H7,D1R,D2i,C3c _ _ _ hs,(B5f _ hs).1]
  by_cases h2:B5Y x.Ak (2*x.K) b
  ·rw [O6 h2];simp only [D13,D14,H7,D1R,D2i]
   by_cases h3:A2 (A0K (plainB x.Ak))<=x.Cap
   ·rw [D1Y (by omega),D1U]
    unfold A56;have H:=M4 (f:=fun s:Int=>A0t x s) x.Ak.length (fun i=> ¬H6 x.Now x.W (el x.Ak i).T=true) 2 (some 0)
     (fun i hi _=>by
      unfold A0t;rw [D1W (by omega:(i:Int)<(x.Ak.length:Int)),D1V,I7 hi,D1R,S8 hi hm]
      refine L3 ?_;simp [A9X])
     (fun _=>by
      unfold A0t;rw [D1Y (D2k _),D1U])
    by_cases h4: ∀i,i<x.Ak.length->H6 x.Now x.W (el x.Ak i).T=true
    ·rw [H.2 fun i hi hn=>hn (h4 i hi),U1];exact ⟨h1,fun b' hb' =>by rw [b2] at hb';cases hb';exact h2,h3,h4⟩
    ·rw [H.1 (A0s h4),J5];exact fun h=>h4 h.2.2.2
   ·rw [D1W (by omega),D1V,J5]
    exact fun h=>h3 h.2.2.1
  ·rw [L1 h2];simp only [D13,D14,H5,D1R,D2B,D1V];rw [J5];exact fun h=>h2 (h.2.1 b b2)
 ·rw [D17.2 fun h=>h1 ((A4H _ _ _ _).1 h),J5 fun h=>h1 h.1]
  rfl
theorem C01 (x:B7) (hs:A7p x.Ak):A7m x=some (vOf (C9o x)):=by
 have hm:x.Ak.length<=maxLen:=by rw [M2];have:=hs.1;omega
 unfold A7m;simp only []
 by_cases h1:A2H x.W x.K x.Cap x.Now
 ·obtain ⟨b,b1,b2,b3⟩:=C03 (k:=x.K) (c:=x.Cap) h1.2.2.2 h1.2.1;have hk:=h1.2.2.2;rw [(R7 _ _ _).2 ⟨h1.1,h1.2.1,h1.2.2.1⟩,(Q1 _).2 hk,b2,F4 (n:=2*x.K) (by omega) (by omega)]
  simp only [D13,D14,H7,D1R,Bool.or_false,D2i,C5Q _ _ _ hs,(B5f _ hs).2]
  by_cases h2:B5Y x.Ak (2*x.K) b
  ·rw [O6 h2];simp only [D13,D14,H7,D1R,D2i]
   by_cases h3:A2 (A0K (plainB x.Ak))<=x.Cap
   ·rw [D1Y (by omega),D1U]
    unfold A85;have H:=M4 (f:=fun s:Int=>A1E x s) x.Ak.length (fun i=> ¬H6 x.Now x.W (el x.Ak i).T=true) 2 (some 0)
     (fun i hi _=>by
      unfold A1E;rw [D1W (by omega:(i:Int)<(x.Ak.length:Int)),D1V,I7 hi,D1R,S8 hi hm]
      refine L3 ?_;simp)
     (fun _=>by
      unfold A1E;rw [D1Y (D2k _),D1U])
    by_cases h4: ∀i,i<x.Ak.length->H6 x.Now x.W (el x.Ak i).T=true
    ·rw [H.2 fun i hi hn=>hn (h4 i hi),U1];exact ⟨h1,fun b' hb' =>by rw [b2] at hb';cases hb';exact h2,h3,h4⟩
    ·rw [H.1 (A0s h4),J5];exact fun h=>h4 h.2.2.2
   ·rw [D1W (by omega),D1V,J5]
    exact fun h=>h3 h.2.2.1
  ·rw [L1 h2];simp only [D13,D14,H5,D1R,D2B,D1V];rw [J5];exact fun h=>h2 (h.2.1 b b2)
 ·have e1:(!J4 x.W x.Cap x.Now|| !J3 x.K)=true:=by
   rw [D12,D2d,D2d,D17,D17,Ne,Ne,R7,Q1];unfold A2H at h1;omega
  rw [e1,J5 fun h=>h1 h.1]
  rfl
theorem C4G (r:E3) (hl:r.Ae.length<=maxLen):A9D r r=some true:=by
 unfold A9D;simp only [D2u,Bool.or_false,D1U];unfold B4G;refine (M4 (f:=fun s:Int=>A4f r r s) r.Ae.length (fun _=>False) false (some true) (fun i hi _=>⟨fun h=>h.elim,fun _=> ?_⟩) (fun _=> ?_)).2 fun _ _ h=>h
 ·unfold A4f;rw [D1W (by omega:(i:Int)<(r.Ae.length:Int)),D1V,I7 hi]
  simp [S8 hi hl]
 ·unfold A4f;rw [D1Y (D2k _),D1U]
theorem D0a (l:List C4) (hl:l.length<=maxLen) (he:∀x∈l,x.Bh.Ae.length<=maxLen):A4h l l=some true:=by
 unfold A4h;rw [D2u,D1U];unfold A8u;refine (M4 (f:=fun s:Int=>A2j l l s) l.length (fun _=>False) false (some true) (fun i hi _=>⟨fun h=>h.elim,fun _=> ?_⟩) (fun _=> ?_)).2 fun _ _ h=>h
 ·unfold A2j;rw [D1W (by omega:(i:Int)<(l.length:Int)),D1V,I7 hi]
  simp [S8 hi hl,C4G _ (he _ (B0j hi))]
 ·unfold A2j;rw [D1Y (D2k _),D1U]
theorem C54 (x:B7) (hl:x.Ak.length<=maxLen) (he:∀b∈x.Ak,b.Bh.Ae.length<=maxLen):A4i x x=some true:=by
 unfold A4i;simp [D0a _ hl he]
end Go.Win
namespace Go.Win
open Go.Vc Go.Dec
def B70 (x:B8) (i:Nat):Bool:=match x.Be[i]? with
 |none=>false
 |some l=>(((((decide (l.V<(-4096:Int)))||(decide (l.V>(4096:Int))))||(decide (l.I<(1:Int))))||(decide (l.I>x.I)))||(decide (l.I<=(A2 (x.I-x.W)))))||
  (decide (0<i)&&match x.Be[i-1]? with
   |none=>false
   |some p=>decide (l.I<=p.I)||decide (l.I>A2 (p.I+x.W)))
noncomputable def B1H (x:B8) (i:Nat):Bool:=match x.Be[i]? with
 |none=>false
 |some l=>((!(J9 l.V))||(decide (l.I>x.I)))||
  (decide (0<i)&&match x.Be[i-1]? with
   |none=>false
   |some p=>decide (l.I<=p.I)||decide (l.I>A2 (p.I+x.W)))
def C80 (p0:B8):Option Int:=(Option.bind (gd (!(decide (p0.Bl<=p0.I))) (D3 p0.Be (A2 ((p0.Be.length:Int)-(1:Int))))) fun x17_14=>
 cond ((decide (p0.Bl<=p0.I))||(decide (p0.Bl>(A2 (x17_14.I+p0.W))))) (
  some (2:Int))<|
 some (0:Int))
theorem C9W (x:B8) (hl:x.Be.length<=maxLen):A4C x 0=cond ((List.range x.Be.length).any (B70 x)) (some 2) (C80 x):=by
 unfold A4C;refine A1J (fun i hi=> ?_) ?_
 ·have h1:x.Be[i]? =some x.Be[i]:=D15 hi;have hs:=A0A hi hl;unfold A3s B70;simp only [Int.ofNat_lt,hi,decide_true,D1V,A1b,h1,D1R,hs]
  by_cases h0:0<i
  ·have hp:=B3Y h0 (Nat.le_trans (Nat.le_of_lt hi) hl);have h2:x.Be[i-1]? =some x.Be[i-1]:=D15 (by omega)
   have h3:((i:Int)>0):=by omega
   simp only [hp,A1b,h2,h3,h0,decide_true,H7,D1R,D2s];cases decide (x.Be[i].I<=x.Be[i-1].I)<;>cases (((((decide (x.Be[i].V<(-4096:Int)))||(decide (x.Be[i].V>(4096:Int))))||(decide (x.Be[i].I<(1:Int))))||(decide (x.Be[i].I>x.I)))||(decide (x.Be[i].I<=(A2 (x.I-x.W)))))<;>simp
  ·have h3: ¬((i:Int)>0):=by omega
   simp only [h3,h0,decide_false,H5,D1R,D2m,D1U,Bool.or_false]
 ·unfold A3s;simp only [D2k,decide_false,D1U]
  rfl
theorem D1n (x:B8) (hl:x.Be.length<=maxLen):A4J x 0=cond ((List.range x.Be.length).any (B1H x)) (some 2) (C80 x):=by
 unfold A4J;refine A1J (fun i hi=> ?_) ?_
 ·have h1:x.Be[i]? =some x.Be[i]:=D15 hi;have hs:=A0A hi hl;unfold A3B B1H;simp only [Int.ofNat_lt,hi,decide_true,D1V,A1b,h1,D1R,hs]
  by_cases h0:0<i
  ·have hp:=B3Y h0 (Nat.le_trans (Nat.le_of_lt hi) hl);have h2:x.Be[i-1]? =some x.Be[i-1]:=D15 (by omega)
   have h3:((i:Int)>0):=by omega
   simp only [hp,A1b,h2,h3,h0,decide_true,D2s,Bool.and_true]
   by_cases hA:x.Be[i].I<=x.Be[i-1].I<;>cases ((!(J9 x.Be[i].V))||(decide (x.Be[i].I>x.I)))<;>simp [hA]
  ·have h3: ¬((i:Int)>0):=by omega
   simp only [h3,h0,decide_false,H5,D1R,D2m,Bool.and_false,Bool.or_false]
 ·unfold A3B;simp only [D2k,decide_false,D1U]
  rfl
theorem asc (x:B8) (h:∀i,i<x.Be.length->B1H x i=false): ∀i (hi:i<x.Be.length),x.Be[0].I<=x.Be[i].I:=by
 intro i
 induction i with
 |zero=>intro hi;exact Int.le_refl _
 |succ i ih=>
  intro hi;have h1:=ih (by omega)
  have h2:=h (i+1) hi;simp only [B1H,M9 hi,D2y,M9 (show i<x.Be.length by omega),Nat.succ_pos,decide_true,D2s,D2r,D18] at h2
  omega
def B0r (x:B8):Bool:=match x.Be[0]? with
 |none=>false
 |some l=>decide (l.I<=A2 (x.I-x.W))||decide (l.I<1)
theorem D1l (x:B8):(List.range x.Be.length).any (B70 x)=(B0r x||(List.range x.Be.length).any (B1H x)):=by
 rw [D2c,D12,A6X,A6X];constructor
 ·rintro ⟨i,hi,hb⟩
  by_cases hR: ∃i,i<x.Be.length/\B1H x i=true
  ·exact .inr hR
  ·left;have hno: ∀i,i<x.Be.length->B1H x i=false:=fun i hi=>by
    cases h:B1H x i with
    |false=>rfl
    |true=>exact absurd ⟨i,hi,h⟩ hR
   have ha:=asc x hno i hi;have h2:=hno i hi;have h0:0<x.Be.length:=by omega
   simp only [B0r,M9 h0,D12,D1T];simp only [B1H,M9 hi,J9,D2r,Bool.not_eq_false',D1Z,D1T,D18] at h2;simp only [B70,M9 hi,D12,D1T] at hb;obtain ⟨⟨⟨h3,h4⟩,h5⟩,h6⟩:=h2;rcases hb with hb|hb
   ·omega
   ·rw [h6] at hb;cases hb
 ·rintro (h|⟨i,hi,hb⟩)
  ·have h0:0<x.Be.length:=by
    rcases Nat.eq_zero_or_pos x.Be.length with h0|h0
    ·simp [B0r,D2C h0] at h
    ·exact h0
   refine ⟨0,h0, ?_⟩;simp only [B0r,M9 h0,D12,D1T] at h;simp only [B70,M9 h0,D12,D1T];left;omega
  ·refine ⟨i,hi, ?_⟩;simp only [B1H,M9 hi,J9,D12,D2d,D2I,D1T,D18] at hb;simp only [B70,M9 hi,D12,D1T];rcases hb with hb|hb
   ·left;omega
   ·exact .inr hb
theorem C57 (x:B8) (hl:x.Be.length<=maxLen):N8 x=A7k x:=by
 unfold N8 A7k;simp only [C9W x hl,D1n x hl,D1l x];have e1:(((((((decide (x.W<(1:Int)))||(decide (x.W>(1048576:Int))))||(decide (x.Cap<(1:Int))))||(decide (x.Cap>(64:Int))))||(decide (x.I<(0:Int))))||(decide (x.I>(1099511627776:Int))))||(decide ((x.Be.length:Int)>x.Cap)))
  =((((((!(R2 x.W))||(decide (x.Cap<(1:Int))))||(decide (x.Cap>(64:Int))))||(decide (x.I<(0:Int))))||(decide (x.I>(1099511627776:Int))))||(decide ((x.Be.length:Int)>x.Cap))):=by
  rw [D2c];simp only [R2,D12,D2d,D2I,D1T,D18];omega
 rw [e1]
 congr 2
 ·rw [show decide ((x.Be.length:Int)>0)=((x.Be.length:Int) !=0) by rw [D2c,D1T,bne_iff_ne];omega]
 ·by_cases h0:x.Be= []
  ·simp [h0]
  ·have h1:0<x.Be.length:=List.length_pos_iff.2 h0;have h2:((x.Be.length:Int)==0)=false:=by rw [D2H];omega
   have h3:D3 x.Be (0:Int)=some x.Be[0]:=by simp [D3,h1]
   simp only [h2,h3,D1U,D14,H7,D1R,D2i,B0r,M9 h1]
   by_cases hA:x.Be[0].I<=A2 (x.I-x.W)<;>by_cases hB:x.Be[0].I<1<;>simp [hA,hB]
theorem C51 (x:B8) (hl:x.Be.length<=maxLen):A9C x x=some true:=by
 unfold A9C;have h:A8r x x 0=cond ((List.range x.Be.length).any fun _=>false) (some false) (some true):=by
  unfold A8r;refine A1J (fun i hi=> ?_) ?_
  ·unfold A7j;simp [hi,A0A hi hl]
  ·unfold A7j;simp
 have hf:((List.range x.Be.length).any fun _=>false)=false:=by simp
 rw [hf] at h;simp [h]
theorem C07 (x:B8) (hl:x.Be.length<=maxLen): ∃r,N8 x=some r/\(r=0->0<=x.I/\x.I<=1099511627776/\1<=x.W/\x.W<=1048576/\1<=x.Cap/\x.Cap<=64/\(x.Be.length:Int)<=x.Cap/\(x.Be= []->x.I=0)/\(x.I=0->x.Bl=0)):=by
 unfold N8;simp only [C9W x hl]
 by_cases h:(((((((decide (x.W<(1:Int)))||(decide (x.W>(1048576:Int))))||(decide (x.Cap<(1:Int))))||(decide (x.Cap>(64:Int))))||(decide (x.I<(0:Int))))||(decide (x.I>(1099511627776:Int))))||(decide ((x.Be.length:Int)>x.Cap)))=true
 ·rw [h];exact ⟨2,rfl,fun h=>by simp at h⟩
 ·rw [Bool.not_eq_true] at h;rw [h];simp only [D2r,D18] at h
  by_cases h0:x.I=0
  ·simp only [h0,beq_self_eq_true,D1V,D1U];cases hc:(decide ((x.Be.length:Int)>(0:Int))||(x.Bl !=(0:Int)))
   ·simp only [D2r,bne_eq_false_iff_eq] at hc;exact ⟨0,rfl,fun _=>⟨by omega,by omega,by omega,by omega,by omega,by omega,by omega,fun _=>trivial,fun _=>hc.2⟩⟩
   ·exact ⟨2,rfl,fun h=>by simp at h⟩
  ·have h0' :(x.I==0)=false:=by rw [D2H];exact h0
   simp only [h0',D1U]
   by_cases h1:x.Be= []
   ·rw [h1];exact ⟨2,rfl,fun h=>by simp at h⟩
   ·have h2:((x.Be.length:Int)==0)=false:=by
     have:=List.length_pos_iff.2 h1;rw [D2H];omega
    simp only [h2,D1U];have all: ∀r:Int,(r=0->0<=x.I/\x.I<=1099511627776/\1<=x.W/\x.W<=1048576/\1<=x.Cap/\x.Cap<=64/\(x.Be.length:Int)<=x.Cap/\(x.Be= []->x.I=0)/\(x.I=0->x.Bl=0)):=fun _ _=>⟨by omega,by omega,by omega,by omega,by omega,by omega,by omega,fun h=>absurd h h1,fun h=>absurd h h0⟩
    cases (List.range x.Be.length).any (B70 x) with
    |true=>exact ⟨2,rfl,all _⟩
    |false=>
     simp only [D1U];unfold C80;have hp:=List.length_pos_iff.2 h1;have hw:=B3Y hp hl;simp only [hw,A1b,M9 (show x.Be.length-1<x.Be.length by omega)]
     by_cases hN:x.Bl<=x.I
     ·simp only [hN,decide_true,D13,H5,D1R,D2B,D1V];exact ⟨2,rfl,all _⟩
     ·simp only [hN,decide_false,D14,H7,D1R,D2i];cases decide (x.Bl>A2 ((x.Be[x.Be.length-1]'(by omega)).I+x.W))
      ·exact ⟨0,rfl,all _⟩
      ·exact ⟨2,rfl,all _⟩
end Go.Win
namespace Go.Win
open Go.Vc Go.Dec
theorem B8T {α β:Type} {m:Option α} {f g:α->Option β} (h:∀x,m=some x->f x=g x):m.bind f=m.bind g:=by
 cases m with
 |none=>rfl
 |some x=>exact h x rfl
theorem D0f {α:Type} {l:List α} {i:Int} {x:α} (h:D3 l i=some x):x∈l:=D16 (B0v h).2
theorem C4i (l:List Int) (hl:l.length<=maxLen):P9 l l=some true:=by
 have h:T8 l l 0=cond ((List.range l.length).any fun _=>false) (some false) (some true):=by
  unfold T8;refine A1J (fun i hi=> ?_) ?_
  ·unfold A0u;simp [hi,A0A hi hl]
  ·unfold A0u;simp
 have hf:((List.range l.length).any fun _=>false)=false:=by simp
 rw [hf] at h;unfold P9;simp [h]
theorem C52 (x:F0) (hl:x.Am.length<=maxLen) (hc:∀c∈x.Am,c.Be.length<=maxLen):A4b x x=some true:=by
 have h:A5i x x 0=cond ((List.range x.Am.length).any fun _=>false) (some false) (some true):=by
  unfold A5i;refine A1J (fun i hi=> ?_) ?_
  ·unfold A4c;have:=C51 x.Am[i] (hc _ (D2G hi));simp [hi,A0A hi hl,this]
  ·unfold A4c;simp
 have hf:((List.range x.Am.length).any fun _=>false)=false:=by simp
 rw [hf] at h;unfold A4b;simp [h]
theorem C2B (s:F0) (hc:∀c∈s.Am,c.Be.length<=maxLen):P4 s=A4d s:=by
 have e:P8 s=A3C s:=by
  funext i
  unfold P8 A3C
  congr 1
  refine B8T fun x hx=>B8T fun y _=> ?_;rw [C57 x (hc x (D0f hx))]
 unfold P4 A4d A1G A82;rw [e]
theorem B8F (s:F0) (hl:s.Am.length<=maxLen) (hc:∀c∈s.Am,c.Be.length<=maxLen):
  ∃r,P4 s=some r/\(r=0->1<=s.Am.length/\s.Am.length<=16/\ ∀c∈s.Am,N8 c=some 0):=by
 unfold P4
 by_cases h:(decide ((s.Am.length:Int)<1)||decide ((s.Am.length:Int)>16))=true
 ·rw [h];exact ⟨2,rfl,fun h=>by simp at h⟩
 ·rw [Bool.not_eq_true] at h;rw [h,D1U];simp only [D2r,D18] at h;unfold A1G;obtain ⟨r,hr,hQ⟩:=B3T (f:=fun i:Int=>P8 s i) (fun i=> ∃k:Nat,i=(k:Int)/\k<=s.Am.length/\ ∀j (hj:j<s.Am.length),j<k->N8 s.Am[j]=some 0)
   (fun i=>s.Am.length-i.toNat) (fun r=>r=2\/(r=0/\ ∀c∈s.Am,N8 c=some 0)) 0 ⟨0,rfl,Nat.zero_le _,fun j _ hj=>by omega⟩ (by
    rintro _ ⟨k,rfl,hk,hv⟩;unfold P8
    by_cases hlt:k<s.Am.length
    ·obtain ⟨q,hq,_⟩:=C07 s.Am[k] (hc _ (D2G hlt));have h0:D3 s.Am (0:Int)=some (s.Am[0]'(by omega)):=by
      have:=M9 (show 0<s.Am.length by omega)
      simp [D3,this]
     simp only [Int.ofNat_lt,hlt,decide_true,D1V,A1b,M9 hlt,D1R,h0,hq];cases hb:(((q !=0)||(s.Am[k].W !=(s.Am[0]'(by omega)).W))||(s.Am[k].Cap !=(s.Am[0]'(by omega)).Cap))||(s.Am[k].I !=(s.Am[0]'(by omega)).I) with
     |true=>exact .inr ⟨2,rfl, .inl rfl⟩
     |false=>
      simp only [D2r,bne_eq_false_iff_eq] at hb;left;refine ⟨(k:Int)+1,by rw [A0A hlt hl];rfl,⟨k+1,by simp,hlt,fun j hj hjk=> ?_⟩,by omega⟩
      by_cases hjk2:j=k
      ·subst hjk2;rw [hq,hb.1.1.1]
      ·exact hv j hj (by omega)
    ·right;have: ¬((k:Int)<(s.Am.length:Int)):=by omega
     simp only [this,decide_false,D1U];refine ⟨0,rfl, .inr ⟨rfl,fun c hcm=> ?_⟩⟩;obtain ⟨j,hj,rfl⟩:=List.mem_iff_getElem.1 hcm;exact hv j hj (by omega))
  refine ⟨r,hr,fun h0=>⟨by omega,by omega, ?_⟩⟩
  rcases hQ with hQ|hQ
  ·omega
  ·exact hQ.2
theorem D1r (n w c:Int) (h1:1<=n) (h2:n<=16):A8w n w c 0 []=some (if (P7 w c).2=0 then (⟨List.replicate n.toNat (P7 w c).1⟩,0) else (⟨[]⟩,(P7 w c).2)):=by
 unfold A8w
 by_cases he:(P7 w c).2=0
 ·rw [if_pos he];obtain ⟨r,hr,hQ⟩:=B3T (f:=fun t:Int×List B8=>A2m n w c t.1 t.2) (fun t=> ∃k:Nat,t=((k:Int),List.replicate k (P7 w c).1)/\(k:Int)<=n)
   (fun t=>(n-t.1).toNat) (fun r=>r=(⟨List.replicate n.toNat (P7 w c).1⟩,0)) (0, []) ⟨0,rfl,by omega⟩ (by
    rintro _ ⟨k,rfl,hk⟩;simp only;unfold A2m
    by_cases hlt:(k:Int)<n
    ·left;have hk2:decide (((List.replicate k (P7 w c).1).length+ [(P7 w c).1].length)*56<=140737488355328)=true:=by
      rw [D1T,D2w,D2R];omega
     have hs:A2 ((k:Int)+1)=(k:Int)+1:=by rw [F4]<;>omega
     refine ⟨((k:Int)+1,List.replicate (k+1) (P7 w c).1), ?_,⟨k+1,by simp,by omega⟩,by show (n-((k:Int)+1)).toNat<(n-(k:Int)).toNat;omega⟩
     simp only [hlt,decide_true,D1V,he,D2u,D1U];rw [hk2,Z3,hs,List.replicate_succ']
    ·right;have:n.toNat=k:=by omega
     simp only [hlt,decide_false,D1U];exact ⟨_,rfl,by rw [this]⟩)
  rw [hr,hQ]
 ·rw [if_neg he];have hb:((P7 w c).2 !=0)=true:=by rw [bne_iff_ne];exact he
  refine O8 ?_;unfold A2m;have:(0:Int)<n:=by omega
  simp only [this,decide_true,D1V,hb]
theorem D0Y (n w c:Int) (h1:1<=n) (h2:n<=16):B0J w c n []=some (if (W5 w c).2=0 then (⟨List.replicate n.toNat (W5 w c).1⟩,0) else (⟨[]⟩,(W5 w c).2)):=by
 unfold B0J
 by_cases he:(W5 w c).2=0
 ·rw [if_pos he];obtain ⟨r,hr,hQ⟩:=B3T (f:=fun t:Int×List B8=>A5h w c t.1 t.2) (fun t=> ∃k:Nat,t=(n-(k:Int),List.replicate k (W5 w c).1)/\(k:Int)<=n)
   (fun t=>t.1.toNat) (fun r=>r=(⟨List.replicate n.toNat (W5 w c).1⟩,0)) (n, []) ⟨0,by simp,by omega⟩ (by
    rintro _ ⟨k,rfl,hk⟩;simp only;unfold A5h
    by_cases hlt:n-(k:Int)>0
    ·left;have hk2:decide (((List.replicate k (W5 w c).1).length+ [(W5 w c).1].length)*56<=140737488355328)=true:=by
      rw [D1T,D2w,D2R];omega
     have hs:A2 (n-(k:Int)-1)=n-(k:Int)-1:=by rw [F4]<;>omega
     refine ⟨(n-(k:Int)-1,List.replicate (k+1) (W5 w c).1), ?_,⟨k+1,by simp;omega,by omega⟩,by show (n-(k:Int)-1).toNat<(n-(k:Int)).toNat;omega⟩
     simp only [hlt,decide_true,D1V,he,D2u,D1U];rw [hk2,Z3,hs,List.replicate_succ']
    ·right;have:n.toNat=k:=by omega
     simp only [hlt,decide_false,D1U];exact ⟨_,rfl,by rw [this]⟩)
  rw [hr,hQ]
 ·rw [if_neg he];have hb:((W5 w c).2 !=0)=true:=by rw [bne_iff_ne];exact he
  refine O8 ?_;unfold A5h;have:n>(0:Int):=by omega
  simp only [this,decide_true,D1V,hb]
theorem C9j (p0 p1:Int):P7 p0 p1=W5 p0 p1:=by
 unfold P7 W5
 congr 1
 rw [D2c];simp only [R2,D12,D2d,D2I,D1T,D18];omega
end Go.Win
namespace Go.Win
open Go.Vc Go.Dec
theorem N9 {α:Type} {l:List α} (h:l.length<=1048576):l.length<=maxLen:=by rw [M2];omega
theorem C9N {l:List A3} (h:∀y∈l,A6h y): ∀w∈l,V4 w:=fun w hw=>⟨(B95 (h w hw).1).1,(B95 (h w hw).1).2,(B95 (h w hw).2).1,(B95 (h w hw).2).2⟩
theorem D0u (p:Prop):(vOf p==0)=Q7 p:=by
 by_cases h:p
 ·rw [U1 h,O6 h];rfl
 ·rw [J5 h,L1 h];rfl
theorem C5Z (x:F6) (hl:x.Bn.length<=maxLen):A39 x x=some true:=by
 unfold A39;simp [C4i _ hl]
theorem A9W {α:Type} (l:List α):((l.length:Int) !=(([]:List α).length:Int))= !Q7 (l.length=0):=by
 by_cases h:l.length=0
 ·rw [O6 h,h];rfl
 ·rw [L1 h];show ((l.length:Int) !=0)=true;rw [bne_iff_ne];omega
theorem A6w (l:List D0):X4 l []=some (Q7 (l.length=0)):=by
 unfold X4;rw [A9W]
 by_cases h:l.length=0
 ·rw [O6 h,D13,D1U];unfold A1w;refine O8 ?_;unfold A03;rw [h];rfl
 ·rw [L1 h];rfl
theorem B24 (l:List A7):A2J l []=some (Q7 (l.length=0)):=by
 unfold A2J;rw [A9W]
 by_cases h:l.length=0
 ·rw [O6 h,D13,D1U];unfold A8q;refine O8 ?_;unfold A2g;rw [h];rfl
 ·rw [L1 h];rfl
theorem A6x (l:List B4):X5 l []=some (Q7 (l.length=0)):=by
 unfold X5;rw [A9W]
 by_cases h:l.length=0
 ·rw [O6 h,D13,D1U];unfold A3A;refine O8 ?_;unfold Y9;rw [h];rfl
 ·rw [L1 h];rfl
theorem B59 (l:List A3):A0R l []=some (Q7 (l.length=0)):=by
 unfold A0R;rw [A9W]
 by_cases h:l.length=0
 ·rw [O6 h,D13,D1U];unfold A4I;refine O8 ?_;unfold A0i;rw [h];rfl
 ·rw [L1 h];rfl
theorem B23 (l:List Int):P9 l []=some (Q7 (l.length=0)):=by
 unfold P9;rw [A9W]
 by_cases h:l.length=0
 ·rw [O6 h,D13,D1U];unfold T8;refine O8 ?_;unfold A0u;rw [h];rfl
 ·rw [L1 h];rfl
theorem C00 (l:List C4):A4h l []=some (Q7 (l.length=0)):=by
 unfold A4h;rw [A9W]
 by_cases h:l.length=0
 ·rw [O6 h,D13,D1U];unfold A8u;refine O8 ?_;unfold A2j;rw [h];rfl
 ·rw [L1 h];rfl
theorem A24 {α:Type} [Inhabited α] (g:Bool) (v:α):gd g (some v)=some (cond g v default):=by cases g<;>rfl
theorem A1I (g v d:Bool):(g&&cond g v d)=(g&&v):=by cases g<;>rfl
def B4e (x:C6):Prop:=x.W=0/\x.Cap=0/\x.Now=0/\x.Bb.length=0
theorem C7P (x:C6):A30 x ⟨0,0,0, []⟩=some (Q7 (B4e x)):=by
 unfold A30;rw [A6w];simp only [A24,D1R,A1I]
 congr 1
 rw [D2c,I8];unfold B4e;simp only [D1Z,D2L,I8,and_assoc]
def B6T (x:D4):Prop:=x.W=0/\x.K=0/\x.Cap=0/\x.Now=0/\x.Ad.length=0
theorem C8W (x:D4):A33 x ⟨0,0,0,0, []⟩=some (Q7 (B6T x)):=by
 unfold A33;rw [B24];simp only [A24,D1R,A1I]
 congr 1
 rw [D2c,I8];unfold B6T;simp only [D1Z,D2L,I8,and_assoc]
def C2Y (x:E8):Prop:=x.W=0/\x.K=0/\x.Cap=0/\x.Bs=0/\x.Now=0/\x.Ad.length=0
theorem D0A (x:E8):A34 x ⟨0,0,0,0,0, []⟩=some (Q7 (C2Y x)):=by
 unfold A34;rw [B24];simp only [A24,D1R,A1I]
 congr 1
 rw [D2c,I8];unfold C2Y;simp only [D1Z,D2L,I8,and_assoc]
def B4f (x:C7):Prop:=x.Bo=0/\x.W=0/\x.K=0/\x.Cap=0/\x.Now=0/\x.Bv=0/\x.Bf.length=0
theorem C7R (x:C7):A36 x ⟨0,0,0,0,0,0, []⟩=some (Q7 (B4f x)):=by
 unfold A36;rw [A6x];simp only [A24,D1R,A1I]
 congr 1
 rw [D2c,I8];unfold B4f;simp only [D1Z,D2L,I8,and_assoc]
def B4g (x:C8):Prop:=x.W=0/\x.K=0/\x.Cap=0/\x.Now=0/\x.Bv=0/\x.Bf.length=0
theorem C7S (x:C8):A37 x ⟨0,0,0,0,0, []⟩=some (Q7 (B4g x)):=by
 unfold A37;rw [A6x];simp only [A24,D1R,A1I]
 congr 1
 rw [D2c,I8];unfold B4g;simp only [D1Z,D2L,I8,and_assoc]
def C0g (x:D5):Prop:=x.P=0/\x.Bj=0/\x.Now=0/\x.Ag.length=0
theorem C9O (x:D5):A38 x ⟨0,0,0, []⟩=some (Q7 (C0g x)):=by
 unfold A38;rw [B59];simp only [A24,D1R,A1I]
 congr 1
 rw [D2c,I8];unfold C0g;simp only [D1Z,D2L,I8,and_assoc]
def B6U (x:F6):Prop:=x.Now=0/\x.Bn.length=0
theorem C8X (x:F6):A39 x ⟨0, []⟩=some (Q7 (B6U x)):=by
 unfold A39;rw [B23];simp only [A24,D1R,A1I]
 congr 1
 rw [D2c,I8];unfold B6U;simp only [D1Z,D2L,I8,and_assoc]
def B1G (x:B9):Prop:=x.Bs=false/\x.W=0/\x.Cap=0/\x.Now=0/\x.Bb.length=0
theorem C6d (x:B9):A4a x ⟨false,0,0,0, []⟩=some (Q7 (B1G x)):=by
 unfold A4a;rw [A6w];simp only [A24,D1R,A1I]
 congr 1
 rw [D2c,I8];unfold B1G;simp only [D1Z,D2L,I8,and_assoc]
def A7u (x:F0):Prop:=x.Am.length=0
theorem C7Q (x:F0):A4b x ⟨[]⟩=some (Q7 (A7u x)):=by
 unfold A4b
 by_cases h:A7u x
 ·have h' :=h;unfold A7u at h';rw [O6 h];have e:((x.Am.length:Int) !=(([]:List B8).length:Int))=false:=by simp [h']
  rw [e,D1U];unfold A5i;refine O8 ?_;unfold A4c;rw [h'];rfl
 ·rw [L1 h];have e:((x.Am.length:Int) !=(([]:List B8).length:Int))=true:=by
   unfold A7u at h;rw [D2c];simp only [D12,bne_iff_ne,D2n,iff_true,Int.natCast_zero,ne_eq];omega
  rw [e,D1V]
def A5N (x:B6):Prop:=x.K=0/\x.Cap=0/\x.N=0/\x.Av.length=0
theorem C6e (x:B6):A4e x ⟨0,0,0, []⟩=some (Q7 (A5N x)):=by
 unfold A4e
 by_cases h:A5N x
 ·have h' :=h;unfold A5N at h';rw [O6 h];have e:((((x.K !=0)||(x.Cap !=0))||(x.N !=0))||((x.Av.length:Int) !=(([]:List E6).length:Int)))=false:=by simp [h']
  rw [e,D1U];unfold A8s;refine O8 ?_;unfold A2i;rw [h'.2.2.2];rfl
 ·rw [L1 h];have e:((((x.K !=0)||(x.Cap !=0))||(x.N !=0))||((x.Av.length:Int) !=(([]:List E6).length:Int)))=true:=by
   unfold A5N at h;rw [D2c];simp only [D12,bne_iff_ne,D2n,iff_true,Int.natCast_zero,ne_eq];omega
  rw [e,D1V]
def A9T (x:B7):Prop:=x.W=0/\x.K=0/\x.Cap=0/\x.Now=0/\x.Ak.length=0
theorem C5f (x:B7):A4i x ⟨0,0,0,0, []⟩=some (Q7 (A9T x)):=by
 unfold A4i;rw [C00];simp only [A24,D1R,A1I]
 congr 1
 rw [D2c,I8];unfold A9T;simp only [D1Z,D2L,I8,and_assoc]
theorem A0w (s:B0):O5 s=⟨s.Ao,if s.Ao.Bi=1 then s.Aq else ⟨0,0,0, []⟩,if s.Ao.Bi=2 then s.Ay else ⟨0,0,0,0, []⟩,if s.Ao.Bi=3 then s.Sum else ⟨0,0,0,0,0, []⟩,if s.Ao.Bi=4 then s.As else ⟨0,0,0,0,0,0, []⟩,if s.Ao.Bi=5 then s.Au else ⟨0,0,0,0,0, []⟩,if s.Ao.Bi=6 then s.Bm else ⟨0,0,0, []⟩,if s.Ao.Bi=7 then s.Ba else ⟨0, []⟩,if s.Ao.Bi=8 then s.Af else ⟨false,0,0,0, []⟩,if s.Ao.Bi=9 then s.Ar else ⟨[]⟩,if s.Ao.Bi=10 then s.Ai else ⟨0,0,0, []⟩,if s.Ao.Bi=11 then s.Ab else ⟨0,0,0,0, []⟩⟩:=by
 unfold O5 O0
 by_cases hk:1<=s.Ao.Bi/\s.Ao.Bi<=11
 ·have:s.Ao.Bi=1\/s.Ao.Bi=2\/s.Ao.Bi=3\/s.Ao.Bi=4\/s.Ao.Bi=5\/s.Ao.Bi=6\/s.Ao.Bi=7\/s.Ao.Bi=8\/s.Ao.Bi=9\/s.Ao.Bi=10\/s.Ao.Bi=11:=by omega
  rcases this with h|h|h|h|h|h|h|h|h|h|h
  all_goals
   rw [h];simp only [Int.reduceBEq,beq_self_eq_true,D1V,D1U,Int.reduceEq,if_true,if_false]
 ·have e: ∀j:Int,1<=j->j<=11->(s.Ao.Bi==j)=false:=fun j h1 h2=>D2H.2 (by omega)
  have e2: ∀j:Int,1<=j->j<=11-> ¬s.Ao.Bi=j:=fun j h1 h2=>by omega
  rw [e 1 (by decide) (by decide),e 2 (by decide) (by decide),e 3 (by decide) (by decide),e 4 (by decide) (by decide),e 5 (by decide) (by decide),e 6 (by decide) (by decide),e 7 (by decide) (by decide),e 8 (by decide) (by decide),e 9 (by decide) (by decide),e 10 (by decide) (by decide),e 11 (by decide) (by decide),if_neg (e2 1 (by decide) (by decide)),if_neg (e2 2 (by decide) (by decide)),if_neg (e2 3 (by decide) (by decide)),if_neg (e2 4 (by decide) (by decide)),if_neg (e2 5 (by decide) (by decide)),if_neg (e2 6 (by decide) (by decide)),if_neg (e2 7 (by decide) (by decide)),if_neg (e2 8 (by decide) (by decide)),if_neg (e2 9 (by decide) (by decide)),if_neg (e2 10 (by decide) (by decide)),if_neg (e2 11 (by decide) (by decide))]
  rfl
theorem C5h (s:B0):(O5 s).Ao=s.Ao:=by rw [A0w]
theorem C5i (s:B0):(O5 s).Aq=if s.Ao.Bi=1 then s.Aq else ⟨0,0,0, []⟩:=by rw [A0w]
theorem C6M (s:B0):(O5 s).Ay=if s.Ao.Bi=2 then s.Ay else ⟨0,0,0,0, []⟩:=by rw [A0w]
theorem C81 (s:B0):(O5 s).Sum=if s.Ao.Bi=3 then s.Sum else ⟨0,0,0,0,0, []⟩:=by rw [A0w]
theorem C5k (s:B0):(O5 s).As=if s.Ao.Bi=4 then s.As else ⟨0,0,0,0,0,0, []⟩:=by rw [A0w]
theorem C5l (s:B0):(O5 s).Au=if s.Ao.Bi=5 then s.Au else ⟨0,0,0,0,0, []⟩:=by rw [A0w]
theorem C7V (s:B0):(O5 s).Bm=if s.Ao.Bi=6 then s.Bm else ⟨0,0,0, []⟩:=by rw [A0w]
theorem C6N (s:B0):(O5 s).Ba=if s.Ao.Bi=7 then s.Ba else ⟨0, []⟩:=by rw [A0w]
theorem C23 (s:B0):(O5 s).Af=if s.Ao.Bi=8 then s.Af else ⟨false,0,0,0, []⟩:=by rw [A0w]
theorem C5j (s:B0):(O5 s).Ar=if s.Ao.Bi=9 then s.Ar else ⟨[]⟩:=by rw [A0w]
theorem C24 (s:B0):(O5 s).Ai=if s.Ao.Bi=10 then s.Ai else ⟨0,0,0, []⟩:=by rw [A0w]
theorem C13 (s:B0):(O5 s).Ab=if s.Ao.Bi=11 then s.Ab else ⟨0,0,0,0, []⟩:=by rw [A0w]
def A68 (s:B0):Prop:=(s.Ao.Bi≠1->B4e s.Aq)/\(s.Ao.Bi≠2->B6T s.Ay)/\(s.Ao.Bi≠3->C2Y s.Sum)/\(s.Ao.Bi≠4->B4f s.As)/\(s.Ao.Bi≠5->B4g s.Au)/\(s.Ao.Bi≠6->C0g s.Bm)/\(s.Ao.Bi≠7->B6U s.Ba)/\(s.Ao.Bi≠8->B1G s.Af)/\(s.Ao.Bi≠9->A7u s.Ar)/\(s.Ao.Bi≠10->A5N s.Ai)/\(s.Ao.Bi≠11->A9T s.Ab)
theorem A2l {α:Type} {Same:α->α->Option Bool} {x z:α} {zr:Prop} {k j:Int} (hr:Same x x=some true) (hz:Same x z=some (Q7 zr)):Same x (if k=j then x else z)=some (Q7 (k≠j->zr)):=by
 by_cases h:k=j
 ·rw [if_pos h,hr,O6 fun h2=>absurd h h2]
 ·rw [if_neg h,hz]
  congr 1
  rw [D2c,I8,I8];exact ⟨fun h2 _=>h2,fun h2=>h2 h⟩
def C7g (s:B0):Prop:=s.Aq.Bb.length<=1048576/\s.Ay.Ad.length<=1048576/\s.Sum.Ad.length<=1048576/\s.As.Bf.length<=1048576/\s.Au.Bf.length<=1048576/\(s.Bm.Ag.length<=1048576/\ ∀w∈s.Bm.Ag,V4 w)/\s.Ba.Bn.length<=1048576/\s.Af.Bb.length<=1048576/\
 (s.Ar.Am.length<=1048576/\ ∀c∈s.Ar.Am,c.Be.length<=1048576)/\s.Ai.Av.length<=1048576/\A7p s.Ab.Ak
theorem D0h {s:B0} (w:A2Q s):C7g s:=by
 obtain ⟨_,w1,w2,w3,w4,w5,w6,w7,w8,w9,w10,w11⟩:=w;exact ⟨w1.2.2.2.1,w2.2.2.2.2.1,w3.2.2.2.2.2.1,w4.2.2.2.2.2.2.1,w5.2.2.2.2.2.1,⟨w6.2.2.2.1,C9N w6.2.2.2.2⟩,w7.2.1,w8.2.2.2.2.1,⟨w9.1,fun c hc=>(w9.2 c hc).2.2.2.2.1⟩,w10.2.2.2.1,⟨w11.2.2.2.2.1,fun b hb=>Nat.le_trans (w11.2.2.2.2.2 b hb).2.2.2.2.1 (by decide)⟩⟩
theorem C7C (s:B0) (w:C7g s):A6d s (O5 s)=some (Q7 (A68 s)):=by
 obtain ⟨w1,w2,w3,w4,w5,w6,w7,w8,w9,w10,w11⟩:=w;have e1:=A2l (k:=s.Ao.Bi) (j:=1) (C7B s.Aq (N9 w1)) (C7P s.Aq);have e2:=A2l (k:=s.Ao.Bi) (j:=2) (C5U s.Ay (N9 w2)) (C8W s.Ay);have e3:=A2l (k:=s.Ao.Bi) (j:=3) (C5V s.Sum (N9 w3)) (D0A s.Sum);have e4:=A2l (k:=s.Ao.Bi) (j:=4) (C5W s.As (N9 w4)) (C7R s.As);have e5:=A2l (k:=s.Ao.Bi) (j:=5) (C5X s.Au (N9 w5)) (C7S s.Au);have e6:=A2l (k:=s.Ao.Bi) (j:=6) (C5Y s.Bm (N9 w6.1)) (C9O s.Bm);have e7:=A2l (k:=s.Ao.Bi) (j:=7) (C5Z s.Ba (N9 w7)) (C8X s.Ba);have e8:=A2l (k:=s.Ao.Bi) (j:=8) (C50 s.Af (N9 w8)) (C6d s.Af);have e9:=A2l (k:=s.Ao.Bi) (j:=9) (C52 s.Ar (N9 w9.1) (fun c hc=>N9 (w9.2 c hc))) (C7Q s.Ar);have e10:=A2l (k:=s.Ao.Bi) (j:=10) (C53 s.Ai (N9 w10)) (C6e s.Ai);have e11:=A2l (k:=s.Ao.Bi) (j:=11) (C54 s.Ab (N9 w11.1) (fun b hb=>by have:=w11.2 b hb;rw [M2];omega)) (C5f s.Ab)
 unfold A6d;rw [C5h,C5i,e1,C6M,e2,C81,e3,C5k,e4,C5l,e5,C7V,e6,C6N,e7,C23,e8,C5j,e9,C24,e10,C13,e11];simp only [beq_self_eq_true,D2s,A24,D1V,D1R,A1I]
 congr 1
 rw [D2c,I8];unfold A68;simp only [D1Z,I8,and_assoc]
theorem C8F (s:B0):A3n s=Q7 (A68 s):=by
 unfold A3n;rw [D2c,I8];unfold A68;unfold B4e;unfold B6T;unfold C2Y;unfold B4f;unfold B4g;unfold C0g;unfold B6U;unfold B1G;unfold A7u;unfold A5N;unfold A9T;simp only [C85,D1Z,D12,bne_iff_ne,D2L,D1T,ne_eq];have fin: ∀ {c:Prop} [Decidable c] {b:Bool},((if c then false else b)=true)↔(¬c/\b=true):=by
  intro c _ b
  by_cases h:c
  ·rw [if_pos h];exact ⟨fun h2=>(by cases h2),fun h2=>absurd h h2.1⟩
  ·rw [if_neg h];exact ⟨fun h2=>⟨h,h2⟩,fun h2=>h2.2⟩
 simp only [fin,D12,D1Z,D2L];cases s.Af.Bs
 ·simp only [Bool.false_eq_true,false_or,true_and]
  repeat' apply and_congr
  all_goals first|omega|(simp;done)|(simp;omega)
 ·simp only [true_or,Bool.true_eq_false,false_and]
  repeat' apply and_congr
  all_goals first|omega|(simp;done)|(simp;omega)
def B5Z (x:F0):Prop:=P4 x=some 0
theorem C7D (x:F0) (hl:x.Am.length<=maxLen) (hc:∀c∈x.Am,c.Be.length<=maxLen): ∃r,P4 x=some r/\A4d x=some r/\(r==0)=Q7 (B5Z x)/\(r=0->0<x.Am.length):=by
 obtain ⟨r,h1,h2⟩:=B8F x hl hc;refine ⟨r,h1,by rw [<-C2B x hc];exact h1, ?_,fun h=>by have:=(h2 h).1;omega⟩
 rw [D2c,I8,D2L];unfold B5Z;rw [h1];simp
theorem C7u (x:C6) (hl:x.Bb.length<=maxLen):U9 x=some (vOf (okV x=true))/\Z7 x=some (vOf (okV x=true)):=by
 have h:Z7 x=some (vOf (okV x=true)):=by
  rw [C06 x hl]
  by_cases h:okV x=true
  ·rw [if_pos h,U1 h]
  ·rw [if_neg h,J5 h]
 exact ⟨by rw [C4S];exact h,h⟩
def B3b (s:B0):Prop:=
 (s.Ao.Bi=1/\okV s.Aq=true/\s.Aq.W=s.Ao.W/\s.Aq.Cap=s.Ao.Cap)\/
 (s.Ao.Bi=2/\B0y s.Ay.Ad s.Ay.W s.Ay.K s.Ay.Cap s.Ay.Now/\s.Ay.W=s.Ao.W/\s.Ay.K=s.Ao.K/\s.Ay.Cap=s.Ao.Cap)\/
 (s.Ao.Bi=3/\C7o s.Sum/\s.Sum.W=s.Ao.W/\s.Sum.K=s.Ao.K/\s.Sum.Cap=s.Ao.Cap/\s.Sum.Bs=s.Ao.Bs)\/
 (s.Ao.Bi=4/\C9p s.As/\s.As.W=s.Ao.W/\s.As.K=s.Ao.K/\s.As.Cap=s.Ao.Cap/\s.As.Bo=s.Ao.Bo)\/
 (s.Ao.Bi=5/\C9q s.Au/\s.Au.W=s.Ao.W/\s.Au.K=s.Ao.K/\s.Au.Cap=s.Ao.Cap)\/
 (s.Ao.Bi=6/\C9n s.Bm/\s.Bm.P=s.Ao.P)\/
 (s.Ao.Bi=7/\C9m s.Ba/\(s.Ba.Bn.length:Int)=s.Ao.W)\/
 (s.Ao.Bi=8/\C9l s.Af/\s.Af.W=s.Ao.W/\s.Af.Cap=s.Ao.Cap/\s.Af.Bs=(s.Ao.Bs==1))\/
 (s.Ao.Bi=9/\B5Z s.Ar/\(s.Ar.Am.length:Int)=s.Ao.Am/\(el s.Ar.Am 0).W=s.Ao.W/\(el s.Ar.Am 0).Cap=s.Ao.Cap)\/
 (s.Ao.Bi=10/\C9r s.Ai/\s.Ai.K=s.Ao.K/\s.Ai.Cap=s.Ao.Cap)\/
 (s.Ao.Bi=11/\C9o s.Ab/\s.Ab.W=s.Ao.W/\s.Ab.K=s.Ao.K/\s.Ab.Cap=s.Ao.Cap)
theorem C7y (s:B0) (w:C7g s) (hk:1<=s.Ao.Bi/\s.Ao.Bi<=11):A4n s=some (Q7 (B3b s))/\B35 s=some (Q7 (B3b s)):=by
 obtain ⟨w1,w2,w3,w4,w5,w6,w7,w8,w9,w10,w11⟩:=w;have e1:=C7u s.Aq (N9 w1);have e2:=C0x s.Ay (N9 w2);have e2' :=C0R s.Ay (N9 w2);have e3:=C4L s.Sum (N9 w3);have e3' :=C0S s.Sum (N9 w3);have e4:=B9X s.As (N9 w4);have e4' :=C0T s.As (N9 w4);have e5:=B92 s.Au (N9 w5);have e5' :=C0U s.Au (N9 w5);have e6:=C2o s.Bm (w6.2);have e6' :=C0V s.Bm (w6.2);have e7:=C0G s.Ba (N9 w7);have e7' :=C0W s.Ba (N9 w7);have e8:=B8r s.Af (N9 w8);have e8' :=C0X s.Af (N9 w8);obtain ⟨r9,e9,e9',b9,p9⟩:=C7D s.Ar (N9 w9.1) (fun c hc=>N9 (w9.2 c hc));have e10:=B8E s.Ai;have e10' :=C0Y s.Ai;have hb:A7p s.Ab.Ak:=w11;have e11:=B7i s.Ab hb;have e11' :=C01 s.Ab hb;have e: ∀j:Int,s.Ao.Bi≠j->(s.Ao.Bi==j)=false:=fun j h=>D2H.2 h;unfold B3b A4n B35;rw [e1.1,e1.2,e2,e2',e3,e3',e4,e4',e5,e5',e6,e6',e7,e7',e8,e8',e9,e9',e10,e10',e11,e11'];have:s.Ao.Bi=1\/s.Ao.Bi=2\/s.Ao.Bi=3\/s.Ao.Bi=4\/s.Ao.Bi=5\/s.Ao.Bi=6\/s.Ao.Bi=7\/s.Ao.Bi=8\/s.Ao.Bi=9\/s.Ao.Bi=10\/s.Ao.Bi=11:=by omega
 rcases this with h|h|h|h|h|h|h|h|h|h|h
 all_goals rw [h]
 case inr.inr.inr.inr.inr.inr.inr.inr.inl=>
  simp only [Int.reduceBEq,beq_self_eq_true,D1V,D1U,D1R,b9,Int.reduceEq,false_and,false_or,or_false,true_and]
  by_cases q1:B5Z s.Ar/\(s.Ar.Am.length:Int)=s.Ao.Am
  ·have h0:0<s.Ar.Am.length:=p9 (by have:=O6 q1.1;rw [<-b9,D2L] at this;exact this)
   have g:(Q7 (B5Z s.Ar)&&((s.Ar.Am.length:Int)==s.Ao.Am))=true:=by
    rw [D1Z,I8,D2L];exact q1
   rw [g,A63 h0];simp only [H7,D1R,D2s];have fin:some (((el s.Ar.Am 0).W==s.Ao.W)&&((el s.Ar.Am 0).Cap==s.Ao.Cap))=some (Q7 (B5Z s.Ar/\(s.Ar.Am.length:Int)=s.Ao.Am/\(el s.Ar.Am 0).W=s.Ao.W/\(el s.Ar.Am 0).Cap=s.Ao.Cap)):=by
    congr 1
    rw [D2c,I8,D1Z,D2L,D2L];exact ⟨fun h=>⟨q1.1,q1.2,h.1,h.2⟩,fun h=>⟨h.2.2.1,h.2.2.2⟩⟩
   rw [<-fin];cases ((el s.Ar.Am 0).W==s.Ao.W)<;>exact ⟨rfl,rfl⟩
  ·have g:(Q7 (B5Z s.Ar)&&((s.Ar.Am.length:Int)==s.Ao.Am))=false:=by
    rw [D17,Ne,D1Z,I8,D2L];exact q1
   rw [g];simp only [H5,D1R,D2m];rw [L1 fun h=>q1 ⟨h.1,h.2.1⟩];exact ⟨rfl,rfl⟩
 all_goals
  simp only [Int.reduceBEq,beq_self_eq_true,D1V,D1U,D1R,D0u,Int.reduceEq,false_and,false_or,or_false,true_and];constructor<;>congr 1<;>rw [D2c,I8]<;>simp only [D1Z,I8,D2L]<;>grind
def C4j (s:B0):Prop:=A5S s.Ao/\B3b s/\A68 s
theorem B6s (s:B0) (w:C7g s):K6 s=some (vOf (C4j s))/\A7n s=some (vOf (C4j s)):=by
 unfold K6 A7n;simp only [];rw [B1c,B29,C8F,C7C s w]
 by_cases h1:A5S s.Ao
 ·obtain ⟨g1,g2⟩:=C7y s w h1.1;rw [C7G h1,g1,g2]
  by_cases h2:B3b s
  ·rw [O6 h2]
   by_cases h3:A68 s
   ·rw [O6 h3,U1 ⟨h1,h2,h3⟩];exact ⟨rfl,rfl⟩
   ·rw [L1 h3,J5 fun h=>h3 h.2.2];exact ⟨rfl,rfl⟩
  ·rw [L1 h2,J5 fun h=>h2 h.2.1];exact ⟨rfl,rfl⟩
 ·rw [C2X h1,J5 fun h=>h1 h.1];exact ⟨rfl,rfl⟩
theorem B7k (s:B0) (w:A2Q s):K6 s=some (vOf (C4j s))/\A7n s=some (vOf (C4j s)):=B6s s (D0h w)
end Go.Win
namespace Go.Win
open Go.Vc Go.Dec
def B8z (c:E9) (now:Int):B0:=⟨c,if c.Bi=1 then ⟨c.W,c.Cap,now, []⟩ else ⟨0,0,0, []⟩,
 if c.Bi=2 then ⟨c.W,c.K,c.Cap,now, []⟩ else ⟨0,0,0,0, []⟩,
 if c.Bi=3 then ⟨c.W,c.K,c.Cap,c.Bs,now, []⟩ else ⟨0,0,0,0,0, []⟩,
 if c.Bi=4 then ⟨c.Bo,c.W,c.K,c.Cap,now,0, []⟩ else ⟨0,0,0,0,0,0, []⟩,
 if c.Bi=5 then ⟨c.W,c.K,c.Cap,now,0, []⟩ else ⟨0,0,0,0,0, []⟩,
 if c.Bi=6 then ⟨c.P,now,now,List.replicate (c.P+1).toNat ⟨0,0⟩⟩ else ⟨0,0,0, []⟩,
 if c.Bi=7 then ⟨now,List.replicate c.W.toNat 0⟩ else ⟨0, []⟩,
 if c.Bi=8 then ⟨c.Bs==1,c.W,c.Cap,now, []⟩ else ⟨false,0,0,0, []⟩,
 if c.Bi=9 then ⟨List.replicate c.Am.toNat ⟨c.W,c.Cap,0,0, []⟩⟩ else ⟨[]⟩,
 if c.Bi=10 then ⟨c.K,c.Cap,0, []⟩ else ⟨0,0,0, []⟩,
 if c.Bi=11 then ⟨c.W,c.K,c.Cap,now, []⟩ else ⟨0,0,0,0, []⟩⟩
theorem C7j {w c n:Int} (h1:1<=w/\w<=1048576) (h2:1<=c/\c<=65536) (h3:0<=n/\n<=16777216):A3Y w c n=(⟨w,c,n, []⟩,0)/\B54 w c n=(⟨w,c,n, []⟩,0):=by
 unfold A3Y B54;simp only [C6k,(R7 w c n).2 ⟨h1,h2,h3⟩];exact ⟨rfl,rfl⟩
theorem C8u {w k c n:Int} (h:A2H w k c n):A5E w k c n=(⟨w,k,c,n, []⟩,0)/\B55 w k c n=(⟨w,k,c,n, []⟩,0):=by
 unfold A5E B55;simp only [(A62 w k c n).2 h,(R7 w c n).2 ⟨h.1,h.2.1,h.2.2.1⟩,(Q1 k).2 h.2.2.2];exact ⟨rfl,rfl⟩
theorem D0k {w k c m n:Int} (h:A2H w k c n) (hm:1<=m/\m<=1024):A90 w k c m n=(⟨w,k,c,m,n, []⟩,0)/\B56 w k c m n=(⟨w,k,c,m,n, []⟩,0):=by
 unfold A90 B56;have e:A2h m=true:=by unfold A2h;simp;exact hm
 simp only [(B0O w k c m n).2 ⟨h,hm⟩,(R7 w c n).2 ⟨h.1,h.2.1,h.2.2.1⟩,(Q1 k).2 h.2.2.2,e];exact ⟨rfl,rfl⟩
theorem C7l {a w k c n:Int} (h:A2H w k c n) (ha:1<=a/\a<=4):A4k a w k c n=(⟨a,w,k,c,n,0, []⟩,0)/\B57 a w k c n=(⟨a,w,k,c,n,0, []⟩,0):=by
 unfold A4k B57;have e:T4 a=true:=by unfold T4;simp;exact ha
 have e1:A0b a w k c n=true:=by
  unfold A0b;simp only [(B2R _ _ _ _).2 h,Bool.and_true,D1Z,D1T];exact ha
 simp only [e1,(R7 w c n).2 ⟨h.1,h.2.1,h.2.2.1⟩,(Q1 k).2 h.2.2.2,e];exact ⟨rfl,rfl⟩
theorem C7m {w k c n:Int} (h:A2H w k c n):A4m w k c n=(⟨w,k,c,n,0, []⟩,0)/\B58 w k c n=(⟨w,k,c,n,0, []⟩,0):=by
 unfold A4m B58;simp only [(B2R w k c n).2 h,(R7 w c n).2 ⟨h.1,h.2.1,h.2.2.1⟩,(Q1 k).2 h.2.2.2];exact ⟨rfl,rfl⟩
theorem C9k {p n:Int} (hp:0<=p/\p<=4) (hn:0<=n/\n<=16777216):B8A p n=some (⟨p,n,n,List.replicate (p+1).toNat ⟨0,0⟩⟩,0)/\B1m p n=some (⟨p,n,n,List.replicate (p+1).toNat ⟨0,0⟩⟩,0):=by
 have h:B1m p n=some (⟨p,n,n,List.replicate (p+1).toNat ⟨0,0⟩⟩,0):=by
  unfold B1m;have e:(((decide (p<(0:Int)))||(decide (p>(4:Int))))||(!(I1 n)))=false:=by
   rw [(A0P n).2 hn];simp;omega
  simp only [e,D1U,F4 (n:=p+1) (by omega) (by omega)]
  rw [D1W (by omega),Z3]
 exact ⟨h,h⟩
theorem C8v {w n:Int} (hw:1<=w/\w<=64) (hn:0<=n/\n<=16777216):B1g w n=some (⟨n,List.replicate w.toNat 0⟩,0)/\B6a w n=some (⟨n,List.replicate w.toNat 0⟩,0):=by
 unfold B1g B6a;have e1:((((decide (w<(1:Int)))||(decide (w>(64:Int))))||(decide (n<(0:Int))))||(decide (n>(16777216:Int))))=false:=by simp;omega
 have e2:(((decide (w<(1:Int)))||(decide (w>(64:Int))))||(!(I1 n)))=false:=by
  rw [(A0P n).2 hn];simp;omega
 simp only [e1,e2,D1U];rw [D1W (by omega),Z3]
 exact ⟨rfl,rfl⟩
theorem C5D {m:Bool} {w c n:Int} (h1:1<=w/\w<=1048576) (h2:1<=c/\c<=65536) (h3:0<=n/\n<=16777216):A21 m w c n=(⟨m,w,c,n, []⟩,0)/\B6b m w c n=(⟨m,w,c,n, []⟩,0):=by
 unfold A21 B6b;simp only [C4e,(R7 w c n).2 ⟨h1,h2,h3⟩];exact ⟨rfl,rfl⟩
theorem C7k {n w c:Int} (hn:1<=n/\n<=16) (hw:1<=w/\w<=1048576) (hc:1<=c/\c<=64):A9I n w c=some (⟨List.replicate n.toNat ⟨w,c,0,0, []⟩⟩,0)/\B6d n w c=some (⟨List.replicate n.toNat ⟨w,c,0,0, []⟩⟩,0):=by
 have e:(decide (n<(1:Int))||decide (n>(16:Int)))=false:=by simp;omega
 have e2:P7 w c=(⟨w,c,0,0, []⟩,0):=by
  unfold P7;have:((((decide (w<(1:Int)))||(decide (w>(1048576:Int))))||(decide (c<(1:Int))))||(decide (c>(64:Int))))=false:=by simp;omega
  rw [this,D1U]
 unfold A9I B6d;rw [e,D1U,D1U,D1r n w c hn.1 hn.2,D0Y n w c hn.1 hn.2,<-C9j,e2];exact ⟨rfl,rfl⟩
theorem C5E {k c:Int} (hk:1<=k/\k<=64) (hc:2<=c/\c<=65536):A27 k c=(⟨k,c,0, []⟩,0)/\A0O k c=(⟨k,c,0, []⟩,0):=by
 unfold A27 A0O;have e1:((((decide (k<(1:Int)))||(decide (k>(64:Int))))||(decide (c<(2:Int))))||(decide (c>(65536:Int))))=false:=by simp;omega
 have e2:(((!(J3 k))||(decide (c<(2:Int))))||(decide (c>(65536:Int))))=false:=by
  rw [(Q1 k).2 hk];simp;omega
 simp only [e1,e2,D1U];exact ⟨trivial,trivial⟩
theorem C4h {w k c n:Int} (h:A2H w k c n):A2f w k c n=(⟨w,k,c,n, []⟩,0)/\B6g w k c n=(⟨w,k,c,n, []⟩,0):=by
 unfold A2f B6g;simp only [(A4H w k c n).2 h,(R7 w c n).2 ⟨h.1,h.2.1,h.2.2.1⟩,(Q1 k).2 h.2.2.2];exact ⟨rfl,rfl⟩
theorem D0Z {c:E9} {now:Int} (hc:A5S c) (hn:0<=now/\now<=16777216):A3H c now=some (B8z c now,0)/\C1X c now=some (B8z c now,0):=by
 unfold A3H C1X;have et:A5j now=true:=(A0P now).2 hn;simp only [B1c,B29,C7G hc,et,(A0P now).2 hn,D2u,D13,D1U];obtain ⟨k,agg,w,kk,cap,p,ch,mx⟩:=c;have hc' :=hc;unfold A5S at hc';simp only [] at hc';have:k=1\/k=2\/k=3\/k=4\/k=5\/k=6\/k=7\/k=8\/k=9\/k=10\/k=11:=by omega
 rcases this with h|h|h|h|h|h|h|h|h|h|h<;>subst h<;>simp only [Int.reduceBEq,beq_self_eq_true,D1V,D1U]
 ·obtain ⟨e1,e2⟩:=C7j (w:=w) (c:=cap) (n:=now) (by omega) (by omega) hn
  rw [e1,e2];exact ⟨rfl,rfl⟩
 ·obtain ⟨e1,e2⟩:=C8u (w:=w) (k:=kk) (c:=cap) (n:=now) ⟨by omega,by omega,hn,by omega⟩
  rw [e1,e2];exact ⟨rfl,rfl⟩
 ·obtain ⟨e1,e2⟩:=D0k (w:=w) (k:=kk) (c:=cap) (n:=now) (m:=mx) ⟨by omega,by omega,hn,by omega⟩ (by omega)
  rw [e1,e2];exact ⟨rfl,rfl⟩
 ·obtain ⟨e1,e2⟩:=C7l (a:=agg) (w:=w) (k:=kk) (c:=cap) (n:=now) ⟨by omega,by omega,hn,by omega⟩ (by omega)
  rw [e1,e2];exact ⟨rfl,rfl⟩
 ·obtain ⟨e1,e2⟩:=C7m (w:=w) (k:=kk) (c:=cap) (n:=now) ⟨by omega,by omega,hn,by omega⟩
  rw [e1,e2];exact ⟨rfl,rfl⟩
 ·obtain ⟨e1,e2⟩:=C9k (p:=p) (n:=now) (by omega) hn
  rw [e1,e2];exact ⟨rfl,rfl⟩
 ·obtain ⟨e1,e2⟩:=C8v (w:=w) (n:=now) (by omega) hn
  rw [e1,e2];exact ⟨rfl,rfl⟩
 ·obtain ⟨e1,e2⟩:=C5D (m:=(mx==1)) (w:=w) (c:=cap) (n:=now) (by omega) (by omega) hn
  rw [e1,e2];exact ⟨rfl,rfl⟩
 ·obtain ⟨e1,e2⟩:=C7k (n:=ch) (w:=w) (c:=cap) (by omega) (by omega) (by omega)
  rw [e1,e2];exact ⟨rfl,rfl⟩
 ·obtain ⟨e1,e2⟩:=C5E (k:=kk) (c:=cap) (by omega) (by omega)
  rw [e1,e2];exact ⟨rfl,rfl⟩
 ·obtain ⟨e1,e2⟩:=C4h (w:=w) (k:=kk) (c:=cap) (n:=now) ⟨by omega,by omega,hn,by omega⟩
  rw [e1,e2];exact ⟨rfl,rfl⟩
theorem D0j {c:E9} {now:Int} (hc:A5S c) (hn:0<=now/\now<=16777216):A2Q (B8z c now):=by
 have i64: ∀ {n:Int},-9223372036854775808<=n/\n<=9223372036854775807->F1 .i64 n:=by
  intro n h;simp [F1,Lit.wf,IntKind.min,IntKind.max,IntKind.signed,IntKind.bits];omega
 have z:F1 .i64 0:=i64 (by omega)
 have hc' :=hc;unfold A5S at hc';have i1:F1 .i64 c.Bi:=i64 (by omega)
 have i2:F1 .i64 c.Bo:=i64 (by omega)
 have i3:F1 .i64 c.W:=i64 (by omega)
 have i4:F1 .i64 c.K:=i64 (by omega)
 have i5:F1 .i64 c.Cap:=i64 (by omega)
 have i6:F1 .i64 c.P:=i64 (by omega)
 have i7:F1 .i64 c.Am:=i64 (by omega)
 have i8:F1 .i64 c.Bs:=i64 (by omega)
 have i9:F1 .i64 now:=i64 (by omega)
 have nl: ∀ {α:Type} {wf:α->Prop},A1K wf ([]:List α):=⟨Nat.zero_le _,fun y h=>by cases h⟩
 have hz:F1 .u64 0:=by simp [F1,Lit.wf,IntKind.min,IntKind.max,IntKind.signed,IntKind.bits]
 have ite: ∀ {α:Type} {wf:α->Prop} {p:Prop} [Decidable p] {a b:α},wf a->wf b->wf (if p then a else b):=by
  intro α wf p _ a b ha hb;split<;>assumption
 refine ⟨⟨i1,i2,i3,i4,i5,i6,i7,i8⟩,ite (wf:=B3p) ?_ ?_,ite (wf:=B4L) ?_ ?_,ite (wf:=B7W) ?_ ?_,ite (wf:=B3r) ?_ ?_,ite (wf:=B3s) ?_ ?_, ?_, ?_,ite (wf:=B1C) ?_ ?_, ?_,ite (wf:=B1D) ?_ ?_,ite (wf:=B0U) ?_ ?_⟩
 ·exact ⟨i3,i5,i9,nl⟩
 ·exact ⟨z,z,z,nl⟩
 ·exact ⟨i3,i4,i5,i9,nl⟩
 ·exact ⟨z,z,z,z,nl⟩
 ·exact ⟨i3,i4,i5,i8,i9,nl⟩
 ·exact ⟨z,z,z,z,z,nl⟩
 ·exact ⟨i2,i3,i4,i5,i9,z,nl⟩
 ·exact ⟨z,z,z,z,z,z,nl⟩
 ·exact ⟨i3,i4,i5,i9,z,nl⟩
 ·exact ⟨z,z,z,z,z,nl⟩
 ·show B6z (if c.Bi=6 then _ else _)
  by_cases h:c.Bi=6
  ·rw [if_pos h];refine ⟨i6,i9,i9, ?_,fun y hy=> ?_⟩
   ·rw [D2R];omega
   ·rw [List.eq_of_mem_replicate hy];exact ⟨hz,hz⟩
  ·rw [if_neg h];exact ⟨z,z,z,nl⟩
 ·show B4M (if c.Bi=7 then _ else _)
  by_cases h:c.Bi=7
  ·rw [if_pos h];refine ⟨i9, ?_,fun y hy=> ?_⟩
   ·rw [D2R];omega
   ·rw [List.eq_of_mem_replicate hy];exact z
  ·rw [if_neg h];exact ⟨z,nl⟩
 ·exact ⟨trivial,i3,i5,i9,nl⟩
 ·exact ⟨trivial,z,z,z,nl⟩
 ·show B3q (if c.Bi=9 then _ else _)
  by_cases h:c.Bi=9
  ·rw [if_pos h];refine ⟨?_,fun y hy=> ?_⟩
   ·rw [D2R];omega
   ·rw [List.eq_of_mem_replicate hy];exact ⟨i3,i5,z,z,nl⟩
  ·rw [if_neg h];exact nl
 ·exact ⟨i4,i5,z,nl⟩
 ·exact ⟨z,z,z,nl⟩
 ·exact ⟨i3,i4,i5,i9,nl⟩
 ·exact ⟨z,z,z,z,nl⟩
end Go.Win
namespace Go.Win
open Go.Vc Go.Dec
theorem C7H (l:List D0) (n:Int):B3l l n=true↔I1 n=true/\(∀p∈l,0<=p.T/\p.T<=n)/\l.Pairwise (fun a b=>a.T<=b.T):=by
 unfold B3l;rw [D1Z,D2d];constructor
 ·rintro ⟨h1,h2⟩;have hno: ∀i,i<l.length->B1I l n i=false:=fun i hi=>by
   cases h:B1I l n i with
   |false=>rfl
   |true=>rw [A6X.2 ⟨i,hi,h⟩] at h2;cases h2
  refine ⟨h1,fun p hp=> ?_, ?_⟩
  ·obtain ⟨i,hi,rfl⟩:=List.mem_iff_getElem.1 hp;have:=hno i hi;simp only [B1I,M9 hi,D2r,D18] at this;omega
  ·rw [List.pairwise_iff_getElem];intro i j hi hj hij;have adj: ∀k (hk:k+1<l.length),l[k].T<=l[k+1].T:=fun k hk=>by
    have:=hno (k+1) hk;simp only [B1I,M9 hk,D2y,M9 (show k<l.length by omega),Nat.succ_pos,decide_true,D2s,D2r,D18] at this
    omega
   have key: ∀d (hd:i+d<l.length),l[i].T<=l[i+d].T:=by
    intro d
    induction d with
    |zero=>intro _;exact Int.le_refl _
    |succ d ih=>
     intro hd;exact Int.le_trans (ih (by omega)) (adj (i+d) hd)
   have:=key (j-i) (by omega)
   have e:i+(j-i)=j:=by omega
   simpa [e] using this
 ·rintro ⟨h1,h2,h3⟩;refine ⟨h1, ?_⟩;cases hc:(List.range l.length).any (B1I l n) with
  |false=>rfl
  |true=>
   exfalso;obtain ⟨i,hi,hb⟩:=A6X.1 hc;have:=h2 l[i] (D2G hi);simp only [B1I,M9 hi,D12,D1Z,D1T] at hb;rcases hb with (hb|hb)|⟨hb,hb2⟩
   ·omega
   ·omega
   ·rw [M9 (show i-1<l.length by omega)] at hb2
    simp only [D1T] at hb2;have:=List.pairwise_iff_getElem.1 h3 (i-1) i (by omega) hi (by omega)
    omega
theorem D0l (x:C6):okV x=true↔(1<=x.W/\x.W<=1048576)/\(1<=x.Cap/\x.Cap<=65536)/\I1 x.Now=true/\(x.Bb.length:Int)<=x.Cap/\(∀p∈x.Bb,0<=p.T/\p.T<=x.Now/\p.T>x.Now-x.W/\J9 p.V=true)/\x.Bb.Pairwise (fun a b=>a.T<=b.T):=by
 unfold okV;rw [D1Z,D1Z,D1Z,C7H,D2t,D1T];have hm:J4 x.W x.Cap x.Now=true↔(1<=x.W/\x.W<=1048576)/\(1<=x.Cap/\x.Cap<=65536)/\I1 x.Now=true:=by
  unfold J4 R2;simp only [D1Z,D1T];constructor
  ·rintro ⟨⟨⟨⟨a,b⟩,c⟩,d⟩,e⟩;exact ⟨⟨a,b⟩,⟨c,d⟩,e⟩
  ·rintro ⟨⟨a,b⟩,⟨c,d⟩,e⟩;exact ⟨⟨⟨⟨a,b⟩,c⟩,d⟩,e⟩
 rw [hm];constructor
 ·rintro ⟨⟨⟨h1,h2,h3⟩,h4⟩,⟨_,h6,h7⟩,h8⟩;refine ⟨h1,h2,h3,h4,fun p hp=> ?_,h7⟩;have a:=h6 p hp;have b:=h8 p hp;unfold H6 at b;unfold I1 at h3;simp only [D1Z,D1T] at b h3;have e:A2 (x.Now-x.W)=x.Now-x.W:=by rw [F4]<;>omega
  rw [e] at b;exact ⟨a.1,a.2,b.1.1.2,b.2⟩
 ·rintro ⟨h1,h2,h3,h4,h5,h6⟩;refine ⟨⟨⟨h1,h2,h3⟩,h4⟩,⟨h3,fun p hp=>⟨(h5 p hp).1,(h5 p hp).2.1⟩,h6⟩,fun p hp=> ?_⟩;obtain ⟨a,b,c,d⟩:=h5 p hp;have h3' :=h3;unfold I1 at h3';simp only [D1Z,D1T] at h3';have e:A2 (x.Now-x.W)=x.Now-x.W:=by rw [F4]<;>omega
  unfold H6 R2;rw [e];have ht:I1 p.T=true:=by
   unfold I1;simp only [D1Z,D1T];omega
  simp only [D1Z,D1T,h3,ht,d,true_and,and_true];omega
end Go.Win
namespace Go.Win
open Go.Vc Go.Dec
theorem A17 {α:Type} [Inhabited α] {n:Nat} {a:α} {i:Nat} (h:i<n):el (List.replicate n a) i=a:=by
 rw [B9d (by rw [D2R];exact h),List.getElem_replicate]
theorem D0z:wv ⟨0,0⟩=0:=rfl
theorem D0i {c:E9} {now:Int} (hc:A5S c) (hn:0<=now/\now<=16777216):C4j (B8z c now):=by
 have hc' :=hc;unfold A5S at hc';refine ⟨hc, ?_, ?_⟩
 ·have:c.Bi=1\/c.Bi=2\/c.Bi=3\/c.Bi=4\/c.Bi=5\/c.Bi=6\/c.Bi=7\/c.Bi=8\/c.Bi=9\/c.Bi=10\/c.Bi=11:=by omega
  unfold B3b B8z;have no: ∀ {α:Type} {p:Nat->Prop},∀i,i<([]:List α).length->p i:=fun i h=>absurd h (Nat.not_lt_zero i);have bk0: ∀ {k:Int},1<=k/\k<=128->A67 [] k:=fun h=>⟨h,no,fun h=>absurd h (Nat.not_lt_zero 0)⟩;have mk0: ∀ {a b d e:Int},A26 [] 0 a b d e:=⟨by omega,no,fun h=>absurd h (Nat.not_lt_zero 0)⟩
  have w0:A2 (A0K [])=0:=rfl;rcases this with h|h|h|h|h|h|h|h|h|h|h<;>simp only [h,Int.reduceEq,if_true,if_false,false_and,false_or,or_false,true_and,and_true]
  ·rw [D0l];refine ⟨by (try dsimp only);omega,by (try dsimp only);omega,(A0P _).2 hn, ?_,fun p hp=>(by cases hp),List.Pairwise.nil⟩
   show (0:Int)<=c.Cap;omega
  ·exact ⟨⟨by (try dsimp only);omega,by (try dsimp only);omega,hn,by (try dsimp only);omega⟩,bk0 (by (try dsimp only);omega),by (try dsimp only);rw [w0];omega,no⟩
  ·exact ⟨⟨⟨by (try dsimp only);omega,by (try dsimp only);omega,hn,by (try dsimp only);omega⟩,bk0 (by (try dsimp only);omega),by (try dsimp only);rw [w0];omega,no⟩,by (try dsimp only);omega⟩
  ·exact ⟨by (try dsimp only);omega,⟨by (try dsimp only);omega,by (try dsimp only);omega,hn,by (try dsimp only);omega⟩,mk0,no⟩
  ·exact ⟨⟨by (try dsimp only);omega,by (try dsimp only);omega,hn,by (try dsimp only);omega⟩,mk0,fun i _ h=>absurd h (Nat.not_lt_zero i)⟩
  ·refine ⟨⟨by (try dsimp only);omega,hn,by (try dsimp only);omega,by (try dsimp only);rw [D2R];omega⟩,fun i h1 h2=> ?_⟩
   have h2' :(i:Int)<=c.P:=h2;simp only [];rw [A17 (by (try dsimp only);omega),A17 (by (try dsimp only);omega),D0z]
   omega
  ·refine ⟨⟨⟨by (try dsimp only);rw [D2R];omega,hn⟩,fun i hi=> ?_⟩,by (try dsimp only);rw [D2R];omega⟩
   simp only [D2R] at hi;simp only [];rw [A17 hi];omega
  ·exact ⟨⟨⟨by (try dsimp only);omega,by (try dsimp only);omega,hn⟩,by show (0:Int)<=c.Cap;omega⟩,no⟩
  ·have h0:0<c.Am.toNat:=by omega
   rw [A17 h0,D2R];refine ⟨?_,by omega,rfl,rfl⟩
   unfold B5Z P4;have e:(decide (((⟨List.replicate c.Am.toNat ⟨c.W,c.Cap,0,0, []⟩⟩:F0).Am.length:Int)<1)||decide (((⟨List.replicate c.Am.toNat ⟨c.W,c.Cap,0,0, []⟩⟩:F0).Am.length:Int)>16))=false:=by
    simp only [D2R];simp;omega
   rw [e,D1U];unfold A1G;refine (M4 (f:=fun s:Int=>P8 ⟨List.replicate c.Am.toNat ⟨c.W,c.Cap,0,0, []⟩⟩ s) c.Am.toNat (fun _=>False) 2 (some 0) (fun i hi _=>⟨fun h=>h.elim,fun _=> ?_⟩) (fun _=> ?_)).2 fun _ _ h=>h
   ·unfold P8;have ec:N8 ⟨c.W,c.Cap,0,0, []⟩=some 0:=by
     unfold N8;have:(((((((decide (c.W<(1:Int)))||(decide (c.W>(1048576:Int))))||(decide (c.Cap<(1:Int))))||(decide (c.Cap>(64:Int))))||(decide ((0:Int)<(0:Int))))||(decide ((0:Int)>(1099511627776:Int))))||(decide ((([]:List H0).length:Int)>c.Cap)))=false:=by
      rw [D17];simp only [D12,D1T,Ne,D2n];omega
     simp only [this,D1U]
     rfl
    have h16:c.Am.toNat<=16:=by omega
    have es:A2 ((i:Int)+1)=((i+1:Nat):Int):=by rw [F4]<;>omega
    have e1:D3 (List.replicate c.Am.toNat (⟨c.W,c.Cap,0,0, []⟩:B8)) (i:Int)=some ⟨c.W,c.Cap,0,0, []⟩:=by rw [I7 (by rw [D2R];exact hi),A17 hi]
    have e0:D3 (List.replicate c.Am.toNat (⟨c.W,c.Cap,0,0, []⟩:B8)) (0:Int)=some ⟨c.W,c.Cap,0,0, []⟩:=by rw [A63 (by rw [D2R];exact h0),A17 h0]
    have e2:decide ((i:Int)<((List.replicate c.Am.toNat (⟨c.W,c.Cap,0,0, []⟩:B8)).length:Int))=true:=D1W (by rw [D2R];omega)
    simp only [e2,D1V,e0,e1,D1R,ec,D2u,Bool.or_false,D1U,es]
   ·unfold P8;have e2:decide ((c.Am.toNat:Int)<((List.replicate c.Am.toNat (⟨c.W,c.Cap,0,0, []⟩:B8)).length:Int))=false:=D1Y (by rw [D2R];omega)
    simp only [e2,D1U]
  ·exact ⟨⟨by (try dsimp only);omega,by (try dsimp only);omega,by show (0:Int)<=0/\(0:Int)<=1099511627776;omega,by show (0:Int)<=c.Cap;omega⟩,⟨fun _=>rfl,fun _=>rfl⟩,no,fun h=>absurd h (Nat.not_lt_zero 0)⟩
  ·refine ⟨⟨by (try dsimp only);omega,by (try dsimp only);omega,hn,by (try dsimp only);omega⟩,fun b hb=> ?_,by show A2 (A0K [])<=c.Cap;rw [w0];omega,no⟩
   obtain ⟨b',_,b2,b3⟩:=C03 (k:=c.K) (c:=c.Cap) (by (try dsimp only);omega) (by (try dsimp only);omega)
   have hb' :A6c c.K c.Cap=some b:=hb;rw [b2] at hb';cases hb';exact ⟨b3,bk0 (by (try dsimp only);omega),no⟩
 ·unfold A68 B8z;refine ⟨?_, ?_, ?_, ?_, ?_, ?_, ?_, ?_, ?_, ?_, ?_⟩
  all_goals
   intro h;simp only [] at h;rw [if_neg h]
  ·exact ⟨rfl,rfl,rfl,rfl⟩
  ·exact ⟨rfl,rfl,rfl,rfl,rfl⟩
  ·exact ⟨rfl,rfl,rfl,rfl,rfl,rfl⟩
  ·exact ⟨rfl,rfl,rfl,rfl,rfl,rfl,rfl⟩
  ·exact ⟨rfl,rfl,rfl,rfl,rfl,rfl⟩
  ·exact ⟨rfl,rfl,rfl,rfl⟩
  ·exact ⟨rfl,rfl⟩
  ·exact ⟨rfl,rfl,rfl,rfl,rfl⟩
  ·exact rfl
  ·exact ⟨rfl,rfl,rfl,rfl⟩
  ·exact ⟨rfl,rfl,rfl,rfl,rfl⟩
end Go.Win
namespace Go.Win
open Go.Vc Go.Dec
theorem C8R:Q3 [] 1=some true:=by
 have:A0D [] 0=some true:=by
  unfold A0D;exact O8 rfl
 unfold Q3;have c:(((decide ((1:Int)<(1:Int)))||(decide ((1:Int)>(64:Int))))||(decide ((([]:List D1).length:Int)>(1:Int))))=false:=rfl
 rw [c,D1U,this]
theorem D1u:S2 ⟨0,1, []⟩=some 0:=by
 have:X7 ⟨0,1, []⟩ 0=some 0:=by
  unfold X7;exact O8 rfl
 unfold S2;show Option.bind (gd true (Q3 [] 1)) _=_;rw [H7,C8R,D1R];exact this
theorem D09 {S:B0} (hS:K6 S=some 0):Q3 [⟨7,S⟩] 1=some true:=by
 have:A0D [⟨7,S⟩] 0=some true:=by
  unfold A0D;have s0:A3E [⟨7,S⟩] 0=some (.inl 1):=by
   unfold A3E;have c:decide ((0:Int)<(([⟨7,S⟩]:List D1).length:Int))=true:=rfl;have i:D3 ([⟨7,S⟩]:List D1) 0=some ⟨7,S⟩:=rfl;have d1:decide ((7:Int)<0)=false:=rfl;have d2:decide ((7:Int)>1048576)=false:=rfl;have d3:decide ((0:Int)>0)=false:=rfl;simp only [c,D1V,i,D1R,d1,d2,d3,Bool.and_false,Bool.or_false,H5,D14,H7,hS,D2m,D2u,D1U]
   rfl
  rw [A66 s0];exact O8 rfl
 unfold Q3;have c:(((decide ((1:Int)<(1:Int)))||(decide ((1:Int)>(64:Int))))||(decide ((([⟨7,S⟩]:List D1).length:Int)>(1:Int))))=false:=rfl
 rw [c,D1U,this]
theorem D1v {S:B0} (hS:K6 S=some 0) (hc:(A2o S).1=0):S2 ⟨0,1, [⟨7,S⟩]⟩=some 0:=by
 have:X7 ⟨0,1, [⟨7,S⟩]⟩ 0=some 0:=by
  unfold X7;have s0:A2n ⟨0,1, [⟨7,S⟩]⟩ 0=some (.inl 1):=by
   unfold A2n;have c:decide ((0:Int)<(([⟨7,S⟩]:List D1).length:Int))=true:=rfl;have i:D3 ([⟨7,S⟩]:List D1) 0=some ⟨7,S⟩:=rfl;simp only [c,D1V,i,D1R,hc,D2u,Bool.and_false,D1U]
   rfl
  rw [A66 s0];exact O8 rfl
 unfold S2;show Option.bind (gd true (Q3 [⟨7,S⟩] 1)) _=_;rw [H7,D09 hS,D1R];exact this
theorem D1m:A0z [] 7=some (0,false):=by
 have:A4l (([]:List D1).length:Int) [] 7=some 0:=by
  unfold A4l A9e;exact O8 rfl
 unfold A0z;rw [this]
 rfl
theorem D0g {S:B0} (hS:K6 S=some 0):A3m [] 1 ⟨7,S⟩=some ([⟨7,S⟩],0):=by
 unfold A3m;rw [C8R,D1R];show Option.bind (gd true (K6 S)) _=_;rw [H7,hS,D1R];have d1:decide ((7:Int)<0)=false:=rfl;have d2:decide ((7:Int)>1048576)=false:=rfl;have d3:((([]:List D1).length:Int)==1)=false:=rfl;have d4:decide ((0:Int)<=0/\(0:Int)<=(([]:List D1).length:Int))=true:=rfl;simp only [D13,D2i,D2u,D1U,d1,d2,d3,d4,D1m,D1R,Bool.or_self,Z3,D2n,List.take_nil,List.drop_nil,List.append_nil,List.nil_append,D2w]
 rfl
theorem D1G {S:B0}:A3D [⟨7,S⟩]=some [7]:=by
 unfold A3D B1o;have s0:A2K [⟨7,S⟩] [] 0=some (.inl ([7],1)):=rfl;rw [A66 (f:=fun s:List Int×Int=>A2K [⟨7,S⟩] s.1 s.2) (s:=([],0)) s0];exact O8 rfl
def B3v:E5:=⟨⟨⟨0,0⟩,⟨0,0⟩,⟨0,0⟩⟩, [],⟨⟨0,0⟩,⟨0,0⟩⟩⟩
def c6:E9:=⟨6,0,0,0,0,0,0,0⟩
def s6:B0:=B8z c6 0
theorem C6R:A5S c6:=by unfold A5S c6;simp
theorem C90:K6 s6=some 0:=by
 have hw:=D0j C6R (now:=0) (by decide)
 have:=(B7k _ hw).1;rw [U1 (D0i C6R (by decide))] at this
 exact this
theorem C26:V3 ⟨0,1, []⟩ ⟨1,7,c6,0,0, [],⟨0,0,0⟩, []⟩=some (⟨0,1, [⟨7,s6⟩]⟩,⟨0,B3v, [], []⟩):=by
 unfold V3;rw [D1u,D1R];show Option.bind (Y8 ⟨⟨0,1, []⟩,⟨1,7,c6,0,0, [],⟨0,0,0⟩, []⟩,⟨0,B3v, [], []⟩⟩) _=_;have:Y8 ⟨⟨0,1, []⟩,⟨1,7,c6,0,0, [],⟨0,0,0⟩, []⟩,⟨0,B3v, [], []⟩⟩=some (0,⟨⟨0,1, [⟨7,s6⟩]⟩,⟨1,7,c6,0,0, [],⟨0,0,0⟩, []⟩,⟨0,B3v, [], []⟩⟩):=by
  unfold Y8;have d1:decide ((7:Int)<0)=false:=rfl;have d2:decide ((7:Int)>1048576)=false:=rfl;have e1:A3H c6 0=some (s6,0):=(D0Z C6R (now:=0) (by decide)).1
  simp only [d1,d2,Bool.or_self,D1U,e1,D1R,D2u,D0g C90]
 rw [this]
 rfl
theorem C6P:V3 ⟨0,1, [⟨7,s6⟩]⟩ ⟨6,0,⟨0,0,0,0,0,0,0,0⟩,0,0, [],⟨0,0,0⟩, []⟩=some (⟨0,1, [⟨7,s6⟩]⟩,⟨0,B3v, [7], []⟩):=by
 unfold V3;rw [D1v C90 (by rfl),D1R]
 show Option.bind (A1T ⟨⟨0,1, [⟨7,s6⟩]⟩,⟨6,0,⟨0,0,0,0,0,0,0,0⟩,0,0, [],⟨0,0,0⟩, []⟩,⟨0,B3v, [], []⟩⟩) _=_;unfold A1T;show Option.bind (Option.bind (A3D [⟨7,s6⟩]) _) _=_;rw [D1G]
 rfl
theorem C6g:A7C=some true:=by
 unfold A7C;show Option.bind (V3 ⟨0,1, []⟩ ⟨1,7,c6,0,0, [],⟨0,0,0⟩, []⟩) _=_;rw [C26,D1R];show Option.bind (V3 ⟨0,1, [⟨7,s6⟩]⟩ ⟨6,0,⟨0,0,0,0,0,0,0,0⟩,0,0, [],⟨0,0,0⟩, []⟩) _=_;rw [C6P,D1R]
 rfl
theorem C91 (n l:Int):A9F ⟨n,l, []⟩ ⟨n,l, []⟩=some true:=by
 have:A9E [] []=some true:=by
  have i:A70 []=some []:=by
   unfold A70 B6h;exact O8 rfl
  have l:T8 [] [] 0=some true:=by
   unfold T8;exact O8 rfl
  have n:P9 [] []=some true:=by
   unfold P9;rw [l]
   rfl
  have k:A8v [] [] 0=some true:=by
   unfold A8v;exact O8 rfl
  unfold A9E;simp only [i,n,k,D1R,D13,D1U]
 unfold A9F;simp only [beq_self_eq_true,Bool.and_self,H7,this,D1R]
theorem B3O (p0:Int) (_:F1 .i64 p0):A50 p0=some true:=by
 unfold A50 A3U B1n;cases (decide (p0<(1:Int))||decide (p0>(64:Int))) with
 |true=>
  simp only [D1V,C91,D1R,beq_self_eq_true,Bool.and_self,H7,C6g]
 |false=>
  simp only [D1U,C91,D1R,beq_self_eq_true,Bool.and_self,H7,C6g]
end Go.Win
