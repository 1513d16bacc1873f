/- Plain laws of the functions on plain data. -/
import Derived.Test.YtoljnakoodalpaaGreatQa
set_option linter.unusedVariables false
set_option linter.unusedSimpArgs false
set_option linter.unnecessarySimpa false
set_option linter.unusedSectionVars false
namespace Go.Win
open Go.Vc Go.Dec
end Go.Win
namespace Go.Win
open Go.Vc Go.Dec
end Go.Win
namespace Go.Win
open Go.Vc Go.Dec
def A5b (l:List B1) (n:Int) (j:Nat):Prop:=(F1 l (j+1)).Be+(F1 l j).Bf<2*n
def A3L (e:B1) (n:Int):Int:=X0 (n-e.Bf) (e.Be-n)
theorem C8O (a b:Int):a<=X0 a b/\b<=X0 a b:=by
 show a<=(if b>a then b else a)/\b<=(if b>a then b else a)
 split<;>omega
theorem C8L {a b c:Int}:X0 a b<c↔a<c/\b<c:=by
 show (if b>a then b else a)<c↔_
 split<;>omega
section
variable {l:List B1} {N:Int} (h:OkR l N)
include h
theorem B7O: ∀ {i j:Nat},i<j->j<l.length->(F1 l i).V<=(F1 l j).V/\(F1 l i).Bf<(F1 l j).Bf/\(F1 l i).Be<(F1 l j).Be:=by
 intro i j hij hj
 induction j with
 |zero=>omega
 |succ j ih=>
  have h1:=h.up j hj;rcases Nat.lt_or_ge i j with hlt|hge
  ·have:=ih hlt (by omega)
   omega
  ·have:i=j:=by omega
   subst this;exact h1
theorem B2N {n:Int} {j:Nat} (hj:j+1<l.length):A5b l n j↔A3L (F1 l (j+1)) n<A3L (F1 l j) n:=by
 have h1:=h.up j hj;have h2:=C8O (n-(F1 l j).Bf) ((F1 l j).Be-n);unfold A5b A3L;rw [C8L];constructor
 ·intro hc;omega
 ·rintro ⟨g1,g2⟩
  by_cases hm:X0 (n-(F1 l j).Bf) ((F1 l j).Be-n)<=n-(F1 l j).Bf
  ·omega
  ·have:X0 (n-(F1 l j).Bf) ((F1 l j).Be-n)=(F1 l j).Be-n:=by
    show (if _>_ then _ else _)=_
    split
    ·rfl
    ·rename_i hh;exfalso;apply hm;show (if _>_ then _ else _)<=_
     rw [if_neg hh];omega
   omega
theorem B8N {n:Int} {j k:Nat} (hjk:j<=k) (hk:k+1<l.length) (hc:A5b l n k):A5b l n j:=by
 rcases Nat.lt_or_ge j k with hlt|hge
 ·have h1:=B7O h hlt (by omega)
  have h2:=B7O h (show j+1<k+1 by omega) hk
  unfold A5b at hc⊢;omega
 ·have:j=k:=by omega
  subst this;exact hc
omit h in
theorem C3T {n n' :Int} {j:Nat} (hn:n<=n') (hc:A5b l n j):A5b l n' j:=by
 unfold A5b at hc⊢;omega
structure A6q (l:List B1) (n:Int) (k:Nat):Prop where
 lt:k<l.length
 low: ∀j,j<k->A5b l n j
 stop:k+1<l.length-> ¬A5b l n k
omit h in
theorem B4K {n:Int} {k k' :Nat} (hk:A6q l n k) (hk':A6q l n k'):k=k' :=by
 rcases Nat.lt_trichotomy k k' with hlt|rfl|hgt
 ·exact absurd (hk'.low k hlt) (hk.stop (by have:=hk'.lt;omega))
 ·rfl
 ·exact absurd (hk.low k' hgt) (hk'.stop (by have:=hk.lt;omega))
omit h in
theorem C5g {n n' :Int} {k k' :Nat} (hn:n<=n') (hk:A6q l n k) (hk':A6q l n' k'):k<=k' :=by
 rcases Nat.lt_or_ge k' k with hlt|hge
 ·exact absurd (C3T hn (hk.low k' hlt)) (hk'.stop (by have:=hk.lt;omega))
 ·exact hge
theorem B1H {n:Int} (hn:1<=n/\n<=N) {i:Nat} (hi:i<l.length):A58 (F1 l i) n=A3L (F1 l i) n:=by
 have h1:=h.rng i hi;have h2:=h.n1;unfold A58 A3L;rw [C6 (by omega) (by omega),C6 (by omega) (by omega)]
theorem B03 {n:Int} (hn:1<=n/\n<=N) (hl:l.length<=1048576) {f:Nat} (hf:f<l.length) (hlow:∀j,j<f->A5b l n j): ∃k,f<=k/\A6q l n k/\A4F l n (f:Int)=some (k:Int):=by
 have hm:l.length<=maxLen:=by rw [I1];omega
 unfold A4F B3I;obtain ⟨r,hr,k,h1,h2,hQ⟩:=T2 (f:=fun s:Int=>A7t l n s)
  (fun s=> ∃k:Nat,f<=k/\k<l.length/\(∀j,j<k->A5b l n j)/\s=(k:Int))
  (fun s=>l.length-s.toNat) (fun r=> ∃k,f<=k/\A6q l n k/\r=(k:Int)) (f:Int) ⟨f,D1G _,hf,hlow,rfl⟩ (by
   rintro _ ⟨k,hfk,hk,hlw,rfl⟩;unfold A7t;have e1:A2 ((k:Int)+1)=((k+1:Nat):Int):=by rw [I1] at hm;rw [C6]<;>omega
   rw [e1]
   by_cases hlt:k+1<l.length
   ·rw [D03 (by omega:((k+1:Nat):Int)<(l.length:Int)),G8,G8,O2 hlt,O2 hk]
    simp only [D0Y,D1z];rw [B1H h hn hlt,B1H h hn hk]
    by_cases hc:A5b l n k
    ·left;rw [D03 ((B2N h hlt).1 hc),D02];refine ⟨_,rfl,⟨k+1,by omega,hlt,fun j hj=> ?_,rfl⟩,by show l.length-(((k+1:Nat):Int)).toNat<l.length-(k:Int).toNat;omega⟩
     exact B8N h (by omega) hlt hc
    ·right;rw [D05 (fun hx=>hc ((B2N h hlt).2 hx)),D01];exact ⟨_,rfl,k,hfk,⟨hk,hlw,fun _=>hc⟩,rfl⟩
   ·right;rw [D05 (by omega: ¬((k+1:Nat):Int)<(l.length:Int))]
    simp only [G2,D0Y,D1t,D01];exact ⟨_,rfl,k,hfk,⟨hk,hlw,fun hx=>absurd hx hlt⟩,rfl⟩)
 exact ⟨k,h1,h2,by rw [hr,hQ]⟩
theorem C8H {n:Int} {k:Nat} (hk:k<l.length) (hlow:∀j,j<k->A5b l n j): ∀j,j<k->A3L (F1 l k) n<A3L (F1 l j) n:=by
 intro j hj
 induction k with
 |zero=>omega
 |succ k ih=>
  have h1:=(B2N h hk).1 (hlow k (by omega))
  rcases Nat.lt_or_ge j k with hlt|hge
  ·have:=ih (by omega) (fun j hj=>hlow j (by omega)) hlt
   omega
  ·have:j=k:=by omega
   subst this;exact h1
theorem C7k {n:Int} {k:Nat} (hstop:k+1<l.length-> ¬A5b l n k): ∀j,k<=j->j<l.length->A3L (F1 l k) n<=A3L (F1 l j) n:=by
 intro j hkj hj
 induction j with
 |zero=>have:k=0:=by omega
        subst this;exact Int.le_refl _
 |succ j ih=>
  rcases Nat.lt_or_ge k (j+1) with hlt|hge
  ·have h1:=ih (by omega) (by omega)
   have h2: ¬A5b l n j:=fun hc=>hstop (by omega) (B8N h (by omega) hj hc)
   have h3: ¬A3L (F1 l (j+1)) n<A3L (F1 l j) n:=fun hx=>h2 ((B2N h hj).2 hx);omega
  ·have:k=j+1:=by omega
   subst this;exact Int.le_refl _
theorem B41 {n:Int} (hn:1<=n/\n<=N) (hl:l.length<=1048576) {k:Nat} (hk:A6q l n k):A8l l n=some (k:Int):=by
 have hm:l.length<=maxLen:=by rw [I1];omega
 have h0:0<l.length:=by have:=hk.lt;omega
 have fr: ∀i,i<l.length->X0 (A2 (n-(F1 l i).Bf)) (A2 ((F1 l i).Be-n))=A3L (F1 l i) n:=fun i hi=>B1H h hn hi;unfold A8l B4W;obtain ⟨r,hr,hQ⟩:=T2 (f:=fun s:Int×Int=>A8y l n s.1 s.2)
  (fun s=> ∃b i:Nat,i<=l.length/\b<l.length/\(∀j,j<i->A3L (F1 l b) n<=A3L (F1 l j) n)/\(∀j,j<b->A3L (F1 l b) n<A3L (F1 l j) n)/\s=((b:Int),(i:Int)))
  (fun s=>l.length-s.2.toNat) (fun r=>r=(k:Int)) (0,0) ⟨0,0,Nat.zero_le _,h0,fun j hj=>by omega,fun j hj=>by omega,rfl⟩ (by
   rintro _ ⟨b,i,hi,hb,h1,h2,rfl⟩;simp only;unfold A8y
   by_cases hlt:i<l.length
   ·left;simp only [Int.ofNat_lt,hlt,decide_true,D02,O2 hlt,O2 hb,D0Y,O9 hlt hm];rw [fr i hlt,fr b hb]
    by_cases hc:A3L (F1 l i) n<A3L (F1 l b) n
    ·rw [D03 hc,D02];refine ⟨_,rfl,⟨i,i+1,hlt,hlt,fun j hj=> ?_,fun j hj=> ?_,rfl⟩,by show l.length-((i:Int)+1).toNat<l.length-(i:Int).toNat;omega⟩
     ·rcases Nat.lt_or_ge j i with g|g
      ·have:=h1 j g;omega
      ·have:j=i:=by omega
       subst this;exact Int.le_refl _
     ·have:=h1 j hj;omega
    ·rw [D05 hc,D01];refine ⟨_,rfl,⟨b,i+1,hlt,hb,fun j hj=> ?_,h2,rfl⟩,by show l.length-((i:Int)+1).toNat<l.length-(i:Int).toNat;omega⟩
     rcases Nat.lt_or_ge j i with g|g
     ·exact h1 j g
     ·have:j=i:=by omega
      subst this;omega
   ·right;have hi2:i=l.length:=by omega
    subst hi2;rw [D05 (by omega),D01]
    refine ⟨_,rfl, ?_⟩;have g1:=C8H h hk.lt hk.low;have g2:=C7k h hk.stop;rcases Nat.lt_trichotomy b k with hbk|rfl|hbk
    ·have a1:=g1 b hbk;have a2:=h1 k hk.lt;omega
    ·rfl
    ·have a1:=h2 k hbk;have a2:=g2 b (by omega) hb
     omega)
 rw [hr,hQ]
omit h in
end
theorem B5Z {l:List B1} {N n:Int} (h:OkR l N) (hn:1<=n/\n<=N) (hl:l.length<=1048576): ∃k,A6q l n k/\A4F l n 0=some (k:Int)/\A8l l n=some (k:Int):=by
 have h0:0<l.length:=by
  rcases Nat.eq_zero_or_pos l.length with h0|h0
  ·have:=h.nil.1 h0;omega
  ·exact h0
 obtain ⟨k,_,h2,h3⟩:=B03 h hn hl h0 (fun j hj=>by omega)
 exact ⟨k,h2,h3,B41 h hn hl h2⟩
end Go.Win
namespace Go.Win
open Go.Vc Go.Dec
end Go.Win
namespace Go.Win
open Go.Vc Go.Dec
end Go.Win
namespace Go.Win
open Go.Vc Go.Dec
def T1 (l:List B1) (m:Nat):Int:=if m=0 then 0 else (F1 l (m-1)).Bf
def W1 (l:List B1) (N:Int) (m:Nat):Int:=if m<l.length then (F1 l m).Be-1 else N
theorem B34 {l:List B1} {N:Int} (h:OkR l N) {m:Nat} (h1:m<=l.length):0<=T1 l m/\T1 l m<=W1 l N m/\W1 l N m<=N:=by
 have n0:=h.n0;unfold T1 W1
 by_cases hm0:m=0
 ·subst hm0;rw [if_pos rfl]
  by_cases hl:0<l.length
  ·rw [if_pos hl,h.first hl];have:=h.rng 0 hl;omega
  ·rw [if_neg hl];omega
 ·rw [if_neg hm0];have g1:=h.rng (m-1) (by omega)
  by_cases hl:m<l.length
  ·rw [if_pos hl];have g2:=h.rng m hl;have g3:=h.up (m-1) (by omega)
   rw [show m-1+1=m by omega] at g3
   omega
  ·rw [if_neg hl];omega
end Go.Win
namespace Go.Win
open Go.Vc Go.Dec
def tk (A B:List B1) (p:Nat×Nat):Bool:=decide (p.2=B.length)||(decide (p.1<A.length)&&decide ((F1 A p.1).V<=(F1 B p.2).V))
def A0i (A B:List B1) (p:Nat×Nat):Nat×Nat:=cond (tk A B p) (p.1+1,p.2) (p.1,p.2+1)
def J3 (A B:List B1):Nat->Nat×Nat
 |0=>(0,0)
 |k+1=>A0i A B (J3 A B k)
def me (A B:List B1) (a b:Int) (k:Nat):B1:=
 ⟨cond (tk A B (J3 A B k)) (F1 A (J3 A B k).1).V (F1 B (J3 A B k).2).V,
  T1 A (J3 A B (k+1)).1+T1 B (J3 A B (k+1)).2,W1 A a (J3 A B k).1+W1 B b (J3 A B k).2+1⟩
def meL (A B:List B1) (a b:Int) (n:Nat):List B1:=(List.range n).map (me A B a b)
theorem N3 (A B:List B1) (a b:Int) (n:Nat):(meL A B a b n).length=n:=by unfold meL;simp
theorem C1z (A B:List B1) (a b:Int) (n:Nat):meL A B a b (n+1)=meL A B a b n++ [me A B a b n]:=by
 unfold meL;rw [List.range_succ,D1X]
 rfl
theorem C34 (A B:List B1) (a b:Int) {n i:Nat} (h:i<n):F1 (meL A B a b n) i=me A B a b i:=by
 unfold F1 meL;rw [D1U,D1x,List.getElem?_range h]
 rfl
theorem B2z {A B:List B1} {p:Nat×Nat} (h1:p.1<=A.length) (_:p.2<=B.length) (h3:p.1+p.2<A.length+B.length) (h:tk A B p=true):
  p.1<A.length/\(p.2<B.length->(F1 A p.1).V<=(F1 B p.2).V):=by
 unfold tk at h;simp only [D09,D06,D00] at h;rcases h with h|⟨h4,h5⟩
 ·exact ⟨by omega,fun g=>by omega⟩
 ·exact ⟨h4,fun _=>h5⟩
theorem B0t {A B:List B1} {p:Nat×Nat} (h2:p.2<=B.length) (h:tk A B p=false):
  p.2<B.length/\(p.1<A.length->(F1 B p.2).V<(F1 A p.1).V):=by
 unfold tk at h;simp only [D1y,D1P,D1f] at h;obtain ⟨h4,h5⟩:=h;refine ⟨by omega,fun g=> ?_⟩
 rcases h5 with h5|h5
 ·exact absurd g h5
 ·omega
theorem B7C (A B:List B1): ∀k,k<=A.length+B.length->(J3 A B k).1<=A.length/\(J3 A B k).2<=B.length/\(J3 A B k).1+(J3 A B k).2=k:=by
 intro k
 induction k with
 |zero=>intro _;exact ⟨Nat.zero_le _,Nat.zero_le _,rfl⟩
 |succ k ih=>
  intro hk;obtain ⟨i1,i2,i3⟩:=ih (by omega)
  show (A0i A B (J3 A B k)).1<=_/\(A0i A B (J3 A B k)).2<=_/\(A0i A B (J3 A B k)).1+(A0i A B (J3 A B k)).2=_;unfold A0i;cases ht:tk A B (J3 A B k) with
  |true=>
   have:=(B2z i1 i2 (by omega) ht).1
   simp only [D02];omega
  |false=>
   have:=(B0t i2 ht).1;simp only [D01];omega
theorem C98 {A B:List B1} {a b:Int} (hA:OkR A a) (hB:OkR B b): ∀k,k<=A.length+B.length->
  (∀j,j<(J3 A B k).2->(J3 A B k).1<A.length->(F1 B j).V<(F1 A (J3 A B k).1).V)/\
  (∀i,i<(J3 A B k).1->(J3 A B k).2<B.length->(F1 A i).V<=(F1 B (J3 A B k).2).V):=by
 intro k
 induction k with
 |zero=>intro _;exact ⟨fun j hj=>absurd hj (Nat.not_lt_zero _),fun i hi=>absurd hi (Nat.not_lt_zero _)⟩
 |succ k ih=>
  intro hk;obtain ⟨i1,i2,i3⟩:=B7C A B k (by omega)
  obtain ⟨j1,j2⟩:=ih (by omega)
  rw [show J3 A B (k+1)=A0i A B (J3 A B k) from rfl];unfold A0i;cases ht:tk A B (J3 A B k) with
  |true=>
   obtain ⟨t1,t2⟩:=B2z i1 i2 (by omega) ht
   simp only [D02];refine ⟨fun j hj hl=> ?_,fun i hi hl=> ?_⟩
   ·have g1:=j1 j hj t1;have g2:=(hA.up (J3 A B k).1 hl).1;omega
   ·rcases Nat.lt_or_ge i (J3 A B k).1 with g|g
    ·exact j2 i g hl
    ·have:i=(J3 A B k).1:=by omega
     rw [this];exact t2 hl
  |false=>
   obtain ⟨t1,t2⟩:=B0t i2 ht;simp only [D01];refine ⟨fun j hj hl=> ?_,fun i hi hl=> ?_⟩
   ·rcases Nat.lt_or_ge j (J3 A B k).2 with g|g
    ·exact j1 j g hl
    ·have:j=(J3 A B k).2:=by omega
     rw [this];exact t2 hl
   ·have g1:=j2 i hi t1;have g2:=(hB.up (J3 A B k).2 hl).1;omega
theorem B8l {A B:List B1} {a b:Int} {k:Nat} (hk:k<A.length+B.length) (ht:tk A B (J3 A B k)=true):
  me A B a b k=⟨(F1 A (J3 A B k).1).V,(F1 A (J3 A B k).1).Bf+T1 B (J3 A B k).2,(F1 A (J3 A B k).1).Be+W1 B b (J3 A B k).2⟩:=by
 obtain ⟨i1,i2,i3⟩:=B7C A B k (by omega)
 obtain ⟨t1,_⟩:=B2z i1 i2 (by omega) ht
 unfold me;rw [show J3 A B (k+1)=A0i A B (J3 A B k) from rfl];unfold A0i;rw [ht];simp only [D02];have e1:T1 A ((J3 A B k).1+1)=(F1 A (J3 A B k).1).Bf:=by unfold T1;rw [if_neg (by omega),D1F]
 have e2:W1 A a (J3 A B k).1=(F1 A (J3 A B k).1).Be-1:=by unfold W1;rw [if_pos t1]
 rw [e1,e2]
 congr 1
 omega
theorem B6H {A B:List B1} {a b:Int} {k:Nat} (hk:k<A.length+B.length) (ht:tk A B (J3 A B k)=false):
  me A B a b k=⟨(F1 B (J3 A B k).2).V,(F1 B (J3 A B k).2).Bf+T1 A (J3 A B k).1,(F1 B (J3 A B k).2).Be+W1 A a (J3 A B k).1⟩:=by
 obtain ⟨i1,i2,i3⟩:=B7C A B k (by omega)
 obtain ⟨t1,_⟩:=B0t i2 ht;unfold me;rw [show J3 A B (k+1)=A0i A B (J3 A B k) from rfl];unfold A0i;rw [ht];simp only [D01];have e1:T1 B ((J3 A B k).2+1)=(F1 B (J3 A B k).2).Bf:=by unfold T1;rw [if_neg (by omega),D1F]
 have e2:W1 B b (J3 A B k).2=(F1 B (J3 A B k).2).Be-1:=by unfold W1;rw [if_pos t1]
 rw [e1,e2]
 congr 1<;>omega
theorem B6Z {B:List B1} {b:Int} (hB:OkR B b) (e:B1) (h1:0<=e.Bf/\e.Bf<=1099511627776) (h2:0<=e.Be/\e.Be<=1099511627776) {j:Nat} (hj:j<=B.length) (hl:B.length<=1048576):
  A4a e B (j:Int) b=some ⟨e.V,e.Bf+T1 B j,e.Be+W1 B b j⟩:=by
 have n1:=hB.n1;have n0:=hB.n0;obtain ⟨o1,o2,o3⟩:=B34 hB hj;have hj1: ∀m:Int,A1x e B (j:Int) b m=some ⟨e.V,m,e.Be+W1 B b j⟩:=by
  intro m;unfold A1x
  by_cases hlt:j<B.length
  ·have r:=hB.rng j hlt;have e1:W1 B b j=(F1 B j).Be-1:=by unfold W1;rw [if_pos hlt]
   rw [D03 (by omega),D02,O2 hlt]
   simp only [D0Y];rw [show A2 ((F1 B j).Be-1)=(F1 B j).Be-1 by rw [C6]<;>omega,show A2 (e.Be+((F1 B j).Be-1))=e.Be+((F1 B j).Be-1) by rw [C6]<;>omega,e1]
  ·have e1:W1 B b j=b:=by unfold W1;rw [if_neg hlt]
   rw [D05 (by omega),D01,e1,show A2 (e.Be+b)=e.Be+b by rw [C6]<;>omega]
 unfold A4a
 by_cases h0:0<j
 ·have e1:T1 B j=(F1 B (j-1)).Bf:=by unfold T1;rw [if_neg (by omega)]
  rw [D03 (by omega),D02,show A2 ((j:Int)-1)=((j-1:Nat):Int) by rw [C6]<;>omega,O2 (show j-1<B.length by omega)]
  simp only [D0Y];rw [hj1,<-e1,show A2 (e.Bf+T1 B j)=e.Bf+T1 B j by rw [C6]<;>omega]
 ·have e1:T1 B j=0:=by unfold T1;rw [if_pos (by omega)]
  rw [D05 (by omega),D01,hj1,e1,Int.add_zero]
theorem C9d {α:Type} {A B:List B1} {p:Nat×Nat} (h1:p.1<=A.length) (h2:p.2<=B.length) (X Y:Option α):
  (Option.bind (gd ((!((p.2:Int)==(B.length:Int)))&&(decide ((p.1:Int)<(A.length:Int)))) (D2 A (p.1:Int))) fun x=>
  Option.bind (gd ((!((p.2:Int)==(B.length:Int)))&&(decide ((p.1:Int)<(A.length:Int)))) (D2 B (p.2:Int))) fun y=>
  cond (((p.2:Int)==(B.length:Int))||((decide ((p.1:Int)<(A.length:Int)))&&(decide (x.V<=y.V)))) X Y)=cond (tk A B p) X Y:=by
 unfold tk
 by_cases hj:p.2=B.length
 ·rw [D1S.2 (by omega:(p.2:Int)=(B.length:Int)),D03 hj]
  rfl
 ·rw [D1O.2 (by omega:(p.2:Int)≠(B.length:Int)),D05 hj]
  by_cases hi:p.1<A.length
  ·rw [D03 (by omega:(p.1:Int)<(A.length:Int)),D03 hi,O2 hi,O2 (show p.2<B.length by omega)]
   rfl
  ·rw [D05 (by omega: ¬(p.1:Int)<(A.length:Int)),D05 hi]
   rfl
theorem C4Y (r s:D0) (hA:OkR r.Ac r.N) (hB:OkR s.Ac s.N) (la:r.Ac.length<=1000) (lb:s.Ac.length<=1000):
  A8t r s 0 0 []=some (⟨r.N+s.N,meL r.Ac s.Ac r.N s.N (r.Ac.length+s.Ac.length)⟩,0):=by
 have hm:(1048576:Nat)<=maxLen:=by rw [I1];omega
 have an0:=hA.n0;have an1:=hA.n1;have bn0:=hB.n0;have bn1:=hB.n1;unfold A8t;obtain ⟨v,hv,hQ⟩:=T2 (f:=fun t:Int×Int×List B1=>A4C r s t.1 t.2.1 t.2.2)
  (fun t=> ∃k:Nat,k<=r.Ac.length+s.Ac.length/\t=(((J3 r.Ac s.Ac k).1:Int),((J3 r.Ac s.Ac k).2:Int),meL r.Ac s.Ac r.N s.N k))
  (fun t=>r.Ac.length+s.Ac.length-t.2.2.length) (fun v=>v=(⟨r.N+s.N,meL r.Ac s.Ac r.N s.N (r.Ac.length+s.Ac.length)⟩,0))
  (0,0, []) ⟨0,Nat.zero_le _,rfl⟩ (by
   rintro _ ⟨k,hk,rfl⟩;obtain ⟨i1,i2,i3⟩:=B7C r.Ac s.Ac k hk;simp only;unfold A4C;rw [C9d i1 i2]
   by_cases hlt:k<r.Ac.length+s.Ac.length
   ·left;have hc:(decide (((J3 r.Ac s.Ac k).1:Int)<(r.Ac.length:Int))||decide (((J3 r.Ac s.Ac k).2:Int)<(s.Ac.length:Int)))=true:=by
     simp only [D09,D00];omega
    have hsucc:meL r.Ac s.Ac r.N s.N (k+1)=meL r.Ac s.Ac r.N s.N k++ [me r.Ac s.Ac r.N s.N k]:=C1z _ _ _ _ _;have hpt:J3 r.Ac s.Ac (k+1)=A0i r.Ac s.Ac (J3 r.Ac s.Ac k):=rfl;unfold A0i at hpt;rw [hc,D02];unfold A4B;cases ht:tk r.Ac s.Ac (J3 r.Ac s.Ac k) with
    |true=>
     obtain ⟨t1,_⟩:=B2z i1 i2 (by omega) ht
     have g:=hA.rng _ t1;rw [ht,D02] at hpt;rw [D02,O2 t1];simp only [D0Y];rw [B6Z hB _ (by omega) (by omega) i2 (by omega)]
     simp only [D0Y];rw [A0N (by rw [D00,N3,D1D];omega),O9 t1 (by omega),<-B8l hlt ht,<-hsucc]
     refine ⟨_,rfl,⟨k+1,hlt,by rw [hpt];rfl⟩,by show _-(meL _ _ _ _ _).length<_-(meL _ _ _ _ _).length;rw [N3,N3];omega⟩
    |false=>
     obtain ⟨t1,_⟩:=B0t i2 ht;have g:=hB.rng _ t1;rw [ht,D01] at hpt;rw [D01,O2 t1];simp only [D0Y];rw [B6Z hA _ (by omega) (by omega) i1 (by omega)]
     simp only [D0Y];rw [A0N (by rw [D00,N3,D1D];omega),O9 t1 (by omega),<-B6H hlt ht,<-hsucc]
     refine ⟨_,rfl,⟨k+1,hlt,by rw [hpt];rfl⟩,by show _-(meL _ _ _ _ _).length<_-(meL _ _ _ _ _).length;rw [N3,N3];omega⟩
   ·right;have hc:(decide (((J3 r.Ac s.Ac k).1:Int)<(r.Ac.length:Int))||decide (((J3 r.Ac s.Ac k).2:Int)<(s.Ac.length:Int)))=false:=by
     simp only [D1y,D1f];omega
    have hke:k=r.Ac.length+s.Ac.length:=by omega
    rw [hc,D01,show A2 (r.N+s.N)=r.N+s.N by rw [C6]<;>omega,hke]
    exact ⟨_,rfl,rfl⟩)
 rw [hv,hQ]
theorem C3h {B:List B1}: ∀k,k<=B.length->J3 [] B k=(0,k):=by
 intro k
 induction k with
 |zero=>intro _;rfl
 |succ k ih=>
  intro hk;rw [show J3 [] B (k+1)=A0i [] B (J3 [] B k) from rfl,ih (by omega)]
  have ht:tk [] B (0,k)=false:=by
   unfold tk;simp only [D1y,D1P,D1f];exact ⟨by omega, .inl (by simp)⟩
  unfold A0i;rw [ht]
  rfl
theorem C1U {A:List B1}: ∀k,k<=A.length->J3 A [] k=(k,0):=by
 intro k
 induction k with
 |zero=>intro _;rfl
 |succ k ih=>
  intro hk;rw [show J3 A [] (k+1)=A0i A [] (J3 A [] k) from rfl,ih (by omega)]
  have ht:tk A [] (k,0)=true:=by
   unfold tk;simp only [D09,D00];exact .inl rfl
  unfold A0i;rw [ht]
  rfl
theorem C3V {l m:List B1} (h:l.length=m.length) (h2:∀i,i<l.length->F1 l i=F1 m i):l=m:=by
 apply List.ext_getElem h;intro i h3 h4;rw [<-C3W h3,<-C3W h4,h2 i h3]
theorem C23 {B:List B1} {b:Int}:meL [] B 0 b B.length=B:=by
 refine C3V (N3 _ _ _ _ _) fun i hi=> ?_;rw [N3] at hi;rw [C34 _ _ _ _ hi];have hp:=C3h i (Nat.le_of_lt hi);have ht:tk [] B (J3 [] B i)=false:=by
  rw [hp];unfold tk;simp only [D1y,D1P,D1f];exact ⟨by omega, .inl (by simp)⟩
 rw [B6H (by simpa using hi) ht,hp]
 have e1:T1 [] 0=0:=rfl;have e2:W1 [] 0 0=0:=rfl;simp only [e1,e2,Int.add_zero]
theorem C1A {A:List B1} {a:Int}:meL A [] a 0 A.length=A:=by
 refine C3V (N3 _ _ _ _ _) fun i hi=> ?_;rw [N3] at hi;rw [C34 _ _ _ _ hi];have hp:=C1U i (Nat.le_of_lt hi);have ht:tk A [] (J3 A [] i)=true:=by
  rw [hp];unfold tk;simp only [D09,D00];exact .inl rfl
 rw [B8l (by simpa using hi) ht,hp]
 have e1:T1 [] 0=0:=rfl;have e2:W1 [] 0 0=0:=rfl;simp only [e1,e2,Int.add_zero]
noncomputable def A8f (r s:D0):D0×Int:=
 cond (okB r&&okB s) (cond (decide (r.N+s.N>1099511627776)) (⟨0, []⟩,5) (⟨r.N+s.N,meL r.Ac s.Ac r.N s.N (r.Ac.length+s.Ac.length)⟩,0)) (⟨0, []⟩,2)
theorem C5j (r s:D0) (la:r.Ac.length<=1000) (lb:s.Ac.length<=1000):A4A r s=some (A8f r s):=by
 unfold A4A A8f;rw [A3l r (by omega),A3l s (by omega)]
 simp only [D0Y];cases hr:okB r with
 |false=>rfl
 |true=>
  cases hs:okB s with
  |false=>rfl
  |true=>
   have hA:=(A6k r).1 hr;have hB:=(A6k s).1 hs;have an0:=hA.n0;have an1:=hA.n1;have bn0:=hB.n0;have bn1:=hB.n1;simp only [D02,D1B,D01,Bool.and_self];rw [show A2 (1099511627776-s.N)=1099511627776-s.N by rw [C6]<;>omega]
   by_cases hsum:r.N+s.N>1099511627776
   ·rw [D03 hsum,D03 (by omega)]
    rfl
   ·rw [D05 hsum,D05 (by omega)]
    simp only [D01]
    by_cases ha:r.N=0
    ·have hnil:r.Ac= []:=D1J (hA.nil.2 ha);rw [D1S.2 ha,D02];unfold A1R;rw [A0N (by rw [D00];simp only [D1u];omega),hnil,ha]
     simp only [D0Y,List.nil_append,D1u,Nat.zero_add,Int.zero_add,C23]
    ·rw [D1O.2 ha,D01]
     by_cases hb:s.N=0
     ·have hnil:s.Ac= []:=D1J (hB.nil.2 hb);rw [D1S.2 hb,D02];unfold A1R;rw [A0N (by rw [D00];simp only [D1u];omega),hnil,hb]
      simp only [D0Y,List.nil_append,D1u,Nat.add_zero,Int.add_zero,C1A]
     ·rw [D1O.2 hb,D01];exact C4Y r s hA hB la lb
def bef (tie:Bool) (x e:B1):Bool:=decide (x.V<e.V)||(!tie&&x.V==e.V)
theorem C8p (tie:Bool) (x e:B1):(decide (x.V>e.V)||(tie&&x.V==e.V))= !bef tie x e:=by
 unfold bef;rw [D1j];cases tie
 ·simp only [D1t,Bool.or_false,D1b,D1z,D1k,D1y,D00,D1f,D1O];omega
 ·simp only [D1z,D1a,D1t,Bool.or_false,D1k,D09,D00,D1f,D1S];omega
def Cut (B:List B1) (tie:Bool) (e:B1) (m:Nat):Prop:=
 m<=B.length/\(∀j,j<m->bef tie (F1 B j) e=true)/\ ∀j,m<=j->j<B.length->bef tie (F1 B j) e=false
theorem B69 {B:List B1} {tie:Bool} {e:B1} {m n:Nat} (h:Cut B tie e m) (g:Cut B tie e n):m=n:=by
 obtain ⟨h1,h2,h3⟩:=h;obtain ⟨g1,g2,g3⟩:=g;rcases Nat.lt_trichotomy m n with c|c|c
 ·have a1:=h3 m (D1G _) (by omega)
  rw [g2 m c] at a1;exact absurd a1 (by simp)
 ·exact c
 ·have a1:=g3 n (D1G _) (by omega)
  rw [h2 n c] at a1;exact absurd a1 (by simp)
theorem C9t {B:List B1} {b:Int} (hB:OkR B b) (tie:Bool) (e:B1): ∃m,Cut B tie e m:=by
 have key: ∀m,m<=B.length->(∃k,k<=m/\(∀j,j<k->bef tie (F1 B j) e=true)/\ ∀j,k<=j->j<m->bef tie (F1 B j) e=false):=by
  intro m
  induction m with
  |zero=>intro _;exact ⟨0,D1G _,fun i hi=>by omega,fun i _ hi=>by omega⟩
  |succ m ih=>
   intro hm;obtain ⟨k,k1,k2,k3⟩:=ih (by omega)
   cases hv:bef tie (F1 B m) e with
   |true=>
    have:k=m:=by
     rcases Nat.lt_or_ge k m with hlt|hge
     ·have g1:=k3 k (D1G _) hlt;have g2:=(B7O hB hlt (by omega)).1
      unfold bef at g1 hv;cases tie
      ·simp only [D1b,D1z,D1y,D09,D00,D1f,D1S,D1O] at g1 hv;omega
      ·simp only [D1a,D1t,Bool.or_false,D00,D1f] at g1 hv;omega
     ·omega
    subst this;refine ⟨k+1,D1G _,fun i hi=> ?_,fun i h1 h2=>by omega⟩
    rcases Nat.lt_or_ge i k with g|g
    ·exact k2 i g
    ·have:i=k:=by omega
     subst this;exact hv
   |false=>
    refine ⟨k,by omega,k2,fun i h1 h2=> ?_⟩
    rcases Nat.lt_or_ge i m with g|g
    ·exact k3 i h1 g
    ·have:i=m:=by omega
     subst this;exact hv
 exact key B.length (D1G _)
def wd (B:List B1) (b:Int) (e:B1) (m:Nat):B1:=⟨e.V,e.Bf+T1 B m,e.Be+W1 B b m⟩
section widened
variable {s:D0} (hB:OkR s.Ac s.N) (lb:s.Ac.length<=1000)
include hB lb
theorem D0j (tie:Bool) {e:B1} (h1:0<=e.Bf/\e.Bf<=1099511627776) (h2:0<=e.Be/\e.Be<=1099511627776) {m:Nat} (hc:Cut s.Ac tie e m) (w:List B1) (i:Nat) (hw:w.length<=1000) (hi:i<=1000):
  A5g s tie e (T1 s.Ac m) w (i:Int) s.N (A2 ((s.Ac.length:Int)-1))=some (.inl (w++ [wd s.Ac s.N e m],(i:Int)+1)):=by
 obtain ⟨c1,c2,c3⟩:=hc;have n0:=hB.n0;have n1:=hB.n1;obtain ⟨o1,o2,o3⟩:=B34 hB c1;have e0:A2 ((s.Ac.length:Int)-1)=(s.Ac.length:Int)-1:=by rw [C6]<;>omega
 rw [e0];unfold A5g;obtain ⟨x,hx,hQ⟩:=T2 (f:=fun t:Int×Int=>A1H s tie e (T1 s.Ac m) w (i:Int) t.1 t.2)
  (fun t=> ∃k:Nat,k<=s.Ac.length/\t=((if k<=m then W1 s.Ac s.N m else W1 s.Ac s.N k),(k:Int)-1))
  (fun t=>(t.2+1).toNat) (fun x=>x= .inl (w++ [wd s.Ac s.N e m],(i:Int)+1)) (s.N,(s.Ac.length:Int)-1) ⟨s.Ac.length,D1G _,by
   have:W1 s.Ac s.N s.Ac.length=s.N:=by unfold W1;rw [if_neg (by omega)]
   rw [this]
   by_cases hle:s.Ac.length<=m
   ·have:m=s.Ac.length:=by omega
    subst this;rw [if_pos hle,this]
   ·rw [if_neg hle]⟩ (by
   rintro _ ⟨k,hk,rfl⟩;simp only;unfold A1H;cases k with
   |zero=>
    right;rw [D05 (by omega),D01,if_pos (Nat.zero_le _),A0N (by rw [D00];simp only [D1D];omega),show A2 ((i:Int)+1)=(i:Int)+1 by rw [C6]<;>omega,
     show A2 (e.Bf+T1 s.Ac m)=e.Bf+T1 s.Ac m by rw [C6]<;>omega,show A2 (e.Be+W1 s.Ac s.N m)=e.Be+W1 s.Ac s.N m by rw [C6]<;>omega]
    exact ⟨_,rfl,rfl⟩
   |succ k=>
    left;have hlt:k<s.Ac.length:=by omega
    have e1:((k+1:Nat):Int)-1=(k:Int):=by omega
    have e2:A2 ((k:Int)-1)=(k:Int)-1:=by rw [C6]<;>omega
    rw [e1,D03 (by omega:(k:Int)>=0),D02,O2 hlt,e2]
    simp only [D0Y];rw [C8p]
    by_cases hkm:k<m
    ·rw [c2 k hkm,D1a,D01,if_pos (by omega)]
     exact ⟨_,rfl,⟨k,by omega,by rw [if_pos (by omega)]⟩,by show ((k:Int)-1+1).toNat<((k:Int)+1).toNat;omega⟩
    ·rw [c3 k (by omega) hlt,D1b,D02]
     have hr:=hB.rng k hlt;rw [show A2 ((F1 s.Ac k).Be-1)=(F1 s.Ac k).Be-1 by rw [C6]<;>omega]
     refine ⟨_,rfl,⟨k,by omega, ?_⟩,by show ((k:Int)-1+1).toNat<((k:Int)+1).toNat;omega⟩
     have hh:W1 s.Ac s.N k=(F1 s.Ac k).Be-1:=by unfold W1;rw [if_pos hlt]
     by_cases hle:k<=m
     ·have:k=m:=by omega
      subst this;rw [if_pos hle,hh]
     ·rw [if_neg hle,hh])
 rw [hx,hQ]
theorem D0k (tie:Bool) {e:B1} (h1:0<=e.Bf/\e.Bf<=1099511627776) (h2:0<=e.Be/\e.Be<=1099511627776) {m:Nat} (hc:Cut s.Ac tie e m) (w:List B1) (i:Nat) (hw:w.length<=1000) (hi:i<=1000):
  A59 s tie e w (i:Int) 0 0=some (.inl (w++ [wd s.Ac s.N e m],(i:Int)+1)):=by
 have hm:s.Ac.length<=maxLen:=by rw [I1];omega
 have hhi:=D0j hB lb tie h1 h2 hc w i hw hi;obtain ⟨c1,c2,c3⟩:=hc;unfold A59;obtain ⟨x,hx,hQ⟩:=T2 (f:=fun t:Int×Int=>A14 s tie e w (i:Int) t.1 t.2)
  (fun t=> ∃k:Nat,k<=s.Ac.length/\t=((if k<=m then T1 s.Ac k else T1 s.Ac m),(k:Int)))
  (fun t=>s.Ac.length-t.2.toNat) (fun x=>x= .inl (w++ [wd s.Ac s.N e m],(i:Int)+1)) (0,0) ⟨0,Nat.zero_le _,by rw [if_pos (Nat.zero_le _)];rfl⟩ (by
   rintro _ ⟨k,hk,rfl⟩;simp only;unfold A14
   by_cases hlt:k<s.Ac.length
   ·left;rw [D03 (by omega),D02,O2 hlt,O9 hlt hm]
    simp only [D0Y];rw [show (decide ((F1 s.Ac k).V<e.V)||(!tie)&&(F1 s.Ac k).V==e.V)=bef tie (F1 s.Ac k) e from rfl]
    by_cases hkm:k<m
    ·rw [c2 k hkm,D02];refine ⟨_,rfl,⟨k+1,hlt, ?_⟩,by show s.Ac.length-((k:Int)+1).toNat<s.Ac.length-(k:Int).toNat;omega⟩
     rw [if_pos (by omega)]
     unfold T1;rw [if_neg (by omega),D1F]
     rfl
    ·rw [c3 k (by omega) hlt,D01]
     refine ⟨_,rfl,⟨k+1,hlt, ?_⟩,by show s.Ac.length-((k:Int)+1).toNat<s.Ac.length-(k:Int).toNat;omega⟩
     rw [if_neg (by omega: ¬k+1<=m)]
     by_cases hle:k<=m
     ·have:k=m:=by omega
      subst this;rw [if_pos hle]
      rfl
     ·rw [if_neg hle]
      rfl
   ·right;have hlo:(if k<=m then T1 s.Ac k else T1 s.Ac m)=T1 s.Ac m:=by
     by_cases hle:k<=m
     ·have:k=m:=by omega
      subst this;rw [if_pos hle]
     ·rw [if_neg hle]
    rw [D05 (by omega),D01,hlo,hhi]
    exact ⟨_,rfl,rfl⟩)
 rw [hx,hQ]
def Wid (A B:List B1) (b:Int) (tie:Bool) (w:List B1):Prop:=
 w.length=A.length/\ ∀i,i<A.length-> ∃m,Cut B tie (F1 A i) m/\F1 w i=wd B b (F1 A i) m
theorem B7R {r:D0} (hA:OkR r.Ac r.N) (la:r.Ac.length<=1000) (tie:Bool): ∃w,A3p r s tie=some w/\Wid r.Ac s.Ac s.N tie w:=by
 have hm:r.Ac.length<=maxLen:=by rw [I1];omega
 have an1:=hA.n1;unfold A3p B0n;obtain ⟨x,hx,hQ⟩:=T2 (f:=fun t:List B1×Int=>A13 r s tie t.1 t.2)
  (fun t=> ∃(i:Nat) (w:List B1),i<=r.Ac.length/\t=(w,(i:Int))/\w.length=i/\ ∀k,k<i-> ∃m,Cut s.Ac tie (F1 r.Ac k) m/\F1 w k=wd s.Ac s.N (F1 r.Ac k) m)
  (fun t=>r.Ac.length-t.2.toNat) (fun w=>Wid r.Ac s.Ac s.N tie w) ([],0) ⟨0, [],Nat.zero_le _,rfl,rfl,fun k hk=>by omega⟩ (by
   rintro _ ⟨i,w,hi,rfl,hw,hall⟩;simp only;unfold A13
   by_cases hlt:i<r.Ac.length
   ·left;have g:=hA.rng i hlt;obtain ⟨m,hc⟩:=C9t hB tie (F1 r.Ac i);rw [D03 (by omega),D02,O2 hlt]
    simp only [D0Y];rw [D0k hB lb tie (by omega) (by omega) hc w i (by omega) (by omega)]
    refine ⟨_,rfl,⟨i+1,_,hlt,rfl,by simp [hw],fun k hk=> ?_⟩,by show r.Ac.length-((i:Int)+1).toNat<r.Ac.length-(i:Int).toNat;omega⟩
    rcases Nat.lt_or_ge k i with hki|hki
    ·obtain ⟨m',hc',he⟩:=hall k hki;refine ⟨m',hc', ?_⟩;rw [<-he];unfold F1;rw [D1U,D1n (by omega),<-D1U]
    ·have:k=i:=by omega
     subst this;refine ⟨m,hc, ?_⟩;unfold F1;rw [D1U,D1o (by omega),hw,Nat.sub_self]
     rfl
   ·right;have:i=r.Ac.length:=by omega
    subst this;rw [D05 (by omega),D01]
    exact ⟨_,rfl,hw,hall⟩)
 exact ⟨x,hx,hQ⟩
end widened
theorem B0R {w:List B1} {i:Nat} (h:i<w.length):D2 (w.drop i) 0=some (F1 w i):=by
 rw [show (0:Int)=((0:Nat):Int) from rfl,K8,D1i,Nat.add_zero,B6z h]
theorem D0f {α:Type} {A B wA wB:List B1} {p:Nat×Nat} (hA:wA.length=A.length) (hB:wB.length=B.length) (vA:∀i,i<A.length->(F1 wA i).V=(F1 A i).V) (vB:∀i,i<B.length->(F1 wB i).V=(F1 B i).V)
  (h1:p.1<=A.length) (h2:p.2<=B.length) (X Y:Option α):
  (Option.bind (gd ((!(((wB.drop p.2).length:Int)==(0:Int)))&&(decide (((wA.drop p.1).length:Int)>(0:Int)))) (D2 (wA.drop p.1) (0:Int))) fun x=>
  Option.bind (gd ((!(((wB.drop p.2).length:Int)==(0:Int)))&&(decide (((wA.drop p.1).length:Int)>(0:Int)))) (D2 (wB.drop p.2) (0:Int))) fun y=>
  cond ((((wB.drop p.2).length:Int)==(0:Int))||((decide (((wA.drop p.1).length:Int)>(0:Int)))&&(decide (x.V<=y.V)))) X Y)=cond (tk A B p) X Y:=by
 rw [D1w,D1w,hA,hB];unfold tk
 by_cases hj:p.2=B.length
 ·rw [D1S.2 (by omega:((B.length-p.2:Nat):Int)=0),D03 hj]
  rfl
 ·rw [D1O.2 (by omega:((B.length-p.2:Nat):Int)≠0),D05 hj]
  by_cases hi:p.1<A.length
  ·rw [D03 (by omega:((A.length-p.1:Nat):Int)>0),D03 hi,B0R (by omega),B0R (by omega)]
   simp only [D1b,Bool.and_self,G8,D0Y,D1p,D1z,vA _ hi,vB p.2 (by omega)]
  ·rw [D05 (by omega: ¬((A.length-p.1:Nat):Int)>0),D05 hi]
   rfl
theorem B8t (r s:D0) (hA:OkR r.Ac r.N) (hB:OkR s.Ac s.N) (la:r.Ac.length<=1000) (lb:s.Ac.length<=1000) {wA wB:List B1}
  (hwA:Wid r.Ac s.Ac s.N true wA) (hwB:Wid s.Ac r.Ac r.N false wB):
  A7x r s wA wB []=some (⟨r.N+s.N,meL r.Ac s.Ac r.N s.N (r.Ac.length+s.Ac.length)⟩,0):=by
 have an0:=hA.n0;have an1:=hA.n1;have bn0:=hB.n0;have bn1:=hB.n1;obtain ⟨lA,pA⟩:=hwA;obtain ⟨lB,pB⟩:=hwB;have vA: ∀i,i<r.Ac.length->(F1 wA i).V=(F1 r.Ac i).V:=fun i hi=>by obtain ⟨m,_,h⟩:=pA i hi;rw [h];rfl
 have vB: ∀i,i<s.Ac.length->(F1 wB i).V=(F1 s.Ac i).V:=fun i hi=>by obtain ⟨m,_,h⟩:=pB i hi;rw [h];rfl
 unfold A7x;obtain ⟨v,hv,hQ⟩:=T2 (f:=fun t:List B1×List B1×List B1=>A3W r s t.1 t.2.1 t.2.2)
  (fun t=> ∃k:Nat,k<=r.Ac.length+s.Ac.length/\t=(wA.drop (J3 r.Ac s.Ac k).1,wB.drop (J3 r.Ac s.Ac k).2,meL r.Ac s.Ac r.N s.N k))
  (fun t=>r.Ac.length+s.Ac.length-t.2.2.length) (fun v=>v=(⟨r.N+s.N,meL r.Ac s.Ac r.N s.N (r.Ac.length+s.Ac.length)⟩,0))
  (wA,wB, []) ⟨0,Nat.zero_le _,rfl⟩ (by
   rintro _ ⟨k,hk,rfl⟩;obtain ⟨i1,i2,i3⟩:=B7C r.Ac s.Ac k hk;obtain ⟨j1,j2⟩:=C98 hA hB k hk;simp only;unfold A3W;rw [D0f lA lB vA vB i1 i2];have hlen:A2 (((wA.drop (J3 r.Ac s.Ac k).1).length:Int)+((wB.drop (J3 r.Ac s.Ac k).2).length:Int))=((r.Ac.length+s.Ac.length-k:Nat):Int):=by
    rw [D1w,D1w,lA,lB,C6]<;>omega
   rw [hlen]
   by_cases hlt:k<r.Ac.length+s.Ac.length
   ·left;have hsucc:meL r.Ac s.Ac r.N s.N (k+1)=meL r.Ac s.Ac r.N s.N k++ [me r.Ac s.Ac r.N s.N k]:=C1z _ _ _ _ _;have hpt:J3 r.Ac s.Ac (k+1)=A0i r.Ac s.Ac (J3 r.Ac s.Ac k):=rfl;unfold A0i at hpt;rw [D03 (by omega),D02]
    cases ht:tk r.Ac s.Ac (J3 r.Ac s.Ac k) with
    |true=>
     obtain ⟨t1,t2⟩:=B2z i1 i2 (by omega) ht
     rw [ht,D02] at hpt;obtain ⟨m,hc,he⟩:=pA _ t1;have hcut:Cut s.Ac true (F1 r.Ac (J3 r.Ac s.Ac k).1) (J3 r.Ac s.Ac k).2:=by
      refine ⟨i2,fun j hj=> ?_,fun j hj hl=> ?_⟩
      ·unfold bef;rw [D03 (j1 j hj t1)];rfl
      ·unfold bef;have g1:=t2 (by omega)
       have g2:(F1 s.Ac (J3 r.Ac s.Ac k).2).V<=(F1 s.Ac j).V:=by
        rcases Nat.eq_or_lt_of_le hj with g|g
        ·rw [<-g];exact Int.le_refl _
        ·exact (B7O hB g hl).1
       rw [D05 (by omega)];rfl
     have hmm:=B69 hc hcut;subst hmm;have hee:F1 wA (J3 r.Ac s.Ac k).1=me r.Ac s.Ac r.N s.N k:=by rw [he,B8l hlt ht];rfl
     rw [D02,B0R (by omega),hee]
     simp only [D0Y];rw [A0N (by rw [D00,N3,D1D];omega),A0N (by rw [D00,D1w];omega),<-hsucc]
     refine ⟨_,rfl,⟨k+1,hlt, ?_⟩,by show _-(meL _ _ _ _ _).length<_-(meL _ _ _ _ _).length;rw [N3,N3];omega⟩
     rw [hpt];show ((wA.drop _).drop 1,_,_)=_;rw [D1W]
    |false=>
     obtain ⟨t1,t2⟩:=B0t i2 ht;rw [ht,D01] at hpt;obtain ⟨m,hc,he⟩:=pB _ t1;have hcut:Cut r.Ac false (F1 s.Ac (J3 r.Ac s.Ac k).2) (J3 r.Ac s.Ac k).1:=by
      refine ⟨i1,fun j hj=> ?_,fun j hj hl=> ?_⟩
      ·unfold bef;have g:=j2 j hj t1;rcases Int.lt_or_eq_of_le g with g|g
       ·rw [D03 g];rfl
       ·rw [D1S.2 g,D1b,D1z,Bool.or_true]
      ·unfold bef;have g1:=t2 (by omega)
       have g2:(F1 r.Ac (J3 r.Ac s.Ac k).1).V<=(F1 r.Ac j).V:=by
        rcases Nat.eq_or_lt_of_le hj with g|g
        ·rw [<-g];exact Int.le_refl _
        ·exact (B7O hA g hl).1
       rw [D05 (by omega),D1O.2 (by omega)];rfl
     have hmm:=B69 hc hcut;subst hmm;have hee:F1 wB (J3 r.Ac s.Ac k).2=me r.Ac s.Ac r.N s.N k:=by rw [he,B6H hlt ht];rfl
     rw [D01,B0R (by omega),hee]
     simp only [D0Y];rw [A0N (by rw [D00,N3,D1D];omega),A0N (by rw [D00,D1w];omega),<-hsucc]
     refine ⟨_,rfl,⟨k+1,hlt, ?_⟩,by show _-(meL _ _ _ _ _).length<_-(meL _ _ _ _ _).length;rw [N3,N3];omega⟩
     rw [hpt];show (_,(wB.drop _).drop 1,_)=_;rw [D1W]
   ·right;have hke:k=r.Ac.length+s.Ac.length:=by omega
    rw [D05 (by omega),D01,show A2 (r.N+s.N)=r.N+s.N by rw [C6]<;>omega,hke]
    exact ⟨_,rfl,rfl⟩)
 rw [hv,hQ]
theorem C6R (r s:D0) (la:r.Ac.length<=1000) (lb:s.Ac.length<=1000):A3E r s=some (A8f r s):=by
 unfold A3E A8f;rw [A4h r (by omega),A4h s (by omega)]
 simp only [D0Y];cases hr:okB r with
 |false=>rfl
 |true=>
  cases hs:okB s with
  |false=>rfl
  |true=>
   have hA:=(A6k r).1 hr;have hB:=(A6k s).1 hs;have an0:=hA.n0;have an1:=hA.n1;have bn0:=hB.n0;have bn1:=hB.n1;simp only [D02,D1B,D01,Bool.and_self];rw [show A2 (r.N+s.N)=r.N+s.N by rw [C6]<;>omega]
   by_cases hsum:r.N+s.N>1099511627776
   ·rw [D03 hsum]
    rfl
   ·rw [D05 hsum];simp only [D01];obtain ⟨wA,a1,a2⟩:=B7R hB lb hA la true;obtain ⟨wB,b1,b2⟩:=B7R hA la hB lb false;rw [a1,b1];simp only [D0Y];exact B8t r s hA hB la lb a2 b2
end Go.Win
namespace Go.Win
open Go.Vc Go.Dec
def rk (N b:Int) (i:Nat):Int:=1+((i:Int)*(N-1))/b
def A36 (K:Nat->Nat):Nat->List Nat
 |0=> []
 |i+1=>A36 K i++(if i=0\/K i≠K (i-1) then [K i] else [])
theorem B6C (K:Nat->Nat): ∀m,(A36 K m).length<=m:=by
 intro m
 induction m with
 |zero=>exact D1G _
 |succ m ih=>
  unfold A36;rw [D04];split
  ·rw [D1D];omega
  ·rw [D1u];omega
theorem C4c {N b:Int} (hN:1<=N) (hb:1<=b) (i:Nat):rk N b i<=rk N b (i+1)/\rk N b (i+1)-rk N b i<=(N-1+b-1)/b:=by
 unfold rk;have e:((i+1:Nat):Int)*(N-1)=(i:Int)*(N-1)+(N-1):=by rw [Int.natCast_add,Int.add_mul];simp
 rw [e]
 generalize (i:Int)*(N-1)=X
 have h1:=Int.mul_ediv_add_emod X b;have h2:=Int.emod_nonneg X (show b≠0 by omega)
 have h3:=Int.emod_lt_of_pos X (show 0<b by omega)
 have e2:(X+(N-1))/b=X/b+(X%b+(N-1))/b:=by
  have:X+(N-1)=(X%b+(N-1))+b*(X/b):=by omega
  rw [this,Int.add_mul_ediv_left _ _ (by omega)]
  omega
 have h4:0<=(X%b+(N-1))/b:=Int.ediv_nonneg (by omega) (by omega)
 have h5:(X%b+(N-1))/b<=(N-1+b-1)/b:=Int.ediv_le_ediv (by omega) (by omega)
 rw [e2];omega
theorem B8v {N b:Int} (hN:1<=N) (hb:1<=b) {i j:Nat} (h:i<=j):rk N b i<=rk N b j:=by
 induction j with
 |zero=>have:i=0:=by omega
        subst this;exact Int.le_refl _
 |succ j ih=>
  rcases Nat.lt_or_ge i (j+1) with hlt|hge
  ·exact Int.le_trans (ih (by omega)) (C4c hN hb j).1
  ·have:i=j+1:=by omega
   subst this;exact Int.le_refl _
theorem C88 (N b:Int):rk N b 0=1:=by unfold rk;simp
theorem C87 {N:Int} {b:Nat} (hb:1<=b):rk N (b:Int) b=N:=by
 unfold rk;rw [Int.mul_ediv_cancel_left _ (by omega)]
 omega
theorem A7z {N:Int} {b:Nat} (hN:1<=N) (hb:1<=b) {i:Nat} (hi:i<=b):1<=rk N (b:Int) i/\rk N (b:Int) i<=N:=by
 have h1:=B8v hN (show (1:Int)<=(b:Int) by omega) (Nat.zero_le i)
 have h2:=B8v hN (show (1:Int)<=(b:Int) by omega) hi
 rw [C88] at h1;rw [C87 hb] at h2;exact ⟨h1,h2⟩
open Classical in
noncomputable def R3 (l:List B1) (n:Int):Nat:=if h: ∃k,A6q l n k then Classical.choose h else 0
theorem A8d {l:List B1} {N n:Int} (h:OkR l N) (hn:1<=n/\n<=N) (hl:l.length<=1048576):A6q l n (R3 l n):=by
 obtain ⟨k,hk,_⟩:=B5Z h hn hl;unfold R3;rw [dif_pos ⟨k,hk⟩];exact Classical.choose_spec (⟨k,hk⟩: ∃k,A6q l n k)
section
variable {l:List B1} {N:Int} (h:OkR l N) (hl:l.length<=1048576) (hpos:0<l.length) {b:Nat} (hb1:1<=b) (hb2:b<=65536)
include h hl hpos hb1 hb2
omit hl in
theorem C6S {i:Nat} (hi:i<=b):A2 (1+A2 (Int.tdiv (A2 ((i:Int)*A2 (N-1))) (b:Int)))=rk N (b:Int) i:=by
 have hN:1<=N:=by have:=h.rng 0 hpos;omega
 have hN1:=h.n1;have e1:A2 (N-1)=N-1:=by rw [C6]<;>omega
 have hX0:0<=(i:Int)*(N-1):=Int.mul_nonneg (by omega) (by omega)
 have hX1:(i:Int)*(N-1)<=65536*1099511627776:=Int.mul_le_mul (by omega) (by omega) (by omega) (by omega)
 have e2:A2 ((i:Int)*(N-1))=(i:Int)*(N-1):=by rw [C6]<;>omega
 have e3:Int.tdiv ((i:Int)*(N-1)) (b:Int)=((i:Int)*(N-1))/(b:Int):=Int.tdiv_eq_ediv_of_nonneg hX0;have hr:=A7z hN hb1 hi;unfold rk at hr;rw [e1,e2,e3,C6 (n:=((i:Int)*(N-1))/(b:Int)) (by omega) (by omega),C6 (by omega) (by omega)]
 rfl
theorem C8N: ∀i,i+1<b+1->R3 l (rk N (b:Int) i)<=R3 l (rk N (b:Int) (i+1)):=fun i hi=>by
 have hN:1<=N:=by have:=h.rng 0 hpos;omega
 exact C5g (C4c hN (by omega) i).1 (A8d h (A7z hN hb1 (by omega)) hl) (A8d h (A7z hN hb1 (by omega)) hl)
theorem C5i (r:D0) (hr1:r.Ac=l) (hr2:r.N=N):
  A8u r (b:Int) (-1) 0 0 []=some (⟨N,(A36 (fun i=>R3 l (rk N (b:Int) i)) (b+1)).map (F1 l)⟩,0):=by
 have hN:1<=N:=by have:=h.rng 0 hpos;omega
 unfold A8u;obtain ⟨v,hv,hQ⟩:=T2 (f:=fun s:Int×Int×Int×List B1=>A4E r (b:Int) s.1 s.2.1 s.2.2.1 s.2.2.2)
  (fun s=> ∃i:Nat,i<=b+1/\s=(if i=0 then-1 else (R3 l (rk N (b:Int) (i-1)):Int),if i=0 then 0 else (R3 l (rk N (b:Int) (i-1)):Int),(i:Int),(A36 (fun i=>R3 l (rk N (b:Int) i)) i).map (F1 l)))
  (fun s=>b+1-s.2.2.1.toNat) (fun v=>v=(⟨N,(A36 (fun i=>R3 l (rk N (b:Int) i)) (b+1)).map (F1 l)⟩,0)) (-1,0,0, []) ⟨0,Nat.zero_le _,rfl⟩ (by
   rintro _ ⟨i,hi,rfl⟩;simp only;unfold A4E;rw [hr1,hr2]
   by_cases hlt:i<=b
   ·left;rw [D03 (by omega:(i:Int)<=(b:Int)),D02,A0N (by rw [D00];omega),C6S h hpos hb1 hb2 hlt]
    have hn:=A7z hN hb1 hlt;have hpl:=A8d h hn hl;have hplace:A4F l (rk N (b:Int) i) (if i=0 then 0 else (R3 l (rk N (b:Int) (i-1)):Int))=some (R3 l (rk N (b:Int) i):Int):=by
     by_cases h0:i=0
     ·rw [if_pos h0];obtain ⟨k,k1,k2,_⟩:=B5Z h hn hl;rw [k2,B4K k1 hpl]
     ·rw [if_neg h0];have hprev:=A8d h (A7z hN hb1 (show i-1<=b by omega)) hl
      have hle:rk N (b:Int) (i-1)<=rk N (b:Int) i:=B8v hN (by omega) (by omega)
      obtain ⟨k,_,k1,k2⟩:=B03 h hn hl hprev.lt (fun j hj=>C3T hle (hprev.low j hj));rw [k2,B4K k1 hpl]
    rw [hplace];simp only [D0Y];have ew:A2 ((i:Int)+1)=((i+1:Nat):Int):=by rw [C6]<;>omega
    have hkl:=B6C (fun i=>R3 l (rk N (b:Int) i)) i;rw [ew]
    by_cases hne:i=0\/R3 l (rk N (b:Int) i)≠R3 l (rk N (b:Int) (i-1))
    ·have c:((R3 l (rk N (b:Int) i):Int) !=(if i=0 then-1 else (R3 l (rk N (b:Int) (i-1)):Int)))=true:=by
      rw [bne_iff_ne];rcases hne with h0|h0
      ·rw [if_pos h0];omega
      ·split<;>omega
     rw [c,D02,O2 hpl.lt];simp only [D0Y];rw [A0N (by rw [D00,D1L,D1D];omega)]
     refine ⟨_,rfl,⟨i+1,by omega, ?_⟩,by show b+1-(((i+1:Nat):Int)).toNat<b+1-(i:Int).toNat;omega⟩
     have hk:A36 (fun i=>R3 l (rk N (b:Int) i)) (i+1)=A36 (fun i=>R3 l (rk N (b:Int) i)) i++ [R3 l (rk N (b:Int) i)]:=by
      show _++(if _ then _ else _)=_
      rw [if_pos hne]
     rw [hk,D1X];simp
    ·have hne' :=not_or.1 hne;have he:R3 l (rk N (b:Int) i)=R3 l (rk N (b:Int) (i-1)):=Classical.not_not.1 hne'.2;have c:((R3 l (rk N (b:Int) i):Int) !=(if i=0 then-1 else (R3 l (rk N (b:Int) (i-1)):Int)))=false:=by
      rw [bne_eq_false_iff_eq,if_neg hne'.1,he]
     rw [c,D01];refine ⟨_,rfl,⟨i+1,by omega, ?_⟩,by show b+1-(((i+1:Nat):Int)).toNat<b+1-(i:Int).toNat;omega⟩
     have hk:A36 (fun i=>R3 l (rk N (b:Int) i)) (i+1)=A36 (fun i=>R3 l (rk N (b:Int) i)) i:=by
      show _++(if _ then _ else _)=_
      rw [if_neg hne,List.append_nil]
     rw [hk,if_neg hne'.1];simp [he]
   ·right;have hi2:i=b+1:=by omega
    subst hi2;rw [D05 (by omega),D01]
    exact ⟨_,rfl,rfl⟩)
 rw [hv,hQ]
theorem B8u (r:D0) (hr1:r.Ac=l) (hr2:r.N=N):
  A7y r (b:Int) (-1) 0 []=some (⟨N,(A36 (fun i=>R3 l (rk N (b:Int) i)) (b+1)).map (F1 l)⟩,0):=by
 have hN:1<=N:=by have:=h.rng 0 hpos;omega
 unfold A7y;obtain ⟨v,hv,hQ⟩:=T2 (f:=fun s:Int×Int×List B1=>A3X r (b:Int) s.1 s.2.1 s.2.2)
  (fun s=> ∃i:Nat,i<=b+1/\s=(if i=0 then-1 else (R3 l (rk N (b:Int) (i-1)):Int),(i:Int),(A36 (fun i=>R3 l (rk N (b:Int) i)) i).map (F1 l)))
  (fun s=>b+1-s.2.1.toNat) (fun v=>v=(⟨N,(A36 (fun i=>R3 l (rk N (b:Int) i)) (b+1)).map (F1 l)⟩,0)) (-1,0, []) ⟨0,Nat.zero_le _,rfl⟩ (by
   rintro _ ⟨i,hi,rfl⟩;simp only;unfold A3X;rw [hr1,hr2]
   by_cases hlt:i<=b
   ·left;rw [D03 (by omega:(i:Int)<=(b:Int)),D02,A0N (by rw [D00];omega),C6S h hpos hb1 hb2 hlt]
    have hn:=A7z hN hb1 hlt;have hpl:=A8d h hn hl;rw [B41 h hn hl hpl];simp only [D0Y];have ew:A2 ((i:Int)+1)=((i+1:Nat):Int):=by rw [C6]<;>omega
    have hkl:=B6C (fun i=>R3 l (rk N (b:Int) i)) i;rw [ew]
    by_cases hne:i=0\/R3 l (rk N (b:Int) i)≠R3 l (rk N (b:Int) (i-1))
    ·have c:decide ((R3 l (rk N (b:Int) i):Int)>(if i=0 then-1 else (R3 l (rk N (b:Int) (i-1)):Int)))=true:=by
      rw [D00]
      by_cases h0:i=0
      ·rw [if_pos h0];omega
      ·rw [if_neg h0];have h2:R3 l (rk N (b:Int) i)≠R3 l (rk N (b:Int) (i-1)):=by
        rcases hne with g|g
        ·exact absurd g h0
        ·exact g
       have:=C8N h hl hpos hb1 hb2 (i-1) (by omega)
       rw [show i-1+1=i by omega] at this
       omega
     rw [c,D02,O2 hpl.lt];simp only [D0Y];rw [A0N (by rw [D00,D1L,D1D];omega)]
     refine ⟨_,rfl,⟨i+1,by omega, ?_⟩,by show b+1-(((i+1:Nat):Int)).toNat<b+1-(i:Int).toNat;omega⟩
     have hk:A36 (fun i=>R3 l (rk N (b:Int) i)) (i+1)=A36 (fun i=>R3 l (rk N (b:Int) i)) i++ [R3 l (rk N (b:Int) i)]:=by
      show _++(if _ then _ else _)=_
      rw [if_pos hne]
     rw [hk,D1X];simp
    ·have hne' :=not_or.1 hne;have he:R3 l (rk N (b:Int) i)=R3 l (rk N (b:Int) (i-1)):=Classical.not_not.1 hne'.2;have c:decide ((R3 l (rk N (b:Int) i):Int)>(if i=0 then-1 else (R3 l (rk N (b:Int) (i-1)):Int)))=false:=by
      rw [D1f,if_neg hne'.1,he];omega
     rw [c,D01];refine ⟨_,rfl,⟨i+1,by omega, ?_⟩,by show b+1-(((i+1:Nat):Int)).toNat<b+1-(i:Int).toNat;omega⟩
     have hk:A36 (fun i=>R3 l (rk N (b:Int) i)) (i+1)=A36 (fun i=>R3 l (rk N (b:Int) i)) i:=by
      show _++(if _ then _ else _)=_
      rw [if_neg hne,List.append_nil]
     rw [hk,if_neg hne'.1];simp [he]
   ·right;have hi2:i=b+1:=by omega
    subst hi2;rw [D05 (by omega),D01]
    exact ⟨_,rfl,rfl⟩)
 rw [hv,hQ]
end
end Go.Win
namespace Go.Win
open Go.Vc Go.Dec
section
variable {β:Type} (lv:β->Int)
structure A5y (A B C:List β) (l:Int):Prop where
 up: ∀x∈A,l<lv x
 at_: ∀x∈B,lv x=l
 low: ∀x∈C,lv x<l
theorem C9y {A B C:List β} {i:Nat} (h:i<A.length):(A++B++C)[i]? =some A[i]:=by
 rw [D1s,D1n h,D1c h]
theorem C9z {A B C:List β} {i:Nat} (h:i<B.length):(A++B++C)[A.length+i]? =some B[i]:=by
 rw [D1s,D1o (by omega),D1n (by omega)]
 rw [show A.length+i-A.length=i by omega,D1c h]
theorem D0P {A B C:List β} {i:Nat} (h:i<C.length):(A++B++C)[A.length+B.length+i]? =some C[i]:=by
 rw [D1o (by simp)]
 rw [D04,show A.length+B.length+i-(A.length+B.length)=i by omega,D1c h]
theorem B9k {R:Type} {f:Int->Option (Int⊕R)} {A B C:List β} {l:Int} (hp:A5y lv A B C l) (K:Option R)
  (h0:A.length=0->f 0=Option.map Sum.inr K)
  (hs:∀(i:Nat) (x:β),(A++B++C)[i]? =some x->i<A.length+B.length->(lv x=l->f ((i+1:Nat):Int)=some (.inl (i:Int)))/\(lv x≠l->i+1=A.length->f ((i+1:Nat):Int)=Option.map Sum.inr K)):
  loop f ((A.length+B.length:Nat):Int)=K:=by
 have key: ∀j,j<=B.length->loop f ((A.length+j:Nat):Int)=K:=by
  intro j
  induction j with
  |zero=>
   intro _;have e:f ((A.length+0:Nat):Int)=Option.map Sum.inr K:=by
    cases hA:A.length with
    |zero=>simpa using h0 hA
    |succ n=>
     have hn:n<A.length:=by omega
     have:=(hs n A[n] (C9y hn) (by omega)).2 (by have:=hp.up A[n] (D1N hn);omega) (by omega)
     simpa using this
   rw [O6,e];cases K<;>rfl
  |succ j ih=>
   intro hj;have hjl:j<B.length:=by omega
   have:=(hs (A.length+j) B[j] (C9z hjl) (by omega)).1 (hp.at_ _ (D1N hjl))
   rw [show (A.length+(j+1):Nat)=(A.length+j+1:Nat) by omega,L4 this]
   exact ih (by omega)
 exact key B.length (D1G _)
theorem C06 {R:Type} {f:Int×Int×Int->Option ((Int×Int×Int)⊕R)} {A B C:List β} {l:Int} (hp:A5y lv A B C l) (K:Option R)
  (hs:∀(i:Nat) (x:β) (a n:Int),(A++B++C)[i]? =some x->(0<=n/\n<=i)->f (a,n,(i:Int))=some (.inl (if lv x=l then (if a<0 then ((i:Int),n+1,((i+1:Nat):Int)) else (a,n+1,((i+1:Nat):Int))) else (a,n,((i+1:Nat):Int)))))
  (hd:f (if B.length=0 then-1 else (A.length:Int),(B.length:Int),((A++B++C).length:Int))=Option.map Sum.inr K):
  loop f (-1,0,0)=K:=by
 have hlen:(A++B++C).length=A.length+B.length+C.length:=by simp [Nat.add_assoc]
 have key: ∀k i:Nat,i+k=(A++B++C).length->loop f (if A.length<i/\0<B.length then (A.length:Int) else-1,((min (i-A.length) B.length:Nat):Int),(i:Int))=K:=by
  intro k
  induction k with
  |zero=>
   intro i hi;have e1:(if A.length<i/\0<B.length then (A.length:Int) else-1)=(if B.length=0 then-1 else (A.length:Int)):=by
    by_cases hb:B.length=0
    ·rw [if_pos hb,if_neg (by omega)]
    ·rw [if_neg hb,if_pos (by omega)]
   have e2:min (i-A.length) B.length=B.length:=by omega
   rw [e1,e2,show i=(A++B++C).length by omega,O6,hd]
   cases K<;>rfl
  |succ k ih=>
   intro i hi;have hil:i<(A++B++C).length:=by omega
   have hx:(A++B++C)[i]? =some (A++B++C)[i]:=D1c hil;have st:=hs i _ (if A.length<i/\0<B.length then (A.length:Int) else-1) ((min (i-A.length) B.length:Nat):Int) hx ⟨by omega,by omega⟩
   rw [L4 st,<-ih (i+1) (by omega)]
   congr 1
   by_cases h1:i<A.length
   ·have hv:lv (A++B++C)[i]≠l:=by
     have e:=C9y (B:=B) (C:=C) h1;rw [hx] at e;have:=hp.up _ (D1N h1);rw [<-D1H e] at this;omega
    have e1:(if A.length<i/\0<B.length then (A.length:Int) else-1)= -1:=if_neg (by omega)
    have e3:(if A.length<i+1/\0<B.length then (A.length:Int) else-1)= -1:=if_neg (by omega)
    rw [if_neg hv,e1,e3];simp only [Prod.mk.injEq,true_and,and_true];omega
   ·by_cases h2:i<A.length+B.length
    ·have hv:lv (A++B++C)[i]=l:=by
      have e:=C9z (A:=A) (C:=C) (show i-A.length<B.length by omega)
      rw [show A.length+(i-A.length)=i by omega,hx] at e
      rw [D1H e];exact hp.at_ _ (D1N _)
     rw [if_pos hv];have e3:(if A.length<i+1/\0<B.length then (A.length:Int) else-1)=(A.length:Int):=if_pos (by omega)
     rw [e3]
     by_cases h3:i=A.length
     ·have e1:(if A.length<i/\0<B.length then (A.length:Int) else-1)= -1:=if_neg (by omega)
      rw [e1,if_pos (by decide)]
      simp only [Prod.mk.injEq,and_true];exact ⟨by omega,by omega⟩
     ·have e1:(if A.length<i/\0<B.length then (A.length:Int) else-1)=(A.length:Int):=if_pos (by omega)
      rw [e1,if_neg (by omega)]
      simp only [Prod.mk.injEq,true_and,and_true];omega
    ·have hv:lv (A++B++C)[i]≠l:=by
      have e:=D0P (A:=A) (B:=B) (show i-(A.length+B.length)<C.length by omega)
      rw [show A.length+B.length+(i-(A.length+B.length))=i by omega,hx] at e
      have:=hp.low _ (D1N (show i-(A.length+B.length)<C.length by omega))
      rw [<-D1H e] at this;omega
     rw [if_neg hv];have e1:(A.length<i/\0<B.length)↔(A.length<i+1/\0<B.length):=by omega
     simp only [e1,Prod.mk.injEq,true_and,and_true];omega
 have:=key (A++B++C).length 0 (by omega)
 simpa using this
end
theorem C07 {β:Type} (b1 b2 m:β) (D:List β): ∀A:List β,((A++b1::b2::D).set A.length m).take (A.length+1)++(((A++b1::b2::D).set A.length m).drop (A.length+2)).take (((A++b1::b2::D).set A.length m).length-(A.length+2))=A++m::D
 | []=>by simp
 |a::A=>by
  have ih:=C07 b1 b2 m D A;simp only [List.cons_append,D1h,List.set_cons_succ,List.take_succ_cons,show A.length+1+2=(A.length+2)+1 by omega,List.drop_succ_cons,Nat.add_sub_add_right,ih]
abbrev lvB (b:A3):Int:=b.As
def mrg (b:A3) (l:Int):A3:=⟨b.T,l+1⟩
noncomputable def C30 (p1:Int) (v2_0:List A3) (v2_7 v2_8 v5_9:Int):Option (((List A3)×Int×Int)⊕(List A3)):=
 cond (decide ((A2 (v2_7-v5_9))<(A2 (p1+(2:Int))))) (
  some (.inr v2_0))<|
 Option.bind (D2 v2_0 (A2 (v5_9+(1:Int)))) fun x10_5=>
 Option.bind (D2 v2_0 (A2 (v5_9+(1:Int)))) fun x10_7=>
 Option.bind (D2 v2_0 v5_9) fun x10_11=>
 Option.bind (D2 v2_0 v5_9) fun x10_12=>
 ck (decide (0<=(A2 (v5_9+(1:Int)))/\(A2 (v5_9+(1:Int)))<=((v2_0.set (v5_9).toNat (A3.mk x10_7.T (A2 (v2_8+(1:Int))))).length:Int)))<|
 ck (decide (0<=(A2 (v5_9+(2:Int)))/\(A2 (v5_9+(2:Int)))<=((v2_0.set (v5_9).toNat (A3.mk x10_7.T (A2 (v2_8+(1:Int))))).length:Int)))<|
 ck (decide (0<((A2 (v5_9+(1:Int)))).toNat/\((A2 (v5_9+(1:Int)))).toNat+(((v2_0.set (v5_9).toNat (A3.mk x10_7.T (A2 (v2_8+(1:Int))))).drop ((A2 (v5_9+(2:Int)))).toNat).take ((v2_0.set (v5_9).toNat (A3.mk x10_7.T (A2 (v2_8+(1:Int))))).length-((A2 (v5_9+(2:Int)))).toNat)).length<=(v2_0.set (v5_9).toNat (A3.mk x10_7.T (A2 (v2_8+(1:Int))))).length))<|
 some (.inl (((v2_0.set (v5_9).toNat (A3.mk x10_7.T (A2 (v2_8+(1:Int))))).take ((A2 (v5_9+(1:Int)))).toNat++(((v2_0.set (v5_9).toNat (A3.mk x10_7.T (A2 (v2_8+(1:Int))))).drop ((A2 (v5_9+(2:Int)))).toNat).take ((v2_0.set (v5_9).toNat (A3.mk x10_7.T (A2 (v2_8+(1:Int))))).length-((A2 (v5_9+(2:Int)))).toNat))),(A2 (v5_9+(1:Int))),(A2 (v2_8+(1:Int)))))
def insOut (A B C:List A3) (k l:Int):Option (((List A3)×Int×Int)⊕(List A3)):=
 if (B.length:Int)<k+2 then some (.inr (A++B++C)) else some (.inl (A++mrg (B.getD 1 default) l::(B.drop 2++C),((A.length+1:Nat):Int),l+1))
theorem C4P {A B C:List A3} {l k:Int} (hn:(A++B++C).length<=1048576) (hk:1<=k/\k<=128) (hl:0<=l/\l<=30):
  C30 k (A++B++C) ((A.length+B.length:Nat):Int) l (A.length:Int)=
   insOut A B C k l:=by
 have hlen:(A++B++C).length=A.length+B.length+C.length:=by simp [Nat.add_assoc]
 have ek:A2 (k+2)=k+2:=by rw [C6]<;>omega
 have eb:A2 (((A.length+B.length:Nat):Int)-(A.length:Int))=(B.length:Int):=by rw [C6]<;>omega
 unfold C30;rw [eb,ek];unfold insOut
 by_cases hb:(B.length:Int)<k+2
 ·rw [D03 hb,D02,if_pos hb]
 ·rw [D05 hb,D01,if_neg hb]
  match B with
  | []=>simp at hb;omega
  | [b1]=>simp at hb;omega
  |b1::b2::D=>
   rw [show (b1::b2::D).getD 1 default=b2 from rfl,show (b1::b2::D).drop 2=D from rfl];have e1:A2 ((A.length:Int)+1)=((A.length+1:Nat):Int):=by rw [C6]<;>omega
   have e2:A2 ((A.length:Int)+2)=((A.length+2:Nat):Int):=by rw [C6]<;>omega
   have el1:A2 (l+1)=l+1:=by rw [C6]<;>omega
   have eo:A++(b1::b2::D)++C=A++b1::b2::(D++C):=by simp
   rw [eo] at hlen⊢;have g1:D2 (A++b1::b2::(D++C)) (A.length:Int)=some b1:=by simp
   have g2:D2 (A++b1::b2::(D++C)) ((A.length+1:Nat):Int)=some b2:=by
    rw [K8,D1o (by omega)]
    simp
   rw [e1,e2,el1,g1,g2];simp only [D0Y,D1E];have hc:=C07 b1 b2 (mrg b2 l) (D++C) A;unfold mrg at hc;rw [hc];have hs:((A++b1::b2::(D++C)).set A.length ⟨b2.T,l+1⟩).length=A.length+(D.length+2)+C.length:=by
    rw [D1Y];simp;omega
   have hd:(((A++b1::b2::(D++C)).set A.length ⟨b2.T,l+1⟩).drop (A.length+2)).length=D.length+C.length:=by
    rw [D1w,hs];omega
   have k1:decide (0<=((A.length+1:Nat):Int)/\((A.length+1:Nat):Int)<=(((A++b1::b2::(D++C)).set A.length ⟨b2.T,l+1⟩).length:Int))=true:=D03 (by rw [hs];omega)
   have k2:decide (0<=((A.length+2:Nat):Int)/\((A.length+2:Nat):Int)<=(((A++b1::b2::(D++C)).set A.length ⟨b2.T,l+1⟩).length:Int))=true:=D03 (by rw [hs];omega)
   have k3:decide (0<A.length+1/\A.length+1+((((A++b1::b2::(D++C)).set A.length ⟨b2.T,l+1⟩).drop (A.length+2)).take (((A++b1::b2::(D++C)).set A.length ⟨b2.T,l+1⟩).length-(A.length+2))).length<=((A++b1::b2::(D++C)).set A.length ⟨b2.T,l+1⟩).length)=true:=D03 (by rw [D1q,hd,hs];omega)
   rw [k1,k2,k3]
   rfl
theorem B7z {A B C:List A3} {l k:Int} (hp:A5y lvB A B C l) (hn:(A++B++C).length<=1048576) (hk:1<=k/\k<=128) (hl:0<=l/\l<=30):
  A2U k (A++B++C) ((A.length+B.length:Nat):Int) l ((A.length+B.length:Nat):Int)=
   insOut A B C k l:=by
 rw [<-C4P hn hk hl];have hlen:(A++B++C).length=A.length+B.length+C.length:=by simp [Nat.add_assoc]
 unfold A2U;refine B9k lvB hp _ ?_ ?_
 ·intro h0;unfold Z4;have e0:decide ((0:Int)>0)=false:=by decide
  simp only [e0,gd,D01,D0Y,D1t];rw [h0]
  rfl
 ·intro i x hx hi;have e1:A2 (((i+1:Nat):Int)-1)=(i:Int):=by rw [C6]<;>omega
  have e2:decide (((i+1:Nat):Int)>0)=true:=D03 (by omega)
  unfold Z4;simp only [e1,e2,gd,D02,K8,hx,D0Y,D1z];constructor
  ·intro h;have:(x.As==l)=true:=by simpa using h
   rw [this,D02]
  ·intro h hA;have:(x.As==l)=false:=by simpa using h
   rw [this,D01,hA]
   rfl
theorem G5 {α:Type} {p:Prop} [Decidable p] {x:Option α} (h:p):ck (decide p) x=x:=by rw [D03 h];rfl
noncomputable def C4b (p1:Int) (v2_7:List A3) (v2_8 v6_9 v6_10:Int):Option (((List A3)×Int)⊕(List A3)):=
 cond (decide (v6_10<=(A2 (p1+(1:Int))))) (
  some (.inr v2_7))<|
 Option.bind (D2 v2_7 (A2 (v6_9+(1:Int)))) fun x16_3=>
 Option.bind (D2 v2_7 (A2 (v6_9+(1:Int)))) fun x16_5=>
 ck (decide (0<=v6_9/\v6_9<=(v2_7.length:Int)))<|
 ck (decide ((([]:List A3).length+(v2_7.take (v6_9).toNat).length)*16<=140737488355328))<|
 ck (decide (((([]:List A3)++(v2_7.take (v6_9).toNat)).length+ [(A3.mk x16_5.T (A2 (v2_8+(1:Int))))].length)*16<=140737488355328))<|
 ck (decide (0<=(A2 (v6_9+(2:Int)))/\(A2 (v6_9+(2:Int)))<=(v2_7.length:Int)))<|
 ck (decide ((((([]:List A3)++(v2_7.take (v6_9).toNat))++ [(A3.mk x16_5.T (A2 (v2_8+(1:Int))))]).length+(v2_7.drop ((A2 (v6_9+(2:Int)))).toNat).length)*16<=140737488355328))<|
 some (.inl ((((([]:List A3)++(v2_7.take (v6_9).toNat))++ [(A3.mk x16_5.T (A2 (v2_8+(1:Int))))])++(v2_7.drop ((A2 (v6_9+(2:Int)))).toNat)),(A2 (v2_8+(1:Int)))))
def B40 (A B C:List A3) (k l:Int):Option (((List A3)×Int)⊕(List A3)):=
 if (B.length:Int)<k+2 then some (.inr (A++B++C)) else some (.inl (A++mrg (B.getD 1 default) l::(B.drop 2++C),l+1))
theorem C5l {A B C:List A3} {l k:Int} (hn:(A++B++C).length<=1048576) (hk:1<=k/\k<=128) (hl:0<=l/\l<=30):
  C4b k (A++B++C) l (if B.length=0 then-1 else (A.length:Int)) (B.length:Int)=B40 A B C k l:=by
 have hlen:(A++B++C).length=A.length+B.length+C.length:=by simp [Nat.add_assoc]
 have ek:A2 (k+1)=k+1:=by rw [C6]<;>omega
 unfold C4b B40;rw [ek]
 by_cases hb:(B.length:Int)<k+2
 ·rw [D03 (show (B.length:Int)<=k+1 by omega),D02,if_pos hb]
 ·rw [D05 (show¬(B.length:Int)<=k+1 by omega),D01,if_neg hb]
  match B with
  | []=>simp at hb;omega
  | [b1]=>simp at hb;omega
  |b1::b2::D=>
   rw [show (b1::b2::D).getD 1 default=b2 from rfl,show (b1::b2::D).drop 2=D from rfl,if_neg (by simp)]
   have e1:A2 ((A.length:Int)+1)=((A.length+1:Nat):Int):=by rw [C6]<;>omega
   have e2:A2 ((A.length:Int)+2)=((A.length+2:Nat):Int):=by rw [C6]<;>omega
   have el1:A2 (l+1)=l+1:=by rw [C6]<;>omega
   have eo:A++(b1::b2::D)++C=A++b1::b2::(D++C):=by simp
   rw [eo] at hlen⊢;rw [eo] at hn;have g2:D2 (A++b1::b2::(D++C)) ((A.length+1:Nat):Int)=some b2:=by
    rw [K8,D1o (by omega)]
    simp
   rw [e1,e2,el1,g2];simp only [D0Y,D1E];have ht:(A++b1::b2::(D++C)).take A.length=A:=List.take_left;have hd:(A++b1::b2::(D++C)).drop (A.length+2)=D++C:=by
    rw [List.drop_append];simp [List.drop_eq_nil_of_le]
   simp only [ht,hd,List.nil_append];have hs:A.length+D.length+C.length<=1048576:=by rw [hlen] at hn;simp at hn;omega
   rw [G5,G5,G5,G5,G5]
   ·simp only [mrg,D1s,List.singleton_append]
   ·simp only [D04,D1h,D1u];omega
   ·rw [hlen];simp only [D1h];omega
   ·simp only [D1h,D1u];omega
   ·simp only [D1u];omega
   ·rw [hlen];omega
theorem B9i {A B C:List A3} {l k:Int} (hp:A5y lvB A B C l) (hn:(A++B++C).length<=1048576) (hk:1<=k/\k<=128) (hl:0<=l/\l<=30):
  B0h k (A++B++C) l (-1) 0 0=B40 A B C k l:=by
 rw [<-C5l hn hk hl];unfold B0h;refine C06 lvB hp _ ?_ ?_
 ·intro i x a n hx hn0;have hi:i<(A++B++C).length:=(D08.1 hx).1;have e1:A2 ((i:Int)+1)=((i+1:Nat):Int):=by rw [C6]<;>omega
  have e2:A2 (n+1)=n+1:=by rw [C6]<;>omega
  unfold A5J;simp only [e1,e2,K8,hx,D0Y,D03 (show (i:Int)<((A++B++C).length:Int) by omega),D02]
  by_cases h:lvB x=l
  ·rw [if_pos h];have:(x.As==l)=true:=by simpa using h
   rw [this,D02]
   by_cases ha:a<0
   ·rw [D03 ha,D02,if_pos ha]
   ·rw [D05 ha,D01,if_neg ha]
  ·rw [if_neg h];have:(x.As==l)=false:=by simpa using h
   rw [this,D01]
 ·unfold A5J;simp only [D05 (show¬((A++B++C).length:Int)<((A++B++C).length:Int) by omega),D01]
  rfl
def B0y (l:List A3):Prop:=l.Pairwise (fun a b=>b.As<=a.As)/\ ∀x∈l,0<=x.As/\x.As<=30
theorem A29 {b:A3} {n:Nat} (h:b.As=(n:Int)) (hn:n<=30):A17 b=2^n:=by
 unfold A17;rw [if_pos (by omega),h,D1E]
theorem B9p {B:List A3} {n:Nat} (hn:n<=30) (h:∀x∈B,x.As=(n:Int)):K5 B=(B.length:Int)*2^n:=by
 induction B with
 |nil=>simp [B3f]
 |cons b B ih=>
  rw [A4l,ih (fun x hx=>h x (by simp [hx])),A29 (h b (by simp)) hn,D1h]
  push_cast
  rw [Int.add_mul];omega
theorem B6N {l:Int}: ∀ {A:List A3},A.Pairwise (fun a b=>b.As<=a.As)->(∀x∈A,l<x.As)-> ∃A' A1,A=A' ++A1/\(∀x∈A',l+1<x.As)/\ ∀x∈A1,x.As=l+1
 | [],_,_=>⟨[], [],rfl,by simp,by simp⟩
 |a::A,hs,hl=>by
  have h2:=List.pairwise_cons.1 hs
  by_cases ha:a.As=l+1
  ·refine ⟨[],a::A,rfl,by simp,fun x hx=> ?_⟩
   rcases List.mem_cons.1 hx with h|h
   ·rw [h];exact ha
   ·have:=h2.1 x h;have:=hl x (by simp [h])
    omega
  ·obtain ⟨A',A1,e,h3,h4⟩:=B6N h2.2 (fun x hx=>hl x (by simp [hx]))
   refine ⟨a::A',A1,by rw [e];rfl,fun x hx=> ?_,h4⟩
   rcases List.mem_cons.1 hx with h|h
   ·rw [h];have:=hl a (by simp);omega
   ·exact h3 x h
theorem C8s {k:Int} (hk:1<=k/\k<=128): ∀(n:Nat) (A B C:List A3) (l:Nat),(A++B++C).length=n->A5y lvB A B C (l:Int)->B0y (A++B++C)->K5 (A++B++C)<=1073741824->n<=1048576->l<=30->
  ∃R,T8 k (A++B++C) ((A.length+B.length:Nat):Int) (l:Int)=some R/\A4c k (A++B++C) (l:Int)=some R/\B0y R/\K5 R=K5 (A++B++C)/\R.length<=n:=by
 intro n
 induction n with
 |zero=>
  intro A B C l hlen hp hg ht hn hl;have hi:=B7z hp (by omega) hk (by omega:(0:Int)<=(l:Int)/\(l:Int)<=30)
  have hr:=B9i hp (by omega) hk (by omega:(0:Int)<=(l:Int)/\(l:Int)<=30)
  have hlen' :(A++B++C).length=A.length+B.length+C.length:=by simp [Nat.add_assoc]
  unfold insOut at hi;unfold B40 at hr;rw [if_pos (by omega)] at hi hr
  refine ⟨A++B++C, ?_, ?_,hg,rfl,by omega⟩
  ·unfold T8;exact J5 (by unfold Z3;exact hi)
  ·unfold A4c;exact J5 (by unfold A5I;rw [D03 (by omega),D02];exact hr)
 |succ n ih=>
  intro A B C l hlen hp hg ht hn hl;have hi:=B7z hp (by omega) hk (by omega:(0:Int)<=(l:Int)/\(l:Int)<=30)
  have hr:=B9i hp (by omega) hk (by omega:(0:Int)<=(l:Int)/\(l:Int)<=30)
  have hlen' :(A++B++C).length=A.length+B.length+C.length:=by simp [Nat.add_assoc]
  unfold insOut at hi;unfold B40 at hr
  by_cases hb:(B.length:Int)<k+2
  ·rw [if_pos hb] at hi hr;refine ⟨A++B++C, ?_, ?_,hg,rfl,by omega⟩
   ·unfold T8;exact J5 (by unfold Z3;exact hi)
   ·unfold A4c;exact J5 (by unfold A5I;rw [D03 (by omega),D02];exact hr)
  ·rw [if_neg hb] at hi hr
   match B,hb,hi,hr,hp,hg,ht,hlen,hlen' with
   | [],hb,_,_,_,_,_,_,_=>simp at hb;omega
   | [b1],hb,_,_,_,_,_,_,_=>simp at hb;omega
   |b1::b2::D,hb,hi,hr,hp,hg,ht,hlen,hlen' =>
    rw [show (b1::b2::D).getD 1 default=b2 from rfl,show (b1::b2::D).drop 2=D from rfl] at hi hr;have hA:A.Pairwise (fun a b=>b.As<=a.As):=(List.pairwise_append.1 (List.pairwise_append.1 hg.1).1).1;have htB:=B9p hl hp.at_;have hl28:l<=28:=by
     by_cases h:l<=28
     ·exact h
     ·exfalso;rw [A3I,A3I,htB] at ht;have h1:=A9B A;have h2:=A9B C;have h3:(3:Int)<=((b1::b2::D).length:Int):=by simp at hb⊢;omega
      have h4:(3:Int)*2^l<=((b1::b2::D).length:Int)*2^l:=Int.mul_le_mul_of_nonneg_right h3 (Int.le_of_lt (Int.pow_pos (by decide)))
      rcases (by omega:l=29\/l=30) with rfl|rfl
      ·rw [show (2:Int)^29=536870912 by decide] at h4 ht;omega
      ·rw [show (2:Int)^30=1073741824 by decide] at h4 ht;omega
    obtain ⟨A',A1,rfl,hA',hA1⟩:=B6N hA hp.up;have hm:(mrg b2 (l:Int)).As=((l+1:Nat):Int):=by simp [mrg]
    have eo:(A' ++A1)++mrg b2 (l:Int)::(D++C)=A' ++(A1++ [mrg b2 (l:Int)])++(D++C):=by simp
    have el:((A' ++A1).length+1:Nat)=A'.length+(A1++ [mrg b2 (l:Int)]).length:=by simp [Nat.add_assoc]
    have hlD: ∀x∈D,x.As=(l:Int):=fun x hx=>hp.at_ x (by simp [hx])
    have hp' :A5y lvB A' (A1++ [mrg b2 (l:Int)]) (D++C) ((l+1:Nat):Int):=by
     refine ⟨fun x hx=> ?_,fun x hx=> ?_,fun x hx=> ?_⟩
     ·have:=hA' x hx;show ((l+1:Nat):Int)<x.As;omega
     ·rcases D1K.1 hx with h|h
      ·have:=hA1 x h;show x.As=_;omega
      ·rw [List.mem_singleton.1 h];exact hm
     ·rcases D1K.1 hx with h|h
      ·have:=hlD x h;show x.As<_;omega
      ·have:=hp.low x h;have h' :x.As<(l:Int):=this;show x.As<_;omega
    have hup: ∀x∈A' ++A1,((l+1:Nat):Int)<=x.As:=fun x hx=>by
     have:(l:Int)<x.As:=hp.up x hx;omega
    have hlow: ∀x∈D++C,x.As<=(l:Int):=fun x hx=>by
     rcases D1K.1 hx with h|h
     ·rw [hlD x h];omega
     ·have h' :x.As<(l:Int):=hp.low x h;omega
    have hDC:(D++C).Pairwise (fun a b=>b.As<=a.As):=by
     have h:=hg.1;rw [D1s] at h;have h2:=(List.pairwise_append.1 h).2.1;exact (List.pairwise_cons.1 (List.pairwise_cons.1 h2).2).2
    have hg' :B0y (A' ++(A1++ [mrg b2 (l:Int)])++(D++C)):=by
     rw [<-eo];refine ⟨List.pairwise_append.2 ⟨hA,List.pairwise_cons.2 ⟨fun x hx=> ?_,hDC⟩,fun x hx y hy=> ?_⟩,fun x hx=> ?_⟩
     ·rw [hm];have:=hlow x hx;omega
     ·rcases List.mem_cons.1 hy with h|h
      ·rw [h,hm];exact hup x hx
      ·have:=hup x hx;have:=hlow y h;omega
     ·rcases D1K.1 hx with h|h
      ·exact hg.2 x (by simp only [D1s,D1K] at h⊢;rcases h with h|h<;>simp [h])
      ·rcases List.mem_cons.1 h with h|h
       ·rw [h,hm];omega
       ·exact hg.2 x (by simp only [D1K,List.mem_cons] at h⊢;rcases h with h|h<;>simp [h])
    have htot:K5 (A' ++(A1++ [mrg b2 (l:Int)])++(D++C))=K5 (A' ++A1++b1::b2::D++C):=by
     rw [<-eo];have e1:=A29 (hp.at_ b1 (by simp)) hl
     have e2:=A29 (hp.at_ b2 (by simp)) hl
     have e3:=A29 hm (by omega)
     simp only [A3I,A4l,e1,e2,e3];rw [Int.pow_succ];omega
    have hlen2:(A' ++(A1++ [mrg b2 (l:Int)])++(D++C)).length=n:=by
     rw [<-eo];simp only [D04,D1h] at hlen⊢;omega
    obtain ⟨R,r1,r2,r3,r4,r5⟩:=ih A' (A1++ [mrg b2 (l:Int)]) (D++C) (l+1) hlen2 hp' hg' (by rw [htot];exact ht) (by omega) (by omega)
    refine ⟨R, ?_, ?_,r3,by rw [r4,htot],by omega⟩
    ·rw [<-r1];unfold T8;rw [eo,el,show ((l:Int)+1)=((l+1:Nat):Int) by omega] at hi
     exact L4 (by unfold Z3;exact hi)
    ·rw [<-r2];unfold A4c;rw [eo,show ((l:Int)+1)=((l+1:Nat):Int) by omega] at hr
     exact L4 (by unfold A5I;rw [D03 (by omega),D02];exact hr)
theorem B80 {k:Int} (hk:1<=k/\k<=128) {l:List A3} (t:Int) (hg:B0y l) (ht:K5 l+1<=1073741824) (hn:l.length+1<=1048576):
  ∃R,A0p l k t=some R/\A8k l k t=some R/\B0y R/\K5 R=K5 l+1/\R.length<=l.length+1:=by
 obtain ⟨A,Z,e,hA,hZ⟩:=B6N (l:= -1) hg.1 (fun x hx=>by have:=(hg.2 x hx).1;omega)
 have eo:l++ [A3.mk t 0]=A++(Z++ [A3.mk t 0])++ []:=by rw [e];simp
 have hp:A5y lvB A (Z++ [A3.mk t 0]) [] ((0:Nat):Int):=by
  refine ⟨fun x hx=> ?_,fun x hx=> ?_,by simp⟩
  ·have:=hA x hx;show ((0:Nat):Int)<x.As;omega
  ·rcases D1K.1 hx with h|h
   ·have:=hZ x h;show x.As=_;omega
   ·rw [List.mem_singleton.1 h];rfl
 have hg' :B0y (l++ [A3.mk t 0]):=by
  refine ⟨List.pairwise_append.2 ⟨hg.1,by simp,fun x hx y hy=> ?_⟩,fun x hx=> ?_⟩
  ·rw [List.mem_singleton.1 hy];exact (hg.2 x hx).1
  ·rcases D1K.1 hx with h|h
   ·exact hg.2 x h
   ·rw [List.mem_singleton.1 h];exact ⟨Int.le_refl 0,(by decide:(0:Int)<=30)⟩
 have htot:K5 (l++ [A3.mk t 0])=K5 l+1:=by
  rw [A3I,A4l,B3f];have:A17 (A3.mk t 0)=2^0:=A29 rfl (by omega)
  rw [Int.pow_zero] at this;omega
 have hlen:(l++ [A3.mk t 0]).length=l.length+1:=by simp
 obtain ⟨R,r1,r2,r3,r4,r5⟩:=C8s hk (l.length+1) A (Z++ [A3.mk t 0]) [] 0 (by rw [<-eo,hlen]) hp (by rw [<-eo];exact hg') (by rw [<-eo,htot];exact ht) hn (by omega)
 have el:A.length+(Z++ [A3.mk t 0]).length=(l++ [A3.mk t 0]).length:=by rw [eo];simp
 rw [<-eo] at r1 r2 r4;rw [el] at r1;refine ⟨R, ?_, ?_,r3,by rw [r4,htot],r5⟩
 ·unfold A0p;rw [G5 (by simp;omega)]
  exact r1
 ·unfold A8k;simp only [List.nil_append];rw [G5 (by simp;omega),G5 (by simp;omega)]
  exact r2
theorem C8P {k:Int} (hk:1<=k/\k<=128) (t:Int): ∀(n:Nat) (l:List A3),B0y l->K5 l+n<=1073741824->l.length+n<=1048576->
  ∃R,Z2 k t (n:Int) l=some R/\A03 k t l (n:Int)=some R/\R.length<=l.length+n:=by
 intro n
 induction n with
 |zero=>
  intro l _ _ _;refine ⟨l, ?_, ?_,by omega⟩
  ·unfold Z2;rw [O6];have:X5 k t ((0:Nat):Int) l=some (.inr l):=by unfold X5;rfl
   simp only [this]
  ·unfold A03;rw [O6];have:A0w k t l ((0:Nat):Int)=some (.inr l):=by unfold A0w;rfl
   simp only [this]
 |succ n ih=>
  intro l hg ht hn;obtain ⟨R,r1,r2,r3,r4,r5⟩:=B80 hk t hg (by omega) (by omega)
  obtain ⟨S,s1,s2,s3⟩:=ih R r3 (by omega) (by omega)
  have e:A2 (((n+1:Nat):Int)-1)=(n:Int):=by rw [C6]<;>omega
  have hp:decide (((n+1:Nat):Int)>0)=true:=D03 (by omega)
  refine ⟨S, ?_, ?_,by omega⟩
  ·rw [<-s1];unfold Z2;exact L4 (by simp only [X5,hp,D02,r1,D0Y,e])
  ·rw [<-s2];unfold A03;exact L4 (by simp only [A0w,hp,D02,r2,D0Y,e])
end Go.Win
namespace Go.Win
open Go.Vc Go.Dec
theorem B4G {l:List A3} {k:Int} (h:A39 l k):B0y l:=by
 have hb: ∀i,i<l.length-> ¬A0H l i:=h.2.1;have hr: ∀i,i<l.length->0<=(el l i).As/\(el l i).As<=30:=fun i hi=>by
  have:=hb i hi;unfold A0H at this;omega
 have key: ∀d i,i+d<l.length->(el l (i+d)).As<=(el l i).As:=by
  intro d
  induction d with
  |zero=>intro i _;exact Int.le_refl _
  |succ d ih=>
   intro i hi;have h1:=ih i (by omega)
   have h2:=hb (i+(d+1)) hi;unfold A0H at h2;rw [show i+(d+1)-1=i+d by omega] at h2
   omega
 refine ⟨List.pairwise_iff_getElem.2 fun i j hi hj hij=> ?_,fun x hx=> ?_⟩
 ·have:=key (j-i) i (by omega)
  rw [show i+(j-i)=j by omega,A79 hi,A79 hj] at this
  exact this
 ·obtain ⟨i,hi,rfl⟩:=C6n hx;exact hr i hi
theorem C7Q (b:A3):A17 b<=1073741824:=by
 unfold A17
 by_cases h:0<=b.As/\b.As<=30
 ·rw [if_pos h];exact B94 (by omega)
 ·rw [if_neg h];decide
theorem C4g (l:List A3):K5 l<=l.length*1073741824:=by
 induction l with
 |nil=>simp [B3f]
 |cons b l ih=>
  have:=C7Q b;rw [A4l,D1h]
  push_cast
  omega
theorem C7U {l:List A3} (hl:l.length<=1048576):A2 (K5 l)=K5 l:=by
 have h1:=A9B l;have h2:=C4g l;rw [C6]<;>omega
theorem A9s {l:List A3} (hl:l.length<=1048576):R2 l=some (K5 l)/\S6 l=some (K5 l):=by
 have:=A3D l (F3 hl);rw [C7U hl] at this;exact ⟨by rw [A9r];exact this,this⟩
theorem C1x {l:List A3} {t:Int} (hl:l.length<=1048576) (ht:0<=t/\t<=16777216) (hT:∀i,i<l.length->(el l i).T<=t):
  A5j l t=some true/\ ∃y,A6O l=some y/\y<=t:=by
 have htk:T9 t=true:=by unfold T9;simp;omega
 unfold A5j A6O;simp only [htk];rcases Nat.eq_zero_or_pos l.length with h0|h0
 ·have e:((l.length:Int)==0)=true:=by rw [h0];rfl
  rw [e];exact ⟨rfl,0,rfl,ht.1⟩
 ·have e:((l.length:Int)==0)=false:=by rw [D1O];omega
  have e1:A2 ((l.length:Int)-1)=((l.length-1:Nat):Int):=by rw [C6]<;>omega
  have hi:=F8 (l:=l) (i:=l.length-1) (by omega)
  rw [e,e1,hi];have:=hT (l.length-1) (by omega)
  refine ⟨?_,_,rfl,this⟩;simp only [gd,D1b,Bool.and_self,D02,D0Y,D1z,D1p,D03 this]
theorem C7w {l:List A3} {k t:Int} (hok:A39 l k) (hl:l.length+1<=1048576) (ht:0<=t/\t<=16777216) (hT:∀i,i<l.length->(el l i).T<=t) (hs:K5 l+1<=1073741824):
  ∃R,A4r l k t=some R/\A6M l k t=some R/\R.length<=l.length+1:=by
 obtain ⟨R,r1,r2,_,_,r5⟩:=B80 hok.1 t (B4G hok) hs hl;obtain ⟨m1,y,m2,m3⟩:=C1x (by omega) ht hT
 obtain ⟨t1,t2⟩:=A9s (l:=l) (by omega)
 have htk:F4 t=true:=(T6 t).2 ht;refine ⟨R, ?_, ?_,r5⟩
 ·unfold A4r;rw [A3d l k (F3 (by omega)),K9 hok,m1,t1]
  simp only [D0Y,D1a,D1b,Bool.or_self,D1p,gd,D02,D05 (show¬K5 l>=1073741824 by omega),D01,List.nil_append]
  rw [G5 (by simp;omega),r1]
  rfl
 ·unfold A6M;rw [A7W l k (F3 (by omega)),K9 hok,m2,t2]
  simp only [D0Y,htk,D1a,D1b,Bool.or_self,D1p,gd,D02,D05 (show¬t<y by omega),D05 (show¬K5 l>=1073741824 by omega),D01]
  rw [r2]
  rfl
theorem C59 {l:List A3} {W K Cap Now:Int} (h:A6D l W K Cap Now): ∀i,i<l.length->(el l i).T<=Now:=fun i hi=>by
 have:=(B6G _ _ _).1 (h.2.2.2 i hi);omega
theorem C5J (x:D5) (hl:x.Ab.length+1<=1048576): ∃r,B0P x=some r/\B06 x=some r/\r.1.Ab.length<=x.Ab.length+1:=by
 unfold B0P B06;rw [B15 x (F3 (by omega)),B2i x (F3 (by omega)),D0Y,D0Y]
 by_cases hv:A6D x.Ab x.W x.K x.Cap x.Now
 ·obtain ⟨t1,t2⟩:=A9s (l:=x.Ab) (by omega)
  rw [N0 hv,t1,t2];simp only [D1B,D01,D0Y]
  by_cases hc:K5 x.Ab=x.Cap
  ·rw [D1S.2 hc];exact ⟨_,rfl,rfl,Nat.zero_le _⟩
  ·rw [D1O.2 hc,D01,D01];have hcap:=hv.2.2.1;rw [C7U (by omega)] at hcap
   have:=hv.1.2.1;obtain ⟨R,r1,r2,r3⟩:=C7w hv.2.1 hl hv.1.2.2.1 (C59 hv) (by omega)
   rw [r1,r2];exact ⟨_,rfl,rfl,r3⟩
 ·rw [H3 hv];exact ⟨_,rfl,rfl,Nat.zero_le _⟩
theorem C6d {l:List A3} {k t:Int} {n:Nat} (hok:A39 l k) (hl:l.length+n<=1048576) (ht:0<=t/\t<=16777216) (hT:∀i,i<l.length->(el l i).T<=t) (hn:n<=1024) (hs:K5 l+n<=1073741824):
  ∃R,A1j l k t (n:Int)=some R/\A22 l k t (n:Int)=some R/\R.length<=l.length+n:=by
 obtain ⟨R,r1,r2,r3⟩:=C8P hok.1 t n l (B4G hok) hs hl;obtain ⟨m1,y,m2,m3⟩:=C1x (by omega) ht hT
 obtain ⟨t1,t2⟩:=A9s (l:=l) (by omega)
 have htk:F4 t=true:=(T6 t).2 ht;have h0:=A9B l;have w1:A2 ((1073741824:Int)-(n:Int))=1073741824-(n:Int):=by rw [C6]<;>omega
 have w2:A2 (K5 l+(n:Int))=K5 l+(n:Int):=by rw [C6]<;>omega
 refine ⟨R, ?_, ?_,r3⟩
 ·unfold A1j;rw [A3d l k (F3 (by omega)),K9 hok,m1,t1]
  simp only [D0Y,D1a,D1b,Bool.or_self,D1p,gd,D02,D05 (show¬(n:Int)<0 by omega),D05 (show¬(n:Int)>1024 by omega),D1z,w1]
  by_cases hp:(n:Int)>0
  ·simp only [D03 hp,D02,D0Y,D1z,D05 (show¬K5 l>1073741824-(n:Int) by omega),D01,List.nil_append]
   rw [G5 (by simp;omega),r1]
  ·simp only [D05 hp,D01,D0Y,D1t,List.nil_append];rw [G5 (by simp;omega),r1]
 ·unfold A22;rw [A7W l k (F3 (by omega)),K9 hok,m2,t2]
  simp only [D0Y,htk,D1a,D1b,Bool.or_self,D1p,gd,D02,D05 (show¬(n:Int)<0 by omega),D05 (show¬(n:Int)>1024 by omega),D05 (show¬t<y by omega),D1z]
  by_cases hp:(n:Int)>0
  ·simp only [D03 hp,D02,D0Y,D1z,w2,D05 (show¬K5 l+(n:Int)>1073741824 by omega),D01]
   exact r2
  ·simp only [D05 hp,D01,D0Y,D1t];exact r2
theorem C8l (x:D9) (v:Int) (hl:x.Ab.length+1024<=1048576): ∃r,B5q x v=some r/\B07 x v=some r/\r.1.Ab.length<=x.Ab.length+1024:=by
 unfold B5q B07;rw [B46 x (F3 (by omega)),B2j x (F3 (by omega)),D0Y,D0Y]
 by_cases hv:B92 x
 ·obtain ⟨t1,t2⟩:=A9s (l:=x.Ab) (by omega)
  rw [N0 hv,t1,t2];simp only [D1B,D01,D0Y];cases hr:(decide (v<0)||decide (v>x.Be)) with
  |true=>exact ⟨_,rfl,rfl,Nat.zero_le _⟩
  |false=>
   rw [D01,D01];have hr' : ¬v<0/\ ¬v>x.Be:=by
    rw [D1y,D1f,D1f] at hr;exact hr
   have hm:=hv.2;have hcap:=hv.1.2.2.1;rw [C7U (by omega)] at hcap
   have hc:=hv.1.1.2.1;have h0:=A9B x.Ab;have w1:A2 (x.Cap-v)=x.Cap-v:=by rw [C6]<;>omega
   have w2:A2 (K5 x.Ab+v)=K5 x.Ab+v:=by rw [C6]<;>omega
   rw [w1,w2];have e:decide (K5 x.Ab>x.Cap-v)=decide (K5 x.Ab+v>x.Cap):=decide_eq_decide.2 (by omega)
   rw [e]
   by_cases hf:K5 x.Ab+v>x.Cap
   ·rw [D03 hf];exact ⟨_,rfl,rfl,Nat.zero_le _⟩
   ·rw [D05 hf,D01,D01];obtain ⟨n,rfl⟩:=Int.eq_ofNat_of_zero_le (show 0<=v by omega)
    obtain ⟨R,r1,r2,r3⟩:=C6d (n:=n) hv.1.2.1 (by omega) hv.1.1.2.2.1 (C59 hv.1) (by omega) (by omega)
    rw [r1,r2];exact ⟨_,rfl,rfl,by show R.length<=_;omega⟩
 ·rw [H3 hv];exact ⟨_,rfl,rfl,Nat.zero_le _⟩
end Go.Win
namespace Go.Win
open Go.Vc Go.Dec
section
variable {β:Type}
def fnd (p:β->Bool):List β->Option Nat
 | []=>none
 |x::l=>match fnd p l with
  |some m=>some (m+1)
  |none=>if p x then some 0 else none
theorem C1g (p:β->Bool) (x:β): ∀l:List β,fnd p (l++ [x])=if p x then some l.length else fnd p l
 | []=>by simp [fnd]
 |y::l=>by
  rw [List.cons_append,fnd,C1g p x l]
  by_cases h:p x=true
  ·simp [h]
  ·simp [h,fnd]
theorem C55 {p:β->Bool}: ∀ {l:List β} {m:Nat},fnd p l=some m->m<l.length
 | [],m,h=>by cases h
 |x::l,m,h=>by
  rw [fnd] at h;cases hf:fnd p l with
  |some k=>
   rw [hf] at h;have:=C55 hf;cases h;simp only [D1h];omega
  |none=>
   rw [hf] at h
   by_cases hx:p x=true
   ·simp [hx] at h;subst h;simp
   ·simp [hx] at h
theorem C1h (p:β->Bool) {l:List β} {t:Nat} {x:β} (h:l[t]? =some x):fnd p (l.take (t+1))=if p x then some t else fnd p (l.take t):=by
 have ht:=(D08.1 h).1;rw [List.take_add_one,h,Option.toList_some,C1g,D1q,Nat.min_eq_left (by omega)]
def A7R (p:β->Bool) (l:List β):Nat:=(fnd p l).getD 0
theorem B9l {R:Type} {f:Int->Option (Int⊕R)} (i:Nat) (rest:List β) (p:β->Bool) (K:Int->Option R)
  (h0:f (i:Int)=Option.map Sum.inr (K ((i+1:Nat):Int)))
  (hs:∀(t:Nat) (x:β),rest[t]? =some x->f ((i+t+1:Nat):Int)=if p x then Option.map Sum.inr (K ((i+t+1:Nat):Int)) else some (.inl ((i+t:Nat):Int))):
  loop f ((i+rest.length:Nat):Int)=K ((i+1+A7R p rest:Nat):Int):=by
 have key: ∀t,t<=rest.length->loop f ((i+t:Nat):Int)=K ((i+1+(fnd p (rest.take t)).getD 0:Nat):Int):=by
  intro t
  induction t with
  |zero=>
   intro _;rw [Nat.add_zero,O6,h0];simp only [List.take_zero,fnd,Option.getD_none,Nat.add_zero];cases K ((i+1:Nat):Int)<;>rfl
  |succ t ih=>
   intro ht;have hx:=D1c (l:=rest) (i:=t) (by omega)
   have st:=hs t _ hx;rw [C1h p hx]
   by_cases hp:p rest[t]=true
   ·rw [if_pos hp] at st⊢;rw [show i+(t+1)=i+t+1 by omega,O6,st,Option.getD_some,show i+1+t=i+t+1 by omega]
    cases K ((i+t+1:Nat):Int)<;>rfl
   ·rw [if_neg hp] at st⊢;rw [show i+(t+1)=i+t+1 by omega,L4 st]
    exact ih (by omega)
 have:=key rest.length (D1G _);rw [List.take_length] at this;exact this
theorem C4d {R:Type} {f:Int×Int->Option ((Int×Int)⊕R)} (i:Nat) (rest:List β) (p:β->Bool) (K:Int->Option R)
  (hs:∀(t:Nat) (x:β) (j:Int),rest[t]? =some x->f (j,((i+1+t:Nat):Int))=some (.inl (if p x then ((i+1+t:Nat):Int) else j,((i+1+t+1:Nat):Int))))
  (hd:∀j,(i:Int)<=j/\j<((i+1+rest.length:Nat):Int)->f (j,((i+1+rest.length:Nat):Int))=Option.map Sum.inr (K j)):
  loop f ((i:Int),((i+1:Nat):Int))=K (match fnd p rest with
   |some m=>((i+1+m:Nat):Int)
   |none=>(i:Int)):=by
 have key: ∀k t:Nat,t+k=rest.length->loop f ((match fnd p (rest.take t) with
   |some m=>((i+1+m:Nat):Int)
   |none=>(i:Int)),((i+1+t:Nat):Int))=K (match fnd p rest with
   |some m=>((i+1+m:Nat):Int)
   |none=>(i:Int)):=by
  intro k
  induction k with
  |zero=>
   intro t ht;have:t=rest.length:=by omega
   subst this;rw [List.take_length,O6,hd _ (by
    cases hf:fnd p rest with
    |none=>simp only [];omega
    |some m=>have:=C55 hf;simp only [];omega)]
   cases K _<;>rfl
  |succ k ih=>
   intro t ht;have hx:=D1c (l:=rest) (i:=t) (by omega)
   have:=ih (t+1) (by omega)
   rw [C1h p hx] at this;rw [L4 (hs t _ _ hx),<-this]
   by_cases hp:p rest[t]=true
   ·rw [if_pos hp,if_pos hp];rfl
   ·rw [if_neg hp,if_neg hp];rfl
 exact key rest.length 0 (by omega)
def U3 (near:β->β->Bool):List β->List β
 | []=> []
 |x::l=>x::U3 near (l.drop (A7R (near x) l))
termination_by l=>l.length
decreasing_by simp only [D1w,D1h];omega
theorem B7A (near:β->β->Bool): ∀(n:Nat) (l:List β),l.length<=n->(U3 near l).length<=l.length:=by
 intro n
 induction n with
 |zero=>intro l h;have:l= []:=D1J (by omega);subst this;rw [U3];exact D1G _
 |succ n ih=>
  intro l h;cases l with
  |nil=>rw [U3];exact D1G _
  |cons x l=>
   rw [U3,D1h,D1h];have h1:=ih (l.drop (A7R (near x) l)) (by simp only [D1w,D1h] at h⊢;omega)
   simp only [D1w] at h1;omega
theorem B7B (near:β->β->Bool) (l:List β) {F:List β×Int->Option ((List β×Int)⊕List β)}
  (hF:∀(out:List β) (i:Nat) (x:β),l[i]? =some x->out.length<=i->F (out,(i:Int))=some (.inl (out++ [x],((i+1+A7R (near x) (l.drop (i+1)):Nat):Int))))
  (hend:∀(out:List β) (i:Nat),l.length<=i->F (out,(i:Int))=some (.inr out)):
  ∀(n i:Nat) (out:List β),l.length<=i+n->out.length<=i->loop F (out,(i:Int))=some (out++U3 near (l.drop i)):=by
 intro n
 induction n with
 |zero=>
  intro i out h _;rw [J5 (hend out i (by omega)),List.drop_eq_nil_of_le (by omega),U3,List.append_nil]
 |succ n ih=>
  intro i out h ho
  by_cases hi:i<l.length
  ·have hx:=D1c (l:=l) (i:=i) hi;rw [L4 (hF out i _ hx ho),ih _ _ (by omega) (by simp;omega),List.drop_eq_getElem_cons hi,U3,D1s,D1W]
   rfl
  ·rw [J5 (hend out i (by omega)),List.drop_eq_nil_of_le (by omega),U3,List.append_nil]
theorem B9c {R:Type} (near:β->β->Bool) (N:Nat) (Q:β->Prop) {G:List β×Int->Option ((List β×Int)⊕R)} {A:List β->Option R}
  (hG:∀(l:List β) (i:Nat) (x:β),l[i]? =some x->l.length<=N->(∀y∈l,Q y)->G (l,(i:Int))=some (.inl (l.take (i+1)++l.drop (i+1+A7R (near x) (l.drop (i+1))),((i+1:Nat):Int))))
  (hend:∀(l:List β) (i:Nat),l.length<=i->G (l,(i:Int))=Option.map Sum.inr (A l)):
  ∀(n i:Nat) (l:List β),l.length<=i+n->l.length<=N->(∀y∈l,Q y)->loop G (l,(i:Int))=A (l.take i++U3 near (l.drop i)):=by
 intro n
 induction n with
 |zero=>
  intro i l h _ _;rw [O6,hend l i (by omega),List.drop_eq_nil_of_le (by omega),List.take_of_length_le (by omega),U3,List.append_nil]
  cases A l<;>rfl
 |succ n ih=>
  intro i l h hN hQ
  by_cases hi:i<l.length
  ·have hx:=D1c (l:=l) (i:=i) hi;have htl:(l.take (i+1)).length=i+1:=by rw [D1q];omega
   rw [L4 (hG l i _ hx hN hQ),ih (i+1) _ (by simp only [D04,htl,D1w];omega) (by simp only [D04,htl,D1w];omega) (fun y hy=>by
    rcases D1K.1 hy with h|h
    ·exact hQ y (List.mem_of_mem_take h)
    ·exact hQ y (List.mem_of_mem_drop h))]
   rw [List.take_append_of_le_length (by omega),List.take_take,Nat.min_self]
   have hd:(l.take (i+1)++l.drop (i+1+A7R (near l[i]) (l.drop (i+1)))).drop (i+1)=l.drop (i+1+A7R (near l[i]) (l.drop (i+1))):=by
    have:=List.drop_left (l₁:=l.take (i+1)) (l₂:=l.drop (i+1+A7R (near l[i]) (l.drop (i+1))));rw [htl] at this;exact this
   rw [hd,List.drop_eq_getElem_cons hi,U3,D1W,List.take_add_one,hx,Option.toList_some,D1s]
   rfl
  ·rw [O6,hend l i (by omega),List.drop_eq_nil_of_le (by omega),List.take_of_length_le (by omega),U3,List.append_nil]
   cases A l<;>rfl
theorem C7z {R:Type} (g:β->β) (l:List β) {F:List β×Int->Option ((List β×Int)⊕R)} {A:List β->Option R}
  (hF:∀(out:List β) (i:Nat) (x:β),l[i]? =some x->out.length=i->F (out,(i:Int))=some (.inl (out++ [g x],((i+1:Nat):Int))))
  (hend:∀out:List β,out.length=l.length->F (out,(l.length:Int))=Option.map Sum.inr (A out)):
  ∀(n i:Nat) (out:List β),i+n=l.length->out.length=i->loop F (out,(i:Int))=A (out++(l.drop i).map g):=by
 intro n
 induction n with
 |zero=>
  intro i out h ho;have:i=l.length:=by omega
  subst this;rw [O6,hend out ho,List.drop_length,List.map_nil,List.append_nil];cases A out<;>rfl
 |succ n ih=>
  intro i out h ho;have hi:i<l.length:=by omega
  have hx:=D1c (l:=l) (i:=i) hi;rw [L4 (hF out i _ hx ho),ih (i+1) _ (by omega) (by simp;omega),List.drop_eq_getElem_cons hi,D1R,D1s]
  rfl
end
end Go.Win
namespace Go.Win
open Go.Vc Go.Dec
def C7s (v:Int) (m:A7):A7:=⟨m.Bg,m.T,A2 (m.N+1),A2 (m.S+v),A2 (m.Q+A2 (v*v)),A0P m.Bf v,X0 m.Be v⟩
def C7D (seq t v:Int):A7:=⟨seq,t,1,v,A2 (v*v),v,v⟩
def B6k (l:List A7) (seq t v:Int):List A7:=l.map (C7s v)++ [C7D seq t v]
theorem B86 {l:List A7} (hl:l.length+1<=1048576) (seq t v:Int):A6i l seq t v=some (B6k l seq t v):=by
 unfold A6i B4B;have:=C7z (C7s v) l (F:=fun s=>A3h l seq t v s.1 s.2) (A:=fun out=>some (out++ [C7D seq t v])) (fun out i x hx ho=>by
   have hi:=(D08.1 hx).1;have e1:A2 ((i:Int)+1)=((i+1:Nat):Int):=by rw [C6]<;>omega
   simp only [A3h,D03 (show (i:Int)<(l.length:Int) by omega),D02,K8,hx,D0Y,e1]
   rw [G5 (by simp;omega)]
   rfl) (fun out ho=>by
   simp only [A3h,D05 (show¬(l.length:Int)<(l.length:Int) by omega),D01]
   rw [G5 (by simp;omega)]
   rfl) l.length 0 [] (by omega) rfl
 simpa [B6k] using this
theorem B7i:A5L=A6i:=rfl
theorem C0d (l:List A7) (seq t v:Int):(B6k l seq t v).length=l.length+1:=by simp [B6k]
theorem C1S {l:List A7} (hl:l.length<=1048576) (agg w k cap now seq:Int) (ms:List A7):
  A4x l agg w k cap now seq ms=some (U3 (fun a b=>G7 a b agg k) l):=by
 unfold A4x A8P;have:=B7B (fun a b=>G7 a b agg k) l (F:=fun s=>Y1 l agg w k cap now seq ms s.1 s.2) (fun out i x hx ho=>by
   have hi:=(D08.1 hx).1;have e1:A2 ((i:Int)+1)=((i+1:Nat):Int):=by rw [C6]<;>omega
   have e2:A2 ((l.length:Int)-1)=((i+(l.drop (i+1)).length:Nat):Int):=by rw [D1w,C6]<;>omega
   simp only [Y1,D03 (show (i:Int)<(l.length:Int) by omega),D02,K8,hx,D0Y,e2]
   rw [G5 (by simp;omega)]
   unfold A8Q;refine B9l i (l.drop (i+1)) (fun y=>G7 x y agg k) (fun v=>(some (Sum.inl (out++ [x],v)):Option ((List A7×Int)⊕List A7))) ?_ ?_
   ·simp only [A1r,D05 (show¬(i:Int)>(i:Int) by omega),D01,e1]
   ·intro t y hy;rw [D1i] at hy;have ht:=(D08.1 hy).1;rw [show i+1+t=i+t+1 by omega] at hy
    have e3:A2 (((i+t+1:Nat):Int)-1)=((i+t:Nat):Int):=by rw [C6]<;>omega
    simp only [A1r,D03 (show ((i+t+1:Nat):Int)>(i:Int) by omega),D02,K8,hx,hy,D0Y,A6Y,e3]
    cases G7 x y agg k<;>rfl) (fun out i h=>by
   simp only [Y1,D05 (show¬(i:Int)<(l.length:Int) by omega),D01]
   rfl) l.length 0 [] (by omega) (D1G _)
 simpa using this
theorem C08 {β:Type} (l:List β) (i:Nat) (p:β->Bool):(match fnd p (l.drop (i+1)) with
  |some m=>l.take (i+1)++l.drop (i+1+m)
  |none=>l)=l.take (i+1)++l.drop (i+1+A7R p (l.drop (i+1))):=by
 unfold A7R;cases fnd p (l.drop (i+1)) with
 |some m=>rfl
 |none=>simp
theorem C3f {x:C3} {l:List A7} (hl:l.length<=1048576) (hr:∀m∈l,(-4096<=m.Bf/\m.Bf<=4096)/\(-4096<=m.Be/\m.Be<=4096)):
  B0i x l 0=some (⟨x.Bd,x.W,x.K,x.Cap,x.Now,A2 (x.Bg+1),U3 (fun a b=>G7 a b x.Bd x.K) l⟩,0):=by
 unfold B0i;have:=B9c (fun a b=>G7 a b x.Bd x.K) 1048576 (fun m=>(-4096<=m.Bf/\m.Bf<=4096)/\(-4096<=m.Be/\m.Be<=4096)) (G:=fun s=>A5K x s.1 s.2) (A:=fun l=>some ((⟨x.Bd,x.W,x.K,x.Cap,x.Now,A2 (x.Bg+1),l⟩:C3),(0:Int))) (fun l i m hm hN hQ=>by
   have hi:=(D08.1 hm).1;have e1:A2 ((i:Int)+1)=((i+1:Nat):Int):=by rw [C6]<;>omega
   simp only [A5K,D03 (show (i:Int)<(l.length:Int) by omega),D02,e1]
   unfold B4O;rw [<-C08];have hsc:=C4d (f:=fun s:Int×Int=>A3n x l (i:Int) s.1 s.2) i (l.drop (i+1)) (fun y=>G7 m y x.Bd x.K) (fun j=>cond (decide (j>(i:Int))) (some (.inl (l.take (i+1)++l.drop j.toNat,((i+1:Nat):Int)))) (some (.inl (l,((i+1:Nat):Int))))) ?_ ?_
   ·rw [hsc];cases fnd (fun y=>G7 m y x.Bd x.K) (l.drop (i+1)) with
    |some t=>simp only [D03 (show ((i+1+t:Nat):Int)>(i:Int) by omega),D02,D1E]
    |none=>simp only [D05 (show¬(i:Int)>(i:Int) by omega),D01]
   ·intro t y j hy;rw [D1i] at hy;have ht:=(D08.1 hy).1;have e3:A2 (((i+1+t:Nat):Int)+1)=((i+1+t+1:Nat):Int):=by rw [C6]<;>omega
    have q1:=hQ y (D1d hy);have q2:=hQ m (D1d hm);simp only [A3n,D03 (show ((i+1+t:Nat):Int)<(l.length:Int) by omega),D02,K8,hm,hy,D0Y,e3,<-C46 q1.1 q1.2,<-C46 q2.1 q2.2]
    have:decide (A2 (A2 (x.K+1)*A2R y x.Bd)>=A2 (x.K*A2R m x.Bd))=G7 m y x.Bd x.K:=rfl;rw [this];cases G7 m y x.Bd x.K<;>rfl
   ·intro j hjr;have hlen:(i+1+(l.drop (i+1)).length:Nat)=l.length:=by rw [D1w];omega
    rw [hlen];simp only [A3n,D05 (show¬(l.length:Int)<(l.length:Int) by omega),D01,e1]
    congr 1
    by_cases hj:j>(i:Int)
    ·rw [hlen] at hjr;rw [D03 hj,D02,D02,G5 (by omega),G5 (by simp;omega),G5 (by omega),G5 (by simp;omega)]
     simp only [D1E,List.nil_append]
    ·rw [D05 hj];rfl) (fun l i h=>by
   simp only [A5K,D05 (show¬(i:Int)<(l.length:Int) by omega),D01]) l.length 0 l (by omega) hl hr
 simpa using this
theorem C4s (x:C3) (v:Int) (hl:x.Av.length+1<=1048576): ∃r,A9o x v=some r/\B08 x v=some r/\r.1.Av.length<=x.Av.length+1:=by
 have ex:(⟨x.Bd,x.W,x.K,x.Cap,x.Now,x.Bg,x.Av⟩:C3)=x:=rfl;unfold A9o B08;rw [ex,B1n x (F3 (by omega)),B2l x (F3 (by omega)),D0Y,D0Y]
 by_cases hv:C5a x
 ·rw [N0 hv];simp only [D1B,D01];have hval:(decide (v<I7 x.Bd)||decide (v>4096))= !P8 x.Bd v:=by
   have:=B0Z (v:=v) hv.1;cases hr:P8 x.Bd v with
   |true=>have:=this.1 hr;rw [D05 (by omega),D05 (by omega)];rfl
   |false=>
    have hn: ¬(I7 x.Bd<=v/\v<=4096):=fun h=>by rw [this.2 h] at hr;cases hr
    rw [D1b,D09,D00,D00];omega
  rw [hval];cases hr:P8 x.Bd v with
  |false=>exact ⟨_,rfl,rfl,Nat.zero_le _⟩
  |true=>
   have hvr:=(B0Z (v:=v) hv.1).1 hr;have hge:=A7q x.Bd;rw [D1a,D01,D01];have hg: ∃m,gd (decide ((x.Av.length:Int)>0)) (D2 x.Av 0)=some m:=by
    by_cases h0:x.Av.length=0
    ·rw [D05 (by omega)];exact ⟨_,rfl⟩
    ·rw [D03 (by omega)];exact ⟨_,A3v (by omega)⟩
   obtain ⟨m,hm⟩:=hg;rw [hm,D0Y,D0Y];cases hf:(((decide ((x.Av.length:Int)>0))&&(m.N==x.Cap))||(x.Bg==1099511627776)) with
   |true=>exact ⟨_,rfl,rfl,Nat.zero_le _⟩
   |false=>
    have hlm:=C0d x.Av (A2 (x.Bg+1)) x.Now v;rw [D01,D01,B7i,B86 hl,D0Y,D0Y,C1S (by omega),C3f (by omega) (fun y hy=> ?_)]
    ·refine ⟨_,rfl,rfl, ?_⟩;have:=B7A (fun a b=>G7 a b x.Bd x.K) _ (B6k x.Av (A2 (x.Bg+1)) x.Now v) (D1G _);show (U3 _ _).length<=_;omega
    ·unfold B6k at hy;rcases D1K.1 hy with h|h
     ·obtain ⟨z,hz,rfl⟩:=List.mem_map.1 h;obtain ⟨i,hi,rfl⟩:=C6n hz;have hz:=A5p hge hv.2.2.1 hi;unfold C7s;simp only [A0P,X0];constructor<;>split<;>omega
     ·rw [List.mem_singleton.1 h];unfold C7D;simp only [];omega
 ·rw [H3 hv];exact ⟨_,rfl,rfl,Nat.zero_le _⟩
theorem C1T {l:List A7} (hl:l.length<=1048576) (w k cap now seq:Int) (ms:List A7):
  A4y l w k cap now seq ms=some (U3 (fun a b=>L6 (U1 a b k)) l):=by
 unfold A4y A8R;have:=B7B (fun a b=>L6 (U1 a b k)) l (F:=fun s=>Y2 l w k cap now seq ms s.1 s.2) (fun out i x hx ho=>by
   have hi:=(D08.1 hx).1;have e1:A2 ((i:Int)+1)=((i+1:Nat):Int):=by rw [C6]<;>omega
   have e2:A2 ((l.length:Int)-1)=((i+(l.drop (i+1)).length:Nat):Int):=by rw [D1w,C6]<;>omega
   simp only [Y2,D03 (show (i:Int)<(l.length:Int) by omega),D02,K8,hx,D0Y,e2]
   rw [G5 (by simp;omega)]
   unfold A8S;refine B9l i (l.drop (i+1)) (fun y=>L6 (U1 x y k)) (fun v=>(some (Sum.inl (out++ [x],v)):Option ((List A7×Int)⊕List A7))) ?_ ?_
   ·simp only [A1s,D05 (show¬(i:Int)>(i:Int) by omega),D01,e1]
   ·intro t y hy;rw [D1i] at hy;have ht:=(D08.1 hy).1;rw [show i+1+t=i+t+1 by omega] at hy
    have e3:A2 (((i+t+1:Nat):Int)-1)=((i+t:Nat):Int):=by rw [C6]<;>omega
    simp only [A1s,D03 (show ((i+t+1:Nat):Int)>(i:Int) by omega),D02,K8,hx,hy,D0Y,A6Z,B45,e3]
    cases L6 (U1 x y k)<;>rfl) (fun out i h=>by
   simp only [Y2,D05 (show¬(i:Int)<(l.length:Int) by omega),D01]
   rfl) l.length 0 [] (by omega) (D1G _)
 simpa using this
theorem C3g {x:C4} {l:List A7} (hl:l.length<=1048576):
  B0j x l 0=some (⟨x.W,x.K,x.Cap,x.Now,A2 (x.Bg+1),U3 (fun a b=>L6 (U1 a b x.K)) l⟩,0):=by
 unfold B0j;have:=B9c (fun a b=>L6 (U1 a b x.K)) 1048576 (fun _=>True) (G:=fun s=>A5M x s.1 s.2) (A:=fun l=>some ((⟨x.W,x.K,x.Cap,x.Now,A2 (x.Bg+1),l⟩:C4),(0:Int))) (fun l i m hm hN _=>by
   have hi:=(D08.1 hm).1;have e1:A2 ((i:Int)+1)=((i+1:Nat):Int):=by rw [C6]<;>omega
   simp only [A5M,D03 (show (i:Int)<(l.length:Int) by omega),D02,e1]
   unfold B4Q;rw [<-C08];have hsc:=C4d (f:=fun s:Int×Int=>A3o x l (i:Int) s.1 s.2) i (l.drop (i+1)) (fun y=>L6 (U1 m y x.K)) (fun j=>cond (decide (j>(i:Int))) (some (.inl (l.take (i+1)++l.drop j.toNat,((i+1:Nat):Int)))) (some (.inl (l,((i+1:Nat):Int))))) ?_ ?_
   ·rw [hsc];cases fnd (fun y=>L6 (U1 m y x.K)) (l.drop (i+1)) with
    |some t=>simp only [D03 (show ((i+1+t:Nat):Int)>(i:Int) by omega),D02,D1E]
    |none=>simp only [D05 (show¬(i:Int)>(i:Int) by omega),D01]
   ·intro t y j hy;rw [D1i] at hy;have ht:=(D08.1 hy).1;have e3:A2 (((i+1+t:Nat):Int)+1)=((i+1+t+1:Nat):Int):=by rw [C6]<;>omega
    simp only [A3o,D03 (show ((i+1+t:Nat):Int)<(l.length:Int) by omega),D02,K8,hm,hy,D0Y,e3,B52]
    cases L6 (U1 m y x.K)<;>rfl
   ·intro j hjr;have hlen:(i+1+(l.drop (i+1)).length:Nat)=l.length:=by rw [D1w];omega
    rw [hlen];simp only [A3o,D05 (show¬(l.length:Int)<(l.length:Int) by omega),D01,e1]
    congr 1
    by_cases hj:j>(i:Int)
    ·rw [hlen] at hjr;rw [D03 hj,D02,D02,G5 (by omega),G5 (by simp;omega),G5 (by omega),G5 (by simp;omega)]
     simp only [D1E,List.nil_append]
    ·rw [D05 hj];rfl) (fun l i h=>by
   simp only [A5M,D05 (show¬(i:Int)<(l.length:Int) by omega),D01]) l.length 0 l (by omega) hl (fun _ _=>trivial)
 simpa using this
theorem C4t (x:C4) (v:Int) (hl:x.Av.length+1<=1048576): ∃r,A9q x v=some r/\B09 x v=some r/\r.1.Av.length<=x.Av.length+1:=by
 have ex:(⟨x.W,x.K,x.Cap,x.Now,x.Bg,x.Av⟩:C4)=x:=rfl;unfold A9q B09;rw [ex,B1o x (F3 (by omega)),B2m x (F3 (by omega)),D0Y,D0Y]
 by_cases hv:C5b x
 ·rw [N0 hv];simp only [D1B,D01];have hval:(decide (v< -4096)||decide (v>4096))= !D8 v:=by
   have:=O0 v;cases hr:D8 v with
   |true=>have:=this.1 hr;rw [D05 (by omega),D05 (by omega)];rfl
   |false=>
    have hn: ¬(-4096<=v/\v<=4096):=fun h=>by rw [this.2 h] at hr;cases hr
    rw [D1b,D09,D00,D00];omega
  rw [hval];cases hr:D8 v with
  |false=>exact ⟨_,rfl,rfl,Nat.zero_le _⟩
  |true=>
   rw [D1a,D01,D01];have hg: ∃m,gd (decide ((x.Av.length:Int)>0)) (D2 x.Av 0)=some m:=by
    by_cases h0:x.Av.length=0
    ·rw [D05 (by omega)];exact ⟨_,rfl⟩
    ·rw [D03 (by omega)];exact ⟨_,A3v (by omega)⟩
   obtain ⟨m,hm⟩:=hg;rw [hm,D0Y,D0Y];cases hf:(((decide ((x.Av.length:Int)>0))&&(m.N==x.Cap))||(x.Bg==1099511627776)) with
   |true=>exact ⟨_,rfl,rfl,Nat.zero_le _⟩
   |false=>
    have hlm:=C0d x.Av (A2 (x.Bg+1)) x.Now v;rw [D01,D01,B7i,B86 hl,D0Y,D0Y,C1T (by omega),C3g (by omega)]
    refine ⟨_,rfl,rfl, ?_⟩;have:=B7A (fun a b=>L6 (U1 a b x.K)) _ (B6k x.Av (A2 (x.Bg+1)) x.Now v) (D1G _);show (U3 _ _).length<=_;omega
 ·rw [H3 hv];exact ⟨_,rfl,rfl,Nat.zero_le _⟩
end Go.Win
namespace Go.Win
open Go.Vc Go.Dec
theorem C5K (x:E5) (v:Int) (hl:x.Bc.length<=1048576): ∃r,B0V x v=some r/\B1c x v=some r/\r.1.Bc.length<=x.Bc.length:=by
 unfold B0V B1c;rw [B19 x (F3 hl),B2o x (F3 hl),D0Y,D0Y]
 by_cases hv:C47 x
 ·rw [N0 hv];simp only [D1B,D01];have hval:(decide (v<0)|| !D8 v)=(decide (v<0)||decide (v>4096)):=by
   by_cases h0:v<0
   ·rw [D03 h0];rfl
   ·have:=O0 v;rw [D05 h0,D1p,D1p];cases hr:D8 v with
    |true=>have:=this.1 hr;rw [D05 (by omega)];rfl
    |false=>
     have hn: ¬(-4096<=v/\v<=4096):=fun h=>by rw [this.2 h] at hr;cases hr
     rw [D03 (by omega)];rfl
  rw [hval];cases hr:(decide (v<0)||decide (v>4096)) with
  |true=>exact ⟨_,rfl,rfl,Nat.zero_le _⟩
  |false=>
   have hr' : ¬v<0/\ ¬v>4096:=by
    rw [D1y,D1f,D1f] at hr;exact hr
   have hpos:0<x.Bc.length:=by have:=hv.1.1.1;omega
   have hx:=A3v hpos;have hrng:=hv.2 0 hpos;rw [D01,D01,hx,D0Y,D0Y];have w1:A2 ((1099511627776:Int)-v)=1099511627776-v:=by rw [C6]<;>omega
   have w2:A2 (el x.Bc 0+v)=el x.Bc 0+v:=by rw [C6]<;>omega
   have e:decide (el x.Bc 0>A2 ((1099511627776:Int)-v))=decide (A2 (el x.Bc 0+v)>1099511627776):=by
    rw [w1,w2];exact decide_eq_decide.2 (by omega)
   rw [e];cases hf:decide (A2 (el x.Bc 0+v)>1099511627776) with
   |true=>exact ⟨_,rfl,rfl,Nat.zero_le _⟩
   |false=>
    simp only [List.nil_append,D01];rw [G5 (by simp;omega),hx]
    exact ⟨_,rfl,rfl,by simp⟩
 ·rw [H3 hv];exact ⟨_,rfl,rfl,Nat.zero_le _⟩
end Go.Win
namespace Go.Win
open Go.Vc Go.Dec
def sV (m:Bool) (v:Int):Int:=if m then v else-v
theorem B2K (m:Bool) (a b:Int):O1 m a b=decide (sV m b<=sV m a):=by
 cases m
 ·show decide (a<=b)=_;unfold sV;exact decide_eq_decide.2 (by simp)
 ·show decide (a>=b)=_;unfold sV;exact decide_eq_decide.2 (by simp)
theorem C5P (m:Bool) (a b:Int):A0T m a b= !decide (sV m a<=sV m b):=by rw [B30,B2K]
def B2P (m:Bool) (L:List B6) (i j:Nat):Prop:=
 i≠j/\(el L i).T<=(el L j).T/\sV m (el L i).V<=sV m (el L j).V/\(¬((el L i).T=(el L j).T/\(el L i).V=(el L j).V)\/j<i)
noncomputable def A5R (m:Bool) (L:List B6) (i:Nat):Bool:=L6 (∀j,j<L.length-> ¬B2P m L i j)
noncomputable def J2 (m:Bool) (L:List B6) (n:Nat):List B6:=((List.range n).filter (A5R m L)).map (el L)
theorem A6A (m:Bool) (L:List B6) (n:Nat):J2 m L (n+1)=J2 m L n++(if A5R m L n then [el L n] else []):=by
 unfold J2;rw [List.range_succ,List.filter_append,D1X]
 congr 1
 cases h:A5R m L n<;>simp [h]
theorem C6g (m:Bool) (L:List B6) (n:Nat):(J2 m L n).length<=n:=by
 unfold J2;rw [D1L];exact Nat.le_trans (List.length_filter_le _ _) (by simp)
theorem C6h {m:Bool} {L:List B6} {n:Nat} {x:B6} (h:x∈J2 m L n): ∃j,j<n/\el L j=x:=by
 unfold J2 at h;obtain ⟨j,hj,rfl⟩:=List.mem_map.1 h;exact ⟨j,by simpa using (List.mem_filter.1 hj).1,rfl⟩
theorem C7y {m:Bool} {L:List B6} (hl:L.length<=1048576) (hs:∀i j,i<j->j<L.length->(el L i).T<=(el L j).T):A9g L m=some (J2 m L L.length):=by
 unfold A9g B3L;have key:=(V1 (f:=fun s:List B6×Int=>A2v L m s.1 s.2) (fun i=>(J2 m L i,(i:Int))) 0 L.length (Nat.zero_le _) (fun _=>False) [] (some (J2 m L L.length)) ?_ ?_).2 (fun _ _ _ h=>h)
 ·simpa [J2] using key
 ·intro i _ hi _;refine ⟨False.elim,fun _=> ?_⟩;have e1:A2 ((i:Int)+1)=((i+1:Nat):Int):=by rw [C6]<;>omega
  have hkl:=C6g m L i;simp only [A2v,D03 (show (i:Int)<(L.length:Int) by omega),D02,F8 hi,D0Y]
  unfold B3M;have inner:=(V1 (f:=fun s:Bool×Int=>A2w L m (el L i) (J2 m L i) (i:Int) s.1 s.2) (fun j=>(L6 (∀j',j' <j-> ¬B2P m L i j'),(j:Int))) 0 L.length (Nat.zero_le _) (fun _=>False) (.inr []) (some (.inl (J2 m L (i+1),((i+1:Nat):Int)))) ?_ ?_).2 (fun _ _ _ h=>h)
  ·have hb:L6 (∀j',j' <0-> ¬B2P m L i j')=true:=K9 (fun j h=>by omega)
   simp only [hb] at inner;exact inner
  ·intro j _ hj _;refine ⟨False.elim,fun _=> ?_⟩;have e2:A2 ((j:Int)+1)=((j+1:Nat):Int):=by rw [C6]<;>omega
   have hc:((((decide ((i:Int)≠(j:Int)))&&(decide ((el L j).T>=(el L i).T)))&&decide (sV m (el L i).V<=sV m (el L j).V))&&((!((el L i).T==(el L j).T&&((el L i).V==(el L j).V&&true)))||decide ((j:Int)<(i:Int))))=L6 (B2P m L i j):=by
    rw [D1j,H0];unfold B2P;simp only [D06,D00,D09,D1k,Bool.and_true,D1P,D1O];constructor
    ·rintro ⟨⟨⟨h1,h2⟩,h3⟩,h4⟩;exact ⟨by omega,h2,h3,by omega⟩
    ·rintro ⟨h1,h2,h3,h4⟩;exact ⟨⟨⟨by omega,h2⟩,h3⟩,by omega⟩
   have hne:((i:Int) !=(j:Int))=decide ((i:Int)≠(j:Int)):=by
    rw [D1j,bne_iff_ne,D00]
   simp only [A2w,D03 (show (j:Int)<(L.length:Int) by omega),D02,F8 hj,D0Y,C5P,Bool.not_not,hne,e2,hc]
   by_cases hd:B2P m L i j
   ·rw [K9 hd,D02,I9 (fun h=>h j (by omega) hd)]
   ·rw [I9 hd,D01];have:L6 (∀j',j' <j+1-> ¬B2P m L i j')=L6 (∀j',j' <j-> ¬B2P m L i j'):=by
     rw [D1j,H0,H0];refine ⟨fun h j' hj' =>h j' (by omega),fun h j' hj' => ?_⟩
     by_cases e:j' =j
     ·subst e;exact hd
     ·exact h j' (by omega)
    rw [this]
  ·intro _;have hst:L6 (∀j',j' <L.length-> ¬B2P m L i j')=A5R m L i:=rfl;simp only [A2w,D05 (show¬(L.length:Int)<(L.length:Int) by omega),D01,hst]
   rw [A6A];cases A5R m L i with
   |false=>simp only [D1b,D02,e1,Bool.false_eq_true,if_false,List.append_nil]
   |true=>
    simp only [D1a,D01,if_true]
    congr 1
    unfold B2p;rw [O6];have hv:A1D (el L i) (J2 m L i) (i:Int) ((J2 m L i).length:Int)=Option.map Sum.inr (some (.inl (J2 m L i++ [el L i],((i+1:Nat):Int)))):=by
     have hk:decide (0<=((J2 m L i).length:Int)/\((J2 m L i).length:Int)<=((J2 m L i).length:Int))=true:=D03 (by omega)
     have rest:(ck (decide (0<=((J2 m L i).length:Int)/\((J2 m L i).length:Int)<=((J2 m L i).length:Int)))<|
       ck (decide ((([]:List B6).length+((J2 m L i).take ((J2 m L i).length:Int).toNat).length)*16<=140737488355328))<|
       ck (decide (((([]:List B6)++((J2 m L i).take ((J2 m L i).length:Int).toNat)).length+ [el L i].length)*16<=140737488355328))<|
       ck (decide (0<=((J2 m L i).length:Int)/\((J2 m L i).length:Int)<=((J2 m L i).length:Int)))<|
       ck (decide ((((([]:List B6)++((J2 m L i).take ((J2 m L i).length:Int).toNat))++ [el L i]).length+((J2 m L i).drop ((J2 m L i).length:Int).toNat).length)*16<=140737488355328))<|
       (some (.inl ((((([]:List B6)++((J2 m L i).take ((J2 m L i).length:Int).toNat))++ [el L i])++((J2 m L i).drop ((J2 m L i).length:Int).toNat)),(A2 ((i:Int)+(1:Int))))):Option (((List B6)×Int)⊕(List B6))))=some (.inl (J2 m L i++ [el L i],((i+1:Nat):Int))):=by
      rw [G5 (by omega),G5 (by simp;omega),G5 (by simp;omega),G5 (by omega),G5 (by simp;omega),e1]
      simp
     by_cases h0:(J2 m L i).length=0
     ·have hz:decide (((J2 m L i).length:Int)>0)=false:=D05 (by omega)
      simp only [A1D,hz,gd,D01,D0Y,D1t,rest]
     ·have e3:A2 (((J2 m L i).length:Int)-1)=(((J2 m L i).length-1:Nat):Int):=by rw [C6]<;>omega
      have hz:decide (((J2 m L i).length:Int)>0)=true:=D03 (by omega)
      have hx:=F8 (l:=J2 m L i) (i:=(J2 m L i).length-1) (by omega)
      obtain ⟨j,hj,ej⟩:=C6h (A5l (l:=J2 m L i) (i:=(J2 m L i).length-1) (by omega))
      have ht:=hs j i hj hi;rw [ej] at ht;simp only [A1D,hz,gd,D02,e3,hx,D0Y,D1z,D05 (show¬(el (J2 m L i) ((J2 m L i).length-1)).T>(el L i).T by omega),D01,rest]
    rw [hv]
    rfl
 ·intro _;simp only [A2v,D05 (show¬(L.length:Int)<(L.length:Int) by omega),D01]
structure DqP (m:Bool) (I:List B6) (now:Int):Prop where
 T: ∀i j,i<j->j<I.length->(el I i).T<(el I j).T
 V: ∀i j,i<j->j<I.length->sV m (el I j).V<sV m (el I i).V
 now: ∀i,i<I.length->(el I i).T<=now
theorem C1a {α:Type} [Inhabited α] {l:List α} {x:α} {i:Nat} (h:i<l.length):el (l++ [x]) i=el l i:=by
 unfold el;rw [D1U,D1U,D1n h]
theorem C3U {α:Type} [Inhabited α] (l:List α) (x:α):el (l++ [x]) l.length=x:=by
 unfold el;simp [D1U]
theorem D0a {m:Bool} {a b:Int} (h:sV m a=sV m b):a=b:=by
 unfold sV at h;cases m<;>simp at h<;>omega
theorem C8D {m:Bool} {I:List B6} {now:Int} (h:DqP m I now) (v:Int): ∃c,c<=I.length/\(∀i,i<c->sV m v<sV m (el I i).V)/\ ∀i,c<=i->i<I.length->sV m (el I i).V<=sV m v:=by
 have key: ∀t,t<=I.length-> ∃c,c<=t/\(∀i,i<c->sV m v<sV m (el I i).V)/\ ∀i,c<=i->i<t->sV m (el I i).V<=sV m v:=by
  intro t
  induction t with
  |zero=>intro _;exact ⟨0,D1G _,fun i hi=>by omega,fun i _ hi=>by omega⟩
  |succ t ih=>
   intro ht;obtain ⟨c,h1,h2,h3⟩:=ih (by omega)
   by_cases hs:sV m v<sV m (el I t).V
   ·have hc:c=t:=by
     by_cases e:c=t
     ·exact e
     ·have:=h3 c (D1G _) (by omega)
      have:=h.V c t (by omega) (by omega)
      omega
    subst hc;exact ⟨c+1,D1G _,fun i hi=>by
     by_cases e:i=c
     ·subst e;exact hs
     ·exact h2 i (by omega),fun i _ _=>by omega⟩
   ·exact ⟨c,by omega,h2,fun i hi hit=>by
     by_cases e:i=t
     ·subst e;omega
     ·exact h3 i hi (by omega)⟩
 exact key I.length (D1G _)
theorem C8E {m:Bool} {I:List B6} {now v:Int} (h:DqP m I now) {c:Nat} (hc:c<=I.length) (h2:∀i,i<c->sV m v<sV m (el I i).V) (h3:∀i,c<=i->i<I.length->sV m (el I i).V<=sV m v):
  J2 m (I++ [B6.mk now v]) (I.length+1)=if c=0\/(el I (c-1)).T<now then I.take c++ [B6.mk now v] else I.take c:=by
 have hlen:(I++ [B6.mk now v]).length=I.length+1:=by simp
 have eo: ∀i,i<I.length->el (I++ [B6.mk now v]) i=el I i:=fun i hi=>C1a hi;have en:el (I++ [B6.mk now v]) I.length=B6.mk now v:=C3U I _;have st: ∀i,i<I.length->(A5R m (I++ [B6.mk now v]) i=true↔(i<c\/((el I i).T=now/\(el I i).V=v))):=by
  intro i hi;unfold A5R;rw [H0,hlen];constructor
  ·intro hd
   by_cases hic:i<c
   ·exact .inl hic
   ·refine .inr ?_
    by_cases hsp:(el I i).T=now/\(el I i).V=v
    ·exact hsp
    ·exfalso;refine hd I.length (by omega) ⟨by omega, ?_, ?_, .inl ?_⟩
     ·rw [eo i hi,en];exact h.now i hi
     ·rw [eo i hi,en];exact h3 i (by omega) hi
     ·rw [eo i hi,en];exact hsp
  ·intro ho j hj hd;obtain ⟨d1,d2,d3,d4⟩:=hd;rw [eo i hi] at d2 d3 d4
   by_cases hjm:j=I.length
   ·subst hjm;rw [en] at d2 d3 d4;rcases ho with hic|hsp
    ·have d3' :sV m (el I i).V<=sV m v:=d3;have:=h2 i hic;omega
    ·rcases d4 with d4|d4
     ·exact d4 hsp
     ·omega
   ·have hjl:j<I.length:=by omega
    rw [eo j hjl] at d2 d3 d4;rcases Nat.lt_or_ge j i with hji|hji
    ·have:=h.T j i hji hi;omega
    ·have:=h.V i j (by omega) hjl
     omega
 have low: ∀i,i<=c->J2 m (I++ [B6.mk now v]) i=I.take i:=by
  intro i
  induction i with
  |zero=>intro _;simp [J2]
  |succ i ih=>
   intro hi;have hil:i<I.length:=by omega
   rw [A6A,ih (by omega),if_pos ((st i hil).2 (.inl (by omega))),eo i hil,List.take_add_one,A7m hil]
   rfl
 rw [A6A,en]
 by_cases hsp: ∃i,c<=i/\i<I.length/\(el I i).T=now/\(el I i).V=v
 ·obtain ⟨i,i1,i2,i3,i4⟩:=hsp;have hi:i+1=I.length:=by
   by_cases e:i+1=I.length
   ·exact e
   ·have:=h.T i (i+1) (by omega) (by omega)
    have:=h.now (i+1) (by omega)
    omega
  have hci:c=i:=by
   by_cases e:c=i
   ·exact e
   ·have:=h.V c i (by omega) i2
    have:=h3 c (D1G _) (by omega)
    rw [i4] at*
    omega
  subst hci;have e1:el I c=B6.mk now v:=by
   cases hI:el I c with
   |mk T V=>rw [hI] at i3 i4;simp only at i3 i4;rw [i3,i4]
  rw [<-hi,A6A,low c (D1G _),if_pos ((st c i2).2 (.inr ⟨i3,i4⟩)),eo c i2,e1];have hns:A5R m (I++ [B6.mk now v]) (c+1)=false:=by
   unfold A5R;refine I9 fun hd=>hd c (by omega) ⟨by omega, ?_, ?_, .inr (by omega)⟩
   ·rw [hi,en,eo c i2,e1];exact Int.le_refl _
   ·rw [hi,en,eo c i2,e1];exact Int.le_refl _
  rw [hns];have hcond:c=0\/(el I (c-1)).T<now:=by
   by_cases e:c=0
   ·exact .inl e
   ·have:=h.T (c-1) c (by omega) i2
    rw [i3] at this;exact .inr this
  rw [if_pos hcond];simp
 ·have high: ∀k,c+k<=I.length->J2 m (I++ [B6.mk now v]) (c+k)=I.take c:=by
   intro k
   induction k with
   |zero=>intro _;exact low c (D1G _)
   |succ k ih=>
    intro hk;have hns: ¬A5R m (I++ [B6.mk now v]) (c+k)=true:=fun hs=>by
     rcases (st (c+k) (by omega)).1 hs with h' |h'
     ·omega
     ·exact hsp ⟨c+k,by omega,by omega,h'.1,h'.2⟩
    rw [show c+(k+1)=c+k+1 by omega,A6A,ih (by omega),if_neg hns,List.append_nil]
  have hI:=high (I.length-c) (by omega)
  rw [show c+(I.length-c)=I.length by omega] at hI
  rw [hI];have hst:A5R m (I++ [B6.mk now v]) I.length=true↔(c=0\/(el I (c-1)).T<now):=by
   unfold A5R;rw [H0,hlen];constructor
   ·intro hd
    by_cases e:c=0
    ·exact .inl e
    ·refine .inr ?_
     by_cases ht:(el I (c-1)).T<now
     ·exact ht
     ·exfalso;refine hd (c-1) (by omega) ⟨by omega, ?_, ?_, .inr (by omega)⟩
      ·rw [en,eo (c-1) (by omega)];show now<=_;omega
      ·rw [en,eo (c-1) (by omega)];show sV m v<=_;have:=h2 (c-1) (by omega);omega
   ·intro ho j hj hd;obtain ⟨d1,d2,d3,d4⟩:=hd;have hjl:j<I.length:=by omega
    rw [en,eo j hjl] at d2 d3;have d2' :now<=(el I j).T:=d2;have d3' :sV m v<=sV m (el I j).V:=d3;have hjn:=h.now j hjl;have hj1:j+1=I.length:=by
     by_cases e:j+1=I.length
     ·exact e
     ·have:=h.T j (j+1) (by omega) (by omega)
      have:=h.now (j+1) (by omega)
      omega
    by_cases hjc:j<c
    ·have:c=j+1:=by omega
     rcases ho with ho|ho
     ·omega
     ·rw [show c-1=j by omega] at ho
      omega
    ·have h4:=h3 j (by omega) hjl
     exact hsp ⟨j,by omega,hjl,by omega,D0a (m:=m) (by omega)⟩
  by_cases hcnd:c=0\/(el I (c-1)).T<now
  ·rw [if_pos (hst.2 hcnd),if_pos hcnd]
  ·rw [if_neg (fun hs=>hcnd (hst.1 hs)),if_neg hcnd,List.append_nil]
noncomputable def A90 (p0:B7) (p1:Int) (v4_7:List B6):Option (B7×Int):=
 ck (decide ((([]:List B6).length+v4_7.length)*16<=140737488355328))<|
 Option.bind (gd (!(((([]:List B6)++v4_7).length:Int)==(0:Int))) (D2 (([]:List B6)++v4_7) (A2 (((([]:List B6)++v4_7).length:Int)-(1:Int))))) fun x10_8=>
 Option.bind (gd (!(((([]:List B6)++v4_7).length:Int)==(0:Int))) (D2 (([]:List B6)++v4_7) (A2 (((([]:List B6)++v4_7).length:Int)-(1:Int))))) fun x10_10=>
 cond ((((([]:List B6)++v4_7).length:Int)==(0:Int))||(decide (x10_10.T<p0.Now))) (
  cond (((([]:List B6)++v4_7).length:Int)==p0.Cap) (
   some ((B7.mk false (0:Int) (0:Int) (0:Int) ([]:List B6)),(5:Int)))<|
  ck (decide (((([]:List B6)++v4_7).length+ [(B6.mk p0.Now p1)].length)*16<=140737488355328))<|
  some ((B7.mk p0.Be p0.W p0.Cap p0.Now ((([]:List B6)++v4_7)++ [(B6.mk p0.Now p1)])),(0:Int)))<|
 some ((B7.mk p0.Be p0.W p0.Cap p0.Now (([]:List B6)++v4_7)),(0:Int))
theorem C50 {x:B7} {v:Int} {l:List B6} (hl:l.length<=1048576):
  A90 x v l=if l.length=0\/(el l (l.length-1)).T<x.Now then (if (l.length:Int)=x.Cap then some (⟨false,0,0,0, []⟩,5) else some (⟨x.Be,x.W,x.Cap,x.Now,l++ [⟨x.Now,v⟩]⟩,0))
   else some (⟨x.Be,x.W,x.Cap,x.Now,l⟩,0):=by
 unfold A90;simp only [List.nil_append];rw [G5 (by simp;omega)]
 have push:(cond ((l.length:Int)==x.Cap) (some ((B7.mk false 0 0 0 ([]:List B6)),(5:Int)))<|
   ck (decide ((l.length+ [(B6.mk x.Now v)].length)*16<=140737488355328))<|some ((B7.mk x.Be x.W x.Cap x.Now (l++ [B6.mk x.Now v])),(0:Int)))=
   if (l.length:Int)=x.Cap then some (⟨false,0,0,0, []⟩,5) else some (⟨x.Be,x.W,x.Cap,x.Now,l++ [⟨x.Now,v⟩]⟩,0):=by
  rw [G5 (by simp;omega)]
  by_cases hc:(l.length:Int)=x.Cap
  ·rw [D1S.2 hc,if_pos hc];rfl
  ·rw [D1O.2 hc,if_neg hc];rfl
 by_cases h0:l.length=0
 ·have e0:((l.length:Int)==0)=true:=by rw [h0];rfl
  rw [e0,if_pos (.inl h0),<-push]
  rfl
 ·have e0:((l.length:Int)==0)=false:=by rw [D1O];omega
  have e1:A2 ((l.length:Int)-1)=((l.length-1:Nat):Int):=by rw [C6]<;>omega
  have hx:=F8 (l:=l) (i:=l.length-1) (by omega)
  rw [e0,e1,hx];simp only [D1b,gd,D02,D0Y,D1p]
  by_cases ht:(el l (l.length-1)).T<x.Now
  ·rw [D03 ht,D02,if_pos (.inr ht),<-push]
  ·rw [D05 ht,D01,if_neg (fun h=>by rcases h with h|h;exact h0 h;exact ht h)]
theorem C8F {x:B7} {v:Int} {c:Nat} (hl:x.Ar.length<=1048576) (hc:c<=x.Ar.length) (h2:∀i,i<c->sV x.Be v<sV x.Be (el x.Ar i).V)
  (h3:∀i,c<=i->i<x.Ar.length->sV x.Be (el x.Ar i).V<=sV x.Be v): ∀k,c+k<=x.Ar.length->A4v x v (x.Ar.take (c+k))=A90 x v (x.Ar.take c):=by
 intro k;have htl: ∀t,t<=x.Ar.length->(x.Ar.take t).length=t:=fun t ht=>by rw [D1q];omega
 have hel: ∀t,0<t->t<=x.Ar.length->el (x.Ar.take t) (t-1)=el x.Ar (t-1):=fun t h0 ht=>by
  unfold el;rw [D1U,D1U,D1l,if_pos (by omega)]
 induction k with
 |zero=>
  intro _;rw [Nat.add_zero];unfold A4v;rw [O6];have hv:A3Q x v (x.Ar.take c)=Option.map Sum.inr (A90 x v (x.Ar.take c)):=by
   unfold A3Q;rw [htl c hc]
   by_cases h0:c=0
   ·have hz:decide ((c:Int)>0)=false:=D05 (by omega)
    simp only [hz,gd,D01,D0Y,D1t];unfold A90;rw [htl c hc]
    rfl
   ·have hz:decide ((c:Int)>0)=true:=D03 (by omega)
    have e1:A2 ((c:Int)-1)=((c-1:Nat):Int):=by rw [C6]<;>omega
    have hx:=F8 (l:=x.Ar.take c) (i:=c-1) (by rw [htl c hc];omega)
    have:=h2 (c-1) (by omega)
    simp only [hz,gd,D02,e1,hx,D0Y,hel c (by omega) hc,B2K,D1z,D05 (show¬sV x.Be (el x.Ar (c-1)).V<=sV x.Be v by omega),D01]
    unfold A90;rw [htl c hc]
    rfl
  rw [hv];cases A90 x v (x.Ar.take c)<;>rfl
 |succ k ih=>
  intro hk;rw [<-ih (by omega)]
  unfold A4v;refine L4 ?_;have hz:decide (((c+(k+1):Nat):Int)>0)=true:=D03 (by omega)
  have e1:A2 (((c+(k+1):Nat):Int)-1)=((c+k:Nat):Int):=by rw [C6]<;>omega
  have hx:=F8 (l:=x.Ar.take (c+(k+1))) (i:=c+k) (by rw [htl _ hk];omega)
  have he:=hel (c+(k+1)) (by omega) hk
  rw [show c+(k+1)-1=c+k by omega] at he
  have hb:=h3 (c+k) (by omega) (by omega)
  unfold A3Q;rw [htl _ hk];simp only [hz,gd,D02,e1,hx,D0Y,he,B2K,D1z,D03 hb];rw [G5 (by omega),D1E,List.take_take,Nat.min_eq_left (by omega)]
theorem D0u {x:B7} (h:C1G x):DqP x.Be x.Ar x.Now:=by
 have hs:=h.2;have step: ∀i,i+1<x.Ar.length->(el x.Ar i).T<(el x.Ar (i+1)).T/\sV x.Be (el x.Ar (i+1)).V<sV x.Be (el x.Ar i).V:=fun i hi=>by
  obtain ⟨g1,g2⟩:=(hs (i+1) hi).2 (by omega)
  rw [D1F] at g1 g2;rw [B2K,D1f] at g2;omega
 have key: ∀d i,i+d+1<x.Ar.length->(el x.Ar i).T<(el x.Ar (i+d+1)).T/\sV x.Be (el x.Ar (i+d+1)).V<sV x.Be (el x.Ar i).V:=by
  intro d
  induction d with
  |zero=>intro i hi;exact step i hi
  |succ d ih=>
   intro i hi;have h1:=ih i (by omega)
   have h2:=step (i+d+1) (by omega)
   rw [show i+(d+1)+1=i+d+1+1 by omega]
   omega
 refine ⟨fun i j hij hj=> ?_,fun i j hij hj=> ?_,fun i hi=> ?_⟩
 ·have:=(key (j-i-1) i (by omega)).1
  rw [show i+(j-i-1)+1=j by omega] at this
  exact this
 ·have:=(key (j-i-1) i (by omega)).2
  rw [show i+(j-i-1)+1=j by omega] at this
  exact this
 ·have:=(B6G _ _ _).1 (hs i hi).1.1;omega
theorem C2x (x:B7) (v:Int) (hl:x.Ar.length+1<=1048576): ∃r,A7O x v=some r/\B1d x v=some r/\r.1.Ar.length<=x.Ar.length+1:=by
 unfold A7O B1d;rw [A92 x (F3 (by omega)),B2q x (F3 (by omega)),D0Y,D0Y]
 by_cases hv:C1G x
 ·rw [N0 hv];simp only [D1B,D01];have hval:(decide (v< -4096)||decide (v>4096))= !D8 v:=by
   have:=O0 v;cases hr:D8 v with
   |true=>have:=this.1 hr;rw [D05 (by omega),D05 (by omega)];rfl
   |false=>
    have hn: ¬(-4096<=v/\v<=4096):=fun h=>by rw [this.2 h] at hr;cases hr
    rw [D1b,D09,D00,D00];omega
  rw [hval];cases hr:D8 v with
  |false=>exact ⟨_,rfl,rfl,Nat.zero_le _⟩
  |true=>
   have hdq:=D0u hv;obtain ⟨c,c1,c2,c3⟩:=C8D hdq v;have hp:=C8F (v:=v) (by omega) c1 c2 c3 (x.Ar.length-c) (by omega)
   rw [show c+(x.Ar.length-c)=x.Ar.length by omega,List.take_length] at hp
   have htl:(x.Ar.take c).length=c:=by rw [D1q];omega
   have hk:=C7y (m:=x.Be) (L:=x.Ar++ [⟨x.Now,v⟩]) (by simp;omega) (fun i j hij hj=>by
    have hjl:j<=x.Ar.length:=by simp at hj;omega
    rw [C1a (show i<x.Ar.length by omega)]
    by_cases e:j=x.Ar.length
    ·subst e;rw [C3U];exact hdq.now i hij
    ·rw [C1a (show j<x.Ar.length by omega)]
     have:=hdq.T i j hij (by omega)
     omega)
   rw [show (x.Ar++ [B6.mk x.Now v]).length=x.Ar.length+1 by simp,C8E hdq c1 c2 c3] at hk
   have hcap:=hv.1.2;have hcapr:=hv.1.1.2.1;have hel: ∀h0:0<c,el (x.Ar.take c) (c-1)=el x.Ar (c-1):=fun h0=>by
    unfold el;rw [D1U,D1U,D1l,if_pos (by omega)]
   have hcnd:((x.Ar.take c).length=0\/(el (x.Ar.take c) ((x.Ar.take c).length-1)).T<x.Now)↔(c=0\/(el x.Ar (c-1)).T<x.Now):=by
    rw [htl]
    by_cases h0:c=0
    ·simp [h0]
    ·rw [hel (by omega)]
   rw [D1a,D01,D01,hp,C50 (by omega),List.nil_append,G5 (by simp;omega),G5 (by simp;omega),hk,D0Y]
   by_cases hq:c=0\/(el x.Ar (c-1)).T<x.Now
   ·rw [if_pos (hcnd.2 hq),if_pos hq,htl]
    by_cases hf:(c:Int)=x.Cap
    ·rw [if_pos hf,D03 (by simp [htl];omega)]
     exact ⟨_,rfl,rfl,Nat.zero_le _⟩
    ·rw [if_neg hf,D05 (by simp [htl];omega)]
     exact ⟨_,rfl,rfl,by simp [htl];omega⟩
   ·rw [if_neg (fun h=>hq (hcnd.1 h)),if_neg hq,D05 (by rw [htl];omega)]
    exact ⟨_,rfl,rfl,by show (x.Ar.take c).length<=_;omega⟩
 ·rw [H3 hv];exact ⟨_,rfl,rfl,Nat.zero_le _⟩
end Go.Win
namespace Go.Win
open Go.Vc Go.Dec
theorem C04 {M i:Int} (l:List D4) (h:i<=0):P9 M l i=some l:=by
 unfold P9;rw [O6];have:O7 M l i=some (.inr l):=by
  unfold O7;rw [D05 (by omega),D01]
  rfl
 simp only [this]
theorem C1q {x:A8} {i:Int} (l:List D4) (h:i<=0):A1e x l i=some ⟨x.K,x.Cap,x.N,l⟩:=by
 unfold A1e;rw [O6];have:A2A x l i=some (.inr ⟨x.K,x.Cap,x.N,l⟩):=by
  unfold A2A;rw [D05 (by omega),D01]
  rfl
 simp only [this]
theorem C6f {x:A8} {M:Int} (hM:A9z x=some M): ∀(n:Nat) (l:List D4),l.length<=1048576->(1<=n->n+1<l.length)->
  ∃R,P9 M l (n:Int)=some R/\A1e x l (n:Int)=some ⟨x.K,x.Cap,x.N,R⟩/\R.length<=l.length:=by
 intro n
 induction n with
 |zero=>intro l hl _;exact ⟨l,C04 l (by omega),C1q l (by omega),D1G _⟩
 |succ n ih=>
  intro l hl hn;have hn:=hn (by omega)
  have e1:A2 (((n+1:Nat):Int)+1)=((n+2:Nat):Int):=by rw [C6]<;>omega
  have e2:A2 (((n+1:Nat):Int)-1)=(n:Int):=by rw [C6]<;>omega
  have g1:=F8 (l:=l) (i:=n+1) (by omega)
  have g2:=F8 (l:=l) (i:=n+2) (by omega)
  have hge:decide (((n+1:Nat):Int)>=1)=true:=D03 (by omega)
  by_cases hc:A2 (A2 ((el l (n+1)).G+(el l (n+2)).G)+(el l (n+2)).D)<=M
  ·have hsl:(l.set (n+2) ⟨(el l (n+2)).V,A2 ((el l (n+2)).G+(el l (n+1)).G),(el l (n+2)).D⟩).length=l.length:=D1Y ..;have hdl:((l.set (n+2) ⟨(el l (n+2)).V,A2 ((el l (n+2)).G+(el l (n+1)).G),(el l (n+2)).D⟩).drop (n+2)).length=l.length-(n+2):=by rw [D1w,hsl]
   have htk:((l.set (n+2) ⟨(el l (n+2)).V,A2 ((el l (n+2)).G+(el l (n+1)).G),(el l (n+2)).D⟩).drop (n+2)).take ((l.set (n+2) ⟨(el l (n+2)).V,A2 ((el l (n+2)).G+(el l (n+1)).G),(el l (n+2)).D⟩).length-(n+2))=(l.set (n+2) ⟨(el l (n+2)).V,A2 ((el l (n+2)).G+(el l (n+1)).G),(el l (n+2)).D⟩).drop (n+2):=List.take_of_length_le (by rw [hdl,hsl];omega)
   obtain ⟨R,r1,r2,r3⟩:=ih ((l.set (n+2) ⟨(el l (n+2)).V,A2 ((el l (n+2)).G+(el l (n+1)).G),(el l (n+2)).D⟩).take (n+1)++(l.set (n+2) ⟨(el l (n+2)).V,A2 ((el l (n+2)).G+(el l (n+1)).G),(el l (n+2)).D⟩).drop (n+2))
    (by rw [D04,hdl,D1q,hsl];omega) (fun _=>by rw [D04,hdl,D1q,hsl];omega)
   refine ⟨R, ?_, ?_,by rw [D04,hdl,D1q,hsl] at r3;omega⟩
   ·rw [<-r1];unfold P9;refine L4 ?_;simp only [O7,hge,D02,e1,e2,g1,g2,D0Y,D03 hc,D1E];rw [G5 (by rw [hsl];omega),G5 (by rw [hsl];omega),G5 (by rw [D1q,hdl,hsl];omega)]
    rw [htk]
   ·rw [<-r2];unfold A1e;refine L4 ?_;simp only [A2A,hge,D02,e1,e2,g1,g2,hM,D0Y,D03 hc,D1E];rw [G5 (by rw [hsl];simp only [true_and];omega),G5 (by rw [hsl];omega),G5 ⟨fun h=>by have:=congrArg List.length h;rw [hdl] at this;simp at this;omega,by rw [D1q,hdl,hsl];omega⟩]
  ·obtain ⟨R,r1,r2,r3⟩:=ih l hl (fun _=>by omega)
   refine ⟨R, ?_, ?_,r3⟩
   ·rw [<-r1];unfold P9;refine L4 ?_;simp only [O7,hge,D02,e1,e2,g1,g2,D0Y,D05 hc,D01]
   ·rw [<-r2];unfold A1e;refine L4 ?_;simp only [A2A,hge,D02,e1,e2,g1,g2,hM,D0Y,D05 hc,D01]
theorem C5Y {x:A8} {M:Int} (hM:A9z x=some M) (hl:x.Ao.length<=1048576):
  ∃R,W6 x.Ao M=some R/\A9i x=some ⟨x.K,x.Cap,x.N,R⟩/\R.length<=x.Ao.length:=by
 unfold W6 A9i;simp only [List.nil_append];rw [G5 (by simp;omega)]
 by_cases h2:x.Ao.length<=2
 ·have hi:A2 ((x.Ao.length:Int)-2)<=0:=by rw [C6]<;>omega
  exact ⟨_,C04 _ hi,C1q _ hi,D1G _⟩
 ·have e:A2 ((x.Ao.length:Int)-2)=((x.Ao.length-2:Nat):Int):=by rw [C6]<;>omega
  rw [e];exact C6f hM _ _ hl (fun _=>by omega)
def B2X (l:List D4) (c:Nat) (v d:Int):List D4:=l.take c++ [⟨v,1,d⟩]++l.drop c
theorem C7v {l:List D4} {c:Nat} (hc:c<=l.length) (v d:Int):(B2X l c v d).length=l.length+1:=by
 unfold B2X;simp only [D04,D1q,D1w,D1h,D1u];omega
theorem C8M {x:A8} {v d:Int} {c:Nat} (hc:c<=x.Ao.length) (hl:x.Ao.length+1<=1048576) {M:Int} (hM:A2I (A2 (x.N+1)) x.K=some M):
  ∃r,V3 x v (c:Int) d=some r/\S1 x v (c:Int) d=some r/\r.1.Ao.length<=x.Ao.length+1:=by
 have hil:=C7v hc v d;have htl:(x.Ao.take c).length=c:=by rw [D1q];omega
 have fin: ∀R:List D4,R.length<=x.Ao.length+1-> ∃r,A0r x R=some r/\A4g ⟨x.K,x.Cap,A2 (x.N+1),R⟩=some r/\r.1.Ao.length<=x.Ao.length+1:=fun R hR=>by
  unfold A0r A4g;simp only [];cases decide ((R.length:Int)>x.Cap) with
  |true=>exact ⟨_,rfl,rfl,Nat.zero_le _⟩
  |false=>exact ⟨_,rfl,rfl,hR⟩
 unfold V3 S1;simp only [D1E,List.nil_append];rw [G5 (by omega),G5 (by simp [htl];omega),G5 (by simp [htl];omega),G5 (by omega),G5 (by simp [htl];omega)]
 rw [G5 (by omega),G5 (by simp [htl];omega),G5 (by simp [htl];omega),G5 (by omega),G5 (by simp [htl];omega)]
 have ei:x.Ao.take c++ [D4.mk v 1 d]++x.Ao.drop c=B2X x.Ao c v d:=rfl;simp only [ei];unfold B4X;simp only [];cases hf:decide (((B2X x.Ao c v d).length:Int)>x.Cap) with
 |true=>
  obtain ⟨R,r1,r2,r3⟩:=C5Y (x:=⟨x.K,x.Cap,A2 (x.N+1),B2X x.Ao c v d⟩) (M:=M) hM (by show (B2X x.Ao c v d).length<=_;omega)
  obtain ⟨r,s1,s2,s3⟩:=fin R (by have:R.length<=(B2X x.Ao c v d).length:=r3;omega)
  have r1' :W6 (B2X x.Ao c v d) M=some R:=r1;rw [D02,D02,hM,D0Y,r1',D0Y,r2,D0Y,s1,s2];exact ⟨r,rfl,rfl,s3⟩
 |false=>
  obtain ⟨r,s1,s2,s3⟩:=fin (B2X x.Ao c v d) (by omega)
  rw [D01,D01,s1,s2];exact ⟨r,rfl,rfl,s3⟩
theorem C9u {l:List D4} (h:∀i j,i<j->j<l.length->(el l i).V<=(el l j).V) (v:Int): ∃c,c<=l.length/\(∀i,i<c->(el l i).V<=v)/\ ∀i,c<=i->i<l.length->v<(el l i).V:=by
 have key: ∀t,t<=l.length-> ∃c,c<=t/\(∀i,i<c->(el l i).V<=v)/\ ∀i,c<=i->i<t->v<(el l i).V:=by
  intro t
  induction t with
  |zero=>intro _;exact ⟨0,D1G _,fun i hi=>by omega,fun i _ hi=>by omega⟩
  |succ t ih=>
   intro ht;obtain ⟨c,h1,h2,h3⟩:=ih (by omega)
   by_cases hs:(el l t).V<=v
   ·have hc:c=t:=by
     by_cases e:c=t
     ·exact e
     ·have:=h3 c (D1G _) (by omega)
      have:=h c t (by omega) (by omega)
      omega
    subst hc;exact ⟨c+1,D1G _,fun i hi=>by
     by_cases e:i=c
     ·subst e;exact hs
     ·exact h2 i (by omega),fun i _ _=>by omega⟩
   ·exact ⟨c,by omega,h2,fun i hi hit=>by
     by_cases e:i=t
     ·subst e;omega
     ·exact h3 i hi (by omega)⟩
 exact key l.length (D1G _)
noncomputable def B2y (x:A8) (v:Int) (c:Nat):Option (A8×Int):=
 V3 x v (c:Int) (if 0<c/\c<x.Ao.length then A2 (A2 ((el x.Ao c).G+(el x.Ao c).D)-1) else 0)
theorem D0D {x:A8} {v:Int} {c:Nat} (hl:x.Ao.length+1<=1048576) (hc:c<=x.Ao.length) (h2:∀i,i<c->(el x.Ao i).V<=v) (h3:∀i,c<=i->i<x.Ao.length->v<(el x.Ao i).V):
  A5h x v 0=B2y x v c:=by
 unfold A5h;have key: ∀k,k<=c->loop (fun s:Int=>Y9 x v s) ((c-k:Nat):Int)=B2y x v c:=by
  intro k
  induction k with
  |zero=>
   intro _;rw [Nat.sub_zero,O6];have hv:Y9 x v (c:Int)=Option.map Sum.inr (B2y x v c):=by
    unfold Y9 B2y
    by_cases hlt:c<x.Ao.length
    ·have g:=F8 hlt;have:=h3 c (D1G _) hlt;have hd:decide ((c:Int)<(x.Ao.length:Int))=true:=D03 (by omega)
     simp only [hd,gd,D02,g,D0Y,D1z,D05 (show¬(el x.Ao c).V<=v by omega),D01,Bool.and_true]
     by_cases h0:0<c
     ·rw [D03 (by omega),D02,if_pos ⟨h0,hlt⟩]
     ·rw [D05 (by omega),D01,if_neg (by omega)]
    ·have hd:decide ((c:Int)<(x.Ao.length:Int))=false:=D05 (by omega)
     simp only [hd,gd,D01,D0Y,D1t,Bool.and_false];rw [if_neg (by omega)]
   rw [hv];cases B2y x v c<;>rfl
  |succ k ih=>
   intro hk;rw [<-ih (by omega)]
   refine L4 ?_;have hlt:c-(k+1)<x.Ao.length:=by omega
   have g:=F8 hlt;have:=h2 (c-(k+1)) (by omega)
   have e1:A2 (((c-(k+1):Nat):Int)+1)=((c-k:Nat):Int):=by rw [C6]<;>omega
   have hd:decide (((c-(k+1):Nat):Int)<(x.Ao.length:Int))=true:=D03 (by omega)
   simp only [Y9,hd,gd,D02,g,D0Y,D1z,D03 this,e1]
 have:=key c (D1G _);rw [Nat.sub_self] at this;exact this
theorem C9c {x:A8} {v:Int} {c:Nat} (hl:x.Ao.length+1<=1048576) (hc:c<=x.Ao.length) (h2:∀i,i<c->(el x.Ao i).V<=v) (h3:∀i,c<=i->i<x.Ao.length->v<(el x.Ao i).V) {r:A8×Int}
  (hr:S1 x v (c:Int) (if 0<c/\c<x.Ao.length then A2 (A2 ((el x.Ao c).G+(el x.Ao c).D)-1) else 0)=some r):
  A6U x v (x.Ao.length:Int)=some r:=by
 unfold A6U;have key: ∀k,c+k<=x.Ao.length->loop (fun s:Int=>A0U x v s) ((c+k:Nat):Int)=some r:=by
  intro k
  induction k with
  |zero=>
   intro _;rw [Nat.add_zero];refine J5 ?_;have rest:(cond ((decide ((c:Int)>0))&&(decide ((c:Int)<(x.Ao.length:Int)))) (
     Option.bind (D2 x.Ao (c:Int)) fun x13_3=>Option.bind (D2 x.Ao (c:Int)) fun x13_9=>S1 x v (c:Int) (A2 ((A2 (x13_3.G+x13_9.D))-(1:Int))))<|
     S1 x v (c:Int) (0:Int))=some r:=by
    rw [<-hr]
    by_cases hcl:0<c/\c<x.Ao.length
    ·rw [D03 (show (c:Int)>0 by omega),D03 (show (c:Int)<(x.Ao.length:Int) by omega),F8 hcl.2,if_pos hcl]
     rfl
    ·have:((decide ((c:Int)>0))&&(decide ((c:Int)<(x.Ao.length:Int))))=false:=by
      rw [D1P,D1f,D1f];omega
     rw [this,D01,if_neg hcl]
   by_cases h0:0<c
   ·have g:=F8 (l:=x.Ao) (i:=c-1) (by omega)
    have:=h2 (c-1) (by omega)
    have e1:A2 ((c:Int)-1)=((c-1:Nat):Int):=by rw [C6]<;>omega
    unfold A0U;rw [rest];simp only [D03 (show (c:Int)>0 by omega),gd,D02,e1,g,D0Y,D1z,D05 (show¬(el x.Ao (c-1)).V>v by omega),D01]
    rfl
   ·unfold A0U;rw [rest];simp only [D05 (show¬(c:Int)>0 by omega),gd,D01,D0Y,D1t]
    rfl
  |succ k ih=>
   intro hk;rw [<-ih (by omega)]
   refine L4 ?_;have g:=F8 (l:=x.Ao) (i:=c+k) (by omega)
   have:=h3 (c+k) (by omega) (by omega)
   have e1:A2 (((c+(k+1):Nat):Int)-1)=((c+k:Nat):Int):=by rw [C6]<;>omega
   simp only [A0U,D03 (show ((c+(k+1):Nat):Int)>0 by omega),gd,D02,e1,g,D0Y,D1z,D03 (show (el x.Ao (c+k)).V>v by omega)]
 have:=key (x.Ao.length-c) (by omega)
 rw [show c+(x.Ao.length-c)=x.Ao.length by omega] at this
 exact this
theorem C2y (x:A8) (v:Int) (hl:x.Ao.length+1<=1048576): ∃r,A42 x v=some r/\A6T x v=some r/\r.1.Ao.length<=x.Ao.length+1:=by
 unfold A42 A6T;rw [B0s x,B2r x,D0Y,D0Y]
 by_cases hv:C5c x
 ·rw [N0 hv];simp only [D1B,D01];have hval:(decide (v< -4096)||decide (v>4096))= !D8 v:=by
   have:=O0 v;cases hr:D8 v with
   |true=>have:=this.1 hr;rw [D05 (by omega),D05 (by omega)];rfl
   |false=>
    have hn: ¬(-4096<=v/\v<=4096):=fun h=>by rw [this.2 h] at hr;cases hr
    rw [D1b,D09,D00,D00];omega
  rw [hval];cases hr:D8 v with
  |false=>exact ⟨_,rfl,rfl,Nat.zero_le _⟩
  |true=>
   rw [D1a,D01,D01]
   by_cases hN:x.N=1099511627776
   ·rw [D1S.2 hN];exact ⟨_,rfl,rfl,Nat.zero_le _⟩
   ·rw [D1O.2 hN,D01,D01];have hh:=hv.1;have hn:=hh.2.2.1;have hsort: ∀i j,i<j->j<x.Ao.length->(el x.Ao i).V<=(el x.Ao j).V:=by
     have step: ∀i,i+1<x.Ao.length->(el x.Ao i).V<=(el x.Ao (i+1)).V:=fun i hi=>(hv.2.2.1 (i+1) hi).2.2 (by omega)
     have key: ∀d i,i+d<x.Ao.length->(el x.Ao i).V<=(el x.Ao (i+d)).V:=by
      intro d
      induction d with
      |zero=>intro i _;exact Int.le_refl _
      |succ d ih=>
       intro i hi;have h1:=ih i (by omega)
       have h2:=step (i+d) (by omega)
       rw [show i+(d+1)=i+d+1 by omega]
       omega
     intro i j hij hj;have:=key (j-i) i (by omega)
     rw [show i+(j-i)=j by omega] at this
     exact this
    obtain ⟨c,c1,c2,c3⟩:=C9u hsort v;have ew:A2 (x.N+1)=x.N+1:=by rw [C6]<;>omega
    have hM:=B8m (n:=x.N+1) (k:=x.K) (by omega) hh.1.1
    obtain ⟨r,r1,r2,r3⟩:=C8M (v:=v) (d:=if 0<c/\c<x.Ao.length then A2 (A2 ((el x.Ao c).G+(el x.Ao c).D)-1) else 0) c1 hl (by rw [ew];exact hM)
    have hu:=D0D hl c1 c2 c3;unfold B2y at hu;rw [hu,r1,C9c hl c1 c2 c3 r2];exact ⟨r,rfl,rfl,r3⟩
 ·rw [H3 hv];exact ⟨_,rfl,rfl,Nat.zero_le _⟩
end Go.Win
namespace Go.Win
open Go.Vc Go.Dec
theorem C6L (a v:Int) (j:Nat): ∃y:C1,N6 y/\(j<=1000-> ∃p b,B0w (F9 a) (j:Int)=some p/\A8j (F9 a) (j:Int)=some p/\A00 p.1 (Q5 (F9 v))=some (y,b)/\A2P (K3 (F9 v)) p.1=some (y,b)):=by
 by_cases hj:j<=1000
 ·obtain ⟨p,h1,h2,h3⟩:=D0T (n:=F9 a) (k:=(j:Int)) (C2r a) (by omega)
  have hv:=A9a (C2r v);have m1:=A7H (a:=p.1) (b:=K3 (F9 v)) h3 hv;have m2:=B2v (a:=K3 (F9 v)) (b:=p.1) hv h3;rw [Int.mul_comm (wv (K3 (F9 v)))] at m2
  by_cases hb:wv p.1*wv (K3 (F9 v))<340282366920938463463374607431768211456
  ·rw [if_pos hb] at m1 m2;exact ⟨_,A38 (B4D h3 hv) hb,fun _=>⟨p,true,h1,h2,m1,m2⟩⟩
  ·rw [if_neg hb] at m1 m2;exact ⟨⟨0,0⟩,by unfold N6;simp,fun _=>⟨p,false,h1,h2,m1,m2⟩⟩
 ·exact ⟨⟨0,0⟩,by unfold N6;simp,fun h=>absurd h hj⟩
theorem C6P {α:Type} (s:Nat->α) (z:α) (P j:Nat) (hj:j<P):((List.range j).map s++List.replicate (P-j) z).set j (s j)=(List.range (j+1)).map s++List.replicate (P-(j+1)) z:=by
 have hl:((List.range j).map s).length=j:=by simp
 rw [List.set_append_right _ _ (by omega),hl,Nat.sub_self,show P-j=(P-(j+1))+1 by omega,List.replicate_succ,List.set_cons_zero,List.range_succ,D1X,D1s]
 rfl
theorem C7a (x:D3) (v:Int) (hw:∀w∈x.Ae,N6 w) (hl:x.Ae.length<=1048576): ∃r,B26 x v=some r/\B1a x v=some r/\(r.1.Ae.length<=x.Ae.length/\ ∀w∈r.1.Ae,N6 w):=by
 unfold B26 B1a;rw [B3H x hw,B2n x hw,D0Y,D0Y]
 by_cases hv:C48 x
 ·rw [N0 hv];simp only [D1B,D01];have hval:(decide (v<0)|| !D8 v)=(decide (v<0)||decide (v>4096)):=by
   by_cases h0:v<0
   ·rw [D03 h0];rfl
   ·have:=O0 v;rw [D05 h0,D1p,D1p];cases hr:D8 v with
    |true=>have:=this.1 hr;rw [D05 (by omega)];rfl
    |false=>
     have hn: ¬(-4096<=v/\v<=4096):=fun h=>by rw [this.2 h] at hr;cases hr
     rw [D03 (by omega)];rfl
  rw [hval];cases hr:(decide (v<0)||decide (v>4096)) with
  |true=>exact ⟨_,rfl,rfl,Nat.zero_le _,fun w hw=>by cases hw⟩
  |false=>
   rw [D01,D01,G5 (by omega)]
   have hP:x.Ae.length<=5:=by have:=hv.1;omega
   obtain ⟨Y,hY⟩:=Classical.axiomOfChoice (C6L (A2 (A2 (x.Now-x.Ay)+1)) v)
   let ok:Nat->Prop:=fun j=>wv (el x.Ae j)+wv (Y j)<340282366920938463463374607431768211456
   let s:Nat->C1:=fun j=>ofW (wv (el x.Ae j)+wv (Y j))
   have hadd: ∀j,j<x.Ae.length->A6d (el x.Ae j) (Y j)=some (if ok j then (s j,true) else (⟨0,0⟩,false)):=fun j hj=>B6O (hw _ (A5l hj)) (hY j).1
   have hsok: ∀j,j<x.Ae.length->ok j->N6 (s j):=fun j hj ho=>A38 (by
    have:=(B3k (hw _ (A5l hj))).1;have:=(B3k (hY j).1).1;omega) ho
   have hone: ∀j:Nat,j<x.Ae.length->A2 ((j:Int)+1)=((j+1:Nat):Int):=fun j hj=>by rw [C6]<;>omega
   have hprog:=V1 (f:=fun q:List C1×Int=>A2m x v q.1 q.2) (fun j=>((List.range j).map s++List.replicate (x.Ae.length-j) ⟨0,0⟩,(j:Int))) 0 x.Ae.length (Nat.zero_le _) (fun j=> ¬ok j)
    (⟨0,0,0, []⟩,6) (some (⟨x.P,x.Ay,x.Now,(List.range x.Ae.length).map s⟩,0)) (fun j _ hj _=>by
     obtain ⟨p,b,q1,q2,q3,q4⟩:=(hY j).2 (by omega)
     have hd:decide ((j:Int)<((List.replicate ((x.Ae.length:Int)).toNat (C1.mk 0 0)).length:Int))=true:=D03 (by simp;omega)
     have hd' :decide ((j:Int)<((List.replicate x.Ae.length (C1.mk 0 0)).length:Int))=true:=D03 (by simp;omega)
     have hx:D2 ((List.range j).map s++List.replicate (x.Ae.length-j) (C1.mk 0 0)) (j:Int)=some ⟨0,0⟩:=by
      have hl0:((List.range j).map s).length=j:=by simp
      rw [K8,D1o (by omega),hl0,Nat.sub_self,List.getElem?_replicate,if_pos (by omega)]
     refine ⟨fun hb=> ?_,fun hb=> ?_⟩
     ·simp only [A2m,hd,D02,q1,q3,F8 hj,hadd j hj,D0Y,if_neg hb,D1b]
     ·simp only [A2m,hd,hd',D02,q1,q3,F8 hj,hadd j hj,D0Y,if_pos (Decidable.not_not.1 hb),D1a,D01,hx,hone j hj,D1E,C6P s ⟨0,0⟩ _ j hj])
    (fun _=>by
     have hd:decide ((x.Ae.length:Int)<((List.replicate ((x.Ae.length:Int)).toNat (C1.mk 0 0)).length:Int))=false:=D05 (by simp)
     simp only [A2m,hd,D01,Nat.sub_self,List.replicate_zero,List.append_nil])
   have hplus:=V1 (f:=fun q:List C1×Int=>X1 x.Ae ((List.range x.Ae.length).map Y) q.1 q.2) (fun j=>((List.range j).map s,(j:Int))) 0 x.Ae.length (Nat.zero_le _) (fun j=> ¬ok j)
    ([],false) (some ((List.range x.Ae.length).map s,true)) (fun j _ hj _=>by
     have hd:decide ((j:Int)<(x.Ae.length:Int))=true:=D03 (by omega)
     have hx:D2 ((List.range x.Ae.length).map Y) (j:Int)=some (Y j):=by
      rw [K8,D1x,List.getElem?_range hj]
      rfl
     have ha:A8i (el x.Ae j) (Y j)=some (if ok j then (s j,true) else (⟨0,0⟩,false)):=hadd j hj
     refine ⟨fun hb=> ?_,fun hb=> ?_⟩
     ·simp only [X1,hd,D02,F8 hj,hx,ha,D0Y,if_neg hb,D1b]
     ·simp only [X1,hd,D02,F8 hj,hx,ha,D0Y,if_pos (Decidable.not_not.1 hb),D1a,D01,hone j hj];rw [G5 (by simp;omega),List.range_succ,D1X]
      rfl)
    (fun _=>by
     simp only [X1,D05 (show¬(x.Ae.length:Int)<(x.Ae.length:Int) by omega),D01])
   have hown:=(V1 (f:=fun q:List C1×Int=>A1d x v q.1 q.2) (fun j=>((List.range j).map Y,(j:Int))) 0 x.Ae.length (Nat.zero_le _) (fun j=>False)
    (⟨0,0,0, []⟩,6) (Option.bind (A6Q x.Ae ((List.range x.Ae.length).map Y)) fun y14_3=>
     cond (!y14_3.2) (some ((D3.mk 0 0 0 ([]:List C1)),(6:Int)))<|some ((D3.mk x.P x.Ay x.Now y14_3.1),(0:Int))) (fun j _ hj _=>by
     obtain ⟨p,b,q1,q2,q3,q4⟩:=(hY j).2 (by omega)
     refine ⟨False.elim,fun _=> ?_⟩;simp only [A1d,D03 (show (j:Int)<(x.Ae.length:Int) by omega),D02,q2,q4,D0Y,hone j hj]
     rw [G5 (by simp;omega),List.range_succ,D1X]
     rfl)
    (fun _=>by
     simp only [A1d,D05 (show¬(x.Ae.length:Int)<(x.Ae.length:Int) by omega),D01])).2 (fun _ _ _ h=>h)
   have e1:B1G x v (List.replicate ((x.Ae.length:Int)).toNat ⟨0,0⟩) 0=loop (fun q:List C1×Int=>A2m x v q.1 q.2) ((List.range 0).map s++List.replicate (x.Ae.length-0) ⟨0,0⟩,((0:Nat):Int)):=by
    unfold B1G;simp
   have e2:B0k x v [] 0=loop (fun q:List C1×Int=>A1d x v q.1 q.2) ((List.range 0).map Y,((0:Nat):Int)):=by
    unfold B0k;simp
   have e3:A6Q x.Ae ((List.range x.Ae.length).map Y)=loop (fun q:List C1×Int=>X1 x.Ae ((List.range x.Ae.length).map Y) q.1 q.2) ((List.range 0).map s,((0:Nat):Int)):=by
    unfold A6Q B3K;simp
   rw [e1,e2,hown,e3]
   by_cases hall: ∃j,0<=j/\j<x.Ae.length/\ ¬ok j
   ·rw [hprog.1 hall,hplus.1 hall];exact ⟨_,rfl,rfl,Nat.zero_le _,fun w hw=>by cases hw⟩
   ·have hall' : ∀j,0<=j->j<x.Ae.length-> ¬ ¬ok j:=fun j h0 hj hb=>hall ⟨j,h0,hj,hb⟩;rw [hprog.2 hall',hplus.2 hall'];refine ⟨_,rfl,rfl,by simp,fun w hw=> ?_⟩
    obtain ⟨j,hj,rfl⟩:=List.mem_map.1 hw;have hj' :j<x.Ae.length:=by simpa using hj
    exact hsok j hj' (Decidable.not_not.1 (hall' j (Nat.zero_le _) hj'))
 ·rw [H3 hv];exact ⟨_,rfl,rfl,Nat.zero_le _,fun w hw=>by cases hw⟩
end Go.Win
namespace Go.Win
open Go.Vc Go.Dec
theorem C5h (p0:D0) (p1:Int) (hl:p0.Ac.length<=1000) (h64:1<=p1/\p1<=65536): ∃r,A4D p0 p1=some r/\A3F p0 p1=some r/\r.1.Ac.length<=p0.Ac.length:=by
 unfold A4D A3F;rw [A3l p0 (by omega),A4h p0 (by omega)]
 simp only [D0Y];cases hb:okB p0 with
 |false=>exact ⟨_,rfl,rfl,Nat.zero_le _⟩
 |true=>
  have h:=(A6k p0).1 hb;simp only [D02,D1B,D01];rw [D05 (by omega),D05 (by omega)]
  simp only [Bool.or_self,D01];have e1:A2 (p1+1)=p1+1:=by rw [C6]<;>omega
  rw [e1]
  by_cases hle:(p0.Ac.length:Int)<=p1+1
  ·rw [D03 hle];simp only [D02];unfold A1R;rw [A0N (by rw [D00,D1u];omega)]
   exact ⟨_,by simp,rfl,by simp⟩
  ·rw [D05 hle];simp only [D01];obtain ⟨b,rfl⟩:=Int.eq_ofNat_of_zero_le (show 0<=p1 by omega)
   have hpos:0<p0.Ac.length:=by omega
   rw [C5i h (by omega) hpos (by omega) (by omega) p0 rfl rfl,B8u h (by omega) hpos (by omega) (by omega) p0 rfl rfl]
   refine ⟨_,rfl,rfl, ?_⟩;have:=B6C (fun i=>R3 p0.Ac (rk p0.N (b:Int) i)) (b+1);simp only [D1L];omega
theorem C6o (r s:D0):(A8f r s).1.Ac.length<=r.Ac.length+s.Ac.length:=by
 unfold A8f;cases okB r&&okB s with
 |false=>exact Nat.zero_le _
 |true=>
  rw [D02];cases decide (r.N+s.N>1099511627776) with
  |true=>exact Nat.zero_le _
  |false=>rw [D01,N3];exact D1G _
abbrev lvQ (b:B3):Int:=b.As
def A2Y (b:B3) (l:Int) (r:D0):B3:=⟨b.T,b.Az,l+1,r⟩
structure Mg (p2:Int) (b1 b2:B3) (y p:D0×Int):Prop where
 m1:A4A b1.Aw b2.Aw=some y
 m2:A3E b1.Aw b2.Aw=some y
 p1:A4D y.1 p2=some p
 p2:A3F y.1 p2=some p
noncomputable def A98 (p1 p2:Int) (v3_11:List B3) (v3_12 v3_13 v6_14:Int):Option (((List B3)×Int×Int)⊕(List B3)):=
 cond (decide ((A2 (v3_12-v6_14))<(A2 (p1+(2:Int))))) (
  some (.inr v3_11))<|
 Option.bind (D2 v3_11 v6_14) fun x12_2=>
 Option.bind (D2 v3_11 v6_14) fun x12_3=>
 Option.bind (D2 v3_11 (A2 (v6_14+(1:Int)))) fun x12_7=>
 Option.bind (D2 v3_11 (A2 (v6_14+(1:Int)))) fun x12_8=>
 Option.bind (A4A x12_3.Aw x12_8.Aw) fun y13_4=>
 Option.bind (A4D y13_4.1 p2) fun y14_2=>
 Option.bind (D2 v3_11 v6_14) fun x15_10=>
 Option.bind (D2 v3_11 v6_14) fun x15_11=>
 ck (decide (0<=(A2 (v6_14+(1:Int)))/\(A2 (v6_14+(1:Int)))<=((v3_11.set (v6_14).toNat (B3.mk x12_8.T x12_8.Az (A2 (v3_13+(1:Int))) y14_2.1)).length:Int)))<|
 ck (decide (0<=(A2 (v6_14+(2:Int)))/\(A2 (v6_14+(2:Int)))<=((v3_11.set (v6_14).toNat (B3.mk x12_8.T x12_8.Az (A2 (v3_13+(1:Int))) y14_2.1)).length:Int)))<|
 ck (decide (0<((A2 (v6_14+(1:Int)))).toNat/\((A2 (v6_14+(1:Int)))).toNat+(((v3_11.set (v6_14).toNat (B3.mk x12_8.T x12_8.Az (A2 (v3_13+(1:Int))) y14_2.1)).drop ((A2 (v6_14+(2:Int)))).toNat).take ((v3_11.set (v6_14).toNat (B3.mk x12_8.T x12_8.Az (A2 (v3_13+(1:Int))) y14_2.1)).length-((A2 (v6_14+(2:Int)))).toNat)).length<=(v3_11.set (v6_14).toNat (B3.mk x12_8.T x12_8.Az (A2 (v3_13+(1:Int))) y14_2.1)).length))<|
 some (.inl (((v3_11.set (v6_14).toNat (B3.mk x12_8.T x12_8.Az (A2 (v3_13+(1:Int))) y14_2.1)).take ((A2 (v6_14+(1:Int)))).toNat++(((v3_11.set (v6_14).toNat (B3.mk x12_8.T x12_8.Az (A2 (v3_13+(1:Int))) y14_2.1)).drop ((A2 (v6_14+(2:Int)))).toNat).take ((v3_11.set (v6_14).toNat (B3.mk x12_8.T x12_8.Az (A2 (v3_13+(1:Int))) y14_2.1)).length-((A2 (v6_14+(2:Int)))).toNat))),(A2 (v6_14+(1:Int))),(A2 (v3_13+(1:Int)))))
noncomputable def B0p (p1 p2:Int) (v3_11:List B3) (v3_12 v7_13 v7_14:Int):Option (((List B3)×Int)⊕(List B3)):=
 cond (decide (v7_14<=(A2 (p1+(1:Int))))) (
  some (.inr v3_11))<|
 Option.bind (D2 v3_11 v7_13) fun x18_2=>
 Option.bind (D2 v3_11 v7_13) fun x18_3=>
 Option.bind (D2 v3_11 (A2 (v7_13+(1:Int)))) fun x18_7=>
 Option.bind (D2 v3_11 (A2 (v7_13+(1:Int)))) fun x18_8=>
 Option.bind (A3E x18_3.Aw x18_8.Aw) fun y19_4=>
 Option.bind (A3F y19_4.1 p2) fun y20_2=>
 ck (decide (0<=v7_13/\v7_13<=(v3_11.length:Int)))<|
 ck (decide ((([]:List B3).length+(v3_11.take (v7_13).toNat).length)*56<=140737488355328))<|
 ck (decide (((([]:List B3)++(v3_11.take (v7_13).toNat)).length+ [(B3.mk x18_8.T x18_8.Az (A2 (v3_12+(1:Int))) y20_2.1)].length)*56<=140737488355328))<|
 ck (decide (0<=(A2 (v7_13+(2:Int)))/\(A2 (v7_13+(2:Int)))<=(v3_11.length:Int)))<|
 ck (decide ((((([]:List B3)++(v3_11.take (v7_13).toNat))++ [(B3.mk x18_8.T x18_8.Az (A2 (v3_12+(1:Int))) y20_2.1)]).length+(v3_11.drop ((A2 (v7_13+(2:Int)))).toNat).length)*56<=140737488355328))<|
 some (.inl ((((([]:List B3)++(v3_11.take (v7_13).toNat))++ [(B3.mk x18_8.T x18_8.Az (A2 (v3_12+(1:Int))) y20_2.1)])++(v3_11.drop ((A2 (v7_13+(2:Int)))).toNat)),(A2 (v3_12+(1:Int)))))
theorem B3E {A B C:List B3} {l k p2:Int} (hn:(A++B++C).length<=1048576) (hk:1<=k/\k<=128) (hb:(B.length:Int)<k+2):
  A98 k p2 (A++B++C) ((A.length+B.length:Nat):Int) l (A.length:Int)=some (.inr (A++B++C)):=by
 have hlen:(A++B++C).length=A.length+B.length+C.length:=by simp [Nat.add_assoc]
 have ek:A2 (k+2)=k+2:=by rw [C6]<;>omega
 have eb:A2 (((A.length+B.length:Nat):Int)-(A.length:Int))=(B.length:Int):=by rw [C6]<;>omega
 unfold A98;rw [eb,ek,D03 hb,D02]
theorem C21 {A D C:List B3} {b1 b2:B3} {y p:D0×Int} {l k p2:Int} (hn:(A++(b1::b2::D)++C).length<=1048576) (hk:1<=k/\k<=128) (hl:0<=l/\l<=30) (hb:¬(((b1::b2::D).length:Nat):Int)<k+2) (hm:Mg p2 b1 b2 y p):
  A98 k p2 (A++(b1::b2::D)++C) ((A.length+(b1::b2::D).length:Nat):Int) l (A.length:Int)=some (.inl (A++A2Y b2 l p.1::(D++C),((A.length+1:Nat):Int),l+1)):=by
 have hlen:(A++(b1::b2::D)++C).length=A.length+(b1::b2::D).length+C.length:=by simp only [D04]
 have ek:A2 (k+2)=k+2:=by rw [C6]<;>omega
 have eb:A2 (((A.length+(b1::b2::D).length:Nat):Int)-(A.length:Int))=((b1::b2::D).length:Int):=by rw [C6]<;>omega
 unfold A98;rw [eb,ek,D05 hb,D01];have e1:A2 ((A.length:Int)+1)=((A.length+1:Nat):Int):=by rw [C6]<;>omega
 have e2:A2 ((A.length:Int)+2)=((A.length+2:Nat):Int):=by rw [C6]<;>omega
 have el1:A2 (l+1)=l+1:=by rw [C6]<;>omega
 have eo:A++(b1::b2::D)++C=A++b1::b2::(D++C):=by simp
 rw [eo] at hlen⊢;have g1:D2 (A++b1::b2::(D++C)) (A.length:Int)=some b1:=by simp
 have g2:D2 (A++b1::b2::(D++C)) ((A.length+1:Nat):Int)=some b2:=by
  rw [K8,D1o (by omega)]
  simp
 rw [e1,e2,el1,g1,g2];simp only [D0Y,D1E,hm.m1,hm.p1];have hc:=C07 b1 b2 (A2Y b2 l p.1) (D++C) A;unfold A2Y at hc;have hs:((A++b1::b2::(D++C)).set A.length ⟨b2.T,b2.Az,l+1,p.1⟩).length=A.length+(D.length+2)+C.length:=by
  rw [D1Y];simp;omega
 have hd:(((A++b1::b2::(D++C)).set A.length ⟨b2.T,b2.Az,l+1,p.1⟩).drop (A.length+2)).length=D.length+C.length:=by
  rw [D1w,hs];omega
 rw [G5 (by rw [hs];omega),G5 (by rw [hs];omega),G5 (by rw [D1q,hd,hs];omega),hc]
 rfl
theorem B50 {A B C:List B3} {l k p2:Int} (hp:A5y lvQ A B C l) (hn:(A++B++C).length<=1048576):
  A5Y k p2 (A++B++C) ((A.length+B.length:Nat):Int) l ((A.length+B.length:Nat):Int)=A98 k p2 (A++B++C) ((A.length+B.length:Nat):Int) l (A.length:Int):=by
 have hlen:(A++B++C).length=A.length+B.length+C.length:=by simp [Nat.add_assoc]
 unfold A5Y;refine B9k lvQ hp _ ?_ ?_
 ·intro h0;unfold A1W;have e0:decide ((0:Int)>0)=false:=by decide
  simp only [e0,gd,D01,D0Y,D1t];rw [h0]
  rfl
 ·intro i x hx hi;have e1:A2 (((i+1:Nat):Int)-1)=(i:Int):=by rw [C6]<;>omega
  have e2:decide (((i+1:Nat):Int)>0)=true:=D03 (by omega)
  unfold A1W;simp only [e1,e2,gd,D02,K8,hx,D0Y,D1z];constructor
  ·intro h;have:(x.As==l)=true:=by simpa using h
   rw [this,D02]
  ·intro h hA;have:(x.As==l)=false:=by simpa using h
   rw [this,D01,hA]
   rfl
theorem B3O {A B C:List B3} {l k p2 a:Int} (hk:1<=k/\k<=128) (hb:(B.length:Int)<k+2):
  B0p k p2 (A++B++C) l a (B.length:Int)=some (.inr (A++B++C)):=by
 have ek:A2 (k+1)=k+1:=by rw [C6]<;>omega
 unfold B0p;rw [ek,D03 (by omega),D02]
theorem C3j {A D C:List B3} {b1 b2:B3} {y p:D0×Int} {l k p2:Int} (hn:(A++(b1::b2::D)++C).length<=1048576) (hk:1<=k/\k<=128) (hl:0<=l/\l<=30) (hb:¬(((b1::b2::D).length:Nat):Int)<k+2) (hm:Mg p2 b1 b2 y p):
  B0p k p2 (A++(b1::b2::D)++C) l (A.length:Int) ((b1::b2::D).length:Int)=some (.inl (A++A2Y b2 l p.1::(D++C),l+1)):=by
 have hlen:(A++(b1::b2::D)++C).length=A.length+(b1::b2::D).length+C.length:=by simp only [D04]
 have ek:A2 (k+1)=k+1:=by rw [C6]<;>omega
 unfold B0p;rw [ek,D05 (by omega),D01]
 have e1:A2 ((A.length:Int)+1)=((A.length+1:Nat):Int):=by rw [C6]<;>omega
 have e2:A2 ((A.length:Int)+2)=((A.length+2:Nat):Int):=by rw [C6]<;>omega
 have el1:A2 (l+1)=l+1:=by rw [C6]<;>omega
 have eo:A++(b1::b2::D)++C=A++b1::b2::(D++C):=by simp
 rw [eo] at hlen⊢;rw [eo] at hn;have g1:D2 (A++b1::b2::(D++C)) (A.length:Int)=some b1:=by simp
 have g2:D2 (A++b1::b2::(D++C)) ((A.length+1:Nat):Int)=some b2:=by
  rw [K8,D1o (by omega)]
  simp
 rw [e1,e2,el1,g1,g2];simp only [D0Y,D1E,hm.m2,hm.p2];have ht:(A++b1::b2::(D++C)).take A.length=A:=List.take_left;have hd:(A++b1::b2::(D++C)).drop (A.length+2)=D++C:=by
  rw [List.drop_append];simp [List.drop_eq_nil_of_le]
 simp only [ht,hd,List.nil_append];have hs:A.length+D.length+C.length<=1048576:=by rw [hlen] at hn;simp at hn;omega
 rw [G5,G5,G5,G5,G5]
 ·simp only [A2Y,D1s,List.singleton_append]
 ·simp only [D04,D1h,D1u];omega
 ·rw [hlen];simp only [D1h];omega
 ·simp only [D1h,D1u];omega
 ·simp only [D1u];omega
 ·rw [hlen];omega
theorem B7F {A B C:List B3} {l k p2:Int} (hp:A5y lvQ A B C l) (hn:(A++B++C).length<=1048576):
  A6W k p2 (A++B++C) l (-1) 0 0=B0p k p2 (A++B++C) l (if B.length=0 then-1 else (A.length:Int)) (B.length:Int):=by
 unfold A6W;refine C06 lvQ hp _ ?_ ?_
 ·intro i x a n hx hn0;have hi:i<(A++B++C).length:=(D08.1 hx).1;have e1:A2 ((i:Int)+1)=((i+1:Nat):Int):=by rw [C6]<;>omega
  have e2:A2 (n+1)=n+1:=by rw [C6]<;>omega
  unfold A26;simp only [e1,e2,K8,hx,D0Y,D03 (show (i:Int)<((A++B++C).length:Int) by omega),D02]
  by_cases h:lvQ x=l
  ·rw [if_pos h];have:(x.As==l)=true:=by simpa using h
   rw [this,D02]
   by_cases ha:a<0
   ·rw [D03 ha,D02,if_pos ha]
   ·rw [D05 ha,D01,if_neg ha]
  ·rw [if_neg h];have:(x.As==l)=false:=by simpa using h
   rw [this,D01]
 ·unfold A26;simp only [D05 (show¬((A++B++C).length:Int)<((A++B++C).length:Int) by omega),D01]
  rfl
def R8 (l:List B3):Nat:=(l.map fun x=>x.Aw.Ac.length).sum
theorem A9Y (a b:List B3):R8 (a++b)=R8 a+R8 b:=by simp [R8]
theorem A8a (x:B3) (l:List B3):R8 (x::l)=x.Aw.Ac.length+R8 l:=by simp [R8]
theorem C7j {l:List B3} {x:B3} (h:x∈l):x.Aw.Ac.length<=R8 l:=by
 induction l with
 |nil=>cases h
 |cons y l ih=>
  rw [A8a];rcases List.mem_cons.1 h with h|h
  ·rw [h];omega
  ·have:=ih h;omega
def B9Y (l:List B3):Prop:=l.Pairwise (fun a b=>b.As<=a.As)/\ ∀x∈l,0<=x.As/\x.As<=30
def A0B (l:List B3):Int:=K5 (plainB l)
theorem B3e (a b:List B3):A0B (a++b)=A0B a+A0B b:=by simp [A0B,plainB,A3I]
theorem B9o (x:B3) (l:List B3):A0B (x::l)=A17 ⟨x.T,x.As⟩+A0B l:=by
 unfold A0B plainB;rw [D1R,A4l]
theorem B5s (l:List B3):0<=A0B l:=A9B _
theorem C6X {B:List B3} {n:Nat} (hn:n<=30) (h:∀x∈B,x.As=(n:Int)):A0B B=(B.length:Int)*2^n:=by
 have:=B9p (B:=plainB B) hn (fun x hx=>by
  obtain ⟨y,hy,rfl⟩:=List.mem_map.1 hx;exact h y hy)
 rw [A1v] at this;exact this
theorem B44 {l:Int}: ∀ {A:List B3},A.Pairwise (fun a b=>b.As<=a.As)->(∀x∈A,l<x.As)-> ∃A' A1,A=A' ++A1/\(∀x∈A',l+1<x.As)/\ ∀x∈A1,x.As=l+1
 | [],_,_=>⟨[], [],rfl,by simp,by simp⟩
 |a::A,hs,hl=>by
  have h2:=List.pairwise_cons.1 hs
  by_cases ha:a.As=l+1
  ·refine ⟨[],a::A,rfl,by simp,fun x hx=> ?_⟩
   rcases List.mem_cons.1 hx with h|h
   ·rw [h];exact ha
   ·have:=h2.1 x h;have:=hl x (by simp [h])
    omega
  ·obtain ⟨A',A1,e,h3,h4⟩:=B44 h2.2 (fun x hx=>hl x (by simp [hx]))
   refine ⟨a::A',A1,by rw [e];rfl,fun x hx=> ?_,h4⟩
   rcases List.mem_cons.1 hx with h|h
   ·rw [h];have:=hl a (by simp);omega
   ·exact h3 x h
theorem D0x {p2:Int} (h2:1<=p2/\p2<=65536) (b1 b2:B3) (hl:b1.Aw.Ac.length+b2.Aw.Ac.length<=1000): ∃y p,Mg p2 b1 b2 y p/\p.1.Ac.length<=b1.Aw.Ac.length+b2.Aw.Ac.length:=by
 have hm:=C6o b1.Aw b2.Aw;obtain ⟨p,q1,q2,q3⟩:=C5h (A8f b1.Aw b2.Aw).1 p2 (by omega) h2
 exact ⟨A8f b1.Aw b2.Aw,p,⟨C5j _ _ (by omega) (by omega),C6R _ _ (by omega) (by omega),q1,q2⟩,by omega⟩
theorem C7f {k p2:Int} (hk:1<=k/\k<=128) (h2:1<=p2/\p2<=65536): ∀(n:Nat) (A B C:List B3) (l:Nat),(A++B++C).length=n->A5y lvQ A B C (l:Int)->B9Y (A++B++C)->A0B (A++B++C)<=1073741824->R8 (A++B++C)<=1000->n<=1048576->l<=30->
  ∃R,A0I k p2 (A++B++C) ((A.length+B.length:Nat):Int) (l:Int)=some R/\A1I k p2 (A++B++C) (l:Int)=some R/\R8 R<=R8 (A++B++C)/\R.length<=n:=by
 intro n
 induction n with
 |zero=>
  intro A B C l hlen hp hg ht he hn hl;have hlen' :(A++B++C).length=A.length+B.length+C.length:=by simp [Nat.add_assoc]
  have hi:=B50 (k:=k) (p2:=p2) hp (by omega)
  have hr:=B7F (k:=k) (p2:=p2) hp (by omega)
  rw [B3E (by omega) hk (by omega)] at hi
  rw [B3O hk (by omega)] at hr
  refine ⟨A++B++C, ?_, ?_,D1G _,by omega⟩
  ·unfold A0I;exact J5 (by unfold A1V;exact hi)
  ·unfold A1I;exact J5 (by unfold A25;rw [D03 (by omega),D02];exact hr)
 |succ n ih=>
  intro A B C l hlen hp hg ht he hn hl;have hlen' :(A++B++C).length=A.length+B.length+C.length:=by simp [Nat.add_assoc]
  have hi:=B50 (k:=k) (p2:=p2) hp (by omega)
  have hr:=B7F (k:=k) (p2:=p2) hp (by omega)
  by_cases hb:(B.length:Int)<k+2
  ·rw [B3E (by omega) hk hb] at hi
   rw [B3O hk hb] at hr;refine ⟨A++B++C, ?_, ?_,D1G _,by omega⟩
   ·unfold A0I;exact J5 (by unfold A1V;exact hi)
   ·unfold A1I;exact J5 (by unfold A25;rw [D03 (by omega),D02];exact hr)
  ·match B,hb,hi,hr,hp,hg,ht,he,hlen,hlen' with
   | [],hb,_,_,_,_,_,_,_,_=>simp at hb;omega
   | [b1],hb,_,_,_,_,_,_,_,_=>simp at hb;omega
   |b1::b2::D,hb,hi,hr,hp,hg,ht,he,hlen,hlen' =>
    have heq:R8 (A++(b1::b2::D)++C)=R8 A+(b1.Aw.Ac.length+(b2.Aw.Ac.length+R8 D))+R8 C:=by rw [A9Y,A9Y,A8a,A8a]
    obtain ⟨y,p,hm,hpl⟩:=D0x h2 b1 b2 (by omega)
    rw [C21 (by omega) hk (by omega) hb hm] at hi
    rw [if_neg (by simp),C3j (by omega) hk (by omega) hb hm] at hr
    have hA:A.Pairwise (fun a b=>b.As<=a.As):=(List.pairwise_append.1 (List.pairwise_append.1 hg.1).1).1;have htB:=C6X hl hp.at_;have hl28:l<=28:=by
     by_cases h:l<=28
     ·exact h
     ·exfalso;rw [B3e,B3e,htB] at ht;have h1:=B5s A;have h2:=B5s C;have h3:(3:Int)<=((b1::b2::D).length:Int):=by simp at hb⊢;omega
      have h4:(3:Int)*2^l<=((b1::b2::D).length:Int)*2^l:=Int.mul_le_mul_of_nonneg_right h3 (Int.le_of_lt (Int.pow_pos (by decide)))
      rcases (by omega:l=29\/l=30) with rfl|rfl
      ·rw [show (2:Int)^29=536870912 by decide] at h4 ht;omega
      ·rw [show (2:Int)^30=1073741824 by decide] at h4 ht;omega
    obtain ⟨A',A1,rfl,hA',hA1⟩:=B44 hA hp.up;have hlm:(A2Y b2 (l:Int) p.1).As=((l+1:Nat):Int):=by simp [A2Y]
    have eo:(A' ++A1)++A2Y b2 (l:Int) p.1::(D++C)=A' ++(A1++ [A2Y b2 (l:Int) p.1])++(D++C):=by simp
    have el:((A' ++A1).length+1:Nat)=A'.length+(A1++ [A2Y b2 (l:Int) p.1]).length:=by simp [Nat.add_assoc]
    have hlD: ∀x∈D,x.As=(l:Int):=fun x hx=>hp.at_ x (by simp [hx])
    have hp' :A5y lvQ A' (A1++ [A2Y b2 (l:Int) p.1]) (D++C) ((l+1:Nat):Int):=by
     refine ⟨fun x hx=> ?_,fun x hx=> ?_,fun x hx=> ?_⟩
     ·have:=hA' x hx;show ((l+1:Nat):Int)<x.As;omega
     ·rcases D1K.1 hx with h|h
      ·have:=hA1 x h;show x.As=_;omega
      ·rw [List.mem_singleton.1 h];exact hlm
     ·rcases D1K.1 hx with h|h
      ·have:=hlD x h;show x.As<_;omega
      ·have h' :x.As<(l:Int):=hp.low x h;show x.As<_;omega
    have hup: ∀x∈A' ++A1,((l+1:Nat):Int)<=x.As:=fun x hx=>by
     have:(l:Int)<x.As:=hp.up x hx;omega
    have hlow: ∀x∈D++C,x.As<=(l:Int):=fun x hx=>by
     rcases D1K.1 hx with h|h
     ·rw [hlD x h];omega
     ·have h' :x.As<(l:Int):=hp.low x h;omega
    have hDC:(D++C).Pairwise (fun a b=>b.As<=a.As):=by
     have h:=hg.1;rw [D1s] at h;have h2:=(List.pairwise_append.1 h).2.1;exact (List.pairwise_cons.1 (List.pairwise_cons.1 h2).2).2
    have hg' :B9Y (A' ++(A1++ [A2Y b2 (l:Int) p.1])++(D++C)):=by
     rw [<-eo];refine ⟨List.pairwise_append.2 ⟨hA,List.pairwise_cons.2 ⟨fun x hx=> ?_,hDC⟩,fun x hx y hy=> ?_⟩,fun x hx=> ?_⟩
     ·rw [hlm];have:=hlow x hx;omega
     ·rcases List.mem_cons.1 hy with h|h
      ·rw [h,hlm];exact hup x hx
      ·have:=hup x hx;have:=hlow y h;omega
     ·rcases D1K.1 hx with h|h
      ·exact hg.2 x (by simp only [D1s,D1K] at h⊢;rcases h with h|h<;>simp [h])
      ·rcases List.mem_cons.1 h with h|h
       ·rw [h,hlm];omega
       ·exact hg.2 x (by simp only [D1K,List.mem_cons] at h⊢;rcases h with h|h<;>simp [h])
    have htot:A0B (A' ++(A1++ [A2Y b2 (l:Int) p.1])++(D++C))=A0B (A' ++A1++b1::b2::D++C):=by
     rw [<-eo];have e1:A17 ⟨b1.T,b1.As⟩=2^l:=A29 (hp.at_ b1 (by simp)) hl
     have e2:A17 ⟨b2.T,b2.As⟩=2^l:=A29 (hp.at_ b2 (by simp)) hl
     have e3:A17 ⟨(A2Y b2 (l:Int) p.1).T,(A2Y b2 (l:Int) p.1).As⟩=2^(l+1):=A29 hlm (by omega)
     simp only [B3e,B9o,e1,e2,e3];rw [Int.pow_succ];omega
    have hent:R8 (A' ++(A1++ [A2Y b2 (l:Int) p.1])++(D++C))<=R8 (A' ++A1++b1::b2::D++C):=by
     rw [<-eo,A9Y,A8a,A9Y D C,heq];have:(A2Y b2 (l:Int) p.1).Aw.Ac.length=p.1.Ac.length:=rfl;omega
    have hlen2:(A' ++(A1++ [A2Y b2 (l:Int) p.1])++(D++C)).length=n:=by
     rw [<-eo];simp only [D04,D1h] at hlen⊢;omega
    obtain ⟨R,r1,r2,r3,r4⟩:=ih A' (A1++ [A2Y b2 (l:Int) p.1]) (D++C) (l+1) hlen2 hp' hg' (by rw [htot];exact ht) (by omega) (by omega) (by omega)
    refine ⟨R, ?_, ?_,by omega,by omega⟩
    ·rw [<-r1];unfold A0I;rw [eo,el,show ((l:Int)+1)=((l+1:Nat):Int) by omega] at hi
     exact L4 (by unfold A1V;exact hi)
    ·rw [<-r2];unfold A1I;rw [eo,show ((l:Int)+1)=((l+1:Nat):Int) by omega] at hr
     exact L4 (by unfold A25;rw [D03 (by omega),D02];exact hr)
theorem C7r {l:List B3} {k:Int} (h:A39 (plainB l) k):B9Y l:=by
 have hg:=B4G h;refine ⟨?_,fun x hx=> ?_⟩
 ·have:=hg.1;unfold plainB at this;exact (List.pairwise_map.1 this)
 ·exact hg.2 ⟨x.T,x.As⟩ (List.mem_map.2 ⟨x,hx,rfl⟩)
theorem C4Q {k p2:Int} {l:List B3} {t v:Int} (hok:B2c l k p2) (hs:A6m l) (hl:l.length+1<=1048576) (he:R8 l+1<=1000) (ht:0<=t/\t<=16777216) (hT:∀i,i<l.length->(el l i).T<=t) (hv:-4096<=v/\v<=4096) (htot:A0B l+1<=1073741824):
  ∃R,A5z l k p2 t v=some R/\A6V l k p2 t v=some R/\R8 R<=R8 l+1/\R.length<=l.length+1:=by
 have hg:=C7r hok.2.1;obtain ⟨A,Z,e,hA,hZ⟩:=B44 (l:= -1) hg.1 (fun x hx=>by have:=(hg.2 x hx).1;omega)
 let nb:B3:=⟨t,v,0,⟨1, [⟨v,1,1⟩]⟩⟩
 have eo:l++ [nb]=A++(Z++ [nb])++ []:=by rw [e];simp
 have hp:A5y lvQ A (Z++ [nb]) [] ((0:Nat):Int):=by
  refine ⟨fun x hx=> ?_,fun x hx=> ?_,by simp⟩
  ·have:=hA x hx;show ((0:Nat):Int)<x.As;omega
  ·rcases D1K.1 hx with h|h
   ·have:=hZ x h;show x.As=_;omega
   ·rw [List.mem_singleton.1 h];rfl
 have hg' :B9Y (l++ [nb]):=by
  refine ⟨List.pairwise_append.2 ⟨hg.1,by simp,fun x hx y hy=> ?_⟩,fun x hx=> ?_⟩
  ·rw [List.mem_singleton.1 hy];exact (hg.2 x hx).1
  ·rcases D1K.1 hx with h|h
   ·exact hg.2 x h
   ·rw [List.mem_singleton.1 h];exact ⟨Int.le_refl 0,(by decide:(0:Int)<=30)⟩
 have htt:A0B (l++ [nb])=A0B l+1:=by
  rw [B3e,B9o];have h1:A17 ⟨nb.T,nb.As⟩=2^0:=A29 rfl (by omega)
  have h2:A0B []=0:=rfl;rw [Int.pow_zero] at h1;omega
 have hee:R8 (l++ [nb])=R8 l+1:=by rw [A9Y,A8a];rfl
 have hlen:(l++ [nb]).length=l.length+1:=by simp
 obtain ⟨R,r1,r2,r3,r4⟩:=C7f (p2:=p2) hok.2.1.1 hok.1 (l.length+1) A (Z++ [nb]) [] 0 (by rw [<-eo,hlen]) hp (by rw [<-eo];exact hg') (by rw [<-eo,htt];exact htot) (by rw [<-eo,hee];exact he) hl (by omega)
 have el1:A.length+(Z++ [nb]).length=(l++ [nb]).length:=by rw [eo];simp
 rw [<-eo] at r1 r2 r3;rw [el1] at r1;have hcut: ∃x22,gd (decide ((l.length:Int)>0)) (D2 l (A2 ((l.length:Int)-1)))=some x22/\((decide ((l.length:Int)>0))&&(decide (x22.T>t)))=false:=by
  by_cases h0:l.length=0
  ·rw [D05 (by omega)];exact ⟨_,rfl,rfl⟩
  ·have e1:A2 ((l.length:Int)-1)=((l.length-1:Nat):Int):=by rw [C6]<;>omega
   have:=hT (l.length-1) (by omega)
   rw [D03 (by omega),e1,F8 (by omega)]
   exact ⟨_,rfl,by rw [D05 (by omega)];rfl⟩
 obtain ⟨x22,c1,c2⟩:=hcut;obtain ⟨t1,t2⟩:=A6s l hs;have hw:A2 (K5 (plainB l))=A0B l:=by
  have h1:=B5s l;unfold A0B at*
  rw [C6]<;>omega
 rw [hw] at t1 t2;have htk:F4 t=true:=(T6 t).2 ht;have hval:D8 v=true:=(O0 v).2 hv;refine ⟨R, ?_, ?_,by rw [hee] at r3;exact r3,r4⟩
 ·unfold A5z;rw [B31 l k p2 hs,K9 hok,t1];simp only [D0Y,D1a,D1p,D05 (show¬t<0 by omega),D05 (show¬t>16777216 by omega),D1b,D1z,c1,c2,D05 (show¬v< -4096 by omega),D05 (show¬v>4096 by omega),gd,D02,D05 (show¬A0B l>=1073741824 by omega),D01,List.nil_append]
  first
   |(rw [show (cond (decide ((l.length:Int)>0)) (D2 l (A2 ((l.length:Int)-1))) (some default))=some x22 from c1];simp only [D0Y,c2,D1p,D1b,D02,D01,D05 (show¬A0B l>=1073741824 by omega)];rw [G5 (by simp;omega),G5 (by simp;omega)];exact r1)
   |(rw [G5 (by simp;omega),G5 (by simp;omega)];exact r1)
 ·unfold A6V;have c2' :((decide ((l.length:Int)>0))&&(decide (t<x22.T)))=false:=c2;rw [B53 l k p2 hs,K9 hok,t2];simp only [D0Y,htk,hval,D1a,D1p,D1b,D1z,gd,D02,List.nil_append,Bool.or_false];rw [show (cond (decide ((l.length:Int)>0)) (D2 l (A2 ((l.length:Int)-1))) (some default))=some x22 from c1];simp only [D0Y,c2',D1p,Bool.or_false,D1b,D02,D01,D05 (show¬A0B l>=1073741824 by omega)]
  rw [G5 (by simp;omega),G5 (by simp;omega)]
  exact r2
theorem C0f (x:B8) (v:Int) (hs:A6m x.Ag) (hl:x.Ag.length+1<=1048576) (he:R8 x.Ag+1<=1000):
  ∃r,A6G x v=some r/\B1h x v=some r/\R8 r.1.Ag<=R8 x.Ag+1/\r.1.Ag.length<=x.Ag.length+1:=by
 unfold A6G B1h;rw [A8T x hs,B2t x hs,D0Y,D0Y]
 by_cases hv:C49 x
 ·rw [N0 hv];simp only [D1B,D01];have hval:(decide (v< -4096)||decide (v>4096))= !D8 v:=by
   have:=O0 v;cases hr:D8 v with
   |true=>have:=this.1 hr;rw [D05 (by omega),D05 (by omega)];rfl
   |false=>
    have hn: ¬(-4096<=v/\v<=4096):=fun h=>by rw [this.2 h] at hr;cases hr
    rw [D1b,D09,D00,D00];omega
  rw [hval];cases hr:D8 v with
  |false=>exact ⟨_,rfl,rfl,Nat.zero_le _,Nat.zero_le _⟩
  |true=>
   have hvr:=(O0 v).1 hr;obtain ⟨hpar,hbl,hcap,hlive⟩:=hv;obtain ⟨t1,t2⟩:=A6s x.Ag hs;rw [D1a,D01,D01,t1,t2,D0Y,D0Y];have hlb:=C4g (plainB x.Ag);rw [A1v] at hlb;have h0:=B5s x.Ag;have hw:A2 (K5 (plainB x.Ag))=A0B x.Ag:=by
    unfold A0B at*
    rw [C6]<;>omega
   rw [hw] at hcap⊢
   by_cases hc:A0B x.Ag=x.Cap
   ·rw [D1S.2 hc];exact ⟨_,rfl,rfl,Nat.zero_le _,Nat.zero_le _⟩
   ·rw [D1O.2 hc,D01,D01];obtain ⟨b,b1,b2,b3⟩:=B5p (k:=x.K) (c:=x.Cap) hpar.2.2.2 hpar.2.1;have hK:=hpar.2.2.2;have hC:=hpar.2.1;have ek:A2 (2*x.K)=2*x.K:=by rw [C6]<;>omega
    obtain ⟨R,r1,r2,r3,r4⟩:=C4Q (v:=v) (hbl b b2) hs hl he hpar.2.2.1 (fun i hi=>by
     have:=(B6G _ _ _).1 (hlive i hi);omega) hvr (by omega)
    rw [b1,b2,D0Y,D0Y,ek,r1,r2];exact ⟨_,rfl,rfl,r3,r4⟩
 ·rw [H3 hv];exact ⟨_,rfl,rfl,Nat.zero_le _,Nat.zero_le _⟩
end Go.Win
namespace Go.Win
open Go.Vc Go.Dec
def sf (g:Nat->Nat):Nat->Nat->Nat
 |0,_=>0
 |k+1,i=>g i+sf g k (i+1)
theorem C19 {S R:Type} {f:S->Option (S⊕R)} (st:Nat->Int->S) (n:Nat) (g:Nat->Nat) (A:Int->Option R)
  (hs:∀(i:Nat) (b:Int),i<n->f (st i b)=some (.inl (st (i+1) (A2 (b+(g i:Int)))))) (hd:∀b,f (st n b)=Option.map Sum.inr (A b)):
  ∀(k i b:Nat),i+k=n->b+sf g k i<=4611686018427387904->loop f (st i (b:Int))=A ((b+sf g k i:Nat):Int):=by
 intro k
 induction k with
 |zero=>
  intro i b hi _;have:i=n:=by omega
  subst this;rw [O6,hd];show _=A ((b+0:Nat):Int);rw [Nat.add_zero];cases A (b:Int)<;>rfl
 |succ k ih=>
  intro i b hi hb;have hb' :b+(g i+sf g k (i+1))<=4611686018427387904:=hb;have e:A2 ((b:Int)+(g i:Int))=((b+g i:Nat):Int):=by rw [C6]<;>omega
  rw [L4 (hs i _ (by omega)),e,ih (i+1) (b+g i) (by omega) (by omega)]
  show A ((b+g i+sf g k (i+1):Nat):Int)=A ((b+(g i+sf g k (i+1)):Nat):Int);rw [Nat.add_assoc]
theorem C8c {α:Type} [Inhabited α] (l:List α) (h:α->Nat): ∀(k i:Nat),i+k=l.length->sf (fun j=>h (el l j)) k i=((l.drop i).map h).sum:=by
 intro k
 induction k with
 |zero=>intro i hi;rw [List.drop_eq_nil_of_le (by omega)];rfl
 |succ k ih=>
  intro i hi;have hlt:i<l.length:=by omega
  rw [List.drop_eq_getElem_cons hlt,D1R,List.sum_cons,<-ih (i+1) (by omega),<-A79 hlt]
  rfl
theorem B3b {α:Type} (h:α->Nat) (M:Nat): ∀l:List α,(∀x∈l,h x<=M)->(l.map h).sum<=l.length*M
 | [],_=>by simp
 |x::l,hx=>by
  have h1:=hx x (by simp)
  have h2:=B3b h M l (fun y hy=>hx y (by simp [hy]))
  rw [D1R,List.sum_cons,D1h,Nat.add_mul];omega
def B5l (l:List A9):Nat:=(l.map fun c=>c.Au.length).sum
def A7L (s:C2):Nat:=s.Aj.Ar.length+s.Ap.Ab.length+s.Sum.Ab.length+s.Al.Av.length+s.Am.Av.length+s.Bb.Ae.length+s.Aq.Bc.length+s.Ad.Ar.length+s.Af.Ao.length+s.Aa.Ag.length+s.Ak.Ah.length
theorem C7l (s:C2) (w:M8 s):B0Y s=some (decide (((A7L s+B5l s.Ak.Ah+R8 s.Aa.Ag:Nat):Int)<=200)):=by
 obtain ⟨_,w1,w2,w3,w4,w5,w6,w7,w8,w9,w10,w11⟩:=id w;have l1:=w1.2.2.2.1;have l2:=w2.2.2.2.2.1;have l3:=w3.2.2.2.2.2.1;have l4:=w4.2.2.2.2.2.2.1;have l5:=w5.2.2.2.2.2.1;have l6:=w6.2.2.2.1;have l7:=w7.2.1;have l8:=w8.2.2.2.2.1;have l9:=w9.1;have l10:=w10.2.2.2.1;have l11:=w11.2.2.2.2.1;have hL:B5l s.Ak.Ah<=s.Ak.Ah.length*1048576:=B3b _ _ _ (fun c hc=>(w9.2 c hc).2.2.2.2.1);have hE:R8 s.Aa.Ag<=s.Aa.Ag.length*1048576:=B3b _ _ _ (fun b hb=>(w11.2.2.2.2.2 b hb).2.2.2.2.1);have eb:A2 ((A2 ((A2 ((A2 ((A2 ((A2 ((A2 ((A2 ((A2 ((A2 ((s.Aj.Ar.length:Int)+(s.Ap.Ab.length:Int)))+(s.Sum.Ab.length:Int)))+(s.Al.Av.length:Int)))+(s.Am.Av.length:Int)))+(s.Bb.Ae.length:Int)))+(s.Aq.Bc.length:Int)))+(s.Ad.Ar.length:Int)))+(s.Af.Ao.length:Int)))+(s.Aa.Ag.length:Int)))+(s.Ak.Ah.length:Int))=((A7L s:Nat):Int):=by
  simp only [C4j];unfold A7L;rw [C6]<;>omega
 have h6: ∀b:Nat,b<=2199023255552->A6B s (b:Int) 0=some (decide (((b+R8 s.Aa.Ag:Nat):Int)<=200)):=by
  intro b hb;unfold A6B;have hsf:sf (fun j=>(el s.Aa.Ag j).Aw.Ac.length) s.Aa.Ag.length 0=R8 s.Aa.Ag:=by
   rw [C8c s.Aa.Ag (fun x=>x.Aw.Ac.length) s.Aa.Ag.length 0 (by omega)]
   rfl
  have:=C19 (f:=fun t:Int×Int=>A5E s t.1 t.2) (fun i b=>(b,(i:Int))) s.Aa.Ag.length (fun j=>(el s.Aa.Ag j).Aw.Ac.length) (fun b=>some (decide (b<=200)))
   (fun i b hi=>by
    simp only [];unfold A5E;rw [D03 (by omega:(i:Int)<(s.Aa.Ag.length:Int)),D02,F8 hi,D0Y,O8 hi (F3 l11)])
   (fun b=>by
    simp only [];unfold A5E;rw [D05 (D1r _),D01]) s.Aa.Ag.length 0 b (by omega) (by rw [hsf];omega)
  rw [hsf] at this;exact this
 unfold B0Y B4x;rw [eb];have hsf:sf (fun j=>(el s.Ak.Ah j).Au.length) s.Ak.Ah.length 0=B5l s.Ak.Ah:=by
  rw [C8c s.Ak.Ah (fun c=>c.Au.length) s.Ak.Ah.length 0 (by omega)]
  rfl
 have hbase:A7L s<=11*1048576:=by unfold A7L;omega
 have:=C19 (f:=fun t:Int×Int=>A5D s t.1 t.2) (fun i b=>(b,(i:Int))) s.Ak.Ah.length (fun j=>(el s.Ak.Ah j).Au.length) (fun b=>A6B s b 0)
  (fun i b hi=>by
   simp only [];unfold A5D;rw [D03 (by omega:(i:Int)<(s.Ak.Ah.length:Int)),D02,F8 hi,D0Y,O8 hi (F3 l9)])
  (fun b=>by
   simp only [];unfold A5D;rw [D05 (D1r _),D01]) s.Ak.Ah.length 0 (A7L s) (by omega) (by rw [hsf];omega)
 rw [hsf] at this;refine this.trans ?_;exact h6 _ (by omega)
theorem C69 (s:C2) (w:M8 s) (v:Int) (d:List Int) (hd:d.length<=maxLen) (hf:A7L s+B5l s.Ak.Ah+R8 s.Aa.Ag<=200): ∃r,A60 s v d=some r/\B1i s v d=some r/\lenS r.1:=by
 have hS:=C32 s w;obtain ⟨_,w1,w2,w3,w4,w5,w6,w7,w8,w9,w10,w11⟩:=id w;unfold A7L at hf;unfold A60 B1i;rw [(A0s s w).1,(A0s s w).2,D0Y,D0Y]
 by_cases hv:C1H s
 ·rw [N0 hv];simp only [D1B,D01];have fin: ∀(f:Int) (re:C8) (co:D5) (su:D9) (sm:C3) (sp:C4) (po:D3) (hn:Int) (hs:List Int) (ex:B7) (ch:List A9) (sy:A8) (qu:B8),
    lenS ⟨s.Ai,re,co,su,sm,sp,po,⟨hn,hs⟩,ex,⟨ch⟩,sy,qu⟩-> ∃r,K4 s d f re co su sm sp po hn hs ex ch sy qu=some r/\M7 s d f re co su sm sp po hn hs ex ch sy qu=some r/\lenS r.1:=by
   intro f re co su sm sp po hn hs ex ch sy qu h;have fin2: ∀f:Int,∃r,A0X s re co su sm sp po hn hs ex ch sy qu f=some r/\A3q s re co su sm sp po hn hs ex ch sy qu f=some r/\lenS r.1:=fun f=>by
    unfold A0X A3q;cases (f !=0) with
    |true=>exact ⟨_,rfl,rfl,B5e⟩
    |false=>exact ⟨_,rfl,rfl,h⟩
   unfold K4 M7;cases (((f==(0:Int))&&(s.Ai.Ax !=(9:Int)))&&(decide ((d.length:Int)>(0:Int)))) with
   |true=>exact fin2 8
   |false=>exact fin2 f
  obtain ⟨h1,h2,h3,h4,h5,h6,h7,h8,h9,h10,h11⟩:=hS;cases c1:(s.Ai.Ax==(1:Int)) with
  |true=>
   obtain ⟨r,e1,e2,e3⟩:=C8i s.Aj v h1;simp only [D02,e1,e2,D0Y];exact fin _ _ _ _ _ _ _ _ _ _ _ _ _ ⟨e3,h2,h3,h4,h5,h6,h7,h8,h9,h10,h11⟩
  |false=>
  cases c2:(s.Ai.Ax==(2:Int)) with
  |true=>
   simp only [D02,D01];have hval:(decide (v< -4096)||decide (v>4096))= !D8 v:=by
    have:=O0 v;cases hr:D8 v with
    |true=>have:=this.1 hr;rw [D05 (by omega),D05 (by omega)];rfl
    |false=>
     have hn: ¬(-4096<=v/\v<=4096):=fun h=>by rw [this.2 h] at hr;cases hr
     rw [D1b,D09,D00,D00];omega
   rw [hval];cases D8 v with
   |false=>exact ⟨_,rfl,rfl,B5e⟩
   |true=>
    obtain ⟨r,e1,e2,e3⟩:=C5J s.Ap (by omega)
    have z5:r.1.Ab.length<=1048576:=by omega
    simp only [D1a,D01,e1,e2,D0Y];exact fin _ _ _ _ _ _ _ _ _ _ _ _ _ ⟨h1,F3 z5,h3,h4,h5,h6,h7,h8,h9,h10,h11⟩
  |false=>
  cases c3:(s.Ai.Ax==(3:Int)) with
  |true=>
   obtain ⟨r,e1,e2,e3⟩:=C8l s.Sum v (by omega)
   have z5:r.1.Ab.length<=1048576:=by omega
   simp only [D02,D01,e1,e2,D0Y];exact fin _ _ _ _ _ _ _ _ _ _ _ _ _ ⟨h1,h2,F3 z5,h4,h5,h6,h7,h8,h9,h10,h11⟩
  |false=>
  cases c4:(s.Ai.Ax==(4:Int)) with
  |true=>
   obtain ⟨r,e1,e2,e3⟩:=C4s s.Al v (by omega)
   have z5:r.1.Av.length<=1048576:=by omega
   simp only [D02,D01,e1,e2,D0Y];exact fin _ _ _ _ _ _ _ _ _ _ _ _ _ ⟨h1,h2,h3,F3 z5,h5,h6,h7,h8,h9,h10,h11⟩
  |false=>
  cases c5:(s.Ai.Ax==(5:Int)) with
  |true=>
   obtain ⟨r,e1,e2,e3⟩:=C4t s.Am v (by omega)
   have z5:r.1.Av.length<=1048576:=by omega
   simp only [D02,D01,e1,e2,D0Y];exact fin _ _ _ _ _ _ _ _ _ _ _ _ _ ⟨h1,h2,h3,h4,F3 z5,h6,h7,h8,h9,h10,h11⟩
  |false=>
  cases c6:(s.Ai.Ax==(6:Int)) with
  |true=>
   obtain ⟨r,e1,e2,e3,_⟩:=C7a s.Bb v (B6P w6.2.2.2.2) (by omega)
   have z5:r.1.Ae.length<=1048576:=by omega
   simp only [D02,D01,e1,e2,D0Y];exact fin _ _ _ _ _ _ _ _ _ _ _ _ _ ⟨h1,h2,h3,h4,h5,F3 z5,h7,h8,h9,h10,h11⟩
  |false=>
  cases c7:(s.Ai.Ax==(7:Int)) with
  |true=>
   obtain ⟨r,e1,e2,e3⟩:=C5K s.Aq v (by omega)
   have z5:r.1.Bc.length<=1048576:=by omega
   simp only [D02,D01,e1,e2,D0Y];exact fin _ _ _ _ _ _ _ _ _ _ _ _ _ ⟨h1,h2,h3,h4,h5,h6,F3 z5,h8,h9,h10,h11⟩
  |false=>
  cases c8:(s.Ai.Ax==(8:Int)) with
  |true=>
   obtain ⟨r,e1,e2,e3⟩:=C2x s.Ad v (by omega)
   have z5:r.1.Ar.length<=1048576:=by omega
   simp only [D02,D01,e1,e2,D0Y];exact fin _ _ _ _ _ _ _ _ _ _ _ _ _ ⟨h1,h2,h3,h4,h5,h6,h7,F3 z5,h9,h10,h11⟩
  |false=>
  cases c9:(s.Ai.Ax==(9:Int)) with
  |true=>
   obtain ⟨r,e1,e3,e4⟩:=C2w s.Ak v d h9.1 h9.2 hd;have z5:r.1.Ah.length<=1048576:=by omega
   have e2:=C68 s.Ak v d h9.1 h9.2 hd;rw [e1] at e2;simp only [D02,D01,e1,<-e2,D0Y];exact fin _ _ _ _ _ _ _ _ _ _ _ _ _ ⟨h1,h2,h3,h4,h5,h6,h7,h8,⟨F3 z5,e4⟩,h10,h11⟩
  |false=>
  cases c10:(s.Ai.Ax==(10:Int)) with
  |true=>
   obtain ⟨r,e1,e2,e3⟩:=C2y s.Af v (by omega)
   have z5:r.1.Ao.length<=1048576:=by omega
   simp only [D02,D01,e1,e2,D0Y];exact fin _ _ _ _ _ _ _ _ _ _ _ _ _ ⟨h1,h2,h3,h4,h5,h6,h7,h8,h9,F3 z5,h11⟩
  |false=>
  cases c11:(s.Ai.Ax==(11:Int)) with
  |true=>
   obtain ⟨r,e1,e2,e3,e4⟩:=C0f s.Aa v ⟨w11.2.2.2.2.1,fun x hx=>(w11.2.2.2.2.2 x hx).2.2.2.2.1⟩ (by omega) (by omega)
   have z5:r.1.Ag.length<=1048576:=by omega
   simp only [D02,D01,e1,e2,D0Y];exact fin _ _ _ _ _ _ _ _ _ _ _ _ _ ⟨h1,h2,h3,h4,h5,h6,h7,h8,h9,h10,F3 z5,fun b hb=>F3 (by have:b.Aw.Ac.length<=R8 r.1.Ag:=C7j hb;omega)⟩
  |false=>
   simp only [D01];exact fin _ _ _ _ _ _ _ _ _ _ _ _ _ ⟨h1,h2,h3,h4,h5,h6,h7,h8,h9,h10,h11⟩
 ·rw [H3 hv];exact ⟨_,rfl,rfl,B5e⟩
theorem C41 (s:C2) (w:M8 s) (v:Int) (d:List Int) (hd:d.length<=maxLen): ∃r,A43 s v d=some r/\A7Z s v d=some r:=by
 have hS:=C32 s w;have h9:=hS.2.2.2.2.2.2.2.2.1;obtain ⟨r,e1⟩:=B9L s.Ak v d h9.1 h9.2 hd;have e2:=C40 s.Ak v d h9.1 h9.2 hd;rw [e1] at e2;unfold A43 A7Z;rw [(A0s s w).1,(A0s s w).2,e1,<-e2];cases (s.Ai.Ax !=(9:Int)) with
 |true=>simp [gd]
 |false=>
  simp only [D1b,gd,D02,D0Y,D1p,Bool.or_false];cases (vOf (C1H s) !=0) with
  |true=>exact ⟨_,rfl,rfl⟩
  |false=>exact ⟨_,rfl,rfl⟩
theorem B1E (p0:C2) (p1:Int) (p2:List Int) (w0:M8 p0) (_:E7 .i64 p1) (w2:W2 (E7 .i64) p2):A5c p0 p1 p2=some true:=by
 unfold A5c;rw [C7l p0 w0,D0Y,C8o]
 by_cases hf:A7L p0+B5l p0.Ak.Ah+R8 p0.Aa.Ag<=200
 ·obtain ⟨r,e1,e2,e3⟩:=C69 p0 w0 p1 p2 (F3 w2.1) hf;obtain ⟨q,n1,n2⟩:=C41 p0 w0 p1 p2 (F3 w2.1);rw [e1,e2,n1,n2];cases ((!decide (((A7L p0+B5l p0.Ak.Ah+R8 p0.Aa.Ag:Nat):Int)<=200))||decide ((p2.length:Int)>100)) with
  |true=>rfl
  |false=>simp [C3o _ e3,gd]
 ·rw [D05 (by omega)]
  rfl
end Go.Win
