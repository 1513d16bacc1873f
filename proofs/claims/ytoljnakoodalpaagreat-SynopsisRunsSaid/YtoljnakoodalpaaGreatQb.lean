/- Plain laws of the functions on plain data. -/
import Derived.Test.YtoljnakoodalpaaGreatQa
set_option linter.unusedVariables false
set_option linter.unusedSimpArgs false
set_option linter.unnecessarySimpa false
set_option linter.unusedSectionVars false
namespace Go.Win
open Go.Vc Go.Dec
theorem A6X {n:Int} (t:Int) (h:0<=n/\n<=16777216):(O8 n t).2=B0c n t:=by
 have ht:A2b n=true:=by
  show A40 n=true;unfold A40;simp only [D3k,D3e];omega
 unfold O8 B0c;simp only [ht,D3o,D3f];cases (decide (t<n)||decide (t>16777216))<;>rfl
theorem B7D (n w:Int):U3 n w=N0 n w:=by
 unfold U3 N0 K3 E7;have e:A2b n=(decide (n>=0)&&decide (n<=16777216)):=rfl;simp only [e];have:((!(decide (n>=0)&&decide (n<=16777216))||decide (w<1))||decide (w>1048576))=(!(decide (n>=0)&&decide (n<=16777216))|| !(decide (w>=1)&&decide (w<=1048576))):=by
  by_cases h1:w<1
  ·simp [h1,show¬w>=1 by omega]
  ·by_cases h2:w>1048576
   ·simp [h2,show¬w<=1048576 by omega]
   ·simp [h1,h2,show w>=1 by omega,show w<=1048576 by omega]
 rw [this]
theorem A62 {α R:Type} {f:List α->Option (List α⊕R)} (p:α->Bool) (A:List α->Option R)
  (hs:∀x l,p x=true->f (x::l)=some (.inl l)) (hd:∀x l,p x=false->f (x::l)=Option.map Sum.inr (A (x::l))) (hn:f []=Option.map Sum.inr (A [])):
  ∀l,loop f l=A (l.dropWhile p)
 | []=>by
  rw [R1,hn];show _=A [];cases A []<;>rfl
 |x::l=>by
  cases h:p x with
  |true=>rw [M3 (hs x l h),A62 p A hs hd hn l,List.dropWhile_cons,h];rfl
  |false=>
   rw [R1,hd x l h,List.dropWhile_cons,h];show _=A (x::l);cases A (x::l)<;>rfl
theorem A73 {α:Type} {p:α->Bool} {l:List α} {x:α} (h:x∈l.dropWhile p):x∈l:=(List.dropWhile_sublist p).subset h
theorem A6I {α:Type} (p:α->Bool) (l:List α):(l.dropWhile p).length<=l.length:=(List.dropWhile_sublist p).length_le
theorem A0Y {α:Type} (x:α) (l:List α):D0 (x::l) 0=some x:=rfl
theorem A30 {α:Type} (x:α) (l:List α):decide (((x::l).length:Int)>0)=true:=by rw [D3e,D3v];omega
theorem C28 {l:List A3} (hl:l.length<=1048576) (f:Int):A2Z l f=some (l.dropWhile fun x=>decide (x.T<f))/\B5m l f=some (l.dropWhile fun x=>decide (x.T<f)):=by
 have hd:=A6I (fun x:A3=>decide (x.T<f)) l;constructor
 ·unfold A2Z A9G;rw [A62 (fun x:A3=>decide (x.T<f)) (fun v=>ck (decide ((([]:List A3).length+v.length)*16<=140737488355328)) (some v))]
  ·rw [O1 (by rw [D3e,D3I];omega)]
  ·intro x l h;unfold A16;rw [A30,E4,A0Y,D3c,h,Bool.and_self,D3g,O1 (by rw [D3e,D3v];omega)]
   rfl
  ·intro x l h;unfold A16;rw [A30,E4,A0Y,D3c,h,Bool.and_false,D3f,List.nil_append]
  ·unfold A16
   rfl
 ·unfold B5m B1W;rw [A62 (fun x:A3=>decide (x.T<f)) (fun v=>some v)]
  ·intro x l h;unfold A6N;rw [A30,E4,A0Y,D3c,h,Bool.and_self,D3g,O1 (by rw [D3e,D3v];omega)]
   rfl
  ·intro x l h;unfold A6N;rw [A30,E4,A0Y,D3c,h,Bool.and_false,D3f]
  ·rfl
theorem C9f {l:List A6} (hl:l.length<=1048576) (f:Int):A6e l f=some (l.dropWhile fun x=>decide (x.T<f))/\B5B l f=some (l.dropWhile fun x=>decide (x.T<f)):=by
 have hd:=A6I (fun x:A6=>decide (x.T<f)) l;constructor
 ·unfold A6e B0E;rw [A62 (fun x:A6=>decide (x.T<f)) (fun v=>ck (decide ((([]:List A6).length+v.length)*56<=140737488355328)) (some v))]
  ·rw [O1 (by rw [D3e,D3I];omega)]
  ·intro x l h;unfold A2J;rw [A30,E4,A0Y,D3c,h,Bool.and_self,D3g,O1 (by rw [D3e,D3v];omega)]
   rfl
  ·intro x l h;unfold A2J;rw [A30,E4,A0Y,D3c,h,Bool.and_false,D3f,List.nil_append]
  ·unfold A2J
   rfl
 ·unfold B5B B10;rw [A62 (fun x:A6=>decide (x.T<f)) (fun v=>some v)]
  ·intro x l h;unfold A6P;rw [A30,E4,A0Y,D3c,h,Bool.and_self,D3g,O1 (by rw [D3e,D3v];omega)]
   rfl
  ·intro x l h;unfold A6P;rw [A30,E4,A0Y,D3c,h,Bool.and_false,D3f]
  ·rfl
noncomputable def A1I (n w:Int):List A4->List A4
 | []=> []
 | [x]=>if E0 n w x.T then [x] else []
 |x::y::l=>if E0 n w y.T then x::y::l else A1I n w (y::l)
theorem B4R (n w:Int): ∀l,(A1I n w l).length<=l.length
 | []=>D3U _
 | [x]=>by unfold A1I;split<;>simp
 |x::y::l=>by
  unfold A1I;split
  ·exact D3U _
  ·have:=B4R n w (y::l);rw [D3v];omega
theorem B5c (n w:Int): ∀ {l:List A4},l.length<=1048576->A1A n w l=some (A1I n w l)/\A6r n w l=some (A1I n w l)
 | [],_=>by
  unfold A1A A6r;exact ⟨G9 rfl,G9 rfl⟩
 | [x],_=>by
  have i1:gd (decide (((([x]:List A4).length:Nat):Int)>1)) (D0 [x] 1)=some default:=rfl;have i2:(((([x]:List A4).length:Nat):Int)==1)=true:=rfl;have i3:decide (((([x]:List A4).length:Nat):Int)>1)=false:=rfl;unfold A1A A6r A1I;constructor
  ·refine G9 ?_;unfold A2O;rw [i1,D3c,i2,E4,A0Y];simp only [i3,D3H,D3f,D3N,D3c,A1V];cases E0 n w x.T<;>rfl
  ·refine G9 ?_;unfold A5k;rw [i1,D3c,i2,E4,A0Y];simp only [i3,D3H,D3f,D3N,D3c];cases E0 n w x.T<;>rfl
 |x::y::l,hl=>by
  have g:decide (((x::y::l).length:Int)>1)=true:=by rw [D3e,D3v,D3v];omega
  have g2:(((x::y::l).length:Int)==1)=false:=by rw [D32,D3v,D3v];omega
  have i1:D0 (x::y::l) 1=some y:=rfl;have hk:decide (0<=(1:Int)/\(1:Int)<=((x::y::l).length:Int))=true:=by rw [D3e,D3v];omega
  obtain ⟨r1,r2⟩:=B5c n w (l:=y::l) (by rw [D3v] at hl;omega)
  unfold A1A at r1⊢;unfold A6r at r2⊢;unfold A1I;cases h:E0 n w y.T with
  |true=>
   constructor
   ·refine G9 ?_;unfold A2O;rw [g,E4,i1,D3c,g2,E9];simp only [A1V,h,D3o,Bool.and_false,D3f,D3c,D3H,List.nil_append];rw [O1 (by rw [D3e,D3I];omega)]
    rfl
   ·refine G9 ?_;unfold A5k;rw [g,E4,i1,D3c,g2,E9];simp only [h,D3o,Bool.and_false,D3f,D3c,D3H]
    rfl
  |false=>
   constructor
   ·rw [if_neg (by decide),<-r1]
    refine M3 ?_;unfold A2O;rw [g,E4,i1,D3c];simp only [A1V,h,D3p,Bool.and_self,D3g];rw [O1 hk]
    rfl
   ·rw [if_neg (by decide),<-r2]
    refine M3 ?_;unfold A5k;rw [g,E4,i1,D3c];simp only [h,D3p,Bool.and_self,D3g];rw [O1 hk]
    rfl
theorem C9p {a:Int} {b:Nat} (h:0<=a):L5 a (b:Int)=((min a.toNat b:Nat):Int):=by
 show (if (b:Int)<a then (b:Int) else a)=_
 split<;>omega
def A7q (l:List Int) (d:Nat):List Int:=List.replicate (min d l.length) 0++l.take (l.length-min d l.length)
theorem B5e (l:List Int) (d:Nat):(A7q l d).length=l.length:=by
 unfold A7q;rw [D3i,D4d,D3E];omega
theorem C8f (l:List Int) (d j:Nat) (hj:j<l.length):(A7q l d)[j]? =some (if d<=j then l.getD (j-d) 0 else 0):=by
 unfold A7q
 by_cases h:d<=j
 ·rw [if_pos h,D3C (by rw [D4d];omega),D4d,show min d l.length=d by omega,List.getElem?_take_of_lt (by omega),D3q (by omega)]
  rw [D38,D3q (by omega)]
  rfl
 ·rw [if_neg h,D3B (by rw [D4d];omega),List.getElem?_replicate,if_pos (by omega)]
end Go.Win
namespace Go.Win
open Go.Vc Go.Dec
end Go.Win
namespace Go.Win
open Go.Vc Go.Dec
def A20 (l:List B0) (n:Int) (j:Nat):Prop:=(D7 l (j+1)).Be+(D7 l j).Bf<2*n
def A38 (e:B0) (n:Int):Int:=P8 (n-e.Bf) (e.Be-n)
theorem D00 (a b:Int):a<=P8 a b/\b<=P8 a b:=by
 show a<=(if b>a then b else a)/\b<=(if b>a then b else a)
 split<;>omega
theorem D0Q {a b c:Int}:P8 a b<c↔a<c/\b<c:=by
 show (if b>a then b else a)<c↔_
 split<;>omega
section
variable {l:List B0} {N:Int} (h:Y0 l N)
include h
theorem A8Z: ∀ {i j:Nat},i<j->j<l.length->(D7 l i).V<=(D7 l j).V/\(D7 l i).Bf<(D7 l j).Bf/\(D7 l i).Be<(D7 l j).Be:=by
 intro i j hij hj
 induction j with
 |zero=>omega
 |succ j ih=>
  have h1:=h.up j hj;rcases Nat.lt_or_ge i j with hlt|hge
  ·have:=ih hlt (by omega)
   omega
  ·have:i=j:=by omega
   subst this;exact h1
theorem B3n {n:Int} {j:Nat} (hj:j+1<l.length):A20 l n j↔A38 (D7 l (j+1)) n<A38 (D7 l j) n:=by
 have h1:=h.up j hj;have h2:=D00 (n-(D7 l j).Bf) ((D7 l j).Be-n);unfold A20 A38;rw [D0Q];constructor
 ·intro hc;omega
 ·rintro ⟨g1,g2⟩
  by_cases hm:P8 (n-(D7 l j).Bf) ((D7 l j).Be-n)<=n-(D7 l j).Bf
  ·omega
  ·have:P8 (n-(D7 l j).Bf) ((D7 l j).Be-n)=(D7 l j).Be-n:=by
    show (if _>_ then _ else _)=_
    split
    ·rfl
    ·rename_i hh;exfalso;apply hm;show (if _>_ then _ else _)<=_
     rw [if_neg hh];omega
   omega
theorem C0x {n:Int} {j k:Nat} (hjk:j<=k) (hk:k+1<l.length) (hc:A20 l n k):A20 l n j:=by
 rcases Nat.lt_or_ge j k with hlt|hge
 ·have h1:=A8Z h hlt (by omega)
  have h2:=A8Z h (show j+1<k+1 by omega) hk
  unfold A20 at hc⊢;omega
 ·have:j=k:=by omega
  subst this;exact hc
omit h in
theorem C5x {n n' :Int} {j:Nat} (hn:n<=n') (hc:A20 l n j):A20 l n' j:=by
 unfold A20 at hc⊢;omega
structure A4R (l:List B0) (n:Int) (k:Nat):Prop where
 lt:k<l.length
 low: ∀j,j<k->A20 l n j
 stop:k+1<l.length-> ¬A20 l n k
omit h in
theorem A7v {n:Int} {k k' :Nat} (hk:A4R l n k) (hk':A4R l n k'):k=k' :=by
 rcases Nat.lt_trichotomy k k' with hlt|rfl|hgt
 ·exact absurd (hk'.low k hlt) (hk.stop (by have:=hk'.lt;omega))
 ·rfl
 ·exact absurd (hk.low k' hgt) (hk'.stop (by have:=hk.lt;omega))
omit h in
theorem C64 {n n' :Int} {k k' :Nat} (hn:n<=n') (hk:A4R l n k) (hk':A4R l n' k'):k<=k' :=by
 rcases Nat.lt_or_ge k' k with hlt|hge
 ·exact absurd (C5x hn (hk.low k' hlt)) (hk'.stop (by have:=hk.lt;omega))
 ·exact hge
theorem B2l {n:Int} (hn:1<=n/\n<=N) {i:Nat} (hi:i<l.length):A6M (D7 l i) n=A38 (D7 l i) n:=by
 have h1:=h.rng i hi;have h2:=h.n1;unfold A6M A38;rw [A7 (by omega) (by omega),A7 (by omega) (by omega)]
theorem B1T {n:Int} (hn:1<=n/\n<=N) (hl:l.length<=1048576) {f:Nat} (hf:f<l.length) (hlow:∀j,j<f->A20 l n j): ∃k,f<=k/\A4R l n k/\A5a l n (f:Int)=some (k:Int):=by
 have hm:l.length<=maxLen:=by rw [F8];omega
 unfold A5a B4f;obtain ⟨r,hr,k,h1,h2,hQ⟩:=T8 (f:=fun s:Int=>A8e l n s)
  (fun s=> ∃k:Nat,f<=k/\k<l.length/\(∀j,j<k->A20 l n j)/\s=(k:Int))
  (fun s=>l.length-s.toNat) (fun r=> ∃k,f<=k/\A4R l n k/\r=(k:Int)) (f:Int) ⟨f,D3U _,hf,hlow,rfl⟩ (by
   rintro _ ⟨k,hfk,hk,hlw,rfl⟩;unfold A8e;have e1:A2 ((k:Int)+1)=((k+1:Nat):Int):=by rw [F8] at hm;rw [A7]<;>omega
   rw [e1]
   by_cases hlt:k+1<l.length
   ·rw [D3h (by omega:((k+1:Nat):Int)<(l.length:Int)),E4,E4,P7 hlt,P7 hk]
    simp only [D3c,D3N];rw [B2l h hn hlt,B2l h hn hk]
    by_cases hc:A20 l n k
    ·left;rw [D3h ((B3n h hlt).1 hc),D3g];refine ⟨_,rfl,⟨k+1,by omega,hlt,fun j hj=> ?_,rfl⟩,by show l.length-(((k+1:Nat):Int)).toNat<l.length-(k:Int).toNat;omega⟩
     exact C0x h (by omega) hlt hc
    ·right;rw [D3j (fun hx=>hc ((B3n h hlt).2 hx)),D3f];exact ⟨_,rfl,k,hfk,⟨hk,hlw,fun _=>hc⟩,rfl⟩
   ·right;rw [D3j (by omega: ¬((k+1:Nat):Int)<(l.length:Int))]
    simp only [E9,D3c,D3H,D3f];exact ⟨_,rfl,k,hfk,⟨hk,hlw,fun hx=>absurd hx hlt⟩,rfl⟩)
 exact ⟨k,h1,h2,by rw [hr,hQ]⟩
theorem D0L {n:Int} {k:Nat} (hk:k<l.length) (hlow:∀j,j<k->A20 l n j): ∀j,j<k->A38 (D7 l k) n<A38 (D7 l j) n:=by
 intro j hj
 induction k with
 |zero=>omega
 |succ k ih=>
  have h1:=(B3n h hk).1 (hlow k (by omega))
  rcases Nat.lt_or_ge j k with hlt|hge
  ·have:=ih (by omega) (fun j hj=>hlow j (by omega)) hlt
   omega
  ·have:j=k:=by omega
   subst this;exact h1
theorem C9g {n:Int} {k:Nat} (hstop:k+1<l.length-> ¬A20 l n k): ∀j,k<=j->j<l.length->A38 (D7 l k) n<=A38 (D7 l j) n:=by
 intro j hkj hj
 induction j with
 |zero=>have:k=0:=by omega
        subst this;exact Int.le_refl _
 |succ j ih=>
  rcases Nat.lt_or_ge k (j+1) with hlt|hge
  ·have h1:=ih (by omega) (by omega)
   have h2: ¬A20 l n j:=fun hc=>hstop (by omega) (C0x h (by omega) hj hc)
   have h3: ¬A38 (D7 l (j+1)) n<A38 (D7 l j) n:=fun hx=>h2 ((B3n h hj).2 hx);omega
  ·have:k=j+1:=by omega
   subst this;exact Int.le_refl _
theorem B5F {n:Int} (hn:1<=n/\n<=N) (hl:l.length<=1048576) {k:Nat} (hk:A4R l n k):B1Z l n=some (k:Int):=by
 have hm:l.length<=maxLen:=by rw [F8];omega
 have h0:0<l.length:=by have:=hk.lt;omega
 have fr: ∀i,i<l.length->P8 (A2 (n-(D7 l i).Bf)) (A2 ((D7 l i).Be-n))=A38 (D7 l i) n:=fun i hi=>B2l h hn hi;unfold B1Z B5y;obtain ⟨r,hr,hQ⟩:=T8 (f:=fun s:Int×Int=>A9z l n s.1 s.2)
  (fun s=> ∃b i:Nat,i<=l.length/\b<l.length/\(∀j,j<i->A38 (D7 l b) n<=A38 (D7 l j) n)/\(∀j,j<b->A38 (D7 l b) n<A38 (D7 l j) n)/\s=((b:Int),(i:Int)))
  (fun s=>l.length-s.2.toNat) (fun r=>r=(k:Int)) (0,0) ⟨0,0,Nat.zero_le _,h0,fun j hj=>by omega,fun j hj=>by omega,rfl⟩ (by
   rintro _ ⟨b,i,hi,hb,h1,h2,rfl⟩;simp only;unfold A9z
   by_cases hlt:i<l.length
   ·left;simp only [Int.ofNat_lt,hlt,decide_true,D3g,P7 hlt,P7 hb,D3c,N7 hlt hm];rw [fr i hlt,fr b hb]
    by_cases hc:A38 (D7 l i) n<A38 (D7 l b) n
    ·rw [D3h hc,D3g];refine ⟨_,rfl,⟨i,i+1,hlt,hlt,fun j hj=> ?_,fun j hj=> ?_,rfl⟩,by show l.length-((i:Int)+1).toNat<l.length-(i:Int).toNat;omega⟩
     ·rcases Nat.lt_or_ge j i with g|g
      ·have:=h1 j g;omega
      ·have:j=i:=by omega
       subst this;exact Int.le_refl _
     ·have:=h1 j hj;omega
    ·rw [D3j hc,D3f];refine ⟨_,rfl,⟨b,i+1,hlt,hb,fun j hj=> ?_,h2,rfl⟩,by show l.length-((i:Int)+1).toNat<l.length-(i:Int).toNat;omega⟩
     rcases Nat.lt_or_ge j i with g|g
     ·exact h1 j g
     ·have:j=i:=by omega
      subst this;omega
   ·right;have hi2:i=l.length:=by omega
    subst hi2;rw [D3j (by omega),D3f]
    refine ⟨_,rfl, ?_⟩;have g1:=D0L h hk.lt hk.low;have g2:=C9g h hk.stop;rcases Nat.lt_trichotomy b k with hbk|rfl|hbk
    ·have a1:=g1 b hbk;have a2:=h1 k hk.lt;omega
    ·rfl
    ·have a1:=h2 k hbk;have a2:=g2 b (by omega) hb
     omega)
 rw [hr,hQ]
omit h in
theorem A76: ∀m:Nat,1<=A0K l m/\ ∀i,1<=i->i<m->(D7 l i).Be-(D7 l (i-1)).Bf<=A0K l m:=by
 intro m
 induction m with
 |zero=>exact ⟨Int.le_refl _,fun i _ hi=>by omega⟩
 |succ m ih=>
  unfold A0K
  by_cases h0:m=0
  ·rw [if_pos h0];exact ⟨Int.le_refl _,fun i _ hi=>by omega⟩
  ·rw [if_neg h0];refine ⟨by split<;>omega,fun i h1 hi=> ?_⟩
   rcases Nat.lt_or_ge i m with hlt|hge
   ·have:=ih.2 i h1 hlt;split<;>omega
   ·have:i=m:=by omega
    subst this;split<;>omega
theorem B8T {n:Int} (hn:1<=n/\n<=N) {k:Nat} (hk:A4R l n k):2*(n-(D7 l k).Bf)<=P2 l/\2*((D7 l k).Be-n)<=P2 l:=by
 have hlt:=hk.lt;have hg:P2 l=A0K l l.length:=by unfold P2;rw [if_neg (by omega)]
 obtain ⟨g1,g2⟩:=A76 (l:=l) l.length;rw [hg];constructor
 ·by_cases h1:k+1<l.length
  ·have hc:=hk.stop h1;have:=g2 (k+1) (by omega) h1
   rw [D3T] at this;unfold A20 at hc;omega
  ·have hl:=h.last (by omega)
   rw [show l.length-1=k by omega] at hl
   omega
 ·by_cases h1:0<k
  ·have hc:=hk.low (k-1) (by omega)
   have:=g2 k (by omega) hlt
   unfold A20 at hc;rw [show k-1+1=k by omega] at hc
   omega
  ·have hk0:k=0:=by omega
   subst hk0;have hf:=h.first (by omega)
   omega
end
theorem B6L {l:List B0} {N n:Int} (h:Y0 l N) (hn:1<=n/\n<=N) (hl:l.length<=1048576): ∃k,A4R l n k/\A5a l n 0=some (k:Int)/\B1Z l n=some (k:Int):=by
 have h0:0<l.length:=by
  rcases Nat.eq_zero_or_pos l.length with h0|h0
  ·have:=h.nil.1 h0;omega
  ·exact h0
 obtain ⟨k,_,h2,h3⟩:=B1T h hn hl h0 (fun j hj=>by omega)
 exact ⟨k,h2,h3,B5F h hn hl h2⟩
theorem C9m {l:List B0} {N:Int} (h:Y0 l N) (h0:0<l.length): ∀m,m<=l.length->A0K l m<=N:=by
 have hN:1<=N:=by have:=h.rng 0 h0;omega
 intro m
 induction m with
 |zero=>intro _;exact hN
 |succ m ih=>
  intro hm;unfold A0K
  by_cases hm0:m=0
  ·rw [if_pos hm0];exact hN
  ·rw [if_neg hm0];have h1:=h.rng m (by omega)
   have h2:=h.rng (m-1) (by omega)
   have:=ih (by omega)
   split<;>omega
end Go.Win
namespace Go.Win
open Go.Vc Go.Dec
theorem C8B {m n:Nat} (h:m<=n):(2:Int)^n=2^m*2^(n-m):=by
 rw [<-Int.pow_add,show m+(n-m)=n by omega]
end Go.Win
namespace Go.Win
open Go.Vc Go.Dec
end Go.Win
namespace Go.Win
open Go.Vc Go.Dec
def N9 (l:List B0) (m:Nat):Int:=if m=0 then 0 else (D7 l (m-1)).Bf
def P3 (l:List B0) (N:Int) (m:Nat):Int:=if m<l.length then (D7 l m).Be-1 else N
theorem A7i {l:List B0} {N:Int} (h:Y0 l N) {m:Nat} (h1:m<=l.length):0<=N9 l m/\N9 l m<=P3 l N m/\P3 l N m<=N:=by
 have n0:=h.n0;unfold N9 P3
 by_cases hm0:m=0
 ·subst hm0;rw [if_pos rfl]
  by_cases hl:0<l.length
  ·rw [if_pos hl,h.first hl];have:=h.rng 0 hl;omega
  ·rw [if_neg hl];omega
 ·rw [if_neg hm0];have g1:=h.rng (m-1) (by omega)
  by_cases hl:m<l.length
  ·rw [if_pos hl];have g2:=h.rng m hl;have g3:=h.up (m-1) (by omega)
   rw [show m-1+1=m by omega] at g3
   omega
  ·rw [if_neg hl];omega
end Go.Win
namespace Go.Win
open Go.Vc Go.Dec
def tk (A B:List B0) (p:Nat×Nat):Bool:=decide (p.2=B.length)||(decide (p.1<A.length)&&decide ((D7 A p.1).V<=(D7 B p.2).V))
def S5 (A B:List B0) (p:Nat×Nat):Nat×Nat:=cond (tk A B p) (p.1+1,p.2) (p.1,p.2+1)
def F9 (A B:List B0):Nat->Nat×Nat
 |0=>(0,0)
 |k+1=>S5 A B (F9 A B k)
def me (A B:List B0) (a b:Int) (k:Nat):B0:=
 ⟨cond (tk A B (F9 A B k)) (D7 A (F9 A B k).1).V (D7 B (F9 A B k).2).V,
  N9 A (F9 A B (k+1)).1+N9 B (F9 A B (k+1)).2,P3 A a (F9 A B k).1+P3 B b (F9 A B k).2+1⟩
def meL (A B:List B0) (a b:Int) (n:Nat):List B0:=(List.range n).map (me A B a b)
theorem K2 (A B:List B0) (a b:Int) (n:Nat):(meL A B a b n).length=n:=by unfold meL;simp
theorem C3z (A B:List B0) (a b:Int) (n:Nat):meL A B a b (n+1)=meL A B a b n++ [me A B a b n]:=by
 unfold meL;rw [List.range_succ,D4b]
 rfl
theorem A3a (A B:List B0) (a b:Int) {n i:Nat} (h:i<n):D7 (meL A B a b n) i=me A B a b i:=by
 unfold D7 meL;rw [D38,D3L,List.getElem?_range h]
 rfl
theorem A3q {A B:List B0} {p:Nat×Nat} (h1:p.1<=A.length) (_:p.2<=B.length) (h3:p.1+p.2<A.length+B.length) (h:tk A B p=true):
  p.1<A.length/\(p.2<B.length->(D7 A p.1).V<=(D7 B p.2).V):=by
 unfold tk at h;simp only [D3n,D3k,D3e] at h;rcases h with h|⟨h4,h5⟩
 ·exact ⟨by omega,fun g=>by omega⟩
 ·exact ⟨h4,fun _=>h5⟩
theorem A1F {A B:List B0} {p:Nat×Nat} (h2:p.2<=B.length) (h:tk A B p=false):
  p.2<B.length/\(p.1<A.length->(D7 B p.2).V<(D7 A p.1).V):=by
 unfold tk at h;simp only [D3M,D33,D3t] at h;obtain ⟨h4,h5⟩:=h;refine ⟨by omega,fun g=> ?_⟩
 rcases h5 with h5|h5
 ·exact absurd g h5
 ·omega
theorem A6n (A B:List B0): ∀k,k<=A.length+B.length->(F9 A B k).1<=A.length/\(F9 A B k).2<=B.length/\(F9 A B k).1+(F9 A B k).2=k:=by
 intro k
 induction k with
 |zero=>intro _;exact ⟨Nat.zero_le _,Nat.zero_le _,rfl⟩
 |succ k ih=>
  intro hk;obtain ⟨i1,i2,i3⟩:=ih (by omega)
  show (S5 A B (F9 A B k)).1<=_/\(S5 A B (F9 A B k)).2<=_/\(S5 A B (F9 A B k)).1+(S5 A B (F9 A B k)).2=_;unfold S5;cases ht:tk A B (F9 A B k) with
  |true=>
   have:=(A3q i1 i2 (by omega) ht).1
   simp only [D3g];omega
  |false=>
   have:=(A1F i2 ht).1;simp only [D3f];omega
theorem C8F {A B:List B0} {a b:Int} (hA:Y0 A a) (hB:Y0 B b): ∀k,k<=A.length+B.length->
  (∀j,j<(F9 A B k).2->(F9 A B k).1<A.length->(D7 B j).V<(D7 A (F9 A B k).1).V)/\
  (∀i,i<(F9 A B k).1->(F9 A B k).2<B.length->(D7 A i).V<=(D7 B (F9 A B k).2).V):=by
 intro k
 induction k with
 |zero=>intro _;exact ⟨fun j hj=>absurd hj (Nat.not_lt_zero _),fun i hi=>absurd hi (Nat.not_lt_zero _)⟩
 |succ k ih=>
  intro hk;obtain ⟨i1,i2,i3⟩:=A6n A B k (by omega)
  obtain ⟨j1,j2⟩:=ih (by omega)
  rw [show F9 A B (k+1)=S5 A B (F9 A B k) from rfl];unfold S5;cases ht:tk A B (F9 A B k) with
  |true=>
   obtain ⟨t1,t2⟩:=A3q i1 i2 (by omega) ht
   simp only [D3g];refine ⟨fun j hj hl=> ?_,fun i hi hl=> ?_⟩
   ·have g1:=j1 j hj t1;have g2:=(hA.up (F9 A B k).1 hl).1;omega
   ·rcases Nat.lt_or_ge i (F9 A B k).1 with g|g
    ·exact j2 i g hl
    ·have:i=(F9 A B k).1:=by omega
     rw [this];exact t2 hl
  |false=>
   obtain ⟨t1,t2⟩:=A1F i2 ht;simp only [D3f];refine ⟨fun j hj hl=> ?_,fun i hi hl=> ?_⟩
   ·rcases Nat.lt_or_ge j (F9 A B k).2 with g|g
    ·exact j1 j g hl
    ·have:j=(F9 A B k).2:=by omega
     rw [this];exact t2 hl
   ·have g1:=j2 i hi t1;have g2:=(hB.up (F9 A B k).2 hl).1;omega
theorem B54 {A B:List B0} {a b:Int} {k:Nat} (hk:k<A.length+B.length) (ht:tk A B (F9 A B k)=true):
  me A B a b k=⟨(D7 A (F9 A B k).1).V,(D7 A (F9 A B k).1).Bf+N9 B (F9 A B k).2,(D7 A (F9 A B k).1).Be+P3 B b (F9 A B k).2⟩:=by
 obtain ⟨i1,i2,i3⟩:=A6n A B k (by omega)
 obtain ⟨t1,_⟩:=A3q i1 i2 (by omega) ht
 unfold me;rw [show F9 A B (k+1)=S5 A B (F9 A B k) from rfl];unfold S5;rw [ht];simp only [D3g];have e1:N9 A ((F9 A B k).1+1)=(D7 A (F9 A B k).1).Bf:=by unfold N9;rw [if_neg (by omega),D3T]
 have e2:P3 A a (F9 A B k).1=(D7 A (F9 A B k).1).Be-1:=by unfold P3;rw [if_pos t1]
 rw [e1,e2]
 congr 1
 omega
theorem B3G {A B:List B0} {a b:Int} {k:Nat} (hk:k<A.length+B.length) (ht:tk A B (F9 A B k)=false):
  me A B a b k=⟨(D7 B (F9 A B k).2).V,(D7 B (F9 A B k).2).Bf+N9 A (F9 A B k).1,(D7 B (F9 A B k).2).Be+P3 A a (F9 A B k).1⟩:=by
 obtain ⟨i1,i2,i3⟩:=A6n A B k (by omega)
 obtain ⟨t1,_⟩:=A1F i2 ht;unfold me;rw [show F9 A B (k+1)=S5 A B (F9 A B k) from rfl];unfold S5;rw [ht];simp only [D3f];have e1:N9 B ((F9 A B k).2+1)=(D7 B (F9 A B k).2).Bf:=by unfold N9;rw [if_neg (by omega),D3T]
 have e2:P3 B b (F9 A B k).2=(D7 B (F9 A B k).2).Be-1:=by unfold P3;rw [if_pos t1]
 rw [e1,e2]
 congr 1<;>omega
theorem C1d {l:List B0} {N:Int} (h:Y0 l N) (h0:0<l.length) {i:Nat} (hi:i<=l.length):P3 l N i-N9 l i<=P2 l-1:=by
 have hg:P2 l=A0K l l.length:=by unfold P2;rw [if_neg (by omega)]
 obtain ⟨g1,g2⟩:=A76 (l:=l) l.length;rw [hg];unfold P3 N9
 by_cases hi0:i=0
 ·subst hi0;rw [if_pos h0,if_pos rfl,h.first h0];omega
 ·rw [if_neg hi0]
  by_cases hl:i<l.length
  ·rw [if_pos hl];have:=g2 i (by omega) hl
   omega
  ·rw [if_neg hl];have hl2:=h.last h0;rw [show i-1=l.length-1 by omega,hl2]
   omega
theorem C8a {A B:List B0} {a b:Int} (hA:Y0 A a) (hB:Y0 B b) (a0:0<A.length) (b0:0<B.length):
  ∀m,m<=A.length+B.length->A0K (meL A B a b (A.length+B.length)) m<=P2 A+P2 B-1:=by
 have gA:1<=P2 A:=by unfold P2;rw [if_neg (by omega)];exact (A76 A.length).1
 have gB:1<=P2 B:=by unfold P2;rw [if_neg (by omega)];exact (A76 B.length).1
 intro m
 induction m with
 |zero=>intro _;show (1:Int)<=_;omega
 |succ m ih=>
  intro hm;have ih:=ih (by omega)
  unfold A0K
  by_cases h0:m=0
  ·rw [if_pos h0];omega
  ·rw [if_neg h0,A3a A B a b (show m<_ by omega),A3a A B a b (show m-1<_ by omega)]
   obtain ⟨i1,i2,i3⟩:=A6n A B m (by omega)
   have s1:=C1d hA a0 i1;have s2:=C1d hB b0 i2;have e1:(me A B a b (m-1)).Bf=N9 A (F9 A B m).1+N9 B (F9 A B m).2:=by
    unfold me;rw [show m-1+1=m by omega]
   have e2:(me A B a b m).Be=P3 A a (F9 A B m).1+P3 B b (F9 A B m).2+1:=rfl;rw [e1,e2];split<;>omega
theorem B8b {B:List B0} {b:Int} (hB:Y0 B b) (e:B0) (h1:0<=e.Bf/\e.Bf<=1099511627776) (h2:0<=e.Be/\e.Be<=1099511627776) {j:Nat} (hj:j<=B.length) (hl:B.length<=1048576):
  A4C e B (j:Int) b=some ⟨e.V,e.Bf+N9 B j,e.Be+P3 B b j⟩:=by
 have n1:=hB.n1;have n0:=hB.n0;obtain ⟨o1,o2,o3⟩:=A7i hB hj;have hj1: ∀m:Int,A2n e B (j:Int) b m=some ⟨e.V,m,e.Be+P3 B b j⟩:=by
  intro m;unfold A2n
  by_cases hlt:j<B.length
  ·have r:=hB.rng j hlt;have e1:P3 B b j=(D7 B j).Be-1:=by unfold P3;rw [if_pos hlt]
   rw [D3h (by omega),D3g,P7 hlt]
   simp only [D3c];rw [show A2 ((D7 B j).Be-1)=(D7 B j).Be-1 by rw [A7]<;>omega,show A2 (e.Be+((D7 B j).Be-1))=e.Be+((D7 B j).Be-1) by rw [A7]<;>omega,e1]
  ·have e1:P3 B b j=b:=by unfold P3;rw [if_neg hlt]
   rw [D3j (by omega),D3f,e1,show A2 (e.Be+b)=e.Be+b by rw [A7]<;>omega]
 unfold A4C
 by_cases h0:0<j
 ·have e1:N9 B j=(D7 B (j-1)).Bf:=by unfold N9;rw [if_neg (by omega)]
  rw [D3h (by omega),D3g,show A2 ((j:Int)-1)=((j-1:Nat):Int) by rw [A7]<;>omega,P7 (show j-1<B.length by omega)]
  simp only [D3c];rw [hj1,<-e1,show A2 (e.Bf+N9 B j)=e.Bf+N9 B j by rw [A7]<;>omega]
 ·have e1:N9 B j=0:=by unfold N9;rw [if_pos (by omega)]
  rw [D3j (by omega),D3f,hj1,e1,Int.add_zero]
theorem D1o {α:Type} {A B:List B0} {p:Nat×Nat} (h1:p.1<=A.length) (h2:p.2<=B.length) (X Y:Option α):
  (Option.bind (gd ((!((p.2:Int)==(B.length:Int)))&&(decide ((p.1:Int)<(A.length:Int)))) (D0 A (p.1:Int))) fun x=>
  Option.bind (gd ((!((p.2:Int)==(B.length:Int)))&&(decide ((p.1:Int)<(A.length:Int)))) (D0 B (p.2:Int))) fun y=>
  cond (((p.2:Int)==(B.length:Int))||((decide ((p.1:Int)<(A.length:Int)))&&(decide (x.V<=y.V)))) X Y)=cond (tk A B p) X Y:=by
 unfold tk
 by_cases hj:p.2=B.length
 ·rw [D36.2 (by omega:(p.2:Int)=(B.length:Int)),D3h hj]
  rfl
 ·rw [D32.2 (by omega:(p.2:Int)≠(B.length:Int)),D3j hj]
  by_cases hi:p.1<A.length
  ·rw [D3h (by omega:(p.1:Int)<(A.length:Int)),D3h hi,P7 hi,P7 (show p.2<B.length by omega)]
   rfl
  ·rw [D3j (by omega: ¬(p.1:Int)<(A.length:Int)),D3j hi]
   rfl
theorem C6T (r s:C8) (hA:Y0 r.Ac r.N) (hB:Y0 s.Ac s.N) (la:r.Ac.length<=1000) (lb:s.Ac.length<=1000):
  A9u r s 0 0 []=some (⟨r.N+s.N,meL r.Ac s.Ac r.N s.N (r.Ac.length+s.Ac.length)⟩,0):=by
 have hm:(1048576:Nat)<=maxLen:=by rw [F8];omega
 have an0:=hA.n0;have an1:=hA.n1;have bn0:=hB.n0;have bn1:=hB.n1;unfold A9u;obtain ⟨v,hv,hQ⟩:=T8 (f:=fun t:Int×Int×List B0=>A48 r s t.1 t.2.1 t.2.2)
  (fun t=> ∃k:Nat,k<=r.Ac.length+s.Ac.length/\t=(((F9 r.Ac s.Ac k).1:Int),((F9 r.Ac s.Ac k).2:Int),meL r.Ac s.Ac r.N s.N k))
  (fun t=>r.Ac.length+s.Ac.length-t.2.2.length) (fun v=>v=(⟨r.N+s.N,meL r.Ac s.Ac r.N s.N (r.Ac.length+s.Ac.length)⟩,0))
  (0,0, []) ⟨0,Nat.zero_le _,rfl⟩ (by
   rintro _ ⟨k,hk,rfl⟩;obtain ⟨i1,i2,i3⟩:=A6n r.Ac s.Ac k hk;simp only;unfold A48;rw [D1o i1 i2]
   by_cases hlt:k<r.Ac.length+s.Ac.length
   ·left;have hc:(decide (((F9 r.Ac s.Ac k).1:Int)<(r.Ac.length:Int))||decide (((F9 r.Ac s.Ac k).2:Int)<(s.Ac.length:Int)))=true:=by
     simp only [D3n,D3e];omega
    have hsucc:meL r.Ac s.Ac r.N s.N (k+1)=meL r.Ac s.Ac r.N s.N k++ [me r.Ac s.Ac r.N s.N k]:=C3z _ _ _ _ _;have hpt:F9 r.Ac s.Ac (k+1)=S5 r.Ac s.Ac (F9 r.Ac s.Ac k):=rfl;unfold S5 at hpt;rw [hc,D3g];unfold A47;cases ht:tk r.Ac s.Ac (F9 r.Ac s.Ac k) with
    |true=>
     obtain ⟨t1,_⟩:=A3q i1 i2 (by omega) ht
     have g:=hA.rng _ t1;rw [ht,D3g] at hpt;rw [D3g,P7 t1];simp only [D3c];rw [B8b hB _ (by omega) (by omega) i2 (by omega)]
     simp only [D3c];rw [O1 (by rw [D3e,K2,D3R];omega),N7 t1 (by omega),<-B54 hlt ht,<-hsucc]
     refine ⟨_,rfl,⟨k+1,hlt,by rw [hpt];rfl⟩,by show _-(meL _ _ _ _ _).length<_-(meL _ _ _ _ _).length;rw [K2,K2];omega⟩
    |false=>
     obtain ⟨t1,_⟩:=A1F i2 ht;have g:=hB.rng _ t1;rw [ht,D3f] at hpt;rw [D3f,P7 t1];simp only [D3c];rw [B8b hA _ (by omega) (by omega) i1 (by omega)]
     simp only [D3c];rw [O1 (by rw [D3e,K2,D3R];omega),N7 t1 (by omega),<-B3G hlt ht,<-hsucc]
     refine ⟨_,rfl,⟨k+1,hlt,by rw [hpt];rfl⟩,by show _-(meL _ _ _ _ _).length<_-(meL _ _ _ _ _).length;rw [K2,K2];omega⟩
   ·right;have hc:(decide (((F9 r.Ac s.Ac k).1:Int)<(r.Ac.length:Int))||decide (((F9 r.Ac s.Ac k).2:Int)<(s.Ac.length:Int)))=false:=by
     simp only [D3M,D3t];omega
    have hke:k=r.Ac.length+s.Ac.length:=by omega
    rw [hc,D3f,show A2 (r.N+s.N)=r.N+s.N by rw [A7]<;>omega,hke]
    exact ⟨_,rfl,rfl⟩)
 rw [hv,hQ]
theorem C45 {B:List B0}: ∀k,k<=B.length->F9 [] B k=(0,k):=by
 intro k
 induction k with
 |zero=>intro _;rfl
 |succ k ih=>
  intro hk;rw [show F9 [] B (k+1)=S5 [] B (F9 [] B k) from rfl,ih (by omega)]
  have ht:tk [] B (0,k)=false:=by
   unfold tk;simp only [D3M,D33,D3t];exact ⟨by omega, .inl (by simp)⟩
  unfold S5;rw [ht]
  rfl
theorem C3V {A:List B0}: ∀k,k<=A.length->F9 A [] k=(k,0):=by
 intro k
 induction k with
 |zero=>intro _;rfl
 |succ k ih=>
  intro hk;rw [show F9 A [] (k+1)=S5 A [] (F9 A [] k) from rfl,ih (by omega)]
  have ht:tk A [] (k,0)=true:=by
   unfold tk;simp only [D3n,D3e];exact .inl rfl
  unfold S5;rw [ht]
  rfl
theorem C5z {l m:List B0} (h:l.length=m.length) (h2:∀i,i<l.length->D7 l i=D7 m i):l=m:=by
 apply List.ext_getElem h;intro i h3 h4;rw [<-B52 h3,<-B52 h4,h2 i h3]
theorem C4U {B:List B0} {b:Int}:meL [] B 0 b B.length=B:=by
 refine C5z (K2 _ _ _ _ _) fun i hi=> ?_;rw [K2] at hi;rw [A3a _ _ _ _ hi];have hp:=C45 i (Nat.le_of_lt hi);have ht:tk [] B (F9 [] B i)=false:=by
  rw [hp];unfold tk;simp only [D3M,D33,D3t];exact ⟨by omega, .inl (by simp)⟩
 rw [B3G (by simpa using hi) ht,hp]
 have e1:N9 [] 0=0:=rfl;have e2:P3 [] 0 0=0:=rfl;simp only [e1,e2,Int.add_zero]
theorem C3A {A:List B0} {a:Int}:meL A [] a 0 A.length=A:=by
 refine C5z (K2 _ _ _ _ _) fun i hi=> ?_;rw [K2] at hi;rw [A3a _ _ _ _ hi];have hp:=C3V i (Nat.le_of_lt hi);have ht:tk A [] (F9 A [] i)=true:=by
  rw [hp];unfold tk;simp only [D3n,D3e];exact .inl rfl
 rw [B54 (by simpa using hi) ht,hp]
 have e1:N9 [] 0=0:=rfl;have e2:P3 [] 0 0=0:=rfl;simp only [e1,e2,Int.add_zero]
noncomputable def A7p (r s:C8):C8×Int:=
 cond (okB r&&okB s) (cond (decide (r.N+s.N>1099511627776)) (⟨0, []⟩,5) (⟨r.N+s.N,meL r.Ac s.Ac r.N s.N (r.Ac.length+s.Ac.length)⟩,0)) (⟨0, []⟩,2)
theorem B8Y (r s:C8) (la:r.Ac.length<=1000) (lb:s.Ac.length<=1000):A2m r s=some (A7p r s):=by
 unfold A2m A7p;rw [A10 r (by omega),A10 s (by omega)]
 simp only [D3c];cases hr:okB r with
 |false=>rfl
 |true=>
  cases hs:okB s with
  |false=>rfl
  |true=>
   have hA:=(Z8 r).1 hr;have hB:=(Z8 s).1 hs;have an0:=hA.n0;have an1:=hA.n1;have bn0:=hB.n0;have bn1:=hB.n1;simp only [D3g,D3P,D3f,Bool.and_self];rw [show A2 (1099511627776-s.N)=1099511627776-s.N by rw [A7]<;>omega]
   by_cases hsum:r.N+s.N>1099511627776
   ·rw [D3h hsum,D3h (by omega)]
    rfl
   ·rw [D3j hsum,D3j (by omega)]
    simp only [D3f]
    by_cases ha:r.N=0
    ·have hnil:r.Ac= []:=D3X (hA.nil.2 ha);rw [D36.2 ha,D3g];unfold A1j;rw [O1 (by rw [D3e];simp only [D3I];omega),hnil,ha]
     simp only [D3c,List.nil_append,D3I,Nat.zero_add,Int.zero_add,C4U]
    ·rw [D32.2 ha,D3f]
     by_cases hb:s.N=0
     ·have hnil:s.Ac= []:=D3X (hB.nil.2 hb);rw [D36.2 hb,D3g];unfold A1j;rw [O1 (by rw [D3e];simp only [D3I];omega),hnil,hb]
      simp only [D3c,List.nil_append,D3I,Nat.add_zero,Int.add_zero,C3A]
     ·rw [D32.2 hb,D3f];exact C6T r s hA hB la lb
def bef (tie:Bool) (x e:B0):Bool:=decide (x.V<e.V)||(!tie&&x.V==e.V)
theorem D0y (tie:Bool) (x e:B0):(decide (x.V>e.V)||(tie&&x.V==e.V))= !bef tie x e:=by
 unfold bef;rw [D3x];cases tie
 ·simp only [D3H,Bool.or_false,D3p,D3N,D3y,D3M,D3e,D3t,D32];omega
 ·simp only [D3N,D3o,D3H,Bool.or_false,D3y,D3n,D3e,D3t,D36];omega
def Cut (B:List B0) (tie:Bool) (e:B0) (m:Nat):Prop:=
 m<=B.length/\(∀j,j<m->bef tie (D7 B j) e=true)/\ ∀j,m<=j->j<B.length->bef tie (D7 B j) e=false
theorem B8q {B:List B0} {tie:Bool} {e:B0} {m n:Nat} (h:Cut B tie e m) (g:Cut B tie e n):m=n:=by
 obtain ⟨h1,h2,h3⟩:=h;obtain ⟨g1,g2,g3⟩:=g;rcases Nat.lt_trichotomy m n with c|c|c
 ·have a1:=h3 m (D3U _) (by omega)
  rw [g2 m c] at a1;exact absurd a1 (by simp)
 ·exact c
 ·have a1:=g3 n (D3U _) (by omega)
  rw [h2 n c] at a1;exact absurd a1 (by simp)
theorem D1I {B:List B0} {b:Int} (hB:Y0 B b) (tie:Bool) (e:B0): ∃m,Cut B tie e m:=by
 have key: ∀m,m<=B.length->(∃k,k<=m/\(∀j,j<k->bef tie (D7 B j) e=true)/\ ∀j,k<=j->j<m->bef tie (D7 B j) e=false):=by
  intro m
  induction m with
  |zero=>intro _;exact ⟨0,D3U _,fun i hi=>by omega,fun i _ hi=>by omega⟩
  |succ m ih=>
   intro hm;obtain ⟨k,k1,k2,k3⟩:=ih (by omega)
   cases hv:bef tie (D7 B m) e with
   |true=>
    have:k=m:=by
     rcases Nat.lt_or_ge k m with hlt|hge
     ·have g1:=k3 k (D3U _) hlt;have g2:=(A8Z hB hlt (by omega)).1
      unfold bef at g1 hv;cases tie
      ·simp only [D3p,D3N,D3M,D3n,D3e,D3t,D36,D32] at g1 hv;omega
      ·simp only [D3o,D3H,Bool.or_false,D3e,D3t] at g1 hv;omega
     ·omega
    subst this;refine ⟨k+1,D3U _,fun i hi=> ?_,fun i h1 h2=>by omega⟩
    rcases Nat.lt_or_ge i k with g|g
    ·exact k2 i g
    ·have:i=k:=by omega
     subst this;exact hv
   |false=>
    refine ⟨k,by omega,k2,fun i h1 h2=> ?_⟩
    rcases Nat.lt_or_ge i m with g|g
    ·exact k3 i h1 g
    ·have:i=m:=by omega
     subst this;exact hv
 exact key B.length (D3U _)
def wd (B:List B0) (b:Int) (e:B0) (m:Nat):B0:=⟨e.V,e.Bf+N9 B m,e.Be+P3 B b m⟩
section widened
variable {s:C8} (hB:Y0 s.Ac s.N) (lb:s.Ac.length<=1000)
include hB lb
theorem D2q (tie:Bool) {e:B0} (h1:0<=e.Bf/\e.Bf<=1099511627776) (h2:0<=e.Be/\e.Be<=1099511627776) {m:Nat} (hc:Cut s.Ac tie e m) (w:List B0) (i:Nat) (hw:w.length<=1000) (hi:i<=1000):
  A5S s tie e (N9 s.Ac m) w (i:Int) s.N (A2 ((s.Ac.length:Int)-1))=some (.inl (w++ [wd s.Ac s.N e m],(i:Int)+1)):=by
 obtain ⟨c1,c2,c3⟩:=hc;have n0:=hB.n0;have n1:=hB.n1;obtain ⟨o1,o2,o3⟩:=A7i hB c1;have e0:A2 ((s.Ac.length:Int)-1)=(s.Ac.length:Int)-1:=by rw [A7]<;>omega
 rw [e0];unfold A5S;obtain ⟨x,hx,hQ⟩:=T8 (f:=fun t:Int×Int=>A4I s tie e (N9 s.Ac m) w (i:Int) t.1 t.2)
  (fun t=> ∃k:Nat,k<=s.Ac.length/\t=((if k<=m then P3 s.Ac s.N m else P3 s.Ac s.N k),(k:Int)-1))
  (fun t=>(t.2+1).toNat) (fun x=>x= .inl (w++ [wd s.Ac s.N e m],(i:Int)+1)) (s.N,(s.Ac.length:Int)-1) ⟨s.Ac.length,D3U _,by
   have:P3 s.Ac s.N s.Ac.length=s.N:=by unfold P3;rw [if_neg (by omega)]
   rw [this]
   by_cases hle:s.Ac.length<=m
   ·have:m=s.Ac.length:=by omega
    subst this;rw [if_pos hle,this]
   ·rw [if_neg hle]⟩ (by
   rintro _ ⟨k,hk,rfl⟩;simp only;unfold A4I;cases k with
   |zero=>
    right;rw [D3j (by omega),D3f,if_pos (Nat.zero_le _),O1 (by rw [D3e];simp only [D3R];omega),show A2 ((i:Int)+1)=(i:Int)+1 by rw [A7]<;>omega,
     show A2 (e.Bf+N9 s.Ac m)=e.Bf+N9 s.Ac m by rw [A7]<;>omega,show A2 (e.Be+P3 s.Ac s.N m)=e.Be+P3 s.Ac s.N m by rw [A7]<;>omega]
    exact ⟨_,rfl,rfl⟩
   |succ k=>
    left;have hlt:k<s.Ac.length:=by omega
    have e1:((k+1:Nat):Int)-1=(k:Int):=by omega
    have e2:A2 ((k:Int)-1)=(k:Int)-1:=by rw [A7]<;>omega
    rw [e1,D3h (by omega:(k:Int)>=0),D3g,P7 hlt,e2]
    simp only [D3c];rw [D0y]
    by_cases hkm:k<m
    ·rw [c2 k hkm,D3o,D3f,if_pos (by omega)]
     exact ⟨_,rfl,⟨k,by omega,by rw [if_pos (by omega)]⟩,by show ((k:Int)-1+1).toNat<((k:Int)+1).toNat;omega⟩
    ·rw [c3 k (by omega) hlt,D3p,D3g]
     have hr:=hB.rng k hlt;rw [show A2 ((D7 s.Ac k).Be-1)=(D7 s.Ac k).Be-1 by rw [A7]<;>omega]
     refine ⟨_,rfl,⟨k,by omega, ?_⟩,by show ((k:Int)-1+1).toNat<((k:Int)+1).toNat;omega⟩
     have hh:P3 s.Ac s.N k=(D7 s.Ac k).Be-1:=by unfold P3;rw [if_pos hlt]
     by_cases hle:k<=m
     ·have:k=m:=by omega
      subst this;rw [if_pos hle,hh]
     ·rw [if_neg hle,hh])
 rw [hx,hQ]
theorem D2r (tie:Bool) {e:B0} (h1:0<=e.Bf/\e.Bf<=1099511627776) (h2:0<=e.Be/\e.Be<=1099511627776) {m:Nat} (hc:Cut s.Ac tie e m) (w:List B0) (i:Nat) (hw:w.length<=1000) (hi:i<=1000):
  A6O s tie e w (i:Int) 0 0=some (.inl (w++ [wd s.Ac s.N e m],(i:Int)+1)):=by
 have hm:s.Ac.length<=maxLen:=by rw [F8];omega
 have hhi:=D2q hB lb tie h1 h2 hc w i hw hi;obtain ⟨c1,c2,c3⟩:=hc;unfold A6O;obtain ⟨x,hx,hQ⟩:=T8 (f:=fun t:Int×Int=>A5U s tie e w (i:Int) t.1 t.2)
  (fun t=> ∃k:Nat,k<=s.Ac.length/\t=((if k<=m then N9 s.Ac k else N9 s.Ac m),(k:Int)))
  (fun t=>s.Ac.length-t.2.toNat) (fun x=>x= .inl (w++ [wd s.Ac s.N e m],(i:Int)+1)) (0,0) ⟨0,Nat.zero_le _,by rw [if_pos (Nat.zero_le _)];rfl⟩ (by
   rintro _ ⟨k,hk,rfl⟩;simp only;unfold A5U
   by_cases hlt:k<s.Ac.length
   ·left;rw [D3h (by omega),D3g,P7 hlt,N7 hlt hm]
    simp only [D3c];rw [show (decide ((D7 s.Ac k).V<e.V)||(!tie)&&(D7 s.Ac k).V==e.V)=bef tie (D7 s.Ac k) e from rfl]
    by_cases hkm:k<m
    ·rw [c2 k hkm,D3g];refine ⟨_,rfl,⟨k+1,hlt, ?_⟩,by show s.Ac.length-((k:Int)+1).toNat<s.Ac.length-(k:Int).toNat;omega⟩
     rw [if_pos (by omega)]
     unfold N9;rw [if_neg (by omega),D3T]
     rfl
    ·rw [c3 k (by omega) hlt,D3f]
     refine ⟨_,rfl,⟨k+1,hlt, ?_⟩,by show s.Ac.length-((k:Int)+1).toNat<s.Ac.length-(k:Int).toNat;omega⟩
     rw [if_neg (by omega: ¬k+1<=m)]
     by_cases hle:k<=m
     ·have:k=m:=by omega
      subst this;rw [if_pos hle]
      rfl
     ·rw [if_neg hle]
      rfl
   ·right;have hlo:(if k<=m then N9 s.Ac k else N9 s.Ac m)=N9 s.Ac m:=by
     by_cases hle:k<=m
     ·have:k=m:=by omega
      subst this;rw [if_pos hle]
     ·rw [if_neg hle]
    rw [D3j (by omega),D3f,hlo,hhi]
    exact ⟨_,rfl,rfl⟩)
 rw [hx,hQ]
def Wid (A B:List B0) (b:Int) (tie:Bool) (w:List B0):Prop:=
 w.length=A.length/\ ∀i,i<A.length-> ∃m,Cut B tie (D7 A i) m/\D7 w i=wd B b (D7 A i) m
theorem B9l {r:C8} (hA:Y0 r.Ac r.N) (la:r.Ac.length<=1000) (tie:Bool): ∃w,A6v r s tie=some w/\Wid r.Ac s.Ac s.N tie w:=by
 have hm:r.Ac.length<=maxLen:=by rw [F8];omega
 have an1:=hA.n1;unfold A6v B1e;obtain ⟨x,hx,hQ⟩:=T8 (f:=fun t:List B0×Int=>A5T r s tie t.1 t.2)
  (fun t=> ∃(i:Nat) (w:List B0),i<=r.Ac.length/\t=(w,(i:Int))/\w.length=i/\ ∀k,k<i-> ∃m,Cut s.Ac tie (D7 r.Ac k) m/\D7 w k=wd s.Ac s.N (D7 r.Ac k) m)
  (fun t=>r.Ac.length-t.2.toNat) (fun w=>Wid r.Ac s.Ac s.N tie w) ([],0) ⟨0, [],Nat.zero_le _,rfl,rfl,fun k hk=>by omega⟩ (by
   rintro _ ⟨i,w,hi,rfl,hw,hall⟩;simp only;unfold A5T
   by_cases hlt:i<r.Ac.length
   ·left;have g:=hA.rng i hlt;obtain ⟨m,hc⟩:=D1I hB tie (D7 r.Ac i);rw [D3h (by omega),D3g,P7 hlt]
    simp only [D3c];rw [D2r hB lb tie (by omega) (by omega) hc w i (by omega) (by omega)]
    refine ⟨_,rfl,⟨i+1,_,hlt,rfl,by simp [hw],fun k hk=> ?_⟩,by show r.Ac.length-((i:Int)+1).toNat<r.Ac.length-(i:Int).toNat;omega⟩
    rcases Nat.lt_or_ge k i with hki|hki
    ·obtain ⟨m',hc',he⟩:=hall k hki;refine ⟨m',hc', ?_⟩;rw [<-he];unfold D7;rw [D38,D3B (by omega),<-D38]
    ·have:k=i:=by omega
     subst this;refine ⟨m,hc, ?_⟩;unfold D7;rw [D38,D3C (by omega),hw,Nat.sub_self]
     rfl
   ·right;have:i=r.Ac.length:=by omega
    subst this;rw [D3j (by omega),D3f]
    exact ⟨_,rfl,hw,hall⟩)
 exact ⟨x,hx,hQ⟩
end widened
theorem B1M {w:List B0} {i:Nat} (h:i<w.length):D0 (w.drop i) 0=some (D7 w i):=by
 rw [show (0:Int)=((0:Nat):Int) from rfl,I2,D3w,Nat.add_zero,B7C h]
theorem D2l {α:Type} {A B wA wB:List B0} {p:Nat×Nat} (hA:wA.length=A.length) (hB:wB.length=B.length) (vA:∀i,i<A.length->(D7 wA i).V=(D7 A i).V) (vB:∀i,i<B.length->(D7 wB i).V=(D7 B i).V)
  (h1:p.1<=A.length) (h2:p.2<=B.length) (X Y:Option α):
  (Option.bind (gd ((!(((wB.drop p.2).length:Int)==(0:Int)))&&(decide (((wA.drop p.1).length:Int)>(0:Int)))) (D0 (wA.drop p.1) (0:Int))) fun x=>
  Option.bind (gd ((!(((wB.drop p.2).length:Int)==(0:Int)))&&(decide (((wA.drop p.1).length:Int)>(0:Int)))) (D0 (wB.drop p.2) (0:Int))) fun y=>
  cond ((((wB.drop p.2).length:Int)==(0:Int))||((decide (((wA.drop p.1).length:Int)>(0:Int)))&&(decide (x.V<=y.V)))) X Y)=cond (tk A B p) X Y:=by
 rw [D3K,D3K,hA,hB];unfold tk
 by_cases hj:p.2=B.length
 ·rw [D36.2 (by omega:((B.length-p.2:Nat):Int)=0),D3h hj]
  rfl
 ·rw [D32.2 (by omega:((B.length-p.2:Nat):Int)≠0),D3j hj]
  by_cases hi:p.1<A.length
  ·rw [D3h (by omega:((A.length-p.1:Nat):Int)>0),D3h hi,B1M (by omega),B1M (by omega)]
   simp only [D3p,Bool.and_self,E4,D3c,D3D,D3N,vA _ hi,vB p.2 (by omega)]
  ·rw [D3j (by omega: ¬((A.length-p.1:Nat):Int)>0),D3j hi]
   rfl
theorem B96 (r s:C8) (hA:Y0 r.Ac r.N) (hB:Y0 s.Ac s.N) (la:r.Ac.length<=1000) (lb:s.Ac.length<=1000) {wA wB:List B0}
  (hwA:Wid r.Ac s.Ac s.N true wA) (hwB:Wid s.Ac r.Ac r.N false wB):
  A8p r s wA wB []=some (⟨r.N+s.N,meL r.Ac s.Ac r.N s.N (r.Ac.length+s.Ac.length)⟩,0):=by
 have an0:=hA.n0;have an1:=hA.n1;have bn0:=hB.n0;have bn1:=hB.n1;obtain ⟨lA,pA⟩:=hwA;obtain ⟨lB,pB⟩:=hwB;have vA: ∀i,i<r.Ac.length->(D7 wA i).V=(D7 r.Ac i).V:=fun i hi=>by obtain ⟨m,_,h⟩:=pA i hi;rw [h];rfl
 have vB: ∀i,i<s.Ac.length->(D7 wB i).V=(D7 s.Ac i).V:=fun i hi=>by obtain ⟨m,_,h⟩:=pB i hi;rw [h];rfl
 unfold A8p;obtain ⟨v,hv,hQ⟩:=T8 (f:=fun t:List B0×List B0×List B0=>A7C r s t.1 t.2.1 t.2.2)
  (fun t=> ∃k:Nat,k<=r.Ac.length+s.Ac.length/\t=(wA.drop (F9 r.Ac s.Ac k).1,wB.drop (F9 r.Ac s.Ac k).2,meL r.Ac s.Ac r.N s.N k))
  (fun t=>r.Ac.length+s.Ac.length-t.2.2.length) (fun v=>v=(⟨r.N+s.N,meL r.Ac s.Ac r.N s.N (r.Ac.length+s.Ac.length)⟩,0))
  (wA,wB, []) ⟨0,Nat.zero_le _,rfl⟩ (by
   rintro _ ⟨k,hk,rfl⟩;obtain ⟨i1,i2,i3⟩:=A6n r.Ac s.Ac k hk;obtain ⟨j1,j2⟩:=C8F hA hB k hk;simp only;unfold A7C;rw [D2l lA lB vA vB i1 i2];have hlen:A2 (((wA.drop (F9 r.Ac s.Ac k).1).length:Int)+((wB.drop (F9 r.Ac s.Ac k).2).length:Int))=((r.Ac.length+s.Ac.length-k:Nat):Int):=by
    rw [D3K,D3K,lA,lB,A7]<;>omega
   rw [hlen]
   by_cases hlt:k<r.Ac.length+s.Ac.length
   ·left;have hsucc:meL r.Ac s.Ac r.N s.N (k+1)=meL r.Ac s.Ac r.N s.N k++ [me r.Ac s.Ac r.N s.N k]:=C3z _ _ _ _ _;have hpt:F9 r.Ac s.Ac (k+1)=S5 r.Ac s.Ac (F9 r.Ac s.Ac k):=rfl;unfold S5 at hpt;rw [D3h (by omega),D3g]
    cases ht:tk r.Ac s.Ac (F9 r.Ac s.Ac k) with
    |true=>
     obtain ⟨t1,t2⟩:=A3q i1 i2 (by omega) ht
     rw [ht,D3g] at hpt;obtain ⟨m,hc,he⟩:=pA _ t1;have hcut:Cut s.Ac true (D7 r.Ac (F9 r.Ac s.Ac k).1) (F9 r.Ac s.Ac k).2:=by
      refine ⟨i2,fun j hj=> ?_,fun j hj hl=> ?_⟩
      ·unfold bef;rw [D3h (j1 j hj t1)];rfl
      ·unfold bef;have g1:=t2 (by omega)
       have g2:(D7 s.Ac (F9 r.Ac s.Ac k).2).V<=(D7 s.Ac j).V:=by
        rcases Nat.eq_or_lt_of_le hj with g|g
        ·rw [<-g];exact Int.le_refl _
        ·exact (A8Z hB g hl).1
       rw [D3j (by omega)];rfl
     have hmm:=B8q hc hcut;subst hmm;have hee:D7 wA (F9 r.Ac s.Ac k).1=me r.Ac s.Ac r.N s.N k:=by rw [he,B54 hlt ht];rfl
     rw [D3g,B1M (by omega),hee]
     simp only [D3c];rw [O1 (by rw [D3e,K2,D3R];omega),O1 (by rw [D3e,D3K];omega),<-hsucc]
     refine ⟨_,rfl,⟨k+1,hlt, ?_⟩,by show _-(meL _ _ _ _ _).length<_-(meL _ _ _ _ _).length;rw [K2,K2];omega⟩
     rw [hpt];show ((wA.drop _).drop 1,_,_)=_;rw [D4a]
    |false=>
     obtain ⟨t1,t2⟩:=A1F i2 ht;rw [ht,D3f] at hpt;obtain ⟨m,hc,he⟩:=pB _ t1;have hcut:Cut r.Ac false (D7 s.Ac (F9 r.Ac s.Ac k).2) (F9 r.Ac s.Ac k).1:=by
      refine ⟨i1,fun j hj=> ?_,fun j hj hl=> ?_⟩
      ·unfold bef;have g:=j2 j hj t1;rcases Int.lt_or_eq_of_le g with g|g
       ·rw [D3h g];rfl
       ·rw [D36.2 g,D3p,D3N,Bool.or_true]
      ·unfold bef;have g1:=t2 (by omega)
       have g2:(D7 r.Ac (F9 r.Ac s.Ac k).1).V<=(D7 r.Ac j).V:=by
        rcases Nat.eq_or_lt_of_le hj with g|g
        ·rw [<-g];exact Int.le_refl _
        ·exact (A8Z hA g hl).1
       rw [D3j (by omega),D32.2 (by omega)];rfl
     have hmm:=B8q hc hcut;subst hmm;have hee:D7 wB (F9 r.Ac s.Ac k).2=me r.Ac s.Ac r.N s.N k:=by rw [he,B3G hlt ht];rfl
     rw [D3f,B1M (by omega),hee]
     simp only [D3c];rw [O1 (by rw [D3e,K2,D3R];omega),O1 (by rw [D3e,D3K];omega),<-hsucc]
     refine ⟨_,rfl,⟨k+1,hlt, ?_⟩,by show _-(meL _ _ _ _ _).length<_-(meL _ _ _ _ _).length;rw [K2,K2];omega⟩
     rw [hpt];show (_,(wB.drop _).drop 1,_)=_;rw [D4a]
   ·right;have hke:k=r.Ac.length+s.Ac.length:=by omega
    rw [D3j (by omega),D3f,show A2 (r.N+s.N)=r.N+s.N by rw [A7]<;>omega,hke]
    exact ⟨_,rfl,rfl⟩)
 rw [hv,hQ]
theorem C8J (r s:C8) (la:r.Ac.length<=1000) (lb:s.Ac.length<=1000):A58 r s=some (A7p r s):=by
 unfold A58 A7p;rw [A4J r (by omega),A4J s (by omega)]
 simp only [D3c];cases hr:okB r with
 |false=>rfl
 |true=>
  cases hs:okB s with
  |false=>rfl
  |true=>
   have hA:=(Z8 r).1 hr;have hB:=(Z8 s).1 hs;have an0:=hA.n0;have an1:=hA.n1;have bn0:=hB.n0;have bn1:=hB.n1;simp only [D3g,D3P,D3f,Bool.and_self];rw [show A2 (r.N+s.N)=r.N+s.N by rw [A7]<;>omega]
   by_cases hsum:r.N+s.N>1099511627776
   ·rw [D3h hsum]
    rfl
   ·rw [D3j hsum];simp only [D3f];obtain ⟨wA,a1,a2⟩:=B9l hB lb hA la true;obtain ⟨wB,b1,b2⟩:=B9l hA la hB lb false;rw [a1,b1];simp only [D3c];exact B96 r s hA hB la lb a2 b2
end Go.Win
namespace Go.Win
open Go.Vc Go.Dec
def rk (N b:Int) (i:Nat):Int:=1+((i:Int)*(N-1))/b
def T6 (K:Nat->Nat):Nat->List Nat
 |0=> []
 |i+1=>T6 K i++(if i=0\/K i≠K (i-1) then [K i] else [])
theorem B3B (K:Nat->Nat): ∀m,(T6 K m).length<=m:=by
 intro m
 induction m with
 |zero=>exact D3U _
 |succ m ih=>
  unfold T6;rw [D3i];split
  ·rw [D3R];omega
  ·rw [D3I];omega
structure Kp (K:Nat->Nat) (m:Nat) (c:List Nat):Prop where
 pos:0<c.length
 first:c.getD 0 0=K 0
 last:c.getD (c.length-1) 0=K (m-1)
 step: ∀i,i+1<c.length-> ∃t,1<=t/\t<m/\c.getD i 0=K (t-1)/\c.getD (i+1) 0=K t/\K (t-1)<K t
theorem B3v (c:List Nat) (x i:Nat) (h:i<c.length):(c++ [x]).getD i 0=c.getD i 0:=by
 simp only [D38,D3B h]
theorem C0H (c:List Nat) (x:Nat):(c++ [x]).getD c.length 0=x:=by
 simp [D38]
theorem D0X {K:Nat->Nat} {M:Nat} (hmono:∀i,i+1<M->K i<=K (i+1)): ∀m,1<=m->m<=M->Kp K m (T6 K m):=by
 intro m h1
 induction m with
 |zero=>omega
 |succ m ih=>
  intro hM
  by_cases h0:m=0
  ·subst h0;refine ⟨by simp [T6],by simp [T6],by simp [T6],fun i hi=> ?_⟩
   simp [T6] at hi
  ·have hk:=ih (by omega) (by omega)
   unfold T6
   by_cases hne:K m≠K (m-1)
   ·rw [if_pos (.inr hne)];have hlt:K (m-1)<K m:=by
     have:=hmono (m-1) (by omega)
     rw [show m-1+1=m by omega] at this
     omega
    have hl:(T6 K m++ [K m]).length=(T6 K m).length+1:=by simp
    refine ⟨by omega, ?_, ?_,fun i hi=> ?_⟩
    ·rw [B3v _ _ _ hk.pos];exact hk.first
    ·rw [hl,D3T,C0H,D3T]
    ·rw [hl] at hi;rcases Nat.lt_or_ge (i+1) (T6 K m).length with hlt' |hge
     ·obtain ⟨t,t1,t2,t3,t4,t5⟩:=hk.step i hlt';exact ⟨t,t1,by omega,by rw [B3v _ _ _ (by omega)];exact t3,by rw [B3v _ _ _ hlt'];exact t4,t5⟩
     ·have hie:i+1=(T6 K m).length:=by omega
      refine ⟨m,by omega,by omega, ?_, ?_,hlt⟩
      ·rw [B3v _ _ _ (by omega)]
       have:=hk.last;rw [<-hie,D3T] at this;exact this
      ·rw [hie,C0H]
   ·have he:K m=K (m-1):=Classical.not_not.1 hne;rw [if_neg (by intro h;rcases h with h|h;exact h0 h;exact hne h),List.append_nil]
    refine ⟨hk.pos,hk.first, ?_,fun i hi=> ?_⟩
    ·rw [D3T,he];exact hk.last
    ·obtain ⟨t,t1,t2,t3⟩:=hk.step i hi;exact ⟨t,t1,by omega,t3⟩
theorem B99 {N b:Int} (hN:1<=N) (hb:1<=b) (i:Nat):rk N b i<=rk N b (i+1)/\rk N b (i+1)-rk N b i<=(N-1+b-1)/b:=by
 unfold rk;have e:((i+1:Nat):Int)*(N-1)=(i:Int)*(N-1)+(N-1):=by rw [Int.natCast_add,Int.add_mul];simp
 rw [e]
 generalize (i:Int)*(N-1)=X
 have h1:=Int.mul_ediv_add_emod X b;have h2:=Int.emod_nonneg X (show b≠0 by omega)
 have h3:=Int.emod_lt_of_pos X (show 0<b by omega)
 have e2:(X+(N-1))/b=X/b+(X%b+(N-1))/b:=by
  have:X+(N-1)=(X%b+(N-1))+b*(X/b):=by omega
  rw [this,Int.add_mul_ediv_left _ _ (by omega)]
  omega
 have h4:0<=(X%b+(N-1))/b:=Int.ediv_nonneg (by omega) (by omega)
 have h5:(X%b+(N-1))/b<=(N-1+b-1)/b:=Int.ediv_le_ediv (by omega) (by omega)
 rw [e2];omega
theorem B98 {N b:Int} (hN:1<=N) (hb:1<=b) {i j:Nat} (h:i<=j):rk N b i<=rk N b j:=by
 induction j with
 |zero=>have:i=0:=by omega
        subst this;exact Int.le_refl _
 |succ j ih=>
  rcases Nat.lt_or_ge i (j+1) with hlt|hge
  ·exact Int.le_trans (ih (by omega)) (B99 hN hb j).1
  ·have:i=j+1:=by omega
   subst this;exact Int.le_refl _
theorem C5Y (N b:Int):rk N b 0=1:=by unfold rk;simp
theorem C5X {N:Int} {b:Nat} (hb:1<=b):rk N (b:Int) b=N:=by
 unfold rk;rw [Int.mul_ediv_cancel_left _ (by omega)]
 omega
theorem A2G {N:Int} {b:Nat} (hN:1<=N) (hb:1<=b) {i:Nat} (hi:i<=b):1<=rk N (b:Int) i/\rk N (b:Int) i<=N:=by
 have h1:=B98 hN (show (1:Int)<=(b:Int) by omega) (Nat.zero_le i)
 have h2:=B98 hN (show (1:Int)<=(b:Int) by omega) hi
 rw [C5Y] at h1;rw [C5X hb] at h2;exact ⟨h1,h2⟩
open Classical in
noncomputable def O6 (l:List B0) (n:Int):Nat:=if h: ∃k,A4R l n k then Classical.choose h else 0
theorem A4u {l:List B0} {N n:Int} (h:Y0 l N) (hn:1<=n/\n<=N) (hl:l.length<=1048576):A4R l n (O6 l n):=by
 obtain ⟨k,hk,_⟩:=B6L h hn hl;unfold O6;rw [dif_pos ⟨k,hk⟩];exact Classical.choose_spec (⟨k,hk⟩: ∃k,A4R l n k)
section
variable {l:List B0} {N:Int} (h:Y0 l N) (hl:l.length<=1048576) (hpos:0<l.length) {b:Nat} (hb1:1<=b) (hb2:b<=65536)
include h hl hpos hb1 hb2
omit hl in
theorem C8K {i:Nat} (hi:i<=b):A2 (1+A2 (Int.tdiv (A2 ((i:Int)*A2 (N-1))) (b:Int)))=rk N (b:Int) i:=by
 have hN:1<=N:=by have:=h.rng 0 hpos;omega
 have hN1:=h.n1;have e1:A2 (N-1)=N-1:=by rw [A7]<;>omega
 have hX0:0<=(i:Int)*(N-1):=Int.mul_nonneg (by omega) (by omega)
 have hX1:(i:Int)*(N-1)<=65536*1099511627776:=Int.mul_le_mul (by omega) (by omega) (by omega) (by omega)
 have e2:A2 ((i:Int)*(N-1))=(i:Int)*(N-1):=by rw [A7]<;>omega
 have e3:Int.tdiv ((i:Int)*(N-1)) (b:Int)=((i:Int)*(N-1))/(b:Int):=Int.tdiv_eq_ediv_of_nonneg hX0;have hr:=A2G hN hb1 hi;unfold rk at hr;rw [e1,e2,e3,A7 (n:=((i:Int)*(N-1))/(b:Int)) (by omega) (by omega),A7 (by omega) (by omega)]
 rfl
theorem C5J: ∀i,i+1<b+1->O6 l (rk N (b:Int) i)<=O6 l (rk N (b:Int) (i+1)):=fun i hi=>by
 have hN:1<=N:=by have:=h.rng 0 hpos;omega
 exact C64 (B99 hN (by omega) i).1 (A4u h (A2G hN hb1 (by omega)) hl) (A4u h (A2G hN hb1 (by omega)) hl)
theorem B8W (r:C8) (hr1:r.Ac=l) (hr2:r.N=N):
  A9v r (b:Int) (-1) 0 0 []=some (⟨N,(T6 (fun i=>O6 l (rk N (b:Int) i)) (b+1)).map (D7 l)⟩,0):=by
 have hN:1<=N:=by have:=h.rng 0 hpos;omega
 unfold A9v;obtain ⟨v,hv,hQ⟩:=T8 (f:=fun s:Int×Int×Int×List B0=>A49 r (b:Int) s.1 s.2.1 s.2.2.1 s.2.2.2)
  (fun s=> ∃i:Nat,i<=b+1/\s=(if i=0 then-1 else (O6 l (rk N (b:Int) (i-1)):Int),if i=0 then 0 else (O6 l (rk N (b:Int) (i-1)):Int),(i:Int),(T6 (fun i=>O6 l (rk N (b:Int) i)) i).map (D7 l)))
  (fun s=>b+1-s.2.2.1.toNat) (fun v=>v=(⟨N,(T6 (fun i=>O6 l (rk N (b:Int) i)) (b+1)).map (D7 l)⟩,0)) (-1,0,0, []) ⟨0,Nat.zero_le _,rfl⟩ (by
   rintro _ ⟨i,hi,rfl⟩;simp only;unfold A49;rw [hr1,hr2]
   by_cases hlt:i<=b
   ·left;rw [D3h (by omega:(i:Int)<=(b:Int)),D3g,O1 (by rw [D3e];omega),C8K h hpos hb1 hb2 hlt]
    have hn:=A2G hN hb1 hlt;have hpl:=A4u h hn hl;have hplace:A5a l (rk N (b:Int) i) (if i=0 then 0 else (O6 l (rk N (b:Int) (i-1)):Int))=some (O6 l (rk N (b:Int) i):Int):=by
     by_cases h0:i=0
     ·rw [if_pos h0];obtain ⟨k,k1,k2,_⟩:=B6L h hn hl;rw [k2,A7v k1 hpl]
     ·rw [if_neg h0];have hprev:=A4u h (A2G hN hb1 (show i-1<=b by omega)) hl
      have hle:rk N (b:Int) (i-1)<=rk N (b:Int) i:=B98 hN (by omega) (by omega)
      obtain ⟨k,_,k1,k2⟩:=B1T h hn hl hprev.lt (fun j hj=>C5x hle (hprev.low j hj));rw [k2,A7v k1 hpl]
    rw [hplace];simp only [D3c];have ew:A2 ((i:Int)+1)=((i+1:Nat):Int):=by rw [A7]<;>omega
    have hkl:=B3B (fun i=>O6 l (rk N (b:Int) i)) i;rw [ew]
    by_cases hne:i=0\/O6 l (rk N (b:Int) i)≠O6 l (rk N (b:Int) (i-1))
    ·have c:((O6 l (rk N (b:Int) i):Int) !=(if i=0 then-1 else (O6 l (rk N (b:Int) (i-1)):Int)))=true:=by
      rw [bne_iff_ne];rcases hne with h0|h0
      ·rw [if_pos h0];omega
      ·split<;>omega
     rw [c,D3g,P7 hpl.lt];simp only [D3c];rw [O1 (by rw [D3e,D3Z,D3R];omega)]
     refine ⟨_,rfl,⟨i+1,by omega, ?_⟩,by show b+1-(((i+1:Nat):Int)).toNat<b+1-(i:Int).toNat;omega⟩
     have hk:T6 (fun i=>O6 l (rk N (b:Int) i)) (i+1)=T6 (fun i=>O6 l (rk N (b:Int) i)) i++ [O6 l (rk N (b:Int) i)]:=by
      show _++(if _ then _ else _)=_
      rw [if_pos hne]
     rw [hk,D4b];simp
    ·have hne' :=not_or.1 hne;have he:O6 l (rk N (b:Int) i)=O6 l (rk N (b:Int) (i-1)):=Classical.not_not.1 hne'.2;have c:((O6 l (rk N (b:Int) i):Int) !=(if i=0 then-1 else (O6 l (rk N (b:Int) (i-1)):Int)))=false:=by
      rw [bne_eq_false_iff_eq,if_neg hne'.1,he]
     rw [c,D3f];refine ⟨_,rfl,⟨i+1,by omega, ?_⟩,by show b+1-(((i+1:Nat):Int)).toNat<b+1-(i:Int).toNat;omega⟩
     have hk:T6 (fun i=>O6 l (rk N (b:Int) i)) (i+1)=T6 (fun i=>O6 l (rk N (b:Int) i)) i:=by
      show _++(if _ then _ else _)=_
      rw [if_neg hne,List.append_nil]
     rw [hk,if_neg hne'.1];simp [he]
   ·right;have hi2:i=b+1:=by omega
    subst hi2;rw [D3j (by omega),D3f]
    exact ⟨_,rfl,rfl⟩)
 rw [hv,hQ]
theorem B97 (r:C8) (hr1:r.Ac=l) (hr2:r.N=N):
  A8q r (b:Int) (-1) 0 []=some (⟨N,(T6 (fun i=>O6 l (rk N (b:Int) i)) (b+1)).map (D7 l)⟩,0):=by
 have hN:1<=N:=by have:=h.rng 0 hpos;omega
 unfold A8q;obtain ⟨v,hv,hQ⟩:=T8 (f:=fun s:Int×Int×List B0=>A7D r (b:Int) s.1 s.2.1 s.2.2)
  (fun s=> ∃i:Nat,i<=b+1/\s=(if i=0 then-1 else (O6 l (rk N (b:Int) (i-1)):Int),(i:Int),(T6 (fun i=>O6 l (rk N (b:Int) i)) i).map (D7 l)))
  (fun s=>b+1-s.2.1.toNat) (fun v=>v=(⟨N,(T6 (fun i=>O6 l (rk N (b:Int) i)) (b+1)).map (D7 l)⟩,0)) (-1,0, []) ⟨0,Nat.zero_le _,rfl⟩ (by
   rintro _ ⟨i,hi,rfl⟩;simp only;unfold A7D;rw [hr1,hr2]
   by_cases hlt:i<=b
   ·left;rw [D3h (by omega:(i:Int)<=(b:Int)),D3g,O1 (by rw [D3e];omega),C8K h hpos hb1 hb2 hlt]
    have hn:=A2G hN hb1 hlt;have hpl:=A4u h hn hl;rw [B5F h hn hl hpl];simp only [D3c];have ew:A2 ((i:Int)+1)=((i+1:Nat):Int):=by rw [A7]<;>omega
    have hkl:=B3B (fun i=>O6 l (rk N (b:Int) i)) i;rw [ew]
    by_cases hne:i=0\/O6 l (rk N (b:Int) i)≠O6 l (rk N (b:Int) (i-1))
    ·have c:decide ((O6 l (rk N (b:Int) i):Int)>(if i=0 then-1 else (O6 l (rk N (b:Int) (i-1)):Int)))=true:=by
      rw [D3e]
      by_cases h0:i=0
      ·rw [if_pos h0];omega
      ·rw [if_neg h0];have h2:O6 l (rk N (b:Int) i)≠O6 l (rk N (b:Int) (i-1)):=by
        rcases hne with g|g
        ·exact absurd g h0
        ·exact g
       have:=C5J h hl hpos hb1 hb2 (i-1) (by omega)
       rw [show i-1+1=i by omega] at this
       omega
     rw [c,D3g,P7 hpl.lt];simp only [D3c];rw [O1 (by rw [D3e,D3Z,D3R];omega)]
     refine ⟨_,rfl,⟨i+1,by omega, ?_⟩,by show b+1-(((i+1:Nat):Int)).toNat<b+1-(i:Int).toNat;omega⟩
     have hk:T6 (fun i=>O6 l (rk N (b:Int) i)) (i+1)=T6 (fun i=>O6 l (rk N (b:Int) i)) i++ [O6 l (rk N (b:Int) i)]:=by
      show _++(if _ then _ else _)=_
      rw [if_pos hne]
     rw [hk,D4b];simp
    ·have hne' :=not_or.1 hne;have he:O6 l (rk N (b:Int) i)=O6 l (rk N (b:Int) (i-1)):=Classical.not_not.1 hne'.2;have c:decide ((O6 l (rk N (b:Int) i):Int)>(if i=0 then-1 else (O6 l (rk N (b:Int) (i-1)):Int)))=false:=by
      rw [D3t,if_neg hne'.1,he];omega
     rw [c,D3f];refine ⟨_,rfl,⟨i+1,by omega, ?_⟩,by show b+1-(((i+1:Nat):Int)).toNat<b+1-(i:Int).toNat;omega⟩
     have hk:T6 (fun i=>O6 l (rk N (b:Int) i)) (i+1)=T6 (fun i=>O6 l (rk N (b:Int) i)) i:=by
      show _++(if _ then _ else _)=_
      rw [if_neg hne,List.append_nil]
     rw [hk,if_neg hne'.1];simp [he]
   ·right;have hi2:i=b+1:=by omega
    subst hi2;rw [D3j (by omega),D3f]
    exact ⟨_,rfl,rfl⟩)
 rw [hv,hQ]
theorem C9N:Y0 ((T6 (fun i=>O6 l (rk N (b:Int) i)) (b+1)).map (D7 l)) N/\
  P2 ((T6 (fun i=>O6 l (rk N (b:Int) i)) (b+1)).map (D7 l))<=P2 l+(N-1+(b:Int)-1)/(b:Int):=by
 have hN:1<=N:=by have:=h.rng 0 hpos;omega
 have hkp:=D0X (K:=fun i=>O6 l (rk N (b:Int) i)) (M:=b+1) (C5J h hl hpos hb1 hb2) (b+1) (by omega) (D3U _)
 generalize hc:T6 (fun i=>O6 l (rk N (b:Int) i)) (b+1)=c at hkp⊢
 have hpl: ∀t,t<=b->A4R l (rk N (b:Int) t) (O6 l (rk N (b:Int) t)):=fun t ht=>A4u h (A2G hN hb1 ht) hl;have hent: ∀i,i<c.length->D7 (c.map (D7 l)) i=D7 l (c.getD i 0):=fun i hi=>by
  rw [B52 (by rw [D3Z];exact hi),List.getElem_map]
  simp [D38,hi]
 have hk0:O6 l (rk N (b:Int) 0)=0:=by
  have:=hpl 0 (by omega)
  rw [C5Y] at this⊢;refine A7v this ⟨hpos,fun j hj=>by omega,fun h1=> ?_⟩
  have g1:=h.rng 0 hpos;have g2:=h.rng 1 h1;have g3:=h.first hpos;have g4:=h.up 0 h1;unfold A20;omega
 have hkb:O6 l (rk N (b:Int) b)=l.length-1:=by
  have:=hpl b (D3U _);rw [C5X hb1] at this⊢;refine A7v this ⟨by omega,fun j hj=> ?_,fun h1=>by omega⟩
  have g1:=h.rng (j+1) (by omega)
  have g2:=h.last hpos;have g3:=A8Z h (show j<l.length-1 by omega) (by omega)
  unfold A20;omega
 have hmem: ∀i,i<c.length-> ∃t,t<=b/\c.getD i 0=O6 l (rk N (b:Int) t):=fun i hi=>by
  cases i with
  |zero=>exact ⟨0,by omega,hkp.first⟩
  |succ i=>
   obtain ⟨t,t1,t2,t3,t4,_⟩:=hkp.step i hi;exact ⟨t,by omega,t4⟩
 have hlt: ∀i,i<c.length->c.getD i 0<l.length:=fun i hi=>by
  obtain ⟨t,t1,t2⟩:=hmem i hi;rw [t2];exact (hpl t t1).lt
 refine ⟨⟨h.n0,h.n1,by rw [D3Z];constructor<;>intro hx<;>(have:=hkp.pos;omega),fun i hi=> ?_,fun i hi=> ?_,fun h0=> ?_,fun h0=> ?_⟩, ?_⟩
 ·rw [D3Z] at hi;rw [hent i hi];exact h.rng _ (hlt i hi)
 ·rw [D3Z] at hi;rw [hent i (by omega),hent (i+1) hi]
  obtain ⟨t,t1,t2,t3,t4,t5⟩:=hkp.step i hi;refine A8Z h ?_ (hlt (i+1) hi);rw [t3,t4];exact t5
 ·rw [D3Z] at h0;rw [hent 0 h0,hkp.first];show (D7 l (O6 l (rk N (b:Int) 0))).Be=1;rw [hk0];exact h.first hpos
 ·rw [D3Z] at h0⊢;rw [hent _ (by omega),hkp.last,D3T]
  show (D7 l (O6 l (rk N (b:Int) b))).Bf=N;rw [hkb];exact h.last hpos
 ·have hG:1<=P2 l:=by unfold P2;rw [if_neg (by omega)];exact (A76 _).1
  have hC:0<=(N-1+(b:Int)-1)/(b:Int):=Int.ediv_nonneg (by omega) (by omega)
  have key: ∀m,m<=c.length->A0K (c.map (D7 l)) m<=P2 l+(N-1+(b:Int)-1)/(b:Int):=by
   intro m
   induction m with
   |zero=>intro _;show (1:Int)<=_;omega
   |succ m ih=>
    intro hm;unfold A0K
    by_cases h0:m=0
    ·rw [if_pos h0];omega
    ·rw [if_neg h0];have hih:=ih (by omega)
     obtain ⟨t,t1,t2,t3,t4,t5⟩:=hkp.step (m-1) (by omega)
     rw [show m-1+1=m by omega] at t4
     have a1:=(B8T h (A2G hN hb1 (show t<=b by omega)) (hpl t (by omega))).2
     have a2:=(B8T h (A2G hN hb1 (show t-1<=b by omega)) (hpl (t-1) (by omega))).1
     have a3:=(B99 hN (show (1:Int)<=(b:Int) by omega) (t-1)).2
     rw [show t-1+1=t by omega] at a3
     have e1:(D7 (c.map (D7 l)) m).Be=(D7 l (O6 l (rk N (b:Int) t))).Be:=by rw [hent m (by omega),t4]
     have e2:(D7 (c.map (D7 l)) (m-1)).Bf=(D7 l (O6 l (rk N (b:Int) (t-1)))).Bf:=by rw [hent (m-1) (by omega),t3]
     rw [e1,e2];split<;>omega
  unfold P2;rw [D3Z];have:=key c.length (D3U _);unfold P2 at this hG;split<;>omega
end
end Go.Win
namespace Go.Win
open Go.Vc Go.Dec
theorem C5K {l:List B0} {N:Int} (h:Y0 l N) {m:Nat} (hm:m<l.length):N9 l m<N9 l (m+1):=by
 unfold N9;rw [if_neg (show¬m+1=0 by omega),D3T]
 split
 ·have:=h.rng m hm;omega
 ·have:=h.up (m-1) (by omega)
  rw [show m-1+1=m by omega] at this
  omega
theorem C5E {l:List B0} {N:Int} (h:Y0 l N) {m:Nat} (hm:m<l.length):P3 l N m<P3 l N (m+1):=by
 unfold P3;rw [if_pos hm];split
 ·have:=h.up m (by omega);omega
 ·have:=h.rng m hm;omega
theorem C0U {l:List B0} {N:Int} (h:Y0 l N):N9 l l.length=N:=by
 unfold N9;split
 ·rename_i h0;exact (h.nil.1 h0).symm
 ·exact h.last (by omega)
theorem B8A {l:List B0} {N:Int} (h:Y0 l N):P3 l N 0=0:=by
 unfold P3;split
 ·rename_i h0;have:=h.first h0;omega
 ·exact h.nil.1 (by omega)
theorem C6S {A B:List B0} {a b:Int} (k:Nat):(me A B a b k).V=cond (tk A B (F9 A B k)) (D7 A (F9 A B k).1).V (D7 B (F9 A B k).2).V:=rfl
theorem C9z {A B:List B0} {a b:Int} (hA:Y0 A a) (hB:Y0 B b) (hs:a+b<=1099511627776):Y0 (meL A B a b (A.length+B.length)) (a+b):=by
 have a0:=hA.n0;have b0:=hB.n0;refine ⟨by omega,hs, ?_,fun i hi=> ?_,fun i hi=> ?_,fun h0=> ?_,fun h0=> ?_⟩
 ·rw [K2];have h1:=hA.nil;have h2:=hB.nil;omega
 ·rw [K2] at hi;rw [A3a A B a b hi];obtain ⟨i1,i2,i3⟩:=A6n A B i (by omega)
  cases ht:tk A B (F9 A B i) with
  |true=>
   obtain ⟨t1,_⟩:=A3q i1 i2 (by omega) ht
   rw [B54 hi ht];have:=hA.rng _ t1;have:=A7i hB i2;simp only;omega
  |false=>
   obtain ⟨t1,_⟩:=A1F i2 ht;rw [B3G hi ht];have:=hB.rng _ t1;have:=A7i hA i1;simp only;omega
 ·rw [K2] at hi;rw [A3a A B a b (show i<A.length+B.length by omega),A3a A B a b hi]
  obtain ⟨i1,i2,i3⟩:=A6n A B i (by omega)
  obtain ⟨j1,j2,j3⟩:=A6n A B (i+1) (by omega)
  obtain ⟨v1,v2⟩:=C8F hA hB (i+1) (by omega)
  have estep:F9 A B (i+1)=S5 A B (F9 A B i):=rfl;have estep2:F9 A B (i+1+1)=S5 A B (F9 A B (i+1)):=rfl;refine ⟨?_, ?_, ?_⟩
  ·rw [C6S,C6S];cases ht:tk A B (F9 A B i) with
   |true=>
    have e:F9 A B (i+1)=((F9 A B i).1+1,(F9 A B i).2):=by rw [estep];unfold S5;rw [ht];rfl
    cases ht2:tk A B (F9 A B (i+1)) with
    |true=>
     obtain ⟨t1,_⟩:=A3q j1 j2 (by omega) ht2
     simp only [D3g];rw [e] at t1⊢;exact (hA.up _ t1).1
    |false=>
     obtain ⟨t1,_⟩:=A1F j2 ht2;simp only [D3g,D3f];exact v2 _ (by rw [e];exact D3u _) t1
   |false=>
    have e:F9 A B (i+1)=((F9 A B i).1,(F9 A B i).2+1):=by rw [estep];unfold S5;rw [ht];rfl
    cases ht2:tk A B (F9 A B (i+1)) with
    |true=>
     obtain ⟨t1,_⟩:=A3q j1 j2 (by omega) ht2
     simp only [D3g,D3f];exact Int.le_of_lt (v1 _ (by rw [e];exact D3u _) t1)
    |false=>
     obtain ⟨t1,_⟩:=A1F j2 ht2;simp only [D3f];rw [e] at t1⊢;exact (hB.up _ t1).1
  ·show N9 A (F9 A B (i+1)).1+N9 B (F9 A B (i+1)).2<N9 A (F9 A B (i+1+1)).1+N9 B (F9 A B (i+1+1)).2;rw [estep2];unfold S5;cases ht2:tk A B (F9 A B (i+1)) with
   |true=>
    obtain ⟨t1,_⟩:=A3q j1 j2 (by omega) ht2
    have:=C5K hA t1;simp only [D3g];omega
   |false=>
    obtain ⟨t1,_⟩:=A1F j2 ht2;have:=C5K hB t1;simp only [D3f];omega
  ·show P3 A a (F9 A B i).1+P3 B b (F9 A B i).2+1<P3 A a (F9 A B (i+1)).1+P3 B b (F9 A B (i+1)).2+1;rw [estep];unfold S5;cases ht:tk A B (F9 A B i) with
   |true=>
    obtain ⟨t1,_⟩:=A3q i1 i2 (by omega) ht
    have:=C5E hA t1;simp only [D3g];omega
   |false=>
    obtain ⟨t1,_⟩:=A1F i2 ht;have:=C5E hB t1;simp only [D3f];omega
 ·rw [K2] at h0;rw [A3a A B a b h0];show P3 A a 0+P3 B b 0+1=1;rw [B8A hA,B8A hB]
  rfl
 ·rw [K2] at h0⊢;rw [A3a A B a b (by omega)]
  show N9 A (F9 A B (A.length+B.length-1+1)).1+N9 B (F9 A B (A.length+B.length-1+1)).2=a+b;rw [show A.length+B.length-1+1=A.length+B.length by omega]
  obtain ⟨i1,i2,i3⟩:=A6n A B (A.length+B.length) (D3U _);rw [show (F9 A B (A.length+B.length)).1=A.length by omega,show (F9 A B (A.length+B.length)).2=B.length by omega,C0U hA,C0U hB]
theorem D2P {l:List B0} {N:Int} (h:Y0 l N) {i j:Nat} (hij:i<=j) (hj:j<l.length):(D7 l i).V<=(D7 l j).V:=by
 rcases Nat.lt_or_ge i j with h1|h1
 ·exact (A8Z h h1 hj).1
 ·have:i=j:=by omega
  subst this;exact Int.le_refl _
theorem C3n {K:Nat->Nat}: ∀ {m x:Nat},x∈T6 K m-> ∃i,i<m/\x=K i
 |0,x,h=>by cases h
 |m+1,x,h=>by
  unfold T6 at h;rcases D3Y.1 h with h1|h1
  ·obtain ⟨i,i1,i2⟩:=C3n h1;exact ⟨i,by omega,i2⟩
  ·split at h1
   ·simp only [List.mem_singleton] at h1;exact ⟨m,by omega,h1⟩
   ·cases h1
end Go.Win
namespace Go.Win
open Go.Vc Go.Dec
def Y8 {β:Type} (lv:β->Int) (X:List β) (j:Int):Nat:=X.countP fun x=>lv x==j
theorem A1x {β:Type} (lv:β->Int) (X Y:List β) (j:Int):Y8 lv (X++Y) j=Y8 lv X j+Y8 lv Y j:=List.countP_append
theorem B1J {β:Type} (lv:β->Int) (x:β) (X:List β) (j:Int):Y8 lv (x::X) j=Y8 lv X j+(if lv x=j then 1 else 0):=by
 unfold Y8;rw [List.countP_cons]
 by_cases h:lv x=j
 ·rw [if_pos h,if_pos (D36.2 h)]
 ·rw [if_neg h,if_neg (by rw [D36];exact h)]
theorem A60 {β:Type} {lv:β->Int} {X:List β} {j:Int} (h:∀x∈X,lv x≠j):Y8 lv X j=0:=by
 unfold Y8;rw [List.countP_eq_zero];intro x hx;rw [D36];exact h x hx
theorem C2V {β:Type} {lv:β->Int} {X:List β} {j:Int} (h:∀x∈X,lv x=j):Y8 lv X j=X.length:=by
 unfold Y8;rw [List.countP_eq_length];intro x hx;rw [D36];exact h x hx
structure CI {β:Type} (lv tm:β->Int) (Q:Int->Prop) (k l:Int) (X:List β):Prop where
 le: ∀j:Int,0<=j->(Y8 lv X j:Int)<=k+1+(if j=l then 1 else 0)
 ge: ∀x∈X,∀j:Int,0<=j->j<lv x->k<=(Y8 lv X j:Int)
 srt:X.Pairwise (fun a b=>tm a<=tm b)
 all: ∀x∈X,Q (tm x)
theorem B5Z {β:Type} {lv tm:β->Int} {Q:Int->Prop} {k l:Int} {A B C:List β} (hA:∀x∈A,l<lv x) (hB:∀x∈B,lv x=l) (hC:∀x∈C,lv x<l) (hb:(B.length:Int)<k+2) (h:CI lv tm Q k l (A++B++C)):CI lv tm Q k (-1) (A++B++C):=by
 refine ⟨fun j hj=> ?_,h.ge,h.srt,h.all⟩;have:=h.le j hj;rw [if_neg (by omega)]
 by_cases e:j=l
 ·subst e;rw [A1x,A1x,A60 (X:=A) (fun x hx=>by have:=hA x hx;omega),C2V hB,A60 (X:=C) (fun x hx=>by have:=hC x hx;omega)]
  omega
 ·rw [if_neg e] at this;exact this
theorem C5w {β:Type} {lv tm:β->Int} {Q:Int->Prop} {k l:Int} (hl:0<=l) {A D C:List β} {b1 b2 m:β} (hA:∀x∈A,l<lv x) (hB:∀x∈b1::b2::D,lv x=l) (hC:∀x∈C,lv x<l) (hb:¬(((b1::b2::D).length:Nat):Int)<k+2)
  (hm:lv m=l+1) (ht:tm m=tm b2) (h:CI lv tm Q k l (A++(b1::b2::D)++C)):CI lv tm Q k (l+1) (A++m::(D++C)):=by
 have h1:=hB b1 (by simp)
 have h2:=hB b2 (by simp)
 have step: ∀j,Y8 lv (A++(b1::b2::D)++C) j+(if l+1=j then 1 else 0)=Y8 lv (A++m::(D++C)) j+(if l=j then 2 else 0):=fun j=>by
  rw [A1x,A1x,B1J,B1J,A1x,B1J,A1x,h1,h2,hm];split<;>split<;>omega
 have hl2:(Y8 lv (A++(b1::b2::D)++C) l:Int)=((b1::b2::D).length:Nat):=by
  rw [A1x,A1x,A60 (X:=A) (fun x hx=>by have:=hA x hx;omega),C2V hB,A60 (X:=C) (fun x hx=>by have:=hC x hx;omega)]
  omega
 have lel:=h.le l hl;rw [if_pos rfl] at lel;have s1:=step l;rw [if_neg (by omega),if_pos rfl] at s1
 have hk1:(Y8 lv (A++m::(D++C)) l:Int)=k:=by omega
 have srt:=h.srt;have hmem: ∀x∈A++m::(D++C),x=m\/x∈A++(b1::b2::D)++C:=fun x hx=>by
  simp only [D3Y,List.mem_cons] at hx⊢;rcases hx with hx|hx|hx|hx
  ·exact .inr (.inl (.inl hx))
  ·exact .inl hx
  ·exact .inr (.inl (.inr (.inr (.inr hx))))
  ·exact .inr (.inr hx)
 have hm2:b2∈A++(b1::b2::D)++C:=by simp
 have hm1:b1∈A++(b1::b2::D)++C:=by simp
 refine ⟨fun j hj=> ?_,fun x hx j hj hjx=> ?_, ?_,fun x hx=> ?_⟩
 ·have a:=h.le j hj;have s:=step j
  by_cases e1:j=l
  ·subst e1;rw [hk1,if_neg (by omega)]
   omega
  ·rw [if_neg e1] at a;split<;>split at s<;>split at s<;>omega
 ·by_cases e1:j=l
  ·rw [e1,hk1];exact Int.le_refl k
  ·have s:=step j;have g:k<=(Y8 lv (A++(b1::b2::D)++C) j:Int):=by
    rcases hmem x hx with e|e
    ·rw [e,hm] at hjx;exact h.ge b1 hm1 j hj (by omega)
    ·exact h.ge x e j hj hjx
   split at s<;>split at s<;>omega
 ·rw [D3G] at srt;obtain ⟨p1,p2,p3⟩:=List.pairwise_append.1 srt;rw [List.cons_append,List.cons_append] at p2 p3;have q1:=(List.pairwise_cons.1 p2).2;have q2:=List.pairwise_cons.1 q1;refine List.pairwise_append.2 ⟨p1,List.pairwise_cons.2 ⟨fun y hy=>by rw [ht];exact q2.1 y hy,q2.2⟩,fun x hx y hy=> ?_⟩
  rcases List.mem_cons.1 hy with e|e
  ·rw [e,ht];exact p3 x hx b2 (by simp)
  ·exact p3 x hx y (by simp [e])
 ·rcases hmem x hx with e|e
  ·rw [e,ht];exact h.all b2 hm2
  ·exact h.all x e
theorem C7I {β:Type} {lv tm:β->Int} {Q:Int->Prop} {k:Int} {P X:List β} (hs:(P++X).Pairwise (fun a b=>lv b<=lv a)) (h:CI lv tm Q k (-1) (P++X)):CI lv tm Q k (-1) X:=by
 obtain ⟨_,_,p3⟩:=List.pairwise_append.1 hs;refine ⟨fun j hj=> ?_,fun x hx j hj hjx=> ?_,(List.pairwise_append.1 h.srt).2.1,fun x hx=>h.all x (by simp [hx])⟩
 ·have:=h.le j hj;rw [A1x] at this;omega
 ·have:=h.ge x (by simp [hx]) j hj hjx
  rw [A1x,A60 (X:=P) (fun y hy=>by have:=p3 y hy x hx;omega)] at this
  omega
theorem B9B {β:Type} {lv tm:β->Int} {Q Q' :Int->Prop} {k l:Int} {X:List β} (h:CI lv tm Q k l X) (hq:∀t,Q t->Q' t):CI lv tm Q' k l X:=⟨h.le,h.ge,h.srt,fun x hx=>hq _ (h.all x hx)⟩
theorem C7H {β:Type} {lv tm:β->Int} {Q:Int->Prop} {k:Int} {X:List β} {m:β} (h:CI lv tm Q k (-1) X) (hm:lv m=0) (ht:∀x∈X,tm x<=tm m) (hq:Q (tm m)):CI lv tm Q k 0 (X++ [m]):=by
 have e: ∀j,Y8 lv (X++ [m]) j=Y8 lv X j+(if (0:Int)=j then 1 else 0):=fun j=>by
  rw [A1x,B1J,hm];show _+(0+_)=_;omega
 refine ⟨fun j hj=> ?_,fun x hx j hj hjx=> ?_,List.pairwise_append.2 ⟨h.srt,by simp,fun x hx y hy=> ?_⟩,fun x hx=> ?_⟩
 ·have:=h.le j hj;rw [if_neg (by omega)] at this
  rw [e];split<;>split<;>omega
 ·rw [e];rcases D3Y.1 hx with g|g
  ·have:=h.ge x g j hj hjx;omega
  ·rw [List.mem_singleton.1 g,hm] at hjx;omega
 ·rw [List.mem_singleton.1 hy];exact ht x hx
 ·rcases D3Y.1 hx with g|g
  ·exact h.all x g
  ·rw [List.mem_singleton.1 g];exact hq
theorem B7y (l:List A3) (j:Nat):E1 l j l.length=(Y8 (fun b:A3=>b.As) l (j:Int):Int):=by
 unfold E1 Y8;rw [List.take_length]
def B6a (t:Int):Prop:=0<=t/\t<=16777216
theorem A3E {l:List A3} {k:Int} (h:Z9 l k):CI (fun b:A3=>b.As) (fun b=>b.T) B6a k (-1) l/\l.Pairwise (fun a b=>b.As<=a.As)/\ ∀x∈l,0<=x.As/\x.As<=30:=by
 obtain ⟨hk,hb,hL⟩:=h;have rng: ∀i,i<l.length->(0<=(el l i).T/\(el l i).T<=16777216/\0<=(el l i).As/\(el l i).As<=30)/\(0<i->(el l (i-1)).T<=(el l i).T/\(el l i).As<=(el l (i-1)).As):=fun i hi=>by
  have:=hb i hi;unfold A0U at this;constructor
  ·have:=fun x=>this (.inl x);omega
  ·intro h0;have:=fun x=>this (.inr ⟨h0,x⟩);omega
 have mono: ∀d i,i+d<l.length->(el l i).T<=(el l (i+d)).T/\(el l (i+d)).As<=(el l i).As:=by
  intro d
  induction d with
  |zero=>intro i _;exact ⟨Int.le_refl _,Int.le_refl _⟩
  |succ d ih=>
   intro i hi;have a:=ih i (by omega)
   have b:=(rng (i+d+1) (by omega)).2 (by omega)
   rw [D3T] at b;rw [show i+(d+1)=i+d+1 by omega]
   omega
 have pw:l.Pairwise (fun a b=>a.T<=b.T/\b.As<=a.As):=by
  rw [List.pairwise_iff_getElem];intro i j hi hj hij;have:=mono (j-i) i (by omega)
  rw [show i+(j-i)=j by omega,K7 hi,K7 hj] at this
  exact this
 have top: ∀x∈l,0<l.length/\x.As<=(el l 0).As:=fun x hx=>by
  obtain ⟨i,hi,rfl⟩:=R9 hx;have:=(mono i 0 (by omega)).2
  rw [Nat.zero_add] at this;exact ⟨by omega,this⟩
 refine ⟨⟨fun j hj=> ?_,fun x hx j hj hjx=> ?_,pw.imp fun h=>h.1,fun x hx=> ?_⟩,pw.imp fun h=>h.2,fun x hx=> ?_⟩
 ·rw [if_neg (by omega)]
  by_cases hz:Y8 (fun b:A3=>b.As) l j=0
  ·rw [hz];omega
  ·have h0:0<l.length/\j<=(el l 0).As:=by
    apply D37;intro hn;refine hz (A60 fun x hx e=>hn ?_);have:=top x hx;exact ⟨this.1,by omega⟩
   have:=hL h0.1 j.toNat (by omega)
   unfold A7g at this;have e:=B7y l j.toNat;rw [show ((j.toNat:Nat):Int)=j by omega] at e
   rw [e] at this;have:=fun x=>this (.inl x);omega
 ·have t:=top x hx;have:=hL t.1 j.toNat (by omega)
  unfold A7g at this;have e:=B7y l j.toNat;rw [show ((j.toNat:Nat):Int)=j by omega] at e
  rw [e] at this;have:=fun y=>this (.inr y);omega
 ·obtain ⟨i,hi,rfl⟩:=R9 hx;have:=(rng i hi).1;exact ⟨this.1,this.2.1⟩
 ·obtain ⟨i,hi,rfl⟩:=R9 hx;have:=(rng i hi).1;exact ⟨this.2.2.1,this.2.2.2⟩
theorem B3M {l:List A3} {k:Int} (hk:1<=k/\k<=128) (h:CI (fun b:A3=>b.As) (fun b=>b.T) B6a k (-1) l) (hs:l.Pairwise (fun a b=>b.As<=a.As)) (hl:∀x∈l,0<=x.As/\x.As<=30):Z9 l k:=by
 refine ⟨hk,fun i hi hb=> ?_,fun h0 j hj hb=> ?_⟩
 ·unfold A0U at hb;have a:=h.all _ (J0 hi);unfold B6a at a;have b:=hl _ (J0 hi);rcases hb with hb|⟨h0,hb⟩
  ·omega
  ·have p1:=List.pairwise_iff_getElem.1 h.srt (i-1) i (by omega) hi (by omega)
   have p2:=List.pairwise_iff_getElem.1 hs (i-1) i (by omega) hi (by omega)
   rw [<-K7,<-K7] at p1 p2;omega
 ·unfold A7g at hb;rw [B7y] at hb;have a:=h.le (j:Int) (by omega)
  rw [if_neg (by omega)] at a
  have b:=h.ge _ (J0 h0) (j:Int) (by omega)
  omega
end Go.Win
namespace Go.Win
open Go.Vc Go.Dec
section
variable {β:Type} (lv:β->Int)
structure A6d (A B C:List β) (l:Int):Prop where
 up: ∀x∈A,l<lv x
 at_: ∀x∈B,lv x=l
 low: ∀x∈C,lv x<l
theorem D1P {A B C:List β} {i:Nat} (h:i<A.length):(A++B++C)[i]? =some A[i]:=by
 rw [D3G,D3B h,D3q h]
theorem D1Q {A B C:List β} {i:Nat} (h:i<B.length):(A++B++C)[A.length+i]? =some B[i]:=by
 rw [D3G,D3C (by omega),D3B (by omega)]
 rw [show A.length+i-A.length=i by omega,D3q h]
theorem D21 {A B C:List β} {i:Nat} (h:i<C.length):(A++B++C)[A.length+B.length+i]? =some C[i]:=by
 rw [D3C (by simp)]
 rw [D3i,show A.length+B.length+i-(A.length+B.length)=i by omega,D3q h]
theorem C09 {R:Type} {f:Int->Option (Int⊕R)} {A B C:List β} {l:Int} (hp:A6d lv A B C l) (K:Option R)
  (h0:A.length=0->f 0=Option.map Sum.inr K)
  (hs:∀(i:Nat) (x:β),(A++B++C)[i]? =some x->i<A.length+B.length->(lv x=l->f ((i+1:Nat):Int)=some (.inl (i:Int)))/\(lv x≠l->i+1=A.length->f ((i+1:Nat):Int)=Option.map Sum.inr K)):
  loop f ((A.length+B.length:Nat):Int)=K:=by
 have key: ∀j,j<=B.length->loop f ((A.length+j:Nat):Int)=K:=by
  intro j
  induction j with
  |zero=>
   intro _;have e:f ((A.length+0:Nat):Int)=Option.map Sum.inr K:=by
    cases hA:A.length with
    |zero=>simpa using h0 hA
    |succ n=>
     have hn:n<A.length:=by omega
     have:=(hs n A[n] (D1P hn) (by omega)).2 (by have:=hp.up A[n] (D31 hn);omega) (by omega)
     simpa using this
   rw [R1,e];cases K<;>rfl
  |succ j ih=>
   intro hj;have hjl:j<B.length:=by omega
   have:=(hs (A.length+j) B[j] (D1Q hjl) (by omega)).1 (hp.at_ _ (D31 hjl))
   rw [show (A.length+(j+1):Nat)=(A.length+j+1:Nat) by omega,M3 this]
   exact ih (by omega)
 exact key B.length (D3U _)
theorem C22 {R:Type} {f:Int×Int×Int->Option ((Int×Int×Int)⊕R)} {A B C:List β} {l:Int} (hp:A6d lv A B C l) (K:Option R)
  (hs:∀(i:Nat) (x:β) (a n:Int),(A++B++C)[i]? =some x->(0<=n/\n<=i)->f (a,n,(i:Int))=some (.inl (if lv x=l then (if a<0 then ((i:Int),n+1,((i+1:Nat):Int)) else (a,n+1,((i+1:Nat):Int))) else (a,n,((i+1:Nat):Int)))))
  (hd:f (if B.length=0 then-1 else (A.length:Int),(B.length:Int),((A++B++C).length:Int))=Option.map Sum.inr K):
  loop f (-1,0,0)=K:=by
 have hlen:(A++B++C).length=A.length+B.length+C.length:=by simp [Nat.add_assoc]
 have key: ∀k i:Nat,i+k=(A++B++C).length->loop f (if A.length<i/\0<B.length then (A.length:Int) else-1,((min (i-A.length) B.length:Nat):Int),(i:Int))=K:=by
  intro k
  induction k with
  |zero=>
   intro i hi;have e1:(if A.length<i/\0<B.length then (A.length:Int) else-1)=(if B.length=0 then-1 else (A.length:Int)):=by
    by_cases hb:B.length=0
    ·rw [if_pos hb,if_neg (by omega)]
    ·rw [if_neg hb,if_pos (by omega)]
   have e2:min (i-A.length) B.length=B.length:=by omega
   rw [e1,e2,show i=(A++B++C).length by omega,R1,hd]
   cases K<;>rfl
  |succ k ih=>
   intro i hi;have hil:i<(A++B++C).length:=by omega
   have hx:(A++B++C)[i]? =some (A++B++C)[i]:=D3q hil;have st:=hs i _ (if A.length<i/\0<B.length then (A.length:Int) else-1) ((min (i-A.length) B.length:Nat):Int) hx ⟨by omega,by omega⟩
   rw [M3 st,<-ih (i+1) (by omega)]
   congr 1
   by_cases h1:i<A.length
   ·have hv:lv (A++B++C)[i]≠l:=by
     have e:=D1P (B:=B) (C:=C) h1;rw [hx] at e;have:=hp.up _ (D31 h1);rw [<-D3V e] at this;omega
    have e1:(if A.length<i/\0<B.length then (A.length:Int) else-1)= -1:=if_neg (by omega)
    have e3:(if A.length<i+1/\0<B.length then (A.length:Int) else-1)= -1:=if_neg (by omega)
    rw [if_neg hv,e1,e3];simp only [Prod.mk.injEq,true_and,and_true];omega
   ·by_cases h2:i<A.length+B.length
    ·have hv:lv (A++B++C)[i]=l:=by
      have e:=D1Q (A:=A) (C:=C) (show i-A.length<B.length by omega)
      rw [show A.length+(i-A.length)=i by omega,hx] at e
      rw [D3V e];exact hp.at_ _ (D31 _)
     rw [if_pos hv];have e3:(if A.length<i+1/\0<B.length then (A.length:Int) else-1)=(A.length:Int):=if_pos (by omega)
     rw [e3]
     by_cases h3:i=A.length
     ·have e1:(if A.length<i/\0<B.length then (A.length:Int) else-1)= -1:=if_neg (by omega)
      rw [e1,if_pos (by decide)]
      simp only [Prod.mk.injEq,and_true];exact ⟨by omega,by omega⟩
     ·have e1:(if A.length<i/\0<B.length then (A.length:Int) else-1)=(A.length:Int):=if_pos (by omega)
      rw [e1,if_neg (by omega)]
      simp only [Prod.mk.injEq,true_and,and_true];omega
    ·have hv:lv (A++B++C)[i]≠l:=by
      have e:=D21 (A:=A) (B:=B) (show i-(A.length+B.length)<C.length by omega)
      rw [show A.length+B.length+(i-(A.length+B.length))=i by omega,hx] at e
      have:=hp.low _ (D31 (show i-(A.length+B.length)<C.length by omega))
      rw [<-D3V e] at this;omega
     rw [if_neg hv];have e1:(A.length<i/\0<B.length)↔(A.length<i+1/\0<B.length):=by omega
     simp only [e1,Prod.mk.injEq,true_and,and_true];omega
 have:=key (A++B++C).length 0 (by omega)
 simpa using this
end
theorem C23 {β:Type} (b1 b2 m:β) (D:List β): ∀A:List β,((A++b1::b2::D).set A.length m).take (A.length+1)++(((A++b1::b2::D).set A.length m).drop (A.length+2)).take (((A++b1::b2::D).set A.length m).length-(A.length+2))=A++m::D
 | []=>by simp
 |a::A=>by
  have ih:=C23 b1 b2 m D A;simp only [List.cons_append,D3v,List.set_cons_succ,List.take_succ_cons,show A.length+1+2=(A.length+2)+1 by omega,List.drop_succ_cons,Nat.add_sub_add_right,ih]
abbrev lvB (b:A3):Int:=b.As
abbrev tmB (b:A3):Int:=b.T
def mrg (b:A3) (l:Int):A3:=⟨b.T,l+1⟩
noncomputable def C5G (p1:Int) (v2_0:List A3) (v2_7 v2_8 v5_9:Int):Option (((List A3)×Int×Int)⊕(List A3)):=
 cond (decide ((A2 (v2_7-v5_9))<(A2 (p1+(2:Int))))) (
  some (.inr v2_0))<|
 Option.bind (D0 v2_0 (A2 (v5_9+(1:Int)))) fun x10_5=>
 Option.bind (D0 v2_0 (A2 (v5_9+(1:Int)))) fun x10_7=>
 Option.bind (D0 v2_0 v5_9) fun x10_11=>
 Option.bind (D0 v2_0 v5_9) fun x10_12=>
 ck (decide (0<=(A2 (v5_9+(1:Int)))/\(A2 (v5_9+(1:Int)))<=((v2_0.set (v5_9).toNat (A3.mk x10_7.T (A2 (v2_8+(1:Int))))).length:Int)))<|
 ck (decide (0<=(A2 (v5_9+(2:Int)))/\(A2 (v5_9+(2:Int)))<=((v2_0.set (v5_9).toNat (A3.mk x10_7.T (A2 (v2_8+(1:Int))))).length:Int)))<|
 ck (decide (0<((A2 (v5_9+(1:Int)))).toNat/\((A2 (v5_9+(1:Int)))).toNat+(((v2_0.set (v5_9).toNat (A3.mk x10_7.T (A2 (v2_8+(1:Int))))).drop ((A2 (v5_9+(2:Int)))).toNat).take ((v2_0.set (v5_9).toNat (A3.mk x10_7.T (A2 (v2_8+(1:Int))))).length-((A2 (v5_9+(2:Int)))).toNat)).length<=(v2_0.set (v5_9).toNat (A3.mk x10_7.T (A2 (v2_8+(1:Int))))).length))<|
 some (.inl (((v2_0.set (v5_9).toNat (A3.mk x10_7.T (A2 (v2_8+(1:Int))))).take ((A2 (v5_9+(1:Int)))).toNat++(((v2_0.set (v5_9).toNat (A3.mk x10_7.T (A2 (v2_8+(1:Int))))).drop ((A2 (v5_9+(2:Int)))).toNat).take ((v2_0.set (v5_9).toNat (A3.mk x10_7.T (A2 (v2_8+(1:Int))))).length-((A2 (v5_9+(2:Int)))).toNat))),(A2 (v5_9+(1:Int))),(A2 (v2_8+(1:Int)))))
def insOut (A B C:List A3) (k l:Int):Option (((List A3)×Int×Int)⊕(List A3)):=
 if (B.length:Int)<k+2 then some (.inr (A++B++C)) else some (.inl (A++mrg (B.getD 1 default) l::(B.drop 2++C),((A.length+1:Nat):Int),l+1))
theorem C6H {A B C:List A3} {l k:Int} (hn:(A++B++C).length<=1048576) (hk:1<=k/\k<=128) (hl:0<=l/\l<=30):
  C5G k (A++B++C) ((A.length+B.length:Nat):Int) l (A.length:Int)=
   insOut A B C k l:=by
 have hlen:(A++B++C).length=A.length+B.length+C.length:=by simp [Nat.add_assoc]
 have ek:A2 (k+2)=k+2:=by rw [A7]<;>omega
 have eb:A2 (((A.length+B.length:Nat):Int)-(A.length:Int))=(B.length:Int):=by rw [A7]<;>omega
 unfold C5G;rw [eb,ek];unfold insOut
 by_cases hb:(B.length:Int)<k+2
 ·rw [D3h hb,D3g,if_pos hb]
 ·rw [D3j hb,D3f,if_neg hb]
  match B with
  | []=>simp at hb;omega
  | [b1]=>simp at hb;omega
  |b1::b2::D=>
   rw [show (b1::b2::D).getD 1 default=b2 from rfl,show (b1::b2::D).drop 2=D from rfl];have e1:A2 ((A.length:Int)+1)=((A.length+1:Nat):Int):=by rw [A7]<;>omega
   have e2:A2 ((A.length:Int)+2)=((A.length+2:Nat):Int):=by rw [A7]<;>omega
   have el1:A2 (l+1)=l+1:=by rw [A7]<;>omega
   have eo:A++(b1::b2::D)++C=A++b1::b2::(D++C):=by simp
   rw [eo] at hlen⊢;have g1:D0 (A++b1::b2::(D++C)) (A.length:Int)=some b1:=by simp
   have g2:D0 (A++b1::b2::(D++C)) ((A.length+1:Nat):Int)=some b2:=by
    rw [I2,D3C (by omega)]
    simp
   rw [e1,e2,el1,g1,g2];simp only [D3c,D3S];have hc:=C23 b1 b2 (mrg b2 l) (D++C) A;unfold mrg at hc;rw [hc];have hs:((A++b1::b2::(D++C)).set A.length ⟨b2.T,l+1⟩).length=A.length+(D.length+2)+C.length:=by
    rw [D4c];simp;omega
   have hd:(((A++b1::b2::(D++C)).set A.length ⟨b2.T,l+1⟩).drop (A.length+2)).length=D.length+C.length:=by
    rw [D3K,hs];omega
   have k1:decide (0<=((A.length+1:Nat):Int)/\((A.length+1:Nat):Int)<=(((A++b1::b2::(D++C)).set A.length ⟨b2.T,l+1⟩).length:Int))=true:=D3h (by rw [hs];omega)
   have k2:decide (0<=((A.length+2:Nat):Int)/\((A.length+2:Nat):Int)<=(((A++b1::b2::(D++C)).set A.length ⟨b2.T,l+1⟩).length:Int))=true:=D3h (by rw [hs];omega)
   have k3:decide (0<A.length+1/\A.length+1+((((A++b1::b2::(D++C)).set A.length ⟨b2.T,l+1⟩).drop (A.length+2)).take (((A++b1::b2::(D++C)).set A.length ⟨b2.T,l+1⟩).length-(A.length+2))).length<=((A++b1::b2::(D++C)).set A.length ⟨b2.T,l+1⟩).length)=true:=D3h (by rw [D3E,hd,hs];omega)
   rw [k1,k2,k3]
   rfl
theorem B8V {A B C:List A3} {l k:Int} (hp:A6d lvB A B C l) (hn:(A++B++C).length<=1048576) (hk:1<=k/\k<=128) (hl:0<=l/\l<=30):
  A3B k (A++B++C) ((A.length+B.length:Nat):Int) l ((A.length+B.length:Nat):Int)=
   insOut A B C k l:=by
 rw [<-C6H hn hk hl];have hlen:(A++B++C).length=A.length+B.length+C.length:=by simp [Nat.add_assoc]
 unfold A3B;refine C09 lvB hp _ ?_ ?_
 ·intro h0;unfold A0B;have e0:decide ((0:Int)>0)=false:=by decide
  simp only [e0,gd,D3f,D3c,D3H];rw [h0]
  rfl
 ·intro i x hx hi;have e1:A2 (((i+1:Nat):Int)-1)=(i:Int):=by rw [A7]<;>omega
  have e2:decide (((i+1:Nat):Int)>0)=true:=D3h (by omega)
  unfold A0B;simp only [e1,e2,gd,D3g,I2,hx,D3c,D3N];constructor
  ·intro h;have:(x.As==l)=true:=by simpa using h
   rw [this,D3g]
  ·intro h hA;have:(x.As==l)=false:=by simpa using h
   rw [this,D3f,hA]
   rfl
theorem I9 {α:Type} {p:Prop} [Decidable p] {x:Option α} (h:p):ck (decide p) x=x:=by rw [D3h h];rfl
noncomputable def C5V (p1:Int) (v2_7:List A3) (v2_8 v6_9 v6_10:Int):Option (((List A3)×Int)⊕(List A3)):=
 cond (decide (v6_10<=(A2 (p1+(1:Int))))) (
  some (.inr v2_7))<|
 Option.bind (D0 v2_7 (A2 (v6_9+(1:Int)))) fun x16_3=>
 Option.bind (D0 v2_7 (A2 (v6_9+(1:Int)))) fun x16_5=>
 ck (decide (0<=v6_9/\v6_9<=(v2_7.length:Int)))<|
 ck (decide ((([]:List A3).length+(v2_7.take (v6_9).toNat).length)*16<=140737488355328))<|
 ck (decide (((([]:List A3)++(v2_7.take (v6_9).toNat)).length+ [(A3.mk x16_5.T (A2 (v2_8+(1:Int))))].length)*16<=140737488355328))<|
 ck (decide (0<=(A2 (v6_9+(2:Int)))/\(A2 (v6_9+(2:Int)))<=(v2_7.length:Int)))<|
 ck (decide ((((([]:List A3)++(v2_7.take (v6_9).toNat))++ [(A3.mk x16_5.T (A2 (v2_8+(1:Int))))]).length+(v2_7.drop ((A2 (v6_9+(2:Int)))).toNat).length)*16<=140737488355328))<|
 some (.inl ((((([]:List A3)++(v2_7.take (v6_9).toNat))++ [(A3.mk x16_5.T (A2 (v2_8+(1:Int))))])++(v2_7.drop ((A2 (v6_9+(2:Int)))).toNat)),(A2 (v2_8+(1:Int)))))
def B5E (A B C:List A3) (k l:Int):Option (((List A3)×Int)⊕(List A3)):=
 if (B.length:Int)<k+2 then some (.inr (A++B++C)) else some (.inl (A++mrg (B.getD 1 default) l::(B.drop 2++C),l+1))
theorem C68 {A B C:List A3} {l k:Int} (hn:(A++B++C).length<=1048576) (hk:1<=k/\k<=128) (hl:0<=l/\l<=30):
  C5V k (A++B++C) l (if B.length=0 then-1 else (A.length:Int)) (B.length:Int)=B5E A B C k l:=by
 have hlen:(A++B++C).length=A.length+B.length+C.length:=by simp [Nat.add_assoc]
 have ek:A2 (k+1)=k+1:=by rw [A7]<;>omega
 unfold C5V B5E;rw [ek]
 by_cases hb:(B.length:Int)<k+2
 ·rw [D3h (show (B.length:Int)<=k+1 by omega),D3g,if_pos hb]
 ·rw [D3j (show¬(B.length:Int)<=k+1 by omega),D3f,if_neg hb]
  match B with
  | []=>simp at hb;omega
  | [b1]=>simp at hb;omega
  |b1::b2::D=>
   rw [show (b1::b2::D).getD 1 default=b2 from rfl,show (b1::b2::D).drop 2=D from rfl,if_neg (by simp)]
   have e1:A2 ((A.length:Int)+1)=((A.length+1:Nat):Int):=by rw [A7]<;>omega
   have e2:A2 ((A.length:Int)+2)=((A.length+2:Nat):Int):=by rw [A7]<;>omega
   have el1:A2 (l+1)=l+1:=by rw [A7]<;>omega
   have eo:A++(b1::b2::D)++C=A++b1::b2::(D++C):=by simp
   rw [eo] at hlen⊢;rw [eo] at hn;have g2:D0 (A++b1::b2::(D++C)) ((A.length+1:Nat):Int)=some b2:=by
    rw [I2,D3C (by omega)]
    simp
   rw [e1,e2,el1,g2];simp only [D3c,D3S];have ht:(A++b1::b2::(D++C)).take A.length=A:=List.take_left;have hd:(A++b1::b2::(D++C)).drop (A.length+2)=D++C:=by
    rw [List.drop_append];simp [List.drop_eq_nil_of_le]
   simp only [ht,hd,List.nil_append];have hs:A.length+D.length+C.length<=1048576:=by rw [hlen] at hn;simp at hn;omega
   rw [I9,I9,I9,I9,I9]
   ·simp only [mrg,D3G,List.singleton_append]
   ·simp only [D3i,D3v,D3I];omega
   ·rw [hlen];simp only [D3v];omega
   ·simp only [D3v,D3I];omega
   ·simp only [D3I];omega
   ·rw [hlen];omega
theorem C07 {A B C:List A3} {l k:Int} (hp:A6d lvB A B C l) (hn:(A++B++C).length<=1048576) (hk:1<=k/\k<=128) (hl:0<=l/\l<=30):
  B1c k (A++B++C) l (-1) 0 0=B5E A B C k l:=by
 rw [<-C68 hn hk hl];unfold B1c;refine C22 lvB hp _ ?_ ?_
 ·intro i x a n hx hn0;have hi:i<(A++B++C).length:=(D3m.1 hx).1;have e1:A2 ((i:Int)+1)=((i+1:Nat):Int):=by rw [A7]<;>omega
  have e2:A2 (n+1)=n+1:=by rw [A7]<;>omega
  unfold A9x;simp only [e1,e2,I2,hx,D3c,D3h (show (i:Int)<((A++B++C).length:Int) by omega),D3g]
  by_cases h:lvB x=l
  ·rw [if_pos h];have:(x.As==l)=true:=by simpa using h
   rw [this,D3g]
   by_cases ha:a<0
   ·rw [D3h ha,D3g,if_pos ha]
   ·rw [D3j ha,D3f,if_neg ha]
  ·rw [if_neg h];have:(x.As==l)=false:=by simpa using h
   rw [this,D3f]
 ·unfold A9x;simp only [D3j (show¬((A++B++C).length:Int)<((A++B++C).length:Int) by omega),D3f]
  rfl
def A91 (l:List A3):Prop:=l.Pairwise (fun a b=>b.As<=a.As)/\ ∀x∈l,0<=x.As/\x.As<=30
theorem A3L {b:A3} {n:Nat} (h:b.As=(n:Int)) (hn:n<=30):A0P b=2^n:=by
 unfold A0P;rw [if_pos (by omega),h,D3S]
theorem C1i {B:List A3} {n:Nat} (hn:n<=30) (h:∀x∈B,x.As=(n:Int)):I3 B=(B.length:Int)*2^n:=by
 induction B with
 |nil=>simp [B3U]
 |cons b B ih=>
  rw [A2B,ih (fun x hx=>h x (by simp [hx])),A3L (h b (by simp)) hn,D3v]
  push_cast
  rw [Int.add_mul];omega
theorem B7S {l:Int}: ∀ {A:List A3},A.Pairwise (fun a b=>b.As<=a.As)->(∀x∈A,l<x.As)-> ∃A' A1,A=A' ++A1/\(∀x∈A',l+1<x.As)/\ ∀x∈A1,x.As=l+1
 | [],_,_=>⟨[], [],rfl,by simp,by simp⟩
 |a::A,hs,hl=>by
  have h2:=List.pairwise_cons.1 hs
  by_cases ha:a.As=l+1
  ·refine ⟨[],a::A,rfl,by simp,fun x hx=> ?_⟩
   rcases List.mem_cons.1 hx with h|h
   ·rw [h];exact ha
   ·have:=h2.1 x h;have:=hl x (by simp [h])
    omega
  ·obtain ⟨A',A1,e,h3,h4⟩:=B7S h2.2 (fun x hx=>hl x (by simp [hx]))
   refine ⟨a::A',A1,by rw [e];rfl,fun x hx=> ?_,h4⟩
   rcases List.mem_cons.1 hx with h|h
   ·rw [h];have:=hl a (by simp);omega
   ·exact h3 x h
theorem D0A {k:Int} (hk:1<=k/\k<=128): ∀(n:Nat) (A B C:List A3) (l:Nat),(A++B++C).length=n->A6d lvB A B C (l:Int)->A91 (A++B++C)->I3 (A++B++C)<=1073741824->n<=1048576->l<=30->
  ∃R,W2 k (A++B++C) ((A.length+B.length:Nat):Int) (l:Int)=some R/\A4E k (A++B++C) (l:Int)=some R/\A91 R/\I3 R=I3 (A++B++C)/\R.length<=n/\(∀Q:Int->Prop,CI lvB tmB Q k (l:Int) (A++B++C)->CI lvB tmB Q k (-1) R):=by
 intro n
 induction n with
 |zero=>
  intro A B C l hlen hp hg ht hn hl;have hi:=B8V hp (by omega) hk (by omega:(0:Int)<=(l:Int)/\(l:Int)<=30)
  have hr:=C07 hp (by omega) hk (by omega:(0:Int)<=(l:Int)/\(l:Int)<=30)
  have hlen' :(A++B++C).length=A.length+B.length+C.length:=by simp [Nat.add_assoc]
  unfold insOut at hi;unfold B5E at hr;rw [if_pos (by omega)] at hi hr
  refine ⟨A++B++C, ?_, ?_,hg,rfl,by omega,fun Q h=>B5Z hp.up hp.at_ hp.low (by omega) h⟩
  ·unfold W2;exact G9 (by unfold A0A;exact hi)
  ·unfold A4E;exact G9 (by unfold A6q;rw [D3h (by omega),D3g];exact hr)
 |succ n ih=>
  intro A B C l hlen hp hg ht hn hl;have hi:=B8V hp (by omega) hk (by omega:(0:Int)<=(l:Int)/\(l:Int)<=30)
  have hr:=C07 hp (by omega) hk (by omega:(0:Int)<=(l:Int)/\(l:Int)<=30)
  have hlen' :(A++B++C).length=A.length+B.length+C.length:=by simp [Nat.add_assoc]
  unfold insOut at hi;unfold B5E at hr
  by_cases hb:(B.length:Int)<k+2
  ·rw [if_pos hb] at hi hr;refine ⟨A++B++C, ?_, ?_,hg,rfl,by omega,fun Q h=>B5Z hp.up hp.at_ hp.low (by omega) h⟩
   ·unfold W2;exact G9 (by unfold A0A;exact hi)
   ·unfold A4E;exact G9 (by unfold A6q;rw [D3h (by omega),D3g];exact hr)
  ·rw [if_neg hb] at hi hr
   match B,hb,hi,hr,hp,hg,ht,hlen,hlen' with
   | [],hb,_,_,_,_,_,_,_=>simp at hb;omega
   | [b1],hb,_,_,_,_,_,_,_=>simp at hb;omega
   |b1::b2::D,hb,hi,hr,hp,hg,ht,hlen,hlen' =>
    rw [show (b1::b2::D).getD 1 default=b2 from rfl,show (b1::b2::D).drop 2=D from rfl] at hi hr;have hA:A.Pairwise (fun a b=>b.As<=a.As):=(List.pairwise_append.1 (List.pairwise_append.1 hg.1).1).1;have htB:=C1i hl hp.at_;have hl28:l<=28:=by
     by_cases h:l<=28
     ·exact h
     ·exfalso;rw [A2H,A2H,htB] at ht;have h1:=A7a A;have h2:=A7a C;have h3:(3:Int)<=((b1::b2::D).length:Int):=by simp at hb⊢;omega
      have h4:(3:Int)*2^l<=((b1::b2::D).length:Int)*2^l:=Int.mul_le_mul_of_nonneg_right h3 (Int.le_of_lt (Int.pow_pos (by decide)))
      rcases (by omega:l=29\/l=30) with rfl|rfl
      ·rw [show (2:Int)^29=536870912 by decide] at h4 ht;omega
      ·rw [show (2:Int)^30=1073741824 by decide] at h4 ht;omega
    obtain ⟨A',A1,rfl,hA',hA1⟩:=B7S hA hp.up;have hm:(mrg b2 (l:Int)).As=((l+1:Nat):Int):=by simp [mrg]
    have eo:(A' ++A1)++mrg b2 (l:Int)::(D++C)=A' ++(A1++ [mrg b2 (l:Int)])++(D++C):=by simp
    have el:((A' ++A1).length+1:Nat)=A'.length+(A1++ [mrg b2 (l:Int)]).length:=by simp [Nat.add_assoc]
    have hlD: ∀x∈D,x.As=(l:Int):=fun x hx=>hp.at_ x (by simp [hx])
    have hp' :A6d lvB A' (A1++ [mrg b2 (l:Int)]) (D++C) ((l+1:Nat):Int):=by
     refine ⟨fun x hx=> ?_,fun x hx=> ?_,fun x hx=> ?_⟩
     ·have:=hA' x hx;show ((l+1:Nat):Int)<x.As;omega
     ·rcases D3Y.1 hx with h|h
      ·have:=hA1 x h;show x.As=_;omega
      ·rw [List.mem_singleton.1 h];exact hm
     ·rcases D3Y.1 hx with h|h
      ·have:=hlD x h;show x.As<_;omega
      ·have:=hp.low x h;have h' :x.As<(l:Int):=this;show x.As<_;omega
    have hup: ∀x∈A' ++A1,((l+1:Nat):Int)<=x.As:=fun x hx=>by
     have:(l:Int)<x.As:=hp.up x hx;omega
    have hlow: ∀x∈D++C,x.As<=(l:Int):=fun x hx=>by
     rcases D3Y.1 hx with h|h
     ·rw [hlD x h];omega
     ·have h' :x.As<(l:Int):=hp.low x h;omega
    have hDC:(D++C).Pairwise (fun a b=>b.As<=a.As):=by
     have h:=hg.1;rw [D3G] at h;have h2:=(List.pairwise_append.1 h).2.1;exact (List.pairwise_cons.1 (List.pairwise_cons.1 h2).2).2
    have hg' :A91 (A' ++(A1++ [mrg b2 (l:Int)])++(D++C)):=by
     rw [<-eo];refine ⟨List.pairwise_append.2 ⟨hA,List.pairwise_cons.2 ⟨fun x hx=> ?_,hDC⟩,fun x hx y hy=> ?_⟩,fun x hx=> ?_⟩
     ·rw [hm];have:=hlow x hx;omega
     ·rcases List.mem_cons.1 hy with h|h
      ·rw [h,hm];exact hup x hx
      ·have:=hup x hx;have:=hlow y h;omega
     ·rcases D3Y.1 hx with h|h
      ·exact hg.2 x (by simp only [D3G,D3Y] at h⊢;rcases h with h|h<;>simp [h])
      ·rcases List.mem_cons.1 h with h|h
       ·rw [h,hm];omega
       ·exact hg.2 x (by simp only [D3Y,List.mem_cons] at h⊢;rcases h with h|h<;>simp [h])
    have htot:I3 (A' ++(A1++ [mrg b2 (l:Int)])++(D++C))=I3 (A' ++A1++b1::b2::D++C):=by
     rw [<-eo];have e1:=A3L (hp.at_ b1 (by simp)) hl
     have e2:=A3L (hp.at_ b2 (by simp)) hl
     have e3:=A3L hm (by omega)
     simp only [A2H,A2B,e1,e2,e3];rw [Int.pow_succ];omega
    have hlen2:(A' ++(A1++ [mrg b2 (l:Int)])++(D++C)).length=n:=by
     rw [<-eo];simp only [D3i,D3v] at hlen⊢;omega
    obtain ⟨R,r1,r2,r3,r4,r5,r6⟩:=ih A' (A1++ [mrg b2 (l:Int)]) (D++C) (l+1) hlen2 hp' hg' (by rw [htot];exact ht) (by omega) (by omega)
    refine ⟨R, ?_, ?_,r3,by rw [r4,htot],by omega,fun Q h=>r6 Q (by rw [<-eo,show ((l+1:Nat):Int)=(l:Int)+1 by omega];exact C5w (by omega) hp.up hp.at_ hp.low hb rfl rfl h)⟩
    ·rw [<-r1];unfold W2;rw [eo,el,show ((l:Int)+1)=((l+1:Nat):Int) by omega] at hi
     exact M3 (by unfold A0A;exact hi)
    ·rw [<-r2];unfold A4E;rw [eo,show ((l:Int)+1)=((l+1:Nat):Int) by omega] at hr
     exact M3 (by unfold A6q;rw [D3h (by omega),D3g];exact hr)
theorem C0O {k:Int} (hk:1<=k/\k<=128) {l:List A3} (t:Int) (hg:A91 l) (ht:I3 l+1<=1073741824) (hn:l.length+1<=1048576):
  ∃R,A01 l k t=some R/\B1X l k t=some R/\A91 R/\I3 R=I3 l+1/\R.length<=l.length+1/\(∀Q:Int->Prop,(∀x,Q x->x<=t)->Q t->CI lvB tmB Q k (-1) l->CI lvB tmB Q k (-1) R):=by
 obtain ⟨A,Z,e,hA,hZ⟩:=B7S (l:= -1) hg.1 (fun x hx=>by have:=(hg.2 x hx).1;omega)
 have eo:l++ [A3.mk t 0]=A++(Z++ [A3.mk t 0])++ []:=by rw [e];simp
 have hp:A6d lvB A (Z++ [A3.mk t 0]) [] ((0:Nat):Int):=by
  refine ⟨fun x hx=> ?_,fun x hx=> ?_,by simp⟩
  ·have:=hA x hx;show ((0:Nat):Int)<x.As;omega
  ·rcases D3Y.1 hx with h|h
   ·have:=hZ x h;show x.As=_;omega
   ·rw [List.mem_singleton.1 h];rfl
 have hg' :A91 (l++ [A3.mk t 0]):=by
  refine ⟨List.pairwise_append.2 ⟨hg.1,by simp,fun x hx y hy=> ?_⟩,fun x hx=> ?_⟩
  ·rw [List.mem_singleton.1 hy];exact (hg.2 x hx).1
  ·rcases D3Y.1 hx with h|h
   ·exact hg.2 x h
   ·rw [List.mem_singleton.1 h];exact ⟨Int.le_refl 0,(by decide:(0:Int)<=30)⟩
 have htot:I3 (l++ [A3.mk t 0])=I3 l+1:=by
  rw [A2H,A2B,B3U];have:A0P (A3.mk t 0)=2^0:=A3L rfl (by omega)
  rw [Int.pow_zero] at this;omega
 have hlen:(l++ [A3.mk t 0]).length=l.length+1:=by simp
 obtain ⟨R,r1,r2,r3,r4,r5,r6⟩:=D0A hk (l.length+1) A (Z++ [A3.mk t 0]) [] 0 (by rw [<-eo,hlen]) hp (by rw [<-eo];exact hg') (by rw [<-eo,htot];exact ht) hn (by omega)
 have el:A.length+(Z++ [A3.mk t 0]).length=(l++ [A3.mk t 0]).length:=by rw [eo];simp
 rw [<-eo] at r1 r2 r4;rw [el] at r1;refine ⟨R, ?_, ?_,r3,by rw [r4,htot],r5,fun Q h1 h2 h3=>r6 Q (by rw [<-eo];exact C7H h3 rfl (fun x hx=>h1 _ (h3.all x hx)) h2)⟩
 ·unfold A01;rw [I9 (by simp;omega)]
  exact r1
 ·unfold B1X;simp only [List.nil_append];rw [I9 (by simp;omega),I9 (by simp;omega)]
  exact r2
theorem D02 {k:Int} (hk:1<=k/\k<=128) (t:Int): ∀(n:Nat) (l:List A3),A91 l->I3 l+n<=1073741824->l.length+n<=1048576->
  ∃R,A0z k t (n:Int) l=some R/\A1L k t l (n:Int)=some R/\R.length<=l.length+n/\A91 R/\I3 R=I3 l+n/\(∀Q:Int->Prop,(∀x,Q x->x<=t)->Q t->CI lvB tmB Q k (-1) l->CI lvB tmB Q k (-1) R):=by
 intro n
 induction n with
 |zero=>
  intro l hg _ _;refine ⟨l, ?_, ?_,by omega,hg,by omega,fun Q _ _ h=>h⟩
  ·unfold A0z;rw [R1];have:A0h k t ((0:Nat):Int) l=some (.inr l):=by unfold A0h;rfl
   simp only [this]
  ·unfold A1L;rw [R1];have:A08 k t l ((0:Nat):Int)=some (.inr l):=by unfold A08;rfl
   simp only [this]
 |succ n ih=>
  intro l hg ht hn;obtain ⟨R,r1,r2,r3,r4,r5,r6⟩:=C0O hk t hg (by omega) (by omega)
  obtain ⟨S,s1,s2,s3,s4,s5,s6⟩:=ih R r3 (by omega) (by omega)
  have e:A2 (((n+1:Nat):Int)-1)=(n:Int):=by rw [A7]<;>omega
  have hp:decide (((n+1:Nat):Int)>0)=true:=D3h (by omega)
  refine ⟨S, ?_, ?_,by omega,s4,by rw [s5,r4];omega,fun Q h1 h2 h3=>s6 Q h1 h2 (r6 Q h1 h2 h3)⟩
  ·rw [<-s1];unfold A0z;exact M3 (by simp only [A0h,hp,D3g,r1,D3c,e])
  ·rw [<-s2];unfold A1L;exact M3 (by simp only [A08,hp,D3g,r2,D3c,e])
end Go.Win
namespace Go.Win
open Go.Vc Go.Dec
theorem B5h {l:List A3} {k:Int} (h:Z9 l k):A91 l:=by
 have hb: ∀i,i<l.length-> ¬A0U l i:=h.2.1;have hr: ∀i,i<l.length->0<=(el l i).As/\(el l i).As<=30:=fun i hi=>by
  have:=hb i hi;unfold A0U at this;omega
 have key: ∀d i,i+d<l.length->(el l (i+d)).As<=(el l i).As:=by
  intro d
  induction d with
  |zero=>intro i _;exact Int.le_refl _
  |succ d ih=>
   intro i hi;have h1:=ih i (by omega)
   have h2:=hb (i+(d+1)) hi;unfold A0U at h2;rw [show i+(d+1)-1=i+d by omega] at h2
   omega
 refine ⟨List.pairwise_iff_getElem.2 fun i j hi hj hij=> ?_,fun x hx=> ?_⟩
 ·have:=key (j-i) i (by omega)
  rw [show i+(j-i)=j by omega,K7 hi,K7 hj] at this
  exact this
 ·obtain ⟨i,hi,rfl⟩:=R9 hx;exact hr i hi
theorem C9W (b:A3):A0P b<=1073741824:=by
 unfold A0P
 by_cases h:0<=b.As/\b.As<=30
 ·rw [if_pos h];exact B3N (by omega)
 ·rw [if_neg h];decide
theorem D1p (l:List A3):I3 l<=l.length*1073741824:=by
 induction l with
 |nil=>simp [B3U]
 |cons b l ih=>
  have:=C9W b;rw [A2B,D3v]
  push_cast
  omega
theorem B1o {l:List A3} (hl:l.length<=1048576):A2 (I3 l)=I3 l:=by
 have h1:=A7a l;have h2:=D1p l;rw [A7]<;>omega
theorem B0t {l:List A3} (hl:l.length<=1048576):T0 l=some (I3 l)/\A1k l=some (I3 l):=by
 have:=A33 l (H0 hl);rw [B1o hl] at this;exact ⟨by rw [B0s];exact this,this⟩
theorem C3x {l:List A3} {t:Int} (hl:l.length<=1048576) (ht:0<=t/\t<=16777216) (hT:∀i,i<l.length->(el l i).T<=t):
  A5Z l t=some true/\ ∃y,B0f l=some y/\y<=t:=by
 have htk:W3 t=true:=by unfold W3;simp;omega
 unfold A5Z B0f;simp only [htk];rcases Nat.eq_zero_or_pos l.length with h0|h0
 ·have e:((l.length:Int)==0)=true:=by rw [h0];rfl
  rw [e];exact ⟨rfl,0,rfl,ht.1⟩
 ·have e:((l.length:Int)==0)=false:=by rw [D32];omega
  have e1:A2 ((l.length:Int)-1)=((l.length-1:Nat):Int):=by rw [A7]<;>omega
  have hi:=F4 (l:=l) (i:=l.length-1) (by omega)
  rw [e,e1,hi];have:=hT (l.length-1) (by omega)
  refine ⟨?_,_,rfl,this⟩;simp only [gd,D3p,Bool.and_self,D3g,D3c,D3N,D3D,D3h this]
theorem C9t {l:List A3} {k t:Int} (hok:Z9 l k) (hl:l.length+1<=1048576) (ht:0<=t/\t<=16777216) (hT:∀i,i<l.length->(el l i).T<=t) (hs:I3 l+1<=1073741824):
  ∃R,A4T l k t=some R/\B5n l k t=some R/\R.length<=l.length+1/\Z9 R k/\I3 R=I3 l+1/\(∀Q:Int->Prop,(∀x,Q x->x<=t)->Q t->(∀x∈l,Q x.T)-> ∀x∈R,Q x.T):=by
 obtain ⟨R,r1,r2,r3,r4,r5,r6⟩:=C0O hok.1 t (B5h hok) hs hl;obtain ⟨ci,cs,cl⟩:=A3E hok;have hQ: ∀Q:Int->Prop,(∀x,Q x->x<=t)->Q t->(∀x∈l,Q x.T)->CI lvB tmB Q k (-1) R:=fun Q h1 h2 h3=>r6 Q h1 h2 ⟨ci.le,ci.ge,ci.srt,h3⟩;have hR:Z9 R k:=B3M hok.1 (B9B (hQ (fun x=>B6a x/\x<=t) (fun x h=>h.2) ⟨ht,Int.le_refl t⟩ (fun x hx=>⟨ci.all x hx,by obtain ⟨i,hi,rfl⟩:=R9 hx;exact hT i hi⟩)) (fun _ h=>h.1)) r3.1 r3.2
 obtain ⟨m1,y,m2,m3⟩:=C3x (by omega) ht hT
 obtain ⟨t1,t2⟩:=B0t (l:=l) (by omega)
 have htk:E7 t=true:=(T9 t).2 ht;refine ⟨R, ?_, ?_,r5,hR,r4,fun Q h1 h2 h3=>(hQ Q h1 h2 h3).all⟩
 ·unfold A4T;rw [A3P l k (H0 (by omega)),L7 hok,m1,t1]
  simp only [D3c,D3o,D3p,Bool.or_self,D3D,gd,D3g,D3j (show¬I3 l>=1073741824 by omega),D3f,List.nil_append]
  rw [I9 (by simp;omega),r1]
  rfl
 ·unfold B5n;rw [A8U l k (H0 (by omega)),L7 hok,m2,t2]
  simp only [D3c,htk,D3o,D3p,Bool.or_self,D3D,gd,D3g,D3j (show¬t<y by omega),D3j (show¬I3 l>=1073741824 by omega),D3f]
  rw [r2]
  rfl
theorem C7X {l:List A3} {W K Cap Now:Int} (h:A03 l W K Cap Now): ∀i,i<l.length->(el l i).T<=Now:=fun i hi=>by
 have:=(O4 _ _ _).1 (h.2.2.2 i hi);omega
theorem C71 {l:List A3} {k t:Int} {n:Nat} (hok:Z9 l k) (hl:l.length+n<=1048576) (ht:0<=t/\t<=16777216) (hT:∀i,i<l.length->(el l i).T<=t) (hn:n<=1024) (hs:I3 l+n<=1073741824):
  ∃R,A17 l k t (n:Int)=some R/\B1b l k t (n:Int)=some R/\R.length<=l.length+n/\Z9 R k/\I3 R=I3 l+n/\(∀Q:Int->Prop,(∀x,Q x->x<=t)->Q t->(∀x∈l,Q x.T)-> ∀x∈R,Q x.T):=by
 obtain ⟨R,r1,r2,r3,r4,r5,r6⟩:=D02 hok.1 t n l (B5h hok) hs hl;obtain ⟨ci,cs,cl⟩:=A3E hok;have hQ: ∀Q:Int->Prop,(∀x,Q x->x<=t)->Q t->(∀x∈l,Q x.T)->CI lvB tmB Q k (-1) R:=fun Q h1 h2 h3=>r6 Q h1 h2 ⟨ci.le,ci.ge,ci.srt,h3⟩;have hR:Z9 R k:=B3M hok.1 (B9B (hQ (fun x=>B6a x/\x<=t) (fun x h=>h.2) ⟨ht,Int.le_refl t⟩ (fun x hx=>⟨ci.all x hx,by obtain ⟨i,hi,rfl⟩:=R9 hx;exact hT i hi⟩)) (fun _ h=>h.1)) r4.1 r4.2
 obtain ⟨m1,y,m2,m3⟩:=C3x (by omega) ht hT
 obtain ⟨t1,t2⟩:=B0t (l:=l) (by omega)
 have htk:E7 t=true:=(T9 t).2 ht;have h0:=A7a l;have w1:A2 ((1073741824:Int)-(n:Int))=1073741824-(n:Int):=by rw [A7]<;>omega
 have w2:A2 (I3 l+(n:Int))=I3 l+(n:Int):=by rw [A7]<;>omega
 refine ⟨R, ?_, ?_,r3,hR,r5,fun Q h1 h2 h3=>(hQ Q h1 h2 h3).all⟩
 ·unfold A17;rw [A3P l k (H0 (by omega)),L7 hok,m1,t1]
  simp only [D3c,D3o,D3p,Bool.or_self,D3D,gd,D3g,D3j (show¬(n:Int)<0 by omega),D3j (show¬(n:Int)>1024 by omega),D3N,w1]
  by_cases hp:(n:Int)>0
  ·simp only [D3h hp,D3g,D3c,D3N,D3j (show¬I3 l>1073741824-(n:Int) by omega),D3f,List.nil_append]
   rw [I9 (by simp;omega),r1]
  ·simp only [D3j hp,D3f,D3c,D3H,List.nil_append];rw [I9 (by simp;omega),r1]
 ·unfold B1b;rw [A8U l k (H0 (by omega)),L7 hok,m2,t2]
  simp only [D3c,htk,D3o,D3p,Bool.or_self,D3D,gd,D3g,D3j (show¬(n:Int)<0 by omega),D3j (show¬(n:Int)>1024 by omega),D3j (show¬t<y by omega),D3N]
  by_cases hp:(n:Int)>0
  ·simp only [D3h hp,D3g,D3c,D3N,w2,D3j (show¬I3 l+(n:Int)>1073741824 by omega),D3f]
   exact r2
  ·simp only [D3j hp,D3f,D3c,D3H];exact r2
end Go.Win
namespace Go.Win
open Go.Vc Go.Dec
section
variable {β:Type}
def fnd (p:β->Bool):List β->Option Nat
 | []=>none
 |x::l=>match fnd p l with
  |some m=>some (m+1)
  |none=>if p x then some 0 else none
theorem C3d (p:β->Bool) (x:β): ∀l:List β,fnd p (l++ [x])=if p x then some l.length else fnd p l
 | []=>by simp [fnd]
 |y::l=>by
  rw [List.cons_append,fnd,C3d p x l]
  by_cases h:p x=true
  ·simp [h]
  ·simp [h,fnd]
theorem C9k (p:β->Bool) {l:List β} {t:Nat} {x:β} (h:l[t]? =some x):fnd p (l.take (t+1))=if p x then some t else fnd p (l.take t):=by
 have ht:=(D3m.1 h).1;rw [List.take_add_one,h,Option.toList_some,C3d,D3E,Nat.min_eq_left (by omega)]
def A8L (p:β->Bool) (l:List β):Nat:=(fnd p l).getD 0
theorem C1a {R:Type} {f:Int->Option (Int⊕R)} (i:Nat) (rest:List β) (p:β->Bool) (K:Int->Option R)
  (h0:f (i:Int)=Option.map Sum.inr (K ((i+1:Nat):Int)))
  (hs:∀(t:Nat) (x:β),rest[t]? =some x->f ((i+t+1:Nat):Int)=if p x then Option.map Sum.inr (K ((i+t+1:Nat):Int)) else some (.inl ((i+t:Nat):Int))):
  loop f ((i+rest.length:Nat):Int)=K ((i+1+A8L p rest:Nat):Int):=by
 have key: ∀t,t<=rest.length->loop f ((i+t:Nat):Int)=K ((i+1+(fnd p (rest.take t)).getD 0:Nat):Int):=by
  intro t
  induction t with
  |zero=>
   intro _;rw [Nat.add_zero,R1,h0];simp only [List.take_zero,fnd,Option.getD_none,Nat.add_zero];cases K ((i+1:Nat):Int)<;>rfl
  |succ t ih=>
   intro ht;have hx:=D3q (l:=rest) (i:=t) (by omega)
   have st:=hs t _ hx;rw [C9k p hx]
   by_cases hp:p rest[t]=true
   ·rw [if_pos hp] at st⊢;rw [show i+(t+1)=i+t+1 by omega,R1,st,Option.getD_some,show i+1+t=i+t+1 by omega]
    cases K ((i+t+1:Nat):Int)<;>rfl
   ·rw [if_neg hp] at st⊢;rw [show i+(t+1)=i+t+1 by omega,M3 st]
    exact ih (by omega)
 have:=key rest.length (D3U _);rw [List.take_length] at this;exact this
def S0 (near:β->β->Bool):List β->List β
 | []=> []
 |x::l=>x::S0 near (l.drop (A8L (near x) l))
termination_by l=>l.length
decreasing_by simp only [D3K,D3v];omega
theorem B8X (near:β->β->Bool) (l:List β) {F:List β×Int->Option ((List β×Int)⊕List β)}
  (hF:∀(out:List β) (i:Nat) (x:β),l[i]? =some x->out.length<=i->F (out,(i:Int))=some (.inl (out++ [x],((i+1+A8L (near x) (l.drop (i+1)):Nat):Int))))
  (hend:∀(out:List β) (i:Nat),l.length<=i->F (out,(i:Int))=some (.inr out)):
  ∀(n i:Nat) (out:List β),l.length<=i+n->out.length<=i->loop F (out,(i:Int))=some (out++S0 near (l.drop i)):=by
 intro n
 induction n with
 |zero=>
  intro i out h _;rw [G9 (hend out i (by omega)),List.drop_eq_nil_of_le (by omega),S0,List.append_nil]
 |succ n ih=>
  intro i out h ho
  by_cases hi:i<l.length
  ·have hx:=D3q (l:=l) (i:=i) hi;rw [M3 (hF out i _ hx ho),ih _ _ (by omega) (by simp;omega),List.drop_eq_getElem_cons hi,S0,D3G,D4a]
   rfl
  ·rw [G9 (hend out i (by omega)),List.drop_eq_nil_of_le (by omega),S0,List.append_nil]
theorem C9y {R:Type} (g:β->β) (l:List β) {F:List β×Int->Option ((List β×Int)⊕R)} {A:List β->Option R}
  (hF:∀(out:List β) (i:Nat) (x:β),l[i]? =some x->out.length=i->F (out,(i:Int))=some (.inl (out++ [g x],((i+1:Nat):Int))))
  (hend:∀out:List β,out.length=l.length->F (out,(l.length:Int))=Option.map Sum.inr (A out)):
  ∀(n i:Nat) (out:List β),i+n=l.length->out.length=i->loop F (out,(i:Int))=A (out++(l.drop i).map g):=by
 intro n
 induction n with
 |zero=>
  intro i out h ho;have:i=l.length:=by omega
  subst this;rw [R1,hend out ho,List.drop_length,List.map_nil,List.append_nil];cases A out<;>rfl
 |succ n ih=>
  intro i out h ho;have hi:i<l.length:=by omega
  have hx:=D3q (l:=l) (i:=i) hi;rw [M3 (hF out i _ hx ho),ih (i+1) _ (by omega) (by simp;omega),List.drop_eq_getElem_cons hi,D35,D3G]
  rfl
end
end Go.Win
namespace Go.Win
open Go.Vc Go.Dec
def A2E (v:Int) (m:A4):A4:=⟨m.Bg,m.T,A2 (m.N+1),A2 (m.S+v),A2 (m.Q+A2 (v*v)),L5 m.Bf v,P8 m.Be v⟩
def B5g (seq t v:Int):A4:=⟨seq,t,1,v,A2 (v*v),v,v⟩
def A7e (l:List A4) (seq t v:Int):List A4:=l.map (A2E v)++ [B5g seq t v]
theorem C0V {l:List A4} (hl:l.length+1<=1048576) (seq t v:Int):A4y l seq t v=some (A7e l seq t v):=by
 unfold A4y B5b;have:=C9y (A2E v) l (F:=fun s=>A3R l seq t v s.1 s.2) (A:=fun out=>some (out++ [B5g seq t v])) (fun out i x hx ho=>by
   have hi:=(D3m.1 hx).1;have e1:A2 ((i:Int)+1)=((i+1:Nat):Int):=by rw [A7]<;>omega
   simp only [A3R,D3h (show (i:Int)<(l.length:Int) by omega),D3g,I2,hx,D3c,e1]
   rw [I9 (by simp;omega)]
   rfl) (fun out ho=>by
   simp only [A3R,D3j (show¬(l.length:Int)<(l.length:Int) by omega),D3f]
   rw [I9 (by simp;omega)]
   rfl) l.length 0 [] (by omega) rfl
 simpa [A7e] using this
theorem A6A (l:List A4) (seq t v:Int):(A7e l seq t v).length=l.length+1:=by simp [A7e]
theorem C3T {l:List A4} (hl:l.length<=1048576) (agg w k cap now seq:Int) (ms:List A4):
  A28 l agg w k cap now seq ms=some (S0 (fun a b=>F7 a b agg k) l):=by
 unfold A28 A9O;have:=B8X (fun a b=>F7 a b agg k) l (F:=fun s=>A0o l agg w k cap now seq ms s.1 s.2) (fun out i x hx ho=>by
   have hi:=(D3m.1 hx).1;have e1:A2 ((i:Int)+1)=((i+1:Nat):Int):=by rw [A7]<;>omega
   have e2:A2 ((l.length:Int)-1)=((i+(l.drop (i+1)).length:Nat):Int):=by rw [D3K,A7]<;>omega
   simp only [A0o,D3h (show (i:Int)<(l.length:Int) by omega),D3g,I2,hx,D3c,e2]
   rw [I9 (by simp;omega)]
   unfold A9P;refine C1a i (l.drop (i+1)) (fun y=>F7 x y agg k) (fun v=>(some (Sum.inl (out++ [x],v)):Option ((List A4×Int)⊕List A4))) ?_ ?_
   ·simp only [A2g,D3j (show¬(i:Int)>(i:Int) by omega),D3f,e1]
   ·intro t y hy;rw [D3w] at hy;have ht:=(D3m.1 hy).1;rw [show i+1+t=i+t+1 by omega] at hy
    have e3:A2 (((i+t+1:Nat):Int)-1)=((i+t:Nat):Int):=by rw [A7]<;>omega
    simp only [A2g,D3h (show ((i+t+1:Nat):Int)>(i:Int) by omega),D3g,I2,hx,hy,D3c,A7H,e3]
    cases F7 x y agg k<;>rfl) (fun out i h=>by
   simp only [A0o,D3j (show¬(i:Int)<(l.length:Int) by omega),D3f]
   rfl) l.length 0 [] (by omega) (D3U _)
 simpa using this
theorem C3U {l:List A4} (hl:l.length<=1048576) (w k cap now seq:Int) (ms:List A4):
  A29 l w k cap now seq ms=some (S0 (fun a b=>P4 (A1w a b k)) l):=by
 unfold A29 A9Q;have:=B8X (fun a b=>P4 (A1w a b k)) l (F:=fun s=>A0p l w k cap now seq ms s.1 s.2) (fun out i x hx ho=>by
   have hi:=(D3m.1 hx).1;have e1:A2 ((i:Int)+1)=((i+1:Nat):Int):=by rw [A7]<;>omega
   have e2:A2 ((l.length:Int)-1)=((i+(l.drop (i+1)).length:Nat):Int):=by rw [D3K,A7]<;>omega
   simp only [A0p,D3h (show (i:Int)<(l.length:Int) by omega),D3g,I2,hx,D3c,e2]
   rw [I9 (by simp;omega)]
   unfold A9R;refine C1a i (l.drop (i+1)) (fun y=>P4 (A1w x y k)) (fun v=>(some (Sum.inl (out++ [x],v)):Option ((List A4×Int)⊕List A4))) ?_ ?_
   ·simp only [A2h,D3j (show¬(i:Int)>(i:Int) by omega),D3f,e1]
   ·intro t y hy;rw [D3w] at hy;have ht:=(D3m.1 hy).1;rw [show i+1+t=i+t+1 by omega] at hy
    have e3:A2 (((i+t+1:Nat):Int)-1)=((i+t:Nat):Int):=by rw [A7]<;>omega
    simp only [A2h,D3h (show ((i+t+1:Nat):Int)>(i:Int) by omega),D3g,I2,hx,hy,D3c,A7K,B5K,e3]
    cases P4 (A1w x y k)<;>rfl) (fun out i h=>by
   simp only [A0p,D3j (show¬(i:Int)<(l.length:Int) by omega),D3f]
   rfl) l.length 0 [] (by omega) (D3U _)
 simpa using this
end Go.Win
namespace Go.Win
open Go.Vc Go.Dec
end Go.Win
namespace Go.Win
open Go.Vc Go.Dec
def sV (m:Bool) (v:Int):Int:=if m then v else-v
theorem B3j (m:Bool) (a b:Int):L6 m a b=decide (sV m b<=sV m a):=by
 cases m
 ·show decide (a<=b)=_;unfold sV;exact decide_eq_decide.2 (by simp)
 ·show decide (a>=b)=_;unfold sV;exact decide_eq_decide.2 (by simp)
structure DqP (m:Bool) (I:List A9) (now:Int):Prop where
 T: ∀i j,i<j->j<I.length->(el I i).T<(el I j).T
 V: ∀i j,i<j->j<I.length->sV m (el I j).V<sV m (el I i).V
 now: ∀i,i<I.length->(el I i).T<=now
theorem C25 {α:Type} [Inhabited α] {l:List α} {x:α} {i:Nat} (h:i<l.length):el (l++ [x]) i=el l i:=by
 unfold el;rw [D38,D38,D3B h]
theorem D0G {α:Type} [Inhabited α] (l:List α) (x:α):el (l++ [x]) l.length=x:=by
 unfold el;simp [D38]
theorem D0F {m:Bool} {I:List A9} {now:Int} (h:DqP m I now) (v:Int): ∃c,c<=I.length/\(∀i,i<c->sV m v<sV m (el I i).V)/\ ∀i,c<=i->i<I.length->sV m (el I i).V<=sV m v:=by
 have key: ∀t,t<=I.length-> ∃c,c<=t/\(∀i,i<c->sV m v<sV m (el I i).V)/\ ∀i,c<=i->i<t->sV m (el I i).V<=sV m v:=by
  intro t
  induction t with
  |zero=>intro _;exact ⟨0,D3U _,fun i hi=>by omega,fun i _ hi=>by omega⟩
  |succ t ih=>
   intro ht;obtain ⟨c,h1,h2,h3⟩:=ih (by omega)
   by_cases hs:sV m v<sV m (el I t).V
   ·have hc:c=t:=by
     by_cases e:c=t
     ·exact e
     ·have:=h3 c (D3U _) (by omega)
      have:=h.V c t (by omega) (by omega)
      omega
    subst hc;exact ⟨c+1,D3U _,fun i hi=>by
     by_cases e:i=c
     ·subst e;exact hs
     ·exact h2 i (by omega),fun i _ _=>by omega⟩
   ·exact ⟨c,by omega,h2,fun i hi hit=>by
     by_cases e:i=t
     ·subst e;omega
     ·exact h3 i hi (by omega)⟩
 exact key I.length (D3U _)
noncomputable def B0P (p0:B4) (p1:Int) (v4_7:List A9):Option (B4×Int):=
 ck (decide ((([]:List A9).length+v4_7.length)*16<=140737488355328))<|
 Option.bind (gd (!(((([]:List A9)++v4_7).length:Int)==(0:Int))) (D0 (([]:List A9)++v4_7) (A2 (((([]:List A9)++v4_7).length:Int)-(1:Int))))) fun x10_8=>
 Option.bind (gd (!(((([]:List A9)++v4_7).length:Int)==(0:Int))) (D0 (([]:List A9)++v4_7) (A2 (((([]:List A9)++v4_7).length:Int)-(1:Int))))) fun x10_10=>
 cond ((((([]:List A9)++v4_7).length:Int)==(0:Int))||(decide (x10_10.T<p0.Now))) (
  cond (((([]:List A9)++v4_7).length:Int)==p0.Cap) (
   some ((B4.mk false (0:Int) (0:Int) (0:Int) ([]:List A9)),(5:Int)))<|
  ck (decide (((([]:List A9)++v4_7).length+ [(A9.mk p0.Now p1)].length)*16<=140737488355328))<|
  some ((B4.mk p0.Be p0.W p0.Cap p0.Now ((([]:List A9)++v4_7)++ [(A9.mk p0.Now p1)])),(0:Int)))<|
 some ((B4.mk p0.Be p0.W p0.Cap p0.Now (([]:List A9)++v4_7)),(0:Int))
theorem C7N {x:B4} {v:Int} {l:List A9} (hl:l.length<=1048576):
  B0P x v l=if l.length=0\/(el l (l.length-1)).T<x.Now then (if (l.length:Int)=x.Cap then some (⟨false,0,0,0, []⟩,5) else some (⟨x.Be,x.W,x.Cap,x.Now,l++ [⟨x.Now,v⟩]⟩,0))
   else some (⟨x.Be,x.W,x.Cap,x.Now,l⟩,0):=by
 unfold B0P;simp only [List.nil_append];rw [I9 (by simp;omega)]
 have push:(cond ((l.length:Int)==x.Cap) (some ((B4.mk false 0 0 0 ([]:List A9)),(5:Int)))<|
   ck (decide ((l.length+ [(A9.mk x.Now v)].length)*16<=140737488355328))<|some ((B4.mk x.Be x.W x.Cap x.Now (l++ [A9.mk x.Now v])),(0:Int)))=
   if (l.length:Int)=x.Cap then some (⟨false,0,0,0, []⟩,5) else some (⟨x.Be,x.W,x.Cap,x.Now,l++ [⟨x.Now,v⟩]⟩,0):=by
  rw [I9 (by simp;omega)]
  by_cases hc:(l.length:Int)=x.Cap
  ·rw [D36.2 hc,if_pos hc];rfl
  ·rw [D32.2 hc,if_neg hc];rfl
 by_cases h0:l.length=0
 ·have e0:((l.length:Int)==0)=true:=by rw [h0];rfl
  rw [e0,if_pos (.inl h0),<-push]
  rfl
 ·have e0:((l.length:Int)==0)=false:=by rw [D32];omega
  have e1:A2 ((l.length:Int)-1)=((l.length-1:Nat):Int):=by rw [A7]<;>omega
  have hx:=F4 (l:=l) (i:=l.length-1) (by omega)
  rw [e0,e1,hx];simp only [D3p,gd,D3g,D3c,D3D]
  by_cases ht:(el l (l.length-1)).T<x.Now
  ·rw [D3h ht,D3g,if_pos (.inr ht),<-push]
  ·rw [D3j ht,D3f,if_neg (fun h=>by rcases h with h|h;exact h0 h;exact ht h)]
theorem D0J {x:B4} {v:Int} {c:Nat} (hl:x.Ar.length<=1048576) (hc:c<=x.Ar.length) (h2:∀i,i<c->sV x.Be v<sV x.Be (el x.Ar i).V)
  (h3:∀i,c<=i->i<x.Ar.length->sV x.Be (el x.Ar i).V<=sV x.Be v): ∀k,c+k<=x.Ar.length->A41 x v (x.Ar.take (c+k))=B0P x v (x.Ar.take c):=by
 intro k;have htl: ∀t,t<=x.Ar.length->(x.Ar.take t).length=t:=fun t ht=>by rw [D3E];omega
 have hel: ∀t,0<t->t<=x.Ar.length->el (x.Ar.take t) (t-1)=el x.Ar (t-1):=fun t h0 ht=>by
  unfold el;rw [D38,D38,D3z,if_pos (by omega)]
 induction k with
 |zero=>
  intro _;rw [Nat.add_zero];unfold A41;rw [R1];have hv:A4b x v (x.Ar.take c)=Option.map Sum.inr (B0P x v (x.Ar.take c)):=by
   unfold A4b;rw [htl c hc]
   by_cases h0:c=0
   ·have hz:decide ((c:Int)>0)=false:=D3j (by omega)
    simp only [hz,gd,D3f,D3c,D3H];unfold B0P;rw [htl c hc]
    rfl
   ·have hz:decide ((c:Int)>0)=true:=D3h (by omega)
    have e1:A2 ((c:Int)-1)=((c-1:Nat):Int):=by rw [A7]<;>omega
    have hx:=F4 (l:=x.Ar.take c) (i:=c-1) (by rw [htl c hc];omega)
    have:=h2 (c-1) (by omega)
    simp only [hz,gd,D3g,e1,hx,D3c,hel c (by omega) hc,B3j,D3N,D3j (show¬sV x.Be (el x.Ar (c-1)).V<=sV x.Be v by omega),D3f]
    unfold B0P;rw [htl c hc]
    rfl
  rw [hv];cases B0P x v (x.Ar.take c)<;>rfl
 |succ k ih=>
  intro hk;rw [<-ih (by omega)]
  unfold A41;refine M3 ?_;have hz:decide (((c+(k+1):Nat):Int)>0)=true:=D3h (by omega)
  have e1:A2 (((c+(k+1):Nat):Int)-1)=((c+k:Nat):Int):=by rw [A7]<;>omega
  have hx:=F4 (l:=x.Ar.take (c+(k+1))) (i:=c+k) (by rw [htl _ hk];omega)
  have he:=hel (c+(k+1)) (by omega) hk
  rw [show c+(k+1)-1=c+k by omega] at he
  have hb:=h3 (c+k) (by omega) (by omega)
  unfold A4b;rw [htl _ hk];simp only [hz,gd,D3g,e1,hx,D3c,he,B3j,D3N,D3h hb];rw [I9 (by omega),D3S,List.take_take,Nat.min_eq_left (by omega)]
theorem C6y {x:B4} (h:A7s x):DqP x.Be x.Ar x.Now:=by
 have hs:=h.2;have step: ∀i,i+1<x.Ar.length->(el x.Ar i).T<(el x.Ar (i+1)).T/\sV x.Be (el x.Ar (i+1)).V<sV x.Be (el x.Ar i).V:=fun i hi=>by
  obtain ⟨g1,g2⟩:=(hs (i+1) hi).2 (by omega)
  rw [D3T] at g1 g2;rw [B3j,D3t] at g2;omega
 have key: ∀d i,i+d+1<x.Ar.length->(el x.Ar i).T<(el x.Ar (i+d+1)).T/\sV x.Be (el x.Ar (i+d+1)).V<sV x.Be (el x.Ar i).V:=by
  intro d
  induction d with
  |zero=>intro i hi;exact step i hi
  |succ d ih=>
   intro i hi;have h1:=ih i (by omega)
   have h2:=step (i+d+1) (by omega)
   rw [show i+(d+1)+1=i+d+1+1 by omega]
   omega
 refine ⟨fun i j hij hj=> ?_,fun i j hij hj=> ?_,fun i hi=> ?_⟩
 ·have:=(key (j-i-1) i (by omega)).1
  rw [show i+(j-i-1)+1=j by omega] at this
  exact this
 ·have:=(key (j-i-1) i (by omega)).2
  rw [show i+(j-i-1)+1=j by omega] at this
  exact this
 ·have:=(O4 _ _ _).1 (hs i hi).1.1;omega
end Go.Win
namespace Go.Win
open Go.Vc Go.Dec
theorem C20 {M i:Int} (l:List D4) (h:i<=0):R3 M l i=some l:=by
 unfold R3;rw [R1];have:Q2 M l i=some (.inr l):=by
  unfold Q2;rw [D3j (by omega),D3f]
  rfl
 simp only [this]
def B9L (l:List D4) (c:Nat) (v d:Int):List D4:=l.take c++ [⟨v,1,d⟩]++l.drop c
theorem C9s {l:List D4} {c:Nat} (hc:c<=l.length) (v d:Int):(B9L l c v d).length=l.length+1:=by
 unfold B9L;simp only [D3i,D3E,D3K,D3v,D3I];omega
theorem D1J {l:List D4} (h:∀i j,i<j->j<l.length->(el l i).V<=(el l j).V) (v:Int): ∃c,c<=l.length/\(∀i,i<c->(el l i).V<=v)/\ ∀i,c<=i->i<l.length->v<(el l i).V:=by
 have key: ∀t,t<=l.length-> ∃c,c<=t/\(∀i,i<c->(el l i).V<=v)/\ ∀i,c<=i->i<t->v<(el l i).V:=by
  intro t
  induction t with
  |zero=>intro _;exact ⟨0,D3U _,fun i hi=>by omega,fun i _ hi=>by omega⟩
  |succ t ih=>
   intro ht;obtain ⟨c,h1,h2,h3⟩:=ih (by omega)
   by_cases hs:(el l t).V<=v
   ·have hc:c=t:=by
     by_cases e:c=t
     ·exact e
     ·have:=h3 c (D3U _) (by omega)
      have:=h c t (by omega) (by omega)
      omega
    subst hc;exact ⟨c+1,D3U _,fun i hi=>by
     by_cases e:i=c
     ·subst e;exact hs
     ·exact h2 i (by omega),fun i _ _=>by omega⟩
   ·exact ⟨c,by omega,h2,fun i hi hit=>by
     by_cases e:i=t
     ·subst e;omega
     ·exact h3 i hi (by omega)⟩
 exact key l.length (D3U _)
noncomputable def B23 (x:B7) (v:Int) (c:Nat):Option (B7×Int):=
 A04 x v (c:Int) (if 0<c/\c<x.Ao.length then A2 (A2 ((el x.Ao c).G+(el x.Ao c).D)-1) else 0)
theorem D2N {x:B7} {v:Int} {c:Nat} (hl:x.Ao.length+1<=1048576) (hc:c<=x.Ao.length) (h2:∀i,i<c->(el x.Ao i).V<=v) (h3:∀i,c<=i->i<x.Ao.length->v<(el x.Ao i).V):
  A5V x v 0=B23 x v c:=by
 unfold A5V;have key: ∀k,k<=c->loop (fun s:Int=>A0w x v s) ((c-k:Nat):Int)=B23 x v c:=by
  intro k
  induction k with
  |zero=>
   intro _;rw [Nat.sub_zero,R1];have hv:A0w x v (c:Int)=Option.map Sum.inr (B23 x v c):=by
    unfold A0w B23
    by_cases hlt:c<x.Ao.length
    ·have g:=F4 hlt;have:=h3 c (D3U _) hlt;have hd:decide ((c:Int)<(x.Ao.length:Int))=true:=D3h (by omega)
     simp only [hd,gd,D3g,g,D3c,D3N,D3j (show¬(el x.Ao c).V<=v by omega),D3f,Bool.and_true]
     by_cases h0:0<c
     ·rw [D3h (by omega),D3g,if_pos ⟨h0,hlt⟩]
     ·rw [D3j (by omega),D3f,if_neg (by omega)]
    ·have hd:decide ((c:Int)<(x.Ao.length:Int))=false:=D3j (by omega)
     simp only [hd,gd,D3f,D3c,D3H,Bool.and_false];rw [if_neg (by omega)]
   rw [hv];cases B23 x v c<;>rfl
  |succ k ih=>
   intro hk;rw [<-ih (by omega)]
   refine M3 ?_;have hlt:c-(k+1)<x.Ao.length:=by omega
   have g:=F4 hlt;have:=h2 (c-(k+1)) (by omega)
   have e1:A2 (((c-(k+1):Nat):Int)+1)=((c-k:Nat):Int):=by rw [A7]<;>omega
   have hd:decide (((c-(k+1):Nat):Int)<(x.Ao.length:Int))=true:=D3h (by omega)
   simp only [A0w,hd,gd,D3g,g,D3c,D3N,D3h this,e1]
 have:=key c (D3U _);rw [Nat.sub_self] at this;exact this
end Go.Win
namespace Go.Win
open Go.Vc Go.Dec
theorem C8G {α:Type} (s:Nat->α) (z:α) (P j:Nat) (hj:j<P):((List.range j).map s++List.replicate (P-j) z).set j (s j)=(List.range (j+1)).map s++List.replicate (P-(j+1)) z:=by
 have hl:((List.range j).map s).length=j:=by simp
 rw [List.set_append_right _ _ (by omega),hl,Nat.sub_self,show P-j=(P-(j+1))+1 by omega,List.replicate_succ,List.set_cons_zero,List.range_succ,D4b,D3G]
 rfl
end Go.Win
namespace Go.Win
open Go.Vc Go.Dec
theorem D1a {l:List B0} {N:Int} (h:Y0 l N):(l.length:Int)<=N:=by
 rcases Nat.eq_zero_or_pos l.length with g|g
 ·have:=h.n0;omega
 ·have key: ∀i,i<l.length->(i:Int)+1<=(D7 l i).Bf:=by
   intro i
   induction i with
   |zero=>intro hi;have:=h.rng 0 hi;omega
   |succ i ih=>
    intro hi;have a:=ih (by omega)
    have b:=(h.up i hi).2.1
    push_cast
    omega
  have a:=key (l.length-1) (by omega)
  rw [h.last g] at a;omega
theorem B57 {l:List B0} {N:Int} (h:Y0 l N) {i j:Nat} (hij:i<=j) (hj:j<l.length):(D7 l i).V<=(D7 l j).V:=D2P h hij hj
theorem B9H {l:List B0} {N:Int} (h:Y0 l N) (h0:0<l.length):1<=P2 l/\P2 l<=N:=by
 unfold P2;rw [if_neg (by omega)]
 exact ⟨(A76 l.length).1,C9m h h0 l.length (D3U _)⟩
theorem B7N {A B:List B0}: ∀m j,j<(F9 A B m).2-> ∃k,k<m/\(F9 A B k).2=j/\tk A B (F9 A B k)=false
 |0,j,h=>by simp [F9] at h
 |m+1,j,h=>by
  have e:F9 A B (m+1)=S5 A B (F9 A B m):=rfl;rw [e] at h;unfold S5 at h;cases ht:tk A B (F9 A B m) with
  |true=>
   rw [ht] at h;obtain ⟨k,h1,h2,h3⟩:=B7N m j h;exact ⟨k,by omega,h2,h3⟩
  |false=>
   rw [ht] at h;have h' :j<(F9 A B m).2+1:=h;rcases Nat.lt_or_ge j (F9 A B m).2 with g|g
   ·obtain ⟨k,h1,h2,h3⟩:=B7N m j g;exact ⟨k,by omega,h2,h3⟩
   ·exact ⟨m,by omega,by omega,ht⟩
theorem D03 {A B:List B0} {a b:Int} {k:Nat} (hk:k<A.length+B.length):(∃i,i<A.length/\(me A B a b k).V=(D7 A i).V)\/ ∃j,j<B.length/\(me A B a b k).V=(D7 B j).V:=by
 obtain ⟨i1,i2,i3⟩:=A6n A B k (by omega)
 rw [C6S];cases ht:tk A B (F9 A B k) with
 |true=>exact .inl ⟨_,(A3q i1 i2 (by omega) ht).1,rfl⟩
 |false=>exact .inr ⟨_,(A1F i2 ht).1,rfl⟩
theorem D10 {A B:List B0} {a b:Int} {j:Nat} (hj:j<B.length): ∃k,k<A.length+B.length/\(me A B a b k).V=(D7 B j).V:=by
 obtain ⟨i1,i2,i3⟩:=A6n A B (A.length+B.length) (D3U _);obtain ⟨k,h1,h2,h3⟩:=B7N (A:=A) (B:=B) (A.length+B.length) j (by omega)
 refine ⟨k,h1, ?_⟩;rw [C6S,h3,h2]
 rfl
theorem C5p {b:Int}: ∀n:Nat,(2:Int)^n<=b+1->W1 b (n+1)=0
 |0,h=>by
  unfold W1;rw [Int.pow_zero,if_neg (by rw [Int.pow_zero] at h;omega)]
  rfl
 |n+1,h=>by
  have hp:=A1C n;have e:(2:Int)^(n+1)=2^n*2:=Int.pow_succ 2 n;unfold W1;rw [if_neg (by omega)]
  exact C5p n (by omega)
theorem C8E {r:C8} (h:Y0 r.Ac r.N) {b:Nat} (hb1:1<=b) (hb2:b<=65536) (hl:r.Ac.length<=1000) (h0:0<r.Ac.length):
  ∃q,A0k r (b:Int)=some (q,0)/\q.N=r.N/\Y0 q.Ac q.N/\q.Ac.length<=b+1/\P2 q.Ac<=P2 r.Ac+(if r.Ac.length<=b+1 then 0 else (r.N-1+(b:Int)-1)/(b:Int))/\
   0<q.Ac.length/\(D7 q.Ac 0).V=(D7 r.Ac 0).V/\(D7 q.Ac (q.Ac.length-1)).V=(D7 r.Ac (r.Ac.length-1)).V:=by
 have hok:okB r=true:=(Z8 _).2 h;unfold A0k;rw [A10 r (by omega)]
 simp only [D3c,hok,D3g,D3P,D3f];have e0:(decide ((b:Int)<1)||decide ((b:Int)>65536))=false:=by
  rw [D3M,D3t,D3t];omega
 have e1:A2 ((b:Int)+1)=(b:Int)+1:=by rw [A7]<;>omega
 rw [e0,e1];simp only [D3f]
 by_cases hle:r.Ac.length<=b+1
 ·rw [D3h (by omega)]
  simp only [D3g];unfold A1j;rw [O1 (by rw [D3e,D3I];omega)]
  refine ⟨r,by simp,rfl,h,hle, ?_,h0,rfl,rfl⟩
  rw [if_pos hle];omega
 ·rw [D3j (by omega)]
  simp only [D3f];have hN:1<=r.N:=by have:=h.rng 0 h0;omega
  obtain ⟨p1,p2⟩:=C9N h (by omega) h0 hb1 hb2
  rw [B8W h (by omega) h0 hb1 hb2 r rfl rfl]
  generalize hc:(T6 (fun i=>O6 r.Ac (rk r.N (b:Int) i)) (b+1))=c at p1 p2
  have hlt: ∀j∈c,j<r.Ac.length:=fun j hj=>by
   rw [<-hc] at hj;obtain ⟨i,i1,rfl⟩:=C3n hj;exact (A4u h (A2G hN hb1 (show i<=b by omega)) (by omega)).lt
  have hfrom: ∀i,i<(c.map (D7 r.Ac)).length-> ∃j,j<r.Ac.length/\D7 (c.map (D7 r.Ac)) i=D7 r.Ac j:=fun i hi=>by
   rw [D3Z] at hi;refine ⟨c[i],hlt _ (D31 hi), ?_⟩;rw [B52 (by rw [D3Z];exact hi),List.getElem_map]
  have hp:0<(c.map (D7 r.Ac)).length:=by
   rcases Nat.eq_zero_or_pos (c.map (D7 r.Ac)).length with g|g
   ·have:=p1.nil.1 g;omega
   ·exact g
  refine ⟨⟨r.N,c.map (D7 r.Ac)⟩,rfl,rfl,p1, ?_, ?_,hp, ?_, ?_⟩
  ·have:=B3B (fun i=>O6 r.Ac (rk r.N (b:Int) i)) (b+1);rw [hc] at this;simp only [D3Z];exact this
  ·rw [if_neg hle];exact p2
  ·obtain ⟨j,j1,j2⟩:=hfrom 0 hp;have a:=p1.first hp;have g:=h.first h0;show (D7 (c.map (D7 r.Ac)) 0).V=_;rw [j2] at a⊢;rcases Nat.eq_zero_or_pos j with e|e
   ·rw [e]
   ·have:=A8Z h e j1;omega
  ·obtain ⟨j,j1,j2⟩:=hfrom ((c.map (D7 r.Ac)).length-1) (by omega)
   have a:=p1.last hp;have g:=h.last h0;show (D7 (c.map (D7 r.Ac)) ((c.map (D7 r.Ac)).length-1)).V=_;rw [j2] at a⊢;rcases Nat.lt_or_ge j (r.Ac.length-1) with e|e
   ·have:=A8Z h e (by omega)
    omega
   ·have:j=r.Ac.length-1:=by omega
    rw [this]
theorem C66 {A B:C8} {n b:Nat} (hA:Y0 A.Ac A.N) (hB:Y0 B.Ac B.N) (nA:A.N=2^n) (nB:B.N=2^n) (hn:n<=28) (hb1:1<=b) (hb2:b<=65536) (hl:A.Ac.length+B.Ac.length<=1000)
  (gA:P2 A.Ac-1<=W1 (b:Int) (n+1)) (gB:P2 B.Ac-1<=W1 (b:Int) (n+1)):
  ∃y q,A2m A B=some (y,0)/\A0k y (b:Int)=some (q,0)/\Y0 q.Ac q.N/\q.N=2^(n+1)/\q.Ac.length<=b+1/\P2 q.Ac-1<=W1 (b:Int) (n+2)/\0<q.Ac.length/\
   (∀X,(∀i,i<A.Ac.length->X<=(D7 A.Ac i).V)->(∀i,i<B.Ac.length->X<=(D7 B.Ac i).V)->X<=(D7 q.Ac 0).V)/\
   (∀X,(∀i,i<A.Ac.length->(D7 A.Ac i).V<=X)->(∀i,i<B.Ac.length->(D7 B.Ac i).V<=X)->(D7 q.Ac (q.Ac.length-1)).V<=X)/\
   ∀i,i<B.Ac.length->(D7 q.Ac 0).V<=(D7 B.Ac i).V/\(D7 B.Ac i).V<=(D7 q.Ac (q.Ac.length-1)).V:=by
 have hp:=A1C n;have hp30:=B3N (i:=n) (by omega)
 have e2:(2:Int)^(n+1)=2^n*2:=Int.pow_succ 2 n;have a0:0<A.Ac.length:=by
  rcases Nat.eq_zero_or_pos A.Ac.length with g|g
  ·have:=hA.nil.1 g;omega
  ·exact g
 have b0:0<B.Ac.length:=by
  rcases Nat.eq_zero_or_pos B.Ac.length with g|g
  ·have:=hB.nil.1 g;omega
  ·exact g
 have hm:=C9z hA hB (by omega)
 have hgap:=C8a hA hB a0 b0 (A.Ac.length+B.Ac.length) (D3U _);have em:A2m A B=some (⟨A.N+B.N,meL A.Ac B.Ac A.N B.N (A.Ac.length+B.Ac.length)⟩,0):=by
  rw [B8Y _ _ (by omega) (by omega)]
  unfold A7p;rw [(Z8 A).2 hA,(Z8 B).2 hB,D3j (by omega)]
  rfl
 generalize hL:meL A.Ac B.Ac A.N B.N (A.Ac.length+B.Ac.length)=L at*
 have hlen:L.length=A.Ac.length+B.Ac.length:=by rw [<-hL,K2]
 have hgL:P2 L<=P2 A.Ac+P2 B.Ac-1:=by
  have e:P2 L=A0K L L.length:=by unfold P2;rw [if_neg (by omega)]
  rw [e,hlen];exact hgap
 obtain ⟨q,q1,q2,q3,q4,q5,q6,q7,q8⟩:=C8E (r:=⟨A.N+B.N,L⟩) hm hb1 hb2 (by show L.length<=1000;omega) (by show 0<L.length;omega)
 have hV: ∀k,k<L.length->(∃i,i<A.Ac.length/\(D7 L k).V=(D7 A.Ac i).V)\/ ∃j,j<B.Ac.length/\(D7 L k).V=(D7 B.Ac j).V:=fun k hk=>by
  rw [hlen] at hk;rw [<-hL,A3a _ _ _ _ hk];exact D03 hk
 have q7' :(D7 q.Ac 0).V=(D7 L 0).V:=q7;have q8' :(D7 q.Ac (q.Ac.length-1)).V=(D7 L (L.length-1)).V:=q8;refine ⟨_,q,em,q1,q3,by rw [q2,e2];show A.N+B.N=_;omega,q4, ?_,q6,fun X h1 h2=> ?_,fun X h1 h2=> ?_,fun j hj=> ?_⟩
 ·have q5' :P2 q.Ac<=P2 L+(if L.length<=b+1 then 0 else (A.N+B.N-1+(b:Int)-1)/(b:Int)):=q5
  have hlN:=D1a hm;have u:W1 (b:Int) (n+2)=if (2:Int)^(n+1)>(b:Int)+1 then 2*W1 (b:Int) (n+1)+((2:Int)^(n+1)-1+(b:Int)-1)/(b:Int) else W1 (b:Int) (n+1):=rfl
  have eN:A.N+B.N=2^(n+1):=by omega
  by_cases hle:L.length<=b+1
  ·rw [if_pos hle] at q5'
   by_cases hc:(2:Int)^(n+1)>(b:Int)+1
   ·rw [u,if_pos hc];have:=Int.ediv_nonneg (show 0<=(2:Int)^(n+1)-1+(b:Int)-1 by omega) (show 0<=(b:Int) by omega)
    omega
   ·rw [u,if_neg hc];have z:=C5p (b:=(b:Int)) n (by omega)
    omega
  ·rw [if_neg hle,eN] at q5';rw [u,if_pos (by omega)]
   omega
 ·rw [q7'];rcases hV 0 (by omega) with ⟨i,hi,e⟩|⟨j,hj,e⟩
  ·rw [e];exact h1 i hi
  ·rw [e];exact h2 j hj
 ·rw [q8'];rcases hV (L.length-1) (by omega) with ⟨i,hi,e⟩|⟨j,hj,e⟩
  ·rw [e];exact h1 i hi
  ·rw [e];exact h2 j hj
 ·obtain ⟨k,k1,k2⟩:=D10 (A:=A.Ac) (B:=B.Ac) (a:=A.N) (b:=B.N) hj;have ek:(D7 L k).V=(D7 B.Ac j).V:=by rw [<-hL,A3a _ _ _ _ k1];exact k2
  rw [q7',q8',<-ek];exact ⟨B57 hm (Nat.zero_le _) (by omega),B57 hm (by omega) (by omega)⟩
end Go.Win
namespace Go.Win
open Go.Vc Go.Dec
theorem C65 (p0:C8) (p1:Int) (hl:p0.Ac.length<=1000) (h64:1<=p1/\p1<=65536): ∃r,A0k p0 p1=some r/\A59 p0 p1=some r/\r.1.Ac.length<=p0.Ac.length:=by
 unfold A0k A59;rw [A10 p0 (by omega),A4J p0 (by omega)]
 simp only [D3c];cases hb:okB p0 with
 |false=>exact ⟨_,rfl,rfl,Nat.zero_le _⟩
 |true=>
  have h:=(Z8 p0).1 hb;simp only [D3g,D3P,D3f];rw [D3j (by omega),D3j (by omega)]
  simp only [Bool.or_self,D3f];have e1:A2 (p1+1)=p1+1:=by rw [A7]<;>omega
  rw [e1]
  by_cases hle:(p0.Ac.length:Int)<=p1+1
  ·rw [D3h hle];simp only [D3g];unfold A1j;rw [O1 (by rw [D3e,D3I];omega)]
   exact ⟨_,by simp,rfl,by simp⟩
  ·rw [D3j hle];simp only [D3f];obtain ⟨b,rfl⟩:=Int.eq_ofNat_of_zero_le (show 0<=p1 by omega)
   have hpos:0<p0.Ac.length:=by omega
   rw [B8W h (by omega) hpos (by omega) (by omega) p0 rfl rfl,B97 h (by omega) hpos (by omega) (by omega) p0 rfl rfl]
   refine ⟨_,rfl,rfl, ?_⟩;have:=B3B (fun i=>O6 p0.Ac (rk p0.N (b:Int) i)) (b+1);simp only [D3Z];omega
theorem C8b (r s:C8):(A7p r s).1.Ac.length<=r.Ac.length+s.Ac.length:=by
 unfold A7p;cases okB r&&okB s with
 |false=>exact Nat.zero_le _
 |true=>
  rw [D3g];cases decide (r.N+s.N>1099511627776) with
  |true=>exact Nat.zero_le _
  |false=>rw [D3f,K2];exact D3U _
abbrev lvQ (b:A6):Int:=b.As
abbrev tmQ (b:A6):Int:=b.T
def A2F (b:A6) (l:Int) (r:C8):A6:=⟨b.T,b.Az,l+1,r⟩
structure Mg (p2:Int) (b1 b2:A6) (y p:C8×Int):Prop where
 m1:A2m b1.Aw b2.Aw=some y
 m2:A58 b1.Aw b2.Aw=some y
 p1:A0k y.1 p2=some p
 p2:A59 y.1 p2=some p
noncomputable def B0X (p1 p2:Int) (v3_11:List A6) (v3_12 v3_13 v6_14:Int):Option (((List A6)×Int×Int)⊕(List A6)):=
 cond (decide ((A2 (v3_12-v6_14))<(A2 (p1+(2:Int))))) (
  some (.inr v3_11))<|
 Option.bind (D0 v3_11 v6_14) fun x12_2=>
 Option.bind (D0 v3_11 v6_14) fun x12_3=>
 Option.bind (D0 v3_11 (A2 (v6_14+(1:Int)))) fun x12_7=>
 Option.bind (D0 v3_11 (A2 (v6_14+(1:Int)))) fun x12_8=>
 Option.bind (A2m x12_3.Aw x12_8.Aw) fun y13_4=>
 Option.bind (A0k y13_4.1 p2) fun y14_2=>
 Option.bind (D0 v3_11 v6_14) fun x15_10=>
 Option.bind (D0 v3_11 v6_14) fun x15_11=>
 ck (decide (0<=(A2 (v6_14+(1:Int)))/\(A2 (v6_14+(1:Int)))<=((v3_11.set (v6_14).toNat (A6.mk x12_8.T x12_8.Az (A2 (v3_13+(1:Int))) y14_2.1)).length:Int)))<|
 ck (decide (0<=(A2 (v6_14+(2:Int)))/\(A2 (v6_14+(2:Int)))<=((v3_11.set (v6_14).toNat (A6.mk x12_8.T x12_8.Az (A2 (v3_13+(1:Int))) y14_2.1)).length:Int)))<|
 ck (decide (0<((A2 (v6_14+(1:Int)))).toNat/\((A2 (v6_14+(1:Int)))).toNat+(((v3_11.set (v6_14).toNat (A6.mk x12_8.T x12_8.Az (A2 (v3_13+(1:Int))) y14_2.1)).drop ((A2 (v6_14+(2:Int)))).toNat).take ((v3_11.set (v6_14).toNat (A6.mk x12_8.T x12_8.Az (A2 (v3_13+(1:Int))) y14_2.1)).length-((A2 (v6_14+(2:Int)))).toNat)).length<=(v3_11.set (v6_14).toNat (A6.mk x12_8.T x12_8.Az (A2 (v3_13+(1:Int))) y14_2.1)).length))<|
 some (.inl (((v3_11.set (v6_14).toNat (A6.mk x12_8.T x12_8.Az (A2 (v3_13+(1:Int))) y14_2.1)).take ((A2 (v6_14+(1:Int)))).toNat++(((v3_11.set (v6_14).toNat (A6.mk x12_8.T x12_8.Az (A2 (v3_13+(1:Int))) y14_2.1)).drop ((A2 (v6_14+(2:Int)))).toNat).take ((v3_11.set (v6_14).toNat (A6.mk x12_8.T x12_8.Az (A2 (v3_13+(1:Int))) y14_2.1)).length-((A2 (v6_14+(2:Int)))).toNat))),(A2 (v6_14+(1:Int))),(A2 (v3_13+(1:Int)))))
noncomputable def B1g (p1 p2:Int) (v3_11:List A6) (v3_12 v7_13 v7_14:Int):Option (((List A6)×Int)⊕(List A6)):=
 cond (decide (v7_14<=(A2 (p1+(1:Int))))) (
  some (.inr v3_11))<|
 Option.bind (D0 v3_11 v7_13) fun x18_2=>
 Option.bind (D0 v3_11 v7_13) fun x18_3=>
 Option.bind (D0 v3_11 (A2 (v7_13+(1:Int)))) fun x18_7=>
 Option.bind (D0 v3_11 (A2 (v7_13+(1:Int)))) fun x18_8=>
 Option.bind (A58 x18_3.Aw x18_8.Aw) fun y19_4=>
 Option.bind (A59 y19_4.1 p2) fun y20_2=>
 ck (decide (0<=v7_13/\v7_13<=(v3_11.length:Int)))<|
 ck (decide ((([]:List A6).length+(v3_11.take (v7_13).toNat).length)*56<=140737488355328))<|
 ck (decide (((([]:List A6)++(v3_11.take (v7_13).toNat)).length+ [(A6.mk x18_8.T x18_8.Az (A2 (v3_12+(1:Int))) y20_2.1)].length)*56<=140737488355328))<|
 ck (decide (0<=(A2 (v7_13+(2:Int)))/\(A2 (v7_13+(2:Int)))<=(v3_11.length:Int)))<|
 ck (decide ((((([]:List A6)++(v3_11.take (v7_13).toNat))++ [(A6.mk x18_8.T x18_8.Az (A2 (v3_12+(1:Int))) y20_2.1)]).length+(v3_11.drop ((A2 (v7_13+(2:Int)))).toNat).length)*56<=140737488355328))<|
 some (.inl ((((([]:List A6)++(v3_11.take (v7_13).toNat))++ [(A6.mk x18_8.T x18_8.Az (A2 (v3_12+(1:Int))) y20_2.1)])++(v3_11.drop ((A2 (v7_13+(2:Int)))).toNat)),(A2 (v3_12+(1:Int)))))
theorem B4b {A B C:List A6} {l k p2:Int} (hn:(A++B++C).length<=1048576) (hk:1<=k/\k<=128) (hb:(B.length:Int)<k+2):
  B0X k p2 (A++B++C) ((A.length+B.length:Nat):Int) l (A.length:Int)=some (.inr (A++B++C)):=by
 have hlen:(A++B++C).length=A.length+B.length+C.length:=by simp [Nat.add_assoc]
 have ek:A2 (k+2)=k+2:=by rw [A7]<;>omega
 have eb:A2 (((A.length+B.length:Nat):Int)-(A.length:Int))=(B.length:Int):=by rw [A7]<;>omega
 unfold B0X;rw [eb,ek,D3h hb,D3g]
theorem C4S {A D C:List A6} {b1 b2:A6} {y p:C8×Int} {l k p2:Int} (hn:(A++(b1::b2::D)++C).length<=1048576) (hk:1<=k/\k<=128) (hl:0<=l/\l<=30) (hb:¬(((b1::b2::D).length:Nat):Int)<k+2) (hm:Mg p2 b1 b2 y p):
  B0X k p2 (A++(b1::b2::D)++C) ((A.length+(b1::b2::D).length:Nat):Int) l (A.length:Int)=some (.inl (A++A2F b2 l p.1::(D++C),((A.length+1:Nat):Int),l+1)):=by
 have hlen:(A++(b1::b2::D)++C).length=A.length+(b1::b2::D).length+C.length:=by simp only [D3i]
 have ek:A2 (k+2)=k+2:=by rw [A7]<;>omega
 have eb:A2 (((A.length+(b1::b2::D).length:Nat):Int)-(A.length:Int))=((b1::b2::D).length:Int):=by rw [A7]<;>omega
 unfold B0X;rw [eb,ek,D3j hb,D3f];have e1:A2 ((A.length:Int)+1)=((A.length+1:Nat):Int):=by rw [A7]<;>omega
 have e2:A2 ((A.length:Int)+2)=((A.length+2:Nat):Int):=by rw [A7]<;>omega
 have el1:A2 (l+1)=l+1:=by rw [A7]<;>omega
 have eo:A++(b1::b2::D)++C=A++b1::b2::(D++C):=by simp
 rw [eo] at hlen⊢;have g1:D0 (A++b1::b2::(D++C)) (A.length:Int)=some b1:=by simp
 have g2:D0 (A++b1::b2::(D++C)) ((A.length+1:Nat):Int)=some b2:=by
  rw [I2,D3C (by omega)]
  simp
 rw [e1,e2,el1,g1,g2];simp only [D3c,D3S,hm.m1,hm.p1];have hc:=C23 b1 b2 (A2F b2 l p.1) (D++C) A;unfold A2F at hc;have hs:((A++b1::b2::(D++C)).set A.length ⟨b2.T,b2.Az,l+1,p.1⟩).length=A.length+(D.length+2)+C.length:=by
  rw [D4c];simp;omega
 have hd:(((A++b1::b2::(D++C)).set A.length ⟨b2.T,b2.Az,l+1,p.1⟩).drop (A.length+2)).length=D.length+C.length:=by
  rw [D3K,hs];omega
 rw [I9 (by rw [hs];omega),I9 (by rw [hs];omega),I9 (by rw [D3E,hd,hs];omega),hc]
 rfl
theorem B6N {A B C:List A6} {l k p2:Int} (hp:A6d lvQ A B C l) (hn:(A++B++C).length<=1048576):
  A6B k p2 (A++B++C) ((A.length+B.length:Nat):Int) l ((A.length+B.length:Nat):Int)=B0X k p2 (A++B++C) ((A.length+B.length:Nat):Int) l (A.length:Int):=by
 have hlen:(A++B++C).length=A.length+B.length+C.length:=by simp [Nat.add_assoc]
 unfold A6B;refine C09 lvQ hp _ ?_ ?_
 ·intro h0;unfold A2L;have e0:decide ((0:Int)>0)=false:=by decide
  simp only [e0,gd,D3f,D3c,D3H];rw [h0]
  rfl
 ·intro i x hx hi;have e1:A2 (((i+1:Nat):Int)-1)=(i:Int):=by rw [A7]<;>omega
  have e2:decide (((i+1:Nat):Int)>0)=true:=D3h (by omega)
  unfold A2L;simp only [e1,e2,gd,D3g,I2,hx,D3c,D3N];constructor
  ·intro h;have:(x.As==l)=true:=by simpa using h
   rw [this,D3g]
  ·intro h hA;have:(x.As==l)=false:=by simpa using h
   rw [this,D3f,hA]
   rfl
theorem B4i {A B C:List A6} {l k p2 a:Int} (hk:1<=k/\k<=128) (hb:(B.length:Int)<k+2):
  B1g k p2 (A++B++C) l a (B.length:Int)=some (.inr (A++B++C)):=by
 have ek:A2 (k+1)=k+1:=by rw [A7]<;>omega
 unfold B1g;rw [ek,D3h (by omega),D3g]
theorem C48 {A D C:List A6} {b1 b2:A6} {y p:C8×Int} {l k p2:Int} (hn:(A++(b1::b2::D)++C).length<=1048576) (hk:1<=k/\k<=128) (hl:0<=l/\l<=30) (hb:¬(((b1::b2::D).length:Nat):Int)<k+2) (hm:Mg p2 b1 b2 y p):
  B1g k p2 (A++(b1::b2::D)++C) l (A.length:Int) ((b1::b2::D).length:Int)=some (.inl (A++A2F b2 l p.1::(D++C),l+1)):=by
 have hlen:(A++(b1::b2::D)++C).length=A.length+(b1::b2::D).length+C.length:=by simp only [D3i]
 have ek:A2 (k+1)=k+1:=by rw [A7]<;>omega
 unfold B1g;rw [ek,D3j (by omega),D3f]
 have e1:A2 ((A.length:Int)+1)=((A.length+1:Nat):Int):=by rw [A7]<;>omega
 have e2:A2 ((A.length:Int)+2)=((A.length+2:Nat):Int):=by rw [A7]<;>omega
 have el1:A2 (l+1)=l+1:=by rw [A7]<;>omega
 have eo:A++(b1::b2::D)++C=A++b1::b2::(D++C):=by simp
 rw [eo] at hlen⊢;rw [eo] at hn;have g1:D0 (A++b1::b2::(D++C)) (A.length:Int)=some b1:=by simp
 have g2:D0 (A++b1::b2::(D++C)) ((A.length+1:Nat):Int)=some b2:=by
  rw [I2,D3C (by omega)]
  simp
 rw [e1,e2,el1,g1,g2];simp only [D3c,D3S,hm.m2,hm.p2];have ht:(A++b1::b2::(D++C)).take A.length=A:=List.take_left;have hd:(A++b1::b2::(D++C)).drop (A.length+2)=D++C:=by
  rw [List.drop_append];simp [List.drop_eq_nil_of_le]
 simp only [ht,hd,List.nil_append];have hs:A.length+D.length+C.length<=1048576:=by rw [hlen] at hn;simp at hn;omega
 rw [I9,I9,I9,I9,I9]
 ·simp only [A2F,D3G,List.singleton_append]
 ·simp only [D3i,D3v,D3I];omega
 ·rw [hlen];simp only [D3v];omega
 ·simp only [D3v,D3I];omega
 ·simp only [D3I];omega
 ·rw [hlen];omega
theorem B82 {A B C:List A6} {l k p2:Int} (hp:A6d lvQ A B C l) (hn:(A++B++C).length<=1048576):
  A7E k p2 (A++B++C) l (-1) 0 0=B1g k p2 (A++B++C) l (if B.length=0 then-1 else (A.length:Int)) (B.length:Int):=by
 unfold A7E;refine C22 lvQ hp _ ?_ ?_
 ·intro i x a n hx hn0;have hi:i<(A++B++C).length:=(D3m.1 hx).1;have e1:A2 ((i:Int)+1)=((i+1:Nat):Int):=by rw [A7]<;>omega
  have e2:A2 (n+1)=n+1:=by rw [A7]<;>omega
  unfold A6Q;simp only [e1,e2,I2,hx,D3c,D3h (show (i:Int)<((A++B++C).length:Int) by omega),D3g]
  by_cases h:lvQ x=l
  ·rw [if_pos h];have:(x.As==l)=true:=by simpa using h
   rw [this,D3g]
   by_cases ha:a<0
   ·rw [D3h ha,D3g,if_pos ha]
   ·rw [D3j ha,D3f,if_neg ha]
  ·rw [if_neg h];have:(x.As==l)=false:=by simpa using h
   rw [this,D3f]
 ·unfold A6Q;simp only [D3j (show¬((A++B++C).length:Int)<((A++B++C).length:Int) by omega),D3f]
  rfl
def J1 (l:List A6):Nat:=(l.map fun x=>x.Aw.Ac.length).sum
theorem A74 (a b:List A6):J1 (a++b)=J1 a+J1 b:=by simp [J1]
theorem A63 (x:A6) (l:List A6):J1 (x::l)=x.Aw.Ac.length+J1 l:=by simp [J1]
theorem C9d {l:List A6} {x:A6} (h:x∈l):x.Aw.Ac.length<=J1 l:=by
 induction l with
 |nil=>cases h
 |cons y l ih=>
  rw [A63];rcases List.mem_cons.1 h with h|h
  ·rw [h];omega
  ·have:=ih h;omega
def B73 (l:List A6):Prop:=l.Pairwise (fun a b=>b.As<=a.As)/\ ∀x∈l,0<=x.As/\x.As<=30
def X3 (l:List A6):Int:=I3 (plainB l)
theorem B3T (a b:List A6):X3 (a++b)=X3 a+X3 b:=by simp [X3,plainB,A2H]
theorem C1g (x:A6) (l:List A6):X3 (x::l)=A0P ⟨x.T,x.As⟩+X3 l:=by
 unfold X3 plainB;rw [D35,A2B]
theorem B6c (l:List A6):0<=X3 l:=A7a _
theorem C8U {B:List A6} {n:Nat} (hn:n<=30) (h:∀x∈B,x.As=(n:Int)):X3 B=(B.length:Int)*2^n:=by
 have:=C1i (B:=plainB B) hn (fun x hx=>by
  obtain ⟨y,hy,rfl⟩:=List.mem_map.1 hx;exact h y hy)
 rw [A0j] at this;exact this
theorem B5J {l:Int}: ∀ {A:List A6},A.Pairwise (fun a b=>b.As<=a.As)->(∀x∈A,l<x.As)-> ∃A' A1,A=A' ++A1/\(∀x∈A',l+1<x.As)/\ ∀x∈A1,x.As=l+1
 | [],_,_=>⟨[], [],rfl,by simp,by simp⟩
 |a::A,hs,hl=>by
  have h2:=List.pairwise_cons.1 hs
  by_cases ha:a.As=l+1
  ·refine ⟨[],a::A,rfl,by simp,fun x hx=> ?_⟩
   rcases List.mem_cons.1 hx with h|h
   ·rw [h];exact ha
   ·have:=h2.1 x h;have:=hl x (by simp [h])
    omega
  ·obtain ⟨A',A1,e,h3,h4⟩:=B5J h2.2 (fun x hx=>hl x (by simp [hx]))
   refine ⟨a::A',A1,by rw [e];rfl,fun x hx=> ?_,h4⟩
   rcases List.mem_cons.1 hx with h|h
   ·rw [h];have:=hl a (by simp);omega
   ·exact h3 x h
theorem D2G {p2:Int} (h2:1<=p2/\p2<=65536) (b1 b2:A6) (hl:b1.Aw.Ac.length+b2.Aw.Ac.length<=1000): ∃y p,Mg p2 b1 b2 y p/\p.1.Ac.length<=b1.Aw.Ac.length+b2.Aw.Ac.length:=by
 have hm:=C8b b1.Aw b2.Aw;obtain ⟨p,q1,q2,q3⟩:=C65 (A7p b1.Aw b2.Aw).1 p2 (by omega) h2
 exact ⟨A7p b1.Aw b2.Aw,p,⟨B8Y _ _ (by omega) (by omega),C8J _ _ (by omega) (by omega),q1,q2⟩,by omega⟩
theorem A92 (X:List A6) (j:Int):Y8 (fun b:A3=>b.As) (plainB X) j=Y8 lvQ X j:=by
 unfold Y8 plainB;rw [List.countP_map]
 rfl
theorem B7x {Q:Int->Prop} {k l:Int} {X:List A6}:CI (fun b:A3=>b.As) (fun b=>b.T) Q k l (plainB X)↔CI lvQ tmQ Q k l X:=by
 constructor
 ·intro h;refine ⟨fun j hj=> ?_,fun x hx j hj hjx=> ?_, ?_,fun x hx=> ?_⟩
  ·rw [<-A92];exact h.le j hj
  ·rw [<-A92];exact h.ge ⟨x.T,x.As⟩ (List.mem_map.2 ⟨x,hx,rfl⟩) j hj hjx
  ·have:=h.srt;unfold plainB at this;have q:=List.pairwise_map.1 this;exact q
  ·exact h.all ⟨x.T,x.As⟩ (List.mem_map.2 ⟨x,hx,rfl⟩)
 ·intro h;refine ⟨fun j hj=> ?_,fun x hx j hj hjx=> ?_, ?_,fun x hx=> ?_⟩
  ·rw [A92];exact h.le j hj
  ·obtain ⟨y,hy,rfl⟩:=List.mem_map.1 hx;rw [A92];exact h.ge y hy j hj hjx
  ·unfold plainB;exact List.pairwise_map.2 h.srt
  ·obtain ⟨y,hy,rfl⟩:=List.mem_map.1 hx;exact h.all y hy
theorem D05 {p2:Int} (h2:1<=p2/\p2<=65536) {b1 b2:A6} {l:Nat} (hl:l<=28) (l1:b1.As=(l:Int)) (l2:b2.As=(l:Int)) (o1:A2P p2 b1) (o2:A2P p2 b2) (hlen:b1.Aw.Ac.length+b2.Aw.Ac.length<=1000) {y p:C8×Int} (hm:Mg p2 b1 b2 y p):A2P p2 (A2F b2 (l:Int) p.1):=by
 obtain ⟨b,rfl⟩:=Int.eq_ofNat_of_zero_le (show 0<=p2 by omega)
 obtain ⟨a1,a2,a3,a4,a5,a6,a7,a8⟩:=o1;obtain ⟨c1,c2,c3,c4,c5,c6,c7,c8⟩:=o2;have hp30:=B3N (i:=l) (by omega)
 rw [l1,D3S] at a2 a4;rw [l2,D3S] at c2 c4;have hA:=(Z8 _).1 a1;have hB:=(Z8 _).1 c1;have pA:=B1U a1 a2;have pB:=B1U c1 c2;have gA:=B9H hA pA;have gB:=B9H hB pB;rw [A7 (by omega) (by omega)] at a4 c4
 obtain ⟨y',q,e1,e2,e3,e4,e5,e6,e7,e8,e9,e10⟩:=C66 hA hB a2 c2 hl (by omega) (by omega) hlen a4 c4
 have m1:=hm.m1;rw [e1] at m1;have ey:y=(y',0):=(D3V m1).symm;have m2:=hm.p1;rw [ey] at m2;have m2' :A0k y' (b:Int)=some p:=m2;rw [e2] at m2';have ep:p=(q,0):=(D3V m2').symm;subst ep;have hq:=B9H e3 e7;have hp31:=B3N (i:=l+1) (by omega)
 have tn:((l:Int)+1).toNat=l+1:=by omega
 have lo: ∀i,i<b1.Aw.Ac.length-> -4096<=(D7 b1.Aw.Ac i).V:=fun i hi=>Int.le_trans a5 (B57 hA (Nat.zero_le i) hi);have lo2: ∀i,i<b2.Aw.Ac.length-> -4096<=(D7 b2.Aw.Ac i).V:=fun i hi=>Int.le_trans c5 (B57 hB (Nat.zero_le i) hi);have hi1: ∀i,i<b1.Aw.Ac.length->(D7 b1.Aw.Ac i).V<=4096:=fun i hi=>Int.le_trans (B57 hA (show i<=b1.Aw.Ac.length-1 by omega) (by omega)) a6
 have hi2: ∀i,i<b2.Aw.Ac.length->(D7 b2.Aw.Ac i).V<=4096:=fun i hi=>Int.le_trans (B57 hB (show i<=b2.Aw.Ac.length-1 by omega) (by omega)) c6
 refine ⟨(Z8 _).2 e3, ?_, ?_, ?_,e8 _ lo lo2,e9 _ hi1 hi2,Int.le_trans (e10 0 pB).1 c7,Int.le_trans c8 (e10 (b2.Aw.Ac.length-1) (by omega)).2⟩
 ·show q.N=2^((l:Int)+1).toNat;rw [tn];exact e4
 ·show (q.Ac.length:Int)<=(b:Int)+1;omega
 ·show A2 (P2 q.Ac-1)<=W1 (b:Int) (((l:Int)+1).toNat+1);rw [tn,A7 (by omega) (by omega)]
  exact e6
theorem C89 {k p2:Int} (hk:1<=k/\k<=128) (h2:1<=p2/\p2<=65536): ∀(n:Nat) (A B C:List A6) (l:Nat),(A++B++C).length=n->A6d lvQ A B C (l:Int)->B73 (A++B++C)->X3 (A++B++C)<=1073741824->J1 (A++B++C)<=1000->n<=1048576->l<=30->
  ∃R,A1u k p2 (A++B++C) ((A.length+B.length:Nat):Int) (l:Int)=some R/\A2x k p2 (A++B++C) (l:Int)=some R/\J1 R<=J1 (A++B++C)/\R.length<=n/\B73 R/\X3 R=X3 (A++B++C)/\(∀Q:Int->Prop,CI lvQ tmQ Q k (l:Int) (A++B++C)->CI lvQ tmQ Q k (-1) R)/\((∀x∈A++B++C,A2P p2 x)-> ∀x∈R,A2P p2 x):=by
 intro n
 induction n with
 |zero=>
  intro A B C l hlen hp hg ht he hn hl;have hlen' :(A++B++C).length=A.length+B.length+C.length:=by simp [Nat.add_assoc]
  have hi:=B6N (k:=k) (p2:=p2) hp (by omega)
  have hr:=B82 (k:=k) (p2:=p2) hp (by omega)
  rw [B4b (by omega) hk (by omega)] at hi
  rw [B4i hk (by omega)] at hr
  refine ⟨A++B++C, ?_, ?_,D3U _,by omega,hg,rfl,fun Q h=>B5Z hp.up hp.at_ hp.low (by omega) h,fun h=>h⟩
  ·unfold A1u;exact G9 (by unfold A2K;exact hi)
  ·unfold A2x;exact G9 (by unfold A3K;rw [D3h (by omega),D3g];exact hr)
 |succ n ih=>
  intro A B C l hlen hp hg ht he hn hl;have hlen' :(A++B++C).length=A.length+B.length+C.length:=by simp [Nat.add_assoc]
  have hi:=B6N (k:=k) (p2:=p2) hp (by omega)
  have hr:=B82 (k:=k) (p2:=p2) hp (by omega)
  by_cases hb:(B.length:Int)<k+2
  ·rw [B4b (by omega) hk hb] at hi
   rw [B4i hk hb] at hr;refine ⟨A++B++C, ?_, ?_,D3U _,by omega,hg,rfl,fun Q h=>B5Z hp.up hp.at_ hp.low (by omega) h,fun h=>h⟩
   ·unfold A1u;exact G9 (by unfold A2K;exact hi)
   ·unfold A2x;exact G9 (by unfold A3K;rw [D3h (by omega),D3g];exact hr)
  ·match B,hb,hi,hr,hp,hg,ht,he,hlen,hlen' with
   | [],hb,_,_,_,_,_,_,_,_=>simp at hb;omega
   | [b1],hb,_,_,_,_,_,_,_,_=>simp at hb;omega
   |b1::b2::D,hb,hi,hr,hp,hg,ht,he,hlen,hlen' =>
    have heq:J1 (A++(b1::b2::D)++C)=J1 A+(b1.Aw.Ac.length+(b2.Aw.Ac.length+J1 D))+J1 C:=by rw [A74,A74,A63,A63]
    obtain ⟨y,p,hm,hpl⟩:=D2G h2 b1 b2 (by omega)
    rw [C4S (by omega) hk (by omega) hb hm] at hi
    rw [if_neg (by simp),C48 (by omega) hk (by omega) hb hm] at hr
    have hA:A.Pairwise (fun a b=>b.As<=a.As):=(List.pairwise_append.1 (List.pairwise_append.1 hg.1).1).1;have htB:=C8U hl hp.at_;have hl28:l<=28:=by
     by_cases h:l<=28
     ·exact h
     ·exfalso;rw [B3T,B3T,htB] at ht;have h1:=B6c A;have h2:=B6c C;have h3:(3:Int)<=((b1::b2::D).length:Int):=by simp at hb⊢;omega
      have h4:(3:Int)*2^l<=((b1::b2::D).length:Int)*2^l:=Int.mul_le_mul_of_nonneg_right h3 (Int.le_of_lt (Int.pow_pos (by decide)))
      rcases (by omega:l=29\/l=30) with rfl|rfl
      ·rw [show (2:Int)^29=536870912 by decide] at h4 ht;omega
      ·rw [show (2:Int)^30=1073741824 by decide] at h4 ht;omega
    obtain ⟨A',A1,rfl,hA',hA1⟩:=B5J hA hp.up;have hlm:(A2F b2 (l:Int) p.1).As=((l+1:Nat):Int):=by simp [A2F]
    have eo:(A' ++A1)++A2F b2 (l:Int) p.1::(D++C)=A' ++(A1++ [A2F b2 (l:Int) p.1])++(D++C):=by simp
    have el:((A' ++A1).length+1:Nat)=A'.length+(A1++ [A2F b2 (l:Int) p.1]).length:=by simp [Nat.add_assoc]
    have hlD: ∀x∈D,x.As=(l:Int):=fun x hx=>hp.at_ x (by simp [hx])
    have hp' :A6d lvQ A' (A1++ [A2F b2 (l:Int) p.1]) (D++C) ((l+1:Nat):Int):=by
     refine ⟨fun x hx=> ?_,fun x hx=> ?_,fun x hx=> ?_⟩
     ·have:=hA' x hx;show ((l+1:Nat):Int)<x.As;omega
     ·rcases D3Y.1 hx with h|h
      ·have:=hA1 x h;show x.As=_;omega
      ·rw [List.mem_singleton.1 h];exact hlm
     ·rcases D3Y.1 hx with h|h
      ·have:=hlD x h;show x.As<_;omega
      ·have h' :x.As<(l:Int):=hp.low x h;show x.As<_;omega
    have hup: ∀x∈A' ++A1,((l+1:Nat):Int)<=x.As:=fun x hx=>by
     have:(l:Int)<x.As:=hp.up x hx;omega
    have hlow: ∀x∈D++C,x.As<=(l:Int):=fun x hx=>by
     rcases D3Y.1 hx with h|h
     ·rw [hlD x h];omega
     ·have h' :x.As<(l:Int):=hp.low x h;omega
    have hDC:(D++C).Pairwise (fun a b=>b.As<=a.As):=by
     have h:=hg.1;rw [D3G] at h;have h2:=(List.pairwise_append.1 h).2.1;exact (List.pairwise_cons.1 (List.pairwise_cons.1 h2).2).2
    have hg' :B73 (A' ++(A1++ [A2F b2 (l:Int) p.1])++(D++C)):=by
     rw [<-eo];refine ⟨List.pairwise_append.2 ⟨hA,List.pairwise_cons.2 ⟨fun x hx=> ?_,hDC⟩,fun x hx y hy=> ?_⟩,fun x hx=> ?_⟩
     ·rw [hlm];have:=hlow x hx;omega
     ·rcases List.mem_cons.1 hy with h|h
      ·rw [h,hlm];exact hup x hx
      ·have:=hup x hx;have:=hlow y h;omega
     ·rcases D3Y.1 hx with h|h
      ·exact hg.2 x (by simp only [D3G,D3Y] at h⊢;rcases h with h|h<;>simp [h])
      ·rcases List.mem_cons.1 h with h|h
       ·rw [h,hlm];omega
       ·exact hg.2 x (by simp only [D3Y,List.mem_cons] at h⊢;rcases h with h|h<;>simp [h])
    have htot:X3 (A' ++(A1++ [A2F b2 (l:Int) p.1])++(D++C))=X3 (A' ++A1++b1::b2::D++C):=by
     rw [<-eo];have e1:A0P ⟨b1.T,b1.As⟩=2^l:=A3L (hp.at_ b1 (by simp)) hl
     have e2:A0P ⟨b2.T,b2.As⟩=2^l:=A3L (hp.at_ b2 (by simp)) hl
     have e3:A0P ⟨(A2F b2 (l:Int) p.1).T,(A2F b2 (l:Int) p.1).As⟩=2^(l+1):=A3L hlm (by omega)
     simp only [B3T,C1g,e1,e2,e3];rw [Int.pow_succ];omega
    have hent:J1 (A' ++(A1++ [A2F b2 (l:Int) p.1])++(D++C))<=J1 (A' ++A1++b1::b2::D++C):=by
     rw [<-eo,A74,A63,A74 D C,heq];have:(A2F b2 (l:Int) p.1).Aw.Ac.length=p.1.Ac.length:=rfl;omega
    have hlen2:(A' ++(A1++ [A2F b2 (l:Int) p.1])++(D++C)).length=n:=by
     rw [<-eo];simp only [D3i,D3v] at hlen⊢;omega
    obtain ⟨R,r1,r2,r3,r4,r5,r6,r7,r8⟩:=ih A' (A1++ [A2F b2 (l:Int) p.1]) (D++C) (l+1) hlen2 hp' hg' (by rw [htot];exact ht) (by omega) (by omega) (by omega)
    refine ⟨R, ?_, ?_,by omega,by omega,r5,by rw [r6,htot],fun Q h=>r7 Q (by rw [<-eo,show ((l+1:Nat):Int)=(l:Int)+1 by omega];exact C5w (by omega) hp.up hp.at_ hp.low hb (by simp [A2F]) rfl h),fun h=>r8 (fun x hx=> ?_)⟩
    rotate_left 2
    ·rw [<-eo] at hx;rcases D3Y.1 hx with g|g
     ·exact h x (by simp only [D3G,D3Y] at g⊢;rcases g with g|g<;>simp [g])
     ·rcases List.mem_cons.1 g with g|g
      ·rw [g];exact D05 h2 hl28 (hp.at_ b1 (by simp)) (hp.at_ b2 (by simp)) (h b1 (by simp)) (h b2 (by simp)) (by omega) hm
      ·exact h x (by simp only [D3Y,List.mem_cons] at g⊢;rcases g with g|g<;>simp [g])
    ·rw [<-r1];unfold A1u;rw [eo,el,show ((l:Int)+1)=((l+1:Nat):Int) by omega] at hi
     exact M3 (by unfold A2K;exact hi)
    ·rw [<-r2];unfold A2x;rw [eo,show ((l:Int)+1)=((l+1:Nat):Int) by omega] at hr
     exact M3 (by unfold A3K;rw [D3h (by omega),D3g];exact hr)
theorem C9o {l:List A6} {k:Int} (h:Z9 (plainB l) k):B73 l:=by
 have hg:=B5h h;refine ⟨?_,fun x hx=> ?_⟩
 ·have:=hg.1;unfold plainB at this;exact (List.pairwise_map.1 this)
 ·exact hg.2 ⟨x.T,x.As⟩ (List.mem_map.2 ⟨x,hx,rfl⟩)
theorem C6I {k p2:Int} {l:List A6} {t v:Int} (hok:A7r l k p2) (hs:T5 l) (hl:l.length+1<=1048576) (he:J1 l+1<=1000) (ht:0<=t/\t<=16777216) (hT:∀i,i<l.length->(el l i).T<=t) (hv:-4096<=v/\v<=4096) (htot:X3 l+1<=1073741824):
  ∃R,A6f l k p2 t v=some R/\B5C l k p2 t v=some R/\J1 R<=J1 l+1/\R.length<=l.length+1/\A7r R k p2/\X3 R=X3 l+1/\(∀Q:Int->Prop,(∀x,Q x->x<=t)->Q t->(∀x∈l,Q x.T)-> ∀x∈R,Q x.T):=by
 have hg:=C9o hok.2.1;obtain ⟨A,Z,e,hA,hZ⟩:=B5J (l:= -1) hg.1 (fun x hx=>by have:=(hg.2 x hx).1;omega)
 let nb:A6:=⟨t,v,0,⟨1, [⟨v,1,1⟩]⟩⟩
 have eo:l++ [nb]=A++(Z++ [nb])++ []:=by rw [e];simp
 have hp:A6d lvQ A (Z++ [nb]) [] ((0:Nat):Int):=by
  refine ⟨fun x hx=> ?_,fun x hx=> ?_,by simp⟩
  ·have:=hA x hx;show ((0:Nat):Int)<x.As;omega
  ·rcases D3Y.1 hx with h|h
   ·have:=hZ x h;show x.As=_;omega
   ·rw [List.mem_singleton.1 h];rfl
 have hg' :B73 (l++ [nb]):=by
  refine ⟨List.pairwise_append.2 ⟨hg.1,by simp,fun x hx y hy=> ?_⟩,fun x hx=> ?_⟩
  ·rw [List.mem_singleton.1 hy];exact (hg.2 x hx).1
  ·rcases D3Y.1 hx with h|h
   ·exact hg.2 x h
   ·rw [List.mem_singleton.1 h];exact ⟨Int.le_refl 0,(by decide:(0:Int)<=30)⟩
 have htt:X3 (l++ [nb])=X3 l+1:=by
  rw [B3T,C1g];have h1:A0P ⟨nb.T,nb.As⟩=2^0:=A3L rfl (by omega)
  have h2:X3 []=0:=rfl;rw [Int.pow_zero] at h1;omega
 have hee:J1 (l++ [nb])=J1 l+1:=by rw [A74,A63];rfl
 have hlen:(l++ [nb]).length=l.length+1:=by simp
 obtain ⟨R,r1,r2,r3,r4,r5,r6,r7,r8⟩:=C89 (p2:=p2) hok.2.1.1 hok.1 (l.length+1) A (Z++ [nb]) [] 0 (by rw [<-eo,hlen]) hp (by rw [<-eo];exact hg') (by rw [<-eo,htt];exact htot) (by rw [<-eo,hee];exact he) hl (by omega)
 have el1:A.length+(Z++ [nb]).length=(l++ [nb]).length:=by rw [eo];simp
 rw [<-eo] at r1 r2 r3 r6 r8;rw [el1] at r1;obtain ⟨ci0,cs,cl⟩:=A3E hok.2.1;have ci:=B7x.1 ci0;have hQ: ∀Q:Int->Prop,(∀x,Q x->x<=t)->Q t->(∀x∈l,Q x.T)->CI lvQ tmQ Q k (-1) R:=fun Q h1 h2 h3=>r7 Q (by rw [<-eo];exact C7H ⟨ci.le,ci.ge,ci.srt,h3⟩ rfl (fun x hx=>h1 _ (h3 x hx)) h2)
 have hck:Z9 (plainB R) k:=B3M hok.2.1.1 (B7x.2 (B9B (hQ (fun x=>B6a x/\x<=t) (fun x h=>h.2) ⟨ht,Int.le_refl t⟩ (fun x hx=>⟨ci.all x hx,by obtain ⟨i,hi,rfl⟩:=R9 hx;exact hT i hi⟩)) (fun _ h=>h.1)))
  (by unfold plainB;exact List.pairwise_map.2 r5.1) (fun x hx=>by obtain ⟨z,hz,rfl⟩:=List.mem_map.1 hx;exact r5.2 z hz)
 have hnb:A2P p2 nb:=by
  have g1:P2 [B0.mk v 1 1]=1:=rfl;refine ⟨(Z8 _).2 (by
   refine ⟨(show (0:Int)<=1 by decide),(show (1:Int)<=1099511627776 by decide),by simp [nb],fun i hi=> ?_,fun i hi=> ?_,fun _=>rfl,fun _=>rfl⟩
   ·have:i=0:=by simp [nb] at hi;omega
    subst this;exact ⟨Int.le_refl 1,Int.le_refl 1,Int.le_refl 1⟩
   ·simp [nb] at hi),rfl,by have:=hok.1;show ((1:Nat):Int)<=p2+1;omega, ?_,hv.1,hv.2,Int.le_refl v,Int.le_refl v⟩
  show A2 (P2 [B0.mk v 1 1]-1)<=W1 p2 ((0:Int).toNat+1);rw [g1];exact (C5q hok.1.1 1).1
 have hall: ∀x∈R,A2P p2 x:=r8 (fun x hx=>by
  rcases D3Y.1 hx with g|g
  ·obtain ⟨i,hi,rfl⟩:=R9 g;exact hok.2.2 i hi
  ·rw [List.mem_singleton.1 g];exact hnb)
 have hcut: ∃x22,gd (decide ((l.length:Int)>0)) (D0 l (A2 ((l.length:Int)-1)))=some x22/\((decide ((l.length:Int)>0))&&(decide (x22.T>t)))=false:=by
  by_cases h0:l.length=0
  ·rw [D3j (by omega)];exact ⟨_,rfl,rfl⟩
  ·have e1:A2 ((l.length:Int)-1)=((l.length-1:Nat):Int):=by rw [A7]<;>omega
   have:=hT (l.length-1) (by omega)
   rw [D3h (by omega),e1,F4 (by omega)]
   exact ⟨_,rfl,by rw [D3j (by omega)];rfl⟩
 obtain ⟨x22,c1,c2⟩:=hcut;obtain ⟨t1,t2⟩:=A7h l hs;have hw:A2 (I3 (plainB l))=X3 l:=by
  have h1:=B6c l;unfold X3 at*
  rw [A7]<;>omega
 rw [hw] at t1 t2;have htk:E7 t=true:=(T9 t).2 ht;have hval:F0 v=true:=(Y7 v).2 hv;refine ⟨R, ?_, ?_,by rw [hee] at r3;exact r3,r4,⟨hok.1,hck,fun i hi=>hall _ (J0 hi)⟩,by rw [r6,htt],fun Q h1 h2 h3=>(hQ Q h1 h2 h3).all⟩
 ·unfold A6f;rw [B4D l k p2 hs,L7 hok,t1];simp only [D3c,D3o,D3D,D3j (show¬t<0 by omega),D3j (show¬t>16777216 by omega),D3p,D3N,c1,c2,D3j (show¬v< -4096 by omega),D3j (show¬v>4096 by omega),gd,D3g,D3j (show¬X3 l>=1073741824 by omega),D3f,List.nil_append]
  first
   |(rw [show (cond (decide ((l.length:Int)>0)) (D0 l (A2 ((l.length:Int)-1))) (some default))=some x22 from c1];simp only [D3c,c2,D3D,D3p,D3g,D3f,D3j (show¬X3 l>=1073741824 by omega)];rw [I9 (by simp;omega),I9 (by simp;omega)];exact r1)
   |(rw [I9 (by simp;omega),I9 (by simp;omega)];exact r1)
 ·unfold B5C;have c2' :((decide ((l.length:Int)>0))&&(decide (t<x22.T)))=false:=c2;rw [B6Q l k p2 hs,L7 hok,t2];simp only [D3c,htk,hval,D3o,D3D,D3p,D3N,gd,D3g,List.nil_append,Bool.or_false];rw [show (cond (decide ((l.length:Int)>0)) (D0 l (A2 ((l.length:Int)-1))) (some default))=some x22 from c1];simp only [D3c,c2',D3D,Bool.or_false,D3p,D3g,D3f,D3j (show¬X3 l>=1073741824 by omega)]
  rw [I9 (by simp;omega),I9 (by simp;omega)]
  exact r2
end Go.Win
namespace Go.Win
open Go.Vc Go.Dec
def sf (g:Nat->Nat):Nat->Nat->Nat
 |0,_=>0
 |k+1,i=>g i+sf g k (i+1)
theorem C4e {S R:Type} {f:S->Option (S⊕R)} (st:Nat->Int->S) (n:Nat) (g:Nat->Nat) (A:Int->Option R)
  (hs:∀(i:Nat) (b:Int),i<n->f (st i b)=some (.inl (st (i+1) (A2 (b+(g i:Int)))))) (hd:∀b,f (st n b)=Option.map Sum.inr (A b)):
  ∀(k i b:Nat),i+k=n->b+sf g k i<=4611686018427387904->loop f (st i (b:Int))=A ((b+sf g k i:Nat):Int):=by
 intro k
 induction k with
 |zero=>
  intro i b hi _;have:i=n:=by omega
  subst this;rw [R1,hd];show _=A ((b+0:Nat):Int);rw [Nat.add_zero];cases A (b:Int)<;>rfl
 |succ k ih=>
  intro i b hi hb;have hb' :b+(g i+sf g k (i+1))<=4611686018427387904:=hb;have e:A2 ((b:Int)+(g i:Int))=((b+g i:Nat):Int):=by rw [A7]<;>omega
  rw [M3 (hs i _ (by omega)),e,ih (i+1) (b+g i) (by omega) (by omega)]
  show A ((b+g i+sf g k (i+1):Nat):Int)=A ((b+(g i+sf g k (i+1)):Nat):Int);rw [Nat.add_assoc]
theorem D0n {α:Type} [Inhabited α] (l:List α) (h:α->Nat): ∀(k i:Nat),i+k=l.length->sf (fun j=>h (el l j)) k i=((l.drop i).map h).sum:=by
 intro k
 induction k with
 |zero=>intro i hi;rw [List.drop_eq_nil_of_le (by omega)];rfl
 |succ k ih=>
  intro i hi;have hlt:i<l.length:=by omega
  rw [List.drop_eq_getElem_cons hlt,D35,List.sum_cons,<-ih (i+1) (by omega),<-K7 hlt]
  rfl
theorem B0r {α:Type} (h:α->Nat) (M:Nat): ∀l:List α,(∀x∈l,h x<=M)->(l.map h).sum<=l.length*M
 | [],_=>by simp
 |x::l,hx=>by
  have h1:=hx x (by simp)
  have h2:=B0r h M l (fun y hy=>hx y (by simp [hy]))
  rw [D35,List.sum_cons,D3v,Nat.add_mul];omega
def T2 (l:List A5):Nat:=(l.map fun c=>c.Au.length).sum
end Go.Win
