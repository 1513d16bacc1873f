/- Plain laws of the functions on plain data. -/
import Derived.Test.YtoljnakoodalpaaGreatQa
set_option linter.unusedVariables false
set_option linter.unusedSimpArgs false
set_option linter.unnecessarySimpa false
set_option linter.unusedSectionVars false
namespace Go.Win
open Go.Vc Go.Dec
end Go.Win
namespace Go.Win
open Go.Vc Go.Dec
theorem C4D (l:List Int):(P7 l).Pairwise (· <= ·):=by
 have:=List.pairwise_mergeSort (le:=fun x y:Int=>decide (x<=y)) (fun a b c h1 h2=>by simp at*;omega) (fun a b=>by simp;omega) l
 unfold P7;refine this.imp ?_;intro a b h;simpa using h
theorem B4W (l:List Int):(P7 l).Perm l:=List.mergeSort_perm _ _
end Go.Win
namespace Go.Win
open Go.Vc Go.Dec
def A8t (l:List A6) (n:Int) (j:Nat):Prop:=(E0 l (j+1)).Bj+(E0 l j).Bk<2*n
def A4r (e:A6) (n:Int):Int:=P3 (n-e.Bk) (e.Bj-n)
theorem C6U (a b:Int):a<=P3 a b/\b<=P3 a b:=by
 show a<=(if b>a then b else a)/\b<=(if b>a then b else a)
 split<;>omega
theorem D13 {a b c:Int}:P3 a b<c↔a<c/\b<c:=by
 show (if b>a then b else a)<c↔_
 split<;>omega
section
variable {l:List A6} {N:Int} (h:OkR l N)
include h
theorem B7f: ∀ {i j:Nat},i<j->j<l.length->(E0 l i).V<=(E0 l j).V/\(E0 l i).Bk<(E0 l j).Bk/\(E0 l i).Bj<(E0 l j).Bj:=by
 intro i j hij hj
 induction j with
 |zero=>omega
 |succ j ih=>
  have h1:=h.up j hj;rcases Nat.lt_or_ge i j with hlt|hge
  ·have:=ih hlt (by omega)
   omega
  ·have:i=j:=by omega
   subst this;exact h1
theorem B4u {n:Int} {j:Nat} (hj:j+1<l.length):A8t l n j↔A4r (E0 l (j+1)) n<A4r (E0 l j) n:=by
 have h1:=h.up j hj;have h2:=C6U (n-(E0 l j).Bk) ((E0 l j).Bj-n);unfold A8t A4r;rw [D13];constructor
 ·intro hc;omega
 ·rintro ⟨g1,g2⟩
  by_cases hm:P3 (n-(E0 l j).Bk) ((E0 l j).Bj-n)<=n-(E0 l j).Bk
  ·omega
  ·have:P3 (n-(E0 l j).Bk) ((E0 l j).Bj-n)=(E0 l j).Bj-n:=by
    show (if _>_ then _ else _)=_
    split
    ·rfl
    ·rename_i hh;exfalso;apply hm;show (if _>_ then _ else _)<=_
     rw [if_neg hh];omega
   omega
theorem C1a {n:Int} {j k:Nat} (hjk:j<=k) (hk:k+1<l.length) (hc:A8t l n k):A8t l n j:=by
 rcases Nat.lt_or_ge j k with hlt|hge
 ·have h1:=B7f h hlt (by omega)
  have h2:=B7f h (show j+1<k+1 by omega) hk
  unfold A8t at hc⊢;omega
 ·have:j=k:=by omega
  subst this;exact hc
structure C2q (l:List A6) (n:Int) (k:Nat):Prop where
 lt:k<l.length
 low: ∀j,j<k->A8t l n j
 stop:k+1<l.length-> ¬A8t l n k
theorem B3k {n:Int} (hn:1<=n/\n<=N) {i:Nat} (hi:i<l.length):A63 (E0 l i) n=A4r (E0 l i) n:=by
 have h1:=h.rng i hi;have h2:=h.n1;unfold A63 A4r;rw [B9 (by omega) (by omega),B9 (by omega) (by omega)]
theorem B9K {n:Int} (hn:1<=n/\n<=N) (hl:l.length<=1048576) {f:Nat} (hf:f<l.length) (hlow:∀j,j<f->A8t l n j): ∃k,f<=k/\C2q l n k/\A5m l n (f:Int)=some (k:Int):=by
 have hm:l.length<=maxLen:=by rw [G9];omega
 unfold A5m B5A;obtain ⟨r,hr,k,h1,h2,hQ⟩:=J4 (f:=fun s:Int=>A8C l n s)
  (fun s=> ∃k:Nat,f<=k/\k<l.length/\(∀j,j<k->A8t l n j)/\s=(k:Int))
  (fun s=>l.length-s.toNat) (fun r=> ∃k,f<=k/\C2q l n k/\r=(k:Int)) (f:Int) ⟨f,D5f _,hf,hlow,rfl⟩ (by
   rintro _ ⟨k,hfk,hk,hlw,rfl⟩;unfold A8C;have e1:A2 ((k:Int)+1)=((k+1:Nat):Int):=by rw [G9] at hm;rw [B9]<;>omega
   rw [e1]
   by_cases hlt:k+1<l.length
   ·rw [D4C (by omega:((k+1:Nat):Int)<(l.length:Int)),G5,G5,L9 hlt,L9 hk]
    simp only [D4x,D48];rw [B3k h hn hlt,B3k h hn hk]
    by_cases hc:A8t l n k
    ·left;rw [D4C ((B4u h hlt).1 hc),D4B];refine ⟨_,rfl,⟨k+1,by omega,hlt,fun j hj=> ?_,rfl⟩,by show l.length-(((k+1:Nat):Int)).toNat<l.length-(k:Int).toNat;omega⟩
     exact C1a h (by omega) hlt hc
    ·right;rw [D4E (fun hx=>hc ((B4u h hlt).2 hx)),D4A];exact ⟨_,rfl,k,hfk,⟨hk,hlw,fun _=>hc⟩,rfl⟩
   ·right;rw [D4E (by omega: ¬((k+1:Nat):Int)<(l.length:Int))]
    simp only [G0,D4x,D42,D4A];exact ⟨_,rfl,k,hfk,⟨hk,hlw,fun hx=>absurd hx hlt⟩,rfl⟩)
 exact ⟨k,h1,h2,by rw [hr,hQ]⟩
theorem D1Z {n:Int} {k:Nat} (hk:k<l.length) (hlow:∀j,j<k->A8t l n j): ∀j,j<k->A4r (E0 l k) n<A4r (E0 l j) n:=by
 intro j hj
 induction k with
 |zero=>omega
 |succ k ih=>
  have h1:=(B4u h hk).1 (hlow k (by omega))
  rcases Nat.lt_or_ge j k with hlt|hge
  ·have:=ih (by omega) (fun j hj=>hlow j (by omega)) hlt
   omega
  ·have:j=k:=by omega
   subst this;exact h1
theorem D0y {n:Int} {k:Nat} (hstop:k+1<l.length-> ¬A8t l n k): ∀j,k<=j->j<l.length->A4r (E0 l k) n<=A4r (E0 l j) n:=by
 intro j hkj hj
 induction j with
 |zero=>have:k=0:=by omega
        subst this;exact Int.le_refl _
 |succ j ih=>
  rcases Nat.lt_or_ge k (j+1) with hlt|hge
  ·have h1:=ih (by omega) (by omega)
   have h2: ¬A8t l n j:=fun hc=>hstop (by omega) (C1a h (by omega) hj hc)
   have h3: ¬A4r (E0 l (j+1)) n<A4r (E0 l j) n:=fun hx=>h2 ((B4u h hj).2 hx);omega
  ·have:k=j+1:=by omega
   subst this;exact Int.le_refl _
theorem C4n {n:Int} (hn:1<=n/\n<=N) (hl:l.length<=1048576) {k:Nat} (hk:C2q l n k):A3B l n=some (k:Int):=by
 have hm:l.length<=maxLen:=by rw [G9];omega
 have h0:0<l.length:=by have:=hk.lt;omega
 have fr: ∀i,i<l.length->P3 (A2 (n-(E0 l i).Bk)) (A2 ((E0 l i).Bj-n))=A4r (E0 l i) n:=fun i hi=>B3k h hn hi;unfold A3B B1T;obtain ⟨r,hr,hQ⟩:=J4 (f:=fun s:Int×Int=>A12 l n s.1 s.2)
  (fun s=> ∃b i:Nat,i<=l.length/\b<l.length/\(∀j,j<i->A4r (E0 l b) n<=A4r (E0 l j) n)/\(∀j,j<b->A4r (E0 l b) n<A4r (E0 l j) n)/\s=((b:Int),(i:Int)))
  (fun s=>l.length-s.2.toNat) (fun r=>r=(k:Int)) (0,0) ⟨0,0,Nat.zero_le _,h0,fun j hj=>by omega,fun j hj=>by omega,rfl⟩ (by
   rintro _ ⟨b,i,hi,hb,h1,h2,rfl⟩;simp only;unfold A12
   by_cases hlt:i<l.length
   ·left;simp only [Int.ofNat_lt,hlt,decide_true,D4B,L9 hlt,L9 hb,D4x,I9 hlt hm];rw [fr i hlt,fr b hb]
    by_cases hc:A4r (E0 l i) n<A4r (E0 l b) n
    ·rw [D4C hc,D4B];refine ⟨_,rfl,⟨i,i+1,hlt,hlt,fun j hj=> ?_,fun j hj=> ?_,rfl⟩,by show l.length-((i:Int)+1).toNat<l.length-(i:Int).toNat;omega⟩
     ·rcases Nat.lt_or_ge j i with g|g
      ·have:=h1 j g;omega
      ·have:j=i:=by omega
       subst this;exact Int.le_refl _
     ·have:=h1 j hj;omega
    ·rw [D4E hc,D4A];refine ⟨_,rfl,⟨b,i+1,hlt,hb,fun j hj=> ?_,h2,rfl⟩,by show l.length-((i:Int)+1).toNat<l.length-(i:Int).toNat;omega⟩
     rcases Nat.lt_or_ge j i with g|g
     ·exact h1 j g
     ·have:j=i:=by omega
      subst this;omega
   ·right;have hi2:i=l.length:=by omega
    subst hi2;rw [D4E (by omega),D4A]
    refine ⟨_,rfl, ?_⟩;have g1:=D1Z h hk.lt hk.low;have g2:=D0y h hk.stop;rcases Nat.lt_trichotomy b k with hbk|rfl|hbk
    ·have a1:=g1 b hbk;have a2:=h1 k hk.lt;omega
    ·rfl
    ·have a1:=h2 k hbk;have a2:=g2 b (by omega) hb
     omega)
 rw [hr,hQ]
end
theorem C5S {l:List A6} {N n:Int} (h:OkR l N) (hn:1<=n/\n<=N) (hl:l.length<=1048576): ∃k,C2q l n k/\A5m l n 0=some (k:Int)/\A3B l n=some (k:Int):=by
 have h0:0<l.length:=by
  rcases Nat.eq_zero_or_pos l.length with h0|h0
  ·have:=h.nil.1 h0;omega
  ·exact h0
 obtain ⟨k,_,h2,h3⟩:=B9K h hn hl h0 (fun j hj=>by omega)
 exact ⟨k,h2,h3,C4n h hn hl h2⟩
end Go.Win
namespace Go.Win
open Go.Vc Go.Dec
theorem A5O {a:A1} (ha:H1 a) {b:Nat} (hb:b<2):K5 a (b:Int)=(E9 ((wv a*2+b)%340282366920938463463374607431768211456),wv a/170141183460469231731687303715884105728):=by
 obtain ⟨h,l⟩:=a;unfold H1 at ha;simp only at ha;obtain ⟨h,rfl⟩:=Int.eq_ofNat_of_zero_le ha.1;obtain ⟨l,rfl⟩:=Int.eq_ofNat_of_zero_le ha.2.2.1;unfold K5;have s1: ∀x:Int,D9 .u64 x 1=(x*2)%18446744073709551616:=fun x=>by
  have:=B3V x (k:=1) (by decide)
  simpa using this
 have s2: ∀x:Int,F8 .u64 x 63=x/9223372036854775808:=fun x=>by
  have:=B3W x (k:=63) (by decide)
  simpa using this
 have d1:=B1C (a:=h%9223372036854775808) (b:=l/9223372036854775808) (k:=1) (by omega) (by omega)
 have d2:=B1C (a:=l%9223372036854775808) (b:=b) (k:=1) (by omega) (by omega)
 have e1:((h:Int)*2)%18446744073709551616=((h%9223372036854775808*2^1:Nat):Int):=by omega
 have e2:((l:Int)*2)%18446744073709551616=((l%9223372036854775808*2^1:Nat):Int):=by omega
 have e3:(l:Int)/9223372036854775808=((l/9223372036854775808:Nat):Int):=by omega
 simp only [s1,s2,e1,e2,e3];rw [d1,d2];unfold E9 wv;simp only
 congr 1
 ·congr 1<;>omega
 ·omega
theorem D1q {x:Int} (h0:0<=x) (h1:x<18446744073709551616):S9 .u64 x 1=x%2:=by
 show IntKind.u64.wrap _=_;obtain ⟨n,rfl⟩:=Int.eq_ofNat_of_zero_le h0;have e:(BitVec.ofInt IntKind.u64.bits (n:Int)&&&BitVec.ofInt IntKind.u64.bits 1).toNat=n%2:=by
  have hb:IntKind.u64.bits=64:=rfl;rw [hb,BitVec.toNat_and,BitVec.toNat_ofInt,BitVec.toNat_ofInt];have h2:(((n:Int)%((2^64:Nat):Int)).toNat)=n:=by omega
  have h3:((1:Int)%((2^64:Nat):Int)).toNat=2^1-1:=by decide
  rw [h2,h3,Nat.and_two_pow_sub_one_eq_mod]
 rw [e,IntKind.wrap_u64];omega
theorem C1y {m n:Nat} (h:m<=n):(2:Int)^n=2^m*2^(n-m):=by
 rw [<-Int.pow_add,show m+(n-m)=n by omega]
theorem C65 {a:A1} (ha:H1 a) {i:Nat} (hi:i<=127):B2D a (i:Int)=some ((wv a/2^i)%2):=by
 unfold H1 at ha;unfold B2D wv;have p64:(2:Int)^64=18446744073709551616:=by decide
 by_cases h:64<=i
 ·rw [D4C (by omega:(i:Int)>=64),D4B]
  have e1:A7 (A2 ((i:Int)-64))=((i-64:Nat):Int):=by rw [B9 (by omega) (by omega),M0];omega
  rw [e1,R8 (by rw [D4z];omega),B3W _ (by omega)]
  have p:=Q7 (i-64);have e2:(a.Hi*18446744073709551616+a.Lo)/2^i=a.Hi/2^(i-64):=by
   rw [C1y h,p64,<-Int.ediv_ediv_of_nonneg (by decide)]
   congr 1
   omega
  have e3:0<=a.Hi/2^(i-64):=Int.ediv_nonneg ha.1 (by omega)
  have e4:a.Hi/2^(i-64)<=a.Hi:=Int.ediv_le_self _ ha.1;rw [e2,D1q e3 (by omega)]
 ·rw [D4E (by omega: ¬(i:Int)>=64),D4A]
  have e1:A7 (i:Int)=(i:Int):=by rw [M0];omega
  rw [e1,R8 (by rw [D4z];omega),B3W _ (by omega)]
  have p:=Q7 i;have e3:0<=a.Lo/2^i:=Int.ediv_nonneg ha.2.2.1 (by omega)
  have e4:a.Lo/2^i<=a.Lo:=Int.ediv_le_self _ ha.2.2.1;rw [D1q e3 (by omega)]
  have e5:(a.Hi*18446744073709551616+a.Lo)/2^i=a.Lo/2^i+2*(a.Hi*2^(63-i)):=by
   have:a.Hi*18446744073709551616+a.Lo=a.Lo+2^i*(2*(a.Hi*2^(63-i))):=by
    have q:=C1y (m:=i) (n:=63) (by omega)
    have p63:(2:Int)^63=9223372036854775808:=by decide
    rw [p63] at q;have:(2:Int)^i*(2*(a.Hi*2^(63-i)))=2*(a.Hi*(2^i*2^(63-i))):=by grind
    rw [this,<-q];omega
   rw [this,Int.add_mul_ediv_left _ _ (by omega)]
  rw [e5]
  congr 1
  omega
theorem A6u {a b q r:Int} (h:a=q*b+r) (h0:0<=r) (h1:r<b):a/b=q/\a%b=r:=by
 rw [Int.ediv_emod_unique (by omega)]
 refine ⟨?_,h0,h1⟩;rw [h,Int.mul_comm];omega
theorem B69 {a b:A1} (ha:H1 a) (hb:H1 b) (h0:0<wv b):A3A a b=some (E9 (wv a/wv b),E9 (wv a%wv b),true):=by
 have ra:=O7 ha;have rb:=O7 hb;have hne:(b.Hi==0&&(b.Lo==0&&true))=false:=by
  unfold wv at h0;unfold H1 at hb;simp only [Bool.and_true,D5o,D5n];omega
 unfold A3A;rw [hne,D4A];unfold B6s
 generalize hA:wv a=A at*
 generalize hB:wv b=B at*
 obtain ⟨r,hr,hQ⟩:=J4 (f:=fun s:Int×Int×Int×Int×Int=>A9Q a b s.1 s.2.1 s.2.2.1 s.2.2.2.1 s.2.2.2.2)
  (fun s=> ∃k:Nat,k<=128/\s=((k:Int)-1,(E9 (A/2^k/B)).Hi,(E9 (A/2^k/B)).Lo,(E9 (A/2^k%B)).Hi,(E9 (A/2^k%B)).Lo))
  (fun s=>(s.1+1).toNat) (fun r=>r=(E9 (A/B),E9 (A%B),true)) (127,0,0,0,0) ⟨128,D5f _,by
   have:A/2^128=0:=by
    have:(2:Int)^128=340282366920938463463374607431768211456:=by decide
    rw [this];omega
   rw [this];simp [E9]⟩ (by
   rintro _ ⟨k,hk,rfl⟩;simp only;unfold A9Q;cases k with
   |zero=>
    right;rw [D4E (by omega: ¬(((0:Nat):Int)-1>=0)),D4A]
    refine ⟨_,rfl, ?_⟩;simp only [Int.pow_zero,Int.ediv_one]
   |succ i=>
    left;have e0:(((i+1:Nat):Int)-1)=(i:Int):=by omega
    rw [e0,D4C (by omega:(i:Int)>=0),D4B,C65 ha (by omega),hA]
    simp only [D4x];have hA2:A/2^(i+1)=A/2^i/2:=by
     rw [Int.pow_succ,Int.ediv_ediv_of_nonneg (by have:=Q7 i;omega)]
    have hAi0:0<=A/2^i:=Int.ediv_nonneg ra.1 (by have:=Q7 i;omega)
    have hAi1:A/2^i<=A:=Int.ediv_le_self _ ra.1;rw [hA2]
    generalize hNd:A/2^i=N at*
    obtain ⟨β,hβ⟩:=Int.eq_ofNat_of_zero_le (show 0<=N%2 by omega)
    have hβ2:β<2:=by omega
    have hR0:0<=N/2%B:=Int.emod_nonneg _ (by omega)
    have hR1:N/2%B<B:=Int.emod_lt_of_pos _ h0;have hQ0:0<=N/2/B:=Int.ediv_nonneg (by omega) (by omega)
    have hQ1:N/2/B<=N/2:=Int.ediv_le_self _ (by omega)
    have hQR:=Int.mul_ediv_add_emod (N/2) B
    generalize hRR:N/2%B=R at*
    generalize hQQ:N/2/B=Q at*
    have hN:N=(2*Q)*B+(2*R+β):=by
     have:B*Q=Q*B:=Int.mul_comm _ _;have:2*Q*B=2*(Q*B):=Int.mul_assoc _ _ _;omega
    have oR:H1 (E9 R):=P5 hR0 (by omega)
    have oQ:H1 (E9 Q):=P5 hQ0 (by omega)
    have eR:(⟨(E9 R).Hi,(E9 R).Lo⟩:A1)=E9 R:=rfl;rw [eR,hβ,A5O oR hβ2,L1];have hX0:0<=(R*2+β)%340282366920938463463374607431768211456:=by omega
    have hX1:(R*2+β)%340282366920938463463374607431768211456<340282366920938463463374607431768211456:=by omega
    have oX:=P5 hX0 hX1;have hc:O5 (E9 ((R*2+β)%340282366920938463463374607431768211456)) b=if (R*2+β)%340282366920938463463374607431768211456<B then-1 else if (R*2+β)%340282366920938463463374607431768211456=B then 0 else 1:=by
     have:=A0K oX hb;rw [L1,hB] at this;exact this
    simp only [hc];have ew:A2 ((i:Int)-1)=(i:Int)-1:=by rw [B9]<;>omega
    by_cases hge:B<=2*R+β
    ·have c1:((R/170141183460469231731687303715884105728 !=0)||decide ((if (R*2+β)%340282366920938463463374607431768211456<B then (-1:Int) else if (R*2+β)%340282366920938463463374607431768211456=B then 0 else 1)>=0))=true:=by
      rw [D4I,bne_iff_ne,D4z]
      by_cases ho:R/170141183460469231731687303715884105728=0
      ·right;rw [if_neg (by omega)]
       split<;>omega
      ·exact .inl ho
     rw [c1,D4B];have dm:=A6u (a:=N) (b:=B) (q:=2*Q+1) (r:=2*R+β-B) (by rw [Int.add_mul,hN];omega) (by omega) (by omega)
     have oD:H1 (E9 ((R*2+β)%340282366920938463463374607431768211456)):=oX;unfold H1 at oX hb;unfold wv at hB;rw [B20 _ _ _ (by omega) (by omega) (by omega) (by omega) (by omega)]
     simp only [D4x];have hbw:(if (E9 ((R*2+β)%340282366920938463463374607431768211456)).Lo<b.Lo+0 then (1:Int) else 0)<=1/\0<=(if (E9 ((R*2+β)%340282366920938463463374607431768211456)).Lo<b.Lo+0 then (1:Int) else 0):=by split<;>omega
     rw [B20 _ _ _ (by omega) (by omega) (by omega) (by omega) (by omega)]
     simp only [D4x];unfold A4V;simp only;rw [show (⟨(E9 Q).Hi,(E9 Q).Lo⟩:A1)=E9 Q from rfl];have hdb:=A5O oQ (b:=1) (by omega)
     rw [L1] at hdb;change K5 (E9 Q) 1=(E9 ((Q*2+1)%340282366920938463463374607431768211456),_) at hdb;rw [hdb,ew];have hQ2:2*Q+1<=N:=by
      have:=Int.ediv_le_self B (show 0<=N by omega)
      omega
     refine ⟨_,rfl,⟨i,by omega, ?_⟩,by show ((i:Int)-1+1).toNat<((i:Int)+1).toNat;omega⟩
     rw [hNd,dm.1,dm.2];have:(Q*2+1)%340282366920938463463374607431768211456=2*Q+1:=by omega
     rw [this];unfold E9 at hbw⊢;simp only at hbw⊢
     congr 3
     split
     ·congr 1<;>omega
     ·congr 1<;>omega
    ·have hX:(R*2+β)%340282366920938463463374607431768211456=2*R+β:=by omega
     have c1:((R/170141183460469231731687303715884105728 !=0)||decide ((if (R*2+β)%340282366920938463463374607431768211456<B then (-1:Int) else if (R*2+β)%340282366920938463463374607431768211456=B then 0 else 1)>=0))=false:=by
      rw [D47,bne_eq_false_iff_eq,D4O];refine ⟨by omega, ?_⟩
      rw [if_pos (by omega)]
      omega
     rw [c1,D4A];have dm:=A6u (a:=N) (b:=B) (q:=2*Q) (r:=2*R+β) hN (by omega) (by omega)
     unfold A4V;simp only;rw [show (⟨(E9 Q).Hi,(E9 Q).Lo⟩:A1)=E9 Q from rfl];have hdb:=A5O oQ (b:=0) (by omega)
     rw [L1] at hdb;change K5 (E9 Q) 0=(E9 ((Q*2+0)%340282366920938463463374607431768211456),_) at hdb;rw [hdb,ew];refine ⟨_,rfl,⟨i,by omega, ?_⟩,by show ((i:Int)-1+1).toNat<((i:Int)+1).toNat;omega⟩
     rw [hNd,dm.1,dm.2,hX];have:(Q*2+0)%340282366920938463463374607431768211456=2*Q:=by omega
     rw [this])
 rw [hr,hQ]
theorem C66 {a b:A1} (ha:H1 a) (hb:H1 b):A9t a b=some (E9 (Nat.gcd (wv a).toNat (wv b).toNat:Nat)):=by
 unfold A9t B6t;obtain ⟨r,hr,hQ⟩:=J4 (f:=fun s:Int×Int×Int×Int=>A9R s.1 s.2.1 s.2.2.1 s.2.2.2)
  (fun s=>H1 ⟨s.1,s.2.1⟩/\H1 ⟨s.2.2.1,s.2.2.2⟩/\Nat.gcd (wv ⟨s.1,s.2.1⟩).toNat (wv ⟨s.2.2.1,s.2.2.2⟩).toNat=Nat.gcd (wv a).toNat (wv b).toNat)
  (fun s=>(wv ⟨s.2.2.1,s.2.2.2⟩).toNat) (fun r=>r=E9 (Nat.gcd (wv a).toNat (wv b).toNat:Nat)) (a.Hi,a.Lo,b.Hi,b.Lo) ⟨ha,hb,rfl⟩ (by
   rintro ⟨x1,x2,y1,y2⟩ ⟨hx,hy,hg⟩;simp only at hx hy hg⊢;have rx:=O7 hx;have ry:=O7 hy;unfold A9R
   by_cases h0:wv ⟨y1,y2⟩=0
   ·right;have hz:y1=0/\y2=0:=by unfold wv at h0;unfold H1 at hy;simp only at h0 hy;omega
    obtain ⟨rfl,rfl⟩:=hz;refine ⟨_,rfl, ?_⟩;rw [<-hg,h0];simp only [Int.toNat_zero,Nat.gcd_zero_right];rw [Int.toNat_of_nonneg rx.1,C37 hx]
   ·left;have c:(!(y1==0&&(y2==0&&true)))=true:=by
     unfold wv at h0;simp only [Bool.and_true,D4T,D5o,D5n];simp only at h0;omega
    rw [c,D4B,B69 hx hy (by omega)]
    have hm0:0<=wv ⟨x1,x2⟩%wv ⟨y1,y2⟩:=Int.emod_nonneg _ h0;have hm1:wv ⟨x1,x2⟩%wv ⟨y1,y2⟩<wv ⟨y1,y2⟩:=Int.emod_lt_of_pos _ (by omega)
    refine ⟨_,rfl,⟨hy,P5 hm0 (by omega), ?_⟩, ?_⟩
    ·show Nat.gcd _ (wv (E9 _)).toNat=_;rw [L1,<-hg,Int.toNat_emod rx.1 ry.1,Nat.gcd_comm,<-Nat.gcd_rec,Nat.gcd_comm]
    ·show (wv (E9 _)).toNat<_;rw [L1];omega)
 rw [hr,hQ]
theorem D2b (a b:Nat):B67 (a:Int) (b:Int)=some ((Nat.gcd a b:Nat):Int):=by
 unfold B67;have c:(decide ((a:Int)<0)||decide ((b:Int)<0))=false:=by
  rw [D47,D4O,D4O];omega
 rw [c,D4A];unfold B9B;obtain ⟨r,hr,hQ⟩:=J4 (f:=fun s:Int×Int=>B3j s.1 s.2)
  (fun s=> ∃x y:Nat,s=((x:Int),(y:Int))/\Nat.gcd x y=Nat.gcd a b)
  (fun s=>s.2.toNat) (fun r=>r=((Nat.gcd a b:Nat):Int)) ((a:Int),(b:Int)) ⟨a,b,rfl,rfl⟩ (by
   rintro _ ⟨x,y,rfl,hg⟩;simp only;unfold B3j
   by_cases h0:y=0
   ·right;subst h0;refine ⟨_,rfl, ?_⟩;rw [<-hg,Nat.gcd_zero_right]
   ·left;have c:((y:Int) !=0)=true:=by rw [bne_iff_ne];omega
    rw [c,D4B,R8 (by rw [D4z];omega)]
    refine ⟨_,rfl,⟨y,x%y,rfl, ?_⟩, ?_⟩
    ·rw [<-hg,Nat.gcd_comm,<-Nat.gcd_rec,Nat.gcd_comm]
    ·show (((x%y:Nat):Int)).toNat<(y:Int).toNat;have:=Nat.mod_lt x (show 0<y by omega)
     omega)
 rw [hr,hQ]
theorem B7C {x y:Int} (h0:0<=x) (h1:x<18446744073709551616) (h2:0<y):A0U 0 x y=some (x/y,x%y):=by
 unfold A0U;have c1:(y==(0:Int))=false:=by rw [D5n];omega
 have c2:decide (y<=0)=false:=by rw [D4O];omega
 rw [c1,c2,D4A,D4A,R8 (by rw [D4z];omega),R8 (by rw [D4z];omega)]
 have e1:Int.tdiv x y=x/y:=Int.tdiv_eq_ediv_of_nonneg h0;have e2:Int.tmod x y=x%y:=Int.tmod_eq_emod_of_nonneg h0;have e3:0<=x/y:=Int.ediv_nonneg h0 (by omega)
 have e4:x/y<=x:=Int.ediv_le_self _ h0;have e5:A7 (x/y)=x/y:=by rw [M0];omega
 rw [e1,e2,e5]
 rfl
theorem A41 {n:Int} (h0:0<=n) (h1:n<18446744073709551616):H1 (F1 n)/\wv (F1 n)=n:=by
 unfold H1 wv F1;simp only;omega
theorem B8z {d n:Nat} (hd:d<9223372036854775808) (hn:n<9223372036854775808) (h0:0<n):
  A7S (d:Int) (n:Int)=some (⟨((d/Nat.gcd d n:Nat):Int),((n/Nat.gcd d n:Nat):Int)⟩,true):=by
 have gpos:0<Nat.gcd d n:=Nat.gcd_pos_of_pos_right _ h0;have q1:d/Nat.gcd d n<=d:=Nat.div_le_self _ _;have q2:n/Nat.gcd d n<=n:=Nat.div_le_self _ _;have gle:Nat.gcd d n<=n:=Nat.gcd_le_right _ h0;unfold A7S;have c1:((n:Int)==0)=false:=by rw [D5n];omega
 rw [c1,D4A];simp only;rw [A8n (by omega) (by omega),A8n (by omega) (by omega),if_neg (by omega),if_neg (by omega)]
 obtain ⟨o1,v1⟩:=A41 (n:=(d:Int)) (by omega) (by omega)
 obtain ⟨o2,v2⟩:=A41 (n:=(n:Int)) (by omega) (by omega)
 have c2:((!(decide ((d:Int)<0)==decide ((n:Int)<0)))&&(d:Int) !=0)=false:=by
  have a1:decide ((d:Int)<0)=false:=by rw [D4O];omega
  have a2:decide ((n:Int)<0)=false:=by rw [D4O];omega
  rw [a1,a2];rfl
 rw [c2];unfold A9S;rw [C66 o1 o2,v1,v2,D5d,D5d];simp only [D4x];have og:H1 (E9 ((Nat.gcd d n:Nat):Int)):=P5 (by omega) (by omega)
 rw [B69 o1 og (by rw [L1];omega),B69 o2 og (by rw [L1];omega),L1,v1,v2]
 simp only [D4x];have f1:(d:Int)/((Nat.gcd d n:Nat):Int)=((d/Nat.gcd d n:Nat):Int):=by rw [Int.natCast_ediv]
 have f2:(n:Int)/((Nat.gcd d n:Nat):Int)=((n/Nat.gcd d n:Nat):Int):=by rw [Int.natCast_ediv]
 rw [f1,f2]
 generalize d/Nat.gcd d n=x at*
 generalize n/Nat.gcd d n=y at*
 unfold E9;simp only [D4K,Bool.and_true,D4B];have c3:((((((x:Int)/18446744073709551616 !=0)||((y:Int)/18446744073709551616 !=0))||decide ((y:Int)%18446744073709551616>=9223372036854775808))||decide ((x:Int)%18446744073709551616>9223372036854775808))||((x:Int)%18446744073709551616==9223372036854775808))=false:=by
  simp only [D47,bne_eq_false_iff_eq,D4O,D5n];omega
 rw [c3,D4A];have w1:A2 ((x:Int)%18446744073709551616)=(x:Int):=by rw [B9]<;>omega
 have w2:A2 ((y:Int)%18446744073709551616)=(y:Int):=by rw [B9]<;>omega
 rw [w1,w2]
 rfl
end Go.Win
namespace Go.Win
open Go.Vc Go.Dec
theorem C4Z {a:A1} (ha:H1 a): ∃n:Nat,n<=128/\A7l a=some (n:Int)/\wv a<2^n:=by
 unfold H1 at ha;have p64:(2:Int)^64=18446744073709551616:=by decide
 unfold A7l
 by_cases hh:a.Hi=0
 ·have c:(a.Hi !=(0:Int))=false:=by rw [bne_eq_false_iff_eq];exact hh
  rw [c,D4A]
  by_cases hl:a.Lo=0
  ·refine ⟨0,by omega, ?_, ?_⟩
   ·rw [hl];rfl
   ·unfold wv;rw [hh,hl];decide
  ·obtain ⟨b,b1,b2,b3,b4,b5⟩:=A3V (x:=a.Lo) (by omega) (by omega)
   refine ⟨b,by omega, ?_, ?_⟩
   ·rw [b1];rfl
   ·unfold wv;rw [hh];omega
 ·have c:(a.Hi !=(0:Int))=true:=by rw [bne_iff_ne];exact hh
  rw [c,D4B];obtain ⟨b,b1,b2,b3,b4,b5⟩:=A3V (x:=a.Hi) (by omega) (by omega)
  refine ⟨64+b,by omega, ?_, ?_⟩
  ·rw [b1];simp only [D4x];rw [B9 (by omega) (by omega)]
   rfl
  ·unfold wv;rw [Int.pow_add,p64];have:a.Hi+1<=2^b:=by omega
   have:=Int.mul_le_mul_of_nonneg_left this (show (0:Int)<=18446744073709551616 by decide)
   omega
theorem B1p {a:A1} (ha:H1 a) {b:Nat} (hb:b<2):
  R3 .u64 (D9 .u64 a.Hi 1) (F8 .u64 a.Lo 63)=(E9 ((wv a*2+b)%340282366920938463463374607431768211456)).Hi/\
  R3 .u64 (D9 .u64 a.Lo 1) (b:Int)=(E9 ((wv a*2+b)%340282366920938463463374607431768211456)).Lo/\
  F8 .u64 a.Hi 63=wv a/170141183460469231731687303715884105728:=by
 have h:=A5O ha hb;unfold K5 at h;have h1:=congrArg (fun x=>x.1.Hi) h;have h2:=congrArg (fun x=>x.1.Lo) h;have h3:=congrArg (fun x=>x.2) h;exact ⟨h1,h2,h3⟩
theorem D3G {a:A1} (ha:H1 a):D9 .u64 a.Lo 1=(E9 ((wv a*2)%340282366920938463463374607431768211456)).Lo:=by
 have:=B3V a.Lo (k:=1) (by decide)
 have e:D9 .u64 a.Lo 1=(a.Lo*2)%18446744073709551616:=by simpa using this
 unfold H1 at ha;rw [e];unfold E9 wv;simp only;omega
theorem B44 {a b:A1} (ha:H1 a) (hb:H1 b) (h0:0<wv b):A2I a b=some (E9 (wv a/wv b),E9 (wv a%wv b),true):=by
 have ra:=O7 ha;have rb:=O7 hb;obtain ⟨n0,hn0,hbits,hAn⟩:=C4Z ha;have hne:A1r b=false:=by
  unfold wv at h0;unfold H1 at hb;unfold A1r;simp only [D5o,D5n];omega
 unfold A2I;rw [hne,hbits];simp only [D4A,D4x];unfold B70
 generalize hA:wv a=A at*
 generalize hB:wv b=B at*
 have e0:A2 ((n0:Int)-1)=(n0:Int)-1:=by rw [B9]<;>omega
 rw [e0];obtain ⟨r,hr,hQ⟩:=J4 (f:=fun s:Int×Int×Int×Int×Int=>B14 a b s.1 s.2.1 s.2.2.1 s.2.2.2.1 s.2.2.2.2)
  (fun s=> ∃k:Nat,k<=n0/\s=((k:Int)-1,(E9 (A/2^k/B)).Hi,(E9 (A/2^k/B)).Lo,(E9 (A/2^k%B)).Hi,(E9 (A/2^k%B)).Lo))
  (fun s=>(s.1+1).toNat) (fun r=>r=(E9 (A/B),E9 (A%B),true)) ((n0:Int)-1,0,0,0,0) ⟨n0,D5f _,by
   have:A/2^n0=0:=Int.ediv_eq_zero_of_lt ra.1 hAn;rw [this];simp [E9]⟩ (by
   rintro _ ⟨k,hk,rfl⟩;simp only;unfold B14;cases k with
   |zero=>
    right;rw [D4E (by omega: ¬(((0:Nat):Int)-1>=0)),D4A]
    refine ⟨_,rfl, ?_⟩;simp only [Int.pow_zero,Int.ediv_one]
   |succ i=>
    left;have e0:(((i+1:Nat):Int)-1)=(i:Int):=by omega
    have hbit:B8F a (i:Int)=some ((wv a/2^i)%2):=C65 ha (by omega)
    rw [e0,D4C (by omega:(i:Int)>=0),D4B,hbit,hA]
    simp only [D4x];have hA2:A/2^(i+1)=A/2^i/2:=by
     rw [Int.pow_succ,Int.ediv_ediv_of_nonneg (by have:=Q7 i;omega)]
    have hAi0:0<=A/2^i:=Int.ediv_nonneg ra.1 (by have:=Q7 i;omega)
    have hAi1:A/2^i<=A:=Int.ediv_le_self _ ra.1;rw [hA2]
    generalize hNd:A/2^i=N at*
    obtain ⟨β,hβ⟩:=Int.eq_ofNat_of_zero_le (show 0<=N%2 by omega)
    have hβ2:β<2:=by omega
    have hR0:0<=N/2%B:=Int.emod_nonneg _ (by omega)
    have hR1:N/2%B<B:=Int.emod_lt_of_pos _ h0;have hQ0:0<=N/2/B:=Int.ediv_nonneg (by omega) (by omega)
    have hQ1:N/2/B<=N/2:=Int.ediv_le_self _ (by omega)
    have hQR:=Int.mul_ediv_add_emod (N/2) B
    generalize hRR:N/2%B=R at*
    generalize hQQ:N/2/B=Q at*
    have hN:N=(2*Q)*B+(2*R+β):=by
     have:B*Q=Q*B:=Int.mul_comm _ _;have:2*Q*B=2*(Q*B):=Int.mul_assoc _ _ _;omega
    have oR:H1 (E9 R):=P5 hR0 (by omega)
    have oQ:H1 (E9 Q):=P5 hQ0 (by omega)
    obtain ⟨d1,d2,d3⟩:=B1p oR hβ2;rw [L1] at d1 d2 d3;rw [hβ,d1,d2,d3];have hX0:0<=(R*2+β)%340282366920938463463374607431768211456:=by omega
    have hX1:(R*2+β)%340282366920938463463374607431768211456<340282366920938463463374607431768211456:=by omega
    have oX:=P5 hX0 hX1;have hc:S3 ⟨(E9 ((R*2+β)%340282366920938463463374607431768211456)).Hi,(E9 ((R*2+β)%340282366920938463463374607431768211456)).Lo⟩ b=if (R*2+β)%340282366920938463463374607431768211456<B then-1 else if (R*2+β)%340282366920938463463374607431768211456=B then 0 else 1:=by
     have:=A0K oX hb;rw [L1,hB] at this;exact this
    simp only [hc];have ew:A2 ((i:Int)-1)=(i:Int)-1:=by rw [B9]<;>omega
    by_cases hge:B<=2*R+β
    ·have c1:((R/170141183460469231731687303715884105728==1)||decide ((if (R*2+β)%340282366920938463463374607431768211456<B then (-1:Int) else if (R*2+β)%340282366920938463463374607431768211456=B then 0 else 1)>=0))=true:=by
      rw [D4I,D5r,D4z]
      by_cases ho:R/170141183460469231731687303715884105728=1
      ·exact .inl ho
      ·right;rw [if_neg (by omega)]
       split<;>omega
     rw [c1,D4B];have dm:=A6u (a:=N) (b:=B) (q:=2*Q+1) (r:=2*R+β-B) (by rw [Int.add_mul,hN];omega) (by omega) (by omega)
     unfold H1 at oX hb;unfold wv at hB;rw [B20 _ _ _ (by omega) (by omega) (by omega) (by omega) (by omega)]
     simp only [D4x];have hbw:(if (E9 ((R*2+β)%340282366920938463463374607431768211456)).Lo<b.Lo+0 then (1:Int) else 0)<=1/\0<=(if (E9 ((R*2+β)%340282366920938463463374607431768211456)).Lo<b.Lo+0 then (1:Int) else 0):=by split<;>omega
     rw [B20 _ _ _ (by omega) (by omega) (by omega) (by omega) (by omega)]
     simp only [D4x];obtain ⟨q1,q2,_⟩:=B1p oQ (b:=1) (by omega)
     rw [L1] at q1 q2;change _=(E9 ((Q*2+1)%340282366920938463463374607431768211456)).Hi at q1;change R3 .u64 (D9 .u64 (E9 Q).Lo 1) 1=(E9 ((Q*2+1)%340282366920938463463374607431768211456)).Lo at q2;have hQ2:2*Q+1<=N:=by
      have:=Int.ediv_le_self B (show 0<=N by omega)
      omega
     rw [q1,q2,ew];refine ⟨_,rfl,⟨i,by omega, ?_⟩,by show ((i:Int)-1+1).toNat<((i:Int)+1).toNat;omega⟩
     rw [hNd,dm.1,dm.2];have:(Q*2+1)%340282366920938463463374607431768211456=2*Q+1:=by omega
     rw [this];unfold E9 at hbw⊢;simp only at hbw⊢
     congr 3
     split
     ·congr 1<;>omega
     ·congr 1<;>omega
    ·have hX:(R*2+β)%340282366920938463463374607431768211456=2*R+β:=by omega
     have c1:((R/170141183460469231731687303715884105728==1)||decide ((if (R*2+β)%340282366920938463463374607431768211456<B then (-1:Int) else if (R*2+β)%340282366920938463463374607431768211456=B then 0 else 1)>=0))=false:=by
      rw [D47,D5n,D4O];refine ⟨by omega, ?_⟩
      rw [if_pos (by omega)]
      omega
     rw [c1,D4A];have dm:=A6u (a:=N) (b:=B) (q:=2*Q) (r:=2*R+β) hN (by omega) (by omega)
     obtain ⟨q1,_,_⟩:=B1p oQ (b:=0) (by omega)
     have q2:=D3G oQ;rw [L1] at q1 q2;change _=(E9 ((Q*2+0)%340282366920938463463374607431768211456)).Hi at q1;rw [Int.add_zero] at q1;rw [q1,q2,ew];refine ⟨_,rfl,⟨i,by omega, ?_⟩,by show ((i:Int)-1+1).toNat<((i:Int)+1).toNat;omega⟩
     rw [hNd,dm.1,dm.2,hX];have:(Q*2)%340282366920938463463374607431768211456=2*Q:=by omega
     rw [this])
 rw [hr,hQ]
end Go.Win
namespace Go.Win
open Go.Vc Go.Dec
theorem C5d: ∀a b:Nat,a+b=2*(a&&&b)+(a^^^b):=by
 intro a
 induction a using Nat.strongRecOn with
 |_ a ih=>
  intro b
  by_cases h0:a=0
  ·subst h0;simp
  ·have h:=ih (a/2) (by omega) (b/2)
   rw [<-Nat.and_div_two,<-Nat.xor_div_two] at h;have h1:= @Nat.and_mod_two_eq_one a b;have h2:= @Nat.xor_mod_two_eq_one a b;have h3:=Nat.div_add_mod (a&&&b) 2;have h4:=Nat.div_add_mod (a^^^b) 2;have h5:(a&&&b)%2<2:=Nat.mod_lt _ (by decide)
   have h6:(a^^^b)%2<2:=Nat.mod_lt _ (by decide)
   generalize (a&&&b)=x at*
   generalize (a^^^b)=y at*
   by_cases ha:a%2=1<;>by_cases hb:b%2=1
   ·have a1:x%2=1:=h1.2 ⟨ha,hb⟩;have a2: ¬y%2=1:=fun hy=>(h2.1 hy) ⟨fun _=>hb,fun _=>ha⟩;omega
   ·have a1: ¬x%2=1:=fun hx=>hb (h1.1 hx).2;have a2:y%2=1:=h2.2 (fun hh=>hb (hh.1 ha));omega
   ·have a1: ¬x%2=1:=fun hx=>ha (h1.1 hx).1;have a2:y%2=1:=h2.2 (fun hh=>ha (hh.2 hb));omega
   ·have a1: ¬x%2=1:=fun hx=>ha (h1.1 hx).1;have a2: ¬y%2=1:=fun hy=>(h2.1 hy) ⟨fun h=>absurd h ha,fun h=>absurd h hb⟩;omega
theorem B4s {n:Nat} (h:n<9223372036854775808):(BitVec.ofInt IntKind.i64.bits (n:Int)).toNat=n:=by
 have hb:IntKind.i64.bits=64:=rfl;rw [hb,BitVec.toNat_ofInt];omega
theorem D0K {a b:Nat} (ha:a<4611686018427387904) (hb:b<4611686018427387904):A2 (S9 .i64 (a:Int) (b:Int)+F8 .i64 (C7Y .i64 (a:Int) (b:Int)) 1)=(((a+b)/2:Nat):Int):=by
 have h:=C5d a b;have ex:((BitVec.ofInt IntKind.i64.bits (a:Int)^^^BitVec.ofInt IntKind.i64.bits (b:Int)).toNat)=a^^^b:=by
  rw [BitVec.toNat_xor,B4s (by omega),B4s (by omega)]
 have ea:((BitVec.ofInt IntKind.i64.bits (a:Int)&&&BitVec.ofInt IntKind.i64.bits (b:Int)).toNat)=a&&&b:=by
  rw [BitVec.toNat_and,B4s (by omega),B4s (by omega)]
 have e1:S9 .i64 (a:Int) (b:Int)=((a&&&b:Nat):Int):=by
  show IntKind.i64.wrap _=_;rw [ea,IntKind.wrap_i64];omega
 have e2:C7Y .i64 (a:Int) (b:Int)=((a^^^b:Nat):Int):=by
  show IntKind.i64.wrap _=_;rw [ex,IntKind.wrap_i64];omega
 have e3:F8 .i64 ((a^^^b:Nat):Int) 1=(((a^^^b)/2:Nat):Int):=by
  show Int.fdiv _ (2^(min (1:Int).toNat IntKind.i64.bits))=_;have:(2:Int)^(min (1:Int).toNat IntKind.i64.bits)=2:=by decide
  rw [this,Int.fdiv_eq_ediv_of_nonneg _ (by decide)]
  omega
 rw [e1,e2,e3,B9]<;>omega
theorem C9k {a:Nat} (ha:a<4611686018427387904):A3c (a:Int) 2=some (((a/2:Nat):Int),true):=by
 unfold A3c;have c1:(((2:Int)==0)||(((a:Int)== -9223372036854775808)&&((2:Int)== -1)))=false:=by
  rw [D47];exact ⟨rfl,by simp⟩
 have e1:Int.tmod (a:Int) 2=((a%2:Nat):Int):=by rw [Int.tmod_eq_emod_of_nonneg (by omega)];omega
 have e2:Int.tdiv (a:Int) 2=((a/2:Nat):Int):=by rw [Int.tdiv_eq_ediv_of_nonneg (by omega)];omega
 have c2:((((a%2:Nat):Int) !=0)&&(!(decide ((a:Int)<0)==decide ((2:Int)<0))))=false:=by
  have:decide ((a:Int)<0)=false:=by rw [D4O];omega
  rw [this];simp
 rw [c1,D4A,R8 (by decide),R8 (by decide),e1,e2,c2,D4A,B9 (by omega) (by omega)]
theorem D15 {a b:Nat} (ha:a<4611686018427387904) (hb:b<4611686018427387904):A7T (a:Int) (b:Int)=some (((a+b)/2:Nat):Int):=by
 unfold A7T;rw [C9k ha,C9k hb];simp only [D4x];have e1:A2 (((a/2:Nat):Int)+((b/2:Nat):Int))=((a/2+b/2:Nat):Int):=by rw [B9]<;>omega
 have e2:A2 (2*((a/2:Nat):Int))=2*((a/2:Nat):Int):=by rw [B9]<;>omega
 have e3:A2 (2*((b/2:Nat):Int))=2*((b/2:Nat):Int):=by rw [B9]<;>omega
 have e4:A2 ((a:Int)-2*((a/2:Nat):Int))=((a%2:Nat):Int):=by rw [B9]<;>omega
 have e5:A2 (((a%2:Nat):Int)+(b:Int))=((a%2:Nat):Int)+(b:Int):=by rw [B9]<;>omega
 have e6:A2 (((a%2:Nat):Int)+(b:Int)-2*((b/2:Nat):Int))=((a%2+b%2:Nat):Int):=by rw [B9]<;>omega
 have e7:Int.tdiv ((a%2+b%2:Nat):Int) 2=(((a%2+b%2)/2:Nat):Int):=by rw [Int.tdiv_eq_ediv_of_nonneg (by omega)];omega
 rw [e1,e2,e3,e4,e5,e6,e7,B9 (n:=(((a%2+b%2)/2:Nat):Int)) (by omega) (by omega),B9 (by omega) (by omega)]
 congr 1
 omega
theorem D1g {a b:Nat} (hab:a<=b) (hb:b<4611686018427387904):Y3 (a:Int) (b:Int)=some (L4 (a:Int) (b:Int)):=by
 unfold Y3 L4;rw [D4E (by omega: ¬(a:Int)>(b:Int)),D4A,D4A,D15 (by omega) hb]
 simp only [D4x];rw [D0K (by omega) hb]
 rfl
theorem D1o {r:B6} (hb:okB r=true) {n:Int} (hn:1<=n/\n<=r.N) (hl:r.Ad.length<=1048576): ∃k:Nat,A5m r.Ad n 0=some (k:Int)/\D1 r.Ad (k:Int)=some (E0 r.Ad k)/\B4T r n=some ((E0 r.Ad k).V,0):=by
 have h:=(A0a r).1 hb;obtain ⟨k,k1,k2,k3⟩:=C5S h hn hl;refine ⟨k,k2,L9 k1.lt, ?_⟩;unfold B4T;rw [A0H r hl,hb];simp only [D4x,D4B,D5a,D4A];have c:(decide (n<1)||decide (n>r.N))=false:=by rw [D47,D4O,D4O];omega
 rw [c,D4A,k3];simp only [D4x];rw [L9 k1.lt]
 rfl
theorem A61 (t:Int):P3 1 t=if t<1 then 1 else t:=by
 show (if t>1 then t else 1)=_
 split<;>split<;>omega
theorem B6O {p q n:Int} (hp:0<=p) (hpq:p<=q) (hq:1<=q) (hq2:q<=9223372036854775807) (hn:1<=n) (hn2:n<=1099511627776):
  ∃lo rem:Int,A2I (M7 (A7 p) (A7 n)) (H7 (A7 q))=some (⟨0,lo⟩,rem|>E9,true)/\A3A (H5 (A7 p) (A7 n)) (F1 (A7 q))=some (⟨0,lo⟩,E9 rem,true)/\
   lo=p*n/q/\rem=p*n%q/\0<=lo/\lo<=n/\(rem≠0->lo+1<=n)/\0<=rem/\rem<q:=by
 have e1:A7 p=p:=by rw [M0];omega
 have e2:A7 n=n:=by rw [M0];omega
 have e3:A7 q=q:=by rw [M0];omega
 rw [e1,e2,e3];have hX0:0<=p*n:=Int.mul_nonneg hp (by omega)
 have hX1:=(A4i (x:=p) (y:=n) (by omega) (by omega)).2
 have hprod:H5 p n=E9 (p*n):=A2l (by omega) (by omega)
 have hprod2:M7 p n=E9 (p*n):=hprod;have oX:=P5 hX0 hX1;obtain ⟨oq,vq⟩:=A41 (n:=q) (by omega) (by omega)
 have hqq:q*n=n*q:=Int.mul_comm _ _;have hle:p*n<=q*n:=Int.mul_le_mul_of_nonneg_right hpq (by omega)
 have hdm:=Int.mul_ediv_add_emod (p*n) q;have hr0:=Int.emod_nonneg (p*n) (show q≠0 by omega)
 have hr1:=Int.emod_lt_of_pos (p*n) (show 0<q by omega)
 have hlo0:0<=p*n/q:=Int.ediv_nonneg hX0 (by omega)
 have hlo1:p*n/q<=n:=by
  have:p*n/q<=(n*q)/q:=Int.ediv_le_ediv (by omega) (by omega)
  rwa [Int.mul_ediv_cancel _ (by omega)] at this
 have hsmall:E9 (p*n/q)=⟨0,p*n/q⟩:=by
  unfold E9;congr 1<;>omega
 refine ⟨p*n/q,p*n%q, ?_, ?_,rfl,rfl,hlo0,hlo1,fun hne=> ?_,hr0,hr1⟩
 ·rw [hprod2];have:=B44 oX (b:=H7 q) oq (by show 0<wv (F1 q);rw [vq];omega)
  rw [this,L1];show some (E9 (p*n/wv (F1 q)),E9 (p*n%wv (F1 q)),true)=_;rw [vq,hsmall]
 ·rw [hprod,B69 oX oq (by rw [vq];omega),L1,vq,hsmall]
 ·
  rcases Int.lt_or_le (p*n/q) n with hlt|hge
  ·omega
  ·exfalso;have:p*n/q=n:=by omega
   rw [this] at hdm;omega
theorem C5V (r:B6) (p q:Int) (hp:-9223372036854775808<=p/\p<=9223372036854775807) (hq:-9223372036854775808<=q/\q<=9223372036854775807) (hl:r.Ad.length<=1048576):
  A11 r p q=A3q r p q/\ ∃x,A3q r p q=some x:=by
 unfold A11 A3q;rw [A0h r hl,A0H r hl];simp only [D4x];cases hb:okB r with
 |false=>exact ⟨rfl,_,rfl⟩
 |true=>
  have h:=(A0a r).1 hb;simp only [D4B,D5a,D4A];have hasks:(!U7 p q)=((decide (q<1)||decide (p<0))||decide (p>q)):=by
   unfold U7;rw [D4S];simp only [D4T,D5o,D4O,D4I,D4z];omega
  rw [hasks];cases hc:((decide (q<1)||decide (p<0))||decide (p>q)) with
  |true=>exact ⟨rfl,_,rfl⟩
  |false=>
   simp only [D47,D4O] at hc;simp only [D4A];cases hN:r.N==0 with
   |true=>exact ⟨rfl,_,rfl⟩
   |false=>
    rw [D5n] at hN;have n0:=h.n0;have n1:=h.n1;obtain ⟨lo,rem,d1,d2,_,_,l0,l1,l2,r0,r1⟩:=B6O (p:=p) (q:=q) (n:=r.N) (by omega) (by omega) (by omega) (by omega) (by omega) n1
    unfold A0D;simp only [d1,d2,D4x,D4A];have hz:(!((E9 rem).Hi==0&&((E9 rem).Lo==0&&true)))=decide (rem≠0):=by
     have g1:wv (E9 rem)=rem:=L1 rem;unfold E9 at*
     unfold wv at g1;rw [D4S];simp only [Bool.and_true,D4T,D5o,D5n,D4z];simp only at g1;omega
    rw [hz]
    by_cases hr:rem=0
    ·rw [D4E (by simpa using hr)]
     simp only [D4A,D4x];have e1:A2 lo=lo:=by rw [B9]<;>omega
     rw [e1];obtain ⟨k,k1,k2,k3⟩:=D1o hb (n:=P3 1 lo) (by rw [A61];split<;>omega) hl
     unfold A1J;rw [e1,k1,k3];simp only [D4x];rw [k2];exact ⟨rfl,_,rfl⟩
    ·rw [D4C (by simpa using hr)]
     have l3:=l2 hr;simp only [D4B,D4x];have e1:A2 lo=lo:=by rw [B9]<;>omega
     have e2:A2 (lo+1)=lo+1:=by rw [B9]<;>omega
     have e3:A7 (lo+1)=lo+1:=by rw [M0];omega
     rw [e1,e2,e3];obtain ⟨k,k1,k2,k3⟩:=D1o hb (n:=P3 1 (lo+1)) (by rw [A61];split<;>omega) hl
     unfold A1J;rw [e2,k1,k3];simp only [D4x];rw [k2];exact ⟨rfl,_,rfl⟩
theorem D07 {l:List A6} {N:Int} (h:OkR l N) (v:Int): ∃m,m<=l.length/\(∀i,i<m->(E0 l i).V<=v)/\ ∀i,m<=i->i<l.length->v<(E0 l i).V:=by
 have key: ∀m,m<=l.length->(∃k,k<=m/\(∀i,i<k->(E0 l i).V<=v)/\ ∀i,k<=i->i<m->v<(E0 l i).V):=by
  intro m
  induction m with
  |zero=>intro _;exact ⟨0,D5f _,fun i hi=>by omega,fun i _ hi=>by omega⟩
  |succ m ih=>
   intro hm;obtain ⟨k,k1,k2,k3⟩:=ih (by omega)
   by_cases hv:(E0 l m).V<=v
   ·have:k=m:=by
     rcases Nat.lt_or_ge k m with hlt|hge
     ·have:=k3 k (D5f _) hlt;have:=(B7f h hlt (by omega)).1
      omega
     ·omega
    subst this;refine ⟨k+1,D5f _,fun i hi=> ?_,fun i h1 h2=>by omega⟩
    rcases Nat.lt_or_ge i k with g|g
    ·exact k2 i g
    ·have:i=k:=by omega
     subst this;exact hv
   ·refine ⟨k,by omega,k2,fun i h1 h2=> ?_⟩
    rcases Nat.lt_or_ge i m with g|g
    ·exact k3 i h1 g
    ·have:i=m:=by omega
     subst this;omega
 exact key l.length (D5f _)
def J7 (l:List A6) (m:Nat):Int:=if m=0 then 0 else (E0 l (m-1)).Bk
def J0 (l:List A6) (N:Int) (m:Nat):Int:=if m<l.length then (E0 l m).Bj-1 else N
theorem C0M {r:B6} (h:OkR r.Ad r.N) (v:Int) (hl:r.Ad.length<=1048576) {m:Nat} (h1:m<=r.Ad.length) (h2:∀i,i<m->(E0 r.Ad i).V<=v) (h3:∀i,m<=i->i<r.Ad.length->v<(E0 r.Ad i).V):
  B1L r v 0 0=some ((L4 (J7 r.Ad m) (J0 r.Ad r.N m)).1,0):=by
 have hm:r.Ad.length<=maxLen:=by rw [G9];omega
 unfold B1L;obtain ⟨x,hx,hQ⟩:=J4 (f:=fun s:Int×Int=>A9O r v s.1 s.2)
  (fun s=> ∃i:Nat,i<=m/\s=(J7 r.Ad i,(i:Int)))
  (fun s=>r.Ad.length-s.2.toNat) (fun x=>x=((L4 (J7 r.Ad m) (J0 r.Ad r.N m)).1,0)) (0,0) ⟨0,Nat.zero_le _,rfl⟩ (by
   rintro _ ⟨i,hi,rfl⟩;simp only;unfold A9O
   by_cases hlt:i<r.Ad.length
   ·simp only [Int.ofNat_lt,hlt,decide_true,D4B,L9 hlt,D4x,I9 hlt hm]
    by_cases him:i<m
    ·left;rw [D4E (by have:=h2 i him;omega),D4A]
     refine ⟨_,rfl,⟨i+1,him, ?_⟩,by show r.Ad.length-((i:Int)+1).toNat<r.Ad.length-(i:Int).toNat;omega⟩
     unfold J7;rw [if_neg (by omega),D5e]
     rfl
    ·right;have:i=m:=by omega
     subst this;rw [D4C (by have:=h3 i (D5f _) hlt;omega),D4B]
     have hr:=h.rng i hlt;have hn:=h.n1;refine ⟨_,rfl, ?_⟩;unfold J0;rw [if_pos hlt,B9 (by omega) (by omega)]
   ·right;have:i=m:=by omega
    subst this;rw [D4E (by omega),D4A]
    refine ⟨_,rfl, ?_⟩;unfold J0;rw [if_neg hlt])
 rw [hx,hQ]
theorem C7x {r:B6} (h:OkR r.Ad r.N) (v lo:Int) (hl:r.Ad.length<=1048576) {m:Nat} (h1:m<=r.Ad.length) (h2:∀i,i<m->(E0 r.Ad i).V<=v) (h3:∀i,m<=i->i<r.Ad.length->v<(E0 r.Ad i).V):
  A1L r.Ad v lo r.N ((r.Ad.length:Int)-1)=some (lo,J0 r.Ad r.N m):=by
 unfold A1L;obtain ⟨x,hx,hQ⟩:=J4 (f:=fun s:Int×Int=>A1a r.Ad v lo s.1 s.2)
  (fun s=> ∃k:Nat,k<=r.Ad.length/\s=((if k<=m then J0 r.Ad r.N m else J0 r.Ad r.N k),(k:Int)-1))
  (fun s=>(s.2+1).toNat) (fun x=>x=(lo,J0 r.Ad r.N m)) (r.N,(r.Ad.length:Int)-1) ⟨r.Ad.length,D5f _,by
   have:J0 r.Ad r.N r.Ad.length=r.N:=by unfold J0;rw [if_neg (by omega)]
   rw [this]
   by_cases hle:r.Ad.length<=m
   ·have:m=r.Ad.length:=by omega
    subst this;rw [if_pos hle,this]
   ·rw [if_neg hle]⟩ (by
   rintro _ ⟨k,hk,rfl⟩;simp only;unfold A1a;cases k with
   |zero=>
    right;rw [D4E (by omega),D4A,if_pos (Nat.zero_le _)]
    exact ⟨_,rfl,rfl⟩
   |succ k=>
    left;have hlt:k<r.Ad.length:=by omega
    have e1:((k+1:Nat):Int)-1=(k:Int):=by omega
    have e2:A2 ((k:Int)-1)=(k:Int)-1:=by rw [B9]<;>omega
    rw [e1,D4C (by omega:(k:Int)>=0),D4B,L9 hlt,e2]
    simp only [D4x]
    by_cases hkm:k<m
    ·rw [D4E (by have:=h2 k hkm;omega),D4A,if_pos (by omega)]
     exact ⟨_,rfl,⟨k,by omega,by rw [if_pos (by omega)]⟩,by show ((k:Int)-1+1).toNat<((k:Int)+1).toNat;omega⟩
    ·rw [D4C (by have:=h3 k (by omega) hlt;omega),D4B]
     have hr:=h.rng k hlt;have hn:=h.n1;rw [B9 (by omega) (by omega)]
     refine ⟨_,rfl,⟨k,by omega, ?_⟩,by show ((k:Int)-1+1).toNat<((k:Int)+1).toNat;omega⟩
     have hh:J0 r.Ad r.N k=(E0 r.Ad k).Bj-1:=by unfold J0;rw [if_pos hlt]
     by_cases hle:k<=m
     ·have:k=m:=by omega
      subst this;rw [if_pos hle,hh]
     ·rw [if_neg hle,hh])
 rw [hx,hQ]
theorem C7w {r:B6} (h:OkR r.Ad r.N) (v:Int) (hl:r.Ad.length<=1048576) {m:Nat} (h1:m<=r.Ad.length) (h2:∀i,i<m->(E0 r.Ad i).V<=v) (h3:∀i,m<=i->i<r.Ad.length->v<(E0 r.Ad i).V):
  A04 r.Ad r.N v=some (J7 r.Ad m,J0 r.Ad r.N m):=by
 have hm:r.Ad.length<=maxLen:=by rw [G9];omega
 unfold A04 A64;obtain ⟨x,hx,hQ⟩:=J4 (f:=fun s:Int×Int=>A09 r.Ad r.N v s.1 s.2)
  (fun s=> ∃i:Nat,i<=r.Ad.length/\s=((if i<=m then J7 r.Ad i else J7 r.Ad m),(i:Int)))
  (fun s=>r.Ad.length-s.2.toNat) (fun x=>x=(J7 r.Ad m,J0 r.Ad r.N m)) (0,0) ⟨0,Nat.zero_le _,by rw [if_pos (Nat.zero_le _)];rfl⟩ (by
   rintro _ ⟨i,hi,rfl⟩;simp only;unfold A09
   by_cases hlt:i<r.Ad.length
   ·left;simp only [Int.ofNat_lt,hlt,decide_true,D4B,L9 hlt,D4x,I9 hlt hm]
    by_cases him:i<m
    ·rw [D4C (h2 i him),D4B];refine ⟨_,rfl,⟨i+1,hlt, ?_⟩,by show r.Ad.length-((i:Int)+1).toNat<r.Ad.length-(i:Int).toNat;omega⟩
     rw [if_pos (by omega)]
     unfold J7;rw [if_neg (by omega),D5e]
     rfl
    ·rw [D4E (by have:=h3 i (by omega) hlt;omega),D4A]
     refine ⟨_,rfl,⟨i+1,hlt, ?_⟩,by show r.Ad.length-((i:Int)+1).toNat<r.Ad.length-(i:Int).toNat;omega⟩
     by_cases hle:i<=m
     ·have:i=m:=by omega
      subst this;rw [if_pos (D5f _),if_neg (by omega: ¬i+1<=i)]
      rfl
     ·rw [if_neg hle,if_neg (by omega: ¬i+1<=m)]
      rfl
   ·right;have:i=r.Ad.length:=by omega
    subst this;have e1:A2 ((r.Ad.length:Int)-1)=(r.Ad.length:Int)-1:=by rw [B9]<;>omega
    rw [D4E (by omega),D4A,e1,C7x h v _ hl h1 h2 h3]
    refine ⟨_,rfl, ?_⟩
    by_cases hle:r.Ad.length<=m
    ·have:r.Ad.length=m:=by omega
     rw [if_pos hle,this]
    ·rw [if_neg hle])
 rw [hx,hQ]
theorem A4I {l:List A6} {N:Int} (h:OkR l N) {m:Nat} (h1:m<=l.length):0<=J7 l m/\J7 l m<=J0 l N m/\J0 l N m<=N:=by
 have n0:=h.n0;unfold J7 J0
 by_cases hm0:m=0
 ·subst hm0;rw [if_pos rfl]
  by_cases hl:0<l.length
  ·rw [if_pos hl,h.first hl];have:=h.rng 0 hl;omega
  ·rw [if_neg hl];omega
 ·rw [if_neg hm0];have g1:=h.rng (m-1) (by omega)
  by_cases hl:m<l.length
  ·rw [if_pos hl];have g2:=h.rng m hl;have g3:=h.up (m-1) (by omega)
   rw [show m-1+1=m by omega] at g3
   omega
  ·rw [if_neg hl];omega
end Go.Win
namespace Go.Win
open Go.Vc Go.Dec
def tk (A B:List A6) (p:Nat×Nat):Bool:=decide (p.2=B.length)||(decide (p.1<A.length)&&decide ((E0 A p.1).V<=(E0 B p.2).V))
def W3 (A B:List A6) (p:Nat×Nat):Nat×Nat:=cond (tk A B p) (p.1+1,p.2) (p.1,p.2+1)
def H4 (A B:List A6):Nat->Nat×Nat
 |0=>(0,0)
 |k+1=>W3 A B (H4 A B k)
def me (A B:List A6) (a b:Int) (k:Nat):A6:=
 ⟨cond (tk A B (H4 A B k)) (E0 A (H4 A B k).1).V (E0 B (H4 A B k).2).V,
  J7 A (H4 A B (k+1)).1+J7 B (H4 A B (k+1)).2,J0 A a (H4 A B k).1+J0 B b (H4 A B k).2+1⟩
def meL (A B:List A6) (a b:Int) (n:Nat):List A6:=(List.range n).map (me A B a b)
theorem M5 (A B:List A6) (a b:Int) (n:Nat):(meL A B a b n).length=n:=by unfold meL;simp
theorem C30 (A B:List A6) (a b:Int) (n:Nat):meL A B a b (n+1)=meL A B a b n++ [me A B a b n]:=by
 unfold meL;rw [List.range_succ,D5w]
 rfl
theorem A8z (A B:List A6) (a b:Int) {n i:Nat} (h:i<n):E0 (meL A B a b n) i=me A B a b i:=by
 unfold E0 meL;rw [D5t,D46,List.getElem?_range h]
 rfl
theorem A4n {A B:List A6} {p:Nat×Nat} (h1:p.1<=A.length) (_:p.2<=B.length) (h3:p.1+p.2<A.length+B.length) (h:tk A B p=true):
  p.1<A.length/\(p.2<B.length->(E0 A p.1).V<=(E0 B p.2).V):=by
 unfold tk at h;simp only [D4I,D4F,D4z] at h;rcases h with h|⟨h4,h5⟩
 ·exact ⟨by omega,fun g=>by omega⟩
 ·exact ⟨h4,fun _=>h5⟩
theorem A2H {A B:List A6} {p:Nat×Nat} (h2:p.2<=B.length) (h:tk A B p=false):
  p.2<B.length/\(p.1<A.length->(E0 B p.2).V<(E0 A p.1).V):=by
 unfold tk at h;simp only [D47,D5o,D4O] at h;obtain ⟨h4,h5⟩:=h;refine ⟨by omega,fun g=> ?_⟩
 rcases h5 with h5|h5
 ·exact absurd g h5
 ·omega
theorem B0D (A B:List A6): ∀k,k<=A.length+B.length->(H4 A B k).1<=A.length/\(H4 A B k).2<=B.length/\(H4 A B k).1+(H4 A B k).2=k:=by
 intro k
 induction k with
 |zero=>intro _;exact ⟨Nat.zero_le _,Nat.zero_le _,rfl⟩
 |succ k ih=>
  intro hk;obtain ⟨i1,i2,i3⟩:=ih (by omega)
  show (W3 A B (H4 A B k)).1<=_/\(W3 A B (H4 A B k)).2<=_/\(W3 A B (H4 A B k)).1+(W3 A B (H4 A B k)).2=_;unfold W3;cases ht:tk A B (H4 A B k) with
  |true=>
   have:=(A4n i1 i2 (by omega) ht).1
   simp only [D4B];omega
  |false=>
   have:=(A2H i2 ht).1;simp only [D4A];omega
theorem C90 {A B:List A6} {a b:Int} (hA:OkR A a) (hB:OkR B b): ∀k,k<=A.length+B.length->
  (∀j,j<(H4 A B k).2->(H4 A B k).1<A.length->(E0 B j).V<(E0 A (H4 A B k).1).V)/\
  (∀i,i<(H4 A B k).1->(H4 A B k).2<B.length->(E0 A i).V<=(E0 B (H4 A B k).2).V):=by
 intro k
 induction k with
 |zero=>intro _;exact ⟨fun j hj=>absurd hj (Nat.not_lt_zero _),fun i hi=>absurd hi (Nat.not_lt_zero _)⟩
 |succ k ih=>
  intro hk;obtain ⟨i1,i2,i3⟩:=B0D A B k (by omega)
  obtain ⟨j1,j2⟩:=ih (by omega)
  rw [show H4 A B (k+1)=W3 A B (H4 A B k) from rfl];unfold W3;cases ht:tk A B (H4 A B k) with
  |true=>
   obtain ⟨t1,t2⟩:=A4n i1 i2 (by omega) ht
   simp only [D4B];refine ⟨fun j hj hl=> ?_,fun i hi hl=> ?_⟩
   ·have g1:=j1 j hj t1;have g2:=(hA.up (H4 A B k).1 hl).1;omega
   ·rcases Nat.lt_or_ge i (H4 A B k).1 with g|g
    ·exact j2 i g hl
    ·have:i=(H4 A B k).1:=by omega
     rw [this];exact t2 hl
  |false=>
   obtain ⟨t1,t2⟩:=A2H i2 ht;simp only [D4A];refine ⟨fun j hj hl=> ?_,fun i hi hl=> ?_⟩
   ·rcases Nat.lt_or_ge j (H4 A B k).2 with g|g
    ·exact j1 j g hl
    ·have:j=(H4 A B k).2:=by omega
     rw [this];exact t2 hl
   ·have g1:=j2 i hi t1;have g2:=(hB.up (H4 A B k).2 hl).1;omega
theorem B64 {A B:List A6} {a b:Int} {k:Nat} (hk:k<A.length+B.length) (ht:tk A B (H4 A B k)=true):
  me A B a b k=⟨(E0 A (H4 A B k).1).V,(E0 A (H4 A B k).1).Bk+J7 B (H4 A B k).2,(E0 A (H4 A B k).1).Bj+J0 B b (H4 A B k).2⟩:=by
 obtain ⟨i1,i2,i3⟩:=B0D A B k (by omega)
 obtain ⟨t1,_⟩:=A4n i1 i2 (by omega) ht
 unfold me;rw [show H4 A B (k+1)=W3 A B (H4 A B k) from rfl];unfold W3;rw [ht];simp only [D4B];have e1:J7 A ((H4 A B k).1+1)=(E0 A (H4 A B k).1).Bk:=by unfold J7;rw [if_neg (by omega),D5e]
 have e2:J0 A a (H4 A B k).1=(E0 A (H4 A B k).1).Bj-1:=by unfold J0;rw [if_pos t1]
 rw [e1,e2]
 congr 1
 omega
theorem B4I {A B:List A6} {a b:Int} {k:Nat} (hk:k<A.length+B.length) (ht:tk A B (H4 A B k)=false):
  me A B a b k=⟨(E0 B (H4 A B k).2).V,(E0 B (H4 A B k).2).Bk+J7 A (H4 A B k).1,(E0 B (H4 A B k).2).Bj+J0 A a (H4 A B k).1⟩:=by
 obtain ⟨i1,i2,i3⟩:=B0D A B k (by omega)
 obtain ⟨t1,_⟩:=A2H i2 ht;unfold me;rw [show H4 A B (k+1)=W3 A B (H4 A B k) from rfl];unfold W3;rw [ht];simp only [D4A];have e1:J7 B ((H4 A B k).2+1)=(E0 B (H4 A B k).2).Bk:=by unfold J7;rw [if_neg (by omega),D5e]
 have e2:J0 B b (H4 A B k).2=(E0 B (H4 A B k).2).Bj-1:=by unfold J0;rw [if_pos t1]
 rw [e1,e2]
 congr 1<;>omega
theorem B8T {B:List A6} {b:Int} (hB:OkR B b) (e:A6) (h1:0<=e.Bk/\e.Bk<=1099511627776) (h2:0<=e.Bj/\e.Bj<=1099511627776) {j:Nat} (hj:j<=B.length) (hl:B.length<=1048576):
  A4T e B (j:Int) b=some ⟨e.V,e.Bk+J7 B j,e.Bj+J0 B b j⟩:=by
 have n1:=hB.n1;have n0:=hB.n0;obtain ⟨o1,o2,o3⟩:=A4I hB hj;have hj1: ∀m:Int,A2m e B (j:Int) b m=some ⟨e.V,m,e.Bj+J0 B b j⟩:=by
  intro m;unfold A2m
  by_cases hlt:j<B.length
  ·have r:=hB.rng j hlt;have e1:J0 B b j=(E0 B j).Bj-1:=by unfold J0;rw [if_pos hlt]
   rw [D4C (by omega),D4B,L9 hlt]
   simp only [D4x];rw [show A2 ((E0 B j).Bj-1)=(E0 B j).Bj-1 by rw [B9]<;>omega,show A2 (e.Bj+((E0 B j).Bj-1))=e.Bj+((E0 B j).Bj-1) by rw [B9]<;>omega,e1]
  ·have e1:J0 B b j=b:=by unfold J0;rw [if_neg hlt]
   rw [D4E (by omega),D4A,e1,show A2 (e.Bj+b)=e.Bj+b by rw [B9]<;>omega]
 unfold A4T
 by_cases h0:0<j
 ·have e1:J7 B j=(E0 B (j-1)).Bk:=by unfold J7;rw [if_neg (by omega)]
  rw [D4C (by omega),D4B,show A2 ((j:Int)-1)=((j-1:Nat):Int) by rw [B9]<;>omega,L9 (show j-1<B.length by omega)]
  simp only [D4x];rw [hj1,<-e1,show A2 (e.Bk+J7 B j)=e.Bk+J7 B j by rw [B9]<;>omega]
 ·have e1:J7 B j=0:=by unfold J7;rw [if_pos (by omega)]
  rw [D4E (by omega),D4A,hj1,e1,Int.add_zero]
theorem D2D {α:Type} {A B:List A6} {p:Nat×Nat} (h1:p.1<=A.length) (h2:p.2<=B.length) (X Y:Option α):
  (Option.bind (gd ((!((p.2:Int)==(B.length:Int)))&&(decide ((p.1:Int)<(A.length:Int)))) (D1 A (p.1:Int))) fun x=>
  Option.bind (gd ((!((p.2:Int)==(B.length:Int)))&&(decide ((p.1:Int)<(A.length:Int)))) (D1 B (p.2:Int))) fun y=>
  cond (((p.2:Int)==(B.length:Int))||((decide ((p.1:Int)<(A.length:Int)))&&(decide (x.V<=y.V)))) X Y)=cond (tk A B p) X Y:=by
 unfold tk
 by_cases hj:p.2=B.length
 ·rw [D5r.2 (by omega:(p.2:Int)=(B.length:Int)),D4C hj]
  rfl
 ·rw [D5n.2 (by omega:(p.2:Int)≠(B.length:Int)),D4E hj]
  by_cases hi:p.1<A.length
  ·rw [D4C (by omega:(p.1:Int)<(A.length:Int)),D4C hi,L9 hi,L9 (show p.2<B.length by omega)]
   rfl
  ·rw [D4E (by omega: ¬(p.1:Int)<(A.length:Int)),D4E hi]
   rfl
theorem C72 (r s:B6) (hA:OkR r.Ad r.N) (hB:OkR s.Ad s.N) (la:r.Ad.length<=1000) (lb:s.Ad.length<=1000):
  A9N r s 0 0 []=some (⟨r.N+s.N,meL r.Ad s.Ad r.N s.N (r.Ad.length+s.Ad.length)⟩,0):=by
 have hm:(1048576:Nat)<=maxLen:=by rw [G9];omega
 have an0:=hA.n0;have an1:=hA.n1;have bn0:=hB.n0;have bn1:=hB.n1;unfold A9N;obtain ⟨v,hv,hQ⟩:=J4 (f:=fun t:Int×Int×List A6=>A5l r s t.1 t.2.1 t.2.2)
  (fun t=> ∃k:Nat,k<=r.Ad.length+s.Ad.length/\t=(((H4 r.Ad s.Ad k).1:Int),((H4 r.Ad s.Ad k).2:Int),meL r.Ad s.Ad r.N s.N k))
  (fun t=>r.Ad.length+s.Ad.length-t.2.2.length) (fun v=>v=(⟨r.N+s.N,meL r.Ad s.Ad r.N s.N (r.Ad.length+s.Ad.length)⟩,0))
  (0,0, []) ⟨0,Nat.zero_le _,rfl⟩ (by
   rintro _ ⟨k,hk,rfl⟩;obtain ⟨i1,i2,i3⟩:=B0D r.Ad s.Ad k hk;simp only;unfold A5l;rw [D2D i1 i2]
   by_cases hlt:k<r.Ad.length+s.Ad.length
   ·left;have hc:(decide (((H4 r.Ad s.Ad k).1:Int)<(r.Ad.length:Int))||decide (((H4 r.Ad s.Ad k).2:Int)<(s.Ad.length:Int)))=true:=by
     simp only [D4I,D4z];omega
    have hsucc:meL r.Ad s.Ad r.N s.N (k+1)=meL r.Ad s.Ad r.N s.N k++ [me r.Ad s.Ad r.N s.N k]:=C30 _ _ _ _ _;have hpt:H4 r.Ad s.Ad (k+1)=W3 r.Ad s.Ad (H4 r.Ad s.Ad k):=rfl;unfold W3 at hpt;rw [hc,D4B];unfold A5k;cases ht:tk r.Ad s.Ad (H4 r.Ad s.Ad k) with
    |true=>
     obtain ⟨t1,_⟩:=A4n i1 i2 (by omega) ht
     have g:=hA.rng _ t1;rw [ht,D4B] at hpt;rw [D4B,L9 t1];simp only [D4x];rw [B8T hB _ (by omega) (by omega) i2 (by omega)]
     simp only [D4x];rw [R8 (by rw [D4z,M5,D5c];omega),I9 t1 (by omega),<-B64 hlt ht,<-hsucc]
     refine ⟨_,rfl,⟨k+1,hlt,by rw [hpt];rfl⟩,by show _-(meL _ _ _ _ _).length<_-(meL _ _ _ _ _).length;rw [M5,M5];omega⟩
    |false=>
     obtain ⟨t1,_⟩:=A2H i2 ht;have g:=hB.rng _ t1;rw [ht,D4A] at hpt;rw [D4A,L9 t1];simp only [D4x];rw [B8T hA _ (by omega) (by omega) i1 (by omega)]
     simp only [D4x];rw [R8 (by rw [D4z,M5,D5c];omega),I9 t1 (by omega),<-B4I hlt ht,<-hsucc]
     refine ⟨_,rfl,⟨k+1,hlt,by rw [hpt];rfl⟩,by show _-(meL _ _ _ _ _).length<_-(meL _ _ _ _ _).length;rw [M5,M5];omega⟩
   ·right;have hc:(decide (((H4 r.Ad s.Ad k).1:Int)<(r.Ad.length:Int))||decide (((H4 r.Ad s.Ad k).2:Int)<(s.Ad.length:Int)))=false:=by
     simp only [D47,D4O];omega
    have hke:k=r.Ad.length+s.Ad.length:=by omega
    rw [hc,D4A,show A2 (r.N+s.N)=r.N+s.N by rw [B9]<;>omega,hke]
    exact ⟨_,rfl,rfl⟩)
 rw [hv,hQ]
theorem C5U {B:List A6}: ∀k,k<=B.length->H4 [] B k=(0,k):=by
 intro k
 induction k with
 |zero=>intro _;rfl
 |succ k ih=>
  intro hk;rw [show H4 [] B (k+1)=W3 [] B (H4 [] B k) from rfl,ih (by omega)]
  have ht:tk [] B (0,k)=false:=by
   unfold tk;simp only [D47,D5o,D4O];exact ⟨by omega, .inl (by simp)⟩
  unfold W3;rw [ht]
  rfl
theorem C4k {A:List A6}: ∀k,k<=A.length->H4 A [] k=(k,0):=by
 intro k
 induction k with
 |zero=>intro _;rfl
 |succ k ih=>
  intro hk;rw [show H4 A [] (k+1)=W3 A [] (H4 A [] k) from rfl,ih (by omega)]
  have ht:tk A [] (k,0)=true:=by
   unfold tk;simp only [D4I,D4z];exact .inl rfl
  unfold W3;rw [ht]
  rfl
theorem C6M {l m:List A6} (h:l.length=m.length) (h2:∀i,i<l.length->E0 l i=E0 m i):l=m:=by
 apply List.ext_getElem h;intro i h3 h4;rw [<-C6N h3,<-C6N h4,h2 i h3]
theorem B7K {B:List A6} {b:Int}:meL [] B 0 b B.length=B:=by
 refine C6M (M5 _ _ _ _ _) fun i hi=> ?_;rw [M5] at hi;rw [A8z _ _ _ _ hi];have hp:=C5U i (Nat.le_of_lt hi);have ht:tk [] B (H4 [] B i)=false:=by
  rw [hp];unfold tk;simp only [D47,D5o,D4O];exact ⟨by omega, .inl (by simp)⟩
 rw [B4I (by simpa using hi) ht,hp]
 have e1:J7 [] 0=0:=rfl;have e2:J0 [] 0 0=0:=rfl;simp only [e1,e2,Int.add_zero]
theorem C31 {A:List A6} {a:Int}:meL A [] a 0 A.length=A:=by
 refine C6M (M5 _ _ _ _ _) fun i hi=> ?_;rw [M5] at hi;rw [A8z _ _ _ _ hi];have hp:=C4k i (Nat.le_of_lt hi);have ht:tk A [] (H4 A [] i)=true:=by
  rw [hp];unfold tk;simp only [D4I,D4z];exact .inl rfl
 rw [B64 (by simpa using hi) ht,hp]
 have e1:J7 [] 0=0:=rfl;have e2:J0 [] 0 0=0:=rfl;simp only [e1,e2,Int.add_zero]
noncomputable def A33 (r s:B6):B6×Int:=
 cond (okB r&&okB s) (cond (decide (r.N+s.N>1099511627776)) (⟨0, []⟩,5) (⟨r.N+s.N,meL r.Ad s.Ad r.N s.N (r.Ad.length+s.Ad.length)⟩,0)) (⟨0, []⟩,2)
theorem C8h (r s:B6) (la:r.Ad.length<=1000) (lb:s.Ad.length<=1000):A7Q r s=some (A33 r s):=by
 unfold A7Q A33;rw [A0h r (by omega),A0h s (by omega)]
 simp only [D4x];cases hr:okB r with
 |false=>rfl
 |true=>
  cases hs:okB s with
  |false=>rfl
  |true=>
   have hA:=(A0a r).1 hr;have hB:=(A0a s).1 hs;have an0:=hA.n0;have an1:=hA.n1;have bn0:=hB.n0;have bn1:=hB.n1;simp only [D4B,D5a,D4A,Bool.and_self];rw [show A2 (1099511627776-s.N)=1099511627776-s.N by rw [B9]<;>omega]
   by_cases hsum:r.N+s.N>1099511627776
   ·rw [D4C hsum,D4C (by omega)]
    rfl
   ·rw [D4E hsum,D4E (by omega)]
    simp only [D4A]
    by_cases ha:r.N=0
    ·have hnil:r.Ad= []:=D5i (hA.nil.2 ha);rw [D5r.2 ha,D4B];unfold A6g;rw [R8 (by rw [D4z];simp only [D43];omega),hnil,ha]
     simp only [D4x,List.nil_append,D43,Nat.zero_add,Int.zero_add,B7K]
    ·rw [D5n.2 ha,D4A]
     by_cases hb:s.N=0
     ·have hnil:s.Ad= []:=D5i (hB.nil.2 hb);rw [D5r.2 hb,D4B];unfold A6g;rw [R8 (by rw [D4z];simp only [D43];omega),hnil,hb]
      simp only [D4x,List.nil_append,D43,Nat.add_zero,Int.add_zero,C31]
     ·rw [D5n.2 hb,D4A];exact C72 r s hA hB la lb
def bef (tie:Bool) (x e:A6):Bool:=decide (x.V<e.V)||(!tie&&x.V==e.V)
theorem D1I (tie:Bool) (x e:A6):(decide (x.V>e.V)||(tie&&x.V==e.V))= !bef tie x e:=by
 unfold bef;rw [D4S];cases tie
 ·simp only [D42,Bool.or_false,D4K,D48,D4T,D47,D4z,D4O,D5n];omega
 ·simp only [D48,D4J,D42,Bool.or_false,D4T,D4I,D4z,D4O,D5r];omega
def Cut (B:List A6) (tie:Bool) (e:A6) (m:Nat):Prop:=
 m<=B.length/\(∀j,j<m->bef tie (E0 B j) e=true)/\ ∀j,m<=j->j<B.length->bef tie (E0 B j) e=false
theorem B9g {B:List A6} {tie:Bool} {e:A6} {m n:Nat} (h:Cut B tie e m) (g:Cut B tie e n):m=n:=by
 obtain ⟨h1,h2,h3⟩:=h;obtain ⟨g1,g2,g3⟩:=g;rcases Nat.lt_trichotomy m n with c|c|c
 ·have a1:=h3 m (D5f _) (by omega)
  rw [g2 m c] at a1;exact absurd a1 (by simp)
 ·exact c
 ·have a1:=g3 n (D5f _) (by omega)
  rw [h2 n c] at a1;exact absurd a1 (by simp)
theorem D2W {B:List A6} {b:Int} (hB:OkR B b) (tie:Bool) (e:A6): ∃m,Cut B tie e m:=by
 have key: ∀m,m<=B.length->(∃k,k<=m/\(∀j,j<k->bef tie (E0 B j) e=true)/\ ∀j,k<=j->j<m->bef tie (E0 B j) e=false):=by
  intro m
  induction m with
  |zero=>intro _;exact ⟨0,D5f _,fun i hi=>by omega,fun i _ hi=>by omega⟩
  |succ m ih=>
   intro hm;obtain ⟨k,k1,k2,k3⟩:=ih (by omega)
   cases hv:bef tie (E0 B m) e with
   |true=>
    have:k=m:=by
     rcases Nat.lt_or_ge k m with hlt|hge
     ·have g1:=k3 k (D5f _) hlt;have g2:=(B7f hB hlt (by omega)).1
      unfold bef at g1 hv;cases tie
      ·simp only [D4K,D48,D47,D4I,D4z,D4O,D5r,D5n] at g1 hv;omega
      ·simp only [D4J,D42,Bool.or_false,D4z,D4O] at g1 hv;omega
     ·omega
    subst this;refine ⟨k+1,D5f _,fun i hi=> ?_,fun i h1 h2=>by omega⟩
    rcases Nat.lt_or_ge i k with g|g
    ·exact k2 i g
    ·have:i=k:=by omega
     subst this;exact hv
   |false=>
    refine ⟨k,by omega,k2,fun i h1 h2=> ?_⟩
    rcases Nat.lt_or_ge i m with g|g
    ·exact k3 i h1 g
    ·have:i=m:=by omega
     subst this;exact hv
 exact key B.length (D5f _)
def wd (B:List A6) (b:Int) (e:A6) (m:Nat):A6:=⟨e.V,e.Bk+J7 B m,e.Bj+J0 B b m⟩
section widened
variable {s:B6} (hB:OkR s.Ad s.N) (lb:s.Ad.length<=1000)
include hB lb
theorem D3R (tie:Bool) {e:A6} (h1:0<=e.Bk/\e.Bk<=1099511627776) (h2:0<=e.Bj/\e.Bj<=1099511627776) {m:Nat} (hc:Cut s.Ad tie e m) (w:List A6) (i:Nat) (hw:w.length<=1000) (hi:i<=1000):
  A55 s tie e (J7 s.Ad m) w (i:Int) s.N (A2 ((s.Ad.length:Int)-1))=some (.inl (w++ [wd s.Ad s.N e m],(i:Int)+1)):=by
 obtain ⟨c1,c2,c3⟩:=hc;have n0:=hB.n0;have n1:=hB.n1;obtain ⟨o1,o2,o3⟩:=A4I hB c1;have e0:A2 ((s.Ad.length:Int)-1)=(s.Ad.length:Int)-1:=by rw [B9]<;>omega
 rw [e0];unfold A55;obtain ⟨x,hx,hQ⟩:=J4 (f:=fun t:Int×Int=>A2v s tie e (J7 s.Ad m) w (i:Int) t.1 t.2)
  (fun t=> ∃k:Nat,k<=s.Ad.length/\t=((if k<=m then J0 s.Ad s.N m else J0 s.Ad s.N k),(k:Int)-1))
  (fun t=>(t.2+1).toNat) (fun x=>x= .inl (w++ [wd s.Ad s.N e m],(i:Int)+1)) (s.N,(s.Ad.length:Int)-1) ⟨s.Ad.length,D5f _,by
   have:J0 s.Ad s.N s.Ad.length=s.N:=by unfold J0;rw [if_neg (by omega)]
   rw [this]
   by_cases hle:s.Ad.length<=m
   ·have:m=s.Ad.length:=by omega
    subst this;rw [if_pos hle,this]
   ·rw [if_neg hle]⟩ (by
   rintro _ ⟨k,hk,rfl⟩;simp only;unfold A2v;cases k with
   |zero=>
    right;rw [D4E (by omega),D4A,if_pos (Nat.zero_le _),R8 (by rw [D4z];simp only [D5c];omega),show A2 ((i:Int)+1)=(i:Int)+1 by rw [B9]<;>omega,
     show A2 (e.Bk+J7 s.Ad m)=e.Bk+J7 s.Ad m by rw [B9]<;>omega,show A2 (e.Bj+J0 s.Ad s.N m)=e.Bj+J0 s.Ad s.N m by rw [B9]<;>omega]
    exact ⟨_,rfl,rfl⟩
   |succ k=>
    left;have hlt:k<s.Ad.length:=by omega
    have e1:((k+1:Nat):Int)-1=(k:Int):=by omega
    have e2:A2 ((k:Int)-1)=(k:Int)-1:=by rw [B9]<;>omega
    rw [e1,D4C (by omega:(k:Int)>=0),D4B,L9 hlt,e2]
    simp only [D4x];rw [D1I]
    by_cases hkm:k<m
    ·rw [c2 k hkm,D4J,D4A,if_pos (by omega)]
     exact ⟨_,rfl,⟨k,by omega,by rw [if_pos (by omega)]⟩,by show ((k:Int)-1+1).toNat<((k:Int)+1).toNat;omega⟩
    ·rw [c3 k (by omega) hlt,D4K,D4B]
     have hr:=hB.rng k hlt;rw [show A2 ((E0 s.Ad k).Bj-1)=(E0 s.Ad k).Bj-1 by rw [B9]<;>omega]
     refine ⟨_,rfl,⟨k,by omega, ?_⟩,by show ((k:Int)-1+1).toNat<((k:Int)+1).toNat;omega⟩
     have hh:J0 s.Ad s.N k=(E0 s.Ad k).Bj-1:=by unfold J0;rw [if_pos hlt]
     by_cases hle:k<=m
     ·have:k=m:=by omega
      subst this;rw [if_pos hle,hh]
     ·rw [if_neg hle,hh])
 rw [hx,hQ]
theorem D3S (tie:Bool) {e:A6} (h1:0<=e.Bk/\e.Bk<=1099511627776) (h2:0<=e.Bj/\e.Bj<=1099511627776) {m:Nat} (hc:Cut s.Ad tie e m) (w:List A6) (i:Nat) (hw:w.length<=1000) (hi:i<=1000):
  A65 s tie e w (i:Int) 0 0=some (.inl (w++ [wd s.Ad s.N e m],(i:Int)+1)):=by
 have hm:s.Ad.length<=maxLen:=by rw [G9];omega
 have hhi:=D3R hB lb tie h1 h2 hc w i hw hi;obtain ⟨c1,c2,c3⟩:=hc;unfold A65;obtain ⟨x,hx,hQ⟩:=J4 (f:=fun t:Int×Int=>A2T s tie e w (i:Int) t.1 t.2)
  (fun t=> ∃k:Nat,k<=s.Ad.length/\t=((if k<=m then J7 s.Ad k else J7 s.Ad m),(k:Int)))
  (fun t=>s.Ad.length-t.2.toNat) (fun x=>x= .inl (w++ [wd s.Ad s.N e m],(i:Int)+1)) (0,0) ⟨0,Nat.zero_le _,by rw [if_pos (Nat.zero_le _)];rfl⟩ (by
   rintro _ ⟨k,hk,rfl⟩;simp only;unfold A2T
   by_cases hlt:k<s.Ad.length
   ·left;rw [D4C (by omega),D4B,L9 hlt,I9 hlt hm]
    simp only [D4x];rw [show (decide ((E0 s.Ad k).V<e.V)||(!tie)&&(E0 s.Ad k).V==e.V)=bef tie (E0 s.Ad k) e from rfl]
    by_cases hkm:k<m
    ·rw [c2 k hkm,D4B];refine ⟨_,rfl,⟨k+1,hlt, ?_⟩,by show s.Ad.length-((k:Int)+1).toNat<s.Ad.length-(k:Int).toNat;omega⟩
     rw [if_pos (by omega)]
     unfold J7;rw [if_neg (by omega),D5e]
     rfl
    ·rw [c3 k (by omega) hlt,D4A]
     refine ⟨_,rfl,⟨k+1,hlt, ?_⟩,by show s.Ad.length-((k:Int)+1).toNat<s.Ad.length-(k:Int).toNat;omega⟩
     rw [if_neg (by omega: ¬k+1<=m)]
     by_cases hle:k<=m
     ·have:k=m:=by omega
      subst this;rw [if_pos hle]
      rfl
     ·rw [if_neg hle]
      rfl
   ·right;have hlo:(if k<=m then J7 s.Ad k else J7 s.Ad m)=J7 s.Ad m:=by
     by_cases hle:k<=m
     ·have:k=m:=by omega
      subst this;rw [if_pos hle]
     ·rw [if_neg hle]
    rw [D4E (by omega),D4A,hlo,hhi]
    exact ⟨_,rfl,rfl⟩)
 rw [hx,hQ]
def Wid (A B:List A6) (b:Int) (tie:Bool) (w:List A6):Prop:=
 w.length=A.length/\ ∀i,i<A.length-> ∃m,Cut B tie (E0 A i) m/\E0 w i=wd B b (E0 A i) m
theorem B95 {r:B6} (hA:OkR r.Ad r.N) (la:r.Ad.length<=1000) (tie:Bool): ∃w,A36 r s tie=some w/\Wid r.Ad s.Ad s.N tie w:=by
 have hm:r.Ad.length<=maxLen:=by rw [G9];omega
 have an1:=hA.n1;unfold A36 B1U;obtain ⟨x,hx,hQ⟩:=J4 (f:=fun t:List A6×Int=>A2S r s tie t.1 t.2)
  (fun t=> ∃(i:Nat) (w:List A6),i<=r.Ad.length/\t=(w,(i:Int))/\w.length=i/\ ∀k,k<i-> ∃m,Cut s.Ad tie (E0 r.Ad k) m/\E0 w k=wd s.Ad s.N (E0 r.Ad k) m)
  (fun t=>r.Ad.length-t.2.toNat) (fun w=>Wid r.Ad s.Ad s.N tie w) ([],0) ⟨0, [],Nat.zero_le _,rfl,rfl,fun k hk=>by omega⟩ (by
   rintro _ ⟨i,w,hi,rfl,hw,hall⟩;simp only;unfold A2S
   by_cases hlt:i<r.Ad.length
   ·left;have g:=hA.rng i hlt;obtain ⟨m,hc⟩:=D2W hB tie (E0 r.Ad i);rw [D4C (by omega),D4B,L9 hlt]
    simp only [D4x];rw [D3S hB lb tie (by omega) (by omega) hc w i (by omega) (by omega)]
    refine ⟨_,rfl,⟨i+1,_,hlt,rfl,by simp [hw],fun k hk=> ?_⟩,by show r.Ad.length-((i:Int)+1).toNat<r.Ad.length-(i:Int).toNat;omega⟩
    rcases Nat.lt_or_ge k i with hki|hki
    ·obtain ⟨m',hc',he⟩:=hall k hki;refine ⟨m',hc', ?_⟩;rw [<-he];unfold E0;rw [D5t,D4W (by omega),<-D5t]
    ·have:k=i:=by omega
     subst this;refine ⟨m,hc, ?_⟩;unfold E0;rw [D5t,D4X (by omega),hw,Nat.sub_self]
     rfl
   ·right;have:i=r.Ad.length:=by omega
    subst this;rw [D4E (by omega),D4A]
    exact ⟨_,rfl,hw,hall⟩)
 exact ⟨x,hx,hQ⟩
end widened
theorem B2n {w:List A6} {i:Nat} (h:i<w.length):D1 (w.drop i) 0=some (E0 w i):=by
 rw [show (0:Int)=((0:Nat):Int) from rfl,M4,D4R,Nat.add_zero,B8p h]
theorem D3M {α:Type} {A B wA wB:List A6} {p:Nat×Nat} (hA:wA.length=A.length) (hB:wB.length=B.length) (vA:∀i,i<A.length->(E0 wA i).V=(E0 A i).V) (vB:∀i,i<B.length->(E0 wB i).V=(E0 B i).V)
  (h1:p.1<=A.length) (h2:p.2<=B.length) (X Y:Option α):
  (Option.bind (gd ((!(((wB.drop p.2).length:Int)==(0:Int)))&&(decide (((wA.drop p.1).length:Int)>(0:Int)))) (D1 (wA.drop p.1) (0:Int))) fun x=>
  Option.bind (gd ((!(((wB.drop p.2).length:Int)==(0:Int)))&&(decide (((wA.drop p.1).length:Int)>(0:Int)))) (D1 (wB.drop p.2) (0:Int))) fun y=>
  cond ((((wB.drop p.2).length:Int)==(0:Int))||((decide (((wA.drop p.1).length:Int)>(0:Int)))&&(decide (x.V<=y.V)))) X Y)=cond (tk A B p) X Y:=by
 rw [D45,D45,hA,hB];unfold tk
 by_cases hj:p.2=B.length
 ·rw [D5r.2 (by omega:((B.length-p.2:Nat):Int)=0),D4C hj]
  rfl
 ·rw [D5n.2 (by omega:((B.length-p.2:Nat):Int)≠0),D4E hj]
  by_cases hi:p.1<A.length
  ·rw [D4C (by omega:((A.length-p.1:Nat):Int)>0),D4C hi,B2n (by omega),B2n (by omega)]
   simp only [D4K,Bool.and_self,G5,D4x,D4Y,D48,vA _ hi,vB p.2 (by omega)]
  ·rw [D4E (by omega: ¬((A.length-p.1:Nat):Int)>0),D4E hi]
   rfl
theorem C0S (r s:B6) (hA:OkR r.Ad r.N) (hB:OkR s.Ad s.N) (la:r.Ad.length<=1000) (lb:s.Ad.length<=1000) {wA wB:List A6}
  (hwA:Wid r.Ad s.Ad s.N true wA) (hwB:Wid s.Ad r.Ad r.N false wB):
  A8G r s wA wB []=some (⟨r.N+s.N,meL r.Ad s.Ad r.N s.N (r.Ad.length+s.Ad.length)⟩,0):=by
 have an0:=hA.n0;have an1:=hA.n1;have bn0:=hB.n0;have bn1:=hB.n1;obtain ⟨lA,pA⟩:=hwA;obtain ⟨lB,pB⟩:=hwB;have vA: ∀i,i<r.Ad.length->(E0 wA i).V=(E0 r.Ad i).V:=fun i hi=>by obtain ⟨m,_,h⟩:=pA i hi;rw [h];rfl
 have vB: ∀i,i<s.Ad.length->(E0 wB i).V=(E0 s.Ad i).V:=fun i hi=>by obtain ⟨m,_,h⟩:=pB i hi;rw [h];rfl
 unfold A8G;obtain ⟨v,hv,hQ⟩:=J4 (f:=fun t:List A6×List A6×List A6=>A4D r s t.1 t.2.1 t.2.2)
  (fun t=> ∃k:Nat,k<=r.Ad.length+s.Ad.length/\t=(wA.drop (H4 r.Ad s.Ad k).1,wB.drop (H4 r.Ad s.Ad k).2,meL r.Ad s.Ad r.N s.N k))
  (fun t=>r.Ad.length+s.Ad.length-t.2.2.length) (fun v=>v=(⟨r.N+s.N,meL r.Ad s.Ad r.N s.N (r.Ad.length+s.Ad.length)⟩,0))
  (wA,wB, []) ⟨0,Nat.zero_le _,rfl⟩ (by
   rintro _ ⟨k,hk,rfl⟩;obtain ⟨i1,i2,i3⟩:=B0D r.Ad s.Ad k hk;obtain ⟨j1,j2⟩:=C90 hA hB k hk;simp only;unfold A4D;rw [D3M lA lB vA vB i1 i2];have hlen:A2 (((wA.drop (H4 r.Ad s.Ad k).1).length:Int)+((wB.drop (H4 r.Ad s.Ad k).2).length:Int))=((r.Ad.length+s.Ad.length-k:Nat):Int):=by
    rw [D45,D45,lA,lB,B9]<;>omega
   rw [hlen]
   by_cases hlt:k<r.Ad.length+s.Ad.length
   ·left;have hsucc:meL r.Ad s.Ad r.N s.N (k+1)=meL r.Ad s.Ad r.N s.N k++ [me r.Ad s.Ad r.N s.N k]:=C30 _ _ _ _ _;have hpt:H4 r.Ad s.Ad (k+1)=W3 r.Ad s.Ad (H4 r.Ad s.Ad k):=rfl;unfold W3 at hpt;rw [D4C (by omega),D4B]
    cases ht:tk r.Ad s.Ad (H4 r.Ad s.Ad k) with
    |true=>
     obtain ⟨t1,t2⟩:=A4n i1 i2 (by omega) ht
     rw [ht,D4B] at hpt;obtain ⟨m,hc,he⟩:=pA _ t1;have hcut:Cut s.Ad true (E0 r.Ad (H4 r.Ad s.Ad k).1) (H4 r.Ad s.Ad k).2:=by
      refine ⟨i2,fun j hj=> ?_,fun j hj hl=> ?_⟩
      ·unfold bef;rw [D4C (j1 j hj t1)];rfl
      ·unfold bef;have g1:=t2 (by omega)
       have g2:(E0 s.Ad (H4 r.Ad s.Ad k).2).V<=(E0 s.Ad j).V:=by
        rcases Nat.eq_or_lt_of_le hj with g|g
        ·rw [<-g];exact Int.le_refl _
        ·exact (B7f hB g hl).1
       rw [D4E (by omega)];rfl
     have hmm:=B9g hc hcut;subst hmm;have hee:E0 wA (H4 r.Ad s.Ad k).1=me r.Ad s.Ad r.N s.N k:=by rw [he,B64 hlt ht];rfl
     rw [D4B,B2n (by omega),hee]
     simp only [D4x];rw [R8 (by rw [D4z,M5,D5c];omega),R8 (by rw [D4z,D45];omega),<-hsucc]
     refine ⟨_,rfl,⟨k+1,hlt, ?_⟩,by show _-(meL _ _ _ _ _).length<_-(meL _ _ _ _ _).length;rw [M5,M5];omega⟩
     rw [hpt];show ((wA.drop _).drop 1,_,_)=_;rw [D5v]
    |false=>
     obtain ⟨t1,t2⟩:=A2H i2 ht;rw [ht,D4A] at hpt;obtain ⟨m,hc,he⟩:=pB _ t1;have hcut:Cut r.Ad false (E0 s.Ad (H4 r.Ad s.Ad k).2) (H4 r.Ad s.Ad k).1:=by
      refine ⟨i1,fun j hj=> ?_,fun j hj hl=> ?_⟩
      ·unfold bef;have g:=j2 j hj t1;rcases Int.lt_or_eq_of_le g with g|g
       ·rw [D4C g];rfl
       ·rw [D5r.2 g,D4K,D48,Bool.or_true]
      ·unfold bef;have g1:=t2 (by omega)
       have g2:(E0 r.Ad (H4 r.Ad s.Ad k).1).V<=(E0 r.Ad j).V:=by
        rcases Nat.eq_or_lt_of_le hj with g|g
        ·rw [<-g];exact Int.le_refl _
        ·exact (B7f hA g hl).1
       rw [D4E (by omega),D5n.2 (by omega)];rfl
     have hmm:=B9g hc hcut;subst hmm;have hee:E0 wB (H4 r.Ad s.Ad k).2=me r.Ad s.Ad r.N s.N k:=by rw [he,B4I hlt ht];rfl
     rw [D4A,B2n (by omega),hee]
     simp only [D4x];rw [R8 (by rw [D4z,M5,D5c];omega),R8 (by rw [D4z,D45];omega),<-hsucc]
     refine ⟨_,rfl,⟨k+1,hlt, ?_⟩,by show _-(meL _ _ _ _ _).length<_-(meL _ _ _ _ _).length;rw [M5,M5];omega⟩
     rw [hpt];show (_,(wB.drop _).drop 1,_)=_;rw [D5v]
   ·right;have hke:k=r.Ad.length+s.Ad.length:=by omega
    rw [D4E (by omega),D4A,show A2 (r.N+s.N)=r.N+s.N by rw [B9]<;>omega,hke]
    exact ⟨_,rfl,rfl⟩)
 rw [hv,hQ]
theorem C1D (r s:B6) (la:r.Ad.length<=1000) (lb:s.Ad.length<=1000):A4l r s=some (A33 r s):=by
 unfold A4l A33;rw [A0H r (by omega),A0H s (by omega)]
 simp only [D4x];cases hr:okB r with
 |false=>rfl
 |true=>
  cases hs:okB s with
  |false=>rfl
  |true=>
   have hA:=(A0a r).1 hr;have hB:=(A0a s).1 hs;have an0:=hA.n0;have an1:=hA.n1;have bn0:=hB.n0;have bn1:=hB.n1;simp only [D4B,D5a,D4A,Bool.and_self];rw [show A2 (r.N+s.N)=r.N+s.N by rw [B9]<;>omega]
   by_cases hsum:r.N+s.N>1099511627776
   ·rw [D4C hsum]
    rfl
   ·rw [D4E hsum];simp only [D4A];obtain ⟨wA,a1,a2⟩:=B95 hB lb hA la true;obtain ⟨wB,b1,b2⟩:=B95 hA la hB lb false;rw [a1,b1];simp only [D4x];exact C0S r s hA hB la lb a2 b2
end Go.Win
namespace Go.Win
open Go.Vc Go.Dec
section
variable {l:List A6} {N:Int} (h:OkR l N) (hl:l.length<=1048576) (hpos:0<l.length) {b:Nat} (hb1:1<=b) (hb2:b<=65536)
include h hl hpos hb1 hb2
end
end Go.Win
namespace Go.Win
open Go.Vc Go.Dec
theorem C6V {l:List A6} {N:Int} (h:OkR l N) {m:Nat} (hm:m<l.length):J7 l m<J7 l (m+1):=by
 unfold J7;rw [if_neg (show¬m+1=0 by omega),D5e]
 split
 ·have:=h.rng m hm;omega
 ·have:=h.up (m-1) (by omega)
  rw [show m-1+1=m by omega] at this
  omega
theorem C6Q {l:List A6} {N:Int} (h:OkR l N) {m:Nat} (hm:m<l.length):J0 l N m<J0 l N (m+1):=by
 unfold J0;rw [if_pos hm];split
 ·have:=h.up m (by omega);omega
 ·have:=h.rng m hm;omega
theorem C1r {l:List A6} {N:Int} (h:OkR l N):J7 l l.length=N:=by
 unfold J7;split
 ·rename_i h0;exact (h.nil.1 h0).symm
 ·exact h.last (by omega)
theorem B9r {l:List A6} {N:Int} (h:OkR l N):J0 l N 0=0:=by
 unfold J0;split
 ·rename_i h0;have:=h.first h0;omega
 ·exact h.nil.1 (by omega)
theorem D27 {A B:List A6} {a b:Int} (k:Nat):(me A B a b k).V=cond (tk A B (H4 A B k)) (E0 A (H4 A B k).1).V (E0 B (H4 A B k).2).V:=rfl
theorem D0J {A B:List A6} {a b:Int} (hA:OkR A a) (hB:OkR B b) (hs:a+b<=1099511627776):OkR (meL A B a b (A.length+B.length)) (a+b):=by
 have a0:=hA.n0;have b0:=hB.n0;refine ⟨by omega,hs, ?_,fun i hi=> ?_,fun i hi=> ?_,fun h0=> ?_,fun h0=> ?_⟩
 ·rw [M5];have h1:=hA.nil;have h2:=hB.nil;omega
 ·rw [M5] at hi;rw [A8z A B a b hi];obtain ⟨i1,i2,i3⟩:=B0D A B i (by omega)
  cases ht:tk A B (H4 A B i) with
  |true=>
   obtain ⟨t1,_⟩:=A4n i1 i2 (by omega) ht
   rw [B64 hi ht];have:=hA.rng _ t1;have:=A4I hB i2;simp only;omega
  |false=>
   obtain ⟨t1,_⟩:=A2H i2 ht;rw [B4I hi ht];have:=hB.rng _ t1;have:=A4I hA i1;simp only;omega
 ·rw [M5] at hi;rw [A8z A B a b (show i<A.length+B.length by omega),A8z A B a b hi]
  obtain ⟨i1,i2,i3⟩:=B0D A B i (by omega)
  obtain ⟨j1,j2,j3⟩:=B0D A B (i+1) (by omega)
  obtain ⟨v1,v2⟩:=C90 hA hB (i+1) (by omega)
  have estep:H4 A B (i+1)=W3 A B (H4 A B i):=rfl;have estep2:H4 A B (i+1+1)=W3 A B (H4 A B (i+1)):=rfl;refine ⟨?_, ?_, ?_⟩
  ·rw [D27,D27];cases ht:tk A B (H4 A B i) with
   |true=>
    have e:H4 A B (i+1)=((H4 A B i).1+1,(H4 A B i).2):=by rw [estep];unfold W3;rw [ht];rfl
    cases ht2:tk A B (H4 A B (i+1)) with
    |true=>
     obtain ⟨t1,_⟩:=A4n j1 j2 (by omega) ht2
     simp only [D4B];rw [e] at t1⊢;exact (hA.up _ t1).1
    |false=>
     obtain ⟨t1,_⟩:=A2H j2 ht2;simp only [D4B,D4A];exact v2 _ (by rw [e];exact D4P _) t1
   |false=>
    have e:H4 A B (i+1)=((H4 A B i).1,(H4 A B i).2+1):=by rw [estep];unfold W3;rw [ht];rfl
    cases ht2:tk A B (H4 A B (i+1)) with
    |true=>
     obtain ⟨t1,_⟩:=A4n j1 j2 (by omega) ht2
     simp only [D4B,D4A];exact Int.le_of_lt (v1 _ (by rw [e];exact D4P _) t1)
    |false=>
     obtain ⟨t1,_⟩:=A2H j2 ht2;simp only [D4A];rw [e] at t1⊢;exact (hB.up _ t1).1
  ·show J7 A (H4 A B (i+1)).1+J7 B (H4 A B (i+1)).2<J7 A (H4 A B (i+1+1)).1+J7 B (H4 A B (i+1+1)).2;rw [estep2];unfold W3;cases ht2:tk A B (H4 A B (i+1)) with
   |true=>
    obtain ⟨t1,_⟩:=A4n j1 j2 (by omega) ht2
    have:=C6V hA t1;simp only [D4B];omega
   |false=>
    obtain ⟨t1,_⟩:=A2H j2 ht2;have:=C6V hB t1;simp only [D4A];omega
  ·show J0 A a (H4 A B i).1+J0 B b (H4 A B i).2+1<J0 A a (H4 A B (i+1)).1+J0 B b (H4 A B (i+1)).2+1;rw [estep];unfold W3;cases ht:tk A B (H4 A B i) with
   |true=>
    obtain ⟨t1,_⟩:=A4n i1 i2 (by omega) ht
    have:=C6Q hA t1;simp only [D4B];omega
   |false=>
    obtain ⟨t1,_⟩:=A2H i2 ht;have:=C6Q hB t1;simp only [D4A];omega
 ·rw [M5] at h0;rw [A8z A B a b h0];show J0 A a 0+J0 B b 0+1=1;rw [B9r hA,B9r hB]
  rfl
 ·rw [M5] at h0⊢;rw [A8z A B a b (by omega)]
  show J7 A (H4 A B (A.length+B.length-1+1)).1+J7 B (H4 A B (A.length+B.length-1+1)).2=a+b;rw [show A.length+B.length-1+1=A.length+B.length by omega]
  obtain ⟨i1,i2,i3⟩:=B0D A B (A.length+B.length) (D5f _);rw [show (H4 A B (A.length+B.length)).1=A.length by omega,show (H4 A B (A.length+B.length)).2=B.length by omega,C1r hA,C1r hB]
end Go.Win
namespace Go.Win
open Go.Vc Go.Dec
theorem B9W (a b c d:Int) (ha:0<=a/\a<18446744073709551616) (hb:0<=b/\b<18446744073709551616) (hc:0<=c/\c<18446744073709551616) (hd:0<=d/\d<18446744073709551616)
  (i:Nat) (h1:1<=i) (h4:i<=4):A4q 0 0 (i:Int) a b c d=some ⟨a,b,c,d⟩:=by
 unfold A4q;have step: ∀j:Nat,j<=3->(fun s:Int×Int×Int×Int×Int×Int×Int=>Y9 s.1 s.2.1 s.2.2.1 s.2.2.2.1 s.2.2.2.2.1 s.2.2.2.2.2.1 s.2.2.2.2.2.2) (0,0,(j:Int),a,b,c,d)=some (.inl (0,0,((j+1:Nat):Int),a,b,c,d)):=by
  intro j hj;have z: ∀x:Int,0<=x/\x<18446744073709551616->N2 x 0 0=some (x,0):=fun x hx=>by
   rw [C2r _ _ _ hx.1 (by decide) (by decide) (by decide)]
   congr 2<;>omega
  show Y9 0 0 (j:Int) a b c d=_;unfold Y9;have hw:A2 ((j:Int)+1)=((j+1:Nat):Int):=by rw [B9]<;>omega
  rw [D4C (by omega:(j:Int)<4),D4B,hw]
  match j,hj with
  |0,_=>simp [D1,z a ha]
  |1,_=>simp [D1,z b hb]
  |2,_=>simp [D1,z c hc]
  |3,_=>simp [D1,z d hd]
 have fin:loop (fun s:Int×Int×Int×Int×Int×Int×Int=>Y9 s.1 s.2.1 s.2.2.1 s.2.2.2.1 s.2.2.2.2.1 s.2.2.2.2.2.1 s.2.2.2.2.2.2) (0,0,((4:Nat):Int),a,b,c,d)=some ⟨a,b,c,d⟩:=K9 rfl
 match i,h1,h4 with
 |4,_,_=>exact fin
 |3,_,_=>rw [K2 (step 3 (by omega))];exact fin
 |2,_,_=>rw [K2 (step 2 (by omega)),K2 (step 3 (by omega))];exact fin
 |1,_,_=>rw [K2 (step 1 (by omega)),K2 (step 2 (by omega)),K2 (step 3 (by omega))];exact fin
def q1 (a:Int):H6:=⟨a,0,0,0⟩
theorem C4M {a x y:Int} (ha:0<=a) (hx:0<=x/\x<18446744073709551616) (hy:0<=y/\y<18446744073709551616) (h:a+x*y<18446744073709551616):
  I8 (q1 a) x y 0=some (q1 (a+x*y)):=by
 have hp:=(A4i hx hy).1;unfold I8 q1;rw [C2u hx hy];have e1:x*y/18446744073709551616=0:=by omega
 have e2:x*y%18446744073709551616=x*y:=by omega
 have e3:A2 ((0:Int)+1)=((1:Nat):Int):=by rw [B9]<;>omega
 simp only [e1,e2,e3];have i0:D1 [a,0,0,0] (0:Int)=some a:=rfl;rw [i0];simp only [D4x];rw [C2r _ _ _ ha hp (by decide) (by decide)]
 simp only [D4x];have e4:(a+x*y+0)/18446744073709551616=0:=by omega
 have e5:(a+x*y+0)%18446744073709551616=a+x*y:=by omega
 rw [e4,e5];exact B9W _ _ _ _ (by omega) (by omega) (by omega) (by omega) 1 (by omega) (by omega)
theorem B0V {a x y:Int} (ha:0<=a/\a<18446744073709551616) (hx:0<=x/\x<18446744073709551616) (hy:0<=y/\y<18446744073709551616) (h:x*y=0) (s:Nat) (h1:1<=s) (h2:s<=2):
  I8 (q1 a) x y (s:Int)=some (q1 a):=by
 unfold I8 q1;rw [C2u hx hy,h];have e3:A2 ((s:Int)+1)=((s+1:Nat):Int):=by rw [B9]<;>omega
 have i0:D1 [a,0,0,0] (s:Int)=some 0:=by
  match s,h1,h2 with
  |1,_,_=>rfl
  |2,_,_=>rfl
 simp only [i0,D4x];have z:N2 0 (0%18446744073709551616) 0=some (0,0):=rfl;rw [z];simp only [D4x,e3];have r:=B9W a 0 0 0 (by omega) (by omega) (by omega) (by omega) (s+1) (by omega) (by omega)
 match s,h1,h2 with
 |1,_,_=>exact r
 |2,_,_=>exact r
theorem D28 {a b:Int} (ha:a<18446744073709551616) (hb:0<=b) (h:b<=a):A6a (q1 a) (q1 b)=some (q1 (a-b)):=by
 have s0:K4 a b 0=some (a-b,0):=by
  rw [B20 _ _ _ (by omega) hb (by decide) (by decide) (by omega),if_neg (by omega)]
  congr 2;omega
 have z:K4 0 0 0=some (0,0):=rfl;unfold A6a B3M;rw [K2 (s' :=(0,1,a-b,0,0,0)) (by
  show U4 _ _ _ _ _ _ _=_;simp [U4,q1,D1,s0];rfl)]
 rw [K2 (s' :=(0,2,a-b,0,0,0)) (by
  show U4 _ _ _ _ _ _ _=_;simp [U4,q1,D1,z];rfl)]
 rw [K2 (s' :=(0,3,a-b,0,0,0)) (by
  show U4 _ _ _ _ _ _ _=_;simp [U4,q1,D1,z];rfl)]
 rw [K2 (s' :=(0,4,a-b,0,0,0)) (by
  show U4 _ _ _ _ _ _ _=_;simp [U4,q1,D1,z];rfl)]
 rw [K9 (r:=q1 (a-b)) rfl]
theorem by1 {d n:Int} (hd:0<=d/\d<18446744073709551616) (hn:0<n):B1v (q1 d) n=some (q1 (d/n),d%n):=by
 have z:A0U 0 0 n=some (0,0):=by
  rw [B7C (by decide) (by decide) hn]
  simp
 have zd:=B7C hd.1 hd.2 hn;unfold B1v B7E;rw [K2 (s' :=(0,2,d,0,0,0)) (by
  show Y8 _ _ _ _ _ _ _=_;simp [Y8,q1,D1,z];rfl)]
 rw [K2 (s' :=(0,1,d,0,0,0)) (by
  show Y8 _ _ _ _ _ _ _=_;simp [Y8,q1,D1,z];rfl)]
 rw [K2 (s' :=(0,0,d,0,0,0)) (by
  show Y8 _ _ _ _ _ _ _=_;simp [Y8,q1,D1,z];rfl)]
 rw [K2 (s' :=(d%n,-1,d/n,0,0,0)) (by
  show Y8 _ _ _ _ _ _ _=_;simp [Y8,q1,D1,zd];rfl)]
 rw [K9 (r:=(q1 (d/n),d%n)) rfl]
end Go.Win
namespace Go.Win
open Go.Vc Go.Dec
def V9:List B3->Int
 | []=>0
 |p::l=>p.V+V9 l
theorem C4J (l:List B3):L6 l-L5 l=V9 l:=by
 induction l with
 |nil=>rfl
 |cons p l ih=>simp only [L6,L5,V9];split<;>omega
theorem C6g (a b:List B3):V9 (a++b)=V9 a+V9 b:=by
 induction a with
 |nil=>simp [V9]
 |cons p a ih=>simp only [List.cons_append,V9,ih];omega
def A9J (v:Int):List B3->Int
 | []=>0
 |p::l=>(v-p.V)*(v-p.V)+A9J v l
theorem D1W (v:Int) (l:List B3):A9J v l=l.length*(v*v)-2*(v*V9 l)+K1 l:=by
 induction l with
 |nil=>simp [A9J,V9,K1]
 |cons p l ih=>
  simp only [A9J,V9,K1,D4Q,ih];rw [Int.natCast_add]
  grind
theorem D1X (v:Int) (l:List B3):0<=A9J v l:=by
 induction l with
 |nil=>simp [A9J]
 |cons p l ih=>have:=B9T (v-p.V);simp only [A9J];omega
def pD (l:List B3):Int:=l.length*K1 l-V9 l*V9 l
theorem D2o (l:List B3) (p:B3):pD (l++ [p])=pD l+A9J p.V l:=by
 unfold pD;rw [D1W,B4X,C6g,D4D];simp only [K1,V9,D4Q,D43,Int.add_zero];rw [Int.natCast_add]
 grind
theorem D2p (l:List B3) {i:Nat} (hi:i<l.length):pD (l.take (i+1))=pD (l.take i)+A9J l[i].V (l.take i):=by
 rw [List.take_succ_eq_append_getElem hi,D2o]
def A6o (l:List B3):Prop:=l.length<=200/\ ∀p∈l,-1048576<=p.V/\p.V<=1048576
theorem B3q {l:List B3} (h:A6o l) (i:Nat):A6o (l.take i):=
 ⟨by have:=h.1;rw [D4Z];omega,fun p hp=>h.2 p (List.mem_of_mem_take hp)⟩
theorem C8w {x m:Int} (h1:-m<=x) (h2:x<=m):x*x<=m*m:=by
 have hm:0<=m:=by omega
 have a:0<=(m-x)*(m+x):=Int.mul_nonneg (by omega) (by omega)
 have:(m-x)*(m+x)=m*m-x*x:=by grind
 omega
theorem A9y {l:List B3} (h:∀p∈l,-1048576<=p.V/\p.V<=1048576):K1 l<=l.length*1099511627776:=by
 induction l with
 |nil=>simp [K1]
 |cons p l ih=>
  have h1:=h p (by simp)
  have h2:=ih (fun q hq=>h q (by simp [hq]))
  have h3:=C8w h1.1 h1.2;simp only [K1,D4Q];omega
theorem C7J {v:Int} (hv:-1048576<=v/\v<=1048576) {l:List B3} (h:∀p∈l,-1048576<=p.V/\p.V<=1048576):A9J v l<=l.length*4398046511104:=by
 induction l with
 |nil=>simp [A9J]
 |cons p l ih=>
  have h1:=h p (by simp)
  have h2:=ih (fun q hq=>h q (by simp [hq]))
  have h3:=C8w (x:=v-p.V) (m:=2097152) (by omega) (by omega)
  simp only [A9J,D4Q];omega
theorem B0U {l:List B3} (h:∀p∈l,-1048576<=p.V/\p.V<=1048576): -(l.length*1048576)<=V9 l/\V9 l<=l.length*1048576:=by
 induction l with
 |nil=>simp [V9]
 |cons p l ih=>
  have h1:=h p (by simp)
  have h2:=ih (fun q hq=>h q (by simp [hq]))
  simp only [V9,D4Q];omega
theorem D0W (l:List B3) (h:A6o l): ∀i:Nat,i<=l.length->0<=pD (l.take i)/\pD (l.take i)<=i*879609302220800:=by
 intro i
 induction i with
 |zero=>intro _;simp [pD,K1,V9]
 |succ i ih=>
  intro hi;have h1:=ih (by omega)
  have h2:=D1X l[i].V (l.take i);have h3:=C7J (h.2 l[i] (D5m (by omega))) (B3q h i).2
  have h4:=h.1;rw [D2p l (by omega)]
  rw [D4Z] at h3;omega
theorem C8g {l:List B3} (h:A6o l):0<=pD l/\pD l<=175921860444160000:=by
 have:=D0W l h l.length (D5f _);rw [List.take_length] at this;have:=h.1;omega
theorem C34 {l:List B3} (h:A6o l):0<=(l.length:Int)*K1 l/\(l.length:Int)*K1 l<=43980465111040000:=by
 have h1:=B4g l;have h2:=A9y h.2;have h3:=h.1;have h4:=Int.mul_le_mul (show (l.length:Int)<=200 by omega) (show K1 l<=219902325555200 by omega) h1 (by decide)
 exact ⟨Int.mul_nonneg (by omega) h1,by simpa using h4⟩
def A4j (d n:Nat):A4:=⟨((d/Nat.gcd d n:Nat):Int),((n/Nat.gcd d n:Nat):Int)⟩
theorem D0c {l:List B3} (h:A6o l): ∃b,A4b l=some (b,⟨0,if V9 l<0 then-V9 l else V9 l⟩):=by
 have hr:A66 l:=fun p hp=>by have:=h.2 p hp;omega
 have h1:=h.1;have h2:=B0U h.2;rw [C4O l hr (by omega)]
 have h3:=C4J l
 by_cases hc:L5 l<=L6 l
 ·refine ⟨false, ?_⟩;rw [if_pos hc,if_neg (by omega),h3]
  unfold E9
  congr 3<;>omega
 ·refine ⟨true, ?_⟩;rw [if_neg hc,if_pos (by omega),<-h3]
  unfold E9
  congr 3<;>omega
theorem C96 {l:List B3} (h:A6o l) (h0:l≠ []):A7E l (K1 l) 0 0 0 0 0 0 0 0=some (A4j (pD l).toNat l.length,true):=by
 have hlen:0<l.length:=List.length_pos_iff.2 h0;have hl:=h.1;have hq0:=B4g l;have hq1:=A9y h.2;have hnq:=C34 h;have hpd:=C8g h;have hs:=B0U h.2;obtain ⟨b,htot⟩:=D0c h;have wn:A7 (l.length:Int)=(l.length:Int):=by rw [M0];omega
 have t0:I8 ⟨0,0,0,0⟩ (K1 l) (l.length:Int) 0=some ⟨(l.length:Int)*K1 l,0,0,0⟩:=by
  have:=C4M (a:=0) (x:=K1 l) (y:=(l.length:Int)) (by decide) (by omega) (by omega) (by rw [Int.mul_comm];omega)
  rw [Int.zero_add,Int.mul_comm] at this;exact this
 have t1:=B0V (a:=(l.length:Int)*K1 l) (x:=0) (y:=(l.length:Int)) (by omega) (by omega) (by omega) (by simp) 1 (by omega) (by omega)
 have t2:=B0V (a:=(l.length:Int)*K1 l) (x:=0) (y:=(l.length:Int)) (by omega) (by omega) (by omega) (by simp) 2 (by omega) (by omega)
 unfold A7E;rw [K2 (s' :=(1,(l.length:Int)*K1 l,0,0,0)) (by
  show S7 _ _ _ _ _ _ _ _ _ _=_;unfold S7;rw [D4C (by decide:(0:Int)<3),D4B,wn]
  have i0:D1 [K1 l,0,0,0] (0:Int)=some (K1 l):=rfl;rw [i0];simp only [D4x];rw [t0]
  rfl)]
 rw [K2 (s' :=(2,(l.length:Int)*K1 l,0,0,0)) (by
  show S7 _ _ _ _ _ _ _ _ _ _=_;unfold S7;rw [D4C (by decide:(1:Int)<3),D4B,wn]
  have i0:D1 [K1 l,0,0,0] (1:Int)=some 0:=rfl;rw [i0];simp only [D4x];have t1' :I8 ⟨(l.length:Int)*K1 l,0,0,0⟩ 0 (l.length:Int) 1=_:=t1;rw [t1']
  rfl)]
 rw [K2 (s' :=(3,(l.length:Int)*K1 l,0,0,0)) (by
  show S7 _ _ _ _ _ _ _ _ _ _=_;unfold S7;rw [D4C (by decide:(2:Int)<3),D4B,wn]
  have i0:D1 [K1 l,0,0,0] (2:Int)=some 0:=rfl;rw [i0];simp only [D4x];have t2' :I8 ⟨(l.length:Int)*K1 l,0,0,0⟩ 0 (l.length:Int) 2=_:=t2;rw [t2']
  rfl)]
 refine K9 ?_;show S7 _ _ _ _ _ _ _ _ _ _=_;unfold S7;rw [D4E (by decide: ¬(3:Int)<3),D4A,htot,wn]
 simp only [D4x]
 generalize hT:(if V9 l<0 then-V9 l else V9 l)=T
 have hT0:0<=T/\T<=209715200:=by rw [<-hT];split<;>omega
 have hTT:T*T=V9 l*V9 l:=by
  rw [<-hT];split
  ·exact Int.neg_mul_neg _ _
  ·rfl
 have hTn:T*T=(l.length:Int)*K1 l-pD l:=by rw [hTT];unfold pD;omega
 have s0:I8 ⟨0,0,0,0⟩ T T 0=some (q1 (T*T)):=by
  have:=C4M (a:=0) (x:=T) (y:=T) (by decide) (by omega) (by omega) (by omega)
  rw [Int.zero_add] at this;exact this
 have hTT0:0<=T*T:=Int.mul_nonneg hT0.1 hT0.1;have s1:I8 (q1 (T*T)) T 0 1=some (q1 (T*T)):=B0V (by omega) (by omega) (by omega) (by simp) 1 (by omega) (by omega)
 have s2:I8 (q1 (T*T)) 0 0 2=some (q1 (T*T)):=B0V (by omega) (by omega) (by omega) (by simp) 2 (by omega) (by omega)
 rw [s0];simp only [D4x];rw [s1];simp only [D4x];rw [s1];simp only [D4x];rw [s2];simp only [D4x];have m1:A6a ⟨(l.length:Int)*K1 l,0,0,0⟩ (q1 (T*T))=some (q1 (pD l)):=by
  have:=D28 (a:=(l.length:Int)*K1 l) (b:=T*T) (by omega) hTT0 (by omega)
  rw [show (l.length:Int)*K1 l-T*T=pD l by omega] at this
  exact this
 rw [m1];simp only [D4x];rw [by1 (by omega) (by omega)]
 simp only [D4x];obtain ⟨d,hd⟩:=Int.eq_ofNat_of_zero_le hpd.1;rw [hd] at hpd⊢;rw [D5d]
 generalize hn:l.length=n at*
 have hmod:(d:Int)%(n:Int)=((d%n:Nat):Int):=by rw [Int.natCast_emod]
 have hmlt:d%n<n:=Nat.mod_lt _ (by omega)
 have w1:A2 (n:Int)=(n:Int):=by rw [B9]<;>omega
 have w2:A2 ((d:Int)%(n:Int))=((d%n:Nat):Int):=by rw [hmod,B9]<;>omega
 rw [w1,w2,D2b];have hg:Nat.gcd n (d%n)=Nat.gcd d n:=by rw [Nat.gcd_comm,<-Nat.gcd_rec,Nat.gcd_comm]
 rw [hg];simp only [D4x];have gpos:0<Nat.gcd d n:=Nat.gcd_pos_of_pos_right _ (by omega)
 have gle:Nat.gcd d n<=n:=Nat.gcd_le_right _ (by omega)
 have w3:A7 ((Nat.gcd d n:Nat):Int)=((Nat.gcd d n:Nat):Int):=by rw [M0];omega
 rw [w3,by1 (by omega) (by omega)]
 simp only [D4x];have f1:(d:Int)/((Nat.gcd d n:Nat):Int)=((d/Nat.gcd d n:Nat):Int):=by rw [Int.natCast_ediv]
 have f2:Int.tdiv (n:Int) ((Nat.gcd d n:Nat):Int)=((n/Nat.gcd d n:Nat):Int):=by rw [Int.tdiv_eq_ediv_of_nonneg (by omega),Int.natCast_ediv]
 have q1' :d/Nat.gcd d n<=d:=Nat.div_le_self _ _;have q2' :n/Nat.gcd d n<=n:=Nat.div_le_self _ _;rw [f1,f2];unfold q1;simp only;have z:(R3 .u64 (R3 .u64 0 0) 0)=0:=by decide
 rw [z];have c1:(((0:Int) !=0)||decide (((d/Nat.gcd d n:Nat):Int)>=9223372036854775808))=false:=by
  rw [D47,D4O];exact ⟨rfl,by omega⟩
 rw [c1,D4A,R8 (by rw [D4z];omega)]
 unfold A4j
 generalize d/Nat.gcd d n=x at*
 generalize n/Nat.gcd d n=y at*
 rw [show A7 (y:Int)=(y:Int) by rw [M0];omega,B9 (by omega) (by omega),B9 (by omega) (by omega)]
 rfl
theorem C3E {l:List B3} (h:A6o l):A7D l=some (if l= [] then ⟨0,1⟩ else A4j (pD l).toNat l.length,true):=by
 have hl:=h.1;unfold A7D
 by_cases h0:l= []
 ·subst h0;rfl
 ·have hlen:0<l.length:=List.length_pos_iff.2 h0;have c:(A7 (l.length:Int)==0)=false:=by rw [D5n,M0];omega
  rw [c,D4A,if_neg h0];have hm:l.length<=maxLen:=by rw [G9];omega
  unfold B2q;obtain ⟨r,hr,hQ⟩:=J4 (f:=fun s:Int×Int×Int×Int×Int=>A6Z l s.1 s.2.1 s.2.2.1 s.2.2.2.1 s.2.2.2.2)
   (fun s=> ∃i:Nat,i<=l.length/\s=((i:Int),K1 (l.take i),0,0,0))
   (fun s=>l.length-s.1.toNat) (fun r=>r=(A4j (pD l).toNat l.length,true)) (0,0,0,0,0) ⟨0,Nat.zero_le _,rfl⟩ (by
    rintro _ ⟨i,hi,rfl⟩;simp only;unfold A6Z
    by_cases hlt:i<l.length
    ·left;have hv:=h.2 l[i] (D5m hlt);have hq0:=B4g (l.take i);have hq1:=A9y (B3q h i).2;have hq2:=(B3q h i).1;have hsq:=C8w hv.1 hv.2;have hss:=B9T l[i].V;simp only [Int.ofNat_lt,hlt,decide_true,D4B,M4,G7 hlt,D4x,I9 hlt hm,B4V (show-9223372036854775808<=l[i].V by omega) (by omega)]
     have e1:=B8P l[i].V;have t:=C4M (a:=K1 (l.take i)) (x:=if l[i].V<0 then-l[i].V else l[i].V) (y:=if l[i].V<0 then-l[i].V else l[i].V) hq0 (by split<;>omega) (by split<;>omega) (by rw [e1];omega)
     rw [e1] at t;have t' :I8 ⟨K1 (l.take i),0,0,0⟩ (if l[i].V<0 then-l[i].V else l[i].V) (if l[i].V<0 then-l[i].V else l[i].V) 0=_:=t
     rw [t'];refine ⟨_,rfl,⟨i+1,hlt, ?_⟩,by show l.length-((i:Int)+1).toNat<l.length-(i:Int).toNat;omega⟩
     rw [C4F l hlt]
     rfl
    ·right;have hn: ¬((i:Int)<(l.length:Int)):=by omega
     have hi2:i=l.length:=by omega
     subst hi2;rw [List.take_length];simp only [hn,decide_false,D4A];rw [C96 h h0];exact ⟨_,rfl,rfl⟩)
  rw [hr,hQ]
end Go.Win
namespace Go.Win
open Go.Vc Go.Dec
end Go.Win
namespace Go.Win
open Go.Vc Go.Dec
def T0 (l:List B3):List Int:=l.map fun p=>p.V
theorem A1q (l:List B3):(T0 l).length=l.length:=D5k _
def cLe (l:List Int) (v:Int):Nat:=l.countP fun x=>decide (x<=v)
def cLt (l:List Int) (v:Int):Nat:=l.countP fun x=>decide (x<v)
theorem C83 (l:List Int) (v:Int):cLe l v<=l.length:=List.countP_le_length
theorem C84 (l:List Int) (v:Int):cLt l v<=l.length:=List.countP_le_length
theorem B6R (l:List B3) {i:Nat} (hi:i<l.length):T0 (l.take (i+1))=T0 (l.take i)++ [l[i].V]:=by
 unfold T0;rw [List.take_succ_eq_append_getElem hi,D5w]
 rfl
theorem B9k (l:List B3) (v:Int) (hl:l.length<=100000):A7C l v=some (cLe (T0 l) v:Int):=by
 have hm:l.length<=maxLen:=by rw [G9];omega
 unfold A7C B5u;obtain ⟨r,hr,hQ⟩:=J4 (f:=fun s:Int×Int=>A8v l v s.1 s.2)
  (fun s=> ∃i:Nat,i<=l.length/\s=((cLe (T0 (l.take i)) v:Int),(i:Int)))
  (fun s=>l.length-s.2.toNat) (fun r=>r=(cLe (T0 l) v:Int)) (0,0) ⟨0,Nat.zero_le _,rfl⟩ (by
   rintro _ ⟨i,hi,rfl⟩;simp only;unfold A8v
   by_cases hlt:i<l.length
   ·left;have hc:=C83 (T0 (l.take i)) v;rw [A1q,D4Z] at hc;simp only [Int.ofNat_lt,hlt,decide_true,D4B,M4,G7 hlt,D4x,I9 hlt hm];have hs:cLe (T0 (l.take (i+1))) v=cLe (T0 (l.take i)) v+(if l[i].V<=v then 1 else 0):=by
     rw [B6R l hlt];unfold cLe;rw [List.countP_append,List.countP_singleton];simp
    by_cases hv:l[i].V<=v
    ·rw [D4C hv,D4B,B9 (by omega) (by omega)]
     rw [if_pos hv] at hs;exact ⟨_,rfl,⟨i+1,hlt,by rw [hs];simp⟩,by show l.length-((i:Int)+1).toNat<l.length-(i:Int).toNat;omega⟩
    ·rw [D4E hv,D4A];rw [if_neg hv] at hs;exact ⟨_,rfl,⟨i+1,hlt,by rw [hs];simp⟩,by show l.length-((i:Int)+1).toNat<l.length-(i:Int).toNat;omega⟩
   ·right;have:i=l.length:=by omega
    subst this;rw [List.take_length,D4E (by omega),D4A]
    exact ⟨_,rfl,rfl⟩)
 rw [hr,hQ]
theorem C5E (l:List B3) (v:Int) (hl:l.length<=100000):B3e l v=some (cLt (T0 l) v:Int):=by
 have hm:l.length<=maxLen:=by rw [G9];omega
 unfold B3e B3L;obtain ⟨r,hr,hQ⟩:=J4 (f:=fun s:Int×Int=>A7A l v s.1 s.2)
  (fun s=> ∃i:Nat,i<=l.length/\s=((cLt (T0 (l.take i)) v:Int),(i:Int)))
  (fun s=>l.length-s.2.toNat) (fun r=>r=(cLt (T0 l) v:Int)) (0,0) ⟨0,Nat.zero_le _,rfl⟩ (by
   rintro _ ⟨i,hi,rfl⟩;simp only;unfold A7A
   by_cases hlt:i<l.length
   ·left;have hc:=C84 (T0 (l.take i)) v;rw [A1q,D4Z] at hc;simp only [Int.ofNat_lt,hlt,decide_true,D4B,M4,G7 hlt,D4x,I9 hlt hm];have hs:cLt (T0 (l.take (i+1))) v=cLt (T0 (l.take i)) v+(if l[i].V<v then 1 else 0):=by
     rw [B6R l hlt];unfold cLt;rw [List.countP_append,List.countP_singleton];simp
    by_cases hv:l[i].V<v
    ·rw [D4C hv,D4B,B9 (by omega) (by omega)]
     rw [if_pos hv] at hs;exact ⟨_,rfl,⟨i+1,hlt,by rw [hs];simp⟩,by show l.length-((i:Int)+1).toNat<l.length-(i:Int).toNat;omega⟩
    ·rw [D4E hv,D4A];rw [if_neg hv] at hs;exact ⟨_,rfl,⟨i+1,hlt,by rw [hs];simp⟩,by show l.length-((i:Int)+1).toNat<l.length-(i:Int).toNat;omega⟩
   ·right;have:i=l.length:=by omega
    subst this;rw [List.take_length,D4E (by omega),D4A]
    exact ⟨_,rfl,rfl⟩)
 rw [hr,hQ]
theorem C1E: @B0G= @A7C:=rfl
theorem C8l: @B3m= @B3e:=rfl
theorem C2h {s:List Int} (hs:s.Pairwise (· <= ·)) {k:Nat} (hk:k<s.length):cLt s s[k]<=k/\k+1<=cLe s s[k]:=by
 have hg:=List.pairwise_iff_getElem.1 hs;constructor
 ·have e:s=s.take k++s.drop k:=(List.take_append_drop k s).symm;have hz:cLt (s.drop k) s[k]=0:=by
   unfold cLt;rw [List.countP_eq_zero];intro x hx;obtain ⟨j,hj,rfl⟩:=List.mem_iff_getElem.1 hx;rw [D45] at hj;rw [List.getElem_drop];rcases Nat.eq_zero_or_pos j with h0|h0
   ·subst h0;simp
   ·have:=hg k (k+j) hk (by omega) (by omega)
    simp;omega
  have:cLt s s[k]=cLt (s.take k) s[k]+cLt (s.drop k) s[k]:=by
   unfold cLt;rw [<-List.countP_append,List.take_append_drop]
  have h2:=C84 (s.take k) s[k];rw [D4Z] at h2;omega
 ·have h1:cLe (s.take (k+1)) s[k]=k+1:=by
   unfold cLe;have:(s.take (k+1)).countP (fun x=>decide (x<=s[k]))=(s.take (k+1)).length:=by
    rw [List.countP_eq_length];intro x hx;obtain ⟨j,hj,rfl⟩:=List.mem_iff_getElem.1 hx;rw [D4Z] at hj;rw [List.getElem_take,D4z];rcases Nat.lt_or_ge j k with h0|h0
    ·exact hg j k (by omega) hk h0
    ·have:j=k:=by omega
     subst this;exact Int.le_refl _
   rw [this,D4Z];omega
  have:cLe s s[k]=cLe (s.take (k+1)) s[k]+cLe (s.drop (k+1)) s[k]:=by
   unfold cLe;rw [<-List.countP_append,List.take_append_drop]
  omega
theorem C6s {l:List Int} {a b:Int} (h:a<b):cLe l a<=cLt l b:=by
 unfold cLe cLt;refine List.countP_mono_left fun x _ hx=> ?_;simp only [D4z] at hx⊢;omega
theorem C8i {l:List Int} {t:Nat} (ht1:1<=t) (ht2:t<=l.length) (v:Int):
  (cLt l v<t/\t<=cLe l v)↔v=(P7 l)[t-1]'(by rw [A71];omega):=by
 have hk:t-1<(P7 l).length:=by rw [A71];omega
 obtain ⟨h1,h2⟩:=C2h (C4D l) hk;have p1: ∀w,cLt (P7 l) w=cLt l w:=fun w=>(B4W l).countP_eq _;have p2: ∀w,cLe (P7 l) w=cLe l w:=fun w=>(B4W l).countP_eq _;rw [p1] at h1;rw [p2] at h2
 generalize hw:(P7 l)[t-1]=w at*
 constructor
 ·rintro ⟨g1,g2⟩;rcases Int.lt_trichotomy v w with hlt|rfl|hgt
  ·have:=C6s (l:=l) hlt;omega
  ·rfl
  ·have:=C6s (l:=l) hgt;omega
 ·rintro rfl;omega
theorem A8h (l:List B3) (t:Int) (hl:l.length<=1000) (ht1:0<=t) (ht2:t<=l.length) (h0:0<l.length) {T:Nat} (hT:(T:Int)=if t<1 then 1 else t):
  A07 l t=some ((P7 (T0 l)).getD (T-1) 0,true):=by
 have hm:l.length<=maxLen:=by rw [G9];omega
 unfold A07 B0e;obtain ⟨r,hr,hQ⟩:=J4 (f:=fun s:List Int×Int=>A2g l t s.1 s.2)
  (fun s=> ∃i:Nat,i<=l.length/\s=(T0 (l.take i),(i:Int)))
  (fun s=>l.length-s.2.toNat) (fun r=>r=((P7 (T0 l)).getD (T-1) 0,true)) ([],0) ⟨0,Nat.zero_le _,rfl⟩ (by
   rintro _ ⟨i,hi,rfl⟩;simp only;unfold A2g
   by_cases hlt:i<l.length
   ·left;simp only [Int.ofNat_lt,hlt,decide_true,D4B,M4,G7 hlt,D4x,I9 hlt hm];rw [R8 (by rw [D4z,A1q,D4Z,D5c];omega)]
    refine ⟨_,rfl,⟨i+1,hlt, ?_⟩,by show l.length-((i:Int)+1).toNat<l.length-(i:Int).toNat;omega⟩
    rw [B6R l hlt]
    rfl
   ·right;have:i=l.length:=by omega
    subst this;rw [List.take_length,D4E (by omega),D4A,R8 (by rw [D4z,A1q];omega)]
    have e1:A2 t=t:=by rw [B9]<;>omega
    have e2:P3 t 1=(T:Int):=by
     show (if (1:Int)>t then 1 else t)=_
     rw [hT]
    have hT1:1<=T/\T<=l.length:=by split at hT<;>omega
    have e3:A2 ((T:Int)-1)=((T-1:Nat):Int):=by rw [B9]<;>omega
    have hlt2:T-1<(P7 (T0 l)).length:=by rw [A71,A1q];omega
    rw [e1,e2,e3,M4,G7 hlt2];refine ⟨_,rfl, ?_⟩;simp [D5t,G7 hlt2])
 rw [hr,hQ]
theorem B0q (l:List B3) (hl:l.length<=1000) {T:Nat} (hT1:1<=T) (hT2:T<=l.length):A52 l (T:Int) 0=some ((P7 (T0 l)).getD (T-1) 0,true):=by
 have hm:l.length<=maxLen:=by rw [G9];omega
 have hk:T-1<(P7 (T0 l)).length:=by rw [A71,A1q];omega
 have hgd:(P7 (T0 l)).getD (T-1) 0=(P7 (T0 l))[T-1]:=by simp [D5t,G7 hk]
 have hval: ∀v,(cLt (T0 l) v<T/\T<=cLe (T0 l) v)↔v=(P7 (T0 l))[T-1]:=fun v=>C8i hT1 (by rw [A1q];exact hT2) v
 have hmem:(P7 (T0 l))[T-1]∈T0 l:=(B4W (T0 l)).mem_iff.1 (D5m hk);obtain ⟨k,hk2,hke⟩: ∃k,∃h:k<l.length,l[k].V=(P7 (T0 l))[T-1]:=by
  obtain ⟨p,hp,hpe⟩:=List.mem_map.1 hmem;obtain ⟨k,hk,rfl⟩:=List.mem_iff_getElem.1 hp;exact ⟨k,hk,hpe⟩
 unfold A52;obtain ⟨r,hr,hQ⟩:=J4 (f:=fun s:Int=>A4W l (T:Int) s)
  (fun s=> ∃i:Nat,i<=k/\s=(i:Int)) (fun s=>k-s.toNat) (fun r=>r=((P7 (T0 l)).getD (T-1) 0,true)) (0:Int) ⟨0,Nat.zero_le _,rfl⟩ (by
   rintro _ ⟨i,hi,rfl⟩;unfold A4W;have hlt:i<l.length:=by omega
   simp only [Int.ofNat_lt,hlt,decide_true,D4B,M4,G7 hlt,D4x,I9 hlt hm,C1E,C8l,B9k l _ (show l.length<=100000 by omega),C5E l _ (show l.length<=100000 by omega)]
   have hiff:=hval l[i].V
   by_cases hb:cLt (T0 l) l[i].V<T
   ·rw [D4C hb,G5];simp only [D4x,D48]
    by_cases hr:T<=cLe (T0 l) l[i].V
    ·right;rw [D4C (by omega:(cLe (T0 l) l[i].V:Int)>=(T:Int)),D4B]
     refine ⟨_,rfl, ?_⟩;rw [hgd,<-hiff.1 ⟨hb,hr⟩]
    ·left;rw [D4E (by omega: ¬(cLe (T0 l) l[i].V:Int)>=(T:Int)),D4A]
     have hik:i≠k:=by
      rintro rfl;exact hr (hiff.2 hke).2
     exact ⟨_,rfl,⟨i+1,by omega,by simp⟩,by show k-((i:Int)+1).toNat<k-(i:Int).toNat;omega⟩
   ·left;rw [D4E hb,G0];simp only [D4x,D42,D4A];have hik:i≠k:=by
     rintro rfl;exact hb (hiff.2 hke).1
    exact ⟨_,rfl,⟨i+1,by omega,by simp⟩,by show k-((i:Int)+1).toNat<k-(i:Int).toNat;omega⟩)
 rw [hr,hQ]
theorem B7p (l:List B3) (p q:Int) (hp:-9223372036854775808<=p/\p<=9223372036854775807) (hq:-9223372036854775808<=q/\q<=9223372036854775807) (hl:l.length<=1000):
  A5g l p q=A3d l p q/\ ∃x,A3d l p q=some x:=by
 unfold A5g A3d;have hasks:(((l.length:Int)==0)||(!U7 p q))=(((((l.length:Int)==0)||decide (q<1))||decide (p<0))||decide (p>q)):=by
  unfold U7;rw [D4S];simp only [D4T,D5o,D4O,D4I,D4z,D5r];omega
 simp only [hasks];cases hc:(((((l.length:Int)==0)||decide (q<1))||decide (p<0))||decide (p>q)) with
 |true=>exact ⟨rfl,_,rfl⟩
 |false=>
  simp only [D47,D4O,D5n] at hc;obtain ⟨lo,rem,d1,d2,_,_,l0,l1,l2,r0,r1⟩:=B6O (p:=p) (q:=q) (n:=(l.length:Int)) (by omega) (by omega) (by omega) (by omega) (by omega) (by omega)
  unfold A0D;simp only [D4A,d1,d2,D4x];have hz:(!((E9 rem).Hi==0&&((E9 rem).Lo==0&&true)))=decide (rem≠0):=by
   have g1:wv (E9 rem)=rem:=L1 rem;unfold E9 at*
   unfold wv at g1;rw [D4S];simp only [Bool.and_true,D4T,D5o,D5n,D4z];simp only at g1;omega
  rw [hz]
  by_cases hr:rem=0
  ·rw [D4E (by simpa using hr)]
   simp only [D4A,D4x];have e1:A2 lo=lo:=by rw [B9]<;>omega
   rw [e1];obtain ⟨T,hT⟩:=Int.eq_ofNat_of_zero_le (show 0<=P3 1 lo by rw [A61];split<;>omega)
   have hT' :(T:Int)=if lo<1 then 1 else lo:=by rw [<-hT,A61]
   rw [hT,A8h l lo hl l0 l1 (by omega) hT',B0q l hl (T:=T) (by split at hT' <;>omega) (by split at hT' <;>omega)]
   exact ⟨rfl,_,rfl⟩
  ·rw [D4C (by simpa using hr)]
   have l3:=l2 hr;simp only [D4B,D4x];have e1:A2 lo=lo:=by rw [B9]<;>omega
   have e2:A2 (lo+1)=lo+1:=by rw [B9]<;>omega
   have e3:A7 (lo+1)=lo+1:=by rw [M0];omega
   rw [e1,e2,e3];obtain ⟨T,hT⟩:=Int.eq_ofNat_of_zero_le (show 0<=P3 1 (lo+1) by rw [A61];split<;>omega)
   have hT' :(T:Int)=if lo+1<1 then 1 else lo+1:=by rw [<-hT,A61]
   rw [hT,A8h l (lo+1) hl (by omega) l3 (by omega) hT',B0q l hl (T:=T) (by split at hT' <;>omega) (by split at hT' <;>omega)]
   exact ⟨rfl,_,rfl⟩
end Go.Win
namespace Go.Win
open Go.Vc Go.Dec
end Go.Win
namespace Go.Win
open Go.Vc Go.Dec
section
variable {β:Type} (lv:β->Int)
end
theorem C3v {α:Type} {p:Prop} [Decidable p] {x:Option α} (h:p):ck (decide p) x=x:=by rw [D4C h];rfl
end Go.Win
namespace Go.Win
open Go.Vc Go.Dec
theorem D04 (b:B7):A4F b<=1073741824:=by
 unfold A4F
 by_cases h:0<=b.Aw/\b.Aw<=30
 ·rw [if_pos h];exact B9I (by omega)
 ·rw [if_neg h];decide
theorem C0V (l:List B7):T9 l<=l.length*1073741824:=by
 induction l with
 |nil=>simp [B8D]
 |cons b l ih=>
  have:=D04 b;rw [B24,D4Q]
  push_cast
  omega
theorem D4s {l:List B7} (hl:l.length<=1048576):A2 (T9 l)=T9 l:=by
 have h1:=B7e l;have h2:=C0V l;rw [B9]<;>omega
theorem C8z {l:List B7} (hl:l.length<=1048576):A01 l=some (T9 l)/\A1n l=some (T9 l):=by
 have:=A4k l (F5 hl);rw [D4s hl] at this;exact ⟨by rw [B0W];exact this,this⟩
end Go.Win
namespace Go.Win
open Go.Vc Go.Dec
section
variable {β:Type}
end
end Go.Win
namespace Go.Win
open Go.Vc Go.Dec
end Go.Win
namespace Go.Win
open Go.Vc Go.Dec
end Go.Win
namespace Go.Win
open Go.Vc Go.Dec
end Go.Win
namespace Go.Win
open Go.Vc Go.Dec
theorem D2X {l:List M3} (h:∀i j,i<j->j<l.length->(el l i).V<=(el l j).V) (v:Int): ∃c,c<=l.length/\(∀i,i<c->(el l i).V<=v)/\ ∀i,c<=i->i<l.length->v<(el l i).V:=by
 have key: ∀t,t<=l.length-> ∃c,c<=t/\(∀i,i<c->(el l i).V<=v)/\ ∀i,c<=i->i<t->v<(el l i).V:=by
  intro t
  induction t with
  |zero=>intro _;exact ⟨0,D5f _,fun i hi=>by omega,fun i _ hi=>by omega⟩
  |succ t ih=>
   intro ht;obtain ⟨c,h1,h2,h3⟩:=ih (by omega)
   by_cases hs:(el l t).V<=v
   ·have hc:c=t:=by
     by_cases e:c=t
     ·exact e
     ·have:=h3 c (D5f _) (by omega)
      have:=h c t (by omega) (by omega)
      omega
    subst hc;exact ⟨c+1,D5f _,fun i hi=>by
     by_cases e:i=c
     ·subst e;exact hs
     ·exact h2 i (by omega),fun i _ _=>by omega⟩
   ·exact ⟨c,by omega,h2,fun i hi hit=>by
     by_cases e:i=t
     ·subst e;omega
     ·exact h3 i hi (by omega)⟩
 exact key l.length (D5f _)
end Go.Win
namespace Go.Win
open Go.Vc Go.Dec
end Go.Win
namespace Go.Win
open Go.Vc Go.Dec
def A5X (l:List D5):Nat:=(l.map fun x=>x.Az.Ad.length).sum
theorem C1c (x:D5) (l:List D5):A5X (x::l)=x.Az.Ad.length+A5X l:=by simp [A5X]
def B8C (l:List D5):Int:=T9 (plainB l)
theorem D0b (x:D5) (l:List D5):B8C (x::l)=A4F ⟨x.T,x.Aw⟩+B8C l:=by
 unfold B8C plainB;rw [D5q,B24]
end Go.Win
namespace Go.Win
open Go.Vc Go.Dec
theorem C40 {a b:A1} (ha:H1 a) (hb:H1 b):B15 a b=some (E9 (Nat.gcd (wv a).toNat (wv b).toNat:Nat)):=by
 unfold B15 B71;obtain ⟨r,hr,hQ⟩:=J4 (f:=fun s:Int×Int×Int×Int=>B16 s.1 s.2.1 s.2.2.1 s.2.2.2)
  (fun s=>H1 ⟨s.1,s.2.1⟩/\H1 ⟨s.2.2.1,s.2.2.2⟩/\Nat.gcd (wv ⟨s.1,s.2.1⟩).toNat (wv ⟨s.2.2.1,s.2.2.2⟩).toNat=Nat.gcd (wv a).toNat (wv b).toNat)
  (fun s=>(wv ⟨s.2.2.1,s.2.2.2⟩).toNat) (fun r=>r=E9 (Nat.gcd (wv a).toNat (wv b).toNat:Nat)) (a.Hi,a.Lo,b.Hi,b.Lo) ⟨ha,hb,rfl⟩ (by
   rintro ⟨x1,x2,y1,y2⟩ ⟨hx,hy,hg⟩;simp only at hx hy hg⊢;have rx:=O7 hx;have ry:=O7 hy;unfold B16 A1r;simp only
   by_cases h0:wv ⟨y1,y2⟩=0
   ·right;have hz:y1=0/\y2=0:=by unfold wv at h0;unfold H1 at hy;simp only at h0 hy;omega
    obtain ⟨rfl,rfl⟩:=hz;refine ⟨_,rfl, ?_⟩;rw [<-hg,h0];simp only [Int.toNat_zero,Nat.gcd_zero_right];rw [Int.toNat_of_nonneg rx.1,C37 hx]
   ·left;have c:(!(y1==0&&y2==0))=true:=by
     unfold wv at h0;simp only [D4T,D5o,D5n];simp only at h0;omega
    rw [c,D4B,B44 hx hy (by omega)]
    have hm0:0<=wv ⟨x1,x2⟩%wv ⟨y1,y2⟩:=Int.emod_nonneg _ h0;have hm1:wv ⟨x1,x2⟩%wv ⟨y1,y2⟩<wv ⟨y1,y2⟩:=Int.emod_lt_of_pos _ (by omega)
    refine ⟨_,rfl,⟨hy,P5 hm0 (by omega), ?_⟩, ?_⟩
    ·show Nat.gcd _ (wv (E9 _)).toNat=_;rw [L1,<-hg,Int.toNat_emod rx.1 ry.1,Nat.gcd_comm,<-Nat.gcd_rec,Nat.gcd_comm]
    ·show (wv (E9 _)).toNat<_;rw [L1];omega)
 rw [hr,hQ]
theorem B6K {n:Int} (h1:-9223372036854775808<=n) (h2:n<=9223372036854775807):X1 n=G6 n/\0<=G6 n/\G6 n<18446744073709551616:=by
 unfold X1 G6
 by_cases h:n<0
 ·rw [D4C h];simp only [D4B];have e1:A2 (n+1)=n+1:=by rw [B9]<;>omega
  have e2:IntKind.i64.wrap (0-(n+1))=0-(n+1):=by
   show A2 (0-(n+1))=_;rw [B9]<;>omega
  rw [e1,e2];have e3:A7 n=n+18446744073709551616:=by rw [M0];omega
  have e4:A7 (0-(n+1))=0-(n+1):=by rw [M0];omega
  have e5:IntKind.u64.wrap (0-(n+18446744073709551616))= -n:=by
   show A7 (0-(n+18446744073709551616))=_;rw [M0];omega
  have e6:A7 (0-(n+1)+1)= -n:=by rw [M0];omega
  rw [e3,e4,e5,e6];omega
 ·rw [D4E h];simp only [D4A];exact ⟨trivial,by rw [M0];omega,by rw [M0];omega⟩
theorem C6i {r:A4} (h1:-9223372036854775808<=r.Bl) (h2:r.Bl<=9223372036854775807) (_:-9223372036854775808<=r.Bh) (_:r.Bh<=9223372036854775807):
  A9c r=A6i r/\ ∃x,A6i r=some x:=by
 unfold A9c A6i;obtain ⟨s1,s2,s3⟩:=B6K h1 h2;rw [s1];simp only;rw [show H7=F1 from rfl]
 by_cases hd:r.Bh>=1
 ·rw [D4C hd];have e:0<=A7 r.Bh/\A7 r.Bh<18446744073709551616:=by rw [M0];omega
  rw [G5,G5,C40 (A41 s2 s3).1 (A41 e.1 e.2).1,C66 (A41 s2 s3).1 (A41 e.1 e.2).1];exact ⟨rfl,_,rfl⟩
 ·rw [D4E hd];exact ⟨rfl,_,rfl⟩
theorem A6b {r:A4} (h1:-9223372036854775808<=r.Bl) (h2:r.Bl<=9223372036854775807) (h3:-9223372036854775808<=r.Bh) (h4:r.Bh<=9223372036854775807):
  Q3 r=A1m r/\ ∃x,A1m r=some x:=by
 unfold Q3 A1m;obtain ⟨a,x,b⟩:=C6i h1 h2 h3 h4;rw [a,b];cases x<;>exact ⟨rfl,_,rfl⟩
theorem B6V {n:Int} (h1:-9223372036854775808<=n) (h2:n<=9223372036854775807):
  ∃b,P4 n=some b/\V5 n=some (⟨b, [],⟨⟨0,0⟩,⟨0,0⟩⟩⟩,0):=by
 unfold P4 V5;rw [show Q8=A2G from rfl];simp only;obtain ⟨a,x,b⟩:=A6b (r:=A2G n) h1 h2 (by show (-9223372036854775808:Int)<=1;omega) (by show (1:Int)<=_;omega)
 rw [a,b];exact ⟨x,rfl,rfl⟩
theorem C7Q (l:List B3) (hl:l.length<=maxLen) (hi:∀p∈l,-9223372036854775808<=p.V/\p.V<=9223372036854775807):
  ∃r,A83 l=some r/\A03 l false=some r/\ -9223372036854775808<=r.1/\r.1<=9223372036854775807:=by
 unfold A83 A03
 by_cases h0:l.length=0
 ·have c:((l.length:Int)==0)=true:=by rw [D5r];omega
  rw [c];exact ⟨_,rfl,rfl,by omega,by omega⟩
 ·have c:((l.length:Int)==0)=false:=by rw [D5n];omega
  have hlt:0<l.length:=by omega
  rw [c];simp only [D4A];rw [show (0:Int)=((0:Nat):Int) from rfl,M4,G7 hlt];simp only [D4x];have hv:=hi l[0] (D5m hlt)
  generalize l[0].V=v0 at hv
  have key: ∀k,∀v:Int,-9223372036854775808<=v/\v<=9223372036854775807-> ∀i:Nat,i+k=l.length->
    ∃r,A5f l v (i:Int)=some r/\X5 l false v (i:Int)=some r/\ -9223372036854775808<=r.1/\r.1<=9223372036854775807:=by
   intro k
   induction k with
   |zero=>
    intro v hv i hik;refine ⟨(v,true), ?_, ?_,hv⟩
    ·unfold A5f;refine K9 ?_;unfold A7B;simp only;rw [D4E (by omega)];rfl
    ·unfold X5;refine K9 ?_;unfold A08;simp only;rw [D4E (by omega)];rfl
   |succ k ih=>
    intro v hv i hik;have hlt:i<l.length:=by omega
    have hw:=hi l[i] (D5m hlt);have hmin:D0E v l[i].V=if l[i].V<v then l[i].V else v:=rfl
    obtain ⟨r,r1,r2,r3⟩:=ih (D0E v l[i].V) (by rw [hmin];split<;>omega) (i+1) (by omega)
    refine ⟨r, ?_, ?_,r3⟩
    ·rw [<-r1];unfold A5f;refine K2 ?_;unfold A7B;simp only;rw [D4C (by omega),D4B,M4,G7 hlt,I9 hlt hl]
     rfl
    ·rw [<-r2];unfold X5;refine K2 ?_;unfold A08;simp only;rw [D4C (by omega),D4B,M4,G7 hlt,I9 hlt hl]
     simp only [D4x,D42,D4K,D48,D4Y];rw [hmin]
     by_cases hc:l[i].V<v
     ·rw [D4C hc,if_pos hc];rfl
     ·rw [D4E hc,if_neg hc];rfl
  exact key l.length v0 hv 0 (by omega)
theorem C7P (l:List B3) (hl:l.length<=maxLen) (hi:∀p∈l,-9223372036854775808<=p.V/\p.V<=9223372036854775807):
  ∃r,A5e l=some r/\A03 l true=some r/\ -9223372036854775808<=r.1/\r.1<=9223372036854775807:=by
 unfold A5e A03
 by_cases h0:l.length=0
 ·have c:((l.length:Int)==0)=true:=by rw [D5r];omega
  rw [c];exact ⟨_,rfl,rfl,by omega,by omega⟩
 ·have c:((l.length:Int)==0)=false:=by rw [D5n];omega
  have hlt:0<l.length:=by omega
  rw [c];simp only [D4A];rw [show (0:Int)=((0:Nat):Int) from rfl,M4,G7 hlt];simp only [D4x];have hv:=hi l[0] (D5m hlt)
  generalize l[0].V=v0 at hv
  have key: ∀k,∀v:Int,-9223372036854775808<=v/\v<=9223372036854775807-> ∀i:Nat,i+k=l.length->
    ∃r,A2N l v (i:Int)=some r/\X5 l true v (i:Int)=some r/\ -9223372036854775808<=r.1/\r.1<=9223372036854775807:=by
   intro k
   induction k with
   |zero=>
    intro v hv i hik;refine ⟨(v,true), ?_, ?_,hv⟩
    ·unfold A2N;refine K9 ?_;unfold A4M;simp only;rw [D4E (by omega)];rfl
    ·unfold X5;refine K9 ?_;unfold A08;simp only;rw [D4E (by omega)];rfl
   |succ k ih=>
    intro v hv i hik;have hlt:i<l.length:=by omega
    have hw:=hi l[i] (D5m hlt);have hmax:P3 v l[i].V=if l[i].V>v then l[i].V else v:=rfl
    obtain ⟨r,r1,r2,r3⟩:=ih (P3 v l[i].V) (by rw [hmax];split<;>omega) (i+1) (by omega)
    refine ⟨r, ?_, ?_,r3⟩
    ·rw [<-r1];unfold A2N;refine K2 ?_;unfold A4M;simp only;rw [D4C (by omega),D4B,M4,G7 hlt,I9 hlt hl]
     rfl
    ·rw [<-r2];unfold X5;refine K2 ?_;unfold A08;simp only;rw [D4C (by omega),D4B,M4,G7 hlt,I9 hlt hl]
     simp only [D4x,D48,D4J,D42,Bool.or_false];rw [hmax]
     by_cases hc:l[i].V>v
     ·rw [D4C hc,if_pos hc];rfl
     ·rw [D4E hc,if_neg hc];rfl
  exact key l.length v0 hv 0 (by omega)
theorem D0U {x:C9} (h:okV x=true) (hl:x.Av.length<=200):A6o x.Av:=by
 refine ⟨hl,fun p hp=> ?_⟩;unfold okV at h;simp only [D4F,D49] at h;have hv:=(h.2.2 p hp).2;unfold H8 at hv;simp only [D4F,D4z] at hv;omega
theorem D2z {l:List B3} (h:A6o l):A7W (l.length:Int) (V9 l) (K1 l)=some (if l= [] then ⟨0,1⟩ else A4j (pD l).toNat l.length):=by
 unfold A7W;have n1:=C34 h;have n2:=B0U h.2;have n3:=A9y h.2;have n4:=C8g h;have hl:=h.1;have hs:V9 l*V9 l=(l.length:Int)*K1 l-pD l:=by unfold pD;omega
 have e1:A2 ((l.length:Int)*K1 l)=(l.length:Int)*K1 l:=by rw [B9]<;>omega
 have e2:A2 (V9 l*V9 l)=(l.length:Int)*K1 l-pD l:=by rw [hs,B9]<;>omega
 have e3:A2 ((l.length:Int)*K1 l-((l.length:Int)*K1 l-pD l))=((pD l).toNat:Int):=by rw [B9]<;>omega
 rw [e1,e2,e3]
 by_cases h0:l= []
 ·rw [if_pos h0];subst h0;have e4:P3 (([]:List B3).length:Int) 1=((1:Nat):Int):=rfl;have e5:((pD ([]:List B3)).toNat:Int)=((0:Nat):Int):=rfl;rw [e4,e5,B8z (by omega) (by omega) (by omega)]
  rfl
 ·rw [if_neg h0];have hpos:0<l.length:=List.length_pos_iff.2 h0;have e4:P3 (l.length:Int) 1=(l.length:Int):=by
   show (if (1:Int)>(l.length:Int) then 1 else (l.length:Int))=_
   rw [if_neg (by omega)]
  rw [e4,B8z (by omega) (by omega) hpos]
  rfl
theorem C4B (l:List Int) (hl:l.length<=maxLen):R6 l l=some true:=by
 unfold R6;rw [D5a,D4A];unfold Z5;have:=A1G (f:=fun s:Int=>S1 l l s) (n:=l.length) (bad:=fun _=>false) (E:=false) (A:=some true)
  (fun i hi=>by
   unfold S1;simp only [Int.ofNat_lt,hi,decide_true,D4B,M4,G7 hi,D4x,I9 hi hl,D5a,D4A])
  (by
   unfold S1;simp only [D40,decide_false,D4A])
 have hn:(List.range l.length).any (fun _=>false)=false:=by rw [List.any_eq_false];intro _ _;exact Bool.false_ne_true
 rw [hn] at this;exact this
theorem C6e (a:C5) (hl:a.Ar.length<=maxLen):A3L a a=some true:=by
 unfold A3L;simp only [beq_self_eq_true,Bool.and_self,G5];rw [C4B _ hl]
 rfl
theorem D2A (l:List B3):0<=K1 l:=by
 induction l with
 |nil=>exact Int.le_refl _
 |cons p l ih=>
  show 0<=p.V*p.V+K1 l;have:0<=p.V*p.V:=by
   rcases Int.le_total 0 p.V with h|h
   ·exact Int.mul_nonneg h h
   ·rw [<-Int.neg_mul_neg];exact Int.mul_nonneg (by omega) (by omega)
  omega
theorem D2R (x:C9) (q:Q2) (hl:x.Av.length<=200) (hA:-9223372036854775808<=q.A/\q.A<=9223372036854775807) (hB:-9223372036854775808<=q.B/\q.B<=9223372036854775807):
  ∃r,A5n x q=some r/\B2F x q=some r/\r.1.Ar.length<=2:=by
 have hm:x.Av.length<=maxLen:=by rw [G9];omega
 unfold A5n B2F;rw [B6Q,B4j x hm];simp only [D4x];cases hok:okV x with
 |false=>exact ⟨_,rfl,rfl,Nat.zero_le _⟩
 |true=>
  have hs:=D0U hok hl;have hr:A66 x.Av:=fun p hp=>by have:=hs.2 p hp;omega
  obtain ⟨lo,l1,l2,l3⟩:=C7Q x.Av hm hr;obtain ⟨hi,g1,g2,g3⟩:=C7P x.Av hm hr;have b1:=B0U hs.2;have b2:=A9y hs.2;have b3:=C8g hs;have b4:=D2A x.Av;have f1:fit (L6 x.Av-L5 x.Av)=(V9 x.Av,true):=by
   rw [C4J];unfold fit;rw [if_pos (by omega)]
  have f2:fit (K1 x.Av)=(K1 x.Av,true):=by
   unfold fit;rw [if_pos (by omega)]
  rw [l1,l2,g1,g2,D2u _ hr (by omega),C5Z _ hr (by omega),C9d _ hr (by omega),C19 _ hr (by omega),f1,f2,C3E hs,C1E,B9k _ _ (by omega)]
  simp only [if_true,D5a,D4A,D4x];rw [D2z hs];cases q.Op==1 with
  |true=>
   obtain ⟨b,w1,w2⟩:=B6V (n:=(x.Av.length:Int)) (by omega) (by omega)
   simp only [D4B];rw [show A82 x.Av=(x.Av.length:Int) from rfl,w1,w2];exact ⟨_,rfl,rfl,Nat.zero_le _⟩
  |false=>
  simp only [D4A];cases q.Op==2 with
  |true=>
   obtain ⟨b,w1,w2⟩:=B6V (n:=V9 x.Av) (by omega) (by omega)
   simp only [D4B];rw [w1,w2];exact ⟨_,rfl,rfl,Nat.zero_le _⟩
  |false=>
  simp only [D4A];cases q.Op==3 with
  |true=>
   obtain ⟨b,w1,w2⟩:=B6V (n:=K1 x.Av) (by omega) (by omega)
   simp only [D4B];rw [w1,w2];exact ⟨_,rfl,rfl,Nat.zero_le _⟩
  |false=>
  simp only [D4A];cases q.Op==4 with
  |true=>
   have hw: -9223372036854775808<=A2 (hi.1-lo.1)/\A2 (hi.1-lo.1)<=9223372036854775807:=by rw [B10];omega
   obtain ⟨b,w1,w2⟩:=B6V (n:=A2 (hi.1-lo.1)) hw.1 hw.2;simp only [D4B];rw [w1,w2];exact ⟨_,rfl,rfl,Nat.zero_le _⟩
  |false=>
  simp only [D4A];cases q.Op==5 with
  |true=>
   simp only [D4B];have hrg: ∀r:A4,r=(if x.Av= [] then ⟨0,1⟩ else A4j (pD x.Av).toNat x.Av.length)->(-9223372036854775808<=r.Bl/\r.Bl<=9223372036854775807)/\ -9223372036854775808<=r.Bh/\r.Bh<=9223372036854775807:=by
    rintro r rfl
    by_cases h0:x.Av= []
    ·rw [if_pos h0];simp only;omega
    ·rw [if_neg h0];unfold A4j;simp only;have d1:=Nat.div_le_self (pD x.Av).toNat (Nat.gcd (pD x.Av).toNat x.Av.length);have d2:=Nat.div_le_self x.Av.length (Nat.gcd (pD x.Av).toNat x.Av.length);have d3:=Int.natCast_nonneg ((pD x.Av).toNat/Nat.gcd (pD x.Av).toNat x.Av.length);have d4:=Int.natCast_nonneg (x.Av.length/Nat.gcd (pD x.Av).toNat x.Av.length);omega
   generalize (if x.Av= [] then (⟨0,1⟩:A4) else A4j (pD x.Av).toNat x.Av.length)=r at hrg
   obtain ⟨⟨r1,r2⟩,r3,r4⟩:=hrg r rfl;obtain ⟨a,y,b⟩:=A6b r1 r2 r3 r4;simp only [D4x];rw [a,b];exact ⟨_,rfl,rfl,Nat.zero_le _⟩
  |false=>
  simp only [D4A];cases q.Op==6 with
  |true=>
   simp only [D4B];cases ((x.Av.length:Int)==0) with
   |true=>exact ⟨_,rfl,rfl,Nat.zero_le _⟩
   |false=>exact ⟨_,rfl,rfl,by show 2<=2;omega⟩
  |false=>
  simp only [D4A];cases q.Op==7 with
  |true=>
   have hc:cLe (T0 x.Av) q.A<=x.Av.length:=by
    have:=C83 (T0 x.Av) q.A;rw [A1q] at this;exact this
   obtain ⟨b,w1,w2⟩:=B6V (n:=(cLe (T0 x.Av) q.A:Int)) (by omega) (by omega)
   simp only [D4B];rw [w1,w2];exact ⟨_,rfl,rfl,Nat.zero_le _⟩
  |false=>
  simp only [D4A];cases q.Op==8 with
  |true=>
   simp only [D4B];obtain ⟨e1,y,e2⟩:=B7p x.Av q.A q.B hA hB (by omega)
   have hasks:(!U7 q.A q.B)=((decide (q.B<1)||decide (q.A<0))||decide (q.A>q.B)):=by
    unfold U7;rw [D4S];simp only [D4T,D5o,D4O,D4I,D4z];omega
   rw [e1,e2,hasks];cases ((decide (q.B<1)||decide (q.A<0))||decide (q.A>q.B)) with
   |true=>exact ⟨_,rfl,rfl,Nat.zero_le _⟩
   |false=>
    simp only [D4A,D4x];cases y.2 with
    |true=>exact ⟨_,rfl,rfl,by show 1<=2;omega⟩
    |false=>exact ⟨_,rfl,rfl,Nat.zero_le _⟩
  |false=>exact ⟨_,rfl,rfl,Nat.zero_le _⟩
end Go.Win
namespace Go.Win
open Go.Vc Go.Dec
def sf (g:Nat->Nat):Nat->Nat->Nat
 |0,_=>0
 |k+1,i=>g i+sf g k (i+1)
theorem C4K {S R:Type} {f:S->Option (S⊕R)} (st:Nat->Int->S) (n:Nat) (g:Nat->Nat) (A:Int->Option R)
  (hs:∀(i:Nat) (b:Int),i<n->f (st i b)=some (.inl (st (i+1) (A2 (b+(g i:Int)))))) (hd:∀b,f (st n b)=Option.map Sum.inr (A b)):
  ∀(k i b:Nat),i+k=n->b+sf g k i<=4611686018427387904->loop f (st i (b:Int))=A ((b+sf g k i:Nat):Int):=by
 intro k
 induction k with
 |zero=>
  intro i b hi _;have:i=n:=by omega
  subst this;rw [A8y,hd];show _=A ((b+0:Nat):Int);rw [Nat.add_zero];cases A (b:Int)<;>rfl
 |succ k ih=>
  intro i b hi hb;have hb' :b+(g i+sf g k (i+1))<=4611686018427387904:=hb;have e:A2 ((b:Int)+(g i:Int))=((b+g i:Nat):Int):=by rw [B9]<;>omega
  rw [K2 (hs i _ (by omega)),e,ih (i+1) (b+g i) (by omega) (by omega)]
  show A ((b+g i+sf g k (i+1):Nat):Int)=A ((b+(g i+sf g k (i+1)):Nat):Int);rw [Nat.add_assoc]
theorem D1y {α:Type} [Inhabited α] (l:List α) (h:α->Nat): ∀(k i:Nat),i+k=l.length->sf (fun j=>h (el l j)) k i=((l.drop i).map h).sum:=by
 intro k
 induction k with
 |zero=>intro i hi;rw [List.drop_eq_nil_of_le (by omega)];rfl
 |succ k ih=>
  intro i hi;have hlt:i<l.length:=by omega
  rw [List.drop_eq_getElem_cons hlt,D5q,List.sum_cons,<-ih (i+1) (by omega),<-B1r hlt]
  rfl
theorem B4Z {α:Type} (h:α->Nat) (M:Nat): ∀l:List α,(∀x∈l,h x<=M)->(l.map h).sum<=l.length*M
 | [],_=>by simp
 |x::l,hx=>by
  have h1:=hx x (by simp)
  have h2:=B4Z h M l (fun y hy=>hx y (by simp [hy]))
  rw [D5q,List.sum_cons,D4Q,Nat.add_mul];omega
def B9w (l:List D0):Nat:=(l.map fun c=>c.Ax.length).sum
def B0r (s:C7):Nat:=s.Al.Av.length+s.As.Ac.length+s.Sum.Ac.length+s.Ao.Ay.length+s.Ap.Ay.length+s.Be.Af.length+s.Au.Bf.length+s.Ae.Av.length+s.Ag.Aq.length+s.Ab.Ah.length+s.Am.Aj.length
theorem D0z (s:C7) (w:Q9 s):B2x s=some (decide (((B0r s+B9w s.Am.Aj+A5X s.Ab.Ah:Nat):Int)<=200)):=by
 obtain ⟨_,w1,w2,w3,w4,w5,w6,w7,w8,w9,w10,w11⟩:=id w;have l1:=w1.2.2.2.1;have l2:=w2.2.2.2.2.1;have l3:=w3.2.2.2.2.2.1;have l4:=w4.2.2.2.2.2.2.1;have l5:=w5.2.2.2.2.2.1;have l6:=w6.2.2.2.1;have l7:=w7.2.1;have l8:=w8.2.2.2.2.1;have l9:=w9.1;have l10:=w10.2.2.2.1;have l11:=w11.2.2.2.2.1;have hL:B9w s.Am.Aj<=s.Am.Aj.length*1048576:=B4Z _ _ _ (fun c hc=>(w9.2 c hc).2.2.2.2.1);have hE:A5X s.Ab.Ah<=s.Ab.Ah.length*1048576:=B4Z _ _ _ (fun b hb=>(w11.2.2.2.2.2 b hb).2.2.2.2.1);have eb:A2 ((A2 ((A2 ((A2 ((A2 ((A2 ((A2 ((A2 ((A2 ((A2 ((s.Al.Av.length:Int)+(s.As.Ac.length:Int)))+(s.Sum.Ac.length:Int)))+(s.Ao.Ay.length:Int)))+(s.Ap.Ay.length:Int)))+(s.Be.Af.length:Int)))+(s.Au.Bf.length:Int)))+(s.Ae.Av.length:Int)))+(s.Ag.Aq.length:Int)))+(s.Ab.Ah.length:Int)))+(s.Am.Aj.length:Int))=((B0r s:Nat):Int):=by
  simp only [C7d];unfold B0r;rw [B9]<;>omega
 have h6: ∀b:Nat,b<=2199023255552->A7J s (b:Int) 0=some (decide (((b+A5X s.Ab.Ah:Nat):Int)<=200)):=by
  intro b hb;unfold A7J;have hsf:sf (fun j=>(el s.Ab.Ah j).Az.Ad.length) s.Ab.Ah.length 0=A5X s.Ab.Ah:=by
   rw [D1y s.Ab.Ah (fun x=>x.Az.Ad.length) s.Ab.Ah.length 0 (by omega)]
   rfl
  have:=C4K (f:=fun t:Int×Int=>A6z s t.1 t.2) (fun i b=>(b,(i:Int))) s.Ab.Ah.length (fun j=>(el s.Ab.Ah j).Az.Ad.length) (fun b=>some (decide (b<=200)))
   (fun i b hi=>by
    simp only [];unfold A6z;rw [D4C (by omega:(i:Int)<(s.Ab.Ah.length:Int)),D4B,G4 hi,D4x,N4 hi (F5 l11)])
   (fun b=>by
    simp only [];unfold A6z;rw [D4E (D40 _),D4A]) s.Ab.Ah.length 0 b (by omega) (by rw [hsf];omega)
  rw [hsf] at this;exact this
 unfold B2x B6k;rw [eb];have hsf:sf (fun j=>(el s.Am.Aj j).Ax.length) s.Am.Aj.length 0=B9w s.Am.Aj:=by
  rw [D1y s.Am.Aj (fun c=>c.Ax.length) s.Am.Aj.length 0 (by omega)]
  rfl
 have hbase:B0r s<=11*1048576:=by unfold B0r;omega
 have:=C4K (f:=fun t:Int×Int=>A6y s t.1 t.2) (fun i b=>(b,(i:Int))) s.Am.Aj.length (fun j=>(el s.Am.Aj j).Ax.length) (fun b=>A7J s b 0)
  (fun i b hi=>by
   simp only [];unfold A6y;rw [D4C (by omega:(i:Int)<(s.Am.Aj.length:Int)),D4B,G4 hi,D4x,N4 hi (F5 l9)])
  (fun b=>by
   simp only [];unfold A6y;rw [D4E (D40 _),D4A]) s.Am.Aj.length 0 (B0r s) (by omega) (by rw [hsf];omega)
 rw [hsf] at this;refine this.trans ?_;exact h6 _ (by omega)
end Go.Win
namespace Go.Win
open Go.Vc Go.Dec
theorem A9C {a b:Int} (ha:0<=a/\a<4611686018427387904) (hb:0<=b/\b<4611686018427387904):Y3 a b=some (L4 a b):=by
 obtain ⟨x,rfl⟩:=Int.eq_ofNat_of_zero_le ha.1;obtain ⟨y,rfl⟩:=Int.eq_ofNat_of_zero_le hb.1
 by_cases h:x<=y
 ·exact D1g h (by omega)
 ·unfold Y3 L4;rw [D4C (by omega)]
  rfl
theorem A8w {n:Int} (h1:-9223372036854775808<=n) (h2:n<=9223372036854775807): ∃b,Q3 (Q8 n)=some b/\P4 n=some b:=by
 obtain ⟨e1,x,e2⟩:=A6b (r:=A2G n) h1 h2 (by show (-9223372036854775808:Int)<=1;decide) (by show (1:Int)<=9223372036854775807;decide)
 refine ⟨x, ?_, ?_⟩
 ·rw [show Q8 n=A2G n from rfl,e1,e2]
 ·unfold P4;simp only [e2,D4x]
theorem C4m {l:List B7} {W K Cap Now:Int} (h:A7M l W K Cap Now) (hl:l.length<=1048576): ∃b,A3W l=some b/\A6l l=some b:=by
 unfold A3W A6l
 by_cases h0:l.length=0
 ·obtain ⟨b,e1,e2⟩:=A8w (n:=0) (by decide) (by decide)
  have c:((l.length:Int)==0)=true:=by rw [D5r];omega
  simp only [c,D4B,e1,e2,D4x];exact ⟨b,rfl,rfl⟩
 ·have c:((l.length:Int)==0)=false:=by rw [D5n];omega
  have hg:=h.2.1.2.1 0 (by omega)
  have hL:0<=(el l 0).Aw/\(el l 0).Aw<=30:=by
   unfold A2D at hg;have:=fun x=>hg (.inl x);omega
  obtain ⟨t1,t2⟩:=C8z hl;have hle:=C0V l;have hnn:=B7e l;have hb:A4F (el l 0)<=T9 l:=by
   have e:=C1K (l:=l) (i:=0) (by omega)
   rw [List.take_zero,B8D] at e;have e3:T9 l=T9 (l.take (0+1))+T9 (l.drop (0+1)):=by rw [<-B7W,List.take_append_drop]
   have:=B7e (l.drop (0+1));omega
  have hp:A4F (el l 0)=2^(el l 0).Aw.toNat:=by unfold A4F;rw [if_pos hL]
  have hpp:=Q7 (el l 0).Aw.toNat;have lv:V4 (el l 0).Aw=true:=by unfold V4;simp;omega
  simp only [c,D4A,t1,t2,D4x,A0T (show 0<l.length by omega),lv,D4B,B4D hL.1 hL.2]
  have ew:decide (0<=A7 (el l 0).Aw)=true:=by rw [D4z,M0];omega
  rw [ew,W4,W4];unfold A3F;rw [hp] at hb;have e1:A2 (A2 (T9 l-2^(el l 0).Aw.toNat)+1)=T9 l-2^(el l 0).Aw.toNat+1:=by
   rw [B9 (n:=T9 l-2^(el l 0).Aw.toNat) (by omega) (by omega),B9 (by omega) (by omega)]
  rw [e1,A9C (by omega) (by omega)]
  exact ⟨_,rfl,rfl⟩
theorem C8T (x:D6) (hl:x.Ac.length<=1048576): ∃r,B2m x=some r/\B2G x=some r:=by
 unfold B2m B2G;rw [B3K x (F5 hl),B35 x (F5 hl)];simp only [D4x]
 by_cases h:A7M x.Ac x.W x.K x.Cap x.Now
 ·obtain ⟨b,e1,e2⟩:=C4m h hl;rw [O0 h,e1,e2];exact ⟨_,rfl,rfl⟩
 ·rw [H2 h];exact ⟨_,rfl,rfl⟩
theorem D1G (x:E2) (hl:x.Ac.length<=1048576): ∃r,B7d x=some r/\B2H x=some r:=by
 unfold B7d B2H;rw [B6N x (F5 hl),B36 x (F5 hl)];simp only [D4x]
 by_cases h:C2v x
 ·obtain ⟨b,e1,e2⟩:=C4m h.1 hl;rw [O0 h,e1,e2];exact ⟨_,rfl,rfl⟩
 ·rw [H2 h];exact ⟨_,rfl,rfl⟩
theorem C9I {x:D2} (h:C39 x) {i:Nat} (hi:i<x.Ay.length):0<=P0 (el x.Ay i) x.Bg/\P0 (el x.Ay i) x.Bg<4611686018427387904:=by
 obtain ⟨ha,hp,hm,_⟩:=h;have h1:=hm.2.1 i hi;unfold B1F mk1 mk2 at h1;unfold A2F at hp;obtain ⟨g1,g2,_⟩:=h1;have hmn:=A2E (A4Q x.Bg) hm hi;have hN:1<=(el x.Ay i).N/\(el x.Ay i).N<=65536:=by omega
 have f:=(C3I ⟨by omega,hN.2⟩ hmn.2.1 hmn.2.2).1 g2.2.2.2
 have hagg:x.Bg=1\/x.Bg=2\/x.Bg=3\/x.Bg=4:=by omega
 have hmax:(el x.Ay i).N*(el x.Ay i).Bj<=65536*4096:=by
  rcases Int.le_total 0 (el x.Ay i).Bj with g|g
  ·exact Int.mul_le_mul hN.2 (by omega) g (by omega)
  ·have:=Int.mul_nonneg (a:=(el x.Ay i).N) (b:= -(el x.Ay i).Bj) (by omega) (by omega)
   rw [Int.mul_neg] at this;omega
 rw [B9C hmn.2.1 hmn.2.2];unfold N7;have hlo2:x.Bg=2->(0:Int)<=(el x.Ay i).Bk:=fun e=>by
  have g:=g2.1;rw [e] at g;exact g
 rcases hagg with e|e|e|e<;>rw [e]<;>simp
 ·omega
 ·have hlo:(0:Int)<=(el x.Ay i).Bk:=hlo2 e;have:=Int.mul_nonneg (a:=(el x.Ay i).N) (b:=(el x.Ay i).Bk) (by omega) hlo
  omega
 ·omega
 ·have e1:A7i (el x.Ay i).Bj (el x.Ay i).Bk=((el x.Ay i).Bj-(el x.Ay i).Bk,true):=by
   have g3:=B9C hmn.2.1 hmn.2.2 4;unfold A7i;have:((decide ((el x.Ay i).Bk<0)&&decide ((el x.Ay i).Bj>A2 (9223372036854775807+(el x.Ay i).Bk)))||(decide ((el x.Ay i).Bk>0)&&decide ((el x.Ay i).Bj<A2 (-9223372036854775808+(el x.Ay i).Bk))))=false:=by
    by_cases g1:(el x.Ay i).Bk<0
    ·rw [B9 (n:=9223372036854775807+(el x.Ay i).Bk) (by omega) (by omega)]
     simp;omega
    ·by_cases g2:(el x.Ay i).Bk>0
     ·rw [B9 (n:= -9223372036854775808+(el x.Ay i).Bk) (by omega) (by omega)]
      simp;omega
     ·simp;omega
   rw [this,D4A,B9]<;>omega
  rw [e1];simp;omega
theorem C3U {l:List D7} {seq cap now w lo:Int} (h:A29 l seq cap now w lo) (h0:0<l.length) (hn:¬F3 now w (el l 0).T=true):1<l.length:=by
 rcases Nat.lt_or_ge 1 l.length with g|g
 ·exact g
 ·exact absurd ((h.2.1 0 h0).2.2.1 (.inr (by omega))) hn
theorem C7t (x:D2) (hl:x.Ay.length<=1048576): ∃r,B0R x=some r/\B2I x=some r:=by
 unfold B0R B2I;rw [B2Y x (F5 hl),B38 x (F5 hl)];simp only [D4x]
 by_cases h:C39 x
 ·rw [O0 h];simp only [D5a,D4A]
  by_cases h0:x.Ay.length=0
  ·have c:((x.Ay.length:Int)==0)=true:=by rw [D5r];omega
   obtain ⟨b,e1,e2⟩:=A8w (n:=0) (by decide) (by decide)
   simp only [c,D4B,e1,e2,D4x];exact ⟨_,rfl,rfl⟩
  ·have c:((x.Ay.length:Int)==0)=false:=by rw [D5n];omega
   have g0:0<x.Ay.length:=by omega
   have r0:=A2E (A4Q x.Bg) h.2.2.1 g0;have o0:=C9I h g0;have q0:=B9C r0.2.1 r0.2.2 x.Bg;simp only [c,D4A,A0T g0,D4x,A7g,<-q0];cases hlv:F3 x.Now x.W (el x.Ay 0).T with
   |true=>
    obtain ⟨b,e1,e2⟩:=A8w (n:=P0 (el x.Ay 0) x.Bg) (by omega) (by omega)
    simp only [D4B,e1,e2,D4x];exact ⟨_,rfl,rfl⟩
   |false=>
    have g1:=C3U h.2.2.1 g0 (by rw [hlv];decide)
    have r1:=A2E (A4Q x.Bg) h.2.2.1 g1;have o1:=C9I h g1;have q1:=B9C r1.2.1 r1.2.2 x.Bg;have i1:D1 x.Ay 1=some (el x.Ay 1):=G4 g1;simp only [D4A,i1,D4x,<-q1];cases ((el x.Ay 1).Bm==A2 ((el x.Ay 0).Bm+1)) with
    |true=>
     obtain ⟨b,e1,e2⟩:=A8w (n:=P0 (el x.Ay 1) x.Bg) (by omega) (by omega)
     simp only [D4B,e1,e2,D4x];exact ⟨_,rfl,rfl⟩
    |false=>
     simp only [D4A,A9C o1 o0,D4x];exact ⟨_,rfl,rfl⟩
 ·rw [H2 h];exact ⟨_,rfl,rfl⟩
theorem C8j {d n:Nat} (hd:d<9223372036854775808) (hn:n<9223372036854775808) (h0:0<n):
  B0E (d:Int) (n:Int)=some (A4j d n,true):=by
 have gpos:0<Nat.gcd d n:=Nat.gcd_pos_of_pos_right _ h0;have q1:d/Nat.gcd d n<=d:=Nat.div_le_self _ _;have q2:n/Nat.gcd d n<=n:=Nat.div_le_self _ _;have gle:Nat.gcd d n<=n:=Nat.gcd_le_right _ h0;unfold B0E;have c1:((n:Int)==0)=false:=by rw [D5n];omega
 rw [c1,D4A];simp only;obtain ⟨s1,_,_⟩:=B6K (n:=(d:Int)) (by omega) (by omega)
 obtain ⟨s2,_,_⟩:=B6K (n:=(n:Int)) (by omega) (by omega)
 rw [s1,s2,A8n (by omega) (by omega),A8n (by omega) (by omega),if_neg (by omega),if_neg (by omega),A8T]
 obtain ⟨o1,v1⟩:=A41 (n:=(d:Int)) (by omega) (by omega)
 obtain ⟨o2,v2⟩:=A41 (n:=(n:Int)) (by omega) (by omega)
 have c2:(!(decide ((d:Int)<0)==decide ((n:Int)<0)))=false:=by
  have a1:decide ((d:Int)<0)=false:=by rw [D4O];omega
  have a2:decide ((n:Int)<0)=false:=by rw [D4O];omega
  rw [a1,a2];rfl
 rw [c2];unfold A9P;rw [C40 o1 o2,v1,v2,D5d,D5d];simp only [D4x];have og:H1 (E9 ((Nat.gcd d n:Nat):Int)):=P5 (by omega) (by omega)
 rw [B44 o1 og (by rw [L1];omega),B44 o2 og (by rw [L1];omega),L1,v1,v2]
 simp only [D4x];have f1:(d:Int)/((Nat.gcd d n:Nat):Int)=((d/Nat.gcd d n:Nat):Int):=by rw [Int.natCast_ediv]
 have f2:(n:Int)/((Nat.gcd d n:Nat):Int)=((n/Nat.gcd d n:Nat):Int):=by rw [Int.natCast_ediv]
 rw [f1,f2];unfold A4j
 generalize d/Nat.gcd d n=x at*
 generalize n/Nat.gcd d n=y at*
 unfold E9;simp only [D4K,Bool.and_true,D4A];have c3:((((((x:Int)/18446744073709551616 !=0)||((y:Int)/18446744073709551616 !=0))||decide ((y:Int)%18446744073709551616>=9223372036854775808))||decide ((x:Int)%18446744073709551616>9223372036854775808))||((x:Int)%18446744073709551616==9223372036854775808))=false:=by
  simp only [D47,bne_eq_false_iff_eq,D4O,D5n];omega
 rw [c3,D4A];have w1:A2 ((x:Int)%18446744073709551616)=(x:Int):=by rw [B9]<;>omega
 have w2:A2 ((y:Int)%18446744073709551616)=(y:Int):=by rw [B9]<;>omega
 rw [w1,w2]
 rfl
theorem B6L (m:D7): ∃r,A9w m=some r/\B1Q m=some r/\(-9223372036854775808<=r.1.Bl/\r.1.Bl<=9223372036854775807)/\(-9223372036854775808<=r.1.Bh/\r.1.Bh<=9223372036854775807):=by
 unfold A9w B1Q;rw [C4u];cases hm:Y0 m with
 |false=>exact ⟨_,rfl,rfl,by decide,by decide⟩
 |true=>
  have h:=(A2j m).1 hm;have t:=B4h h;have e:=B9Y h;have e2:A2 (A2 (m.N*m.Q)-A2 (m.S*m.S))=A05 m:=by rw [<-e];rfl
  obtain ⟨d,hd⟩:=Int.eq_ofNat_of_zero_le t.1;have hn:=h.1;obtain ⟨n,hnn⟩:=Int.eq_ofNat_of_zero_le (show 0<=m.N by omega)
  have q1:d/Nat.gcd d n<=d:=Nat.div_le_self _ _;have q2:n/Nat.gcd d n<=n:=Nat.div_le_self _ _;simp only [D4J,D4A];rw [e,e2,hd,hnn,C8j (by omega) (by omega) (by omega),B8z (by omega) (by omega) (by omega)]
  refine ⟨_,rfl,rfl, ?_, ?_⟩
  ·show (-9223372036854775808:Int)<=((d/Nat.gcd d n:Nat):Int)/\((d/Nat.gcd d n:Nat):Int)<=9223372036854775807
   generalize d/Nat.gcd d n=y at*
   omega
  ·show (-9223372036854775808:Int)<=((n/Nat.gcd d n:Nat):Int)/\((n/Nat.gcd d n:Nat):Int)<=9223372036854775807
   generalize n/Nat.gcd d n=y at*
   omega
theorem C7u (x:D3) (hl:x.Ay.length<=1048576): ∃r,B0T x=some r/\B2J x=some r:=by
 unfold B0T B2J;rw [B2Z x (F5 hl),B39 x (F5 hl)];simp only [D4x]
 by_cases h:C8b x
 ·rw [O0 h];simp only [D5a,D4A]
  by_cases h0:x.Ay.length=0
  ·have c:((x.Ay.length:Int)==0)=true:=by rw [D5r];omega
   obtain ⟨b,e1,e2⟩:=A8w (n:=0) (by decide) (by decide)
   simp only [c,D4B,e1,e2,D4x];exact ⟨_,rfl,rfl⟩
  ·have c:((x.Ay.length:Int)==0)=false:=by rw [D5n];omega
   have g0:0<x.Ay.length:=by omega
   obtain ⟨r0,a1,a2,a3,a4⟩:=B6L (el x.Ay 0);simp only [c,D4A,A0T g0,D4x,A7g,a1,a2];cases hlv:F3 x.Now x.W (el x.Ay 0).T with
   |true=>
    obtain ⟨e1,b,e2⟩:=A6b (r:=r0.1) a3.1 a3.2 a4.1 a4.2;simp only [D4B,e1,e2,D4x];exact ⟨_,rfl,rfl⟩
   |false=>
    have g1:=C3U h.2.1 g0 (by rw [hlv];decide)
    have i1:D1 x.Ay 1=some (el x.Ay 1):=G4 g1;obtain ⟨r1,b1,b2,b3,b4⟩:=B6L (el x.Ay 1);simp only [D4A,i1,D4x,b1,b2];cases ((el x.Ay 1).Bm==A2 ((el x.Ay 0).Bm+1)) with
    |true=>
     obtain ⟨e1,b,e2⟩:=A6b (r:=r1.1) b3.1 b3.2 b4.1 b4.2;simp only [D4B,e1,e2,D4x];exact ⟨_,rfl,rfl⟩
    |false=>exact ⟨_,rfl,rfl⟩
 ·rw [H2 h];exact ⟨_,rfl,rfl⟩
theorem D0s (x:D8) (hw:∀w∈x.Af,H1 w): ∃r,B4N x=some r/\B2K x=some r:=by
 unfold B4N B2K;rw [B5z x hw,B4a x hw];simp only [D4x]
 by_cases h:C8a x
 ·rw [O0 h];simp only [D5a,D4A];have h1:=h.1;obtain ⟨r,e1,e2,_⟩:=D4p (n:=A7 (A2 (A2 (x.Now-x.Bb)+1))) (k:=x.P) (D1h _) (by omega)
  rw [e1,e2,D4k (l:=x.Af) (n:=x.P) (by omega) (by omega)]
  exact ⟨_,rfl,rfl⟩
 ·rw [H2 h];exact ⟨_,rfl,rfl⟩
theorem C5f (x:C8) (hl:x.Av.length<=1048576): ∃r,A84 x=some r/\B2N x=some r:=by
 unfold A84 B2N;rw [B1x x (F5 hl),B4c x (F5 hl)];simp only [D4x];cases (vOf (C79 x) !=0) with
 |true=>exact ⟨_,rfl,rfl⟩
 |false=>
  by_cases h0:x.Av.length=0
  ·have c:((x.Av.length:Int)==0)=true:=by rw [D5r];omega
   rw [c];exact ⟨_,rfl,rfl⟩
  ·have c:((x.Av.length:Int)==0)=false:=by rw [D5n];omega
   rw [c,A0T (by omega)]
   exact ⟨_,rfl,rfl⟩
def S4 (l:List Int):Nat->Int
 |0=>0
 |i+1=>2*S4 l i+el l i
theorem C9o {x:G2} (h:C38 x): ∀i,i<=x.Bf.length->0<=S4 x.Bf i/\S4 x.Bf i<=1099511627776*(2^i-1):=by
 intro i
 induction i with
 |zero=>intro _;exact ⟨Int.le_refl _,by show (0:Int)<=_;simp⟩
 |succ i ih=>
  intro hi;have:=ih (by omega)
  have g:=(h.2 i (by omega)).1
  have e:(2:Int)^(i+1)=2*2^i:=by rw [Int.pow_succ,Int.mul_comm]
  show 0<=2*S4 x.Bf i+el x.Bf i/\2*S4 x.Bf i+el x.Bf i<=_;rw [e];omega
theorem D4q {k:Nat} (hk:k<=64):(2:Int)^k<=18446744073709551616:=by
 have:=Nat.pow_le_pow_right (n:=2) (by decide) hk
 have e:(2:Nat)^64=18446744073709551616:=by decide
 rw [show (2:Int)^k=((2^k:Nat):Int) by simp]
 omega
theorem D2g {k:Nat} (hk:k<=63):A7m (H7 1) (k:Int)=some (A2i (F1 1) k)/\A5q (F1 1) (k:Int)=some (A2i (F1 1) k):=by
 refine ⟨?_,C4o (A88 (by decide)) hk⟩
 rw [A8T];exact C1L (A88 (by decide)) hk
theorem C8U (x:G2) (hl:x.Bf.length<=1048576): ∃r,B2u x=some r/\B2M x=some r:=by
 unfold B2u B2M;rw [B3S x (F5 hl),B4b x (F5 hl)];simp only [D4x]
 by_cases h:C38 x
 ·rw [O0 h];simp only [D5a,D4A];have hn:=h.1.1;have hm:=F5 hl;have en:A2 ((x.Bf.length:Int)-1)=((x.Bf.length-1:Nat):Int):=by rw [B9]<;>omega
  obtain ⟨d1,d2⟩:=D2g (k:=x.Bf.length-1) (by omega)
  rw [en,d2];simp only [D4x];have bnd: ∀i,i<=x.Bf.length->0<=S4 x.Bf i/\S4 x.Bf i*2^(x.Bf.length-i)<340282366920938463463374607431768211456:=fun i hi=>by
   obtain ⟨b1,b2⟩:=C9o h i hi;refine ⟨b1, ?_⟩;have p1:=Q7 (x.Bf.length-i);have:=Int.mul_le_mul_of_nonneg_right b2 (Int.le_of_lt p1);have e:1099511627776*(2^i-1)*(2:Int)^(x.Bf.length-i)=1099511627776*(2^x.Bf.length-2^(x.Bf.length-i)):=by
    have e2:(2:Int)^x.Bf.length=2^i*2^(x.Bf.length-i):=by rw [<-Int.pow_add,show i+(x.Bf.length-i)=x.Bf.length by omega]
    rw [e2,Int.mul_assoc,Int.sub_mul,Int.one_mul]
   have p2:=D4q (k:=x.Bf.length) (by omega)
   omega
  have bnd0: ∀i,i<=x.Bf.length->S4 x.Bf i<340282366920938463463374607431768211456:=fun i hi=>by
   obtain ⟨b1,b2⟩:=bnd i hi;have p1:=Q7 (x.Bf.length-i);have:=Int.mul_le_mul_of_nonneg_left (show (1:Int)<=2^(x.Bf.length-i) by omega) b1
   omega
  refine ⟨(⟨E9 (S4 x.Bf x.Bf.length),(A2i (F1 1) (x.Bf.length-1)).1⟩,0), ?_, ?_⟩
  ·unfold B6d;have:=(X9 (f:=fun s:Int×Int×Int=>A6x x s.1 s.2.1 s.2.2) (fun i=>((i:Int),(E9 (S4 x.Bf i)).Hi,(E9 (S4 x.Bf i)).Lo)) 0 x.Bf.length (Nat.zero_le _) (fun _=>False) (⟨⟨0,0⟩,⟨0,0⟩⟩,0) (some (⟨E9 (S4 x.Bf x.Bf.length),(A2i (F1 1) (x.Bf.length-1)).1⟩,0))
    (fun i _ hi _=>⟨fun h=>h.elim,fun _=>by
     have g:=(h.2 i hi).1;have b0:=bnd i (by omega)
     have b1:=bnd0 i (by omega)
     have b2:=bnd (i+1) (by omega)
     have b3:=bnd0 (i+1) (by omega)
     have es:S4 x.Bf (i+1)=2*S4 x.Bf i+el x.Bf i:=rfl;have e1:(⟨(E9 (S4 x.Bf i)).Hi,(E9 (S4 x.Bf i)).Lo⟩:A1)=E9 (S4 x.Bf i):=rfl;have ok:=P5 b0.1 b1;have hl1:=C1L ok (k:=1) (by omega)
     rw [show ((1:Nat):Int)=1 from rfl] at hl1;have hv:A2i (E9 (S4 x.Bf i)) 1=(E9 (S4 x.Bf i*2),true):=by
      unfold A2i;rw [L1,if_pos (by omega)]
      rfl
     obtain ⟨oo,vv⟩:=A41 (n:=el x.Bf i) (by omega) (by omega)
     simp only [];unfold A6x;rw [D4C (by omega),D4B,G4 hi,D4x,e1,hl1,D4x,hv]
     simp only [A8T];rw [A1j (by omega) (by omega),A47 (P5 (by omega) (by omega)) oo,L1,vv,if_pos (by omega),D4x,N4 hi hm,es,Int.mul_comm]⟩)
    (fun _=>by
     simp only [];unfold A6x;rw [D4E (by omega),D4A,en]
     simp only [d1]
     rfl)).2 (fun _ _ _ h=>h)
   exact this
  ·unfold B6B;have:=(X9 (f:=fun s:Int×Int×Int=>A6I x (A2i (F1 1) (x.Bf.length-1)) s.1 s.2.1 s.2.2) (fun i=>((i:Int),(E9 (S4 x.Bf i*2^(x.Bf.length-i))).Hi,(E9 (S4 x.Bf i*2^(x.Bf.length-i))).Lo)) 0 x.Bf.length (Nat.zero_le _) (fun _=>False) (⟨⟨0,0⟩,⟨0,0⟩⟩,0) (some (⟨E9 (S4 x.Bf x.Bf.length),(A2i (F1 1) (x.Bf.length-1)).1⟩,0))
    (fun i _ hi _=>⟨fun h=>h.elim,fun _=>by
     have g:=(h.2 i hi).1;have b0:=bnd i (by omega)
     have b2:=bnd (i+1) (by omega)
     have p1:=Q7 (x.Bf.length-i);have p2:=Q7 (x.Bf.length-1-i);have es:S4 x.Bf (i+1)=2*S4 x.Bf i+el x.Bf i:=rfl;have e1:(⟨(E9 (S4 x.Bf i*2^(x.Bf.length-i))).Hi,(E9 (S4 x.Bf i*2^(x.Bf.length-i))).Lo⟩:A1)=E9 (S4 x.Bf i*2^(x.Bf.length-i)):=rfl;have n0:0<=S4 x.Bf i*2^(x.Bf.length-i):=Int.mul_nonneg b0.1 (Int.le_of_lt p1);have ok:=P5 n0 b0.2;obtain ⟨oo,vv⟩:=A41 (n:=el x.Bf i) (by omega) (by omega)
     have ek:A2 (((x.Bf.length-1:Nat):Int)-(i:Int))=((x.Bf.length-1-i:Nat):Int):=by rw [B9]<;>omega
     have e2:(2:Int)^(x.Bf.length-i)=2*2^(x.Bf.length-1-i):=by
      rw [show x.Bf.length-i=x.Bf.length-1-i+1 by omega,Int.pow_succ,Int.mul_comm]
     have e3:x.Bf.length-(i+1)=x.Bf.length-1-i:=by omega
     have e4:S4 x.Bf (i+1)*2^(x.Bf.length-(i+1))=S4 x.Bf i*2^(x.Bf.length-i)+el x.Bf i*2^(x.Bf.length-1-i):=by
      rw [es,e3,e2,Int.add_mul,Int.mul_comm 2 (S4 x.Bf i),Int.mul_assoc]
     have n1:0<=el x.Bf i*2^(x.Bf.length-1-i):=Int.mul_nonneg g.1 (Int.le_of_lt p2);have hv:A2i (F1 (el x.Bf i)) (x.Bf.length-1-i)=(E9 (el x.Bf i*2^(x.Bf.length-1-i)),true):=by
      unfold A2i;rw [vv,if_pos (by omega)]
     simp only [];unfold A6I;rw [D4C (by omega),D4B,G4 hi,D4x,A1j (by omega) (by omega),en,ek]
     simp only [];rw [C4o oo (by omega),D4x,hv,e1,B1W]
     simp only [];rw [A47 ok (P5 n1 (by omega)),L1,L1,if_pos (by omega),D4x,N4 hi hm,e4]⟩)
    (fun _=>by
     simp only [];unfold A6I;rw [D4E (by omega),D4A,Nat.sub_self,Int.pow_zero,Int.mul_one])).2 (fun _ _ _ h=>h)
   have e0:S4 x.Bf 0*2^(x.Bf.length-0)=0:=by show (0:Int)*_=0;rw [Int.zero_mul]
   simp only [e0] at this;exact this
 ·rw [H2 h];exact ⟨_,rfl,rfl⟩
end Go.Win
namespace Go.Win
open Go.Vc Go.Dec
def B8n (x:B5) (i:Nat):A6:=⟨(el x.Aq i).V,O4 x.Aq (i+1),O4 x.Aq (i+1)+(el x.Aq i).D⟩
def U8 (x:B5) (n:Nat):List A6:=(List.range n).map (B8n x)
theorem B2p (x:B5) (n:Nat):(U8 x n).length=n:=by simp [U8]
theorem A9n (x:B5) {n i:Nat} (h:i<n):E0 (U8 x n) i=B8n x i:=by
 unfold E0 U8;rw [D5t,D46,List.getElem?_range h]
 rfl
theorem B9i (x:B5) (n:Nat):U8 x (n+1)=U8 x n++ [B8n x n]:=by
 unfold U8;rw [List.range_succ,D5w]
 rfl
theorem B9U {x:B5} (h:A9M x):x.Aq.length<=65536:=by
 have:=h.1;unfold A6d at this;omega
theorem C4H {x:B5} (h:A9M x): ∀i,i<=x.Aq.length->(i:Int)<=O4 x.Aq i/\O4 x.Aq i<=72057594037927936:=by
 intro i hi;have hh:=h.1;unfold A6d at hh;have hl:=B9U h;have hM:=B2y hh.2.2.1 hh.1.1;obtain ⟨a,b⟩:=B8B hM.2.1 hl i hi (fun j hj=>h.2.2.1 j (by omega))
 refine ⟨a, ?_⟩;omega
theorem D3I {x:B5} (h:A9M x) {i:Nat} (hi:i<x.Aq.length):1<=(el x.Aq i).G/\0<=(el x.Aq i).D/\(el x.Aq i).G+(el x.Aq i).D<=1099511627776:=by
 have hh:=h.1;unfold A6d at hh;have hM:=B2y hh.2.2.1 hh.1.1;have:=(h.2.2.1 i hi).2.1;omega
theorem B8o {x:B5} (h:A9M x) {i:Nat} (hi:i<x.Aq.length):1<=(B8n x i).Bk/\(B8n x i).Bk<=(B8n x i).Bj/\(B8n x i).Bj<=144115188075855872:=by
 have a:=C4H h (i+1) (by omega)
 have d:=D3I h hi;show 1<=O4 x.Aq (i+1)/\O4 x.Aq (i+1)<=O4 x.Aq (i+1)+(el x.Aq i).D/\O4 x.Aq (i+1)+(el x.Aq i).D<=144115188075855872;omega
theorem C3D {x:B5} (h:A9M x) {i:Nat} (hi:i<x.Aq.length):
  A2 (O4 x.Aq i+(el x.Aq i).G)=O4 x.Aq (i+1)/\A2 (O4 x.Aq (i+1)+(el x.Aq i).D)=O4 x.Aq (i+1)+(el x.Aq i).D:=by
 have a:=C4H h (i+1) (by omega)
 have a0:=C4H h i (by omega)
 have d:=D3I h hi;have e:=A9A hi;rw [e];rw [e] at a;refine ⟨?_, ?_⟩<;>rw [B9]<;>omega
theorem B9h {x:B5} (h:A9M x):A2A x=some (U8 x x.Aq.length)/\X2 x=some (U8 x x.Aq.length,0):=by
 have hl:=B9U h;have hm:x.Aq.length<=maxLen:=F5 (by omega)
 constructor
 ·unfold A2A A9B;exact (X9 (f:=fun s:(List A6)×Int×Int=>A0m x s.1 s.2.1 s.2.2) (fun i=>(U8 x i,O4 x.Aq i,(i:Int))) 0 x.Aq.length (Nat.zero_le _) (fun _=>False) [] (some (U8 x x.Aq.length))
   (fun i _ hi _=>⟨fun h=>h.elim,fun _=>by
    obtain ⟨e1,e2⟩:=C3D h hi;simp only [];unfold A0m;rw [D4C (by omega),D4B,G4 hi,D4x,e1,e2,C3v (by rw [B2p];simp only [D4Q,D43];omega),N4 hi hm,B9i]
    rfl⟩)
   (fun _=>by
    simp only [];unfold A0m;rw [D4E (by omega),D4A])).2 (fun _ _ _ h=>h)
 ·unfold X2;rw [A5G,O0 h];simp only [D4x,D5a,D4A];unfold B1S;exact (X9 (f:=fun s:(List A6)×Int×Int=>A1b x s.1 s.2.1 s.2.2) (fun i=>(U8 x i,O4 x.Aq i,(i:Int))) 0 x.Aq.length (Nat.zero_le _) (fun _=>False) ([],0) (some (U8 x x.Aq.length,0))
   (fun i _ hi _=>⟨fun h=>h.elim,fun _=>by
    obtain ⟨e1,e2⟩:=C3D h hi;simp only [];unfold A1b;rw [D4C (by omega),D4B,G4 hi,D4x,e1,e2,C3v (by rw [B2p];simp only [D4Q,D43];omega),N4 hi hm,B9i]
    rfl⟩)
   (fun _=>by
    simp only [];unfold A1b;rw [D4E (by omega),D4A])).2 (fun _ _ _ h=>h)
theorem C4G {x:B5} {E:List A6} (v:Int) (hl:E.length<=1048576) (hr:∀i,i<E.length->1<=(E0 E i).Bj/\(E0 E i).Bj<=144115188075855872) {m:Nat} (h1:m<=E.length) (h2:∀i,i<m->(E0 E i).V<=v) (h3:∀i,m<=i->i<E.length->v<(E0 E i).V):
  A75 x v E 0 0=some ((L4 (J7 E m) (J0 E x.N m)).1,0):=by
 have hm:E.length<=maxLen:=F5 hl;unfold A75;obtain ⟨y,hx,hQ⟩:=J4 (f:=fun s:Int×Int=>A68 x v E s.1 s.2)
  (fun s=> ∃i:Nat,i<=m/\s=(J7 E i,(i:Int)))
  (fun s=>E.length-s.2.toNat) (fun y=>y=((L4 (J7 E m) (J0 E x.N m)).1,0)) (0,0) ⟨0,Nat.zero_le _,rfl⟩ (by
   rintro _ ⟨i,hi,rfl⟩;simp only;unfold A68
   by_cases hlt:i<E.length
   ·simp only [Int.ofNat_lt,hlt,decide_true,D4B,L9 hlt,D4x,I9 hlt hm]
    by_cases him:i<m
    ·left;rw [D4E (by have:=h2 i him;omega),D4A]
     refine ⟨_,rfl,⟨i+1,him, ?_⟩,by show E.length-((i:Int)+1).toNat<E.length-(i:Int).toNat;omega⟩
     unfold J7;rw [if_neg (by omega),D5e]
     rfl
    ·right;have:i=m:=by omega
     subst this;rw [D4C (by have:=h3 i (D5f _) hlt;omega),D4B]
     have hr:=hr i hlt;refine ⟨_,rfl, ?_⟩;unfold J0;rw [if_pos hlt,B9 (by omega) (by omega)]
   ·right;have:i=m:=by omega
    subst this;rw [D4E (by omega),D4A]
    refine ⟨_,rfl, ?_⟩;unfold J0;rw [if_neg hlt])
 rw [hx,hQ]
theorem C2i {E:List A6} {N:Int} (v lo:Int) (hl:E.length<=1048576) (hr:∀i,i<E.length->1<=(E0 E i).Bj/\(E0 E i).Bj<=144115188075855872) {m:Nat} (h1:m<=E.length) (h2:∀i,i<m->(E0 E i).V<=v) (h3:∀i,m<=i->i<E.length->v<(E0 E i).V):
  A1L E v lo N ((E.length:Int)-1)=some (lo,J0 E N m):=by
 unfold A1L;obtain ⟨x,hx,hQ⟩:=J4 (f:=fun s:Int×Int=>A1a E v lo s.1 s.2)
  (fun s=> ∃k:Nat,k<=E.length/\s=((if k<=m then J0 E N m else J0 E N k),(k:Int)-1))
  (fun s=>(s.2+1).toNat) (fun x=>x=(lo,J0 E N m)) (N,(E.length:Int)-1) ⟨E.length,D5f _,by
   have:J0 E N E.length=N:=by unfold J0;rw [if_neg (by omega)]
   rw [this]
   by_cases hle:E.length<=m
   ·have:m=E.length:=by omega
    subst this;rw [if_pos hle,this]
   ·rw [if_neg hle]⟩ (by
   rintro _ ⟨k,hk,rfl⟩;simp only;unfold A1a;cases k with
   |zero=>
    right;rw [D4E (by omega),D4A,if_pos (Nat.zero_le _)]
    exact ⟨_,rfl,rfl⟩
   |succ k=>
    left;have hlt:k<E.length:=by omega
    have e1:((k+1:Nat):Int)-1=(k:Int):=by omega
    have e2:A2 ((k:Int)-1)=(k:Int)-1:=by rw [B9]<;>omega
    rw [e1,D4C (by omega:(k:Int)>=0),D4B,L9 hlt,e2]
    simp only [D4x]
    by_cases hkm:k<m
    ·rw [D4E (by have:=h2 k hkm;omega),D4A,if_pos (by omega)]
     exact ⟨_,rfl,⟨k,by omega,by rw [if_pos (by omega)]⟩,by show ((k:Int)-1+1).toNat<((k:Int)+1).toNat;omega⟩
    ·rw [D4C (by have:=h3 k (by omega) hlt;omega),D4B]
     have hr:=hr k hlt;rw [B9 (by omega) (by omega)]
     refine ⟨_,rfl,⟨k,by omega, ?_⟩,by show ((k:Int)-1+1).toNat<((k:Int)+1).toNat;omega⟩
     have hh:J0 E N k=(E0 E k).Bj-1:=by unfold J0;rw [if_pos hlt]
     by_cases hle:k<=m
     ·have:k=m:=by omega
      subst this;rw [if_pos hle,hh]
     ·rw [if_neg hle,hh])
 rw [hx,hQ]
theorem C8x {E:List A6} {N:Int} (v:Int) (hl:E.length<=1048576) (hr:∀i,i<E.length->1<=(E0 E i).Bj/\(E0 E i).Bj<=144115188075855872) {m:Nat} (h1:m<=E.length) (h2:∀i,i<m->(E0 E i).V<=v) (h3:∀i,m<=i->i<E.length->v<(E0 E i).V):
  A04 E N v=some (J7 E m,J0 E N m):=by
 have hm:E.length<=maxLen:=F5 hl;unfold A04 A64;obtain ⟨x,hx,hQ⟩:=J4 (f:=fun s:Int×Int=>A09 E N v s.1 s.2)
  (fun s=> ∃i:Nat,i<=E.length/\s=((if i<=m then J7 E i else J7 E m),(i:Int)))
  (fun s=>E.length-s.2.toNat) (fun x=>x=(J7 E m,J0 E N m)) (0,0) ⟨0,Nat.zero_le _,by rw [if_pos (Nat.zero_le _)];rfl⟩ (by
   rintro _ ⟨i,hi,rfl⟩;simp only;unfold A09
   by_cases hlt:i<E.length
   ·left;simp only [Int.ofNat_lt,hlt,decide_true,D4B,L9 hlt,D4x,I9 hlt hm]
    by_cases him:i<m
    ·rw [D4C (h2 i him),D4B];refine ⟨_,rfl,⟨i+1,hlt, ?_⟩,by show E.length-((i:Int)+1).toNat<E.length-(i:Int).toNat;omega⟩
     rw [if_pos (by omega)]
     unfold J7;rw [if_neg (by omega),D5e]
     rfl
    ·rw [D4E (by have:=h3 i (by omega) hlt;omega),D4A]
     refine ⟨_,rfl,⟨i+1,hlt, ?_⟩,by show E.length-((i:Int)+1).toNat<E.length-(i:Int).toNat;omega⟩
     by_cases hle:i<=m
     ·have:i=m:=by omega
      subst this;rw [if_pos (D5f _),if_neg (by omega: ¬i+1<=i)]
      rfl
     ·rw [if_neg hle,if_neg (by omega: ¬i+1<=m)]
      rfl
   ·right;have:i=E.length:=by omega
    subst this;have e1:A2 ((E.length:Int)-1)=(E.length:Int)-1:=by rw [B9]<;>omega
    rw [D4E (by omega),D4A,e1,C2i v _ hl hr h1 h2 h3]
    refine ⟨_,rfl, ?_⟩
    by_cases hle:E.length<=m
    ·have:E.length=m:=by omega
     rw [if_pos hle,this]
    ·rw [if_neg hle])
 rw [hx,hQ]
theorem D2B {x:B5} (h:A9M x): ∀i j,i<j->j<x.Aq.length->(el x.Aq i).V<=(el x.Aq j).V:=by
 intro i j hij hj;have step: ∀i,i+1<x.Aq.length->(el x.Aq i).V<=(el x.Aq (i+1)).V:=fun i hi=>(h.2.2.1 (i+1) hi).2.2 (by omega)
 have key: ∀d i,i+d<x.Aq.length->(el x.Aq i).V<=(el x.Aq (i+d)).V:=by
  intro d
  induction d with
  |zero=>intro i _;exact Int.le_refl _
  |succ d ih=>
   intro i hi;have g1:=ih i (by omega)
   have g2:=step (i+d) (by omega)
   rw [show i+(d+1)=i+d+1 by omega]
   omega
 have:=key (j-i) i (by omega)
 rw [show i+(j-i)=j by omega] at this
 exact this
theorem C8W (x:B5) (v:Int): ∃r,A73 x v=some r/\B0I x v=some r:=by
 unfold A73 B0I
 by_cases h:A9M x
 ·obtain ⟨e1,e2⟩:=B9h h;rw [A1N,O0 h,e1,e2];simp only [D4x,D5a,D4A];have hl:=B9U h;obtain ⟨m,m1,m2,m3⟩:=D2X (D2B h) v;have len:=B2p x x.Aq.length;have hr: ∀i,i<(U8 x x.Aq.length).length->1<=(E0 (U8 x x.Aq.length) i).Bj/\(E0 (U8 x x.Aq.length) i).Bj<=144115188075855872:=fun i hi=>by
   rw [len] at hi;rw [A9n x hi];have:=B8o h hi;omega
  have q2: ∀i,i<m->(E0 (U8 x x.Aq.length) i).V<=v:=fun i hi=>by
   rw [A9n x (by omega)]
   exact m2 i hi
  have q3: ∀i,m<=i->i<(U8 x x.Aq.length).length->v<(E0 (U8 x x.Aq.length) i).V:=fun i hi hj=>by
   rw [len] at hj;rw [A9n x hj];exact m3 i hi hj
  rw [C4G v (by omega) hr (by omega) q2 q3,C8x v (by omega) hr (by omega) q2 q3]
  simp only [D4x];have hN:=h.1.2.2.1;have b1:0<=J7 (U8 x x.Aq.length) m/\J7 (U8 x x.Aq.length) m<4611686018427387904:=by
   unfold J7;split
   ·decide
   ·rw [A9n x (by omega)]
    have:=B8o h (i:=m-1) (by omega)
    omega
  have b2:0<=J0 (U8 x x.Aq.length) x.N m/\J0 (U8 x x.Aq.length) x.N m<4611686018427387904:=by
   unfold J0;split
   ·rename_i hh;have:=hr m hh;omega
   ·omega
  rw [A9C b1 b2];exact ⟨_,rfl,rfl⟩
 ·have e2:X2 x=some ([],2):=by
   unfold X2;rw [A5G,H2 h]
   rfl
  rw [A1N,H2 h,e2];exact ⟨_,rfl,rfl⟩
def frE (E:List A6) (t:Int) (i:Nat):Int:=P3 (A2 (t-(E0 E i).Bk)) (A2 ((E0 E i).Bj-t))
def A1A (E:List A6) (t:Int):Nat->Nat
 |0=>0
 |i+1=>if frE E t i<frE E t (A1A E t i) then i else A1A E t i
theorem bstE_t {E:List A6} {t:Int} {i:Nat} (h:frE E t i<frE E t (A1A E t i)):A1A E t (i+1)=i:=if_pos h
theorem bstE_f {E:List A6} {t:Int} {i:Nat} (h:¬frE E t i<frE E t (A1A E t i)):A1A E t (i+1)=A1A E t i:=if_neg h
theorem C0d {E:List A6} {t:Int} (h0:0<E.length): ∀i,i<=E.length->A1A E t i<E.length:=by
 intro i
 induction i with
 |zero=>intro _;exact h0
 |succ i ih=>
  intro hi;unfold A1A;split
  ·omega
  ·exact ih (by omega)
theorem D20 {E:List A6} {t:Int} (ht:0<=t/\t<=144115188075855872) {i:Nat} (h:1<=(E0 E i).Bk/\(E0 E i).Bk<=(E0 E i).Bj/\(E0 E i).Bj<=144115188075855872):0<=frE E t i:=by
 unfold frE;rw [B9 (by omega) (by omega),B9 (by omega) (by omega)]
 have:=C6U (t-(E0 E i).Bk) ((E0 E i).Bj-t);omega
theorem D12 {E:List A6} {t:Int} (hl:E.length<=1048576) (h0:0<E.length):A3B E t=some ((A1A E t E.length:Nat):Int):=by
 have hm:=F5 hl;unfold A3B B1T;exact (X9 (f:=fun s:Int×Int=>A12 E t s.1 s.2) (fun i=>(((A1A E t i:Nat):Int),(i:Int))) 0 E.length (Nat.zero_le _) (fun _=>False) 0 (some ((A1A E t E.length:Nat):Int))
  (fun i _ hi _=>⟨fun h=>h.elim,fun _=>by
   have hb:=C0d (t:=t) h0 i (by omega)
   simp only [];unfold A12;rw [D4C (by omega),D4B,L9 hi,L9 hb]
   simp only [D4x];rw [N4 hi hm]
   by_cases hc:frE E t i<frE E t (A1A E t i)
   ·have hc' :=hc;unfold frE at hc';rw [D4C hc',D4B,bstE_t hc]
   ·have hc' :=hc;unfold frE at hc';rw [D4E hc',D4A,bstE_f hc]⟩)
  (fun _=>by
   simp only [];unfold A12;rw [D4E (by omega),D4A])).2 (fun _ _ _ h=>h)
theorem C91 {E:List A6} {t:Int} (ht:0<=t/\t<=144115188075855872) (hl:E.length<=1048576) (h0:0<E.length) (hr:∀i,i<E.length->1<=(E0 E i).Bk/\(E0 E i).Bk<=(E0 E i).Bj/\(E0 E i).Bj<=144115188075855872):
  A4u t E (-1) 0 0=some ((E0 E (A1A E t E.length)).V,0):=by
 have hm:=F5 hl;unfold A4u;have:=(X9 (f:=fun s:Int×Int×Int=>A1h t E s.1 s.2.1 s.2.2) (fun i=>(if i=0 then-1 else frE E t (A1A E t i),if i=0 then 0 else (E0 E (A1A E t i)).V,(i:Int))) 0 E.length (Nat.zero_le _) (fun _=>False) (0,0) (some ((E0 E (A1A E t E.length)).V,0))
  (fun i _ hi _=>⟨fun h=>h.elim,fun _=>by
   have hb:=C0d (t:=t) h0 i (by omega)
   have hnn:=D20 ht (hr _ hb);simp only [];unfold A1h;rw [D4C (show (i:Int)<(E.length:Int) by omega),D4B,L9 hi]
   simp only [D4x];rw [N4 hi hm];have ef:P3 (A2 (t-(E0 E i).Bk)) (A2 ((E0 E i).Bj-t))=frE E t i:=rfl;rw [ef,if_neg (Nat.succ_ne_zero i),if_neg (Nat.succ_ne_zero i)]
   by_cases hz:i=0
   ·subst hz;rw [if_pos rfl];have e0:A1A E t (0+1)=0:=by
     unfold A1A;split
     ·rfl
     ·rfl
    rw [e0]
    rfl
   ·rw [if_neg hz,if_neg hz,D4E (show¬frE E t (A1A E t i)<0 by omega),D4Y]
    by_cases hc:frE E t i<frE E t (A1A E t i)
    ·rw [D4C hc,D4B];rw [bstE_t hc]
    ·rw [D4E hc,D4A];rw [bstE_f hc]⟩)
  (fun _=>by
   simp only [];unfold A1h;rw [D4E (by omega),D4A,if_neg (by omega)])).2 (fun _ _ _ h=>h)
 exact this
theorem C6h {p q n:Int} (hp:0<=p) (hpq:p<=q) (hq:1<=q) (hq2:q<=9223372036854775807) (hn:1<=n) (hn2:n<=1099511627776):
  ∃t,A5S n p q=some t/\A0D p q n=some t/\0<=t/\t<=1099511627777:=by
 obtain ⟨lo,rem,d1,d2,_,_,l0,l1,l2,r0,r1⟩:=B6O hp hpq hq hq2 hn hn2;unfold A5S A0D;simp only [d1,d2,D4x];have w1:A2 lo=lo:=by rw [B9]<;>omega
 have w2:A2 (A7 (lo+1))=lo+1:=by rw [A1j (by omega) (by omega),B9]<;>omega
 have w3:A2 (lo+1)=lo+1:=by rw [B9]<;>omega
 have im: ∀a:Int,0<=a->a<=1099511627777->0<=P3 1 a/\P3 1 a<=1099511627777:=fun a h1 h2=>by rw [A61];split<;>omega
 cases (!((E9 rem).Hi==0&&((E9 rem).Lo==0&&true))) with
 |true=>
  rw [D4B,D4B,w2,w1,w3];exact ⟨_,rfl,rfl,im _ (by omega) (by omega)⟩
 |false=>
  rw [D4A,D4A,w1];exact ⟨_,rfl,rfl,im _ (by omega) (by omega)⟩
theorem C6p (p q:Int):(!U7 p q)=((decide (q<1)||decide (p<0))||decide (p>q)):=by
 unfold U7;rw [D4S];simp only [D4T,D5o,D4O,D4I,D4z];omega
theorem C7v (x:B5) (p q:Int) (hp:-9223372036854775808<=p/\p<=9223372036854775807) (hq:-9223372036854775808<=q/\q<=9223372036854775807): ∃r,A3Q x p q=some r/\A5E x p q=some r:=by
 unfold A3Q A5E
 by_cases h:A9M x
 ·obtain ⟨e1,e2⟩:=B9h h;rw [A1N,O0 h,e1,e2];simp only [D4x,D5a,D4A];rw [C6p];cases hc:((decide (q<1)||decide (p<0))||decide (p>q)) with
  |true=>exact ⟨_,rfl,rfl⟩
  |false=>
   simp only [D47,D4O] at hc;simp only [D4A];cases hN:x.N==0 with
   |true=>exact ⟨_,rfl,rfl⟩
   |false=>
    rw [D5n] at hN;have hn:=h.1.2.2.1;obtain ⟨t,t1,t2,t3,t4⟩:=C6h (p:=p) (q:=q) (n:=x.N) (by omega) (by omega) (by omega) (by omega) (by omega) (by omega)
    have hl:=B9U h;have len:=B2p x x.Aq.length;have h0:0<x.Aq.length:=by
     rcases Nat.eq_zero_or_pos x.Aq.length with g|g
     ·exact absurd (h.2.1.1 g) hN
     ·exact g
    have hr: ∀i,i<(U8 x x.Aq.length).length->1<=(E0 (U8 x x.Aq.length) i).Bk/\(E0 (U8 x x.Aq.length) i).Bk<=(E0 (U8 x x.Aq.length) i).Bj/\(E0 (U8 x x.Aq.length) i).Bj<=144115188075855872:=fun i hi=>by
     rw [len] at hi;rw [A9n x hi];exact B8o h hi
    simp only [D4A,t1,t2,D4x];rw [C91 (by omega) (by omega) (by omega) hr,D12 (by omega) (by omega),D4x,L9 (C0d (by omega) _ (D5f _)),D4x]
    exact ⟨_,rfl,rfl⟩
 ·have e2:X2 x=some ([],2):=by
   unfold X2;rw [A5G,H2 h]
   rfl
  rw [A1N,H2 h,e2];exact ⟨_,rfl,rfl⟩
end Go.Win
namespace Go.Win
open Go.Vc Go.Dec
def B4Y (L:List D5):Int:=(L.map fun b=>b.Az.N).sum
theorem B22 (b:D5) (L:List D5):B4Y (b::L)=b.Az.N+B4Y L:=by simp [B4Y]
def Mgs (r:B6) (L:List D5):Prop:=OkR r.Ad r.N/\(∀b∈L,OkR b.Az.Ad b.Az.N)/\r.N+B4Y L<=1099511627776/\r.Ad.length+A5X L<=1000
noncomputable def srF (r:B6):List D5->B6
 | []=>r
 |b::L=>srF (A33 r b.Az).1 L
theorem D2C {L:List D5} (h:∀b∈L,OkR b.Az.Ad b.Az.N):0<=B4Y L:=by
 induction L with
 |nil=>exact Int.le_refl 0
 |cons b L ih=>
  rw [B22];have h1:=(h b (by simp)).n0
  have h2:=ih fun y hy=>h y (by simp [hy])
  omega
theorem B8v {r:B6} {b:D5} {L:List D5} (h:Mgs r (b::L)): ∃q,A33 r b.Az=(q,0)/\Mgs q L/\r.N<=q.N/\A7Q r b.Az=some (q,0)/\A4l r b.Az=some (q,0):=by
 obtain ⟨h1,h2,h3,h4⟩:=h;have hb:=h2 b (by simp)
 have hn:=D2C fun y hy=>h2 y (List.mem_cons_of_mem b hy);rw [B22] at h3;rw [C1c] at h4;have b0:=hb.n0;have e:A33 r b.Az=(⟨r.N+b.Az.N,meL r.Ad b.Az.Ad r.N b.Az.N (r.Ad.length+b.Az.Ad.length)⟩,0):=by
  unfold A33;rw [(A0a r).2 h1,(A0a b.Az).2 hb,D4E (by omega)]
  rfl
 refine ⟨_,e,⟨D0J h1 hb (by omega),fun y hy=>h2 y (List.mem_cons_of_mem b hy), ?_, ?_⟩, ?_, ?_, ?_⟩
 ·show r.N+b.Az.N+B4Y L<=_;omega
 ·show (meL _ _ _ _ _).length+A5X L<=1000;rw [M5];omega
 ·show r.N<=r.N+b.Az.N;omega
 ·rw [C8h _ _ (by omega) (by omega),e]
 ·rw [C1D _ _ (by omega) (by omega),e]
theorem C97: ∀ {L:List D5} {r:B6},Mgs r L->OkR (srF r L).Ad (srF r L).N/\(srF r L).Ad.length<=1000/\r.N<=(srF r L).N
 | [],r,h=>⟨h.1,(by have:=h.2.2.2;show r.Ad.length<=1000;omega),Int.le_refl _⟩
 |b::L,r,h=>by
  obtain ⟨q,e,hq,hn,_⟩:=B8v h;obtain ⟨a,b2,c⟩:=C97 hq;have es:srF r (b::L)=srF q L:=by show srF (A33 r b.Az).1 L=_;rw [e]
  rw [es];exact ⟨a,b2,by omega⟩
theorem C0x {α:Type} [Inhabited α] {l:List α} {i:Nat} (h:i<l.length):l.drop i=el l i::l.drop (i+1):=by
 rw [List.drop_eq_getElem_cons h,B1r h]
theorem C98 (p:List D5) (hl:(p.drop 1).length<=1048576): ∀(k i:Nat) (r:B6),i+k=(p.drop 1).length->Mgs r ((p.drop 1).drop i)->A49 p (i:Int) r.N r.Ad=some (srF r ((p.drop 1).drop i),0):=by
 have hm:=F5 hl;intro k
 induction k with
 |zero=>
  intro i r hi _;have hi:i=(p.drop 1).length:=by omega
  unfold A49;rw [K9 (r:=(r,0))]
  ·rw [hi,List.drop_length]
   rfl
  ·simp only [];unfold A7r;rw [show ((1:Int)).toNat=1 from rfl,D4E (by omega),D4A]
   rfl
 |succ k ih=>
  intro i r hi h;have hlt:i<(p.drop 1).length:=by omega
  rw [C0x hlt] at h⊢;obtain ⟨q,e,hq,_,e1,_⟩:=B8v h;have:=ih (i+1) q (by omega) hq
  unfold A49 at this⊢;rw [K2 (s' :=(((i+1:Nat):Int),q.N,q.Ad))]
  ·rw [this];show some (srF q _,0)=some (srF (A33 r (el (p.drop 1) i).Az).1 _,0);rw [e]
  ·simp only [];unfold A7r;rw [show ((1:Int)).toNat=1 from rfl,D4C (by omega),D4B,G4 hlt,D4x,show (⟨r.N,r.Ad⟩:B6)=r from rfl,e1,D4x,N4 hlt hm]
   rfl
theorem D1a (p:List D5) (hl:p.length<=1048576): ∀(k i:Nat) (r:B6),1<=i->i+k=p.length->Mgs r (p.drop i)->A13 p (i:Int) r.N r.Ad=some (srF r (p.drop i),0):=by
 have hm:=F5 hl;intro k
 induction k with
 |zero=>
  intro i r _ hi _;have hi:i=p.length:=by omega
  unfold A13;rw [K9 (r:=(r,0))]
  ·rw [hi,List.drop_length]
   rfl
  ·simp only [];unfold A5K;rw [D4E (by omega),D4A]
   rfl
 |succ k ih=>
  intro i r h1 hi h;have hlt:i<p.length:=by omega
  rw [C0x hlt] at h⊢;obtain ⟨q,e,hq,_,_,e1⟩:=B8v h;have:=ih (i+1) q (by omega) (by omega) hq
  unfold A13 at this⊢;rw [K2 (s' :=(((i+1:Nat):Int),q.N,q.Ad))]
  ·rw [this];show some (srF q _,0)=some (srF (A33 r (el p i).Az).1 _,0);rw [e]
  ·simp only [];unfold A5K;have c:((i:Int)==0)=false:=by rw [D5n];omega
   rw [D4C (by omega),D4B,G4 hlt,D4x,c,D42,D4A]
   unfold A1v;rw [show (⟨r.N,r.Ad⟩:B6)=r from rfl,show (⟨(el p i).Az.N,(el p i).Az.Ad⟩:B6)=(el p i).Az from rfl,e1,D4x,N4 hlt hm]
   rfl
theorem D2c (v:Int):OkR [⟨v,1,1⟩] 1 where
 n0:=by decide
 n1:=by decide
 nil:=by simp
 rng:=fun i hi=>by
  have:i=0:=by simp at hi;omega
  subst this;exact ⟨Int.le_refl 1,Int.le_refl 1,Int.le_refl 1⟩
 up:=fun i hi=>by simp at hi
 first:=fun _=>rfl
 last:=fun _=>rfl
theorem C6Z:OkR [] 0 where
 n0:=by decide
 n1:=by decide
 nil:=by simp
 rng:=fun i hi=>by simp at hi
 up:=fun i hi=>by simp at hi
 first:=fun h=>by simp at h
 last:=fun h=>by simp at h
theorem C9A {r:B6} (h:OkR r.Ad r.N) (hl:r.Ad.length<=1000):A4l ⟨0, []⟩ r=some (r,0):=by
 rw [C1D _ _ (Nat.zero_le _) hl];unfold A33;have n1:=h.n1;rw [(A0a ⟨0, []⟩).2 C6Z,(A0a r).2 h,D4E (by show¬0+r.N>1099511627776;omega)]
 simp only [Bool.and_self,D4B,D4A,D43,Nat.zero_add,Int.zero_add,B7K]
theorem B9V {l:List D5} {k b:Int} (h:A7L l k b) (hs:A3v l) (A:Option (B6×Int))
  (B:Option (B6×Int)) (hA:A18 l (l.length:Int)=Option.map Sum.inr A) (hB:A1w l (l.length:Int)=Option.map Sum.inr B):A39 l=A/\A5J l=B:=by
 have hm:=F5 hs.1;have step: ∀i,i<l.length-> ∀z:Int,z=0->((((z !=(0:Int))||(decide ((el l i).Aw<(0:Int))))||(decide ((el l i).Aw>(30:Int)))))=false:=fun i hi z hz=>by
  have:=A5i h.2.1 hi;rw [hz,D4E (by omega),D4E (by omega)]
  rfl
 constructor
 ·unfold A39 B3y;exact (L2 (f:=fun s:Int=>A18 l s) l.length (fun _=>False) (⟨0, []⟩,2) A
   (fun i hi _=>⟨fun h=>h.elim,fun _=>by
    unfold A18;rw [D4C (by omega),D4B,G4 hi,D4x,A0h _ (hs.2 _ (A59 hi)),(h.2.2 i hi).1,D4x,D4B,step i hi 0 rfl,D4A,N4 hi hm]⟩)
   (fun _=>hA)).2 (fun _ _ h=>h)
 ·unfold A5J B5E;exact (L2 (f:=fun s:Int=>A1w l s) l.length (fun _=>False) (⟨0, []⟩,2) B
   (fun i hi _=>⟨fun h=>h.elim,fun _=>by
    unfold A1w;rw [D4C (by omega),D4B,G4 hi,D4x,A0H _ (hs.2 _ (A59 hi)),(h.2.2 i hi).1,D4x,D4B,step i hi 0 rfl,D4A,N4 hi hm]⟩)
   (fun _=>hB)).2 (fun _ _ h=>h)
theorem D09 {l:List D5} {k b:Int} (h:A7L l k b):B4Y l=B8C l:=by
 have: ∀x∈l,x.Az.N=A4F ⟨x.T,x.Aw⟩:=fun x hx=>by
  obtain ⟨i,hi,rfl⟩:=C9z hx;have:=A5i h.2.1 hi;unfold A4F;rw [if_pos this];exact (h.2.2 i hi).2.1
 clear h
 induction l with
 |nil=>rfl
 |cons x l ih=>
  rw [B22,D0b,this x (by simp),ih fun y hy=>this y (by simp [hy])]
theorem C69 {l:List D5} {k b:Int} (h:A7L l k b) (hs:A3v l) (he:A5X l<=900) (ht:B8C l<=1073741824):
  ∃r,A39 l=some (r,0)/\A5J l=some (r,0)/\OkR r.Ad r.N/\r.Ad.length<=1000/\(l.length=0->r.N=0)/\(0<l.length->1<=r.N):=by
 by_cases h0:l.length=0
 ·have hn:l= []:=D5i h0;subst hn;obtain ⟨a,c⟩:=B9V h hs (some (⟨0, []⟩,0)) (some (⟨0, []⟩,0)) rfl (by
   unfold A1w;rw [D4E (by simp),D4A]
   unfold A13;rw [K9 (r:=(⟨0, []⟩,0))]
   rfl)
  exact ⟨_,a,c,C6Z,Nat.zero_le _,fun _=>rfl,fun hp=>by simp at hp⟩
 ·have hp:0<l.length:=by omega
  have hb0:=h.2.2 0 hp;have hlv:=A5i h.2.1 hp;have hok: ∀b∈l,OkR b.Az.Ad b.Az.N:=fun b hb=>by
   obtain ⟨i,hi,rfl⟩:=C9z hb;exact (A0a _).1 (h.2.2 i hi).1
  have hd:l=el l 0::l.drop 1:=by
   have:=C0x hp;rw [List.drop_zero] at this;exact this
  have hsum:=D09 h;have hsum2:B4Y l=(el l 0).Az.N+B4Y (l.drop 1):=by
   have:=B22 (el l 0) (l.drop 1);rw [<-hd] at this;exact this
  have hent2:A5X l=(el l 0).Az.Ad.length+A5X (l.drop 1):=by
   have:=C1c (el l 0) (l.drop 1);rw [<-hd] at this;exact this
  have hN1:1<=(el l 0).Az.N:=by
   rw [hb0.2.1];have:=Q7 (el l 0).Aw.toNat;omega
  have hr0: ∃r0:B6,r0=(if (el l 0).Aw=0 then (el l 0).Az else ⟨1, [⟨(el l 0).Bc,1,1⟩]⟩)/\OkR r0.Ad r0.N/\1<=r0.N/\r0.N<=(el l 0).Az.N/\r0.Ad.length<=(el l 0).Az.Ad.length+1:=by
   by_cases hc:(el l 0).Aw=0
   ·refine ⟨_,rfl, ?_⟩;rw [if_pos hc];exact ⟨hok _ (A59 hp),hN1,Int.le_refl _,by omega⟩
   ·refine ⟨_,rfl, ?_⟩;rw [if_neg hc];exact ⟨D2c _,Int.le_refl 1,hN1,by show 1<=_;omega⟩
  obtain ⟨r0,q0,q1,q2,q3,q4⟩:=hr0;have hmg:Mgs r0 (l.drop 1):=⟨q1,fun b hb=>hok b (List.mem_of_mem_drop hb),by omega,by omega⟩
  have hdl:(l.drop 1).length=l.length-1:=D45;have hl:=hs.1;have eA:=C98 l (by omega) (l.drop 1).length 0 r0 (by omega) (by rw [List.drop_zero];exact hmg)
  rw [List.drop_zero] at eA;have eB:=D1a l hs.1 (l.length-1) 1 r0 (D5f 1) (by omega) hmg
  obtain ⟨f1,f2,f3⟩:=C97 hmg;obtain ⟨a,c⟩:=B9V h hs (some (srF r0 (l.drop 1),0)) (some (srF r0 (l.drop 1),0)) (by
    unfold A18;have c0:((l.length:Int)==0)=false:=by rw [D5n];omega
    rw [D4E (by omega),D4A,c0,D4A,A0T hp]
    simp only [D4x]
    congr 1
    have cj: ∀r:B6,r=r0->A2X l r.N r.Ad=some (srF r0 (l.drop 1),0):=fun r hr=>by
     unfold A2X;rw [C3v (by omega),hr]
     exact eA
    by_cases hc:(el l 0).Aw=0
    ·rw [D5r.2 hc,D4B];exact cj _ (by rw [q0,if_pos hc])
    ·rw [D5n.2 hc,D4A];exact cj _ (by rw [q0,if_neg hc];rfl)) (by
    unfold A1w;rw [D4E (by omega),D4A]
    congr 1
    have hq5:r0.Ad.length<=1000:=by omega
    have em:=C9A q1 hq5;have hm:=F5 hs.1;unfold A13 at eB⊢;rw [K2 (s' :=(((0+1:Nat):Int),r0.N,r0.Ad))]
    ·exact eB
    ·simp only [];unfold A5K;rw [D4C (by omega),D4B,A0T hp,D4x]
     have cj: ∀r:B6,r=r0->A1v 0 0 [] r.N r.Ad=some (.inl (((0+1:Nat):Int),r0.N,r0.Ad)):=fun r hr=>by
      unfold A1v;rw [hr,show (⟨r0.N,r0.Ad⟩:B6)=r0 from rfl,em,D4x]
      rfl
     by_cases hc:(el l 0).Aw=0
     ·rw [D4E (by omega),Bool.and_false,D4A]
      exact cj _ (by rw [q0,if_pos hc])
     ·rw [D4C (by omega)]
      exact cj _ (by rw [q0,if_neg hc];rfl))
  exact ⟨_,a,c,f1,f2,fun hz=>by omega,fun _=>by omega⟩
theorem D00 {r:B6} (h:OkR r.Ad r.N) (v:Int) (hl:r.Ad.length<=1048576): ∃lo hi,B2B r v=some (⟨⟨lo,1⟩,(L4 lo hi).1.Bi,⟨hi,1⟩⟩,0)/\B0J r v=some (⟨⟨lo,1⟩,(L4 lo hi).1.Bi,⟨hi,1⟩⟩,0)/\0<=lo/\lo<=hi/\hi<=r.N:=by
 obtain ⟨m,h1,h2,h3⟩:=D07 h v;obtain ⟨b1,b2,b3⟩:=A4I h h1;have n1:=h.n1;have hb:=(A0a r).2 h;have ew:(L4 (J7 r.Ad m) (J0 r.Ad r.N m)).1=⟨⟨J7 r.Ad m,1⟩,(L4 (J7 r.Ad m) (J0 r.Ad r.N m)).1.Bi,⟨J0 r.Ad r.N m,1⟩⟩:=by
  unfold L4;rw [D4E (by omega)]
  rfl
 refine ⟨J7 r.Ad m,J0 r.Ad r.N m, ?_, ?_,b1,b2,b3⟩
 ·unfold B2B;rw [A0h r hl,hb];simp only [D4x,D4B,D5a,D4A];rw [C0M h v hl h1 h2 h3,<-ew]
 ·unfold B0J;rw [A0H r hl,hb];simp only [D4x,D4B,D5a,D4A];rw [C7w h v hl h1 h2 h3];simp only [D4x];rw [A9C (by omega) (by omega)]
  simp only [D4x];rw [<-ew]
theorem C4l {x:C4} (h:C0H x) (hl:x.Ah.length<=1048576): ∃b,A7L x.Ah (2*x.K) b/\B8C x.Ah<=65536:=by
 obtain ⟨hp,hb,ht,_⟩:=h;unfold A2F at hp;obtain ⟨b,_,e,_⟩:=B7c (k:=x.K) (c:=x.Cap) hp.2.2.2 hp.2.1;refine ⟨b,hb b e, ?_⟩;have:=C0V (plainB x.Ah);rw [A3K] at this;have h2:=B7e (plainB x.Ah);rw [B9 (by omega) (by omega)] at ht
 unfold B8C;omega
theorem C8V (x:C4) (v:Int) (hs:A3v x.Ah) (he:A5X x.Ah<=900): ∃r,A6C x v=some r/\B0L x v=some r:=by
 unfold A6C B0L;rw [A51 x hs,A8I x hs];simp only [D4x]
 by_cases h:C0H x
 ·rw [O0 h];simp only [D5a,D4A];obtain ⟨b,h1,h2⟩:=C4l h hs.1;obtain ⟨r,s1,s2,s3,s4,s5,s6⟩:=C69 h1 hs he (by omega)
  unfold B3a B4U;rw [s1,s2];simp only [D4x,D5a,D4A]
  by_cases h0:x.Ah.length=0
  ·have c:((x.Ah.length:Int)==0)=true:=by rw [D5r];omega
   obtain ⟨b,e1,e2⟩:=A8w (n:=0) (by decide) (by decide)
   simp only [c,D4B,e1,e2,D4x];exact ⟨_,rfl,rfl⟩
  ·have c:((x.Ah.length:Int)==0)=false:=by rw [D5n];omega
   obtain ⟨lo,hi,e1,e2,g1,g2,g3⟩:=D00 s3 v (by omega)
   have n1:=s3.n1;have hlv:=A5i h1.2.1 (show 0<x.Ah.length by omega)
   have hpp:=Q7 (el x.Ah 0).Aw.toNat;have hp30:=B9I (i:=(el x.Ah 0).Aw.toNat) (by omega)
   have ew:decide (0<=A7 (el x.Ah 0).Aw)=true:=by rw [D4z,M0];omega
   have e3:A2 (A2 (hi+2^(el x.Ah 0).Aw.toNat)-1)=hi+2^(el x.Ah 0).Aw.toNat-1:=by
    rw [B9 (n:=hi+2^(el x.Ah 0).Aw.toNat) (by omega) (by omega),B9 (by omega) (by omega)]
   simp only [c,D4A,e1,e2,D4x,D5a,A0T (show 0<x.Ah.length by omega),B4D hlv.1 hlv.2,ew,W4,e3]
   rw [A9C (a:=lo) (b:=hi+2^(el x.Ah 0).Aw.toNat-1) (by omega) (by omega)]
   exact ⟨_,rfl,rfl⟩
 ·rw [H2 h];exact ⟨_,rfl,rfl⟩
theorem C7s (x:C4) (p q:Int) (hp:-9223372036854775808<=p/\p<=9223372036854775807) (hq:-9223372036854775808<=q/\q<=9223372036854775807) (hs:A3v x.Ah) (he:A5X x.Ah<=900): ∃r,A5j x p q=some r/\A9h x p q=some r:=by
 unfold A5j A9h;rw [A51 x hs,A8I x hs];simp only [D4x]
 by_cases h:C0H x
 ·rw [O0 h];simp only [D5a,D4A];obtain ⟨b,h1,h2⟩:=C4l h hs.1;obtain ⟨r,s1,s2,s3,s4,s5,s6⟩:=C69 h1 hs he (by omega)
  unfold A7q A8H;rw [s1,s2,C6p];simp only [D4x,D5a,D4A];obtain ⟨e1,y,e2⟩:=C5V r p q hp hq (by omega)
  have hv:T6 r=some 0:=by rw [A0h r (by omega),(A0a r).2 s3];rfl
  cases hc:((decide (q<1)||decide (p<0))||decide (p>q)) with
  |true=>
   unfold A11;rw [hv,hc];exact ⟨_,rfl,rfl⟩
  |false=>
   by_cases h0:x.Ah.length=0
   ·have c:((x.Ah.length:Int)==0)=true:=by rw [D5r];omega
    have c2:(r.N==0)=true:=by rw [D5r];exact s5 h0
    unfold A11;rw [hv,hc,c,c2];exact ⟨_,rfl,rfl⟩
   ·have c:((x.Ah.length:Int)==0)=false:=by rw [D5n];omega
    rw [c,e1,e2];exact ⟨_,rfl,rfl⟩
 ·rw [H2 h];exact ⟨_,rfl,rfl⟩
end Go.Win
namespace Go.Win
open Go.Vc Go.Dec
theorem C7p:A2M=A3O:=rfl
theorem C7o (c:E5) (op:Int) (ho:-9223372036854775808<=op/\op<=9223372036854775807):A5c c op=A37 c op:=by
 unfold A5c A37;rw [A7z,A8J,C7p]
 by_cases h:A6W c
 ·by_cases k4:c.Ba=4
  ·have ha:=h.2.2.2.2.1.1 k4;have e:(A2 (op-1)==A2 (c.Bg-1))=(op==c.Bg):=by
    rw [B9 (n:=c.Bg-1) (by omega) (by omega),D4S,D5r,D5r,B10]
    omega
   rw [e]
  ·rw [D5n.2 k4]
   rfl
 ·rw [B90 h]
  rfl
def C8L:C5:=⟨⟨⟨0,0⟩,⟨0,0⟩,⟨0,0⟩⟩, [],⟨⟨0,0⟩,⟨0,0⟩⟩⟩
def Zer (m:Option (C5×Int)):Prop:= ∀r,m=some r->r.2≠0->r.1=C8L
theorem C45 {α:Type} {m:Option α} {f:α->Option (C5×Int)} (h:∀a,Zer (f a)):Zer (Option.bind m f):=by
 intro r hr;cases m with
 |none=>cases hr
 |some a=>exact h a r hr
theorem D1i {b:Bool} {x y:Option (C5×Int)} (h1:Zer x) (h2:Zer y):Zer (cond b x y):=by cases b<;>assumption
theorem D1j (n:Int):Zer (some (C8L,n)):=fun r hr _=>by cases hr;rfl
theorem D0i (a:C5):Zer (some (a,0)):=fun r hr h=>by cases hr;exact absurd rfl h
theorem C8K (x:C9) (q:Q2):Zer (A5n x q):=by
 have j3: ∀n,Zer (V5 n):=fun n=>by
  unfold V5;exact C45 fun _=>D0i _
 unfold A5n
 repeat' first
  |exact j3 _
  |exact D0i _
  |exact D1j _
  |(refine C45 fun _=> ?_)
  |(refine D1i ?_ ?_)
theorem D0r (s:C7) (w:Q9 s) (q:Q2) (ho:-9223372036854775808<=q.Op/\q.Op<=9223372036854775807) (hA:-9223372036854775808<=q.A/\q.A<=9223372036854775807) (hB:-9223372036854775808<=q.B/\q.B<=9223372036854775807) (hf:B0r s+B9w s.Am.Aj+A5X s.Ab.Ah<=200):
  ∃r,A77 s q=some r/\B2T s q=some r/\r.1.Ar.length<=16:=by
 have hS:=D14 s w;obtain ⟨_,w1,w2,w3,w4,w5,w6,w7,w8,w9,w10,w11⟩:=id w;unfold B0r at hf;unfold A77 B2T;rw [(A56 s w).1,(A56 s w).2,D4x,D4x,C7o _ _ ho]
 by_cases hv:C8c s
 ·rw [O0 hv];simp only [D5a,D4A];cases A37 s.Ak q.Op with
  |false=>exact ⟨_,rfl,rfl,Nat.zero_le _⟩
  |true=>
  simp only [D4J,D4A];obtain ⟨h1,h2,h3,h4,h5,h6,h7,h8,h9,h10,h11⟩:=hS;have fin: ∀(f v:Int) (b:Bool) (a:C5),a.Ar.length<=16-> ∃r,M8 f v b a=some r/\K6 f b v a=some r/\r.1.Ar.length<=16:=by
   intro f v b a ha;unfold M8 K6;cases (f !=0) with
   |true=>exact ⟨_,rfl,rfl,Nat.zero_le _⟩
   |false=>
    cases b with
    |true=>exact ⟨_,rfl,rfl,by show 1<=16;omega⟩
    |false=>exact ⟨_,rfl,rfl,ha⟩
  have fin0: ∀(f:Int) (a:C5),a.Ar.length<=16-> ∃r,(cond (f !=(0:Int)) (some (C8L,f)) (some (a,(0:Int))))=some r/\K6 f false 0 a=some r/\r.1.Ar.length<=16:=by
   intro f a ha;unfold K6;cases (f !=0) with
   |true=>exact ⟨_,rfl,rfl,Nat.zero_le _⟩
   |false=>exact ⟨_,rfl,rfl,ha⟩
  cases c1:(s.Ak.Ba==(1:Int)) with
  |true=>
   obtain ⟨r,e1,e2,e3⟩:=D2R s.Al q (by omega) hA hB
   have hz:=C8K s.Al q r e1;simp only [D4B,e1,e2,D4x];unfold K6
   by_cases h0:r.2=0
   ·have c:(r.2 !=0)=false:=by rw [bne_eq_false_iff_eq];exact h0
    rw [c,h0];exact ⟨_,rfl,rfl,by show r.1.Ar.length<=16;omega⟩
   ·have c:(r.2 !=0)=true:=by rw [bne_iff_ne];exact h0
    rw [c,hz h0];exact ⟨_,rfl,rfl,Nat.zero_le _⟩
  |false=>
  cases c2:(s.Ak.Ba==(2:Int)) with
  |true=>
   obtain ⟨r,e1,e2⟩:=C8T s.As (by omega)
   simp only [D4B,D4A,e1,e2,D4x];exact fin _ _ _ _ (Nat.zero_le _)
  |false=>
  cases c3:(s.Ak.Ba==(3:Int)) with
  |true=>
   obtain ⟨r,e1,e2⟩:=D1G s.Sum (by omega)
   simp only [D4B,D4A,e1,e2,D4x];exact fin _ _ _ _ (Nat.zero_le _)
  |false=>
  cases c4:(s.Ak.Ba==(4:Int)) with
  |true=>
   obtain ⟨r,e1,e2⟩:=C7t s.Ao (by omega)
   simp only [D4B,D4A,e1,e2,D4x];exact fin _ _ _ _ (Nat.zero_le _)
  |false=>
  cases c5:(s.Ak.Ba==(5:Int)) with
  |true=>
   obtain ⟨r,e1,e2⟩:=C7u s.Ap (by omega)
   simp only [D4B,D4A,e1,e2,D4x];exact fin _ _ _ _ (Nat.zero_le _)
  |false=>
  cases c6:(s.Ak.Ba==(6:Int)) with
  |true=>
   obtain ⟨r,e1,e2⟩:=D0s s.Be (B8G w6.2.2.2.2);simp only [D4B,D4A,e1,e2,D4x];exact fin _ _ _ _ (Nat.zero_le _)
  |false=>
  cases c7:(s.Ak.Ba==(7:Int)) with
  |true=>
   obtain ⟨r,e1,e2⟩:=C8U s.Au (by omega)
   simp only [D4B,D4A,e1,e2,D4x];exact fin _ _ _ _ (Nat.zero_le _)
  |false=>
  cases c8:(s.Ak.Ba==(8:Int)) with
  |true=>
   obtain ⟨r,e1,e2⟩:=C5f s.Ae (by omega)
   simp only [D4B,D4A,e1,e2,D4x];exact fin _ _ _ _ (Nat.zero_le _)
  |false=>
  cases c9:(s.Ak.Ba==(9:Int)) with
  |true=>
   obtain ⟨r,e1,e3⟩:=C5e s.Am h9.1 h9.2;have e2:=D0q s.Am h9.2;rw [e1] at e2;simp only [D4B,D4A,e1,<-e2,D4x];exact fin _ _ _ _ e3
  |false=>
  cases c10:(s.Ak.Ba==(10:Int)) with
  |true=>
   simp only [D4B,D4A];cases (q.Op==(7:Int)) with
   |true=>
    obtain ⟨r,e1,e2⟩:=C8W s.Ag q.A;simp only [D4B,e1,e2,D4x];exact fin0 _ _ (Nat.zero_le _)
   |false=>
    obtain ⟨r,e1,e2⟩:=C7v s.Ag q.A q.B hA hB;simp only [D4A,e1,e2,D4x];exact fin _ _ _ _ (Nat.zero_le _)
  |false=>
  cases c11:(s.Ak.Ba==(11:Int)) with
  |true=>
   have hsm:A3v s.Ab.Ah:=⟨w11.2.2.2.2.1,fun x hx=>(w11.2.2.2.2.2 x hx).2.2.2.2.1⟩;simp only [D4B,D4A];cases (q.Op==(7:Int)) with
   |true=>
    obtain ⟨r,e1,e2⟩:=C8V s.Ab q.A hsm (by omega)
    simp only [D4B,e1,e2,D4x];exact fin0 _ _ (Nat.zero_le _)
   |false=>
    obtain ⟨r,e1,e2⟩:=C7s s.Ab q.A q.B hA hB hsm (by omega)
    simp only [D4A,e1,e2,D4x];exact fin _ _ _ _ (Nat.zero_le _)
  |false=>
   simp only [D4A];exact fin _ _ _ _ (Nat.zero_le _)
 ·rw [H2 hv];exact ⟨_,rfl,rfl,Nat.zero_le _⟩
theorem B3h (p0:C7) (p1:Q2) (w0:Q9 p0) (w1:A92 p1):A5Z p0 p1=some true:=by
 unfold A5Z;rw [D0z p0 w0,D4x,D1H]
 by_cases hf:B0r p0+B9w p0.Am.Aj+A5X p0.Ab.Ah<=200
 ·obtain ⟨r,e1,e2,e3⟩:=D0r p0 w0 p1 (C8r w1.1) (C8r w1.2.1) (C8r w1.2.2) hf;rw [D4C (by omega),e1,e2]
  simp [C6e _ (F5 (show r.1.Ar.length<=1048576 by omega)),gd]
 ·rw [D4E (by omega)]
  rfl
end Go.Win
