/- Plain laws of the functions on plain data. -/
import Derived.Test.YtkakobhohikfkaaGreatQa
import Derived.Test.YtkakobhohikfkaaGreatWin2
import Derived.Test.YtkakobhohikfkaaGreatWin
import Derived.Laws.BitsLemmas
set_option linter.unusedVariables false
set_option linter.unusedSimpArgs false
set_option linter.unnecessarySimpa false
set_option linter.unusedSectionVars false
set_option maxHeartbeats 4000000
namespace Go.Win
open Go.Vc Go.Dec

theorem C4X {l:List A3} (hl:∀x∈l,0<=x.Bc/\x.Bc<=30):(l.length:Int)<=X6 l:=by
 induction l with
 |nil=>exact Int.le_refl 0
 |cons b l ih=>
  have:=ih fun x hx=>hl x (by simp [hx])
  rw [B0H,D7z];have h:=hl b (by simp)
  have h1:A7s b=2^b.Bc.toNat:=by unfold A7s;rw [if_pos h]
  have h2:=A0J b.Bc.toNat
  push_cast
  omega
theorem C33 {l:List A3} {W K Cap Now:Int} (h:B2Q l W K Cap Now) (hl:l.length<=1048576):l.length<=65536:=by
 have a:=C4X (B86 h.2.1).2.2;have b:=h.2.2.1;rw [D6a hl] at b;have:=h.1.2.1;omega
end Go.Win
namespace Go.Win
open Go.Vc Go.Dec
section
variable {β:Type}
end
end Go.Win
namespace Go.Win
open Go.Vc Go.Dec
instance {l:List A7} {a b c:Int}:TS (B0o l a b c) (l.length<=1048576) (fun r=>r.length<=l.length+1):=⟨fun h=>by
 unfold B0o B7f;refine yL (fun s=>0<=s.2/\s.2<=l.length/\s.1.length<=s.2) (fun s=>l.length-s.2.toNat) ⟨Int.le_refl _,by simp,by simp⟩ fun s hs=> ?_
 have e:=A0k s.2 (by omega)
 unfold B6g;simp only [e];exact yT⟩
theorem D2m {p0:List A7} {a b c d e f:Int} {g:List A7} {y:A7} {v:List A7} {i s:Int} (hl:p0.length<=1048577) (hi:0<=i/\i<p0.length) (hs:s<p0.length):
  T (A6C p0 a b c d e f g y v i s) fun r=>match r with
   | .inl r=>r.1.length=v.length+1/\i<r.2/\r.2<=p0.length
   | .inr _=>False:=by
 unfold A6C;refine yL (fun s=>s<p0.length/\(i<=s\/s<=i)) (fun s=>s.toNat) ⟨hs,by omega⟩ fun s hs=> ?_
 have e1:=A0k i (by omega)
 unfold A5z;simp only [e1];refine yC (fun h=> ?_) (fun h=> ?_)
 ·rw [D7i] at h;have e2:=A0k s (by omega)
  simp only [e2];exact yT
 ·exact yT
instance {p0:List A7} {a b c d e f:Int} {g:List A7}:TS (A51 p0 a b c d e f g) (p0.length<=1048577) (fun r=>r.length<=p0.length):=⟨fun h=>by
 unfold A51 B1l;refine yL (fun s=>0<=s.2/\s.2<=p0.length/\s.1.length<=s.2) (fun s=>p0.length-s.2.toNat) ⟨Int.le_refl _,by simp,by simp⟩ fun s hs=> ?_
 unfold A5y;refine yC (fun h2=> ?_) (fun _=>yP (yI (by show s.1.length<=_;omega)))
 rw [D7i] at h2;refine yB (yX ⟨hs.1,h2⟩ fun _=>yK (by simp;omega) ?_)
 refine yM (D2m h ⟨hs.1,h2⟩ (by rw [(A0k _ ⟨by omega,by omega⟩).2.1];omega)) fun r hr=> ?_
 cases r with
 |inl r=>dsimp only at hr⊢;omega
 |inr r=>exact hr.elim⟩
theorem D0J {p0:List A7} {a b c d e:Int} {g:List A7} {y:A7} {v:List A7} {i s:Int} (hl:p0.length<=1048577) (hi:0<=i/\i<p0.length) (hs:s<p0.length):
  T (A6D p0 a b c d e g y v i s) fun r=>match r with
   | .inl r=>r.1.length=v.length+1/\i<r.2/\r.2<=p0.length
   | .inr _=>False:=by
 unfold A6D;refine yL (fun s=>s<p0.length/\(i<=s\/s<=i)) (fun s=>s.toNat) ⟨hs,by omega⟩ fun s hs=> ?_
 have e1:=A0k i (by omega)
 unfold A5B A8M;simp only [e1,B7I];refine yC (fun h=> ?_) (fun h=> ?_)
 ·rw [D7i] at h;have e2:=A0k s (by omega)
  simp only [e2];exact yT
 ·exact yT
instance {p0:List A7} {a b c d e:Int} {g:List A7}:TS (A52 p0 a b c d e g) (p0.length<=1048577) (fun r=>r.length<=p0.length):=⟨fun h=>by
 unfold A52 B1m;refine yL (fun s=>0<=s.2/\s.2<=p0.length/\s.1.length<=s.2) (fun s=>p0.length-s.2.toNat) ⟨Int.le_refl _,by simp,by simp⟩ fun s hs=> ?_
 unfold A5A;refine yC (fun h2=> ?_) (fun _=>yP (yI (by show s.1.length<=_;omega)))
 rw [D7i] at h2;refine yB (yX ⟨hs.1,h2⟩ fun _=>yK (by simp;omega) ?_)
 refine yM (D0J h ⟨hs.1,h2⟩ (by rw [(A0k _ ⟨by omega,by omega⟩).2.1];omega)) fun r hr=> ?_
 cases r with
 |inl r=>dsimp only at hr⊢;omega
 |inr r=>exact hr.elim⟩
theorem C7R (x:D3) (v:Int) (hl:x.Bf.length+1<=1048576):T (B12 x v) fun r=>r.1.Bf.length<=x.Bf.length+1:=by
 have ex:(⟨x.Bo,x.W,x.K,x.Cap,x.Now,x.Bv,x.Bf⟩:D3)=x:=rfl;unfold B12;rw [ex,A5g x (H8 (by omega))]
 exact yT
theorem C7S (x:D5) (v:Int) (hl:x.Bf.length+1<=1048576):T (B16 x v) fun r=>r.1.Bf.length<=x.Bf.length+1:=by
 have ex:(⟨x.W,x.K,x.Cap,x.Now,x.Bv,x.Bf⟩:D5)=x:=rfl;unfold B16;rw [ex,A5h x (H8 (by omega))]
 exact yT
end Go.Win
namespace Go.Win
open Go.Vc Go.Dec
def Fit (n lo hi s q:Int):Prop:=n*lo<=s/\s<=n*hi/\0<=q/\q<=n*16777216/\s*s<=n*q
theorem C42 (x:Int):0<=x*x:=by
 rcases Int.le_total 0 x with h|h
 ·exact Int.mul_nonneg h h
 ·have:=Int.mul_nonneg (a:= -x) (b:= -x) (by omega) (by omega)
  rw [Int.neg_mul_neg] at this;exact this
theorem D4Y {n1 q1 s1 n2 q2 s2:Int} (hn1:0<=n1) (hn2:0<=n2) (hq1:0<=q1) (hq2:0<=q2) (h1:s1*s1<=n1*q1) (h2:s2*s2<=n2*q2):(s1+s2)*(s1+s2)<=(n1+n2)*(q1+q2):=by
 have a0:0<=n1*q2:=Int.mul_nonneg hn1 hq2;have b0:0<=n2*q1:=Int.mul_nonneg hn2 hq1;have p:(s1*s2)*(s1*s2)<=(n1*q2)*(n2*q1):=by
  have e1:(s1*s2)*(s1*s2)=(s1*s1)*(s2*s2):=by grind
  have e2:(n1*q2)*(n2*q1)=(n1*q1)*(n2*q2):=by grind
  rw [e1,e2];exact Int.mul_le_mul h1 h2 (C42 s2) (Int.mul_nonneg hn1 hq1)
 have key: ∀P A B:Int,0<=A->0<=B->P*P<=A*B->2*P<=A+B:=by
  intro P A B hA hB hP;apply D8b;intro hc;have h3:(A+B+1)*(A+B+1)<=(2*P)*(2*P):=Int.mul_le_mul (by omega) (by omega) (by omega) (by omega)
  have h4:(2*P)*(2*P)=4*(P*P):=by grind
  have h5:(A+B+1)*(A+B+1)=(A-B)*(A-B)+4*(A*B)+2*(A+B)+1:=by grind
  have h6:=C42 (A-B);omega
 have k:=key _ _ _ a0 b0 p;have e:(s1+s2)*(s1+s2)=s1*s1+s2*s2+2*(s1*s2):=by grind
 have e' :(n1+n2)*(q1+q2)=n1*q1+n2*q2+(n1*q2+n2*q1):=by grind
 omega
theorem D1O {n lo hi lo' hi' s q:Int} (hn:0<=n) (h:Fit n lo hi s q) (h1:lo' <=lo) (h2:hi<=hi'):Fit n lo' hi' s q:=by
 have a:=Int.mul_le_mul_of_nonneg_left h1 hn;have b:=Int.mul_le_mul_of_nonneg_left h2 hn;unfold Fit at*
 omega
theorem D3E {n1 n2 lo hi s1 q1 s2 q2:Int} (hn1:0<=n1) (hn2:0<=n2) (h1:Fit n1 lo hi s1 q1) (h2:Fit n2 lo hi s2 q2):Fit (n1+n2) lo hi (s1+s2) (q1+q2):=by
 obtain ⟨a1,a2,a3,a4,a5⟩:=h1;obtain ⟨b1,b2,b3,b4,b5⟩:=h2;refine ⟨by rw [Int.add_mul];omega,by rw [Int.add_mul];omega,by omega,by rw [Int.add_mul];omega,D4Y hn1 hn2 a3 b3 a5 b5⟩
theorem D52 {v:Int} (h:-4096<=v/\v<=4096):0<=v*v/\v*v<=16777216:=by
 refine ⟨C42 v, ?_⟩;have:=Int.mul_nonneg (a:=4096-v) (b:=4096+v) (by omega) (by omega)
 have e:(4096-v)*(4096+v)=16777216-v*v:=by grind
 omega
structure MkP (seq cap now lo:Int) (m:A7):Prop where
 sq1:1<=m.Bv
 sq2:m.Bv<=seq
 n:m.N=seq-m.Bv+1
 cap:m.N<=cap
 t0:0<=m.T
 t1:m.T<=now
 lo_:lo<=m.Bt
 mm:m.Bt<=m.Bs
 hi:m.Bs<=4096
 fit:Fit m.N m.Bt m.Bs m.S m.Q
structure MkR (o m:A7):Prop where
 sq:o.Bv<m.Bv
 t:o.T<=m.T
 mn:o.Bt<=m.Bt
 mx:m.Bs<=o.Bs
 fit:Fit (o.N-m.N) o.Bt o.Bs (o.S-m.S) (o.Q-m.Q)
def D6o (seq:Int) (m:A7):Prop:=m.Bv=seq/\m.Bt=m.S/\m.Bs=m.S/\m.Q=m.S*m.S
structure MkL (seq cap now w lo:Int) (l:List A7):Prop where
 sq:0<=seq/\seq<=1099511627776
 each: ∀m∈l,MkP seq cap now lo m
 row:l.Pairwise MkR
 live: ∀i,i<l.length->(0<i\/l.length=1)->I1 now w (el l i).T=true
 last:0<l.length->D6o seq (el l (l.length-1))
theorem MkP.rng {seq cap now lo:Int} {m:A7} (hc:cap<=65536) (hlo:-4096<=lo) (h:MkP seq cap now lo m):(1<=m.N/\m.N<=65536)/\(-4096<=m.Bt/\m.Bt<=4096)/\(-4096<=m.Bs/\m.Bs<=4096)/\(-268435456<=m.S/\m.S<=268435456)/\(0<=m.Q/\m.Q<=1099511627776):=by
 have h1:=h.sq1;have h2:=h.sq2;have h3:=h.n;have h4:=h.cap;have h5:=h.lo_;have h6:=h.mm;have h7:=h.hi;obtain ⟨f1,f2,f3,f4,f5⟩:=h.fit;have a:=Int.mul_le_mul_of_nonneg_left (show (-4096:Int)<=m.Bt by omega) (show 0<=m.N by omega)
 have b:=Int.mul_le_mul_of_nonneg_left (show m.Bs<=(4096:Int) by omega) (show 0<=m.N by omega)
 omega
theorem MkR.trans {seq cap now lo:Int} {a b c:A7} (ha:MkP seq cap now lo a) (hb:MkP seq cap now lo b) (hc:MkP seq cap now lo c) (h1:MkR a b) (h2:MkR b c):MkR a c:=by
 have n1:=ha.n;have n2:=hb.n;have n3:=hc.n;have s1:=h1.sq;have s2:=h2.sq;have t1:=h1.t;have t2:=h2.t;have m1:=h1.mn;have m2:=h2.mn;have x1:=h1.mx;have x2:=h2.mx;have f:=D3E (by omega) (by omega) h1.fit (D1O (by omega) h2.fit m1 x1)
 have e1:a.N-b.N+(b.N-c.N)=a.N-c.N:=by omega
 have e2:a.S-b.S+(b.S-c.S)=a.S-c.S:=by omega
 have e3:a.Q-b.Q+(b.Q-c.Q)=a.Q-c.Q:=by omega
 rw [e1,e2,e3] at f;exact ⟨by omega,by omega,by omega,by omega,f⟩
theorem C98 {l:List A7} {seq cap now w lo:Int} (hc:cap<=65536) (hlo:-4096<=lo) (h:A54 l seq cap now w lo):MkL seq cap now w lo l:=by
 obtain ⟨h1,h2,h3⟩:=h;have each: ∀i,i<l.length->MkP seq cap now lo (el l i):=fun i hi=>by
  have a:=(h2 i hi).1;have b:=(h2 i hi).2.1;unfold mk1 at a;unfold mk2 at b;have f:=(B88 (n:=(el l i).N) ⟨by omega,by omega⟩ ⟨by omega,by omega⟩ ⟨by omega,by omega⟩).1 b.2.2.2
  exact ⟨a.1.1,a.1.2,a.2.1,a.2.2.1,a.2.2.2.1,a.2.2.2.2,b.1,b.2.1,b.2.2.1,f⟩
 have adj: ∀i,i+1<l.length->MkR (el l i) (el l (i+1)):=fun i hi=>by
  have p:=each i (by omega)
  have q:=each (i+1) hi;have c:=(h2 (i+1) hi).2.2.2 (by omega)
  rw [D7X] at c;unfold mk4 at c;obtain ⟨c1,c2,c3,c4,c5⟩:=c;have r1:=p.rng hc hlo;have r2:=q.rng hc hlo;have n1:=p.n;have n2:=q.n;rw [C7 (n:=(el l i).N-(el l (i+1)).N) (by omega) (by omega),C7 (n:=(el l i).S-(el l (i+1)).S) (by omega) (by omega),C7 (n:=(el l i).Q-(el l (i+1)).Q) (by omega) (by omega)] at c5
  exact ⟨c1,c2,c3,c4,(B88 ⟨by omega,by omega⟩ r1.2.1 r1.2.2.1).1 c5⟩
 have all: ∀d i,i+d+1<l.length->MkR (el l i) (el l (i+d+1)):=by
  intro d
  induction d with
  |zero=>intro i hi;exact adj i hi
  |succ d ih=>
   intro i hi;exact MkR.trans (each i (by omega)) (each (i+d+1) (by omega)) (each _ hi) (ih i (by omega)) (adj (i+d+1) hi)
 refine ⟨h1,fun m hm=> ?_, ?_,fun i hi hh=>(h2 i hi).2.2.1 hh,fun h0=> ?_⟩
 ·obtain ⟨i,hi,rfl⟩:=B2P hm;exact each i hi
 ·rw [List.pairwise_iff_getElem];intro i j hi hj hij;have:=all (j-i-1) i (by omega)
  rw [show i+(j-i-1)+1=j by omega,A0U hi,A0U hj] at this
  exact this
 ·have c:=h3 h0;unfold B93 at c;have r:=(each (l.length-1) (by omega)).rng hc hlo
  have q1:(el l (l.length-1)).S*(el l (l.length-1)).S=(el l (l.length-1)).Bt*(el l (l.length-1)).Bt:=by rw [c.2.1]
  have q2:=D52 r.2.1;rw [C7 (by omega) (by omega)] at c
  exact c
theorem C7j {l:List A7} {seq cap now w lo:Int} (h:MkL seq cap now w lo l):(0<l.length->(l.length:Int)<=(el l 0).N)/\(0<=cap->(l.length:Int)<=cap):=by
 have key: ∀i,i<l.length->(el l 0).Bv+i<=(el l i).Bv:=by
  intro i
  induction i with
  |zero=>intro _;omega
  |succ i ih=>
   intro hi;have a:=ih (by omega)
   have m:=List.pairwise_iff_getElem.1 h.row i (i+1) (by omega) hi (by omega)
   rw [<-A0U,<-A0U] at m;have:=m.sq
   push_cast
   omega
 have k0:0<l.length->(l.length:Int)<=(el l 0).N:=fun h0=>by
  have a:=key (l.length-1) (by omega)
  have p:=h.each _ (A2P h0);have q:=h.each _ (A2P (show l.length-1<l.length by omega))
  have n:=p.n;have s:=q.sq2;omega
 refine ⟨k0,fun hc=> ?_⟩;rcases Nat.eq_zero_or_pos l.length with g|g
 ·omega
 ·have a:=k0 g;have b:=(h.each _ (A2P g)).cap;omega
section
variable {β:Type}
end
end Go.Win
namespace Go.Win
open Go.Vc Go.Dec
def D6V (agg k:Int) (u w:A7):Prop:=w.Bv-u.Bv>1->R4 u w agg k=true
theorem D6F {x:D3} (h:C09 x):MkL x.Bv x.Cap x.Now x.W (A02 x.Bo) x.Bf/\(∀i,i+2<x.Bf.length->R4 (el x.Bf i) (el x.Bf (i+2)) x.Bo x.K=false)/\ ∀i,i+1<x.Bf.length->D6V x.Bo x.K (el x.Bf i) (el x.Bf (i+1)):=by
 obtain ⟨h1,h2,h3,h4⟩:=h;refine ⟨C98 h2.2.1.2 (A9t _) h3,fun i hi=> ?_,fun i hi hg=> ?_⟩
 ·have:=(h4 (i+2) hi).1 (by omega)
  rw [D7X] at this;exact D7w.2 this
 ·have:=(h4 (i+1) hi).2 (by omega)
  rw [D7X] at this;exact this hg
end Go.Win
namespace Go.Win
open Go.Vc Go.Dec
instance {a b:A2}:TS (A4m a b) (I2 a/\I2 b) (fun r=>I2 r.1):=⟨fun ⟨h1,h2⟩=>by
 refine ⟨_,B5T h1 h2, ?_⟩;split
 ·exact A0e (by unfold I2 at h1 h2;unfold wv;omega) (by assumption)
 ·show I2 ⟨0,0⟩;unfold I2;simp⟩
instance {a b:A2}:TS (A2a a b) (I2 a/\I2 b) (fun r=>I2 r.1):=⟨fun ⟨h1,h2⟩=>by
 refine ⟨_,A9N h1 h2, ?_⟩;split
 ·exact A0e (B95 h1 h2) (by assumption)
 ·show I2 ⟨0,0⟩;unfold I2;simp⟩
instance {n k:Int}:TS (B3e n k) ((0<=n/\n<18446744073709551616)/\0<=k/\k<=9223372036854775807) (fun r=>I2 r.1):=⟨fun ⟨hn,hk⟩=>by
 unfold B3e;obtain ⟨m,rfl⟩:=Int.eq_ofNat_of_zero_le hk.1;have e1:=C27 hn m (A2.mk 0 1) (by omega) C4u
 have:T (A7a n (m:Int) 0 1) fun r=>I2 r.1:=⟨_,e1,C7q hn m _ C4u⟩;have z:I2 ⟨0,0⟩:=by unfold I2;simp
 have o:=C4u
 repeat' first
  |exact this
  |refine yC (fun _=> ?_) (fun _=> ?_)
  |refine yI ?_
  |assumption⟩
theorem D1n (x:E3) (v:Int) (hw:∀w∈x.Ag,I2 w) (hl:x.Ag.length<=1048576):T (B5G x v) fun r=>r.1.Ag.length<=x.Ag.length/\ ∀w∈r.1.Ag,I2 w:=by
 have no: ∀w∈([]:List A2),I2 w:=fun w h=>by cases h
 have this:TS (B4h x v (List.replicate ((x.Ag.length:Int)).toNat (A2.mk 0 0)) 0) True (fun r=>r.1.Ag.length<=x.Ag.length/\ ∀w∈r.1.Ag,I2 w):=⟨fun _=>by
  unfold B4h;refine yL (fun s=>0<=s.2/\s.2<=x.Ag.length/\s.1.length=x.Ag.length/\ ∀w∈s.1,I2 w) (fun s=>x.Ag.length-s.2.toNat)
   ⟨Int.le_refl _,by simp,by simp,fun w h=>by rw [List.eq_of_mem_replicate h];unfold I2;simp⟩ fun s ⟨h1,h2,h3,h4⟩=> ?_
  unfold B7n;simp only [A0k s.2 (by omega),D8h,D7W]
  have o1:=B3Q (W4 v);have o2:=W4 (A1 (A1 (x.Now-x.Bj)+1));refine yC (fun h=>yB (yS ⟨o2,h1,by omega⟩ fun p hp=>yB (yS ⟨hp,o1⟩ fun q hq=> ?_))) (fun h=>yP (yI ⟨by show s.1.length<=_;omega,h4⟩))
  rw [D7i] at h;refine yB (yX ⟨h1,h⟩ fun hm=>yB (yS ⟨hw _ hm,hq⟩ fun a ha=> ?_));have:=D4o (s.2).toNat h4 ha;exact yT⟩
 unfold B5G;rw [A7o x hw];exact yT
end Go.Win
namespace Go.Win
open Go.Vc Go.Dec
theorem C9m (x:F6) (v:Int) (hl:x.Bn.length<=1048576):T (B3K x v) fun r=>r.1.Bn.length<=x.Bn.length:=by
 unfold B3K;rw [A5X x (H8 hl)]
 by_cases hv:C4n x
 ·have:=hv.1.1;exact yT
 ·rw [I8 hv];exact yT
end Go.Win
namespace Go.Win
open Go.Vc Go.Dec
theorem C5E (x:C4) (v:Int) (hl:x.Bb.length+1<=1048576):T (A9W x v) fun r=>r.1.Bb.length<=x.Bb.length+1:=by
 unfold A9W;rw [A35 x (H8 (by omega))]
 have:T (A5V x v x.Bb) fun r=>r.1.Bb.length<=x.Bb.length+1:=by
  unfold A5V;refine yL (fun l=>l.length<=x.Bb.length) (fun l=>l.length) (D7Y _) fun l hl=> ?_;unfold B3H
  by_cases h0:0<l.length
  ·have e:=A0k (l.length:Int) (by omega)
   simp only [e,List.nil_append];exact yT
  ·simp only [List.nil_append];exact yT
 have i:TS (A5V x v x.Bb) True (fun r=>r.1.Bb.length<=x.Bb.length+1):=⟨fun _=>this⟩;exact yT
end Go.Win
namespace Go.Win
open Go.Vc Go.Dec
end Go.Win
namespace Go.Win
open Go.Vc Go.Dec
instance {l:List E0} {m:Int}:TS (A2i l m) (l.length<=1048577) (fun r=>r.length<=l.length):=⟨fun hl=>by
 unfold A2i A65
 by_cases h0:2<=l.length
 ·have e:A1 ((l.length:Int)-2)=(l.length:Int)-2:=by rw [C7]<;>omega
  rw [e];refine yL (fun s=>0<=s.2/\s.2+2<=s.1.length/\s.1.length<=l.length\/s.2= -1/\s.1.length<=l.length) (fun s=>(s.2+1).toNat) (.inl ⟨by show 0<=(l.length:Int)-2;omega,by show (l.length:Int)-2+2<=(l.length:Int);omega,D7Y _⟩) fun s hs=> ?_
  unfold A0A;refine yC (fun h=> ?_) (fun _=>yP (yI (by omega)))
  rw [D7i] at h;simp only [A0k s.2 (by omega)]
  exact yT
 ·have e:decide (A1 ((l.length:Int)-2)>=1)=false:=by rw [C7 (by omega) (by omega)];exact D7n (by omega)
  refine ⟨l,K4 ?_,D7Y _⟩;unfold A0A;simp only [e];rfl⟩
theorem C5F (x:B8) (v:Int) (hl:x.Av.length+1<=1048576):T (A6m x v) fun r=>r.1.Av.length<=x.Av.length+1:=by
 unfold A6m;rw [A4h]
 by_cases hv:C1a x
 ·have hk:=hv.1.1.1;have j8: ∀(i d:Int),0<=i->i<=x.Av.length->TS (A1H x v i d) True (fun r=>r.1.Av.length<=x.Av.length+1):=fun i d h1 h2=>⟨fun _=>by
   unfold A1H A3R A3m;simp only [List.nil_append];exact yT⟩
  have:TS (A6K x v 0) True (fun r=>r.1.Av.length<=x.Av.length+1):=⟨fun _=>by
   unfold A6K;refine yL (fun i=>0<=i/\i<=x.Av.length) (fun i=>x.Av.length-i.toNat) ⟨Int.le_refl _,by simp⟩ fun i hi=> ?_
   have:=fun d=>j8 i d hi.1 hi.2;unfold B0x;simp only [A0k i (by omega)]
   exact yT⟩
  exact yT
 ·rw [I8 hv];exact yT
end Go.Win
namespace Go.Win
open Go.Vc Go.Dec
end Go.Win
namespace Go.Win
open Go.Vc Go.Dec
end Go.Win
namespace Go.Win
open Go.Vc Go.Dec
def A9m (l:List B4) (n:Int) (j:Nat):Prop:=(J4 l (j+1)).Bs+(J4 l j).Bt<2*n
def C3W (e:B4) (n:Int):Int:=A0y (n-e.Bt) (e.Bs-n)
theorem D3K (a b:Int):a<=A0y a b/\b<=A0y a b:=by
 show a<=(if b>a then b else a)/\b<=(if b>a then b else a)
 split<;>omega
theorem D3H {a b c:Int}:A0y a b<c↔a<c/\b<c:=by
 show (if b>a then b else a)<c↔_
 split<;>omega
section
variable {l:List B4} {N:Int} (h:OkR l N)
include h
theorem D27: ∀ {i j:Nat},i<j->j<l.length->(J4 l i).V<=(J4 l j).V/\(J4 l i).Bt<(J4 l j).Bt/\(J4 l i).Bs<(J4 l j).Bs:=by
 intro i j hij hj
 induction j with
 |zero=>omega
 |succ j ih=>
  have h1:=h.up j hj;rcases Nat.lt_or_ge i j with hlt|hge
  ·have:=ih hlt (by omega)
   omega
  ·have:i=j:=by omega
   subst this;exact h1
theorem C3O {n:Int} {j:Nat} (hj:j+1<l.length):A9m l n j↔C3W (J4 l (j+1)) n<C3W (J4 l j) n:=by
 have h1:=h.up j hj;have h2:=D3K (n-(J4 l j).Bt) ((J4 l j).Bs-n);unfold A9m C3W;rw [D3H];constructor
 ·intro hc;omega
 ·rintro ⟨g1,g2⟩
  by_cases hm:A0y (n-(J4 l j).Bt) ((J4 l j).Bs-n)<=n-(J4 l j).Bt
  ·omega
  ·have:A0y (n-(J4 l j).Bt) ((J4 l j).Bs-n)=(J4 l j).Bs-n:=by
    show (if _>_ then _ else _)=_
    split
    ·rfl
    ·rename_i hh;exfalso;apply hm;show (if _>_ then _ else _)<=_
     rw [if_neg hh];omega
   omega
theorem C9G {n:Int} {j k:Nat} (hjk:j<=k) (hk:k+1<l.length) (hc:A9m l n k):A9m l n j:=by
 rcases Nat.lt_or_ge j k with hlt|hge
 ·have h1:=D27 h hlt (by omega)
  have h2:=D27 h (show j+1<k+1 by omega) hk
  unfold A9m at hc⊢;omega
 ·have:j=k:=by omega
  subst this;exact hc
omit h in
theorem D3y {n n' :Int} {j:Nat} (hn:n<=n') (hc:A9m l n j):A9m l n' j:=by
 unfold A9m at hc⊢;omega
structure B3j (l:List B4) (n:Int) (k:Nat):Prop where
 lt:k<l.length
 low: ∀j,j<k->A9m l n j
 stop:k+1<l.length-> ¬A9m l n k
omit h in
theorem B7m {n:Int} {k k' :Nat} (hk:B3j l n k) (hk':B3j l n k'):k=k' :=by
 rcases Nat.lt_trichotomy k k' with hlt|rfl|hgt
 ·exact absurd (hk'.low k hlt) (hk.stop (by have:=hk'.lt;omega))
 ·rfl
 ·exact absurd (hk.low k' hgt) (hk'.stop (by have:=hk.lt;omega))
theorem B8O {n:Int} (hn:1<=n/\n<=N) {i:Nat} (hi:i<l.length):B2Z (J4 l i) n=C3W (J4 l i) n:=by
 have h1:=h.rng i hi;have h2:=h.n1;unfold B2Z C3W;rw [C7 (by omega) (by omega),C7 (by omega) (by omega)]
theorem B3T {n:Int} (hn:1<=n/\n<=N) (hl:l.length<=1000000000) {f:Nat} (hf:f<l.length) (hlow:∀j,j<f->A9m l n j): ∃k,f<=k/\B3j l n k/\A1N l n (f:Int)=some (k:Int):=by
 have hm:l.length<=maxLen:=by rw [K0];omega
 unfold A1N B6j;obtain ⟨r,hr,k,h1,h2,hQ⟩:=R3 (f:=fun s:Int=>A9x l n s)
  (fun s=> ∃k:Nat,f<=k/\k<l.length/\(∀j,j<k->A9m l n j)/\s=(k:Int))
  (fun s=>l.length-s.toNat) (fun r=> ∃k,f<=k/\B3j l n k/\r=(k:Int)) (f:Int) ⟨f,D7Y _,hf,hlow,rfl⟩ (by
   rintro _ ⟨k,hfk,hk,hlw,rfl⟩;unfold A9x;have e1:A1 ((k:Int)+1)=((k+1:Nat):Int):=by rw [K0] at hm;rw [C7]<;>omega
   rw [e1]
   by_cases hlt:k+1<l.length
   ·rw [D7l (by omega:((k+1:Nat):Int)<(l.length:Int)),J1,J1,A0n hlt,A0n hk]
    simp only [D7g,D7R];rw [B8O h hn hlt,B8O h hn hk]
    by_cases hc:A9m l n k
    ·left;rw [D7l ((C3O h hlt).1 hc),D7k];refine ⟨_,rfl,⟨k+1,by omega,hlt,fun j hj=> ?_,rfl⟩,by show l.length-(((k+1:Nat):Int)).toNat<l.length-(k:Int).toNat;omega⟩
     exact C9G h (by omega) hlt hc
    ·right;rw [D7n (fun hx=>hc ((C3O h hlt).2 hx)),D7j];exact ⟨_,rfl,k,hfk,⟨hk,hlw,fun _=>hc⟩,rfl⟩
   ·right;rw [D7n (by omega: ¬((k+1:Nat):Int)<(l.length:Int))]
    simp only [K8,D7g,D7L,D7j];exact ⟨_,rfl,k,hfk,⟨hk,hlw,fun hx=>absurd hx hlt⟩,rfl⟩)
 exact ⟨k,h1,h2,by rw [hr,hQ]⟩
end
theorem B4g {l:List B4} {N n:Int} (h:OkR l N) (hn:1<=n/\n<=N) (hl:l.length<=1000000000): ∃k,B3j l n k/\A1N l n 0=some (k:Int):=by
 have h0:0<l.length:=by
  rcases Nat.eq_zero_or_pos l.length with h0|h0
  ·have:=h.nil.1 h0;omega
  ·exact h0
 obtain ⟨k,_,h2,h3⟩:=B3T h hn hl h0 (fun j hj=>by omega)
 exact ⟨k,h2,h3⟩
end Go.Win
namespace Go.Win
open Go.Vc Go.Dec
theorem C1z {a:A2} (ha:I2 a) {b:Nat} (hb:b<2):B22 a (b:Int)=(I9 ((wv a*2+b)%340282366920938463463374607431768211456),wv a/170141183460469231731687303715884105728):=by
 obtain ⟨h,l⟩:=a;unfold I2 at ha;simp only at ha;obtain ⟨h,rfl⟩:=Int.eq_ofNat_of_zero_le ha.1;obtain ⟨l,rfl⟩:=Int.eq_ofNat_of_zero_le ha.2.2.1;unfold B22;have s1: ∀x:Int,E8 .u64 x 1=(x*2)%18446744073709551616:=fun x=>by
  have:=A9r x (k:=1) (by decide)
  simpa using this
 have s2: ∀x:Int,G1 .u64 x 63=x/9223372036854775808:=fun x=>by
  have:=B2m x (k:=63) (by decide)
  simpa using this
 have d1:=B5q (a:=h%9223372036854775808) (b:=l/9223372036854775808) (k:=1) (by omega) (by omega)
 have d2:=B5q (a:=l%9223372036854775808) (b:=b) (k:=1) (by omega) (by omega)
 have e1:((h:Int)*2)%18446744073709551616=((h%9223372036854775808*2^1:Nat):Int):=by omega
 have e2:((l:Int)*2)%18446744073709551616=((l%9223372036854775808*2^1:Nat):Int):=by omega
 have e3:(l:Int)/9223372036854775808=((l/9223372036854775808:Nat):Int):=by omega
 simp only [s1,s2,e1,e2,e3];rw [d1,d2];unfold I9 wv;simp only
 congr 1
 ·congr 1<;>omega
 ·omega
theorem D2X {x:Int} (h0:0<=x) (h1:x<18446744073709551616):O8 .u64 x 1=x%2:=by
 show IntKind.u64.wrap _=_;obtain ⟨n,rfl⟩:=Int.eq_ofNat_of_zero_le h0;have e:(BitVec.ofInt IntKind.u64.bits (n:Int)&&&BitVec.ofInt IntKind.u64.bits 1).toNat=n%2:=by
  have hb:IntKind.u64.bits=64:=rfl;rw [hb,BitVec.toNat_and,BitVec.toNat_ofInt,BitVec.toNat_ofInt];have h2:(((n:Int)%((2^64:Nat):Int)).toNat)=n:=by omega
  have h3:((1:Int)%((2^64:Nat):Int)).toNat=2^1-1:=by decide
  rw [h2,h3,Nat.and_two_pow_sub_one_eq_mod]
 rw [e,IntKind.wrap_u64];omega
theorem B7p {m n:Nat} (h:m<=n):(2:Int)^n=2^m*2^(n-m):=by
 rw [<-Int.pow_add,show m+(n-m)=n by omega]
theorem D4g {a:A2} (ha:I2 a) {i:Nat} (hi:i<=127):C2s a (i:Int)=some ((wv a/2^i)%2):=by
 unfold I2 at ha;unfold C2s wv;have p64:(2:Int)^64=18446744073709551616:=by decide
 by_cases h:64<=i
 ·rw [D7l (by omega:(i:Int)>=64),D7k]
  have e1:A4 (A1 ((i:Int)-64))=((i-64:Nat):Int):=by rw [C7 (by omega) (by omega),K3];omega
  rw [e1,M4 (by rw [D7i];omega),B2m _ (by omega)]
  have p:=A0J (i-64);have e2:(a.Hi*18446744073709551616+a.Lo)/2^i=a.Hi/2^(i-64):=by
   rw [B7p h,p64,<-Int.ediv_ediv_of_nonneg (by decide)]
   congr 1
   omega
  have e3:0<=a.Hi/2^(i-64):=Int.ediv_nonneg ha.1 (by omega)
  have e4:a.Hi/2^(i-64)<=a.Hi:=Int.ediv_le_self _ ha.1;rw [e2,D2X e3 (by omega)]
 ·rw [D7n (by omega: ¬(i:Int)>=64),D7j]
  have e1:A4 (i:Int)=(i:Int):=by rw [K3];omega
  rw [e1,M4 (by rw [D7i];omega),B2m _ (by omega)]
  have p:=A0J i;have e3:0<=a.Lo/2^i:=Int.ediv_nonneg ha.2.2.1 (by omega)
  have e4:a.Lo/2^i<=a.Lo:=Int.ediv_le_self _ ha.2.2.1;rw [D2X e3 (by omega)]
  have e5:(a.Hi*18446744073709551616+a.Lo)/2^i=a.Lo/2^i+2*(a.Hi*2^(63-i)):=by
   have:a.Hi*18446744073709551616+a.Lo=a.Lo+2^i*(2*(a.Hi*2^(63-i))):=by
    have q:=B7p (m:=i) (n:=63) (by omega)
    have p63:(2:Int)^63=9223372036854775808:=by decide
    rw [p63] at q;have:(2:Int)^i*(2*(a.Hi*2^(63-i)))=2*(a.Hi*(2^i*2^(63-i))):=by grind
    rw [this,<-q];omega
   rw [this,Int.add_mul_ediv_left _ _ (by omega)]
  rw [e5]
  congr 1
  omega
theorem B6a {a b q r:Int} (h:a=q*b+r) (h0:0<=r) (h1:r<b):a/b=q/\a%b=r:=by
 rw [Int.ediv_emod_unique (by omega)]
 refine ⟨?_,h0,h1⟩;rw [h,Int.mul_comm];omega
theorem D3T (a b:Nat):B73 (a:Int) (b:Int)=some ((Nat.gcd a b:Nat):Int):=by
 unfold B73;have c:(decide ((a:Int)<0)||decide ((b:Int)<0))=false:=by
  rw [D7Q,D7x,D7x];omega
 rw [c,D7j];unfold B98;obtain ⟨r,hr,hQ⟩:=R3 (f:=fun s:Int×Int=>B4f s.1 s.2)
  (fun s=> ∃x y:Nat,s=((x:Int),(y:Int))/\Nat.gcd x y=Nat.gcd a b)
  (fun s=>s.2.toNat) (fun r=>r=((Nat.gcd a b:Nat):Int)) ((a:Int),(b:Int)) ⟨a,b,rfl,rfl⟩ (by
   rintro _ ⟨x,y,rfl,hg⟩;simp only;unfold B4f
   by_cases h0:y=0
   ·right;subst h0;refine ⟨_,rfl, ?_⟩;rw [<-hg,Nat.gcd_zero_right]
   ·left;have c:((y:Int) !=0)=true:=by rw [bne_iff_ne];omega
    rw [c,D7k,M4 (by rw [D7i];omega)]
    refine ⟨_,rfl,⟨y,x%y,rfl, ?_⟩, ?_⟩
    ·rw [<-hg,Nat.gcd_comm,<-Nat.gcd_rec,Nat.gcd_comm]
    ·show (((x%y:Nat):Int)).toNat<(y:Int).toNat;have:=Nat.mod_lt x (show 0<y by omega)
     omega)
 rw [hr,hQ]
theorem B8A {x y:Int} (h0:0<=x) (h1:x<18446744073709551616) (h2:0<y):A1j 0 x y=some (x/y,x%y):=by
 unfold A1j;have c1:(y==(0:Int))=false:=by rw [D76];omega
 have c2:decide (y<=0)=false:=by rw [D7x];omega
 rw [c1,c2,D7j,D7j,M4 (by rw [D7i];omega),M4 (by rw [D7i];omega)]
 have e1:Int.tdiv x y=x/y:=Int.tdiv_eq_ediv_of_nonneg h0;have e2:Int.tmod x y=x%y:=Int.tmod_eq_emod_of_nonneg h0;have e3:0<=x/y:=Int.ediv_nonneg h0 (by omega)
 have e4:x/y<=x:=Int.ediv_le_self _ h0;have e5:A4 (x/y)=x/y:=by rw [K3];omega
 rw [e1,e2,e5]
 rfl
theorem B40 {n:Int} (h0:0<=n) (h1:n<18446744073709551616):I2 (S5 n)/\wv (S5 n)=n:=by
 unfold I2 wv S5;simp only;omega
end Go.Win
namespace Go.Win
open Go.Vc Go.Dec
theorem C5r {a:A2} (ha:I2 a): ∃n:Nat,n<=128/\A72 a=some (n:Int)/\wv a<2^n:=by
 unfold I2 at ha;have p64:(2:Int)^64=18446744073709551616:=by decide
 unfold A72
 by_cases hh:a.Hi=0
 ·have c:(a.Hi !=(0:Int))=false:=by rw [bne_eq_false_iff_eq];exact hh
  rw [c,D7j]
  by_cases hl:a.Lo=0
  ·refine ⟨0,by omega, ?_, ?_⟩
   ·rw [hl];rfl
   ·unfold wv;rw [hh,hl];decide
  ·obtain ⟨b,b1,b2,b3,b4,b5⟩:=A4o (x:=a.Lo) (by omega) (by omega)
   refine ⟨b,by omega, ?_, ?_⟩
   ·rw [b1];rfl
   ·unfold wv;rw [hh];omega
 ·have c:(a.Hi !=(0:Int))=true:=by rw [bne_iff_ne];exact hh
  rw [c,D7k];obtain ⟨b,b1,b2,b3,b4,b5⟩:=A4o (x:=a.Hi) (by omega) (by omega)
  refine ⟨64+b,by omega, ?_, ?_⟩
  ·rw [b1];simp only [D7g];rw [C7 (by omega) (by omega)]
   rfl
  ·unfold wv;rw [Int.pow_add,p64];have:a.Hi+1<=2^b:=by omega
   have:=Int.mul_le_mul_of_nonneg_left this (show (0:Int)<=18446744073709551616 by decide)
   omega
theorem B2y {a:A2} (ha:I2 a) {b:Nat} (hb:b<2):
  O0 .u64 (E8 .u64 a.Hi 1) (G1 .u64 a.Lo 63)=(I9 ((wv a*2+b)%340282366920938463463374607431768211456)).Hi/\
  O0 .u64 (E8 .u64 a.Lo 1) (b:Int)=(I9 ((wv a*2+b)%340282366920938463463374607431768211456)).Lo/\
  G1 .u64 a.Hi 63=wv a/170141183460469231731687303715884105728:=by
 have h:=C1z ha hb;unfold B22 at h;have h1:=congrArg (fun x=>x.1.Hi) h;have h2:=congrArg (fun x=>x.1.Lo) h;have h3:=congrArg (fun x=>x.2) h;exact ⟨h1,h2,h3⟩
theorem D5Z {a:A2} (ha:I2 a):E8 .u64 a.Lo 1=(I9 ((wv a*2)%340282366920938463463374607431768211456)).Lo:=by
 have:=A9r a.Lo (k:=1) (by decide)
 have e:E8 .u64 a.Lo 1=(a.Lo*2)%18446744073709551616:=by simpa using this
 unfold I2 at ha;rw [e];unfold I9 wv;simp only;omega
theorem B3g {a b:A2} (ha:I2 a) (hb:I2 b) (h0:0<wv b):A19 a b=some (I9 (wv a/wv b),I9 (wv a%wv b),true):=by
 have ra:=A9O ha;have rb:=A9O hb;obtain ⟨n0,hn0,hbits,hAn⟩:=C5r ha;have hne:A09 b=false:=by
  unfold wv at h0;unfold I2 at hb;unfold A09;simp only [D77,D76];omega
 unfold A19;rw [hne,hbits];simp only [D7j,D7g];unfold B8Z
 generalize hA:wv a=A at*
 generalize hB:wv b=B at*
 have e0:A1 ((n0:Int)-1)=(n0:Int)-1:=by rw [C7]<;>omega
 rw [e0];obtain ⟨r,hr,hQ⟩:=R3 (f:=fun s:Int×Int×Int×Int×Int=>B3c a b s.1 s.2.1 s.2.2.1 s.2.2.2.1 s.2.2.2.2)
  (fun s=> ∃k:Nat,k<=n0/\s=((k:Int)-1,(I9 (A/2^k/B)).Hi,(I9 (A/2^k/B)).Lo,(I9 (A/2^k%B)).Hi,(I9 (A/2^k%B)).Lo))
  (fun s=>(s.1+1).toNat) (fun r=>r=(I9 (A/B),I9 (A%B),true)) ((n0:Int)-1,0,0,0,0) ⟨n0,D7Y _,by
   have:A/2^n0=0:=Int.ediv_eq_zero_of_lt ra.1 hAn;rw [this];simp [I9]⟩ (by
   rintro _ ⟨k,hk,rfl⟩;simp only;unfold B3c;cases k with
   |zero=>
    right;rw [D7n (by omega: ¬(((0:Nat):Int)-1>=0)),D7j]
    refine ⟨_,rfl, ?_⟩;simp only [Int.pow_zero,Int.ediv_one]
   |succ i=>
    left;have e0:(((i+1:Nat):Int)-1)=(i:Int):=by omega
    have hbit:B9r a (i:Int)=some ((wv a/2^i)%2):=D4g ha (by omega)
    rw [e0,D7l (by omega:(i:Int)>=0),D7k,hbit,hA]
    simp only [D7g];have hA2:A/2^(i+1)=A/2^i/2:=by
     rw [Int.pow_succ,Int.ediv_ediv_of_nonneg (by have:=A0J i;omega)]
    have hAi0:0<=A/2^i:=Int.ediv_nonneg ra.1 (by have:=A0J i;omega)
    have hAi1:A/2^i<=A:=Int.ediv_le_self _ ra.1;rw [hA2]
    generalize hNd:A/2^i=N at*
    obtain ⟨β,hβ⟩:=Int.eq_ofNat_of_zero_le (show 0<=N%2 by omega)
    have hβ2:β<2:=by omega
    have hR0:0<=N/2%B:=Int.emod_nonneg _ (by omega)
    have hR1:N/2%B<B:=Int.emod_lt_of_pos _ h0;have hQ0:0<=N/2/B:=Int.ediv_nonneg (by omega) (by omega)
    have hQ1:N/2/B<=N/2:=Int.ediv_le_self _ (by omega)
    have hQR:=Int.mul_ediv_add_emod (N/2) B
    generalize hRR:N/2%B=R at*
    generalize hQQ:N/2/B=Q at*
    have hN:N=(2*Q)*B+(2*R+β):=by
     have:B*Q=Q*B:=Int.mul_comm _ _;have:2*Q*B=2*(Q*B):=Int.mul_assoc _ _ _;omega
    have oR:I2 (I9 R):=A0e hR0 (by omega)
    have oQ:I2 (I9 Q):=A0e hQ0 (by omega)
    obtain ⟨d1,d2,d3⟩:=B2y oR hβ2;rw [Z1] at d1 d2 d3;rw [hβ,d1,d2,d3];have hX0:0<=(R*2+β)%340282366920938463463374607431768211456:=by omega
    have hX1:(R*2+β)%340282366920938463463374607431768211456<340282366920938463463374607431768211456:=by omega
    have oX:=A0e hX0 hX1;have hc:T8 ⟨(I9 ((R*2+β)%340282366920938463463374607431768211456)).Hi,(I9 ((R*2+β)%340282366920938463463374607431768211456)).Lo⟩ b=if (R*2+β)%340282366920938463463374607431768211456<B then-1 else if (R*2+β)%340282366920938463463374607431768211456=B then 0 else 1:=by
     have:=A83 oX hb;rw [Z1,hB] at this;exact this
    simp only [hc];have ew:A1 ((i:Int)-1)=(i:Int)-1:=by rw [C7]<;>omega
    by_cases hge:B<=2*R+β
    ·have c1:((R/170141183460469231731687303715884105728==1)||decide ((if (R*2+β)%340282366920938463463374607431768211456<B then (-1:Int) else if (R*2+β)%340282366920938463463374607431768211456=B then 0 else 1)>=0))=true:=by
      rw [D7r,D8a,D7i]
      by_cases ho:R/170141183460469231731687303715884105728=1
      ·exact .inl ho
      ·right;rw [if_neg (by omega)]
       split<;>omega
     rw [c1,D7k];have dm:=B6a (a:=N) (b:=B) (q:=2*Q+1) (r:=2*R+β-B) (by rw [Int.add_mul,hN];omega) (by omega) (by omega)
     unfold I2 at oX hb;unfold wv at hB;rw [B79 _ _ _ (by omega) (by omega) (by omega) (by omega) (by omega)]
     simp only [D7g];have hbw:(if (I9 ((R*2+β)%340282366920938463463374607431768211456)).Lo<b.Lo+0 then (1:Int) else 0)<=1/\0<=(if (I9 ((R*2+β)%340282366920938463463374607431768211456)).Lo<b.Lo+0 then (1:Int) else 0):=by split<;>omega
     rw [B79 _ _ _ (by omega) (by omega) (by omega) (by omega) (by omega)]
     simp only [D7g];obtain ⟨q1,q2,_⟩:=B2y oQ (b:=1) (by omega)
     rw [Z1] at q1 q2;change _=(I9 ((Q*2+1)%340282366920938463463374607431768211456)).Hi at q1;change O0 .u64 (E8 .u64 (I9 Q).Lo 1) 1=(I9 ((Q*2+1)%340282366920938463463374607431768211456)).Lo at q2;have hQ2:2*Q+1<=N:=by
      have:=Int.ediv_le_self B (show 0<=N by omega)
      omega
     rw [q1,q2,ew];refine ⟨_,rfl,⟨i,by omega, ?_⟩,by show ((i:Int)-1+1).toNat<((i:Int)+1).toNat;omega⟩
     rw [hNd,dm.1,dm.2];have:(Q*2+1)%340282366920938463463374607431768211456=2*Q+1:=by omega
     rw [this];unfold I9 at hbw⊢;simp only at hbw⊢
     congr 3
     split
     ·congr 1<;>omega
     ·congr 1<;>omega
    ·have hX:(R*2+β)%340282366920938463463374607431768211456=2*R+β:=by omega
     have c1:((R/170141183460469231731687303715884105728==1)||decide ((if (R*2+β)%340282366920938463463374607431768211456<B then (-1:Int) else if (R*2+β)%340282366920938463463374607431768211456=B then 0 else 1)>=0))=false:=by
      rw [D7Q,D76,D7x];refine ⟨by omega, ?_⟩
      rw [if_pos (by omega)]
      omega
     rw [c1,D7j];have dm:=B6a (a:=N) (b:=B) (q:=2*Q) (r:=2*R+β) hN (by omega) (by omega)
     obtain ⟨q1,_,_⟩:=B2y oQ (b:=0) (by omega)
     have q2:=D5Z oQ;rw [Z1] at q1 q2;change _=(I9 ((Q*2+0)%340282366920938463463374607431768211456)).Hi at q1;rw [Int.add_zero] at q1;rw [q1,q2,ew];refine ⟨_,rfl,⟨i,by omega, ?_⟩,by show ((i:Int)-1+1).toNat<((i:Int)+1).toNat;omega⟩
     rw [hNd,dm.1,dm.2,hX];have:(Q*2)%340282366920938463463374607431768211456=2*Q:=by omega
     rw [this])
 rw [hr,hQ]
end Go.Win
namespace Go.Win
open Go.Vc Go.Dec
theorem D6q {r:D4} (hb:okB r=true) {n:Int} (hn:1<=n/\n<=r.N) (hl:r.Ae.length<=1000000000): ∃k:Nat,A1N r.Ae n 0=some (k:Int)/\C1 r.Ae (k:Int)=some (J4 r.Ae k):=by
 obtain ⟨k,k1,k2⟩:=B4g ((A9u r).1 hb) hn hl;exact ⟨k,k2,A0n k1.lt⟩
theorem C35 (t:Int):A0y 1 t=if t<1 then 1 else t:=by
 show (if t>1 then t else 1)=_
 split<;>split<;>omega
theorem C2C {p q n:Int} (hp:0<=p) (hpq:p<=q) (hq:1<=q) (hq2:q<=9223372036854775807) (hn:1<=n) (hn2:n<=1099511627776):
  ∃lo rem:Int,A19 (R1 (A4 p) (A4 n)) (K6 (A4 q))=some (⟨0,lo⟩,rem|>I9,true)/\
   lo=p*n/q/\rem=p*n%q/\0<=lo/\lo<=n/\(rem≠0->lo+1<=n)/\0<=rem/\rem<q:=by
 have e1:A4 p=p:=by rw [K3];omega
 have e2:A4 n=n:=by rw [K3];omega
 have e3:A4 q=q:=by rw [K3];omega
 rw [e1,e2,e3];have hX0:0<=p*n:=Int.mul_nonneg hp (by omega)
 have hX1:=(A7W (x:=p) (y:=n) (by omega) (by omega)).2
 have hprod:R9 p n=I9 (p*n):=A8r (by omega) (by omega)
 have hprod2:R1 p n=I9 (p*n):=hprod;have oX:=A0e hX0 hX1;obtain ⟨oq,vq⟩:=B40 (n:=q) (by omega) (by omega)
 have hqq:q*n=n*q:=Int.mul_comm _ _;have hle:p*n<=q*n:=Int.mul_le_mul_of_nonneg_right hpq (by omega)
 have hdm:=Int.mul_ediv_add_emod (p*n) q;have hr0:=Int.emod_nonneg (p*n) (show q≠0 by omega)
 have hr1:=Int.emod_lt_of_pos (p*n) (show 0<q by omega)
 have hlo0:0<=p*n/q:=Int.ediv_nonneg hX0 (by omega)
 have hlo1:p*n/q<=n:=by
  have:p*n/q<=(n*q)/q:=Int.ediv_le_ediv (by omega) (by omega)
  rwa [Int.mul_ediv_cancel _ (by omega)] at this
 have hsmall:I9 (p*n/q)=⟨0,p*n/q⟩:=by
  unfold I9;congr 1<;>omega
 refine ⟨p*n/q,p*n%q, ?_,rfl,rfl,hlo0,hlo1,fun hne=> ?_,hr0,hr1⟩
 ·rw [hprod2];have:=B3g oX (b:=K6 q) oq (by show 0<wv (S5 q);rw [vq];omega)
  rw [this,Z1];show some (I9 (p*n/wv (S5 q)),I9 (p*n%wv (S5 q)),true)=_;rw [vq,hsmall]
 ·
  rcases Int.lt_or_le (p*n/q) n with hlt|hge
  ·omega
  ·exfalso;have:p*n/q=n:=by omega
   rw [this] at hdm;omega
theorem C54 (r:D4) (p q:Int) (hp:-9223372036854775808<=p/\p<=9223372036854775807) (hq:-9223372036854775808<=q/\q<=9223372036854775807) (hl:r.Ae.length<=1000000000):
  ∃x,A4x r p q=some x:=by
 unfold A4x;rw [A0w r hl];simp only [D7g];cases hb:okB r with
 |false=>exact ⟨_,rfl⟩
 |true=>
  have h:=(A9u r).1 hb;simp only [D7k,D7T,D7j];cases hc:((decide (q<1)||decide (p<0))||decide (p>q)) with
  |true=>exact ⟨_,rfl⟩
  |false=>
   simp only [D7Q,D7x] at hc;simp only [D7j];cases hN:r.N==0 with
   |true=>exact ⟨_,rfl⟩
   |false=>
    rw [D76] at hN;have n0:=h.n0;have n1:=h.n1;obtain ⟨lo,rem,d1,_,_,l0,l1,l2,r0,r1⟩:=C2C (p:=p) (q:=q) (n:=r.N) (by omega) (by omega) (by omega) (by omega) (by omega) n1
    simp only [d1,D7g,D7j];have hz:(!((I9 rem).Hi==0&&((I9 rem).Lo==0&&true)))=decide (rem≠0):=by
     have g1:wv (I9 rem)=rem:=Z1 rem;unfold I9 at*
     unfold wv at g1;rw [D7B];simp only [Bool.and_true,D7C,D77,D76,D7i];simp only at g1;omega
    rw [hz];have e1:A1 lo=lo:=by rw [C7]<;>omega
    have key: ∀n:Int,1<=n/\n<=r.N-> ∃k:Nat,A1N r.Ae n 0=some (k:Int)/\C1 r.Ae (k:Int)=some (J4 r.Ae k):=fun n hn=>D6q hb hn hl
    by_cases hr:rem=0
    ·rw [D7n (by simpa using hr)]
     simp only [D7j];obtain ⟨k,k1,k2⟩:=key (A0y 1 lo) (by rw [C35];split<;>omega)
     unfold A4c;rw [e1,k1,D7g,k2];exact ⟨_,rfl⟩
    ·rw [D7l (by simpa using hr)]
     have l3:=l2 hr;simp only [D7k];have e2:A1 (lo+1)=lo+1:=by rw [C7]<;>omega
     have e3:A4 (lo+1)=lo+1:=by rw [K3];omega
     obtain ⟨k,k1,k2⟩:=key (A0y 1 (lo+1)) (by rw [C35];split<;>omega)
     unfold A4c;rw [e3,e2,k1,D7g,k2];exact ⟨_,rfl⟩
def A3I (l:List B4) (m:Nat):Int:=if m=0 then 0 else (J4 l (m-1)).Bt
def A36 (l:List B4) (N:Int) (m:Nat):Int:=if m<l.length then (J4 l m).Bs-1 else N
theorem C3A {l:List B4} {N:Int} (h:OkR l N) {m:Nat} (h1:m<=l.length):0<=A3I l m/\A3I l m<=A36 l N m/\A36 l N m<=N:=by
 have n0:=h.n0;unfold A3I A36
 by_cases hm0:m=0
 ·subst hm0;rw [if_pos rfl]
  by_cases hl:0<l.length
  ·rw [if_pos hl,h.first hl];have:=h.rng 0 hl;omega
  ·rw [if_neg hl];omega
 ·rw [if_neg hm0];have g1:=h.rng (m-1) (by omega)
  by_cases hl:m<l.length
  ·rw [if_pos hl];have g2:=h.rng m hl;have g3:=h.up (m-1) (by omega)
   rw [show m-1+1=m by omega] at g3
   omega
  ·rw [if_neg hl];omega
end Go.Win
namespace Go.Win
open Go.Vc Go.Dec
def tk (A B:List B4) (p:Nat×Nat):Bool:=decide (p.2=B.length)||(decide (p.1<A.length)&&decide ((J4 A p.1).V<=(J4 B p.2).V))
def A3l (A B:List B4) (p:Nat×Nat):Nat×Nat:=cond (tk A B p) (p.1+1,p.2) (p.1,p.2+1)
def R2 (A B:List B4):Nat->Nat×Nat
 |0=>(0,0)
 |k+1=>A3l A B (R2 A B k)
def me (A B:List B4) (a b:Int) (k:Nat):B4:=
 ⟨cond (tk A B (R2 A B k)) (J4 A (R2 A B k).1).V (J4 B (R2 A B k).2).V,
  A3I A (R2 A B (k+1)).1+A3I B (R2 A B (k+1)).2,A36 A a (R2 A B k).1+A36 B b (R2 A B k).2+1⟩
def meL (A B:List B4) (a b:Int) (n:Nat):List B4:=(List.range n).map (me A B a b)
theorem A0c (A B:List B4) (a b:Int) (n:Nat):(meL A B a b n).length=n:=by unfold meL;simp
theorem D17 (A B:List B4) (a b:Int) (n:Nat):meL A B a b (n+1)=meL A B a b n++ [me A B a b n]:=by
 unfold meL;rw [List.range_succ,D8f]
 rfl
theorem C7h (A B:List B4) (a b:Int) {n i:Nat} (h:i<n):J4 (meL A B a b n) i=me A B a b i:=by
 unfold J4 meL;rw [D8c,D7P,List.getElem?_range h]
 rfl
theorem C1E {A B:List B4} {p:Nat×Nat} (h1:p.1<=A.length) (_:p.2<=B.length) (h3:p.1+p.2<A.length+B.length) (h:tk A B p=true):
  p.1<A.length/\(p.2<B.length->(J4 A p.1).V<=(J4 B p.2).V):=by
 unfold tk at h;simp only [D7r,D7o,D7i] at h;rcases h with h|⟨h4,h5⟩
 ·exact ⟨by omega,fun g=>by omega⟩
 ·exact ⟨h4,fun _=>h5⟩
theorem B9p {A B:List B4} {p:Nat×Nat} (h2:p.2<=B.length) (h:tk A B p=false):
  p.2<B.length/\(p.1<A.length->(J4 B p.2).V<(J4 A p.1).V):=by
 unfold tk at h;simp only [D7Q,D77,D7x] at h;obtain ⟨h4,h5⟩:=h;refine ⟨by omega,fun g=> ?_⟩
 rcases h5 with h5|h5
 ·exact absurd g h5
 ·omega
theorem C8S (A B:List B4): ∀k,k<=A.length+B.length->(R2 A B k).1<=A.length/\(R2 A B k).2<=B.length/\(R2 A B k).1+(R2 A B k).2=k:=by
 intro k
 induction k with
 |zero=>intro _;exact ⟨Nat.zero_le _,Nat.zero_le _,rfl⟩
 |succ k ih=>
  intro hk;obtain ⟨i1,i2,i3⟩:=ih (by omega)
  show (A3l A B (R2 A B k)).1<=_/\(A3l A B (R2 A B k)).2<=_/\(A3l A B (R2 A B k)).1+(A3l A B (R2 A B k)).2=_;unfold A3l;cases ht:tk A B (R2 A B k) with
  |true=>
   have:=(C1E i1 i2 (by omega) ht).1
   simp only [D7k];omega
  |false=>
   have:=(B9p i2 ht).1;simp only [D7j];omega
theorem C7i {A B:List B4} {a b:Int} {k:Nat} (hk:k<A.length+B.length) (ht:tk A B (R2 A B k)=true):
  me A B a b k=⟨(J4 A (R2 A B k).1).V,(J4 A (R2 A B k).1).Bt+A3I B (R2 A B k).2,(J4 A (R2 A B k).1).Bs+A36 B b (R2 A B k).2⟩:=by
 obtain ⟨i1,i2,i3⟩:=C8S A B k (by omega)
 obtain ⟨t1,_⟩:=C1E i1 i2 (by omega) ht
 unfold me;rw [show R2 A B (k+1)=A3l A B (R2 A B k) from rfl];unfold A3l;rw [ht];simp only [D7k];have e1:A3I A ((R2 A B k).1+1)=(J4 A (R2 A B k).1).Bt:=by unfold A3I;rw [if_neg (by omega),D7X]
 have e2:A36 A a (R2 A B k).1=(J4 A (R2 A B k).1).Bs-1:=by unfold A36;rw [if_pos t1]
 rw [e1,e2]
 congr 1
 omega
theorem C4j {A B:List B4} {a b:Int} {k:Nat} (hk:k<A.length+B.length) (ht:tk A B (R2 A B k)=false):
  me A B a b k=⟨(J4 B (R2 A B k).2).V,(J4 B (R2 A B k).2).Bt+A3I A (R2 A B k).1,(J4 B (R2 A B k).2).Bs+A36 A a (R2 A B k).1⟩:=by
 obtain ⟨i1,i2,i3⟩:=C8S A B k (by omega)
 obtain ⟨t1,_⟩:=B9p i2 ht;unfold me;rw [show R2 A B (k+1)=A3l A B (R2 A B k) from rfl];unfold A3l;rw [ht];simp only [D7j];have e1:A3I B ((R2 A B k).2+1)=(J4 B (R2 A B k).2).Bt:=by unfold A3I;rw [if_neg (by omega),D7X]
 have e2:A36 B b (R2 A B k).2=(J4 B (R2 A B k).2).Bs-1:=by unfold A36;rw [if_pos t1]
 rw [e1,e2]
 congr 1<;>omega
theorem B9A {B:List B4} {b:Int} (hB:OkR B b) (e:B4) (h1:0<=e.Bt/\e.Bt<=1099511627776) (h2:0<=e.Bs/\e.Bs<=1099511627776) {j:Nat} (hj:j<=B.length) (hl:B.length<=1000000000):
  A5E e B (j:Int) b=some ⟨e.V,e.Bt+A3I B j,e.Bs+A36 B b j⟩:=by
 have n1:=hB.n1;have n0:=hB.n0;obtain ⟨o1,o2,o3⟩:=C3A hB hj;have hj1: ∀m:Int,A5a e B (j:Int) b m=some ⟨e.V,m,e.Bs+A36 B b j⟩:=by
  intro m;unfold A5a
  by_cases hlt:j<B.length
  ·have r:=hB.rng j hlt;have e1:A36 B b j=(J4 B j).Bs-1:=by unfold A36;rw [if_pos hlt]
   rw [D7l (by omega),D7k,A0n hlt]
   simp only [D7g];rw [show A1 ((J4 B j).Bs-1)=(J4 B j).Bs-1 by rw [C7]<;>omega,show A1 (e.Bs+((J4 B j).Bs-1))=e.Bs+((J4 B j).Bs-1) by rw [C7]<;>omega,e1]
  ·have e1:A36 B b j=b:=by unfold A36;rw [if_neg hlt]
   rw [D7n (by omega),D7j,e1,show A1 (e.Bs+b)=e.Bs+b by rw [C7]<;>omega]
 unfold A5E
 by_cases h0:0<j
 ·have e1:A3I B j=(J4 B (j-1)).Bt:=by unfold A3I;rw [if_neg (by omega)]
  rw [D7l (by omega),D7k,show A1 ((j:Int)-1)=((j-1:Nat):Int) by rw [C7]<;>omega,A0n (show j-1<B.length by omega)]
  simp only [D7g];rw [hj1,<-e1,show A1 (e.Bt+A3I B j)=e.Bt+A3I B j by rw [C7]<;>omega]
 ·have e1:A3I B j=0:=by unfold A3I;rw [if_pos (by omega)]
  rw [D7n (by omega),D7j,hj1,e1,Int.add_zero]
theorem D4t {α:Type} {A B:List B4} {p:Nat×Nat} (h1:p.1<=A.length) (h2:p.2<=B.length) (X Y:Option α):
  (Option.bind (gd ((!((p.2:Int)==(B.length:Int)))&&(decide ((p.1:Int)<(A.length:Int)))) (C1 A (p.1:Int))) fun x=>
  Option.bind (gd ((!((p.2:Int)==(B.length:Int)))&&(decide ((p.1:Int)<(A.length:Int)))) (C1 B (p.2:Int))) fun y=>
  cond (((p.2:Int)==(B.length:Int))||((decide ((p.1:Int)<(A.length:Int)))&&(decide (x.V<=y.V)))) X Y)=cond (tk A B p) X Y:=by
 unfold tk
 by_cases hj:p.2=B.length
 ·rw [D8a.2 (by omega:(p.2:Int)=(B.length:Int)),D7l hj]
  rfl
 ·rw [D76.2 (by omega:(p.2:Int)≠(B.length:Int)),D7n hj]
  by_cases hi:p.1<A.length
  ·rw [D7l (by omega:(p.1:Int)<(A.length:Int)),D7l hi,A0n hi,A0n (show p.2<B.length by omega)]
   rfl
  ·rw [D7n (by omega: ¬(p.1:Int)<(A.length:Int)),D7n hi]
   rfl
theorem C8x (r s:D4) (hA:OkR r.Ae r.N) (hB:OkR s.Ae s.N) (la:r.Ae.length<=1000000000) (lb:s.Ae.length<=1000000000):
  B0R r s 0 0 []=some (⟨r.N+s.N,meL r.Ae s.Ae r.N s.N (r.Ae.length+s.Ae.length)⟩,0):=by
 have hm:(1000000000:Nat)<=maxLen:=by rw [K0];omega
 have an0:=hA.n0;have an1:=hA.n1;have bn0:=hB.n0;have bn1:=hB.n1;unfold B0R;obtain ⟨v,hv,hQ⟩:=R3 (f:=fun t:Int×Int×List B4=>A58 r s t.1 t.2.1 t.2.2)
  (fun t=> ∃k:Nat,k<=r.Ae.length+s.Ae.length/\t=(((R2 r.Ae s.Ae k).1:Int),((R2 r.Ae s.Ae k).2:Int),meL r.Ae s.Ae r.N s.N k))
  (fun t=>r.Ae.length+s.Ae.length-t.2.2.length) (fun v=>v=(⟨r.N+s.N,meL r.Ae s.Ae r.N s.N (r.Ae.length+s.Ae.length)⟩,0))
  (0,0, []) ⟨0,Nat.zero_le _,rfl⟩ (by
   rintro _ ⟨k,hk,rfl⟩;obtain ⟨i1,i2,i3⟩:=C8S r.Ae s.Ae k hk;simp only;unfold A58;rw [D4t i1 i2]
   by_cases hlt:k<r.Ae.length+s.Ae.length
   ·left;have hc:(decide (((R2 r.Ae s.Ae k).1:Int)<(r.Ae.length:Int))||decide (((R2 r.Ae s.Ae k).2:Int)<(s.Ae.length:Int)))=true:=by
     simp only [D7r,D7i];omega
    have hsucc:meL r.Ae s.Ae r.N s.N (k+1)=meL r.Ae s.Ae r.N s.N k++ [me r.Ae s.Ae r.N s.N k]:=D17 _ _ _ _ _;have hpt:R2 r.Ae s.Ae (k+1)=A3l r.Ae s.Ae (R2 r.Ae s.Ae k):=rfl;unfold A3l at hpt;rw [hc,D7k];unfold A57;cases ht:tk r.Ae s.Ae (R2 r.Ae s.Ae k) with
    |true=>
     obtain ⟨t1,_⟩:=C1E i1 i2 (by omega) ht
     have g:=hA.rng _ t1;rw [ht,D7k] at hpt;rw [D7k,A0n t1];simp only [D7g];rw [B9A hB _ (by omega) (by omega) i2 (by omega)]
     simp only [D7g];rw [M4 (by rw [D7i,A0c,D7V];omega),S6 t1 (by omega),<-C7i hlt ht,<-hsucc]
     refine ⟨_,rfl,⟨k+1,hlt,by rw [hpt];rfl⟩,by show _-(meL _ _ _ _ _).length<_-(meL _ _ _ _ _).length;rw [A0c,A0c];omega⟩
    |false=>
     obtain ⟨t1,_⟩:=B9p i2 ht;have g:=hB.rng _ t1;rw [ht,D7j] at hpt;rw [D7j,A0n t1];simp only [D7g];rw [B9A hA _ (by omega) (by omega) i1 (by omega)]
     simp only [D7g];rw [M4 (by rw [D7i,A0c,D7V];omega),S6 t1 (by omega),<-C4j hlt ht,<-hsucc]
     refine ⟨_,rfl,⟨k+1,hlt,by rw [hpt];rfl⟩,by show _-(meL _ _ _ _ _).length<_-(meL _ _ _ _ _).length;rw [A0c,A0c];omega⟩
   ·right;have hc:(decide (((R2 r.Ae s.Ae k).1:Int)<(r.Ae.length:Int))||decide (((R2 r.Ae s.Ae k).2:Int)<(s.Ae.length:Int)))=false:=by
     simp only [D7Q,D7x];omega
    have hke:k=r.Ae.length+s.Ae.length:=by omega
    rw [hc,D7j,show A1 (r.N+s.N)=r.N+s.N by rw [C7]<;>omega,hke]
    exact ⟨_,rfl,rfl⟩)
 rw [hv,hQ]
theorem C53 {B:List B4}: ∀k,k<=B.length->R2 [] B k=(0,k):=by
 intro k
 induction k with
 |zero=>intro _;rfl
 |succ k ih=>
  intro hk;rw [show R2 [] B (k+1)=A3l [] B (R2 [] B k) from rfl,ih (by omega)]
  have ht:tk [] B (0,k)=false:=by
   unfold tk;simp only [D7Q,D77,D7x];exact ⟨by omega, .inl (by simp)⟩
  unfold A3l;rw [ht]
  rfl
theorem C4A {A:List B4}: ∀k,k<=A.length->R2 A [] k=(k,0):=by
 intro k
 induction k with
 |zero=>intro _;rfl
 |succ k ih=>
  intro hk;rw [show R2 A [] (k+1)=A3l A [] (R2 A [] k) from rfl,ih (by omega)]
  have ht:tk A [] (k,0)=true:=by
   unfold tk;simp only [D7r,D7i];exact .inl rfl
  unfold A3l;rw [ht]
  rfl
theorem C64 {l m:List B4} (h:l.length=m.length) (h2:∀i,i<l.length->J4 l i=J4 m i):l=m:=by
 apply List.ext_getElem h;intro i h3 h4;rw [<-C65 h3,<-C65 h4,h2 i h3]
theorem C5Q {B:List B4} {b:Int}:meL [] B 0 b B.length=B:=by
 refine C64 (A0c _ _ _ _ _) fun i hi=> ?_;rw [A0c] at hi;rw [C7h _ _ _ _ hi];have hp:=C53 i (Nat.le_of_lt hi);have ht:tk [] B (R2 [] B i)=false:=by
  rw [hp];unfold tk;simp only [D7Q,D77,D7x];exact ⟨by omega, .inl (by simp)⟩
 rw [C4j (by simpa using hi) ht,hp]
 have e1:A3I [] 0=0:=rfl;have e2:A36 [] 0 0=0:=rfl;simp only [e1,e2,Int.add_zero]
theorem C4k {A:List B4} {a:Int}:meL A [] a 0 A.length=A:=by
 refine C64 (A0c _ _ _ _ _) fun i hi=> ?_;rw [A0c] at hi;rw [C7h _ _ _ _ hi];have hp:=C4A i (Nat.le_of_lt hi);have ht:tk A [] (R2 A [] i)=true:=by
  rw [hp];unfold tk;simp only [D7r,D7i];exact .inl rfl
 rw [C7i (by simpa using hi) ht,hp]
 have e1:A3I [] 0=0:=rfl;have e2:A36 [] 0 0=0:=rfl;simp only [e1,e2,Int.add_zero]
noncomputable def B92 (r s:D4):D4×Int:=
 cond (okB r&&okB s) (cond (decide (r.N+s.N>1099511627776)) (⟨0, []⟩,5) (⟨r.N+s.N,meL r.Ae s.Ae r.N s.N (r.Ae.length+s.Ae.length)⟩,0)) (⟨0, []⟩,2)
theorem C8T (r s:D4) (la:r.Ae.length<=1000000000) (lb:s.Ae.length<=1000000000):A56 r s=some (B92 r s):=by
 unfold A56 B92;rw [A0w r (by omega),A0w s (by omega)]
 simp only [D7g];cases hr:okB r with
 |false=>rfl
 |true=>
  cases hs:okB s with
  |false=>rfl
  |true=>
   have hA:=(A9u r).1 hr;have hB:=(A9u s).1 hs;have an0:=hA.n0;have an1:=hA.n1;have bn0:=hB.n0;have bn1:=hB.n1;simp only [D7k,D7T,D7j,Bool.and_self];rw [show A1 (1099511627776-s.N)=1099511627776-s.N by rw [C7]<;>omega]
   by_cases hsum:r.N+s.N>1099511627776
   ·rw [D7l hsum,D7l (by omega)]
    rfl
   ·rw [D7n hsum,D7n (by omega)]
    simp only [D7j]
    by_cases ha:r.N=0
    ·have hnil:r.Ae= []:=D71 (hA.nil.2 ha);rw [D8a.2 ha,D7k];unfold A23;rw [M4 (by rw [D7i];simp only [D7M];omega),hnil,ha]
     simp only [D7g,List.nil_append,D7M,Nat.zero_add,Int.zero_add,C5Q]
    ·rw [D76.2 ha,D7j]
     by_cases hb:s.N=0
     ·have hnil:s.Ae= []:=D71 (hB.nil.2 hb);rw [D8a.2 hb,D7k];unfold A23;rw [M4 (by rw [D7i];simp only [D7M];omega),hnil,hb]
      simp only [D7g,List.nil_append,D7M,Nat.add_zero,Int.add_zero,C4k]
     ·rw [D76.2 hb,D7j];exact C8x r s hA hB la lb
section widened
variable {s:D4} (hB:OkR s.Ae s.N) (lb:s.Ae.length<=1000000000)
include hB lb
end widened
end Go.Win
namespace Go.Win
open Go.Vc Go.Dec
def rk (N b:Int) (i:Nat):Int:=1+((i:Int)*(N-1))/b
def B4e (K:Nat->Nat):Nat->List Nat
 |0=> []
 |i+1=>B4e K i++(if i=0\/K i≠K (i-1) then [K i] else [])
theorem C39 (K:Nat->Nat): ∀m,(B4e K m).length<=m:=by
 intro m
 induction m with
 |zero=>exact D7Y _
 |succ m ih=>
  unfold B4e;rw [D7m];split
  ·rw [D7V];omega
  ·rw [D7M];omega
theorem D4k {N b:Int} (hN:1<=N) (hb:1<=b) (i:Nat):rk N b i<=rk N b (i+1)/\rk N b (i+1)-rk N b i<=(N-1+b-1)/b:=by
 unfold rk;have e:((i+1:Nat):Int)*(N-1)=(i:Int)*(N-1)+(N-1):=by rw [Int.natCast_add,Int.add_mul];simp
 rw [e]
 generalize (i:Int)*(N-1)=X
 have h1:=Int.mul_ediv_add_emod X b;have h2:=Int.emod_nonneg X (show b≠0 by omega)
 have h3:=Int.emod_lt_of_pos X (show 0<b by omega)
 have e2:(X+(N-1))/b=X/b+(X%b+(N-1))/b:=by
  have:X+(N-1)=(X%b+(N-1))+b*(X/b):=by omega
  rw [this,Int.add_mul_ediv_left _ _ (by omega)]
  omega
 have h4:0<=(X%b+(N-1))/b:=Int.ediv_nonneg (by omega) (by omega)
 have h5:(X%b+(N-1))/b<=(N-1+b-1)/b:=Int.ediv_le_ediv (by omega) (by omega)
 rw [e2];omega
theorem C1A {N b:Int} (hN:1<=N) (hb:1<=b) {i j:Nat} (h:i<=j):rk N b i<=rk N b j:=by
 induction j with
 |zero=>have:i=0:=by omega
        subst this;exact Int.le_refl _
 |succ j ih=>
  rcases Nat.lt_or_ge i (j+1) with hlt|hge
  ·exact Int.le_trans (ih (by omega)) (D4k hN hb j).1
  ·have:i=j+1:=by omega
   subst this;exact Int.le_refl _
theorem D4l (N b:Int):rk N b 0=1:=by unfold rk;simp
theorem D4j {N:Int} {b:Nat} (hb:1<=b):rk N (b:Int) b=N:=by
 unfold rk;rw [Int.mul_ediv_cancel_left _ (by omega)]
 omega
theorem B9m {N:Int} {b:Nat} (hN:1<=N) (hb:1<=b) {i:Nat} (hi:i<=b):1<=rk N (b:Int) i/\rk N (b:Int) i<=N:=by
 have h1:=C1A hN (show (1:Int)<=(b:Int) by omega) (Nat.zero_le i)
 have h2:=C1A hN (show (1:Int)<=(b:Int) by omega) hi
 rw [D4l] at h1;rw [D4j hb] at h2;exact ⟨h1,h2⟩
open Classical in
noncomputable def kOf (l:List B4) (n:Int):Nat:=if h: ∃k,B3j l n k then Classical.choose h else 0
theorem C2f {l:List B4} {N n:Int} (h:OkR l N) (hn:1<=n/\n<=N) (hl:l.length<=1000000000):B3j l n (kOf l n):=by
 obtain ⟨k,hk,_⟩:=B4g h hn hl;unfold kOf;rw [dif_pos ⟨k,hk⟩];exact Classical.choose_spec (⟨k,hk⟩: ∃k,B3j l n k)
section
variable {l:List B4} {N:Int} (h:OkR l N) (hl:l.length<=1000000000) (hpos:0<l.length) {b:Nat} (hb1:1<=b) (hb2:b<=65536)
include h hl hpos hb1 hb2
omit hl in
theorem D5Y {i:Nat} (hi:i<=b):A1 (1+A1 (Int.tdiv (A1 ((i:Int)*A1 (N-1))) (b:Int)))=rk N (b:Int) i:=by
 have hN:1<=N:=by have:=h.rng 0 hpos;omega
 have hN1:=h.n1;have e1:A1 (N-1)=N-1:=by rw [C7]<;>omega
 have hX0:0<=(i:Int)*(N-1):=Int.mul_nonneg (by omega) (by omega)
 have hX1:(i:Int)*(N-1)<=65536*1099511627776:=Int.mul_le_mul (by omega) (by omega) (by omega) (by omega)
 have e2:A1 ((i:Int)*(N-1))=(i:Int)*(N-1):=by rw [C7]<;>omega
 have e3:Int.tdiv ((i:Int)*(N-1)) (b:Int)=((i:Int)*(N-1))/(b:Int):=Int.tdiv_eq_ediv_of_nonneg hX0;have hr:=B9m hN hb1 hi;unfold rk at hr;rw [e1,e2,e3,C7 (n:=((i:Int)*(N-1))/(b:Int)) (by omega) (by omega),C7 (by omega) (by omega)]
 rfl
theorem C8R (r:D4) (hr1:r.Ae=l) (hr2:r.N=N):
  B0S r (b:Int) (-1) 0 0 []=some (⟨N,(B4e (fun i=>kOf l (rk N (b:Int) i)) (b+1)).map (J4 l)⟩,0):=by
 have hN:1<=N:=by have:=h.rng 0 hpos;omega
 unfold B0S;obtain ⟨v,hv,hQ⟩:=R3 (f:=fun s:Int×Int×Int×List B4=>A9w r (b:Int) s.1 s.2.1 s.2.2.1 s.2.2.2)
  (fun s=> ∃i:Nat,i<=b+1/\s=(if i=0 then-1 else (kOf l (rk N (b:Int) (i-1)):Int),if i=0 then 0 else (kOf l (rk N (b:Int) (i-1)):Int),(i:Int),(B4e (fun i=>kOf l (rk N (b:Int) i)) i).map (J4 l)))
  (fun s=>b+1-s.2.2.1.toNat) (fun v=>v=(⟨N,(B4e (fun i=>kOf l (rk N (b:Int) i)) (b+1)).map (J4 l)⟩,0)) (-1,0,0, []) ⟨0,Nat.zero_le _,rfl⟩ (by
   rintro _ ⟨i,hi,rfl⟩;simp only;unfold A9w;rw [hr1,hr2]
   by_cases hlt:i<=b
   ·left;rw [D7l (by omega:(i:Int)<=(b:Int)),D7k,M4 (by rw [D7i];omega),D5Y h hpos hb1 hb2 hlt]
    have hn:=B9m hN hb1 hlt;have hpl:=C2f h hn hl;have hplace:A1N l (rk N (b:Int) i) (if i=0 then 0 else (kOf l (rk N (b:Int) (i-1)):Int))=some (kOf l (rk N (b:Int) i):Int):=by
     by_cases h0:i=0
     ·rw [if_pos h0];obtain ⟨k,k1,k2⟩:=B4g h hn hl;rw [k2,B7m k1 hpl]
     ·rw [if_neg h0];have hprev:=C2f h (B9m hN hb1 (show i-1<=b by omega)) hl
      have hle:rk N (b:Int) (i-1)<=rk N (b:Int) i:=C1A hN (by omega) (by omega)
      obtain ⟨k,_,k1,k2⟩:=B3T h hn hl hprev.lt (fun j hj=>D3y hle (hprev.low j hj));rw [k2,B7m k1 hpl]
    rw [hplace];simp only [D7g];have ew:A1 ((i:Int)+1)=((i+1:Nat):Int):=by rw [C7]<;>omega
    have hkl:=C39 (fun i=>kOf l (rk N (b:Int) i)) i;rw [ew]
    by_cases hne:i=0\/kOf l (rk N (b:Int) i)≠kOf l (rk N (b:Int) (i-1))
    ·have c:((kOf l (rk N (b:Int) i):Int) !=(if i=0 then-1 else (kOf l (rk N (b:Int) (i-1)):Int)))=true:=by
      rw [bne_iff_ne];rcases hne with h0|h0
      ·rw [if_pos h0];omega
      ·split<;>omega
     rw [c,D7k,A0n hpl.lt];simp only [D7g];rw [M4 (by rw [D7i,D73,D7V];omega)]
     refine ⟨_,rfl,⟨i+1,by omega, ?_⟩,by show b+1-(((i+1:Nat):Int)).toNat<b+1-(i:Int).toNat;omega⟩
     have hk:B4e (fun i=>kOf l (rk N (b:Int) i)) (i+1)=B4e (fun i=>kOf l (rk N (b:Int) i)) i++ [kOf l (rk N (b:Int) i)]:=by
      show _++(if _ then _ else _)=_
      rw [if_pos hne]
     rw [hk,D8f];simp
    ·have hne' :=not_or.1 hne;have he:kOf l (rk N (b:Int) i)=kOf l (rk N (b:Int) (i-1)):=Classical.not_not.1 hne'.2;have c:((kOf l (rk N (b:Int) i):Int) !=(if i=0 then-1 else (kOf l (rk N (b:Int) (i-1)):Int)))=false:=by
      rw [bne_eq_false_iff_eq,if_neg hne'.1,he]
     rw [c,D7j];refine ⟨_,rfl,⟨i+1,by omega, ?_⟩,by show b+1-(((i+1:Nat):Int)).toNat<b+1-(i:Int).toNat;omega⟩
     have hk:B4e (fun i=>kOf l (rk N (b:Int) i)) (i+1)=B4e (fun i=>kOf l (rk N (b:Int) i)) i:=by
      show _++(if _ then _ else _)=_
      rw [if_neg hne,List.append_nil]
     rw [hk,if_neg hne'.1];simp [he]
   ·right;have hi2:i=b+1:=by omega
    subst hi2;rw [D7n (by omega),D7j]
    exact ⟨_,rfl,rfl⟩)
 rw [hv,hQ]
end
end Go.Win
namespace Go.Win
open Go.Vc Go.Dec
end Go.Win
namespace Go.Win
open Go.Vc Go.Dec
end Go.Win
namespace Go.Win
open Go.Vc Go.Dec
theorem C97 (r s:D4):(B92 r s).1.Ae.length<=r.Ae.length+s.Ae.length:=by
 unfold B92;cases okB r&&okB s with
 |false=>exact Nat.zero_le _
 |true=>
  rw [D7k];cases decide (r.N+s.N>1099511627776) with
  |true=>exact Nat.zero_le _
  |false=>rw [D7j,A0c];exact D7Y _
def Q1 (l:List B2):Nat:=(l.map fun x=>x.Bh.Ae.length).sum
theorem B2C (a b:List B2):Q1 (a++b)=Q1 a+Q1 b:=by simp [Q1]
theorem B0k (x:B2) (l:List B2):Q1 (x::l)=x.Bh.Ae.length+Q1 l:=by simp [Q1]
theorem D1M {l:List B2} {x:B2} (h:x∈l):x.Bh.Ae.length<=Q1 l:=by
 induction l with
 |nil=>cases h
 |cons y l ih=>
  rw [B0k];rcases List.mem_cons.1 h with h|h
  ·rw [h];omega
  ·have:=ih h;omega
def D59 (l:List B2):Int:=X6 (plainB l)
theorem D1L {l:List B2} {i:Nat} (h:i+1<l.length) {b:B2} (hb:b.Bh.Ae.length<=(el l i).Bh.Ae.length+(el l (i+1)).Bh.Ae.length):
  ((l.set i b).take (i+1)++((l.set i b).drop (i+2)).take ((l.set i b).length-(i+2))).length+1=l.length/\Q1 ((l.set i b).take (i+1)++((l.set i b).drop (i+2)).take ((l.set i b).length-(i+2)))<=Q1 l:=by
 refine ⟨by simp;omega, ?_⟩
 have e:l=l.take i++(el l i::el l (i+1)::l.drop (i+2)):=by
  rw [A0U h,A0U (by omega)]
  simp
 have e2:(l.set i b).take (i+1)=l.take i++ [b]:=by
  rw [List.take_add_one,List.take_set_of_le (D7Y _),List.getElem?_set_self (by omega)];rfl
 have e3:((l.set i b).drop (i+2)).take ((l.set i b).length-(i+2))=l.drop (i+2):=by
  rw [List.drop_set_of_lt (by omega),List.take_of_length_le (by simp)]
 rw [e2,e3]
 conv=>rhs;rw [e]
 simp only [B2C,B0k,D7K,List.cons_append,List.nil_append];omega
instance {r s:D4}:TS (A56 r s) (r.Ae.length<=1000000000/\s.Ae.length<=1000000000) (fun y=>y.1.Ae.length<=r.Ae.length+s.Ae.length):=⟨fun h=>⟨_,C8T r s h.1 h.2,C97 r s⟩⟩
theorem D0K (p0:D4) (p1:Int) (hl:p0.Ae.length<=1000000000) (h64:1<=p1/\p1<=65536):T (A8w p0 p1) fun r=>r.1.Ae.length<=p0.Ae.length:=by
 unfold A8w;rw [A0w p0 (by omega)]
 simp only [D7g];cases hb:okB p0 with
 |false=>exact ⟨_,rfl,Nat.zero_le _⟩
 |true=>
  have h:=(A9u p0).1 hb;simp only [D7k,D7T,D7j];rw [D7n (by omega),D7n (by omega)]
  simp only [Bool.or_self,D7j];have e1:A1 (p1+1)=p1+1:=by rw [C7]<;>omega
  rw [e1]
  by_cases hle:(p0.Ae.length:Int)<=p1+1
  ·rw [D7l hle];simp only [D7k];unfold A23;exact yT
  ·rw [D7n hle];simp only [D7j];obtain ⟨b,rfl⟩:=Int.eq_ofNat_of_zero_le (show 0<=p1 by omega)
   have hpos:0<p0.Ae.length:=by omega
   rw [C8R h (by omega) hpos (by omega) (by omega) p0 rfl rfl]
   refine ⟨_,rfl, ?_⟩;have:=C39 (fun i=>kOf p0.Ae (rk p0.N (b:Int) i)) (b+1);simp only [D73];omega
instance {r:D4} {p:Int}:TS (A8w r p) (r.Ae.length<=1000000000/\1<=p/\p<=65536) (fun y=>y.1.Ae.length<=r.Ae.length):=⟨fun h=>D0K r p h.1 h.2⟩
theorem D1N {l:List B2} {i:Nat} (h:i+1<l.length):(el l i).Bh.Ae.length+(el l (i+1)).Bh.Ae.length<=Q1 l:=by
 have e:l=l.take i++(el l i::el l (i+1)::l.drop (i+2)):=by
  rw [A0U h,A0U (by omega)]
  simp
 conv=>rhs;rw [e]
 simp only [B2C,B0k];omega
theorem D4V {k p:Int} {l:List B2} {n v s:Int} (hk:1<=k/\k<=128) (hp:1<=p/\p<=65536) (hs:0<=s/\s<=n) (hn:n<=l.length) (hl:l.length<=1048577) (he:Q1 l<=1000000000):
  T (A7z k p l n v s) fun r=>match r with
   | .inl r=>r.1.length+1<=l.length/\0<=r.2.1/\r.2.1<=r.1.length/\Q1 r.1<=Q1 l
   | .inr r=>r=l:=by
 unfold A7z;refine yL (fun s=>0<=s/\s<=n) (fun s=>s.toNat) hs fun s hs=> ?_;have h1:=A0k s (by omega)
 have h2:A1 (n-s)=n-s/\A1 (k+2)=k+2:=by constructor<;>(rw [C7]<;>omega)
 unfold A6u;simp only [h1,h2]
 by_cases hc:n-s<k+2
 ·rw [D7l hc];exact yT
 ·obtain ⟨i,rfl⟩:=Int.eq_ofNat_of_zero_le hs.1;have hi:i+1<l.length:=by omega
  have e2:=D1N hi;have d:=fun b=> @D1L l i hi b;have n1:((i:Int)+1).toNat=i+1:=by omega
  have n2:((i:Int)+2).toNat=i+2:=by omega
  rw [D7n hc];simp only [n1,n2,D7W];exact yT
instance {k p n v:Int} {l:List B2}:TS (A7y k p l n v) ((1<=k/\k<=128)/\(1<=p/\p<=65536)/\(0<=n/\n<=l.length)/\l.length<=1048577/\Q1 l<=1000000000) (fun r=>r.length<=l.length/\Q1 r<=Q1 l):=⟨fun ⟨hk,hp,hn,hl,he⟩=>by
 unfold A7y;refine yL (fun s=>s.1.length<=l.length/\0<=s.2.1/\s.2.1<=s.1.length/\Q1 s.1<=Q1 l) (fun s=>s.1.length) ⟨D7Y _,hn.1,hn.2,D7Y _⟩ fun s ⟨h1,h2,h3,h4⟩=> ?_;unfold B1c;refine yM (D4V hk hp ⟨h2,Int.le_refl _⟩ h3 (by omega) (by omega)) fun r h=> ?_
 cases r with
 |inl r=>dsimp only at h⊢;omega
 |inr r=>dsimp only at h⊢;rw [h];exact ⟨h1,h4⟩⟩
instance {l:List B2} {k b:Int}:TS (A3t l k b) (A1V l) (fun r=>r=bOf (C0a l k b)):=⟨fun h=>⟨_,B6I l k b h,rfl⟩⟩
instance {l:List B2}:TS (A1Z l) (A1V l) (fun r=>r=A1 (X6 (plainB l))):=⟨fun h=>⟨_,B6H l h,rfl⟩⟩
theorem C3s (x:C2) (v:Int) (hs:A1V x.Ak) (hl:x.Ak.length+1<=1048576) (he:Q1 x.Ak+1<=1000000000):
  T (A8t x v) fun r=>Q1 r.1.Ak<=Q1 x.Ak+1/\r.1.Ak.length<=x.Ak.length+1:=by
 unfold A8t;rw [A1D x hs]
 by_cases hv:C4o x
 ·obtain ⟨b,b1,b2,b3⟩:=B42 (k:=x.K) (c:=x.Cap) hv.1.2.2.2 hv.1.2.1;have hk:=hv.1.2.2.2;have e2:A1 (2*x.K)=2*x.K:=by rw [C7]<;>omega
  have e0:Q1 []=0:=rfl;have ea: ∀b:B2,Q1 (x.Ak++ [b])=Q1 x.Ak+b.Bh.Ae.length:=fun b=>by rw [B2C,B0k,e0];omega
  rw [b1,e2];unfold B0K A0r;simp only [List.nil_append];exact yT
 ·rw [I8 hv];exact ⟨_,rfl,Nat.zero_le _,Nat.zero_le _⟩
end Go.Win
namespace Go.Win
open Go.Vc Go.Dec
theorem D06 {l:List B2} (hl:l.length<=1048576):A1 (X6 (plainB l))=D59 l:=D6a (by rw [A2S];exact hl)
end Go.Win
namespace Go.Win
open Go.Vc Go.Dec
theorem B9X {β:Type} (lv:β->Int) (B:Int): ∀(m:Nat) (X:List β),(∀x∈X,0<=lv x/\lv x<(m:Int))->(∀j:Int,0<=j->(B38 lv X j:Int)<=B)->(X.length:Int)<=(m:Int)*B
 |0,X,h,_=>by
  cases X with
  |nil=>simp
  |cons x X=>
   have:=h x (by simp)
   omega
 |m+1,X,h,hB=>by
  have e:=List.length_eq_countP_add_countP (fun x=>lv x==(m:Int)) (l:=X);have ih:=B9X lv B m (X.filter fun x=> !(lv x==(m:Int))) (fun x hx=>by
   have hx' :=List.mem_filter.1 hx;have a:=h x hx'.1;have b:=hx'.2;rw [D7C,D76] at b
   push_cast at a
   omega) (fun j hj=>by
   have:=List.Sublist.countP_le (p:=fun x=>lv x==j) (List.filter_sublist (l:=X) (p:=fun x=> !(lv x==(m:Int))));have:=hB j hj;unfold B38 at this⊢;omega)
  have a:=hB (m:Int) (by omega)
  unfold B38 at a;have c:List.countP (fun a=>decide (¬((lv a==(m:Int))=true))) X=(X.filter fun x=> !(lv x==(m:Int))).length:=by
   rw [List.countP_eq_length_filter]
   congr 1
   refine List.filter_congr fun x _=> ?_;cases (lv x==(m:Int))<;>rfl
  rw [c] at e
  push_cast
  rw [Int.add_mul];omega
theorem D3N {l:List A3} {x:A3} (h:x∈l):A7s x<=X6 l:=by
 induction l with
 |nil=>cases h
 |cons y l ih=>
  rw [B0H];have a:=C7v l;have b:=C4W y;rcases List.mem_cons.1 h with e|e
  ·rw [e];omega
  ·have:=ih e;omega
theorem D5T {L b:Nat} (h:(2:Int)^L<2^b):L<b:=by
 rcases Nat.lt_or_ge L b with g|g
 ·exact g
 ·exfalso;rw [B7p g] at h;have a:=A0J b;have c:=A0J (L-b);have:=Int.mul_le_mul_of_nonneg_left (show (1:Int)<=2^(L-b) by omega) (show (0:Int)<=2^b by omega)
  omega
theorem D1v {l:List A3} {k cap:Int} {b:Nat} (h:B0Q l k) (ht:X6 l<=cap) (hb:cap<2^b):(l.length:Int)<=(b:Int)*(k+1):=by
 obtain ⟨ci,cs,cl⟩:=B86 h;refine B9X (fun x:A3=>x.Bc) (k+1) b l (fun x hx=> ?_) (fun j hj=> ?_)
 ·have a:=cl x hx;refine ⟨a.1, ?_⟩;have m:=D3N hx;unfold A7s at m;rw [if_pos a] at m;have:=D5T (L:=x.Bc.toNat) (b:=b) (by omega)
  omega
 ·have:=ci.le j hj;rw [if_neg (by omega)] at this
  omega
theorem D3B {l:List B2} {M:Int} (h:∀x∈l,(x.Bh.Ae.length:Int)<=M):(Q1 l:Int)<=l.length*M:=by
 induction l with
 |nil=>simp [Q1]
 |cons x l ih=>
  have a:=h x (by simp)
  have b:=ih fun y hy=>h y (by simp [hy])
  rw [B0k,D7z]
  push_cast
  rw [Int.add_mul];omega
end Go.Win
namespace Go.Win
open Go.Vc Go.Dec
theorem D5U {x:C2} (h:C4o x) (hs:A1V x.Ak):x.Ak.length<=65536:=by
 obtain ⟨hp,hb,ht,_⟩:=h;obtain ⟨sz,_,s2,_⟩:=B42 (k:=x.K) (c:=x.Cap) hp.2.2.2 hp.2.1;have a:=C4X (B86 (hb sz s2).2.1).2.2;rw [A2S] at a;rw [D06 hs.1] at ht;have:=hp.2.1;unfold D59 at ht;omega
theorem D4c {x:D0} (h:okV x=true):x.Bb.length<=65536:=by
 have:=(C7m x).1 h;omega
theorem D50 {x:D3} (h:C09 x):x.Bf.length<=65536:=by
 have a:=(D6F h).1;have hp:=h.2.1.2.1;have:=(C7j a).2 (by omega)
 omega
theorem D51 {x:D5} (h:C8F x):x.Bf.length<=65536:=by
 obtain ⟨hp,hm,_⟩:=h;have a:=C98 hp.2.1.2 (by decide) hm
 have:=(C7j a).2 (by have:=hp.2.1;omega)
 have:=hp.2.1;omega
theorem D4b {x:C2} (h:C4o x) (hs:A1V x.Ak):Q1 x.Ak<=150000000:=by
 obtain ⟨hp,hb,ht,_⟩:=h;have hcap:=hp.2.1;have hk:=hp.2.2.2;obtain ⟨sz,_,s2,s3,s4⟩:=B42 (k:=x.K) (c:=x.Cap) hk hcap;obtain ⟨b,_,g2,g3,g4,g5,g6⟩:=C6E (x:=x.Cap) (by omega) (by omega)
 have b17:b<=17:=Nat.le_of_not_lt fun hb=>by
  have h2:(2:Nat)^17<=2^(b-1):=Nat.pow_le_pow_right (by decide) (by omega)
  have:(2:Int)^17<=2^(b-1):=by exact_mod_cast h2
  omega
 have hbl:=hb sz s2;rw [D06 hs.1] at ht;have n:=D1v hbl.2.1 (cap:=x.Cap) (b:=b) ht g6;rw [A2S] at n;have e:=D3B (l:=x.Ak) (M:=sz+1) (fun y hy=>by obtain ⟨i,hi,rfl⟩:=B2P hy;exact (hbl.2.2 i hi).2.2.1)
 have m1:=Int.mul_le_mul_of_nonneg_right n (show 0<=sz+1 by omega)
 have q1:=Int.mul_le_mul (show 2*x.K+1<=129 by omega) (show (b:Int)<=17 by omega) (by omega) (by decide)
 have q0:=Int.mul_nonneg (a:=2*x.K+1) (b:=(b:Int)) (by omega) (by omega)
 have r1:=Int.mul_le_mul q1 (show sz+1<=65537 by omega) (by omega) (by decide)
 have r0:=Int.mul_nonneg q0 (show 0<=sz+1 by omega)
 rw [Int.mul_comm (2*x.K+1) (b:Int)] at*
 omega
def B90 (l:List B7):Nat:=(l.map fun c=>c.Be.length).sum
def B9z (s:A8):Nat:=s.Aq.Bb.length+s.Ay.Ad.length+s.Sum.Ad.length+s.As.Bf.length+s.Au.Bf.length+s.Bm.Ag.length+s.Ba.Bn.length+s.Af.Bb.length+s.Ai.Av.length+s.Ab.Ak.length+s.Ar.Am.length
theorem D12 {l:List B7} (h:∀c∈l,c.Be.length<=1048576):B90 l<=l.length*1048576:=by
 unfold B90
 induction l with
 |nil=>simp
 |cons x l ih=>
  have a:=h x (by simp)
  have b:=ih fun y hy=>h y (by simp [hy])
  simp only [D79,List.sum_cons,D7z];omega
theorem B5F {s:A8} (hv:A8n s) (w:A2o s):(B9z s<=70000/\Q1 s.Ab.Ak<=150000000)/\B90 s.Ar.Am<=16777216:=by
 obtain ⟨hc,hr,ho1,ho2,ho3,ho4,ho5,ho6,ho7,ho8,ho9,ho10,ho11⟩:=hv;obtain ⟨w1,w2,w3,w4,w5,w6,w7,w8,w9,w10,w11⟩:=w;have z1:s.Ao.Bi=1\/s.Aq.Bb.length=0:=(Decidable.em _).imp_right fun h=>(ho1 h).2.2.2;have z2:s.Ao.Bi=2\/s.Ay.Ad.length=0:=(Decidable.em _).imp_right fun h=>(ho2 h).2.2.2.2;have z3:s.Ao.Bi=3\/s.Sum.Ad.length=0:=(Decidable.em _).imp_right fun h=>(ho3 h).2.2.2.2.2;have z4:s.Ao.Bi=4\/s.As.Bf.length=0:=(Decidable.em _).imp_right fun h=>(ho4 h).2.2.2.2.2.2;have z5:s.Ao.Bi=5\/s.Au.Bf.length=0:=(Decidable.em _).imp_right fun h=>(ho5 h).2.2.2.2.2;have z6:s.Ao.Bi=6\/s.Bm.Ag.length=0:=(Decidable.em _).imp_right fun h=>(ho6 h).2.2.2;have z7:s.Ao.Bi=7\/s.Ba.Bn.length=0:=(Decidable.em _).imp_right fun h=>(ho7 h).2;have z8:s.Ao.Bi=8\/s.Af.Bb.length=0:=(Decidable.em _).imp_right fun h=>(ho8 h).2.2.2.2;have z9:s.Ao.Bi=9\/s.Ar.Am.length=0:=(Decidable.em _).imp_right fun h=>ho9 h;have z10:s.Ao.Bi=10\/s.Ai.Av.length=0:=(Decidable.em _).imp_right fun h=>(ho10 h).2.2.2;have z11:s.Ao.Bi=11\/s.Ab.Ak.length=0:=(Decidable.em _).imp_right fun h=>(ho11 h).2.2.2.2;have q0:s.Ao.Bi≠11->Q1 s.Ab.Ak<=150000000:=fun h=>by
  have:=D71 (z11.resolve_left h);rw [this];simp [Q1]
 have l0:B90 s.Ar.Am<=16777216:=by
  have hL:=D12 w9.2
  by_cases k:s.Ao.Bi=9
  ·have h9:(s.Ar.Am.length:Int)=s.Ao.Am:=by
    rcases hr with h|h|h|h|h|h|h|h|h|h|h<;>first|exact h.2.2.1|(have:=h.1;omega)
   have:=hc.2.2.2.2.2.2.1.1 k;omega
  ·have:=z9.resolve_left k;omega
 refine ⟨?_,l0⟩;unfold B9z;rcases hr with ⟨k,h⟩|⟨k,h⟩|⟨k,h⟩|⟨k,h⟩|⟨k,h⟩|⟨k,h⟩|⟨k,h⟩|⟨k,h⟩|⟨k,h⟩|⟨k,h⟩|⟨k,h⟩
 ·have:=D4c h.1;exact ⟨by omega,q0 (by omega)⟩
 ·have:=C33 h.1 w2;exact ⟨by omega,q0 (by omega)⟩
 ·have:=C33 h.1.1 w3;exact ⟨by omega,q0 (by omega)⟩
 ·have:=D50 h.1;exact ⟨by omega,q0 (by omega)⟩
 ·have:=D51 h.1;exact ⟨by omega,q0 (by omega)⟩
 ·have:=h.1.1;exact ⟨by omega,q0 (by omega)⟩
 ·have:=h.1.1;exact ⟨by omega,q0 (by omega)⟩
 ·have:=h.1.1;exact ⟨by omega,q0 (by omega)⟩
 ·have:=hc.2.2.2.2.2.2.1.1 k;have:=h.2.1;exact ⟨by omega,q0 (by omega)⟩
 ·have:=h.1.1;unfold B4Q at this;exact ⟨by omega,q0 (by omega)⟩
 ·have:=D5U h.1 w11;exact ⟨by omega,D4b h.1 w11⟩
end Go.Win
namespace Go.Win
open Go.Vc Go.Dec
theorem D1m (s:A8) (w:A2o s) (v:Int) (d:List Int) (hd:d.length<=maxLen): ∃r,A8S s v d=some r/\A2o r.1:=by
 obtain ⟨h1,h2,h3,h4,h5,h6,h7,h8,h9,h10,h11⟩:=id w;unfold A8S;rw [(V7 s w),D7g]
 by_cases hv:A8n s
 ·rw [V0 hv];simp only [D7T,D7j];have fin: ∀(f:Int) (re:D0) (co:E4) (su:F4) (sm:D3) (sp:D5) (po:E3) (hn:Int) (hs:List Int) (ex:C4) (ch:List B7) (sy:B8) (qu:C2),
    A2o ⟨s.Ao,re,co,su,sm,sp,po,⟨hn,hs⟩,ex,⟨ch⟩,sy,qu⟩-> ∃r,M7 s d f re co su sm sp po hn hs ex ch sy qu=some r/\A2o r.1:=by
   intro f re co su sm sp po hn hs ex ch sy qu h;have fin2: ∀f:Int,∃r,A4i s re co su sm sp po hn hs ex ch sy qu f=some r/\A2o r.1:=fun f=>by
    unfold A4i;cases (f !=0) with
    |true=>exact ⟨_,rfl,A84⟩
    |false=>exact ⟨_,rfl,h⟩
   unfold M7;cases (((f==(0:Int))&&(s.Ao.Bi !=(9:Int)))&&(decide ((d.length:Int)>(0:Int)))) with
   |true=>exact fin2 8
   |false=>exact fin2 f
  obtain ⟨⟨hf,hq⟩,_⟩:=B5F hv w;unfold B9z at hf;cases c1:(s.Ao.Bi==(1:Int)) with
  |true=>
   obtain ⟨r,e1,e3⟩:=D3e s.Aq v (H8 h1);simp only [D7k,e1,D7g];exact fin _ _ _ _ _ _ _ _ _ _ _ _ _ ⟨Nat.le_trans e3 (by decide),h2,h3,h4,h5,h6,h7,h8,h9,h10,h11⟩
  |false=>
  cases c2:(s.Ao.Bi==(2:Int)) with
  |true=>
   simp only [D7k,D7j];have hval:(decide (v< -4096)||decide (v>4096))= !N9 v:=by
    have:=D1a v;cases hr:N9 v with
    |true=>have:=this.1 hr;rw [D7n (by omega),D7n (by omega)];rfl
    |false=>
     have hn: ¬(-4096<=v/\v<=4096):=fun h=>by rw [this.2 h] at hr;cases hr
     rw [D7t,D7r,D7i,D7i];omega
   rw [hval];cases N9 v with
   |false=>exact ⟨_,rfl,A84⟩
   |true=>
    obtain ⟨r,e1,e3⟩:=C9l s.Ay (by omega)
    have z5:r.1.Ad.length<=1048576:=by omega
    simp only [D7s,D7j,e1,D7g];exact fin _ _ _ _ _ _ _ _ _ _ _ _ _ ⟨h1,z5,h3,h4,h5,h6,h7,h8,h9,h10,h11⟩
  |false=>
  cases c3:(s.Ao.Bi==(3:Int)) with
  |true=>
   obtain ⟨r,e1,e3⟩:=D3g s.Sum v (by omega)
   have z5:r.1.Ad.length<=1048576:=by omega
   simp only [D7k,D7j,e1,D7g];exact fin _ _ _ _ _ _ _ _ _ _ _ _ _ ⟨h1,h2,z5,h4,h5,h6,h7,h8,h9,h10,h11⟩
  |false=>
  cases c4:(s.Ao.Bi==(4:Int)) with
  |true=>
   obtain ⟨r,e1,e3⟩:=C7R s.As v (by omega)
   have z5:r.1.Bf.length<=1048576:=by omega
   simp only [D7k,D7j,e1,D7g];exact fin _ _ _ _ _ _ _ _ _ _ _ _ _ ⟨h1,h2,h3,z5,h5,h6,h7,h8,h9,h10,h11⟩
  |false=>
  cases c5:(s.Ao.Bi==(5:Int)) with
  |true=>
   obtain ⟨r,e1,e3⟩:=C7S s.Au v (by omega)
   have z5:r.1.Bf.length<=1048576:=by omega
   simp only [D7k,D7j,e1,D7g];exact fin _ _ _ _ _ _ _ _ _ _ _ _ _ ⟨h1,h2,h3,h4,z5,h6,h7,h8,h9,h10,h11⟩
  |false=>
  cases c6:(s.Ao.Bi==(6:Int)) with
  |true=>
   obtain ⟨r,e1,e3,e4⟩:=D1n s.Bm v h6.2 (by omega)
   have z5:r.1.Ag.length<=1048576:=by omega
   simp only [D7k,D7j,e1,D7g];exact fin _ _ _ _ _ _ _ _ _ _ _ _ _ ⟨h1,h2,h3,h4,h5,⟨z5,e4⟩,h7,h8,h9,h10,h11⟩
  |false=>
  cases c7:(s.Ao.Bi==(7:Int)) with
  |true=>
   obtain ⟨r,e1,e3⟩:=C9m s.Ba v (by omega)
   have z5:r.1.Bn.length<=1048576:=by omega
   simp only [D7k,D7j,e1,D7g];exact fin _ _ _ _ _ _ _ _ _ _ _ _ _ ⟨h1,h2,h3,h4,h5,h6,z5,h8,h9,h10,h11⟩
  |false=>
  cases c8:(s.Ao.Bi==(8:Int)) with
  |true=>
   obtain ⟨r,e1,e3⟩:=C5E s.Af v (by omega)
   have z5:r.1.Bb.length<=1048576:=by omega
   simp only [D7k,D7j,e1,D7g];exact fin _ _ _ _ _ _ _ _ _ _ _ _ _ ⟨h1,h2,h3,h4,h5,h6,h7,z5,h9,h10,h11⟩
  |false=>
  cases c9:(s.Ao.Bi==(9:Int)) with
  |true=>
   obtain ⟨r,e1,e3,e4⟩:=C5D s.Ar v d (H8 h9.1) (fun c hc=>H8 (h9.2 c hc)) hd;have z5:r.1.Am.length<=1048576:=by omega
   simp only [D7k,D7j,e1,D7g];exact fin _ _ _ _ _ _ _ _ _ _ _ _ _ ⟨h1,h2,h3,h4,h5,h6,h7,h8,⟨z5,fun c hc=>Nat.le_trans (e4 c hc) (by decide)⟩,h10,h11⟩
  |false=>
  cases c10:(s.Ao.Bi==(10:Int)) with
  |true=>
   obtain ⟨r,e1,e3⟩:=C5F s.Ai v (by omega)
   have z5:r.1.Av.length<=1048576:=by omega
   simp only [D7k,D7j,e1,D7g];exact fin _ _ _ _ _ _ _ _ _ _ _ _ _ ⟨h1,h2,h3,h4,h5,h6,h7,h8,h9,z5,h11⟩
  |false=>
  cases c11:(s.Ao.Bi==(11:Int)) with
  |true=>
   obtain ⟨r,e1,e3,e4⟩:=C3s s.Ab v h11 (by omega) (by omega)
   have z5:r.1.Ak.length<=1048576:=by omega
   simp only [D7k,D7j,e1,D7g];exact fin _ _ _ _ _ _ _ _ _ _ _ _ _ ⟨h1,h2,h3,h4,h5,h6,h7,h8,h9,h10,z5,fun b hb=>by have:b.Bh.Ae.length<=Q1 r.1.Ak:=D1M hb;omega⟩
  |false=>
   simp only [D7j];exact fin _ _ _ _ _ _ _ _ _ _ _ _ _ ⟨h1,h2,h3,h4,h5,h6,h7,h8,h9,h10,h11⟩
 ·rw [I8 hv];exact ⟨_,rfl,A84⟩
end Go.Win
namespace Go.Win
open Go.Vc Go.Dec
def A8Y (l:List A9):List Int:=l.map fun p=>p.V
theorem A99 (l:List A9):(A8Y l).length=l.length:=D73 _
def cLe (l:List Int) (v:Int):Nat:=l.countP fun x=>decide (x<=v)
theorem D4X (l:List Int) (v:Int):cLe l v<=l.length:=List.countP_le_length
theorem C2E (l:List A9) {i:Nat} (hi:i<l.length):A8Y (l.take (i+1))=A8Y (l.take i)++ [l[i].V]:=by
 unfold A8Y;rw [List.take_succ_eq_append_getElem hi,D8f]
 rfl
theorem C8i (l:List A9) (v:Int) (hl:l.length<=100000):B1v l v=some (cLe (A8Y l) v:Int):=by
 have hm:l.length<=maxLen:=by rw [K0];omega
 unfold B1v B6c;obtain ⟨r,hr,hQ⟩:=R3 (f:=fun s:Int×Int=>A9q l v s.1 s.2)
  (fun s=> ∃i:Nat,i<=l.length/\s=((cLe (A8Y (l.take i)) v:Int),(i:Int)))
  (fun s=>l.length-s.2.toNat) (fun r=>r=(cLe (A8Y l) v:Int)) (0,0) ⟨0,Nat.zero_le _,rfl⟩ (by
   rintro _ ⟨i,hi,rfl⟩;simp only;unfold A9q
   by_cases hlt:i<l.length
   ·left;have hc:=D4X (A8Y (l.take i)) v;rw [A99,D7I] at hc;simp only [Int.ofNat_lt,hlt,decide_true,D7k,S4,M9 hlt,D7g,S6 hlt hm];have hs:cLe (A8Y (l.take (i+1))) v=cLe (A8Y (l.take i)) v+(if l[i].V<=v then 1 else 0):=by
     rw [C2E l hlt];unfold cLe;rw [List.countP_append,List.countP_singleton];simp
    by_cases hv:l[i].V<=v
    ·rw [D7l hv,D7k,C7 (by omega) (by omega)]
     rw [if_pos hv] at hs;exact ⟨_,rfl,⟨i+1,hlt,by rw [hs];simp⟩,by show l.length-((i:Int)+1).toNat<l.length-(i:Int).toNat;omega⟩
    ·rw [D7n hv,D7j];rw [if_neg hv] at hs;exact ⟨_,rfl,⟨i+1,hlt,by rw [hs];simp⟩,by show l.length-((i:Int)+1).toNat<l.length-(i:Int).toNat;omega⟩
   ·right;have:i=l.length:=by omega
    subst this;rw [List.take_length,D7n (by omega),D7j]
    exact ⟨_,rfl,rfl⟩)
 rw [hr,hQ]
theorem B6z (l:List A9) (t:Int) (hl:l.length<=100000) (ht1:0<=t) (ht2:t<=l.length) (h0:0<l.length) {T:Nat} (hT:(T:Int)=if t<1 then 1 else t):
  A0o l t=some ((A1o (A8Y l)).getD (T-1) 0,true):=by
 have hm:l.length<=maxLen:=by rw [K0];omega
 unfold A0o B1h;obtain ⟨r,hr,hQ⟩:=R3 (f:=fun s:List Int×Int=>A2Q l t s.1 s.2)
  (fun s=> ∃i:Nat,i<=l.length/\s=(A8Y (l.take i),(i:Int)))
  (fun s=>l.length-s.2.toNat) (fun r=>r=((A1o (A8Y l)).getD (T-1) 0,true)) ([],0) ⟨0,Nat.zero_le _,rfl⟩ (by
   rintro _ ⟨i,hi,rfl⟩;simp only;unfold A2Q
   by_cases hlt:i<l.length
   ·left;simp only [Int.ofNat_lt,hlt,decide_true,D7k,S4,M9 hlt,D7g,S6 hlt hm];rw [M4 (by rw [D7i,A99,D7I,D7V];omega)]
    refine ⟨_,rfl,⟨i+1,hlt, ?_⟩,by show l.length-((i:Int)+1).toNat<l.length-(i:Int).toNat;omega⟩
    rw [C2E l hlt]
    rfl
   ·right;have:i=l.length:=by omega
    subst this;rw [List.take_length,D7n (by omega),D7j,M4 (by rw [D7i,A99];omega)]
    have e1:A1 t=t:=by rw [C7]<;>omega
    have e2:A0y t 1=(T:Int):=by
     show (if (1:Int)>t then 1 else t)=_
     rw [hT]
    have hT1:1<=T/\T<=l.length:=by split at hT<;>omega
    have e3:A1 ((T:Int)-1)=((T-1:Nat):Int):=by rw [C7]<;>omega
    have hlt2:T-1<(A1o (A8Y l)).length:=by rw [C4Z,A99];omega
    rw [e1,e2,e3,S4,M9 hlt2];refine ⟨_,rfl, ?_⟩;simp [D8c,M9 hlt2])
 rw [hr,hQ]
theorem B8i (l:List A9) (p q:Int) (hp:-9223372036854775808<=p/\p<=9223372036854775807) (hq:-9223372036854775808<=q/\q<=9223372036854775807) (hl:l.length<=100000):
  ∃x,A3E l p q=some x:=by
 unfold A3E;cases hc:(((((l.length:Int)==0)||decide (q<1))||decide (p<0))||decide (p>q)) with
 |true=>exact ⟨_,rfl⟩
 |false=>
  simp only [D7Q,D7x,D76] at hc;obtain ⟨lo,rem,d1,_,_,l0,l1,l2,r0,r1⟩:=C2C (p:=p) (q:=q) (n:=(l.length:Int)) (by omega) (by omega) (by omega) (by omega) (by omega) (by omega)
  simp only [D7j,d1,D7g];have key: ∀t:Int,0<=t->t<=l.length-> ∃x,A0o l t=some x:=fun t h0 h1=>by
   obtain ⟨T,hT⟩:=Int.eq_ofNat_of_zero_le (show 0<=(if t<1 then 1 else t) by split<;>omega)
   exact ⟨_,B6z l t hl h0 h1 (by omega) hT.symm⟩
  cases h:(!((I9 rem).Hi==0&&((I9 rem).Lo==0&&true))) with
  |false=>exact key lo l0 l1
  |true=>
   have e3:A4 (lo+1)=lo+1:=by rw [K3];omega
   have hr:rem≠0:=fun h0=>by rw [h0] at h;cases h
   rw [D7k,e3];exact key _ (by omega) (l2 hr)
end Go.Win
namespace Go.Win
open Go.Vc Go.Dec
theorem C0E (a b c d:Int) (ha:0<=a/\a<18446744073709551616) (hb:0<=b/\b<18446744073709551616) (hc:0<=c/\c<18446744073709551616) (hd:0<=d/\d<18446744073709551616)
  (i:Nat) (h1:1<=i) (h4:i<=4):A4J 0 0 (i:Int) a b c d=some ⟨a,b,c,d⟩:=by
 unfold A4J;have step: ∀j:Nat,j<=3->(fun s:Int×Int×Int×Int×Int×Int×Int=>Z8 s.1 s.2.1 s.2.2.1 s.2.2.2.1 s.2.2.2.2.1 s.2.2.2.2.2.1 s.2.2.2.2.2.2) (0,0,(j:Int),a,b,c,d)=some (.inl (0,0,((j+1:Nat):Int),a,b,c,d)):=by
  intro j hj;have z: ∀x:Int,0<=x/\x<18446744073709551616->N7 x 0 0=some (x,0):=fun x hx=>by
   rw [C28 _ _ _ hx.1 (by decide) (by decide) (by decide)]
   congr 2<;>omega
  show Z8 0 0 (j:Int) a b c d=_;unfold Z8;have hw:A1 ((j:Int)+1)=((j+1:Nat):Int):=by rw [C7]<;>omega
  rw [D7l (by omega:(j:Int)<4),D7k,hw]
  match j,hj with
  |0,_=>simp [C1,z a ha]
  |1,_=>simp [C1,z b hb]
  |2,_=>simp [C1,z c hc]
  |3,_=>simp [C1,z d hd]
 have fin:loop (fun s:Int×Int×Int×Int×Int×Int×Int=>Z8 s.1 s.2.1 s.2.2.1 s.2.2.2.1 s.2.2.2.2.1 s.2.2.2.2.2.1 s.2.2.2.2.2.2) (0,0,((4:Nat):Int),a,b,c,d)=some ⟨a,b,c,d⟩:=K4 rfl
 match i,h1,h4 with
 |4,_,_=>exact fin
 |3,_,_=>rw [J6 (step 3 (by omega))];exact fin
 |2,_,_=>rw [J6 (step 2 (by omega)),J6 (step 3 (by omega))];exact fin
 |1,_,_=>rw [J6 (step 1 (by omega)),J6 (step 2 (by omega)),J6 (step 3 (by omega))];exact fin
def q1 (a:Int):H6:=⟨a,0,0,0⟩
theorem C48 {a x y:Int} (ha:0<=a) (hx:0<=x/\x<18446744073709551616) (hy:0<=y/\y<18446744073709551616) (h:a+x*y<18446744073709551616):
  J0 (q1 a) x y 0=some (q1 (a+x*y)):=by
 have hp:=(A7W hx hy).1;unfold J0 q1;rw [C3c hx hy];have e1:x*y/18446744073709551616=0:=by omega
 have e2:x*y%18446744073709551616=x*y:=by omega
 have e3:A1 ((0:Int)+1)=((1:Nat):Int):=by rw [C7]<;>omega
 simp only [e1,e2,e3];have i0:C1 [a,0,0,0] (0:Int)=some a:=rfl;rw [i0];simp only [D7g];rw [C28 _ _ _ ha hp (by decide) (by decide)]
 simp only [D7g];have e4:(a+x*y+0)/18446744073709551616=0:=by omega
 have e5:(a+x*y+0)%18446744073709551616=a+x*y:=by omega
 rw [e4,e5];exact C0E _ _ _ _ (by omega) (by omega) (by omega) (by omega) 1 (by omega) (by omega)
theorem B2h {a x y:Int} (ha:0<=a/\a<18446744073709551616) (hx:0<=x/\x<18446744073709551616) (hy:0<=y/\y<18446744073709551616) (h:x*y=0) (s:Nat) (h1:1<=s) (h2:s<=2):
  J0 (q1 a) x y (s:Int)=some (q1 a):=by
 unfold J0 q1;rw [C3c hx hy,h];have e3:A1 ((s:Int)+1)=((s+1:Nat):Int):=by rw [C7]<;>omega
 have i0:C1 [a,0,0,0] (s:Int)=some 0:=by
  match s,h1,h2 with
  |1,_,_=>rfl
  |2,_,_=>rfl
 simp only [i0,D7g];have z:N7 0 (0%18446744073709551616) 0=some (0,0):=rfl;rw [z];simp only [D7g,e3];have r:=C0E a 0 0 0 (by omega) (by omega) (by omega) (by omega) (s+1) (by omega) (by omega)
 match s,h1,h2 with
 |1,_,_=>exact r
 |2,_,_=>exact r
theorem D5n {a b:Int} (ha:a<18446744073709551616) (hb:0<=b) (h:b<=a):A6W (q1 a) (q1 b)=some (q1 (a-b)):=by
 have s0:P4 a b 0=some (a-b,0):=by
  rw [B79 _ _ _ (by omega) hb (by decide) (by decide) (by omega),if_neg (by omega)]
  congr 2;omega
 have z:P4 0 0 0=some (0,0):=rfl;unfold A6W B4K;rw [J6 (s' :=(0,1,a-b,0,0,0)) (by
  show U5 _ _ _ _ _ _ _=_;simp [U5,q1,C1,s0];rfl)]
 rw [J6 (s' :=(0,2,a-b,0,0,0)) (by
  show U5 _ _ _ _ _ _ _=_;simp [U5,q1,C1,z];rfl)]
 rw [J6 (s' :=(0,3,a-b,0,0,0)) (by
  show U5 _ _ _ _ _ _ _=_;simp [U5,q1,C1,z];rfl)]
 rw [J6 (s' :=(0,4,a-b,0,0,0)) (by
  show U5 _ _ _ _ _ _ _=_;simp [U5,q1,C1,z];rfl)]
 rw [K4 (r:=q1 (a-b)) rfl]
theorem by1 {d n:Int} (hd:0<=d/\d<18446744073709551616) (hn:0<n):B2F (q1 d) n=some (q1 (d/n),d%n):=by
 have z:A1j 0 0 n=some (0,0):=by
  rw [B8A (by decide) (by decide) hn]
  simp
 have zd:=B8A hd.1 hd.2 hn;unfold B2F B8C;rw [J6 (s' :=(0,2,d,0,0,0)) (by
  show Z7 _ _ _ _ _ _ _=_;simp [Z7,q1,C1,z];rfl)]
 rw [J6 (s' :=(0,1,d,0,0,0)) (by
  show Z7 _ _ _ _ _ _ _=_;simp [Z7,q1,C1,z];rfl)]
 rw [J6 (s' :=(0,0,d,0,0,0)) (by
  show Z7 _ _ _ _ _ _ _=_;simp [Z7,q1,C1,z];rfl)]
 rw [J6 (s' :=(d%n,-1,d/n,0,0,0)) (by
  show Z7 _ _ _ _ _ _ _=_;simp [Z7,q1,C1,zd];rfl)]
 rw [K4 (r:=(q1 (d/n),d%n)) rfl]
end Go.Win
namespace Go.Win
open Go.Vc Go.Dec
def A0K:List A9->Int
 | []=>0
 |p::l=>p.V+A0K l
theorem D2E (l:List A9):N5 l-N4 l=A0K l:=by
 induction l with
 |nil=>rfl
 |cons p l ih=>simp only [N5,N4,A0K];split<;>omega
theorem C6x (a b:List A9):A0K (a++b)=A0K a+A0K b:=by
 induction a with
 |nil=>simp [A0K]
 |cons p a ih=>simp only [List.cons_append,A0K,ih];omega
def B0M (v:Int):List A9->Int
 | []=>0
 |p::l=>(v-p.V)*(v-p.V)+B0M v l
theorem D3z (v:Int) (l:List A9):B0M v l=l.length*(v*v)-2*(v*A0K l)+P8 l:=by
 induction l with
 |nil=>simp [B0M,A0K,P8]
 |cons p l ih=>
  simp only [B0M,A0K,P8,D7z,ih];rw [Int.natCast_add]
  grind
theorem D3A (v:Int) (l:List A9):0<=B0M v l:=by
 induction l with
 |nil=>simp [B0M]
 |cons p l ih=>have:=C0B (v-p.V);simp only [B0M];omega
def pD (l:List A9):Int:=l.length*P8 l-A0K l*A0K l
theorem D37 (l:List A9) (p:A9):pD (l++ [p])=pD l+B0M p.V l:=by
 unfold pD;rw [D3z,B5Q,C6x,D7m];simp only [P8,A0K,D7z,D7M,Int.add_zero];rw [Int.natCast_add]
 grind
theorem D38 (l:List A9) {i:Nat} (hi:i<l.length):pD (l.take (i+1))=pD (l.take i)+B0M l[i].V (l.take i):=by
 rw [List.take_succ_eq_append_getElem hi,D37]
def A8L (l:List A9):Prop:=l.length<=65536/\ ∀p∈l,-4096<=p.V/\p.V<=4096
theorem B4o {l:List A9} (h:A8L l) (i:Nat):A8L (l.take i):=
 ⟨by have:=h.1;rw [D7I];omega,fun p hp=>h.2 p (List.mem_of_mem_take hp)⟩
theorem C89 {x m:Int} (h1:-m<=x) (h2:x<=m):x*x<=m*m:=by
 have hm:0<=m:=by omega
 have a:0<=(m-x)*(m+x):=Int.mul_nonneg (by omega) (by omega)
 have:(m-x)*(m+x)=m*m-x*x:=by grind
 omega
theorem B7K {l:List A9} (h:∀p∈l,-4096<=p.V/\p.V<=4096):P8 l<=l.length*16777216:=by
 induction l with
 |nil=>simp [P8]
 |cons p l ih=>
  have h1:=h p (by simp)
  have h2:=ih (fun q hq=>h q (by simp [hq]))
  have h3:=C89 h1.1 h1.2;simp only [P8,D7z];omega
theorem C8c {v:Int} (hv:-4096<=v/\v<=4096) {l:List A9} (h:∀p∈l,-4096<=p.V/\p.V<=4096):B0M v l<=l.length*67108864:=by
 induction l with
 |nil=>simp [B0M]
 |cons p l ih=>
  have h1:=h p (by simp)
  have h2:=ih (fun q hq=>h q (by simp [hq]))
  have h3:=C89 (x:=v-p.V) (m:=8192) (by omega) (by omega)
  simp only [B0M,D7z];omega
theorem C0C {l:List A9} (h:∀p∈l,-4096<=p.V/\p.V<=4096): -(l.length*4096)<=A0K l/\A0K l<=l.length*4096:=by
 induction l with
 |nil=>simp [A0K]
 |cons p l ih=>
  have h1:=h p (by simp)
  have h2:=ih (fun q hq=>h q (by simp [hq]))
  simp only [A0K,D7z];omega
theorem D2k (l:List A9) (h:A8L l): ∀i:Nat,i<=l.length->0<=pD (l.take i)/\pD (l.take i)<=i*4398046511104:=by
 intro i
 induction i with
 |zero=>intro _;simp [pD,P8,A0K]
 |succ i ih=>
  intro hi;have h1:=ih (by omega)
  have h2:=D3A l[i].V (l.take i);have h3:=C8c (h.2 l[i] (D75 (by omega))) (B4o h i).2
  have h4:=h.1;rw [D38 l (by omega)]
  rw [D7I] at h3;omega
theorem D6C {l:List A9} (h:A8L l):0<=pD l/\pD l<=288230376151711744:=by
 have:=D2k l h l.length (D7Y _);rw [List.take_length] at this;have:=h.1;omega
theorem D2a {l:List A9} (h:A8L l):0<=(l.length:Int)*P8 l/\(l.length:Int)*P8 l<=72057594037927936:=by
 have h1:=B7J l;have h2:=B7K h.2;have h3:=h.1;have h4:=Int.mul_le_mul (show (l.length:Int)<=65536 by omega) (show P8 l<=1099511627776 by omega) h1 (by decide)
 exact ⟨Int.mul_nonneg (by omega) h1,by simpa using h4⟩
def B2n (d n:Nat):A5:=⟨((d/Nat.gcd d n:Nat):Int),((n/Nat.gcd d n:Nat):Int)⟩
theorem D07 {l:List A9} (h:A8L l): ∃b,A4C l=some (b,⟨0,if A0K l<0 then-A0K l else A0K l⟩):=by
 have hr:B5M l:=fun p hp=>by have:=h.2 p hp;omega
 have h1:=h.1;have h2:=C0C h.2;rw [C5c l hr (by omega)]
 have h3:=D2E l
 by_cases hc:N4 l<=N5 l
 ·refine ⟨false, ?_⟩;rw [if_pos hc,if_neg (by omega),h3]
  unfold I9
  congr 3<;>omega
 ·refine ⟨true, ?_⟩;rw [if_neg hc,if_pos (by omega),<-h3]
  unfold I9
  congr 3<;>omega
theorem D0Z {l:List A9} (h:A8L l) (h0:l≠ []):A8e l (P8 l) 0 0 0 0 0 0 0 0=some (B2n (pD l).toNat l.length,true):=by
 have hlen:0<l.length:=List.length_pos_iff.2 h0;have hl:=h.1;have hq0:=B7J l;have hq1:=B7K h.2;have hnq:=D2a h;have hpd:=D6C h;have hs:=C0C h.2;obtain ⟨b,htot⟩:=D07 h;have wn:A4 (l.length:Int)=(l.length:Int):=by rw [K3];omega
 have t0:J0 ⟨0,0,0,0⟩ (P8 l) (l.length:Int) 0=some ⟨(l.length:Int)*P8 l,0,0,0⟩:=by
  have:=C48 (a:=0) (x:=P8 l) (y:=(l.length:Int)) (by decide) (by omega) (by omega) (by rw [Int.mul_comm];omega)
  rw [Int.zero_add,Int.mul_comm] at this;exact this
 have t1:=B2h (a:=(l.length:Int)*P8 l) (x:=0) (y:=(l.length:Int)) (by omega) (by omega) (by omega) (by simp) 1 (by omega) (by omega)
 have t2:=B2h (a:=(l.length:Int)*P8 l) (x:=0) (y:=(l.length:Int)) (by omega) (by omega) (by omega) (by simp) 2 (by omega) (by omega)
 unfold A8e;rw [J6 (s' :=(1,(l.length:Int)*P8 l,0,0,0)) (by
  show T3 _ _ _ _ _ _ _ _ _ _=_;unfold T3;rw [D7l (by decide:(0:Int)<3),D7k,wn]
  have i0:C1 [P8 l,0,0,0] (0:Int)=some (P8 l):=rfl;rw [i0];simp only [D7g];rw [t0]
  rfl)]
 rw [J6 (s' :=(2,(l.length:Int)*P8 l,0,0,0)) (by
  show T3 _ _ _ _ _ _ _ _ _ _=_;unfold T3;rw [D7l (by decide:(1:Int)<3),D7k,wn]
  have i0:C1 [P8 l,0,0,0] (1:Int)=some 0:=rfl;rw [i0];simp only [D7g];have t1' :J0 ⟨(l.length:Int)*P8 l,0,0,0⟩ 0 (l.length:Int) 1=_:=t1;rw [t1']
  rfl)]
 rw [J6 (s' :=(3,(l.length:Int)*P8 l,0,0,0)) (by
  show T3 _ _ _ _ _ _ _ _ _ _=_;unfold T3;rw [D7l (by decide:(2:Int)<3),D7k,wn]
  have i0:C1 [P8 l,0,0,0] (2:Int)=some 0:=rfl;rw [i0];simp only [D7g];have t2' :J0 ⟨(l.length:Int)*P8 l,0,0,0⟩ 0 (l.length:Int) 2=_:=t2;rw [t2']
  rfl)]
 refine K4 ?_;show T3 _ _ _ _ _ _ _ _ _ _=_;unfold T3;rw [D7n (by decide: ¬(3:Int)<3),D7j,htot,wn]
 simp only [D7g]
 generalize hT:(if A0K l<0 then-A0K l else A0K l)=T
 have hT0:0<=T/\T<=268435456:=by rw [<-hT];split<;>omega
 have hTT:T*T=A0K l*A0K l:=by
  rw [<-hT];split
  ·exact Int.neg_mul_neg _ _
  ·rfl
 have hTn:T*T=(l.length:Int)*P8 l-pD l:=by rw [hTT];unfold pD;omega
 have s0:J0 ⟨0,0,0,0⟩ T T 0=some (q1 (T*T)):=by
  have:=C48 (a:=0) (x:=T) (y:=T) (by decide) (by omega) (by omega) (by omega)
  rw [Int.zero_add] at this;exact this
 have hTT0:0<=T*T:=Int.mul_nonneg hT0.1 hT0.1;have s1:J0 (q1 (T*T)) T 0 1=some (q1 (T*T)):=B2h (by omega) (by omega) (by omega) (by simp) 1 (by omega) (by omega)
 have s2:J0 (q1 (T*T)) 0 0 2=some (q1 (T*T)):=B2h (by omega) (by omega) (by omega) (by simp) 2 (by omega) (by omega)
 rw [s0];simp only [D7g];rw [s1];simp only [D7g];rw [s1];simp only [D7g];rw [s2];simp only [D7g];have m1:A6W ⟨(l.length:Int)*P8 l,0,0,0⟩ (q1 (T*T))=some (q1 (pD l)):=by
  have:=D5n (a:=(l.length:Int)*P8 l) (b:=T*T) (by omega) hTT0 (by omega)
  rw [show (l.length:Int)*P8 l-T*T=pD l by omega] at this
  exact this
 rw [m1];simp only [D7g];rw [by1 (by omega) (by omega)]
 simp only [D7g];obtain ⟨d,hd⟩:=Int.eq_ofNat_of_zero_le hpd.1;rw [hd] at hpd⊢;rw [D7W]
 generalize hn:l.length=n at*
 have hmod:(d:Int)%(n:Int)=((d%n:Nat):Int):=by rw [Int.natCast_emod]
 have hmlt:d%n<n:=Nat.mod_lt _ (by omega)
 have w1:A1 (n:Int)=(n:Int):=by rw [C7]<;>omega
 have w2:A1 ((d:Int)%(n:Int))=((d%n:Nat):Int):=by rw [hmod,C7]<;>omega
 rw [w1,w2,D3T];have hg:Nat.gcd n (d%n)=Nat.gcd d n:=by rw [Nat.gcd_comm,<-Nat.gcd_rec,Nat.gcd_comm]
 rw [hg];simp only [D7g];have gpos:0<Nat.gcd d n:=Nat.gcd_pos_of_pos_right _ (by omega)
 have gle:Nat.gcd d n<=n:=Nat.gcd_le_right _ (by omega)
 have w3:A4 ((Nat.gcd d n:Nat):Int)=((Nat.gcd d n:Nat):Int):=by rw [K3];omega
 rw [w3,by1 (by omega) (by omega)]
 simp only [D7g];have f1:(d:Int)/((Nat.gcd d n:Nat):Int)=((d/Nat.gcd d n:Nat):Int):=by rw [Int.natCast_ediv]
 have f2:Int.tdiv (n:Int) ((Nat.gcd d n:Nat):Int)=((n/Nat.gcd d n:Nat):Int):=by rw [Int.tdiv_eq_ediv_of_nonneg (by omega),Int.natCast_ediv]
 have q1' :d/Nat.gcd d n<=d:=Nat.div_le_self _ _;have q2' :n/Nat.gcd d n<=n:=Nat.div_le_self _ _;rw [f1,f2];unfold q1;simp only;have z:(O0 .u64 (O0 .u64 0 0) 0)=0:=by decide
 rw [z];have c1:(((0:Int) !=0)||decide (((d/Nat.gcd d n:Nat):Int)>=9223372036854775808))=false:=by
  rw [D7Q,D7x];exact ⟨rfl,by omega⟩
 rw [c1,D7j,M4 (by rw [D7i];omega)]
 unfold B2n
 generalize d/Nat.gcd d n=x at*
 generalize n/Nat.gcd d n=y at*
 rw [show A4 (y:Int)=(y:Int) by rw [K3];omega,C7 (by omega) (by omega),C7 (by omega) (by omega)]
 rfl
theorem C3U {l:List A9} (h:A8L l):A8d l=some (if l= [] then ⟨0,1⟩ else B2n (pD l).toNat l.length,true):=by
 have hl:=h.1;unfold A8d
 by_cases h0:l= []
 ·subst h0;rfl
 ·have hlen:0<l.length:=List.length_pos_iff.2 h0;have c:(A4 (l.length:Int)==0)=false:=by rw [D76,K3];omega
  rw [c,D7j,if_neg h0];have hm:l.length<=maxLen:=by rw [K0];omega
  unfold B3E;obtain ⟨r,hr,hQ⟩:=R3 (f:=fun s:Int×Int×Int×Int×Int=>A7H l s.1 s.2.1 s.2.2.1 s.2.2.2.1 s.2.2.2.2)
   (fun s=> ∃i:Nat,i<=l.length/\s=((i:Int),P8 (l.take i),0,0,0))
   (fun s=>l.length-s.1.toNat) (fun r=>r=(B2n (pD l).toNat l.length,true)) (0,0,0,0,0) ⟨0,Nat.zero_le _,rfl⟩ (by
    rintro _ ⟨i,hi,rfl⟩;simp only;unfold A7H
    by_cases hlt:i<l.length
    ·left;have hv:=h.2 l[i] (D75 hlt);have hq0:=B7J (l.take i);have hq1:=B7K (B4o h i).2;have hq2:=(B4o h i).1;have hsq:=C89 hv.1 hv.2;have hss:=C0B l[i].V;simp only [Int.ofNat_lt,hlt,decide_true,D7k,S4,M9 hlt,D7g,S6 hlt hm,B5P (show-9223372036854775808<=l[i].V by omega) (by omega)]
     have e1:=C3r l[i].V;have t:=C48 (a:=P8 (l.take i)) (x:=if l[i].V<0 then-l[i].V else l[i].V) (y:=if l[i].V<0 then-l[i].V else l[i].V) hq0 (by split<;>omega) (by split<;>omega) (by rw [e1];omega)
     rw [e1] at t;have t' :J0 ⟨P8 (l.take i),0,0,0⟩ (if l[i].V<0 then-l[i].V else l[i].V) (if l[i].V<0 then-l[i].V else l[i].V) 0=_:=t
     rw [t'];refine ⟨_,rfl,⟨i+1,hlt, ?_⟩,by show l.length-((i:Int)+1).toNat<l.length-(i:Int).toNat;omega⟩
     rw [C41 l hlt]
     rfl
    ·right;have hn: ¬((i:Int)<(l.length:Int)):=by omega
     have hi2:i=l.length:=by omega
     subst hi2;rw [List.take_length];simp only [hn,decide_false,D7j];rw [D0Z h h0];exact ⟨_,rfl,rfl⟩)
  rw [hr,hQ]
end Go.Win
namespace Go.Win
open Go.Vc Go.Dec
end Go.Win
namespace Go.Win
open Go.Vc Go.Dec
theorem C5s {a b:A2} (ha:I2 a) (hb:I2 b):A9M a b=some (I9 (Nat.gcd (wv a).toNat (wv b).toNat:Nat)):=by
 unfold A9M B80;obtain ⟨r,hr,hQ⟩:=R3 (f:=fun s:Int×Int×Int×Int=>B3d s.1 s.2.1 s.2.2.1 s.2.2.2)
  (fun s=>I2 ⟨s.1,s.2.1⟩/\I2 ⟨s.2.2.1,s.2.2.2⟩/\Nat.gcd (wv ⟨s.1,s.2.1⟩).toNat (wv ⟨s.2.2.1,s.2.2.2⟩).toNat=Nat.gcd (wv a).toNat (wv b).toNat)
  (fun s=>(wv ⟨s.2.2.1,s.2.2.2⟩).toNat) (fun r=>r=I9 (Nat.gcd (wv a).toNat (wv b).toNat:Nat)) (a.Hi,a.Lo,b.Hi,b.Lo) ⟨ha,hb,rfl⟩ (by
   rintro ⟨x1,x2,y1,y2⟩ ⟨hx,hy,hg⟩;simp only at hx hy hg⊢;have rx:=A9O hx;have ry:=A9O hy;unfold B3d A09;simp only
   by_cases h0:wv ⟨y1,y2⟩=0
   ·right;have hz:y1=0/\y2=0:=by unfold wv at h0;unfold I2 at hy;simp only at h0 hy;omega
    obtain ⟨rfl,rfl⟩:=hz;refine ⟨_,rfl, ?_⟩;rw [<-hg,h0];simp only [Int.toNat_zero,Nat.gcd_zero_right];rw [Int.toNat_of_nonneg rx.1,D5o hx]
   ·left;have c:(!(y1==0&&y2==0))=true:=by
     unfold wv at h0;simp only [D7C,D77,D76];simp only at h0;omega
    rw [c,D7k,B3g hx hy (by omega)]
    have hm0:0<=wv ⟨x1,x2⟩%wv ⟨y1,y2⟩:=Int.emod_nonneg _ h0;have hm1:wv ⟨x1,x2⟩%wv ⟨y1,y2⟩<wv ⟨y1,y2⟩:=Int.emod_lt_of_pos _ (by omega)
    refine ⟨_,rfl,⟨hy,A0e hm0 (by omega), ?_⟩, ?_⟩
    ·show Nat.gcd _ (wv (I9 _)).toNat=_;rw [Z1,<-hg,Int.toNat_emod rx.1 ry.1,Nat.gcd_comm,<-Nat.gcd_rec,Nat.gcd_comm]
    ·show (wv (I9 _)).toNat<_;rw [Z1];omega)
 rw [hr,hQ]
theorem C2w {n:Int} (h1:-9223372036854775808<=n) (h2:n<=9223372036854775807):A0O n=A7X n/\0<=A7X n/\A7X n<18446744073709551616:=by
 unfold A0O A7X
 by_cases h:n<0
 ·rw [D7l h];simp only [D7k];have e1:A1 (n+1)=n+1:=by rw [C7]<;>omega
  have e2:IntKind.i64.wrap (0-(n+1))=0-(n+1):=by
   show A1 (0-(n+1))=_;rw [C7]<;>omega
  rw [e1,e2];have e3:A4 n=n+18446744073709551616:=by rw [K3];omega
  have e4:A4 (0-(n+1))=0-(n+1):=by rw [K3];omega
  have e5:IntKind.u64.wrap (0-(n+18446744073709551616))= -n:=by
   show A4 (0-(n+18446744073709551616))=_;rw [K3];omega
  have e6:A4 (0-(n+1)+1)= -n:=by rw [K3];omega
  rw [e3,e4,e5,e6];omega
 ·rw [D7n h];simp only [D7j];exact ⟨trivial,by rw [K3];omega,by rw [K3];omega⟩
theorem D2i {x:D0} (h:okV x=true) (hl:x.Bb.length<=65536):A8L x.Bb:=by
 refine ⟨hl,fun p hp=> ?_⟩;unfold okV at h;simp only [D7o,D7S] at h;have hv:=(h.2.2 p hp).2;unfold N9 at hv;simp only [D7o,D7i] at hv;omega
theorem D5s {x:D0} (h:okV x=true):x.Bb.length<=65536:=by
 unfold okV Q8 at h;simp only [D7o,D7i] at h;omega
theorem C4Y (n:Int):0<=A0O n/\A0O n<18446744073709551616:=by
 unfold A0O;have h1:=W4 n;have h2:0<=IntKind.u64.wrap (0-A4 n)/\IntKind.u64.wrap (0-A4 n)<18446744073709551616:=W4 (0-A4 n);cases decide (n<0)<;>assumption
instance {r:A5}:TS (Q4 r) True (fun _=>True):=⟨fun _=>by
 have a:=B40 (C4Y r.Bu).1 (C4Y r.Bu).2;have b:=B40 (W4 r.Bp).1 (W4 r.Bp).2;have g:TS (A9M (K6 (A0O r.Bu)) (K6 (A4 r.Bp))) True (fun _=>True):=⟨fun _=>⟨_,C5s a.1 b.1,trivial⟩⟩;unfold Q4 B4j;exact yT⟩
theorem C9Z (l:List A9) (hm:l.length<=65536):T (A6V l) (fun _=>True):=by
 have key: ∀v,TS (A9p l v 0) True (fun _=>True):=fun v=>⟨fun _=>by
  unfold A9p;refine yL (fun s=>0<=s.2/\s.2<=l.length) (fun s=>l.length-s.2.toNat) ⟨Int.le_refl _,by simp⟩ fun s hs=> ?_
  unfold B3D;simp only [A0k s.2 (by omega)]
  exact yT⟩
 unfold A6V;exact yT
theorem C31 (l:List A9) (hm:l.length<=65536):T (A3D l) (fun _=>True):=by
 have key: ∀v,TS (A6z l v 0) True (fun _=>True):=fun v=>⟨fun _=>by
  unfold A6z;refine yL (fun s=>0<=s.2/\s.2<=l.length) (fun s=>l.length-s.2.toNat) ⟨Int.le_refl _,by simp⟩ fun s hs=> ?_
  unfold B0l;simp only [A0k s.2 (by omega)]
  exact yT⟩
 unfold A3D;exact yT
theorem D4S (x:D0) (q:T0) (hm:x.Bb.length<=maxLen) (hA:-9223372036854775808<=q.A/\q.A<=9223372036854775807) (hB:-9223372036854775808<=q.B/\q.B<=9223372036854775807):
  T (B1G x q) fun r=>r.1.Aw.length<=2:=by
 unfold B1G;rw [A8X,A6o x hm];cases hok:okV x with
 |false=>exact yT
 |true=>
  have hl:=D5s hok;have hs:=D2i hok hl;have hr:B5M x.Bb:=fun p hp=>by have:=hs.2 p hp;omega
  have i1:TS (A6V x.Bb) True (fun _=>True):=⟨fun _=>C9Z _ hl⟩;have i2:TS (A3D x.Bb) True (fun _=>True):=⟨fun _=>C31 _ hl⟩;have i3:TS (A3E x.Bb q.A q.B) True (fun _=>True):=⟨fun _=>let ⟨y,e⟩:=B8i x.Bb q.A q.B hA hB (by omega);⟨y,e,trivial⟩⟩
  have i4: ∀n,TS (A1u n) True (fun r=>r.1.Aw.length<=2):=fun n=>⟨fun _=>by unfold A1u;exact yT⟩
  simp only [C9H x.Bb hr (by omega),C2N x.Bb hr (by omega),C3U hs,C8i x.Bb q.A (by omega)]
  exact yT
end Go.Win
namespace Go.Win
open Go.Vc Go.Dec
theorem B87 {n:Int} (h1:-9223372036854775808<=n) (h2:n<=9223372036854775807): ∃b,Q4 (A1t n)=some b:=yE (TS.pf trivial)
theorem C4B {l:List A3} {W K Cap Now:Int} (h:B2Q l W K Cap Now) (hl:l.length<=1048576): ∃b,A4p l=some b:=by
 have hm:l.length<=maxLen:=H8 hl;unfold A4p A7A;exact yE (Q:=fun _=>True) (by exact yT)
theorem C9q (x:E4) (hl:x.Ad.length<=1048576): ∃r,B3A x=some r:=by
 unfold B3A;rw [A5R x (H8 hl)];simp only [D7g]
 by_cases h:B2Q x.Ad x.W x.K x.Cap x.Now
 ·obtain ⟨b,e1⟩:=C4B h hl;rw [V0 h,e1];exact ⟨_,rfl⟩
 ·rw [I8 h];exact ⟨_,rfl⟩
theorem D3l (x:F4) (hl:x.Ad.length<=1048576): ∃r,B8b x=some r:=by
 unfold B8b;rw [A8N x (H8 hl)];simp only [D7g]
 by_cases h:C3e x
 ·obtain ⟨b,e1⟩:=C4B h.1 hl;rw [V0 h,e1];exact ⟨_,rfl⟩
 ·rw [I8 h];exact ⟨_,rfl⟩
theorem D0h {x:D3} (h:C09 x) {i:Nat} (hi:i<x.Bf.length):0<=Y6 (el x.Bf i) x.Bo/\Y6 (el x.Bf i) x.Bo<4611686018427387904:=by
 obtain ⟨ha,hp,hm,_⟩:=h;have h1:=hm.2.1 i hi;unfold B7j mk1 mk2 at h1;unfold A8p at hp;obtain ⟨g1,g2,_⟩:=h1;have hmn:=A60 (A9t x.Bo) hm hi;have hN:1<=(el x.Bf i).N/\(el x.Bf i).N<=65536:=by omega
 have f:=(B88 ⟨by omega,hN.2⟩ hmn.2.1 hmn.2.2).1 g2.2.2.2
 have hagg:x.Bo=1\/x.Bo=2\/x.Bo=3\/x.Bo=4:=by omega
 have hmax:(el x.Bf i).N*(el x.Bf i).Bs<=65536*4096:=by
  rcases Int.le_total 0 (el x.Bf i).Bs with g|g
  ·exact Int.mul_le_mul hN.2 (by omega) g (by omega)
  ·have:=Int.mul_nonneg (a:=(el x.Bf i).N) (b:= -(el x.Bf i).Bs) (by omega) (by omega)
   rw [Int.mul_neg] at this;omega
 rw [C3d hmn.2.1 hmn.2.2];unfold A7K;have hlo2:x.Bo=2->(0:Int)<=(el x.Bf i).Bt:=fun e=>by
  have g:=g2.1;rw [e] at g;exact g
 rcases hagg with e|e|e|e<;>rw [e]<;>simp
 ·omega
 ·have hlo:(0:Int)<=(el x.Bf i).Bt:=hlo2 e;have:=Int.mul_nonneg (a:=(el x.Bf i).N) (b:=(el x.Bf i).Bt) (by omega) hlo
  omega
 ·omega
 ·have e1:B0t (el x.Bf i).Bs (el x.Bf i).Bt=((el x.Bf i).Bs-(el x.Bf i).Bt,true):=by
   have g3:=C3d hmn.2.1 hmn.2.2 4;unfold B0t;have:((decide ((el x.Bf i).Bt<0)&&decide ((el x.Bf i).Bs>A1 (9223372036854775807+(el x.Bf i).Bt)))||(decide ((el x.Bf i).Bt>0)&&decide ((el x.Bf i).Bs<A1 (-9223372036854775808+(el x.Bf i).Bt))))=false:=by
    by_cases g1:(el x.Bf i).Bt<0
    ·rw [C7 (n:=9223372036854775807+(el x.Bf i).Bt) (by omega) (by omega)]
     simp;omega
    ·by_cases g2:(el x.Bf i).Bt>0
     ·rw [C7 (n:= -9223372036854775808+(el x.Bf i).Bt) (by omega) (by omega)]
      simp;omega
     ·simp;omega
   rw [this,D7j,C7]<;>omega
  rw [e1];simp;omega
theorem C4e {l:List A7} {seq cap now w lo:Int} (h:A54 l seq cap now w lo) (h0:0<l.length) (hn:¬I1 now w (el l 0).T=true):1<l.length:=by
 rcases Nat.lt_or_ge 1 l.length with g|g
 ·exact g
 ·exact absurd ((h.2.1 0 h0).2.2.1 (.inr (by omega))) hn
theorem C72 (x:D3) (hl:x.Bf.length<=1048576): ∃r,B13 x=some r:=by
 unfold B13;rw [A5g x (H8 hl)];simp only [D7g]
 by_cases h:C09 x
 ·rw [V0 h];simp only [D7T,D7j]
  by_cases h0:x.Bf.length=0
  ·have c:((x.Bf.length:Int)==0)=true:=by rw [D8a];omega
   obtain ⟨b,e1⟩:=B87 (n:=0) (by decide) (by decide)
   simp only [c,D7k,e1,D7g];exact ⟨_,rfl⟩
  ·have c:((x.Bf.length:Int)==0)=false:=by rw [D76];omega
   have g0:0<x.Bf.length:=by omega
   have r0:=A60 (A9t x.Bo) h.2.2.1 g0;have o0:=D0h h g0;have q0:=C3d r0.2.1 r0.2.2 x.Bo;simp only [c,D7j,A9n g0,D7g,A5Y,<-q0];cases hlv:I1 x.Now x.W (el x.Bf 0).T with
   |true=>
    obtain ⟨b,e1⟩:=B87 (n:=Y6 (el x.Bf 0) x.Bo) (by omega) (by omega)
    simp only [D7k,e1,D7g];exact ⟨_,rfl⟩
   |false=>
    have g1:=C4e h.2.2.1 g0 (by rw [hlv];decide)
    have r1:=A60 (A9t x.Bo) h.2.2.1 g1;have o1:=D0h h g1;have q1:=C3d r1.2.1 r1.2.2 x.Bo;have i1:C1 x.Bf 1=some (el x.Bf 1):=L1 g1;simp only [D7j,i1,D7g,<-q1];cases ((el x.Bf 1).Bv==A1 ((el x.Bf 0).Bv+1)) with
    |true=>
     obtain ⟨b,e1⟩:=B87 (n:=Y6 (el x.Bf 1) x.Bo) (by omega) (by omega)
     simp only [D7k,e1,D7g];exact ⟨_,rfl⟩
    |false=>
     simp only [D7j,D7g];exact ⟨_,rfl⟩
 ·rw [I8 h];exact ⟨_,rfl⟩
theorem C8U {d n:Nat} (hd:d<9223372036854775808) (hn:n<9223372036854775808) (h0:0<n):
  B1E (d:Int) (n:Int)=some (B2n d n,true):=by
 have gpos:0<Nat.gcd d n:=Nat.gcd_pos_of_pos_right _ h0;have q1:d/Nat.gcd d n<=d:=Nat.div_le_self _ _;have q2:n/Nat.gcd d n<=n:=Nat.div_le_self _ _;have gle:Nat.gcd d n<=n:=Nat.gcd_le_right _ h0;unfold B1E;have c1:((n:Int)==0)=false:=by rw [D76];omega
 rw [c1,D7j];simp only;obtain ⟨s1,_,_⟩:=C2w (n:=(d:Int)) (by omega) (by omega)
 obtain ⟨s2,_,_⟩:=C2w (n:=(n:Int)) (by omega) (by omega)
 rw [s1,s2,C6D (by omega) (by omega),C6D (by omega) (by omega),if_neg (by omega),if_neg (by omega),B45]
 obtain ⟨o1,v1⟩:=B40 (n:=(d:Int)) (by omega) (by omega)
 obtain ⟨o2,v2⟩:=B40 (n:=(n:Int)) (by omega) (by omega)
 have c2:(!(decide ((d:Int)<0)==decide ((n:Int)<0)))=false:=by
  have a1:decide ((d:Int)<0)=false:=by rw [D7x];omega
  have a2:decide ((n:Int)<0)=false:=by rw [D7x];omega
  rw [a1,a2];rfl
 rw [c2];unfold B0T;rw [C5s o1 o2,v1,v2,D7W,D7W];simp only [D7g];have og:I2 (I9 ((Nat.gcd d n:Nat):Int)):=A0e (by omega) (by omega)
 rw [B3g o1 og (by rw [Z1];omega),B3g o2 og (by rw [Z1];omega),Z1,v1,v2]
 simp only [D7g];have f1:(d:Int)/((Nat.gcd d n:Nat):Int)=((d/Nat.gcd d n:Nat):Int):=by rw [Int.natCast_ediv]
 have f2:(n:Int)/((Nat.gcd d n:Nat):Int)=((n/Nat.gcd d n:Nat):Int):=by rw [Int.natCast_ediv]
 rw [f1,f2];unfold B2n
 generalize d/Nat.gcd d n=x at*
 generalize n/Nat.gcd d n=y at*
 unfold I9;simp only [D7t,Bool.and_true,D7j];have c3:((((((x:Int)/18446744073709551616 !=0)||((y:Int)/18446744073709551616 !=0))||decide ((y:Int)%18446744073709551616>=9223372036854775808))||decide ((x:Int)%18446744073709551616>9223372036854775808))||((x:Int)%18446744073709551616==9223372036854775808))=false:=by
  simp only [D7Q,bne_eq_false_iff_eq,D7x,D76];omega
 rw [c3,D7j];have w1:A1 ((x:Int)%18446744073709551616)=(x:Int):=by rw [C7]<;>omega
 have w2:A1 ((y:Int)%18446744073709551616)=(y:Int):=by rw [C7]<;>omega
 rw [w1,w2]
 rfl
theorem C40 (m:A7): ∃r,A7Z m=some r/\(-9223372036854775808<=r.1.Bu/\r.1.Bu<=9223372036854775807)/\(-9223372036854775808<=r.1.Bp/\r.1.Bp<=9223372036854775807):=by
 unfold A7Z;rw [C4N];cases hm:A2V m with
 |false=>exact ⟨_,rfl,by decide,by decide⟩
 |true=>
  have h:=(B0p m).1 hm;have t:=C1F h;have e:=C5a h;have e2:A1 (A1 (m.N*m.Q)-A1 (m.S*m.S))=A6P m:=by rw [<-e];rfl
  obtain ⟨d,hd⟩:=Int.eq_ofNat_of_zero_le t.1;have hn:=h.1;obtain ⟨n,hnn⟩:=Int.eq_ofNat_of_zero_le (show 0<=m.N by omega)
  have q1:d/Nat.gcd d n<=d:=Nat.div_le_self _ _;have q2:n/Nat.gcd d n<=n:=Nat.div_le_self _ _;simp only [D7s,D7j];rw [e,hd,hnn,C8U (by omega) (by omega) (by omega)]
  refine ⟨_,rfl, ?_, ?_⟩
  ·show (-9223372036854775808:Int)<=((d/Nat.gcd d n:Nat):Int)/\((d/Nat.gcd d n:Nat):Int)<=9223372036854775807
   generalize d/Nat.gcd d n=y at*
   omega
  ·show (-9223372036854775808:Int)<=((n/Nat.gcd d n:Nat):Int)/\((n/Nat.gcd d n:Nat):Int)<=9223372036854775807
   generalize n/Nat.gcd d n=y at*
   omega
theorem C73 (x:D5) (hl:x.Bf.length<=1048576): ∃r,B17 x=some r:=by
 have sp: ∀m,TS (A7Z m) True (fun _=>True):=fun m=>⟨fun _=>let ⟨r,e,_⟩:=C40 m;⟨r,e,trivial⟩⟩
 unfold B17;rw [A5h x (H8 hl)]
 by_cases h:C8F x
 ·have g:=fun g0 g1=>C4e (w:=x.W) h.2.1 g0 g1;simp only [A5Y];refine yE (Q:=fun _=>True) ?_;exact yT
 ·rw [I8 h];exact ⟨_,rfl⟩
instance {a:A2} {k:Nat}:TS (A3V a (k:Int)) (I2 a/\k<=63) (fun r=>I2 r.1):=⟨fun ⟨h1,h2⟩=>⟨_,D1g h1 h2,by
 unfold C8u;split
 ·exact A0e (Int.mul_nonneg (by unfold I2 at h1;unfold wv;omega) (Int.le_of_lt (A0J k))) (by assumption)
 ·show I2 ⟨0,0⟩;unfold I2;simp⟩⟩
theorem D1q (x:E3) (hw:∀w∈x.Ag,I2 w): ∃r,B5H x=some r:=by
 unfold B5H;rw [A7o x hw]
 by_cases h:D2d x
 ·have h1:=h.1;have o:=W4 (A1 (A1 (x.Now-x.Bj)+1));exact yE (Q:=fun _=>True) (by exact yT)
 ·rw [I8 h];exact ⟨_,rfl⟩
theorem C5K (x:C4) (hl:x.Bb.length<=1048576): ∃r,A9X x=some r:=by
 unfold A9X;rw [A35 x (H8 hl)];simp only [D7g];cases (vOf (D2c x) !=0) with
 |true=>exact ⟨_,rfl⟩
 |false=>
  by_cases h0:x.Bb.length=0
  ·have c:((x.Bb.length:Int)==0)=true:=by rw [D8a];omega
   rw [c];exact ⟨_,rfl⟩
  ·have c:((x.Bb.length:Int)==0)=false:=by rw [D76];omega
   rw [c,A9n (by omega)]
   exact ⟨_,rfl⟩
theorem C9r (x:F6) (hl:x.Bn.length<=1048576): ∃r,B3L x=some r:=by
 unfold B3L;rw [A5X x (H8 hl)]
 by_cases h:C4n x
 ·have hn:=h.1.1;have en:A1 ((x.Bn.length:Int)-1)=((x.Bn.length-1:Nat):Int):=by rw [C7]<;>omega
  have:TS (B2I x 0 0 0) True (fun _=>True):=⟨fun _=>by
   unfold B2I;refine yL (fun s=>0<=s.1/\s.1<=x.Bn.length/\I2 ⟨s.2.1,s.2.2⟩) (fun s=>x.Bn.length-s.1.toNat) ⟨Int.le_refl _,by simp,by unfold I2;simp⟩ fun s ⟨h1,h2,h3⟩=> ?_
   have o: ∀n,I2 (K6 (A4 n)):=fun n=>B3Q (W4 n);have o1:I2 (K6 1):=B3Q (by decide)
   unfold B6e;simp only [A0k s.1 (by omega),en]
   have l1: ∀a,TS (A3V a 1) (I2 a) (fun r=>I2 r.1):=fun a=>⟨fun h=>TS.pf (m:=A3V a ((1:Nat):Int)) ⟨h,by decide⟩⟩
   exact yT⟩
  exact yE (Q:=fun _=>True) (by exact yT)
 ·rw [I8 h];exact ⟨_,rfl⟩
end Go.Win
namespace Go.Win
open Go.Vc Go.Dec
theorem D00 {x:B8} (h:C1a x):x.Av.length<=65536:=by
 have:=h.1;unfold B4Q at this;omega
instance {a b:A2}:TS (A19 a b) (I2 a/\I2 b/\0<wv b) (fun _=>True):=⟨fun h=>⟨_,B3g h.1 h.2.1 h.2.2,trivial⟩⟩
theorem D4a (a b:Int):I2 (R1 (A4 a) (A4 b)):=by
 rw [show R1=R9 from rfl,A8r (W4 a) (W4 b)];exact A0e (A7W (W4 a) (W4 b)).1 (A7W (W4 a) (W4 b)).2
theorem D5p {q:Int} (h:1<=q/\q<=9223372036854775807):I2 (K6 (A4 q))/\0<wv (K6 (A4 q)):=by
 obtain ⟨a,b⟩:=B40 (W4 q).1 (W4 q).2;exact ⟨a,by rw [show K6=S5 from rfl,b,K3];omega⟩
instance {x:B8}:TS (A2Y x) (x.Av.length<=1048576) (fun r=>r.length<=1048576):=⟨fun h=>by
 unfold A2Y B0y;refine yL (fun s=>0<=s.2.2/\s.2.2<=x.Av.length/\s.1.length<=s.2.2) (fun s=>x.Av.length-s.2.2.toNat) ⟨Int.le_refl _,by simp,by simp⟩ fun s hs=> ?_
 unfold A89;simp only [A0k s.2.2 (by omega)]
 exact yT⟩
instance {x:B8} {v:Int} {l:List B4}:TS (A8R x v l 0 0) (l.length<=1048576) (fun _=>True):=⟨fun h=>by
 unfold A8R;refine yL (fun s=>0<=s.2/\s.2<=l.length) (fun s=>l.length-s.2.toNat) ⟨Int.le_refl _,by simp⟩ fun s hs=> ?_
 unfold B26 A8Q;simp only [A0k s.2 (by omega)]
 exact yT⟩
instance {v a b:Int} {l:List B4}:TS (A42 v l a b 0) (l.length<=1048576) (fun _=>True):=⟨fun h=>by
 unfold A42;refine yL (fun s=>0<=s.2.2/\s.2.2<=l.length) (fun s=>l.length-s.2.2.toNat) ⟨Int.le_refl _,by simp⟩ fun s hs=> ?_
 unfold A8O;simp only [A0k s.2.2 (by omega)]
 exact yT⟩
theorem C9t (x:B8) (v:Int): ∃r,A8P x v=some r:=by
 unfold A8P;rw [A4h]
 by_cases hv:C1a x
 ·have:=D00 hv;exact yE (Q:=fun _=>True) (by exact yT)
 ·rw [I8 hv];exact ⟨_,rfl⟩
theorem C74 (x:B8) (p q:Int) (hp:-9223372036854775808<=p/\p<=9223372036854775807) (hq:-9223372036854775808<=q/\q<=9223372036854775807): ∃r,A4g x p q=some r:=by
 unfold A4g A9H;rw [A4h]
 by_cases hv:C1a x
 ·have:=D00 hv
  by_cases hq1:1<=q
  ·have o:=D5p (q:=q) ⟨hq1,hq.2⟩;have o2:=D4a p x.N;exact yE (Q:=fun _=>True) (by exact yT)
  ·have e:decide (q<1)=true:=D7l (by omega)
   rw [e];exact yE (Q:=fun _=>True) (by exact yT)
 ·rw [I8 hv];exact ⟨_,rfl⟩
end Go.Win
namespace Go.Win
open Go.Vc Go.Dec
instance {r:D4} {v:Int}:TS (B3S r v) (r.Ae.length<=1000000000) (fun _=>True):=⟨fun h=>by
 have:TS (B2X r v 0 0) True (fun _=>True):=⟨fun _=>by
  unfold B2X;refine yL (fun s=>0<=s.2/\s.2<=r.Ae.length) (fun s=>r.Ae.length-s.2.toNat) ⟨Int.le_refl _,by simp⟩ fun s hs=> ?_
  unfold B6i B2W;simp only [A0k s.2 (by omega)]
  exact yT⟩
 unfold B3S;rw [A0w r (by omega)]
 exact yT⟩
theorem C63 (l:List B2) {i:Nat} (h:i<l.length):Q1 (l.take (i+1))=Q1 (l.take i)+(el l i).Bh.Ae.length:=by
 rw [List.take_add_one,A5S h,B2C];simp [Q1]
theorem C46 {l:List B2} (hs:A1V l) (he:Q1 l<=900000000):T (A22 l) fun r=>r.1.Ae.length<=1000000000:=by
 have hl:=hs.1;have j7: ∀n e,e.length<=1+(el l 0).Bh.Ae.length->0<l.length->TS (A1S l n e) True (fun r=>r.1.Ae.length<=1000000000):=fun n e h1 h2=>⟨fun _=>by
  have e0:=C63 l h2;have e1:Q1 (l.take 0)=0:=rfl;have e9: ∀i,i<=l.length->Q1 (l.take i)<=Q1 l:=fun i hi=>by
   conv=>rhs;rw [<-List.take_append_drop i l,B2C]
   omega
  unfold A1S B4B;refine yK (by simp;omega) ?_
  refine yL (fun s=>0<=s.1/\s.1+1<=l.length/\s.2.2.length<=1+Q1 (l.take (s.1.toNat+1))) (fun s=>l.length-s.1.toNat) ⟨Int.le_refl _,by show (0:Int)+1<=_;omega,by show e.length<=1+Q1 (l.take (0+1));omega⟩ fun s ⟨h3,h4,h5⟩=> ?_
  have e2:=e9 (s.1.toNat+1) (by omega)
  unfold B3n;rw [show (1:Int).toNat=1 from rfl,D7O];refine yC (fun h=> ?_) (fun _=>yP (yI (by show s.2.2.length<=_;omega)))
  rw [D7i] at h;have h6:s.1.toNat+1<l.length:=by omega
  have e3:=C63 l h6;have e4:=e9 (s.1.toNat+1+1) (by omega)
  have e5:el (l.drop 1) s.1.toNat=el l (s.1.toNat+1):=by
   rw [A0U (by rw [D7O];omega),A0U h6,List.getElem_drop]
   congr 1;omega
  have e6:=hs.2 _ (A2P h6);simp only [A0k s.1 (by omega)]
  refine yB (yX ⟨h3,by rw [D7O];omega⟩ fun _=> ?_)
  rw [e5];refine yB (yS ⟨by show s.2.2.length<=_;omega,e6⟩ fun y hy=> ?_)
  have hy:y.1.Ae.length<=s.2.2.length+(el l (s.1.toNat+1)).Bh.Ae.length:=hy;have e7:(s.1+1).toNat=s.1.toNat+1:=by omega
  refine yC (fun _=>yI (Nat.zero_le _)) (fun _=>yI ⟨⟨by show 0<=s.1+1;omega,by show s.1+1+1<=_;omega, ?_⟩, ?_⟩)
  ·show y.1.Ae.length<=1+Q1 (l.take ((s.1+1).toNat+1));rw [e7];omega
  ·show l.length-(s.1+1).toNat<l.length-s.1.toNat;omega⟩
 have v: ∀i,i<l.length->TS (R8 (el l i).Bh) True (fun _=>True):=fun i hi=>⟨fun _=>⟨_,A0w _ (by have:=hs.2 _ (A2P hi);omega),trivial⟩⟩
 unfold A22 B4A;refine yL (fun s=>0<=s/\s<=l.length) (fun s=>l.length-s.toNat) ⟨Int.le_refl _,by simp⟩ fun s hs=> ?_
 unfold B3m A0r;simp only [A0k s (by omega)]
 refine yC (fun h=> ?_) (fun h=>yP ?_)
 ·rw [D7i] at h;have:=v s.toNat (by omega)
  exact yT
 ·refine yC (fun _=>yI (Nat.zero_le _)) (fun h=> ?_);rw [D76] at h;have h0:0<l.length:=by omega
  have a: ∀n,TS (A1S l n (el l (Int.toNat 0)).Bh.Ae) True (fun r=>r.1.Ae.length<=1000000000):=fun n=>j7 n (el l 0).Bh.Ae (by omega) h0
  have b:=fun n x=>j7 n [x] (by simp) h0
  exact yT
theorem C9s (x:C2) (v:Int) (hs:A1V x.Ak) (he:Q1 x.Ak<=900000000): ∃r,A7q x v=some r:=by
 have:TS (A22 x.Ak) True (fun r=>r.1.Ae.length<=1000000000):=⟨fun _=>C46 hs he⟩;unfold A7q B34;rw [A1D x hs];exact yE (Q:=fun _=>True) (by exact yT)
theorem C71 (x:C2) (p q:Int) (hp:-9223372036854775808<=p/\p<=9223372036854775807) (hq:-9223372036854775808<=q/\q<=9223372036854775807) (hs:A1V x.Ak) (he:Q1 x.Ak<=900000000): ∃r,A55 x p q=some r:=by
 have:TS (A22 x.Ak) True (fun r=>r.1.Ae.length<=1000000000):=⟨fun _=>C46 hs he⟩;have: ∀r:D4,TS (A4x r p q) (r.Ae.length<=1000000000) (fun _=>True):=fun r=>⟨fun h=>let ⟨y,e⟩:=C54 r p q hp hq h;⟨y,e,trivial⟩⟩
 unfold A55 A74;rw [A1D x hs];exact yE (Q:=fun _=>True) (by exact yT)
end Go.Win
namespace Go.Win
open Go.Vc Go.Dec
def D6M:E7:=⟨⟨⟨0,0⟩,⟨0,0⟩,⟨0,0⟩⟩, [],⟨⟨0,0⟩,⟨0,0⟩⟩⟩
theorem D1p (s:A8) (w:A2o s) (q:T0) (ho:-9223372036854775808<=q.Op/\q.Op<=9223372036854775807) (hA:-9223372036854775808<=q.A/\q.A<=9223372036854775807) (hB:-9223372036854775808<=q.B/\q.B<=9223372036854775807):
  ∃r,A8T s q=some r/\r.1.Aw.length<=16:=by
 obtain ⟨h1,h2,h3,h4,h5,h6,h7,h8,h9,h10,h11⟩:=id w;unfold A8T;rw [(V7 s w),D7g]
 by_cases hv:A8n s
 ·obtain ⟨⟨hf,hq⟩,_⟩:=B5F hv w;unfold B9z at hf;rw [V0 hv];simp only [D7T,D7j];cases A9k s.Ao q.Op with
  |false=>exact ⟨_,rfl,Nat.zero_le _⟩
  |true=>
  simp only [D7s,D7j];have fin: ∀(f v:Int) (b:Bool) (a:E7),a.Aw.length<=16-> ∃r,N8 f v b a=some r/\r.1.Aw.length<=16:=by
   intro f v b a ha;unfold N8;cases (f !=0) with
   |true=>exact ⟨_,rfl,Nat.zero_le _⟩
   |false=>
    cases b with
    |true=>exact ⟨_,rfl,by show 1<=16;omega⟩
    |false=>exact ⟨_,rfl,ha⟩
  have fin0: ∀(f:Int) (a:E7),a.Aw.length<=16-> ∃r,(cond (f !=(0:Int)) (some (D6M,f)) (some (a,(0:Int))))=some r/\r.1.Aw.length<=16:=by
   intro f a ha;cases (f !=0) with
   |true=>exact ⟨_,rfl,Nat.zero_le _⟩
   |false=>exact ⟨_,rfl,ha⟩
  cases c1:(s.Ao.Bi==(1:Int)) with
  |true=>
   obtain ⟨r,e1,e3⟩:=D4S s.Aq q (H8 h1) hA hB;simp only [D7k,e1,D7g];exact ⟨_,rfl,by show r.1.Aw.length<=16;omega⟩
  |false=>
  cases c2:(s.Ao.Bi==(2:Int)) with
  |true=>
   obtain ⟨r,e1⟩:=C9q s.Ay (by omega)
   simp only [D7k,D7j,e1,D7g];exact fin _ _ _ _ (Nat.zero_le _)
  |false=>
  cases c3:(s.Ao.Bi==(3:Int)) with
  |true=>
   obtain ⟨r,e1⟩:=D3l s.Sum (by omega)
   simp only [D7k,D7j,e1,D7g];exact fin _ _ _ _ (Nat.zero_le _)
  |false=>
  cases c4:(s.Ao.Bi==(4:Int)) with
  |true=>
   obtain ⟨r,e1⟩:=C72 s.As (by omega)
   simp only [D7k,D7j,e1,D7g];exact fin _ _ _ _ (Nat.zero_le _)
  |false=>
  cases c5:(s.Ao.Bi==(5:Int)) with
  |true=>
   obtain ⟨r,e1⟩:=C73 s.Au (by omega)
   simp only [D7k,D7j,e1,D7g];exact fin _ _ _ _ (Nat.zero_le _)
  |false=>
  cases c6:(s.Ao.Bi==(6:Int)) with
  |true=>
   obtain ⟨r,e1⟩:=D1q s.Bm h6.2;simp only [D7k,D7j,e1,D7g];exact fin _ _ _ _ (Nat.zero_le _)
  |false=>
  cases c7:(s.Ao.Bi==(7:Int)) with
  |true=>
   obtain ⟨r,e1⟩:=C9r s.Ba (by omega)
   simp only [D7k,D7j,e1,D7g];exact fin _ _ _ _ (Nat.zero_le _)
  |false=>
  cases c8:(s.Ao.Bi==(8:Int)) with
  |true=>
   obtain ⟨r,e1⟩:=C5K s.Af (by omega)
   simp only [D7k,D7j,e1,D7g];exact fin _ _ _ _ (Nat.zero_le _)
  |false=>
  cases c9:(s.Ao.Bi==(9:Int)) with
  |true=>
   obtain ⟨r,e1,e3⟩:=C5J s.Ar (H8 h9.1) (fun c hc=>H8 (h9.2 c hc));simp only [D7k,D7j,e1,D7g];exact fin _ _ _ _ e3
  |false=>
  cases c10:(s.Ao.Bi==(10:Int)) with
  |true=>
   simp only [D7k,D7j];cases (q.Op==(7:Int)) with
   |true=>
    obtain ⟨r,e1⟩:=C9t s.Ai q.A;simp only [D7k,e1,D7g];exact fin0 _ _ (Nat.zero_le _)
   |false=>
    obtain ⟨r,e1⟩:=C74 s.Ai q.A q.B hA hB;simp only [D7j,e1,D7g];exact fin _ _ _ _ (Nat.zero_le _)
  |false=>
  cases c11:(s.Ao.Bi==(11:Int)) with
  |true=>
   have hsm:=h11;simp only [D7k,D7j];cases (q.Op==(7:Int)) with
   |true=>
    obtain ⟨r,e1⟩:=C9s s.Ab q.A hsm (by omega)
    simp only [D7k,e1,D7g];exact fin0 _ _ (Nat.zero_le _)
   |false=>
    obtain ⟨r,e1⟩:=C71 s.Ab q.A q.B hA hB hsm (by omega)
    simp only [D7j,e1,D7g];exact fin _ _ _ _ (Nat.zero_le _)
  |false=>
   simp only [D7j];exact fin _ _ _ _ (Nat.zero_le _)
 ·rw [I8 hv];exact ⟨_,rfl,Nat.zero_le _⟩
end Go.Win
namespace Go.Win
open Go.Vc Go.Dec
def rid (l:List A6) (i:Nat):Int:=(l.getD i default).ID
theorem B9j {l:List A6} {i:Nat} (h:i<l.length):C1 l (i:Int)=some (l.getD i default):=by
 rw [S4,D7u h];simp [List.getD,D7u h]
def Asc (l:List A6):Prop:= ∀i,i+1<l.length->rid l i<rid l (i+1)
theorem C9p {l:List A6} (h:Asc l): ∀ {i j:Nat},i<j->j<l.length->rid l i<rid l j:=by
 intro i j hij hj
 induction j with
 |zero=>omega
 |succ j ih=>
  have:=h j hj
  by_cases e:i=j
  ·subst e;exact this
  ·have:=ih (by omega) (by omega);omega
def B2x (l:List A6) (id:Int):Nat->Nat
 |0=>0
 |i+1=>B2x l id i+if rid l i<id then 1 else 0
theorem B7V (l:List A6) (id:Int): ∀i,B2x l id i<=i
 |0=>D7Y 0
 |i+1=>by
  have:=B7V l id i;simp only [B2x];split<;>omega
theorem D1E {l:List A6} (h:Asc l) (id:Int): ∀i,i<=l.length-> ∀j,j<i->(rid l j<id↔j<B2x l id i):=by
 intro i
 induction i with
 |zero=>intro _ j hj;omega
 |succ i ih=>
  intro hi j hj;have hc:=B7V l id i;simp only [B2x]
  by_cases hlt:rid l i<id
  ·rw [if_pos hlt];have full:B2x l id i=i:=by
    apply Nat.le_antisymm hc;apply Nat.le_of_not_lt;intro hlt2;have h1:=(ih (by omega) (B2x l id i) hlt2)
    have h2:rid l (B2x l id i)<rid l i:=C9p h hlt2 (by omega)
    have:=h1.1 (by omega)
    omega
   constructor
   ·intro _;omega
   ·intro _
    by_cases e:j=i
    ·subst e;exact hlt
    ·have:=C9p h (show j<i by omega) (by omega);omega
  ·rw [if_neg hlt]
   by_cases e:j=i
   ·subst e;constructor
    ·intro hh;exact absurd hh hlt
    ·intro hh;omega
   ·exact ih (by omega) j (by omega)
def B4O (l:List A6) (id:Int) (n:Nat):Int×Bool:=((n:Int),decide ((n:Int)<(l.length:Int))&&(rid l n==id))
theorem C9P (l:List A6) (id:Int) (n:Nat):
  (Option.bind (gd (decide ((n:Int)<(l.length:Int))) (C1 l (n:Int))) fun x=>some ((n:Int),((decide ((n:Int)<(l.length:Int)))&&(x.ID==id))))=some (B4O l id n):=by
 by_cases h:n<l.length
 ·rw [D7l (by omega),J1,B9j h,D7g]
  unfold B4O rid;rw [D7l (by omega)]
 ·rw [D7n (by omega),K8,D7g]
  unfold B4O;rw [D7n (by omega)];rfl
theorem D5e {a b:Nat} (h:a+b<=9223372036854775807):A1 (G1 .u64 (A4 (A1 ((a:Int)+(b:Int)))) 1)=(((a+b)/2:Nat):Int):=by
 have e1:A1 ((a:Int)+(b:Int))=((a+b:Nat):Int):=by rw [C7]<;>omega
 have e2:A4 (((a+b:Nat):Int))=((a+b:Nat):Int):=by rw [K3];omega
 have e3: ∀x:Int,G1 .u64 x 1=x/2:=fun x=>by
  show x.fdiv (2^(min (1:Int).toNat IntKind.u64.bits))=_;have:min (1:Int).toNat IntKind.u64.bits=1:=rfl;rw [this,Int.fdiv_eq_ediv_of_nonneg _ (by decide)]
  rfl
 rw [e1,e2,e3,C7]<;>omega
theorem D2v (l:List A6) (id:Int) (N:Nat) (hN:N<=l.length) (hl:l.length<=1000000) (hp:∀j,j<l.length->(rid l j<id↔j<N)):
  A1W (l.length:Int) l id=some (N:Int):=by
 unfold A1W A6J;have key: ∀m lo hi:Nat,hi-lo<=m->lo<=N->N<=hi->hi<=l.length->
   loop (fun (s:(Int×Int))=>Y8 l id s.1 s.2) ((lo:Int),(hi:Int))=some (N:Int):=by
  intro m
  induction m with
  |zero=>
   intro lo hi h1 h2 h3 h4;have:lo=N:=by omega
   subst this;have:hi=lo:=by omega
   subst this;refine K4 ?_;unfold Y8;rw [D7n (by omega)];rfl
  |succ m ih=>
   intro lo hi h1 h2 h3 h4
   by_cases hlt:lo<hi
   ·have hmid:(lo+hi)/2<l.length:=by omega
    have hp' :=hp _ hmid;have hst:Y8 l id (lo:Int) (hi:Int)=some (.inl (if (lo+hi)/2<N then (((((lo+hi)/2+1:Nat)):Int),(hi:Int)) else ((lo:Int),(((lo+hi)/2:Nat):Int)))):=by
     unfold Y8 A5I;rw [D7l (by omega),D7k]
     simp only [D5e (show lo+hi<=9223372036854775807 by omega),B9j hmid,D7g]
     have e2:A1 ((((lo+hi)/2:Nat):Int)+1)=(((lo+hi)/2+1:Nat):Int):=by rw [C7]<;>omega
     rw [e2];show cond (!(decide (rid l ((lo+hi)/2)>=id))) _ _=_
     by_cases h:(lo+hi)/2<N
     ·have:=hp'.2 h;rw [D7n (by omega),if_pos h];rfl
     ·have: ¬rid l ((lo+hi)/2)<id:=fun hh=>h (hp'.1 hh);rw [D7l (by omega),if_neg h];rfl
    rw [J6 hst]
    by_cases h:(lo+hi)/2<N
    ·rw [if_pos h];exact ih _ _ (by omega) (by omega) (by omega) (by omega)
    ·rw [if_neg h];exact ih _ _ (by omega) (by omega) (by omega) (by omega)
   ·have:lo=N:=by omega
    subst this;refine K4 ?_;unfold Y8;rw [D7n (by omega)];rfl
 exact key l.length 0 l.length (by omega) (by omega) hN (by omega)
theorem B3I (l:List A6) (id:Int) (hl:l.length<=1000000) (h:Asc l):X9 l id=some (B4O l id (B2x l id l.length)):=by
 unfold X9;rw [D2v l id _ (B7V l id _) hl (fun j hj=>D1E h id _ (D7Y _) j hj),D7g];exact C9P l id _
end Go.Win
namespace Go.Win
open Go.Vc Go.Dec
def B5D (l:List A6) (i:Nat):Prop:=(0<=(el l i).ID/\(el l i).ID<=1048576)/\(1<=i->(el l (i-1)).ID<(el l i).ID)/\A8n (el l i).Ac
def B2R (l:List A6) (limit:Int):Prop:=((1<=limit/\limit<=64)/\(l.length:Int)<=limit)/\ ∀i,i<l.length->B5D l i
def A37 (l:List A6):Prop:=l.length<=1048576/\ ∀r∈l,A2o r.Ac
theorem B5x {l:List A6} (w:S9 Z0 l):A37 l:=⟨w.1,fun r hr=>C05 (w.2 r hr).2⟩
theorem D4B {l:List A6} (w:A37 l) {i:Nat} (hi:i<l.length):A2o (el l i).Ac:=w.2 _ (A2P hi)
theorem D2q {l:List A6} (hl:l.length<=maxLen) {i:Nat} (hi:i<l.length) (V:A8->Option Int) (hV:V (el l i).Ac=some (vOf (A8n (el l i).Ac))):
  (¬B5D l i->(cond (decide ((i:Int)<(l.length:Int))) (
   Option.bind (C1 l (i:Int)) fun x5_1=>
   Option.bind (gd ((!((decide (x5_1.ID<(0:Int)))||(decide (x5_1.ID>(1048576:Int)))))&&(decide ((i:Int)>(0:Int)))) (C1 l (A1 ((i:Int)-(1:Int))))) fun x6_15=>
   Option.bind (gd (!(((decide (x5_1.ID<(0:Int)))||(decide (x5_1.ID>(1048576:Int))))||((decide ((i:Int)>(0:Int)))&&(decide (x6_15.ID>=x5_1.ID))))) (V x5_1.Ac)) fun y6_26=>
   cond ((((decide (x5_1.ID<(0:Int)))||(decide (x5_1.ID>(1048576:Int))))||((decide ((i:Int)>(0:Int)))&&(decide (x6_15.ID>=x5_1.ID))))||(y6_26 !=(0:Int))) (
    some (.inr false))<|
   some (.inl (A1 ((i:Int)+(1:Int))))) (Option.map Sum.inr (some true)):Option (Int⊕Bool))=some (.inr false))/\
  (¬ ¬B5D l i->(cond (decide ((i:Int)<(l.length:Int))) (
   Option.bind (C1 l (i:Int)) fun x5_1=>
   Option.bind (gd ((!((decide (x5_1.ID<(0:Int)))||(decide (x5_1.ID>(1048576:Int)))))&&(decide ((i:Int)>(0:Int)))) (C1 l (A1 ((i:Int)-(1:Int))))) fun x6_15=>
   Option.bind (gd (!(((decide (x5_1.ID<(0:Int)))||(decide (x5_1.ID>(1048576:Int))))||((decide ((i:Int)>(0:Int)))&&(decide (x6_15.ID>=x5_1.ID))))) (V x5_1.Ac)) fun y6_26=>
   cond ((((decide (x5_1.ID<(0:Int)))||(decide (x5_1.ID>(1048576:Int))))||((decide ((i:Int)>(0:Int)))&&(decide (x6_15.ID>=x5_1.ID))))||(y6_26 !=(0:Int))) (
    some (.inr false))<|
   some (.inl (A1 ((i:Int)+(1:Int))))) (Option.map Sum.inr (some true)):Option (Int⊕Bool))=some (.inl ((i+1:Nat):Int))):=by
 rw [D7l (by omega:(i:Int)<(l.length:Int)),D7k,L1 hi,D7g,Z3 hi hl,hV]
 by_cases g1:0<=(el l i).ID/\(el l i).ID<=1048576
 ·have e1:(decide ((el l i).ID<0)||decide ((el l i).ID>1048576))=false:=by
   rw [D7w];simp only [D7r,D7i,Ne];omega
  rw [e1];simp only [D7t,D7R,D7H];rcases i with _|i
  ·have e4:decide (((0:Nat):Int)>0)=false:=rfl;rw [e4];simp only [K8,D7g,D7L,D7t,J1,D7H];refine U4 ?_;rw [C7x];unfold B5D;exact ⟨fun h h2=>h h2.2.2,fun h h2=>h ⟨g1,fun h3=>absurd h3 (by decide),h2⟩⟩
  ·have e4:decide (((i+1:Nat):Int)>0)=true:=D7l (by omega)
   rw [e4,B1D (by omega) (Nat.le_of_lt hi) hl,D7X,L1 (by omega)]
   simp only [J1,D7g,D7R]
   by_cases g2:(el l i).ID>=(el l (i+1)).ID
   ·rw [D7l g2];simp only [D7s,K8,D7g,D70,D7k];refine ⟨fun _=>trivial,fun h=>absurd (fun h2=> ?_) h⟩;have:=h2.2.1 (by omega)
    rw [D7X] at this;omega
   ·rw [D7n g2];simp only [D7t,J1,D7g,D7H];refine U4 ?_;rw [C7x];unfold B5D;exact ⟨fun h h2=>h h2.2.2,fun h h2=>h ⟨g1,fun _=>by rw [D7X];omega,h2⟩⟩
 ·have e1:(decide ((el l i).ID<0)||decide ((el l i).ID>1048576))=true:=by
   simp only [D7r,D7i];omega
  rw [e1];simp only [D7s,D7L,K8,D7g,D70,D7k];exact ⟨fun _=>trivial,fun h=>absurd (fun h2=>g1 h2.1) h⟩
theorem A6h (l:List A6) (limit:Int) (w:A37 l):P3 l limit=some (bOf (B2R l limit)):=by
 have hl:=H8 w.1;unfold P3
 by_cases h1:(1<=limit/\limit<=64)/\(l.length:Int)<=limit
 ·have e:((decide (limit<(1:Int))||decide (limit>(64:Int)))||decide ((l.length:Int)>limit))=false:=by
   rw [D7w];simp only [D7r,D7i,Ne];omega
  rw [e,D7j];have H1:=Q6 (f:=fun s:Int=>A01 l s) l.length (fun i=> ¬B5D l i) false (some true)
   (fun i hi _=>D2q hl hi J5 (V7 _ (D4B w hi)))
   (fun _=>by
    unfold A01;rw [D7n (D7J _),D7j])
  unfold A0p
  by_cases h2: ∀i,i<l.length->B5D l i
  ·rw [H1.2 fun i hi hn=>hn (h2 i hi),A1I ⟨h1,h2⟩]
  ·rw [H1.1 (A53 h2),W5 fun h=>h2 h.2]
 ·have e:((decide (limit<(1:Int))||decide (limit>(64:Int)))||decide ((l.length:Int)>limit))=true:=by
   simp only [D7r,D7i];omega
  rw [e,D7k,W5 fun h=>h1 h.1]
theorem D0V (l:List A6) (i:Nat):rid l i=(el l i).ID:=rfl
theorem B5E {l:List A6} {limit:Int} (h:B2R l limit):Asc l:=by
 intro i hi;have:=(h.2 (i+1) hi).2.1 (by omega)
 rw [D7X] at this;rw [D0V,D0V];exact this
def A2c (l:List A6):List Int:=l.map (·.ID)
theorem D1V (l:List A6) (hl:l.length<=1048576):X5 l=some (A2c l):=by
 unfold X5 A5d;have H:=A4F (f:=fun s:List Int×Int=>T4 l s.1 s.2) (fun i=>(A2c (l.take i),(i:Int))) 0 l.length (Nat.zero_le _) (fun _=>False) [] (some (A2c l))
  (fun i _ hi _=>by
   refine ⟨fun h=>h.elim,fun _=> ?_⟩;simp only [];unfold T4;rw [D7l (by omega:(i:Int)<(l.length:Int)),D7k,L1 hi,D7g,Z3 hi (H8 hl)]
   have e1:A2c (l.take (i+1))=A2c (l.take i)++ [(el l i).ID]:=by
    rw [List.take_add_one,A5S hi];simp [A2c]
   have e2:(A2c (l.take i)).length=i:=by unfold A2c;rw [D73,D7I];omega
   rw [e1,e2,D7l (by simp only [D7z,D7M];omega),A0l])
  (fun _=>by
   simp only [];unfold T4;rw [D7n (D7J _),D7j,List.take_length])
 exact H.2 (fun _ _ _ h=>h)
theorem D5h:B3U=X5:=rfl
def atR (l:List A6) (id:Int):Nat:=B2x l id l.length
theorem D4T (l:List A6) (id:Int):atR l id<=l.length:=B7V l id _
def A6B (l:List A6) (id:Int):Bool:=decide ((atR l id:Int)<(l.length:Int))&&(rid l (atR l id)==id)
theorem B5m (l:List A6) (id:Int):B4O l id (B2x l id l.length)=((atR l id:Int),A6B l id):=rfl
open Classical in
noncomputable def A8j (l:List A6) (limit:Int) (r:A6):List A6×Int:=
 if¬(B2R l limit/\A8n r.Ac) then ([],2) else if r.ID<0\/r.ID>1048576 then ([],1) else if A6B l r.ID=true then ([],10) else if (l.length:Int)=limit then ([],5) else
 (l.take (atR l r.ID)++ [r]++l.drop (atR l r.ID),0)
open Classical in
noncomputable def B7D (l:List A6) (id:Int):List A6×Int:=
 if¬B2R l 64 then ([],2) else if A6B l id=true then (l.take (atR l id)++l.drop (atR l id+1),0) else ([],11)
open Classical in
noncomputable def B4m (l:List A6) (r:A6):List A6×Int:=
 if¬(B2R l 64/\A8n r.Ac) then ([],2) else if A6B l r.ID=true then (l.set (atR l r.ID) r,0) else ([],11)
theorem C4M (l:List A6) (limit:Int) (r:A6) (w:A37 l) (wr:A2o r.Ac):A1m l limit r=some (A8j l limit r):=by
 have v1:=A6h l limit w;have s1:=V7 r.Ac wr;unfold A1m;rw [v1,s1]
 by_cases h1:B2R l limit
 ·rw [A1I h1];simp only [D7g,D7s,D7t,J1,D7H]
  by_cases h2:A8n r.Ac
  ·rw [V0 h2,D7T,D7j]
   by_cases h3:r.ID<0\/r.ID>1048576
   ·have e:(decide (r.ID<0)||decide (r.ID>1048576))=true:=by simp only [D7r,D7i];exact h3
    have e' :A8j l limit r=([],1):=by unfold A8j;rw [if_neg (fun h=>h ⟨h1,h2⟩),if_pos h3]
    rw [e,e'];rfl
   ·have e:(decide (r.ID<0)||decide (r.ID>1048576))=false:=by rw [D7w];simp only [D7r,D7i,Ne];exact h3
    have hlen:=h1.1;rw [e,D7j,B3I l r.ID (by omega) (B5E h1),B5m]
    simp only [D7g];cases h4:A6B l r.ID with
    |true=>
     have e' :A8j l limit r=([],10):=by unfold A8j;rw [if_neg (fun h=>h ⟨h1,h2⟩),if_neg h3,if_pos h4]
     rw [e'];rfl
    |false=>
     simp only [D7j]
     by_cases h5:(l.length:Int)=limit
     ·have e' :A8j l limit r=([],5):=by unfold A8j;rw [if_neg (fun h=>h ⟨h1,h2⟩),if_neg h3,if_neg (by rw [h4];decide),if_pos h5]
      rw [h5,beq_self_eq_true,e'];rfl
     ·have e' :A8j l limit r=(l.take (atR l r.ID)++ [r]++l.drop (atR l r.ID),0):=by unfold A8j;rw [if_neg (fun h=>h ⟨h1,h2⟩),if_neg h3,if_neg (by rw [h4];decide),if_neg h5]
      have e5:((l.length:Int)==limit)=false:=D76.2 h5;have ha:=D4T l r.ID;rw [e5,e'];simp only [D7j];simp only [D7W,List.nil_append,D7M,D7m,D7I,D7O,D7z];have k1:decide (0<=(atR l r.ID:Int)/\(atR l r.ID:Int)<=(l.length:Int))=true:=D7l (by omega)
      have k2: ∀n:Nat,n<=1000->decide (n*640<=140737488355328)=true:=fun n hn=>D7l (by omega)
      rw [k1]
      repeat rw [k2 _ (by omega)]
      rfl
  ·have e' :A8j l limit r=([],2):=by unfold A8j;rw [if_pos fun h=>h2 h.2]
   rw [I8 h2,e'];rfl
 ·have e' :A8j l limit r=([],2):=by unfold A8j;rw [if_pos fun h=>h1 h.1]
  rw [W5 h1,e'];rfl
theorem D0U (l:List A6) (id:Int) (w:A37 l):A5e l id=some (B7D l id):=by
 have v1:=A6h l 64 w;unfold A5e;rw [v1]
 by_cases h1:B2R l 64
 ·rw [A1I h1];have hlen:=h1.1;simp only [D7g,D7s,D7j];rw [B3I l id (by omega) (B5E h1),B5m]
  simp only [D7g];cases h4:A6B l id with
  |false=>
   have e' :B7D l id=([],11):=by unfold B7D;rw [if_neg (fun h=>h h1),if_neg (by rw [h4];decide)]
   rw [e'];rfl
  |true=>
   have e' :B7D l id=(l.take (atR l id)++l.drop (atR l id+1),0):=by unfold B7D;rw [if_neg (fun h=>h h1),if_pos h4]
   have hlt:atR l id<l.length:=by
    unfold A6B at h4;simp only [D7o,D7i] at h4;omega
   have es:A1 ((atR l id:Int)+1)=((atR l id+1:Nat):Int):=by rw [C7]<;>omega
   rw [e',es];simp only [D7s,D7j];simp only [D7W,List.nil_append,D7M,D7I,D7O];have k1:decide (0<=(atR l id:Int)/\(atR l id:Int)<=(l.length:Int))=true:=D7l (by omega)
   have k3:decide (0<=((atR l id+1:Nat):Int)/\((atR l id+1:Nat):Int)<=(l.length:Int))=true:=D7l (by omega)
   have k2: ∀n:Nat,n<=1000->decide (n*640<=140737488355328)=true:=fun n hn=>D7l (by omega)
   rw [k1,k3]
   repeat rw [k2 _ (by omega)]
   rfl
 ·have e' :B7D l id=([],2):=by unfold B7D;rw [if_pos h1]
  rw [W5 h1,e'];rfl
theorem C8Z (l:List A6) (r:A6) (w:A37 l) (wr:A2o r.Ac):A4d l r=some (B4m l r):=by
 have v1:=A6h l 64 w;have s1:=V7 r.Ac wr;unfold A4d;rw [v1,s1]
 by_cases h1:B2R l 64
 ·rw [A1I h1];have hlen:=h1.1;simp only [D7g,D7s,D7t,J1,D7H]
  by_cases h2:A8n r.Ac
  ·rw [V0 h2,D7T,D7j,B3I l r.ID (by omega) (B5E h1),B5m]
   simp only [D7g];cases h4:A6B l r.ID with
   |false=>
    have e' :B4m l r=([],11):=by unfold B4m;rw [if_neg (fun h=>h ⟨h1,h2⟩),if_neg (by rw [h4];decide)]
    rw [e'];rfl
   |true=>
    have e' :B4m l r=(l.set (atR l r.ID) r,0):=by unfold B4m;rw [if_neg (fun h=>h ⟨h1,h2⟩),if_pos h4]
    have hlt:atR l r.ID<l.length:=by
     unfold A6B at h4;simp only [D7o,D7i] at h4;omega
    rw [e'];simp only [D7s,D7j];simp only [D7W,List.nil_append,D7M,Nat.zero_add,L1 hlt,D7g];have k2:decide (l.length*640<=140737488355328)=true:=D7l (by omega)
    rw [k2]
    rfl
  ·have e' :B4m l r=([],2):=by unfold B4m;rw [if_pos fun h=>h2 h.2]
   rw [I8 h2,e'];rfl
 ·have e' :B4m l r=([],2):=by unfold B4m;rw [if_pos fun h=>h1 h.1]
  rw [W5 h1,e'];rfl
theorem C6r (l:List A6) (hl:l.length<=1048577) (h:∀r∈l,lenS r.Ac):B1W l l=some true:=by
 have hm:l.length<=maxLen:=by rw [K0];omega
 have hi:X5 l=some (A2c l):=by
  unfold X5 A5d;have H:=A4F (f:=fun s:List Int×Int=>T4 l s.1 s.2) (fun i=>(A2c (l.take i),(i:Int))) 0 l.length (Nat.zero_le _) (fun _=>False) [] (some (A2c l))
   (fun i _ hi _=>by
    refine ⟨fun h=>h.elim,fun _=> ?_⟩;simp only [];unfold T4;rw [D7l (by omega:(i:Int)<(l.length:Int)),D7k,L1 hi,D7g,Z3 hi hm]
    have e1:A2c (l.take (i+1))=A2c (l.take i)++ [(el l i).ID]:=by
     rw [List.take_add_one,A5S hi];simp [A2c]
    have e2:(A2c (l.take i)).length=i:=by unfold A2c;rw [D73,D7I];omega
    rw [e1,e2,D7l (by simp only [D7z,D7M];omega),A0l])
   (fun _=>by
    simp only [];unfold T4;rw [D7n (D7J _),D7j,List.take_length])
  exact H.2 (fun _ _ _ h=>h)
 unfold B1W;rw [D5h,hi,D7g,D7g,B7i (A2c l) (by unfold A2c;rw [D73];exact hm),D7g,D7s,D7j]
 unfold B6o;refine (Q6 (f:=fun s:Int=>A6g l l s) l.length (fun _=>False) false (some true) (fun i hi _=>⟨fun h=>h.elim,fun _=> ?_⟩) (fun _=> ?_)).2 fun _ _ h=>h
 ·unfold A6g;rw [D7l (by omega:(i:Int)<(l.length:Int)),D7k,L1 hi]
  simp [Z3 hi hm,C6q _ (h _ (A2P hi))]
 ·unfold A6g;rw [D7n (D7J _),D7j]
end Go.Win
namespace Go.Win
open Go.Vc Go.Dec
def cb (u:Nat):List Int:=if u<128 then [(u:Int)] else ((128+u%128:Nat):Int)::cb (u/128)
termination_by u
decreasing_by omega
theorem B9J {u:Nat} (h:u<128):cb u= [(u:Int)]:=by rw [cb,if_pos h]
theorem B9I {u:Nat} (h:128<=u):cb u=((128+u%128:Nat):Int)::cb (u/128):=by rw [cb,if_neg (by omega)]
theorem C9C (u:Nat):1<=(cb u).length:=by
 by_cases h:u<128
 ·rw [B9J h];simp
 ·rw [B9I (by omega)];simp
def byt (l:List Int):Prop:= ∀x∈l,0<=x/\x<=255
def rdN:Nat->Nat->List Int->Option (Nat×Nat)
 |_,_, []=>none
 |i,u,x::l=>if 10<=i then none else if i=9/\1<x then none else if 128<=x then rdN (i+1) (u+(x.toNat%128)*128^i) l
  else if x=0/\0<i then none else some (u+x.toNat*128^i,i+1)
theorem B7o {i j:Nat} (h:i<=j):128^i<=128^j:=Nat.pow_le_pow_right (by decide) h
theorem D6E (l:List Int): ∀(v i u:Nat),u+v*128^i<2^64->(0<i->0<v)->rdN i u (cb v++l)=some (u+v*128^i,i+(cb v).length):=by
 intro v
 induction v using Nat.strongRecOn with
 |_ v ih=>
  intro i u hlt hpos;have hi:i<10:=by
   apply D8b;intro hn;have h1:=B7o (show 10<=i by omega)
   have h2:1<=v:=hpos (by omega)
   have h3:1*128^10<=v*128^i:=Nat.mul_le_mul h2 h1;have:(128:Nat)^10=1180591620717411303424:=by decide
   omega
  have h9:i=9->v<=1:=by
   intro h;subst h;apply D8b;intro hn;have h3:2*128^9<=v*128^9:=D7E _ (by omega)
   have:(128:Nat)^9=9223372036854775808:=by decide
   omega
  by_cases h:v<128
  ·rw [B9J h];simp only [List.cons_append,List.nil_append,rdN,D7z,D7M];rw [if_neg (by omega),if_neg (by rintro ⟨a,b⟩;have:=h9 a;omega),if_neg (by omega),if_neg (by rintro ⟨a,b⟩;have:=hpos b;omega)]
   rfl
  ·rw [B9I (by omega)]
   simp only [List.cons_append,rdN,D7z];rw [if_neg (by omega),if_neg (by rintro ⟨a,b⟩;have:=h9 a;omega),if_pos (by omega)]
   have e1:(((128+v%128:Nat):Int)).toNat%128=v%128:=by rw [D7W];omega
   have e2:u+v%128*128^i+v/128*128^(i+1)=u+v*128^i:=by
    have:v/128*128^(i+1)=128*(v/128)*128^i:=by rw [Nat.pow_succ];ac_rfl
    rw [this,Nat.add_assoc,<-Nat.add_mul]
    congr 2
    omega
   rw [e1,ih (v/128) (by omega) (i+1) _ (by rw [e2];exact hlt) (fun _=>by omega),e2]
   congr 2
   omega
theorem D0M: ∀(l:List Int) (i u w k:Nat),byt l->u<128^i->rdN i u l=some (w,k)->
  ∃v,w=u+v*128^i/\k=i+(cb v).length/\l=cb v++l.drop (cb v).length/\(0<i->0<v)/\w<2^64
 | [],i,u,w,k,_,_,h=>by simp [rdN] at h
 |x::l,i,u,w,k,hb,hu,h=>by
  simp only [rdN] at h;have hx:=hb x (by simp)
  split at h
  ·cases h
  rename_i h10;split at h
  ·cases h
  rename_i h9;have p9:(128:Nat)^9=9223372036854775808:=by decide
  split at h
  ·rename_i h128;have hx0:x.toNat%128+128=x.toNat:=by omega
   have hlt:u+x.toNat%128*128^i<128^(i+1):=by
    have h1:x.toNat%128*128^i<=127*128^i:=D7E _ (by omega)
    rw [Nat.pow_succ];omega
   obtain ⟨v,e1,e2,e3,e4,e5⟩:=D0M l (i+1) _ w k (fun y hy=>hb y (by simp [hy])) hlt h
   have hv:=e4 (by omega)
   have hcb:cb (x.toNat%128+128*v)=x::cb v:=by
    rw [B9I (by omega)]
    congr 1
    ·omega
    ·congr 1;omega
   refine ⟨x.toNat%128+128*v, ?_, ?_, ?_,fun _=>by omega,e5⟩
   ·rw [e1,Nat.add_mul,<-Nat.add_assoc]
    congr 1
    rw [Nat.pow_succ];ac_rfl
   ·rw [hcb,D7z];omega
   ·rw [hcb,D7z,List.drop_succ_cons,List.cons_append,<-e3]
  ·rename_i h128;split at h
   ·cases h
   rename_i h0;cases h;have hcb:cb x.toNat= [x]:=by rw [B9J (by omega)];congr 1;omega
   refine ⟨x.toNat,rfl,by rw [hcb];rfl,by rw [hcb];rfl,fun hi=> ?_, ?_⟩
   ·rcases Nat.eq_zero_or_pos x.toNat with h1|h1
    ·exact absurd ⟨by omega,hi⟩ h0
    ·exact h1
   ·by_cases hi:i=9
    ·subst hi;have h1:x.toNat<=1:=by
      have: ¬(1<x):=fun hn=>h9 ⟨rfl,hn⟩;omega
     have:x.toNat*128^9<=1*128^9:=D7E _ h1;omega
    ·have h1:x.toNat*128^i<=127*128^i:=D7E _ (by omega)
     have h2:=B7o (show i+1<=9 by omega)
     rw [Nat.pow_succ] at h2;omega
def zz (n:Int):Nat:=if 0<=n then (2*n).toNat else (-2*n-1).toNat
def B4s (w:Nat):Int:=if w%2=0 then ((w/2:Nat):Int) else-((w/2:Nat):Int)-1
theorem D4w (n:Int):B4s (zz n)=n:=by unfold B4s zz;split<;>split<;>omega
theorem D4J (w:Nat):zz (B4s w)=w:=by unfold B4s zz;split<;>split<;>omega
theorem C3k {n:Int} (h:E1 .i64 n):zz n<2^64:=by
 simp [E1,Lit.wf,IntKind.min,IntKind.max,IntKind.signed,IntKind.bits] at h;unfold zz;split<;>omega
theorem D4v {w:Nat} (h:w<2^64):E1 .i64 (B4s w):=by
 simp [E1,Lit.wf,IntKind.min,IntKind.max,IntKind.signed,IntKind.bits];unfold B4s;split<;>omega
def V1 (n:Int):List Int:=cb (zz n)
theorem D1H (n:Int):1<=(V1 n).length:=C9C _
def rd (l:List Int):Option (Int×Nat):=(rdN 0 0 l).map fun p=>(B4s p.1,p.2)
theorem B76 {n:Int} (h:E1 .i64 n) (l:List Int):rd (V1 n++l)=some (n,(V1 n).length):=by
 unfold rd V1;rw [D6E l (zz n) 0 0 (by have:=C3k h;simpa using this) (fun h=>absurd h (by omega))]
 simp [D4w]
theorem C1e {l:List Int} (hb:byt l) {n:Int} {k:Nat} (h:rd l=some (n,k)):E1 .i64 n/\k=(V1 n).length/\l=V1 n++l.drop k:=by
 unfold rd at h;rw [Option.map_eq_some_iff] at h;obtain ⟨⟨w,k'⟩,h1,h2⟩:=h;cases h2;obtain ⟨v,e1,e2,e3,_,e5⟩:=D0M l 0 0 w k' hb (by simp) h1
 have hv:w=v:=by simpa using e1
 subst hv;have hz:V1 (B4s w)=cb w:=by unfold V1;rw [D4J]
 simp only [Nat.zero_add] at e2;exact ⟨D4v e5,by rw [hz,e2],by rw [hz,e2];exact e3⟩
def wr (ns:List Int):List Int:=ns.flatMap V1
theorem B48 (n:Int) (ns:List Int):wr (n::ns)=V1 n++wr ns:=rfl
theorem A20 (a b:List Int):wr (a++b)=wr a++wr b:=List.flatMap_append
theorem D1i (ns:List Int):ns.length<=(wr ns).length:=by
 induction ns with
 |nil=>simp [wr]
 |cons n ns ih=>
  rw [B48,D7m,D7z];have:=D1H n;omega
theorem B85 {l:List Int} (h:byt l) (k:Nat):byt (l.drop k):=fun x hx=>h x (List.drop_subset _ _ hx)
def O3 (ns:List Int):Prop:= ∀n∈ns,E1 .i64 n
abbrev Rd (α:Type):=List Int->Option (α×List Int)
structure Sim {α:Type} (Q P:Rd α):Prop where
 fwd: ∀ns a ns',O3 ns->P ns=some (a,ns')->O3 ns' /\Q (wr ns)=some (a,wr ns')
 bwd: ∀l a l',byt l->Q l=some (a,l')->byt l' /\ ∀ns',O3 ns' ->l' =wr ns' -> ∃ns,O3 ns/\l=wr ns/\P ns=some (a,ns')/\ns'.length<=ns.length
def F8:Rd Int:=fun l=>(rd l).map fun p=>(p.1,l.drop p.2)
def L7:Rd Int:=fun
 | []=>none
 |n::ns=>some (n,ns)
theorem C7t:Sim F8 L7 where
 fwd:=fun ns a ns' hw h=>by
  cases ns with
  |nil=>cases h
  |cons n ns=>
   cases h;refine ⟨fun x hx=>hw x (by simp [hx]), ?_⟩
   unfold F8;rw [B48,B76 (hw _ (by simp))]
   simp
 bwd:=fun l a l' hb h=>by
  unfold F8 at h;rw [Option.map_eq_some_iff] at h;obtain ⟨⟨n,k⟩,h1,h2⟩:=h;cases h2;obtain ⟨w,e1,e2⟩:=C1e hb h1;refine ⟨B85 hb _,fun ns' hn e=>⟨n::ns',fun x hx=> ?_, ?_,rfl,by simp⟩⟩
  ·rcases List.mem_cons.1 hx with h3|h3
   ·subst h3;exact w
   ·exact hn x h3
  ·rw [B48,<-e];exact e2
def M6 {α:Type} (a:α):Rd α:=fun l=>some (a,l)
def E6 {α β:Type} (p:Rd α) (f:α->Rd β):Rd β:=fun l=>(p l).bind fun q=>f q.1 q.2
def B78 {α:Type}:Rd α:=fun _=>none
theorem B9o {α:Type} (a:α):Sim (M6 a) (M6 a) where
 fwd:=fun ns b ns' hw h=>by cases h;exact ⟨hw,rfl⟩
 bwd:=fun l b l' hb h=>by cases h;exact ⟨hb,fun ns' hn e=>⟨ns',hn,e,rfl,D7Y _⟩⟩
theorem D2x {α:Type}:Sim (B78 (α:=α)) B78 where
 fwd:=fun ns b ns' hw h=>by cases h
 bwd:=fun l b l' hb h=>by cases h
theorem B5O {α β:Type} {Q P:Rd α} {f g:α->Rd β} (h:Sim Q P) (hf:∀a,Sim (f a) (g a)):Sim (E6 Q f) (E6 P g) where
 fwd:=fun ns b ns' hw e=>by
  unfold E6 at e;rw [Option.bind_eq_some_iff] at e;obtain ⟨⟨a,n1⟩,e1,e2⟩:=e;obtain ⟨w1,q1⟩:=h.fwd _ _ _ hw e1;obtain ⟨w2,q2⟩:=(hf a).fwd _ _ _ w1 e2;refine ⟨w2, ?_⟩;unfold E6;rw [q1];exact q2
 bwd:=fun l b l' hb e=>by
  unfold E6 at e;rw [Option.bind_eq_some_iff] at e;obtain ⟨⟨a,l1⟩,e1,e2⟩:=e;obtain ⟨b1,q1⟩:=h.bwd _ _ _ hb e1;obtain ⟨b2,q2⟩:=(hf a).bwd _ _ _ b1 e2;refine ⟨b2,fun ns' hn en=> ?_⟩;obtain ⟨n1,w1,r1,r2,r3⟩:=q2 ns' hn en;obtain ⟨n0,w0,r4,r5,r6⟩:=q1 n1 w1 r1;refine ⟨n0,w0,r4, ?_,Nat.le_trans r3 r6⟩;unfold E6;rw [r5];exact r2
def U8 {α:Type} (p:Rd α):Nat->Rd (List α)
 |0=>M6 []
 |k+1=>E6 p fun a=>E6 (U8 p k) fun as=>M6 (a::as)
theorem B9n {α:Type} {Q P:Rd α} (h:Sim Q P): ∀k,Sim (U8 Q k) (U8 P k)
 |0=>B9o _
 |k+1=>B5O h fun _=>B5O (B9n h k) fun _=>B9o _
def Z5 {α:Type} (P:Rd α):Prop:= ∀ns a ns',P ns=some (a,ns')->ns'.length<ns.length
theorem B5z {α:Type} {P:Rd α} (h:Z5 P): ∀(k:Nat) (ns:List Int) (as:List α) (ns' :List Int),U8 P k ns=some (as,ns')->ns'.length+k<=ns.length
 |0,ns,as,ns',e=>by cases e;simp
 |k+1,ns,as,ns',e=>by
  unfold U8 E6 at e;rw [Option.bind_eq_some_iff] at e;obtain ⟨⟨a,n1⟩,e1,e2⟩:=e;have e2' :((U8 P k n1).bind fun q=>M6 (a::q.1) q.2)=some (as,ns'):=e2;rw [Option.bind_eq_some_iff] at e2';obtain ⟨⟨bs,n2⟩,e3,e4⟩:=e2';cases e4;have h1:=h _ _ _ e1;have h2:=B5z h k _ _ _ e3;simp only [] at h1 h2⊢;omega
def P9 {α:Type} (i:Rd Int) (p:Rd α):Rd (List α):=E6 i fun n l=>if n<0\/(l.length:Int)<n then none else U8 p n.toNat l
theorem D2y {α:Type} {Q P:Rd α} (h:Sim Q P) (he:Z5 P):Sim (P9 F8 Q) (P9 L7 P):=by
 refine B5O C7t fun n=>⟨fun ns a ns' hw e=> ?_,fun l a l' hb e=> ?_⟩
 ·split at e
  ·cases e
  rename_i hc;obtain ⟨w,q⟩:=(B9n h _).fwd _ _ _ hw e;refine ⟨w, ?_⟩;rw [if_neg]
  ·exact q
  ·have:=D1i ns;omega
 ·split at e
  ·cases e
  rename_i hc;obtain ⟨b,q⟩:=(B9n h _).bwd _ _ _ hb e;refine ⟨b,fun ns' hn en=> ?_⟩;obtain ⟨ns,w,r1,r2,r3⟩:=q ns' hn en;refine ⟨ns,w,r1, ?_,r3⟩;rw [if_neg]
  ·exact r2
  ·have:=B5z he _ _ _ _ r2;omega
end Go.Win
namespace Go.Win
open Go.Vc Go.Dec
theorem C7X: ∀n:Fin 256,O8 .u8 (n.1:Int) 127=((n.1%128:Nat):Int):=by decide+kernel
theorem D4Q {x:Nat} (h:x<=255):O8 .u8 (x:Int) 127=((x%128:Nat):Int):=C7X ⟨x,by omega⟩
theorem D0A (a b:Int):O0 .u64 a b=O0 .u64 b a:=by
 show IntKind.u64.wrap _=IntKind.u64.wrap _;rw [BitVec.or_comm]
theorem C3u {v m:Nat} (hv:v<18446744073709551616) (hm:m<=63):O8 .u64 (v:Int) ((2^m-1:Nat):Int)=((v%2^m:Nat):Int):=by
 show IntKind.u64.wrap _=_;have hbits:IntKind.u64.bits=64:=rfl;have hp:(2:Nat)^m<=2^63:=Nat.pow_le_pow_right (by decide) hm
 rw [hbits,IntKind.wrap_u64,BitVec.toNat_and,BitVec.toNat_ofInt,BitVec.toNat_ofInt];have e1:((((v:Int))%((2^64:Nat):Int)).toNat)=v:=by omega
 have e2:(((((2^m-1:Nat):Int))%((2^64:Nat):Int)).toNat)=2^m-1:=by omega
 rw [e1,e2,Nat.and_two_pow_sub_one_eq_mod];have:=Nat.mod_lt v (Nat.two_pow_pos m);omega
theorem D6X {v:Nat} (hv:v<18446744073709551616):O8 .u64 (v:Int) 1=((v%2:Nat):Int):=C3u (m:=1) hv (by decide)
theorem D6z {v:Nat} (hv:v<18446744073709551616):B4d .u64 (v:Int)=((18446744073709551615-v:Nat):Int):=by
 show IntKind.u64.wrap _=_;have hbits:IntKind.u64.bits=64:=rfl;rw [hbits,IntKind.wrap_u64];have e:BitVec.ofInt 64 (if IntKind.u64.signed then-1 else IntKind.u64.max)=BitVec.allOnes 64:=by decide
 rw [e,BitVec.allOnes_xor,BitVec.toNat_not,BitVec.toNat_ofInt];omega
theorem D65 {v:Nat} (hv:v<9223372036854775808):B4d .i64 (v:Int)= -(v:Int)-1:=by
 show IntKind.i64.wrap _=_;have hbits:IntKind.i64.bits=64:=rfl;rw [hbits,IntKind.wrap_i64];have e:BitVec.ofInt 64 (if IntKind.i64.signed then-1 else IntKind.i64.max)=BitVec.allOnes 64:=by decide
 rw [e,BitVec.allOnes_xor,BitVec.toNat_not,BitVec.toNat_ofInt];omega
theorem C0k (i:Nat):(128:Nat)^i=2^(7*i):=by rw [Nat.pow_mul]
def rdR (a:Nat):Option (Nat×Nat)->Int×Int×Bool
 |none=>(0,0,false)
 |some p=>(B4s p.1,((a+p.2:Nat):Int),true)
theorem D67 {u x i:Nat} (hu:u<128^i) (hi:i<=9) (hx:x<=255) (h9:i=9->x<=1):
  O0 .u64 (u:Int) (E8 .u64 (A4 (O8 .u8 (x:Int) 127)) (A4 (A1 (7*(i:Int)))))=((u+x%128*128^i:Nat):Int)/\u+x%128*128^i<18446744073709551616/\(i<=8->u+x%128*128^i<128^(i+1)):=by
 have b0:u+x%128*128^i<128^(i+1):=by
  have h1:x%128*128^i<=127*128^i:=D7E _ (by omega)
  rw [Nat.pow_succ];omega
 have b1:u+x%128*128^i<18446744073709551616:=by
  by_cases h:i<=8
  ·have h1:=B7o (show i+1<=9 by omega)
   have:(128:Nat)^9=9223372036854775808:=by decide
   omega
  ·have hi9:i=9:=by omega
   subst hi9;have:(128:Nat)^9=9223372036854775808:=by decide
   have hx1:=h9 rfl;rw [show x%128=x by omega]
   clear b0
   rw [this] at hu⊢;omega
 refine ⟨?_,b1,fun _=>b0⟩;have e1:A4 (A1 (7*(i:Int)))=((7*i:Nat):Int):=by rw [K3,C7]<;>omega
 have e2:A4 (((x%128:Nat):Int))=((x%128:Nat):Int):=by rw [K3];omega
 have e3:E8 .u64 ((x%128:Nat):Int) ((7*i:Nat):Int)=((x%128*2^(7*i):Nat):Int):=by
  rw [A9r _ (by omega)]
  have:(((x%128:Nat):Int))*2^(7*i)=((x%128*2^(7*i):Nat):Int):=by simp
  rw [this];rw [<-C0k];omega
 rw [e1,D4Q hx,e2,e3,D0A,B5q (by rw [<-C0k];exact hu) (by rw [<-C0k];omega),<-C0k]
 congr 1
 omega
theorem D0N {l:List Int} (hb:byt l) (hl:l.length<=1099511627776) {a:Nat} (ha:a<=l.length): ∀(k i u:Nat),i+k=10->u<128^i->
  B27 l a u i=some (rdR a (rdN i u (l.drop (a+i)))):=by
 intro k
 induction k with
 |zero=>
  intro i u hi hu;have hi:i=10:=by omega
  subst hi;have e:rdN 10 u (l.drop (a+10))=none:=by
   cases h:l.drop (a+10) with
   |nil=>rfl
   |cons x m=>simp [rdN]
  rw [e]
  ·exact K4 rfl
 |succ k ih=>
  intro i u hi hu
  by_cases hlt:a+i<l.length
  ·have hx:=hb l[a+i] (D75 hlt);obtain ⟨x,ex⟩:=Int.eq_ofNat_of_zero_le hx.1;have hx255:x<=255:=by omega
   have hd:l.drop (a+i)=(x:Int)::l.drop (a+(i+1)):=by rw [List.drop_eq_getElem_cons hlt,ex];rfl
   have hidx:C1 l (A1 ((a:Int)+(i:Int)))=some (x:Int):=by
    rw [C7 (by omega) (by omega),show ((a:Int)+(i:Int))=((a+i:Nat):Int) by omega,A2y hlt,ex]
   have hc:(decide ((i:Int)<10)&&decide (A1 ((a:Int)+(i:Int))<(l.length:Int)))=true:=by
    rw [C7 (by omega) (by omega),D7o,D7i,D7i];omega
   have hck:decide (0<=A4 (A1 (7*(i:Int))))=true:=by rw [D7i,K3];omega
   have hs:A1 ((i:Int)+1)=((i+1:Nat):Int):=by rw [C7]<;>omega
   rw [hd];unfold B27
   by_cases h9:i=9/\1<x
   ·have e:rdN i u ((x:Int)::l.drop (a+(i+1)))=none:=by
     simp only [rdN];rw [if_neg (by omega),if_pos (by omega)]
    rw [e];have h9' :(((i:Int)==9)&&decide ((x:Int)>1))=true:=by simp;omega
    ·refine K4 ?_;unfold A2C;rw [hc,D7k,hidx,D7g,h9',D7k];rfl
   ·have h9' :(((i:Int)==9)&&decide ((x:Int)>1))=false:=by simp;omega
    obtain ⟨p1,p2,p3⟩:=D67 (x:=x) hu (by omega) hx255 (by omega)
    by_cases h128:128<=x
    ·have e:rdN i u ((x:Int)::l.drop (a+(i+1)))=rdN (i+1) (u+x%128*128^i) (l.drop (a+(i+1))):=by
      simp only [rdN];rw [if_neg (by omega),if_neg (by omega),if_pos (by omega),D7W]
     have r1:=ih (i+1) _ (by omega) (p3 (by omega))
     rw [e]
     ·rw [<-r1];refine J6 ?_;unfold A2C;simp only [];rw [hc,D7k,hidx,D7g,h9',D7j,M4 hck,D7l (by omega),D7k,p1,hs]
    ·by_cases h0:x=0/\0<i
     ·have e:rdN i u ((x:Int)::l.drop (a+(i+1)))=none:=by
       simp only [rdN];rw [if_neg (by omega),if_neg (by omega),if_neg (by omega),if_pos (by omega)]
      have h0' :(((x:Int)==0)&&decide ((i:Int)>0))=true:=by simp;omega
      rw [e]
      ·refine K4 ?_;unfold A2C;simp only [];rw [hc,D7k,hidx,D7g,h9',D7j,M4 hck,D7n (by omega),D7j,h0',D7k];rfl
     ·have e:rdN i u ((x:Int)::l.drop (a+(i+1)))=some (u+x%128*128^i,i+1):=by
       simp only [rdN];rw [if_neg (by omega),if_neg (by omega),if_neg (by omega),if_neg (by omega),D7W,show x%128=x by omega]
      have h0' :(((x:Int)==0)&&decide ((i:Int)>0))=false:=by simp;omega
      rw [e]
      generalize hT:u+x%128*128^i=T at p1 p2⊢
      have q1:O8 .u64 (T:Int) 1=((T%2:Nat):Int):=D6X p2;have q2:A1 (G1 .u64 (T:Int) 1)=((T/2:Nat):Int):=by
       rw [show (1:Int)=((1:Nat):Int) from rfl,B2m _ (by omega),C7]<;>omega
      have q3:A1 (A1 ((a:Int)+(i:Int))+1)=((a+(i+1):Nat):Int):=by
       rw [C7 (n:=(a:Int)+(i:Int)) (by omega) (by omega),C7]<;>omega
      have q4:B4d .i64 ((T/2:Nat):Int)= -((T/2:Nat):Int)-1:=D65 (by omega)
      have q5:A1 (IntKind.i64.wrap (0-((T/2:Nat):Int))-1)= -((T/2:Nat):Int)-1:=by
       rw [show IntKind.i64.wrap (0-((T/2:Nat):Int))=A1 (0-((T/2:Nat):Int)) from rfl,C7 (n:=0-((T/2:Nat):Int)) (by omega) (by omega),C7]<;>omega
      ·refine K4 ?_;unfold A2C;simp only [];rw [hc,D7k,hidx,D7g,h9',D7j,M4 hck,D7n (by omega),D7j,h0',D7j,p1,q1,q2,q3,q4]
       unfold rdR B4s
       by_cases hm:T%2=0
       ·rw [hm];simp [hm]
       ·have hm1:T%2=1:=by omega
        simp [hm1]
  ·have hc:(decide ((i:Int)<10)&&decide (A1 ((a:Int)+(i:Int))<(l.length:Int)))=false:=by
    rw [C7 (by omega) (by omega),D77,D7x,D7x];omega
   have hd:l.drop (a+i)= []:=List.drop_eq_nil_of_le (by omega)
   rw [hd]
   ·refine K4 ?_;unfold A2C;simp only [];rw [hc,D7j];rfl
def rdA (l:List Int) (a:Nat):Int×Int×Bool:=match rd (l.drop a) with
 |none=>(0,0,false)
 |some p=>(p.1,((a+p.2:Nat):Int),true)
theorem D5V (l:List Int) (a:Nat):rdR a (rdN 0 0 (l.drop a))=rdA l a:=by
 unfold rdR rdA rd;cases rdN 0 0 (l.drop a)<;>rfl
theorem C2B {l:List Int} (hb:byt l) (hl:l.length<=1099511627776) {a:Nat} (ha:a<=l.length):A70 l a=some (rdA l a):=by
 unfold A70;rw [D7n (by omega),D7n (by omega),Bool.or_self,D7j,<-D5V]
 exact (D0N hb hl ha 10 0 0 (by omega) (by decide))
theorem A81 {n:Int}:E1 .i64 n↔ -9223372036854775808<=n/\n<=9223372036854775807:=by
 simp [E1,Lit.wf,IntKind.min,IntKind.max,IntKind.signed,IntKind.bits]
end Go.Win
namespace Go.Win
open Go.Vc Go.Dec
theorem A7P {a b:List Int}:O3 (a++b)↔O3 a/\O3 b:=by
 constructor
 ·intro h;exact ⟨fun x hx=>h x (D72.2 (.inl hx)),fun x hx=>h x (D72.2 (.inr hx))⟩
 ·rintro ⟨h1,h2⟩ x hx;exact (D72.1 hx).elim (h1 x) (h2 x)
theorem B31 {a:Int} {b:List Int}:O3 (a::b)↔E1 .i64 a/\O3 b:=by
 constructor
 ·intro h;exact ⟨h a (by simp),fun x hx=>h x (by simp [hx])⟩
 ·rintro ⟨h1,h2⟩ x hx;rcases List.mem_cons.1 hx with h|h
  ·subst h;exact h1
  ·exact h2 x h
theorem A27:O3 []:=fun _ h=>by cases h
theorem C4I {l:List Int} (hl:l.length<=1099511627776):A8H l=some ((l.length:Int)::l):=by
 unfold A8H;rw [M4 (by rw [D7i,D7V];omega)]
 rfl
end Go.Win
namespace Go.Win
open Go.Vc Go.Dec
end Go.Win
namespace Go.Win
open Go.Vc Go.Dec
def C08 (e:D7) (i:Nat):Prop:=(A7Y (el e.Ah i).Ac).2=true->(A7Y (el e.Ah i).Ac).1=e.Now
def A9v (e:D7):Prop:=((0<=e.Now/\e.Now<=16777216)/\B2R e.Ah e.Bd)/\ ∀i,i<e.Ah.length->C08 e i
theorem C8a {e:D7} (hl:e.Ah.length<=maxLen) {i:Nat} (hi:i<e.Ah.length):
  (¬C08 e i->Y5 e i=some (.inr 2))/\(¬ ¬C08 e i->Y5 e i=some (.inl ((i+1:Nat):Int))):=by
 unfold Y5 C08;rw [D7l (by omega:(i:Int)<(e.Ah.length:Int)),D7k,L1 hi,D7g,Z3 hi hl]
 dsimp only;cases h1:(A7Y (el e.Ah i).Ac).2 with
 |false=>exact ⟨fun h=>absurd (fun h2=>by cases h2) h,fun _=>rfl⟩
 |true=>
  by_cases h2:(A7Y (el e.Ah i).Ac).1=e.Now
  ·rw [h2,D7T];exact ⟨fun h=>absurd (fun _=>rfl) h,fun _=>rfl⟩
  ·have:((A7Y (el e.Ah i).Ac).1 !=e.Now)=true:=by rw [bne_iff_ne];exact h2
   rw [this];exact ⟨fun _=>rfl,fun h=>absurd (fun h3=>h2 (h3 rfl)) h⟩
theorem C0y (e:D7):W1 e 0=A6F e 0:=rfl
theorem B7H (e:D7) (hw:A37 e.Ah):O2 e=some (vOf (A9v e)):=by
 have hl:=H8 hw.1;unfold O2;rw [A6h e.Ah e.Bd hw,C0y]
 by_cases h1:0<=e.Now/\e.Now<=16777216
 ·have e1:(decide (e.Now<0)||decide (e.Now>16777216))=false:=by rw [D7Q,D7x,D7x];omega
  rw [e1];simp only [D7t,J1,D7g,D7H]
  by_cases h2:B2R e.Ah e.Bd
  ·rw [A1I h2,D7s,D7j];have H:=Q6 (f:=fun s:Int=>Y5 e s) e.Ah.length (fun i=> ¬C08 e i) 2 (some 0)
    (fun i hi _=>C8a hl hi)
    (fun _=>by
     unfold Y5;rw [D7n (D7J _),D7j])
   unfold A6F
   by_cases h3: ∀i,i<e.Ah.length->C08 e i
   ·rw [H.2 fun i hi hn=>hn (h3 i hi),V0 ⟨⟨h1,h2⟩,h3⟩]
   ·rw [H.1 (A53 h3),I8 fun h=>h3 h.2]
  ·rw [W5 h2,I8 fun h=>h2 h.1.2]
   rfl
 ·have e1:(decide (e.Now<0)||decide (e.Now>16777216))=true:=by rw [D7r,D7i,D7i];omega
  rw [e1,I8 fun h=>h1 h.1.1]
  rfl
theorem A6I (e:D7) (w:M2 e):O2 e=some (vOf (A9v e)):=B7H e (B5x w.2.2)
theorem C7u:B3y=A00:=rfl
theorem D2u {e:D7} (w:A37 e.Ah):A8J e e=some true:=by
 unfold A8J;rw [beq_self_eq_true,beq_self_eq_true,Bool.and_self,J1,C6r e.Ah (Nat.le_succ_of_le w.1) fun r hr=>D11 (w.2 r hr)]
 rfl
end Go.Win
namespace Go.Win
open Go.Vc Go.Dec
theorem C45 (l:List Int) (hl:l.length<=1099511627776): ∃n,A00 l=some n/\E1 .i64 n:=by
 unfold A00 B7C;refine R3 (f:=fun s:Int×Int×Int=>B0W l s.1 s.2.1 s.2.2) (fun s=> ∃i:Nat,i<=l.length/\s.2.2=(i:Int)) (fun s=>l.length-s.2.2.toNat) (fun n=>E1 .i64 n) (1,0,0) ⟨0,by omega,rfl⟩ ?_
 rintro ⟨x,y,_⟩ ⟨i,hi,rfl⟩;dsimp only;unfold B0W
 by_cases h:i<l.length
 ·left;rw [D7l (by omega),D7k,A2y h,D7g]
  refine ⟨_,rfl,⟨i+1,by omega, ?_⟩, ?_⟩
  ·rw [C7 (n:=(i:Int)+1) (by omega) (by omega)];rfl
  ·show l.length-(A1 ((i:Int)+1)).toNat<l.length-((i:Int)).toNat;rw [C7 (n:=(i:Int)+1) (by omega) (by omega)]
   omega
 ·right;rw [D7n (by omega),D7j]
  refine ⟨_,rfl, ?_⟩;rw [B0I];simp [E1,Lit.wf,IntKind.min,IntKind.max,IntKind.signed,IntKind.bits];omega
end Go.Win
namespace Go.Win
open Go.Vc Go.Dec
end Go.Win
namespace Go.Win
open Go.Vc Go.Dec
theorem G7 {a:Int} {l:List Int} (h:E1 .i64 a) (hl:O3 l):O3 (a::l):=B31.2 ⟨h,hl⟩
end Go.Win
namespace Go.Win
open Go.Vc Go.Dec
end Go.Win
namespace Go.Win
open Go.Vc Go.Dec
end Go.Win
namespace Go.Win
open Go.Vc Go.Dec
def Ans {α:Type} (q:Option (α×List Int)) (x:α) (rest:List Int) (bad:Bool):Prop:=match q with
 |some (y,r)=>bad=false/\x=y/\r=rest
 |none=>bad=true
end Go.Win
namespace Go.Win
open Go.Vc Go.Dec
theorem C4U (l:List Int) (hl:l.length<=1099511627776):U1 l l=some true:=by
 unfold U1 A1O;rw [D7T,D7j];have hany:(List.range l.length).any (fun _=>false)=false:=by rw [List.any_eq_false];simp
 have hL:loop (fun s:Int=>V3 l l s) 0=cond ((List.range l.length).any fun _=>false) (some false) (some true):=by
  refine A38 (fun j hj=> ?_) ?_
  ·unfold V3;rw [D7l (by omega),D7k,A2y hj,D7g,D7g,D7T,D7j,C7 (by omega) (by omega)]
   rfl
  ·unfold V3;rw [D7n (by omega),D7j]
 rw [hL,hany]
 rfl
end Go.Win
namespace Go.Win
open Go.Vc Go.Dec
theorem D6D: ∀(l:List Int) (i u w k:Nat),rdN i u l=some (w,k)->i<k/\k<=i+l.length:=by
 intro l
 induction l with
 |nil=>intro i u w k h;cases h
 |cons x l ih=>
  intro i u w k h;unfold rdN at h;split at h
  ·cases h
  split at h
  ·cases h
  split at h
  ·have:=ih _ _ _ _ h;rw [D7z];omega
  split at h
  ·cases h
  ·cases h;rw [D7z];omega
theorem B7W:Z5 F8:=by
 intro l a l' h;unfold F8 at h;rw [Option.map_eq_some_iff] at h;obtain ⟨⟨n,k⟩,h1,h2⟩:=h;cases h2;unfold rd at h1;rw [Option.map_eq_some_iff] at h1;obtain ⟨⟨w,k'⟩,h3,h4⟩:=h1;cases h4;have:=D6D _ _ _ _ _ h3;rw [D7O];simp only at this⊢;omega
def Ta {α:Type} (l:List Int) (f:Int->Bool->Option (Int×Bool×α)) (Q:Rd α):Prop:=
 ∀(a:Nat) (bad:Bool),a<=l.length-> ∃(a' :Nat) (bad' :Bool) (x:α),f (a:Int) bad=some ((a' :Int),bad',x)/\a' <=l.length/\(bad=true->bad' =true)/\(bad=false->Ans (Q (l.drop a)) x (l.drop a') bad')
def tB {α β:Type} (f:Int->Bool->Option (Int×Bool×α)) (g:α->Int->Bool->Option (Int×Bool×β)):Int->Bool->Option (Int×Bool×β):=fun a b=>Option.bind (f a b) fun y=>g y.2.2 y.1 y.2.1
def tP {α:Type} (x:α):Int->Bool->Option (Int×Bool×α):=fun a b=>some (a,b,x)
theorem Ta.pure {α:Type} (l:List Int) (x:α):Ta l (tP x) (M6 x):=fun a bad ha=>⟨a,bad,x,rfl,ha,fun h=>h,fun h=>⟨h,rfl,rfl⟩⟩
theorem Ta.bind {α β:Type} {l:List Int} {f:Int->Bool->Option (Int×Bool×α)} {g:α->Int->Bool->Option (Int×Bool×β)} {P:Rd α} {Q:α->Rd β} (hf:Ta l f P) (hg:∀x,Ta l (g x) (Q x)):Ta l (tB f g) (E6 P Q):=by
 intro a bad ha;obtain ⟨a1,b1,x,e1,u1,s1,p1⟩:=hf a bad ha;obtain ⟨a2,b2,y,e2,u2,s2,p2⟩:=hg x a1 b1 u1;refine ⟨a2,b2,y, ?_,u2,fun h=>s2 (s1 h),fun h=> ?_⟩
 ·unfold tB;rw [e1,D7g];exact e2
 ·have q1:=p1 h;unfold E6;cases hp:P (l.drop a) with
  |none=>
   rw [hp] at q1;exact s2 q1
  |some r=>
   obtain ⟨y1,rest⟩:=r;rw [hp] at q1;obtain ⟨c1,c2,c3⟩:=q1;subst c2 c3;exact p2 c1
theorem Ta.int {l:List Int} (hb:byt l) (hl:l.length<=100000000) (x0:Int):Ta l (fun a b=>B3 l a b x0) F8:=by
 intro a bad ha;unfold B3;cases bad with
 |true=>exact ⟨a,true,x0,rfl,ha,fun _=>rfl,fun h=>by cases h⟩
 |false=>
  dsimp only;rw [D7j,C2B hb (by omega) ha,D7g]
  cases hr:rd (l.drop a) with
  |none=>
   have e:rdA l a=(0,0,false):=by unfold rdA;rw [hr]
   have e2:F8 (l.drop a)=none:=by unfold F8;rw [hr];rfl
   rw [e,e2];exact ⟨a,true,x0,rfl,ha,fun _=>rfl,fun _=>rfl⟩
  |some p=>
   obtain ⟨n,k⟩:=p;obtain ⟨w,hk,hc⟩:=C1e (B85 hb a) hr;have hkl:a+k<=l.length:=by
    have:=congrArg List.length hc;rw [D7m,D7O] at this;omega
   have e:rdA l a=(n,((a+k:Nat):Int),true):=by unfold rdA;rw [hr]
   have e2:F8 (l.drop a)=some (n,l.drop (a+k)):=by unfold F8;rw [hr];simp [D8e]
   rw [e,e2];exact ⟨a+k,false,n,rfl,hkl,fun h=>h,fun _=>⟨rfl,rfl,rfl⟩⟩
theorem D2A (l:List Int) (x0:Int):(fun a b=>F0 l a b x0)=fun a b=>B3 l a b x0:=by
 funext a b
 unfold F0;cases B3 l a b x0<;>rfl
theorem Ta.small {l:List Int} (hb:byt l) (hl:l.length<=100000000) (x0:Int):Ta l (fun a b=>F0 l a b x0) F8:=by
 rw [D2A];exact Ta.int hb hl x0
def B46 (p q:Int):Rd Int:=E6 F8 fun n l=>if n<p\/q<n then none else some (n,l)
theorem Ta.within {l:List Int} (hb:byt l) (hl:l.length<=100000000) (p q x0:Int):Ta l (fun a b=>G9 p q l a b x0) (B46 p q):=by
 intro a bad ha;obtain ⟨a1,b1,x,e1,u1,s1,p1⟩:=Ta.int hb hl x0 a bad ha;unfold G9;dsimp only at e1⊢;rw [e1,D7g];dsimp only
 by_cases h:x<p\/q<x
 ·have c:(decide (x<p)||decide (x>q))=true:=by rw [D7r,D7i,D7i];omega
  rw [c,D7k];refine ⟨a1,true,x,rfl,u1,fun _=>rfl,fun hb=> ?_⟩;have q1:=p1 hb;unfold B46 E6;cases hp:F8 (l.drop a) with
  |none=>rfl
  |some r=>
   obtain ⟨y,rest⟩:=r;rw [hp] at q1;obtain ⟨c1,c2,c3⟩:=q1;subst c2 c3;rw [D7g];dsimp only;rw [if_pos h]
   rfl
 ·have c:(decide (x<p)||decide (x>q))=false:=by rw [D7Q,D7x,D7x];omega
  rw [c,D7j];refine ⟨a1,b1,x,rfl,u1,s1,fun hb=> ?_⟩;have q1:=p1 hb;unfold B46 E6;cases hp:F8 (l.drop a) with
  |none=>rw [hp] at q1;exact q1
  |some r=>
   obtain ⟨y,rest⟩:=r;rw [hp] at q1;obtain ⟨c1,c2,c3⟩:=q1;subst c2 c3;rw [D7g];dsimp only;rw [if_neg h];exact ⟨c1,rfl,rfl⟩
theorem D4s {α:Type} {l:List Int} {S:Int×Bool×List α×Int->Option ((Int×Bool×List α×Int)⊕(Int×Bool×List α))} {Q:Rd α}
  (hs:∀(a:Nat) (out:List α) (k:Nat),a<=l.length->out.length+k<=100000000-> ∃(a' :Nat) (bad' :Bool) (x:α),S ((a:Int),false,out,((k+1:Nat):Int))=some (.inl ((a' :Int),bad',out++ [x],(k:Int)))/\a' <=l.length/\Ans (Q (l.drop a)) x (l.drop a') bad')
  (hb:∀(a:Int) (out:List α) (k:Int),S (a,true,out,k)=some (.inr (a,true,out))) (he:∀(a:Int) (out:List α),S (a,false,out,0)=some (.inr (a,false,out))):
  ∀(k a:Nat) (out:List α),a<=l.length->out.length+k<=100000000-> ∃(a' :Nat) (bad' :Bool) (x:List α),loop S ((a:Int),false,out,(k:Int))=some ((a' :Int),bad',x)/\a' <=l.length/\
   match U8 Q k (l.drop a) with
   |some (y,r)=>bad' =false/\x=out++y/\r=l.drop a'
   |none=>bad' =true:=by
 intro k
 induction k with
 |zero=>
  intro a out ha _;exact ⟨a,false,out,K4 (he _ _),ha,rfl,by simp,rfl⟩
 |succ k ih=>
  intro a out ha ho;obtain ⟨a1,b1,x,e1,u1,p1⟩:=hs a out k ha (by omega)
  have hm:U8 Q (k+1) (l.drop a)=(Q (l.drop a)).bind fun q=>(U8 Q k q.2).bind fun q' =>M6 (q.1::q'.1) q'.2:=rfl;rw [hm,J6 e1];cases hq:Q (l.drop a) with
  |none=>
   rw [hq] at p1;have p1' :b1=true:=p1;subst p1';exact ⟨a1,true,_,K4 (hb _ _ _),u1,rfl⟩
  |some r=>
   obtain ⟨y,rest⟩:=r;rw [hq] at p1;obtain ⟨c1,c2,c3⟩:=p1;subst c1 c2 c3;obtain ⟨a2,b2,z,e2,u2,p2⟩:=ih a1 (out++ [x]) u1 (by rw [D7m,D7V];omega)
   refine ⟨a2,b2,z,e2,u2, ?_⟩;rw [D7g];dsimp only;cases hr:U8 Q k (l.drop a1) with
   |none=>rw [hr] at p2;exact p2
   |some r=>
    rw [hr] at p2;obtain ⟨q1,q2,q3⟩:=p2;exact ⟨q1,by rw [q2];simp,q3⟩
theorem Ta.list {α:Type} {l:List Int} (hb:byt l) (hl:l.length<=100000000) {S:Int×Bool×List α×Int->Option ((Int×Bool×List α×Int)⊕(Int×Bool×List α))} {Q:Rd α} (hE:Z5 Q)
  (hs:∀(a:Nat) (out:List α) (k:Nat),a<=l.length->out.length+k<=100000000-> ∃(a' :Nat) (bad' :Bool) (x:α),S ((a:Int),false,out,((k+1:Nat):Int))=some (.inl ((a' :Int),bad',out++ [x],(k:Int)))/\a' <=l.length/\Ans (Q (l.drop a)) x (l.drop a') bad')
  (hbad:∀(a:Int) (out:List α) (k:Int),S (a,true,out,k)=some (.inr (a,true,out))) (he:∀(a:Int) (out:List α),S (a,false,out,0)=some (.inr (a,false,out))) (x0:Int):
  Ta l (fun a b=>Option.bind (G9 0 (A1 ((l.length:Int)-a)) l a b x0) fun y=>loop S (y.1,y.2.1, [],y.2.2)) (P9 F8 Q):=by
 intro a bad ha;obtain ⟨a1,b1,n,e1,u1,s1,p1⟩:=Ta.within hb hl 0 (A1 ((l.length:Int)-(a:Int))) x0 a bad ha;have e1' :G9 0 (A1 ((l.length:Int)-(a:Int))) l (a:Int) bad x0=some ((a1:Int),b1,n):=e1;dsimp only;rw [e1',D7g];dsimp only;cases b1 with
 |true=>
  refine ⟨a1,true, [],K4 (hbad _ _ _),u1,fun _=>rfl,fun h=> ?_⟩;have q:=p1 h;unfold P9 E6;unfold B46 E6 at q;cases hr:F8 (l.drop a) with
  |none=>rfl
  |some r=>
   obtain ⟨m,rest⟩:=r;rw [hr,D7g] at q;dsimp only at q;have hlen:=B7W _ _ _ hr;rw [D7O] at hlen;have ew:A1 ((l.length:Int)-(a:Int))=(l.length:Int)-(a:Int):=by rw [C7]<;>omega
   rw [ew] at q
   by_cases h:m<0\/(l.length:Int)-(a:Int)<m
   ·rw [D7g];dsimp only;rw [if_pos (by omega)]
    rfl
   ·rw [if_neg h] at q;exact absurd q.1 (by decide)
 |false=>
  have hbf:bad=false:=by cases bad with
   |true=>exact absurd (s1 rfl) (by decide)
   |false=>rfl
  have q:=p1 hbf;unfold B46 E6 at q;have ew:A1 ((l.length:Int)-(a:Int))=(l.length:Int)-(a:Int):=by rw [C7]<;>omega
  rw [ew] at q;cases hr:F8 (l.drop a) with
  |none=>
   rw [hr] at q;have q' :false=true:=q;cases q'
  |some r=>
   obtain ⟨m,rest⟩:=r;rw [hr,D7g] at q;dsimp only at q
   by_cases h:m<0\/(l.length:Int)-(a:Int)<m
   ·rw [if_pos h] at q;have q' :false=true:=q;cases q'
   ·rw [if_neg h] at q;obtain ⟨_,c2,c3⟩:=q;subst c2 c3;obtain ⟨k,rfl⟩:=Int.eq_ofNat_of_zero_le (show 0<=n by omega)
    obtain ⟨a2,b2,x,e2,u2,p2⟩:=D4s hs hbad he k a1 [] u1 (by rw [D7M];omega)
    refine ⟨a2,b2,x,e2,u2,(fun h=>by rw [hbf] at h;cases h),fun _=> ?_⟩
    unfold P9 E6;rw [hr,D7g];dsimp only;rw [D7O,D7W]
    by_cases hk:((l.length-a1:Nat):Int)<(k:Int)
    ·rw [if_pos (.inr hk)];cases hm:U8 Q k (l.drop a1) with
     |none=>rw [hm] at p2;exact p2
     |some r=>
      have:=B5z hE k _ _ _ hm;rw [D7O] at this;omega
    ·rw [if_neg (by omega)]
     cases hm:U8 Q k (l.drop a1) with
     |none=>rw [hm] at p2;exact p2
     |some r=>
      rw [hm] at p2;obtain ⟨q1,q2,q3⟩:=p2;exact ⟨q1,by rw [q2];rfl,q3⟩
theorem B7R {α:Type} (o:Option (Int×Bool×α)):(Option.bind o fun y=>some (y.1,y.2.1,y.2.2))=o:=by cases o<;>rfl
def B5S (i:Rd Int):Rd A2:=E6 i fun h=>E6 i fun l=>M6 ⟨A4 h,A4 l⟩
theorem C13:Z5 L7:=by
 intro ns a ns' h;cases ns with
 |nil=>cases h
 |cons n ns=>cases h;simp
theorem Ta.word {l:List Int} (hb:byt l) (hl:l.length<=100000000) (x:Int):Ta l (fun a b=>A3q l a b x) (E6 F8 fun n=>M6 (A4 n)):=Ta.bind (Ta.int hb hl (A1 x)) fun n=>Ta.pure l (A4 n)
theorem C9y {α β γ:Type} (p:Rd α) (m:α->β) (g:β->Rd γ):E6 (E6 p fun x=>M6 (m x)) g=E6 p fun x=>g (m x):=by
 funext l
 unfold E6;cases p l<;>rfl
theorem Ta.wide {l:List Int} (hb:byt l) (hl:l.length<=100000000) (x:A2):Ta l (fun a b=>A3p l a b x) (B5S F8):=by
 have h:=Ta.bind (Ta.word hb hl x.Hi) fun n=>Ta.bind (Ta.word hb hl x.Lo) fun d=>Ta.pure l (A2.mk n d);simp only [C9y] at h;exact h
def D6p (r:G8):Prop:=r.Aj.Aw.length<=1048576/\r.Br.length<=1048576/\r.Ax.length<=1048576
theorem C2U {l:List Int} (hl:l.length<=1048576): ∃m,A96 l=some m/\m.length=l.length+1:=by
 unfold A96 B4Y;refine R3 (f:=fun s:List Int×Int=>A8G l s.1 s.2)
  (fun s=> ∃i:Nat,i<=l.length/\s.2=(i:Int)/\s.1.length=i+1) (fun s=>l.length-s.2.toNat) (fun r=>r.length=l.length+1) ([(l.length:Int)],0) ⟨0,by omega,rfl,rfl⟩ ?_
 rintro ⟨v,_⟩ ⟨i,hi,rfl,hv⟩;dsimp only at hv⊢;unfold A8G
 by_cases hlt:i<l.length
 ·left;rw [D7l (by omega),D7k,A2y hlt,D7g,M4 (by rw [D7i,D7V];omega)]
  refine ⟨_,rfl,⟨i+1,hlt, ?_, ?_⟩, ?_⟩
  ·show A1 ((i:Int)+1)=_;rw [C7]<;>omega
  ·show (v++ [_]).length=_;rw [D7m,D7V,hv]
  ·show _-(A1 ((i:Int)+1)).toNat<_-((i:Int)).toNat;rw [C7 (by omega) (by omega)]
   omega
 ·right;rw [D7n (by omega),D7j]
  exact ⟨_,rfl,by rw [hv];omega⟩
theorem C86 {r:G8} (h:D6p r):A1l r r=some true:=by
 obtain ⟨h1,h2,h3⟩:=h;obtain ⟨m,m1,m2⟩:=C2U h3;have key: ∃ns,A63 r=some ns/\ns.length<=1099511627776:=by
  unfold A63;rw [C4I (by omega),C4I (by omega),m1]
  simp only [D7g];rw [M4 (by rw [D7i];simp only [D7m,D7z,D7M];omega),M4 (by rw [D7i];simp only [D7m,D7z,D7M];omega),
   M4 (by rw [D7i];simp only [D7m,D7z,D7M];omega),M4 (by rw [D7i];simp only [D7m,D7z,D7M];omega)]
  refine ⟨_,rfl, ?_⟩;simp only [D7m,D7z,D7M];omega
 obtain ⟨ns,n1,n2⟩:=key;unfold A1l;rw [n1,D7g,D7g,C4U ns n2]
 rfl
end Go.Win
namespace Go.Win
open Go.Vc Go.Dec
structure B5 {α:Type} (Q P:Rd α) (W:α->Prop):Prop where
 sim:Sim Q P
 shr: ∀l a r,P l=some (a,r)->r.length<=l.length
 shrQ: ∀l a r,Q l=some (a,r)->r.length<=l.length
 loc: ∀ns a rest,P ns=some (a,rest)-> ∃pre,ns=pre++rest/\ ∀r',P (pre++r')=some (a,r')
 wf: ∀ns a rest,O3 ns->ns.length<=1048576->P ns=some (a,rest)->W a/\O3 rest
theorem B5.int:B5 F8 L7 (E1 .i64) where
 sim:=C7t
 shr:=fun l a r h=>by
  cases l with
  |nil=>cases h
  |cons n ns=>cases h;simp
 shrQ:=fun l a r h=>Nat.le_of_lt (B7W l a r h)
 loc:=fun ns a rest h=>by
  cases ns with
  |nil=>cases h
  |cons n ns=>cases h;exact ⟨[a],rfl,fun _=>rfl⟩
 wf:=fun ns a rest hw _ h=>by
  cases ns with
  |nil=>cases h
  |cons n ns=>cases h;exact B31.1 hw
theorem B5.pure {α:Type} {W:α->Prop} (a:α) (h:W a):B5 (M6 a) (M6 a) W where
 sim:=B9o a
 shr:=fun l b r h=>by cases h;exact D7Y _
 shrQ:=fun l b r h=>by cases h;exact D7Y _
 loc:=fun ns b rest h=>by cases h;exact ⟨[],rfl,fun _=>rfl⟩
 wf:=fun ns b rest hw _ e=>by cases e;exact ⟨h,hw⟩
theorem B5.fail {α:Type} {W:α->Prop}:B5 (B78 (α:=α)) B78 W where
 sim:=D2x
 shr:=fun _ _ _ h=>by cases h
 shrQ:=fun _ _ _ h=>by cases h
 loc:=fun _ _ _ h=>by cases h
 wf:=fun _ _ _ _ _ h=>by cases h
theorem A0P {α β:Type} {P:Rd α} {f:α->Rd β} {l:List Int} {b:β} {r:List Int} (h:E6 P f l=some (b,r)): ∃a l',P l=some (a,l')/\f a l' =some (b,r):=by
 unfold E6 at h;rw [Option.bind_eq_some_iff] at h;obtain ⟨⟨a,l'⟩,h1,h2⟩:=h;exact ⟨a,l',h1,h2⟩
theorem C4C {α β:Type} {P:Rd α} {f:α->Rd β} {l l' :List Int} {a:α} (h:P l=some (a,l')):E6 P f l=f a l' :=by unfold E6;rw [h];rfl
theorem B5.bind {α β:Type} {Q P:Rd α} {f g:α->Rd β} {V:α->Prop} {W:β->Prop} (h:B5 Q P V) (hf:∀a,B5 (f a) (g a) (fun b=>V a->W b)):B5 (E6 Q f) (E6 P g) W where
 sim:=B5O h.sim fun a=>(hf a).sim
 shr:=fun l b r e=>by
  obtain ⟨a,l',h1,h2⟩:=A0P e;exact Nat.le_trans ((hf a).shr _ _ _ h2) (h.shr _ _ _ h1)
 shrQ:=fun l b r e=>by
  obtain ⟨a,l',h1,h2⟩:=A0P e;exact Nat.le_trans ((hf a).shrQ _ _ _ h2) (h.shrQ _ _ _ h1)
 loc:=fun ns b rest e=>by
  obtain ⟨a,l',h1,h2⟩:=A0P e;obtain ⟨p1,e1,f1⟩:=h.loc _ _ _ h1;obtain ⟨p2,e2,f2⟩:=(hf a).loc _ _ _ h2;refine ⟨p1++p2,by rw [e1,e2,D7K],fun r' => ?_⟩
  rw [D7K,C4C (f1 _),f2]
 wf:=fun ns b rest hw hl e=>by
  obtain ⟨a,l',h1,h2⟩:=A0P e;obtain ⟨w1,w2⟩:=h.wf _ _ _ hw hl h1;obtain ⟨w3,w4⟩:=(hf a).wf _ _ _ w2 (Nat.le_trans (h.shr _ _ _ h1) hl) h2;exact ⟨w3 w1,w4⟩
theorem C12 {α β:Type} {P:Rd α} {f:α->Rd β} (h:Z5 P) (hf:∀a l b r,f a l=some (b,r)->r.length<=l.length):Z5 (E6 P f):=by
 intro l b r e;obtain ⟨a,l',h1,h2⟩:=A0P e;exact Nat.lt_of_le_of_lt (hf a _ _ _ h2) (h _ _ _ h1)
theorem B5.many {α:Type} {Q P:Rd α} {W:α->Prop} (h:B5 Q P W): ∀k,B5 (U8 Q k) (U8 P k) (fun l=>l.length=k/\ ∀y∈l,W y)
 |0=>B5.pure [] ⟨rfl,fun _ h=>by cases h⟩
 |k+1=>B5.bind h fun a=>B5.bind (B5.many h k) fun as=>B5.pure (a::as) fun h1 h2=>⟨by rw [D7z,h1.1],fun y hy=>by
   rcases List.mem_cons.1 hy with e|e
   ·subst e;exact h2
   ·exact h1.2 y e⟩
theorem B5.list {α:Type} {Q P:Rd α} {W:α->Prop} (h:B5 Q P W) (he:Z5 P):B5 (P9 F8 Q) (P9 L7 P) (S9 W) where
 sim:=D2y h.sim he
 shr:=fun l a r e=>by
  obtain ⟨n,l',h1,h2⟩:=A0P e;split at h2
  ·cases h2
  ·exact Nat.le_trans ((B5.many h _).shr _ _ _ h2) (B5.int.shr _ _ _ h1)
 shrQ:=fun l a r e=>by
  obtain ⟨n,l',h1,h2⟩:=A0P e;split at h2
  ·cases h2
  ·exact Nat.le_trans ((B5.many h _).shrQ _ _ _ h2) (B5.int.shrQ _ _ _ h1)
 loc:=fun ns a rest e=>by
  obtain ⟨n,l',h1,h2⟩:=A0P e;split at h2
  ·cases h2
  rename_i hc;obtain ⟨p1,e1,f1⟩:=B5.int.loc _ _ _ h1;obtain ⟨p2,e2,f2⟩:=(B5.many h _).loc _ _ _ h2;refine ⟨p1++p2,by rw [e1,e2,D7K],fun r' => ?_⟩
  have hm:=B5z he _ _ _ _ (f2 []);rw [D7m,D7M] at hm;unfold P9;rw [D7K,C4C (f1 _)];show (if n<0\/((p2++r').length:Int)<n then none else U8 P n.toNat (p2++r'))=_
  rw [if_neg (by rw [D7m];omega),f2]
 wf:=fun ns a rest hw hl e=>by
  obtain ⟨n,l',h1,h2⟩:=A0P e;split at h2
  ·cases h2
  rename_i hc;obtain ⟨w1,w2⟩:=B5.int.wf _ _ _ hw hl h1;have hs:=B5.int.shr _ _ _ h1;obtain ⟨⟨w3,w4⟩,w5⟩:=(B5.many h _).wf _ _ _ w2 (by omega) h2
  exact ⟨⟨by omega,w4⟩,w5⟩
def A4H (i:Rd Int) (p q:Int):Rd Int:=E6 i fun n l=>if n<p\/q<n then none else some (n,l)
theorem B5.within (p q:Int):B5 (A4H F8 p q) (A4H L7 p q) (fun n=>E1 .i64 n/\p<=n/\n<=q):=by
 refine B5.bind B5.int fun n=> ?_
 by_cases h:n<p\/q<n
 ·have e:(fun l:List Int=>if n<p\/q<n then none else some (n,l))=(B78:Rd Int):=by funext l;rw [if_pos h];rfl
  rw [e];exact B5.fail
 ·have e:(fun l:List Int=>if n<p\/q<n then none else some (n,l))=(M6 n:Rd Int):=by funext l;rw [if_neg h];rfl
  rw [e];exact B5.pure n fun w=>⟨w,by omega⟩
def C0Y (i:Rd Int):Rd E2:=E6 i fun a=>E6 i fun b=>E6 i fun c=>E6 i fun d=>E6 i fun e=>E6 i fun f=>E6 i fun g=>E6 i fun h=>M6 ⟨a,b,c,d,e,f,g,h⟩
def B5s (i:Rd Int):Rd A9:=E6 i fun t=>E6 i fun v=>M6 ⟨t,v⟩
def A9e (i:Rd Int):Rd A3:=E6 i fun t=>E6 i fun v=>M6 ⟨t,v⟩
def B5A (i:Rd Int):Rd A7:=E6 i fun a=>E6 i fun b=>E6 i fun c=>E6 i fun d=>E6 i fun e=>E6 i fun f=>E6 i fun g=>M6 ⟨a,b,c,d,e,f,g⟩
def B3P (i:Rd Int):Rd G4:=E6 i fun t=>E6 i fun v=>M6 ⟨t,v⟩
def C1G (i:Rd Int):Rd E0:=E6 i fun a=>E6 i fun b=>E6 i fun c=>M6 ⟨a,b,c⟩
def B6V (i:Rd Int):Rd B4:=E6 i fun a=>E6 i fun b=>E6 i fun c=>M6 ⟨a,b,c⟩
def B4I (i:Rd Int):Rd B7:=E6 i fun a=>E6 i fun b=>E6 i fun c=>E6 i fun d=>E6 (P9 i (B3P i)) fun l=>M6 ⟨a,b,c,d,l⟩
def B4z (i:Rd Int):Rd B2:=E6 i fun a=>E6 i fun b=>E6 i fun c=>E6 i fun d=>E6 (P9 i (B6V i)) fun l=>M6 ⟨a,b,c,⟨d,l⟩⟩
def zS (c:E2):A8:= { A21 with Ao:=c}
def stR (i:Rd Int) (c:E2):Rd A8:=
 if c.Bi=1 then E6 i fun w=>E6 i fun cap=>E6 i fun now=>E6 (P9 i (B5s i)) fun l=>M6 { zS c with Aq:=⟨w,cap,now,l⟩}
 else if c.Bi=2 then E6 i fun w=>E6 i fun k=>E6 i fun cap=>E6 i fun now=>E6 (P9 i (A9e i)) fun l=>M6 { zS c with Ay:=⟨w,k,cap,now,l⟩}
 else if c.Bi=3 then E6 i fun w=>E6 i fun k=>E6 i fun cap=>E6 i fun mx=>E6 i fun now=>E6 (P9 i (A9e i)) fun l=>M6 { zS c with Sum:=⟨w,k,cap,mx,now,l⟩}
 else if c.Bi=4 then E6 i fun ag=>E6 i fun w=>E6 i fun k=>E6 i fun cap=>E6 i fun now=>E6 i fun sq=>E6 (P9 i (B5A i)) fun l=>M6 { zS c with As:=⟨ag,w,k,cap,now,sq,l⟩}
 else if c.Bi=5 then E6 i fun w=>E6 i fun k=>E6 i fun cap=>E6 i fun now=>E6 i fun sq=>E6 (P9 i (B5A i)) fun l=>M6 { zS c with Au:=⟨w,k,cap,now,sq,l⟩}
 else if c.Bi=6 then E6 i fun p=>E6 i fun ln=>E6 i fun now=>E6 (P9 i (B5S i)) fun l=>M6 { zS c with Bm:=⟨p,ln,now,l⟩}
 else if c.Bi=7 then E6 i fun now=>E6 (P9 i i) fun l=>M6 { zS c with Ba:=⟨now,l⟩}
 else if c.Bi=8 then E6 (A4H i 0 1) fun mx=>E6 i fun w=>E6 i fun cap=>E6 i fun now=>E6 (P9 i (B5s i)) fun l=>M6 { zS c with Af:=⟨mx==1,w,cap,now,l⟩}
 else if c.Bi=9 then E6 (P9 i (B4I i)) fun l=>M6 { zS c with Ar:=⟨l⟩}
 else if c.Bi=10 then E6 i fun k=>E6 i fun cap=>E6 i fun n=>E6 (P9 i (C1G i)) fun l=>M6 { zS c with Ai:=⟨k,cap,n,l⟩}
 else if c.Bi=11 then E6 i fun w=>E6 i fun k=>E6 i fun cap=>E6 i fun now=>E6 (P9 i (B4z i)) fun l=>M6 { zS c with Ab:=⟨w,k,cap,now,l⟩}
 else B78
def A5G (i:Rd Int):Rd A6:=E6 i fun id=>E6 (C0Y i) fun c=>E6 (stR i c) fun s=>M6 ⟨id,s⟩
def B2B (i:Rd Int):Rd D7:=E6 (A4H i 1 1) fun _=>E6 i fun now=>E6 i fun lim=>E6 (A4H i 0 64) fun n=>E6 (U8 (A5G i) n.toNat) fun rs=>M6 ⟨now,lim,rs⟩
theorem D42:B5 (C0Y F8) (C0Y L7) A1Y:=
 B5.bind B5.int fun _=>B5.bind B5.int fun _=>B5.bind B5.int fun _=>B5.bind B5.int fun _=>B5.bind B5.int fun _=>B5.bind B5.int fun _=>B5.bind B5.int fun _=>B5.bind B5.int fun _=>B5.pure _ fun h g f e d c b a=>⟨a,b,c,d,e,f,g,h⟩
theorem C7a:B5 (B5s F8) (B5s L7) A16:=B5.bind B5.int fun _=>B5.bind B5.int fun _=>B5.pure _ fun b a=>⟨a,b⟩
theorem C1W:B5 (A9e F8) (A9e L7) A0M:=B5.bind B5.int fun _=>B5.bind B5.int fun _=>B5.pure _ fun b a=>⟨a,b⟩
theorem C7f:B5 (B5A F8) (B5A L7) A18:=
 B5.bind B5.int fun _=>B5.bind B5.int fun _=>B5.bind B5.int fun _=>B5.bind B5.int fun _=>B5.bind B5.int fun _=>B5.bind B5.int fun _=>B5.bind B5.int fun _=>B5.pure _ fun g f e d c b a=>⟨a,b,c,d,e,f,g⟩
theorem C7F (n:Int):E1 .u64 (A4 n):=by
 rw [K3];simp [E1,Lit.wf,IntKind.min,IntKind.max,IntKind.signed,IntKind.bits];omega
theorem D4D:B5 (B5S F8) (B5S L7) A08:=B5.bind B5.int fun _=>B5.bind B5.int fun _=>B5.pure _ fun _ _=>⟨C7F _,C7F _⟩
theorem D3L:B5 (B3P F8) (B3P L7) A17:=B5.bind B5.int fun _=>B5.bind B5.int fun _=>B5.pure _ fun b a=>⟨a,b⟩
theorem D6b:B5 (C1G F8) (C1G L7) A2F:=B5.bind B5.int fun _=>B5.bind B5.int fun _=>B5.bind B5.int fun _=>B5.pure _ fun c b a=>⟨a,b,c⟩
theorem D49:B5 (B6V F8) (B6V L7) A1z:=B5.bind B5.int fun _=>B5.bind B5.int fun _=>B5.bind B5.int fun _=>B5.pure _ fun c b a=>⟨a,b,c⟩
theorem B1t {α:Type} {f g:Int->Rd α} {W:Int->α->Prop} (hf:∀a,B5 (f a) (g a) (W a)):Z5 (E6 L7 g)/\Z5 (E6 F8 f):=
 ⟨C12 C13 fun a=>(hf a).shr,C12 B7W fun a=>(hf a).shrQ⟩
theorem B69:Z5 (B5s L7)/\Z5 (B5s F8):=B1t (W:=fun _ _=>True) fun _=>B5.bind B5.int fun _=>B5.pure _ fun _=>trivial
theorem B35:Z5 (A9e L7)/\Z5 (A9e F8):=B1t (W:=fun _ _=>True) fun _=>B5.bind B5.int fun _=>B5.pure _ fun _=>trivial
theorem B7e:Z5 (B5A L7)/\Z5 (B5A F8):=B1t (W:=fun _ _=>True) fun _=>B5.bind B5.int fun _=>B5.bind B5.int fun _=>B5.bind B5.int fun _=>B5.bind B5.int fun _=>B5.bind B5.int fun _=>B5.bind B5.int fun _=>B5.pure _ fun _ _ _ _ _ _=>trivial
theorem C2F:Z5 (B5S L7)/\Z5 (B5S F8):=B1t (W:=fun _ _=>True) fun _=>B5.bind B5.int fun _=>B5.pure _ fun _=>trivial
theorem C2j:Z5 (B3P L7)/\Z5 (B3P F8):=B1t (W:=fun _ _=>True) fun _=>B5.bind B5.int fun _=>B5.pure _ fun _=>trivial
theorem C5e:Z5 (C1G L7)/\Z5 (C1G F8):=B1t (W:=fun _ _=>True) fun _=>B5.bind B5.int fun _=>B5.bind B5.int fun _=>B5.pure _ fun _ _=>trivial
theorem C3S:Z5 (B6V L7)/\Z5 (B6V F8):=B1t (W:=fun _ _=>True) fun _=>B5.bind B5.int fun _=>B5.bind B5.int fun _=>B5.pure _ fun _ _=>trivial
theorem C4d:B5 (P9 F8 (B3P F8)) (P9 L7 (B3P L7)) (S9 A17):=B5.list D3L C2j.1
theorem C66:B5 (P9 F8 (B6V F8)) (P9 L7 (B6V L7)) (S9 A1z):=B5.list D49 C3S.1
theorem D1C:B5 (B4I F8) (B4I L7) A2E:=
 B5.bind B5.int fun _=>B5.bind B5.int fun _=>B5.bind B5.int fun _=>B5.bind B5.int fun _=>B5.bind C4d fun _=>B5.pure _ fun e d c b a=>⟨a,b,c,d,e⟩
theorem D1w:B5 (B4z F8) (B4z L7) A2D:=
 B5.bind B5.int fun _=>B5.bind B5.int fun _=>B5.bind B5.int fun _=>B5.bind B5.int fun _=>B5.bind C66 fun _=>B5.pure _ fun e d c b a=>⟨a,b,c,d,e⟩
theorem B9K:Z5 (B4I L7)/\Z5 (B4I F8):=B1t (W:=fun _ _=>True) fun _=>B5.bind B5.int fun _=>B5.bind B5.int fun _=>B5.bind B5.int fun _=>B5.bind C4d fun _=>B5.pure _ fun _ _ _ _=>trivial
theorem B9B:Z5 (B4z L7)/\Z5 (B4z F8):=B1t (W:=fun _ _=>True) fun _=>B5.bind B5.int fun _=>B5.bind B5.int fun _=>B5.bind B5.int fun _=>B5.bind C66 fun _=>B5.pure _ fun _ _ _ _=>trivial
theorem zI:E1 .i64 0:=A81.2 (by decide)
theorem zL {α:Type} (W:α->Prop):S9 W ([]:List α):=⟨Nat.zero_le _,fun _ h=>by cases h⟩
theorem D6I (c:E2):B5 (stR F8 c) (stR L7 c) (fun s=>A1Y c->R6 s):=by
 have z1:A6p A21.Aq:=⟨zI,zI,zI,zL _⟩;have z2:A7u A21.Ay:=⟨zI,zI,zI,zI,zL _⟩;have z3:B0b A21.Sum:=⟨zI,zI,zI,zI,zI,zL _⟩;have z4:A6r A21.As:=⟨zI,zI,zI,zI,zI,zI,zL _⟩;have z5:A6s A21.Au:=⟨zI,zI,zI,zI,zI,zL _⟩;have z6:A80 A21.Bm:=⟨zI,zI,zI,zL _⟩;have z7:A7v A21.Ba:=⟨zI,zL _⟩;have z8:A5l A21.Af:=⟨trivial,zI,zI,zI,zL _⟩;have z9:A6q A21.Ar:=zL _;have z10:A5m A21.Ai:=⟨zI,zI,zI,zL _⟩;have z11:A4l A21.Ab:=⟨zI,zI,zI,zI,zL _⟩;unfold stR
 by_cases h1:c.Bi=1
 ·rw [if_pos h1,if_pos h1];exact B5.bind B5.int fun _=>B5.bind B5.int fun _=>B5.bind B5.int fun _=>B5.bind (B5.list C7a B69.1) fun _=>B5.pure _ fun d c b a wc=>⟨wc,⟨a,b,c,d⟩,z2,z3,z4,z5,z6,z7,z8,z9,z10,z11⟩
 rw [if_neg h1,if_neg h1]
 by_cases h2:c.Bi=2
 ·rw [if_pos h2,if_pos h2];exact B5.bind B5.int fun _=>B5.bind B5.int fun _=>B5.bind B5.int fun _=>B5.bind B5.int fun _=>B5.bind (B5.list C1W B35.1) fun _=>B5.pure _ fun e d c b a wc=>⟨wc,z1,⟨a,b,c,d,e⟩,z3,z4,z5,z6,z7,z8,z9,z10,z11⟩
 rw [if_neg h2,if_neg h2]
 by_cases h3:c.Bi=3
 ·rw [if_pos h3,if_pos h3];exact B5.bind B5.int fun _=>B5.bind B5.int fun _=>B5.bind B5.int fun _=>B5.bind B5.int fun _=>B5.bind B5.int fun _=>B5.bind (B5.list C1W B35.1) fun _=>B5.pure _ fun f e d c b a wc=>⟨wc,z1,z2,⟨a,b,c,d,e,f⟩,z4,z5,z6,z7,z8,z9,z10,z11⟩
 rw [if_neg h3,if_neg h3]
 by_cases h4:c.Bi=4
 ·rw [if_pos h4,if_pos h4];exact B5.bind B5.int fun _=>B5.bind B5.int fun _=>B5.bind B5.int fun _=>B5.bind B5.int fun _=>B5.bind B5.int fun _=>B5.bind B5.int fun _=>B5.bind (B5.list C7f B7e.1) fun _=>B5.pure _ fun g f e d c b a wc=>⟨wc,z1,z2,z3,⟨a,b,c,d,e,f,g⟩,z5,z6,z7,z8,z9,z10,z11⟩
 rw [if_neg h4,if_neg h4]
 by_cases h5:c.Bi=5
 ·rw [if_pos h5,if_pos h5];exact B5.bind B5.int fun _=>B5.bind B5.int fun _=>B5.bind B5.int fun _=>B5.bind B5.int fun _=>B5.bind B5.int fun _=>B5.bind (B5.list C7f B7e.1) fun _=>B5.pure _ fun f e d c b a wc=>⟨wc,z1,z2,z3,z4,⟨a,b,c,d,e,f⟩,z6,z7,z8,z9,z10,z11⟩
 rw [if_neg h5,if_neg h5]
 by_cases h6:c.Bi=6
 ·rw [if_pos h6,if_pos h6];exact B5.bind B5.int fun _=>B5.bind B5.int fun _=>B5.bind B5.int fun _=>B5.bind (B5.list D4D C2F.1) fun _=>B5.pure _ fun d c b a wc=>⟨wc,z1,z2,z3,z4,z5,⟨a,b,c,d⟩,z7,z8,z9,z10,z11⟩
 rw [if_neg h6,if_neg h6]
 by_cases h7:c.Bi=7
 ·rw [if_pos h7,if_pos h7];exact B5.bind B5.int fun _=>B5.bind (B5.list B5.int C13) fun _=>B5.pure _ fun b a wc=>⟨wc,z1,z2,z3,z4,z5,z6,⟨a,b⟩,z8,z9,z10,z11⟩
 rw [if_neg h7,if_neg h7]
 by_cases h8:c.Bi=8
 ·rw [if_pos h8,if_pos h8];exact B5.bind (B5.within 0 1) fun _=>B5.bind B5.int fun _=>B5.bind B5.int fun _=>B5.bind B5.int fun _=>B5.bind (B5.list C7a B69.1) fun _=>B5.pure _ fun e d c b _ wc=>⟨wc,z1,z2,z3,z4,z5,z6,z7,⟨trivial,b,c,d,e⟩,z9,z10,z11⟩
 rw [if_neg h8,if_neg h8]
 by_cases h9:c.Bi=9
 ·rw [if_pos h9,if_pos h9];exact B5.bind (B5.list D1C B9K.1) fun _=>B5.pure _ fun a wc=>⟨wc,z1,z2,z3,z4,z5,z6,z7,z8,a,z10,z11⟩
 rw [if_neg h9,if_neg h9]
 by_cases h10:c.Bi=10
 ·rw [if_pos h10,if_pos h10];exact B5.bind B5.int fun _=>B5.bind B5.int fun _=>B5.bind B5.int fun _=>B5.bind (B5.list D6b C5e.1) fun _=>B5.pure _ fun d c b a wc=>⟨wc,z1,z2,z3,z4,z5,z6,z7,z8,z9,⟨a,b,c,d⟩,z11⟩
 rw [if_neg h10,if_neg h10]
 by_cases h11:c.Bi=11
 ·rw [if_pos h11,if_pos h11];exact B5.bind B5.int fun _=>B5.bind B5.int fun _=>B5.bind B5.int fun _=>B5.bind B5.int fun _=>B5.bind (B5.list D1w B9B.1) fun _=>B5.pure _ fun e d c b a wc=>⟨wc,z1,z2,z3,z4,z5,z6,z7,z8,z9,z10,⟨a,b,c,d,e⟩⟩
 rw [if_neg h11,if_neg h11];exact B5.fail
theorem D5W:B5 (A5G F8) (A5G L7) Z0:=
 B5.bind B5.int fun _=>B5.bind D42 fun c=>B5.bind (D6I c) fun _=>B5.pure _ fun hs hc hi=>⟨hi,hs hc⟩
theorem B6U:B5 (B2B F8) (B2B L7) M2:=
 B5.bind (B5.within 1 1) fun _=>B5.bind B5.int fun _=>B5.bind B5.int fun _=>B5.bind (B5.within 0 64) fun n=>B5.bind (B5.many D5W n.toNat) fun _=>B5.pure _ fun hm hn hl hw _=>⟨hw,hl,⟨by rw [hm.1];have:=hn.2;omega,hm.2⟩⟩
end Go.Win
namespace Go.Win
open Go.Vc Go.Dec
theorem Ta.lst {α:Type} {l:List Int} (hb:byt l) (hl:l.length<=100000000) {Q:Rd α} (hE:Z5 Q) (c:Nat) (hc:c<=1000) (F:Int->Bool->Option (Int×Bool×α)) (hF:Ta l F Q)
  (S:Int×Bool×List α×Int->Option ((Int×Bool×List α×Int)⊕(Int×Bool×List α)))
  (hS:∀(a:Int) (bad:Bool) (out:List α) (k:Int),S (a,bad,out,k)=cond (decide (k>0)&& !bad) (Option.bind (F a bad) fun q=>ck (decide ((out.length+1)*c<=140737488355328)) (some (.inl (q.1,q.2.1,out++ [q.2.2],A1 (k-1))))) (Option.map Sum.inr (some (a,bad,out)))) (x0:Int):
  Ta l (fun a b=>Option.bind (G9 0 (A1 ((l.length:Int)-a)) l a b x0) fun y=>loop S (y.1,y.2.1, [],y.2.2)) (P9 F8 Q):=by
 refine Ta.list hb hl hE (fun a out k ha ho=> ?_) (fun a out k=> ?_) (fun a out=> ?_) x0
 ·obtain ⟨a1,b1,x,e1,u1,_,p1⟩:=hF a false ha;refine ⟨a1,b1,x, ?_,u1,p1 rfl⟩;have hm:(out.length+1)*c<=100000001*1000:=Nat.mul_le_mul (by omega) hc
  rw [hS,D7l (by omega),D7t,Bool.and_self,D7k,e1,D7g,M4 (by rw [D7i];omega),C7 (by omega) (by omega)]
  dsimp only
  congr 5
  omega
 ·rw [hS,D7s,Bool.and_false,D7j];rfl
 ·rw [hS,D7n (by omega),D7L,D7j];rfl
theorem Ta.cg {α:Type} {l:List Int} {F G:Int->Bool->Option (Int×Bool×α)} {Q:Rd α} (h:Ta l F Q) (e:∀a b,G a b=F a b):Ta l G Q:=by
 have:G=F:=by funext a b;exact e a b
 rw [this];exact h
section
variable {l:List Int} (hb:byt l) (hl:l.length<=100000000)
include hb hl
theorem Ta.items3:Ta l (fun a b=>A1E l a b []) (P9 F8 (B5s F8)):=
 Ta.cg (Ta.lst hb hl B69.2 16 (by decide) (tB (fun a b=>B3 l a b 0) fun t=>tB (fun a b=>B3 l a b 0) fun v=>tP ⟨t,v⟩) (Ta.bind (Ta.int hb hl 0) fun _=>Ta.bind (Ta.int hb hl 0) fun _=>Ta.pure l _)
  (fun s=>A1v l s.1 s.2.1 s.2.2.1 s.2.2.2) (fun a bad out k=>by
   dsimp only;unfold A1v A4T;simp only [tB,tP,Option.bind_assoc,D7g]
   rfl) 0) fun a b=>by
  unfold A1E;rw [B7R]
  rfl
theorem Ta.buckets3:Ta l (fun a b=>A0D l a b []) (P9 F8 (A9e F8)):=
 Ta.cg (Ta.lst hb hl B35.2 16 (by decide) (tB (fun a b=>B3 l a b 0) fun t=>tB (fun a b=>F0 l a b 0) fun v=>tP ⟨t,v⟩) (Ta.bind (Ta.int hb hl 0) fun _=>Ta.bind (Ta.small hb hl 0) fun _=>Ta.pure l _)
  (fun s=>A0L l s.1 s.2.1 s.2.2.1 s.2.2.2) (fun a bad out k=>by
   dsimp only;unfold A0L A3O;simp only [tB,tP,Option.bind_assoc,D7g]
   rfl) 0) fun a b=>by
  unfold A0D;rw [B7R]
  rfl
theorem Ta.marks3:Ta l (fun a b=>A1F l a b []) (P9 F8 (B5A F8)):=
 Ta.cg (Ta.lst hb hl B7e.2 56 (by decide) (tB (fun a b=>B3 l a b 0) fun x1=>tB (fun a b=>B3 l a b 0) fun x2=>tB (fun a b=>B3 l a b 0) fun x3=>tB (fun a b=>B3 l a b 0) fun x4=>tB (fun a b=>B3 l a b 0) fun x5=>tB (fun a b=>B3 l a b 0) fun x6=>tB (fun a b=>B3 l a b 0) fun x7=>tP ⟨x1,x2,x3,x4,x5,x6,x7⟩)
  (Ta.bind (Ta.int hb hl 0) fun _=>Ta.bind (Ta.int hb hl 0) fun _=>Ta.bind (Ta.int hb hl 0) fun _=>Ta.bind (Ta.int hb hl 0) fun _=>Ta.bind (Ta.int hb hl 0) fun _=>Ta.bind (Ta.int hb hl 0) fun _=>Ta.bind (Ta.int hb hl 0) fun _=>Ta.pure l _)
  (fun s=>A1x l s.1 s.2.1 s.2.2.1 s.2.2.2) (fun a bad out k=>by
   dsimp only;unfold A1x A4V;simp only [tB,tP,Option.bind_assoc,D7g]
   rfl) 0) fun a b=>by
  unfold A1F;rw [B7R]
  rfl
theorem Ta.tups3:Ta l (fun a b=>A2w l a b []) (P9 F8 (C1G F8)):=
 Ta.lst hb hl C5e.2 24 (by decide) (tB (fun a b=>B3 l a b 0) fun x1=>tB (fun a b=>B3 l a b 0) fun x2=>tB (fun a b=>B3 l a b 0) fun x3=>tP ⟨x1,x2,x3⟩)
  (Ta.bind (Ta.int hb hl 0) fun _=>Ta.bind (Ta.int hb hl 0) fun _=>Ta.bind (Ta.int hb hl 0) fun _=>Ta.pure l _)
  (fun s=>A06 l s.1 s.2.1 s.2.2.1 s.2.2.2) (fun a bad out k=>by
   dsimp only;unfold A06 A4Z;simp only [tB,tP,Option.bind_assoc,D7g]
   rfl) 0
theorem Ta.wides3:Ta l (fun a b=>A26 l a b []) (P9 F8 (B5S F8)):=
 Ta.lst hb hl C2F.2 16 (by decide) (fun a b=>A3p l a b ⟨0,0⟩) (Ta.wide hb hl _)
  (fun s=>A4z l s.1 s.2.1 s.2.2.1 s.2.2.2) (fun a bad out k=>rfl) 0
theorem Ta.ints4:Ta l (fun a b=>A3o l a b []) (P9 F8 F8):=
 Ta.cg (Ta.lst hb hl B7W 8 (by decide) (fun a b=>B3 l a b 0) (Ta.int hb hl 0)
  (fun s=>A6t l s.1 s.2.1 s.2.2.1 s.2.2.2) (fun a bad out k=>rfl) 0) fun a b=>by
  unfold A3o;rw [B7R]
  rfl
theorem Ta.links3:Ta l (fun a b=>A0R l a b) (P9 F8 (B3P F8)):=
 Ta.lst hb hl C2j.2 16 (by decide) (tB (fun a b=>B3 l a b 0) fun t=>tB (fun a b=>B3 l a b 0) fun v=>tP ⟨t,v⟩) (Ta.bind (Ta.int hb hl 0) fun _=>Ta.bind (Ta.int hb hl 0) fun _=>Ta.pure l _)
  (fun s=>A1w l s.1 s.2.1 s.2.2.1 s.2.2.2) (fun a bad out k=>by
   dsimp only;unfold A1w A4R;simp only [tB,tP,Option.bind_assoc,D7g]
   rfl) 0
theorem Ta.ents3:Ta l (fun a b=>A0B l a b) (P9 F8 (B6V F8)):=
 Ta.lst hb hl C3S.2 24 (by decide) (tB (fun a b=>B3 l a b 0) fun x1=>tB (fun a b=>B3 l a b 0) fun x2=>tB (fun a b=>B3 l a b 0) fun x3=>tP ⟨x1,x2,x3⟩)
  (Ta.bind (Ta.int hb hl 0) fun _=>Ta.bind (Ta.int hb hl 0) fun _=>Ta.bind (Ta.int hb hl 0) fun _=>Ta.pure l _)
  (fun s=>A05 l s.1 s.2.1 s.2.2.1 s.2.2.2) (fun a bad out k=>by
   dsimp only;unfold A05 A4P;simp only [tB,tP,Option.bind_assoc,D7g]
   rfl) 0
theorem Ta.chains3:Ta l (fun a b=>A2t l a b []) (P9 F8 (B4I F8)):=
 Ta.lst hb hl B9K.2 56 (by decide) (tB (fun a b=>B3 l a b 0) fun x1=>tB (fun a b=>F0 l a b 0) fun x2=>tB (fun a b=>B3 l a b 0) fun x3=>tB (fun a b=>B3 l a b 0) fun x4=>tB (fun a b=>A0R l a b) fun x5=>tP ⟨x1,x2,x3,x4,x5⟩)
  (Ta.bind (Ta.int hb hl 0) fun _=>Ta.bind (Ta.small hb hl 0) fun _=>Ta.bind (Ta.int hb hl 0) fun _=>Ta.bind (Ta.int hb hl 0) fun _=>Ta.bind (Ta.links3 hb hl) fun _=>Ta.pure l _)
  (fun s=>A04 l s.1 s.2.1 s.2.2.1 s.2.2.2) (fun a bad out k=>by
   dsimp only;unfold A04 A4X A6H;simp only [tB,tP,Option.bind_assoc,D7g]
   rfl) 0
theorem Ta.blocks3:Ta l (fun a b=>A2r l a b []) (P9 F8 (B4z F8)):=
 Ta.lst hb hl B9B.2 56 (by decide) (tB (fun a b=>B3 l a b 0) fun x1=>tB (fun a b=>B3 l a b 0) fun x2=>tB (fun a b=>F0 l a b 0) fun x3=>tB (fun a b=>B3 l a b 0) fun x4=>tB (fun a b=>A0B l a b) fun x5=>tP ⟨x1,x2,x3,⟨x4,x5⟩⟩)
  (Ta.bind (Ta.int hb hl 0) fun _=>Ta.bind (Ta.int hb hl 0) fun _=>Ta.bind (Ta.small hb hl 0) fun _=>Ta.bind (Ta.int hb hl 0) fun _=>Ta.bind (Ta.ents3 hb hl) fun _=>Ta.pure l _)
  (fun s=>A03 l s.1 s.2.1 s.2.2.1 s.2.2.2) (fun a bad out k=>by
   dsimp only;unfold A03 A41 A6G;simp only [tB,tP,Option.bind_assoc,D7g]
   rfl) 0
theorem Ta.config3 (c:E2):Ta l (fun a b=>A2k l a b c) (C0Y F8):=by
 have h:=Ta.bind (Ta.small hb hl c.Bi) fun x1=>Ta.bind (Ta.small hb hl c.Bo) fun x2=>Ta.bind (Ta.int hb hl c.W) fun x3=>Ta.bind (Ta.small hb hl c.K) fun x4=>Ta.bind (Ta.small hb hl c.Cap) fun x5=>Ta.bind (Ta.small hb hl c.P) fun x6=>Ta.bind (Ta.small hb hl c.Am) fun x7=>Ta.bind (Ta.int hb hl c.Bs) fun x8=>Ta.pure l (E2.mk x1 x2 x3 x4 x5 x6 x7 x8);exact h
theorem Ta.state3 (c:E2):Ta l (fun a b=>I5 l a b (zS c)) (stR F8 c):=by
 unfold stR
 by_cases h1:c.Bi=1
 ·rw [if_pos h1];refine Ta.cg (Ta.bind (Ta.int hb hl 0) fun w=>Ta.bind (Ta.small hb hl 0) fun cap=>Ta.bind (Ta.int hb hl 0) fun now=>Ta.bind (Ta.items3 hb hl) fun it=>Ta.pure l { zS c with Aq:=⟨w,cap,now,it⟩}) fun a b=> ?_
  unfold I5;rw [show (zS c).Ao.Bi=1 from h1]
  rfl
 rw [if_neg h1]
 by_cases h2:c.Bi=2
 ·rw [if_pos h2];refine Ta.cg (Ta.bind (Ta.int hb hl 0) fun w=>Ta.bind (Ta.small hb hl 0) fun k=>Ta.bind (Ta.small hb hl 0) fun cap=>Ta.bind (Ta.int hb hl 0) fun now=>Ta.bind (Ta.buckets3 hb hl) fun it=>Ta.pure l { zS c with Ay:=⟨w,k,cap,now,it⟩}) fun a b=> ?_
  unfold I5;rw [show (zS c).Ao.Bi=2 from h2]
  rfl
 rw [if_neg h2]
 by_cases h3:c.Bi=3
 ·rw [if_pos h3];refine Ta.cg (Ta.bind (Ta.int hb hl 0) fun w=>Ta.bind (Ta.small hb hl 0) fun k=>Ta.bind (Ta.small hb hl 0) fun cap=>Ta.bind (Ta.small hb hl 0) fun mx=>Ta.bind (Ta.int hb hl 0) fun now=>Ta.bind (Ta.buckets3 hb hl) fun it=>Ta.pure l { zS c with Sum:=⟨w,k,cap,mx,now,it⟩}) fun a b=> ?_
  unfold I5;rw [show (zS c).Ao.Bi=3 from h3]
  rfl
 rw [if_neg h3]
 by_cases h4:c.Bi=4
 ·rw [if_pos h4];refine Ta.cg (Ta.bind (Ta.small hb hl 0) fun ag=>Ta.bind (Ta.int hb hl 0) fun w=>Ta.bind (Ta.small hb hl 0) fun k=>Ta.bind (Ta.small hb hl 0) fun cap=>Ta.bind (Ta.int hb hl 0) fun now=>Ta.bind (Ta.int hb hl 0) fun sq=>Ta.bind (Ta.marks3 hb hl) fun it=>Ta.pure l { zS c with As:=⟨ag,w,k,cap,now,sq,it⟩}) fun a b=> ?_
  unfold I5;rw [show (zS c).Ao.Bi=4 from h4]
  rfl
 rw [if_neg h4]
 by_cases h5:c.Bi=5
 ·rw [if_pos h5];refine Ta.cg (Ta.bind (Ta.int hb hl 0) fun w=>Ta.bind (Ta.small hb hl 0) fun k=>Ta.bind (Ta.small hb hl 0) fun cap=>Ta.bind (Ta.int hb hl 0) fun now=>Ta.bind (Ta.int hb hl 0) fun sq=>Ta.bind (Ta.marks3 hb hl) fun it=>Ta.pure l { zS c with Au:=⟨w,k,cap,now,sq,it⟩}) fun a b=> ?_
  unfold I5;rw [show (zS c).Ao.Bi=5 from h5]
  rfl
 rw [if_neg h5]
 by_cases h6:c.Bi=6
 ·rw [if_pos h6];refine Ta.cg (Ta.bind (Ta.small hb hl 0) fun p=>Ta.bind (Ta.int hb hl 0) fun ln=>Ta.bind (Ta.int hb hl 0) fun now=>Ta.bind (Ta.wides3 hb hl) fun it=>Ta.pure l { zS c with Bm:=⟨p,ln,now,it⟩}) fun a b=> ?_
  unfold I5;rw [show (zS c).Ao.Bi=6 from h6]
  rfl
 rw [if_neg h6]
 by_cases h7:c.Bi=7
 ·rw [if_pos h7];refine Ta.cg (Ta.bind (Ta.int hb hl 0) fun now=>Ta.bind (Ta.ints4 hb hl) fun it=>Ta.pure l { zS c with Ba:=⟨now,it⟩}) fun a b=> ?_
  unfold I5;rw [show (zS c).Ao.Bi=7 from h7]
  rfl
 rw [if_neg h7]
 by_cases h8:c.Bi=8
 ·rw [if_pos h8];refine Ta.cg (Ta.bind (Ta.within hb hl 0 1 0) fun mx=>Ta.bind (Ta.int hb hl 0) fun w=>Ta.bind (Ta.small hb hl 0) fun cap=>Ta.bind (Ta.int hb hl 0) fun now=>Ta.bind (Ta.items3 hb hl) fun it=>Ta.pure l { zS c with Af:=⟨mx==1,w,cap,now,it⟩}) fun a b=> ?_
  unfold I5;rw [show (zS c).Ao.Bi=8 from h8];show (Option.bind (Option.bind (G9 0 1 l a b 0) _) _)=_;rw [Option.bind_assoc]
  rfl
 rw [if_neg h8]
 by_cases h9:c.Bi=9
 ·rw [if_pos h9];refine Ta.cg (Ta.bind (Ta.chains3 hb hl) fun it=>Ta.pure l { zS c with Ar:=⟨it⟩}) fun a b=> ?_
  unfold I5;rw [show (zS c).Ao.Bi=9 from h9]
  rfl
 rw [if_neg h9]
 by_cases h10:c.Bi=10
 ·rw [if_pos h10];refine Ta.cg (Ta.bind (Ta.small hb hl 0) fun k=>Ta.bind (Ta.small hb hl 0) fun cap=>Ta.bind (Ta.int hb hl 0) fun n=>Ta.bind (Ta.tups3 hb hl) fun it=>Ta.pure l { zS c with Ai:=⟨k,cap,n,it⟩}) fun a b=> ?_
  unfold I5;rw [show (zS c).Ao.Bi=10 from h10]
  rfl
 rw [if_neg h10]
 by_cases h11:c.Bi=11
 ·rw [if_pos h11];refine Ta.cg (Ta.bind (Ta.int hb hl 0) fun w=>Ta.bind (Ta.small hb hl 0) fun k=>Ta.bind (Ta.small hb hl 0) fun cap=>Ta.bind (Ta.int hb hl 0) fun now=>Ta.bind (Ta.blocks3 hb hl) fun it=>Ta.pure l { zS c with Ab:=⟨w,k,cap,now,it⟩}) fun a b=> ?_
  unfold I5;rw [show (zS c).Ao.Bi=11 from h11]
  rfl
 rw [if_neg h11];intro a bad ha;refine ⟨a,true,zS c, ?_,ha,fun _=>rfl,fun _=>rfl⟩;dsimp only;unfold I5;have hk: ∀n:Int,c.Bi≠n->((zS c).Ao.Bi==n)=false:=fun n h=>D76.2 h;rw [hk 1 h1,hk 2 h2,hk 3 h3,hk 4 h4,hk 5 h5,hk 6 h6,hk 7 h7,hk 8 h8,hk 9 h9,hk 10 h10,hk 11 h11]
 rfl
def zR:A6:=⟨0,A21⟩
theorem C6B (y2 y3:Int×Bool×Int): ∀(k i a:Nat) (done:List A6),done.length=i->i+k<=64->a<=l.length->
  ∃(a' :Nat) (bad' :Bool) (rs:List A6),N1 l y2 y3 (done++List.replicate k zR) i a false=some ((a' :Int),bad',y2.2.2,y3.2.2,rs)/\a' <=l.length/\
   match U8 (A5G F8) k (l.drop a) with
   |some (y,r)=>bad' =false/\rs=done++y/\r=l.drop a'
   |none=>bad' =true:=by
 intro k
 induction k with
 |zero=>
  intro i a done hd hi ha;refine ⟨a,false,done, ?_,ha,rfl,by simp,rfl⟩
  unfold N1;refine K4 ?_;unfold Y7;dsimp only;rw [List.replicate_zero,List.append_nil,D7n (by omega),D7L,D7j]
  rfl
 |succ k ih=>
  intro i a done hd hi ha;have hlen:(done++List.replicate (k+1) zR).length=i+(k+1):=by rw [D7m,D8h,hd]
  have hget:C1 (done++List.replicate (k+1) zR) (i:Int)=some zR:=by
   rw [S4,D7G (by omega),hd,Nat.sub_self]
   rfl
  have hset: ∀r x:A6,(done++r::List.replicate k zR).set ((i:Int)).toNat x=done++x::List.replicate k zR:=fun r x=>by
   rw [D7W,List.set_append_right _ _ (by omega),hd,Nat.sub_self]
   rfl
  have hidx: ∀r:A6,C1 (done++r::List.replicate k zR) (i:Int)=some r:=fun r=>by
   rw [S4,D7G (by omega),hd,Nat.sub_self]
   rfl
  have hrep:done++List.replicate (k+1) zR=done++zR::List.replicate k zR:=by rw [List.replicate_succ]
  have hm:U8 (A5G F8) (k+1) (l.drop a)=(A5G F8 (l.drop a)).bind fun q=>(U8 (A5G F8) k q.2).bind fun q' =>M6 (q.1::q'.1) q'.2:=rfl;obtain ⟨a1,b1,id,e1,u1,_,p1⟩:=Ta.int hb hl 0 a false ha;obtain ⟨a2,b2,c,e2,u2,s2,p2⟩:=Ta.config3 hb hl A21.Ao a1 b1 u1;have e1' :B3 l (a:Int) false zR.ID=some ((a1:Int),b1,id):=e1;have q1:=p1 rfl;have hbody:Y7 l y2 y3 (done++List.replicate (k+1) zR) i a false=cond (!b2) (Option.bind (I5 l (a2:Int) b2 (zS c)) fun y=>some (.inl (done++⟨id,y.2.2⟩::List.replicate k zR,A1 ((i:Int)+1),y.1,y.2.1)))
    (some (.inl (done++⟨id,zS c⟩::List.replicate k zR,A1 ((i:Int)+1),(a2:Int),b2))):=by
   unfold Y7;rw [hlen,D7l (by omega),D7t,Bool.and_self,D7k,hget,D7g,D7g,e1',D7g,hrep,hset,hidx,D7g]
   have e2' :A2k l (a1:Int) b1 (A6.mk id zR.Ac).Ac.Ao=some ((a2:Int),b2,c):=e2;dsimp only;rw [e2',D7g];dsimp only;rw [hset,hidx,D7g];cases b2 with
   |true=>rfl
   |false=>
    rw [D7t,D7k,D7k];show (Option.bind (I5 l (a2:Int) false (zS c)) _)=_;cases I5 l (a2:Int) false (zS c) with
    |none=>rfl
    |some y=>
     rw [D7g,D7g,hset]
  have hsucc:A1 ((i:Int)+1)=((i+1:Nat):Int):=by rw [C7 (by omega) (by omega)];rfl
  rw [hm];unfold A5G E6;have hbadL: ∀(a3:Nat) (x:A6),N1 l y2 y3 (done++x::List.replicate k zR) ((i+1:Nat):Int) (a3:Int) true=some ((a3:Int),true,y2.2.2,y3.2.2,done++x::List.replicate k zR):=fun a3 x=>by
   unfold N1;refine K4 ?_;unfold Y7;dsimp only;rw [D7s,Bool.and_false,D7j]
   rfl
  cases b2 with
  |true=>
   rw [D7s,D7j,hsucc] at hbody;refine ⟨a2,true,done++⟨id,zS c⟩::List.replicate k zR, ?_,u2, ?_⟩
   ·unfold N1;rw [J6 hbody];exact hbadL a2 _
   ·cases hq:F8 (l.drop a) with
    |none=>rfl
    |some r=>
     obtain ⟨y,rest⟩:=r;rw [hq] at q1;obtain ⟨c1,c2,c3⟩:=q1;subst c1 c2 c3;have q2:=p2 rfl;rw [D7g];dsimp only;cases hq2:C0Y F8 (l.drop a1) with
     |none=>rfl
     |some r=>
      rw [hq2] at q2;exact absurd q2.1 (by decide)
  |false=>
   have hb1:b1=false:=by cases b1 with
    |true=>exact absurd (s2 rfl) (by decide)
    |false=>rfl
   subst hb1;obtain ⟨a3,b3,s,e3,u3,s3,p3⟩:=Ta.state3 hb hl c a2 false u2;have e3' :I5 l (a2:Int) false (zS c)=some ((a3:Int),b3,s):=e3;rw [D7t,D7k,e3',D7g,hsucc] at hbody;have q2:=p2 rfl;have q3:=p3 rfl;cases hq:F8 (l.drop a) with
   |none=>
    rw [hq] at q1;have q1' :false=true:=q1;cases q1'
   |some r=>
    obtain ⟨y,rest⟩:=r;rw [hq] at q1;obtain ⟨_,c2,c3⟩:=q1;subst c2 c3;rw [D7g];dsimp only;cases hq2:C0Y F8 (l.drop a1) with
    |none=>
     rw [hq2] at q2;have q2' :false=true:=q2;cases q2'
    |some r=>
     obtain ⟨y',rest'⟩:=r;rw [hq2] at q2;obtain ⟨_,d2,d3⟩:=q2;subst d2 d3;rw [D7g];dsimp only;cases hq3:stR F8 c (l.drop a2) with
     |none=>
      rw [hq3] at q3;have q3' :b3=true:=q3;subst q3';refine ⟨a3,true,done++⟨id,s⟩::List.replicate k zR, ?_,u3,rfl⟩;unfold N1;rw [J6 hbody];exact hbadL a3 _
     |some r=>
      obtain ⟨y'',rest''⟩:=r;rw [hq3] at q3;obtain ⟨f1,f2,f3⟩:=q3;subst f1 f2 f3;obtain ⟨a',b',rs,g1,g2,g3⟩:=ih (i+1) a3 (done++ [⟨id,s⟩]) (by rw [D7m,hd];rfl) (by omega) u3
      refine ⟨a',b',rs, ?_,g2, ?_⟩
      ·rw [<-g1];unfold N1;rw [J6 hbody,D7K]
       rfl
      ·show match (Option.bind (M6 ⟨id,s⟩ (l.drop a3)) fun q=>(U8 (A5G F8) k q.2).bind fun q' =>M6 (q.1::q'.1) q'.2) with
        |some (y,r)=>_
        |none=>_
       show match ((U8 (A5G F8) k (l.drop a3)).bind fun q' =>M6 ((⟨id,s⟩:A6)::q'.1) q'.2) with
        |some (y,r)=>b' =false/\rs=done++y/\r=l.drop a'
        |none=>b' =true
       cases hr:U8 (A5G F8) k (l.drop a3) with
       |none=>rw [hr] at g3;exact g3
       |some r=>
        rw [hr] at g3;obtain ⟨k1,k2,k3⟩:=g3;exact ⟨k1,by rw [k2];simp,k3⟩
end
end Go.Win
namespace Go.Win
open Go.Vc Go.Dec
section
variable {L:List Int} (hw:O3 L) (hL:L.length<=100000000)
include hw hL
end
end Go.Win
namespace Go.Win
open Go.Vc Go.Dec
section
variable {L:List Int} (hw:O3 L) (hL:L.length<=100000000)
include hw hL
end
end Go.Win
namespace Go.Win
open Go.Vc Go.Dec
section
variable {L:List Int} (hw:O3 L) (hL:L.length<=100000000)
include hw hL
end
end Go.Win
namespace Go.Win
open Go.Vc Go.Dec
section
variable {L:List Int} (hw:O3 L) (hL:L.length<=100000000)
include hw hL
end
end Go.Win
namespace Go.Win
open Go.Vc Go.Dec
def zEn:D7:=⟨0,0, []⟩
def B82 (l:List Int) (e:D7):Prop:= ∃(L:List Int) (s:Int),O3 L/\E1 .i64 s/\l=wr L++V1 s/\A00 (wr L)=some s/\B2B L7 L=some (e, [])
open Classical in
noncomputable def C88 (e:D7):D7×Int:=if A9v e then (e,0) else (zEn,2)
def D60 (l:List Int) (r:D7×Int):Prop:=(∃e,B82 l e/\r=C88 e)\/((∀e,¬B82 l e)/\r=(zEn,13))
theorem C7E (L:List Int) (s:Int):wr (L++ [s])=wr L++V1 s:=by rw [A20];simp [wr]
theorem D1f {L:List Int} {s:Int} (h:O3 L) (h':E1 .i64 s):O3 (L++ [s]):=A7P.2 ⟨h,G7 h' A27⟩
theorem D48 {L:List Int} {e:D7} {r:List Int} (hw:O3 L) (hl:L.length<=1048576) (h:B2B L7 L=some (e,r)):M2 e:=(B6U.wf _ _ _ hw hl h).1
theorem B82.bytes {l:List Int} {e:D7} (h:B82 l e): ∃s,E1 .i64 s/\B2B F8 l=some (e,V1 s)/\ ∃L,l=wr L++V1 s/\A00 (wr L)=some s:=by
 obtain ⟨L,s,w1,w2,h1,h2,h3⟩:=h;obtain ⟨pre,p1,p2⟩:=B6U.loc _ _ _ h3;rw [List.append_nil] at p1;subst p1;have:=(B6U.sim.fwd _ _ _ (D1f w1 w2) (p2 [s])).2;rw [C7E,<-h1] at this;refine ⟨s,w2, ?_,L,h1,h2⟩;rw [this];simp [wr]
theorem B5b {α β:Type} {P:Rd α} {f:α->Rd β} {l l1:List Int} {x:α} {b:Bool} (h:Ans (P l) x l1 b):(b=true/\E6 P f l=none)\/(b=false/\E6 P f l=f x l1):=by
 unfold Ans at h;unfold E6;split at h
 ·rename_i y r e;obtain ⟨c1,c2,c3⟩:=h;subst c1 c2 c3;exact .inr ⟨rfl,by rw [e];rfl⟩
 ·rename_i e;subst h;exact .inl ⟨rfl,by rw [e];rfl⟩
theorem D6f {l:List Int} (hb:byt l) (hl:l.length<=1048576): ∃(a:Nat) (bad:Bool) (now lim:Int) (rs:List A6),A3k l 0 0 0=some ((a:Int),bad,now,lim,rs)/\a<=l.length/\
  Ans (B2B F8 l) ⟨now,lim,rs⟩ (l.drop a) bad:=by
 have hl' :l.length<=100000000:=by omega
 obtain ⟨a1,b1,v,e1,u1,_,p1⟩:=Ta.within hb hl' 1 1 1 0 false (Nat.zero_le _);obtain ⟨a2,b2,now,e2,u2,s2,p2⟩:=Ta.int hb hl' 0 a1 b1 u1;obtain ⟨a3,b3,lim,e3,u3,s3,p3⟩:=Ta.small hb hl' 0 a2 b2 u2;obtain ⟨a4,b4,n,e4,u4,s4,p4⟩:=Ta.within hb hl' 0 64 0 a3 b3 u3;have e1' :A43 1 1 l 0 1=some ((a1:Int),b1,v):=e1;have e2' :B3 l (a1:Int) b1 0=some ((a2:Int),b2,now):=e2;have e3' :F0 l (a2:Int) b2 0=some ((a3:Int),b3,lim):=e3;have e4' :G9 0 64 l (a3:Int) b3 0=some ((a4:Int),b4,n):=e4;have q1:=p1 rfl;rw [List.drop_zero] at q1;unfold A3k;rw [e1',D7g];dsimp only;rw [e2',D7g];dsimp only;rw [e3',D7g];dsimp only;rw [e4',D7g];dsimp only;have none_of:b4=true->B2B F8 l=none-> ∃(a:Nat) (bad:Bool) (now' lim' :Int) (rs:List A6),(cond b4 (some ((a4:Int),b4,now,lim,([]:List A6))) (ck (decide (0<=n/\n<=n/\n*640<=140737488355328/\n<=140737488355328)) (N1 l ((a2:Int),b2,now) ((a3:Int),b3,lim) (laid (List.replicate n.toNat zR) 0 (([]:List A6).take (List.replicate n.toNat zR).length)) 0 (a4:Int) b4)))=some ((a:Int),bad,now',lim',rs)/\a<=l.length/\Ans (B2B F8 l) ⟨now',lim',rs⟩ (l.drop a) bad:=by
  intro h1 h2;subst h1;refine ⟨a4,true,now,lim, [],rfl,u4, ?_⟩;rw [h2];rfl
 show∃(a:Nat) (bad:Bool) (now' lim' :Int) (rs:List A6),(cond b4 (some ((a4:Int),b4,now,lim,([]:List A6))) (ck (decide (0<=n/\n<=n/\n*640<=140737488355328/\n<=140737488355328)) (N1 l ((a2:Int),b2,now) ((a3:Int),b3,lim) (laid (List.replicate n.toNat zR) 0 (([]:List A6).take (List.replicate n.toNat zR).length)) 0 (a4:Int) b4)))=some ((a:Int),bad,now',lim',rs)/\a<=l.length/\Ans (B2B F8 l) ⟨now',lim',rs⟩ (l.drop a) bad;rcases B5b (f:=fun _=>E6 F8 fun now=>E6 F8 fun lim=>E6 (A4H F8 0 64) fun n=>E6 (U8 (A5G F8) n.toNat) fun rs=>M6 (D7.mk now lim rs)) (P:=A4H F8 1 1) q1 with ⟨hb1,g1⟩|⟨hb1,g1⟩
 ·exact none_of (s4 (s3 (s2 hb1))) g1
 rcases B5b (f:=fun now=>E6 F8 fun lim=>E6 (A4H F8 0 64) fun n=>E6 (U8 (A5G F8) n.toNat) fun rs=>M6 (D7.mk now lim rs)) (p2 hb1) with ⟨hb2,g2⟩|⟨hb2,g2⟩
 ·exact none_of (s4 (s3 hb2)) (g1.trans g2)
 rcases B5b (f:=fun lim=>E6 (A4H F8 0 64) fun n=>E6 (U8 (A5G F8) n.toNat) fun rs=>M6 (D7.mk now lim rs)) (p3 hb2) with ⟨hb3,g3⟩|⟨hb3,g3⟩
 ·exact none_of (s4 hb3) (g1.trans (g2.trans g3))
 have q4:=p4 hb3;rcases B5b (f:=fun n=>E6 (U8 (A5G F8) n.toNat) fun rs=>M6 (D7.mk now lim rs)) (P:=A4H F8 0 64) q4 with ⟨hb4,g4⟩|⟨hb4,g4⟩
 ·exact none_of hb4 (g1.trans (g2.trans (g3.trans g4)))
 have hn:0<=n/\n<=64:=by
  unfold Ans at q4;split at q4
  ·rename_i y r e;obtain ⟨_,c2,_⟩:=q4;subst c2;obtain ⟨m,l',h1,h2⟩:=A0P e;split at h2
   ·cases h2
   ·rename_i hc;have:=(Prod.mk.inj (D7Z h2)).1;omega
  ·rw [q4] at hb4;cases hb4
 have g:B2B F8 l=E6 (U8 (A5G F8) n.toNat) (fun rs=>M6 (D7.mk now lim rs)) (l.drop a4):=g1.trans (g2.trans (g3.trans g4));subst hb4;have hlaid:laid (List.replicate n.toNat zR) 0 (([]:List A6).take (List.replicate n.toNat zR).length)= []++List.replicate n.toNat zR:=by
  unfold laid;simp
 rw [D7j,M4 (by rw [D7i];omega),hlaid]
 obtain ⟨a5,b5,rs,f1,f2,f3⟩:=C6B hb hl' ((a2:Int),b2,now) ((a3:Int),b3,lim) n.toNat 0 a4 [] rfl (by omega) u4
 refine ⟨a5,b5,now,lim,rs,f1,f2, ?_⟩;rw [g];unfold E6;cases hr:U8 (A5G F8) n.toNat (l.drop a4) with
 |none=>rw [hr] at f3;exact f3
 |some y=>
  rw [hr] at f3;obtain ⟨c1,c2,c3⟩:=f3;rw [List.nil_append] at c2;exact ⟨c1,by rw [c2],c3⟩
theorem C6w {l:List Int} (hb:byt l) (hl:l.length<=1048576): ∃r,A1n l=some r/\D60 l r:=by
 obtain ⟨a,bad,now,lim,rs,e1,u1,p1⟩:=D6f hb hl;unfold A1n;rw [D7n (by omega),D7j,e1,D7g]
 dsimp only;cases bad with
 |true=>
  refine ⟨_,rfl, .inr ⟨fun e h=> ?_,rfl⟩⟩;obtain ⟨s,_,h2,_⟩:=h.bytes;rw [h2] at p1;exact absurd p1.1 (by decide)
 |false=>
  rw [D7j];have hE:B2B F8 l=some (⟨now,lim,rs⟩,l.drop a):=by
   unfold Ans at p1;split at p1
   ·rename_i y r e;obtain ⟨_,c2,c3⟩:=p1;rw [e,c2,c3]
   ·exact absurd p1 (by decide)
  have hfree: ∀e,B82 l e-> ∃s L,E1 .i64 s/\l.drop a=V1 s/\l=wr L++V1 s/\A00 (wr L)=some s:=fun e h=>by
   obtain ⟨s,w,h2,L,h3,h4⟩:=h.bytes;rw [hE] at h2;exact ⟨s,L,w,(Prod.mk.inj (D7Z h2)).2,h3,h4⟩
  rw [C2B hb (by omega) u1,D7g]
  cases hr:rd (l.drop a) with
  |none=>
   have e2:rdA l a=(0,0,false):=by unfold rdA;rw [hr]
   rw [e2];simp only [D7t,D70,D7s,K8,D7g,D7k,A0l];refine ⟨_,rfl, .inr ⟨fun e h=> ?_,rfl⟩⟩;obtain ⟨s,L,w,h2,_,_⟩:=hfree e h;have:=B76 w [];rw [List.append_nil,<-h2,hr] at this;cases this
  |some p=>
   obtain ⟨s,k⟩:=p;obtain ⟨w,hk,hc⟩:=C1e (B85 hb a) hr;have e2:rdA l a=(s,((a+k:Nat):Int),true):=by unfold rdA;rw [hr]
   have hkl:a+k<=l.length:=by
    have:=congrArg List.length hc;rw [D7m,D7O] at this;omega
   rw [e2]
   by_cases hend:a+k=l.length
   ·have hne:(((a+k:Nat):Int) !=(l.length:Int))=false:=by rw [bne_eq_false_iff_eq];omega
    dsimp only;rw [hne];simp only [D7s,Bool.or_false,D7t,J1];rw [M4 (by rw [D7H,D7i];omega),D7W]
    obtain ⟨m,hm1,hm2⟩:=C45 (l.take a) (by rw [D7I];omega)
    have hds:l.drop a=V1 s:=by
     rw [hc];have:(l.drop a).drop k= []:=by rw [D8e,List.drop_eq_nil_of_le (by omega)]
     rw [this,List.append_nil]
    have hsnapL: ∀e,B82 l e->A00 (l.take a)=some s:=fun e h=>by
     obtain ⟨s',L,w',h2,h3,h4⟩:=hfree e h;have hs:s' =s:=by
      have h5:=B76 w' [];rw [List.append_nil,<-h2,hr] at h5;exact (Prod.mk.inj (D7Z h5)).1.symm
     subst hs;have ht:l.take a=wr L:=by
      have h6:wr L++V1 s' =l.take a++V1 s' :=by rw [<-h3,<-hds,List.take_append_drop]
      exact (List.append_cancel_right h6).symm
     rw [ht];exact h4
    rw [C7u,hm1,D7g]
    by_cases hsm:s=m
    ·subst hsm;rw [D7T];simp only [Bool.or_false,D7j];obtain ⟨_,bw⟩:=B6U.sim.bwd _ _ _ hb hE;obtain ⟨ns,n1,n2,n3,_⟩:=bw [s] (G7 w A27) (by rw [hds];simp [wr])
     obtain ⟨pre,p2,p3⟩:=B6U.loc _ _ _ n3;have hpw:O3 pre:=(A7P.1 (p2▸n1)).1;have hpl:ns.length<=1048576:=by have:=D1i ns;rw [<-n2] at this;omega
     have hwE:M2 ⟨now,lim,rs⟩:=D48 n1 hpl n3;have h6:l=wr pre++V1 s:=by rw [n2,p2,C7E]
     have ht:l.take a=wr pre:=by
      have h7:wr pre++V1 s=l.take a++V1 s:=by rw [<-h6,<-hds,List.take_append_drop]
      exact (List.append_cancel_right h7).symm
     have hS:B82 l ⟨now,lim,rs⟩:=⟨pre,s,hpw,w,h6,by rw [<-ht];exact hm1,by have:=p3 [];rwa [List.append_nil] at this⟩
     rw [(A6I _ hwE),D7g]
     by_cases ok:A9v ⟨now,lim,rs⟩
     ·rw [V0 ok,D7T,D7j];exact ⟨_,rfl, .inl ⟨_,hS,by unfold C88;rw [if_pos ok]⟩⟩
     ·rw [I8 ok];exact ⟨_,rfl, .inl ⟨_,hS,by unfold C88;rw [if_neg ok];rfl⟩⟩
    ·have hne2:(s !=m)=true:=by rw [bne_iff_ne];exact hsm
     rw [hne2];simp only [Bool.or_true,D7k];refine ⟨_,rfl, .inr ⟨fun e h=> ?_,rfl⟩⟩;have:=hsnapL e h;rw [hm1] at this;exact hsm (D7Z this).symm
   ·have hne:(((a+k:Nat):Int) !=(l.length:Int))=true:=by rw [bne_iff_ne];omega
    dsimp only;rw [hne];simp only [D7s,Bool.or_true,K8,D7g,D7k,D70,D7t,A0l];refine ⟨_,rfl, .inr ⟨fun e h=> ?_,rfl⟩⟩;obtain ⟨s',L,w',h2,_,_⟩:=hfree e h;have h5:=B76 w' [];rw [List.append_nil,<-h2,hr] at h5;have hk' :=(Prod.mk.inj (D7Z h5)).2;rw [D7O] at hk';omega
end Go.Win
namespace Go.Win
open Go.Vc Go.Dec
set_option maxRecDepth 20000
theorem ishl_rng (a b:Int):0<=E8 .u64 a b/\E8 .u64 a b<18446744073709551616:=W4 _
instance tsA {v:List Int} {n:Int}:TS (A1X v n) (v.length<=130000000000000) (fun r=>r.length<=v.length+10):=⟨fun h=>by
 have key: ∀u:Nat,u<18446744073709551616->T (A6M v u) fun r=>r.length<=v.length+10:=fun u hu=>by
  unfold A6M;refine yL (fun s=> ∃u k:Nat,s.2=u/\1<=k/\u<128^k/\s.1.length+k<=v.length+10) (fun s=>s.2.toNat) ⟨u,10,rfl,by decide,Nat.lt_trans hu (by decide),D7Y _⟩ ?_
  rintro ⟨w,_⟩ ⟨u,k,rfl,h1,h2,h3⟩;have e3:G1 .u64 (u:Int) 7=((u/128:Nat):Int):=by
   rw [show (7:Int)=((7:Nat):Int) from rfl,B2m _ (by omega)]
   omega
  dsimp only at h3⊢;unfold A2Z;rw [e3];refine yC (fun h=>yK (by simp;omega) (yI ⟨⟨u/128,k-1,rfl, ?_, ?_, ?_⟩, ?_⟩)) (fun h=>yP (yK (by simp;omega) (yI ?_)))
  all_goals simp only [D7i,D7x] at h
  ·rcases k with _|_|k
   ·omega
   ·omega
   ·omega
  ·rcases k with _|k
   ·omega
   ·rw [Nat.pow_succ] at h2;exact Nat.div_lt_of_lt_mul (by rw [Nat.mul_comm];exact h2)
  ·show (w++ [_]).length+(k-1)<=_;simp;omega
  ·show ((u/128:Nat):Int).toNat<(u:Int).toNat;omega
  ·show (w++ [_]).length<=_;simp;omega
 obtain ⟨h1,h2⟩:=ishl_rng (A4 n) 1;obtain ⟨x,hx⟩:=Int.eq_ofNat_of_zero_le h1;unfold A1X A3n;rw [hx,D6z (by omega)]
 exact yC (fun _=>key _ (by omega)) (fun _=>key _ (by omega))⟩
theorem wl_step {M c i n:Nat} {v b:List Int} (h:i<n) (hv:v.length<=b.length+10+c*i) (hb:b.length+10+c*n<=M):v.length+c<=b.length+10+c*(i+1)/\v.length+c<=M:=by
 have:=Nat.mul_le_mul_left c (show i+1<=n by omega)
 rw [Nat.mul_add] at*
 omega
theorem wl (M:Nat) {α:Type} [Inhabited α] {f:α->List Int->Option (List Int)} {l:List α} {c:Nat} {b:List Int} (hf:∀x∈l,∀v:List Int,v.length+c<=M->T (f x v) fun r=>r.length<=v.length+c)
  (hl:l.length<=1048576) (hb:b.length+10+c*l.length<=M) {v0:List Int} (h0:v0.length<=b.length+10)
  {g:Int->List Int->Option ((Int×List Int)⊕List Int)}
  (hg:∀i v,g i v=cond (decide (i<(l.length:Int))) (Option.bind (C1 l i) fun x=>Option.bind (f x v) fun y=>some (.inl (A1 (i+1),y))) (Option.map Sum.inr (some v))):
  T (loop (fun s:Int×List Int=>g s.1 s.2) (0,v0)) fun r=>r.length<=b.length+10+c*l.length:=by
 refine yL (fun s=>0<=s.1/\s.1<=l.length/\s.2.length<=b.length+10+c*s.1.toNat) (fun s=>l.length-s.1.toNat) ⟨Int.le_refl _,by simp,by simpa using h0⟩ fun s ⟨h1,h2,h3⟩=> ?_
 rw [hg];refine yC (fun h=> ?_) (fun h=>yP (yI ?_))
 ·rw [D7i] at h;obtain ⟨i,hi⟩:=Int.eq_ofNat_of_zero_le h1;rw [hi] at h h3⊢;obtain ⟨a1,a2⟩:=wl_step (c:=c) (n:=l.length) (show i<l.length by omega) (by simpa using h3) hb
  refine yB (yX ⟨by omega,h⟩ fun hm=>yB (yM (hf _ hm _ a2) fun r hr=>yI ?_))
  rw [(A0k (i:Int) (by omega)).1]
  have e:((i:Int)+1).toNat=i+1:=by omega
  refine ⟨⟨by show 0<=(i:Int)+1;omega,by show (i:Int)+1<=_;omega, ?_⟩, ?_⟩
  ·show r.length<=b.length+10+c*((i:Int)+1).toNat;rw [e];omega
  ·show l.length-((i:Int)+1).toNat<l.length-(i:Int).toNat;omega
 ·rw [D7x] at h;have e:s.1.toNat=l.length:=by omega
  rw [e] at h3;exact h3
instance {b:List Int} {p:Int} {f:Bool} {l:List A3}:TS (A5L b p f l) (l.length<=1048576/\b.length<=120000000000000) (fun r=>r.length<=b.length+10+20*l.length):=⟨fun ⟨h1,h2⟩=>by
 unfold A5L B0B;exact yB (yM (Q:=fun r=>_) (P:=fun r=>r.length<=b.length+10) (by exact yT) fun v hv=>wl 130000000000000 (f:=fun x v=>A3N x v p f) (c:=20) (fun x _ v hv=>by unfold A3N;exact yT) h1 (by omega) hv (fun i v=>rfl))⟩
instance {b:List Int} {p:Int} {f:Bool} {l:List A9}:TS (A66 b p f l) (l.length<=1048576/\b.length<=120000000000000) (fun r=>r.length<=b.length+10+20*l.length):=⟨fun ⟨h1,h2⟩=>by
 unfold A66 B19;exact yB (yM (Q:=fun r=>_) (P:=fun r=>r.length<=b.length+10) (by exact yT) fun v hv=>wl 130000000000000 (f:=fun x v=>A4S x v p f) (c:=20) (fun x _ v hv=>by unfold A4S;exact yT) h1 (by omega) hv (fun i v=>rfl))⟩
instance {b:List Int} {p:Int} {f:Bool} {l:List A7}:TS (A68 b p f l) (l.length<=1048576/\b.length<=120000000000000) (fun r=>r.length<=b.length+10+70*l.length):=⟨fun ⟨h1,h2⟩=>by
 unfold A68 B2d;exact yB (yM (Q:=fun r=>_) (P:=fun r=>r.length<=b.length+10) (by exact yT) fun v hv=>wl 130000000000000 (f:=fun x v=>A4U x v p f) (c:=70) (fun x _ v hv=>by unfold A4U;exact yT) h1 (by omega) hv (fun i v=>rfl))⟩
instance {b:List Int} {p:Int} {f:Bool} {l:List B4}:TS (A2u b p f l) (l.length<=1048576/\b.length<=120000000000000) (fun r=>r.length<=b.length+10+30*l.length):=⟨fun ⟨h1,h2⟩=>by
 unfold A2u B02;exact yB (yM (Q:=fun r=>_) (P:=fun r=>r.length<=b.length+10) (by exact yT) fun v hv=>wl 130000000000000 (f:=fun x v=>A4O x v p f) (c:=30) (fun x _ v hv=>by unfold A4O;exact yT) h1 (by omega) hv (fun i v=>rfl))⟩
instance {b:List Int} {p:Int} {f:Bool} {l:List G4}:TS (A24 b p f l) (l.length<=1048576/\b.length<=120000000000000) (fun r=>r.length<=b.length+10+20*l.length):=⟨fun ⟨h1,h2⟩=>by
 unfold A24 B2b;exact yB (yM (Q:=fun r=>_) (P:=fun r=>r.length<=b.length+10) (by exact yT) fun v hv=>wl 130000000000000 (f:=fun x v=>A4Q x v p f) (c:=20) (fun x _ v hv=>by unfold A4Q;exact yT) h1 (by omega) hv (fun i v=>rfl))⟩
instance {b:List Int} {p:Int} {f:Bool} {l:List E0}:TS (A2v b p f l) (l.length<=1048576/\b.length<=120000000000000) (fun r=>r.length<=b.length+10+30*l.length):=⟨fun ⟨h1,h2⟩=>by
 unfold A2v B07;exact yB (yM (Q:=fun r=>_) (P:=fun r=>r.length<=b.length+10) (by exact yT) fun v hv=>wl 130000000000000 (f:=fun x v=>A4Y x v p f) (c:=30) (fun x _ v hv=>by unfold A4Y;exact yT) h1 (by omega) hv (fun i v=>rfl))⟩
instance {b:List Int} {p:Int} {f:Bool} {l:List Int}:TS (A9a b p f l) (l.length<=1048576/\b.length<=120000000000000) (fun r=>r.length<=b.length+10+10*l.length):=⟨fun ⟨h1,h2⟩=>by
 unfold A9a B4q;exact yB (yM (Q:=fun r=>_) (P:=fun r=>r.length<=b.length+10) (by exact yT) fun v hv=>wl 130000000000000 (f:=fun x v=>D2 v p f x) (c:=10) (fun x _ v hv=>by exact yT) h1 (by omega) hv (fun i v=>rfl))⟩
instance {b:List Int} {p:Int} {f:Bool} {l:List A2}:TS (A25 b p f l) (l.length<=1048576/\b.length<=120000000000000) (fun r=>r.length<=b.length+10+20*l.length):=⟨fun ⟨h1,h2⟩=>by
 unfold A25 B2f;refine yB (yM (Q:=fun r=>_) (P:=fun r=>r.length<=b.length+10) (by exact yT) fun v hv=>wl 130000000000000 (f:=fun x v=>(A0q v p f x).bind fun y=>some y.2) (c:=20) (fun x _ v hv=>by unfold A0q A3r;exact yT) h1 (by omega) hv (fun i v=> ?_))
 show A1y p f l i v=_;unfold A1y;simp only [Option.bind_assoc,D7g]⟩
instance {b:List Int} {p:Int} {f:Bool} {l:List B2}:TS (A2q b p f l) ((l.length<=70000/\ ∀x∈l,x.Bh.Ae.length<=65537)/\b.length<=100000000000000) (fun r=>r.length<=b.length+10+2000000*l.length):=⟨fun ⟨h1,h2⟩=>by
 unfold A2q B0Y;refine yB (yM (Q:=fun r=>_) (P:=fun r=>r.length<=b.length+10) (by exact yT) fun v hv=>wl 110000000000000 (f:=fun x v=>A40 x v p f) (c:=2000000) (fun x hx v hv=> ?_) (by omega) (by omega) hv (fun i v=>rfl))
 have:=h1.2 x hx;unfold A40 B1p;exact yT⟩
instance {b:List Int} {p:Int} {f:Bool} {l:List B7}:TS (A2s b p f l) ((l.length<=16/\ ∀x∈l,x.Be.length<=1048576)/\b.length<=100000000000000) (fun r=>r.length<=b.length+10+21000000*l.length):=⟨fun ⟨h1,h2⟩=>by
 unfold A2s B00;refine yB (yM (Q:=fun r=>_) (P:=fun r=>r.length<=b.length+10) (by exact yT) fun v hv=>wl 110000000000000 (f:=fun x v=>A4W x v p f) (c:=21000000) (fun x hx v hv=> ?_) (by omega) (by omega) hv (fun i v=>rfl))
 have:=h1.2 x hx;unfold A4W B1q;exact yT⟩
instance {b:List Int} {p:Int} {f:Bool} {s:A8}:TS (A1G b p f s) (A8n s/\A2o s/\b.length<=90000000000000) (fun r=>r.2.2.length<=b.length+150000000000):=⟨fun ⟨h1,h2,h3⟩=>by
 obtain ⟨⟨hf,hq⟩,_⟩:=B5F h1 h2;obtain ⟨w1,w2,w3,w4,w5,w6,w7,w8,w9,w10,w11⟩:=h2;have hc:s.Ar.Am.length<=16/\ ∀x∈s.Ab.Ak,x.Bh.Ae.length<=65537:=by
  obtain ⟨hcf,hr,ho⟩:=h1;unfold B4V C5A C0T at ho;unfold A7F at hcf;refine ⟨?_,fun x hx=> ?_⟩
  ·by_cases hk:s.Ao.Bi=9
   ·unfold B7F at hr;simp only [hk,Int.reduceEq,false_and,false_or,or_false,true_and] at hr;have:=hr.2.1;omega
   ·have:=ho.2.2.2.2.2.2.2.2.1 hk;omega
  ·by_cases hk:s.Ao.Bi=11
   ·unfold B7F at hr;simp only [hk,Int.reduceEq,false_and,false_or,or_false,true_and] at hr;obtain ⟨q,_,q2,q3⟩:=B42 (k:=s.Ab.K) (c:=s.Ab.Cap) hr.1.1.2.2.2 hr.1.1.2.1;obtain ⟨i,hi,rfl⟩:=B2P hx;have:=(hr.1.2.1 q q2).2.2 i hi;have:=this.2.2.1;omega
   ·have:=(ho.2.2.2.2.2.2.2.2.2.2 hk).2.2.2.2;rw [D71 this] at hx;cases hx
 have h9:=w9.2;unfold B9z at hf
 clear h1
 unfold A1G;exact yT⟩
theorem codec_tot (l:List Int) (h:l.length<=120000000000000):T (B3y l) fun _=>True:=by
 unfold B3y C3N;refine yL (fun s=>0<=s.2.2/\s.2.2<=l.length) (fun s=>l.length-s.2.2.toNat) ⟨Int.le_refl _,by simp⟩ fun s hs=> ?_
 unfold C2L;simp only [A0k s.2.2 (by omega)]
 exact yT
theorem whole_tot {e:D7} (ok:A9v e) (w:A37 e.Ah):T (A3j 0 e) fun r=>r.2.2.length<=10000000000000:=by
 have h64:e.Ah.length<=64:=by have:=ok.1.2.1;omega
 have i2: ∀n,TS (B43 n) True (fun r=>r.length<=10):=fun n=>⟨fun _=>by
  have:=(tsA (v:= []) (n:=n)).pf (by simp)
  have this:T (A1X [] n) fun r=>r.length<=10:=by simpa using this
  exact this⟩
 have lp: ∀l v f,l.length=e.Ah.length->(∀r∈l,A8n r.Ac/\A2o r.Ac)->v.length<=1000->TS (W2 0 e l 0 v f) True (fun r=>r.2.2.length<=10000000000000):=fun l v f h1 h2 h3=>⟨fun _=>by
  obtain ⟨C,hC⟩: ∃C:Nat,C=150000000100:=⟨_,rfl⟩;unfold W2;refine yL (fun s=>(0<=s.2.1/\s.2.1<=e.Ah.length)/\s.1.length=e.Ah.length/\(∀i:Nat,s.2.1<=i->i<s.1.length->A8n (el s.1 i).Ac/\A2o (el s.1 i).Ac)/\s.2.2.1.length<=1000+C*s.2.1.toNat) (fun s=>e.Ah.length-s.2.1.toNat)
   ⟨⟨Int.le_refl _,by simp⟩,h1,fun i _ hi=>h2 _ (A2P hi),by show v.length<=1000+C*0;omega⟩ fun s ⟨a1,a2,a3,a4⟩=> ?_
  obtain ⟨l,n,v,f⟩:=s;dsimp only at a1 a2 a3 a4⊢;obtain ⟨i,rfl⟩:=Int.eq_ofNat_of_zero_le a1.1;have hw:=(A0k (i:Int) (by omega)).1
  have a4:v.length<=1000+C*i:=a4;have a5:C*i<=C*64:=Nat.mul_le_mul_left C (by omega)
  have a6:C*(i+1)=C*i+C:=Nat.mul_succ C i;unfold A3P;refine yC (fun h=> ?_) (fun h=>yP (yI (by show v.length<=_;omega)))
  rw [D7o,D7i] at h;have hlt:i<l.length:=by omega
  have e0:C1 l (i:Int)=some (el l i):=L1 hlt;have e1:l.set i (el l i)=l:=by rw [A0U hlt];exact List.set_getElem_self hlt
  obtain ⟨g1,g2⟩:=a3 i (Int.le_refl _) hlt;have hs: ∀(x:A6) (j:Nat),(i:Int)+1<=j->j<(l.set i x).length->A8n (el (l.set i x) j).Ac/\A2o (el (l.set i x) j).Ac:=fun x j h1 h2=>by
   rw [D8g] at h2;have e:el (l.set i x) j=el l j:=by
    rw [A0U (by rw [D8g];exact h2),A0U h2,List.getElem_set_ne (by omega)]
   rw [e];exact a3 j (by omega) h2
  have hs' : ∀j:Nat,(i:Int)+1<=j->j<l.length->A8n (el l j).Ac/\A2o (el l j).Ac:=fun j h1 h2=>a3 j (by omega) h2
  have en:((i:Int)+1).toNat=i+1:=by omega
  have cf: ∀v1:List Int,v1.length<=20000000000000->T (A2j v1 0 f (el l i).Ac.Ao) fun r=>r.length<=v1.length+80:=fun v1 h=>by
   unfold A2j;exact yT
  simp only [e0,D7g,D7W,e1,hw];refine yB (yM (P:=fun r=>r.length<=v.length+10) (by exact yT) fun v1 hv1=>yB (yM (cf v1 (by omega)) fun v2 hv2=>yC (fun _=>yB (yS ⟨g1,g2,by omega⟩ fun y hy=>yI ?_)) (fun _=>yI ?_)))
  ·have hy:y.2.2.length<=v2.length+150000000000:=hy;refine ⟨⟨⟨by show 0<=(i:Int)+1;omega,by show (i:Int)+1<=_;omega⟩,by show (l.set i _).length=_;rw [D8g];exact a2,hs _, ?_⟩, ?_⟩
   ·dsimp only;rw [en];omega
   ·show e.Ah.length-((i:Int)+1).toNat<e.Ah.length-(i:Int).toNat;omega
  ·refine ⟨⟨⟨by show 0<=(i:Int)+1;omega,by show (i:Int)+1<=_;omega⟩,a2,hs', ?_⟩, ?_⟩
   ·dsimp only;rw [en];omega
   ·show e.Ah.length-((i:Int)+1).toNat<e.Ah.length-(i:Int).toNat;omega⟩
 have hl: ∀z:A6,laid (List.replicate e.Ah.length z) 0 (e.Ah.take (List.replicate e.Ah.length z).length)=e.Ah:=fun z=>by
  unfold laid;simp
 have hr: ∀r∈e.Ah,A8n r.Ac/\A2o r.Ac:=fun r hr=>by
  obtain ⟨i,hi,rfl⟩:=B2P hr;exact ⟨(ok.1.2.2 i hi).2.2,w.2 _ hr⟩
 unfold A3j;simp only [D7W,hl];refine yB (yM (P:=fun r=>r.length<=10) (by exact yT) fun v1 h1=>yB (yM (P:=fun r=>r.length<=20) (by exact yT) fun v2 h2=>yB (yM (P:=fun r=>r.length<=30) (by exact yT) fun v3 h3=>yB (yM (P:=fun r=>r.length<=40) (by exact yT) fun v4 h4=> ?_))))
 have:=fun f=>lp e.Ah v4 f rfl hr (by omega)
 exact yT
theorem encode_tot (e:D7) (w:A37 e.Ah):T (A2X e) fun r=>r.1.length<=1048576:=by
 unfold A2X;rw [B7H e w]
 by_cases ok:A9v e
 ·have a:TS (A3j 0 e) True (fun r=>r.2.2.length<=10000000000000):=⟨fun _=>whole_tot ok w⟩;have b: ∀l,TS (B3y l) (l.length<=120000000000000) (fun _=>True):=fun l=>⟨codec_tot l⟩;exact yT
 ·rw [I8 ok];exact yT
end Go.Win
set_option maxRecDepth 20000
namespace Go.Win
open Go.Vc Go.Dec
theorem zE_wf:M2 zEn:=⟨A81.2 (by decide),A81.2 (by decide),⟨by decide,fun y hy=>by cases hy⟩⟩
theorem B82.wf {l:List Int} {e:D7} (hl:l.length<=1048576) (h:B82 l e):M2 e:=by
 obtain ⟨L,s,w1,w2,h1,_,h2⟩:=h;refine D48 w1 ?_ h2;have:=D1i L;have h3:=congrArg List.length h1;rw [D7m] at h3;omega
theorem D60.wf {l:List Int} {r:D7×Int} (hl:l.length<=1048576) (h:D60 l r):M2 r.1:=by
 rcases h with ⟨e,h1,rfl⟩|⟨_,rfl⟩
 ·unfold C88;split
  ·exact h1.wf hl
  ·exact zE_wf
 ·exact zE_wf
theorem lenRs_nil:A37 []:=⟨by decide,fun r h=>by cases h⟩
theorem insS_w {l:List A6} {n:Int} {r:A6} (w:A37 l) (h:l.length<=64) (wr:A2o r.Ac):A37 (A8j l n r).1:=by
 unfold A8j
 repeat' split
 all_goals first
  |exact lenRs_nil
  |(refine ⟨by simp;omega,fun x hx=> ?_⟩
    simp only [D72,List.mem_singleton] at hx;rcases hx with (hx|rfl)|hx
    ·exact w.2 _ (List.mem_of_mem_take hx)
    ·exact wr
    ·exact w.2 _ (List.mem_of_mem_drop hx))
theorem remS_w {l:List A6} {i:Int} (w:A37 l):A37 (B7D l i).1:=by
 have h:=w.1;unfold B7D
 repeat' split
 all_goals first
  |exact lenRs_nil
  |(refine ⟨by simp;omega,fun x hx=> ?_⟩
    rcases D72.1 hx with hx|hx
    ·exact w.2 _ (List.mem_of_mem_take hx)
    ·exact w.2 _ (List.mem_of_mem_drop hx))
theorem repS_w {l:List A6} {r:A6} (w:A37 l) (wr:A2o r.Ac):A37 (B4m l r).1:=by
 unfold B4m
 repeat' split
 all_goals first
  |exact lenRs_nil
  |exact ⟨by rw [D8g];exact w.1,D4o (P:=fun r:A6=>A2o r.Ac) _ w.2 wr⟩
instance {c:E2} {n:Int}:TS (A15 c n) True (fun r=>A2o r.1):=⟨fun _=>by
 by_cases h:A7F c/\0<=n/\n<=16777216
 ·exact ⟨_,D0f h.1 h.2,C05 (C7l h.1 h.2)⟩
 ·exact ⟨_,D3Q h,A84⟩⟩
instance {l:List A6} {n:Int} {r:A6}:TS (A1m l n r) ((A37 l/\l.length<=64)/\A2o r.Ac) (fun x=>A37 x.1):=⟨fun h=>⟨_,C4M _ _ _ h.1.1 h.2,insS_w h.1.1 h.1.2 h.2⟩⟩
instance {l:List A6} {i:Int}:TS (A5e l i) (A37 l) (fun x=>A37 x.1):=⟨fun h=>⟨_,D0U _ _ h,remS_w h⟩⟩
instance {l:List A6} {r:A6}:TS (A4d l r) (A37 l/\A2o r.Ac) (fun x=>A37 x.1):=⟨fun h=>⟨_,C8Z _ _ h.1 h.2,repS_w h.1 h.2⟩⟩
instance {s:A8} {v:Int} {d:List Int}:TS (A8S s v d) (A2o s/\d.length<=maxLen) (fun r=>A2o r.1):=⟨fun h=>D1m s h.1 v d h.2⟩
instance {s:A8} {t:Int}:TS (A4j s t) (A2o s) (fun r=>A2o r.1):=⟨fun h=>C7V s h t⟩
instance {s:A8} {q:T0}:TS (A8T s q) (A2o s/\A7w q) (fun r=>r.1.Aw.length<=16):=⟨fun h=>D1p s h.1 q (C82 h.2.1) (C82 h.2.2.1) (C82 h.2.2.2)⟩
instance {e:D7}:TS (A2X e) (A37 e.Ah) (fun r=>r.1.length<=1048576):=⟨encode_tot e⟩
instance {l:List A6}:TS (X5 l) (A37 l) (fun r=>r.length<=1048576):=⟨fun h=>⟨_,D1V _ h.1,by simpa [A2c] using h.1⟩⟩
instance {b:List Int}:TS (A1n b) (byt b) (fun r=>A37 r.1.Ah):=⟨fun hb=>by
 by_cases hl:b.length<=1048576
 ·obtain ⟨r,h,d⟩:=C6w hb hl;exact ⟨r,h,B5x (d.wf hl).2.2⟩
 ·unfold A1n;rw [D7l (by omega),D7k]
  exact ⟨_,rfl,lenRs_nil⟩⟩
def PO (x:Int×D1):Prop:=x.2.reply_.Code=0/\A37 x.2.Ap.Ah/\D6p x.2.reply_
theorem apply_T {e:D7} {c:O9} (w:A37 e.Ah) (hd:c.Az.length<=maxLen) (hq:A7w c.Bg) (hb:byt c.Ax):
  T (S2 e c) fun r=>(r.2.Code=0\/(r.1=e/\r.2=⟨r.2.Code,Z2, [], []⟩))/\A37 r.1.Ah/\D6p r.2:=by
 have z: ∀k,D6p ⟨k,Z2, [], []⟩:=fun k=>⟨Nat.zero_le _,Nat.zero_le _,Nat.zero_le _⟩;unfold S2;rw [B7H e w]
 by_cases ok:A9v e
 ·have h64:e.Ah.length<=64:=by have:=ok.1.2.1;omega
  have P0: ∀k,PO (k,⟨e,c,⟨0,Z2, [], []⟩⟩):=fun k=>⟨rfl,w,z _⟩;have P1: ∀ {k n l},A37 l->PO (k,⟨⟨n,e.Bd,l⟩,c,⟨0,Z2, [], []⟩⟩):=fun h=>⟨rfl,h,z _⟩;have hf:TS (A1C ⟨e,c,⟨0,Z2, [], []⟩⟩) True (fun r=>A2o r.1):=⟨fun _=>by
   unfold A1C;rw [B3I _ _ (by show e.Ah.length<=_;omega) (B5E ok.1.2),D7g]
   refine yC (fun _=>yI A84) fun h=> ?_;rw [B5m] at h⊢;unfold A6B at h;simp only [Bool.not_eq_false',D7o,D7i] at h;exact yB (yX ⟨by dsimp only;omega,h.1⟩ fun hm=>yI (w.2 _ hm))⟩
  have o1:T (U3 ⟨e,c,⟨0,Z2, [], []⟩⟩) PO:=by
   unfold U3;exact yC (fun _=>yI (P0 _)) (fun _=>yB (yS trivial fun a ha=>yC (fun _=>yI (P0 _)) (fun _=>yB (yS ⟨⟨w,h64⟩,ha⟩ fun b hb=>yC (fun _=>yI (P0 _)) (fun _=>yI (P1 hb))))))
  have o2:T (A29 ⟨e,c,⟨0,Z2, [], []⟩⟩) PO:=by
   unfold A29;exact yB (yS w fun b hb=>yC (fun _=>yI (P0 _)) (fun _=>yI (P1 hb)))
  have o3:T (A3c ⟨e,c,⟨0,Z2, [], []⟩⟩) PO:=by
   unfold A3c A8b;refine yC (fun _=>yI (P0 _)) (fun _=>yK (by rw [D7i,D7M];dsimp only;omega) (yL (fun s=>(0<=s.2/\s.2<=e.Ah.length)/\s.1.length=e.Ah.length/\A37 s.1) (fun s=>e.Ah.length-s.2.toNat) ⟨by simp,by simp,w⟩ fun s ⟨a1,a2,a3⟩=> ?_))
   unfold A3C;refine yC (fun h=> ?_) (fun _=>yP (yI (P1 a3)));rw [D7i] at h;have h:s.2<(e.Ah.length:Int):=h;have hi:0<=s.2/\s.2<s.1.length:=by omega
   refine yB (yX hi fun hm=>yB (yX hi fun _=>yB (yS (a3.2 _ hm) fun b hb=>yC (fun _=>yI (P0 _)) (fun _=>yB (yX hi fun _=>yB (yX hi fun _=>yI ?_))))));rw [(A0k s.2 (by omega)).1]
   refine ⟨⟨by dsimp only;omega,by dsimp only;rw [D8g];exact a2,by dsimp only;rw [D8g];exact a3.1,D4o (P:=fun r:A6=>A2o r.Ac) _ a3.2 hb⟩,by dsimp only;omega⟩
  have o4:T (A33 ⟨e,c,⟨0,Z2, [], []⟩⟩) PO:=by
   unfold A33;exact yB (yS trivial fun a ha=>yC (fun _=>yI (P0 _)) (fun _=>yC (fun _=>yI (P0 _)) (fun _=>yB (yS ⟨ha,hd⟩ fun b hb=>yC (fun _=>yI (P0 _)) (fun _=>yB (yS ⟨w,hb⟩ fun b hb=>yC (fun _=>yI (P0 _)) (fun _=>yI (P1 hb))))))))
  have o5:T (A34 ⟨e,c,⟨0,Z2, [], []⟩⟩) PO:=by
   unfold A34;exact yB (yS trivial fun a ha=>yC (fun _=>yI (P0 _)) (fun _=>yB (yS ⟨ha,hq⟩ fun b hb=>yI ⟨rfl,w,Nat.le_trans hb (by decide),Nat.zero_le _,Nat.zero_le _⟩)))
  have o6:T (A0m ⟨e,c,⟨0,Z2, [], []⟩⟩) PO:=by
   unfold A0m;exact yB (yS w fun b hb=>yI ⟨rfl,w,Nat.zero_le _,hb,Nat.zero_le _⟩)
  have o7:T (A3b ⟨e,c,⟨0,Z2, [], []⟩⟩) PO:=by
   unfold A3b;exact yB (yS w fun b hb=>yI ⟨rfl,w,Nat.zero_le _,Nat.zero_le _,hb⟩)
  have o8:T (A3a ⟨e,c,⟨0,Z2, [], []⟩⟩) PO:=by
   unfold A3a;exact yB (yS hb fun b hb=>yC (fun _=>yI ⟨rfl,hb,z _⟩) (fun _=>yI (P0 _)))
  have fin: ∀ {m:Option (Int×D1)},T m PO->T (Option.bind m fun y=>cond (y.1 !=(0:Int)) (some (e,(⟨y.1,Z2, [], []⟩:G8))) (some (y.2.Ap,y.2.reply_))) fun r=>(r.2.Code=0\/(r.1=e/\r.2=⟨r.2.Code,Z2, [], []⟩))/\A37 r.1.Ah/\D6p r.2:=fun h=>
   yB (yM h fun a ha=>yC (fun _=>yI ⟨.inr ⟨rfl,rfl⟩,w,z _⟩) (fun _=>yI ⟨.inl ha.1,ha.2⟩))
  rw [V0 ok,D7g,D7T,D7j];refine yC (fun _=>yI ⟨.inr ⟨rfl,rfl⟩,w,z _⟩) fun hp=> ?_
  ·refine yC (fun _=>fin o1) fun c1=>yC (fun _=>fin o2) fun c2=>yC (fun _=>fin o3) fun c3=>yC (fun _=>fin o4) fun c4=>yC (fun _=>fin o5) fun c5=>yC (fun _=>fin o6) fun c6=>yC (fun _=>fin o7) fun c7=>yC (fun _=>fin o8) fun c8=> ?_;unfold A8c A45 at hp;rw [c1,c2,c3,c4,c5,c6,c7,c8] at hp;cases hp
 ·rw [I8 ok];exact ⟨_,rfl, .inr ⟨rfl,rfl⟩,w,z _⟩
end Go.Win
set_option maxRecDepth 20000
namespace Go.Win
open Go.Vc Go.Dec
theorem w64_r (n:Int): -9223372036854775808<=A1 n/\A1 n<9223372036854775808:=by
 rw [B0I];omega
theorem D4W {l:List Int} (h:∀x∈l,E1 .u8 x):byt l:=fun x hx=>by
 have:=h x hx;simp [E1,Lit.wf,IntKind.min,IntKind.max,IntKind.signed,IntKind.bits] at this;omega
instance {a b:Int}:TS (made_Mod a b) (1<=b/\b<=4611686018427387904) (fun r=>0<=r/\r<b):=⟨fun ⟨h1,h2⟩=>by
 unfold made_Mod;have g1:=Int.tmod_lt_of_pos a (b:=b) (by omega)
 have g2: -b<Int.tmod a b:=Int.lt_tmod_of_pos a (by omega)
 refine yK (by rw [D7i];omega) (yC (fun h=>yI ?_) (fun h=>yI ?_))
 ·rw [D7i] at h;rw [C7 (by omega) (by omega)]
  omega
 ·rw [D7x] at h;omega⟩
instance {a b:Int}:TS (made_Int a b) (1<=b/\b<=4611686018427387904) (fun r=>0<=r/\r<b):=⟨fun h=>yB (yS h fun _ h=>yI h)⟩
def CmP (c:O9):Prop:=c.Az.length<=maxLen/\A7w c.Bg/\byt c.Ax
theorem q_ok {a b c:Int} (h1:-9223372036854775808<=a/\a<9223372036854775808) (h2:0<=b/\b<9) (h3:0<=c/\c<9):A7w ⟨a,b,c⟩:=
 ⟨A81.2 (by dsimp only;omega),A81.2 (by dsimp only;omega),A81.2 (by dsimp only;omega)⟩
theorem q_zero:A7w ⟨0,0,0⟩:=q_ok (by decide) (by decide) (by decide)
instance {c:E2}:TS (law29_config c) True (fun _=>True):=⟨fun _=>by
 unfold law29_config law29_config_j1;exact yT⟩
instance {a b:Int} {c:E2} {d e:Int} {q:T0} {l:List Int}:TS (law29_command_j2 a b c d e q l) (A7w q/\byt l) CmP:=⟨fun h=>yI ⟨Nat.zero_le _,h⟩⟩
theorem command_T (p:O9) (n:Int) (hb:byt p.Ax):T (law29_command p n) CmP:=by
 have hn:byt []:=fun x h=>by cases h
 have z:=And.intro q_zero hn;have j6: ∀a b c,T (law29_command_j6 p n a b c) CmP:=fun a b c=>by
  unfold law29_command_j6 made_Value;exact yC (fun _=>yS z fun _ h=>h) (fun _=>yC (fun _=>yS ⟨q_zero,hb⟩ fun _ h=>h) (fun _=>yB (yM (P:=fun _=>True) (by exact yT) fun _ _=>yS z fun _ h=>h)))
 unfold law29_command;refine yB (yS (by decide) fun a ha=>yB (yS (by decide) fun b hb=> ?_))
 refine yC (fun _=>yB (yS trivial fun _ _=>yS z fun _ h=>h)) fun _=>yC (fun _=>yS z fun _ h=>h) fun _=>yC (fun _=> ?_) fun _=>yC (fun _=> ?_) fun _=>yC (fun _=>j6 _ _ _) fun _=>j6 _ _ _
 ·refine yB (yM (P:=fun _=>True) ?_ fun _ _=>yS z fun _ h=>h);unfold made_Gap made_Gap_j3;exact yT
 ·exact yB (yS (by decide) fun x hx=>yB (yS (by decide) fun y hy=>yB (yS (by decide) fun z hz=>yS ⟨q_ok (w64_r _) hy hz,hn⟩ fun _ h=>h)))
noncomputable def app:D7->List O9->Option (D7×List G8)
 |e, []=>some (e, [])
 |e,c::l=>Option.bind (S2 e c) fun x=>Option.bind (app x.1 l) fun y=>some (y.1,x.2::y.2)
theorem app_snoc {c:O9} {a:D7} {r:G8}: ∀ {l:List O9} {e b:D7} {rs:List G8},app e l=some (b,rs)->S2 b c=some (a,r)->app e (l++ [c])=some (a,rs++ [r])
 | [],e,b,rs,h1,h2=>by
  cases h1;simp [app,h2]
 |d::l,e,b,rs,h1,h2=>by
  simp only [app,List.cons_append] at h1⊢;cases h3:S2 e d with
  |none=>rw [h3] at h1;cases h1
  |some x=>
   rw [h3,D7g] at h1;cases h4:app x.1 l with
   |none=>rw [h4] at h1;cases h1
   |some y=>
    rw [h4,D7g] at h1;cases h1;rw [D7g,app_snoc (b:=y.1) (rs:=y.2) h4 h2]
    rfl
theorem app_len: ∀ {l:List O9} {e b:D7} {rs:List G8},app e l=some (b,rs)->rs.length=l.length
 | [],e,b,rs,h1=>by cases h1;rfl
 |d::l,e,b,rs,h1=>by
  simp only [app] at h1;cases h3:S2 e d with
  |none=>rw [h3] at h1;cases h1
  |some x=>
   rw [h3,D7g] at h1;cases h4:app x.1 l with
   |none=>rw [h4] at h1;cases h1
   |some y=>
    rw [h4,D7g] at h1;cases h1;simp [app_len (b:=y.1) (rs:=y.2) h4]
theorem all_eq {e b:D7} {l:List O9} {rs:List G8} (hl:l.length<=1000) (h:app e l=some (b,rs)):T (engine_ApplyAll e l) fun x=>x=(b,rs):=by
 have hn:=app_len h;unfold engine_ApplyAll engine_ApplyAll_l2;refine yL (fun s=> ∃i:Nat,s.2.1=i/\i<=l.length/\ ∃r',app ⟨s.2.2.1,s.2.2.2.1,s.2.2.2.2⟩ (l.drop i)=some (b,r')/\s.1++r' =rs) (fun s=>l.length-s.2.1.toNat) ⟨0,rfl,Nat.zero_le _,rs,h,rfl⟩ ?_;rintro ⟨v,_,n,m,k⟩ ⟨i,rfl,h1,r',h2,h3⟩;dsimp only at h2 h3⊢;unfold engine_ApplyAll_l2s;refine yC (fun g=> ?_) fun g=>yP (yI ?_)
 ·rw [D7i] at g;have g:i<l.length:=by omega
  rw [List.drop_eq_getElem_cons g] at h2;simp only [app] at h2;have e0:C1 l (i:Int)=some l[i]:=by rw [L1 g,A0U g]
  cases h4:S2 ⟨n,m,k⟩ l[i] with
  |none=>rw [h4] at h2;cases h2
  |some x=>
   rw [h4,D7g] at h2;cases h5:app x.1 (l.drop (i+1)) with
   |none=>rw [h5] at h2;cases h2
   |some y=>
    rw [h5,D7g] at h2;cases h2;rw [e0,D7g,h4,D7g];have hv:=congrArg List.length h3;simp only [D7m,D7z] at hv;refine yK (by rw [D7i,D7V];omega) (yI ⟨⟨i+1, ?_,g,y.2,h5, ?_⟩, ?_⟩)
    ·show A1 ((i:Int)+1)=_;rw [(A0k (i:Int) (by omega)).1];rfl
    ·rw [<-h3];simp
    ·show l.length-(A1 ((i:Int)+1)).toNat<l.length-(i:Int).toNat;rw [(A0k (i:Int) (by omega)).1];omega
 ·rw [D7x] at g;have:i=l.length:=by omega
  rw [this,List.drop_length] at h2;cases h2;rw [<-h3];simp
theorem law29_EngineBatches_true (p0:List O9) (p1:Int) (w0:wfL C1K p0) (_:E1 .i64 p1):law29_EngineBatches p0 p1=some true:=by
 have key:T (law29_EngineBatches p0 p1) fun r=>r=true:=by
  unfold law29_EngineBatches;refine yB (yS (by decide) fun a ha=> ?_)
  rw [C7 (by omega) (by omega)]
  have e0:B9M (1+a)=(⟨0,1+a, []⟩,0):=by
   unfold B9M;rw [D7n (by omega),D7n (by omega)]
   rfl
  rw [e0];refine yC (fun h=>by cases h) fun _=> ?_
  unfold law29_EngineBatches_l3;refine yL (fun s=> ∃i:Nat,s.2.2.1=i/\i<=20/\s.1.length=i/\app ⟨0,1+a, []⟩ s.1=some (⟨s.2.2.2.1,s.2.2.2.2.1,s.2.2.2.2.2⟩,s.2.1)/\A37 s.2.2.2.2.2/\ ∀r∈s.2.1,D6p r) (fun s=>20-s.2.2.1.toNat) ⟨0,rfl,Nat.zero_le _,rfl,rfl,lenRs_nil,fun r h=>by cases h⟩ ?_
  rintro ⟨cs,rs,_,n,m,k⟩ ⟨i,rfl,h1,h2,h3,h4,h5⟩;dsimp only at h2 h3 h4 h5⊢;have hn:=app_len h3;unfold law29_EngineBatches_l3s;refine yC (fun g=> ?_) fun g=>yP (yB (yM (all_eq (by omega) h3) fun x hx=> ?_))
  ·rw [D7o,D7i,D7i] at g;refine yB (yX (by omega) fun hm=>yB (yM (command_T _ _ ?_) fun c hc=>yB ?_))
   ·exact D4W (w0.2 _ hm).2.2.2.2.2.2.2.2
   ·obtain ⟨⟨a',r⟩,h6,_,h7,h8⟩:=apply_T (e:=⟨n,m,k⟩) h4 hc.1 hc.2.1 hc.2.2;refine ⟨_,h6,yK ?_ (yK ?_ (yI ⟨⟨i+1, ?_,by omega,by simp;omega,app_snoc h3 h6,h7,fun x hx=> ?_⟩, ?_⟩))⟩
    ·rw [D7i,D7V];omega
    ·rw [D7i,D7V];omega
    ·show A1 ((i:Int)+1)=_;rw [(A0k (i:Int) (by omega)).1];rfl
    ·rcases D72.1 hx with hx|hx
     ·exact h5 _ hx
     ·rw [List.mem_singleton.1 hx];exact h8
    ·show 20-(A1 ((i:Int)+1)).toNat<20-(i:Int).toNat;rw [(A0k (i:Int) (by omega)).1];omega
  ·subst hx;dsimp only;rw [D2u h4,D7g,D7T];unfold law29_EngineBatches_l8;refine yC (fun h=>by cases h) fun _=> ?_
   refine yL (fun s=>0<=s/\s<=rs.length) (fun s=>rs.length-s.toNat) ⟨Int.le_refl _,by simp⟩ fun s ⟨b1,b2⟩=> ?_
   unfold law29_EngineBatches_l8s;refine yC (fun g=> ?_) fun g=>yP ?_
   ·rw [D7i] at g;have hi:0<=s/\s<rs.length:=⟨b1,g⟩;refine yB (yX hi fun hm=>yB (yX hi fun _=>yB (yX hi fun _=> ?_)));rw [C86 (h5 _ hm),(A0k s (by omega)).1]
    exact yI ⟨by omega,by omega⟩
   ·rw [D3m];exact yI rfl
 obtain ⟨r,h,rfl⟩:=key;exact h
end Go.Win
