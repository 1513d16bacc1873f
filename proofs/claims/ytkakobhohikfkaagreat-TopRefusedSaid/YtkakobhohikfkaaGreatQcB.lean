/- Plain laws of the functions on plain data. -/
import Derived.Test.YtkakobhohikfkaaGreatQa
import Derived.Test.YtkakobhohikfkaaGreatWinB
import Derived.Test.YtkakobhohikfkaaGreatVdB
import Derived.Test.YtkakobhohikfkaaGreatWin
import Derived.Laws.BitsLemmas
set_option linter.unusedVariables false
set_option linter.unusedSimpArgs false
set_option linter.unnecessarySimpa false
set_option linter.unusedSectionVars false
set_option maxHeartbeats 4000000
namespace Go.Win
open Go.Vc Go.Dec

theorem A3x {n t:Int} (h1:n<=t) (h2:t<=16777216):B1u n t=0:=by
 unfold B1u;rw [D4K (by omega),D4K (by omega)]
 rfl
theorem C90 (a b:Int):X8 a b=if b>a then b else a:=rfl
theorem C1A {n w:Int} (hn:0<=n/\n<=16777216) (hw:1<=w/\w<=1048576) (T:Int):(O4 n w<=T↔0<=T/\n-w<T):=by
 unfold O4;have e1:G8 n=true:=(A7E n).2 hn;have e2:M6 w=true:=by unfold M6;simp;omega
 simp only [e1,e2,D4P,Bool.or_self,D4G];rw [C2 (n:=n-w) (by omega) (by omega),C2 (by omega) (by omega),C90]
 split<;>omega
theorem B8y {α:Type} (tm:α->Int) (f:Int): ∀ {l:List α},l.Pairwise (fun a b=>tm a<=tm b)-> ∀x∈l.dropWhile (fun x=>decide (tm x<f)),f<=tm x
 | [],_,x,hx=>by cases hx
 |a::l,hp,x,hx=>by
  rw [List.dropWhile_cons] at hx;have h2:=List.pairwise_cons.1 hp
  by_cases h:tm a<f
  ·rw [D4I h] at hx;exact B8y tm f h2.2 x hx
  ·rw [D4K h] at hx;rcases List.mem_cons.1 hx with e|e
   ·rw [e];omega
   ·have:=h2.1 x e;omega
theorem C15 (p:A3->Bool) (l:List A3):S9 (l.dropWhile p)<=S9 l:=by
 have h:S9 l=S9 (l.takeWhile p)+S9 (l.dropWhile p):=by rw [<-B8m,List.takeWhile_append_dropWhile]
 have:=C1c (l.takeWhile p);omega
theorem C5N {l:List A3} {k:Int} (h:A7g l k) (p:A3->Bool):A7g (l.dropWhile p) k:=by
 obtain ⟨ci,cs,cl⟩:=A80 h;have e:l.takeWhile p++l.dropWhile p=l:=List.takeWhile_append_dropWhile;refine D0o h.1 (C71 (P:=l.takeWhile p) (by rw [e];exact cs) (by rw [e];exact ci)) ?_ (fun x hx=>cl x (A83 hx))
 rw [<-e] at cs;exact (List.pairwise_append.1 cs).2.1
theorem C1F {l:List A3} {W K Cap Now t:Int} (h:A1S l W K Cap Now) (h1:Now<=t) (h2:t<=16777216) (hl:l.length<=1048576):A1S (l.dropWhile fun x=>decide (x.T<O4 t W)) W K Cap t:=by
 obtain ⟨hp,hb,hc,hv⟩:=h;have hlen:=A7c (fun x:A3=>decide (x.T<O4 t W)) l;rw [C1d hl] at hc;have htot:=C15 (fun x:A3=>decide (x.T<O4 t W)) l;refine ⟨⟨hp.1,hp.2.1,⟨by omega,h2⟩,hp.2.2.2⟩,C5N hb _,by rw [C1d (by omega)];omega,fun i hi=> ?_⟩
 have hm:=L8 hi;have a:=B8y (fun x:A3=>x.T) (O4 t W) (A80 hb).1.srt _ hm;rw [C1A ⟨by omega,h2⟩ hp.1] at a
 obtain ⟨j,hj,e⟩:=A1Q (A83 hm);have b:=(A1c _ _ _).1 (hv j hj);rw [e] at b;exact (A1c _ _ _).2 ⟨⟨by omega,h2⟩,hp.1,b.2.2.1,a.2,by omega⟩
theorem C4b {l:List A3} (hl:∀x∈l,0<=x.Bc/\x.Bc<=30):(l.length:Int)<=S9 l:=by
 induction l with
 |nil=>exact Int.le_refl 0
 |cons b l ih=>
  have:=ih fun x hx=>hl x (by simp [hx])
  rw [B0l,D4W];have h:=hl b (by simp)
  have h1:A6Y b=2^b.Bc.toNat:=by unfold A6Y;rw [if_pos h]
  have h2:=A0v b.Bc.toNat
  push_cast
  omega
theorem C3n {l:List A3} {W K Cap Now:Int} (h:A1S l W K Cap Now) (hl:l.length<=1048576):l.length<=65536:=by
 have a:=C4b (A80 h.2.1).2.2;have b:=h.2.2.1;rw [C1d hl] at b;have:=h.1.2.1;omega
theorem C2p {x:E1} {t:Int} (h:A1S x.Ad x.W x.K x.Cap x.Now) (h1:x.Now<=t) (h2:t<=16777216) (hl:x.Ad.length<=1048576):
  ∃B,A6M x t=some (⟨x.W,x.K,x.Cap,t,B⟩,0)/\A1S B x.W x.K x.Cap t/\B.length<=1048576:=by
 refine ⟨_, ?_,C1F h h1 h2 hl,Nat.le_trans (A7c _ _) hl⟩;unfold A6M;rw [A1H x (I3 hl),D4D,O8 h];simp only [D5g,D4G];rw [A7o t h.1.2.2.1,B8A,A3x h1 h2];simp only [D5g,D4G];rw [(C3d hl _)]
 rfl
theorem C5l {x:F0} {t:Int} (h:B7x x) (h1:x.Now<=t) (h2:t<=16777216) (hl:x.Ad.length<=1048576):
  ∃B,A9I x t=some (⟨x.W,x.K,x.Cap,x.Bs,t,B⟩,0)/\B7x ⟨x.W,x.K,x.Cap,x.Bs,t,B⟩/\B.length<=1048576:=by
 refine ⟨_, ?_,⟨C1F h.1 h1 h2 hl,h.2⟩,Nat.le_trans (A7c _ _) hl⟩;unfold A9I;rw [A8n x (I3 hl),D4D,O8 h];simp only [D5g,D4G];rw [A7o t h.1.1.2.2.1,B8A,A3x h1 h2];simp only [D5g,D4G];rw [(C3d hl _)]
 rfl
end Go.Win
set_option maxHeartbeats 4000000
namespace Go.Win
open Go.Vc Go.Dec
section
variable {β:Type}
end
end Go.Win
set_option maxHeartbeats 4000000
namespace Go.Win
open Go.Vc Go.Dec
instance {l:List A6} {a b c:Int}:TS (A90 l a b c) (l.length<=1048576) (fun r=>r.length<=l.length+1):=⟨fun h=>by
 unfold A90 B6E;refine yL (fun s=>0<=s.2/\s.2<=l.length/\s.1.length<=s.2) (fun s=>l.length-s.2.toNat) ⟨Int.le_refl _,by simp,by simp⟩ fun s hs=> ?_
 have e:=T9 s.2 (by omega)
 unfold B5N;simp only [e];exact yT⟩
theorem D0u {p0:List A6} {a b c d e f:Int} {g:List A6} {y:A6} {v:List A6} {i s:Int} (hl:p0.length<=1048577) (hi:0<=i/\i<p0.length) (hs:s<p0.length):
  T (A6a p0 a b c d e f g y v i s) fun r=>match r with
   | .inl r=>r.1.length=v.length+1/\i<r.2/\r.2<=p0.length
   | .inr _=>False:=by
 unfold A6a;refine yL (fun s=>s<p0.length/\(i<=s\/s<=i)) (fun s=>s.toNat) ⟨hs,by omega⟩ fun s hs=> ?_
 have e1:=T9 i (by omega)
 unfold A4Z;simp only [e1];refine yC (fun h=> ?_) (fun h=> ?_)
 ·rw [D4F] at h;have e2:=T9 s (by omega)
  simp only [e2];exact yT
 ·exact yT
instance {p0:List A6} {a b c d e f:Int} {g:List A6}:TS (A5x p0 a b c d e f g) (p0.length<=1048577) (fun r=>r.length<=p0.length):=⟨fun h=>by
 unfold A5x B0Y;refine yL (fun s=>0<=s.2/\s.2<=p0.length/\s.1.length<=s.2) (fun s=>p0.length-s.2.toNat) ⟨Int.le_refl _,by simp,by simp⟩ fun s hs=> ?_
 unfold A4Y;refine yC (fun h2=> ?_) (fun _=>yP (yI (by show s.1.length<=_;omega)))
 rw [D4F] at h2;refine yB (yX ⟨hs.1,h2⟩ fun _=>yK (by simp;omega) ?_)
 refine yM (D0u h ⟨hs.1,h2⟩ (by rw [(T9 _ ⟨by omega,by omega⟩).2.1];omega)) fun r hr=> ?_
 cases r with
 |inl r=>dsimp only at hr⊢;omega
 |inr r=>exact hr.elim⟩
theorem C80 {p0:List A6} {a b c d e:Int} {g:List A6} {y:A6} {v:List A6} {i s:Int} (hl:p0.length<=1048577) (hi:0<=i/\i<p0.length) (hs:s<p0.length):
  T (A6b p0 a b c d e g y v i s) fun r=>match r with
   | .inl r=>r.1.length=v.length+1/\i<r.2/\r.2<=p0.length
   | .inr _=>False:=by
 unfold A6b;refine yL (fun s=>s<p0.length/\(i<=s\/s<=i)) (fun s=>s.toNat) ⟨hs,by omega⟩ fun s hs=> ?_
 have e1:=T9 i (by omega)
 unfold A41 A8m;simp only [e1,B64];refine yC (fun h=> ?_) (fun h=> ?_)
 ·rw [D4F] at h;have e2:=T9 s (by omega)
  simp only [e2];exact yT
 ·exact yT
instance {p0:List A6} {a b c d e:Int} {g:List A6}:TS (A5y p0 a b c d e g) (p0.length<=1048577) (fun r=>r.length<=p0.length):=⟨fun h=>by
 unfold A5y B0Z;refine yL (fun s=>0<=s.2/\s.2<=p0.length/\s.1.length<=s.2) (fun s=>p0.length-s.2.toNat) ⟨Int.le_refl _,by simp,by simp⟩ fun s hs=> ?_
 unfold A40;refine yC (fun h2=> ?_) (fun _=>yP (yI (by show s.1.length<=_;omega)))
 rw [D4F] at h2;refine yB (yX ⟨hs.1,h2⟩ fun _=>yK (by simp;omega) ?_)
 refine yM (C80 h ⟨hs.1,h2⟩ (by rw [(T9 _ ⟨by omega,by omega⟩).2.1];omega)) fun r hr=> ?_
 cases r with
 |inl r=>dsimp only at hr⊢;omega
 |inr r=>exact hr.elim⟩
theorem C6e (x:C9) (v:Int) (hl:x.Bf.length+1<=1048576):T (A5J x v) fun r=>r.1.Bf.length<=x.Bf.length+1:=by
 have ex:(⟨x.Bo,x.W,x.K,x.Cap,x.Now,x.Bv,x.Bf⟩:C9)=x:=rfl;unfold A5J;rw [ex,A4F x (I3 (by omega))]
 exact yT
theorem C6f (x:D1) (v:Int) (hl:x.Bf.length+1<=1048576):T (A5M x v) fun r=>r.1.Bf.length<=x.Bf.length+1:=by
 have ex:(⟨x.W,x.K,x.Cap,x.Now,x.Bv,x.Bf⟩:D1)=x:=rfl;unfold A5M;rw [ex,A4G x (I3 (by omega))]
 exact yT
end Go.Win
set_option maxHeartbeats 4000000
namespace Go.Win
open Go.Vc Go.Dec
def Fit (n lo hi s q:Int):Prop:=n*lo<=s/\s<=n*hi/\0<=q/\q<=n*16777216/\s*s<=n*q
theorem C4g (x:Int):0<=x*x:=by
 rcases Int.le_total 0 x with h|h
 ·exact Int.mul_nonneg h h
 ·have:=Int.mul_nonneg (a:= -x) (b:= -x) (by omega) (by omega)
  rw [Int.neg_mul_neg] at this;exact this
theorem D2H {n1 q1 s1 n2 q2 s2:Int} (hn1:0<=n1) (hn2:0<=n2) (hq1:0<=q1) (hq2:0<=q2) (h1:s1*s1<=n1*q1) (h2:s2*s2<=n2*q2):(s1+s2)*(s1+s2)<=(n1+n2)*(q1+q2):=by
 have a0:0<=n1*q2:=Int.mul_nonneg hn1 hq2;have b0:0<=n2*q1:=Int.mul_nonneg hn2 hq1;have p:(s1*s2)*(s1*s2)<=(n1*q2)*(n2*q1):=by
  have e1:(s1*s2)*(s1*s2)=(s1*s1)*(s2*s2):=by grind
  have e2:(n1*q2)*(n2*q1)=(n1*q1)*(n2*q2):=by grind
  rw [e1,e2];exact Int.mul_le_mul h1 h2 (C4g s2) (Int.mul_nonneg hn1 hq1)
 have key: ∀P A B:Int,0<=A->0<=B->P*P<=A*B->2*P<=A+B:=by
  intro P A B hA hB hP;apply D5y;intro hc;have h3:(A+B+1)*(A+B+1)<=(2*P)*(2*P):=Int.mul_le_mul (by omega) (by omega) (by omega) (by omega)
  have h4:(2*P)*(2*P)=4*(P*P):=by grind
  have h5:(A+B+1)*(A+B+1)=(A-B)*(A-B)+4*(A*B)+2*(A+B)+1:=by grind
  have h6:=C4g (A-B);omega
 have k:=key _ _ _ a0 b0 p;have e:(s1+s2)*(s1+s2)=s1*s1+s2*s2+2*(s1*s2):=by grind
 have e' :(n1+n2)*(q1+q2)=n1*q1+n2*q2+(n1*q2+n2*q1):=by grind
 omega
theorem C9R {n lo hi lo' hi' s q:Int} (hn:0<=n) (h:Fit n lo hi s q) (h1:lo' <=lo) (h2:hi<=hi'):Fit n lo' hi' s q:=by
 have a:=Int.mul_le_mul_of_nonneg_left h1 hn;have b:=Int.mul_le_mul_of_nonneg_left h2 hn;unfold Fit at*
 omega
theorem D1C {n1 n2 lo hi s1 q1 s2 q2:Int} (hn1:0<=n1) (hn2:0<=n2) (h1:Fit n1 lo hi s1 q1) (h2:Fit n2 lo hi s2 q2):Fit (n1+n2) lo hi (s1+s2) (q1+q2):=by
 obtain ⟨a1,a2,a3,a4,a5⟩:=h1;obtain ⟨b1,b2,b3,b4,b5⟩:=h2;refine ⟨by rw [Int.add_mul];omega,by rw [Int.add_mul];omega,by omega,by rw [Int.add_mul];omega,D2H hn1 hn2 a3 b3 a5 b5⟩
theorem C9c {v:Int} (h:-4096<=v/\v<=4096):0<=v*v/\v*v<=16777216:=by
 refine ⟨C4g v, ?_⟩;have:=Int.mul_nonneg (a:=4096-v) (b:=4096+v) (by omega) (by omega)
 have e:(4096-v)*(4096+v)=16777216-v*v:=by grind
 omega
structure MkP (seq cap now lo:Int) (m:A6):Prop where
 sq1:1<=m.Bv
 sq2:m.Bv<=seq
 n:m.N=seq-m.Bv+1
 cap:m.N<=cap
 t0:0<=m.T
 t1:m.T<=now
 lo_:lo<=m.Bt
 mm:m.Bt<=m.Bs
 hi:m.Bs<=4096
 fit:Fit m.N m.Bt m.Bs m.S m.Q
structure MkR (o m:A6):Prop where
 sq:o.Bv<m.Bv
 t:o.T<=m.T
 mn:o.Bt<=m.Bt
 mx:m.Bs<=o.Bs
 fit:Fit (o.N-m.N) o.Bt o.Bs (o.S-m.S) (o.Q-m.Q)
def D0Z (seq:Int) (m:A6):Prop:=m.Bv=seq/\m.Bt=m.S/\m.Bs=m.S/\m.Q=m.S*m.S
structure MkL (seq cap now w lo:Int) (l:List A6):Prop where
 sq:0<=seq/\seq<=1099511627776
 each: ∀m∈l,MkP seq cap now lo m
 row:l.Pairwise MkR
 live: ∀i,i<l.length->(0<i\/l.length=1)->F7 now w (el l i).T=true
 last:0<l.length->D0Z seq (el l (l.length-1))
theorem MkP.rng {seq cap now lo:Int} {m:A6} (hc:cap<=65536) (hlo:-4096<=lo) (h:MkP seq cap now lo m):(1<=m.N/\m.N<=65536)/\(-4096<=m.Bt/\m.Bt<=4096)/\(-4096<=m.Bs/\m.Bs<=4096)/\(-268435456<=m.S/\m.S<=268435456)/\(0<=m.Q/\m.Q<=1099511627776):=by
 have h1:=h.sq1;have h2:=h.sq2;have h3:=h.n;have h4:=h.cap;have h5:=h.lo_;have h6:=h.mm;have h7:=h.hi;obtain ⟨f1,f2,f3,f4,f5⟩:=h.fit;have a:=Int.mul_le_mul_of_nonneg_left (show (-4096:Int)<=m.Bt by omega) (show 0<=m.N by omega)
 have b:=Int.mul_le_mul_of_nonneg_left (show m.Bs<=(4096:Int) by omega) (show 0<=m.N by omega)
 omega
theorem MkR.trans {seq cap now lo:Int} {a b c:A6} (ha:MkP seq cap now lo a) (hb:MkP seq cap now lo b) (hc:MkP seq cap now lo c) (h1:MkR a b) (h2:MkR b c):MkR a c:=by
 have n1:=ha.n;have n2:=hb.n;have n3:=hc.n;have s1:=h1.sq;have s2:=h2.sq;have t1:=h1.t;have t2:=h2.t;have m1:=h1.mn;have m2:=h2.mn;have x1:=h1.mx;have x2:=h2.mx;have f:=D1C (by omega) (by omega) h1.fit (C9R (by omega) h2.fit m1 x1)
 have e1:a.N-b.N+(b.N-c.N)=a.N-c.N:=by omega
 have e2:a.S-b.S+(b.S-c.S)=a.S-c.S:=by omega
 have e3:a.Q-b.Q+(b.Q-c.Q)=a.Q-c.Q:=by omega
 rw [e1,e2,e3] at f;exact ⟨by omega,by omega,by omega,by omega,f⟩
theorem B9t {l:List A6} {seq cap now w lo:Int} (hc:cap<=65536) (hlo:-4096<=lo) (h:A4o l seq cap now w lo):MkL seq cap now w lo l:=by
 obtain ⟨h1,h2,h3⟩:=h;have each: ∀i,i<l.length->MkP seq cap now lo (el l i):=fun i hi=>by
  have a:=(h2 i hi).1;have b:=(h2 i hi).2.1;unfold mk1 at a;unfold mk2 at b;have f:=(B2c (n:=(el l i).N) ⟨by omega,by omega⟩ ⟨by omega,by omega⟩ ⟨by omega,by omega⟩).1 b.2.2.2
  exact ⟨a.1.1,a.1.2,a.2.1,a.2.2.1,a.2.2.2.1,a.2.2.2.2,b.1,b.2.1,b.2.2.1,f⟩
 have adj: ∀i,i+1<l.length->MkR (el l i) (el l (i+1)):=fun i hi=>by
  have p:=each i (by omega)
  have q:=each (i+1) hi;have c:=(h2 (i+1) hi).2.2.2 (by omega)
  rw [D5k] at c;unfold mk4 at c;obtain ⟨c1,c2,c3,c4,c5⟩:=c;have r1:=p.rng hc hlo;have r2:=q.rng hc hlo;have n1:=p.n;have n2:=q.n;rw [C2 (n:=(el l i).N-(el l (i+1)).N) (by omega) (by omega),C2 (n:=(el l i).S-(el l (i+1)).S) (by omega) (by omega),C2 (n:=(el l i).Q-(el l (i+1)).Q) (by omega) (by omega)] at c5
  exact ⟨c1,c2,c3,c4,(B2c ⟨by omega,by omega⟩ r1.2.1 r1.2.2.1).1 c5⟩
 have all: ∀d i,i+d+1<l.length->MkR (el l i) (el l (i+d+1)):=by
  intro d
  induction d with
  |zero=>intro i hi;exact adj i hi
  |succ d ih=>
   intro i hi;exact MkR.trans (each i (by omega)) (each (i+d+1) (by omega)) (each _ hi) (ih i (by omega)) (adj (i+d+1) hi)
 refine ⟨h1,fun m hm=> ?_, ?_,fun i hi hh=>(h2 i hi).2.2.1 hh,fun h0=> ?_⟩
 ·obtain ⟨i,hi,rfl⟩:=A1Q hm;exact each i hi
 ·rw [List.pairwise_iff_getElem];intro i j hi hj hij;have:=all (j-i-1) i (by omega)
  rw [show i+(j-i-1)+1=j by omega,L6 hi,L6 hj] at this
  exact this
 ·have c:=h3 h0;unfold B6G at c;have r:=(each (l.length-1) (by omega)).rng hc hlo
  have q1:(el l (l.length-1)).S*(el l (l.length-1)).S=(el l (l.length-1)).Bt*(el l (l.length-1)).Bt:=by rw [c.2.1]
  have q2:=C9c r.2.1;rw [C2 (by omega) (by omega)] at c
  exact c
theorem C8G {l:List A6} {seq cap now w lo:Int} (hc:cap<=65536) (hlo:-4096<=lo) (h:MkL seq cap now w lo l):A4o l seq cap now w lo:=by
 refine ⟨h.sq,fun i hi=> ?_,fun h0=> ?_⟩
 ·have p:=h.each _ (L8 hi);have r:=p.rng hc hlo;refine ⟨⟨⟨p.sq1,p.sq2⟩,p.n,p.cap,p.t0,p.t1⟩,⟨p.lo_,p.mm,p.hi,(B2c ⟨by omega,by omega⟩ r.2.1 r.2.2.1).2 p.fit⟩,h.live i hi,fun h0=> ?_⟩
  have q:=h.each _ (L8 (show i-1<l.length by omega))
  have s:=q.rng hc hlo;have m:=List.pairwise_iff_getElem.1 h.row (i-1) i (by omega) hi (by omega)
  rw [<-L6,<-L6] at m;have n1:=p.n;have n2:=q.n;have sq:=m.sq;refine ⟨m.sq,m.t,m.mn,m.mx, ?_⟩;rw [C2 (n:=(el l (i-1)).N-(el l i).N) (by omega) (by omega),C2 (n:=(el l (i-1)).S-(el l i).S) (by omega) (by omega),C2 (n:=(el l (i-1)).Q-(el l i).Q) (by omega) (by omega)]
  exact (B2c ⟨by omega,by omega⟩ s.2.1 s.2.2.1).2 m.fit
 ·have c:=h.last h0;unfold D0Z at c;have r:=(h.each _ (L8 (show l.length-1<l.length by omega))).rng hc hlo
  have q1:(el l (l.length-1)).S*(el l (l.length-1)).S=(el l (l.length-1)).Bt*(el l (l.length-1)).Bt:=by rw [c.2.1]
  have q2:=C9c r.2.1;unfold B6G;rw [C2 (n:=(el l (l.length-1)).S*(el l (l.length-1)).S) (by omega) (by omega)]
  exact c
theorem C0u {l:List A6} {seq cap now w lo:Int} (h:MkL seq cap now w lo l):(0<l.length->(l.length:Int)<=(el l 0).N)/\(0<=cap->(l.length:Int)<=cap):=by
 have key: ∀i,i<l.length->(el l 0).Bv+i<=(el l i).Bv:=by
  intro i
  induction i with
  |zero=>intro _;omega
  |succ i ih=>
   intro hi;have a:=ih (by omega)
   have m:=List.pairwise_iff_getElem.1 h.row i (i+1) (by omega) hi (by omega)
   rw [<-L6,<-L6] at m;have:=m.sq
   push_cast
   omega
 have k0:0<l.length->(l.length:Int)<=(el l 0).N:=fun h0=>by
  have a:=key (l.length-1) (by omega)
  have p:=h.each _ (L8 h0);have q:=h.each _ (L8 (show l.length-1<l.length by omega))
  have n:=p.n;have s:=q.sq2;omega
 refine ⟨k0,fun hc=> ?_⟩;rcases Nat.eq_zero_or_pos l.length with g|g
 ·omega
 ·have a:=k0 g;have b:=(h.each _ (L8 g)).cap;omega
section
variable {β:Type}
end
theorem B7n {H:List A6->Prop} (hH:∀x l,H (x::l)->H l) (n w:Int): ∀ {l:List A6},H l->H (A2A n w l)
 | [],h=>h
 | [x],h=>by
  unfold A2A;split
  ·exact h
  ·exact hH x [] h
 |x::y::l,h=>by
  unfold A2A;split
  ·exact h
  ·exact B7n hH n w (hH x _ h)
theorem B8x {seq cap now w lo t:Int} (h1:now<=t) (h2:t<=16777216): ∀ {l:List A6},MkL seq cap now w lo l->MkL seq cap t w lo (A2A t w l)
 | [],h=>⟨h.sq,fun m hm=>(by cases hm),List.Pairwise.nil,fun i hi=>(by simp [A2A] at hi),fun h0=>(by simp [A2A] at h0)⟩
 | [x],h=>by
  have up: ∀m∈ [x],MkP seq cap t lo m:=fun m hm=>by
   have p:=h.each m hm;have:=p.t1;exact { p with t1:=by omega}
  unfold A2A;split
  ·rename_i hx;refine ⟨h.sq,up,h.row,fun i hi _=> ?_,h.last⟩;have:i=0:=by simp at hi;omega
   subst this;exact hx
  ·exact ⟨h.sq,fun m hm=>(by cases hm),List.Pairwise.nil,fun i hi=>(by simp at hi),fun h0=>(by simp at h0)⟩
 |x::y::l,h=>by
  unfold A2A;split
  ·rename_i hy;refine ⟨h.sq,fun m hm=> ?_,h.row,fun i hi hx=> ?_,h.last⟩
   ·have p:=h.each m hm;have:=p.t1;exact { p with t1:=by omega}
   ·have i0:0<i:=by
     rcases hx with g|g
     ·exact g
     ·simp at g
    have hm:=h.each _ (L8 hi);have hy' :=(A1c _ _ _).1 hy;have ht:y.T<=(el (x::y::l) i).T:=by
     rcases Nat.eq_or_lt_of_le i0 with e|e
     ·rw [<-e];exact Int.le_refl _
     ·have m:=List.pairwise_iff_getElem.1 h.row 1 i (by simp) hi e
      rw [<-L6,<-L6] at m;exact m.t
    have t1:=hm.t1;have t0:=hm.t0;exact (A1c _ _ _).2 ⟨hy'.1,hy'.2.1,⟨t0,by omega⟩,by omega,by omega⟩
  ·refine B8x h1 h2 ⟨h.sq,fun m hm=>h.each m (List.mem_cons_of_mem x hm),(List.pairwise_cons.1 h.row).2,fun i hi hx=> ?_,fun h0=> ?_⟩
   ·exact h.live (i+1) (by simp only [D4W] at hi⊢;omega) (.inl (by omega))
   ·exact h.last (by simp)
end Go.Win
set_option maxHeartbeats 4000000
namespace Go.Win
open Go.Vc Go.Dec
def C9r (agg k:Int) (u w:A6):Prop:=w.Bv-u.Bv>1->M3 u w agg k=true
theorem C7v {x:C9} (h:B3R x):MkL x.Bv x.Cap x.Now x.W (S8 x.Bo) x.Bf/\(∀i,i+2<x.Bf.length->M3 (el x.Bf i) (el x.Bf (i+2)) x.Bo x.K=false)/\ ∀i,i+1<x.Bf.length->C9r x.Bo x.K (el x.Bf i) (el x.Bf (i+1)):=by
 obtain ⟨h1,h2,h3,h4⟩:=h;refine ⟨B9t h2.2.1.2 (A3O _) h3,fun i hi=> ?_,fun i hi hg=> ?_⟩
 ·have:=(h4 (i+2) hi).1 (by omega)
  rw [D5k] at this;exact D4T.2 this
 ·have:=(h4 (i+1) hi).2 (by omega)
  rw [D5k] at this;exact this hg
theorem D3Y {x:C9} (ha:1<=x.Bo/\x.Bo<=4) (hp:A7h x.W x.K x.Cap x.Now) (hm:MkL x.Bv x.Cap x.Now x.W (S8 x.Bo) x.Bf) (h2:∀i,i+2<x.Bf.length->M3 (el x.Bf i) (el x.Bf (i+2)) x.Bo x.K=false) (h1:∀i,i+1<x.Bf.length->C9r x.Bo x.K (el x.Bf i) (el x.Bf (i+1))):B3R x:=by
 refine ⟨ha,hp,C8G hp.2.1.2 (A3O _) hm,fun i hi=>⟨fun hg hn=> ?_,fun hg=> ?_⟩⟩
 ·obtain ⟨j,rfl⟩: ∃j,i=j+2:=⟨i-2,by omega⟩
  rw [D5k,h2 j hi] at hn;cases hn
 ·obtain ⟨j,rfl⟩: ∃j,i=j+1:=⟨i-1,by omega⟩
  rw [D5k];exact h1 j hi
theorem C05 {x:C9} {t:Int} (h:B3R x) (h1:x.Now<=t) (h2:t<=16777216) (hl:x.Bf.length<=1048576):
  ∃M,A5K x t=some (⟨x.Bo,x.W,x.K,x.Cap,t,x.Bv,M⟩,0)/\B3R ⟨x.Bo,x.W,x.K,x.Cap,t,x.Bv,M⟩/\M.length<=1048576:=by
 obtain ⟨a,b,c⟩:=C7v h;have hp:=h.2.1;refine ⟨A2A t x.W x.Bf, ?_,D3Y h.1 ⟨hp.1,hp.2.1,⟨by have:=hp.2.2.1;show 0<=t;omega,h2⟩,hp.2.2.2⟩ (B8x h1 h2 a) ?_ ?_,Nat.le_trans (B6l _ _ _) hl⟩
 ·unfold A5K;rw [A4F x (I3 hl),D4D,O8 h];simp only [D5g,D4G];rw [A7o t hp.2.2.1,A3x h1 h2];simp only [D5g,D4G];unfold A1d;rw [B6F t x.W hl]
  rfl
 ·exact B7n (H:=fun l=> ∀i,i+2<l.length->M3 (el l i) (el l (i+2)) x.Bo x.K=false) (fun y l hH i hi=>hH (i+1) (by simp only [D4W];omega)) t x.W b
 ·exact B7n (H:=fun l=> ∀i,i+1<l.length->C9r x.Bo x.K (el l i) (el l (i+1))) (fun y l hH i hi=>hH (i+1) (by simp only [D4W];omega)) t x.W c
theorem C06 {x:D1} {t:Int} (h:B8K x) (h1:x.Now<=t) (h2:t<=16777216) (hl:x.Bf.length<=1048576):
  ∃M,A5N x t=some (⟨x.W,x.K,x.Cap,t,x.Bv,M⟩,0)/\B8K ⟨x.W,x.K,x.Cap,t,x.Bv,M⟩/\M.length<=1048576:=by
 obtain ⟨hp,hm,hc⟩:=h;have a:=B9t hp.2.1.2 (by decide) hm
 refine ⟨A2A t x.W x.Bf, ?_,⟨⟨hp.1,hp.2.1,⟨by have:=hp.2.2.1;show 0<=t;omega,h2⟩,hp.2.2.2⟩,C8G hp.2.1.2 (by decide) (B8x h1 h2 a), ?_⟩,Nat.le_trans (B6l _ _ _) hl⟩
 ·unfold A5N;rw [A4G x (I3 hl),D4D,O8 ⟨hp,hm,hc⟩];simp only [D5g,D4G];rw [A7o t hp.2.2.1,A3x h1 h2];simp only [D5g,D4G];unfold A1d;rw [B6F t x.W hl]
  rfl
 ·have:=B7n (H:=fun l=> ∀i,i+2<l.length-> ¬B4e (el l i) (el l (i+2)) x.K) (fun y l hH i hi=>hH (i+1) (by simp only [D4W];omega)) t x.W (l:=x.Bf) (fun i hi=>by
   have:=hc (i+2) (by omega) hi
   rw [D5k] at this;exact this)
  intro i hi hj;obtain ⟨j,rfl⟩: ∃j,i=j+2:=⟨i-2,by omega⟩
  rw [D5k];exact this j hj
end Go.Win
set_option maxHeartbeats 4000000
namespace Go.Win
open Go.Vc Go.Dec
instance {a b:A2}:TS (A32 a b) (H7 a/\H7 b) (fun r=>H7 r.1):=⟨fun ⟨h1,h2⟩=>by
 refine ⟨_,B5m h1 h2, ?_⟩;split
 ·exact Y9 (by unfold H7 at h1 h2;unfold wv;omega) (by assumption)
 ·show H7 ⟨0,0⟩;unfold H7;simp⟩
instance {a b:A2}:TS (A1Z a b) (H7 a/\H7 b) (fun r=>H7 r.1):=⟨fun ⟨h1,h2⟩=>by
 refine ⟨_,A9p h1 h2, ?_⟩;split
 ·exact Y9 (B9v h1 h2) (by assumption)
 ·show H7 ⟨0,0⟩;unfold H7;simp⟩
instance {n k:Int}:TS (B2L n k) ((0<=n/\n<18446744073709551616)/\0<=k/\k<=9223372036854775807) (fun r=>H7 r.1):=⟨fun ⟨hn,hk⟩=>by
 unfold B2L;obtain ⟨m,rfl⟩:=Int.eq_ofNat_of_zero_le hk.1;have e1:=C2J hn m (A2.mk 0 1) (by omega) C3L
 have:T (A6H n (m:Int) 0 1) fun r=>H7 r.1:=⟨_,e1,C5R hn m _ C3L⟩;have z:H7 ⟨0,0⟩:=by unfold H7;simp
 have o:=C3L
 repeat' first
  |exact this
  |refine yC (fun _=> ?_) (fun _=> ?_)
  |refine yI ?_
  |assumption⟩
theorem C9w (x:E0) (v:Int) (hw:∀w∈x.Ag,H7 w) (hl:x.Ag.length<=1048576):T (A9b x v) fun r=>r.1.Ag.length<=x.Ag.length/\ ∀w∈r.1.Ag,H7 w:=by
 have no: ∀w∈([]:List A2),H7 w:=fun w h=>by cases h
 have this:TS (A9F x v (List.replicate ((x.Ag.length:Int)).toNat (A2.mk 0 0)) 0) True (fun r=>r.1.Ag.length<=x.Ag.length/\ ∀w∈r.1.Ag,H7 w):=⟨fun _=>by
  unfold A9F;refine yL (fun s=>0<=s.2/\s.2<=x.Ag.length/\s.1.length=x.Ag.length/\ ∀w∈s.1,H7 w) (fun s=>x.Ag.length-s.2.toNat)
   ⟨Int.le_refl _,by simp,by simp,fun w h=>by rw [List.eq_of_mem_replicate h];unfold H7;simp⟩ fun s ⟨h1,h2,h3,h4⟩=> ?_
  unfold B2o;simp only [T9 s.2 (by omega),D5D,D5j]
  have o1:=B3h (U8 v);have o2:=U8 (A1 (A1 (x.Now-x.Bj)+1));refine yC (fun h=>yB (yS ⟨o2,h1,by omega⟩ fun p hp=>yB (yS ⟨hp,o1⟩ fun q hq=> ?_))) (fun h=>yP (yI ⟨by show s.1.length<=_;omega,h4⟩))
  rw [D4F] at h;refine yB (yX ⟨h1,h⟩ fun hm=>yB (yS ⟨hw _ hm,hq⟩ fun a ha=> ?_));have:=D2a (s.2).toNat h4 ha;exact yT⟩
 unfold A9b;rw [A6U x hw];exact yT
end Go.Win
set_option maxHeartbeats 4000000
namespace Go.Win
open Go.Vc Go.Dec
theorem C7L (x:F1) (v:Int) (hl:x.Bn.length<=1048576):T (A7u x v) fun r=>r.1.Bn.length<=x.Bn.length:=by
 unfold A7u;rw [A5t x (I3 hl)]
 by_cases hv:C0y x
 ·have:=hv.1.1;exact yT
 ·rw [J1 hv];exact yT
end Go.Win
set_option maxHeartbeats 4000000
namespace Go.Win
open Go.Vc Go.Dec
def sV (m:Bool) (v:Int):Int:=if m then v else-v
theorem C9C (m:Bool) (a b:Int):W6 m a b=decide (sV m b<=sV m a):=by
 cases m
 ·show decide (a<=b)=_;unfold sV;exact decide_eq_decide.2 (by simp)
 ·show decide (a>=b)=_;unfold sV;exact decide_eq_decide.2 (by simp)
def B85 (m:Bool) (L:List A8) (i j:Nat):Prop:=
 i≠j/\(el L i).T<=(el L j).T/\sV m (el L i).V<=sV m (el L j).V/\(¬((el L i).T=(el L j).T/\(el L i).V=(el L j).V)\/j<i)
noncomputable def C2T (m:Bool) (L:List A8) (i:Nat):Bool:=bOf (∀j,j<L.length-> ¬B85 m L i j)
structure DqP (m:Bool) (I:List A8) (now:Int):Prop where
 T: ∀i j,i<j->j<I.length->(el I i).T<(el I j).T
 V: ∀i j,i<j->j<I.length->sV m (el I j).V<sV m (el I i).V
 now: ∀i,i<I.length->(el I i).T<=now
theorem D02 {x:B8} (h:B2k x):DqP x.Bs x.Bb x.Now:=by
 have hs:=h.2;have step: ∀i,i+1<x.Bb.length->(el x.Bb i).T<(el x.Bb (i+1)).T/\sV x.Bs (el x.Bb (i+1)).V<sV x.Bs (el x.Bb i).V:=fun i hi=>by
  obtain ⟨g1,g2⟩:=(hs (i+1) hi).2 (by omega)
  rw [D5k] at g1 g2;rw [C9C,D4U] at g2;omega
 have key: ∀d i,i+d+1<x.Bb.length->(el x.Bb i).T<(el x.Bb (i+d+1)).T/\sV x.Bs (el x.Bb (i+d+1)).V<sV x.Bs (el x.Bb i).V:=by
  intro d
  induction d with
  |zero=>intro i hi;exact step i hi
  |succ d ih=>
   intro i hi;have h1:=ih i (by omega)
   have h2:=step (i+d+1) (by omega)
   rw [show i+(d+1)+1=i+d+1+1 by omega]
   omega
 refine ⟨fun i j hij hj=> ?_,fun i j hij hj=> ?_,fun i hi=> ?_⟩
 ·have:=(key (j-i-1) i (by omega)).1
  rw [show i+(j-i-1)+1=j by omega] at this
  exact this
 ·have:=(key (j-i-1) i (by omega)).2
  rw [show i+(j-i-1)+1=j by omega] at this
  exact this
 ·have:=(A1c _ _ _).1 (hs i hi).1.1;omega
theorem C4P (x:B8) (v:Int) (hl:x.Bb.length+1<=1048576):T (A4k x v) fun r=>r.1.Bb.length<=x.Bb.length+1:=by
 unfold A4k;rw [A3M x (I3 (by omega))]
 have:T (A3j x v x.Bb) fun r=>r.1.Bb.length<=x.Bb.length+1:=by
  unfold A3j;refine yL (fun l=>l.length<=x.Bb.length) (fun l=>l.length) (D5l _) fun l hl=> ?_;unfold A7Z
  by_cases h0:0<l.length
  ·have e:=T9 (l.length:Int) (by omega)
   simp only [e,List.nil_append];exact yT
  ·simp only [List.nil_append];exact yT
 have i:TS (A3j x v x.Bb) True (fun r=>r.1.Bb.length<=x.Bb.length+1):=⟨fun _=>this⟩;exact yT
end Go.Win
set_option maxHeartbeats 4000000
namespace Go.Win
open Go.Vc Go.Dec
theorem D0t {x:E0} (h:C0z x):x.Ag.length<=5:=by have:=h.1;omega
theorem C33 {x:E0} {t:Int} (h:C0z x) (hw:∀w∈x.Ag,H7 w) (h1:x.Now<=t) (h2:t<=16777216):
  A8b x t=some (⟨x.P,x.Bj,t,x.Ag⟩,0)/\C0z ⟨x.P,x.Bj,t,x.Ag⟩:=by
 have hl:=D0t h;refine ⟨?_,⟨⟨h.1.1,⟨by have:=h.1.2.1;show 0<=t;omega,h2⟩,⟨h.1.2.2.1.1,by have:=h.1.2.2.1;show x.Bj<=t;omega⟩,h.1.2.2.2⟩,fun i hi hiP=> ?_⟩⟩
 ·unfold A8b;rw [A6U x hw,D4D,O8 h];simp only [D5g,D4G];rw [A7o t h.1.2.1,A3x h1 h2];simp only [D5g,D4G];rw [Q5 (by rw [D4F,D49];omega),List.nil_append]
 ·obtain ⟨a,b⟩:=h.2 i hi hiP;refine ⟨a,fun hlt=> ?_⟩;have hiP' :(i:Int)<=x.P:=hiP;have hM:x.Ag.length=x.P+1:=h.1.2.2.2;have m0:=(A7n (hw _ (L8 (show i-1<x.Ag.length by omega)))).1
  have hle:=Int.mul_le_mul_of_nonneg_left (show x.Now-x.Bj+1<=t-x.Bj+1 by omega) m0
  have hlt' :wv (el x.Ag (i-1))*(t-x.Bj+1)<340282366920938463463374607431768211456:=hlt;have:=b (by omega)
  show wv (el x.Ag i)<=wv (el x.Ag (i-1))*(t-x.Bj+1);omega
theorem C2q {x:F1} {t:Int} (h:C0y x) (h1:x.Now<=t) (h2:t<=16777216):
  ∃L,A6S x t=some (⟨t,L⟩,0)/\C0y ⟨t,L⟩/\L.length=x.Bn.length:=by
 have hn:=h.1;have hl:x.Bn.length<=1048576:=by omega
 obtain ⟨d,hd⟩:=Int.eq_ofNat_of_zero_le (show 0<=t-x.Now by omega)
 refine ⟨A78 x.Bn d, ?_,⟨⟨by rw [B6H];exact hn.1,⟨by show 0<=t;omega,h2⟩⟩,fun i hi=> ?_⟩,B6H _ _⟩
 ·unfold A6S;rw [A5t x (I3 hl),D4D,O8 h];simp only [D5g,D4G];rw [A7o t hn.2,A3x h1 h2];have ew:A1 (t-x.Now)=t-x.Now:=by rw [C2]<;>omega
  have em:A0h (A1 (t-x.Now)) ((([]:List Int)++x.Bn).length:Int)=((min d x.Bn.length:Nat):Int):=by
   rw [ew,C92 (by omega),List.nil_append,hd,D5j]
  simp only [D5g,D4G];rw [em,D5j,List.nil_append];have e1:laid (laid x.Bn (min d x.Bn.length) (x.Bn.take (x.Bn.length-min d x.Bn.length))) 0 (List.replicate (min d x.Bn.length) 0)=A78 x.Bn d:=by
   have h1:laid x.Bn (min d x.Bn.length) (x.Bn.take (x.Bn.length-min d x.Bn.length))=x.Bn.take (min d x.Bn.length)++x.Bn.take (x.Bn.length-min d x.Bn.length):=by
    unfold laid;rw [List.drop_eq_nil_of_le (by rw [D45];omega),List.append_nil]
   rw [h1];unfold laid A78;rw [List.take_zero,List.nil_append,D5D,Nat.zero_add]
   congr 1
   have:(x.Bn.take (min d x.Bn.length)).length=min d x.Bn.length:=by rw [D45];omega
   conv=>lhs;rw [<-this]
   rw [this,List.drop_append_of_le_length (by omega),List.drop_eq_nil_of_le (by omega),List.nil_append]
  have hl1:(laid x.Bn (min d x.Bn.length) (x.Bn.take (x.Bn.length-min d x.Bn.length))).length=x.Bn.length:=by
   unfold laid;simp only [D4J,D45,D5b];omega
  rw [e1,Q5 (by rw [D4F,D49];omega),Q5 (by rw [D4F];omega),Q5 (by rw [D4F,hl1];omega)]
 ·have hi' :i<x.Bn.length:=by rw [<-B6H x.Bn d];exact hi
  have e:el (A78 x.Bn d) i=if d<=i then x.Bn.getD (i-d) 0 else 0:=by
   have:=C8y x.Bn d i hi';rw [A5n hi] at this;exact D5m this
  show (0<=el (A78 x.Bn d) i/\el (A78 x.Bn d) i<=1099511627776)/\(t<(i:Int)->el (A78 x.Bn d) i=0);rw [e]
  by_cases hc:d<=i
  ·rw [if_pos hc];have:=h.2 (i-d) (by omega)
   have eg:x.Bn.getD (i-d) 0=el x.Bn (i-d):=rfl;rw [eg];refine ⟨this.1,fun hlt=>this.2 (by omega)⟩
  ·rw [if_neg hc];exact ⟨by decide,fun _=>rfl⟩
theorem B9g {t w:Int} (ht:0<=t/\t<=16777216) (hw:1<=w/\w<=1048576): ∀ {l:List A8},l.Pairwise (fun a b=>a.T<b.T)->(∀p∈l,0<=p.T/\p.T<=t)-> ∀x∈l.dropWhile (fun p=> !F7 t w p.T),F7 t w x.T=true
 | [],_,_,x,hx=>by cases hx
 |a::l,hp,hr,x,hx=>by
  rw [List.dropWhile_cons] at hx;have h2:=List.pairwise_cons.1 hp;cases h:F7 t w a.T with
  |false=>
   rw [h] at hx;exact B9g ht hw h2.2 (fun p hp=>hr p (by simp [hp])) x hx
  |true=>
   rw [h] at hx;rcases List.mem_cons.1 hx with e|e
   ·rw [e];exact h
   ·have:=h2.1 x e;have hl:=(A1c _ _ _).1 h;have:=hr x (by simp [e])
    exact (A1c _ _ _).2 ⟨ht,hw,⟨this.1,by omega⟩,by omega,this.2⟩
theorem C5C {α:Type} {H:List α->Prop} (hH:∀x l,H (x::l)->H l) (p:α->Bool): ∀ {l:List α},H l->H (l.dropWhile p)
 | [],h=>h
 |x::l,h=>by
  rw [List.dropWhile_cons];cases p x with
  |true=>exact C5C hH p (hH x l h)
  |false=>exact h
def C9s (m:Bool) (l:List A8):Prop:= ∀i,i+1<l.length->(el l i).T<(el l (i+1)).T/\W6 m (el l (i+1)).V (el l i).V=false
theorem D3Q {x:B8} (h:B2k x):C9s x.Bs x.Bb:=fun i hi=>by
 have:=(h.2 (i+1) hi).2 (by omega)
 rw [D5k] at this;exact this
theorem D3P {x:B8} (hp:(1<=x.W/\x.W<=1048576)/\(1<=x.Cap/\x.Cap<=65536)/\(0<=x.Now/\x.Now<=16777216)) (hc:(x.Bb.length:Int)<=x.Cap) (h1:∀p∈x.Bb,F7 x.Now x.W p.T=true/\ -4096<=p.V/\p.V<=4096) (h2:C9s x.Bs x.Bb):B2k x:=
 ⟨⟨hp,hc⟩,fun i hi=>⟨h1 _ (L8 hi),fun h0=>by
  obtain ⟨j,rfl⟩: ∃j,i=j+1:=⟨i-1,by omega⟩
  rw [D5k];exact h2 j hi⟩⟩
theorem C76 {x:B8} (h:B2k x):x.Bb.length<=65536:=by have:=h.1;omega
theorem B9U {x:B8} {t:Int} (h:B2k x) (h1:x.Now<=t) (h2:t<=16777216):
  ∃L,A4y x t=some (⟨x.Bs,x.W,x.Cap,t,L⟩,0)/\B2k ⟨x.Bs,x.W,x.Cap,t,L⟩:=by
 have hl:=C76 h;have hp:=h.1.1;have hc:=h.1.2;have hdq:=D02 h;have pw:x.Bb.Pairwise (fun a b=>a.T<b.T):=by
  rw [List.pairwise_iff_getElem];intro i j hi hj hij;have:=hdq.T i j hij hj;rw [L6 hi,L6 hj] at this;exact this
 have rng: ∀p∈x.Bb,0<=p.T/\p.T<=t:=fun p hp=>by
  obtain ⟨i,hi,rfl⟩:=A1Q hp;have:=(A1c _ _ _).1 (h.2 i hi).1.1;omega
 have ht:0<=t/\t<=16777216:=by omega
 have hd:=A7c (fun p:A8=> !F7 t x.W p.T) x.Bb;refine ⟨x.Bb.dropWhile (fun p=> !F7 t x.W p.T), ?_,D3P ⟨hp.1,hp.2.1,ht⟩ (by show ((x.Bb.dropWhile _).length:Int)<=x.Cap;omega) (fun p hp' => ?_) (C5C (H:=C9s x.Bs) (fun y l hH i hi=>hH (i+1) (by simp only [D4W];omega)) _ (D3Q h))⟩
 ·unfold A4y;rw [A3M x (I3 (by omega)),D4D,O8 h]
  simp only [D5g,D4G];rw [A7o t hp.2.2,A3x h1 h2];simp only [D5g,D4G];unfold A2E;rw [B27 (fun p:A8=> !F7 t x.W p.T) (fun v=>ck (decide ((([]:List A8).length+v.length)*16<=140737488355328))<|some ((B8.mk x.Bs x.W x.Cap t (([]:List A8)++v)),(0:Int)))]
  ·rw [D2J (by rw [D49];omega),List.nil_append]
  ·intro y l hy;unfold A12;rw [B1U,I0,A7f,D4D,A04];simp only [];rw [hy,Bool.and_self,D4H,Q5 (by rw [D4F,D4W];omega)]
   rfl
  ·intro y l hy;unfold A12;rw [B1U,I0,A7f,D4D,A04];simp only [];rw [hy,Bool.and_false,D4G]
  ·rfl
 ·refine ⟨B9g ht hp.1 pw rng _ hp', ?_⟩;obtain ⟨i,hi,rfl⟩:=A1Q (A83 hp');exact (h.2 i hi).1.2
end Go.Win
set_option maxHeartbeats 4000000
namespace Go.Win
open Go.Vc Go.Dec
instance {l:List D9} {m:Int}:TS (A2d l m) (l.length<=1048577) (fun r=>r.length<=l.length):=⟨fun hl=>by
 unfold A2d A6B
 by_cases h0:2<=l.length
 ·have e:A1 ((l.length:Int)-2)=(l.length:Int)-2:=by rw [C2]<;>omega
  rw [e];refine yL (fun s=>0<=s.2/\s.2+2<=s.1.length/\s.1.length<=l.length\/s.2= -1/\s.1.length<=l.length) (fun s=>(s.2+1).toNat) (.inl ⟨by show 0<=(l.length:Int)-2;omega,by show (l.length:Int)-2+2<=(l.length:Int);omega,D5l _⟩) fun s hs=> ?_
  unfold A0j;refine yC (fun h=> ?_) (fun _=>yP (yI (by omega)))
  rw [D4F] at h;simp only [T9 s.2 (by omega)]
  exact yT
 ·have e:decide (A1 ((l.length:Int)-2)>=1)=false:=by rw [C2 (by omega) (by omega)];exact D4K (by omega)
  refine ⟨l,S3 ?_,D5l _⟩;unfold A0j;simp only [e];rfl⟩
theorem C4Q (x:B9) (v:Int) (hl:x.Av.length+1<=1048576):T (A5P x v) fun r=>r.1.Av.length<=x.Av.length+1:=by
 unfold A5P;rw [A3Z]
 by_cases hv:C0A x
 ·have hk:=hv.1.1.1;have j8: ∀(i d:Int),0<=i->i<=x.Av.length->TS (A1q x v i d) True (fun r=>r.1.Av.length<=x.Av.length+1):=fun i d h1 h2=>⟨fun _=>by
   unfold A1q A3t A22;simp only [List.nil_append];exact yT⟩
  have:TS (A6k x v 0) True (fun r=>r.1.Av.length<=x.Av.length+1):=⟨fun _=>by
   unfold A6k;refine yL (fun i=>0<=i/\i<=x.Av.length) (fun i=>x.Av.length-i.toNat) ⟨Int.le_refl _,by simp⟩ fun i hi=> ?_
   have:=fun d=>j8 i d hi.1 hi.2;unfold A97;simp only [T9 i (by omega)]
   exact yT⟩
  exact yT
 ·rw [J1 hv];exact yT
end Go.Win
set_option maxHeartbeats 4000000
namespace Go.Win
open Go.Vc Go.Dec
end Go.Win
set_option maxHeartbeats 4000000
namespace Go.Win
open Go.Vc Go.Dec
end Go.Win
set_option maxHeartbeats 4000000
namespace Go.Win
open Go.Vc Go.Dec
def A82 (l:List B4) (n:Int) (j:Nat):Prop:=(J0 l (j+1)).Bs+(J0 l j).Bt<2*n
def C3g (e:B4) (n:Int):Int:=X8 (n-e.Bt) (e.Bs-n)
theorem D1J (a b:Int):a<=X8 a b/\b<=X8 a b:=by
 show a<=(if b>a then b else a)/\b<=(if b>a then b else a)
 split<;>omega
theorem D1E {a b c:Int}:X8 a b<c↔a<c/\b<c:=by
 show (if b>a then b else a)<c↔_
 split<;>omega
section
variable {l:List B4} {N:Int} (h:OkR l N)
include h
theorem D1d: ∀ {i j:Nat},i<j->j<l.length->(J0 l i).V<=(J0 l j).V/\(J0 l i).Bt<(J0 l j).Bt/\(J0 l i).Bs<(J0 l j).Bs:=by
 intro i j hij hj
 induction j with
 |zero=>omega
 |succ j ih=>
  have h1:=h.up j hj;rcases Nat.lt_or_ge i j with hlt|hge
  ·have:=ih hlt (by omega)
   omega
  ·have:i=j:=by omega
   subst this;exact h1
theorem C28 {n:Int} {j:Nat} (hj:j+1<l.length):A82 l n j↔C3g (J0 l (j+1)) n<C3g (J0 l j) n:=by
 have h1:=h.up j hj;have h2:=D1J (n-(J0 l j).Bt) ((J0 l j).Bs-n);unfold A82 C3g;rw [D1E];constructor
 ·intro hc;omega
 ·rintro ⟨g1,g2⟩
  by_cases hm:X8 (n-(J0 l j).Bt) ((J0 l j).Bs-n)<=n-(J0 l j).Bt
  ·omega
  ·have:X8 (n-(J0 l j).Bt) ((J0 l j).Bs-n)=(J0 l j).Bs-n:=by
    show (if _>_ then _ else _)=_
    split
    ·rfl
    ·rename_i hh;exfalso;apply hm;show (if _>_ then _ else _)<=_
     rw [if_neg hh];omega
   omega
theorem C74 {n:Int} {j k:Nat} (hjk:j<=k) (hk:k+1<l.length) (hc:A82 l n k):A82 l n j:=by
 rcases Nat.lt_or_ge j k with hlt|hge
 ·have h1:=D1d h hlt (by omega)
  have h2:=D1d h (show j+1<k+1 by omega) hk
  unfold A82 at hc⊢;omega
 ·have:j=k:=by omega
  subst this;exact hc
omit h in
theorem D1w {n n' :Int} {j:Nat} (hn:n<=n') (hc:A82 l n j):A82 l n' j:=by
 unfold A82 at hc⊢;omega
structure B2R (l:List B4) (n:Int) (k:Nat):Prop where
 lt:k<l.length
 low: ∀j,j<k->A82 l n j
 stop:k+1<l.length-> ¬A82 l n k
omit h in
theorem B6M {n:Int} {k k' :Nat} (hk:B2R l n k) (hk':B2R l n k'):k=k' :=by
 rcases Nat.lt_trichotomy k k' with hlt|rfl|hgt
 ·exact absurd (hk'.low k hlt) (hk.stop (by have:=hk'.lt;omega))
 ·rfl
 ·exact absurd (hk.low k' hgt) (hk'.stop (by have:=hk.lt;omega))
theorem B8e {n:Int} (hn:1<=n/\n<=N) {i:Nat} (hi:i<l.length):B2u (J0 l i) n=C3g (J0 l i) n:=by
 have h1:=h.rng i hi;have h2:=h.n1;unfold B2u C3g;rw [C2 (by omega) (by omega),C2 (by omega) (by omega)]
theorem B3m {n:Int} (hn:1<=n/\n<=N) (hl:l.length<=1000000000) {f:Nat} (hf:f<l.length) (hlow:∀j,j<f->A82 l n j): ∃k,f<=k/\B2R l n k/\A1x l n (f:Int)=some (k:Int):=by
 have hm:l.length<=maxLen:=by rw [I2];omega
 unfold A1x B5Q;obtain ⟨r,hr,k,h1,h2,hQ⟩:=U5 (f:=fun s:Int=>A9d l n s)
  (fun s=> ∃k:Nat,f<=k/\k<l.length/\(∀j,j<k->A82 l n j)/\s=(k:Int))
  (fun s=>l.length-s.toNat) (fun r=> ∃k,f<=k/\B2R l n k/\r=(k:Int)) (f:Int) ⟨f,D5l _,hf,hlow,rfl⟩ (by
   rintro _ ⟨k,hfk,hk,hlw,rfl⟩;unfold A9d;have e1:A1 ((k:Int)+1)=((k+1:Nat):Int):=by rw [I2] at hm;rw [C2]<;>omega
   rw [e1]
   by_cases hlt:k+1<l.length
   ·rw [D4I (by omega:((k+1:Nat):Int)<(l.length:Int)),I0,I0,Z6 hlt,Z6 hk]
    simp only [D4D,D5e];rw [B8e h hn hlt,B8e h hn hk]
    by_cases hc:A82 l n k
    ·left;rw [D4I ((C28 h hlt).1 hc),D4H];refine ⟨_,rfl,⟨k+1,by omega,hlt,fun j hj=> ?_,rfl⟩,by show l.length-(((k+1:Nat):Int)).toNat<l.length-(k:Int).toNat;omega⟩
     exact C74 h (by omega) hlt hc
    ·right;rw [D4K (fun hx=>hc ((C28 h hlt).2 hx)),D4G];exact ⟨_,rfl,k,hfk,⟨hk,hlw,fun _=>hc⟩,rfl⟩
   ·right;rw [D4K (by omega: ¬((k+1:Nat):Int)<(l.length:Int))]
    simp only [K7,D4D,D48,D4G];exact ⟨_,rfl,k,hfk,⟨hk,hlw,fun hx=>absurd hx hlt⟩,rfl⟩)
 exact ⟨k,h1,h2,by rw [hr,hQ]⟩
end
theorem B3S {l:List B4} {N n:Int} (h:OkR l N) (hn:1<=n/\n<=N) (hl:l.length<=1000000000): ∃k,B2R l n k/\A1x l n 0=some (k:Int):=by
 have h0:0<l.length:=by
  rcases Nat.eq_zero_or_pos l.length with h0|h0
  ·have:=h.nil.1 h0;omega
  ·exact h0
 obtain ⟨k,_,h2,h3⟩:=B3m h hn hl h0 (fun j hj=>by omega)
 exact ⟨k,h2,h3⟩
end Go.Win
set_option maxHeartbeats 4000000
namespace Go.Win
open Go.Vc Go.Dec
theorem C03 {a:A2} (ha:H7 a) {b:Nat} (hb:b<2):B2w a (b:Int)=(I5 ((wv a*2+b)%340282366920938463463374607431768211456),wv a/170141183460469231731687303715884105728):=by
 obtain ⟨h,l⟩:=a;unfold H7 at ha;simp only at ha;obtain ⟨h,rfl⟩:=Int.eq_ofNat_of_zero_le ha.1;obtain ⟨l,rfl⟩:=Int.eq_ofNat_of_zero_le ha.2.2.1;unfold B2w;have s1: ∀x:Int,E7 .u64 x 1=(x*2)%18446744073709551616:=fun x=>by
  have:=B7q x (k:=1) (by decide)
  simpa using this
 have s2: ∀x:Int,F8 .u64 x 63=x/9223372036854775808:=fun x=>by
  have:=B4m x (k:=63) (by decide)
  simpa using this
 have d1:=B8D (a:=h%9223372036854775808) (b:=l/9223372036854775808) (k:=1) (by omega) (by omega)
 have d2:=B8D (a:=l%9223372036854775808) (b:=b) (k:=1) (by omega) (by omega)
 have e1:((h:Int)*2)%18446744073709551616=((h%9223372036854775808*2^1:Nat):Int):=by omega
 have e2:((l:Int)*2)%18446744073709551616=((l%9223372036854775808*2^1:Nat):Int):=by omega
 have e3:(l:Int)/9223372036854775808=((l/9223372036854775808:Nat):Int):=by omega
 simp only [s1,s2,e1,e2,e3];rw [d1,d2];unfold I5 wv;simp only
 congr 1
 ·congr 1<;>omega
 ·omega
theorem D04 {x:Int} (h0:0<=x) (h1:x<18446744073709551616):S2 .u64 x 1=x%2:=by
 show IntKind.u64.wrap _=_;obtain ⟨n,rfl⟩:=Int.eq_ofNat_of_zero_le h0;have e:(BitVec.ofInt IntKind.u64.bits (n:Int)&&&BitVec.ofInt IntKind.u64.bits 1).toNat=n%2:=by
  have hb:IntKind.u64.bits=64:=rfl;rw [hb,BitVec.toNat_and,BitVec.toNat_ofInt,BitVec.toNat_ofInt];have h2:(((n:Int)%((2^64:Nat):Int)).toNat)=n:=by omega
  have h3:((1:Int)%((2^64:Nat):Int)).toNat=2^1-1:=by decide
  rw [h2,h3,Nat.and_two_pow_sub_one_eq_mod]
 rw [e,IntKind.wrap_u64];omega
theorem B6N {m n:Nat} (h:m<=n):(2:Int)^n=2^m*2^(n-m):=by
 rw [<-Int.pow_add,show m+(n-m)=n by omega]
theorem D13 {a:A2} (ha:H7 a) {i:Nat} (hi:i<=127):C1U a (i:Int)=some ((wv a/2^i)%2):=by
 unfold H7 at ha;unfold C1U wv;have p64:(2:Int)^64=18446744073709551616:=by decide
 by_cases h:64<=i
 ·rw [D4I (by omega:(i:Int)>=64),D4H]
  have e1:A4 (A1 ((i:Int)-64))=((i-64:Nat):Int):=by rw [C2 (by omega) (by omega),L7];omega
  rw [e1,Q5 (by rw [D4F];omega),B4m _ (by omega)]
  have p:=A0v (i-64);have e2:(a.Hi*18446744073709551616+a.Lo)/2^i=a.Hi/2^(i-64):=by
   rw [B6N h,p64,<-Int.ediv_ediv_of_nonneg (by decide)]
   congr 1
   omega
  have e3:0<=a.Hi/2^(i-64):=Int.ediv_nonneg ha.1 (by omega)
  have e4:a.Hi/2^(i-64)<=a.Hi:=Int.ediv_le_self _ ha.1;rw [e2,D04 e3 (by omega)]
 ·rw [D4K (by omega: ¬(i:Int)>=64),D4G]
  have e1:A4 (i:Int)=(i:Int):=by rw [L7];omega
  rw [e1,Q5 (by rw [D4F];omega),B4m _ (by omega)]
  have p:=A0v i;have e3:0<=a.Lo/2^i:=Int.ediv_nonneg ha.2.2.1 (by omega)
  have e4:a.Lo/2^i<=a.Lo:=Int.ediv_le_self _ ha.2.2.1;rw [D04 e3 (by omega)]
  have e5:(a.Hi*18446744073709551616+a.Lo)/2^i=a.Lo/2^i+2*(a.Hi*2^(63-i)):=by
   have:a.Hi*18446744073709551616+a.Lo=a.Lo+2^i*(2*(a.Hi*2^(63-i))):=by
    have q:=B6N (m:=i) (n:=63) (by omega)
    have p63:(2:Int)^63=9223372036854775808:=by decide
    rw [p63] at q;have:(2:Int)^i*(2*(a.Hi*2^(63-i)))=2*(a.Hi*(2^i*2^(63-i))):=by grind
    rw [this,<-q];omega
   rw [this,Int.add_mul_ediv_left _ _ (by omega)]
  rw [e5]
  congr 1
  omega
theorem B5I {a b q r:Int} (h:a=q*b+r) (h0:0<=r) (h1:r<b):a/b=q/\a%b=r:=by
 rw [Int.ediv_emod_unique (by omega)]
 refine ⟨?_,h0,h1⟩;rw [h,Int.mul_comm];omega
theorem D1S (a b:Nat):B7u (a:Int) (b:Int)=some ((Nat.gcd a b:Nat):Int):=by
 unfold B7u;have c:(decide ((a:Int)<0)||decide ((b:Int)<0))=false:=by
  rw [D5d,D4U,D4U];omega
 rw [c,D4G];unfold B9y;obtain ⟨r,hr,hQ⟩:=U5 (f:=fun s:Int×Int=>B3P s.1 s.2)
  (fun s=> ∃x y:Nat,s=((x:Int),(y:Int))/\Nat.gcd x y=Nat.gcd a b)
  (fun s=>s.2.toNat) (fun r=>r=((Nat.gcd a b:Nat):Int)) ((a:Int),(b:Int)) ⟨a,b,rfl,rfl⟩ (by
   rintro _ ⟨x,y,rfl,hg⟩;simp only;unfold B3P
   by_cases h0:y=0
   ·right;subst h0;refine ⟨_,rfl, ?_⟩;rw [<-hg,Nat.gcd_zero_right]
   ·left;have c:((y:Int) !=0)=true:=by rw [bne_iff_ne];omega
    rw [c,D4H,Q5 (by rw [D4F];omega)]
    refine ⟨_,rfl,⟨y,x%y,rfl, ?_⟩, ?_⟩
    ·rw [<-hg,Nat.gcd_comm,<-Nat.gcd_rec,Nat.gcd_comm]
    ·show (((x%y:Nat):Int)).toNat<(y:Int).toNat;have:=Nat.mod_lt x (show 0<y by omega)
     omega)
 rw [hr,hQ]
theorem B7Y {x y:Int} (h0:0<=x) (h1:x<18446744073709551616) (h2:0<y):A05 0 x y=some (x/y,x%y):=by
 unfold A05;have c1:(y==(0:Int))=false:=by rw [D5t];omega
 have c2:decide (y<=0)=false:=by rw [D4U];omega
 rw [c1,c2,D4G,D4G,Q5 (by rw [D4F];omega),Q5 (by rw [D4F];omega)]
 have e1:Int.tdiv x y=x/y:=Int.tdiv_eq_ediv_of_nonneg h0;have e2:Int.tmod x y=x%y:=Int.tmod_eq_emod_of_nonneg h0;have e3:0<=x/y:=Int.ediv_nonneg h0 (by omega)
 have e4:x/y<=x:=Int.ediv_le_self _ h0;have e5:A4 (x/y)=x/y:=by rw [L7];omega
 rw [e1,e2,e5]
 rfl
theorem B4w {n:Int} (h0:0<=n) (h1:n<18446744073709551616):H7 (R6 n)/\wv (R6 n)=n:=by
 unfold H7 wv R6;simp only;omega
end Go.Win
set_option maxHeartbeats 4000000
namespace Go.Win
open Go.Vc Go.Dec
theorem C4E {a:A2} (ha:H7 a): ∃n:Nat,n<=128/\A7G a=some (n:Int)/\wv a<2^n:=by
 unfold H7 at ha;have p64:(2:Int)^64=18446744073709551616:=by decide
 unfold A7G
 by_cases hh:a.Hi=0
 ·have c:(a.Hi !=(0:Int))=false:=by rw [bne_eq_false_iff_eq];exact hh
  rw [c,D4G]
  by_cases hl:a.Lo=0
  ·refine ⟨0,by omega, ?_, ?_⟩
   ·rw [hl];rfl
   ·unfold wv;rw [hh,hl];decide
  ·obtain ⟨b,b1,b2,b3,b4,b5⟩:=A34 (x:=a.Lo) (by omega) (by omega)
   refine ⟨b,by omega, ?_, ?_⟩
   ·rw [b1];rfl
   ·unfold wv;rw [hh];omega
 ·have c:(a.Hi !=(0:Int))=true:=by rw [bne_iff_ne];exact hh
  rw [c,D4H];obtain ⟨b,b1,b2,b3,b4,b5⟩:=A34 (x:=a.Hi) (by omega) (by omega)
  refine ⟨64+b,by omega, ?_, ?_⟩
  ·rw [b1];simp only [D4D];rw [C2 (by omega) (by omega)]
   rfl
  ·unfold wv;rw [Int.pow_add,p64];have:a.Hi+1<=2^b:=by omega
   have:=Int.mul_le_mul_of_nonneg_left this (show (0:Int)<=18446744073709551616 by decide)
   omega
theorem B13 {a:A2} (ha:H7 a) {b:Nat} (hb:b<2):
  Q6 .u64 (E7 .u64 a.Hi 1) (F8 .u64 a.Lo 63)=(I5 ((wv a*2+b)%340282366920938463463374607431768211456)).Hi/\
  Q6 .u64 (E7 .u64 a.Lo 1) (b:Int)=(I5 ((wv a*2+b)%340282366920938463463374607431768211456)).Lo/\
  F8 .u64 a.Hi 63=wv a/170141183460469231731687303715884105728:=by
 have h:=C03 ha hb;unfold B2w at h;have h1:=congrArg (fun x=>x.1.Hi) h;have h2:=congrArg (fun x=>x.1.Lo) h;have h3:=congrArg (fun x=>x.2) h;exact ⟨h1,h2,h3⟩
theorem D3s {a:A2} (ha:H7 a):E7 .u64 a.Lo 1=(I5 ((wv a*2)%340282366920938463463374607431768211456)).Lo:=by
 have:=B7q a.Lo (k:=1) (by decide)
 have e:E7 .u64 a.Lo 1=(a.Lo*2)%18446744073709551616:=by simpa using this
 unfold H7 at ha;rw [e];unfold I5 wv;simp only;omega
theorem B2N {a b:A2} (ha:H7 a) (hb:H7 b) (h0:0<wv b):A1Y a b=some (I5 (wv a/wv b),I5 (wv a%wv b),true):=by
 have ra:=A7n ha;have rb:=A7n hb;obtain ⟨n0,hn0,hbits,hAn⟩:=C4E ha;have hne:N9 b=false:=by
  unfold wv at h0;unfold H7 at hb;unfold N9;simp only [D5u,D5t];omega
 unfold A1Y;rw [hne,hbits];simp only [D4G,D4D];unfold B8q
 generalize hA:wv a=A at*
 generalize hB:wv b=B at*
 have e0:A1 ((n0:Int)-1)=(n0:Int)-1:=by rw [C2]<;>omega
 rw [e0];obtain ⟨r,hr,hQ⟩:=U5 (f:=fun s:Int×Int×Int×Int×Int=>B2J a b s.1 s.2.1 s.2.2.1 s.2.2.2.1 s.2.2.2.2)
  (fun s=> ∃k:Nat,k<=n0/\s=((k:Int)-1,(I5 (A/2^k/B)).Hi,(I5 (A/2^k/B)).Lo,(I5 (A/2^k%B)).Hi,(I5 (A/2^k%B)).Lo))
  (fun s=>(s.1+1).toNat) (fun r=>r=(I5 (A/B),I5 (A%B),true)) ((n0:Int)-1,0,0,0,0) ⟨n0,D5l _,by
   have:A/2^n0=0:=Int.ediv_eq_zero_of_lt ra.1 hAn;rw [this];simp [I5]⟩ (by
   rintro _ ⟨k,hk,rfl⟩;simp only;unfold B2J;cases k with
   |zero=>
    right;rw [D4K (by omega: ¬(((0:Nat):Int)-1>=0)),D4G]
    refine ⟨_,rfl, ?_⟩;simp only [Int.pow_zero,Int.ediv_one]
   |succ i=>
    left;have e0:(((i+1:Nat):Int)-1)=(i:Int):=by omega
    have hbit:B8W a (i:Int)=some ((wv a/2^i)%2):=D13 ha (by omega)
    rw [e0,D4I (by omega:(i:Int)>=0),D4H,hbit,hA]
    simp only [D4D];have hA2:A/2^(i+1)=A/2^i/2:=by
     rw [Int.pow_succ,Int.ediv_ediv_of_nonneg (by have:=A0v i;omega)]
    have hAi0:0<=A/2^i:=Int.ediv_nonneg ra.1 (by have:=A0v i;omega)
    have hAi1:A/2^i<=A:=Int.ediv_le_self _ ra.1;rw [hA2]
    generalize hNd:A/2^i=N at*
    obtain ⟨β,hβ⟩:=Int.eq_ofNat_of_zero_le (show 0<=N%2 by omega)
    have hβ2:β<2:=by omega
    have hR0:0<=N/2%B:=Int.emod_nonneg _ (by omega)
    have hR1:N/2%B<B:=Int.emod_lt_of_pos _ h0;have hQ0:0<=N/2/B:=Int.ediv_nonneg (by omega) (by omega)
    have hQ1:N/2/B<=N/2:=Int.ediv_le_self _ (by omega)
    have hQR:=Int.mul_ediv_add_emod (N/2) B
    generalize hRR:N/2%B=R at*
    generalize hQQ:N/2/B=Q at*
    have hN:N=(2*Q)*B+(2*R+β):=by
     have:B*Q=Q*B:=Int.mul_comm _ _;have:2*Q*B=2*(Q*B):=Int.mul_assoc _ _ _;omega
    have oR:H7 (I5 R):=Y9 hR0 (by omega)
    have oQ:H7 (I5 Q):=Y9 hQ0 (by omega)
    obtain ⟨d1,d2,d3⟩:=B13 oR hβ2;rw [X7] at d1 d2 d3;rw [hβ,d1,d2,d3];have hX0:0<=(R*2+β)%340282366920938463463374607431768211456:=by omega
    have hX1:(R*2+β)%340282366920938463463374607431768211456<340282366920938463463374607431768211456:=by omega
    have oX:=Y9 hX0 hX1;have hc:R1 ⟨(I5 ((R*2+β)%340282366920938463463374607431768211456)).Hi,(I5 ((R*2+β)%340282366920938463463374607431768211456)).Lo⟩ b=if (R*2+β)%340282366920938463463374607431768211456<B then-1 else if (R*2+β)%340282366920938463463374607431768211456=B then 0 else 1:=by
     have:=A8A oX hb;rw [X7,hB] at this;exact this
    simp only [hc];have ew:A1 ((i:Int)-1)=(i:Int)-1:=by rw [C2]<;>omega
    by_cases hge:B<=2*R+β
    ·have c1:((R/170141183460469231731687303715884105728==1)||decide ((if (R*2+β)%340282366920938463463374607431768211456<B then (-1:Int) else if (R*2+β)%340282366920938463463374607431768211456=B then 0 else 1)>=0))=true:=by
      rw [D4O,D5x,D4F]
      by_cases ho:R/170141183460469231731687303715884105728=1
      ·exact .inl ho
      ·right;rw [if_neg (by omega)]
       split<;>omega
     rw [c1,D4H];have dm:=B5I (a:=N) (b:=B) (q:=2*Q+1) (r:=2*R+β-B) (by rw [Int.add_mul,hN];omega) (by omega) (by omega)
     unfold H7 at oX hb;unfold wv at hB;rw [B7z _ _ _ (by omega) (by omega) (by omega) (by omega) (by omega)]
     simp only [D4D];have hbw:(if (I5 ((R*2+β)%340282366920938463463374607431768211456)).Lo<b.Lo+0 then (1:Int) else 0)<=1/\0<=(if (I5 ((R*2+β)%340282366920938463463374607431768211456)).Lo<b.Lo+0 then (1:Int) else 0):=by split<;>omega
     rw [B7z _ _ _ (by omega) (by omega) (by omega) (by omega) (by omega)]
     simp only [D4D];obtain ⟨q1,q2,_⟩:=B13 oQ (b:=1) (by omega)
     rw [X7] at q1 q2;change _=(I5 ((Q*2+1)%340282366920938463463374607431768211456)).Hi at q1;change Q6 .u64 (E7 .u64 (I5 Q).Lo 1) 1=(I5 ((Q*2+1)%340282366920938463463374607431768211456)).Lo at q2;have hQ2:2*Q+1<=N:=by
      have:=Int.ediv_le_self B (show 0<=N by omega)
      omega
     rw [q1,q2,ew];refine ⟨_,rfl,⟨i,by omega, ?_⟩,by show ((i:Int)-1+1).toNat<((i:Int)+1).toNat;omega⟩
     rw [hNd,dm.1,dm.2];have:(Q*2+1)%340282366920938463463374607431768211456=2*Q+1:=by omega
     rw [this];unfold I5 at hbw⊢;simp only at hbw⊢
     congr 3
     split
     ·congr 1<;>omega
     ·congr 1<;>omega
    ·have hX:(R*2+β)%340282366920938463463374607431768211456=2*R+β:=by omega
     have c1:((R/170141183460469231731687303715884105728==1)||decide ((if (R*2+β)%340282366920938463463374607431768211456<B then (-1:Int) else if (R*2+β)%340282366920938463463374607431768211456=B then 0 else 1)>=0))=false:=by
      rw [D5d,D5t,D4U];refine ⟨by omega, ?_⟩
      rw [if_pos (by omega)]
      omega
     rw [c1,D4G];have dm:=B5I (a:=N) (b:=B) (q:=2*Q) (r:=2*R+β) hN (by omega) (by omega)
     obtain ⟨q1,_,_⟩:=B13 oQ (b:=0) (by omega)
     have q2:=D3s oQ;rw [X7] at q1 q2;change _=(I5 ((Q*2+0)%340282366920938463463374607431768211456)).Hi at q1;rw [Int.add_zero] at q1;rw [q1,q2,ew];refine ⟨_,rfl,⟨i,by omega, ?_⟩,by show ((i:Int)-1+1).toNat<((i:Int)+1).toNat;omega⟩
     rw [hNd,dm.1,dm.2,hX];have:(Q*2)%340282366920938463463374607431768211456=2*Q:=by omega
     rw [this])
 rw [hr,hQ]
end Go.Win
set_option maxHeartbeats 4000000
namespace Go.Win
open Go.Vc Go.Dec
theorem D3N {r:D0} (hb:okB r=true) {n:Int} (hn:1<=n/\n<=r.N) (hl:r.Ae.length<=1000000000): ∃k:Nat,A1x r.Ae n 0=some (k:Int)/\C1 r.Ae (k:Int)=some (J0 r.Ae k):=by
 obtain ⟨k,k1,k2⟩:=B3S ((A89 r).1 hb) hn hl;exact ⟨k,k2,Z6 k1.lt⟩
theorem C3p (t:Int):X8 1 t=if t<1 then 1 else t:=by
 show (if t>1 then t else 1)=_
 split<;>split<;>omega
theorem C13 {p q n:Int} (hp:0<=p) (hpq:p<=q) (hq:1<=q) (hq2:q<=9223372036854775807) (hn:1<=n) (hn2:n<=1099511627776):
  ∃lo rem:Int,A1Y (P3 (A4 p) (A4 n)) (J8 (A4 q))=some (⟨0,lo⟩,rem|>I5,true)/\
   lo=p*n/q/\rem=p*n%q/\0<=lo/\lo<=n/\(rem≠0->lo+1<=n)/\0<=rem/\rem<q:=by
 have e1:A4 p=p:=by rw [L7];omega
 have e2:A4 n=n:=by rw [L7];omega
 have e3:A4 q=q:=by rw [L7];omega
 rw [e1,e2,e3];have hX0:0<=p*n:=Int.mul_nonneg hp (by omega)
 have hX1:=(A7y (x:=p) (y:=n) (by omega) (by omega)).2
 have hprod:R5 p n=I5 (p*n):=A8c (by omega) (by omega)
 have hprod2:P3 p n=I5 (p*n):=hprod;have oX:=Y9 hX0 hX1;obtain ⟨oq,vq⟩:=B4w (n:=q) (by omega) (by omega)
 have hqq:q*n=n*q:=Int.mul_comm _ _;have hle:p*n<=q*n:=Int.mul_le_mul_of_nonneg_right hpq (by omega)
 have hdm:=Int.mul_ediv_add_emod (p*n) q;have hr0:=Int.emod_nonneg (p*n) (show q≠0 by omega)
 have hr1:=Int.emod_lt_of_pos (p*n) (show 0<q by omega)
 have hlo0:0<=p*n/q:=Int.ediv_nonneg hX0 (by omega)
 have hlo1:p*n/q<=n:=by
  have:p*n/q<=(n*q)/q:=Int.ediv_le_ediv (by omega) (by omega)
  rwa [Int.mul_ediv_cancel _ (by omega)] at this
 have hsmall:I5 (p*n/q)=⟨0,p*n/q⟩:=by
  unfold I5;congr 1<;>omega
 refine ⟨p*n/q,p*n%q, ?_,rfl,rfl,hlo0,hlo1,fun hne=> ?_,hr0,hr1⟩
 ·rw [hprod2];have:=B2N oX (b:=J8 q) oq (by show 0<wv (R6 q);rw [vq];omega)
  rw [this,X7];show some (I5 (p*n/wv (R6 q)),I5 (p*n%wv (R6 q)),true)=_;rw [vq,hsmall]
 ·
  rcases Int.lt_or_le (p*n/q) n with hlt|hge
  ·omega
  ·exfalso;have:p*n/q=n:=by omega
   rw [this] at hdm;omega
theorem C5e (r:D0) (p q:Int) (hp:-9223372036854775808<=p/\p<=9223372036854775807) (hq:-9223372036854775808<=q/\q<=9223372036854775807) (hl:r.Ae.length<=1000000000):
  ∃x,A4a r p q=some x:=by
 unfold A4a;rw [A0e r hl];simp only [D4D];cases hb:okB r with
 |false=>exact ⟨_,rfl⟩
 |true=>
  have h:=(A89 r).1 hb;simp only [D4H,D5g,D4G];cases hc:((decide (q<1)||decide (p<0))||decide (p>q)) with
  |true=>exact ⟨_,rfl⟩
  |false=>
   simp only [D5d,D4U] at hc;simp only [D4G];cases hN:r.N==0 with
   |true=>exact ⟨_,rfl⟩
   |false=>
    rw [D5t] at hN;have n0:=h.n0;have n1:=h.n1;obtain ⟨lo,rem,d1,_,_,l0,l1,l2,r0,r1⟩:=C13 (p:=p) (q:=q) (n:=r.N) (by omega) (by omega) (by omega) (by omega) (by omega) n1
    simp only [d1,D4D,D4G];have hz:(!((I5 rem).Hi==0&&((I5 rem).Lo==0&&true)))=decide (rem≠0):=by
     have g1:wv (I5 rem)=rem:=X7 rem;unfold I5 at*
     unfold wv at g1;rw [D4Y];simp only [Bool.and_true,D4Z,D5u,D5t,D4F];simp only at g1;omega
    rw [hz];have e1:A1 lo=lo:=by rw [C2]<;>omega
    have key: ∀n:Int,1<=n/\n<=r.N-> ∃k:Nat,A1x r.Ae n 0=some (k:Int)/\C1 r.Ae (k:Int)=some (J0 r.Ae k):=fun n hn=>D3N hb hn hl
    by_cases hr:rem=0
    ·rw [D4K (by simpa using hr)]
     simp only [D4G];obtain ⟨k,k1,k2⟩:=key (X8 1 lo) (by rw [C3p];split<;>omega)
     unfold A3S;rw [e1,k1,D4D,k2];exact ⟨_,rfl⟩
    ·rw [D4I (by simpa using hr)]
     have l3:=l2 hr;simp only [D4H];have e2:A1 (lo+1)=lo+1:=by rw [C2]<;>omega
     have e3:A4 (lo+1)=lo+1:=by rw [L7];omega
     obtain ⟨k,k1,k2⟩:=key (X8 1 (lo+1)) (by rw [C3p];split<;>omega)
     unfold A3S;rw [e3,e2,k1,D4D,k2];exact ⟨_,rfl⟩
def A3m (l:List B4) (m:Nat):Int:=if m=0 then 0 else (J0 l (m-1)).Bt
def A3N (l:List B4) (N:Int) (m:Nat):Int:=if m<l.length then (J0 l m).Bs-1 else N
theorem C25 {l:List B4} {N:Int} (h:OkR l N) {m:Nat} (h1:m<=l.length):0<=A3m l m/\A3m l m<=A3N l N m/\A3N l N m<=N:=by
 have n0:=h.n0;unfold A3m A3N
 by_cases hm0:m=0
 ·subst hm0;rw [if_pos rfl]
  by_cases hl:0<l.length
  ·rw [if_pos hl,h.first hl];have:=h.rng 0 hl;omega
  ·rw [if_neg hl];omega
 ·rw [if_neg hm0];have g1:=h.rng (m-1) (by omega)
  by_cases hl:m<l.length
  ·rw [if_pos hl];have g2:=h.rng m hl;have g3:=h.up (m-1) (by omega)
   rw [show m-1+1=m by omega] at g3
   omega
  ·rw [if_neg hl];omega
end Go.Win
set_option maxHeartbeats 4000000
namespace Go.Win
open Go.Vc Go.Dec
def tk (A B:List B4) (p:Nat×Nat):Bool:=decide (p.2=B.length)||(decide (p.1<A.length)&&decide ((J0 A p.1).V<=(J0 B p.2).V))
def A21 (A B:List B4) (p:Nat×Nat):Nat×Nat:=cond (tk A B p) (p.1+1,p.2) (p.1,p.2+1)
def R2 (A B:List B4):Nat->Nat×Nat
 |0=>(0,0)
 |k+1=>A21 A B (R2 A B k)
def me (A B:List B4) (a b:Int) (k:Nat):B4:=
 ⟨cond (tk A B (R2 A B k)) (J0 A (R2 A B k).1).V (J0 B (R2 A B k).2).V,
  A3m A (R2 A B (k+1)).1+A3m B (R2 A B (k+1)).2,A3N A a (R2 A B k).1+A3N B b (R2 A B k).2+1⟩
def H0 (A B:List B4) (a b:Int) (n:Nat):List B4:=(List.range n).map (me A B a b)
theorem Y7 (A B:List B4) (a b:Int) (n:Nat):(H0 A B a b n).length=n:=by unfold H0;simp
theorem D0d (A B:List B4) (a b:Int) (n:Nat):H0 A B a b (n+1)=H0 A B a b n++ [me A B a b n]:=by
 unfold H0;rw [List.range_succ,D5B]
 rfl
theorem C5L (A B:List B4) (a b:Int) {n i:Nat} (h:i<n):J0 (H0 A B a b n) i=me A B a b i:=by
 unfold J0 H0;rw [D5z,D5c,List.getElem?_range h]
 rfl
theorem C1a {A B:List B4} {p:Nat×Nat} (h1:p.1<=A.length) (_:p.2<=B.length) (h3:p.1+p.2<A.length+B.length) (h:tk A B p=true):
  p.1<A.length/\(p.2<B.length->(J0 A p.1).V<=(J0 B p.2).V):=by
 unfold tk at h;simp only [D4O,D4L,D4F] at h;rcases h with h|⟨h4,h5⟩
 ·exact ⟨by omega,fun g=>by omega⟩
 ·exact ⟨h4,fun _=>h5⟩
theorem B8U {A B:List B4} {p:Nat×Nat} (h2:p.2<=B.length) (h:tk A B p=false):
  p.2<B.length/\(p.1<A.length->(J0 B p.2).V<(J0 A p.1).V):=by
 unfold tk at h;simp only [D5d,D5u,D4U] at h;obtain ⟨h4,h5⟩:=h;refine ⟨by omega,fun g=> ?_⟩
 rcases h5 with h5|h5
 ·exact absurd g h5
 ·omega
theorem C63 (A B:List B4): ∀k,k<=A.length+B.length->(R2 A B k).1<=A.length/\(R2 A B k).2<=B.length/\(R2 A B k).1+(R2 A B k).2=k:=by
 intro k
 induction k with
 |zero=>intro _;exact ⟨Nat.zero_le _,Nat.zero_le _,rfl⟩
 |succ k ih=>
  intro hk;obtain ⟨i1,i2,i3⟩:=ih (by omega)
  show (A21 A B (R2 A B k)).1<=_/\(A21 A B (R2 A B k)).2<=_/\(A21 A B (R2 A B k)).1+(A21 A B (R2 A B k)).2=_;unfold A21;cases ht:tk A B (R2 A B k) with
  |true=>
   have:=(C1a i1 i2 (by omega) ht).1
   simp only [D4H];omega
  |false=>
   have:=(B8U i2 ht).1;simp only [D4G];omega
theorem C5M {A B:List B4} {a b:Int} {k:Nat} (hk:k<A.length+B.length) (ht:tk A B (R2 A B k)=true):
  me A B a b k=⟨(J0 A (R2 A B k).1).V,(J0 A (R2 A B k).1).Bt+A3m B (R2 A B k).2,(J0 A (R2 A B k).1).Bs+A3N B b (R2 A B k).2⟩:=by
 obtain ⟨i1,i2,i3⟩:=C63 A B k (by omega)
 obtain ⟨t1,_⟩:=C1a i1 i2 (by omega) ht
 unfold me;rw [show R2 A B (k+1)=A21 A B (R2 A B k) from rfl];unfold A21;rw [ht];simp only [D4H];have e1:A3m A ((R2 A B k).1+1)=(J0 A (R2 A B k).1).Bt:=by unfold A3m;rw [if_neg (by omega),D5k]
 have e2:A3N A a (R2 A B k).1=(J0 A (R2 A B k).1).Bs-1:=by unfold A3N;rw [if_pos t1]
 rw [e1,e2]
 congr 1
 omega
theorem C3C {A B:List B4} {a b:Int} {k:Nat} (hk:k<A.length+B.length) (ht:tk A B (R2 A B k)=false):
  me A B a b k=⟨(J0 B (R2 A B k).2).V,(J0 B (R2 A B k).2).Bt+A3m A (R2 A B k).1,(J0 B (R2 A B k).2).Bs+A3N A a (R2 A B k).1⟩:=by
 obtain ⟨i1,i2,i3⟩:=C63 A B k (by omega)
 obtain ⟨t1,_⟩:=B8U i2 ht;unfold me;rw [show R2 A B (k+1)=A21 A B (R2 A B k) from rfl];unfold A21;rw [ht];simp only [D4G];have e1:A3m B ((R2 A B k).2+1)=(J0 B (R2 A B k).2).Bt:=by unfold A3m;rw [if_neg (by omega),D5k]
 have e2:A3N B b (R2 A B k).2=(J0 B (R2 A B k).2).Bs-1:=by unfold A3N;rw [if_pos t1]
 rw [e1,e2]
 congr 1<;>omega
theorem B89 {B:List B4} {b:Int} (hB:OkR B b) (e:B4) (h1:0<=e.Bt/\e.Bt<=1099511627776) (h2:0<=e.Bs/\e.Bs<=1099511627776) {j:Nat} (hj:j<=B.length) (hl:B.length<=1000000000):
  A44 e B (j:Int) b=some ⟨e.V,e.Bt+A3m B j,e.Bs+A3N B b j⟩:=by
 have n1:=hB.n1;have n0:=hB.n0;obtain ⟨o1,o2,o3⟩:=C25 hB hj;have hj1: ∀m:Int,A4B e B (j:Int) b m=some ⟨e.V,m,e.Bs+A3N B b j⟩:=by
  intro m;unfold A4B
  by_cases hlt:j<B.length
  ·have r:=hB.rng j hlt;have e1:A3N B b j=(J0 B j).Bs-1:=by unfold A3N;rw [if_pos hlt]
   rw [D4I (by omega),D4H,Z6 hlt]
   simp only [D4D];rw [show A1 ((J0 B j).Bs-1)=(J0 B j).Bs-1 by rw [C2]<;>omega,show A1 (e.Bs+((J0 B j).Bs-1))=e.Bs+((J0 B j).Bs-1) by rw [C2]<;>omega,e1]
  ·have e1:A3N B b j=b:=by unfold A3N;rw [if_neg hlt]
   rw [D4K (by omega),D4G,e1,show A1 (e.Bs+b)=e.Bs+b by rw [C2]<;>omega]
 unfold A44
 by_cases h0:0<j
 ·have e1:A3m B j=(J0 B (j-1)).Bt:=by unfold A3m;rw [if_neg (by omega)]
  rw [D4I (by omega),D4H,show A1 ((j:Int)-1)=((j-1:Nat):Int) by rw [C2]<;>omega,Z6 (show j-1<B.length by omega)]
  simp only [D4D];rw [hj1,<-e1,show A1 (e.Bt+A3m B j)=e.Bt+A3m B j by rw [C2]<;>omega]
 ·have e1:A3m B j=0:=by unfold A3m;rw [if_pos (by omega)]
  rw [D4K (by omega),D4G,hj1,e1,Int.add_zero]
theorem D2d {α:Type} {A B:List B4} {p:Nat×Nat} (h1:p.1<=A.length) (h2:p.2<=B.length) (X Y:Option α):
  (Option.bind (gd ((!((p.2:Int)==(B.length:Int)))&&(decide ((p.1:Int)<(A.length:Int)))) (C1 A (p.1:Int))) fun x=>
  Option.bind (gd ((!((p.2:Int)==(B.length:Int)))&&(decide ((p.1:Int)<(A.length:Int)))) (C1 B (p.2:Int))) fun y=>
  cond (((p.2:Int)==(B.length:Int))||((decide ((p.1:Int)<(A.length:Int)))&&(decide (x.V<=y.V)))) X Y)=cond (tk A B p) X Y:=by
 unfold tk
 by_cases hj:p.2=B.length
 ·rw [D5x.2 (by omega:(p.2:Int)=(B.length:Int)),D4I hj]
  rfl
 ·rw [D5t.2 (by omega:(p.2:Int)≠(B.length:Int)),D4K hj]
  by_cases hi:p.1<A.length
  ·rw [D4I (by omega:(p.1:Int)<(A.length:Int)),D4I hi,Z6 hi,Z6 (show p.2<B.length by omega)]
   rfl
  ·rw [D4K (by omega: ¬(p.1:Int)<(A.length:Int)),D4K hi]
   rfl
theorem C6N (r s:D0) (hA:OkR r.Ae r.N) (hB:OkR s.Ae s.N) (la:r.Ae.length<=1000000000) (lb:s.Ae.length<=1000000000):
  B0w r s 0 0 []=some (⟨r.N+s.N,H0 r.Ae s.Ae r.N s.N (r.Ae.length+s.Ae.length)⟩,0):=by
 have hm:(1000000000:Nat)<=maxLen:=by rw [I2];omega
 have an0:=hA.n0;have an1:=hA.n1;have bn0:=hB.n0;have bn1:=hB.n1;unfold B0w;obtain ⟨v,hv,hQ⟩:=U5 (f:=fun t:Int×Int×List B4=>A5D r s t.1 t.2.1 t.2.2)
  (fun t=> ∃k:Nat,k<=r.Ae.length+s.Ae.length/\t=(((R2 r.Ae s.Ae k).1:Int),((R2 r.Ae s.Ae k).2:Int),H0 r.Ae s.Ae r.N s.N k))
  (fun t=>r.Ae.length+s.Ae.length-t.2.2.length) (fun v=>v=(⟨r.N+s.N,H0 r.Ae s.Ae r.N s.N (r.Ae.length+s.Ae.length)⟩,0))
  (0,0, []) ⟨0,Nat.zero_le _,rfl⟩ (by
   rintro _ ⟨k,hk,rfl⟩;obtain ⟨i1,i2,i3⟩:=C63 r.Ae s.Ae k hk;simp only;unfold A5D;rw [D2d i1 i2]
   by_cases hlt:k<r.Ae.length+s.Ae.length
   ·left;have hc:(decide (((R2 r.Ae s.Ae k).1:Int)<(r.Ae.length:Int))||decide (((R2 r.Ae s.Ae k).2:Int)<(s.Ae.length:Int)))=true:=by
     simp only [D4O,D4F];omega
    have hsucc:H0 r.Ae s.Ae r.N s.N (k+1)=H0 r.Ae s.Ae r.N s.N k++ [me r.Ae s.Ae r.N s.N k]:=D0d _ _ _ _ _;have hpt:R2 r.Ae s.Ae (k+1)=A21 r.Ae s.Ae (R2 r.Ae s.Ae k):=rfl;unfold A21 at hpt;rw [hc,D4H];unfold A5C;cases ht:tk r.Ae s.Ae (R2 r.Ae s.Ae k) with
    |true=>
     obtain ⟨t1,_⟩:=C1a i1 i2 (by omega) ht
     have g:=hA.rng _ t1;rw [ht,D4H] at hpt;rw [D4H,Z6 t1];simp only [D4D];rw [B89 hB _ (by omega) (by omega) i2 (by omega)]
     simp only [D4D];rw [Q5 (by rw [D4F,Y7,D5i];omega),V4 t1 (by omega),<-C5M hlt ht,<-hsucc]
     refine ⟨_,rfl,⟨k+1,hlt,by rw [hpt];rfl⟩,by show _-(H0 _ _ _ _ _).length<_-(H0 _ _ _ _ _).length;rw [Y7,Y7];omega⟩
    |false=>
     obtain ⟨t1,_⟩:=B8U i2 ht;have g:=hB.rng _ t1;rw [ht,D4G] at hpt;rw [D4G,Z6 t1];simp only [D4D];rw [B89 hA _ (by omega) (by omega) i1 (by omega)]
     simp only [D4D];rw [Q5 (by rw [D4F,Y7,D5i];omega),V4 t1 (by omega),<-C3C hlt ht,<-hsucc]
     refine ⟨_,rfl,⟨k+1,hlt,by rw [hpt];rfl⟩,by show _-(H0 _ _ _ _ _).length<_-(H0 _ _ _ _ _).length;rw [Y7,Y7];omega⟩
   ·right;have hc:(decide (((R2 r.Ae s.Ae k).1:Int)<(r.Ae.length:Int))||decide (((R2 r.Ae s.Ae k).2:Int)<(s.Ae.length:Int)))=false:=by
     simp only [D5d,D4U];omega
    have hke:k=r.Ae.length+s.Ae.length:=by omega
    rw [hc,D4G,show A1 (r.N+s.N)=r.N+s.N by rw [C2]<;>omega,hke]
    exact ⟨_,rfl,rfl⟩)
 rw [hv,hQ]
theorem C5d {B:List B4}: ∀k,k<=B.length->R2 [] B k=(0,k):=by
 intro k
 induction k with
 |zero=>intro _;rfl
 |succ k ih=>
  intro hk;rw [show R2 [] B (k+1)=A21 [] B (R2 [] B k) from rfl,ih (by omega)]
  have ht:tk [] B (0,k)=false:=by
   unfold tk;simp only [D5d,D5u,D4U];exact ⟨by omega, .inl (by simp)⟩
  unfold A21;rw [ht]
  rfl
theorem C3S {A:List B4}: ∀k,k<=A.length->R2 A [] k=(k,0):=by
 intro k
 induction k with
 |zero=>intro _;rfl
 |succ k ih=>
  intro hk;rw [show R2 A [] (k+1)=A21 A [] (R2 A [] k) from rfl,ih (by omega)]
  have ht:tk A [] (k,0)=true:=by
   unfold tk;simp only [D4O,D4F];exact .inl rfl
  unfold A21;rw [ht]
  rfl
theorem C5F {l m:List B4} (h:l.length=m.length) (h2:∀i,i<l.length->J0 l i=J0 m i):l=m:=by
 apply List.ext_getElem h;intro i h3 h4;rw [<-C5G h3,<-C5G h4,h2 i h3]
theorem C40 {B:List B4} {b:Int}:H0 [] B 0 b B.length=B:=by
 refine C5F (Y7 _ _ _ _ _) fun i hi=> ?_;rw [Y7] at hi;rw [C5L _ _ _ _ hi];have hp:=C5d i (Nat.le_of_lt hi);have ht:tk [] B (R2 [] B i)=false:=by
  rw [hp];unfold tk;simp only [D5d,D5u,D4U];exact ⟨by omega, .inl (by simp)⟩
 rw [C3C (by simpa using hi) ht,hp]
 have e1:A3m [] 0=0:=rfl;have e2:A3N [] 0 0=0:=rfl;simp only [e1,e2,Int.add_zero]
theorem C3D {A:List B4} {a:Int}:H0 A [] a 0 A.length=A:=by
 refine C5F (Y7 _ _ _ _ _) fun i hi=> ?_;rw [Y7] at hi;rw [C5L _ _ _ _ hi];have hp:=C3S i (Nat.le_of_lt hi);have ht:tk A [] (R2 A [] i)=true:=by
  rw [hp];unfold tk;simp only [D4O,D4F];exact .inl rfl
 rw [C5M (by simpa using hi) ht,hp]
 have e1:A3m [] 0=0:=rfl;have e2:A3N [] 0 0=0:=rfl;simp only [e1,e2,Int.add_zero]
noncomputable def B9s (r s:D0):D0×Int:=
 cond (okB r&&okB s) (cond (decide (r.N+s.N>1099511627776)) (⟨0, []⟩,5) (⟨r.N+s.N,H0 r.Ae s.Ae r.N s.N (r.Ae.length+s.Ae.length)⟩,0)) (⟨0, []⟩,2)
theorem C64 (r s:D0) (la:r.Ae.length<=1000000000) (lb:s.Ae.length<=1000000000):A5B r s=some (B9s r s):=by
 unfold A5B B9s;rw [A0e r (by omega),A0e s (by omega)]
 simp only [D4D];cases hr:okB r with
 |false=>rfl
 |true=>
  cases hs:okB s with
  |false=>rfl
  |true=>
   have hA:=(A89 r).1 hr;have hB:=(A89 s).1 hs;have an0:=hA.n0;have an1:=hA.n1;have bn0:=hB.n0;have bn1:=hB.n1;simp only [D4H,D5g,D4G,Bool.and_self];rw [show A1 (1099511627776-s.N)=1099511627776-s.N by rw [C2]<;>omega]
   by_cases hsum:r.N+s.N>1099511627776
   ·rw [D4I hsum,D4I (by omega)]
    rfl
   ·rw [D4K hsum,D4K (by omega)]
    simp only [D4G]
    by_cases ha:r.N=0
    ·have hnil:r.Ae= []:=D5o (hA.nil.2 ha);rw [D5x.2 ha,D4H];unfold A2Q;rw [Q5 (by rw [D4F];simp only [D49];omega),hnil,ha]
     simp only [D4D,List.nil_append,D49,Nat.zero_add,Int.zero_add,C40]
    ·rw [D5t.2 ha,D4G]
     by_cases hb:s.N=0
     ·have hnil:s.Ae= []:=D5o (hB.nil.2 hb);rw [D5x.2 hb,D4H];unfold A2Q;rw [Q5 (by rw [D4F];simp only [D49];omega),hnil,hb]
      simp only [D4D,List.nil_append,D49,Nat.add_zero,Int.add_zero,C3D]
     ·rw [D5t.2 hb,D4G];exact C6N r s hA hB la lb
section widened
variable {s:D0} (hB:OkR s.Ae s.N) (lb:s.Ae.length<=1000000000)
include hB lb
end widened
end Go.Win
set_option maxHeartbeats 4000000
namespace Go.Win
open Go.Vc Go.Dec
def rk (N b:Int) (i:Nat):Int:=1+((i:Int)*(N-1))/b
def B3N (K:Nat->Nat):Nat->List Nat
 |0=> []
 |i+1=>B3N K i++(if i=0\/K i≠K (i-1) then [K i] else [])
theorem C3t (K:Nat->Nat): ∀m,(B3N K m).length<=m:=by
 intro m
 induction m with
 |zero=>exact D5l _
 |succ m ih=>
  unfold B3N;rw [D4J];split
  ·rw [D5i];omega
  ·rw [D49];omega
theorem D18 {N b:Int} (hN:1<=N) (hb:1<=b) (i:Nat):rk N b i<=rk N b (i+1)/\rk N b (i+1)-rk N b i<=(N-1+b-1)/b:=by
 unfold rk;have e:((i+1:Nat):Int)*(N-1)=(i:Int)*(N-1)+(N-1):=by rw [Int.natCast_add,Int.add_mul];simp
 rw [e]
 generalize (i:Int)*(N-1)=X
 have h1:=Int.mul_ediv_add_emod X b;have h2:=Int.emod_nonneg X (show b≠0 by omega)
 have h3:=Int.emod_lt_of_pos X (show 0<b by omega)
 have e2:(X+(N-1))/b=X/b+(X%b+(N-1))/b:=by
  have:X+(N-1)=(X%b+(N-1))+b*(X/b):=by omega
  rw [this,Int.add_mul_ediv_left _ _ (by omega)]
  omega
 have h4:0<=(X%b+(N-1))/b:=Int.ediv_nonneg (by omega) (by omega)
 have h5:(X%b+(N-1))/b<=(N-1+b-1)/b:=Int.ediv_le_ediv (by omega) (by omega)
 rw [e2];omega
theorem C04 {N b:Int} (hN:1<=N) (hb:1<=b) {i j:Nat} (h:i<=j):rk N b i<=rk N b j:=by
 induction j with
 |zero=>have:i=0:=by omega
        subst this;exact Int.le_refl _
 |succ j ih=>
  rcases Nat.lt_or_ge i (j+1) with hlt|hge
  ·exact Int.le_trans (ih (by omega)) (D18 hN hb j).1
  ·have:i=j+1:=by omega
   subst this;exact Int.le_refl _
theorem D19 (N b:Int):rk N b 0=1:=by unfold rk;simp
theorem D17 {N:Int} {b:Nat} (hb:1<=b):rk N (b:Int) b=N:=by
 unfold rk;rw [Int.mul_ediv_cancel_left _ (by omega)]
 omega
theorem B8R {N:Int} {b:Nat} (hN:1<=N) (hb:1<=b) {i:Nat} (hi:i<=b):1<=rk N (b:Int) i/\rk N (b:Int) i<=N:=by
 have h1:=C04 hN (show (1:Int)<=(b:Int) by omega) (Nat.zero_le i)
 have h2:=C04 hN (show (1:Int)<=(b:Int) by omega) hi
 rw [D19] at h1;rw [D17 hb] at h2;exact ⟨h1,h2⟩
open Classical in
noncomputable def A0 (l:List B4) (n:Int):Nat:=if h: ∃k,B2R l n k then Classical.choose h else 0
theorem C1J {l:List B4} {N n:Int} (h:OkR l N) (hn:1<=n/\n<=N) (hl:l.length<=1000000000):B2R l n (A0 l n):=by
 obtain ⟨k,hk,_⟩:=B3S h hn hl;unfold A0;rw [dif_pos ⟨k,hk⟩];exact Classical.choose_spec (⟨k,hk⟩: ∃k,B2R l n k)
section
variable {l:List B4} {N:Int} (h:OkR l N) (hl:l.length<=1000000000) (hpos:0<l.length) {b:Nat} (hb1:1<=b) (hb2:b<=65536)
include h hl hpos hb1 hb2
omit hl in
theorem D3q {i:Nat} (hi:i<=b):A1 (1+A1 (Int.tdiv (A1 ((i:Int)*A1 (N-1))) (b:Int)))=rk N (b:Int) i:=by
 have hN:1<=N:=by have:=h.rng 0 hpos;omega
 have hN1:=h.n1;have e1:A1 (N-1)=N-1:=by rw [C2]<;>omega
 have hX0:0<=(i:Int)*(N-1):=Int.mul_nonneg (by omega) (by omega)
 have hX1:(i:Int)*(N-1)<=65536*1099511627776:=Int.mul_le_mul (by omega) (by omega) (by omega) (by omega)
 have e2:A1 ((i:Int)*(N-1))=(i:Int)*(N-1):=by rw [C2]<;>omega
 have e3:Int.tdiv ((i:Int)*(N-1)) (b:Int)=((i:Int)*(N-1))/(b:Int):=Int.tdiv_eq_ediv_of_nonneg hX0;have hr:=B8R hN hb1 hi;unfold rk at hr;rw [e1,e2,e3,C2 (n:=((i:Int)*(N-1))/(b:Int)) (by omega) (by omega),C2 (by omega) (by omega)]
 rfl
theorem C62 (r:D0) (hr1:r.Ae=l) (hr2:r.N=N):
  B0x r (b:Int) (-1) 0 0 []=some (⟨N,(B3N (fun i=>A0 l (rk N (b:Int) i)) (b+1)).map (J0 l)⟩,0):=by
 have hN:1<=N:=by have:=h.rng 0 hpos;omega
 unfold B0x;obtain ⟨v,hv,hQ⟩:=U5 (f:=fun s:Int×Int×Int×List B4=>A9c r (b:Int) s.1 s.2.1 s.2.2.1 s.2.2.2)
  (fun s=> ∃i:Nat,i<=b+1/\s=(if i=0 then-1 else (A0 l (rk N (b:Int) (i-1)):Int),if i=0 then 0 else (A0 l (rk N (b:Int) (i-1)):Int),(i:Int),(B3N (fun i=>A0 l (rk N (b:Int) i)) i).map (J0 l)))
  (fun s=>b+1-s.2.2.1.toNat) (fun v=>v=(⟨N,(B3N (fun i=>A0 l (rk N (b:Int) i)) (b+1)).map (J0 l)⟩,0)) (-1,0,0, []) ⟨0,Nat.zero_le _,rfl⟩ (by
   rintro _ ⟨i,hi,rfl⟩;simp only;unfold A9c;rw [hr1,hr2]
   by_cases hlt:i<=b
   ·left;rw [D4I (by omega:(i:Int)<=(b:Int)),D4H,Q5 (by rw [D4F];omega),D3q h hpos hb1 hb2 hlt]
    have hn:=B8R hN hb1 hlt;have hpl:=C1J h hn hl;have hplace:A1x l (rk N (b:Int) i) (if i=0 then 0 else (A0 l (rk N (b:Int) (i-1)):Int))=some (A0 l (rk N (b:Int) i):Int):=by
     by_cases h0:i=0
     ·rw [if_pos h0];obtain ⟨k,k1,k2⟩:=B3S h hn hl;rw [k2,B6M k1 hpl]
     ·rw [if_neg h0];have hprev:=C1J h (B8R hN hb1 (show i-1<=b by omega)) hl
      have hle:rk N (b:Int) (i-1)<=rk N (b:Int) i:=C04 hN (by omega) (by omega)
      obtain ⟨k,_,k1,k2⟩:=B3m h hn hl hprev.lt (fun j hj=>D1w hle (hprev.low j hj));rw [k2,B6M k1 hpl]
    rw [hplace];simp only [D4D];have ew:A1 ((i:Int)+1)=((i+1:Nat):Int):=by rw [C2]<;>omega
    have hkl:=C3t (fun i=>A0 l (rk N (b:Int) i)) i;rw [ew]
    by_cases hne:i=0\/A0 l (rk N (b:Int) i)≠A0 l (rk N (b:Int) (i-1))
    ·have c:((A0 l (rk N (b:Int) i):Int) !=(if i=0 then-1 else (A0 l (rk N (b:Int) (i-1)):Int)))=true:=by
      rw [bne_iff_ne];rcases hne with h0|h0
      ·rw [if_pos h0];omega
      ·split<;>omega
     rw [c,D4H,Z6 hpl.lt];simp only [D4D];rw [Q5 (by rw [D4F,D5q,D5i];omega)]
     refine ⟨_,rfl,⟨i+1,by omega, ?_⟩,by show b+1-(((i+1:Nat):Int)).toNat<b+1-(i:Int).toNat;omega⟩
     have hk:B3N (fun i=>A0 l (rk N (b:Int) i)) (i+1)=B3N (fun i=>A0 l (rk N (b:Int) i)) i++ [A0 l (rk N (b:Int) i)]:=by
      show _++(if _ then _ else _)=_
      rw [if_pos hne]
     rw [hk,D5B];simp
    ·have hne' :=not_or.1 hne;have he:A0 l (rk N (b:Int) i)=A0 l (rk N (b:Int) (i-1)):=Classical.not_not.1 hne'.2;have c:((A0 l (rk N (b:Int) i):Int) !=(if i=0 then-1 else (A0 l (rk N (b:Int) (i-1)):Int)))=false:=by
      rw [bne_eq_false_iff_eq,if_neg hne'.1,he]
     rw [c,D4G];refine ⟨_,rfl,⟨i+1,by omega, ?_⟩,by show b+1-(((i+1:Nat):Int)).toNat<b+1-(i:Int).toNat;omega⟩
     have hk:B3N (fun i=>A0 l (rk N (b:Int) i)) (i+1)=B3N (fun i=>A0 l (rk N (b:Int) i)) i:=by
      show _++(if _ then _ else _)=_
      rw [if_neg hne,List.append_nil]
     rw [hk,if_neg hne'.1];simp [he]
   ·right;have hi2:i=b+1:=by omega
    subst hi2;rw [D4K (by omega),D4G]
    exact ⟨_,rfl,rfl⟩)
 rw [hv,hQ]
end
end Go.Win
set_option maxHeartbeats 4000000
namespace Go.Win
open Go.Vc Go.Dec
end Go.Win
set_option maxHeartbeats 4000000
namespace Go.Win
open Go.Vc Go.Dec
end Go.Win
set_option maxHeartbeats 4000000
namespace Go.Win
open Go.Vc Go.Dec
theorem C8v (r s:D0):(B9s r s).1.Ae.length<=r.Ae.length+s.Ae.length:=by
 unfold B9s;cases okB r&&okB s with
 |false=>exact Nat.zero_le _
 |true=>
  rw [D4H];cases decide (r.N+s.N>1099511627776) with
  |true=>exact Nat.zero_le _
  |false=>rw [D4G,Y7];exact D5l _
abbrev lvQ (b:B2):Int:=b.Bc
abbrev tmQ (b:B2):Int:=b.T
def L4 (l:List B2):Nat:=(l.map fun x=>x.Bh.Ae.length).sum
theorem A84 (a b:List B2):L4 (a++b)=L4 a+L4 b:=by simp [L4]
theorem A9V (x:B2) (l:List B2):L4 (x::l)=x.Bh.Ae.length+L4 l:=by simp [L4]
theorem C9N {l:List B2} {x:B2} (h:x∈l):x.Bh.Ae.length<=L4 l:=by
 induction l with
 |nil=>cases h
 |cons y l ih=>
  rw [A9V];rcases List.mem_cons.1 h with h|h
  ·rw [h];omega
  ·have:=ih h;omega
def D0N (l:List B2):Int:=S9 (plainB l)
theorem B1e (X:List B2) (j:Int):A54 (fun b:A3=>b.Bc) (plainB X) j=A54 lvQ X j:=by
 unfold A54 plainB;rw [List.countP_map]
 rfl
theorem C9F {Q:Int->Prop} {k l:Int} {X:List B2}:CI (fun b:A3=>b.Bc) (fun b=>b.T) Q k l (plainB X)↔CI lvQ tmQ Q k l X:=by
 constructor
 ·intro h;refine ⟨fun j hj=> ?_,fun x hx j hj hjx=> ?_, ?_,fun x hx=> ?_⟩
  ·rw [<-B1e];exact h.le j hj
  ·rw [<-B1e];exact h.ge ⟨x.T,x.Bc⟩ (List.mem_map.2 ⟨x,hx,rfl⟩) j hj hjx
  ·have:=h.srt;unfold plainB at this;have q:=List.pairwise_map.1 this;exact q
  ·exact h.all ⟨x.T,x.Bc⟩ (List.mem_map.2 ⟨x,hx,rfl⟩)
 ·intro h;refine ⟨fun j hj=> ?_,fun x hx j hj hjx=> ?_, ?_,fun x hx=> ?_⟩
  ·rw [B1e];exact h.le j hj
  ·obtain ⟨y,hy,rfl⟩:=List.mem_map.1 hx;rw [B1e];exact h.ge y hy j hj hjx
  ·unfold plainB;exact List.pairwise_map.2 h.srt
  ·obtain ⟨y,hy,rfl⟩:=List.mem_map.1 hx;exact h.all y hy
theorem C9M {l:List B2} {i:Nat} (h:i+1<l.length) {b:B2} (hb:b.Bh.Ae.length<=(el l i).Bh.Ae.length+(el l (i+1)).Bh.Ae.length):
  ((l.set i b).take (i+1)++((l.set i b).drop (i+2)).take ((l.set i b).length-(i+2))).length+1=l.length/\L4 ((l.set i b).take (i+1)++((l.set i b).drop (i+2)).take ((l.set i b).length-(i+2)))<=L4 l:=by
 refine ⟨by simp;omega, ?_⟩
 have e:l=l.take i++(el l i::el l (i+1)::l.drop (i+2)):=by
  rw [L6 h,L6 (by omega)]
  simp
 have e2:(l.set i b).take (i+1)=l.take i++ [b]:=by
  rw [List.take_add_one,List.take_set_of_le (D5l _),List.getElem?_set_self (by omega)];rfl
 have e3:((l.set i b).drop (i+2)).take ((l.set i b).length-(i+2))=l.drop (i+2):=by
  rw [List.drop_set_of_lt (by omega),List.take_of_length_le (by simp)]
 rw [e2,e3]
 conv=>rhs;rw [e]
 simp only [A84,A9V,D47,List.cons_append,List.nil_append];omega
instance {r s:D0}:TS (A5B r s) (r.Ae.length<=1000000000/\s.Ae.length<=1000000000) (fun y=>y.1.Ae.length<=r.Ae.length+s.Ae.length):=⟨fun h=>⟨_,C64 r s h.1 h.2,C8v r s⟩⟩
theorem C81 (p0:D0) (p1:Int) (hl:p0.Ae.length<=1000000000) (h64:1<=p1/\p1<=65536):T (A8g p0 p1) fun r=>r.1.Ae.length<=p0.Ae.length:=by
 unfold A8g;rw [A0e p0 (by omega)]
 simp only [D4D];cases hb:okB p0 with
 |false=>exact ⟨_,rfl,Nat.zero_le _⟩
 |true=>
  have h:=(A89 p0).1 hb;simp only [D4H,D5g,D4G];rw [D4K (by omega),D4K (by omega)]
  simp only [Bool.or_self,D4G];have e1:A1 (p1+1)=p1+1:=by rw [C2]<;>omega
  rw [e1]
  by_cases hle:(p0.Ae.length:Int)<=p1+1
  ·rw [D4I hle];simp only [D4H];unfold A2Q;exact yT
  ·rw [D4K hle];simp only [D4G];obtain ⟨b,rfl⟩:=Int.eq_ofNat_of_zero_le (show 0<=p1 by omega)
   have hpos:0<p0.Ae.length:=by omega
   rw [C62 h (by omega) hpos (by omega) (by omega) p0 rfl rfl]
   refine ⟨_,rfl, ?_⟩;have:=C3t (fun i=>A0 p0.Ae (rk p0.N (b:Int) i)) (b+1);simp only [D5q];omega
instance {r:D0} {p:Int}:TS (A8g r p) (r.Ae.length<=1000000000/\1<=p/\p<=65536) (fun y=>y.1.Ae.length<=r.Ae.length):=⟨fun h=>C81 r p h.1 h.2⟩
theorem C9O {l:List B2} {i:Nat} (h:i+1<l.length):(el l i).Bh.Ae.length+(el l (i+1)).Bh.Ae.length<=L4 l:=by
 have e:l=l.take i++(el l i::el l (i+1)::l.drop (i+2)):=by
  rw [L6 h,L6 (by omega)]
  simp
 conv=>rhs;rw [e]
 simp only [A84,A9V];omega
theorem D2D {k p:Int} {l:List B2} {n v s:Int} (hk:1<=k/\k<=128) (hp:1<=p/\p<=65536) (hs:0<=s/\s<=n) (hn:n<=l.length) (hl:l.length<=1048577) (he:L4 l<=1000000000):
  T (A63 k p l n v s) fun r=>match r with
   | .inl r=>r.1.length+1<=l.length/\0<=r.2.1/\r.2.1<=r.1.length/\L4 r.1<=L4 l
   | .inr r=>r=l:=by
 unfold A63;refine yL (fun s=>0<=s/\s<=n) (fun s=>s.toNat) hs fun s hs=> ?_;have h1:=T9 s (by omega)
 have h2:A1 (n-s)=n-s/\A1 (k+2)=k+2:=by constructor<;>(rw [C2]<;>omega)
 unfold A5Z;simp only [h1,h2]
 by_cases hc:n-s<k+2
 ·rw [D4I hc];exact yT
 ·obtain ⟨i,rfl⟩:=Int.eq_ofNat_of_zero_le hs.1;have hi:i+1<l.length:=by omega
  have e2:=C9O hi;have d:=fun b=> @C9M l i hi b;have n1:((i:Int)+1).toNat=i+1:=by omega
  have n2:((i:Int)+2).toNat=i+2:=by omega
  rw [D4K hc];simp only [n1,n2,D5j];exact yT
instance {k p n v:Int} {l:List B2}:TS (A62 k p l n v) ((1<=k/\k<=128)/\(1<=p/\p<=65536)/\(0<=n/\n<=l.length)/\l.length<=1048577/\L4 l<=1000000000) (fun r=>r.length<=l.length/\L4 r<=L4 l):=⟨fun ⟨hk,hp,hn,hl,he⟩=>by
 unfold A62;refine yL (fun s=>s.1.length<=l.length/\0<=s.2.1/\s.2.1<=s.1.length/\L4 s.1<=L4 l) (fun s=>s.1.length) ⟨D5l _,hn.1,hn.2,D5l _⟩ fun s ⟨h1,h2,h3,h4⟩=> ?_;unfold B0P;refine yM (D2D hk hp ⟨h2,Int.le_refl _⟩ h3 (by omega) (by omega)) fun r h=> ?_
 cases r with
 |inl r=>dsimp only at h⊢;omega
 |inr r=>dsimp only at h⊢;rw [h];exact ⟨h1,h4⟩⟩
instance {l:List B2} {k b:Int}:TS (A27 l k b) (Z8 l) (fun r=>r=bOf (B4q l k b)):=⟨fun h=>⟨_,B6c l k b h,rfl⟩⟩
instance {l:List B2}:TS (A1L l) (Z8 l) (fun r=>r=A1 (S9 (plainB l))):=⟨fun h=>⟨_,B6b l h,rfl⟩⟩
theorem C2Z (x:C3) (v:Int) (hs:Z8 x.Ak) (hl:x.Ak.length+1<=1048576) (he:L4 x.Ak+1<=1000000000):
  T (A3p x v) fun r=>L4 r.1.Ak<=L4 x.Ak+1/\r.1.Ak.length<=x.Ak.length+1:=by
 unfold A3p;rw [A1o x hs]
 by_cases hv:B6K x
 ·obtain ⟨b,b1,b2,b3⟩:=A7A (k:=x.K) (c:=x.Cap) hv.1.2.2.2 hv.1.2.1;have hk:=hv.1.2.2.2;have e2:A1 (2*x.K)=2*x.K:=by rw [C2]<;>omega
  have e0:L4 []=0:=rfl;have ea: ∀b:B2,L4 (x.Ak++ [b])=L4 x.Ak+b.Bh.Ae.length:=fun b=>by rw [A84,A9V,e0];omega
  rw [b1,e2];unfold B0n Z9;simp only [List.nil_append];exact yT
 ·rw [J1 hv];exact ⟨_,rfl,Nat.zero_le _,Nat.zero_le _⟩
end Go.Win
set_option maxHeartbeats 4000000
namespace Go.Win
open Go.Vc Go.Dec
theorem B68 {l:List B2} (hl:l.length<=1048576):A1 (S9 (plainB l))=D0N l:=C1d (by rw [A1w];exact hl)
theorem B8d (f:Int) (l:List B2):plainB (l.dropWhile fun x=>decide (x.T<f))=(plainB l).dropWhile fun x=>decide (x.T<f):=by
 unfold plainB;rw [List.dropWhile_map]
 rfl
theorem C7Y {l:List B2} {k b:Int} (f:Int) (h:B4q l k b):B4q (l.dropWhile fun x=>decide (x.T<f)) k b:=by
 refine ⟨h.1,by rw [B8d];exact C5N h.2.1 _,fun i hi=> ?_⟩
 obtain ⟨j,hj,e⟩:=A1Q (A83 (L8 hi));rw [<-e];exact h.2.2 j hj
theorem C75 (p:B2->Bool) (l:List B2):L4 (l.dropWhile p)<=L4 l:=by
 have:L4 l=L4 (l.takeWhile p)+L4 (l.dropWhile p):=by rw [<-A84,List.takeWhile_append_dropWhile]
 omega
theorem B8S {x:C3} {t:Int} (h:B6K x) (hs:Z8 x.Ak) (h1:x.Now<=t) (h2:t<=16777216):
  ∃B,A3R x t=some (⟨x.W,x.K,x.Cap,t,B⟩,0)/\B6K ⟨x.W,x.K,x.Cap,t,B⟩/\Z8 B/\L4 B<=L4 x.Ak:=by
 obtain ⟨hp,hb,hc,hv⟩:=id h;have hd:=A7c (fun b:B2=>decide (b.T<O4 t x.W)) x.Ak;have hsd:Z8 (x.Ak.dropWhile fun b=>decide (b.T<O4 t x.W)):=⟨Nat.le_trans hd hs.1,fun y hy=>hs.2 y (A83 hy)⟩;refine ⟨x.Ak.dropWhile fun b=>decide (b.T<O4 t x.W), ?_,⟨⟨hp.1,hp.2.1,⟨by have:=hp.2.2.1;show 0<=t;omega,h2⟩,hp.2.2.2⟩,fun b e=>C7Y _ (hb b e), ?_,fun i hi=> ?_⟩,hsd,C75 _ _⟩
 ·unfold A3R;rw [A1o x hs,D4D,O8 h];simp only [D5g,D4G];rw [A7o t hp.2.2.1,B8A,A3x h1 h2];simp only [D5g,D4G];rw [(C9Q hs.1 _)]
  rfl
 ·show A1 (S9 (plainB (x.Ak.dropWhile fun b=>decide (b.T<O4 t x.W))))<=x.Cap;rw [B68 hsd.1];rw [B68 hs.1] at hc;have:=C15 (fun b:A3=>decide (b.T<O4 t x.W)) (plainB x.Ak);rw [<-B8d] at this;unfold D0N at*
  omega
 ·have hi' :i<(x.Ak.dropWhile fun b=>decide (b.T<O4 t x.W)).length:=hi;have hm:=L8 hi';obtain ⟨b,_,e,_⟩:=A7A (k:=x.K) (c:=x.Cap) hp.2.2.2 hp.2.1;have srt:=(C9F.1 (A80 (hb b e).2.1).1).srt;have a:=B8y tmQ (O4 t x.W) srt _ hm;have hpt:0<=t/\t<=16777216:=by have:=hp.2.2.1;omega
  rw [C1A hpt hp.1] at a;obtain ⟨j,hj,ej⟩:=A1Q (A83 hm);have c:=(A1c _ _ _).1 (hv j hj);rw [ej] at c;have a2:t-x.W<(el (x.Ak.dropWhile fun b=>decide (b.T<O4 t x.W)) i).T:=a.2;exact (A1c _ _ _).2 ⟨hpt,hp.1,c.2.2.1,a2,by show (el (x.Ak.dropWhile fun b=>decide (b.T<O4 t x.W)) i).T<=t;omega⟩
end Go.Win
set_option maxHeartbeats 4000000
namespace Go.Win
open Go.Vc Go.Dec
theorem B9p {β:Type} (lv:β->Int) (B:Int): ∀(m:Nat) (X:List β),(∀x∈X,0<=lv x/\lv x<(m:Int))->(∀j:Int,0<=j->(A54 lv X j:Int)<=B)->(X.length:Int)<=(m:Int)*B
 |0,X,h,_=>by
  cases X with
  |nil=>simp
  |cons x X=>
   have:=h x (by simp)
   omega
 |m+1,X,h,hB=>by
  have e:=List.length_eq_countP_add_countP (fun x=>lv x==(m:Int)) (l:=X);have ih:=B9p lv B m (X.filter fun x=> !(lv x==(m:Int))) (fun x hx=>by
   have hx' :=List.mem_filter.1 hx;have a:=h x hx'.1;have b:=hx'.2;rw [D4Z,D5t] at b
   push_cast at a
   omega) (fun j hj=>by
   have:=List.Sublist.countP_le (p:=fun x=>lv x==j) (List.filter_sublist (l:=X) (p:=fun x=> !(lv x==(m:Int))));have:=hB j hj;unfold A54 at this⊢;omega)
  have a:=hB (m:Int) (by omega)
  unfold A54 at a;have c:List.countP (fun a=>decide (¬((lv a==(m:Int))=true))) X=(X.filter fun x=> !(lv x==(m:Int))).length:=by
   rw [List.countP_eq_length_filter]
   congr 1
   refine List.filter_congr fun x _=> ?_;cases (lv x==(m:Int))<;>rfl
  rw [c] at e
  push_cast
  rw [Int.add_mul];omega
theorem D1L {l:List A3} {x:A3} (h:x∈l):A6Y x<=S9 l:=by
 induction l with
 |nil=>cases h
 |cons y l ih=>
  rw [B0l];have a:=C1c l;have b:=C4a y;rcases List.mem_cons.1 h with e|e
  ·rw [e];omega
  ·have:=ih e;omega
theorem D3l {L b:Nat} (h:(2:Int)^L<2^b):L<b:=by
 rcases Nat.lt_or_ge L b with g|g
 ·exact g
 ·exfalso;rw [B6N g] at h;have a:=A0v b;have c:=A0v (L-b);have:=Int.mul_le_mul_of_nonneg_left (show (1:Int)<=2^(L-b) by omega) (show (0:Int)<=2^b by omega)
  omega
theorem B4O {l:List A3} {k cap:Int} {b:Nat} (h:A7g l k) (ht:S9 l<=cap) (hb:cap<2^b):(l.length:Int)<=(b:Int)*(k+1):=by
 obtain ⟨ci,cs,cl⟩:=A80 h;refine B9p (fun x:A3=>x.Bc) (k+1) b l (fun x hx=> ?_) (fun j hj=> ?_)
 ·have a:=cl x hx;refine ⟨a.1, ?_⟩;have m:=D1L hx;unfold A6Y at m;rw [if_pos a] at m;have:=D3l (L:=x.Bc.toNat) (b:=b) (by omega)
  omega
 ·have:=ci.le j hj;rw [if_neg (by omega)] at this
  omega
theorem C5D {l:List B2} {M:Int} (h:∀x∈l,(x.Bh.Ae.length:Int)<=M):(L4 l:Int)<=l.length*M:=by
 induction l with
 |nil=>simp [L4]
 |cons x l ih=>
  have a:=h x (by simp)
  have b:=ih fun y hy=>h y (by simp [hy])
  rw [A9V,D4W]
  push_cast
  rw [Int.add_mul];omega
end Go.Win
set_option maxHeartbeats 4000000
namespace Go.Win
open Go.Vc Go.Dec
theorem D3n {x:C3} (h:B6K x) (hs:Z8 x.Ak):x.Ak.length<=65536:=by
 obtain ⟨hp,hb,ht,_⟩:=h;obtain ⟨sz,_,s2,_⟩:=A7A (k:=x.K) (c:=x.Cap) hp.2.2.2 hp.2.1;have a:=C4b (A80 (hb sz s2).2.1).2.2;rw [A1w] at a;rw [B68 hs.1] at ht;have:=hp.2.1;unfold D0N at ht;omega
theorem C5T {x:C8} (h:okV x=true):x.Bb.length<=65536:=by
 have:=(B4r x).1 h;omega
theorem D1A {x:B8} (h:B2k x):x.Bb.length<=1048576:=by
 have:=C76 h;omega
theorem D3t {x:C9} (h:B3R x):x.Bf.length<=65536:=by
 have a:=(C7v h).1;have hp:=h.2.1.2.1;have:=(C0u a).2 (by omega)
 omega
theorem D3u {x:D1} (h:B8K x):x.Bf.length<=65536:=by
 obtain ⟨hp,hm,_⟩:=h;have a:=B9t hp.2.1.2 (by decide) hm
 have:=(C0u a).2 (by have:=hp.2.1;omega)
 have:=hp.2.1;omega
theorem D1Z {x:C3} (h:B6K x) (hs:Z8 x.Ak):L4 x.Ak<=150000000:=by
 obtain ⟨hp,hb,ht,_⟩:=h;have hcap:=hp.2.1;have hk:=hp.2.2.2;obtain ⟨sz,_,s2,s3,s4⟩:=A7A (k:=x.K) (c:=x.Cap) hk hcap;obtain ⟨b,_,g2,g3,g4,g5,g6⟩:=B1R (x:=x.Cap) (by omega) (by omega)
 have b17:b<=17:=Nat.le_of_not_lt fun hb=>by
  have h2:(2:Nat)^17<=2^(b-1):=Nat.pow_le_pow_right (by decide) (by omega)
  have:(2:Int)^17<=2^(b-1):=by exact_mod_cast h2
  omega
 have hbl:=hb sz s2;rw [B68 hs.1] at ht;have n:=B4O hbl.2.1 (cap:=x.Cap) (b:=b) ht g6;rw [A1w] at n;have e:=C5D (l:=x.Ak) (M:=sz+1) (fun y hy=>by obtain ⟨i,hi,rfl⟩:=A1Q hy;exact (hbl.2.2 i hi).2.2.1)
 have m1:=Int.mul_le_mul_of_nonneg_right n (show 0<=sz+1 by omega)
 have q1:=Int.mul_le_mul (show 2*x.K+1<=129 by omega) (show (b:Int)<=17 by omega) (by omega) (by decide)
 have q0:=Int.mul_nonneg (a:=2*x.K+1) (b:=(b:Int)) (by omega) (by omega)
 have r1:=Int.mul_le_mul q1 (show sz+1<=65537 by omega) (by omega) (by decide)
 have r0:=Int.mul_nonneg q0 (show 0<=sz+1 by omega)
 rw [Int.mul_comm (2*x.K+1) (b:Int)] at*
 omega
def A75 (l:List B7):Nat:=(l.map fun c=>c.Be.length).sum
def B88 (s:A7):Nat:=s.Aq.Bb.length+s.Ay.Ad.length+s.Sum.Ad.length+s.As.Bf.length+s.Au.Bf.length+s.Bm.Ag.length+s.Ba.Bn.length+s.Af.Bb.length+s.Ai.Av.length+s.Ab.Ak.length+s.Ar.Am.length
theorem C99 {l:List B7} (h:∀c∈l,c.Be.length<=1048576):A75 l<=l.length*1048576:=by
 unfold A75
 induction l with
 |nil=>simp
 |cons x l ih=>
  have a:=h x (by simp)
  have b:=ih fun y hy=>h y (by simp [hy])
  simp only [D5w,List.sum_cons,D4W];omega
theorem B5a {s:A7} (hv:A2j s) (w:X9 s):(B88 s<=70000/\L4 s.Ab.Ak<=150000000)/\A75 s.Ar.Am<=16777216:=by
 obtain ⟨hc,hr,ho1,ho2,ho3,ho4,ho5,ho6,ho7,ho8,ho9,ho10,ho11⟩:=hv;obtain ⟨w1,w2,w3,w4,w5,w6,w7,w8,w9,w10,w11⟩:=w;have z1:s.Ao.Bi=1\/s.Aq.Bb.length=0:=(Decidable.em _).imp_right fun h=>(ho1 h).2.2.2;have z2:s.Ao.Bi=2\/s.Ay.Ad.length=0:=(Decidable.em _).imp_right fun h=>(ho2 h).2.2.2.2;have z3:s.Ao.Bi=3\/s.Sum.Ad.length=0:=(Decidable.em _).imp_right fun h=>(ho3 h).2.2.2.2.2;have z4:s.Ao.Bi=4\/s.As.Bf.length=0:=(Decidable.em _).imp_right fun h=>(ho4 h).2.2.2.2.2.2;have z5:s.Ao.Bi=5\/s.Au.Bf.length=0:=(Decidable.em _).imp_right fun h=>(ho5 h).2.2.2.2.2;have z6:s.Ao.Bi=6\/s.Bm.Ag.length=0:=(Decidable.em _).imp_right fun h=>(ho6 h).2.2.2;have z7:s.Ao.Bi=7\/s.Ba.Bn.length=0:=(Decidable.em _).imp_right fun h=>(ho7 h).2;have z8:s.Ao.Bi=8\/s.Af.Bb.length=0:=(Decidable.em _).imp_right fun h=>(ho8 h).2.2.2.2;have z9:s.Ao.Bi=9\/s.Ar.Am.length=0:=(Decidable.em _).imp_right fun h=>ho9 h;have z10:s.Ao.Bi=10\/s.Ai.Av.length=0:=(Decidable.em _).imp_right fun h=>(ho10 h).2.2.2;have z11:s.Ao.Bi=11\/s.Ab.Ak.length=0:=(Decidable.em _).imp_right fun h=>(ho11 h).2.2.2.2;have q0:s.Ao.Bi≠11->L4 s.Ab.Ak<=150000000:=fun h=>by
  have:=D5o (z11.resolve_left h);rw [this];simp [L4]
 have l0:A75 s.Ar.Am<=16777216:=by
  have hL:=C99 w9.2
  by_cases k:s.Ao.Bi=9
  ·have h9:(s.Ar.Am.length:Int)=s.Ao.Am:=by
    rcases hr with h|h|h|h|h|h|h|h|h|h|h<;>first|exact h.2.2.1|(have:=h.1;omega)
   have:=hc.2.2.2.2.2.2.1.1 k;omega
  ·have:=z9.resolve_left k;omega
 refine ⟨?_,l0⟩;unfold B88;rcases hr with ⟨k,h⟩|⟨k,h⟩|⟨k,h⟩|⟨k,h⟩|⟨k,h⟩|⟨k,h⟩|⟨k,h⟩|⟨k,h⟩|⟨k,h⟩|⟨k,h⟩|⟨k,h⟩
 ·have:=C5T h.1;exact ⟨by omega,q0 (by omega)⟩
 ·have:=C3n h.1 w2;exact ⟨by omega,q0 (by omega)⟩
 ·have:=C3n h.1.1 w3;exact ⟨by omega,q0 (by omega)⟩
 ·have:=D3t h.1;exact ⟨by omega,q0 (by omega)⟩
 ·have:=D3u h.1;exact ⟨by omega,q0 (by omega)⟩
 ·have:=h.1.1;exact ⟨by omega,q0 (by omega)⟩
 ·have:=h.1.1;exact ⟨by omega,q0 (by omega)⟩
 ·have:=h.1.1;exact ⟨by omega,q0 (by omega)⟩
 ·have:=hc.2.2.2.2.2.2.1.1 k;have:=h.2.1;exact ⟨by omega,q0 (by omega)⟩
 ·have:=h.1.1;unfold B2f at this;exact ⟨by omega,q0 (by omega)⟩
 ·have:=D3n h.1 w11;exact ⟨by omega,D1Z h.1 w11⟩
end Go.Win
set_option maxHeartbeats 4000000
namespace Go.Win
open Go.Vc Go.Dec
theorem C9v (s:A7) (w:X9 s) (v:Int) (d:List Int) (hd:d.length<=maxLen): ∃r,W5 s v d=some r/\X9 r.1:=by
 obtain ⟨h1,h2,h3,h4,h5,h6,h7,h8,h9,h10,h11⟩:=id w;unfold W5;rw [(Q9 s w),D4D]
 by_cases hv:A2j s
 ·rw [O8 hv];simp only [D5g,D4G];have fin: ∀(f:Int) (re:C8) (co:E1) (su:F0) (sm:C9) (sp:D1) (po:E0) (hn:Int) (hs:List Int) (ex:B8) (ch:List B7) (sy:B9) (qu:C3),
    X9 ⟨s.Ao,re,co,su,sm,sp,po,⟨hn,hs⟩,ex,⟨ch⟩,sy,qu⟩-> ∃r,L2 s d f re co su sm sp po hn hs ex ch sy qu=some r/\X9 r.1:=by
   intro f re co su sm sp po hn hs ex ch sy qu h;have fin2: ∀f:Int,∃r,A1V s re co su sm sp po hn hs ex ch sy qu f=some r/\X9 r.1:=fun f=>by
    unfold A1V;cases (f !=0) with
    |true=>exact ⟨_,rfl,B5s⟩
    |false=>exact ⟨_,rfl,h⟩
   unfold L2;cases (((f==(0:Int))&&(s.Ao.Bi !=(9:Int)))&&(decide ((d.length:Int)>(0:Int)))) with
   |true=>exact fin2 8
   |false=>exact fin2 f
  obtain ⟨⟨hf,hq⟩,_⟩:=B5a hv w;unfold B88 at hf;cases c1:(s.Ao.Bi==(1:Int)) with
  |true=>
   obtain ⟨r,e1,e3⟩:=D1l s.Aq v (I3 h1);simp only [D4H,e1,D4D];exact fin _ _ _ _ _ _ _ _ _ _ _ _ _ ⟨Nat.le_trans e3 (by decide),h2,h3,h4,h5,h6,h7,h8,h9,h10,h11⟩
  |false=>
  cases c2:(s.Ao.Bi==(2:Int)) with
  |true=>
   simp only [D4H,D4G];have hval:(decide (v< -4096)||decide (v>4096))= !M2 v:=by
    have:=C9j v;cases hr:M2 v with
    |true=>have:=this.1 hr;rw [D4K (by omega),D4K (by omega)];rfl
    |false=>
     have hn: ¬(-4096<=v/\v<=4096):=fun h=>by rw [this.2 h] at hr;cases hr
     rw [D4Q,D4O,D4F,D4F];omega
   rw [hval];cases M2 v with
   |false=>exact ⟨_,rfl,B5s⟩
   |true=>
    obtain ⟨r,e1,e3⟩:=C7K s.Ay (by omega)
    have z5:r.1.Ad.length<=1048576:=by omega
    simp only [D4P,D4G,e1,D4D];exact fin _ _ _ _ _ _ _ _ _ _ _ _ _ ⟨h1,z5,h3,h4,h5,h6,h7,h8,h9,h10,h11⟩
  |false=>
  cases c3:(s.Ao.Bi==(3:Int)) with
  |true=>
   obtain ⟨r,e1,e3⟩:=D1m s.Sum v (by omega)
   have z5:r.1.Ad.length<=1048576:=by omega
   simp only [D4H,D4G,e1,D4D];exact fin _ _ _ _ _ _ _ _ _ _ _ _ _ ⟨h1,h2,z5,h4,h5,h6,h7,h8,h9,h10,h11⟩
  |false=>
  cases c4:(s.Ao.Bi==(4:Int)) with
  |true=>
   obtain ⟨r,e1,e3⟩:=C6e s.As v (by omega)
   have z5:r.1.Bf.length<=1048576:=by omega
   simp only [D4H,D4G,e1,D4D];exact fin _ _ _ _ _ _ _ _ _ _ _ _ _ ⟨h1,h2,h3,z5,h5,h6,h7,h8,h9,h10,h11⟩
  |false=>
  cases c5:(s.Ao.Bi==(5:Int)) with
  |true=>
   obtain ⟨r,e1,e3⟩:=C6f s.Au v (by omega)
   have z5:r.1.Bf.length<=1048576:=by omega
   simp only [D4H,D4G,e1,D4D];exact fin _ _ _ _ _ _ _ _ _ _ _ _ _ ⟨h1,h2,h3,h4,z5,h6,h7,h8,h9,h10,h11⟩
  |false=>
  cases c6:(s.Ao.Bi==(6:Int)) with
  |true=>
   obtain ⟨r,e1,e3,e4⟩:=C9w s.Bm v h6.2 (by omega)
   have z5:r.1.Ag.length<=1048576:=by omega
   simp only [D4H,D4G,e1,D4D];exact fin _ _ _ _ _ _ _ _ _ _ _ _ _ ⟨h1,h2,h3,h4,h5,⟨z5,e4⟩,h7,h8,h9,h10,h11⟩
  |false=>
  cases c7:(s.Ao.Bi==(7:Int)) with
  |true=>
   obtain ⟨r,e1,e3⟩:=C7L s.Ba v (by omega)
   have z5:r.1.Bn.length<=1048576:=by omega
   simp only [D4H,D4G,e1,D4D];exact fin _ _ _ _ _ _ _ _ _ _ _ _ _ ⟨h1,h2,h3,h4,h5,h6,z5,h8,h9,h10,h11⟩
  |false=>
  cases c8:(s.Ao.Bi==(8:Int)) with
  |true=>
   obtain ⟨r,e1,e3⟩:=C4P s.Af v (by omega)
   have z5:r.1.Bb.length<=1048576:=by omega
   simp only [D4H,D4G,e1,D4D];exact fin _ _ _ _ _ _ _ _ _ _ _ _ _ ⟨h1,h2,h3,h4,h5,h6,h7,z5,h9,h10,h11⟩
  |false=>
  cases c9:(s.Ao.Bi==(9:Int)) with
  |true=>
   obtain ⟨r,e1,e3,e4⟩:=C4O s.Ar v d (I3 h9.1) (fun c hc=>I3 (h9.2 c hc)) hd;have z5:r.1.Am.length<=1048576:=by omega
   simp only [D4H,D4G,e1,D4D];exact fin _ _ _ _ _ _ _ _ _ _ _ _ _ ⟨h1,h2,h3,h4,h5,h6,h7,h8,⟨z5,fun c hc=>Nat.le_trans (e4 c hc) (by decide)⟩,h10,h11⟩
  |false=>
  cases c10:(s.Ao.Bi==(10:Int)) with
  |true=>
   obtain ⟨r,e1,e3⟩:=C4Q s.Ai v (by omega)
   have z5:r.1.Av.length<=1048576:=by omega
   simp only [D4H,D4G,e1,D4D];exact fin _ _ _ _ _ _ _ _ _ _ _ _ _ ⟨h1,h2,h3,h4,h5,h6,h7,h8,h9,z5,h11⟩
  |false=>
  cases c11:(s.Ao.Bi==(11:Int)) with
  |true=>
   obtain ⟨r,e1,e3,e4⟩:=C2Z s.Ab v h11 (by omega) (by omega)
   have z5:r.1.Ak.length<=1048576:=by omega
   simp only [D4H,D4G,e1,D4D];exact fin _ _ _ _ _ _ _ _ _ _ _ _ _ ⟨h1,h2,h3,h4,h5,h6,h7,h8,h9,h10,z5,fun b hb=>by have:b.Bh.Ae.length<=L4 r.1.Ak:=C9N hb;omega⟩
  |false=>
   simp only [D4G];exact fin _ _ _ _ _ _ _ _ _ _ _ _ _ ⟨h1,h2,h3,h4,h5,h6,h7,h8,h9,h10,h11⟩
 ·rw [J1 hv];exact ⟨_,rfl,B5s⟩
end Go.Win
set_option maxHeartbeats 4000000
namespace Go.Win
open Go.Vc Go.Dec
def A8w (l:List A8):List Int:=l.map fun p=>p.V
theorem A9L (l:List A8):(A8w l).length=l.length:=D5q _
def cLe (l:List Int) (v:Int):Nat:=l.countP fun x=>decide (x<=v)
theorem D2G (l:List Int) (v:Int):cLe l v<=l.length:=List.countP_le_length
theorem C16 (l:List A8) {i:Nat} (hi:i<l.length):A8w (l.take (i+1))=A8w (l.take i)++ [l[i].V]:=by
 unfold A8w;rw [List.take_succ_eq_append_getElem hi,D5B]
 rfl
theorem C6y (l:List A8) (v:Int) (hl:l.length<=100000):B1g l v=some (cLe (A8w l) v:Int):=by
 have hm:l.length<=maxLen:=by rw [I2];omega
 unfold B1g B5K;obtain ⟨r,hr,hQ⟩:=U5 (f:=fun s:Int×Int=>A87 l v s.1 s.2)
  (fun s=> ∃i:Nat,i<=l.length/\s=((cLe (A8w (l.take i)) v:Int),(i:Int)))
  (fun s=>l.length-s.2.toNat) (fun r=>r=(cLe (A8w l) v:Int)) (0,0) ⟨0,Nat.zero_le _,rfl⟩ (by
   rintro _ ⟨i,hi,rfl⟩;simp only;unfold A87
   by_cases hlt:i<l.length
   ·left;have hc:=D2G (A8w (l.take i)) v;rw [A9L,D45] at hc;simp only [Int.ofNat_lt,hlt,decide_true,D4H,U1,L1 hlt,D4D,V4 hlt hm];have hs:cLe (A8w (l.take (i+1))) v=cLe (A8w (l.take i)) v+(if l[i].V<=v then 1 else 0):=by
     rw [C16 l hlt];unfold cLe;rw [List.countP_append,List.countP_singleton];simp
    by_cases hv:l[i].V<=v
    ·rw [D4I hv,D4H,C2 (by omega) (by omega)]
     rw [if_pos hv] at hs;exact ⟨_,rfl,⟨i+1,hlt,by rw [hs];simp⟩,by show l.length-((i:Int)+1).toNat<l.length-(i:Int).toNat;omega⟩
    ·rw [D4K hv,D4G];rw [if_neg hv] at hs;exact ⟨_,rfl,⟨i+1,hlt,by rw [hs];simp⟩,by show l.length-((i:Int)+1).toNat<l.length-(i:Int).toNat;omega⟩
   ·right;have:i=l.length:=by omega
    subst this;rw [List.take_length,D4K (by omega),D4G]
    exact ⟨_,rfl,rfl⟩)
 rw [hr,hQ]
theorem B50 (l:List A8) (t:Int) (hl:l.length<=100000) (ht1:0<=t) (ht2:t<=l.length) (h0:0<l.length) {T:Nat} (hT:(T:Int)=if t<1 then 1 else t):
  Z7 l t=some ((A08 (A8w l)).getD (T-1) 0,true):=by
 have hm:l.length<=maxLen:=by rw [I2];omega
 unfold Z7 B0V;obtain ⟨r,hr,hQ⟩:=U5 (f:=fun s:List Int×Int=>A2D l t s.1 s.2)
  (fun s=> ∃i:Nat,i<=l.length/\s=(A8w (l.take i),(i:Int)))
  (fun s=>l.length-s.2.toNat) (fun r=>r=((A08 (A8w l)).getD (T-1) 0,true)) ([],0) ⟨0,Nat.zero_le _,rfl⟩ (by
   rintro _ ⟨i,hi,rfl⟩;simp only;unfold A2D
   by_cases hlt:i<l.length
   ·left;simp only [Int.ofNat_lt,hlt,decide_true,D4H,U1,L1 hlt,D4D,V4 hlt hm];rw [Q5 (by rw [D4F,A9L,D45,D5i];omega)]
    refine ⟨_,rfl,⟨i+1,hlt, ?_⟩,by show l.length-((i:Int)+1).toNat<l.length-(i:Int).toNat;omega⟩
    rw [C16 l hlt]
    rfl
   ·right;have:i=l.length:=by omega
    subst this;rw [List.take_length,D4K (by omega),D4G,Q5 (by rw [D4F,A9L];omega)]
    have e1:A1 t=t:=by rw [C2]<;>omega
    have e2:X8 t 1=(T:Int):=by
     show (if (1:Int)>t then 1 else t)=_
     rw [hT]
    have hT1:1<=T/\T<=l.length:=by split at hT<;>omega
    have e3:A1 ((T:Int)-1)=((T-1:Nat):Int):=by rw [C2]<;>omega
    have hlt2:T-1<(A08 (A8w l)).length:=by rw [C4d,A9L];omega
    rw [e1,e2,e3,U1,L1 hlt2];refine ⟨_,rfl, ?_⟩;simp [D5z,L1 hlt2])
 rw [hr,hQ]
theorem B7G (l:List A8) (p q:Int) (hp:-9223372036854775808<=p/\p<=9223372036854775807) (hq:-9223372036854775808<=q/\q<=9223372036854775807) (hl:l.length<=100000):
  ∃x,A3i l p q=some x:=by
 unfold A3i;cases hc:(((((l.length:Int)==0)||decide (q<1))||decide (p<0))||decide (p>q)) with
 |true=>exact ⟨_,rfl⟩
 |false=>
  simp only [D5d,D4U,D5t] at hc;obtain ⟨lo,rem,d1,_,_,l0,l1,l2,r0,r1⟩:=C13 (p:=p) (q:=q) (n:=(l.length:Int)) (by omega) (by omega) (by omega) (by omega) (by omega) (by omega)
  simp only [D4G,d1,D4D];have key: ∀t:Int,0<=t->t<=l.length-> ∃x,Z7 l t=some x:=fun t h0 h1=>by
   obtain ⟨T,hT⟩:=Int.eq_ofNat_of_zero_le (show 0<=(if t<1 then 1 else t) by split<;>omega)
   exact ⟨_,B50 l t hl h0 h1 (by omega) hT.symm⟩
  cases h:(!((I5 rem).Hi==0&&((I5 rem).Lo==0&&true))) with
  |false=>exact key lo l0 l1
  |true=>
   have e3:A4 (lo+1)=lo+1:=by rw [L7];omega
   have hr:rem≠0:=fun h0=>by rw [h0] at h;cases h
   rw [D4H,e3];exact key _ (by omega) (l2 hr)
end Go.Win
set_option maxHeartbeats 4000000
namespace Go.Win
open Go.Vc Go.Dec
theorem B91 (a b c d:Int) (ha:0<=a/\a<18446744073709551616) (hb:0<=b/\b<18446744073709551616) (hc:0<=c/\c<18446744073709551616) (hd:0<=d/\d<18446744073709551616)
  (i:Nat) (h1:1<=i) (h4:i<=4):A4q 0 0 (i:Int) a b c d=some ⟨a,b,c,d⟩:=by
 unfold A4q;have step: ∀j:Nat,j<=3->(fun s:Int×Int×Int×Int×Int×Int×Int=>Y3 s.1 s.2.1 s.2.2.1 s.2.2.2.1 s.2.2.2.2.1 s.2.2.2.2.2.1 s.2.2.2.2.2.2) (0,0,(j:Int),a,b,c,d)=some (.inl (0,0,((j+1:Nat):Int),a,b,c,d)):=by
  intro j hj;have z: ∀x:Int,0<=x/\x<18446744073709551616->N2 x 0 0=some (x,0):=fun x hx=>by
   rw [C2K _ _ _ hx.1 (by decide) (by decide) (by decide)]
   congr 2<;>omega
  show Y3 0 0 (j:Int) a b c d=_;unfold Y3;have hw:A1 ((j:Int)+1)=((j+1:Nat):Int):=by rw [C2]<;>omega
  rw [D4I (by omega:(j:Int)<4),D4H,hw]
  match j,hj with
  |0,_=>simp [C1,z a ha]
  |1,_=>simp [C1,z b hb]
  |2,_=>simp [C1,z c hc]
  |3,_=>simp [C1,z d hd]
 have fin:loop (fun s:Int×Int×Int×Int×Int×Int×Int=>Y3 s.1 s.2.1 s.2.2.1 s.2.2.2.1 s.2.2.2.2.1 s.2.2.2.2.2.1 s.2.2.2.2.2.2) (0,0,((4:Nat):Int),a,b,c,d)=some ⟨a,b,c,d⟩:=S3 rfl
 match i,h1,h4 with
 |4,_,_=>exact fin
 |3,_,_=>rw [N8 (step 3 (by omega))];exact fin
 |2,_,_=>rw [N8 (step 2 (by omega)),N8 (step 3 (by omega))];exact fin
 |1,_,_=>rw [N8 (step 1 (by omega)),N8 (step 2 (by omega)),N8 (step 3 (by omega))];exact fin
def q1 (a:Int):H3:=⟨a,0,0,0⟩
theorem C4l {a x y:Int} (ha:0<=a) (hx:0<=x/\x<18446744073709551616) (hy:0<=y/\y<18446744073709551616) (h:a+x*y<18446744073709551616):
  I6 (q1 a) x y 0=some (q1 (a+x*y)):=by
 have hp:=(A7y hx hy).1;unfold I6 q1;rw [C2N hx hy];have e1:x*y/18446744073709551616=0:=by omega
 have e2:x*y%18446744073709551616=x*y:=by omega
 have e3:A1 ((0:Int)+1)=((1:Nat):Int):=by rw [C2]<;>omega
 simp only [e1,e2,e3];have i0:C1 [a,0,0,0] (0:Int)=some a:=rfl;rw [i0];simp only [D4D];rw [C2K _ _ _ ha hp (by decide) (by decide)]
 simp only [D4D];have e4:(a+x*y+0)/18446744073709551616=0:=by omega
 have e5:(a+x*y+0)%18446744073709551616=a+x*y:=by omega
 rw [e4,e5];exact B91 _ _ _ _ (by omega) (by omega) (by omega) (by omega) 1 (by omega) (by omega)
theorem B1O {a x y:Int} (ha:0<=a/\a<18446744073709551616) (hx:0<=x/\x<18446744073709551616) (hy:0<=y/\y<18446744073709551616) (h:x*y=0) (s:Nat) (h1:1<=s) (h2:s<=2):
  I6 (q1 a) x y (s:Int)=some (q1 a):=by
 unfold I6 q1;rw [C2N hx hy,h];have e3:A1 ((s:Int)+1)=((s+1:Nat):Int):=by rw [C2]<;>omega
 have i0:C1 [a,0,0,0] (s:Int)=some 0:=by
  match s,h1,h2 with
  |1,_,_=>rfl
  |2,_,_=>rfl
 simp only [i0,D4D];have z:N2 0 (0%18446744073709551616) 0=some (0,0):=rfl;rw [z];simp only [D4D,e3];have r:=B91 a 0 0 0 (by omega) (by omega) (by omega) (by omega) (s+1) (by omega) (by omega)
 match s,h1,h2 with
 |1,_,_=>exact r
 |2,_,_=>exact r
theorem D21 {a b:Int} (ha:a<18446744073709551616) (hb:0<=b) (h:b<=a):A6t (q1 a) (q1 b)=some (q1 (a-b)):=by
 have s0:O6 a b 0=some (a-b,0):=by
  rw [B7z _ _ _ (by omega) hb (by decide) (by decide) (by omega),if_neg (by omega)]
  congr 2;omega
 have z:O6 0 0 0=some (0,0):=rfl;unfold A6t B4f;rw [N8 (s' :=(0,1,a-b,0,0,0)) (by
  show T8 _ _ _ _ _ _ _=_;simp [T8,q1,C1,s0];rfl)]
 rw [N8 (s' :=(0,2,a-b,0,0,0)) (by
  show T8 _ _ _ _ _ _ _=_;simp [T8,q1,C1,z];rfl)]
 rw [N8 (s' :=(0,3,a-b,0,0,0)) (by
  show T8 _ _ _ _ _ _ _=_;simp [T8,q1,C1,z];rfl)]
 rw [N8 (s' :=(0,4,a-b,0,0,0)) (by
  show T8 _ _ _ _ _ _ _=_;simp [T8,q1,C1,z];rfl)]
 rw [S3 (r:=q1 (a-b)) rfl]
theorem by1 {d n:Int} (hd:0<=d/\d<18446744073709551616) (hn:0<n):B19 (q1 d) n=some (q1 (d/n),d%n):=by
 have z:A05 0 0 n=some (0,0):=by
  rw [B7Y (by decide) (by decide) hn]
  simp
 have zd:=B7Y hd.1 hd.2 hn;unfold B19 B70;rw [N8 (s' :=(0,2,d,0,0,0)) (by
  show Y2 _ _ _ _ _ _ _=_;simp [Y2,q1,C1,z];rfl)]
 rw [N8 (s' :=(0,1,d,0,0,0)) (by
  show Y2 _ _ _ _ _ _ _=_;simp [Y2,q1,C1,z];rfl)]
 rw [N8 (s' :=(0,0,d,0,0,0)) (by
  show Y2 _ _ _ _ _ _ _=_;simp [Y2,q1,C1,z];rfl)]
 rw [N8 (s' :=(d%n,-1,d/n,0,0,0)) (by
  show Y2 _ _ _ _ _ _ _=_;simp [Y2,q1,C1,zd];rfl)]
 rw [S3 (r:=(q1 (d/n),d%n)) rfl]
end Go.Win
set_option maxHeartbeats 4000000
namespace Go.Win
open Go.Vc Go.Dec
def A0y:List A8->Int
 | []=>0
 |p::l=>p.V+A0y l
theorem D0J (l:List A8):M9 l-M8 l=A0y l:=by
 induction l with
 |nil=>rfl
 |cons p l ih=>simp only [M9,M8,A0y];split<;>omega
theorem C5q (a b:List A8):A0y (a++b)=A0y a+A0y b:=by
 induction a with
 |nil=>simp [A0y]
 |cons p a ih=>simp only [List.cons_append,A0y,ih];omega
def B0r (v:Int):List A8->Int
 | []=>0
 |p::l=>(v-p.V)*(v-p.V)+B0r v l
theorem D1x (v:Int) (l:List A8):B0r v l=l.length*(v*v)-2*(v*A0y l)+P7 l:=by
 induction l with
 |nil=>simp [B0r,A0y,P7]
 |cons p l ih=>
  simp only [B0r,A0y,P7,D4W,ih];rw [Int.natCast_add]
  grind
theorem D1y (v:Int) (l:List A8):0<=B0r v l:=by
 induction l with
 |nil=>simp [B0r]
 |cons p l ih=>have:=B9Z (v-p.V);simp only [B0r];omega
def pD (l:List A8):Int:=l.length*P7 l-A0y l*A0y l
theorem D1V (l:List A8) (p:A8):pD (l++ [p])=pD l+B0r p.V l:=by
 unfold pD;rw [D1x,B5j,C5q,D4J];simp only [P7,A0y,D4W,D49,Int.add_zero];rw [Int.natCast_add]
 grind
theorem D1W (l:List A8) {i:Nat} (hi:i<l.length):pD (l.take (i+1))=pD (l.take i)+B0r l[i].V (l.take i):=by
 rw [List.take_succ_eq_append_getElem hi,D1V]
def A8k (l:List A8):Prop:=l.length<=65536/\ ∀p∈l,-4096<=p.V/\p.V<=4096
theorem B3X {l:List A8} (h:A8k l) (i:Nat):A8k (l.take i):=
 ⟨by have:=h.1;rw [D45];omega,fun p hp=>h.2 p (List.mem_of_mem_take hp)⟩
theorem C7w {x m:Int} (h1:-m<=x) (h2:x<=m):x*x<=m*m:=by
 have hm:0<=m:=by omega
 have a:0<=(m-x)*(m+x):=Int.mul_nonneg (by omega) (by omega)
 have:(m-x)*(m+x)=m*m-x*x:=by grind
 omega
theorem B66 {l:List A8} (h:∀p∈l,-4096<=p.V/\p.V<=4096):P7 l<=l.length*16777216:=by
 induction l with
 |nil=>simp [P7]
 |cons p l ih=>
  have h1:=h p (by simp)
  have h2:=ih (fun q hq=>h q (by simp [hq]))
  have h3:=C7w h1.1 h1.2;simp only [P7,D4W];omega
theorem C6r {v:Int} (hv:-4096<=v/\v<=4096) {l:List A8} (h:∀p∈l,-4096<=p.V/\p.V<=4096):B0r v l<=l.length*67108864:=by
 induction l with
 |nil=>simp [B0r]
 |cons p l ih=>
  have h1:=h p (by simp)
  have h2:=ih (fun q hq=>h q (by simp [hq]))
  have h3:=C7w (x:=v-p.V) (m:=8192) (by omega) (by omega)
  simp only [B0r,D4W];omega
theorem B90 {l:List A8} (h:∀p∈l,-4096<=p.V/\p.V<=4096): -(l.length*4096)<=A0y l/\A0y l<=l.length*4096:=by
 induction l with
 |nil=>simp [A0y]
 |cons p l ih=>
  have h1:=h p (by simp)
  have h2:=ih (fun q hq=>h q (by simp [hq]))
  simp only [A0y,D4W];omega
theorem D0r (l:List A8) (h:A8k l): ∀i:Nat,i<=l.length->0<=pD (l.take i)/\pD (l.take i)<=i*4398046511104:=by
 intro i
 induction i with
 |zero=>intro _;simp [pD,P7,A0y]
 |succ i ih=>
  intro hi;have h1:=ih (by omega)
  have h2:=D1y l[i].V (l.take i);have h3:=C6r (h.2 l[i] (D5s (by omega))) (B3X h i).2
  have h4:=h.1;rw [D1W l (by omega)]
  rw [D45] at h3;omega
theorem D3X {l:List A8} (h:A8k l):0<=pD l/\pD l<=288230376151711744:=by
 have:=D0r l h l.length (D5l _);rw [List.take_length] at this;have:=h.1;omega
theorem D0g {l:List A8} (h:A8k l):0<=(l.length:Int)*P7 l/\(l.length:Int)*P7 l<=72057594037927936:=by
 have h1:=B65 l;have h2:=B66 h.2;have h3:=h.1;have h4:=Int.mul_le_mul (show (l.length:Int)<=65536 by omega) (show P7 l<=1099511627776 by omega) h1 (by decide)
 exact ⟨Int.mul_nonneg (by omega) h1,by simpa using h4⟩
def B1V (d n:Nat):A5:=⟨((d/Nat.gcd d n:Nat):Int),((n/Nat.gcd d n:Nat):Int)⟩
theorem C9h {l:List A8} (h:A8k l): ∃b,A4j l=some (b,⟨0,if A0y l<0 then-A0y l else A0y l⟩):=by
 have hr:B5g l:=fun p hp=>by have:=h.2 p hp;omega
 have h1:=h.1;have h2:=B90 h.2;rw [C4q l hr (by omega)]
 have h3:=D0J l
 by_cases hc:M8 l<=M9 l
 ·refine ⟨false, ?_⟩;rw [if_pos hc,if_neg (by omega),h3]
  unfold I5
  congr 3<;>omega
 ·refine ⟨true, ?_⟩;rw [if_neg hc,if_pos (by omega),<-h3]
  unfold I5
  congr 3<;>omega
theorem C9b {l:List A8} (h:A8k l) (h0:l≠ []):A7X l (P7 l) 0 0 0 0 0 0 0 0=some (B1V (pD l).toNat l.length,true):=by
 have hlen:0<l.length:=List.length_pos_iff.2 h0;have hl:=h.1;have hq0:=B65 l;have hq1:=B66 h.2;have hnq:=D0g h;have hpd:=D3X h;have hs:=B90 h.2;obtain ⟨b,htot⟩:=C9h h;have wn:A4 (l.length:Int)=(l.length:Int):=by rw [L7];omega
 have t0:I6 ⟨0,0,0,0⟩ (P7 l) (l.length:Int) 0=some ⟨(l.length:Int)*P7 l,0,0,0⟩:=by
  have:=C4l (a:=0) (x:=P7 l) (y:=(l.length:Int)) (by decide) (by omega) (by omega) (by rw [Int.mul_comm];omega)
  rw [Int.zero_add,Int.mul_comm] at this;exact this
 have t1:=B1O (a:=(l.length:Int)*P7 l) (x:=0) (y:=(l.length:Int)) (by omega) (by omega) (by omega) (by simp) 1 (by omega) (by omega)
 have t2:=B1O (a:=(l.length:Int)*P7 l) (x:=0) (y:=(l.length:Int)) (by omega) (by omega) (by omega) (by simp) 2 (by omega) (by omega)
 unfold A7X;rw [N8 (s' :=(1,(l.length:Int)*P7 l,0,0,0)) (by
  show S0 _ _ _ _ _ _ _ _ _ _=_;unfold S0;rw [D4I (by decide:(0:Int)<3),D4H,wn]
  have i0:C1 [P7 l,0,0,0] (0:Int)=some (P7 l):=rfl;rw [i0];simp only [D4D];rw [t0]
  rfl)]
 rw [N8 (s' :=(2,(l.length:Int)*P7 l,0,0,0)) (by
  show S0 _ _ _ _ _ _ _ _ _ _=_;unfold S0;rw [D4I (by decide:(1:Int)<3),D4H,wn]
  have i0:C1 [P7 l,0,0,0] (1:Int)=some 0:=rfl;rw [i0];simp only [D4D];have t1' :I6 ⟨(l.length:Int)*P7 l,0,0,0⟩ 0 (l.length:Int) 1=_:=t1;rw [t1']
  rfl)]
 rw [N8 (s' :=(3,(l.length:Int)*P7 l,0,0,0)) (by
  show S0 _ _ _ _ _ _ _ _ _ _=_;unfold S0;rw [D4I (by decide:(2:Int)<3),D4H,wn]
  have i0:C1 [P7 l,0,0,0] (2:Int)=some 0:=rfl;rw [i0];simp only [D4D];have t2' :I6 ⟨(l.length:Int)*P7 l,0,0,0⟩ 0 (l.length:Int) 2=_:=t2;rw [t2']
  rfl)]
 refine S3 ?_;show S0 _ _ _ _ _ _ _ _ _ _=_;unfold S0;rw [D4K (by decide: ¬(3:Int)<3),D4G,htot,wn]
 simp only [D4D]
 generalize hT:(if A0y l<0 then-A0y l else A0y l)=T
 have hT0:0<=T/\T<=268435456:=by rw [<-hT];split<;>omega
 have hTT:T*T=A0y l*A0y l:=by
  rw [<-hT];split
  ·exact Int.neg_mul_neg _ _
  ·rfl
 have hTn:T*T=(l.length:Int)*P7 l-pD l:=by rw [hTT];unfold pD;omega
 have s0:I6 ⟨0,0,0,0⟩ T T 0=some (q1 (T*T)):=by
  have:=C4l (a:=0) (x:=T) (y:=T) (by decide) (by omega) (by omega) (by omega)
  rw [Int.zero_add] at this;exact this
 have hTT0:0<=T*T:=Int.mul_nonneg hT0.1 hT0.1;have s1:I6 (q1 (T*T)) T 0 1=some (q1 (T*T)):=B1O (by omega) (by omega) (by omega) (by simp) 1 (by omega) (by omega)
 have s2:I6 (q1 (T*T)) 0 0 2=some (q1 (T*T)):=B1O (by omega) (by omega) (by omega) (by simp) 2 (by omega) (by omega)
 rw [s0];simp only [D4D];rw [s1];simp only [D4D];rw [s1];simp only [D4D];rw [s2];simp only [D4D];have m1:A6t ⟨(l.length:Int)*P7 l,0,0,0⟩ (q1 (T*T))=some (q1 (pD l)):=by
  have:=D21 (a:=(l.length:Int)*P7 l) (b:=T*T) (by omega) hTT0 (by omega)
  rw [show (l.length:Int)*P7 l-T*T=pD l by omega] at this
  exact this
 rw [m1];simp only [D4D];rw [by1 (by omega) (by omega)]
 simp only [D4D];obtain ⟨d,hd⟩:=Int.eq_ofNat_of_zero_le hpd.1;rw [hd] at hpd⊢;rw [D5j]
 generalize hn:l.length=n at*
 have hmod:(d:Int)%(n:Int)=((d%n:Nat):Int):=by rw [Int.natCast_emod]
 have hmlt:d%n<n:=Nat.mod_lt _ (by omega)
 have w1:A1 (n:Int)=(n:Int):=by rw [C2]<;>omega
 have w2:A1 ((d:Int)%(n:Int))=((d%n:Nat):Int):=by rw [hmod,C2]<;>omega
 rw [w1,w2,D1S];have hg:Nat.gcd n (d%n)=Nat.gcd d n:=by rw [Nat.gcd_comm,<-Nat.gcd_rec,Nat.gcd_comm]
 rw [hg];simp only [D4D];have gpos:0<Nat.gcd d n:=Nat.gcd_pos_of_pos_right _ (by omega)
 have gle:Nat.gcd d n<=n:=Nat.gcd_le_right _ (by omega)
 have w3:A4 ((Nat.gcd d n:Nat):Int)=((Nat.gcd d n:Nat):Int):=by rw [L7];omega
 rw [w3,by1 (by omega) (by omega)]
 simp only [D4D];have f1:(d:Int)/((Nat.gcd d n:Nat):Int)=((d/Nat.gcd d n:Nat):Int):=by rw [Int.natCast_ediv]
 have f2:Int.tdiv (n:Int) ((Nat.gcd d n:Nat):Int)=((n/Nat.gcd d n:Nat):Int):=by rw [Int.tdiv_eq_ediv_of_nonneg (by omega),Int.natCast_ediv]
 have q1' :d/Nat.gcd d n<=d:=Nat.div_le_self _ _;have q2' :n/Nat.gcd d n<=n:=Nat.div_le_self _ _;rw [f1,f2];unfold q1;simp only;have z:(Q6 .u64 (Q6 .u64 0 0) 0)=0:=by decide
 rw [z];have c1:(((0:Int) !=0)||decide (((d/Nat.gcd d n:Nat):Int)>=9223372036854775808))=false:=by
  rw [D5d,D4U];exact ⟨rfl,by omega⟩
 rw [c1,D4G,Q5 (by rw [D4F];omega)]
 unfold B1V
 generalize d/Nat.gcd d n=x at*
 generalize n/Nat.gcd d n=y at*
 rw [show A4 (y:Int)=(y:Int) by rw [L7];omega,C2 (by omega) (by omega),C2 (by omega) (by omega)]
 rfl
theorem C3c {l:List A8} (h:A8k l):A7W l=some (if l= [] then ⟨0,1⟩ else B1V (pD l).toNat l.length,true):=by
 have hl:=h.1;unfold A7W
 by_cases h0:l= []
 ·subst h0;rfl
 ·have hlen:0<l.length:=List.length_pos_iff.2 h0;have c:(A4 (l.length:Int)==0)=false:=by rw [D5t,L7];omega
  rw [c,D4G,if_neg h0];have hm:l.length<=maxLen:=by rw [I2];omega
  unfold B29;obtain ⟨r,hr,hQ⟩:=U5 (f:=fun s:Int×Int×Int×Int×Int=>A7d l s.1 s.2.1 s.2.2.1 s.2.2.2.1 s.2.2.2.2)
   (fun s=> ∃i:Nat,i<=l.length/\s=((i:Int),P7 (l.take i),0,0,0))
   (fun s=>l.length-s.1.toNat) (fun r=>r=(B1V (pD l).toNat l.length,true)) (0,0,0,0,0) ⟨0,Nat.zero_le _,rfl⟩ (by
    rintro _ ⟨i,hi,rfl⟩;simp only;unfold A7d
    by_cases hlt:i<l.length
    ·left;have hv:=h.2 l[i] (D5s hlt);have hq0:=B65 (l.take i);have hq1:=B66 (B3X h i).2;have hq2:=(B3X h i).1;have hsq:=C7w hv.1 hv.2;have hss:=B9Z l[i].V;simp only [Int.ofNat_lt,hlt,decide_true,D4H,U1,L1 hlt,D4D,V4 hlt hm,B5h (show-9223372036854775808<=l[i].V by omega) (by omega)]
     have e1:=C2Y l[i].V;have t:=C4l (a:=P7 (l.take i)) (x:=if l[i].V<0 then-l[i].V else l[i].V) (y:=if l[i].V<0 then-l[i].V else l[i].V) hq0 (by split<;>omega) (by split<;>omega) (by rw [e1];omega)
     rw [e1] at t;have t' :I6 ⟨P7 (l.take i),0,0,0⟩ (if l[i].V<0 then-l[i].V else l[i].V) (if l[i].V<0 then-l[i].V else l[i].V) 0=_:=t
     rw [t'];refine ⟨_,rfl,⟨i+1,hlt, ?_⟩,by show l.length-((i:Int)+1).toNat<l.length-(i:Int).toNat;omega⟩
     rw [C4f l hlt]
     rfl
    ·right;have hn: ¬((i:Int)<(l.length:Int)):=by omega
     have hi2:i=l.length:=by omega
     subst hi2;rw [List.take_length];simp only [hn,decide_false,D4G];rw [C9b h h0];exact ⟨_,rfl,rfl⟩)
  rw [hr,hQ]
end Go.Win
set_option maxHeartbeats 4000000
namespace Go.Win
open Go.Vc Go.Dec
end Go.Win
set_option maxHeartbeats 4000000
namespace Go.Win
open Go.Vc Go.Dec
theorem B8X {a b:A2} (ha:H7 a) (hb:H7 b):A5h a b=some (I5 (Nat.gcd (wv a).toNat (wv b).toNat:Nat)):=by
 unfold A5h B8r;obtain ⟨r,hr,hQ⟩:=U5 (f:=fun s:Int×Int×Int×Int=>B2K s.1 s.2.1 s.2.2.1 s.2.2.2)
  (fun s=>H7 ⟨s.1,s.2.1⟩/\H7 ⟨s.2.2.1,s.2.2.2⟩/\Nat.gcd (wv ⟨s.1,s.2.1⟩).toNat (wv ⟨s.2.2.1,s.2.2.2⟩).toNat=Nat.gcd (wv a).toNat (wv b).toNat)
  (fun s=>(wv ⟨s.2.2.1,s.2.2.2⟩).toNat) (fun r=>r=I5 (Nat.gcd (wv a).toNat (wv b).toNat:Nat)) (a.Hi,a.Lo,b.Hi,b.Lo) ⟨ha,hb,rfl⟩ (by
   rintro ⟨x1,x2,y1,y2⟩ ⟨hx,hy,hg⟩;simp only at hx hy hg⊢;have rx:=A7n hx;have ry:=A7n hy;unfold B2K N9;simp only
   by_cases h0:wv ⟨y1,y2⟩=0
   ·right;have hz:y1=0/\y2=0:=by unfold wv at h0;unfold H7 at hy;simp only at h0 hy;omega
    obtain ⟨rfl,rfl⟩:=hz;refine ⟨_,rfl, ?_⟩;rw [<-hg,h0];simp only [Int.toNat_zero,Nat.gcd_zero_right];rw [Int.toNat_of_nonneg rx.1,D28 hx]
   ·left;have c:(!(y1==0&&y2==0))=true:=by
     unfold wv at h0;simp only [D4Z,D5u,D5t];simp only at h0;omega
    rw [c,D4H,B2N hx hy (by omega)]
    have hm0:0<=wv ⟨x1,x2⟩%wv ⟨y1,y2⟩:=Int.emod_nonneg _ h0;have hm1:wv ⟨x1,x2⟩%wv ⟨y1,y2⟩<wv ⟨y1,y2⟩:=Int.emod_lt_of_pos _ (by omega)
    refine ⟨_,rfl,⟨hy,Y9 hm0 (by omega), ?_⟩, ?_⟩
    ·show Nat.gcd _ (wv (I5 _)).toNat=_;rw [X7,<-hg,Int.toNat_emod rx.1 ry.1,Nat.gcd_comm,<-Nat.gcd_rec,Nat.gcd_comm]
    ·show (wv (I5 _)).toNat<_;rw [X7];omega)
 rw [hr,hQ]
theorem C1Y {n:Int} (h1:-9223372036854775808<=n) (h2:n<=9223372036854775807):A0D n=A7z n/\0<=A7z n/\A7z n<18446744073709551616:=by
 unfold A0D A7z
 by_cases h:n<0
 ·rw [D4I h];simp only [D4H];have e1:A1 (n+1)=n+1:=by rw [C2]<;>omega
  have e2:IntKind.i64.wrap (0-(n+1))=0-(n+1):=by
   show A1 (0-(n+1))=_;rw [C2]<;>omega
  rw [e1,e2];have e3:A4 n=n+18446744073709551616:=by rw [L7];omega
  have e4:A4 (0-(n+1))=0-(n+1):=by rw [L7];omega
  have e5:IntKind.u64.wrap (0-(n+18446744073709551616))= -n:=by
   show A4 (0-(n+18446744073709551616))=_;rw [L7];omega
  have e6:A4 (0-(n+1)+1)= -n:=by rw [L7];omega
  rw [e3,e4,e5,e6];omega
 ·rw [D4K h];simp only [D4G];exact ⟨trivial,by rw [L7];omega,by rw [L7];omega⟩
theorem D0p {x:C8} (h:okV x=true) (hl:x.Bb.length<=65536):A8k x.Bb:=by
 refine ⟨hl,fun p hp=> ?_⟩;unfold okV at h;simp only [D4L,D5f] at h;have hv:=(h.2.2 p hp).2;unfold M2 at hv;simp only [D4L,D4F] at hv;omega
theorem D3c {x:C8} (h:okV x=true):x.Bb.length<=65536:=by
 unfold okV M7 at h;simp only [D4L,D4F] at h;omega
theorem C4c (n:Int):0<=A0D n/\A0D n<18446744073709551616:=by
 unfold A0D;have h1:=U8 n;have h2:0<=IntKind.u64.wrap (0-A4 n)/\IntKind.u64.wrap (0-A4 n)<18446744073709551616:=U8 (0-A4 n);cases decide (n<0)<;>assumption
instance {r:A5}:TS (Q4 r) True (fun _=>True):=⟨fun _=>by
 have a:=B4w (C4c r.Bu).1 (C4c r.Bu).2;have b:=B4w (U8 r.Bp).1 (U8 r.Bp).2;have g:TS (A5h (J8 (A0D r.Bu)) (J8 (A4 r.Bp))) True (fun _=>True):=⟨fun _=>⟨_,B8X a.1 b.1,trivial⟩⟩;unfold Q4 Y0;exact yT⟩
theorem C8o (l:List A8) (hm:l.length<=65536):T (A6s l) (fun _=>True):=by
 have key: ∀v,TS (A86 l v 0) True (fun _=>True):=fun v=>⟨fun _=>by
  unfold A86;refine yL (fun s=>0<=s.2/\s.2<=l.length) (fun s=>l.length-s.2.toNat) ⟨Int.le_refl _,by simp⟩ fun s hs=> ?_
  unfold B28;simp only [T9 s.2 (by omega)]
  exact yT⟩
 unfold A6s;exact yT
theorem C3l (l:List A8) (hm:l.length<=65536):T (A3h l) (fun _=>True):=by
 have key: ∀v,TS (A57 l v 0) True (fun _=>True):=fun v=>⟨fun _=>by
  unfold A57;refine yL (fun s=>0<=s.2/\s.2<=l.length) (fun s=>l.length-s.2.toNat) ⟨Int.le_refl _,by simp⟩ fun s hs=> ?_
  unfold A9W;simp only [T9 s.2 (by omega)]
  exact yT⟩
 unfold A3h;exact yT
theorem D2A (x:C8) (q:I4) (hm:x.Bb.length<=maxLen) (hA:-9223372036854775808<=q.A/\q.A<=9223372036854775807) (hB:-9223372036854775808<=q.B/\q.B<=9223372036854775807):
  T (B1s x q) fun r=>r.1.Aw.length<=2:=by
 unfold B1s;rw [A8v,A5T x hm];cases hok:okV x with
 |false=>exact yT
 |true=>
  have hl:=D3c hok;have hs:=D0p hok hl;have hr:B5g x.Bb:=fun p hp=>by have:=hs.2 p hp;omega
  have i1:TS (A6s x.Bb) True (fun _=>True):=⟨fun _=>C8o _ hl⟩;have i2:TS (A3h x.Bb) True (fun _=>True):=⟨fun _=>C3l _ hl⟩;have i3:TS (A3i x.Bb q.A q.B) True (fun _=>True):=⟨fun _=>let ⟨y,e⟩:=B7G x.Bb q.A q.B hA hB (by omega);⟨y,e,trivial⟩⟩
  have i4: ∀n,TS (A1f n) True (fun r=>r.1.Aw.length<=2):=fun n=>⟨fun _=>by unfold A1f;exact yT⟩
  simp only [C77 x.Bb hr (by omega),C2d x.Bb hr (by omega),C3c hs,C6y x.Bb q.A (by omega)]
  exact yT
end Go.Win
set_option maxHeartbeats 4000000
namespace Go.Win
open Go.Vc Go.Dec
theorem B8z {n:Int} (h1:-9223372036854775808<=n) (h2:n<=9223372036854775807): ∃b,Q4 (A0w n)=some b:=yE (TS.pf trivial)
theorem C3T {l:List A3} {W K Cap Now:Int} (h:A1S l W K Cap Now) (hl:l.length<=1048576): ∃b,A1a l=some b:=by
 have hm:l.length<=maxLen:=I3 hl;unfold A1a A64;exact yE (Q:=fun _=>True) (by exact yT)
theorem C7O (x:E1) (hl:x.Ad.length<=1048576): ∃r,A4U x=some r:=by
 unfold A4U;rw [A1H x (I3 hl)];simp only [D4D]
 by_cases h:A1S x.Ad x.W x.K x.Cap x.Now
 ·obtain ⟨b,e1⟩:=C3T h hl;rw [O8 h,e1];exact ⟨_,rfl⟩
 ·rw [J1 h];exact ⟨_,rfl⟩
theorem D1r (x:F0) (hl:x.Ad.length<=1048576): ∃r,B7A x=some r:=by
 unfold B7A;rw [A8n x (I3 hl)];simp only [D4D]
 by_cases h:B7x x
 ·obtain ⟨b,e1⟩:=C3T h.1 hl;rw [O8 h,e1];exact ⟨_,rfl⟩
 ·rw [J1 h];exact ⟨_,rfl⟩
theorem C8H {x:C9} (h:B3R x) {i:Nat} (hi:i<x.Bf.length):0<=T3 (el x.Bf i) x.Bo/\T3 (el x.Bf i) x.Bo<4611686018427387904:=by
 obtain ⟨ha,hp,hm,_⟩:=h;have h1:=hm.2.1 i hi;unfold B6J mk1 mk2 at h1;unfold A7h at hp;obtain ⟨g1,g2,_⟩:=h1;have hmn:=A6w (A3O x.Bo) hm hi;have hN:1<=(el x.Bf i).N/\(el x.Bf i).N<=65536:=by omega
 have f:=(B2c ⟨by omega,hN.2⟩ hmn.2.1 hmn.2.2).1 g2.2.2.2
 have hagg:x.Bo=1\/x.Bo=2\/x.Bo=3\/x.Bo=4:=by omega
 have hmax:(el x.Bf i).N*(el x.Bf i).Bs<=65536*4096:=by
  rcases Int.le_total 0 (el x.Bf i).Bs with g|g
  ·exact Int.mul_le_mul hN.2 (by omega) g (by omega)
  ·have:=Int.mul_nonneg (a:=(el x.Bf i).N) (b:= -(el x.Bf i).Bs) (by omega) (by omega)
   rw [Int.mul_neg] at this;omega
 rw [B9z hmn.2.1 hmn.2.2];unfold A47;have hlo2:x.Bo=2->(0:Int)<=(el x.Bf i).Bt:=fun e=>by
  have g:=g2.1;rw [e] at g;exact g
 rcases hagg with e|e|e|e<;>rw [e]<;>simp
 ·omega
 ·have hlo:(0:Int)<=(el x.Bf i).Bt:=hlo2 e;have:=Int.mul_nonneg (a:=(el x.Bf i).N) (b:=(el x.Bf i).Bt) (by omega) hlo
  omega
 ·omega
 ·have e1:A46 (el x.Bf i).Bs (el x.Bf i).Bt=((el x.Bf i).Bs-(el x.Bf i).Bt,true):=by
   have g3:=B9z hmn.2.1 hmn.2.2 4;unfold A46;have:((decide ((el x.Bf i).Bt<0)&&decide ((el x.Bf i).Bs>A1 (9223372036854775807+(el x.Bf i).Bt)))||(decide ((el x.Bf i).Bt>0)&&decide ((el x.Bf i).Bs<A1 (-9223372036854775808+(el x.Bf i).Bt))))=false:=by
    by_cases g1:(el x.Bf i).Bt<0
    ·rw [C2 (n:=9223372036854775807+(el x.Bf i).Bt) (by omega) (by omega)]
     simp;omega
    ·by_cases g2:(el x.Bf i).Bt>0
     ·rw [C2 (n:= -9223372036854775808+(el x.Bf i).Bt) (by omega) (by omega)]
      simp;omega
     ·simp;omega
   rw [this,D4G,C2]<;>omega
  rw [e1];simp;omega
theorem C3x {l:List A6} {seq cap now w lo:Int} (h:A4o l seq cap now w lo) (h0:0<l.length) (hn:¬F7 now w (el l 0).T=true):1<l.length:=by
 rcases Nat.lt_or_ge 1 l.length with g|g
 ·exact g
 ·exact absurd ((h.2.1 0 h0).2.2.1 (.inr (by omega))) hn
theorem C6l (x:C9) (hl:x.Bf.length<=1048576): ∃r,B1E x=some r:=by
 unfold B1E;rw [A4F x (I3 hl)];simp only [D4D]
 by_cases h:B3R x
 ·rw [O8 h];simp only [D5g,D4G]
  by_cases h0:x.Bf.length=0
  ·have c:((x.Bf.length:Int)==0)=true:=by rw [D5x];omega
   obtain ⟨b,e1⟩:=B8z (n:=0) (by decide) (by decide)
   simp only [c,D4H,e1,D4D];exact ⟨_,rfl⟩
  ·have c:((x.Bf.length:Int)==0)=false:=by rw [D5t];omega
   have g0:0<x.Bf.length:=by omega
   have r0:=A6w (A3O x.Bo) h.2.2.1 g0;have o0:=C8H h g0;have q0:=B9z r0.2.1 r0.2.2 x.Bo;simp only [c,D4G,A7r g0,D4D,A04,<-q0];cases hlv:F7 x.Now x.W (el x.Bf 0).T with
   |true=>
    obtain ⟨b,e1⟩:=B8z (n:=T3 (el x.Bf 0) x.Bo) (by omega) (by omega)
    simp only [D4H,e1,D4D];exact ⟨_,rfl⟩
   |false=>
    have g1:=C3x h.2.2.1 g0 (by rw [hlv];decide)
    have r1:=A6w (A3O x.Bo) h.2.2.1 g1;have o1:=C8H h g1;have q1:=B9z r1.2.1 r1.2.2 x.Bo;have i1:C1 x.Bf 1=some (el x.Bf 1):=K0 g1;simp only [D4G,i1,D4D,<-q1];cases ((el x.Bf 1).Bv==A1 ((el x.Bf 0).Bv+1)) with
    |true=>
     obtain ⟨b,e1⟩:=B8z (n:=T3 (el x.Bf 1) x.Bo) (by omega) (by omega)
     simp only [D4H,e1,D4D];exact ⟨_,rfl⟩
    |false=>
     simp only [D4G,D4D];exact ⟨_,rfl⟩
 ·rw [J1 h];exact ⟨_,rfl⟩
theorem C65 {d n:Nat} (hd:d<9223372036854775808) (hn:n<9223372036854775808) (h0:0<n):
  B1r (d:Int) (n:Int)=some (B1V d n,true):=by
 have gpos:0<Nat.gcd d n:=Nat.gcd_pos_of_pos_right _ h0;have q1:d/Nat.gcd d n<=d:=Nat.div_le_self _ _;have q2:n/Nat.gcd d n<=n:=Nat.div_le_self _ _;have gle:Nat.gcd d n<=n:=Nat.gcd_le_right _ h0;unfold B1r;have c1:((n:Int)==0)=false:=by rw [D5t];omega
 rw [c1,D4G];simp only;obtain ⟨s1,_,_⟩:=C1Y (n:=(d:Int)) (by omega) (by omega)
 obtain ⟨s2,_,_⟩:=C1Y (n:=(n:Int)) (by omega) (by omega)
 rw [s1,s2,C5u (by omega) (by omega),C5u (by omega) (by omega),if_neg (by omega),if_neg (by omega),B4I]
 obtain ⟨o1,v1⟩:=B4w (n:=(d:Int)) (by omega) (by omega)
 obtain ⟨o2,v2⟩:=B4w (n:=(n:Int)) (by omega) (by omega)
 have c2:(!(decide ((d:Int)<0)==decide ((n:Int)<0)))=false:=by
  have a1:decide ((d:Int)<0)=false:=by rw [D4U];omega
  have a2:decide ((n:Int)<0)=false:=by rw [D4U];omega
  rw [a1,a2];rfl
 rw [c2];unfold B0y;rw [B8X o1 o2,v1,v2,D5j,D5j];simp only [D4D];have og:H7 (I5 ((Nat.gcd d n:Nat):Int)):=Y9 (by omega) (by omega)
 rw [B2N o1 og (by rw [X7];omega),B2N o2 og (by rw [X7];omega),X7,v1,v2]
 simp only [D4D];have f1:(d:Int)/((Nat.gcd d n:Nat):Int)=((d/Nat.gcd d n:Nat):Int):=by rw [Int.natCast_ediv]
 have f2:(n:Int)/((Nat.gcd d n:Nat):Int)=((n/Nat.gcd d n:Nat):Int):=by rw [Int.natCast_ediv]
 rw [f1,f2];unfold B1V
 generalize d/Nat.gcd d n=x at*
 generalize n/Nat.gcd d n=y at*
 unfold I5;simp only [D4Q,Bool.and_true,D4G];have c3:((((((x:Int)/18446744073709551616 !=0)||((y:Int)/18446744073709551616 !=0))||decide ((y:Int)%18446744073709551616>=9223372036854775808))||decide ((x:Int)%18446744073709551616>9223372036854775808))||((x:Int)%18446744073709551616==9223372036854775808))=false:=by
  simp only [D5d,bne_eq_false_iff_eq,D4U,D5t];omega
 rw [c3,D4G];have w1:A1 ((x:Int)%18446744073709551616)=(x:Int):=by rw [C2]<;>omega
 have w2:A1 ((y:Int)%18446744073709551616)=(y:Int):=by rw [C2]<;>omega
 rw [w1,w2]
 rfl
theorem C4e (m:A6): ∃r,A7D m=some r/\(-9223372036854775808<=r.1.Bu/\r.1.Bu<=9223372036854775807)/\(-9223372036854775808<=r.1.Bp/\r.1.Bp<=9223372036854775807):=by
 unfold A7D;rw [C32];cases hm:A2H m with
 |false=>exact ⟨_,rfl,by decide,by decide⟩
 |true=>
  have h:=(A91 m).1 hm;have t:=C1b h;have e:=C4o h;have e2:A1 (A1 (m.N*m.Q)-A1 (m.S*m.S))=A6o m:=by rw [<-e];rfl
  obtain ⟨d,hd⟩:=Int.eq_ofNat_of_zero_le t.1;have hn:=h.1;obtain ⟨n,hnn⟩:=Int.eq_ofNat_of_zero_le (show 0<=m.N by omega)
  have q1:d/Nat.gcd d n<=d:=Nat.div_le_self _ _;have q2:n/Nat.gcd d n<=n:=Nat.div_le_self _ _;simp only [D4P,D4G];rw [e,hd,hnn,C65 (by omega) (by omega) (by omega)]
  refine ⟨_,rfl, ?_, ?_⟩
  ·show (-9223372036854775808:Int)<=((d/Nat.gcd d n:Nat):Int)/\((d/Nat.gcd d n:Nat):Int)<=9223372036854775807
   generalize d/Nat.gcd d n=y at*
   omega
  ·show (-9223372036854775808:Int)<=((n/Nat.gcd d n:Nat):Int)/\((n/Nat.gcd d n:Nat):Int)<=9223372036854775807
   generalize n/Nat.gcd d n=y at*
   omega
theorem C6m (x:D1) (hl:x.Bf.length<=1048576): ∃r,B1H x=some r:=by
 have sp: ∀m,TS (A7D m) True (fun _=>True):=fun m=>⟨fun _=>let ⟨r,e,_⟩:=C4e m;⟨r,e,trivial⟩⟩
 unfold B1H;rw [A4G x (I3 hl)]
 by_cases h:B8K x
 ·have g:=fun g0 g1=>C3x (w:=x.W) h.2.1 g0 g1;simp only [A04];refine yE (Q:=fun _=>True) ?_;exact yT
 ·rw [J1 h];exact ⟨_,rfl⟩
instance {a:A2} {k:Nat}:TS (A3C a (k:Int)) (H7 a/\k<=63) (fun r=>H7 r.1):=⟨fun ⟨h1,h2⟩=>⟨_,C9o h1 h2,by
 unfold C6K;split
 ·exact Y9 (Int.mul_nonneg (by unfold H7 at h1;unfold wv;omega) (Int.le_of_lt (A0v k))) (by assumption)
 ·show H7 ⟨0,0⟩;unfold H7;simp⟩⟩
theorem C9y (x:E0) (hw:∀w∈x.Ag,H7 w): ∃r,B5b x=some r:=by
 unfold B5b;rw [A6U x hw]
 by_cases h:C0z x
 ·have h1:=h.1;have o:=U8 (A1 (A1 (x.Now-x.Bj)+1));exact yE (Q:=fun _=>True) (by exact yT)
 ·rw [J1 h];exact ⟨_,rfl⟩
theorem C4S (x:B8) (hl:x.Bb.length<=1048576): ∃r,A9x x=some r:=by
 unfold A9x;rw [A3M x (I3 hl)];simp only [D4D];cases (vOf (B2k x) !=0) with
 |true=>exact ⟨_,rfl⟩
 |false=>
  by_cases h0:x.Bb.length=0
  ·have c:((x.Bb.length:Int)==0)=true:=by rw [D5x];omega
   rw [c];exact ⟨_,rfl⟩
  ·have c:((x.Bb.length:Int)==0)=false:=by rw [D5t];omega
   rw [c,A7r (by omega)]
   exact ⟨_,rfl⟩
theorem C7P (x:F1) (hl:x.Bn.length<=1048576): ∃r,B3d x=some r:=by
 unfold B3d;rw [A5t x (I3 hl)]
 by_cases h:C0y x
 ·have hn:=h.1.1;have en:A1 ((x.Bn.length:Int)-1)=((x.Bn.length-1:Nat):Int):=by rw [C2]<;>omega
  have:TS (B2e x 0 0 0) True (fun _=>True):=⟨fun _=>by
   unfold B2e;refine yL (fun s=>0<=s.1/\s.1<=x.Bn.length/\H7 ⟨s.2.1,s.2.2⟩) (fun s=>x.Bn.length-s.1.toNat) ⟨Int.le_refl _,by simp,by unfold H7;simp⟩ fun s ⟨h1,h2,h3⟩=> ?_
   have o: ∀n,H7 (J8 (A4 n)):=fun n=>B3h (U8 n);have o1:H7 (J8 1):=B3h (by decide)
   unfold B5M;simp only [T9 s.1 (by omega),en]
   have l1: ∀a,TS (A3C a 1) (H7 a) (fun r=>H7 r.1):=fun a=>⟨fun h=>TS.pf (m:=A3C a ((1:Nat):Int)) ⟨h,by decide⟩⟩
   exact yT⟩
  exact yE (Q:=fun _=>True) (by exact yT)
 ·rw [J1 h];exact ⟨_,rfl⟩
end Go.Win
set_option maxHeartbeats 4000000
namespace Go.Win
open Go.Vc Go.Dec
theorem C9d {x:B9} (h:C0A x):x.Av.length<=65536:=by
 have:=h.1;unfold B2f at this;omega
instance {a b:A2}:TS (A1Y a b) (H7 a/\H7 b/\0<wv b) (fun _=>True):=⟨fun h=>⟨_,B2N h.1 h.2.1 h.2.2,trivial⟩⟩
theorem D1Y (a b:Int):H7 (P3 (A4 a) (A4 b)):=by
 rw [show P3=R5 from rfl,A8c (U8 a) (U8 b)];exact Y9 (A7y (U8 a) (U8 b)).1 (A7y (U8 a) (U8 b)).2
theorem D29 {q:Int} (h:1<=q/\q<=9223372036854775807):H7 (J8 (A4 q))/\0<wv (J8 (A4 q)):=by
 obtain ⟨a,b⟩:=B4w (U8 q).1 (U8 q).2;exact ⟨a,by rw [show J8=R6 from rfl,b,L7];omega⟩
instance {x:B9}:TS (A2M x) (x.Av.length<=1048576) (fun r=>r.length<=1048576):=⟨fun h=>by
 unfold A2M A98;refine yL (fun s=>0<=s.2.2/\s.2.2<=x.Av.length/\s.1.length<=s.2.2) (fun s=>x.Av.length-s.2.2.toNat) ⟨Int.le_refl _,by simp,by simp⟩ fun s hs=> ?_
 unfold A8M;simp only [T9 s.2.2 (by omega)]
 exact yT⟩
instance {x:B9} {v:Int} {l:List B4}:TS (A8r x v l 0 0) (l.length<=1048576) (fun _=>True):=⟨fun h=>by
 unfold A8r;refine yL (fun s=>0<=s.2/\s.2<=l.length) (fun s=>l.length-s.2.toNat) ⟨Int.le_refl _,by simp⟩ fun s hs=> ?_
 unfold B2C A8q;simp only [T9 s.2 (by omega)]
 exact yT⟩
instance {v a b:Int} {l:List B4}:TS (A4v v l a b 0) (l.length<=1048576) (fun _=>True):=⟨fun h=>by
 unfold A4v;refine yL (fun s=>0<=s.2.2/\s.2.2<=l.length) (fun s=>l.length-s.2.2.toNat) ⟨Int.le_refl _,by simp⟩ fun s hs=> ?_
 unfold A8o;simp only [T9 s.2.2 (by omega)]
 exact yT⟩
theorem C7R (x:B9) (v:Int): ∃r,A8p x v=some r:=by
 unfold A8p;rw [A3Z]
 by_cases hv:C0A x
 ·have:=C9d hv;exact yE (Q:=fun _=>True) (by exact yT)
 ·rw [J1 hv];exact ⟨_,rfl⟩
theorem C6n (x:B9) (p q:Int) (hp:-9223372036854775808<=p/\p<=9223372036854775807) (hq:-9223372036854775808<=q/\q<=9223372036854775807): ∃r,A3Y x p q=some r:=by
 unfold A3Y A9j;rw [A3Z]
 by_cases hv:C0A x
 ·have:=C9d hv
  by_cases hq1:1<=q
  ·have o:=D29 (q:=q) ⟨hq1,hq.2⟩;have o2:=D1Y p x.N;exact yE (Q:=fun _=>True) (by exact yT)
  ·have e:decide (q<1)=true:=D4I (by omega)
   rw [e];exact yE (Q:=fun _=>True) (by exact yT)
 ·rw [J1 hv];exact ⟨_,rfl⟩
end Go.Win
set_option maxHeartbeats 4000000
namespace Go.Win
open Go.Vc Go.Dec
instance {r:D0} {v:Int}:TS (B3l r v) (r.Ae.length<=1000000000) (fun _=>True):=⟨fun h=>by
 have:TS (B2s r v 0 0) True (fun _=>True):=⟨fun _=>by
  unfold B2s;refine yL (fun s=>0<=s.2/\s.2<=r.Ae.length) (fun s=>r.Ae.length-s.2.toNat) ⟨Int.le_refl _,by simp⟩ fun s hs=> ?_
  unfold B5P B2r;simp only [T9 s.2 (by omega)]
  exact yT⟩
 unfold B3l;rw [A0e r (by omega)]
 exact yT⟩
theorem C5E (l:List B2) {i:Nat} (h:i<l.length):L4 (l.take (i+1))=L4 (l.take i)+(el l i).Bh.Ae.length:=by
 rw [List.take_add_one,A5n h,A84];simp [L4]
theorem C4i {l:List B2} (hs:Z8 l) (he:L4 l<=900000000):T (A2N l) fun r=>r.1.Ae.length<=1000000000:=by
 have hl:=hs.1;have j7: ∀n e,e.length<=1+(el l 0).Bh.Ae.length->0<l.length->TS (A1E l n e) True (fun r=>r.1.Ae.length<=1000000000):=fun n e h1 h2=>⟨fun _=>by
  have e0:=C5E l h2;have e1:L4 (l.take 0)=0:=rfl;have e9: ∀i,i<=l.length->L4 (l.take i)<=L4 l:=fun i hi=>by
   conv=>rhs;rw [<-List.take_append_drop i l,A84]
   omega
  unfold A1E B37;refine yK (by simp;omega) ?_
  refine yL (fun s=>0<=s.1/\s.1+1<=l.length/\s.2.2.length<=1+L4 (l.take (s.1.toNat+1))) (fun s=>l.length-s.1.toNat) ⟨Int.le_refl _,by show (0:Int)+1<=_;omega,by show e.length<=1+L4 (l.take (0+1));omega⟩ fun s ⟨h3,h4,h5⟩=> ?_
  have e2:=e9 (s.1.toNat+1) (by omega)
  unfold B2W;rw [show (1:Int).toNat=1 from rfl,D5b];refine yC (fun h=> ?_) (fun _=>yP (yI (by show s.2.2.length<=_;omega)))
  rw [D4F] at h;have h6:s.1.toNat+1<l.length:=by omega
  have e3:=C5E l h6;have e4:=e9 (s.1.toNat+1+1) (by omega)
  have e5:el (l.drop 1) s.1.toNat=el l (s.1.toNat+1):=by
   rw [L6 (by rw [D5b];omega),L6 h6,List.getElem_drop]
   congr 1;omega
  have e6:=hs.2 _ (L8 h6);simp only [T9 s.1 (by omega)]
  refine yB (yX ⟨h3,by rw [D5b];omega⟩ fun _=> ?_)
  rw [e5];refine yB (yS ⟨by show s.2.2.length<=_;omega,e6⟩ fun y hy=> ?_)
  have hy:y.1.Ae.length<=s.2.2.length+(el l (s.1.toNat+1)).Bh.Ae.length:=hy;have e7:(s.1+1).toNat=s.1.toNat+1:=by omega
  refine yC (fun _=>yI (Nat.zero_le _)) (fun _=>yI ⟨⟨by show 0<=s.1+1;omega,by show s.1+1+1<=_;omega, ?_⟩, ?_⟩)
  ·show y.1.Ae.length<=1+L4 (l.take ((s.1+1).toNat+1));rw [e7];omega
  ·show l.length-(s.1+1).toNat<l.length-s.1.toNat;omega⟩
 have v: ∀i,i<l.length->TS (R4 (el l i).Bh) True (fun _=>True):=fun i hi=>⟨fun _=>⟨_,A0e _ (by have:=hs.2 _ (L8 hi);omega),trivial⟩⟩
 unfold A2N B36;refine yL (fun s=>0<=s/\s<=l.length) (fun s=>l.length-s.toNat) ⟨Int.le_refl _,by simp⟩ fun s hs=> ?_
 unfold B2V Z9;simp only [T9 s (by omega)]
 refine yC (fun h=> ?_) (fun h=>yP ?_)
 ·rw [D4F] at h;have:=v s.toNat (by omega)
  exact yT
 ·refine yC (fun _=>yI (Nat.zero_le _)) (fun h=> ?_);rw [D5t] at h;have h0:0<l.length:=by omega
  have a: ∀n,TS (A1E l n (el l (Int.toNat 0)).Bh.Ae) True (fun r=>r.1.Ae.length<=1000000000):=fun n=>j7 n (el l 0).Bh.Ae (by omega) h0
  have b:=fun n x=>j7 n [x] (by simp) h0
  exact yT
theorem C7Q (x:C3) (v:Int) (hs:Z8 x.Ak) (he:L4 x.Ak<=900000000): ∃r,A6W x v=some r:=by
 have:TS (A2N x.Ak) True (fun r=>r.1.Ae.length<=1000000000):=⟨fun _=>C4i hs he⟩;unfold A6W B3G;rw [A1o x hs];exact yE (Q:=fun _=>True) (by exact yT)
theorem C6k (x:C3) (p q:Int) (hp:-9223372036854775808<=p/\p<=9223372036854775807) (hq:-9223372036854775808<=q/\q<=9223372036854775807) (hs:Z8 x.Ak) (he:L4 x.Ak<=900000000): ∃r,A5A x p q=some r:=by
 have:TS (A2N x.Ak) True (fun r=>r.1.Ae.length<=1000000000):=⟨fun _=>C4i hs he⟩;have: ∀r:D0,TS (A4a r p q) (r.Ae.length<=1000000000) (fun _=>True):=fun r=>⟨fun h=>let ⟨y,e⟩:=C5e r p q hp hq h;⟨y,e,trivial⟩⟩
 unfold A5A A7I;rw [A1o x hs];exact yE (Q:=fun _=>True) (by exact yT)
end Go.Win
set_option maxHeartbeats 4000000
namespace Go.Win
open Go.Vc Go.Dec
def D31:E3:=⟨⟨⟨0,0⟩,⟨0,0⟩,⟨0,0⟩⟩, [],⟨⟨0,0⟩,⟨0,0⟩⟩⟩
theorem C9x (s:A7) (w:X9 s) (q:I4) (ho:-9223372036854775808<=q.Op/\q.Op<=9223372036854775807) (hA:-9223372036854775808<=q.A/\q.A<=9223372036854775807) (hB:-9223372036854775808<=q.B/\q.B<=9223372036854775807):
  ∃r,Z4 s q=some r/\r.1.Aw.length<=16:=by
 obtain ⟨h1,h2,h3,h4,h5,h6,h7,h8,h9,h10,h11⟩:=id w;unfold Z4;rw [(Q9 s w),D4D]
 by_cases hv:A2j s
 ·obtain ⟨⟨hf,hq⟩,_⟩:=B5a hv w;unfold B88 at hf;rw [O8 hv];simp only [D5g,D4G];cases A1G s.Ao q.Op with
  |false=>exact ⟨_,rfl,Nat.zero_le _⟩
  |true=>
  simp only [D4P,D4G];have fin: ∀(f v:Int) (b:Bool) (a:E3),a.Aw.length<=16-> ∃r,N5 f v b a=some r/\r.1.Aw.length<=16:=by
   intro f v b a ha;unfold N5;cases (f !=0) with
   |true=>exact ⟨_,rfl,Nat.zero_le _⟩
   |false=>
    cases b with
    |true=>exact ⟨_,rfl,by show 1<=16;omega⟩
    |false=>exact ⟨_,rfl,ha⟩
  have fin0: ∀(f:Int) (a:E3),a.Aw.length<=16-> ∃r,(cond (f !=(0:Int)) (some (D31,f)) (some (a,(0:Int))))=some r/\r.1.Aw.length<=16:=by
   intro f a ha;cases (f !=0) with
   |true=>exact ⟨_,rfl,Nat.zero_le _⟩
   |false=>exact ⟨_,rfl,ha⟩
  cases c1:(s.Ao.Bi==(1:Int)) with
  |true=>
   obtain ⟨r,e1,e3⟩:=D2A s.Aq q (I3 h1) hA hB;simp only [D4H,e1,D4D];exact ⟨_,rfl,by show r.1.Aw.length<=16;omega⟩
  |false=>
  cases c2:(s.Ao.Bi==(2:Int)) with
  |true=>
   obtain ⟨r,e1⟩:=C7O s.Ay (by omega)
   simp only [D4H,D4G,e1,D4D];exact fin _ _ _ _ (Nat.zero_le _)
  |false=>
  cases c3:(s.Ao.Bi==(3:Int)) with
  |true=>
   obtain ⟨r,e1⟩:=D1r s.Sum (by omega)
   simp only [D4H,D4G,e1,D4D];exact fin _ _ _ _ (Nat.zero_le _)
  |false=>
  cases c4:(s.Ao.Bi==(4:Int)) with
  |true=>
   obtain ⟨r,e1⟩:=C6l s.As (by omega)
   simp only [D4H,D4G,e1,D4D];exact fin _ _ _ _ (Nat.zero_le _)
  |false=>
  cases c5:(s.Ao.Bi==(5:Int)) with
  |true=>
   obtain ⟨r,e1⟩:=C6m s.Au (by omega)
   simp only [D4H,D4G,e1,D4D];exact fin _ _ _ _ (Nat.zero_le _)
  |false=>
  cases c6:(s.Ao.Bi==(6:Int)) with
  |true=>
   obtain ⟨r,e1⟩:=C9y s.Bm h6.2;simp only [D4H,D4G,e1,D4D];exact fin _ _ _ _ (Nat.zero_le _)
  |false=>
  cases c7:(s.Ao.Bi==(7:Int)) with
  |true=>
   obtain ⟨r,e1⟩:=C7P s.Ba (by omega)
   simp only [D4H,D4G,e1,D4D];exact fin _ _ _ _ (Nat.zero_le _)
  |false=>
  cases c8:(s.Ao.Bi==(8:Int)) with
  |true=>
   obtain ⟨r,e1⟩:=C4S s.Af (by omega)
   simp only [D4H,D4G,e1,D4D];exact fin _ _ _ _ (Nat.zero_le _)
  |false=>
  cases c9:(s.Ao.Bi==(9:Int)) with
  |true=>
   obtain ⟨r,e1,e3⟩:=C4R s.Ar (I3 h9.1) (fun c hc=>I3 (h9.2 c hc));simp only [D4H,D4G,e1,D4D];exact fin _ _ _ _ e3
  |false=>
  cases c10:(s.Ao.Bi==(10:Int)) with
  |true=>
   simp only [D4H,D4G];cases (q.Op==(7:Int)) with
   |true=>
    obtain ⟨r,e1⟩:=C7R s.Ai q.A;simp only [D4H,e1,D4D];exact fin0 _ _ (Nat.zero_le _)
   |false=>
    obtain ⟨r,e1⟩:=C6n s.Ai q.A q.B hA hB;simp only [D4G,e1,D4D];exact fin _ _ _ _ (Nat.zero_le _)
  |false=>
  cases c11:(s.Ao.Bi==(11:Int)) with
  |true=>
   have hsm:=h11;simp only [D4H,D4G];cases (q.Op==(7:Int)) with
   |true=>
    obtain ⟨r,e1⟩:=C7Q s.Ab q.A hsm (by omega)
    simp only [D4H,e1,D4D];exact fin0 _ _ (Nat.zero_le _)
   |false=>
    obtain ⟨r,e1⟩:=C6k s.Ab q.A q.B hA hB hsm (by omega)
    simp only [D4G,e1,D4D];exact fin _ _ _ _ (Nat.zero_le _)
  |false=>
   simp only [D4G];exact fin _ _ _ _ (Nat.zero_le _)
 ·rw [J1 hv];exact ⟨_,rfl,Nat.zero_le _⟩
end Go.Win
set_option maxHeartbeats 4000000
namespace Go.Win
open Go.Vc Go.Dec
def H2 (l:List B0) (i:Nat):Int:=(l.getD i default).ID
theorem C3U {l:List B0} {i:Nat} (h:i<l.length):C1 l (i:Int)=some (l.getD i default):=by
 rw [U1,D4R h];simp [List.getD,D4R h]
def Asc (l:List B0):Prop:= ∀i,i+1<l.length->H2 l i<H2 l (i+1)
theorem C7N {l:List B0} (h:Asc l): ∀ {i j:Nat},i<j->j<l.length->H2 l i<H2 l j:=by
 intro i j hij hj
 induction j with
 |zero=>omega
 |succ j ih=>
  have:=h j hj
  by_cases e:i=j
  ·subst e;exact this
  ·have:=ih (by omega) (by omega);omega
def B12 (l:List B0) (id:Int):Nat->Nat
 |0=>0
 |i+1=>B12 l id i+if H2 l i<id then 1 else 0
theorem B7m (l:List B0) (id:Int): ∀i,B12 l id i<=i
 |0=>D5l 0
 |i+1=>by
  have:=B7m l id i;simp only [B12];split<;>omega
theorem B8v {l:List B0} (h:Asc l) (id:Int): ∀i,i<=l.length-> ∀j,j<i->(H2 l j<id↔j<B12 l id i):=by
 intro i
 induction i with
 |zero=>intro _ j hj;omega
 |succ i ih=>
  intro hi j hj;have hc:=B7m l id i;simp only [B12]
  by_cases hlt:H2 l i<id
  ·rw [if_pos hlt];have full:B12 l id i=i:=by
    apply Nat.le_antisymm hc;apply Nat.le_of_not_lt;intro hlt2;have h1:=(ih (by omega) (B12 l id i) hlt2)
    have h2:H2 l (B12 l id i)<H2 l i:=C7N h hlt2 (by omega)
    have:=h1.1 (by omega)
    omega
   constructor
   ·intro _;omega
   ·intro _
    by_cases e:j=i
    ·subst e;exact hlt
    ·have:=C7N h (show j<i by omega) (by omega);omega
  ·rw [if_neg hlt]
   by_cases e:j=i
   ·subst e;constructor
    ·intro hh;exact absurd hh hlt
    ·intro hh;omega
   ·exact ih (by omega) j (by omega)
def B4j (l:List B0) (id:Int) (n:Nat):Int×Bool:=((n:Int),decide ((n:Int)<(l.length:Int))&&(H2 l n==id))
theorem C8f (l:List B0) (id:Int) (n:Nat):
  (Option.bind (gd (decide ((n:Int)<(l.length:Int))) (C1 l (n:Int))) fun x=>some ((n:Int),((decide ((n:Int)<(l.length:Int)))&&(x.ID==id))))=some (B4j l id n):=by
 by_cases h:n<l.length
 ·rw [D4I (by omega),I0,C3U h,D4D]
  unfold B4j H2;rw [D4I (by omega)]
 ·rw [D4K (by omega),K7,D4D]
  unfold B4j;rw [D4K (by omega)];rfl
theorem D2S {a b:Nat} (h:a+b<=9223372036854775807):A1 (F8 .u64 (A4 (A1 ((a:Int)+(b:Int)))) 1)=(((a+b)/2:Nat):Int):=by
 have e1:A1 ((a:Int)+(b:Int))=((a+b:Nat):Int):=by rw [C2]<;>omega
 have e2:A4 (((a+b:Nat):Int))=((a+b:Nat):Int):=by rw [L7];omega
 have e3: ∀x:Int,F8 .u64 x 1=x/2:=fun x=>by
  show x.fdiv (2^(min (1:Int).toNat IntKind.u64.bits))=_;have:min (1:Int).toNat IntKind.u64.bits=1:=rfl;rw [this,Int.fdiv_eq_ediv_of_nonneg _ (by decide)]
  rfl
 rw [e1,e2,e3,C2]<;>omega
theorem D0C (l:List B0) (id:Int) (N:Nat) (hN:N<=l.length) (hl:l.length<=1000000) (hp:∀j,j<l.length->(H2 l j<id↔j<N)):
  A5L (l.length:Int) l id=some (N:Int):=by
 unfold A5L B05;have key: ∀m lo hi:Nat,hi-lo<=m->lo<=N->N<=hi->hi<=l.length->
   loop (fun (s:(Int×Int))=>X6 l id s.1 s.2) ((lo:Int),(hi:Int))=some (N:Int):=by
  intro m
  induction m with
  |zero=>
   intro lo hi h1 h2 h3 h4;have:lo=N:=by omega
   subst this;have:hi=lo:=by omega
   subst this;refine S3 ?_;unfold X6;rw [D4K (by omega)];rfl
  |succ m ih=>
   intro lo hi h1 h2 h3 h4
   by_cases hlt:lo<hi
   ·have hmid:(lo+hi)/2<l.length:=by omega
    have hp' :=hp _ hmid;have hst:X6 l id (lo:Int) (hi:Int)=some (.inl (if (lo+hi)/2<N then (((((lo+hi)/2+1:Nat)):Int),(hi:Int)) else ((lo:Int),(((lo+hi)/2:Nat):Int)))):=by
     unfold X6 A48;rw [D4I (by omega),D4H]
     simp only [D2S (show lo+hi<=9223372036854775807 by omega),C3U hmid,D4D]
     have e2:A1 ((((lo+hi)/2:Nat):Int)+1)=(((lo+hi)/2+1:Nat):Int):=by rw [C2]<;>omega
     rw [e2];show cond (!(decide (H2 l ((lo+hi)/2)>=id))) _ _=_
     by_cases h:(lo+hi)/2<N
     ·have:=hp'.2 h;rw [D4K (by omega),if_pos h];rfl
     ·have: ¬H2 l ((lo+hi)/2)<id:=fun hh=>h (hp'.1 hh);rw [D4I (by omega),if_neg h];rfl
    rw [N8 hst]
    by_cases h:(lo+hi)/2<N
    ·rw [if_pos h];exact ih _ _ (by omega) (by omega) (by omega) (by omega)
    ·rw [if_neg h];exact ih _ _ (by omega) (by omega) (by omega) (by omega)
   ·have:lo=N:=by omega
    subst this;refine S3 ?_;unfold X6;rw [D4K (by omega)];rfl
 exact key l.length 0 l.length (by omega) (by omega) hN (by omega)
theorem A9X (l:List B0) (id:Int) (hl:l.length<=1000000) (h:Asc l):A0g l id=some (B4j l id (B12 l id l.length)):=by
 unfold A0g;rw [D0C l id _ (B7m l id _) hl (fun j hj=>B8v h id _ (D5l _) j hj),D4D];exact C8f l id _
end Go.Win
set_option maxHeartbeats 4000000
namespace Go.Win
open Go.Vc Go.Dec
def B48 (l:List B0) (i:Nat):Prop:=(0<=(el l i).ID/\(el l i).ID<=1048576)/\(1<=i->(el l (i-1)).ID<(el l i).ID)/\A2j (el l i).Ac
def B3Q (l:List B0) (limit:Int):Prop:=((1<=limit/\limit<=64)/\(l.length:Int)<=limit)/\ ∀i,i<l.length->B48 l i
def A74 (l:List B0):Prop:=l.length<=1048576/\ ∀r∈l,X9 r.Ac
theorem D2i {l:List B0} (w:A74 l) {i:Nat} (hi:i<l.length):X9 (el l i).Ac:=w.2 _ (L8 hi)
theorem D0z {l:List B0} (hl:l.length<=maxLen) {i:Nat} (hi:i<l.length) (V:A7->Option Int) (hV:V (el l i).Ac=some (vOf (A2j (el l i).Ac))):
  (¬B48 l i->(cond (decide ((i:Int)<(l.length:Int))) (
   Option.bind (C1 l (i:Int)) fun x5_1=>
   Option.bind (gd ((!((decide (x5_1.ID<(0:Int)))||(decide (x5_1.ID>(1048576:Int)))))&&(decide ((i:Int)>(0:Int)))) (C1 l (A1 ((i:Int)-(1:Int))))) fun x6_15=>
   Option.bind (gd (!(((decide (x5_1.ID<(0:Int)))||(decide (x5_1.ID>(1048576:Int))))||((decide ((i:Int)>(0:Int)))&&(decide (x6_15.ID>=x5_1.ID))))) (V x5_1.Ac)) fun y6_26=>
   cond ((((decide (x5_1.ID<(0:Int)))||(decide (x5_1.ID>(1048576:Int))))||((decide ((i:Int)>(0:Int)))&&(decide (x6_15.ID>=x5_1.ID))))||(y6_26 !=(0:Int))) (
    some (.inr false))<|
   some (.inl (A1 ((i:Int)+(1:Int))))) (Option.map Sum.inr (some true)):Option (Int⊕Bool))=some (.inr false))/\
  (¬ ¬B48 l i->(cond (decide ((i:Int)<(l.length:Int))) (
   Option.bind (C1 l (i:Int)) fun x5_1=>
   Option.bind (gd ((!((decide (x5_1.ID<(0:Int)))||(decide (x5_1.ID>(1048576:Int)))))&&(decide ((i:Int)>(0:Int)))) (C1 l (A1 ((i:Int)-(1:Int))))) fun x6_15=>
   Option.bind (gd (!(((decide (x5_1.ID<(0:Int)))||(decide (x5_1.ID>(1048576:Int))))||((decide ((i:Int)>(0:Int)))&&(decide (x6_15.ID>=x5_1.ID))))) (V x5_1.Ac)) fun y6_26=>
   cond ((((decide (x5_1.ID<(0:Int)))||(decide (x5_1.ID>(1048576:Int))))||((decide ((i:Int)>(0:Int)))&&(decide (x6_15.ID>=x5_1.ID))))||(y6_26 !=(0:Int))) (
    some (.inr false))<|
   some (.inl (A1 ((i:Int)+(1:Int))))) (Option.map Sum.inr (some true)):Option (Int⊕Bool))=some (.inl ((i+1:Nat):Int))):=by
 rw [D4I (by omega:(i:Int)<(l.length:Int)),D4H,K0 hi,D4D,A0F hi hl,hV]
 by_cases g1:0<=(el l i).ID/\(el l i).ID<=1048576
 ·have e1:(decide ((el l i).ID<0)||decide ((el l i).ID>1048576))=false:=by
   rw [D4T];simp only [D4O,D4F,Ne];omega
  rw [e1];simp only [D4Q,D5e,D44];rcases i with _|i
  ·have e4:decide (((0:Nat):Int)>0)=false:=rfl;rw [e4];simp only [K7,D4D,D48,D4Q,I0,D44];refine T7 ?_;rw [C5W];unfold B48;exact ⟨fun h h2=>h h2.2.2,fun h h2=>h ⟨g1,fun h3=>absurd h3 (by decide),h2⟩⟩
  ·have e4:decide (((i+1:Nat):Int)>0)=true:=D4I (by omega)
   rw [e4,B1q (by omega) (Nat.le_of_lt hi) hl,D5k,K0 (by omega)]
   simp only [I0,D4D,D5e]
   by_cases g2:(el l i).ID>=(el l (i+1)).ID
   ·rw [D4I g2];simp only [D4P,K7,D4D,D5n,D4H];refine ⟨fun _=>trivial,fun h=>absurd (fun h2=> ?_) h⟩;have:=h2.2.1 (by omega)
    rw [D5k] at this;omega
   ·rw [D4K g2];simp only [D4Q,I0,D4D,D44];refine T7 ?_;rw [C5W];unfold B48;exact ⟨fun h h2=>h h2.2.2,fun h h2=>h ⟨g1,fun _=>by rw [D5k];omega,h2⟩⟩
 ·have e1:(decide ((el l i).ID<0)||decide ((el l i).ID>1048576))=true:=by
   simp only [D4O,D4F];omega
  rw [e1];simp only [D4P,D48,K7,D4D,D5n,D4H];exact ⟨fun _=>trivial,fun h=>absurd (fun h2=>g1 h2.1) h⟩
theorem A5H (l:List B0) (limit:Int) (w:A74 l):A0x l limit=some (bOf (B3Q l limit)):=by
 have hl:=I3 w.1;unfold A0x
 by_cases h1:(1<=limit/\limit<=64)/\(l.length:Int)<=limit
 ·have e:((decide (limit<(1:Int))||decide (limit>(64:Int)))||decide ((l.length:Int)>limit))=false:=by
   rw [D4T];simp only [D4O,D4F,Ne];omega
  rw [e,D4G];have H1:=A0b (f:=fun s:Int=>A5a l s) l.length (fun i=> ¬B48 l i) false (some true)
   (fun i hi _=>D0z hl hi K1 (Q9 _ (D2i w hi)))
   (fun _=>by
    unfold A5a;rw [D4K (D46 _),D4G])
  unfold B00
  by_cases h2: ∀i,i<l.length->B48 l i
  ·rw [H1.2 fun i hi hn=>hn (h2 i hi),A1r ⟨h1,h2⟩]
  ·rw [H1.1 (A5z h2),V5 fun h=>h2 h.2]
 ·have e:((decide (limit<(1:Int))||decide (limit>(64:Int)))||decide ((l.length:Int)>limit))=true:=by
   simp only [D4O,D4F];omega
  rw [e,D4H,V5 fun h=>h1 h.1]
theorem B2y (l:List B0) (i:Nat):H2 l i=(el l i).ID:=rfl
theorem B2l {l:List B0} {limit:Int} (h:B3Q l limit):Asc l:=by
 intro i hi;have:=(h.2 (i+1) hi).2.1 (by omega)
 rw [D5k] at this;rw [B2y,B2y];exact this
def B1i (l:List B0):List Int:=l.map (·.ID)
theorem C9Z (l:List B0) (hl:l.length<=1048576):A49 l=some (B1i l):=by
 unfold A49 B3p;have H:=A5u (f:=fun s:List Int×Int=>A3T l s.1 s.2) (fun i=>(B1i (l.take i),(i:Int))) 0 l.length (Nat.zero_le _) (fun _=>False) [] (some (B1i l))
  (fun i _ hi _=>by
   refine ⟨fun h=>h.elim,fun _=> ?_⟩;simp only [];unfold A3T;rw [D4I (by omega:(i:Int)<(l.length:Int)),D4H,K0 hi,D4D,A0F hi (I3 hl)]
   have e1:B1i (l.take (i+1))=B1i (l.take i)++ [(el l i).ID]:=by
    rw [List.take_add_one,A5n hi];simp [B1i]
   have e2:(B1i (l.take i)).length=i:=by unfold B1i;rw [D5q,D45];omega
   rw [e1,e2,D4I (by simp only [D4W,D49];omega),A2o])
  (fun _=>by
   simp only [];unfold A3T;rw [D4K (D46 _),D4G,List.take_length])
 exact H.2 (fun _ _ _ h=>h)
def U0 (l:List B0) (id:Int):Nat:=B12 l id l.length
theorem D2B (l:List B0) (id:Int):U0 l id<=l.length:=B7m l id _
def A2P (l:List B0) (id:Int):Bool:=decide ((U0 l id:Int)<(l.length:Int))&&(H2 l (U0 l id)==id)
theorem B2d (l:List B0) (id:Int):B4j l id (B12 l id l.length)=((U0 l id:Int),A2P l id):=rfl
open Classical in
noncomputable def A59 (l:List B0) (limit:Int) (r:B0):List B0×Int:=
 if¬(B3Q l limit/\A2j r.Ac) then ([],2) else if r.ID<0\/r.ID>1048576 then ([],1) else if A2P l r.ID=true then ([],10) else if (l.length:Int)=limit then ([],5) else
 (l.take (U0 l r.ID)++ [r]++l.drop (U0 l r.ID),0)
open Classical in
noncomputable def B3V (l:List B0) (id:Int):List B0×Int:=
 if¬B3Q l 64 then ([],2) else if A2P l id=true then (l.take (U0 l id)++l.drop (U0 l id+1),0) else ([],11)
open Classical in
noncomputable def B0z (l:List B0) (r:B0):List B0×Int:=
 if¬(B3Q l 64/\A2j r.Ac) then ([],2) else if A2P l r.ID=true then (l.set (U0 l r.ID) r,0) else ([],11)
theorem C31 (l:List B0) (limit:Int) (r:B0) (w:A74 l) (wr:X9 r.Ac):A4D l limit r=some (A59 l limit r):=by
 have v1:=A5H l limit w;have s1:=Q9 r.Ac wr;unfold A4D;rw [v1,s1]
 by_cases h1:B3Q l limit
 ·rw [A1r h1];simp only [D4D,D4P,D4Q,I0,D44]
  by_cases h2:A2j r.Ac
  ·rw [O8 h2,D5g,D4G]
   by_cases h3:r.ID<0\/r.ID>1048576
   ·have e:(decide (r.ID<0)||decide (r.ID>1048576))=true:=by simp only [D4O,D4F];exact h3
    have e' :A59 l limit r=([],1):=by unfold A59;rw [if_neg (fun h=>h ⟨h1,h2⟩),if_pos h3]
    rw [e,e'];rfl
   ·have e:(decide (r.ID<0)||decide (r.ID>1048576))=false:=by rw [D4T];simp only [D4O,D4F,Ne];exact h3
    have hlen:=h1.1;rw [e,D4G,A9X l r.ID (by omega) (B2l h1),B2d]
    simp only [D4D];cases h4:A2P l r.ID with
    |true=>
     have e' :A59 l limit r=([],10):=by unfold A59;rw [if_neg (fun h=>h ⟨h1,h2⟩),if_neg h3,if_pos h4]
     rw [e'];rfl
    |false=>
     simp only [D4G]
     by_cases h5:(l.length:Int)=limit
     ·have e' :A59 l limit r=([],5):=by unfold A59;rw [if_neg (fun h=>h ⟨h1,h2⟩),if_neg h3,if_neg (by rw [h4];decide),if_pos h5]
      rw [h5,beq_self_eq_true,e'];rfl
     ·have e' :A59 l limit r=(l.take (U0 l r.ID)++ [r]++l.drop (U0 l r.ID),0):=by unfold A59;rw [if_neg (fun h=>h ⟨h1,h2⟩),if_neg h3,if_neg (by rw [h4];decide),if_neg h5]
      have e5:((l.length:Int)==limit)=false:=D5t.2 h5;have ha:=D2B l r.ID;rw [e5,e'];simp only [D4G];simp only [D5j,List.nil_append,D49,D4J,D45,D5b,D4W];have k1:decide (0<=(U0 l r.ID:Int)/\(U0 l r.ID:Int)<=(l.length:Int))=true:=D4I (by omega)
      have k2: ∀n:Nat,n<=1000->decide (n*640<=140737488355328)=true:=fun n hn=>D4I (by omega)
      rw [k1]
      repeat rw [k2 _ (by omega)]
      rfl
  ·have e' :A59 l limit r=([],2):=by unfold A59;rw [if_pos fun h=>h2 h.2]
   rw [J1 h2,e'];rfl
 ·have e' :A59 l limit r=([],2):=by unfold A59;rw [if_pos fun h=>h1 h.1]
  rw [V5 h1,e'];rfl
theorem C87 (l:List B0) (id:Int) (w:A74 l):A4E l id=some (B3V l id):=by
 have v1:=A5H l 64 w;unfold A4E;rw [v1]
 by_cases h1:B3Q l 64
 ·rw [A1r h1];have hlen:=h1.1;simp only [D4D,D4P,D4G];rw [A9X l id (by omega) (B2l h1),B2d]
  simp only [D4D];cases h4:A2P l id with
  |false=>
   have e' :B3V l id=([],11):=by unfold B3V;rw [if_neg (fun h=>h h1),if_neg (by rw [h4];decide)]
   rw [e'];rfl
  |true=>
   have e' :B3V l id=(l.take (U0 l id)++l.drop (U0 l id+1),0):=by unfold B3V;rw [if_neg (fun h=>h h1),if_pos h4]
   have hlt:U0 l id<l.length:=by
    unfold A2P at h4;simp only [D4L,D4F] at h4;omega
   have es:A1 ((U0 l id:Int)+1)=((U0 l id+1:Nat):Int):=by rw [C2]<;>omega
   rw [e',es];simp only [D4P,D4G];simp only [D5j,List.nil_append,D49,D45,D5b];have k1:decide (0<=(U0 l id:Int)/\(U0 l id:Int)<=(l.length:Int))=true:=D4I (by omega)
   have k3:decide (0<=((U0 l id+1:Nat):Int)/\((U0 l id+1:Nat):Int)<=(l.length:Int))=true:=D4I (by omega)
   have k2: ∀n:Nat,n<=1000->decide (n*640<=140737488355328)=true:=fun n hn=>D4I (by omega)
   rw [k1,k3]
   repeat rw [k2 _ (by omega)]
   rfl
 ·have e' :B3V l id=([],2):=by unfold B3V;rw [if_pos h1]
  rw [V5 h1,e'];rfl
theorem C7o (l:List B0) (r:B0) (w:A74 l) (wr:X9 r.Ac):A3U l r=some (B0z l r):=by
 have v1:=A5H l 64 w;have s1:=Q9 r.Ac wr;unfold A3U;rw [v1,s1]
 by_cases h1:B3Q l 64
 ·rw [A1r h1];have hlen:=h1.1;simp only [D4D,D4P,D4Q,I0,D44]
  by_cases h2:A2j r.Ac
  ·rw [O8 h2,D5g,D4G,A9X l r.ID (by omega) (B2l h1),B2d]
   simp only [D4D];cases h4:A2P l r.ID with
   |false=>
    have e' :B0z l r=([],11):=by unfold B0z;rw [if_neg (fun h=>h ⟨h1,h2⟩),if_neg (by rw [h4];decide)]
    rw [e'];rfl
   |true=>
    have e' :B0z l r=(l.set (U0 l r.ID) r,0):=by unfold B0z;rw [if_neg (fun h=>h ⟨h1,h2⟩),if_pos h4]
    have hlt:U0 l r.ID<l.length:=by
     unfold A2P at h4;simp only [D4L,D4F] at h4;omega
    rw [e'];simp only [D4P,D4G];simp only [D5j,List.nil_append,D49,Nat.zero_add,K0 hlt,D4D];have k2:decide (l.length*640<=140737488355328)=true:=D4I (by omega)
    rw [k2]
    rfl
  ·have e' :B0z l r=([],2):=by unfold B0z;rw [if_pos fun h=>h2 h.2]
   rw [J1 h2,e'];rfl
 ·have e' :B0z l r=([],2):=by unfold B0z;rw [if_pos fun h=>h1 h.1]
  rw [V5 h1,e'];rfl
end Go.Win
set_option maxHeartbeats 4000000
namespace Go.Win
open Go.Vc Go.Dec
def cb (u:Nat):List Int:=if u<128 then [(u:Int)] else ((128+u%128:Nat):Int)::cb (u/128)
termination_by u
decreasing_by omega
def byt (l:List Int):Prop:= ∀x∈l,0<=x/\x<=255
def zz (n:Int):Nat:=if 0<=n then (2*n).toNat else (-2*n-1).toNat
def C9I (n:Int):List Int:=cb (zz n)
def wr (ns:List Int):List Int:=ns.flatMap C9I
def C7D (ns:List Int):Prop:= ∀n∈ns,E2 .i64 n
end Go.Win
set_option maxHeartbeats 4000000
namespace Go.Win
open Go.Vc Go.Dec
theorem D3V {v:Nat} (hv:v<18446744073709551616):C0t .u64 (v:Int)=((18446744073709551615-v:Nat):Int):=by
 show IntKind.u64.wrap _=_;have hbits:IntKind.u64.bits=64:=rfl;rw [hbits,IntKind.wrap_u64];have e:BitVec.ofInt 64 (if IntKind.u64.signed then-1 else IntKind.u64.max)=BitVec.allOnes 64:=by decide
 rw [e,BitVec.allOnes_xor,BitVec.toNat_not,BitVec.toNat_ofInt];omega
theorem C4D {n:Int}:E2 .i64 n↔ -9223372036854775808<=n/\n<=9223372036854775807:=by
 simp [E2,Lit.wf,IntKind.min,IntKind.max,IntKind.signed,IntKind.bits]
end Go.Win
set_option maxHeartbeats 4000000
namespace Go.Win
open Go.Vc Go.Dec
end Go.Win
set_option maxHeartbeats 4000000
namespace Go.Win
open Go.Vc Go.Dec
end Go.Win
set_option maxHeartbeats 4000000
namespace Go.Win
open Go.Vc Go.Dec
def C0x (e:D4) (i:Nat):Prop:=(J6 (el e.Ah i).Ac).2=true->(J6 (el e.Ah i).Ac).1=e.Now
def C6V (e:D4):Prop:=((0<=e.Now/\e.Now<=16777216)/\B3Q e.Ah e.Bd)/\ ∀i,i<e.Ah.length->C0x e i
theorem C6p {e:D4} (hl:e.Ah.length<=maxLen) {i:Nat} (hi:i<e.Ah.length):
  (¬C0x e i->X5 e i=some (.inr 2))/\(¬ ¬C0x e i->X5 e i=some (.inl ((i+1:Nat):Int))):=by
 unfold X5 C0x;rw [D4I (by omega:(i:Int)<(e.Ah.length:Int)),D4H,K0 hi,D4D,A0F hi hl]
 dsimp only;cases h1:(J6 (el e.Ah i).Ac).2 with
 |false=>exact ⟨fun h=>absurd (fun h2=>by cases h2) h,fun _=>rfl⟩
 |true=>
  by_cases h2:(J6 (el e.Ah i).Ac).1=e.Now
  ·rw [h2,D5g];exact ⟨fun h=>absurd (fun _=>rfl) h,fun _=>rfl⟩
  ·have:((J6 (el e.Ah i).Ac).1 !=e.Now)=true:=by rw [bne_iff_ne];exact h2
   rw [this];exact ⟨fun _=>rfl,fun h=>absurd (fun h3=>h2 (h3 rfl)) h⟩
theorem B9W (e:D4):A8l e 0=A6d e 0:=rfl
theorem A5c (e:D4) (hw:A74 e.Ah):V3 e=some (vOf (C6V e)):=by
 have hl:=I3 hw.1;unfold V3;rw [A5H e.Ah e.Bd hw,B9W]
 by_cases h1:0<=e.Now/\e.Now<=16777216
 ·have e1:(decide (e.Now<0)||decide (e.Now>16777216))=false:=by rw [D5d,D4U,D4U];omega
  rw [e1];simp only [D4Q,I0,D4D,D44]
  by_cases h2:B3Q e.Ah e.Bd
  ·rw [A1r h2,D4P,D4G];have H:=A0b (f:=fun s:Int=>X5 e s) e.Ah.length (fun i=> ¬C0x e i) 2 (some 0)
    (fun i hi _=>C6p hl hi)
    (fun _=>by
     unfold X5;rw [D4K (D46 _),D4G])
   unfold A6d
   by_cases h3: ∀i,i<e.Ah.length->C0x e i
   ·rw [H.2 fun i hi hn=>hn (h3 i hi),O8 ⟨⟨h1,h2⟩,h3⟩]
   ·rw [H.1 (A5z h3),J1 fun h=>h3 h.2]
  ·rw [V5 h2,J1 fun h=>h2 h.1.2]
   rfl
 ·have e1:(decide (e.Now<0)||decide (e.Now>16777216))=true:=by rw [D4O,D4F,D4F];omega
  rw [e1,J1 fun h=>h1 h.1.1]
  rfl
end Go.Win
set_option maxHeartbeats 4000000
namespace Go.Win
open Go.Vc Go.Dec
end Go.Win
set_option maxHeartbeats 4000000
namespace Go.Win
open Go.Vc Go.Dec
end Go.Win
set_option maxHeartbeats 4000000
namespace Go.Win
open Go.Vc Go.Dec
end Go.Win
set_option maxHeartbeats 4000000
namespace Go.Win
open Go.Vc Go.Dec
end Go.Win
set_option maxHeartbeats 4000000
namespace Go.Win
open Go.Vc Go.Dec
end Go.Win
set_option maxHeartbeats 4000000
namespace Go.Win
open Go.Vc Go.Dec
end Go.Win
set_option maxHeartbeats 4000000
namespace Go.Win
open Go.Vc Go.Dec
end Go.Win
set_option maxHeartbeats 4000000
namespace Go.Win
open Go.Vc Go.Dec
def C6b (r:G9):Prop:=r.Aj.Aw.length<=1048576/\r.Br.length<=1048576/\r.Ax.length<=1048576
end Go.Win
set_option maxHeartbeats 4000000
namespace Go.Win
open Go.Vc Go.Dec
end Go.Win
set_option maxHeartbeats 4000000
namespace Go.Win
open Go.Vc Go.Dec
section
variable {l:List Int} (hb:byt l) (hl:l.length<=100000000)
include hb hl
end
end Go.Win
set_option maxHeartbeats 4000000
namespace Go.Win
open Go.Vc Go.Dec
section
variable {L:List Int} (hw:C7D L) (hL:L.length<=100000000)
include hw hL
end
end Go.Win
set_option maxHeartbeats 4000000
namespace Go.Win
open Go.Vc Go.Dec
section
variable {L:List Int} (hw:C7D L) (hL:L.length<=100000000)
include hw hL
end
end Go.Win
set_option maxHeartbeats 4000000
namespace Go.Win
open Go.Vc Go.Dec
section
variable {L:List Int} (hw:C7D L) (hL:L.length<=100000000)
include hw hL
end
end Go.Win
set_option maxHeartbeats 4000000
namespace Go.Win
open Go.Vc Go.Dec
section
variable {L:List Int} (hw:C7D L) (hL:L.length<=100000000)
include hw hL
end
end Go.Win
set_option maxHeartbeats 4000000
namespace Go.Win
open Go.Vc Go.Dec
end Go.Win
namespace Go.Win
open Go.Vc Go.Dec
set_option maxHeartbeats 4000000
set_option maxRecDepth 20000
theorem C96 (a b:Int):0<=E7 .u64 a b/\E7 .u64 a b<18446744073709551616:=U8 _
instance tsA {v:List Int} {n:Int}:TS (A0A v n) (v.length<=130000000000000) (fun r=>r.length<=v.length+10):=⟨fun h=>by
 have key: ∀u:Nat,u<18446744073709551616->T (A6m v u) fun r=>r.length<=v.length+10:=fun u hu=>by
  unfold A6m;refine yL (fun s=> ∃u k:Nat,s.2=u/\1<=k/\u<128^k/\s.1.length+k<=v.length+10) (fun s=>s.2.toNat) ⟨u,10,rfl,by decide,Nat.lt_trans hu (by decide),D5l _⟩ ?_
  rintro ⟨w,_⟩ ⟨u,k,rfl,h1,h2,h3⟩;have e3:F8 .u64 (u:Int) 7=((u/128:Nat):Int):=by
   rw [show (7:Int)=((7:Nat):Int) from rfl,B4m _ (by omega)]
   omega
  dsimp only at h3⊢;unfold A5e;rw [e3];refine yC (fun h=>yK (by simp;omega) (yI ⟨⟨u/128,k-1,rfl, ?_, ?_, ?_⟩, ?_⟩)) (fun h=>yP (yK (by simp;omega) (yI ?_)))
  all_goals simp only [D4F,D4U] at h
  ·rcases k with _|_|k
   ·omega
   ·omega
   ·omega
  ·rcases k with _|k
   ·omega
   ·rw [Nat.pow_succ] at h2;exact Nat.div_lt_of_lt_mul (by rw [Nat.mul_comm];exact h2)
  ·show (w++ [_]).length+(k-1)<=_;simp;omega
  ·show ((u/128:Nat):Int).toNat<(u:Int).toNat;omega
  ·show (w++ [_]).length<=_;simp;omega
 obtain ⟨h1,h2⟩:=C96 (A4 n) 1;obtain ⟨x,hx⟩:=Int.eq_ofNat_of_zero_le h1;unfold A0A A23;rw [hx,D3V (by omega)]
 exact yC (fun _=>key _ (by omega)) (fun _=>key _ (by omega))⟩
theorem D2k {M c i n:Nat} {v b:List Int} (h:i<n) (hv:v.length<=b.length+10+c*i) (hb:b.length+10+c*n<=M):v.length+c<=b.length+10+c*(i+1)/\v.length+c<=M:=by
 have:=Nat.mul_le_mul_left c (show i+1<=n by omega)
 rw [Nat.mul_add] at*
 omega
theorem wl (M:Nat) {α:Type} [Inhabited α] {f:α->List Int->Option (List Int)} {l:List α} {c:Nat} {b:List Int} (hf:∀x∈l,∀v:List Int,v.length+c<=M->T (f x v) fun r=>r.length<=v.length+c)
  (hl:l.length<=1048576) (hb:b.length+10+c*l.length<=M) {v0:List Int} (h0:v0.length<=b.length+10)
  {g:Int->List Int->Option ((Int×List Int)⊕List Int)}
  (hg:∀i v,g i v=cond (decide (i<(l.length:Int))) (Option.bind (C1 l i) fun x=>Option.bind (f x v) fun y=>some (.inl (A1 (i+1),y))) (Option.map Sum.inr (some v))):
  T (loop (fun s:Int×List Int=>g s.1 s.2) (0,v0)) fun r=>r.length<=b.length+10+c*l.length:=by
 refine yL (fun s=>0<=s.1/\s.1<=l.length/\s.2.length<=b.length+10+c*s.1.toNat) (fun s=>l.length-s.1.toNat) ⟨Int.le_refl _,by simp,by simpa using h0⟩ fun s ⟨h1,h2,h3⟩=> ?_
 rw [hg];refine yC (fun h=> ?_) (fun h=>yP (yI ?_))
 ·rw [D4F] at h;obtain ⟨i,hi⟩:=Int.eq_ofNat_of_zero_le h1;rw [hi] at h h3⊢;obtain ⟨a1,a2⟩:=D2k (c:=c) (n:=l.length) (show i<l.length by omega) (by simpa using h3) hb
  refine yB (yX ⟨by omega,h⟩ fun hm=>yB (yM (hf _ hm _ a2) fun r hr=>yI ?_))
  rw [(T9 (i:Int) (by omega)).1]
  have e:((i:Int)+1).toNat=i+1:=by omega
  refine ⟨⟨by show 0<=(i:Int)+1;omega,by show (i:Int)+1<=_;omega, ?_⟩, ?_⟩
  ·show r.length<=b.length+10+c*((i:Int)+1).toNat;rw [e];omega
  ·show l.length-((i:Int)+1).toNat<l.length-(i:Int).toNat;omega
 ·rw [D4U] at h;have e:s.1.toNat=l.length:=by omega
  rw [e] at h3;exact h3
instance tsT9x1 {b:List Int} {p:Int} {f:Bool} {l:List A3}:TS (Z5 b p f l) (l.length<=1048576/\b.length<=120000000000000) (fun r=>r.length<=b.length+10+20*l.length):=⟨fun ⟨h1,h2⟩=>by
 unfold Z5 A3B;exact yB (yM (Q:=fun r=>_) (P:=fun r=>r.length<=b.length+10) (by exact yT) fun v hv=>wl 130000000000000 (f:=fun x v=>A07 x v p f) (c:=20) (fun x _ v hv=>by unfold A07;exact yT) h1 (by omega) hv (fun i v=>rfl))⟩
instance tsT9x2 {b:List Int} {p:Int} {f:Bool} {l:List A8}:TS (A0G b p f l) (l.length<=1048576/\b.length<=120000000000000) (fun r=>r.length<=b.length+10+20*l.length):=⟨fun ⟨h1,h2⟩=>by
 unfold A0G A4I;exact yB (yM (Q:=fun r=>_) (P:=fun r=>r.length<=b.length+10) (by exact yT) fun v hv=>wl 130000000000000 (f:=fun x v=>A17 x v p f) (c:=20) (fun x _ v hv=>by unfold A17;exact yT) h1 (by omega) hv (fun i v=>rfl))⟩
instance tsT9x3 {b:List Int} {p:Int} {f:Bool} {l:List A6}:TS (A0I b p f l) (l.length<=1048576/\b.length<=120000000000000) (fun r=>r.length<=b.length+10+70*l.length):=⟨fun ⟨h1,h2⟩=>by
 unfold A0I A4K;exact yB (yM (Q:=fun r=>_) (P:=fun r=>r.length<=b.length+10) (by exact yT) fun v hv=>wl 130000000000000 (f:=fun x v=>A18 x v p f) (c:=70) (fun x _ v hv=>by unfold A18;exact yT) h1 (by omega) hv (fun i v=>rfl))⟩
instance tsT9x4 {b:List Int} {p:Int} {f:Bool} {l:List B4}:TS (A0m b p f l) (l.length<=1048576/\b.length<=120000000000000) (fun r=>r.length<=b.length+10+30*l.length):=⟨fun ⟨h1,h2⟩=>by
 unfold A0m A4f;exact yB (yM (Q:=fun r=>_) (P:=fun r=>r.length<=b.length+10) (by exact yT) fun v hv=>wl 130000000000000 (f:=fun x v=>A15 x v p f) (c:=30) (fun x _ v hv=>by unfold A15;exact yT) h1 (by omega) hv (fun i v=>rfl))⟩
instance tsT9x5 {b:List Int} {p:Int} {f:Bool} {l:List G4}:TS (A0H b p f l) (l.length<=1048576/\b.length<=120000000000000) (fun r=>r.length<=b.length+10+20*l.length):=⟨fun ⟨h1,h2⟩=>by
 unfold A0H A4J;exact yB (yM (Q:=fun r=>_) (P:=fun r=>r.length<=b.length+10) (by exact yT) fun v hv=>wl 130000000000000 (f:=fun x v=>A16 x v p f) (c:=20) (fun x _ v hv=>by unfold A16;exact yT) h1 (by omega) hv (fun i v=>rfl))⟩
instance tsT9x6 {b:List Int} {p:Int} {f:Bool} {l:List D9}:TS (A0n b p f l) (l.length<=1048576/\b.length<=120000000000000) (fun r=>r.length<=b.length+10+30*l.length):=⟨fun ⟨h1,h2⟩=>by
 unfold A0n A4g;exact yB (yM (Q:=fun r=>_) (P:=fun r=>r.length<=b.length+10) (by exact yT) fun v hv=>wl 130000000000000 (f:=fun x v=>A2a x v p f) (c:=30) (fun x _ v hv=>by unfold A2a;exact yT) h1 (by omega) hv (fun i v=>rfl))⟩
instance tsT9x7 {b:List Int} {p:Int} {f:Bool} {l:List Int}:TS (A2f b p f l) (l.length<=1048576/\b.length<=120000000000000) (fun r=>r.length<=b.length+10+10*l.length):=⟨fun ⟨h1,h2⟩=>by
 unfold A2f A6G;exact yB (yM (Q:=fun r=>_) (P:=fun r=>r.length<=b.length+10) (by exact yT) fun v hv=>wl 130000000000000 (f:=fun x v=>D3 v p f x) (c:=10) (fun x _ v hv=>by exact yT) h1 (by omega) hv (fun i v=>rfl))⟩
instance tsT9x8 {b:List Int} {p:Int} {f:Bool} {l:List A2}:TS (A0J b p f l) (l.length<=1048576/\b.length<=120000000000000) (fun r=>r.length<=b.length+10+20*l.length):=⟨fun ⟨h1,h2⟩=>by
 unfold A0J A4L;refine yB (yM (Q:=fun r=>_) (P:=fun r=>r.length<=b.length+10) (by exact yT) fun v hv=>wl 130000000000000 (f:=fun x v=>(A24 v p f x).bind fun y=>some y.2) (c:=20) (fun x _ v hv=>by unfold A24 A25;exact yT) h1 (by omega) hv (fun i v=> ?_))
 show A1h p f l i v=_;unfold A1h;simp only [Option.bind_assoc,D4D]⟩
instance tsT9x9 {b:List Int} {p:Int} {f:Bool} {l:List B2}:TS (A0k b p f l) ((l.length<=70000/\ ∀x∈l,x.Bh.Ae.length<=65537)/\b.length<=100000000000000) (fun r=>r.length<=b.length+10+2000000*l.length):=⟨fun ⟨h1,h2⟩=>by
 unfold A0k A4d;refine yB (yM (Q:=fun r=>_) (P:=fun r=>r.length<=b.length+10) (by exact yT) fun v hv=>wl 110000000000000 (f:=fun x v=>A2b x v p f) (c:=2000000) (fun x hx v hv=> ?_) (by omega) (by omega) hv (fun i v=>rfl))
 have:=h1.2 x hx;unfold A2b A6e;exact yT⟩
instance tsT9x10 {b:List Int} {p:Int} {f:Bool} {l:List B7}:TS (A0l b p f l) ((l.length<=16/\ ∀x∈l,x.Be.length<=1048576)/\b.length<=100000000000000) (fun r=>r.length<=b.length+10+21000000*l.length):=⟨fun ⟨h1,h2⟩=>by
 unfold A0l A4e;refine yB (yM (Q:=fun r=>_) (P:=fun r=>r.length<=b.length+10) (by exact yT) fun v hv=>wl 110000000000000 (f:=fun x v=>A19 x v p f) (c:=21000000) (fun x hx v hv=> ?_) (by omega) (by omega) hv (fun i v=>rfl))
 have:=h1.2 x hx;unfold A19 A6f;exact yT⟩
instance tsT9x11 {b:List Int} {p:Int} {f:Bool} {s:A7}:TS (A20 b p f s) (A2j s/\X9 s/\b.length<=90000000000000) (fun r=>r.2.2.length<=b.length+150000000000):=⟨fun ⟨h1,h2,h3⟩=>by
 obtain ⟨⟨hf,hq⟩,_⟩:=B5a h1 h2;obtain ⟨w1,w2,w3,w4,w5,w6,w7,w8,w9,w10,w11⟩:=h2;have hc:s.Ar.Am.length<=16/\ ∀x∈s.Ab.Ak,x.Bh.Ae.length<=65537:=by
  obtain ⟨hcf,hr,ho⟩:=h1;unfold A9a B8Z B5t at ho;unfold A1N at hcf;refine ⟨?_,fun x hx=> ?_⟩
  ·by_cases hk:s.Ao.Bi=9
   ·unfold A6A at hr;simp only [hk,Int.reduceEq,false_and,false_or,or_false,true_and] at hr;have:=hr.2.1;omega
   ·have:=ho.2.2.2.2.2.2.2.2.1 hk;omega
  ·by_cases hk:s.Ao.Bi=11
   ·unfold A6A at hr;simp only [hk,Int.reduceEq,false_and,false_or,or_false,true_and] at hr;obtain ⟨q,_,q2,q3⟩:=A7A (k:=s.Ab.K) (c:=s.Ab.Cap) hr.1.1.2.2.2 hr.1.1.2.1;obtain ⟨i,hi,rfl⟩:=A1Q hx;have:=(hr.1.2.1 q q2).2.2 i hi;have:=this.2.2.1;omega
   ·have:=(ho.2.2.2.2.2.2.2.2.2.2 hk).2.2.2.2;rw [D5o this] at hx;cases hx
 have h9:=w9.2;unfold B88 at hf
 clear h1
 unfold A20;exact yT⟩
theorem C72 (l:List Int) (h:l.length<=120000000000000):T (A7q l) fun _=>True:=by
 unfold A7q B6j;refine yL (fun s=>0<=s.2.2/\s.2.2<=l.length) (fun s=>l.length-s.2.2.toNat) ⟨Int.le_refl _,by simp⟩ fun s hs=> ?_
 unfold B5H;simp only [T9 s.2.2 (by omega)]
 exact yT
theorem C9n {e:D4} (ok:C6V e) (w:A74 e.Ah):T (A1p 0 e) fun r=>r.2.2.length<=10000000000000:=by
 have h64:e.Ah.length<=64:=by have:=ok.1.2.1;omega
 have i2: ∀n,TS (A9l n) True (fun r=>r.length<=10):=fun n=>⟨fun _=>by
  have:=(tsA (v:= []) (n:=n)).pf (by simp)
  have this:T (A0A [] n) fun r=>r.length<=10:=by simpa using this
  exact this⟩
 have lp: ∀l v f,l.length=e.Ah.length->(∀r∈l,A2j r.Ac/\X9 r.Ac)->v.length<=1000->TS (A3V 0 e l 0 v f) True (fun r=>r.2.2.length<=10000000000000):=fun l v f h1 h2 h3=>⟨fun _=>by
  obtain ⟨C,hC⟩: ∃C:Nat,C=150000000100:=⟨_,rfl⟩;unfold A3V;refine yL (fun s=>(0<=s.2.1/\s.2.1<=e.Ah.length)/\s.1.length=e.Ah.length/\(∀i:Nat,s.2.1<=i->i<s.1.length->A2j (el s.1 i).Ac/\X9 (el s.1 i).Ac)/\s.2.2.1.length<=1000+C*s.2.1.toNat) (fun s=>e.Ah.length-s.2.1.toNat)
   ⟨⟨Int.le_refl _,by simp⟩,h1,fun i _ hi=>h2 _ (L8 hi),by show v.length<=1000+C*0;omega⟩ fun s ⟨a1,a2,a3,a4⟩=> ?_
  obtain ⟨l,n,v,f⟩:=s;dsimp only at a1 a2 a3 a4⊢;obtain ⟨i,rfl⟩:=Int.eq_ofNat_of_zero_le a1.1;have hw:=(T9 (i:Int) (by omega)).1
  have a4:v.length<=1000+C*i:=a4;have a5:C*i<=C*64:=Nat.mul_le_mul_left C (by omega)
  have a6:C*(i+1)=C*i+C:=Nat.mul_succ C i;unfold A7C;refine yC (fun h=> ?_) (fun h=>yP (yI (by show v.length<=_;omega)))
  rw [D4L,D4F] at h;have hlt:i<l.length:=by omega
  have e0:C1 l (i:Int)=some (el l i):=K0 hlt;have e1:l.set i (el l i)=l:=by rw [L6 hlt];exact List.set_getElem_self hlt
  obtain ⟨g1,g2⟩:=a3 i (Int.le_refl _) hlt;have hs: ∀(x:B0) (j:Nat),(i:Int)+1<=j->j<(l.set i x).length->A2j (el (l.set i x) j).Ac/\X9 (el (l.set i x) j).Ac:=fun x j h1 h2=>by
   rw [D5C] at h2;have e:el (l.set i x) j=el l j:=by
    rw [L6 (by rw [D5C];exact h2),L6 h2,List.getElem_set_ne (by omega)]
   rw [e];exact a3 j (by omega) h2
  have hs' : ∀j:Nat,(i:Int)+1<=j->j<l.length->A2j (el l j).Ac/\X9 (el l j).Ac:=fun j h1 h2=>a3 j (by omega) h2
  have en:((i:Int)+1).toNat=i+1:=by omega
  have cf: ∀v1:List Int,v1.length<=20000000000000->T (A2g v1 0 f (el l i).Ac.Ao) fun r=>r.length<=v1.length+80:=fun v1 h=>by
   unfold A2g;exact yT
  simp only [e0,D4D,D5j,e1,hw];refine yB (yM (P:=fun r=>r.length<=v.length+10) (by exact yT) fun v1 hv1=>yB (yM (cf v1 (by omega)) fun v2 hv2=>yC (fun _=>yB (yS ⟨g1,g2,by omega⟩ fun y hy=>yI ?_)) (fun _=>yI ?_)))
  ·have hy:y.2.2.length<=v2.length+150000000000:=hy;refine ⟨⟨⟨by show 0<=(i:Int)+1;omega,by show (i:Int)+1<=_;omega⟩,by show (l.set i _).length=_;rw [D5C];exact a2,hs _, ?_⟩, ?_⟩
   ·dsimp only;rw [en];omega
   ·show e.Ah.length-((i:Int)+1).toNat<e.Ah.length-(i:Int).toNat;omega
  ·refine ⟨⟨⟨by show 0<=(i:Int)+1;omega,by show (i:Int)+1<=_;omega⟩,a2,hs', ?_⟩, ?_⟩
   ·dsimp only;rw [en];omega
   ·show e.Ah.length-((i:Int)+1).toNat<e.Ah.length-(i:Int).toNat;omega⟩
 have hl: ∀z:B0,laid (List.replicate e.Ah.length z) 0 (e.Ah.take (List.replicate e.Ah.length z).length)=e.Ah:=fun z=>by
  unfold laid;simp
 have hr: ∀r∈e.Ah,A2j r.Ac/\X9 r.Ac:=fun r hr=>by
  obtain ⟨i,hi,rfl⟩:=A1Q hr;exact ⟨(ok.1.2.2 i hi).2.2,w.2 _ hr⟩
 unfold A1p;simp only [D5j,hl];refine yB (yM (P:=fun r=>r.length<=10) (by exact yT) fun v1 h1=>yB (yM (P:=fun r=>r.length<=20) (by exact yT) fun v2 h2=>yB (yM (P:=fun r=>r.length<=30) (by exact yT) fun v3 h3=>yB (yM (P:=fun r=>r.length<=40) (by exact yT) fun v4 h4=> ?_))))
 have:=fun f=>lp e.Ah v4 f rfl hr (by omega)
 exact yT
theorem C6u (e:D4) (w:A74 e.Ah):T (A2L e) fun r=>r.1.length<=1048576:=by
 unfold A2L;rw [A5c e w]
 by_cases ok:C6V e
 ·have a:TS (A1p 0 e) True (fun r=>r.2.2.length<=10000000000000):=⟨fun _=>C9n ok w⟩;have b: ∀l,TS (A7q l) (l.length<=120000000000000) (fun _=>True):=fun l=>⟨C72 l⟩;exact yT
 ·rw [J1 ok];exact yT
end Go.Win
set_option maxHeartbeats 4000000
set_option maxRecDepth 20000
namespace Go.Win
open Go.Vc Go.Dec
instance tsEbx1 {s:A7} {q:I4}:TS (Z4 s q) (X9 s/\T0 q) (fun r=>r.1.Aw.length<=16):=⟨fun h=>C9x s h.1 q (C7r h.2.1) (C7r h.2.2.1) (C7r h.2.2.2)⟩
instance tsEbx2 {e:D4}:TS (A2L e) (A74 e.Ah) (fun r=>r.1.length<=1048576):=⟨C6u e⟩
instance tsEbx3 {l:List B0}:TS (A49 l) (A74 l) (fun r=>r.length<=1048576):=⟨fun h=>⟨_,C9Z _ h.1,by simpa [B1i] using h.1⟩⟩
end Go.Win
set_option maxHeartbeats 4000000
set_option maxRecDepth 20000
namespace Go.Win
open Go.Vc Go.Dec
theorem D3Z (n:Int): -9223372036854775808<=A1 n/\A1 n<9223372036854775808:=by
 rw [B2F];omega
theorem B73 {l:List Int} (h:∀x∈l,E2 .u8 x):byt l:=fun x hx=>by
 have:=h x hx;simp [E2,Lit.wf,IntKind.min,IntKind.max,IntKind.signed,IntKind.bits] at this;omega
instance tsEax1 {a b:Int}:TS (P2 a b) (1<=b/\b<=4611686018427387904) (fun r=>0<=r/\r<b):=⟨fun ⟨h1,h2⟩=>by
 unfold P2;have g1:=Int.tmod_lt_of_pos a (b:=b) (by omega)
 have g2: -b<Int.tmod a b:=Int.lt_tmod_of_pos a (by omega)
 refine yK (by rw [D4F];omega) (yC (fun h=>yI ?_) (fun h=>yI ?_))
 ·rw [D4F] at h;rw [C2 (by omega) (by omega)]
  omega
 ·rw [D4U] at h;omega⟩
instance tsEax2 {a b:Int}:TS (T5 a b) (1<=b/\b<=4611686018427387904) (fun r=>0<=r/\r<b):=⟨fun h=>yB (yS h fun _ h=>yI h)⟩
theorem D3m {a b c:Int} (h1:-9223372036854775808<=a/\a<9223372036854775808) (h2:0<=b/\b<9) (h3:0<=c/\c<9):T0 ⟨a,b,c⟩:=
 ⟨C4D.2 (by dsimp only;omega),C4D.2 (by dsimp only;omega),C4D.2 (by dsimp only;omega)⟩
theorem B6O:T0 ⟨0,0,0⟩:=D3m (by decide) (by decide) (by decide)
end Go.Win
set_option maxHeartbeats 4000000
set_option maxRecDepth 20000
namespace Go.Win
open Go.Vc Go.Dec
def B54 (l:List B0):Prop:=l.Pairwise fun a b=>a.ID<b.ID
theorem B59: ∀ {l:List B0},(∀i,i+1<l.length->(el l i).ID<(el l (i+1)).ID)↔B54 l
 | []=>⟨fun _=> .nil,fun _ i h=>by simp at h⟩
 | [x]=>⟨fun _=>List.pairwise_singleton _ _,fun _ i h=>by simp at h⟩
 |x::y::l=>by
  have ih:=B59 (l:=y::l);constructor
  ·intro h;have h1:=ih.1 fun i hi=>h (i+1) (by simp at hi⊢;omega)
   have h0:x.ID<y.ID:=h 0 (by simp)
   refine List.pairwise_cons.2 ⟨fun z hz=> ?_,h1⟩;rcases List.mem_cons.1 hz with rfl|hz
   ·exact h0
   ·have:=(List.pairwise_cons.1 h1).1 z hz;omega
  ·intro h i hi;obtain ⟨a,b⟩:=List.pairwise_cons.1 h;cases i with
   |zero=>exact a y (by simp)
   |succ i=>exact ih.2 b i (by simp at hi⊢;omega)
theorem C5w {l:List B0} (h:B54 l) (id:Int):(∀x∈l.take (U0 l id),x.ID<id)/\(∀x∈l.drop (U0 l id),id<=x.ID):=by
 have ha:Asc l:=fun i hi=>by rw [B2y,B2y];exact B59.2 h i hi
 constructor
 ·intro x hx;obtain ⟨j,hj,rfl⟩:=List.mem_take_iff_getElem.1 hx;have hj' :j<l.length:=by omega
  have:=(B8v ha id _ (D5l _) j hj').2 (by unfold U0 at hj;omega)
  rw [B2y,L6 hj'] at this;exact this
 ·intro x hx;obtain ⟨j,hj,rfl⟩:=List.mem_drop_iff_getElem.1 hx;have hj' :U0 l id+j<l.length:=by omega
  have: ¬H2 l (U0 l id+j)<id:=fun h=>by
   have:=(B8v ha id _ (D5l _) _ hj').1 h;unfold U0 at this;omega
  rw [B2y,L6 hj'] at this;omega
theorem C9Y {l:List B0} (h:B54 l) (id:Int):A2P l id=true↔ ∃x∈l,x.ID=id:=by
 obtain ⟨h1,h2⟩:=C5w h id;constructor
 ·intro g;unfold A2P at g;simp only [D4L,D4F,D5x] at g;exact ⟨_,L8 (show U0 l id<l.length by omega),g.2⟩
 ·rintro ⟨x,hx,rfl⟩;rw [<-List.take_append_drop (U0 l x.ID) l] at hx;rcases D5p.1 hx with g|g
  ·have:=h1 x g;omega
  ·have hlt:U0 l x.ID<l.length:=by
    have:=List.length_pos_of_mem g;rw [D5b] at this;omega
   unfold A2P;rw [D4I (by omega),D5e,D5x,B2y,L6 hlt]
   rw [List.drop_eq_getElem_cons hlt] at g;rcases List.mem_cons.1 g with e|g'
   ·rw [<-e]
   ·have:=h2 _ (by rw [List.drop_eq_getElem_cons hlt];exact List.mem_cons_self)
    have hp:(l.drop (U0 l x.ID)).Pairwise fun a b=>a.ID<b.ID:=List.Pairwise.sublist (List.drop_sublist _ _) h;rw [List.drop_eq_getElem_cons hlt] at hp;have:=(List.pairwise_cons.1 hp).1 x g';omega
theorem D1G {l:List B0} {r:B0} (h:B54 l) (hn:A2P l r.ID=false):B54 (l.take (U0 l r.ID)++ [r]++l.drop (U0 l r.ID)):=by
 obtain ⟨h1,h2⟩:=C5w h r.ID;have h3: ∀x∈l.drop (U0 l r.ID),r.ID<x.ID:=fun x hx=>by
  have:=h2 x hx;rcases Int.lt_or_eq_of_le this with g|g
  ·exact g
  ·exfalso;have:=(C9Y h r.ID).2 ⟨x,List.mem_of_mem_drop hx,g.symm⟩;rw [hn] at this;cases this
 have e:l.Pairwise fun a b=>a.ID<b.ID:=h;rw [<-List.take_append_drop (U0 l r.ID) l] at e;obtain ⟨p1,p2,p3⟩:=List.pairwise_append.1 e;refine List.pairwise_append.2 ⟨List.pairwise_append.2 ⟨p1,List.pairwise_singleton _ _,fun a ha b hb=> ?_⟩,p2,fun a ha b hb=> ?_⟩
 ·rw [List.mem_singleton.1 hb];exact h1 a ha
 ·rcases D5p.1 ha with g|g
  ·exact p3 a g b hb
  ·rw [List.mem_singleton.1 g];exact h3 b hb
theorem D15 {l:List B0} (h:B54 l) (i:Nat):B54 (l.take i++l.drop (i+1)):=by
 have e:l.Pairwise fun a b=>a.ID<b.ID:=h;rw [<-List.take_append_drop i l] at e;obtain ⟨p1,p2,p3⟩:=List.pairwise_append.1 e;have hs:(l.drop (i+1)).Sublist (l.drop i):=by
  rw [show i+1=i+1 from rfl,<-List.drop_drop];exact List.drop_sublist _ _
 exact List.pairwise_append.2 ⟨p1,List.Pairwise.sublist hs p2,fun a ha b hb=>p3 a ha b (hs.mem hb)⟩
end Go.Win
set_option maxHeartbeats 4000000
set_option maxRecDepth 20000
namespace Go.Win
open Go.Vc Go.Dec
theorem kZ {p:Prop} (h:p:=by (repeat' first|assumption|exact fun g=>absurd k g|refine And.intro ?_ ?_)):p:=h
theorem kN {p:Prop} (h:p:=by (unfold J6;simp only [k,Int.reduceBEq,D4H,D4G];first|done|exact fun _=>trivial|exact fun _=>rfl|exact fun h=>by cases h)):p:=h
theorem D1n {s:A7} {n t:Int} (h:A2j s) (w:X9 s) (hc:(J6 s).2=true->(J6 s).1=n) (h1:n<=t) (h0:0<=t) (h2:t<=16777216):
  ∃r,A0z s t=some (r,0)/\A2j r/\X9 r/\((J6 r).2=true->(J6 r).1=t)/\r.Ao=s.Ao:=by
 have hv:=Q9 s w;rw [O8 h] at hv;obtain ⟨cf,R,o1,o2,o3,o4,o5,o6,o7,o8,o9,o10,o11⟩:=h;have w0:=w;obtain ⟨w1,w2,w3,w4,w5,w6,w7,w8,w9,w10,w11⟩:=w;have fin: ∀r,A0z s t=some (r,0)->A6A r->A9a r->X9 r->((J6 r).2=true->(J6 r).1=t)->r.Ao=s.Ao-> ∃r,A0z s t=some (r,0)/\A2j r/\X9 r/\((J6 r).2=true->(J6 r).1=t)/\r.Ao=s.Ao:=fun r a b c d e f=>⟨r,a,⟨by rw [f];exact cf,b,c⟩,d,e,f⟩
 unfold J6 at hc;unfold A0z at fin⊢;rw [hv,D4D] at fin⊢;rcases R with ⟨k,h⟩|⟨k,h⟩|⟨k,h⟩|⟨k,h⟩|⟨k,h⟩|⟨k,h⟩|⟨k,h⟩|⟨k,h⟩|⟨k,h⟩|⟨k,h⟩|⟨k,h⟩
 all_goals simp only [D5g,k,Int.reduceBEq,D4H,D4G,true_implies] at hc fin⊢
 ·obtain ⟨e,g,_⟩:=C6g h.1 (t:=t) (by omega) h2
  have q:(A9B s.Aq.Bb t s.Aq.W).length<=1048576:=Nat.le_trans (C5T g) (by decide)
  rw [e] at fin⊢;exact fin {s with Aq:=_} rfl (.inl ⟨k,g,h.2⟩) kZ kZ kN rfl
 ·obtain ⟨B,e,g,q⟩:=C2p h.1 (t:=t) (by omega) h2 w2
  rw [e] at fin⊢;exact fin {s with Ay:=_} rfl (.inr (.inl ⟨k,g,h.2⟩)) kZ kZ kN rfl
 ·obtain ⟨B,e,g,q⟩:=C5l h.1 (t:=t) (by omega) h2 w3
  rw [e] at fin⊢;exact fin {s with Sum:=_} rfl (.inr (.inr (.inl ⟨k,g,h.2⟩))) kZ kZ kN rfl
 ·obtain ⟨B,e,g,q⟩:=C05 h.1 (t:=t) (by omega) h2 w4
  rw [e] at fin⊢;exact fin {s with As:=_} rfl (.inr (.inr (.inr (.inl ⟨k,g,h.2⟩)))) kZ kZ kN rfl
 ·obtain ⟨B,e,g,q⟩:=C06 h.1 (t:=t) (by omega) h2 w5
  rw [e] at fin⊢;exact fin {s with Au:=_} rfl (.inr (.inr (.inr (.inr (.inl ⟨k,g,h.2⟩))))) kZ kZ kN rfl
 ·obtain ⟨e,g⟩:=C33 h.1 w6.2 (t:=t) (by omega) h2
  rw [e] at fin⊢;exact fin {s with Bm:=_} rfl (.inr (.inr (.inr (.inr (.inr (.inl ⟨k,g,h.2⟩)))))) kZ kZ kN rfl
 ·obtain ⟨L,e,g,q⟩:=C2q h.1 (t:=t) (by omega) h2
  have q' :L.length<=1048576:=by rw [q];exact w7
  rw [e] at fin⊢;exact fin {s with Ba:=_} rfl (.inr (.inr (.inr (.inr (.inr (.inr (.inl ⟨k,g,by show (L.length:Int)=_;rw [q];exact h.2⟩))))))) kZ kZ kN rfl
 ·obtain ⟨L,e,g⟩:=B9U h.1 (t:=t) (by omega) h2
  have q:=D1A g;rw [e] at fin⊢;exact fin {s with Af:=_} rfl (.inr (.inr (.inr (.inr (.inr (.inr (.inr (.inl ⟨k,g,h.2⟩)))))))) kZ kZ kN rfl
 ·have e:W8 t=true:=by unfold W8;simp;omega
  rw [e] at fin⊢;exact fin s rfl (.inr (.inr (.inr (.inr (.inr (.inr (.inr (.inr (.inl ⟨k,h⟩))))))))) kZ w0 kN rfl
 ·have e:W8 t=true:=by unfold W8;simp;omega
  rw [e] at fin⊢;exact fin s rfl (.inr (.inr (.inr (.inr (.inr (.inr (.inr (.inr (.inr (.inl ⟨k,h⟩)))))))))) kZ w0 kN rfl
 ·obtain ⟨B,e,g,q,_⟩:=B8S h.1 w11 (t:=t) (by omega) h2
  rw [e] at fin⊢;exact fin {s with Ab:=_} rfl (.inr (.inr (.inr (.inr (.inr (.inr (.inr (.inr (.inr (.inr ⟨k,g,h.2⟩)))))))))) kZ kZ kN rfl
end Go.Win
set_option maxHeartbeats 4000000
set_option maxRecDepth 20000
namespace Go.Win
open Go.Vc Go.Dec
def RP (l:List Int) (a:Int):Prop:=l.length<=1048576/\0<=a/\a<=l.length
theorem A2h:A74 []:=⟨by decide,fun r h=>by cases h⟩
theorem A33 (n:Int):0<=A4 n/\A4 n<18446744073709551616:=U8 n
instance tsRd1 {l:List Int} {a:Int}:TS (B3y l a) (l.length<=1048576) (fun r=>r.2.2=true->0<=r.2.1/\r.2.1<=l.length):=⟨fun hl=>by
 unfold B3y C4j;refine yC (fun _=>yI (fun h=>by cases h)) fun g=> ?_
 rw [D5d,D4U,D4U] at g;refine yL (fun s=>0<=s.2/\s.2<=10) (fun s=>10-s.2.toNat) ⟨by decide,by decide⟩ ?_
 rintro ⟨u,i⟩ ⟨h1,h2⟩;dsimp only at h1 h2⊢;unfold C2u;refine yC (fun k=> ?_) fun _=>yP (yI (fun h=>by cases h))
 rw [D4L,D4F,D4F,C2 (n:=a+i) (by omega) (by omega)] at k
 rw [C2 (n:=a+i) (by omega) (by omega)]
 refine yB (yX ⟨by omega,k.2⟩ fun _=>yC (fun _=>yI (fun h=>by cases h)) fun _=>yK (by rw [D4F];exact (A33 _).1) (yC (fun _=>yI ?_) fun _=>yC (fun _=>yI (fun h=>by cases h)) fun _=>yC (fun _=>yI fun _=> ?_) (fun _=>yI fun _=> ?_)))
 ·rw [(T9 i (by omega)).1]
  exact ⟨⟨by dsimp only;omega,by dsimp only;omega⟩,by dsimp only;omega⟩
 all_goals
  dsimp only;rw [C2 (by omega) (by omega)]
  omega⟩
instance tsRd2 {l:List Int} {a:Int} {f:Bool} {n:Int}:TS (D2 l a f n) (RP l a) (fun r=>RP l r.1):=⟨fun h=>by
 unfold D2;refine yC (fun _=>yI h) fun _=>yB (yS h.1 fun r hr=>yC (fun _=>yI h) fun g=>yI ⟨h.1,hr (by simpa using g)⟩)⟩
instance tsRd3 {l:List Int} {a:Int} {f:Bool} {n:Int}:TS (F5 l a f n) (RP l a) (fun r=>RP l r.1):=⟨fun h=>yB (yS h fun _ hr=>yI hr)⟩
instance tsRd4 {l:List Int} {a n p q:Int} {f:Bool}:TS (J7 p q l a f n) (RP l a) (fun r=>RP l r.1/\(r.2.1=false->p<=r.2.2/\r.2.2<=q)):=⟨fun h=>by
 unfold J7;refine yB (yS h fun r hr=>yC (fun _=>yI ⟨hr,fun g=>by cases g⟩) fun g=>yI ⟨hr,fun _=> ?_⟩)
 rw [D5d,D4U,D4U] at g;exact ⟨by dsimp only;omega,by dsimp only;omega⟩⟩
theorem rL {α β:Type} {l:List Int} {a n:Int} {f:Bool} (h:RP l a) {q:α->Prop} {r:Int->Bool->Option β} {pa:β->Int} {pf:β->Bool} {e:β->α} {k:Nat} {g:Int->Bool->List α->Int->Option ((Int×Bool×List α×Int)⊕(Int×Bool×List α))}
  (hr:∀a f,RP l a->T (r a f) fun y=>RP l (pa y)/\q (e y))
  (hg:∀a f xs n,g a f xs n=cond (decide (n>0)&& !f) (Option.bind (r a f) fun y=>ck (decide ((xs.length+ [e y].length)*k<=140737488355328)) (some (.inl (pa y,pf y,xs++ [e y],A1 (n-1))))) (Option.map Sum.inr (some (a,f,xs)))) (hk:k<=640):
  T (Option.bind (J7 0 (A1 ((l.length:Int)-a)) l a f n) fun y=>loop (fun s:Int×Bool×List α×Int=>g s.1 s.2.1 s.2.2.1 s.2.2.2) (y.1,y.2.1, [],y.2.2)) fun r=>RP l r.1/\r.2.2.length<=1048576/\ ∀x∈r.2.2,q x:=by
 have hl:=h.1;rw [C2 (n:=(l.length:Int)-a) (by have:=h.2;omega) (by have:=h.2;omega)]
 refine yB (yS h fun y hy=> ?_);refine yL (fun s=>RP l s.1/\(s.2.1=false->(s.2.2.1.length:Int)+s.2.2.2<=l.length)/\s.2.2.1.length<=l.length/\ ∀x∈s.2.2.1,q x) (fun s=>s.2.2.2.toNat) ⟨hy.1,fun g=>by have:=hy.2 g;have:=h.2;simp;omega,Nat.zero_le _,fun x hx=>by cases hx⟩ ?_
 rintro ⟨a,f,xs,n⟩ ⟨h1,h2,h3,h4⟩;dsimp only at h1 h2 h3 h4⊢;rw [hg];refine yC (fun c=> ?_) fun _=>yP (yI ⟨h1,by dsimp only;omega,h4⟩)
 rw [D4L,D4F,D4Z] at c;have h2:=h2 c.2;have m:(xs.length+1)*k<=1048577*640:=Nat.mul_le_mul (by omega) hk
 refine yB (yM (hr a f h1) fun y hy=>yK (by rw [D4F,D5i];omega) (yI ?_))
 rw [C2 (n:=n-1) (by omega) (by omega)]
 refine ⟨⟨hy.1,fun _=>by simp;omega,by simp;omega,fun x hx=> ?_⟩,by dsimp only;omega⟩
 rcases D5p.1 hx with hx|hx
 ·exact h4 x hx
 ·rw [List.mem_singleton.1 hx];exact hy.2
def RL {α:Type} (l:List Int) (q:α->Prop) (r:Int×Bool×List α):Prop:=RP l r.1/\r.2.2.length<=1048576/\ ∀x∈r.2.2,q x
instance tsRd5 {l:List Int} {a:Int} {f:Bool} {b:List A8}:TS (A6h l a f b) (RP l a) (RL l fun _=>True):=⟨fun h=>by
 unfold A6h A6C B1K;exact yB (yM (rL (q:=fun _=>True) h (fun a f h=>by unfold A8G;exact yB (yS h fun _ h=>yB (yS h fun _ h=>yI ⟨h,trivial⟩))) (fun _ _ _ _=>rfl) (by decide)) fun r hr=>yI hr)⟩
instance tsRd6 {l:List Int} {a:Int} {f:Bool} {b:List A3}:TS (A4u l a f b) (RP l a) (RL l fun _=>True):=⟨fun h=>by
 unfold A4u A5f B0c;exact yB (yM (rL (q:=fun _=>True) h (fun a f h=>by unfold A7B;exact yB (yS h fun _ h=>yB (yS h fun _ h=>yI ⟨h,trivial⟩))) (fun _ _ _ _=>rfl) (by decide)) fun r hr=>yI hr)⟩
instance tsRd7 {l:List Int} {a:Int} {f:Bool} {b:List A6}:TS (A6j l a f b) (RP l a) (RL l fun _=>True):=⟨fun h=>by
 unfold A6j A6E B1M;exact yB (yM (rL (q:=fun _=>True) h (fun a f h=>by unfold A8H;exact yB (yS h fun _ h=>yB (yS h fun _ h=>yB (yS h fun _ h=>yB (yS h fun _ h=>yB (yS h fun _ h=>yB (yS h fun _ h=>yB (yS h fun _ h=>yI ⟨h,trivial⟩)))))))) (fun _ _ _ _=>rfl) (by decide)) fun r hr=>yI hr)⟩
instance tsRd8 {l:List Int} {a:Int} {f:Bool} {b:List A2}:TS (A6F l a f b) (RP l a) (RL l H7):=⟨fun h=>by
 unfold A6F B1N;exact rL h (fun a f h=>by unfold B1a A6n;exact yB (yB (yS h fun _ h=>yI (yB (yB (yS h fun _ h=>yI (yI ⟨h,(A33 _).1,(A33 _).2,(A33 _).1,(A33 _).2⟩))))))) (fun _ _ _ _=>rfl) (by decide)⟩
instance tsRd9 {l:List Int} {a:Int} {f:Bool} {b:List Int}:TS (B09 l a f b) (RP l a) (RL l fun _=>True):=⟨fun h=>by
 unfold B09 A8O B3Z;exact yB (yM (rL (q:=fun _=>True) h (fun a f h=>yS h fun _ h=>⟨h,trivial⟩) (fun _ _ _ _=>rfl) (by decide)) fun r hr=>yI hr)⟩
instance tsRd10 {l:List Int} {a:Int} {f b:Bool}:TS (B07 l a f b) (RP l a) (fun r=>RP l r.1):=⟨fun h=>by
 unfold B07 A8t;exact yC (fun _=>yB (yS h fun _ h=>yI h.1)) (fun _=>yB (yS h fun _ h=>yI h.1))⟩
instance tsRd11 {l:List Int} {a:Int} {f:Bool}:TS (A6D l a f) (RP l a) (RL l fun _=>True):=⟨fun h=>by
 unfold A6D B1L;exact rL h (fun a f h=>by unfold A8F;exact yB (yS h fun _ h=>yB (yS h fun _ h=>yI ⟨h,trivial⟩))) (fun _ _ _ _=>rfl) (by decide)⟩
instance tsRd12 {l:List Int} {a:Int} {f:Bool}:TS (A5W l a f) (RP l a) (RL l fun _=>True):=⟨fun h=>by
 unfold A5W B0D;exact rL h (fun a f h=>by unfold A8E;exact yB (yS h fun _ h=>yB (yS h fun _ h=>yB (yS h fun _ h=>yI ⟨h,trivial⟩)))) (fun _ _ _ _=>rfl) (by decide)⟩
instance tsRd13 {l:List Int} {a:Int} {f:Bool} {b:List D9}:TS (A5X l a f b) (RP l a) (RL l fun _=>True):=⟨fun h=>by
 unfold A5X B0K;exact rL h (fun a f h=>by unfold A8J;exact yB (yS h fun _ h=>yB (yS h fun _ h=>yB (yS h fun _ h=>yI ⟨h,trivial⟩)))) (fun _ _ _ _=>rfl) (by decide)⟩
instance tsRd14 {l:List Int} {a:Int} {f:Bool} {b:List B7}:TS (A5V l a f b) (RP l a) (RL l fun c=>c.Be.length<=1048576):=⟨fun h=>by
 unfold A5V B0C;exact rL (q:=fun c:B7=>c.Be.length<=1048576) h (fun a f h=>by unfold A8I B02;exact yB (yB (yS h fun _ h=>yB (yS h fun _ h=>yB (yS h fun _ h=>yB (yS h fun _ h=>yB (yS h fun _ h=>yI (yI ⟨h.1,h.2.1⟩)))))))) (fun _ _ _ _=>rfl) (by decide)⟩
instance tsRd15 {l:List Int} {a:Int} {f:Bool} {b:List B2}:TS (A5U l a f b) (RP l a) (RL l fun c=>c.Bh.Ae.length<=1000000000):=⟨fun h=>by
 unfold A5U B0B;exact rL (q:=fun c:B2=>c.Bh.Ae.length<=1000000000) h (fun a f h=>by unfold A8K B01;exact yB (yB (yS h fun _ h=>yB (yS h fun _ h=>yB (yS h fun _ h=>yB (yS h fun _ h=>yB (yS h fun _ h=>yI (yI ⟨h.1,Nat.le_trans h.2.1 (by decide)⟩)))))))) (fun _ _ _ _=>rfl) (by decide)⟩
instance tsRd16 {l:List Int} {a:Int} {f:Bool} {s:A7}:TS (B03 l a f s) (RP l a/\X9 s) (fun r=>RP l r.1/\X9 r.2.2):=⟨fun ⟨h,w⟩=>by
 obtain ⟨w1,w2,w3,w4,w5,w6,w7,w8,w9,w10,w11⟩:=w;unfold B03
 repeat' first
  |with_reducible refine yB ?_
  |(with_reducible refine yC (fun _=> ?_) (fun _=> ?_))
  |(with_reducible refine yS ?_ (fun _ h=> ?_);· first|exact h|exact h.1)
  |(refine yI ⟨?_, ?_⟩;· first|exact h|exact h.1)
 all_goals
  repeat' first
   |assumption
   |exact h.2
   |exact h.2.1
   |refine And.intro ?_ ?_⟩
theorem A8T {b:List Int}:T (B3w b) fun r=>A74 r.1.Ah:=by
 unfold B3w;refine yC (fun _=>yI A2h) fun hl=> ?_;rw [D4U] at hl;have h0:RP b 0:=⟨by omega,Int.le_refl _,by omega⟩
 have key:T (B04 b 0 0 0) fun r=>RP b r.1/\A74 r.2.2.2.2:=by
  unfold B04;refine yB (yM (P:=fun r=>RP b r.1) ?_ fun r1 (h1:RP b r1.1)=>yB (yS h1 fun r2 h2=>yB (yS h2 fun r3 h3=>yB (yS h3 fun r5 h5=>yC (fun _=>yI ⟨h5.1,A2h⟩) fun g=> ?_))))
  ·unfold A8S B2E;exact yB (yB (yS h0.1 fun r hr=>yC (fun _=>yI (yC (fun _=>yI h0) (fun _=>yI h0))) fun g=>yI (yC (fun _=>yI ⟨h0.1,hr (by simpa using g)⟩) (fun _=>yI ⟨h0.1,hr (by simpa using g)⟩))))
  ·have g5:=h5.2 g;refine yK (by rw [D4F];omega) ?_
   unfold B5i
   generalize hz:(laid (List.replicate (r5.2.2).toNat _) 0 _)=z
   have hzl:z.length<=64/\ ∀x∈z,X9 x.Ac:=by
    rw [<-hz];unfold laid;simp only [List.take_nil,D49,List.take_zero,List.nil_append,Nat.add_zero,List.drop_zero];exact ⟨by rw [D5D];omega,fun x hx=>by rw [List.eq_of_mem_replicate hx];exact B5s⟩
   refine yL (fun s=>(s.1.length<=64/\ ∀x∈s.1,X9 x.Ac)/\(0<=s.2.1/\s.2.1<=s.1.length)/\RP b s.2.2.1) (fun s=>64-s.2.1.toNat) ⟨hzl,⟨Int.le_refl _,by dsimp only;omega⟩,h5.1⟩ ?_
   rintro ⟨L,i,a,f⟩ ⟨⟨a1,a2⟩,a3,a4⟩;dsimp only at a1 a2 a3 a4⊢;unfold B4A;refine yC (fun c=> ?_) fun _=>yP (yI ⟨a4,by dsimp only;omega,a2⟩)
   rw [D4L,D4F] at c;have hi:0<=i/\i<L.length:=⟨a3.1,c.1⟩;have up: ∀ {x:B0} {M:List B0},(∀y∈M,X9 y.Ac)->X9 x.Ac-> ∀y∈M.set i.toNat x,X9 y.Ac:=fun h hx=>D2a (P:=fun r:B0=>X9 r.Ac) _ h hx;refine yB (yX hi fun m1=>yB (yX hi fun m2=>yB (yS a4 fun y1 k1=> ?_)));have u1:=up a2 (x:=⟨y1.2.2,(el L i.toNat).Ac⟩) (a2 (el L i.toNat) m2);refine yB (yX (by simp only [D5C];exact hi) fun m3=>yB (yM (P:=fun r=>RP b r.1) (by unfold A8P;exact yB (yS k1 fun _ h=>yB (yS h fun _ h=>yB (yS h fun _ h=>yB (yS h fun _ h=>yB (yS h fun _ h=>yB (yS h fun _ h=>yB (yS h fun _ h=>yB (yS h fun _ h=>yI h))))))))) fun y2 k2=> ?_))
   have w3:=u1 _ m3;refine yC (fun _=>yB (yX (by simp only [D5C];exact hi) fun m4=>yB (yS ⟨k2,up u1 (by exact w3) _ m4⟩ fun y3 k3=>yI ?_))) (fun _=>yI ?_)
   ·rw [(T9 i (by omega)).1]
    exact ⟨⟨⟨by simp only [D5C];exact a1,up (up u1 (by exact w3)) k3.2⟩,⟨by dsimp only;omega,by simp only [D5C];omega⟩,k3.1⟩,by dsimp only;omega⟩
   ·rw [(T9 i (by omega)).1]
    exact ⟨⟨⟨by simp only [D5C];exact a1,up u1 (by exact w3)⟩,⟨by dsimp only;omega,by simp only [D5C];omega⟩,k2⟩,by dsimp only;omega⟩
 refine yB (yM key fun r ⟨r1,r2⟩=>yC (fun _=>yI A2h) fun _=>yB (yS h0.1 fun t ht=>yK (by rw [D4I (show 0<=r.1/\r.1<=(b.length:Int) from r1.2),Bool.or_true]) (yB (yM (P:=fun _=>True) (yG (fun _=>yM (C72 _ (by rw [D45];omega)) fun _ _=>trivial) fun _=>trivial) fun s _=>yC (fun _=>yI A2h) fun _=> ?_))))
 rw [A5c ⟨_,_,r.2.2.2.2⟩ r2,D4D];exact yC (fun _=>yI A2h) (fun _=>yI r2)
end Go.Win
set_option maxHeartbeats 4000000
set_option maxRecDepth 20000
namespace Go.Win
open Go.Vc Go.Dec
instance tsEdx7 {b:List Int}:TS (B3w b) (byt b) (fun r=>A74 r.1.Ah):=⟨fun _=>A8T⟩
end Go.Win
namespace Go.Win
open Go.Vc Go.Dec
def W {α:Type} (m:Option α) (Q:α->Prop):Prop:= ∀r,m=some r->Q r
theorem wI {α:Type} {a:α} {Q:α->Prop} (h:Q a):W (some a) Q:=fun r e=>by cases e;exact h
theorem wB {α β:Type} {m:Option α} {k:α->Option β} {Q:β->Prop} (h:∀a,W (k a) Q):W (Option.bind m k) Q:=fun r e=>by
 cases m with
 |none=>cases e
 |some a=>exact h a r e
theorem wS {α β:Type} {m:Option α} {k:α->Option β} {P:α->Prop} {Q:β->Prop} (g:W m P) (h:∀a,P a->W (k a) Q):W (Option.bind m k) Q:=fun r e=>by
 cases m with
 |none=>cases e
 |some a=>exact h a (g a rfl) r e
theorem wC {α:Type} {b:Bool} {x y:Option α} {Q:α->Prop} (h1:b=true->W x Q) (h2:b=false->W y Q):W (cond b x y) Q:=by
 cases b with
 |true=>exact h1 rfl
 |false=>exact h2 rfl
theorem wK {α:Type} {b:Bool} {m:Option α} {Q:α->Prop} (h:W m Q):W (ck b m) Q:=fun r e=>by
 cases b with
 |true=>exact h r e
 |false=>cases e
theorem wP {α β:Type} {m:Option α} {k:α->β} {Q:β->Prop} (h:W m fun a=>Q (k a)):W (Option.map k m) Q:=fun r e=>by
 cases m with
 |none=>cases e
 |some a=>cases e;exact h a rfl
theorem wL {S R:Type} {f:S->Option (S⊕R)} {s:S} {Q:R->Prop} (I:S->Prop) (h0:I s) (h: ∀s,I s->W (f s) fun x=>match x with
   | .inl s' =>I s'
   | .inr r=>Q r):W (loop f s) Q:=fun r e=>by
 obtain ⟨n,g⟩:=B3g e
 clear e
 induction n generalizing s with
 |zero=>cases g
 |succ n ih=>
  unfold M0 at g;cases k:f s with
  |none=>rw [k] at g;cases g
  |some x=>
   have hx:=h s h0 _ k;rw [k] at g;cases x with
   |inl s' =>exact ih hx g
   |inr q=>cases g;exact hx
end Go.Win
set_option maxHeartbeats 4000000
set_option maxRecDepth 20000
namespace Go.Win
open Go.Vc Go.Dec
def RS (Q:B5->Prop) (t:Int) (s:A7):Prop:=A2j s/\X9 s/\((J6 s).2=true->(J6 s).1=t)/\Q s.Ao
structure ES (Q:B5->Prop) (e:D4):Prop where
 now:0<=e.Now/\e.Now<=16777216
 lim:1<=e.Bd/\e.Bd<=64
 len:(e.Ah.length:Int)<=e.Bd
 recs: ∀r∈e.Ah,(0<=r.ID/\r.ID<=1048576)/\RS Q e.Now r.Ac
 asc:B54 e.Ah
theorem ES.ok {Q:B5->Prop} {e:D4} (h:ES Q e):C6V e/\A74 e.Ah:=by
 have hl:=h.len;have hm:=h.lim;refine ⟨⟨⟨h.now,⟨h.lim,h.len⟩,fun i hi=> ?_⟩,fun i hi=> ?_⟩,by omega,fun r hr=>(h.recs _ hr).2.2.1⟩
 ·obtain ⟨a,b,_⟩:=h.recs _ (L8 hi);refine ⟨a,fun h1=> ?_,b⟩;have:=B59.2 h.asc (i-1) (by omega)
  rw [show i-1+1=i by omega] at this
  exact this
 ·exact (h.recs _ (L8 hi)).2.2.2.1
theorem D1N {c:B5} {t:Int} (hc:A1N c):((J6 (B0v c t)).2=true->(J6 (B0v c t)).1=t)/\(B0v c t).Ao=c:=by
 unfold A1N at hc;have:c.Bi=1\/c.Bi=2\/c.Bi=3\/c.Bi=4\/c.Bi=5\/c.Bi=6\/c.Bi=7\/c.Bi=8\/c.Bi=9\/c.Bi=10\/c.Bi=11:=by omega
 unfold B0v J6;refine ⟨?_,rfl⟩;rcases this with h|h|h|h|h|h|h|h|h|h|h<;>simp [h]
theorem wT {p:Prop} (h:p:=by
 repeat' first
  |with_reducible refine wK ?_
  |refine wC (fun h=> ?_) (fun h=> ?_)
  |refine wB fun _=> ?_
  |refine wP ?_
  |refine wL (fun _=>True) trivial fun _ _=> ?_
  |(refine wI ?_;first|exact trivial|(intro e;first|exact rfl|(dsimp only at e;omega)|(simp only [bne_iff_ne] at h;dsimp only at e;omega)))):p:=h
theorem nw1 {x:C8} {v:Int}:W (A5E x v) fun r=>r.2=0->r.1.Now=x.Now:=by unfold A5E;exact wT
theorem nw2 {x:E1}:W (A2y x) fun r=>r.2=0->r.1.Now=x.Now:=by unfold A2y;exact wT
theorem nw3 {x:F0} {v:Int}:W (B1W x v) fun r=>r.2=0->r.1.Now=x.Now:=by unfold B1W;exact wT
theorem nw4 {x:C9} {v:Int}:W (A5J x v) fun r=>r.2=0->r.1.Now=x.Now:=by unfold A5J;exact wT
theorem nw5 {x:D1} {v:Int}:W (A5M x v) fun r=>r.2=0->r.1.Now=x.Now:=by unfold A5M;exact wT
theorem nw6 {x:E0} {v:Int}:W (A9b x v) fun r=>r.2=0->r.1.Now=x.Now:=by unfold A9b A9F B2o;exact wT
theorem nw7 {x:F1} {v:Int}:W (A7u x v) fun r=>r.2=0->r.1.Now=x.Now:=by unfold A7u;exact wT
theorem nw8 {x:B8} {v:Int}:W (A4k x v) fun r=>r.2=0->r.1.Now=x.Now:=by unfold A4k A3j A7Z;exact wT
theorem D4h {x:C3} {v:Int}:W (A3p x v) fun r=>r.2=0->r.1.Now=x.Now:=by unfold A3p;exact wT
def KC (s:A7) (r:A7×Int):Prop:=r.2=0->r.1.Ao=s.Ao/\J6 r.1=J6 s
theorem kT {s:A7} {k:Int} {z:A7} {y:Option (A7×Int)} (h:k=0->W y (KC s)):W (cond (k !=0) (some (z,k)) y) (KC s):=
 wC (fun g=>wI fun (e:k=0)=>by subst e;cases g) fun g=>h (by simpa using g)
theorem kQ {p:Prop} (h:p:=by (intro e;unfold J6;simp only [D5x] at k;simp only [k,Int.reduceBEq,D4H,D4G];rw [hy e])):p:=h
theorem kR {p:Prop} (h:p:=by (intro e;unfold J6;simp only [D5x] at k;simp only [k,Int.reduceBEq,D4G])):p:=h
theorem D2w (s:A7) (v:Int) (d:List Int):W (W5 s v d) (KC s):=by
 have j15: ∀a b c d e f hn hs g h i j q,(q=0->J6 ⟨s.Ao,a,b,c,d,e,f,⟨hn,hs⟩,g,⟨h⟩,i,j⟩=J6 s)->W (A1V s a b c d e f hn hs g h i j q) (KC s):=fun a b c d e f hn hs g h i j q hq=>kT fun g=>wI fun _=>⟨rfl,hq g⟩;have j3: ∀x a b c d e f hn hs g h i j q,(q=0->J6 ⟨s.Ao,a,b,c,d,e,f,⟨hn,hs⟩,g,⟨h⟩,i,j⟩=J6 s)->W (L2 s x q a b c d e f hn hs g h i j) (KC s):=fun x a b c d e f hn hs g h i j q hq=>wC (fun _=>j15 _ _ _ _ _ _ _ _ _ _ _ _ _ fun e=>by omega) (fun _=>j15 _ _ _ _ _ _ _ _ _ _ _ _ _ hq)
 unfold W5;refine wB fun a=>kT fun _=> ?_;refine wC (fun k=>wS nw1 fun y hy=>j3 _ _ _ _ _ _ _ _ _ _ _ _ _ _ kQ) fun _=> ?_;refine wC (fun k=>wC (fun _=>wI fun (e:(4:Int)=0)=>by omega) fun _=>wS nw2 fun y hy=>j3 _ _ _ _ _ _ _ _ _ _ _ _ _ _ kQ) fun _=> ?_
 refine wC (fun k=>wS nw3 fun y hy=>j3 _ _ _ _ _ _ _ _ _ _ _ _ _ _ kQ) fun _=> ?_;refine wC (fun k=>wS nw4 fun y hy=>j3 _ _ _ _ _ _ _ _ _ _ _ _ _ _ kQ) fun _=> ?_;refine wC (fun k=>wS nw5 fun y hy=>j3 _ _ _ _ _ _ _ _ _ _ _ _ _ _ kQ) fun _=> ?_;refine wC (fun k=>wS nw6 fun y hy=>j3 _ _ _ _ _ _ _ _ _ _ _ _ _ _ kQ) fun _=> ?_;refine wC (fun k=>wS nw7 fun y hy=>j3 _ _ _ _ _ _ _ _ _ _ _ _ _ _ kQ) fun _=> ?_;refine wC (fun k=>wS nw8 fun y hy=>j3 _ _ _ _ _ _ _ _ _ _ _ _ _ _ kQ) fun _=> ?_;refine wC (fun k=>wB fun _=>j3 _ _ _ _ _ _ _ _ _ _ _ _ _ _ kR) fun _=> ?_;refine wC (fun k=>wB fun _=>j3 _ _ _ _ _ _ _ _ _ _ _ _ _ _ kR) fun _=> ?_;refine wC (fun k=>wS D4h fun y hy=>j3 _ _ _ _ _ _ _ _ _ _ _ _ _ _ kQ) fun _=> ?_;exact j3 _ _ _ _ _ _ _ _ _ _ _ _ _ _ fun _=>rfl
end Go.Win
set_option maxHeartbeats 4000000
set_option maxRecDepth 20000
namespace Go.Win
open Go.Vc Go.Dec
theorem D2s {Q:B5->Prop} {e:D4} {r:B0} (h:ES Q e) (h0:(A59 e.Ah e.Bd r).2=0) (hr:RS Q e.Now r.Ac):ES Q ⟨e.Now,e.Bd,(A59 e.Ah e.Bd r).1⟩:=by
 have hl:=h.len;unfold A59 at h0⊢;split at h0
 ·cases h0
 split at h0
 ·cases h0
 split at h0
 ·cases h0
 split at h0
 ·cases h0
 rename_i g1 g2 g3 g4;rw [if_neg g1,if_neg g2,if_neg g3,if_neg g4];refine ⟨h.now,h.lim, ?_,fun x hx=> ?_,D1G h.asc (D4T.2 g3)⟩
 ·show ((e.Ah.take _++ [r]++e.Ah.drop _).length:Int)<=e.Bd;simp only [D4J,D45,D5b,D5i];omega
 ·have hx:x∈e.Ah.take (U0 e.Ah r.ID)++ [r]++e.Ah.drop (U0 e.Ah r.ID):=hx;simp only [D5p,List.mem_singleton] at hx;rcases hx with (hx|rfl)|hx
  ·exact h.recs _ (List.mem_of_mem_take hx)
  ·exact ⟨by omega,hr⟩
  ·exact h.recs _ (List.mem_of_mem_drop hx)
theorem D2u {Q:B5->Prop} {e:D4} {i:Int} (h:ES Q e) (h0:(B3V e.Ah i).2=0):ES Q ⟨e.Now,e.Bd,(B3V e.Ah i).1⟩:=by
 have hl:=h.len;unfold B3V at h0⊢;split at h0
 ·cases h0
 split at h0
 ·rename_i g1 g2;rw [if_neg g1,if_pos g2];refine ⟨h.now,h.lim, ?_,fun x hx=> ?_,D15 h.asc _⟩
  ·show ((e.Ah.take _++e.Ah.drop _).length:Int)<=e.Bd;simp only [D4J,D45,D5b];omega
  ·rcases D5p.1 hx with hx|hx
   ·exact h.recs _ (List.mem_of_mem_take hx)
   ·exact h.recs _ (List.mem_of_mem_drop hx)
 ·cases h0
theorem C7J {Q:B5->Prop} {e:D4} {t:Int} {L:List B0} (h:ES Q e) (ht:0<=t/\t<=16777216) (hL:L.length=e.Ah.length) (hi:∀i,i<L.length->(el L i).ID=(el e.Ah i).ID/\RS Q t (el L i).Ac):ES Q ⟨t,e.Bd,L⟩:=by
 have hl:=h.len;refine ⟨ht,h.lim,by show (L.length:Int)<=e.Bd;omega,fun r hr=> ?_,B59.1 fun i hj=> ?_⟩
 ·obtain ⟨i,hlt,rfl⟩:=A1Q hr;obtain ⟨a,b⟩:=hi i hlt;rw [a];exact ⟨(h.recs _ (L8 (by rw [<-hL];exact hlt))).1,b⟩
 ·have hj:i+1<L.length:=hj;show (el L i).ID<(el L (i+1)).ID;rw [(hi i (by omega)).1,(hi (i+1) hj).1]
  exact B59.2 h.asc i (by omega)
abbrev oZ (e:D4) (c:E9):D6:=⟨e,c,⟨0,C0j, [], []⟩⟩
def PQ (Q:B5->Prop) (x:Int×D6):Prop:=x.2.reply_.Code=0/\ES Q x.2.Ap/\C6b x.2.reply_
theorem B5r (k:Int):C6b ⟨k,C0j, [], []⟩:=⟨Nat.zero_le _,Nat.zero_le _,Nat.zero_le _⟩
section
variable {Q:B5->Prop} {e:D4} {c:E9} (h:ES Q e)
include h
theorem pQ (k:Int):PQ Q (k,oZ e c):=⟨rfl,h,B5r _⟩
theorem C8b:A1k (oZ e c)=some (cond (A2P e.Ah c.ID) ((el e.Ah (U0 e.Ah c.ID)).Ac,true) (C7H,false))/\(A2P e.Ah c.ID=true->U0 e.Ah c.ID<e.Ah.length/\(el e.Ah (U0 e.Ah c.ID)).ID=c.ID):=by
 have ok:=h.ok.1;have hl:=h.len;have hm:=h.lim;have hh:A2P e.Ah c.ID=true->U0 e.Ah c.ID<e.Ah.length/\(el e.Ah (U0 e.Ah c.ID)).ID=c.ID:=fun g=>by
  unfold A2P at g;simp only [D4L,D4F,D5x] at g;exact ⟨by omega,g.2⟩
 refine ⟨?_,hh⟩;unfold A1k;rw [A9X _ _ (by show e.Ah.length<=_;omega) (B2l ok.1.2),D4D]
 dsimp only;rw [B2d];cases g:A2P e.Ah c.ID with
 |false=>rfl
 |true=>
  simp only [D4P,D4G,D4H];rw [K0 (hh g).1];rfl
theorem D1k (hQ:A1N c.Ao->Q c.Ao):T (A11 (oZ e c)) (PQ Q):=by
 unfold A11;refine yC (fun _=>yI (pQ h _)) (fun _=> ?_)
 by_cases hc:A1N c.Ao
 ·have hw:=D1K (D1O hc h.now);have hn:=D1N (t:=e.Now) hc;exact yB ⟨_,C8E hc h.now,yC (fun h=>by cases h) fun _=>yB ⟨_,C31 _ _ _ h.ok.2 hw,yC (fun _=>yI (pQ h _)) fun h0=>yI ⟨rfl,D2s h (by simpa using h0) ⟨B7s hc h.now,hw,hn.1,by rw [hn.2];exact hQ hc⟩,B5r _⟩⟩⟩
 ·exact yB ⟨_,D1P (fun g=>hc g.1),yC (fun _=>yI (pQ h _)) fun h=>by cases h⟩
theorem D3J:T (A2U (oZ e c)) (PQ Q):=by
 unfold A2U;exact yB ⟨_,C87 _ _ h.ok.2,yC (fun _=>yI (pQ h _)) fun h0=>yI ⟨rfl,D2u h (by simpa using h0),B5r _⟩⟩
theorem D3M:T (A2V (oZ e c)) (PQ Q):=by
 have hl:=h.len;have hm:=h.lim;unfold A2V A7V;refine yC (fun _=>yI (pQ h _)) (fun ht=>yK (by rw [D4F,D49];dsimp only;omega) ?_)
 simp only [D5d,D4U] at ht;have hn0:=h.now;have ht' :0<=c.T/\c.T<=16777216:=by omega
 refine yL (fun s=> ∃k:Nat,s.2=k/\k<=e.Ah.length/\s.1.length=e.Ah.length/\ ∀i,i<s.1.length->(el s.1 i).ID=(el e.Ah i).ID/\(i<k->RS Q c.T (el s.1 i).Ac)/\(k<=i->el s.1 i=el e.Ah i)) (fun s=>e.Ah.length-s.2.toNat) ⟨0,rfl,Nat.zero_le _,rfl,fun i _=>⟨rfl,fun h=>absurd h (Nat.not_lt_zero _),fun _=>rfl⟩⟩ ?_;rintro ⟨L,_⟩ ⟨k,rfl,h1,h2,h3⟩;dsimp only at h2 h3⊢;unfold A7s;refine yC (fun g=> ?_) (fun g=>yP (yI ⟨rfl,C7J h ht' h2 fun i hi=>⟨(h3 i hi).1,(h3 i hi).2.1 ?_⟩,B5r _⟩))
 ·rw [D4F] at g;have g:(k:Int)<(e.Ah.length:Int):=g;have hlt:k<L.length:=by omega
  obtain ⟨_,b1,b2,b3,b4⟩:=h.recs _ (L8 (show k<e.Ah.length by omega))
  obtain ⟨q,q1,q2,q3,q4,q5⟩:=D1n b1 b2 b3 (show e.Now<=c.T by omega) ht'.1 ht'.2
  have e0:C1 L (k:Int)=some (el L k):=K0 hlt;have e1:(el L k).Ac=(el e.Ah k).Ac:=by rw [(h3 k hlt).2.2 (D5l _)]
  simp only [e0,D4D,e1,q1,D5g,D4G,(T9 (k:Int) (by omega)).1,D5j]
  refine yI ⟨⟨k+1,rfl,by omega,by rw [D5C];exact h2,fun i hi=> ?_⟩, ?_⟩
  ·replace hi:i<(L.set k ⟨(el L k).ID,q⟩).length:=hi;rw [D5C] at hi
   by_cases hik:i=k
   ·subst hik;have e2:el (L.set i ⟨(el L i).ID,q⟩) i=⟨(el L i).ID,q⟩:=by
     rw [L6 (by rw [D5C];exact hi)];exact List.getElem_set_self _
    dsimp only;rw [e2];exact ⟨(h3 i hi).1,fun _=>⟨q2,q3,q4,by rw [q5];exact b4⟩,fun h=>by omega⟩
   ·have e2:el (L.set k ⟨(el L k).ID,q⟩) i=el L i:=by
     rw [L6 (by rw [D5C];exact hi),L6 hi,List.getElem_set_ne (by omega)]
    dsimp only;rw [e2];exact ⟨(h3 i hi).1,fun h=>(h3 i hi).2.1 (by omega),fun h=>(h3 i hi).2.2 (by omega)⟩
  ·dsimp only;omega
 ·rw [D4U] at g;have g: ¬(k:Int)<(e.Ah.length:Int):=g;omega
theorem D4a (hd:c.Az.length<=maxLen):T (A3K (oZ e c)) (PQ Q):=by
 obtain ⟨hf,hh⟩:=C8b (c:=c) h;have w:=h.ok.2;unfold A3K;rw [hf];cases g:A2P e.Ah c.ID with
 |false=>exact yI (pQ h _)
 |true=>
  obtain ⟨hi,hid⟩:=hh g;obtain ⟨_,b1,b2,b3,b4⟩:=h.recs _ (L8 hi);obtain ⟨q,q1,q2⟩:=C9v (el e.Ah (U0 e.Ah c.ID)).Ac b2 c.V c.Az hd;simp only [D4D,D4H,D4P,D4G];refine yC (fun _=>yI (pQ h _)) fun _=>yB ⟨q,q1,yC (fun _=>yI (pQ h _)) fun hq0=>yB ⟨_,C7o _ _ w q2,yC (fun _=>yI (pQ h _)) fun h0=>yI ⟨rfl, ?_,B5r _⟩⟩⟩;obtain ⟨k1,k2⟩:=D2w _ _ _ _ q1 (by simpa using hq0)
  have h0:(B0z e.Ah ⟨c.ID,q.1⟩).2=0:=by simpa using h0
  show ES Q ⟨e.Now,e.Bd,(B0z e.Ah ⟨c.ID,q.1⟩).1⟩;unfold B0z at h0⊢;split at h0
  ·cases h0
  rename_i g1;rw [if_neg g1,if_pos g];have g1:=(Classical.not_not.1 g1).2;refine C7J h h.now (by rw [D5C]) fun i hi' => ?_
  have hi2:i<e.Ah.length:=by simpa using hi'
  by_cases hik:i=U0 e.Ah c.ID
  ·subst hik;rw [L6 hi',List.getElem_set_self];exact ⟨hid.symm,g1,q2,by rw [k2];exact b3,by rw [k1];exact b4⟩
  ·rw [L6 hi',List.getElem_set_ne (fun h=>hik h.symm),<-L6 hi2];exact ⟨rfl,(h.recs _ (L8 hi2)).2⟩
theorem D4b (hq:T0 c.Bg):T (A3L (oZ e c)) (PQ Q):=by
 obtain ⟨hf,hh⟩:=C8b (c:=c) h;unfold A3L;rw [hf];cases g:A2P e.Ah c.ID with
 |false=>exact yI (pQ h _)
 |true=>
  simp only [D4D,D4H,D4P,D4G];exact yB (yS ⟨h.ok.2.2 _ (L8 (hh g).1),hq⟩ fun b hb=>yI ⟨rfl,h,Nat.le_trans hb (by decide),Nat.zero_le _,Nat.zero_le _⟩)
theorem D3K:T (A1l (oZ e c)) (PQ Q):=by
 unfold A1l;exact yB (yS h.ok.2 fun b hb=>yI ⟨rfl,h,Nat.zero_le _,hb,Nat.zero_le _⟩)
theorem D3L:T (A1m (oZ e c)) (PQ Q):=by
 unfold A1m;exact yB (yS h.ok.2 fun b hb=>yI ⟨rfl,h,Nat.zero_le _,Nat.zero_le _,hb⟩)
def AQ (Q:B5->Prop) (e:D4) (c:E9) (r:D4×G9):Prop:=(r.2.Code=0\/(r.1=e/\r.2=⟨r.2.Code,C0j, [], []⟩))/\(c.Op≠8->ES Q r.1/\C6b r.2)
theorem C21 (hQ:A1N c.Ao->Q c.Ao) (hd:c.Az.length<=maxLen) (hq:T0 c.Bg) (h6:c.Op=6->T (A1l (oZ e c)) (PQ Q)) (h7:c.Op=7->T (A1m (oZ e c)) (PQ Q)) (h8:c.Op=8->T (A56 (oZ e c)) fun x=>x.2.reply_.Code=0):T (A0N e c) (AQ Q e c):=by
 obtain ⟨ok,w⟩:=h.ok;have fin: ∀ {m:Option (Int×D6)},T m (PQ Q)->T (Option.bind m fun y=>cond (y.1 !=(0:Int)) (some (e,(⟨y.1,C0j, [], []⟩:G9))) (some (y.2.Ap,y.2.reply_))) (AQ Q e c):=fun hm=>
  yB (yM hm fun a ha=>yC (fun _=>yI ⟨.inr ⟨rfl,rfl⟩,fun _=>⟨h,B5r _⟩⟩) (fun _=>yI ⟨.inl ha.1,fun _=>ha.2⟩))
 unfold A0N;rw [A5c e w,O8 ok,D4D,D5g,D4G];refine yC (fun _=>yI ⟨.inr ⟨rfl,rfl⟩,fun _=>⟨h,B5r _⟩⟩) fun hp=> ?_;refine yC (fun _=>fin (D1k h hQ)) fun c1=>yC (fun _=>fin (D3J h)) fun c2=>yC (fun _=>fin (D3M h)) fun c3=>yC (fun _=>fin (D4a h hd)) fun c4=>yC (fun _=>fin (D4b h hq)) fun c5=>yC (fun g=>fin (h6 (by simpa using g))) fun c6=>yC (fun g=>fin (h7 (by simpa using g))) fun c7=>yC (fun g=> ?_) fun c8=> ?_
 ·have g:c.Op=8:=by simpa using g
  exact yB (yM (h8 g) fun a ha=>yC (fun _=>yI ⟨.inr ⟨rfl,rfl⟩,fun k=>absurd g k⟩) (fun _=>yI ⟨.inl ha,fun k=>absurd g k⟩))
 ·unfold B16 A4x at hp;rw [c1,c2,c3,c4,c5,c6,c7,c8] at hp;cases hp
end
theorem ES.any {Q:B5->Prop} {e:D4} (h:ES Q e):ES (fun _=>True) e:=⟨h.now,h.lim,h.len,fun r hr=>let ⟨a,b1,b2,b3,_⟩:=h.recs r hr;⟨a,b1,b2,b3,trivial⟩,h.asc⟩
end Go.Win
set_option maxHeartbeats 4000000
set_option maxRecDepth 20000
namespace Go.Win
open Go.Vc Go.Dec
theorem C4U {x:B7} {v:Int} {d:List Int} {a:Int} (hl:x.Be.length<=maxLen):T (A9t x v d a) fun _=>True:=by
 obtain ⟨q,hq,hok⟩:=A3u x hl;unfold A9t;rw [hq]
 by_cases h:q=0
 ·obtain ⟨h1,h2,h3,h4,h5,h6,h7,_,h8⟩:=hok h;unfold A9T;exact yT
 ·clear hok;exact yT
theorem C07 {s:E4} {v:Int} {d:List Int} (hl:s.Am.length<=1048576) (hc:∀c∈s.Am,c.Be.length<=maxLen) (hd:d.length<=maxLen):T (A5b s v d) fun _=>True:=by
 obtain ⟨q,hq,_⟩:=A1X s (I3 hl) hc;unfold A5b;refine yB ⟨_,hq,yC (fun _=>yI trivial) fun _=> ?_⟩;unfold B3t;refine yL (fun t=>0<=t.2/\t.2<=s.Am.length) (fun t=>s.Am.length-t.2.toNat) ⟨Int.le_refl _,by simp⟩ fun t ⟨a1,a2⟩=> ?_
 unfold B2z;refine yC (fun g=> ?_) fun _=>yP (yI trivial);rw [D4F] at g;refine yB (yX ⟨a1,g⟩ fun hm=>yB (yM (C4U (hc _ hm)) fun _ _=>yC (fun _=>yI trivial) fun _=>yB (yM (C5v _ _ _ _ (hc _ hm) hd) fun _ _=>yC (fun _=>yI trivial) fun _=>yI ?_)));rw [(T9 t.2 (by omega)).1]
 exact ⟨⟨by dsimp only;omega,by dsimp only;omega⟩,by dsimp only;omega⟩
theorem D0i {Q:B5->Prop} {e:D4} {c:E9} (h:ES Q e) (hd:c.Az.length<=maxLen) (hq:T0 c.Bg):T (A7T e c) fun _=>True:=by
 unfold A7T;refine yC (fun _=>yI trivial) fun h4=> ?_;have h4:c.Op=4:=by simpa using h4
 obtain ⟨x,hx⟩: ∃x,A0N e c=some x:=by
  obtain ⟨x,hx,_⟩:=C21 h.any (c:=c) (fun _=>trivial) hd hq (fun g=>by omega) (fun g=>by omega) (fun g=>by omega)
  exact ⟨x,hx⟩
 refine yB ⟨x,hx,yC (fun _=>yI trivial) fun _=> ?_⟩;have hl:=h.len;have hm:=h.lim;rw [A9X _ _ (by omega) (B2l h.ok.1.1.2),D4D]
 refine yC (fun _=>yI trivial) fun g=> ?_;rw [B2d] at g⊢;unfold A2P at g;simp only [Bool.not_eq_false',D4L,D4F] at g;refine yB (yX ⟨by dsimp only;omega,g.1⟩ fun hm=>yB (yM (P:=fun _=>True) ?_ fun _ _=>yI trivial))
 have hu:=h.ok.2.2 _ hm;have key:T (A5b (el e.Ah (U0 e.Ah c.ID)).Ac.Ar c.V c.Az) fun _=>True:=C07 hu.2.2.2.2.2.2.2.2.1.1 (fun c hc=>I3 (hu.2.2.2.2.2.2.2.2.1.2 c hc)) hd;unfold A9k;exact yB (yG (fun _=>⟨_,Q9 _ hu,yC (fun _=>yI trivial) fun _=>yB (yM key fun _ _=>yI trivial)⟩) fun _=>yC (fun _=>yI trivial) fun _=>yB (yM key fun _ _=>yI trivial))
theorem D23 {t:V9} {m:Int} (h:0<=t.At/\t.At<=t.L.length) (hl:t.L.length<=maxLen) (hm:1<=m):T (A5v t m) fun r=>r.2.L=t.L/\0<=r.2.At/\r.2.At<=t.L.length:=by
 rw [I2] at hl;unfold A5v;refine yC (fun _=>yI ⟨rfl,h⟩) fun g=> ?_;rw [D4U] at g;rw [C2 (n:=t.At+1) (by omega) (by omega),C2 (by omega) (by omega)]
 refine yB (yX (by omega) fun _=>yB (yM (P:=fun _=>True) ?_ fun _ _=>yI ⟨rfl,by dsimp only;omega,by dsimp only;omega⟩))
 unfold P2;exact yK (by rw [D4F];omega) (yC (fun _=>yI trivial) fun _=>yI trivial)
end Go.Win
namespace Go.Win
open Go.Vc Go.Dec
set_option maxHeartbeats 4000000
set_option maxRecDepth 20000
instance (priority:=2000) tsT9sx1 {b:List Int} {p:Int} {f:Bool} {l:List B2}:TS (A0k b p f l) ((l.length<=42/\ ∀x∈l,x.Bh.Ae.length<=49)/\b.length<=100000000000000) (fun r=>r.length<=b.length+10+1530*l.length):=⟨fun ⟨h1,h2⟩=>by
 unfold A0k A4d;refine yB (yM (Q:=fun r=>_) (P:=fun r=>r.length<=b.length+10) (by exact yT) fun v hv=>wl 110000000000000 (f:=fun x v=>A2b x v p f) (c:=1530) (fun x hx v hv=> ?_) (by omega) (by omega) hv (fun i v=>rfl))
 have:=h1.2 x hx;unfold A2b A6e;exact yT⟩
instance (priority:=2000) tsT9sx2 {b:List Int} {p:Int} {f:Bool} {l:List B7}:TS (A0l b p f l) ((l.length<=16/\ ∀x∈l,x.Be.length<=64)/\b.length<=100000000000000) (fun r=>r.length<=b.length+10+1400*l.length):=⟨fun ⟨h1,h2⟩=>by
 unfold A0l A4e;refine yB (yM (Q:=fun r=>_) (P:=fun r=>r.length<=b.length+10) (by exact yT) fun v hv=>wl 110000000000000 (f:=fun x v=>A19 x v p f) (c:=1400) (fun x hx v hv=> ?_) (by omega) (by omega) hv (fun i v=>rfl))
 have:=h1.2 x hx;unfold A19 A6f;exact yT⟩
def QS (c:B5):Prop:=c.Cap<=61/\c.K<=3
theorem B0X {k c:Int} (hk:1<=k/\k<=3) (hc:1<=c/\c<=61): ∃b sz:Nat,A2I k c=some (sz:Int)/\c<2^b/\b<=6/\sz<=48:=by
 obtain ⟨b,g1,g2,g3,g4,g5,g6⟩:=B1R (x:=c) (by omega) (by omega)
 have b6:b<=6:=Nat.le_of_not_lt fun hb=>by
  have h2:(2:Nat)^6<=2^(b-1):=Nat.pow_le_pow_right (by decide) (by omega)
  have:(2:Int)^6<=2^(b-1):=by exact_mod_cast h2
  omega
 have m:=Int.mul_le_mul (show 2*k<=6 by omega) (show (b:Int)+2<=8 by omega) (by omega) (by decide)
 have m0:=Int.mul_nonneg (a:=2*k) (b:=(b:Int)+2) (by omega) (by omega)
 refine ⟨b,(2*k*((b:Int)+2)).toNat, ?_,g6,b6,by omega⟩
 unfold A2I;have e:(((!(N3 k))||(decide (c<(1:Int))))||(decide (c>(65536:Int))))=false:=by
  rw [(B8I k).2 (by omega)];simp;omega
 simp only [e,D4G,g2,D4D];rw [C2 (n:=2*k) (by omega) (by omega),C2 (n:=(b:Int)+2) (by omega) (by omega),C2 (by omega) (by omega),Int.toNat_of_nonneg m0]
theorem B57 {s:A7} (hv:A2j s) (w:X9 s) (q:QS s.Ao):B88 s<=64/\s.Ar.Am.length<=16/\(∀c∈s.Ar.Am,c.Be.length<=64)/\s.Ab.Ak.length<=42/\ ∀x∈s.Ab.Ak,x.Bh.Ae.length<=49:=by
 obtain ⟨hc,hr,ho1,ho2,ho3,ho4,ho5,ho6,ho7,ho8,ho9,ho10,ho11⟩:=hv;obtain ⟨w1,w2,w3,w4,w5,w6,w7,w8,w9,w10,w11⟩:=w;obtain ⟨q1,q2⟩:=q;have z1:s.Ao.Bi=1\/s.Aq.Bb.length=0:=(Decidable.em _).imp_right fun h=>(ho1 h).2.2.2;have z2:s.Ao.Bi=2\/s.Ay.Ad.length=0:=(Decidable.em _).imp_right fun h=>(ho2 h).2.2.2.2;have z3:s.Ao.Bi=3\/s.Sum.Ad.length=0:=(Decidable.em _).imp_right fun h=>(ho3 h).2.2.2.2.2;have z4:s.Ao.Bi=4\/s.As.Bf.length=0:=(Decidable.em _).imp_right fun h=>(ho4 h).2.2.2.2.2.2;have z5:s.Ao.Bi=5\/s.Au.Bf.length=0:=(Decidable.em _).imp_right fun h=>(ho5 h).2.2.2.2.2;have z6:s.Ao.Bi=6\/s.Bm.Ag.length=0:=(Decidable.em _).imp_right fun h=>(ho6 h).2.2.2;have z7:s.Ao.Bi=7\/s.Ba.Bn.length=0:=(Decidable.em _).imp_right fun h=>(ho7 h).2;have z8:s.Ao.Bi=8\/s.Af.Bb.length=0:=(Decidable.em _).imp_right fun h=>(ho8 h).2.2.2.2;have z9:s.Ao.Bi=9\/s.Ar.Am.length=0:=(Decidable.em _).imp_right fun h=>ho9 h;have z10:s.Ao.Bi=10\/s.Ai.Av.length=0:=(Decidable.em _).imp_right fun h=>(ho10 h).2.2.2;have z11:s.Ao.Bi=11\/s.Ab.Ak.length=0:=(Decidable.em _).imp_right fun h=>(ho11 h).2.2.2.2;have e9:s.Ao.Bi≠9-> ∀c∈s.Ar.Am,c.Be.length<=64:=fun h c m=>by
  rw [D5o (z9.resolve_left h)] at m;cases m
 have e11:s.Ao.Bi≠11-> ∀x∈s.Ab.Ak,x.Bh.Ae.length<=49:=fun h c m=>by
  rw [D5o (z11.resolve_left h)] at m;cases m
 unfold A1N at hc;unfold B88;rcases hr with ⟨k,h⟩|⟨k,h⟩|⟨k,h⟩|⟨k,h⟩|⟨k,h⟩|⟨k,h⟩|⟨k,h⟩|⟨k,h⟩|⟨k,h⟩|⟨k,h⟩|⟨k,h⟩
 ·have:=(B4r _).1 h.1;exact ⟨by omega,by omega,e9 (by omega),by omega,e11 (by omega)⟩
 ·have a:=C4b (A80 h.1.2.1).2.2;have b:=h.1.2.2.1;rw [C1d w2] at b;exact ⟨by omega,by omega,e9 (by omega),by omega,e11 (by omega)⟩
 ·have a:=C4b (A80 h.1.1.2.1).2.2;have b:=h.1.1.2.2.1;rw [C1d w3] at b;exact ⟨by omega,by omega,e9 (by omega),by omega,e11 (by omega)⟩
 ·have a:=(C0u (C7v h.1).1).2 (by omega)
  exact ⟨by omega,by omega,e9 (by omega),by omega,e11 (by omega)⟩
 ·obtain ⟨hp,hm,_⟩:=h.1;have a:=(C0u (B9t hp.2.1.2 (by decide) hm)).2 (by omega)
  exact ⟨by omega,by omega,e9 (by omega),by omega,e11 (by omega)⟩
 ·have:=h.1.1;exact ⟨by omega,by omega,e9 (by omega),by omega,e11 (by omega)⟩
 ·exact ⟨by omega,by omega,e9 (by omega),by omega,e11 (by omega)⟩
 ·have:=h.1.1;exact ⟨by omega,by omega,e9 (by omega),by omega,e11 (by omega)⟩
 ·refine ⟨by omega,by omega,fun c m=> ?_,by omega,e11 (by omega)⟩
  obtain ⟨q,hq,ok⟩:=A1X s.Ar (I3 w9.1) fun c hc=>I3 (w9.2 c hc);rw [show N4 s.Ar=some 0 from h.1] at hq;obtain ⟨q',hq',g⟩:=A3u c (I3 (w9.2 c m));rw [(ok (D5m hq).symm).2.2 c m] at hq';have:=g (D5m hq').symm;omega
 ·have:=h.1.1;unfold B2f at this;exact ⟨by omega,by omega,e9 (by omega),by omega,e11 (by omega)⟩
 ·obtain ⟨⟨hp,hb,ht,_⟩,g1,g2,g3⟩:=h;obtain ⟨b,sz,s1,s2,s3,s4⟩:=B0X (k:=s.Ab.K) (c:=s.Ab.Cap) (by omega) (by omega)
  obtain ⟨_,bk,each⟩:=hb _ s1;rw [B68 w11.1] at ht;have n:=B4O bk (cap:=s.Ab.Cap) (b:=b) ht s2;rw [A1w] at n;have m:=Int.mul_le_mul (show (b:Int)<=6 by omega) (show 2*s.Ab.K+1<=7 by omega) (by omega) (by decide)
  refine ⟨by omega,by omega,e9 (by omega),by omega,fun x hx=> ?_⟩
  obtain ⟨i,hi,rfl⟩:=A1Q hx;have:=(each i hi).2.2.1;omega
instance (priority:=2000) tsT9sx3 {b:List Int} {p:Int} {f:Bool} {s:A7}:TS (A20 b p f s) (A2j s/\(X9 s/\QS s.Ao)/\b.length<=90000000000000) (fun r=>r.2.2.length<=b.length+66000):=⟨fun ⟨h1,h2,h3⟩=>by
 obtain ⟨hf,hc,h9,hq,hx⟩:=B57 h1 h2.1 h2.2;obtain ⟨w1,w2,w3,w4,w5,w6,w7,w8,w9,w10,w11⟩:=h2.1;unfold B88 at hf
 clear h1 h2
 unfold A20;exact yT⟩
theorem B6x {e:D4} (ok:C6V e) (w:A74 e.Ah/\ ∀r∈e.Ah,QS r.Ac.Ao) (h6:e.Bd<=6):T (A1p 0 e) fun r=>r.2.2.length<=400000:=by
 have h64:e.Ah.length<=6:=by have:=ok.1.2.1;omega
 have i2: ∀n,TS (A9l n) True (fun r=>r.length<=10):=fun n=>⟨fun _=>by
  have:=(tsA (v:= []) (n:=n)).pf (by simp)
  have this:T (A0A [] n) fun r=>r.length<=10:=by simpa using this
  exact this⟩
 have lp: ∀l v f,l.length=e.Ah.length->(∀r∈l,A2j r.Ac/\(X9 r.Ac/\QS r.Ac.Ao))->v.length<=1000->TS (A3V 0 e l 0 v f) True (fun r=>r.2.2.length<=400000):=fun l v f h1 h2 h3=>⟨fun _=>by
  obtain ⟨C,hC⟩: ∃C:Nat,C=66100:=⟨_,rfl⟩;unfold A3V;refine yL (fun s=>(0<=s.2.1/\s.2.1<=e.Ah.length)/\s.1.length=e.Ah.length/\(∀i:Nat,s.2.1<=i->i<s.1.length->A2j (el s.1 i).Ac/\(X9 (el s.1 i).Ac/\QS (el s.1 i).Ac.Ao))/\s.2.2.1.length<=1000+C*s.2.1.toNat) (fun s=>e.Ah.length-s.2.1.toNat)
   ⟨⟨Int.le_refl _,by simp⟩,h1,fun i _ hi=>h2 _ (L8 hi),by show v.length<=1000+C*0;omega⟩ fun s ⟨a1,a2,a3,a4⟩=> ?_
  obtain ⟨l,n,v,f⟩:=s;dsimp only at a1 a2 a3 a4⊢;obtain ⟨i,rfl⟩:=Int.eq_ofNat_of_zero_le a1.1;have hw:=(T9 (i:Int) (by omega)).1
  have a4:v.length<=1000+C*i:=a4;have a5:C*i<=C*6:=Nat.mul_le_mul_left C (by omega)
  have a6:C*(i+1)=C*i+C:=Nat.mul_succ C i;unfold A7C;refine yC (fun h=> ?_) (fun h=>yP (yI (by show v.length<=_;omega)))
  rw [D4L,D4F] at h;have hlt:i<l.length:=by omega
  have e0:C1 l (i:Int)=some (el l i):=K0 hlt;have e1:l.set i (el l i)=l:=by rw [L6 hlt];exact List.set_getElem_self hlt
  obtain ⟨g1,g2⟩:=a3 i (Int.le_refl _) hlt;have hs: ∀(x:B0) (j:Nat),(i:Int)+1<=j->j<(l.set i x).length->A2j (el (l.set i x) j).Ac/\(X9 (el (l.set i x) j).Ac/\QS (el (l.set i x) j).Ac.Ao):=fun x j h1 h2=>by
   rw [D5C] at h2;have e:el (l.set i x) j=el l j:=by
    rw [L6 (by rw [D5C];exact h2),L6 h2,List.getElem_set_ne (by omega)]
   rw [e];exact a3 j (by omega) h2
  have hs' : ∀j:Nat,(i:Int)+1<=j->j<l.length->A2j (el l j).Ac/\(X9 (el l j).Ac/\QS (el l j).Ac.Ao):=fun j h1 h2=>a3 j (by omega) h2
  have en:((i:Int)+1).toNat=i+1:=by omega
  have cf: ∀v1:List Int,v1.length<=20000000000000->T (A2g v1 0 f (el l i).Ac.Ao) fun r=>r.length<=v1.length+80:=fun v1 h=>by
   unfold A2g;exact yT
  simp only [e0,D4D,D5j,e1,hw];refine yB (yM (P:=fun r=>r.length<=v.length+10) (by exact yT) fun v1 hv1=>yB (yM (cf v1 (by omega)) fun v2 hv2=>yC (fun _=>yB (yS ⟨g1,g2,by omega⟩ fun y hy=>yI ?_)) (fun _=>yI ?_)))
  ·have hy:y.2.2.length<=v2.length+66000:=hy;refine ⟨⟨⟨by show 0<=(i:Int)+1;omega,by show (i:Int)+1<=_;omega⟩,by show (l.set i _).length=_;rw [D5C];exact a2,hs _, ?_⟩, ?_⟩
   ·dsimp only;rw [en];omega
   ·show e.Ah.length-((i:Int)+1).toNat<e.Ah.length-(i:Int).toNat;omega
  ·refine ⟨⟨⟨by show 0<=(i:Int)+1;omega,by show (i:Int)+1<=_;omega⟩,a2,hs', ?_⟩, ?_⟩
   ·dsimp only;rw [en];omega
   ·show e.Ah.length-((i:Int)+1).toNat<e.Ah.length-(i:Int).toNat;omega⟩
 have hl: ∀z:B0,laid (List.replicate e.Ah.length z) 0 (e.Ah.take (List.replicate e.Ah.length z).length)=e.Ah:=fun z=>by
  unfold laid;simp
 have hr: ∀r∈e.Ah,A2j r.Ac/\(X9 r.Ac/\QS r.Ac.Ao):=fun r hr=>by
  obtain ⟨i,hi,rfl⟩:=A1Q hr;exact ⟨(ok.1.2.2 i hi).2.2,w.1.2 _ hr,w.2 _ hr⟩
 unfold A1p;simp only [D5j,hl];refine yB (yM (P:=fun r=>r.length<=10) (by exact yT) fun v1 h1=>yB (yM (P:=fun r=>r.length<=20) (by exact yT) fun v2 h2=>yB (yM (P:=fun r=>r.length<=30) (by exact yT) fun v3 h3=>yB (yM (P:=fun r=>r.length<=40) (by exact yT) fun v4 h4=> ?_))))
 have:=fun f=>lp e.Ah v4 f rfl hr (by omega)
 exact yT
theorem B7V (v:List Int) (n:Int):W (A0A v n) fun r=>0<r.length:=by
 have key: ∀u,W (A6m v u) fun r=>0<r.length:=fun u=>by
  unfold A6m;refine wL (fun _=>True) trivial fun s _=> ?_;unfold A5e;exact wC (fun _=>wK (wI trivial)) (fun _=>wP (wK (wI (by simp))))
 unfold A0A A23;exact wC (fun _=>key _) (fun _=>key _)
theorem A8B {e:D4} (ok:C6V e) (w:A74 e.Ah) (q:∀r∈e.Ah,QS r.Ac.Ao) (h6:e.Bd<=6):T (A2L e) fun r=>r.2=0/\0<r.1.length/\r.1.length<=500000:=by
 unfold A2L;rw [A5c e w,O8 ok,D4D,D5g,D4G];refine yB (yM (B6x ok ⟨w,q⟩ h6) fun x hx=>yB (yM (C72 _ (by omega)) fun k _=> ?_))
 obtain ⟨r,hr,hl⟩:=(inferInstance:TS (A0A x.2.2 k) _ _).pf (by omega)
 refine yB ⟨r,hr, ?_⟩;dsimp only;rw [D4K (by omega),D4G]
 exact yI ⟨rfl,B7V _ _ _ hr,by show r.length<=_;omega⟩
end Go.Win
set_option maxHeartbeats 4000000
set_option maxRecDepth 20000
namespace Go.Win
open Go.Vc Go.Dec
abbrev c2:B5:=⟨2,0,5,1,5,0,0,0⟩
abbrev s2 (l:List A3):A7:=⟨c2,⟨0,0,0, []⟩,⟨5,1,5,0,l⟩,⟨0,0,0,0,0, []⟩,⟨0,0,0,0,0,0, []⟩,⟨0,0,0,0,0, []⟩,⟨0,0,0, []⟩,⟨0, []⟩,⟨false,0,0,0, []⟩,⟨[]⟩,⟨0,0,0, []⟩,⟨0,0,0,0, []⟩⟩
theorem B7k:A1N c2:=by unfold A1N;simp
theorem D3r:B0v c2 0=s2 []:=rfl
theorem D01:A1S [⟨0,0⟩] 5 1 5 0:=by
 refine ⟨by decide,⟨by decide,fun i hi=> ?_,fun _ j hj=> ?_⟩,by decide,fun i hi=> ?_⟩
 ·obtain rfl:i=0:=by simpa using hi
  unfold A8U;decide
 ·obtain rfl:j=0:=by have:(j:Int)<=0:=hj;omega
  unfold B3E;decide
 ·obtain rfl:i=0:=by simpa using hi
  decide
theorem C88 {l:List A3} (hl:l.length<=1048576) (h:A1S l 5 1 5 0):K1 (s2 l)=some 0:=by
 have w:X9 (s2 l):=⟨Nat.zero_le _,hl,Nat.zero_le _,Nat.zero_le _,Nat.zero_le _,⟨Nat.zero_le _,fun w h=>by cases h⟩,Nat.zero_le _,Nat.zero_le _,⟨Nat.zero_le _,fun w h=>by cases h⟩,Nat.zero_le _,⟨Nat.zero_le _,fun w h=>by cases h⟩⟩
 rw [Q9 _ w,O8];have o:=(B7s (now:=0) B7k (by decide)).2.2
 exact ⟨B7k, .inr (.inl ⟨rfl,h,rfl,rfl,rfl⟩),o.1,fun g=>absurd rfl g,o.2.2⟩
theorem D2F:A2y ⟨5,1,5,0, []⟩=some (⟨5,1,5,0, [⟨0,0⟩]⟩,0):=by
 have h0:A1S [] 5 1 5 0:=by
  have:=(B7s (now:=0) B7k (by decide)).2.1
  unfold A6A at this;simpa [B0v] using this
 have v:U9 ⟨5,1,5,0, []⟩=some 0:=by rw [A1H _ (by rw [I2];decide),O8 h0]
 have t:K8 []=some 0:=by unfold K8 A65;exact S3 rfl
 have b:S6 [] 1=some true:=by
  unfold S6 A66;show loop _ _=_;exact S3 rfl
 have i:T1 [] 1 0=some [⟨0,0⟩]:=by
  unfold T1 A3G;show loop _ _=_;refine S3 ?_;unfold A3a A1s;exact B4n (n:=3) rfl
 have n:A1F [] 1 0=some [⟨0,0⟩]:=by
  unfold A1F;rw [b,D4D];show Option.bind (A2O [] 0) _=_;rw [show A2O [] 0=some true from rfl,D4D];show Option.bind (K8 []) _=_;rw [t,D4D];show Option.bind (T1 [] 1 0) _=_;rw [i]
  rfl
 unfold A2y;rw [v,D4D];show Option.bind (K8 []) _=_;rw [t,D4D];show Option.bind (A1F [] 1 0) _=_;rw [n]
 rfl
theorem B8O:Y0 ⟨1,1⟩=some true:=by
 have g:A5h ⟨0,1⟩ ⟨0,1⟩=some ⟨0,1⟩:=by
  have o:H7 ⟨0,1⟩:=by unfold H7;decide
  rw [B8X o o]
  rfl
 unfold Y0;show Option.bind (A5h ⟨0,1⟩ ⟨0,1⟩) _=_;rw [g]
 rfl
theorem C4n:B3z=some true:=by
 unfold B3z;rw [show (B5.mk 2 0 5 1 5 0 0 0)=c2 from rfl,C8E B7k (by decide),D4D,D3r]
 have a:W5 (s2 []) 1 []=some (s2 [⟨0,0⟩],0):=by
  have h0:A1S [] 5 1 5 0:=by
   have:=(B7s (now:=0) B7k (by decide)).2.1
   unfold A6A at this;simpa [B0v] using this
  unfold W5;rw [C88 (by decide) h0,D4D]
  show Option.bind (A2y ⟨5,1,5,0, []⟩) _=_;rw [D2F]
  rfl
 have q:Z4 (s2 [⟨0,0⟩]) ⟨1,0,0⟩=some (⟨⟨⟨1,1⟩,⟨1,1⟩,⟨1,1⟩⟩, [],⟨⟨0,0⟩,⟨0,0⟩⟩⟩,0):=by
  have v:U9 ⟨5,1,5,0, [⟨0,0⟩]⟩=some 0:=by rw [A1H _ (by rw [I2];decide),O8 D01]
  have t:K8 [⟨0,0⟩]=some 1:=by unfold K8 A65;exact B4n (n:=2) rfl
  unfold Z4;rw [C88 (by decide) D01,D4D]
  have c:A1G c2 1=true:=by
   unfold A1G;rw [A2x,B94 B7k]
   rfl
  show cond (!A1G c2 1) _ (Option.bind (A4U ⟨5,1,5,0, [⟨0,0⟩]⟩) _)=_;rw [c];show Option.bind (A4U ⟨5,1,5,0, [⟨0,0⟩]⟩) _=_;unfold A4U;rw [v];show Option.bind (Option.bind (A1a [⟨0,0⟩]) _) _=_;unfold A1a;show Option.bind (Option.bind (Option.bind (K8 [⟨0,0⟩]) _) _) _=_;rw [t]
  rfl
 show Option.bind (W5 (s2 []) 1 []) _=_;rw [a,D4D];show Option.bind (Z4 (s2 [⟨0,0⟩]) ⟨1,0,0⟩) _=_;rw [q,D4D];have c:A4b ⟨1,1⟩ ⟨1,1⟩=some 0:=by
  unfold A4b;rw [B8O,D4D];simp only [D4D,D4P,D4Q,I0,B8O,Bool.or_self,D4G]
  rfl
 have b:A4P ⟨⟨1,1⟩,⟨1,1⟩,⟨1,1⟩⟩=some true:=by
  unfold A4P;simp only [B8O,c,D4D,I0,Bool.and_self,decide_true]
  rfl
 show Option.bind (A4P ⟨⟨1,1⟩,⟨1,1⟩,⟨1,1⟩⟩) _=_;rw [b]
 rfl
end Go.Win
set_option maxHeartbeats 4000000
set_option maxRecDepth 20000
namespace Go.Win
open Go.Vc Go.Dec
structure TcP (c:E9):Prop where
 op:c.Op≠8
 cfg:QS c.Ao
 q:T0 c.Bg
 dr:c.Az.length<=20
 by0:c.Ax= []
theorem A8D {c:B5} (h:QS c):QS (A2R c):=by
 have z3:(0:Int)<=3:=by decide
 have z6:(0:Int)<=61:=by decide
 have k: ∀ {b:Bool} {x y:B5},QS x->QS y->QS (cond b x y):=fun {b x y} h1 h2=>by cases b<;>assumption
 have j3: ∀b,QS (A1J c b):=fun b=>k ⟨h.1,h.2⟩ (k ⟨h.1,h.2⟩ (k ⟨h.1,h.2⟩ (k ⟨z6,z3⟩ (k ⟨z6,z3⟩ (k ⟨h.1,z3⟩ (k ⟨h.1,z3⟩ (k ⟨h.1,h.2⟩ ⟨z6,z3⟩)))))));exact k ⟨h.1,z3⟩ (k (j3 _) (k (j3 _) (j3 _)))
theorem D0L (c:B5) (k:Int):T (B1P c k) QS:=by
 have j: ∀a b d e f g h,0<=d/\d<3->0<=e/\e<60->T (A4h k a b d e f g h) QS:=fun a b d e f g h hd he=>by
  unfold A4h;refine yI (A8D ⟨?_, ?_⟩)
  ·show A1 (2+e)<=61;rw [C2 (by omega) (by omega)];omega
  ·show A1 (1+d)<=3;rw [C2 (by omega) (by omega)];omega
 unfold B1P;exact yB (yS (by decide) fun _ _=>yB (yS (by decide) fun _ _=>yB (yS (by decide) fun _ hd=>yB (yS (by decide) fun _ he=>yB (yS (by decide) fun _ _=>yB (yS (by decide) fun _ _=>yB (yS (by decide) fun _ _=>yC (fun _=>j _ _ _ _ _ _ _ hd he) (fun _=>j _ _ _ _ _ _ _ hd he))))))))
theorem D0M (p:E9) (n:Int):T (A9K p n) TcP:=by
 have z0:QS ⟨0,0,0,0,0,0,0,0⟩:=⟨by decide,by decide⟩
 have j2: ∀ {a b c d e q},a≠8->QS c->T0 q->T (A0B a b c d e q) TcP:=fun h1 h2 h3=>yI ⟨h1,h2,h3,Nat.zero_le _,rfl⟩;unfold A9K;refine yB (yS (by decide) fun a ha=>yB (yS (by decide) fun b hb=> ?_))
 rw [C2 (by omega) (by omega)]
 have j6: ∀x,(x=true->1+a≠8)->T (A5S p n a b x) TcP:=fun x hx=>by
  unfold A5S B1m;rw [C2 (n:=1+a) (by omega) (by omega)]
  exact yC (fun g=>j2 (hx g) z0 B6O) (fun _=>yB (yM (P:=fun _=>True) (by exact yT) fun _ _=>j2 (by decide) z0 B6O))
 refine yC (fun g=>yB (yS (by decide) fun _ _=>yB (yM (D0L _ _) fun c hc=>j2 (by rw [D5x] at g;omega) hc B6O))) fun _=> ?_
 refine yC (fun g=>j2 (by rw [D5x] at g;omega) z0 B6O) fun _=> ?_
 refine yC (fun g=>yB (yM (P:=fun _=>True) ?_ fun _ _=>j2 (by rw [D5x] at g;omega) z0 B6O)) fun _=> ?_
 ·unfold B45 B3O;exact yT
 refine yC (fun g=>yB (yS (by decide) fun x hx=>yB (yS (by decide) fun y hy=>yB (yS (by decide) fun z hz=>j2 (by rw [D5x] at g;omega) z0 (D3m (D3Z _) hy hz))))) fun _=> ?_
 exact yC (fun _=>j6 _ fun g=>by rw [D5x] at g;omega) (fun _=>j6 _ fun g=>by rw [D5x] at g;omega)
theorem D1q {e:D4} {c:E9} (h:ES QS e) (hc:TcP c):T (A0N e c) fun r=>ES QS r.1/\C6b r.2:=
 yM (C21 h (fun _=>hc.cfg) (by have:=hc.dr;rw [I2];omega) hc.q (fun _=>D3K h) (fun _=>D3L h) (fun g=>absurd g hc.op)) fun _ k=>k.2 hc.op
theorem D1z {e:D4} {c:E9} (h:ES QS e) (hc:TcP c) (l:List Int) (hl:l.length<=maxLen):T (B3A e c l) fun d=>TcP d/\d.T=c.T/\d.V=c.V/\d.ID=c.ID/\d.Op=c.Op:=by
 have fin: ∀ds:List Int,ds.length<=20->TcP ⟨c.Op,c.ID,c.Ao,c.T,c.V,ds,c.Bg,c.Ax⟩:=fun ds hd=>⟨hc.op,hc.cfg,hc.q,hd,hc.by0⟩;unfold B3A B67 B8H;dsimp only;refine yL (fun s=>s.1.length<=20/\s.2.1=l/\0<=s.2.2/\s.2.2<=l.length) (fun s=>20-s.1.length) ⟨hc.dr,rfl,Int.le_refl _,by dsimp only;omega⟩ ?_
 rintro ⟨ds,_,a⟩ ⟨h1,rfl,h2,h3⟩;dsimp only at h1 h2 h3⊢;unfold B5U;refine yC (fun g=> ?_) (fun _=>yP (yI ⟨fin ds h1,rfl,rfl,rfl,rfl⟩));rw [D4F] at g;refine yB (yM (D0i h (by dsimp only;rw [I2];omega) hc.q) fun m _=>yC (fun _=>yP (yI ⟨fin ds h1,rfl,rfl,rfl,rfl⟩)) fun g2=> ?_)
 simp only [D5d,D4U] at g2;refine yK (by rw [D4F,D49];omega) (yB (yM (D23 (t:=⟨_,a⟩) ⟨h2,h3⟩ hl (by omega)) fun r hr=>yK (by rw [D4F,D4J,D49,D5i];omega) (yI ⟨⟨?_,hr⟩, ?_⟩)))
 all_goals (simp only [D4J,D49,D5i];omega)
theorem wU {p:Prop} (h:p:=by
 repeat' first
  |with_reducible refine wK ?_
  |refine wC (fun h=> ?_) (fun h=> ?_)
  |refine wB fun _=> ?_
  |refine wP ?_
  |refine wL (fun _=>True) trivial fun _ _=> ?_
  |exact wI rfl
  |exact wI trivial):p:=h
theorem B8s {e:D4} {c:E9} (h8:c.Op≠8):W (A0N e c) fun r=>r.1.Bd=e.Bd:=by
 have fin: ∀ {m:Option (Int×D6)},W m (fun x=>x.2.Ap.Bd=e.Bd)->W (Option.bind m fun y=>cond (y.1 !=(0:Int)) (some (e,(⟨y.1,C0j, [], []⟩:G9))) (some (y.2.Ap,y.2.reply_))) fun r=>r.1.Bd=e.Bd:=fun h=>wS h fun a ha=>wC (fun _=>wI rfl) (fun _=>wI ha);unfold A0N;refine wB fun _=>wC (fun _=>wI rfl) fun _=>wC (fun _=>wI rfl) fun hp=> ?_;refine wC (fun _=>fin ?_) fun c1=>wC (fun _=>fin ?_) fun c2=>wC (fun _=>fin ?_) fun c3=>wC (fun _=>fin ?_) fun c4=>wC (fun _=>fin ?_) fun c5=>wC (fun _=>fin ?_) fun c6=>wC (fun _=>fin ?_) fun c7=>wC (fun g=>absurd (by simpa using g) h8) fun c8=> ?_
 ·unfold A11;exact wU
 ·unfold A2U;exact wU
 ·unfold A2V A7V A7s;exact wU
 ·unfold A3K;exact wU
 ·unfold A3L;exact wU
 ·unfold A1l;exact wU
 ·unfold A1m;exact wU
 ·unfold B16 A4x at hp;rw [c1,c2,c3,c4,c5,c6,c7,c8] at hp;cases hp
theorem D2t {n:Int} (hn:1<=n/\n<=64) {Q:B5->Prop}:ES Q ⟨0,n, []⟩:=⟨⟨Int.le_refl _,(by decide:(0:Int)<=16777216)⟩,hn,by show (0:Int)<=n;omega,(fun r hr=>by cases hr),List.Pairwise.nil⟩
theorem B74 (l:List E9) (n:Int) (w:wfL A1K l) (hn:n<=1000):T (R0 l n) fun e=>ES QS e/\e.Bd=6:=by
 unfold R0;show T (P1 l n 0 0 6 []) _;unfold P1;refine yL (fun s=> ∃i:Nat,s.1=i/\i<=1000/\ES QS ⟨s.2.1,s.2.2.1,s.2.2.2⟩/\s.2.2.1=6) (fun s=>1000-s.1.toNat) ⟨0,rfl,Nat.zero_le _,D2t (by decide),rfl⟩ ?_
 rintro ⟨_,a,m,k⟩ ⟨i,rfl,h1,h2,h3⟩;dsimp only at h2 h3⊢;unfold A2r;refine yC (fun g=> ?_) fun g=>yP (yI ⟨h2,h3⟩);rw [D4L,D4F,D4F] at g;refine yB (yX (by omega) fun hm=>yB (yM (D0M _ _) fun c hc=>yB (yX (by omega) fun _=>yB (yM (D1z h2 hc _ (w.2 _ hm).2.2.2.2.2.1.1) fun d hd=> ?_))))
 obtain ⟨r,r1,r2,_⟩:=D1q h2 hd.1;refine yB ⟨r,r1, ?_⟩;rw [(T9 (i:Int) (by omega)).1]
 exact yI ⟨⟨i+1,rfl,by omega,r2,(B8s hd.1.op _ r1).trans h3⟩,by dsimp only;omega⟩
end Go.Win
set_option maxHeartbeats 4000000
set_option maxRecDepth 20000
namespace Go.Win
open Go.Vc Go.Dec
theorem B4J (l:List Int):G2 l l=some true:=by
 unfold G2;rw [beq_self_eq_true]
theorem B2T {e:D4} (h:ES QS e) (h6:e.Bd=6):L0 e e=some true:=by
 obtain ⟨⟨x,f⟩,h1,h2,h3,_⟩:=A8B h.ok.1 h.ok.2 (fun r hr=>(h.recs r hr).2.2.2.2) (by omega)
 dsimp only at h2 h3;subst h2;unfold L0;rw [h1,D4D,D4D];dsimp only;rw [D4I (by omega),B4J]
 rfl
theorem W0 (p0:List E9) (p1:E9) (w0:wfL A1K p0) (w1:A1K p1):G3 p0 p1=some true:=by
 have key:T (G3 p0 p1) fun r=>r=true:=by
  unfold G3;rw [C4n];refine yC (fun _=>yI rfl) fun _=>yB (yM (B74 p0 20 w0 (by decide)) fun e ⟨h,h6⟩=> ?_)
  obtain ⟨⟨a,r⟩,h1,h2,_⟩:=C21 (c:=p1) h.any (fun _=>trivial) w1.2.2.2.2.2.1.1 w1.2.2.2.2.2.2.1 (fun _=>D3K h.any) (fun _=>D3L h.any) fun _=>by
   unfold A56;exact yB (yS (B73 w1.2.2.2.2.2.2.2.2) fun b hb=>yC (fun _=>yI rfl) (fun _=>yI rfl))
  rw [h1,D4D];refine yC (fun _=>yI rfl) fun hc=> ?_;rcases h2 with h2|⟨rfl,_⟩
  ·dsimp only at h2 hc;rw [h2] at hc;cases hc
  ·dsimp only;rw [h1,D4D];dsimp only;rw [B2T h h6];simp only [D4D,I0,beq_self_eq_true,Bool.and_self];exact yI rfl
 obtain ⟨r,h,rfl⟩:=key;exact h
end Go.Win
