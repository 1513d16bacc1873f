/- Plain laws of the functions on plain data. -/
import Derived.Test.YtoljnakoodalpaaGreatQb
import Derived.Test.YtoljnakoodalpaaGreatQa
set_option linter.unusedVariables false
set_option linter.unusedSimpArgs false
set_option linter.unnecessarySimpa false
set_option linter.unusedSectionVars false
namespace Go.Win
open Go.Vc Go.Dec
theorem A3t {n t:Int} (h1:n<=t) (h2:t<=16777216):B0c n t=0:=by
 unfold B0c;rw [D3j (by omega),D3j (by omega)]
 rfl
theorem V2 (a b:Int):P8 a b=if b>a then b else a:=rfl
theorem C0D {n w:Int} (hn:0<=n/\n<=16777216) (hw:1<=w/\w<=1048576) (T:Int):(N0 n w<=T↔0<=T/\n-w<T):=by
 unfold N0;have e1:E7 n=true:=(T9 n).2 hn;have e2:K3 w=true:=by unfold K3;simp;omega
 simp only [e1,e2,D3o,Bool.or_self,D3f];rw [A7 (n:=n-w) (by omega) (by omega),A7 (by omega) (by omega),V2]
 split<;>omega
theorem B7B {α:Type} (tm:α->Int) (f:Int): ∀ {l:List α},l.Pairwise (fun a b=>tm a<=tm b)-> ∀x∈l.dropWhile (fun x=>decide (tm x<f)),f<=tm x
 | [],_,x,hx=>by cases hx
 |a::l,hp,x,hx=>by
  rw [List.dropWhile_cons] at hx;have h2:=List.pairwise_cons.1 hp
  by_cases h:tm a<f
  ·rw [D3h h] at hx;exact B7B tm f h2.2 x hx
  ·rw [D3j h] at hx;rcases List.mem_cons.1 hx with e|e
   ·rw [e];omega
   ·have:=h2.1 x e;omega
theorem C1h (p:A3->Bool) (l:List A3):I3 (l.dropWhile p)<=I3 l:=by
 have h:I3 l=I3 (l.takeWhile p)+I3 (l.dropWhile p):=by rw [<-A2H,List.takeWhile_append_dropWhile]
 have:=A7a (l.takeWhile p);omega
theorem C5O {l:List A3} {k:Int} (h:Z9 l k) (p:A3->Bool):Z9 (l.dropWhile p) k:=by
 obtain ⟨ci,cs,cl⟩:=A3E h;have e:l.takeWhile p++l.dropWhile p=l:=List.takeWhile_append_dropWhile;refine B3M h.1 (C7I (P:=l.takeWhile p) (by rw [e];exact cs) (by rw [e];exact ci)) ?_ (fun x hx=>cl x (A73 hx))
 rw [<-e] at cs;exact (List.pairwise_append.1 cs).2.1
theorem C0J {l:List A3} {W K Cap Now t:Int} (h:A03 l W K Cap Now) (h1:Now<=t) (h2:t<=16777216) (hl:l.length<=1048576):A03 (l.dropWhile fun x=>decide (x.T<N0 t W)) W K Cap t:=by
 obtain ⟨hp,hb,hc,hv⟩:=h;have hlen:=A6I (fun x:A3=>decide (x.T<N0 t W)) l;rw [B1o hl] at hc;have htot:=C1h (fun x:A3=>decide (x.T<N0 t W)) l;refine ⟨⟨hp.1,hp.2.1,⟨by omega,h2⟩,hp.2.2.2⟩,C5O hb _,by rw [B1o (by omega)];omega,fun i hi=> ?_⟩
 have hm:=J0 hi;have a:=B7B (fun x:A3=>x.T) (N0 t W) (A3E hb).1.srt _ hm;rw [C0D ⟨by omega,h2⟩ hp.1] at a
 obtain ⟨j,hj,e⟩:=R9 (A73 hm);have b:=(O4 _ _ _).1 (hv j hj);rw [e] at b;exact (O4 _ _ _).2 ⟨⟨by omega,h2⟩,hp.1,b.2.2.1,a.2,by omega⟩
theorem C4b {l:List A3} (hl:∀x∈l,0<=x.As/\x.As<=30):(l.length:Int)<=I3 l:=by
 induction l with
 |nil=>exact Int.le_refl 0
 |cons b l ih=>
  have:=ih fun x hx=>hl x (by simp [hx])
  rw [A2B,D3v];have h:=hl b (by simp)
  have h1:A0P b=2^b.As.toNat:=by unfold A0P;rw [if_pos h]
  have h2:=A1C b.As.toNat
  push_cast
  omega
theorem B3y {l:List A3} {W K Cap Now:Int} (h:A03 l W K Cap Now) (hl:l.length<=1048576):l.length<=65536:=by
 have a:=C4b (A3E h.2.1).2.2;have b:=h.2.2.1;rw [B1o hl] at b;have:=h.1.2.1;omega
theorem C1F {x:D2} {t:Int} (h:A03 x.Ab x.W x.K x.Cap x.Now) (h1:x.Now<=t) (h2:t<=16777216) (hl:x.Ab.length<=1048576):
  ∃B,A6g x t=some (⟨x.W,x.K,x.Cap,t,B⟩,0)/\A03 B x.W x.K x.Cap t/\B.length<=1048576:=by
 refine ⟨_, ?_,C0J h h1 h2 hl,Nat.le_trans (A6I _ _) hl⟩;unfold A6g;rw [A72 x (H0 hl),D3c,K9 h];simp only [D3P,D3f];rw [A6X t h.1.2.2.1,B7D,A3t h1 h2];simp only [D3P,D3f];rw [(C28 hl _).1]
 rfl
theorem C1D {x:D2} (h:A03 x.Ab x.W x.K x.Cap x.Now) (hl:x.Ab.length+1<=1048576):
  A87 x=some (⟨0,0,0,0, []⟩,5)\/ ∃B,A87 x=some (⟨x.W,x.K,x.Cap,x.Now,B⟩,0)/\A03 B x.W x.K x.Cap x.Now/\B.length<=1048576:=by
 obtain ⟨t1,t2⟩:=B0t (l:=x.Ab) (by omega)
 unfold A87;rw [A72 x (H0 (by omega)),D3c,K9 h,t1]
 simp only [D3P,D3f,D3c]
 by_cases hc:I3 x.Ab=x.Cap
 ·rw [D36.2 hc];exact .inl rfl
 ·right;rw [D32.2 hc,D3f];have hcap:=h.2.2.1;rw [B1o (by omega)] at hcap
  have hp:=h.1;obtain ⟨R,r1,r2,r3,r4,r5,r6⟩:=C9t h.2.1 hl h.1.2.2.1 (C7X h) (by omega)
  rw [r1];refine ⟨R,rfl,⟨hp,r4,by rw [B1o (by omega)];omega,fun i hi=> ?_⟩,by omega⟩
  exact r6 (fun T=>E0 x.Now x.W T=true) (fun T hT=>((O4 _ _ _).1 hT).2.2.2.2) ((O4 _ _ _).2 ⟨hp.2.2.1,hp.1,hp.2.2.1,by omega,Int.le_refl _⟩) (fun y hy=>by obtain ⟨j,hj,rfl⟩:=R9 hy;exact h.2.2.2 j hj) _ (J0 hi)
theorem C5a {x:D8} {t:Int} (h:B1Q x) (h1:x.Now<=t) (h2:t<=16777216) (hl:x.Ab.length<=1048576):
  ∃B,A8Y x t=some (⟨x.W,x.K,x.Cap,x.Be,t,B⟩,0)/\B1Q ⟨x.W,x.K,x.Cap,x.Be,t,B⟩/\B.length<=1048576:=by
 refine ⟨_, ?_,⟨C0J h.1 h1 h2 hl,h.2⟩,Nat.le_trans (A6I _ _) hl⟩;unfold A8Y;rw [B1m x (H0 hl),D3c,K9 h];simp only [D3P,D3f];rw [A6X t h.1.1.2.2.1,B7D,A3t h1 h2];simp only [D3P,D3f];rw [(C28 hl _).1]
 rfl
theorem C49 {x:D8} (v:Int) (h:B1Q x) (hl:x.Ab.length+1024<=1048576):
  B0z x v=some (⟨0,0,0,0,0, []⟩,4)\/B0z x v=some (⟨0,0,0,0,0, []⟩,5)\/ ∃B,B0z x v=some (⟨x.W,x.K,x.Cap,x.Be,x.Now,B⟩,0)/\B1Q ⟨x.W,x.K,x.Cap,x.Be,x.Now,B⟩/\B.length<=1048576:=by
 obtain ⟨t1,t2⟩:=B0t (l:=x.Ab) (by omega)
 unfold B0z;rw [B1m x (H0 (by omega)),D3c,K9 h,t1]
 simp only [D3P,D3f,D3c];cases hr:(decide (v<0)||decide (v>x.Be)) with
 |true=>exact .inl rfl
 |false=>
  right;rw [D3f];have hr' : ¬v<0/\ ¬v>x.Be:=by
   rw [D3M,D3t,D3t] at hr;exact hr
  have hm:=h.2;have hcap:=h.1.2.2.1;rw [B1o (by omega)] at hcap
  have hp:=h.1.1;have h0:=A7a x.Ab;have w1:A2 (x.Cap-v)=x.Cap-v:=by rw [A7]<;>omega
  rw [w1]
  by_cases hf:I3 x.Ab>x.Cap-v
  ·rw [D3h hf];exact .inl rfl
  ·right;rw [D3j hf,D3f];obtain ⟨n,rfl⟩:=Int.eq_ofNat_of_zero_le (show 0<=v by omega)
   obtain ⟨R,r1,r2,r3,r4,r5,r6⟩:=C71 (n:=n) h.1.2.1 (by omega) hp.2.2.1 (C7X h.1) (by omega) (by omega)
   rw [r1];refine ⟨R,rfl,⟨⟨hp,r4, ?_,fun i hi=> ?_⟩,hm⟩,by omega⟩
   ·show A2 (I3 R)<=x.Cap;rw [B1o (by omega)];omega
   ·exact r6 (fun T=>E0 x.Now x.W T=true) (fun T hT=>((O4 _ _ _).1 hT).2.2.2.2) ((O4 _ _ _).2 ⟨hp.2.2.1,hp.1,hp.2.2.1,by omega,Int.le_refl _⟩) (fun y hy=>by obtain ⟨j,hj,rfl⟩:=R9 hy;exact h.1.2.2.2 j hj) _ (J0 hi)
end Go.Win
namespace Go.Win
open Go.Vc Go.Dec
def Fit (n lo hi s q:Int):Prop:=n*lo<=s/\s<=n*hi/\0<=q/\q<=n*16777216/\s*s<=n*q
theorem B9d (x:Int):0<=x*x:=by
 rcases Int.le_total 0 x with h|h
 ·exact Int.mul_nonneg h h
 ·have:=Int.mul_nonneg (a:= -x) (b:= -x) (by omega) (by omega)
  rw [Int.neg_mul_neg] at this;exact this
theorem D1D {n1 q1 s1 n2 q2 s2:Int} (hn1:0<=n1) (hn2:0<=n2) (hq1:0<=q1) (hq2:0<=q2) (h1:s1*s1<=n1*q1) (h2:s2*s2<=n2*q2):(s1+s2)*(s1+s2)<=(n1+n2)*(q1+q2):=by
 have a0:0<=n1*q2:=Int.mul_nonneg hn1 hq2;have b0:0<=n2*q1:=Int.mul_nonneg hn2 hq1;have p:(s1*s2)*(s1*s2)<=(n1*q2)*(n2*q1):=by
  have e1:(s1*s2)*(s1*s2)=(s1*s1)*(s2*s2):=by grind
  have e2:(n1*q2)*(n2*q1)=(n1*q1)*(n2*q2):=by grind
  rw [e1,e2];exact Int.mul_le_mul h1 h2 (B9d s2) (Int.mul_nonneg hn1 hq1)
 have key: ∀P A B:Int,0<=A->0<=B->P*P<=A*B->2*P<=A+B:=by
  intro P A B hA hB hP;apply D37;intro hc;have h3:(A+B+1)*(A+B+1)<=(2*P)*(2*P):=Int.mul_le_mul (by omega) (by omega) (by omega) (by omega)
  have h4:(2*P)*(2*P)=4*(P*P):=by grind
  have h5:(A+B+1)*(A+B+1)=(A-B)*(A-B)+4*(A*B)+2*(A+B)+1:=by grind
  have h6:=B9d (A-B);omega
 have k:=key _ _ _ a0 b0 p;have e:(s1+s2)*(s1+s2)=s1*s1+s2*s2+2*(s1*s2):=by grind
 have e' :(n1+n2)*(q1+q2)=n1*q1+n2*q2+(n1*q2+n2*q1):=by grind
 omega
theorem B0S {n lo hi lo' hi' s q:Int} (hn:0<=n) (h:Fit n lo hi s q) (h1:lo' <=lo) (h2:hi<=hi'):Fit n lo' hi' s q:=by
 have a:=Int.mul_le_mul_of_nonneg_left h1 hn;have b:=Int.mul_le_mul_of_nonneg_left h2 hn;unfold Fit at*
 omega
theorem C5B {n1 n2 lo hi s1 q1 s2 q2:Int} (hn1:0<=n1) (hn2:0<=n2) (h1:Fit n1 lo hi s1 q1) (h2:Fit n2 lo hi s2 q2):Fit (n1+n2) lo hi (s1+s2) (q1+q2):=by
 obtain ⟨a1,a2,a3,a4,a5⟩:=h1;obtain ⟨b1,b2,b3,b4,b5⟩:=h2;refine ⟨by rw [Int.add_mul];omega,by rw [Int.add_mul];omega,by omega,by rw [Int.add_mul];omega,D1D hn1 hn2 a3 b3 a5 b5⟩
theorem A9j {v:Int} (h:-4096<=v/\v<=4096):0<=v*v/\v*v<=16777216:=by
 refine ⟨B9d v, ?_⟩;have:=Int.mul_nonneg (a:=4096-v) (b:=4096+v) (by omega) (by omega)
 have e:(4096-v)*(4096+v)=16777216-v*v:=by grind
 omega
theorem C5C {v:Int} (h:-4096<=v/\v<=4096):Fit 1 v v v (v*v):=by
 have:=A9j h;unfold Fit;omega
structure MkP (seq cap now lo:Int) (m:A4):Prop where
 sq1:1<=m.Bg
 sq2:m.Bg<=seq
 n:m.N=seq-m.Bg+1
 cap:m.N<=cap
 t0:0<=m.T
 t1:m.T<=now
 lo_:lo<=m.Bf
 mm:m.Bf<=m.Be
 hi:m.Be<=4096
 fit:Fit m.N m.Bf m.Be m.S m.Q
structure MkR (o m:A4):Prop where
 sq:o.Bg<m.Bg
 t:o.T<=m.T
 mn:o.Bf<=m.Bf
 mx:m.Be<=o.Be
 fit:Fit (o.N-m.N) o.Bf o.Be (o.S-m.S) (o.Q-m.Q)
def D0b (seq:Int) (m:A4):Prop:=m.Bg=seq/\m.Bf=m.S/\m.Be=m.S/\m.Q=m.S*m.S
structure MkL (seq cap now w lo:Int) (l:List A4):Prop where
 sq:0<=seq/\seq<=1099511627776
 each: ∀m∈l,MkP seq cap now lo m
 row:l.Pairwise MkR
 live: ∀i,i<l.length->(0<i\/l.length=1)->E0 now w (el l i).T=true
 last:0<l.length->D0b seq (el l (l.length-1))
theorem MkP.rng {seq cap now lo:Int} {m:A4} (hc:cap<=65536) (hlo:-4096<=lo) (h:MkP seq cap now lo m):(1<=m.N/\m.N<=65536)/\(-4096<=m.Bf/\m.Bf<=4096)/\(-4096<=m.Be/\m.Be<=4096)/\(-268435456<=m.S/\m.S<=268435456)/\(0<=m.Q/\m.Q<=1099511627776):=by
 have h1:=h.sq1;have h2:=h.sq2;have h3:=h.n;have h4:=h.cap;have h5:=h.lo_;have h6:=h.mm;have h7:=h.hi;obtain ⟨f1,f2,f3,f4,f5⟩:=h.fit;have a:=Int.mul_le_mul_of_nonneg_left (show (-4096:Int)<=m.Bf by omega) (show 0<=m.N by omega)
 have b:=Int.mul_le_mul_of_nonneg_left (show m.Be<=(4096:Int) by omega) (show 0<=m.N by omega)
 omega
theorem MkR.trans {seq cap now lo:Int} {a b c:A4} (ha:MkP seq cap now lo a) (hb:MkP seq cap now lo b) (hc:MkP seq cap now lo c) (h1:MkR a b) (h2:MkR b c):MkR a c:=by
 have n1:=ha.n;have n2:=hb.n;have n3:=hc.n;have s1:=h1.sq;have s2:=h2.sq;have t1:=h1.t;have t2:=h2.t;have m1:=h1.mn;have m2:=h2.mn;have x1:=h1.mx;have x2:=h2.mx;have f:=C5B (by omega) (by omega) h1.fit (B0S (by omega) h2.fit m1 x1)
 have e1:a.N-b.N+(b.N-c.N)=a.N-c.N:=by omega
 have e2:a.S-b.S+(b.S-c.S)=a.S-c.S:=by omega
 have e3:a.Q-b.Q+(b.Q-c.Q)=a.Q-c.Q:=by omega
 rw [e1,e2,e3] at f;exact ⟨by omega,by omega,by omega,by omega,f⟩
theorem B5d {l:List A4} {seq cap now w lo:Int} (hc:cap<=65536) (hlo:-4096<=lo) (h:A1Y l seq cap now w lo):MkL seq cap now w lo l:=by
 obtain ⟨h1,h2,h3⟩:=h;have each: ∀i,i<l.length->MkP seq cap now lo (el l i):=fun i hi=>by
  have a:=(h2 i hi).1;have b:=(h2 i hi).2.1;unfold mk1 at a;unfold mk2 at b;have f:=(B0T (n:=(el l i).N) ⟨by omega,by omega⟩ ⟨by omega,by omega⟩ ⟨by omega,by omega⟩).1 b.2.2.2
  exact ⟨a.1.1,a.1.2,a.2.1,a.2.2.1,a.2.2.2.1,a.2.2.2.2,b.1,b.2.1,b.2.2.1,f⟩
 have adj: ∀i,i+1<l.length->MkR (el l i) (el l (i+1)):=fun i hi=>by
  have p:=each i (by omega)
  have q:=each (i+1) hi;have c:=(h2 (i+1) hi).2.2.2 (by omega)
  rw [D3T] at c;unfold mk4 at c;obtain ⟨c1,c2,c3,c4,c5⟩:=c;have r1:=p.rng hc hlo;have r2:=q.rng hc hlo;have n1:=p.n;have n2:=q.n;rw [A7 (n:=(el l i).N-(el l (i+1)).N) (by omega) (by omega),A7 (n:=(el l i).S-(el l (i+1)).S) (by omega) (by omega),A7 (n:=(el l i).Q-(el l (i+1)).Q) (by omega) (by omega)] at c5
  exact ⟨c1,c2,c3,c4,(B0T ⟨by omega,by omega⟩ r1.2.1 r1.2.2.1).1 c5⟩
 have all: ∀d i,i+d+1<l.length->MkR (el l i) (el l (i+d+1)):=by
  intro d
  induction d with
  |zero=>intro i hi;exact adj i hi
  |succ d ih=>
   intro i hi;exact MkR.trans (each i (by omega)) (each (i+d+1) (by omega)) (each _ hi) (ih i (by omega)) (adj (i+d+1) hi)
 refine ⟨h1,fun m hm=> ?_, ?_,fun i hi hh=>(h2 i hi).2.2.1 hh,fun h0=> ?_⟩
 ·obtain ⟨i,hi,rfl⟩:=R9 hm;exact each i hi
 ·rw [List.pairwise_iff_getElem];intro i j hi hj hij;have:=all (j-i-1) i (by omega)
  rw [show i+(j-i-1)+1=j by omega,K7 hi,K7 hj] at this
  exact this
 ·have c:=h3 h0;unfold A4z at c;have r:=(each (l.length-1) (by omega)).rng hc hlo
  have q1:(el l (l.length-1)).S*(el l (l.length-1)).S=(el l (l.length-1)).Bf*(el l (l.length-1)).Bf:=by rw [c.2.1]
  have q2:=A9j r.2.1;rw [A7 (by omega) (by omega)] at c
  exact c
theorem C3G {l:List A4} {seq cap now w lo:Int} (hc:cap<=65536) (hlo:-4096<=lo) (h:MkL seq cap now w lo l):A1Y l seq cap now w lo:=by
 refine ⟨h.sq,fun i hi=> ?_,fun h0=> ?_⟩
 ·have p:=h.each _ (J0 hi);have r:=p.rng hc hlo;refine ⟨⟨⟨p.sq1,p.sq2⟩,p.n,p.cap,p.t0,p.t1⟩,⟨p.lo_,p.mm,p.hi,(B0T ⟨by omega,by omega⟩ r.2.1 r.2.2.1).2 p.fit⟩,h.live i hi,fun h0=> ?_⟩
  have q:=h.each _ (J0 (show i-1<l.length by omega))
  have s:=q.rng hc hlo;have m:=List.pairwise_iff_getElem.1 h.row (i-1) i (by omega) hi (by omega)
  rw [<-K7,<-K7] at m;have n1:=p.n;have n2:=q.n;have sq:=m.sq;refine ⟨m.sq,m.t,m.mn,m.mx, ?_⟩;rw [A7 (n:=(el l (i-1)).N-(el l i).N) (by omega) (by omega),A7 (n:=(el l (i-1)).S-(el l i).S) (by omega) (by omega),A7 (n:=(el l (i-1)).Q-(el l i).Q) (by omega) (by omega)]
  exact (B0T ⟨by omega,by omega⟩ s.2.1 s.2.2.1).2 m.fit
 ·have c:=h.last h0;unfold D0b at c;have r:=(h.each _ (J0 (show l.length-1<l.length by omega))).rng hc hlo
  have q1:(el l (l.length-1)).S*(el l (l.length-1)).S=(el l (l.length-1)).Bf*(el l (l.length-1)).Bf:=by rw [c.2.1]
  have q2:=A9j r.2.1;unfold A4z;rw [A7 (n:=(el l (l.length-1)).S*(el l (l.length-1)).S) (by omega) (by omega)]
  exact c
theorem B9P {l:List A4} {seq cap now w lo:Int} (h:MkL seq cap now w lo l):(0<l.length->(l.length:Int)<=(el l 0).N)/\(0<=cap->(l.length:Int)<=cap):=by
 have key: ∀i,i<l.length->(el l 0).Bg+i<=(el l i).Bg:=by
  intro i
  induction i with
  |zero=>intro _;omega
  |succ i ih=>
   intro hi;have a:=ih (by omega)
   have m:=List.pairwise_iff_getElem.1 h.row i (i+1) (by omega) hi (by omega)
   rw [<-K7,<-K7] at m;have:=m.sq
   push_cast
   omega
 have k0:0<l.length->(l.length:Int)<=(el l 0).N:=fun h0=>by
  have a:=key (l.length-1) (by omega)
  have p:=h.each _ (J0 h0);have q:=h.each _ (J0 (show l.length-1<l.length by omega))
  have n:=p.n;have s:=q.sq2;omega
 refine ⟨k0,fun hc=> ?_⟩;rcases Nat.eq_zero_or_pos l.length with g|g
 ·omega
 ·have a:=k0 g;have b:=(h.each _ (J0 g)).cap;omega
theorem A67 {seq cap now lo v:Int} {m:A4} (hc:cap<=65536) (hlo:-4096<=lo) (hv:-4096<=v/\v<=4096) (h:MkP seq cap now lo m):A2E v m=⟨m.Bg,m.T,m.N+1,m.S+v,m.Q+v*v,L5 m.Bf v,P8 m.Be v⟩:=by
 have r:=h.rng hc hlo;have q:=A9j hv;unfold A2E;rw [A7 (n:=m.N+1) (by omega) (by omega),A7 (n:=m.S+v) (by omega) (by omega),A7 (n:=v*v) (by omega) (by omega),A7 (n:=m.Q+v*v) (by omega) (by omega)]
theorem V3 (a b:Int):L5 a b=if b<a then b else a:=rfl
theorem D2B {seq cap now lo v:Int} {m:A4} (hc:cap<=65536) (hlo:-4096<=lo) (hv:lo<=v/\v<=4096) (h:MkP seq cap now lo m) (hn:m.N+1<=cap):MkP (seq+1) cap now lo (A2E v m):=by
 rw [A67 hc hlo ⟨by omega,hv.2⟩ h]
 have r:=h.rng hc hlo;have h1:=h.sq1;have h2:=h.sq2;have h3:=h.n;have h5:=h.lo_;have h6:=h.mm;refine ⟨h1,by show m.Bg<=seq+1;omega,by show m.N+1=seq+1-m.Bg+1;omega,hn,h.t0,h.t1, ?_, ?_, ?_, ?_⟩
 ·show lo<=L5 m.Bf v;rw [V3];split<;>omega
 ·show L5 m.Bf v<=P8 m.Be v;rw [V3,V2];split<;>split<;>omega
 ·show P8 m.Be v<=4096;rw [V2];split<;>omega
 ·show Fit (m.N+1) (L5 m.Bf v) (P8 m.Be v) (m.S+v) (m.Q+v*v);refine C5B (by omega) (by decide) (B0S (by omega) h.fit ?_ ?_) (B0S (by decide) (C5C ⟨by omega,hv.2⟩) ?_ ?_)
  ·rw [V3];split<;>omega
  ·rw [V2];split<;>omega
  ·rw [V3];split<;>omega
  ·rw [V2];split<;>omega
theorem D2C {seq cap now lo v:Int} {o m:A4} (hc:cap<=65536) (hlo:-4096<=lo) (hv:-4096<=v/\v<=4096) (ho:MkP seq cap now lo o) (hm:MkP seq cap now lo m) (h:MkR o m):MkR (A2E v o) (A2E v m):=by
 rw [A67 hc hlo hv ho,A67 hc hlo hv hm];have m1:=h.mn;have x1:=h.mx;have s:=h.sq;have n1:=ho.n;have n2:=hm.n;refine ⟨s,h.t, ?_, ?_, ?_⟩
 ·show L5 o.Bf v<=L5 m.Bf v;rw [V3,V3];split<;>split<;>omega
 ·show P8 m.Be v<=P8 o.Be v;rw [V2,V2];split<;>split<;>omega
 ·show Fit (o.N+1-(m.N+1)) (L5 o.Bf v) (P8 o.Be v) (o.S+v-(m.S+v)) (o.Q+v*v-(m.Q+v*v));have e1:o.N+1-(m.N+1)=o.N-m.N:=by omega
  have e2:o.S+v-(m.S+v)=o.S-m.S:=by omega
  have e3:o.Q+v*v-(m.Q+v*v)=o.Q-m.Q:=by omega
  rw [e1,e2,e3];refine B0S (by omega) h.fit ?_ ?_
  ·rw [V3];split<;>omega
  ·rw [V2];split<;>omega
theorem D0R {seq cap now lo v:Int} {o:A4} (hc:cap<=65536) (hlo:-4096<=lo) (hv:-4096<=v/\v<=4096) (ho:MkP seq cap now lo o):MkR (A2E v o) (B5g (seq+1) now v):=by
 rw [A67 hc hlo hv ho];have q:=A9j hv;have r:=ho.rng hc hlo;have s:=ho.sq2;have t:=ho.t1;unfold B5g;rw [A7 (n:=v*v) (by omega) (by omega)]
 refine ⟨by show o.Bg<seq+1;omega,t, ?_, ?_, ?_⟩
 ·show L5 o.Bf v<=v;rw [V3];split<;>omega
 ·show v<=P8 o.Be v;rw [V2];split<;>omega
 ·show Fit (o.N+1-1) (L5 o.Bf v) (P8 o.Be v) (o.S+v-v) (o.Q+v*v-v*v);have e1:o.N+1-1=o.N:=by omega
  have e2:o.S+v-v=o.S:=by omega
  have e3:o.Q+v*v-v*v=o.Q:=by omega
  rw [e1,e2,e3];refine B0S (by omega) ho.fit ?_ ?_
  ·rw [V3];split<;>omega
  ·rw [V2];split<;>omega
theorem B9s {l:List A4} {seq t v:Int} {i:Nat} (h:i<l.length):el (A7e l seq t v) i=A2E v (el l i):=by
 rw [K7 (by rw [A6A];omega),K7 h]
 unfold A7e;rw [List.getElem_append_left (by rw [D3Z];exact h),List.getElem_map]
theorem B4w (l:List A4) (seq t v:Int):el (A7e l seq t v) l.length=B5g seq t v:=by
 rw [K7 (by rw [A6A];omega)]
 unfold A7e;rw [List.getElem_append_right (by rw [D3Z];exact D3U _)]
 simp
theorem C5m {l:List A4} {seq cap now w lo v:Int} (hc:1<=cap/\cap<=65536) (hlo:-4096<=lo) (hn:0<=now/\now<=16777216) (hw:1<=w/\w<=1048576) (h:MkL seq cap now w lo l) (hs:seq<1099511627776) (h0:0<l.length->(el l 0).N≠cap) (hv:lo<=v/\v<=4096):MkL (seq+1) cap now w lo (A7e l (seq+1) now v):=by
 have hv' : -4096<=v/\v<=4096:=⟨by omega,hv.2⟩
 have q:=A9j hv';have sq:=h.sq;have small: ∀m∈l,m.N+1<=cap:=fun m hm=>by
  obtain ⟨i,hi,rfl⟩:=R9 hm;have p0:=h.each _ (J0 (show 0<l.length by omega))
  have p:=h.each _ (J0 hi);have a:=h0 (by omega)
  have b:=p0.cap;have n0:=p0.n;have n:=p.n;rcases Nat.eq_zero_or_pos i with e|e
  ·subst e;omega
  ·have m:=List.pairwise_iff_getElem.1 h.row 0 i (by omega) hi e
   rw [<-K7,<-K7] at m;have:=m.sq;omega
 have hnew:MkP (seq+1) cap now lo (B5g (seq+1) now v):=by
  unfold B5g;rw [A7 (n:=v*v) (by omega) (by omega)]
  exact ⟨by show 1<=seq+1;omega,Int.le_refl _,by show (1:Int)=seq+1-(seq+1)+1;omega,hc.1,hn.1,Int.le_refl _,hv.1,Int.le_refl _,hv.2,C5C hv'⟩
 refine ⟨by omega,fun m hm=> ?_, ?_,fun i hi hh=> ?_,fun _=> ?_⟩
 ·unfold A7e at hm;rcases D3Y.1 hm with g|g
  ·obtain ⟨z,hz,rfl⟩:=List.mem_map.1 g;exact D2B hc.2 hlo hv (h.each z hz) (small z hz)
  ·rw [List.mem_singleton.1 g];exact hnew
 ·unfold A7e;refine List.pairwise_append.2 ⟨List.pairwise_map.2 (h.row.imp_of_mem fun ha hb hr=>D2C hc.2 hlo hv' (h.each _ ha) (h.each _ hb) hr),by simp,fun x hx y hy=> ?_⟩
  obtain ⟨z,hz,rfl⟩:=List.mem_map.1 hx;rw [List.mem_singleton.1 hy];exact D0R hc.2 hlo hv' (h.each z hz)
 ·rw [A6A] at hi hh;rcases Nat.lt_or_ge i l.length with g|g
  ·rw [B9s g];exact h.live i g (.inl (by omega))
  ·have:i=l.length:=by omega
   subst this;rw [B4w];exact (O4 _ _ _).2 ⟨hn,hw,hn,by show now-w<now;omega,Int.le_refl _⟩
 ·rw [A6A,D3T,B4w];unfold B5g;rw [A7 (n:=v*v) (by omega) (by omega)]
  exact ⟨rfl,rfl,rfl,rfl⟩
section
variable {β:Type}
def Tri (near:β->β->Bool):List β->Prop
 |x::y::l=>(∀z∈l,near x z=false)/\Tri near (y::l)
 |_=>True
def Chn (P:β->β->Prop):List β->Prop
 |x::y::l=>P x y/\Chn P (y::l)
 |_=>True
theorem C2T {P:β->β->Prop} {x:β} {l:List β} (h:Chn P (x::l)):Chn P l:=by
 cases l with
 |nil=>trivial
 |cons y l=>exact h.2
theorem C2S {P:β->β->Prop}: ∀(n:Nat) {l:List β},Chn P l->Chn P (l.drop n)
 |0,l,h=>h
 |n+1, [],h=>h
 |n+1,x::l,h=>C2S n (C2T h)
theorem C5v [Inhabited β] {P:β->β->Prop}: ∀ {l:List β},Chn P l-> ∀i,i+1<l.length->P (el l i) (el l (i+1))
 | [],_,i,hi=>by simp at hi
 | [x],_,i,hi=>by simp at hi
 |x::y::l,h,0,_=>h.1
 |x::y::l,h,i+1,hi=>C5v h.2 i (by simp only [D3v] at hi⊢;omega)
theorem C7G [Inhabited β] {P:β->β->Prop}: ∀ {l:List β},(∀i,i+1<l.length->P (el l i) (el l (i+1)))->Chn P l
 | [],_=>trivial
 | [x],_=>trivial
 |x::y::l,h=>⟨h 0 (by simp),C7G fun i hi=>h (i+1) (by simp only [D3v] at hi⊢;omega)⟩
theorem C0g [Inhabited β] {near:β->β->Bool}: ∀ {l:List β},Tri near l-> ∀i,i+2<l.length->near (el l i) (el l (i+2))=false
 | [],_,i,hi=>by simp at hi
 | [x],_,i,hi=>by simp at hi
 | [x,y],_,i,hi=>by simp only [D3v,D3I] at hi;omega
 |x::y::z::l,h,0,_=>h.1 z (by simp)
 |x::y::z::l,h,i+1,hi=>C0g h.2 i (by simp only [D3v] at hi⊢;omega)
theorem C3e {p:β->Bool}: ∀ {l:List β} {m:Nat},fnd p l=some m->(∃y t,l.drop m=y::t/\p y=true/\ ∀z∈t,p z=false)
 | [],m,h=>by cases h
 |x::l,m,h=>by
  unfold fnd at h;cases hl:fnd p l with
  |some k=>
   rw [hl] at h;simp only [D34] at h;subst h;show∃y t,l.drop k=y::t/\_;exact C3e hl
  |none=>
   rw [hl] at h
   by_cases hp:p x=true
   ·rw [if_pos hp] at h;simp only [D34] at h;subst h;refine ⟨x,l,rfl,hp, ?_⟩;have none_all: ∀ {l:List β},fnd p l=none-> ∀z∈l,p z=false:=by
     intro l
     induction l with
     |nil=>intro _ z hz;cases hz
     |cons y l ih=>
      intro hn z hz;unfold fnd at hn;cases hq:fnd p l with
      |some k=>rw [hq] at hn;cases hn
      |none=>
       rw [hq] at hn
       by_cases hy:p y=true
       ·rw [if_pos hy] at hn;cases hn
       ·rcases List.mem_cons.1 hz with e|e
        ·rw [e];exact D3s.2 hy
        ·exact ih hq z e
    exact none_all hl
   ·rw [if_neg hp] at h;cases h
theorem C9j {p:β->Bool} {l:List β}:fnd p l=none-> ∀z∈l,p z=false:=by
 induction l with
 |nil=>intro _ z hz;cases hz
 |cons y l ih=>
  intro hn z hz;unfold fnd at hn;cases hq:fnd p l with
  |some k=>rw [hq] at hn;cases hn
  |none=>
   rw [hq] at hn
   by_cases hy:p y=true
   ·rw [if_pos hy] at hn;cases hn
   ·rcases List.mem_cons.1 hz with e|e
    ·rw [e];exact D3s.2 hy
    ·exact ih hq z e
theorem C9G (near:β->β->Bool) (x:β) {l:List β} (h0:l≠ []): ∃y t,l.drop (A8L (near x) l)=y::t/\(∀z∈t,near x z=false)/\(near x y=true\/A8L (near x) l=0)/\t.length<l.length:=by
 unfold A8L;cases hf:fnd (near x) l with
 |some m=>
  obtain ⟨y,t,h1,h2,h3⟩:=C3e hf;refine ⟨y,t,h1,h3, .inl h2, ?_⟩;have e:=congrArg List.length h1;simp only [D3K,D3v] at e;omega
 |none=>
  cases l with
  |nil=>exact absurd rfl h0
  |cons y t=>exact ⟨y,t,rfl,fun z hz=>C9j hf z (by simp [hz]), .inr rfl,by simp⟩
theorem C02 (near:β->β->Bool) (A:β->β->Prop): ∀(n:Nat) (l:List β),l.length<=n->Chn A l->
  (S0 near l).Sublist l/\(S0 near l).head? =l.head? /\(S0 near l).getLast? =l.getLast? /\Tri near (S0 near l)/\Chn (fun u w=>near u w=true\/A u w) (S0 near l)/\((S0 near l).length=1->l.length=1):=by
 intro n
 induction n with
 |zero=>
  intro l h _;have:l= []:=D3X (by omega)
  subst this;rw [S0];exact ⟨List.Sublist.refl _,rfl,rfl,trivial,trivial,fun h=>h⟩
 |succ n ih=>
  intro l h hA;cases l with
  |nil=>
   rw [S0];exact ⟨List.Sublist.refl _,rfl,rfl,trivial,trivial,fun h=>h⟩
  |cons x l=>
   rw [S0]
   by_cases h0:l= []
   ·subst h0;have e:S0 near (([]:List β).drop (A8L (near x) []))= []:=by rw [List.drop_nil,S0]
    rw [e];exact ⟨List.Sublist.refl _,rfl,rfl,trivial,trivial,fun h=>h⟩
   ·obtain ⟨y,t,h1,h2,h3,h4⟩:=C9G near x h0;have hAt:=C2S (A8L (near x) l) (C2T hA);rw [h1] at hAt;obtain ⟨g1,g2,g3,g4,g5,g6⟩:=ih (y::t) (by simp only [D3v] at h⊢;omega) hAt
    rw [h1];have hsub:(y::t).Sublist l:=by rw [<-h1];exact List.drop_sublist _ _
    have hp:S0 near (y::t)=y::S0 near (t.drop (A8L (near y) t)):=by rw [S0]
    have hR: ∀z∈S0 near (t.drop (A8L (near y) t)),z∈t:=by
     have g1' :=g1;rw [hp] at g1';intro z hz;have:=(List.cons_sublist_cons.1 g1').subset hz;exact this
    refine ⟨List.cons_sublist_cons.2 (g1.trans hsub),rfl, ?_, ?_, ?_,fun hl=> ?_⟩
    ·have e1:(x::S0 near (y::t)).getLast? =(S0 near (y::t)).getLast? :=by rw [hp];rfl
     have e2:(x::l).getLast? =l.getLast? :=by
      cases l with
      |nil=>exact absurd rfl h0
      |cons a b=>rfl
     have e3:(y::t).getLast? =l.getLast? :=by
      rw [<-h1,List.getLast?_drop,if_neg];have e:=congrArg List.length h1;simp only [D3K,D3v] at e;omega
     rw [e1,e2,g3,e3]
    ·rw [hp] at g4⊢;exact ⟨fun z hz=>h2 z (hR z hz),g4⟩
    ·rw [hp] at g5⊢;refine ⟨?_,g5⟩;rcases h3 with h3|h3
     ·exact .inl h3
     ·right;rw [h3,List.drop_zero] at h1;rw [h1] at hA;exact hA.1
    ·exfalso;rw [hp] at hl;simp at hl
end
theorem C6u {β:Type} [Inhabited β] {l m:List β} (h:l.getLast? =m.getLast?) (hl:0<l.length) (hm:0<m.length):el l (l.length-1)=el m (m.length-1):=by
 rw [List.getLast?_eq_getElem?,List.getLast?_eq_getElem?,A1q (by omega),A1q (by omega)] at h
 simpa using h
theorem C01 {l R:List A4} {seq cap now w lo:Int} (h:MkL seq cap now w lo l) (hs:R.Sublist l) (hh:R.head? =l.head?) (hl:R.getLast? =l.getLast?) (h1:R.length=1->l.length=1):MkL seq cap now w lo R:=by
 refine ⟨h.sq,fun m hm=>h.each m (hs.subset hm),h.row.sublist hs,fun i hi hx=> ?_,fun h0=> ?_⟩
 ·cases R with
  |nil=>simp at hi
  |cons x R=>
   cases l with
   |nil=>cases hh
   |cons y l=>
    simp only [List.head?_cons,D34] at hh;subst hh;rcases Nat.eq_zero_or_pos i with e|e
    ·subst e;have g:(x::R).length=1:=by omega
     exact h.live 0 (by simp) (.inr (h1 g))
    ·obtain ⟨k,rfl⟩: ∃k,i=k+1:=⟨i-1,by omega⟩
     have hm:el (x::R) (k+1)∈R:=by
      show el R k∈R;exact J0 (by simp only [D3v] at hi;omega)
     obtain ⟨j,hj,ej⟩:=R9 ((List.cons_sublist_cons.1 hs).subset hm);rw [<-ej];exact h.live (j+1) (by simp only [D3v];omega) (.inl (by omega))
 ·have hl0:0<l.length:=by
   have:=hs.length_le;omega
  rw [C6u hl h0 hl0];exact h.last hl0
theorem B51 {H:List A4->Prop} (hH:∀x l,H (x::l)->H l) (n w:Int): ∀ {l:List A4},H l->H (A1I n w l)
 | [],h=>h
 | [x],h=>by
  unfold A1I;split
  ·exact h
  ·exact hH x [] h
 |x::y::l,h=>by
  unfold A1I;split
  ·exact h
  ·exact B51 hH n w (hH x _ h)
theorem B7A {seq cap now w lo t:Int} (h1:now<=t) (h2:t<=16777216): ∀ {l:List A4},MkL seq cap now w lo l->MkL seq cap t w lo (A1I t w l)
 | [],h=>⟨h.sq,fun m hm=>(by cases hm),List.Pairwise.nil,fun i hi=>(by simp [A1I] at hi),fun h0=>(by simp [A1I] at h0)⟩
 | [x],h=>by
  have up: ∀m∈ [x],MkP seq cap t lo m:=fun m hm=>by
   have p:=h.each m hm;have:=p.t1;exact { p with t1:=by omega}
  unfold A1I;split
  ·rename_i hx;refine ⟨h.sq,up,h.row,fun i hi _=> ?_,h.last⟩;have:i=0:=by simp at hi;omega
   subst this;exact hx
  ·exact ⟨h.sq,fun m hm=>(by cases hm),List.Pairwise.nil,fun i hi=>(by simp at hi),fun h0=>(by simp at h0)⟩
 |x::y::l,h=>by
  unfold A1I;split
  ·rename_i hy;refine ⟨h.sq,fun m hm=> ?_,h.row,fun i hi hx=> ?_,h.last⟩
   ·have p:=h.each m hm;have:=p.t1;exact { p with t1:=by omega}
   ·have i0:0<i:=by
     rcases hx with g|g
     ·exact g
     ·simp at g
    have hm:=h.each _ (J0 hi);have hy' :=(O4 _ _ _).1 hy;have ht:y.T<=(el (x::y::l) i).T:=by
     rcases Nat.eq_or_lt_of_le i0 with e|e
     ·rw [<-e];exact Int.le_refl _
     ·have m:=List.pairwise_iff_getElem.1 h.row 1 i (by simp) hi e
      rw [<-K7,<-K7] at m;exact m.t
    have t1:=hm.t1;have t0:=hm.t0;exact (O4 _ _ _).2 ⟨hy'.1,hy'.2.1,⟨t0,by omega⟩,by omega,by omega⟩
  ·refine B7A h1 h2 ⟨h.sq,fun m hm=>h.each m (List.mem_cons_of_mem x hm),(List.pairwise_cons.1 h.row).2,fun i hi hx=> ?_,fun h0=> ?_⟩
   ·exact h.live (i+1) (by simp only [D3v] at hi⊢;omega) (.inl (by omega))
   ·exact h.last (by simp)
end Go.Win
namespace Go.Win
open Go.Vc Go.Dec
def ofA (agg:Int) (m:A4):Int:=if agg=1 then m.N else if agg=2 then m.S else if agg=3 then m.Q else m.Be-m.Bf
theorem B2U {m:A4} {agg:Int} (ha:1<=agg/\agg<=4) (h1:-4096<=m.Bf/\m.Bf<=4096) (h2:-4096<=m.Be/\m.Be<=4096):A2A m agg=ofA agg m:=by
 have e2:A9g m.Be m.Bf=(m.Be-m.Bf,true):=by
  unfold A9g;have:((decide (m.Bf<0)&&decide (m.Be>A2 (9223372036854775807+m.Bf)))||(decide (m.Bf>0)&&decide (m.Be<A2 (-9223372036854775808+m.Bf))))=false:=by
   by_cases g1:m.Bf<0
   ·rw [A7 (n:=9223372036854775807+m.Bf) (by omega) (by omega)]
    simp;omega
   ·by_cases g2:m.Bf>0
    ·rw [A7 (n:= -9223372036854775808+m.Bf) (by omega) (by omega)]
     simp;omega
    ·simp;omega
  rw [this,D3f,A7]<;>omega
 rw [D0l h1 h2];unfold A0Z ofA;rw [e2];have:agg=1\/agg=2\/agg=3\/agg=4:=by omega
 rcases this with rfl|rfl|rfl|rfl<;>rfl
theorem C3r:F5 2=0/\F5 3=0:=⟨rfl,rfl⟩
theorem D13 (m:A4):ofA 1 m=m.N:=rfl
theorem C9H (m:A4):ofA 2 m=m.S:=rfl
theorem D14 (m:A4):ofA 3 m=m.Q:=rfl
theorem D15 (m:A4):ofA 4 m=m.Be-m.Bf:=rfl
theorem B0x {seq cap now agg:Int} {m:A4} (ha:1<=agg/\agg<=4) (hc:cap<=65536) (h:MkP seq cap now (F5 agg) m):0<=ofA agg m/\ofA agg m<=1099511627776:=by
 have r:=h.rng hc (Z7 agg);have mm:=h.mm;have f:=h.fit;unfold Fit at f;have l:=h.lo_;have:agg=1\/agg=2\/agg=3\/agg=4:=by omega
 rcases this with rfl|rfl|rfl|rfl
 ·rw [D13];omega
 ·rw [C9H];rw [C3r.1] at l;have:=Int.mul_nonneg (a:=m.N) (b:=m.Bf) (by omega) l
  omega
 ·rw [D14];omega
 ·rw [D15];omega
theorem C3D {a b:A4} {agg k:Int} (ha:1<=agg/\agg<=4) (hk:1<=k/\k<=64) (oa:A2A a agg=ofA agg a) (ob:A2A b agg=ofA agg b) (h1:0<=ofA agg a/\ofA agg a<=1099511627776) (h2:0<=ofA agg b/\ofA agg b<=1099511627776):
  F7 a b agg k=true↔k*ofA agg a<=(k+1)*ofA agg b:=by
 unfold F7;simp only [oa,ob];have a0:=Int.mul_nonneg (a:=k) (b:=ofA agg a) (by omega) h1.1
 have a1:=Int.mul_le_mul (show k<=64 from hk.2) h1.2 h1.1 (by decide)
 have b0:=Int.mul_nonneg (a:=k+1) (b:=ofA agg b) (by omega) h2.1
 have b1:=Int.mul_le_mul (show k+1<=65 by omega) h2.2 h2.1 (by decide)
 rw [A7 (n:=k+1) (by omega) (by omega),A7 (n:=(k+1)*ofA agg b) (by omega) (by omega),A7 (n:=k*ofA agg a) (by omega) (by omega),D3e]
theorem D1T {seq cap now agg v:Int} {u w:A4} (ha:1<=agg/\agg<=4) (hc:cap<=65536) (hv:F5 agg<=v/\v<=4096) (hu:MkP seq cap now (F5 agg) u) (hw:MkP seq cap now (F5 agg) w) (h:MkR u w):
  ∃d e,ofA agg (A2E v u)=ofA agg u+d/\ofA agg (A2E v w)=ofA agg w+e/\d<=e/\0<=e:=by
 have hge:=Z7 agg;have hv' : -4096<=v/\v<=4096:=⟨by omega,hv.2⟩
 rw [A67 hc hge hv' hu,A67 hc hge hv' hw];have:agg=1\/agg=2\/agg=3\/agg=4:=by omega
 rcases this with rfl|rfl|rfl|rfl
 ·exact ⟨1,1,rfl,rfl,Int.le_refl _,by decide⟩
 ·have l:=hv.1;rw [C3r.1] at l;exact ⟨v,v,rfl,rfl,Int.le_refl _,l⟩
 ·exact ⟨v*v,v*v,rfl,rfl,Int.le_refl _,B9d v⟩
 ·have m1:=h.mn;have x1:=h.mx;refine ⟨P8 u.Be v-u.Be+(u.Bf-L5 u.Bf v),P8 w.Be v-w.Be+(w.Bf-L5 w.Bf v),by show P8 u.Be v-L5 u.Bf v=(u.Be-u.Bf)+_;omega,by show P8 w.Be v-L5 w.Bf v=(w.Be-w.Bf)+_;omega, ?_, ?_⟩
  ·rw [V3,V2,V3,V2];split<;>split<;>split<;>split<;>omega
  ·rw [V3,V2];split<;>split<;>omega
theorem C0N {seq cap now agg v:Int} {m:A4} (ha:1<=agg/\agg<=4) (hc:cap<=65536) (hv:F5 agg<=v/\v<=4096) (hm:MkP seq cap now (F5 agg) m):0<=ofA agg (A2E v m)/\ofA agg (A2E v m)<=2199023255552:=by
 have hge:=Z7 agg;have hv' : -4096<=v/\v<=4096:=⟨by omega,hv.2⟩
 have qv:=A9j hv';have r:=hm.rng hc hge;have o:=B0x ha hc hm;have mm:=hm.mm;rw [A67 hc hge hv' hm];have:agg=1\/agg=2\/agg=3\/agg=4:=by omega
 rcases this with rfl|rfl|rfl|rfl
 ·show 0<=m.N+1/\m.N+1<=_;omega
 ·have l:=hv.1;rw [C3r.1] at l;rw [C9H] at o;show 0<=m.S+v/\m.S+v<=_;omega
 ·show 0<=m.Q+v*v/\m.Q+v*v<=_;omega
 ·show 0<=P8 m.Be v-L5 m.Bf v/\P8 m.Be v-L5 m.Bf v<=_;rw [V3,V2];split<;>split<;>omega
def C16 (agg k:Int) (u w:A4):Prop:=w.Bg-u.Bg>1->F7 u w agg k=true
theorem B9a {x:B9} (h:A7t x):MkL x.Bg x.Cap x.Now x.W (F5 x.Bd) x.Av/\(∀i,i+2<x.Av.length->F7 (el x.Av i) (el x.Av (i+2)) x.Bd x.K=false)/\ ∀i,i+1<x.Av.length->C16 x.Bd x.K (el x.Av i) (el x.Av (i+1)):=by
 obtain ⟨h1,h2,h3,h4⟩:=h;refine ⟨B5d h2.2.1.2 (Z7 _) h3,fun i hi=> ?_,fun i hi hg=> ?_⟩
 ·have:=(h4 (i+2) hi).1 (by omega)
  rw [D3T] at this;exact D3s.2 this
 ·have:=(h4 (i+1) hi).2 (by omega)
  rw [D3T] at this;exact this hg
theorem D0o {x:B9} (ha:1<=x.Bd/\x.Bd<=4) (hp:A3c x.W x.K x.Cap x.Now) (hm:MkL x.Bg x.Cap x.Now x.W (F5 x.Bd) x.Av) (h2:∀i,i+2<x.Av.length->F7 (el x.Av i) (el x.Av (i+2)) x.Bd x.K=false) (h1:∀i,i+1<x.Av.length->C16 x.Bd x.K (el x.Av i) (el x.Av (i+1))):A7t x:=by
 refine ⟨ha,hp,C3G hp.2.1.2 (Z7 _) hm,fun i hi=>⟨fun hg hn=> ?_,fun hg=> ?_⟩⟩
 ·obtain ⟨j,rfl⟩: ∃j,i=j+2:=⟨i-2,by omega⟩
  rw [D3T,h2 j hi] at hn;cases hn
 ·obtain ⟨j,rfl⟩: ∃j,i=j+1:=⟨i-1,by omega⟩
  rw [D3T];exact h1 j hi
theorem C0c {x:B9} {t:Int} (h:A7t x) (h1:x.Now<=t) (h2:t<=16777216) (hl:x.Av.length<=1048576):
  ∃M,A5A x t=some (⟨x.Bd,x.W,x.K,x.Cap,t,x.Bg,M⟩,0)/\A7t ⟨x.Bd,x.W,x.K,x.Cap,t,x.Bg,M⟩/\M.length<=1048576:=by
 obtain ⟨a,b,c⟩:=B9a h;have hp:=h.2.1;refine ⟨A1I t x.W x.Av, ?_,D0o h.1 ⟨hp.1,hp.2.1,⟨by have:=hp.2.2.1;show 0<=t;omega,h2⟩,hp.2.2.2⟩ (B7A h1 h2 a) ?_ ?_,Nat.le_trans (B4R _ _ _) hl⟩
 ·unfold A5A;rw [A7I x (H0 hl),D3c,K9 h];simp only [D3P,D3f];rw [A6X t hp.2.2.1,A3t h1 h2];simp only [D3P,D3f];unfold A3S;rw [(B5c t x.W hl).1]
  rfl
 ·exact B51 (H:=fun l=> ∀i,i+2<l.length->F7 (el l i) (el l (i+2)) x.Bd x.K=false) (fun y l hH i hi=>hH (i+1) (by simp only [D3v];omega)) t x.W b
 ·exact B51 (H:=fun l=> ∀i,i+1<l.length->C16 x.Bd x.K (el l i) (el l (i+1))) (fun y l hH i hi=>hH (i+1) (by simp only [D3v];omega)) t x.W c
theorem D0u {x:B9} {v:Int} (h:A7t x) (hv:F5 x.Bd<=v/\v<=4096):Chn (C16 x.Bd x.K) (A7e x.Av (x.Bg+1) x.Now v):=by
 obtain ⟨a,b,c⟩:=B9a h;have hcap:=h.2.1.2.1.2;have hk:=h.2.1.2.2.2;have hge:=Z7 x.Bd;refine C7G fun i hi hg=> ?_;rw [A6A] at hi;have pi:=a.each _ (J0 (show i<x.Av.length by omega))
 rw [B9s (show i<x.Av.length by omega)] at hg⊢
 rcases Nat.lt_or_ge (i+1) x.Av.length with g|g
 ·have pj:=a.each _ (J0 g);rw [B9s g] at hg⊢;have m:=List.pairwise_iff_getElem.1 a.row i (i+1) (by omega) g (by omega)
  rw [<-K7,<-K7] at m;have hg' :(el x.Av (i+1)).Bg-(el x.Av i).Bg>1:=hg;have n0:=c i g hg';have ri:=pi.rng hcap hge;have rj:=pj.rng hcap hge;have oi:=B0x h.1 hcap pi;have oj:=B0x h.1 hcap pj;rw [C3D h.1 hk (B2U h.1 ri.2.1 ri.2.2.1) (B2U h.1 rj.2.1 rj.2.2.1) oi oj] at n0;obtain ⟨d,e,d1,e1,de,e0⟩:=D1T h.1 hcap hv pi pj m;have hv' : -4096<=v/\v<=4096:=⟨by omega,hv.2⟩
  have qv:=A9j hv';have rng: ∀m:A4,MkP x.Bg x.Cap x.Now (F5 x.Bd) m->(-4096<=(A2E v m).Bf/\(A2E v m).Bf<=4096)/\(-4096<=(A2E v m).Be/\(A2E v m).Be<=4096):=fun m hm=>by
   have r:=hm.rng hcap hge;rw [A67 hcap hge hv' hm];constructor
   ·show-4096<=L5 m.Bf v/\L5 m.Bf v<=4096;rw [V3];split<;>omega
   ·show-4096<=P8 m.Be v/\P8 m.Be v<=4096;rw [V2];split<;>omega
  have ti:=rng _ pi;have tj:=rng _ pj;have si:=C0N h.1 hcap hv pi;have sj:=C0N h.1 hcap hv pj;unfold F7;simp only [B2U h.1 ti.1 ti.2,B2U h.1 tj.1 tj.2];have a0:=Int.mul_nonneg (a:=x.K) (b:=ofA x.Bd (A2E v (el x.Av i))) (by omega) si.1
  have a1:=Int.mul_le_mul (show x.K<=64 from hk.2) si.2 si.1 (by decide)
  have b0:=Int.mul_nonneg (a:=x.K+1) (b:=ofA x.Bd (A2E v (el x.Av (i+1)))) (by omega) sj.1
  have b1:=Int.mul_le_mul (show x.K+1<=65 by omega) sj.2 sj.1 (by decide)
  rw [A7 (n:=x.K+1) (by omega) (by omega),A7 (n:=(x.K+1)*ofA x.Bd (A2E v (el x.Av (i+1)))) (by omega) (by omega),A7 (n:=x.K*ofA x.Bd (A2E v (el x.Av i))) (by omega) (by omega),D3e,d1,e1,Int.mul_add,Int.mul_add]
  have c1:=Int.mul_le_mul_of_nonneg_left de (show 0<=x.K by omega)
  have c2:(x.K+1)*e=x.K*e+e:=by rw [Int.add_mul,Int.one_mul]
  omega
 ·have e:i+1=x.Av.length:=by omega
  rw [e,B4w] at hg;have hl:=a.last (by omega)
  rw [show x.Av.length-1=i by omega] at hl
  have h1:(x.Bg+1)-(el x.Av i).Bg>1:=hg;have h2:(el x.Av i).Bg=x.Bg:=hl.1;omega
theorem C0a {x:B9} (v:Int) (h:A7t x) (hl:x.Av.length+1<=1048576):
  A5z x v=some (⟨0,0,0,0,0,0, []⟩,4)\/A5z x v=some (⟨0,0,0,0,0,0, []⟩,5)\/ ∃M,A5z x v=some (⟨x.Bd,x.W,x.K,x.Cap,x.Now,x.Bg+1,M⟩,0)/\A7t ⟨x.Bd,x.W,x.K,x.Cap,x.Now,x.Bg+1,M⟩/\M.length<=1048576:=by
 obtain ⟨a,b,c⟩:=B9a h;have hp:=h.2.1;have sq:=a.sq;have ex:(⟨x.Bd,x.W,x.K,x.Cap,x.Now,x.Bg,x.Av⟩:B9)=x:=rfl;unfold A5z;rw [ex,A7I x (H0 (by omega)),D3c,K9 h]
 simp only [D3P,D3f];cases hr:(decide (v<F5 x.Bd)||decide (v>4096)) with
 |true=>exact .inl rfl
 |false=>
  right;rw [D3M,D3t,D3t] at hr;rw [D3f];have fin:x.Bg<1099511627776->(0<x.Av.length->(el x.Av 0).N≠x.Cap)-> ∃M,(Option.bind (A4y x.Av (A2 (x.Bg+1)) x.Now v) fun y9_7=>Option.bind (A28 y9_7 x.Bd x.W x.K x.Cap x.Now (A2 (x.Bg+1)) x.Av) fun y9_9=>some ((B9.mk x.Bd x.W x.K x.Cap x.Now (A2 (x.Bg+(1:Int))) y9_9),(0:Int)))=some (⟨x.Bd,x.W,x.K,x.Cap,x.Now,x.Bg+1,M⟩,0)/\A7t ⟨x.Bd,x.W,x.K,x.Cap,x.Now,x.Bg+1,M⟩/\M.length<=1048576:=fun hs h0=>by
   have e1:A2 (x.Bg+1)=x.Bg+1:=by rw [A7]<;>omega
   have hlm:=A6A x.Av (x.Bg+1) x.Now v;rw [e1,C0V (by omega),D3c,C3T (by omega),D3c]
   have hadd:=C5m (v:=v) hp.2.1 (Z7 _) hp.2.2.1 hp.1 a hs h0 (by omega)
   obtain ⟨p1,p2,p3,p4,p5,p6⟩:=C02 (fun a b=>F7 a b x.Bd x.K) (C16 x.Bd x.K) _ (A7e x.Av (x.Bg+1) x.Now v) (D3U _) (D0u h (by omega))
   have hM:=C01 hadd p1 p2 p3 p6;refine ⟨_,rfl,D0o h.1 hp hM (fun i hi=>C0g p4 i hi) (fun i hi hg=> ?_), ?_⟩
   ·rcases C5v p5 i hi with g|g
    ·exact g
    ·exact g hg
   ·have:=p1.length_le;omega
  by_cases h0:x.Av.length=0
  ·rw [D3j (by omega)]
   simp only [E9,D3c,D3H,D3D]
   by_cases hs:x.Bg=1099511627776
   ·rw [D36.2 hs];exact .inl rfl
   ·rw [D32.2 hs,D3f];exact .inr (fin (by omega) (fun g=>by omega))
  ·rw [D3h (by omega),A21 (by omega)]
   simp only [E4,D3c,D3N];cases hf:(((el x.Av 0).N==x.Cap)||(x.Bg==1099511627776)) with
   |true=>exact .inl rfl
   |false=>
    rw [D3M,D32,D32] at hf;rw [D3f];exact .inr (fin (by omega) (fun _=>hf.1))
theorem C0d {x:C2} {t:Int} (h:B02 x) (h1:x.Now<=t) (h2:t<=16777216) (hl:x.Av.length<=1048576):
  ∃M,A5C x t=some (⟨x.W,x.K,x.Cap,t,x.Bg,M⟩,0)/\B02 ⟨x.W,x.K,x.Cap,t,x.Bg,M⟩/\M.length<=1048576:=by
 obtain ⟨hp,hm,hc⟩:=h;have a:=B5d hp.2.1.2 (by decide) hm
 refine ⟨A1I t x.W x.Av, ?_,⟨⟨hp.1,hp.2.1,⟨by have:=hp.2.2.1;show 0<=t;omega,h2⟩,hp.2.2.2⟩,C3G hp.2.1.2 (by decide) (B7A h1 h2 a), ?_⟩,Nat.le_trans (B4R _ _ _) hl⟩
 ·unfold A5C;rw [A7L x (H0 hl),D3c,K9 ⟨hp,hm,hc⟩];simp only [D3P,D3f];rw [A6X t hp.2.2.1,A3t h1 h2];simp only [D3P,D3f];unfold A3S;rw [(B5c t x.W hl).1]
  rfl
 ·have:=B51 (H:=fun l=> ∀i,i+2<l.length-> ¬A1w (el l i) (el l (i+2)) x.K) (fun y l hH i hi=>hH (i+1) (by simp only [D3v];omega)) t x.W (l:=x.Av) (fun i hi=>by
   have:=hc (i+2) (by omega) hi
   rw [D3T] at this;exact this)
  intro i hi hj;obtain ⟨j,rfl⟩: ∃j,i=j+2:=⟨i-2,by omega⟩
  rw [D3T];exact this j hj
theorem C2U {β:Type}: ∀l:List β,Chn (fun _ _=>True) l
 | []=>trivial
 | [_]=>trivial
 |_::y::l=>⟨trivial,C2U (y::l)⟩
theorem C0b {x:C2} {v:Int} (h:B02 x) (hv:-4096<=v/\v<=4096) (hl:x.Av.length+1<=1048576):
  A7J x v=some (⟨0,0,0,0,0, []⟩,5)\/ ∃M,A7J x v=some (⟨x.W,x.K,x.Cap,x.Now,x.Bg+1,M⟩,0)/\B02 ⟨x.W,x.K,x.Cap,x.Now,x.Bg+1,M⟩/\M.length<=1048576:=by
 have h' :=h;obtain ⟨hp,hm,hc⟩:=h;have a:=B5d hp.2.1.2 (by decide) hm
 have sq:=a.sq;have ex:(⟨x.W,x.K,x.Cap,x.Now,x.Bg,x.Av⟩:C2)=x:=rfl;unfold A7J;rw [ex,A7L x (H0 (by omega)),D3c,K9 h']
 simp only [D3P,D3f];rw [D3j (by omega),D3j (by omega)]
 simp only [Bool.or_self,D3f];have fin:x.Bg<1099511627776->(0<x.Av.length->(el x.Av 0).N≠x.Cap)-> ∃M,(Option.bind (A4y x.Av (A2 (x.Bg+1)) x.Now v) fun y9_7=>Option.bind (A29 y9_7 x.W x.K x.Cap x.Now (A2 (x.Bg+1)) x.Av) fun y9_9=>some ((C2.mk x.W x.K x.Cap x.Now (A2 (x.Bg+(1:Int))) y9_9),(0:Int)))=some (⟨x.W,x.K,x.Cap,x.Now,x.Bg+1,M⟩,0)/\B02 ⟨x.W,x.K,x.Cap,x.Now,x.Bg+1,M⟩/\M.length<=1048576:=fun hs h0=>by
  have e1:A2 (x.Bg+1)=x.Bg+1:=by rw [A7]<;>omega
  have hlm:=A6A x.Av (x.Bg+1) x.Now v;rw [e1,C0V (by omega),D3c,C3U (by omega),D3c]
  have hadd:=C5m (v:=v) hp.2.1 (by decide) hp.2.2.1 hp.1 a hs h0 hv
  obtain ⟨p1,p2,p3,p4,p5,p6⟩:=C02 (fun a b=>P4 (A1w a b x.K)) (fun _ _=>True) _ (A7e x.Av (x.Bg+1) x.Now v) (D3U _) (C2U _);have hM:=C01 hadd p1 p2 p3 p6;refine ⟨_,rfl,⟨hp,C3G hp.2.1.2 (by decide) hM,fun i hi hj hcl=> ?_⟩, ?_⟩
  ·obtain ⟨j,rfl⟩: ∃j,i=j+2:=⟨i-2,by omega⟩
   rw [D3T] at hcl;have:=C0g p4 j hj;rw [L7 hcl] at this;cases this
  ·have:=p1.length_le;omega
 by_cases h0:x.Av.length=0
 ·rw [D3j (by omega)]
  simp only [E9,D3c,D3H,D3D]
  by_cases hs:x.Bg=1099511627776
  ·rw [D36.2 hs];exact .inl rfl
  ·rw [D32.2 hs,D3f];exact .inr (fin (by omega) (fun g=>by omega))
 ·rw [D3h (by omega),A21 (by omega)]
  simp only [E4,D3c,D3N];cases hf:(((el x.Av 0).N==x.Cap)||(x.Bg==1099511627776)) with
  |true=>exact .inl rfl
  |false=>
   rw [D3M,D32,D32] at hf;rw [D3f];exact .inr (fin (by omega) (fun _=>hf.1))
end Go.Win
namespace Go.Win
open Go.Vc Go.Dec
theorem C5S {n:Int} (hn:1<=n): ∀k:Nat,1<=n^k
 |0=>by rw [Int.pow_zero];exact Int.le_refl 1
 |k+1=>by
  have:=C5S hn k;have h:=Int.mul_le_mul this hn (by decide) (by omega)
  rw [Int.pow_succ];omega
theorem C3S {n:Int} (hn:1<=n/\n<18446744073709551616): ∀(k:Nat) (w:C5),Q0 w->wv w*n^k<340282366920938463463374607431768211456->C3R n k w=(ofW (wv w*n^k),true)
 |0,w,hw,_=>by
  show (w,true)=_;rw [Int.pow_zero,Int.mul_one,D16 hw]
 |k+1,w,hw,h=>by
  have h0:=(B1u hw).1;have e:wv w*n^(k+1)=wv w*n*n^k:=by rw [Int.pow_succ,Int.mul_comm (n^k),Int.mul_assoc]
  have hk:=C5S hn.1 k;have n0:0<=wv w*n:=Int.mul_nonneg h0 (by omega)
  have hle:=Int.mul_le_mul_of_nonneg_left hk n0;have ev:=(B5V (n:=n) ⟨by omega,hn.2⟩).2
  unfold C3R;rw [ev,if_pos (by omega),C3S hn k _ (A4A n0 (by omega)) (by rw [A4P];omega),A4P,<-e]
theorem C4x {n:Int} (hn:1<=n/\n<18446744073709551616) {k:Nat} (hk:k<=1000) (h:n^k<340282366920938463463374607431768211456):B1s n (k:Int)=some (ofW (n^k),true):=by
 unfold B1s;rw [D3j (by omega),D3f]
 by_cases h1:n<=1
 ·have:n=1:=by omega
  subst this;rw [D3h (by omega),D3g,Int.one_pow]
  rfl
 ·rw [D3j h1,D3f];have e:=C1U (n:=n) ⟨by omega,hn.2⟩ k (C5.mk 0 1) (by omega) C8t
  have one:wv (C5.mk 0 1)=1:=rfl;rw [C3S hn k _ C8t (by rw [one,Int.one_mul];exact h),one,Int.one_mul] at e
  exact e
theorem D0v {a:Int} (ha:1<=a/\a<=16777217): ∀j:Nat,j<=4->1<=a^j/\a^j<=79228181410000000000000000000:=by
 have h1:a^1=a:=by rw [Int.pow_succ,Int.pow_zero,Int.one_mul]
 have s: ∀ {x y X:Int},1<=x->x<=X->1<=y->y<=16777217->1<=x*y/\x*y<=X*16777217:=fun {x y X} g1 g2 g3 g4=>
  ⟨by have:=Int.mul_le_mul g1 g3 (by decide) (by omega);omega,Int.mul_le_mul g2 g4 (by omega) (by omega)⟩
 have b2:=s ha.1 ha.2 ha.1 ha.2;have e2:a^2=a*a:=by rw [Int.pow_succ,h1]
 have b3:=s b2.1 b2.2 ha.1 ha.2;have e3:a^3=a*a*a:=by rw [Int.pow_succ,e2]
 have b4:=s b3.1 b3.2 ha.1 ha.2;have e4:a^4=a*a*a*a:=by rw [Int.pow_succ,e3]
 intro j hj;have:j=0\/j=1\/j=2\/j=3\/j=4:=by omega
 rcases this with rfl|rfl|rfl|rfl|rfl
 ·rw [Int.pow_zero];omega
 ·rw [h1];omega
 ·rw [e2];omega
 ·rw [e3];omega
 ·rw [e4];omega
theorem B7M {x:D3} (h:B3K x):x.Ae.length<=5:=by have:=h.1;omega
theorem C31 {x:D3} {t:Int} (h:B3K x) (hw:∀w∈x.Ae,Q0 w) (h1:x.Now<=t) (h2:t<=16777216):
  A7w x t=some (⟨x.P,x.Ay,t,x.Ae⟩,0)/\B3K ⟨x.P,x.Ay,t,x.Ae⟩:=by
 have hl:=B7M h;refine ⟨?_,⟨⟨h.1.1,⟨by have:=h.1.2.1;show 0<=t;omega,h2⟩,⟨h.1.2.2.1.1,by have:=h.1.2.2.1;show x.Ay<=t;omega⟩,h.1.2.2.2⟩,fun i hi hiP=> ?_⟩⟩
 ·unfold A7w;rw [A9t x hw,D3c,K9 h];simp only [D3P,D3f];rw [A6X t h.1.2.1,A3t h1 h2];simp only [D3P,D3f];rw [O1 (by rw [D3e,D3I];omega),List.nil_append]
 ·obtain ⟨a,b⟩:=h.2 i hi hiP;refine ⟨a,fun hlt=> ?_⟩;have hiP' :(i:Int)<=x.P:=hiP;have hM:x.Ae.length=x.P+1:=h.1.2.2.2;have m0:=(B1u (hw _ (J0 (show i-1<x.Ae.length by omega)))).1
  have hle:=Int.mul_le_mul_of_nonneg_left (show x.Now-x.Ay+1<=t-x.Ay+1 by omega) m0
  have hlt' :wv (el x.Ae (i-1))*(t-x.Ay+1)<340282366920938463463374607431768211456:=hlt;have:=b (by omega)
  show wv (el x.Ae i)<=wv (el x.Ae (i-1))*(t-x.Ay+1);omega
theorem C30 {x:D3} {v:Int} (h:B3K x) (hw:∀w∈x.Ae,Q0 w):
  A8d x v=some (⟨0,0,0, []⟩,4)\/A8d x v=some (⟨0,0,0, []⟩,6)\/ ∃M,A8d x v=some (⟨x.P,x.Ay,x.Now,M⟩,0)/\B3K ⟨x.P,x.Ay,x.Now,M⟩/\ ∀w∈M,Q0 w:=by
 have hP:=B7M h;have h11:=h.1;unfold A8d;rw [A9t x hw,D3c,K9 h];simp only [D3P,D3f];cases hr:(decide (v<0)||decide (v>4096)) with
 |true=>exact .inl rfl
 |false=>
  right;rw [D3M,D3t,D3t] at hr;rw [D3f,I9 (by omega)]
  have ea:G8 (A2 (A2 (x.Now-x.Ay)+1))=x.Now-x.Ay+1:=by
   rw [A7 (n:=x.Now-x.Ay) (by omega) (by omega),A7 (by omega) (by omega),A1Q (by omega) (by omega)]
  have hage:1<=x.Now-x.Ay+1/\x.Now-x.Ay+1<=16777217:=by omega
  have hpw:=D0v hage;have pv: ∀j:Nat,j<=4->0<=(x.Now-x.Ay+1)^j*v/\(x.Now-x.Ay+1)^j*v<340282366920938463463374607431768211456:=fun j hj=>by
   obtain ⟨p1,p2⟩:=hpw j hj;have a:=Int.mul_nonneg (a:=(x.Now-x.Ay+1)^j) (b:=v) (by omega) (by omega)
   have b:=Int.mul_le_mul p2 (show v<=4096 by omega) (by omega) (by decide)
   omega
  have hmulv: ∀j:Nat,j<x.Ae.length-> ∃p,B1s (G8 (A2 (A2 (x.Now-x.Ay)+1))) (j:Int)=some p/\A1G p.1 (S3 (G8 v))=some (ofW ((x.Now-x.Ay+1)^j*v),true):=fun j hj=>by
   obtain ⟨p1,p2⟩:=hpw j (by omega)
   obtain ⟨q1,q2⟩:=pv j (by omega)
   refine ⟨(ofW ((x.Now-x.Ay+1)^j),true),by rw [ea];exact C4x ⟨by omega,by omega⟩ (by omega) (by omega), ?_⟩
   obtain ⟨oo,vv⟩:=B5V (n:=v) ⟨by omega,by omega⟩
   rw [A1Q (by omega) (by omega),B3b,A8z (A4A (by omega) (by omega)) oo,A4P,vv,if_pos q2]
  let ok:Nat->Prop:=fun j=>wv (el x.Ae j)+(x.Now-x.Ay+1)^j*v<340282366920938463463374607431768211456
  let s:Nat->C5:=fun j=>ofW (wv (el x.Ae j)+(x.Now-x.Ay+1)^j*v)
  have hadd: ∀j,j<x.Ae.length->A6U (el x.Ae j) (ofW ((x.Now-x.Ay+1)^j*v))=some (if ok j then (s j,true) else (⟨0,0⟩,false)):=fun j hj=>by
   obtain ⟨q1,q2⟩:=pv j (by omega)
   rw [B7W (hw _ (J0 hj)) (A4A q1 q2),A4P]
  have hone: ∀j:Nat,j<x.Ae.length->A2 ((j:Int)+1)=((j+1:Nat):Int):=fun j hj=>by rw [A7]<;>omega
  have hprog:=A1W (f:=fun q:List C5×Int=>A3e x v q.1 q.2) (fun j=>((List.range j).map s++List.replicate (x.Ae.length-j) ⟨0,0⟩,(j:Int))) 0 x.Ae.length (Nat.zero_le _) (fun j=> ¬ok j)
   (⟨0,0,0, []⟩,6) (some (⟨x.P,x.Ay,x.Now,(List.range x.Ae.length).map s⟩,0)) (fun j _ hj _=>by
    obtain ⟨p,q1,q3⟩:=hmulv j hj;have hd:decide ((j:Int)<((List.replicate ((x.Ae.length:Int)).toNat (C5.mk 0 0)).length:Int))=true:=D3h (by simp;omega)
    have hd' :decide ((j:Int)<((List.replicate x.Ae.length (C5.mk 0 0)).length:Int))=true:=D3h (by simp;omega)
    have hx:D0 ((List.range j).map s++List.replicate (x.Ae.length-j) (C5.mk 0 0)) (j:Int)=some ⟨0,0⟩:=by
     have hl0:((List.range j).map s).length=j:=by simp
     rw [I2,D3C (by omega),hl0,Nat.sub_self,List.getElem?_replicate,if_pos (by omega)]
    refine ⟨fun hb=> ?_,fun hb=> ?_⟩
    ·simp only [A3e,hd,D3g,q1,q3,F4 hj,hadd j hj,D3c,if_neg hb,D3p]
    ·simp only [A3e,hd,hd',D3g,q1,q3,F4 hj,hadd j hj,D3c,if_pos (Decidable.not_not.1 hb),D3o,D3f,hx,hone j hj,D3S,C8G s ⟨0,0⟩ _ j hj])
   (fun _=>by
    have hd:decide ((x.Ae.length:Int)<((List.replicate ((x.Ae.length:Int)).toNat (C5.mk 0 0)).length:Int))=false:=D3j (by simp)
    simp only [A3e,hd,D3f,Nat.sub_self,List.replicate_zero,List.append_nil])
  have e1:B2k x v (List.replicate ((x.Ae.length:Int)).toNat ⟨0,0⟩) 0=loop (fun q:List C5×Int=>A3e x v q.1 q.2) ((List.range 0).map s++List.replicate (x.Ae.length-0) ⟨0,0⟩,((0:Nat):Int)):=by
   unfold B2k;simp
  rw [e1]
  by_cases hall: ∃j,0<=j/\j<x.Ae.length/\ ¬ok j
  ·exact .inl (hprog.1 hall)
  ·right;have hall' : ∀j,0<=j->j<x.Ae.length-> ¬ ¬ok j:=fun j h0 hj hb=>hall ⟨j,h0,hj,hb⟩;have hok: ∀j,j<x.Ae.length->ok j:=fun j hj=>Decidable.not_not.1 (hall' j (Nat.zero_le _) hj);have hwv: ∀j,j<x.Ae.length->wv (el ((List.range x.Ae.length).map s) j)=wv (el x.Ae j)+(x.Now-x.Ay+1)^j*v:=fun j hj=>by
    rw [K7 (by simp;exact hj)]
    simp only [List.getElem_map,List.getElem_range];exact A4P _
   refine ⟨_,hprog.2 hall',⟨⟨h11.1,h11.2.1,h11.2.2.1,by simp;exact h11.2.2.2⟩,fun i hi hiP=> ?_⟩,fun w hw' => ?_⟩
   ·have hiP' :(i:Int)<=x.P:=hiP;have hM:=h11.2.2.2;obtain ⟨a,b⟩:=h.2 i hi hiP';have ei:(x.Now-x.Ay+1)^i=(x.Now-x.Ay+1)^(i-1)*(x.Now-x.Ay+1):=by
     conv=>lhs;rw [show i=i-1+1 by omega]
     rw [Int.pow_succ]
    have ei2:(x.Now-x.Ay+1)^i*v=(x.Now-x.Ay+1)^(i-1)*v*(x.Now-x.Ay+1):=by
     rw [ei,Int.mul_assoc,Int.mul_comm _ v,<-Int.mul_assoc]
    have p0:=pv (i-1) (by omega)
    have hge:=Int.mul_le_mul_of_nonneg_left hage.1 p0.1;show wv (el ((List.range x.Ae.length).map s) (i-1))<=wv (el ((List.range x.Ae.length).map s) i)/\(wv (el ((List.range x.Ae.length).map s) (i-1))*(x.Now-x.Ay+1)<_->wv (el ((List.range x.Ae.length).map s) i)<=wv (el ((List.range x.Ae.length).map s) (i-1))*(x.Now-x.Ay+1));rw [hwv i (by omega),hwv (i-1) (by omega),Int.add_mul,ei2]
    have q0:=Int.mul_nonneg p0.1 (show 0<=x.Now-x.Ay+1 by omega)
    refine ⟨by omega,fun hlt=> ?_⟩
    have:=b (by omega)
    omega
   ·obtain ⟨j,hj,rfl⟩:=List.mem_map.1 hw';have hj' :j<x.Ae.length:=by simpa using hj
    have a:=(B1u (hw _ (J0 hj'))).1;have b:=(pv j (by omega)).1
    exact A4A (by omega) (hok j hj')
theorem C1G {x:E3} {t:Int} (h:B3J x) (h1:x.Now<=t) (h2:t<=16777216):
  ∃L,A6l x t=some (⟨t,L⟩,0)/\B3J ⟨t,L⟩/\L.length=x.Bc.length:=by
 have hn:=h.1;have hl:x.Bc.length<=1048576:=by omega
 obtain ⟨d,hd⟩:=Int.eq_ofNat_of_zero_le (show 0<=t-x.Now by omega)
 refine ⟨A7q x.Bc d, ?_,⟨⟨by rw [B5e];exact hn.1,⟨by show 0<=t;omega,h2⟩⟩,fun i hi=> ?_⟩,B5e _ _⟩
 ·unfold A6l;rw [A77 x (H0 hl),D3c,K9 h];simp only [D3P,D3f];rw [A6X t hn.2,A3t h1 h2];have ew:A2 (t-x.Now)=t-x.Now:=by rw [A7]<;>omega
  have em:L5 (A2 (t-x.Now)) ((([]:List Int)++x.Bc).length:Int)=((min d x.Bc.length:Nat):Int):=by
   rw [ew,C9p (by omega),List.nil_append,hd,D3S]
  simp only [D3P,D3f];rw [em,D3S,List.nil_append];have e1:laid (laid x.Bc (min d x.Bc.length) (x.Bc.take (x.Bc.length-min d x.Bc.length))) 0 (List.replicate (min d x.Bc.length) 0)=A7q x.Bc d:=by
   have h1:laid x.Bc (min d x.Bc.length) (x.Bc.take (x.Bc.length-min d x.Bc.length))=x.Bc.take (min d x.Bc.length)++x.Bc.take (x.Bc.length-min d x.Bc.length):=by
    unfold laid;rw [List.drop_eq_nil_of_le (by rw [D3E];omega),List.append_nil]
   rw [h1];unfold laid A7q;rw [List.take_zero,List.nil_append,D4d,Nat.zero_add]
   congr 1
   have:(x.Bc.take (min d x.Bc.length)).length=min d x.Bc.length:=by rw [D3E];omega
   conv=>lhs;rw [<-this]
   rw [this,List.drop_append_of_le_length (by omega),List.drop_eq_nil_of_le (by omega),List.nil_append]
  have hl1:(laid x.Bc (min d x.Bc.length) (x.Bc.take (x.Bc.length-min d x.Bc.length))).length=x.Bc.length:=by
   unfold laid;simp only [D3i,D3E,D3K];omega
  rw [e1,O1 (by rw [D3e,D3I];omega),O1 (by rw [D3e];omega),O1 (by rw [D3e,hl1];omega)]
 ·have hi' :i<x.Bc.length:=by rw [<-B5e x.Bc d];exact hi
  have e:el (A7q x.Bc d) i=if d<=i then x.Bc.getD (i-d) 0 else 0:=by
   have:=C8f x.Bc d i hi';rw [A1q hi] at this;exact D3V this
  show (0<=el (A7q x.Bc d) i/\el (A7q x.Bc d) i<=1099511627776)/\(t<(i:Int)->el (A7q x.Bc d) i=0);rw [e]
  by_cases hc:d<=i
  ·rw [if_pos hc];have:=h.2 (i-d) (by omega)
   have eg:x.Bc.getD (i-d) 0=el x.Bc (i-d):=rfl;rw [eg];refine ⟨this.1,fun hlt=>this.2 (by omega)⟩
  ·rw [if_neg hc];exact ⟨by decide,fun _=>rfl⟩
theorem C1E {x:E3} (v:Int) (h:B3J x):
  A65 x v=some (⟨0, []⟩,4)\/A65 x v=some (⟨0, []⟩,6)\/ ∃L,A65 x v=some (⟨x.Now,L⟩,0)/\B3J ⟨x.Now,L⟩/\L.length=x.Bc.length:=by
 have hn:=h.1;have hl:x.Bc.length<=1048576:=by omega
 have h0:0<x.Bc.length:=by omega
 have g0:=(h.2 0 h0).1;unfold A65;rw [A77 x (H0 hl),D3c,K9 h];simp only [D3P,D3f];cases hr:(decide (v<0)||decide (v>4096)) with
 |true=>exact .inl rfl
 |false=>
  right;rw [D3M,D3t,D3t] at hr;rw [D3f,A21 h0,D3c,A7 (n:=1099511627776-v) (by omega) (by omega)]
  by_cases hc:el x.Bc 0>1099511627776-v
  ·rw [D3h hc];exact .inl rfl
  ·right;rw [D3j hc,D3f,I9 (by simp;omega)]
   simp only [List.nil_append,A21 h0,D3c];rw [A7 (n:=el x.Bc 0+v) (by omega) (by omega)]
   refine ⟨_,rfl,⟨⟨by rw [D4c];exact hn.1,hn.2⟩,fun i hi=> ?_⟩,D4c⟩
   have hi' :i<x.Bc.length:=by rw [D4c] at hi;exact hi
   have e:el (x.Bc.set ((0:Int)).toNat (el x.Bc 0+v)) i=if i=0 then el x.Bc 0+v else el x.Bc i:=by
    rw [K7 (by rw [D4c];exact hi'),List.getElem_set]
    by_cases hz:i=0
    ·subst hz;rw [if_pos (show (0:Int).toNat=0 from rfl),if_pos rfl]
    ·rw [if_neg (fun hh=>hz hh.symm),if_neg hz,<-K7]
   show (0<=el (x.Bc.set ((0:Int)).toNat (el x.Bc 0+v)) i/\_)/\_;rw [e]
   by_cases hz:i=0
   ·rw [if_pos hz];exact ⟨by omega,fun hlt=>by have:x.Now<(i:Int):=hlt;omega⟩
   ·rw [if_neg hz];exact h.2 i hi'
theorem B8r {t w:Int} (ht:0<=t/\t<=16777216) (hw:1<=w/\w<=1048576): ∀ {l:List A9},l.Pairwise (fun a b=>a.T<b.T)->(∀p∈l,0<=p.T/\p.T<=t)-> ∀x∈l.dropWhile (fun p=> !E0 t w p.T),E0 t w x.T=true
 | [],_,_,x,hx=>by cases hx
 |a::l,hp,hr,x,hx=>by
  rw [List.dropWhile_cons] at hx;have h2:=List.pairwise_cons.1 hp;cases h:E0 t w a.T with
  |false=>
   rw [h] at hx;exact B8r ht hw h2.2 (fun p hp=>hr p (by simp [hp])) x hx
  |true=>
   rw [h] at hx;rcases List.mem_cons.1 hx with e|e
   ·rw [e];exact h
   ·have:=h2.1 x e;have hl:=(O4 _ _ _).1 h;have:=hr x (by simp [e])
    exact (O4 _ _ _).2 ⟨ht,hw,⟨this.1,by omega⟩,by omega,this.2⟩
theorem C5y {α:Type} {H:List α->Prop} (hH:∀x l,H (x::l)->H l) (p:α->Bool): ∀ {l:List α},H l->H (l.dropWhile p)
 | [],h=>h
 |x::l,h=>by
  rw [List.dropWhile_cons];cases p x with
  |true=>exact C5y hH p (hH x l h)
  |false=>exact h
def C6a (m:Bool) (l:List A9):Prop:= ∀i,i+1<l.length->(el l i).T<(el l (i+1)).T/\L6 m (el l (i+1)).V (el l i).V=false
theorem D0e {x:B4} (h:A7s x):C6a x.Be x.Ar:=fun i hi=>by
 have:=(h.2 (i+1) hi).2 (by omega)
 rw [D3T] at this;exact this
theorem C6z {x:B4} (hp:(1<=x.W/\x.W<=1048576)/\(1<=x.Cap/\x.Cap<=65536)/\(0<=x.Now/\x.Now<=16777216)) (hc:(x.Ar.length:Int)<=x.Cap) (h1:∀p∈x.Ar,E0 x.Now x.W p.T=true/\ -4096<=p.V/\p.V<=4096) (h2:C6a x.Be x.Ar):A7s x:=
 ⟨⟨hp,hc⟩,fun i hi=>⟨h1 _ (J0 hi),fun h0=>by
  obtain ⟨j,rfl⟩: ∃j,i=j+1:=⟨i-1,by omega⟩
  rw [D3T];exact h2 j hi⟩⟩
theorem C27 {x:B4} (h:A7s x):x.Ar.length<=65536:=by have:=h.1;omega
theorem B87 {x:B4} {t:Int} (h:A7s x) (h1:x.Now<=t) (h2:t<=16777216):
  ∃L,A4c x t=some (⟨x.Be,x.W,x.Cap,t,L⟩,0)/\A7s ⟨x.Be,x.W,x.Cap,t,L⟩:=by
 have hl:=C27 h;have hp:=h.1.1;have hc:=h.1.2;have hdq:=C6y h;have pw:x.Ar.Pairwise (fun a b=>a.T<b.T):=by
  rw [List.pairwise_iff_getElem];intro i j hi hj hij;have:=hdq.T i j hij hj;rw [K7 hi,K7 hj] at this;exact this
 have rng: ∀p∈x.Ar,0<=p.T/\p.T<=t:=fun p hp=>by
  obtain ⟨i,hi,rfl⟩:=R9 hp;have:=(O4 _ _ _).1 (h.2 i hi).1.1;omega
 have ht:0<=t/\t<=16777216:=by omega
 have hd:=A6I (fun p:A9=> !E0 t x.W p.T) x.Ar;refine ⟨x.Ar.dropWhile (fun p=> !E0 t x.W p.T), ?_,C6z ⟨hp.1,hp.2.1,ht⟩ (by show ((x.Ar.dropWhile _).length:Int)<=x.Cap;omega) (fun p hp' => ?_) (C5y (H:=C6a x.Be) (fun y l hH i hi=>hH (i+1) (by simp only [D3v];omega)) _ (D0e h))⟩
 ·unfold A4c;rw [A6J x (H0 (by omega)),D3c,K9 h]
  simp only [D3P,D3f];rw [A6X t hp.2.2,A3t h1 h2];simp only [D3P,D3f];unfold A89;rw [A62 (fun p:A9=> !E0 t x.W p.T) (fun v=>ck (decide ((([]:List A9).length+v.length)*16<=140737488355328))<|some ((B4.mk x.Be x.W x.Cap t (([]:List A9)++v)),(0:Int)))]
  ·rw [I9 (by rw [D3I];omega),List.nil_append]
  ·intro y l hy;unfold A37;rw [A30,E4,A0Y,D3c,A1V];simp only [];rw [hy,Bool.and_self,D3g,O1 (by rw [D3e,D3v];omega)]
   rfl
  ·intro y l hy;unfold A37;rw [A30,E4,A0Y,D3c,A1V];simp only [];rw [hy,Bool.and_false,D3f]
  ·rfl
 ·refine ⟨B8r ht hp.1 pw rng _ hp', ?_⟩;obtain ⟨i,hi,rfl⟩:=R9 (A73 hp');exact (h.2 i hi).1.2
theorem B85 {x:B4} {v:Int} (h:A7s x) (hv:-4096<=v/\v<=4096):
  A53 x v=some (⟨false,0,0,0, []⟩,5)\/ ∃L,A53 x v=some (⟨x.Be,x.W,x.Cap,x.Now,L⟩,0)/\A7s ⟨x.Be,x.W,x.Cap,x.Now,L⟩:=by
 have hl:=C27 h;have hp:=h.1.1;have hcap:=h.1.2;have hdq:=C6y h;obtain ⟨c,c1,c2,c3⟩:=D0F hdq v;have hpr:=D0J (v:=v) (by omega) c1 c2 c3 (x.Ar.length-c) (by omega)
 rw [show c+(x.Ar.length-c)=x.Ar.length by omega,List.take_length] at hpr
 have htl:(x.Ar.take c).length=c:=by rw [D3E];omega
 have hel: ∀i,i<c->el (x.Ar.take c) i=el x.Ar i:=fun i hi=>by
  unfold el;rw [D38,D38,D3z,if_pos hi]
 have hmem: ∀p∈x.Ar.take c,E0 x.Now x.W p.T=true/\ -4096<=p.V/\p.V<=4096:=fun p hp=>by
  obtain ⟨i,hi,rfl⟩:=R9 (List.mem_of_mem_take hp);exact (h.2 i hi).1
 have hadj:C6a x.Be (x.Ar.take c):=fun i hi=>by
  rw [htl] at hi;rw [hel i (by omega),hel (i+1) hi]
  exact D0e h i (by omega)
 unfold A53;rw [A6J x (H0 (by omega)),D3c,K9 h]
 simp only [D3P,D3f];rw [D3j (by omega),D3j (by omega)]
 simp only [Bool.or_self,D3f];rw [hpr,C7N (by omega),htl]
 by_cases hq:c=0\/(el (x.Ar.take c) (c-1)).T<x.Now
 ·rw [if_pos hq]
  by_cases hf:(c:Int)=x.Cap
  ·rw [if_pos hf];exact .inl rfl
  ·rw [if_neg hf];refine .inr ⟨_,rfl,C6z hp (by simp [htl];omega) (fun p hp' => ?_) (fun i hi=> ?_)⟩
   ·rcases D3Y.1 hp' with g|g
    ·exact hmem p g
    ·rw [List.mem_singleton.1 g];exact ⟨(O4 _ _ _).2 ⟨hp.2.2,hp.1,hp.2.2,by show x.Now-x.W<x.Now;omega,Int.le_refl _⟩,hv⟩
   ·have hi' :i+1<c+1:=by simpa [htl] using hi
    rcases Nat.lt_or_ge (i+1) c with g|g
    ·show (el (x.Ar.take c++ [A9.mk x.Now v]) i).T<(el (x.Ar.take c++ [A9.mk x.Now v]) (i+1)).T/\L6 x.Be (el (x.Ar.take c++ [A9.mk x.Now v]) (i+1)).V (el (x.Ar.take c++ [A9.mk x.Now v]) i).V=false;rw [C25 (by rw [htl];omega),C25 (by rw [htl];omega)]
     exact hadj i (by rw [htl];omega)
    ·have ei:i+1=c:=by omega
     have el2:el (x.Ar.take c++ [A9.mk x.Now v]) (i+1)=⟨x.Now,v⟩:=by
      have:=D0G (x.Ar.take c) (A9.mk x.Now v);rw [htl] at this;rw [ei];exact this
     show (el (x.Ar.take c++ [A9.mk x.Now v]) i).T<(el (x.Ar.take c++ [A9.mk x.Now v]) (i+1)).T/\L6 x.Be (el (x.Ar.take c++ [A9.mk x.Now v]) (i+1)).V (el (x.Ar.take c++ [A9.mk x.Now v]) i).V=false;rw [el2,C25 (by rw [htl];omega)]
     show (el (x.Ar.take c) i).T<x.Now/\L6 x.Be v (el (x.Ar.take c) i).V=false;rcases hq with g|g
     ·omega
     ·rw [show c-1=i by omega] at g
      refine ⟨g, ?_⟩;rw [hel i (by omega),B3j,D3t]
      have:=c2 i (by omega)
      omega
 ·rw [if_neg hq];exact .inr ⟨_,rfl,C6z hp (by show ((x.Ar.take c).length:Int)<=x.Cap;omega) hmem hadj⟩
end Go.Win
namespace Go.Win
open Go.Vc Go.Dec
structure SuL (M N:Int) (l:List D4):Prop where
 each: ∀t∈l,(-4096<=t.V/\t.V<=4096)/\1<=t.G/\0<=t.D/\t.G+t.D<=M
 row:l.Pairwise fun a b=>a.V<=b.V
 sum:(l.map (·.G)).sum=N
 first: ∀t,l.head? =some t->t.G=1/\t.D=0
 last: ∀t,l.getLast? =some t->t.D=0
theorem C1e {x:B7} (h:A9s x): ∀i j,i<j->j<x.Ao.length->(el x.Ao i).V<=(el x.Ao j).V:=by
 have step: ∀i,i+1<x.Ao.length->(el x.Ao i).V<=(el x.Ao (i+1)).V:=fun i hi=>(h.2.2.1 (i+1) hi).2.2 (by omega)
 have key: ∀d i,i+d<x.Ao.length->(el x.Ao i).V<=(el x.Ao (i+d)).V:=by
  intro d
  induction d with
  |zero=>intro i _;exact Int.le_refl _
  |succ d ih=>
   intro i hi;have h1:=ih i (by omega)
   have h2:=step (i+d) (by omega)
   rw [show i+(d+1)=i+d+1 by omega]
   omega
 intro i j hij hj;have:=key (j-i) i (by omega)
 rw [show i+(j-i)=j by omega] at this
 exact this
theorem D2M {x:B7} (h:A9s x):SuL (O2 x.N x.K) x.N x.Ao:=by
 obtain ⟨h1,h2,h3,h4⟩:=id h;refine ⟨fun t ht=> ?_, ?_, ?_,fun t ht=> ?_,fun t ht=> ?_⟩
 ·obtain ⟨i,hi,rfl⟩:=R9 ht;have:=h3 i hi;exact ⟨this.1,this.2.1⟩
 ·rw [List.pairwise_iff_getElem];intro i j hi hj hij;have:=C1e h i j hij hj;rw [K7 hi,K7 hj] at this;exact this
 ·rcases Nat.eq_zero_or_pos x.Ao.length with g|g
  ·rw [D3X g,h2.1 g]
   rfl
  ·have:=(h4 g).2.2.2;unfold R6 at this;rw [List.take_length] at this;exact this
 ·have h0:0<x.Ao.length:=by
   cases hx:x.Ao with
   |nil=>rw [hx] at ht;cases ht
   |cons a b=>simp
  rw [List.head?_eq_getElem?,A1q h0] at ht;cases ht;exact ⟨(h4 h0).1,(h4 h0).2.1⟩
 ·have h0:0<x.Ao.length:=by
   cases hx:x.Ao with
   |nil=>rw [hx] at ht;cases ht
   |cons a b=>simp
  rw [List.getLast?_eq_getElem?,A1q (by omega)] at ht
  cases ht;exact (h4 h0).2.2.1
theorem D2L {K Cap N:Int} {l:List D4} (hK:1<=K/\K<=64) (hC:2<=Cap/\Cap<=65536) (hN:0<=N/\N<=1099511627776) (hl:(l.length:Int)<=Cap) (h0:l.length=0↔N=0) (h:SuL (O2 N K) N l):A9s ⟨K,Cap,N,l⟩:=by
 refine ⟨⟨hK,hC,hN,hl⟩,h0,fun i hi=> ?_,fun hp=> ?_⟩
 ·have a:=h.each _ (J0 hi);refine ⟨a.1,a.2,fun h1=> ?_⟩;have:=List.pairwise_iff_getElem.1 h.row (i-1) i (by show i-1<l.length;have:i<l.length:=hi;omega) hi (by omega)
  rw [<-K7,<-K7] at this;exact this
 ·have hp' :0<l.length:=hp;have a:=h.first (el l 0) (by rw [List.head?_eq_getElem?,A1q hp'])
  have b:=h.last (el l (l.length-1)) (by rw [List.getLast?_eq_getElem?,A1q (by omega)])
  refine ⟨a.1,a.2,b, ?_⟩;show R6 l l.length=N;unfold R6;rw [List.take_length];exact h.sum
theorem B0Y {α:Type} (P:List α) (x:α) (S:List α):(P++x::S).getLast? =(x::S).getLast? :=by
 rw [List.getLast?_append];cases h:(x::S).getLast? with
 |none=>simp at h
 |some y=>rfl
theorem C91 {M N:Int} {P S:List D4} {a b:D4} (hP:P≠ []) (h:SuL M N (P++a::b::S)) (hc:a.G+b.G+b.D<=M):SuL M N (P++⟨b.V,b.G+a.G,b.D⟩::S):=by
 have ha:=h.each a (by simp)
 have hb:=h.each b (by simp)
 obtain ⟨p1,p2,p3⟩:=List.pairwise_append.1 h.row;have q1:=List.pairwise_cons.1 p2;have q2:=List.pairwise_cons.1 q1.2;refine ⟨fun t ht=> ?_,List.pairwise_append.2 ⟨p1,List.pairwise_cons.2 ⟨fun y hy=>q2.1 y hy,q2.2⟩,fun x hx y hy=> ?_⟩, ?_,fun t ht=> ?_,fun t ht=> ?_⟩
 ·rcases D3Y.1 ht with g|g
  ·exact h.each t (by simp [g])
  ·rcases List.mem_cons.1 g with g|g
   ·rw [g];refine ⟨hb.1, ?_,hb.2.2.1, ?_⟩
    ·show 1<=b.G+a.G;omega
    ·show b.G+a.G+b.D<=M;omega
   ·exact h.each t (by simp [g])
 ·rcases List.mem_cons.1 hy with g|g
  ·rw [g];exact p3 x hx b (by simp)
  ·exact p3 x hx y (by simp [g])
 ·have:=h.sum;simp only [D4b,D35,List.sum_append,List.sum_cons] at this⊢;omega
 ·refine h.first t ?_;cases P with
  |nil=>exact absurd rfl hP
  |cons p P=>exact ht
 ·cases S with
  |nil=>
   rw [B0Y] at ht;have:t=⟨b.V,b.G+a.G,b.D⟩:=by simpa using ht.symm
   rw [this];exact h.last b (by rw [B0Y];rfl)
  |cons s S=>
   refine h.last t ?_;rw [B0Y] at ht⊢;rw [List.getLast?_cons_cons] at ht;rw [List.getLast?_cons_cons,List.getLast?_cons_cons];exact ht
theorem D1k {α:Type} (P S:List α) (a b X:α):((P++a::b::S).set (P.length+1) X).take P.length++((P++a::b::S).set (P.length+1) X).drop (P.length+1)=P++X::S:=by
 rw [List.set_append_right _ _ (by omega),show P.length+1-P.length=1 by omega]
 have e:(a::b::S).set 1 X=a::X::S:=rfl;rw [e,List.take_left',List.drop_append,List.drop_eq_nil_of_le (by omega),show P.length+1-P.length=1 by omega]
 ·rfl
 ·rfl
theorem D0E {M N:Int} (hM:M<=1099511627776): ∀(n:Nat) (l:List D4),l.length<=1048576->(1<=n->n+1<l.length)->SuL M N l->
  ∃R,R3 M l (n:Int)=some R/\SuL M N R/\(0<l.length->0<R.length)/\R.length<=l.length:=by
 intro n
 induction n with
 |zero=>intro l hl _ h;exact ⟨l,C20 l (by omega),h,fun h=>h,D3U _⟩
 |succ n ih=>
  intro l hl hn h;have hn:=hn (by omega)
  have e1:A2 (((n+1:Nat):Int)+1)=((n+2:Nat):Int):=by rw [A7]<;>omega
  have e2:A2 (((n+1:Nat):Int)-1)=(n:Int):=by rw [A7]<;>omega
  have g1:=F4 (l:=l) (i:=n+1) (by omega)
  have g2:=F4 (l:=l) (i:=n+2) (by omega)
  have ma:=(h.each _ (J0 (show n+1<l.length by omega))).2
  have mb:=(h.each _ (J0 (show n+2<l.length by omega))).2
  have hge:decide (((n+1:Nat):Int)>=1)=true:=D3h (by omega)
  by_cases hc:A2 (A2 ((el l (n+1)).G+(el l (n+2)).G)+(el l (n+2)).D)<=M
  ·have hsl:(l.set (n+2) ⟨(el l (n+2)).V,A2 ((el l (n+2)).G+(el l (n+1)).G),(el l (n+2)).D⟩).length=l.length:=D4c ..;have hdl:((l.set (n+2) ⟨(el l (n+2)).V,A2 ((el l (n+2)).G+(el l (n+1)).G),(el l (n+2)).D⟩).drop (n+2)).length=l.length-(n+2):=by rw [D3K,hsl]
   have htk:((l.set (n+2) ⟨(el l (n+2)).V,A2 ((el l (n+2)).G+(el l (n+1)).G),(el l (n+2)).D⟩).drop (n+2)).take ((l.set (n+2) ⟨(el l (n+2)).V,A2 ((el l (n+2)).G+(el l (n+1)).G),(el l (n+2)).D⟩).length-(n+2))=(l.set (n+2) ⟨(el l (n+2)).V,A2 ((el l (n+2)).G+(el l (n+1)).G),(el l (n+2)).D⟩).drop (n+2):=List.take_of_length_le (by rw [hdl,hsl];omega)
   have hnew:SuL M N ((l.set (n+2) ⟨(el l (n+2)).V,A2 ((el l (n+2)).G+(el l (n+1)).G),(el l (n+2)).D⟩).take (n+1)++(l.set (n+2) ⟨(el l (n+2)).V,A2 ((el l (n+2)).G+(el l (n+1)).G),(el l (n+2)).D⟩).drop (n+2)):=by
    have w1:A2 ((el l (n+2)).G+(el l (n+1)).G)=(el l (n+2)).G+(el l (n+1)).G:=by rw [A7]<;>omega
    rw [A7 (n:=(el l (n+1)).G+(el l (n+2)).G) (by omega) (by omega),A7 (by omega) (by omega)] at hc
    have hcut:l=l.take (n+1)++el l (n+1)::el l (n+2)::l.drop (n+3):=by
     have d1:l.drop (n+1)=el l (n+1)::l.drop (n+2):=by rw [List.drop_eq_getElem_cons (show n+1<l.length by omega),<-K7]
     have d2:l.drop (n+2)=el l (n+2)::l.drop (n+3):=by rw [List.drop_eq_getElem_cons (show n+2<l.length by omega),<-K7]
     rw [<-d2,<-d1,List.take_append_drop]
    have hpl:(l.take (n+1)).length=n+1:=by rw [D3E];omega
    have hP:l.take (n+1)≠ []:=fun e=>by rw [e] at hpl;simp at hpl
    rw [w1]
    generalize el l (n+1)=a at*
    generalize el l (n+2)=b at*
    have sc:=D1k (l.take (n+1)) (l.drop (n+3)) a b ⟨b.V,b.G+a.G,b.D⟩;rw [<-hcut,hpl] at sc;rw [sc];rw [hcut] at h;exact C91 hP h (by omega)
   obtain ⟨R,r1,r2,r3,r4⟩:=ih ((l.set (n+2) ⟨(el l (n+2)).V,A2 ((el l (n+2)).G+(el l (n+1)).G),(el l (n+2)).D⟩).take (n+1)++(l.set (n+2) ⟨(el l (n+2)).V,A2 ((el l (n+2)).G+(el l (n+1)).G),(el l (n+2)).D⟩).drop (n+2))
    (by rw [D3i,hdl,D3E,hsl];omega) (fun _=>by rw [D3i,hdl,D3E,hsl];omega) hnew
   rw [D3i,hdl,D3E,hsl] at r3 r4;refine ⟨R, ?_,r2,fun _=>r3 (by omega),by omega⟩
   rw [<-r1];unfold R3;refine M3 ?_;simp only [Q2,hge,D3g,e1,e2,g1,g2,D3c,D3h hc,D3S];rw [I9 (by rw [hsl];omega),I9 (by rw [hsl];omega),I9 (by rw [D3E,hdl,hsl];omega)]
   rw [htk]
  ·obtain ⟨R,r1,r2,r3,r4⟩:=ih l hl (fun _=>by omega) h
   refine ⟨R, ?_,r2,r3,r4⟩;rw [<-r1];unfold R3;refine M3 ?_;simp only [Q2,hge,D3g,e1,e2,g1,g2,D3c,D3j hc,D3f]
theorem C4P {M N:Int} (hM:M<=1099511627776) {l:List D4} (hl:l.length<=1048576) (h:SuL M N l):
  ∃R,A1O l M=some R/\SuL M N R/\(0<l.length->0<R.length)/\R.length<=l.length:=by
 unfold A1O
 by_cases h2:l.length<=2
 ·have hi:A2 ((l.length:Int)-2)<=0:=by rw [A7]<;>omega
  exact ⟨_,C20 _ hi,h,fun h=>h,D3U _⟩
 ·have e:A2 ((l.length:Int)-2)=((l.length-2:Nat):Int):=by rw [A7]<;>omega
  rw [e];exact D0E hM _ _ hl (fun _=>by omega) h
theorem C9B {n k:Int} (hn:0<=n) (hk:1<=k):O2 n k<=O2 (n+1) k:=by
 have:n/k<=(n+1)/k:=Int.ediv_le_ediv (by omega) (by omega)
 unfold O2;omega
theorem D1U {x:B7} {v:Int} {c:Nat} (h:A9s x) (hv:-4096<=v/\v<=4096) (hN:x.N<1099511627776) (c1:c<=x.Ao.length) (c2:∀i,i<c->(el x.Ao i).V<=v) (c3:∀i,c<=i->i<x.Ao.length->v<(el x.Ao i).V):
  SuL (O2 (x.N+1) x.K) (x.N+1) (B9L x.Ao c v (if 0<c/\c<x.Ao.length then A2 (A2 ((el x.Ao c).G+(el x.Ao c).D)-1) else 0)):=by
 have s:=D2M h;have hh:=h.1;unfold A4s at hh;have up:=C9B (n:=x.N) (k:=x.K) (by omega) hh.1.1
 have mr:=A9d (n:=x.N+1) (k:=x.K) (by omega) hh.1.1
 have mr0:=A9d (n:=x.N) (k:=x.K) (by omega) hh.1.1
 have hd: ∃d,(if 0<c/\c<x.Ao.length then A2 (A2 ((el x.Ao c).G+(el x.Ao c).D)-1) else 0)=d/\0<=d/\1+d<=O2 (x.N+1) x.K/\(¬(0<c/\c<x.Ao.length)->d=0):=by
  by_cases hc:0<c/\c<x.Ao.length
  ·have m:=(s.each _ (J0 hc.2)).2;refine ⟨_,rfl, ?_⟩;rw [if_pos hc,A7 (n:=(el x.Ao c).G+(el x.Ao c).D) (by omega) (by omega),A7 (by omega) (by omega)]
   exact ⟨by omega,by omega,fun hn=>absurd hc hn⟩
  ·exact ⟨0,by rw [if_neg hc],Int.le_refl 0,by omega,fun _=>rfl⟩
 obtain ⟨d,ed,d0,d1,d2⟩:=hd;rw [ed];unfold B9L;rw [D3G];have hsplit:x.Ao=x.Ao.take c++x.Ao.drop c:=(List.take_append_drop c _).symm;have hrow:=s.row;rw [hsplit] at hrow;obtain ⟨p1,p2,p3⟩:=List.pairwise_append.1 hrow;have hlow: ∀t∈x.Ao.take c,t.V<=v:=fun t ht=>by
  obtain ⟨i,hi,rfl⟩:=R9 ht;rw [D3E] at hi;have:=c2 i (by omega)
  have e:el (x.Ao.take c) i=el x.Ao i:=by
   unfold el;rw [D38,D38,D3z,if_pos (by omega)]
  rw [e];exact this
 have hhigh: ∀t∈x.Ao.drop c,v<t.V:=fun t ht=>by
  obtain ⟨i,hi,rfl⟩:=R9 ht;rw [D3K] at hi;have:=c3 (c+i) (by omega) (by omega)
  have e:el (x.Ao.drop c) i=el x.Ao (c+i):=by
   unfold el;rw [D38,D38,D3w]
  rw [e];exact this
 refine ⟨fun t ht=> ?_, ?_, ?_,fun t ht=> ?_,fun t ht=> ?_⟩
 ·simp only [D3Y,List.mem_cons,List.not_mem_nil,or_false] at ht;rcases ht with g|g|g
  ·have:=s.each t (List.mem_of_mem_take g);exact ⟨this.1,by omega⟩
  ·rw [g];exact ⟨hv,Int.le_refl 1,d0,d1⟩
  ·have:=s.each t (List.mem_of_mem_drop g);exact ⟨this.1,by omega⟩
 ·refine List.pairwise_append.2 ⟨p1,List.pairwise_cons.2 ⟨fun y hy=> ?_,p2⟩,fun a ha y hy=> ?_⟩
  ·have:=hhigh y hy;show v<=y.V;omega
  ·rcases List.mem_cons.1 hy with g|g
   ·rw [g];exact hlow a ha
   ·exact p3 a ha y g
 ·have:=s.sum;rw [hsplit] at this;simp only [D4b,D35,List.sum_append,List.sum_cons,List.cons_append,List.nil_append] at this⊢;omega
 ·rcases Nat.eq_zero_or_pos c with g|g
  ·subst g;simp only [List.take_zero,List.nil_append,List.cons_append,List.head?_cons,D34] at ht;rw [<-ht];exact ⟨rfl,d2 (by omega)⟩
  ·cases hx:x.Ao with
   |nil=>rw [hx] at c1;simp at c1;omega
   |cons a l=>
    rw [hx] at ht;obtain ⟨k,rfl⟩: ∃k,c=k+1:=⟨c-1,by omega⟩
    rw [List.take_succ_cons,List.cons_append,List.head?_cons] at ht;exact s.first t (by rw [hx];exact ht)
 ·rw [List.cons_append,List.nil_append,B0Y] at ht;rcases Nat.lt_or_ge c x.Ao.length with g|g
  ·cases hdr:x.Ao.drop c with
   |nil=>
    have:=congrArg List.length hdr;rw [D3K] at this;simp at this;omega
   |cons a l=>
    rw [hdr,List.getLast?_cons_cons] at ht;refine s.last t ?_;rw [hsplit,hdr,B0Y];exact ht
  ·rw [List.drop_eq_nil_of_le (by omega)] at ht
   have:t=⟨v,1,d⟩:=by simpa using ht.symm
   rw [this];exact d2 (by omega)
theorem B86 {x:B7} {v:Int} (h:A9s x) (hv:-4096<=v/\v<=4096):
  A3p x v=some (⟨0,0,0, []⟩,5)\/ ∃L,A3p x v=some (⟨x.K,x.Cap,x.N+1,L⟩,0)/\A9s ⟨x.K,x.Cap,x.N+1,L⟩:=by
 have hh:=h.1;unfold A4s at hh;have hl:x.Ao.length<=65536:=by omega
 unfold A3p;rw [B1n x,D3c,K9 h];simp only [D3P,D3f];rw [D3j (by omega),D3j (by omega)]
 simp only [Bool.or_self,D3f]
 by_cases hN:x.N=1099511627776
 ·rw [D36.2 hN];exact .inl rfl
 ·rw [D32.2 hN,D3f];obtain ⟨c,c1,c2,c3⟩:=D1J (C1e h) v;have hu:=D2N (v:=v) (by omega) c1 c2 c3
  unfold B23 at hu;have hins:=D1U h hv (by omega) c1 c2 c3
  generalize (if 0<c/\c<x.Ao.length then A2 (A2 ((el x.Ao c).G+(el x.Ao c).D)-1) else 0)=d at*
  rw [hu];have ew:A2 (x.N+1)=x.N+1:=by rw [A7]<;>omega
  have mr:=A9d (n:=x.N+1) (k:=x.K) (by omega) hh.1.1
  have hM:=B9Q (n:=x.N+1) (k:=x.K) (by omega) hh.1.1
  have hil:=C9s c1 v d;have htl:(x.Ao.take c).length=c:=by rw [D3E];omega
  have fin: ∀R:List D4,SuL (O2 (x.N+1) x.K) (x.N+1) R->0<R.length->X9 x R=some (⟨0,0,0, []⟩,5)\/ ∃L,X9 x R=some (⟨x.K,x.Cap,x.N+1,L⟩,0)/\A9s ⟨x.K,x.Cap,x.N+1,L⟩:=fun R hR h0=>by
   unfold X9;rw [ew]
   by_cases hc:(R.length:Int)>x.Cap
   ·rw [D3h hc];exact .inl rfl
   ·rw [D3j hc];exact .inr ⟨R,rfl,D2L hh.1 hh.2.1 (by omega) (by omega) (by omega) hR⟩
  unfold A04;simp only [D3S,List.nil_append];rw [I9 (by omega),I9 (by simp [htl];omega),I9 (by simp [htl];omega),I9 (by omega),I9 (by simp [htl];omega)]
  have ei:x.Ao.take c++ [D4.mk v 1 d]++x.Ao.drop c=B9L x.Ao c v d:=rfl;simp only [ei];cases hf:decide (((B9L x.Ao c v d).length:Int)>x.Cap) with
  |true=>
   obtain ⟨R,r1,r2,r3,r4⟩:=C4P mr.2.1 (by omega) hins
   rw [D3g,ew,hM,D3c,r1,D3c];exact fin R r2 (r3 (by omega))
  |false=>
   rw [D3f];exact fin _ hins (by omega)
end Go.Win
namespace Go.Win
open Go.Vc Go.Dec
theorem B24 {l:List A6} (hl:l.length<=1048576):A2 (I3 (plainB l))=X3 l:=B1o (by rw [A0j];exact hl)
theorem B6M (f:Int) (l:List A6):plainB (l.dropWhile fun x=>decide (x.T<f))=(plainB l).dropWhile fun x=>decide (x.T<f):=by
 unfold plainB;rw [List.dropWhile_map]
 rfl
theorem C7C {l:List A6} {k b:Int} (f:Int) (h:A7r l k b):A7r (l.dropWhile fun x=>decide (x.T<f)) k b:=by
 refine ⟨h.1,by rw [B6M];exact C5O h.2.1 _,fun i hi=> ?_⟩
 obtain ⟨j,hj,e⟩:=R9 (A73 (J0 hi));rw [<-e];exact h.2.2 j hj
theorem C7M (p:A6->Bool) (l:List A6):J1 (l.dropWhile p)<=J1 l:=by
 have:J1 l=J1 (l.takeWhile p)+J1 (l.dropWhile p):=by rw [<-A74,List.takeWhile_append_dropWhile]
 omega
theorem B7Q {x:B6} {t:Int} (h:B2i x) (hs:T5 x.Ag) (h1:x.Now<=t) (h2:t<=16777216):
  ∃B,A3I x t=some (⟨x.W,x.K,x.Cap,t,B⟩,0)/\B2i ⟨x.W,x.K,x.Cap,t,B⟩/\T5 B/\J1 B<=J1 x.Ag:=by
 obtain ⟨hp,hb,hc,hv⟩:=id h;have hd:=A6I (fun b:A6=>decide (b.T<N0 t x.W)) x.Ag;have hsd:T5 (x.Ag.dropWhile fun b=>decide (b.T<N0 t x.W)):=⟨Nat.le_trans hd hs.1,fun y hy=>hs.2 y (A73 hy)⟩;refine ⟨x.Ag.dropWhile fun b=>decide (b.T<N0 t x.W), ?_,⟨⟨hp.1,hp.2.1,⟨by have:=hp.2.2.1;show 0<=t;omega,h2⟩,hp.2.2.2⟩,fun b e=>C7C _ (hb b e), ?_,fun i hi=> ?_⟩,hsd,C7M _ _⟩
 ·unfold A3I;rw [A5P x hs,D3c,K9 h];simp only [D3P,D3f];rw [A6X t hp.2.2.1,B7D,A3t h1 h2];simp only [D3P,D3f];rw [(C9f hs.1 _).1]
  rfl
 ·show A2 (I3 (plainB (x.Ag.dropWhile fun b=>decide (b.T<N0 t x.W))))<=x.Cap;rw [B24 hsd.1];rw [B24 hs.1] at hc;have:=C1h (fun b:A3=>decide (b.T<N0 t x.W)) (plainB x.Ag);rw [<-B6M] at this;unfold X3 at*
  omega
 ·have hi' :i<(x.Ag.dropWhile fun b=>decide (b.T<N0 t x.W)).length:=hi;have hm:=J0 hi';obtain ⟨b,_,e,_⟩:=A8u (k:=x.K) (c:=x.Cap) hp.2.2.2 hp.2.1;have srt:=(B7x.1 (A3E (hb b e).2.1).1).srt;have a:=B7B tmQ (N0 t x.W) srt _ hm;have hpt:0<=t/\t<=16777216:=by have:=hp.2.2.1;omega
  rw [C0D hpt hp.1] at a;obtain ⟨j,hj,ej⟩:=R9 (A73 hm);have c:=(O4 _ _ _).1 (hv j hj);rw [ej] at c;have a2:t-x.W<(el (x.Ag.dropWhile fun b=>decide (b.T<N0 t x.W)) i).T:=a.2;exact (O4 _ _ _).2 ⟨hpt,hp.1,c.2.2.1,a2,by show (el (x.Ag.dropWhile fun b=>decide (b.T<N0 t x.W)) i).T<=t;omega⟩
theorem B7P {x:B6} {v:Int} (h:B2i x) (hs:T5 x.Ag) (hl:x.Ag.length+1<=1048576) (he:J1 x.Ag+1<=1000) (hv:-4096<=v/\v<=4096):
  A4B x v=some (⟨0,0,0,0, []⟩,5)\/ ∃B,A4B x v=some (⟨x.W,x.K,x.Cap,x.Now,B⟩,0)/\B2i ⟨x.W,x.K,x.Cap,x.Now,B⟩/\T5 B/\J1 B<=J1 x.Ag+1:=by
 obtain ⟨hpar,hbl,hcap,hlive⟩:=id h;obtain ⟨t1,t2⟩:=A7h x.Ag hs;unfold A4B;rw [A5P x hs,D3c,K9 h];simp only [D3P,D3f];rw [D3j (by omega),D3j (by omega)]
 simp only [Bool.or_self,D3f];rw [t1,D3c];have h0:=B6c x.Ag;have hC:=hpar.2.1;rw [B24 hs.1] at hcap⊢
 by_cases hc:X3 x.Ag=x.Cap
 ·rw [D36.2 hc];exact .inl rfl
 ·right;rw [D32.2 hc,D3f];obtain ⟨b,b1,b2,b3⟩:=A8u (k:=x.K) (c:=x.Cap) hpar.2.2.2 hpar.2.1;have hK:=hpar.2.2.2;have ek:A2 (2*x.K)=2*x.K:=by rw [A7]<;>omega
  obtain ⟨R,r1,r2,r3,r4,r5,r6,r7⟩:=C6I (v:=v) (hbl b b2) hs hl he hpar.2.2.1 (fun i hi=>by
   have:=(O4 _ _ _).1 (hlive i hi);omega) hv (by omega)
  have hR:T5 R:=⟨by omega,fun y hy=>by have:=C9d hy;omega⟩
  rw [b1,D3c,ek,r1];refine ⟨R,rfl,⟨hpar,fun b' e' => ?_, ?_,fun i hi=> ?_⟩,hR,r3⟩
  ·have e2:A1a x.K x.Cap=some b' :=e';rw [b2] at e2;cases e2;exact r5
  ·show A2 (I3 (plainB R))<=x.Cap;rw [B24 hR.1];omega
  ·exact r7 (fun T=>E0 x.Now x.W T=true) (fun T hT=>((O4 _ _ _).1 hT).2.2.2.2) ((O4 _ _ _).2 ⟨hpar.2.2.1,hpar.1,hpar.2.2.1,by have:=hpar.1;omega,Int.le_refl _⟩) (fun y hy=>by obtain ⟨j,hj,rfl⟩:=R9 hy;exact hlive j hj) _ (J0 hi)
end Go.Win
namespace Go.Win
open Go.Vc Go.Dec
theorem B8G {β:Type} (lv:β->Int) (B:Int): ∀(m:Nat) (X:List β),(∀x∈X,0<=lv x/\lv x<(m:Int))->(∀j:Int,0<=j->(Y8 lv X j:Int)<=B)->(X.length:Int)<=(m:Int)*B
 |0,X,h,_=>by
  cases X with
  |nil=>simp
  |cons x X=>
   have:=h x (by simp)
   omega
 |m+1,X,h,hB=>by
  have e:=List.length_eq_countP_add_countP (fun x=>lv x==(m:Int)) (l:=X);have ih:=B8G lv B m (X.filter fun x=> !(lv x==(m:Int))) (fun x hx=>by
   have hx' :=List.mem_filter.1 hx;have a:=h x hx'.1;have b:=hx'.2;rw [D3y,D32] at b
   push_cast at a
   omega) (fun j hj=>by
   have:=List.Sublist.countP_le (p:=fun x=>lv x==j) (List.filter_sublist (l:=X) (p:=fun x=> !(lv x==(m:Int))));have:=hB j hj;unfold Y8 at this⊢;omega)
  have a:=hB (m:Int) (by omega)
  unfold Y8 at a;have c:List.countP (fun a=>decide (¬((lv a==(m:Int))=true))) X=(X.filter fun x=> !(lv x==(m:Int))).length:=by
   rw [List.countP_eq_length_filter]
   congr 1
   refine List.filter_congr fun x _=> ?_;cases (lv x==(m:Int))<;>rfl
  rw [c] at e
  push_cast
  rw [Int.add_mul];omega
theorem D04 {l:List A3} {x:A3} (h:x∈l):A0P x<=I3 l:=by
 induction l with
 |nil=>cases h
 |cons y l ih=>
  rw [A2B];have a:=A7a l;have b:=C4a y;rcases List.mem_cons.1 h with e|e
  ·rw [e];omega
  ·have:=ih e;omega
theorem D2e {L b:Nat} (h:(2:Int)^L<2^b):L<b:=by
 rcases Nat.lt_or_ge L b with g|g
 ·exact g
 ·exfalso;rw [C8B g] at h;have a:=A1C b;have c:=A1C (L-b);have:=Int.mul_le_mul_of_nonneg_left (show (1:Int)<=2^(L-b) by omega) (show (0:Int)<=2^b by omega)
  omega
theorem B7h {l:List A3} {k cap:Int} {b:Nat} (h:Z9 l k) (ht:I3 l<=cap) (hb:cap<2^b):(l.length:Int)<=(b:Int)*(k+1):=by
 obtain ⟨ci,cs,cl⟩:=A3E h;refine B8G (fun x:A3=>x.As) (k+1) b l (fun x hx=> ?_) (fun j hj=> ?_)
 ·have a:=cl x hx;refine ⟨a.1, ?_⟩;have m:=D04 hx;unfold A0P at m;rw [if_pos a] at m;have:=D2e (L:=x.As.toNat) (b:=b) (by omega)
  omega
 ·have:=ci.le j hj;rw [if_neg (by omega)] at this
  omega
theorem C8e {k cap:Int} (hk:1<=k/\k<=64) (hc:1<=cap/\cap<=65536): ∃b:Nat,B0e k cap=some ((b:Int)*(k+1))/\1<=b/\cap<2^b:=by
 obtain ⟨b,_,g2,g3,g4,_,g6⟩:=B2z (x:=cap) (by omega) (by omega)
 refine ⟨b, ?_,g3,g6⟩;unfold B0e;have e:A09 k=true:=by unfold A09;simp;omega
 have m:=Int.mul_le_mul (show k+1<=65 by omega) (show (b:Int)<=64 by omega) (by omega) (by decide)
 have m0:=Int.mul_nonneg (a:=k+1) (b:=(b:Int)) (by omega) (by omega)
 simp only [e,D3o,D3D];rw [D3j (by omega),D3f,g2,D3c,A7 (n:=k+1) (by omega) (by omega),A7 (by omega) (by omega),Int.mul_comm]
theorem C4O {n:Nat} {f:Nat->Int} {F:Int} {kk b:Nat} (hk:1<=kk) (h0:∀i,i<n->0<=f i/\f i<=F) (hF:F<2^b) (hc:∀i,i+2<n->((kk:Int)+1)*f (i+2)<(kk:Int)*f i):n<=2*(kk*b)+2:=by
 apply D37;intro hn;have hn:2*(kk*b)+3<=n:=by omega
 generalize hN:kk*b=N at hn
 have kp:(0:Int)<kk:=by omega
 let a:Nat->Int:=fun j=>f (n-3-2*j)
 have step: ∀j,j+1<=N->((kk:Int)+1)*a j<(kk:Int)*a (j+1):=fun j hj=>by
  have:=hc (n-3-2*(j+1)) (by omega)
  rw [show n-3-2*(j+1)+2=n-3-2*j by omega] at this
  exact this
 have nn: ∀j,j<=N->0<=a j/\a j<=F:=fun j hj=>h0 (n-3-2*j) (by omega)
 have a0:1<=a 0:=by
  have h1:=hc (n-3) (by omega)
  have h2:=(h0 (n-3+2) (by omega)).1
  have h3:=Int.mul_nonneg (a:=(kk:Int)+1) (b:=f (n-3+2)) (by omega) h2
  have h4:=(nn 0 (by omega)).1
  rcases Int.lt_or_le 0 (a 0) with g|g
  ·exact g
  ·exfalso;have:a 0=0:=by omega
   have e:f (n-3)=0:=this;rw [e] at h1;omega
 have mono: ∀j,j+1<=N->a j<=a (j+1):=fun j hj=>by
  have s:=step j hj;rw [Int.add_mul,Int.one_mul] at s;have p:=(nn j (by omega)).1
  have:(kk:Int)*a j<(kk:Int)*a (j+1):=by omega
  exact Int.le_of_lt (Int.lt_of_mul_lt_mul_left this (by omega))
 have grow: ∀i d,i+d<=N->(d:Int)*a i<=(kk:Int)*(a (i+d)-a i)/\a i<=a (i+d):=by
  intro i d
  induction d with
  |zero=>intro _;simp
  |succ d ih=>
   intro hd;obtain ⟨g1,g2⟩:=ih (by omega)
   have s:=step (i+d) (by omega)
   have m:=mono (i+d) (by omega)
   rw [show i+(d+1)=i+d+1 by omega]
   rw [Int.add_mul,Int.one_mul] at s;refine ⟨?_,by omega⟩
   rw [Int.mul_sub] at g1⊢
   push_cast
   rw [Int.add_mul,Int.one_mul];omega
 have dbl: ∀t,t<=b->(2:Int)^t<=a (kk*t):=by
  intro t
  induction t with
  |zero=>intro _;rw [Nat.mul_zero,Int.pow_zero];exact a0
  |succ t ih=>
   intro ht;have i1:=ih (by omega)
   have le:kk*(t+1)<=N:=by rw [<-hN];exact Nat.mul_le_mul_left kk ht
   rw [Nat.mul_add,Nat.mul_one] at le⊢;obtain ⟨g1,_⟩:=grow (kk*t) kk le;have g2:=Int.le_of_mul_le_mul_left g1 kp;rw [Int.pow_succ];omega
 have:=dbl b (D3U _);rw [hN] at this;have:=(nn N (D3U _)).2;omega
theorem D11 {k f:Int} (hk:1<=k/\k<=64) (hf:0<f/\f<=9223372036854775807): ∃b:Nat,Y5 k f=some (2*k*(b:Int)+2)/\f<2^b:=by
 obtain ⟨b,_,g2,g3,g4,_,g6⟩:=B2z (x:=f) hf.1 hf.2;refine ⟨b, ?_,g6⟩;have m:=Int.mul_le_mul (show 2*k<=128 by omega) (show (b:Int)<=64 by omega) (by omega) (by decide)
 have m0:=Int.mul_nonneg (a:=2*k) (b:=(b:Int)) (by omega) (by omega)
 unfold Y5;rw [g2,D3c,A7 (n:=2*k) (by omega) (by omega),A7 (n:=2*k*(b:Int)) (by omega) (by omega),A7 (by omega) (by omega)]
theorem C9X {x:B9} (h:A7t x): ∃B,B0h x.Bd x.K x.Cap=some B/\(x.Av.length:Int)<=B:=by
 obtain ⟨a,b2,c⟩:=B9a h;have hp:=h.2.1;have hcap:=hp.2.1;have hk:=hp.2.2.2;have ha:=h.1;have hge:=Z7 x.Bd;obtain ⟨kk,hkk⟩:=Int.eq_ofNat_of_zero_le (show 0<=x.K by omega)
 have near: ∀i,i+2<x.Av.length->(x.K+1)*ofA x.Bd (el x.Av (i+2))<x.K*ofA x.Bd (el x.Av i):=fun i hi=>by
  have p:=a.each _ (J0 (show i<x.Av.length by omega))
  have q:=a.each _ (J0 hi);have rp:=p.rng hcap.2 hge;have rq:=q.rng hcap.2 hge;have g:=b2 i hi;have hn:=C3D ha hk (B2U ha rp.2.1 rp.2.2.1) (B2U ha rq.2.1 rq.2.2.1) (B0x ha hcap.2 p) (B0x ha hcap.2 q);rw [g] at hn;rcases Int.lt_or_le ((x.K+1)*ofA x.Bd (el x.Av (i+2))) (x.K*ofA x.Bd (el x.Av i)) with w|w
  ·exact w
  ·exact absurd (hn.2 w) (by decide)
 have fin: ∀f:Int,0<f->f<=9223372036854775807->(∀m∈x.Av,ofA x.Bd m<=f)-> ∃B,Y5 x.K f=some B/\(x.Av.length:Int)<=B:=fun f f0 f1 hf=>by
  obtain ⟨b,e,hb⟩:=D11 hk ⟨f0,f1⟩;refine ⟨_,e, ?_⟩;rw [hkk] at near;have:=C4O (n:=x.Av.length) (f:=fun i=>ofA x.Bd (el x.Av i)) (kk:=kk) (b:=b) (by omega) (fun i hi=>⟨(B0x ha hcap.2 (a.each _ (J0 hi))).1,hf _ (J0 hi)⟩) hb near
  rw [hkk];have e2:2*(kk:Int)*(b:Int)=((2*(kk*b):Nat):Int):=by push_cast;rw [Int.mul_assoc]
  rw [e2];omega
 have each: ∀m∈x.Av,m.N<=x.Cap/\m.S<=x.Cap*4096/\m.Q<=x.Cap*4096*4096/\m.Be-m.Bf<=8192:=fun m hm=>by
  have p:=a.each m hm;have r:=p.rng hcap.2 hge;have n:=p.cap;obtain ⟨_,f2,_,f4,_⟩:=p.fit;have m1:=Int.mul_le_mul_of_nonneg_left (show m.Be<=4096 from p.hi) (show 0<=m.N by omega)
  omega
 unfold B0h;have e1:N6 x.Bd=true:=by unfold N6;simp;omega
 have e2:G7 x.K=true:=(O5 _).2 hk;simp only [e1,e2,D3o,D3D];rw [D3j (by omega),D3j (by omega)]
 simp only [Bool.or_self,D3f];have:x.Bd=1\/x.Bd=2\/x.Bd=3\/x.Bd=4:=by omega
 rcases this with e|e|e|e
 ·rw [e];exact fin x.Cap (by omega) (by omega) (fun m hm=>by rw [e,D13];exact (each m hm).1)
 ·rw [e,A7 (n:=x.Cap*4096) (by omega) (by omega)]
  exact fin _ (by omega) (by omega) (fun m hm=>by rw [e,C9H];exact (each m hm).2.1)
 ·rw [e,A7 (n:=x.Cap*4096) (by omega) (by omega),A7 (n:=x.Cap*4096*4096) (by omega) (by omega)]
  exact fin _ (by omega) (by omega) (fun m hm=>by rw [e,D14];exact (each m hm).2.2.1)
 ·rw [e];exact fin 8192 (by decide) (by decide) (fun m hm=>by rw [e,D15];exact (each m hm).2.2.2)
theorem C90 {x:C2} (h:B02 x) (hc:x.Cap<=300): ∃B,B0i x.K x.Cap=some B/\(x.Av.length:Int)<=B:=by
 obtain ⟨hp,hm,_⟩:=h;have a:=B5d hp.2.1.2 (by decide) hm
 have l:=(B9P a).2 (by have:=hp.2.1;omega)
 have hcap:=hp.2.1;have hk:=hp.2.2.2;obtain ⟨b,_,g2,g3,g4,_,_⟩:=B2z (x:=x.Cap) (by omega) (by omega)
 have e2:G7 x.K=true:=(O5 _).2 hk;have m:=Int.mul_le_mul (show 12*x.K<=768 by omega) (show 3*(b:Int)+24<=216 by omega) (by omega) (by decide)
 have m0:=Int.mul_le_mul (show 12<=12*x.K by omega) (show 27<=3*(b:Int)+24 by omega) (by decide) (by omega)
 unfold B0i;simp only [e2,D3o,D3D];rw [D3j (by omega),D3j (by omega)]
 simp only [Bool.or_self,D3f];rw [g2,D3c,A7 (n:=12*x.K) (by omega) (by omega),A7 (n:=3*(b:Int)) (by omega) (by omega),A7 (n:=3*(b:Int)+24) (by omega) (by omega),A7 (n:=12*x.K*(3*(b:Int)+24)) (by omega) (by omega),A7 (by omega) (by omega)]
 exact ⟨_,rfl,by omega⟩
theorem C9e {x:B4} (h:A7s x):(x.Ar.length:Int)<=L5 x.W x.Cap:=by
 have hdq:=C6y h;have hc:=h.1.2;have hw:=h.1.1.1;rw [V3];rcases Nat.eq_zero_or_pos x.Ar.length with g|g
 ·split<;>omega
 ·have key: ∀i,i<x.Ar.length->(el x.Ar 0).T+i<=(el x.Ar i).T:=by
   intro i
   induction i with
   |zero=>intro _;omega
   |succ i ih=>
    intro hi;have a:=ih (by omega)
    have b:=hdq.T i (i+1) (by omega) hi
    push_cast
    omega
  have a:=key (x.Ar.length-1) (by omega)
  have b:=(O4 _ _ _).1 (h.2 0 g).1.1;have c:=(O4 _ _ _).1 (h.2 (x.Ar.length-1) (by omega)).1.1
  split<;>omega
theorem D0H {l:List A6} {M:Int} (h:∀x∈l,(x.Aw.Ac.length:Int)<=M):(J1 l:Int)<=l.length*M:=by
 induction l with
 |nil=>simp [J1]
 |cons x l ih=>
  have a:=h x (by simp)
  have b:=ih fun y hy=>h y (by simp [hy])
  rw [A63,D3v]
  push_cast
  rw [Int.add_mul];omega
theorem C9P {x:B6} (h:B2i x) (hs:T5 x.Ag): ∃B,B0l x.K x.Cap=some B/\(J1 x.Ag:Int)<=B:=by
 obtain ⟨hp,hb,ht,_⟩:=h;have hcap:=hp.2.1;have hk:=hp.2.2.2;obtain ⟨sz,_,s2,s3,s4⟩:=A8u (k:=x.K) (c:=x.Cap) hk hcap;obtain ⟨b,_,g2,g3,g4,_,g6⟩:=B2z (x:=x.Cap) (by omega) (by omega)
 have hbl:=hb sz s2;rw [B24 hs.1] at ht;have n:=B7h hbl.2.1 (cap:=x.Cap) (b:=b) ht g6;rw [A0j] at n;have e:=D0H (l:=x.Ag) (M:=sz+1) (fun y hy=>by obtain ⟨i,hi,rfl⟩:=R9 hy;exact (hbl.2.2 i hi).2.2.1)
 have m1:=Int.mul_le_mul_of_nonneg_right n (show 0<=sz+1 by omega)
 have q1:=Int.mul_le_mul (show 2*x.K+1<=129 by omega) (show (b:Int)<=64 by omega) (by omega) (by decide)
 have q0:=Int.mul_nonneg (a:=2*x.K+1) (b:=(b:Int)) (by omega) (by omega)
 have r1:=Int.mul_le_mul q1 (show sz+1<=65537 by omega) (by omega) (by decide)
 have r0:=Int.mul_nonneg q0 (show 0<=sz+1 by omega)
 unfold B0l;rw [s2,D3c,D32.2 (show sz≠0 by omega),D3f,g2,D3c,D3c]
 rw [A7 (n:=2*x.K) (by omega) (by omega),A7 (n:=2*x.K+1) (by omega) (by omega),A7 (n:=(2*x.K+1)*(b:Int)) (by omega) (by omega),A7 (n:=sz+1) (by omega) (by omega),A7 (by omega) (by omega)]
 refine ⟨_,rfl, ?_⟩;rw [Int.mul_comm (2*x.K+1) (b:Int)];omega
end Go.Win
namespace Go.Win
open Go.Vc Go.Dec
inductive DT (R:Type) where
 |done (r:R)
 |ask (m:Int) (k:Int->DT R)
inductive RR (R:Type) where
 |ok (r:R) (a:Nat)
 |need (m:Int) (a:Nat)
 |bad (m:Int) (a:Nat)
def run {R:Type}:DT R->List Int->Nat->RR R
 | .done r,_,a=> .ok r a
 | .ask m k,ds,a=>match ds[a]? with
  |none=> .need m a
  |some d=>if 0<=d/\d<m then run (k d) ds (a+1) else .bad m a
def after {R:Type}:DT R->List Int->Option (DT R)
 |t, []=>some t
 | .done _,_::_=>none
 | .ask m k,d::ds=>if 0<=d/\d<m then after (k d) ds else none
def A5N {R:Type}:Nat->DT R->Prop
 |_, .done _=>True
 |0, .ask _ _=>False
 |n+1, .ask m k=>1<=m/\ ∀d,0<=d->d<m->A5N n (k d)
def A8F {R S:Type}:DT R->(R->DT S)->DT S
 | .done r,f=>f r
 | .ask m k,f=> .ask m fun d=>A8F (k d) f
def B8c {R S:Type} (x:RR R) (f:R->Nat->RR S):RR S:=match x with
 | .ok r a=>f r a
 | .need m a=> .need m a
 | .bad m a=> .bad m a
theorem B1i {R:Type} (m:Int) (k:Int->DT R) (ds:List Int) (a:Nat):run (.ask m k) ds a=match ds[a]? with
  |none=> .need m a
  |some d=>if 0<=d/\d<m then run (k d) ds (a+1) else .bad m a:=by
 simp only [run]
theorem run_bind {R S:Type} (f:R->DT S) (ds:List Int) (t:DT R): ∀a,run (A8F t f) ds a=B8c (run t ds a) fun r a' =>run (f r) ds a' :=by
 induction t with
 |done r=>intro a;rfl
 |ask m k ih=>
  intro a;rw [B1i];show run (.ask m fun d=>A8F (k d) f) ds a=_;rw [B1i];cases hd:ds[a]? with
  |none=>rfl
  |some d=>
   simp only;split
   ·exact ih d (a+1)
   ·rfl
theorem B5H {R:Type}: ∀(ds:List Int) (t t' :DT R) (pre:List Int),after t ds=some t' ->run t (pre++ds) pre.length=run t' (pre++ds) (pre++ds).length
 | [],t,t',pre,h=>by
  unfold after at h;cases t<;>(simp at h;subst h;simp)
 |d::ds, .done r,t',pre,h=>by simp [after] at h
 |d::ds, .ask m k,t',pre,h=>by
  unfold after at h;split at h
  ·rename_i hc;have:=B5H ds (k d) t' (pre++ [d]) h;simp only [D3G,List.cons_append,List.nil_append,D3i,D3v,D3I,Nat.zero_add] at this;rw [show run (.ask m k) (pre++d::ds) pre.length=run (k d) (pre++d::ds) (pre.length+1) by
    conv=>lhs;unfold run
    have hg:(pre++d::ds)[pre.length]? =some d:=by simp
    rw [hg];simp only [if_pos hc]]
   rw [this];simp only [D3i,D3v]
  ·cases h
theorem B7R {R:Type} {t:DT R} {ds:List Int} {r:R} (h:after t ds=some (.done r)):run t ds 0= .ok r ds.length:=by
 have:=B5H ds t _ [] h;simp only [List.nil_append,D3I] at this;rw [this];rfl
theorem D1i {R:Type} {t:DT R} {ds:List Int} {m:Int} {k:Int->DT R} (h:after t ds=some (.ask m k)):run t ds 0= .need m ds.length:=by
 have:=B5H ds t _ [] h;simp only [List.nil_append,D3I] at this;rw [this];unfold run;rw [D39 (D3U _)]
theorem B4x {R:Type}: ∀(ds:List Int) (t t' :DT R) (d:Int),after t ds=some t' ->after t (ds++ [d])=after t' [d]
 | [],t,t',d,h=>by
  unfold after at h;cases t<;>(simp at h;subst h;rfl)
 |e::ds, .done r,t',d,h=>by simp [after] at h
 |e::ds, .ask m k,t',d,h=>by
  unfold after at h;split at h
  ·rename_i hc;have:=B4x ds (k e) t' d h;show after (.ask m k) (e::(ds++ [d]))=_
   conv=>lhs;unfold after
   rw [if_pos hc,this]
  ·cases h
theorem B75 {R:Type}: ∀(ds:List Int) (n:Nat) (t t' :DT R),A5N n t->after t ds=some t' ->ds.length<=n/\A5N (n-ds.length) t'
 | [],n,t,t',hf,h=>by
  unfold after at h;cases t<;>(simp at h;subst h;simp;exact hf)
 |d::ds,n, .done r,t',hf,h=>by simp [after] at h
 |d::ds,0, .ask m k,t',hf,h=>by simp [A5N] at hf
 |d::ds,n+1, .ask m k,t',hf,h=>by
  unfold after at h;split at h
  ·rename_i hc;have:=B75 ds n (k d) t' (hf.2 d hc.1 hc.2) h;simp only [D3v];refine ⟨by omega, ?_⟩
   rw [show n+1-(ds.length+1)=n-ds.length by omega]
   exact this.2
  ·cases h
theorem B4T {R S:Type} (f:R->DT S) (j:Nat) (hf:∀r,A5N j (f r)): ∀(n:Nat) (t:DT R),A5N n t->A5N (n+j) (A8F t f)
 |n, .done r,_=>by
  have mono: ∀(t:DT S) (a b:Nat),a<=b->A5N a t->A5N b t:=by
   intro t
   induction t with
   |done r=>intro a b _ _;cases b<;>trivial
   |ask m k ih=>
    intro a b hab h;cases a with
    |zero=>exact h.elim
    |succ a=>
     cases b with
     |zero=>omega
     |succ b=>exact ⟨h.1,fun d h0 h1=>ih d a b (by omega) (h.2 d h0 h1)⟩
  exact mono _ j _ (by omega) (hf r)
 |0, .ask m k,h=>h.elim
 |n+1, .ask m k,h=>by
  show A5N (n+1+j) (.ask m _);rw [show n+1+j=(n+j)+1 by omega]
  exact ⟨h.1,fun d h0 h1=>B4T f j hf n (k d) (h.2 d h0 h1)⟩
def tkT (x:A5) (v:Int) (links:List D9):Bool->DT (Option A5)
 |false=> .done (some ⟨x.W,x.Cap,x.I+1,x.Ba,links⟩)
 |true=>if ((links++ [D9.mk (x.I+1) v]).length:Int)>x.Cap then .done none else
   .ask x.W fun d=> .done (some ⟨x.W,x.Cap,x.I+1,x.I+1+1+d,links++ [D9.mk (x.I+1) v]⟩)
def A9E (x:A5):Bool:=decide (x.I>0)&&(x.Ba==x.I+1)
def B3q (x:A5):Bool:=match x.Au with
 | []=>false
 |l::_=>l.I==x.I+1-x.W
def A2V (x:A5) (v:Int):DT (Option A5):=
 if B3q x then tkT x v (x.Au.drop 1) (A9E x) else
  .ask (if x.I+1<=x.W then x.I+1 else x.W) fun d=>if d=0 then tkT x v [] true else tkT x v x.Au (A9E x)
theorem B9E (x:A5) (hW:1<=x.W) (v:Int) (links:List D9) (b:Bool):A5N 1 (tkT x v links b):=by
 cases b with
 |false=>trivial
 |true=>
  unfold tkT
  by_cases h:((links++ [D9.mk (x.I+1) v]).length:Int)>x.Cap
  ·rw [if_pos h];trivial
  ·rw [if_neg h];exact ⟨hW,fun d _ _=>trivial⟩
theorem C7R (x:A5) (hW:1<=x.W) (hI:0<=x.I) (v:Int):A5N 2 (A2V x v):=by
 have up: ∀t:DT (Option A5),A5N 1 t->A5N 2 t:=by
  intro t h;cases t with
  |done r=>trivial
  |ask m k=>
   refine ⟨h.1,fun d h0 h1=> ?_⟩;have:=h.2 d h0 h1;cases hk:k d with
   |done r=>trivial
   |ask m' k' =>rw [hk] at this;exact this.elim
 unfold A2V;split
 ·exact up _ (B9E x hW v _ _)
 ·refine ⟨by split<;>omega,fun d _ _=> ?_⟩
  show A5N 1 (if d=0 then _ else _)
  split
  ·exact B9E x hW v _ _
  ·exact B9E x hW v _ _
def B6h:A5:=⟨0,0,0,0, []⟩
def C63:RR (Option A5)->Option (A5×Int×Int×Int)
 | .ok (some c) a=>some (c,(a:Int),0,0)
 | .ok none _=>some (B6h,0,0,9)
 | .need m a=>some (B6h,(a:Int),m,8)
 | .bad m a=>some (B6h,(a:Int),m,8)
theorem B7K (ds:List Int) (a:Nat) (m:Int) (hm:1<=m) (hd:ds.length<=maxLen):
  A1J ds (a:Int) m=match ds[a]? with
   |none=>(0,0,8)
   |some d=>if 0<=d/\d<m then (d,((a+1:Nat):Int),0) else (0,0,8):=by
 unfold A1J;rw [if_neg (by omega),D3S]
 cases h:ds[a]? with
 |none=>rfl
 |some d=>
  have ha:=(D3m.1 h).1;simp only
  by_cases hc:0<=d/\d<m
  ·rw [if_pos hc,if_neg (by omega),N7 ha hd];rfl
  ·rw [if_neg hc,if_pos (by omega)]
theorem B44 (x:A5) (v:Int) (ds:List Int) (a:Nat) (links:List D9) (b:Bool) (hd:ds.length<=maxLen) (hI:0<=x.I) (hI2:x.I<1099511627776) (hW:1<=x.W) (hW2:x.W<=1048576) (hl:links.length<=64):
  U9 x v ds (a:Int) links b=C63 (run (tkT x v links b) ds a):=by
 have e1:A2 (x.I+1)=x.I+1:=by rw [A7]<;>omega
 have e2:A2 (x.I+1+1)=x.I+1+1:=by rw [A7]<;>omega
 unfold U9;cases b with
 |false=>
  rw [D3f];unfold A6s;rw [e1]
  rfl
 |true=>
  rw [D3g,e1,e2];have hk:decide ((links.length+ [(D9.mk (x.I+1) v)].length)*16<=140737488355328)=true:=by
   rw [D3e,D3R];omega
  rw [hk,O7];unfold tkT
  by_cases hc:((links++ [(D9.mk (x.I+1) v)]).length:Int)>x.Cap
  ·rw [D3h hc,if_pos hc];rfl
  ·rw [D3j hc,if_neg hc,D3f,B1h,B7K ds a x.W hW hd];simp only [D3c];unfold run;cases h:ds[a]? with
   |none=>rfl
   |some d=>
    simp only
    by_cases hr:0<=d/\d<x.W
    ·rw [if_pos hr,if_pos hr];have e3:A2 (x.I+1+1+d)=x.I+1+1+d:=by rw [A7]<;>omega
     simp only [D3P,D3f,e3];unfold A6s;rw [e1]
     rfl
    ·rw [if_neg hr,if_neg hr];rfl
theorem C4c (x:A5) (v:Int) (ds:List Int) (a:Nat) (hv:F0 v=true) (hd:ds.length<=maxLen) (hI:0<=x.I) (hI2:x.I<1099511627776) (hW:1<=x.W) (hW2:x.W<=1048576) (hl:x.Au.length<=64):
  A5r x v ds (a:Int)=C63 (run (A2V x v) ds a):=by
 have e1:A2 (x.I+1)=x.I+1:=by rw [A7]<;>omega
 have e2:A2 (x.I+1-x.W)=x.I+1-x.W:=by rw [A7]<;>omega
 have im:L5 (x.I+1) x.W=if x.I+1<=x.W then x.I+1 else x.W:=by
  unfold L5;split<;>split<;>omega
 have c1:decide ((a:Int)<0)=false:=by rw [D3t];omega
 have c2:(x.I==1099511627776)=false:=by rw [D32];omega
 have hk:decide ((([]:List D9).length+x.Au.length)*16<=140737488355328)=true:=by
  rw [D3e,D3I];omega
 unfold A5r;simp only [hv,D3o,D3f,c1,c2,hk,O7,List.nil_append,e1,e2,im];have tk:(decide (x.I>0)&&(x.Ba==x.I+1))=A9E x:=rfl;rw [tk];have nx:1<=(if x.I+1<=x.W then x.I+1 else x.W):=by split<;>omega
 unfold A2V;cases hL:x.Au with
 |nil=>
  have ex:B3q x=false:=by unfold B3q;rw [hL]
  rw [ex];simp only [D3I,Int.ofNat_zero,D3F,gt_iff_lt,decide_false,E9,D3c,D3H,D3f,Bool.false_eq_true,if_false];rw [B1h,B7K ds a _ nx hd];simp only [D3c]
  conv=>rhs;unfold run
  cases h:ds[a]? with
  |none=>rfl
  |some d=>
   simp only
   by_cases hr:0<=d/\d<(if x.I+1<=x.W then x.I+1 else x.W)
   ·rw [if_pos hr,if_pos hr];simp only [D3P,D3f]
    by_cases hz:d=0
    ·subst hz;simp only [beq_self_eq_true,D3g,if_true];exact B44 x v ds (a+1) [] true hd hI hI2 hW hW2 (by simp)
    ·have c3:(d==0)=false:=by rw [D32];exact hz
     rw [c3,D3f,if_neg hz];exact B44 x v ds (a+1) [] (A9E x) hd hI hI2 hW hW2 (by simp)
   ·rw [if_neg hr,if_neg hr];rfl
 |cons l ls=>
  have c4:decide ((((l::ls).length:Nat):Int)>0)=true:=by rw [D3e,D3v];omega
  have i0:D0 (l::ls) 0=some l:=rfl;have ex:B3q x=(l.I==x.I+1-x.W):=by unfold B3q;rw [hL]
  rw [ex];simp only [c4,E4,i0,D3c,D3N];rw [hL] at hl;cases he:(l.I==x.I+1-x.W) with
  |true=>
   have hk2:decide ((0:Int)<=1/\(1:Int)<=((l::ls).length:Int))=true:=by rw [D3e,D3v];omega
   rw [D3g,hk2,O7];simp only [if_true];exact B44 x v ds a _ (A9E x) hd hI hI2 hW hW2 (by simp at hl⊢;omega)
  |false=>
   rw [D3f,B1h,B7K ds a _ nx hd];simp only [D3c,Bool.false_eq_true,if_false]
   conv=>rhs;unfold run
   cases h:ds[a]? with
   |none=>rfl
   |some d=>
    simp only
    by_cases hr:0<=d/\d<(if x.I+1<=x.W then x.I+1 else x.W)
    ·rw [if_pos hr,if_pos hr];simp only [D3P,D3f]
     by_cases hz:d=0
     ·subst hz;simp only [beq_self_eq_true,D3g,if_true];exact B44 x v ds (a+1) [] true hd hI hI2 hW hW2 (by simp)
     ·have c3:(d==0)=false:=by rw [D32];exact hz
      rw [c3,D3f,if_neg hz];exact B44 x v ds (a+1) (l::ls) (A9E x) hd hI hI2 hW hW2 hl
    ·rw [if_neg hr,if_neg hr];rfl
end Go.Win
namespace Go.Win
open Go.Vc Go.Dec
def B4A (W:Int):Int->List D9->Prop
 |_, []=>True
 |a,l::ls=>a<l.I/\l.I<=a+W/\B4A W l.I ls
def A2N:Int->List D9->Int
 |a, []=>a
 |_,l::ls=>A2N l.I ls
theorem C5r (W:Int): ∀(ls:List D9) (l:D9),B4A W l.I ls-> ∀i (hi:i<ls.length),((l::ls)[i]'(by simp;omega)).I<ls[i].I/\ls[i].I<=((l::ls)[i]'(by simp;omega)).I+W
 | [],_,_,i,hi=>by simp at hi
 |m::ls,l,h,i,hi=>by
  cases i with
  |zero=>exact ⟨h.1,h.2.1⟩
  |succ i=>
   have:=C5r W ls m h.2.2 i (by simpa using hi)
   simpa using this
theorem C0R: ∀(ls:List D9) (l:D9),((l::ls)[ls.length]'(by simp)).I=A2N l.I ls
 | [],l=>rfl
 |m::ls,l=>by
  have:=C0R ls m;simpa [A2N] using this
theorem B79 (W:Int): ∀(ls:List D9) (a:Int) (n:D9),B4A W a ls->A2N a ls<n.I->n.I<=A2N a ls+W->B4A W a (ls++ [n])
 | [],a,n,_,h1,h2=>⟨h1,h2,trivial⟩
 |l::ls,a,n,h,h1,h2=>⟨h.1,h.2.1,B79 W ls l.I n h.2.2 h1 h2⟩
theorem B46: ∀(ls:List D9) (a:Int) (n:D9),A2N a (ls++ [n])=n.I
 | [],_,_=>rfl
 |l::ls,_,n=>B46 ls l.I n
theorem C2f (W:Int): ∀(ls:List D9) (a:Int),B4A W a ls-> ∀p∈ls,a<p.I
 | [],_,_,p,hp=>by simp at hp
 |l::ls,a,h,p,hp=>by
  rcases List.mem_cons.1 hp with rfl|hp
  ·exact h.1
  ·have:=C2f W ls l.I h.2.2 p hp;have:=h.1;omega
theorem C3o (W b:Int): ∀(ls:List D9) (a:Int),a<=b->(∀p∈ls,p.I<=b)->A2N a ls<=b
 | [],_,h,_=>h
 |l::ls,_,_,h=>C3o W b ls l.I (h l (by simp)) fun p hp=>h p (by simp [hp])
def A8a (x:A5) (p:D9):Prop:= -4096<=p.V/\p.V<=4096/\1<=p.I/\p.I<=x.I/\x.I-x.W<p.I
def B2q (x:A5):Prop:=1<=x.W/\x.W<=1048576/\1<=x.Cap/\x.Cap<=64/\0<=x.I/\x.I<=1099511627776/\(x.Au.length:Int)<=x.Cap
def VC (x:A5):Prop:=B2q x/\((x.I=0/\x.Au= []/\x.Ba=0)\/
 (x.I≠0/\ ∃l ls,x.Au=l::ls/\(∀p∈x.Au,A8a x p)/\B4A x.W l.I ls/\x.I<x.Ba/\x.Ba<=A2N l.I ls+x.W))
theorem B7V (x:A5) (h:VC x):L3 x=some 0:=by
 obtain ⟨r,h⟩:=h;unfold B2q at r;have hl:x.Au.length<=maxLen:=by rw [F8];omega
 unfold L3;rw [C6O x hl];have c0:(((((((decide (x.W<(1:Int)))||(decide (x.W>(1048576:Int))))||(decide (x.Cap<(1:Int))))||(decide (x.Cap>(64:Int))))||(decide (x.I<(0:Int))))||(decide (x.I>(1099511627776:Int))))||(decide ((x.Au.length:Int)>x.Cap)))=false:=by
  simp only [D3M,D3t];omega
 rw [c0,D3f];rcases h with ⟨h1,h2,h3⟩|⟨h1,l,ls,h2,h3,h4,h5,h6⟩
 ·simp [h1,h2,h3]
 ·have c1:(x.I==0)=false:=by rw [D32];exact h1
  have hp:0<x.Au.length:=by rw [h2];simp
  have c2:((x.Au.length:Int)==0)=false:=by rw [D32];omega
  rw [c1,c2,D3f,D3f];have hb:(List.range x.Au.length).any (B3i x)=false:=by
   rw [D3s,ne_eq,A6W];rintro ⟨i,hi,hbad⟩;unfold B3i at hbad;rw [H6 hi] at hbad;simp only at hbad;have ok:=h3 x.Au[i] (D31 hi);unfold A8a at ok;have w:A2 (x.I-x.W)=x.I-x.W:=by rw [A7]<;>omega
   rw [w] at hbad
   by_cases h0:0<i
   ·have hi2:i-1<x.Au.length:=by omega
    rw [H6 hi2] at hbad;have ok2:=h3 x.Au[i-1] (D31 hi2);unfold A8a at ok2;have w2:A2 (x.Au[i-1].I+x.W)=x.Au[i-1].I+x.W:=by rw [A7]<;>omega
    have hls:i-1<ls.length:=by
     have:x.Au.length=ls.length+1:=by rw [h2];rfl
     omega
    have g:=C5r x.W ls l h4 (i-1) hls;have e1:x.Au[i-1]=(l::ls)[i-1]'(by simp;omega):=by simp only [h2]
    have e2:x.Au[i]=ls[i-1]:=by
     have:x.Au[i]=(l::ls)[i]'(by simp;omega):=by simp only [h2]
     rw [this];obtain ⟨j,rfl⟩: ∃j,i=j+1:=⟨i-1,by omega⟩
     simp
    rw [<-e1,<-e2] at g;simp only [w2,D3n,D3k,D3e] at hbad;omega
   ·simp only [D3n,D3k,D3e,h0] at hbad;simp only [false_and,or_false] at hbad;omega
  rw [hb,D3f];unfold C6g;rw [B07 hp hl,I2,H6 (show x.Au.length-1<x.Au.length by omega)]
  have el:(x.Au[x.Au.length-1]'(by omega)).I=A2N l.I ls:=by
   rw [<-C0R ls l];have e:x.Au.length-1=ls.length:=by rw [h2];simp
   simp only [h2,D3v,D3T]
  have c3:decide (x.Ba<=x.I)=false:=by rw [D3t];omega
  have lr:=h3 _ (D31 (show x.Au.length-1<x.Au.length by omega))
  unfold A8a at lr;have w3:A2 ((x.Au[x.Au.length-1]'(by omega)).I+x.W)=A2N l.I ls+x.W:=by rw [A7]<;>omega
  have c4:decide (x.Ba>A2N l.I ls+x.W)=false:=by rw [D3t];omega
  simp only [c3,D3p,E4,D3c,w3,c4,Bool.or_self,D3f]
def B3g {R:Type} (P:R->Prop):DT R->Prop
 | .done r=>P r
 | .ask m k=> ∀d,0<=d->d<m->B3g P (k d)
theorem D1h {R:Type} {P:R->Prop} (ds:List Int) (t:DT R) (h:B3g P t): ∀a r a',run t ds a= .ok r a' ->P r:=by
 induction t with
 |done r0=>
  intro a r a' he;have:r0=r:=by unfold run at he;cases he;rfl
  exact this▸h
 |ask m k ih=>
  intro a r a' he;rw [B1i] at he;cases hd:ds[a]? with
  |none=>rw [hd] at he;cases he
  |some d=>
   rw [hd] at he;simp only at he;split at he
   ·rename_i hc;exact ih d (h d hc.1 hc.2) _ _ _ he
   ·cases he
def C6Z (x:A5) (v:Int) (o:Option A5):Prop:= ∀c,o=some c->
 VC c/\c.I=x.I+1/\c.W=x.W/\c.Cap=x.Cap/\ ∀p∈c.Au,p∈x.Au\/p=⟨x.I+1,v⟩
theorem B9e (x:A5) (v:Int) (h:VC x) (hv:-4096<=v/\v<=4096) (hI:x.I<1099511627776) (links:List D9)
  (hs:∀p∈links,p∈x.Au) (hlive:∀p∈links,x.I+1-x.W<p.I/\A8a x p)
  (hasc:links= []\/ ∃l ls,links=l::ls/\B4A x.W l.I ls/\x.I+1<=A2N l.I ls+x.W):
  B3g (C6Z x v) (tkT x v links true):=by
 have r:=h.1;unfold B2q at r;unfold tkT
 by_cases hc:((links++ [D9.mk (x.I+1) v]).length:Int)>x.Cap
 ·rw [if_pos hc];intro c hcc;cases hcc
 ·rw [if_neg hc];intro d h0 h1 c hcc;cases hcc;refine ⟨⟨⟨r.1,r.2.1,r.2.2.1,r.2.2.2.1,by show 0<=x.I+1;omega,by show x.I+1<=_;omega,by simpa using hc⟩, .inr ⟨by show x.I+1≠0;omega, ?_⟩⟩,rfl,rfl,rfl, ?_⟩
  ·have all: ∀p∈links++ [D9.mk (x.I+1) v],A8a ⟨x.W,x.Cap,x.I+1,x.I+1+1+d,links++ [D9.mk (x.I+1) v]⟩ p:=by
    intro p hp;rcases D3Y.1 hp with hp|hp
    ·have h2:=hlive p hp;unfold A8a at h2⊢;simp only;omega
    ·simp only [List.mem_singleton] at hp;subst hp;unfold A8a;simp only;omega
   rcases hasc with rfl|⟨l,ls,rfl,h2,h3⟩
   ·exact ⟨D9.mk (x.I+1) v, [],rfl,all,trivial,by show x.I+1<x.I+1+1+d;omega,by show x.I+1+1+d<=x.I+1+x.W;omega⟩
   ·have hle:A2N l.I ls<=x.I:=C3o x.W x.I ls l.I (hlive l (by simp)).2.2.2.2.1 fun p hp=>(hlive p (by simp [hp])).2.2.2.2.1
    refine ⟨l,ls++ [D9.mk (x.I+1) v],rfl,all,B79 _ _ _ _ h2 (by show _<x.I+1;omega) (by show x.I+1<=_;exact h3),by show x.I+1<x.I+1+1+d;omega, ?_⟩
    rw [B46];show x.I+1+1+d<=x.I+1+x.W;omega
  ·intro p hp;rcases D3Y.1 hp with hp|hp
   ·exact .inl (hs p hp)
   ·simp only [List.mem_singleton] at hp;exact .inr hp
theorem C8S (x:A5) (v:Int) (h:VC x) (hI:x.I<1099511627776) (l:D9) (ls links:List D9) (hl:links=l::ls)
  (hs:∀p∈links,p∈x.Au) (hlen:(links.length:Int)<=x.Cap) (hlive:∀p∈links,x.I+1-x.W<p.I/\A8a x p) (hasc:B4A x.W l.I ls)
  (hn:x.I+1<x.Ba) (hn2:x.Ba<=A2N l.I ls+x.W):B3g (C6Z x v) (tkT x v links false):=by
 have r:=h.1;unfold B2q at r;intro c hcc;cases hcc;refine ⟨⟨⟨r.1,r.2.1,r.2.2.1,r.2.2.2.1,by show 0<=x.I+1;omega,by show x.I+1<=_;omega,hlen⟩, .inr ⟨by show x.I+1≠0;omega,l,ls,hl, ?_,hasc,hn,hn2⟩⟩,rfl,rfl,rfl,fun p hp=> .inl (hs p hp)⟩
 intro p hp;have h2:=hlive p hp;unfold A8a at h2⊢;simp only;omega
theorem C7g (x:A5) (v:Int) (h:VC x) (hv:-4096<=v/\v<=4096) (hI:x.I<1099511627776):B3g (C6Z x v) (A2V x v):=by
 have r:=h.1;unfold B2q at r;unfold A2V;rcases h.2 with ⟨h1,h2,h3⟩|⟨h1,l,ls,h2,h3,h4,h5,h6⟩
 ·have ex:B3q x=false:=by unfold B3q;rw [h2]
  rw [ex];simp only [Bool.false_eq_true,if_false];intro d h0 hd;have:d=0:=by
   rw [if_pos (by omega)] at hd
   omega
  subst this;simp only [if_true];exact B9e x v h hv hI [] (by simp) (by simp) (.inl rfl)
 ·have ol:=h3 l (by rw [h2];simp)
  unfold A8a at ol;have ex:B3q x=(l.I==x.I+1-x.W):=by unfold B3q;rw [h2]
  rw [ex];cases he:(l.I==x.I+1-x.W) with
  |true=>
   rw [D36] at he;simp only [if_true,h2,List.drop_succ_cons,List.drop_zero];have live: ∀p∈ls,x.I+1-x.W<p.I/\A8a x p:=fun p hp=>⟨by have:=C2f _ _ _ h4 p hp;omega,h3 p (by rw [h2];simp [hp])⟩
   have sub: ∀p∈ls,p∈x.Au:=fun p hp=>by rw [h2];simp [hp]
   cases ht:A9E x with
   |true=>
    unfold A9E at ht;simp only [D3k,D3e,D36] at ht;refine B9e x v h hv hI ls sub live ?_;cases ls with
    |nil=>exact .inl rfl
    |cons m ms=>exact .inr ⟨m,ms,rfl,h4.2.2,by show x.I+1<=A2N m.I ms+x.W;have:x.Ba<=A2N m.I ms+x.W:=h6;omega⟩
   |false=>
    unfold A9E at ht;simp only [D33,D3t,D32] at ht;have hlen:x.Au.length=ls.length+1:=by rw [h2];rfl
    cases ls with
    |nil=>
     have:x.Ba<=l.I+x.W:=h6;omega
    |cons m ms=>exact C8S x v h hI m ms _ rfl sub (by simp at hlen⊢;omega) live h4.2.2 (by omega) h6
  |false=>
   rw [D32] at he;simp only [Bool.false_eq_true,if_false];intro d h0 hd
   by_cases hz:d=0
   ·simp only [hz,if_true];exact B9e x v h hv hI [] (by simp) (by simp) (.inl rfl)
   ·simp only [hz,if_false];have live: ∀p∈x.Au,x.I+1-x.W<p.I/\A8a x p:=by
     intro p hp;refine ⟨?_,h3 p hp⟩;rw [h2] at hp;rcases List.mem_cons.1 hp with rfl|hp
     ·omega
     ·have:=C2f _ _ _ h4 p hp;omega
    cases ht:A9E x with
    |true=>
     unfold A9E at ht;simp only [D3k,D3e,D36] at ht;exact B9e x v h hv hI x.Au (fun p hp=>hp) live (.inr ⟨l,ls,h2,h4,by omega⟩)
    |false=>
     unfold A9E at ht;simp only [D33,D3t,D32] at ht;exact C8S x v h hI l ls _ h2 (fun p hp=>hp) r.2.2.2.2.2.2 live h4 (by omega) h6
def B5k:RR (Option A5)->A5×Int×Int
 | .ok (some c) a=>(c,(a:Int),0)
 | .ok none _=>(B6h,0,9)
 | .need _ _=>(B6h,0,8)
 | .bad _ _=>(B6h,0,8)
theorem C4m {v:Int} (hv:-4096<=v/\v<=4096):F0 v=true:=by
 unfold F0;simp only [D3k,D3e];omega
theorem C5o (x:A5) (v:Int) (ds:List Int) (a:Nat) (h:VC x) (hv:-4096<=v/\v<=4096) (hI:x.I<1099511627776) (hd:ds.length<=maxLen):
  A6Z x v ds (a:Int)=some (B5k (run (A2V x v) ds a)):=by
 have r:=h.1;unfold B2q at r;have hl:x.Au.length<=maxLen:=by rw [F8];omega
 obtain ⟨q,e1,e2⟩:=D1A x v ds (a:Int) hl hd;rw [e1,<-e2];unfold B5w;rw [<-A6a x hl,B7V x h];simp only [D3c,D3P,D3f];rw [C4c x v ds a (C4m hv) hd (by omega) hI (by omega) (by omega) (by omega)]
 cases run (A2V x v) ds a with
 |ok o a' =>cases o<;>rfl
 |need m a' =>rfl
 |bad m a' =>rfl
theorem C9V {R:Type} (ds:List Int) (t:DT R): ∀a m a',run t ds a= .need m a' ->ds.length<=a' :=by
 induction t with
 |done r0=>intro a m a' he;unfold run at he;cases he
 |ask m k ih=>
  intro a m' a' he;rw [B1i] at he;cases hd:ds[a]? with
  |none=>
   rw [hd] at he;cases he;exact List.getElem?_eq_none_iff.1 hd
  |some d=>
   rw [hd] at he;simp only at he;split at he
   ·exact ih d _ _ _ he
   ·cases he
theorem D1j {R:Type} (ds:List Int) (t:DT R): ∀a m a',run t ds a= .bad m a' ->a' <ds.length:=by
 induction t with
 |done r0=>intro a m a' he;unfold run at he;cases he
 |ask m k ih=>
  intro a m' a' he;rw [B1i] at he;cases hd:ds[a]? with
  |none=>rw [hd] at he;cases he
  |some d=>
   rw [hd] at he;simp only at he;split at he
   ·exact ih d _ _ _ he
   ·cases he;exact (D3m.1 hd).1
def B2j {R:Type}:RR R->Int×Bool
 | .need m _=>(m,true)
 |_=>(0,false)
theorem C8k (x:A5) (v:Int) (ds:List Int) (a:Nat) (h:VC x) (hv:-4096<=v/\v<=4096) (hI:x.I<1099511627776) (hd:ds.length<=maxLen):
  A51 x v ds (a:Int)=some (B2j (run (A2V x v) ds a)):=by
 have r:=h.1;unfold B2q at r;have hl:x.Au.length<=maxLen:=by rw [F8];omega
 obtain ⟨q,e1,e2⟩:=C9D x v ds (a:Int) hl hd;rw [e1,<-e2];unfold B2o;rw [<-A6a x hl,B7V x h];simp only [D3c,D3P,D3f];rw [C4c x v ds a (C4m hv) hd (by omega) hI (by omega) (by omega) (by omega)]
 cases he:run (A2V x v) ds a with
 |ok o a' =>cases o<;>rfl
 |need m a' =>
  have:=C9V ds _ _ _ _ he;have c:decide ((a' :Int)<(ds.length:Int))=false:=by rw [D3t];omega
  simp only [C63,D3c,D3P,c,Bool.or_self,D3f]
  rfl
 |bad m a' =>
  have:=D1j ds _ _ _ _ he;have c:decide ((a' :Int)<(ds.length:Int))=true:=by rw [D3e];omega
  simp only [C63,D3c,D3P,c,D3D,D3g]
  rfl
end Go.Win
namespace Go.Win
open Go.Vc Go.Dec
theorem C8R (L:List Int) (At:Nat) (m:Int) (hm:1<=m) (hm2:m<=4611686018427387904) (hL:L.length<=maxLen) (hA:At<=L.length):
  ∃d At',A44 ⟨L,(At:Int)⟩ m=some (d,⟨L,((At' :Nat):Int)⟩)/\0<=d/\d<m/\At' <=L.length:=by
 unfold A44
 by_cases h:At<L.length
 ·have c:decide ((At:Int)>=(L.length:Int))=false:=by rw [D3t];omega
  simp only [c,D3f];rw [N7 h hL];have e:A2 ((At:Int)+1-1)=(At:Int):=by rw [F8] at hL;rw [A7]<;>omega
  rw [e,I2,H6 h];simp only [D3c];obtain ⟨d,h1,h2,h3⟩:=A02 L[At] hm hm2;rw [h1];exact ⟨d,At+1,rfl,h2,h3,h⟩
 ·have c:decide ((At:Int)>=(L.length:Int))=true:=by rw [D3e];omega
  simp only [c,D3g];exact ⟨0,At,rfl,by omega,by omega,hA⟩
theorem C0p {R:Type} (t:DT R):after t []=some t:=by
 unfold after;cases t<;>rfl
def A5Y {R:Type} (b:Int):DT R->Prop
 | .done _=>True
 | .ask m k=>m<=b/\ ∀d,A5Y b (k d)
theorem B74 {R:Type} (b:Int): ∀(ds:List Int) (t t' :DT R),A5Y b t->after t ds=some t' ->A5Y b t'
 | [],t,t',hb,h=>by
  unfold after at h;cases t<;>(simp at h;subst h;exact hb)
 |d::ds, .done r,t',hb,h=>by simp [after] at h
 |d::ds, .ask m k,t',hb,h=>by
  unfold after at h;split at h
  ·exact B74 b ds (k d) t' (hb.2 d) h
  ·cases h
theorem B9t (x:A5) (v:Int) (hW:x.W<=1048576) (links:List D9) (b:Bool):A5Y 1099511627776 (tkT x v links b):=by
 cases b with
 |false=>trivial
 |true=>
  unfold tkT
  by_cases h:((links++ [D9.mk (x.I+1) v]).length:Int)>x.Cap
  ·rw [if_pos h];trivial
  ·rw [if_neg h];exact ⟨by omega,fun d=>trivial⟩
theorem C7w (x:A5) (v:Int) (hW:x.W<=1048576):A5Y 1099511627776 (A2V x v):=by
 unfold A2V;split
 ·exact B9t x v hW _ _
 ·refine ⟨by split<;>omega,fun d=> ?_⟩
  show A5Y _ (if d=0 then _ else _)
  split
  ·exact B9t x v hW _ _
  ·exact B9t x v hW _ _
end Go.Win
namespace Go.Win
open Go.Vc Go.Dec
def A3N (v:Int):List A5->DT (Option (List A5))
 | []=> .done (some [])
 |c::cs=>A8F (A2V c v) fun o=>match o with
  |none=> .done none
  |some c' =>A8F (A3N v cs) fun o2=> .done (o2.map (c' :: ·))
def okC (W C:Int) (i:Nat) (c:A5):Prop:=VC c/\c.W=W/\c.Cap=C/\c.I=(i:Int)
theorem B4B {R S:Type} (b:Int) (f:R->DT S) (hf:∀r,A5Y b (f r)): ∀(t:DT R),A5Y b t->A5Y b (A8F t f)
 | .done r,_=>hf r
 | .ask _ k,h=>⟨h.1,fun d=>B4B b f hf (k d) (h.2 d)⟩
theorem B7g {R S:Type} {P:R->Prop} {Q:S->Prop} (f:R->DT S) (hf:∀r,P r->B3g Q (f r)): ∀(t:DT R),B3g P t->B3g Q (A8F t f)
 | .done r,h=>hf r h
 | .ask _ k,h=>fun d h0 h1=>B7g f hf (k d) (h d h0 h1)
theorem B8u (W C:Int) (i:Nat) (v:Int): ∀cs:List A5,(∀c∈cs,okC W C i c)->A5N (2*cs.length) (A3N v cs)
 | [],_=>trivial
 |c::cs,h=>by
  have hc:=h c (by simp)
  have r:=hc.1.1;unfold B2q at r;rw [show 2*(c::cs).length=2+(2*cs.length+0) by simp;omega]
  refine B4T _ _ ?_ 2 _ (C7R c (by omega) (by omega) v)
  intro o;cases o with
  |none=>cases (2*cs.length+0)<;>trivial
  |some c' =>exact B4T (fun o2=> .done (o2.map (c' :: ·))) 0 (fun _=>trivial) _ _ (B8u W C i v cs fun d hd=>h d (by simp [hd]))
theorem B8a (W C:Int) (i:Nat) (v:Int): ∀cs:List A5,(∀c∈cs,okC W C i c)->A5Y 1099511627776 (A3N v cs)
 | [],_=>trivial
 |c::cs,h=>by
  have hc:=h c (by simp)
  have r:=hc.1.1;unfold B2q at r;refine B4B _ _ ?_ _ (C7w c v (by omega))
  intro o;cases o with
  |none=>trivial
  |some c' =>exact B4B _ (fun o2=> .done (o2.map (c' :: ·))) (fun _=>trivial) _ (B8a W C i v cs fun d hd=>h d (by simp [hd]))
theorem C0q (W C:Int) (i:Nat) (v:Int) (hi:i<1000) (hv:-4096<=v/\v<=4096): ∀cs:List A5,(∀c∈cs,okC W C i c)->
  B3g (fun o=> ∀cs',o=some cs' ->cs'.length=cs.length/\ ∀c∈cs',okC W C (i+1) c) (A3N v cs)
 | [],_=>by intro cs' h;cases h;simp
 |c::cs,h=>by
  have hc:=h c (by simp)
  refine B7g _ ?_ _ (C7g c v hc.1 hv (by have:=hc.2.2.2;omega))
  intro o ho;cases o with
  |none=>intro cs' h;cases h
  |some c' =>
   refine B7g (P:=fun o=> ∀cs',o=some cs' ->cs'.length=cs.length/\ ∀c∈cs',okC W C (i+1) c) _ ?_ _ (C0q W C i v hi hv cs fun d hd=>h d (by simp [hd]))
   intro o2 h2 cs' h3;cases o2 with
   |none=>cases h3
   |some cs2=>
    cases h3;have h4:=h2 cs2 rfl;obtain ⟨n1,n2,n3,n4,_⟩:=ho c' rfl;refine ⟨by simp [h4.1],fun d hd=> ?_⟩
    rcases List.mem_cons.1 hd with rfl|hd
    ·exact ⟨n1,by rw [n3,hc.2.1],by rw [n4,hc.2.2.1],by rw [n2,hc.2.2.2];simp⟩
    ·exact h4.2 d hd
theorem C32 (v:Int) (c:A5) (cs:List A5) (ds:List Int) (a:Nat):
  run (A3N v (c::cs)) ds a=B8c (run (A2V c v) ds a) fun o a' =>match o with
   |none=> .ok none a'
   |some c' =>B8c (run (A3N v cs) ds a') fun o2 a2=> .ok (o2.map (c' :: ·)) a2:=by
 show run (A8F _ _) ds a=_;rw [run_bind]
 congr 1
 funext o a'
 cases o with
 |none=>rfl
 |some c' =>
  show run (A8F _ _) ds a' =_;rw [run_bind]
  rfl
theorem C51 (W C:Int) (i:Nat) (S:List A5) (h:∀c∈S,okC W C i c) (h1:1<=S.length) (h2:S.length<=16):M0 ⟨S⟩=some 0:=by
 unfold M0;have c0:(decide ((S.length:Int)<1)||decide ((S.length:Int)>16))=false:=by
  simp only [D3M,D3t];omega
 simp only [c0,D3f];unfold A0v;have:=A1z (f:=fun s:Int=>L1 ⟨S⟩ s) (n:=S.length) (bad:=fun _=>false) (E:=2) (A:=some 0) (fun k hk=> ?_) ?_
 ·rw [this,show (List.range S.length).any (fun _=>false)=false by simp]
  rfl
 ·unfold L1;have hc:=h S[k] (D31 hk);have h0:=h (S[0]'(by omega)) (D31 (by omega))
  have i0:D0 S (0:Int)=some (S[0]'(by omega)):=by
   have:=H6 (show 0<S.length by omega)
   simp [D0,this]
  have e:((((0:Int) !=(0:Int))||(S[k].W !=(S[0]'(by omega)).W))||(S[k].Cap !=(S[0]'(by omega)).Cap)||(S[k].I !=(S[0]'(by omega)).I))=false:=by
   simp only [D3M,bne_eq_false_iff_eq];exact ⟨⟨⟨trivial,by rw [hc.2.1,h0.2.1]⟩,by rw [hc.2.2.1,h0.2.2.1]⟩,by rw [hc.2.2.2,h0.2.2.2]⟩
  have sk:=N7 hk (show S.length<=maxLen by rw [F8];omega)
  simp only [Int.ofNat_lt,hk,decide_true,D3g,I2,H6 hk,D3c,i0,B7V _ hc.1,e,D3f,sk]
 ·unfold L1;simp only [D3F,decide_false,D3f]
  first|done|rfl
theorem B6E (W C:Int) (i:Nat) (v:Int) (ds:List Int) (hi:i<1000) (hv:-4096<=v/\v<=4096) (hd:ds.length<=maxLen) (S:List A5) (h:∀c∈S,okC W C i c) (hS:S.length<=16):
  ∀(cs pre:List A5) (a:Nat),S=pre++cs->A4i ⟨S⟩ v ds (a:Int) (pre.length:Int)=some (B2j (run (A3N v cs) ds a))
 | [],pre,a,e=>by
  unfold A4i;rw [List.append_nil] at e;rw [G9 (r:=(0,false))]
  ·rfl
  ·unfold A0e;have: ¬((pre.length:Int)<(S.length:Int)):=by rw [e];omega
   simp only [this,decide_false,D3f]
   rfl
 |c::cs,pre,a,e=>by
  have ih:=fun a' =>B6E W C i v ds hi hv hd S h hS cs (pre++ [c]) a' (by rw [e];simp)
  have hc:=h c (by rw [e];simp)
  have hlt:pre.length<S.length:=by rw [e];simp
  have hg:S[pre.length]? =some c:=by rw [e];simp
  have sk:=N7 hlt (show S.length<=maxLen by rw [F8];omega)
  have hcI:c.I<1099511627776:=by have:=hc.2.2.2;omega
  have nr:=C8k c v ds a hc.1 hv hcI hd;have ar:=C5o c v ds a hc.1 hv hcI hd;rw [C32];unfold A4i at ih⊢;have lt:decide ((pre.length:Int)<(S.length:Int))=true:=by rw [D3e];omega
  cases hr:run (A2V c v) ds a with
  |need m a' =>
   rw [hr] at nr;rw [G9 (r:=(m,true))]
   ·rfl
   ·simp only [A0e,lt,D3g,I2,hg,D3c,nr,B2j]
  |bad m a' =>
   rw [hr] at nr ar;rw [G9 (r:=(0,false))]
   ·rfl
   ·simp only [A0e,lt,D3g,I2,hg,D3c,nr,ar,B2j,B5k,D3f]
    rfl
  |ok o a' =>
   rw [hr] at nr ar;cases o with
   |none=>
    rw [G9 (r:=(0,false))]
    ·rfl
    ·simp only [A0e,lt,D3g,I2,hg,D3c,nr,ar,B2j,B5k,D3f]
     rfl
   |some c' =>
    rw [M3 (s' :=((a' :Int),((pre++ [c]).length:Int)))]
    ·rw [ih a'];simp only [B8c];cases run (A3N v cs) ds a' <;>rfl
    ·simp only [A0e,lt,D3g,I2,hg,D3c,nr,ar,B2j,B5k,D3f,D3P,sk];simp
def C12 (n:Nat) (acc:List A5):RR (Option (List A5))->D6×Int
 | .ok (some cs) a=>if a<n then (⟨[]⟩,8) else (⟨acc++cs⟩,0)
 | .ok none _=>(⟨[]⟩,9)
 | .need _ _=>(⟨[]⟩,8)
 | .bad _ _=>(⟨[]⟩,8)
theorem C0o (W C:Int) (i:Nat) (v:Int) (ds:List Int) (hi:i<1000) (hv:-4096<=v/\v<=4096) (hd:ds.length<=maxLen) (S:List A5) (h:∀c∈S,okC W C i c) (hS:S.length<=16):
  ∀(cs pre acc:List A5) (a:Nat),S=pre++cs->acc.length=pre.length->A6w ⟨S⟩ v ds (a:Int) (pre.length:Int) acc=some (C12 ds.length acc (run (A3N v cs) ds a))
 | [],pre,acc,a,e,_=>by
  unfold A6w;rw [List.append_nil] at e;have: ¬((pre.length:Int)<(S.length:Int)):=by rw [e];omega
  by_cases hc:a<ds.length
  ·rw [G9 (r:=(⟨[]⟩,8))]
   ·show _=some (if a<ds.length then ((⟨[]⟩:D6),(8:Int)) else (⟨acc++ []⟩,0))
    rw [if_pos hc]
   ·simp only [V7,this,decide_false,D3f,Int.ofNat_lt,hc,decide_true,D3g]
    rfl
  ·rw [G9 (r:=(⟨acc⟩,0))]
   ·show _=some (if a<ds.length then ((⟨[]⟩:D6),(8:Int)) else (⟨acc++ []⟩,0))
    rw [if_neg hc,List.append_nil]
   ·simp only [V7,this,decide_false,D3f,Int.ofNat_lt,hc]
    rfl
 |c::cs,pre,acc,a,e,ea=>by
  have ih:=fun acc' a' h' =>C0o W C i v ds hi hv hd S h hS cs (pre++ [c]) acc' a' (by rw [e];simp) h'
  have hc:=h c (by rw [e];simp)
  have hlt:pre.length<S.length:=by rw [e];simp
  have hg:S[pre.length]? =some c:=by rw [e];simp
  have sk:=N7 hlt (show S.length<=maxLen by rw [F8];omega)
  have hcI:c.I<1099511627776:=by have:=hc.2.2.2;omega
  have ar:=C5o c v ds a hc.1 hv hcI hd;rw [C32];unfold A6w at ih⊢;have lt:decide ((pre.length:Int)<(S.length:Int))=true:=by rw [D3e];omega
  cases hr:run (A2V c v) ds a with
  |need m a' =>
   rw [hr] at ar;rw [G9 (r:=(⟨[]⟩,8))]
   ·rfl
   ·simp only [V7,lt,D3g,I2,hg,D3c,ar,B5k]
    rfl
  |bad m a' =>
   rw [hr] at ar;rw [G9 (r:=(⟨[]⟩,8))]
   ·rfl
   ·simp only [V7,lt,D3g,I2,hg,D3c,ar,B5k]
    rfl
  |ok o a' =>
   rw [hr] at ar;cases o with
   |none=>
    rw [G9 (r:=(⟨[]⟩,9))]
    ·rfl
    ·simp only [V7,lt,D3g,I2,hg,D3c,ar,B5k]
     rfl
   |some c' =>
    rw [M3 (s' :=((a' :Int),((pre++ [c]).length:Int),acc++ [c']))]
    ·rw [ih (acc++ [c']) a' (by simp [ea])]
     simp only [B8c];cases run (A3N v cs) ds a' with
     |need m a2=>rfl
     |bad m a2=>rfl
     |ok o2 a2=>
      cases o2 with
      |none=>rfl
      |some cs2=>
       show some (if a2<ds.length then ((⟨[]⟩:D6),(8:Int)) else (⟨acc++ [c']++cs2⟩,0))=some (if a2<ds.length then ((⟨[]⟩:D6),(8:Int)) else (⟨acc++(c' ::cs2)⟩,0))
       simp
    ·have hk:decide ((acc.length+ [c'].length)*56<=140737488355328)=true:=by
      rw [D3e,D3R];omega
     simp only [V7,lt,D3g,I2,hg,D3c,ar,B5k,D3f,D3P,sk,hk,O7];simp
end Go.Win
namespace Go.Win
open Go.Vc Go.Dec
inductive Inv (c:C9) (n:Nat) (T:Int):B3->Prop
 |k1 (x:C4) (hk:c.Ax=1) (h:okV x=true) (hw:x.W=c.W) (hc:x.Cap=c.Cap) (ht:x.Now<=T):Inv c n T ⟨c,x,⟨0,0,0,0, []⟩,⟨0,0,0,0,0, []⟩,⟨0,0,0,0,0,0, []⟩,⟨0,0,0,0,0, []⟩,⟨0,0,0, []⟩,⟨0, []⟩,⟨false,0,0,0, []⟩,⟨[]⟩,⟨0,0,0, []⟩,⟨0,0,0,0, []⟩⟩
 |k2 (x:D2) (hk:c.Ax=2) (h:A03 x.Ab x.W x.K x.Cap x.Now) (hw:x.W=c.W) (hK:x.K=c.K) (hc:x.Cap=c.Cap) (ht:x.Now<=T) (hl:x.Ab.length<=65536):Inv c n T ⟨c,⟨0,0,0, []⟩,x,⟨0,0,0,0,0, []⟩,⟨0,0,0,0,0,0, []⟩,⟨0,0,0,0,0, []⟩,⟨0,0,0, []⟩,⟨0, []⟩,⟨false,0,0,0, []⟩,⟨[]⟩,⟨0,0,0, []⟩,⟨0,0,0,0, []⟩⟩
 |k3 (x:D8) (hk:c.Ax=3) (h:B1Q x) (hw:x.W=c.W) (hK:x.K=c.K) (hc:x.Cap=c.Cap) (hm:x.Be=c.Be) (ht:x.Now<=T) (hl:x.Ab.length<=65536):Inv c n T ⟨c,⟨0,0,0, []⟩,⟨0,0,0,0, []⟩,x,⟨0,0,0,0,0,0, []⟩,⟨0,0,0,0,0, []⟩,⟨0,0,0, []⟩,⟨0, []⟩,⟨false,0,0,0, []⟩,⟨[]⟩,⟨0,0,0, []⟩,⟨0,0,0,0, []⟩⟩
 |k4 (x:B9) (hk:c.Ax=4) (h:A7t x) (hw:x.W=c.W) (hK:x.K=c.K) (hc:x.Cap=c.Cap) (ha:x.Bd=c.Bd) (ht:x.Now<=T) (hl:x.Av.length<=65536):Inv c n T ⟨c,⟨0,0,0, []⟩,⟨0,0,0,0, []⟩,⟨0,0,0,0,0, []⟩,x,⟨0,0,0,0,0, []⟩,⟨0,0,0, []⟩,⟨0, []⟩,⟨false,0,0,0, []⟩,⟨[]⟩,⟨0,0,0, []⟩,⟨0,0,0,0, []⟩⟩
 |k5 (x:C2) (hk:c.Ax=5) (h:B02 x) (hw:x.W=c.W) (hK:x.K=c.K) (hc:x.Cap=c.Cap) (ht:x.Now<=T) (hl:x.Av.length<=65536):Inv c n T ⟨c,⟨0,0,0, []⟩,⟨0,0,0,0, []⟩,⟨0,0,0,0,0, []⟩,⟨0,0,0,0,0,0, []⟩,x,⟨0,0,0, []⟩,⟨0, []⟩,⟨false,0,0,0, []⟩,⟨[]⟩,⟨0,0,0, []⟩,⟨0,0,0,0, []⟩⟩
 |k6 (x:D3) (hk:c.Ax=6) (h:B3K x) (hp:x.P=c.P) (ht:x.Now<=T) (ho: ∀w∈x.Ae,Q0 w):Inv c n T ⟨c,⟨0,0,0, []⟩,⟨0,0,0,0, []⟩,⟨0,0,0,0,0, []⟩,⟨0,0,0,0,0,0, []⟩,⟨0,0,0,0,0, []⟩,x,⟨0, []⟩,⟨false,0,0,0, []⟩,⟨[]⟩,⟨0,0,0, []⟩,⟨0,0,0,0, []⟩⟩
 |k7 (x:E3) (hk:c.Ax=7) (h:B3J x) (hw:(x.Bc.length:Int)=c.W) (ht:x.Now<=T):Inv c n T ⟨c,⟨0,0,0, []⟩,⟨0,0,0,0, []⟩,⟨0,0,0,0,0, []⟩,⟨0,0,0,0,0,0, []⟩,⟨0,0,0,0,0, []⟩,⟨0,0,0, []⟩,x,⟨false,0,0,0, []⟩,⟨[]⟩,⟨0,0,0, []⟩,⟨0,0,0,0, []⟩⟩
 |k8 (x:B4) (hk:c.Ax=8) (h:A7s x) (hw:x.W=c.W) (hc:x.Cap=c.Cap) (hm:x.Be=(c.Be==1)) (ht:x.Now<=T):Inv c n T ⟨c,⟨0,0,0, []⟩,⟨0,0,0,0, []⟩,⟨0,0,0,0,0, []⟩,⟨0,0,0,0,0,0, []⟩,⟨0,0,0,0,0, []⟩,⟨0,0,0, []⟩,⟨0, []⟩,x,⟨[]⟩,⟨0,0,0, []⟩,⟨0,0,0,0, []⟩⟩
 |k9 (S:List A5) (hk:c.Ax=9) (i:Nat) (hi:i<=n) (h: ∀d∈S,okC c.W c.Cap i d) (hl:(S.length:Int)=c.Ah):Inv c n T ⟨c,⟨0,0,0, []⟩,⟨0,0,0,0, []⟩,⟨0,0,0,0,0, []⟩,⟨0,0,0,0,0,0, []⟩,⟨0,0,0,0,0, []⟩,⟨0,0,0, []⟩,⟨0, []⟩,⟨false,0,0,0, []⟩,⟨S⟩,⟨0,0,0, []⟩,⟨0,0,0,0, []⟩⟩
 |k10 (x:B7) (hk:c.Ax=10) (h:A9s x) (hK:x.K=c.K) (hc:x.Cap=c.Cap):Inv c n T ⟨c,⟨0,0,0, []⟩,⟨0,0,0,0, []⟩,⟨0,0,0,0,0, []⟩,⟨0,0,0,0,0,0, []⟩,⟨0,0,0,0,0, []⟩,⟨0,0,0, []⟩,⟨0, []⟩,⟨false,0,0,0, []⟩,⟨[]⟩,x,⟨0,0,0,0, []⟩⟩
 |k11 (x:B6) (hk:c.Ax=11) (h:B2i x) (hw:x.W=c.W) (hK:x.K=c.K) (hc:x.Cap=c.Cap) (ht:x.Now<=T) (hs:T5 x.Ag) (he:J1 x.Ag<=n):Inv c n T ⟨c,⟨0,0,0, []⟩,⟨0,0,0,0, []⟩,⟨0,0,0,0,0, []⟩,⟨0,0,0,0,0,0, []⟩,⟨0,0,0,0,0, []⟩,⟨0,0,0, []⟩,⟨0, []⟩,⟨false,0,0,0, []⟩,⟨[]⟩,⟨0,0,0, []⟩,x⟩
theorem zz1:A8A ⟨0,0,0, []⟩:=by unfold A8A;decide
theorem zz2:B0C ⟨0,0,0,0, []⟩:=by unfold B0C;decide
theorem zz3:B6j ⟨0,0,0,0,0, []⟩:=by unfold B6j;decide
theorem zz4:A8B ⟨0,0,0,0,0,0, []⟩:=by unfold A8B;decide
theorem zz5:A8C ⟨0,0,0,0,0, []⟩:=by unfold A8C;decide
theorem zz6:B3d ⟨0,0,0, []⟩:=by unfold B3d;decide
theorem zz7:B0D ⟨0, []⟩:=by unfold B0D;decide
theorem zz8:A7d ⟨false,0,0,0, []⟩:=by unfold A7d;decide
theorem zz9:A4Q ⟨[]⟩:=by unfold A4Q;decide
theorem B2v:A3y ⟨0,0,0, []⟩:=by unfold A3y;decide
theorem B2w:A5F ⟨0,0,0,0, []⟩:=by unfold A5F;decide
theorem D2f {x:B6} (h:B2i x) (hs:T5 x.Ag):x.Ag.length<=65536:=by
 obtain ⟨hp,hb,ht,_⟩:=h;obtain ⟨sz,_,s2,_⟩:=A8u (k:=x.K) (c:=x.Cap) hp.2.2.2 hp.2.1;have a:=C4b (A3E (hb sz s2).2.1).2.2;rw [A0j] at a;rw [B24 hs.1] at ht;have:=hp.2.1;unfold X3 at ht;omega
theorem D1c {x:C4} (h:okV x=true):x.Ar.length<=65536:=by
 have:=(A8b x).1 h;omega
theorem B1j {c:C9} (hc:V1 c) (hk:c.Ax=9) {S:List A5} (hl:(S.length:Int)=c.Ah):1<=S.length/\S.length<=16:=by
 have:=hc.2.2.2.2.2.2.1.1 hk;omega
theorem C0W {W C:Int} {i:Nat} {d:A5} (h:okC W C i d):d.Au.length<=64/\(d.Au.length:Int)<=C:=by
 have:=h.1.1;unfold B2q at this;have:=h.2.2.1;omega
theorem D0N {x:E3} (h:B3J x):x.Bc.length<=1048576:=by
 have:=h.1;omega
theorem D0I {x:B4} (h:A7s x):x.Ar.length<=1048576:=by
 have:=C27 h;omega
theorem D1n {x:B7} (h:A9s x):x.Ao.length<=1048576:=by
 have:=h.1;unfold A4s at this;omega
theorem C8M {x:B9} (h:A7t x):x.Av.length<=65536:=by
 have a:=(B9a h).1;have hp:=h.2.1.2.1;have:=(B9P a).2 (by omega)
 omega
theorem C8O {x:C2} (h:B02 x):x.Av.length<=65536:=by
 obtain ⟨hp,hm,_⟩:=h;have a:=B5d hp.2.1.2 (by decide) hm
 have:=(B9P a).2 (by have:=hp.2.1;omega)
 have:=hp.2.1;omega
theorem C72 {c:C9} {n:Nat} {T:Int} {s:B3} (hc0:V1 c) (hn:n<900) (h:Inv c n T s):B9S s/\B9N s:=by
 cases h with
 |k1 x hk h hw hc ht=>exact ⟨⟨hc0, .inl ⟨hk,h,hw,hc⟩,⟨fun hx=>absurd hk hx,fun _=>zz2,fun _=>zz3,fun _=>zz4,fun _=>zz5,fun _=>zz6,fun _=>zz7,fun _=>zz8,fun _=>zz9,fun _=>B2v,fun _=>B2w⟩⟩,⟨Nat.le_trans (D1c h) (by decide),Nat.zero_le _,Nat.zero_le _,Nat.zero_le _,Nat.zero_le _,⟨Nat.zero_le _,fun w hw=>(by cases hw)⟩,Nat.zero_le _,Nat.zero_le _,⟨Nat.zero_le _,fun w hw=>(by cases hw)⟩,Nat.zero_le _,⟨Nat.zero_le _,fun w hw=>(by cases hw)⟩⟩⟩
 |k2 x hk h hw hK hc ht hl=>exact ⟨⟨hc0, .inr (.inl ⟨hk,h,hw,hK,hc⟩),⟨fun _=>zz1,fun hx=>absurd hk hx,fun _=>zz3,fun _=>zz4,fun _=>zz5,fun _=>zz6,fun _=>zz7,fun _=>zz8,fun _=>zz9,fun _=>B2v,fun _=>B2w⟩⟩,⟨Nat.zero_le _,Nat.le_trans hl (by decide),Nat.zero_le _,Nat.zero_le _,Nat.zero_le _,⟨Nat.zero_le _,fun w hw=>(by cases hw)⟩,Nat.zero_le _,Nat.zero_le _,⟨Nat.zero_le _,fun w hw=>(by cases hw)⟩,Nat.zero_le _,⟨Nat.zero_le _,fun w hw=>(by cases hw)⟩⟩⟩
 |k3 x hk h hw hK hc hm ht hl=>exact ⟨⟨hc0, .inr (.inr (.inl ⟨hk,h,hw,hK,hc,hm⟩)),⟨fun _=>zz1,fun _=>zz2,fun hx=>absurd hk hx,fun _=>zz4,fun _=>zz5,fun _=>zz6,fun _=>zz7,fun _=>zz8,fun _=>zz9,fun _=>B2v,fun _=>B2w⟩⟩,⟨Nat.zero_le _,Nat.zero_le _,Nat.le_trans hl (by decide),Nat.zero_le _,Nat.zero_le _,⟨Nat.zero_le _,fun w hw=>(by cases hw)⟩,Nat.zero_le _,Nat.zero_le _,⟨Nat.zero_le _,fun w hw=>(by cases hw)⟩,Nat.zero_le _,⟨Nat.zero_le _,fun w hw=>(by cases hw)⟩⟩⟩
 |k4 x hk h hw hK hc ha ht hl=>exact ⟨⟨hc0, .inr (.inr (.inr (.inl ⟨hk,h,hw,hK,hc,ha⟩))),⟨fun _=>zz1,fun _=>zz2,fun _=>zz3,fun hx=>absurd hk hx,fun _=>zz5,fun _=>zz6,fun _=>zz7,fun _=>zz8,fun _=>zz9,fun _=>B2v,fun _=>B2w⟩⟩,⟨Nat.zero_le _,Nat.zero_le _,Nat.zero_le _,Nat.le_trans hl (by decide),Nat.zero_le _,⟨Nat.zero_le _,fun w hw=>(by cases hw)⟩,Nat.zero_le _,Nat.zero_le _,⟨Nat.zero_le _,fun w hw=>(by cases hw)⟩,Nat.zero_le _,⟨Nat.zero_le _,fun w hw=>(by cases hw)⟩⟩⟩
 |k5 x hk h hw hK hc ht hl=>exact ⟨⟨hc0, .inr (.inr (.inr (.inr (.inl ⟨hk,h,hw,hK,hc⟩)))),⟨fun _=>zz1,fun _=>zz2,fun _=>zz3,fun _=>zz4,fun hx=>absurd hk hx,fun _=>zz6,fun _=>zz7,fun _=>zz8,fun _=>zz9,fun _=>B2v,fun _=>B2w⟩⟩,⟨Nat.zero_le _,Nat.zero_le _,Nat.zero_le _,Nat.zero_le _,Nat.le_trans hl (by decide),⟨Nat.zero_le _,fun w hw=>(by cases hw)⟩,Nat.zero_le _,Nat.zero_le _,⟨Nat.zero_le _,fun w hw=>(by cases hw)⟩,Nat.zero_le _,⟨Nat.zero_le _,fun w hw=>(by cases hw)⟩⟩⟩
 |k6 x hk h hp ht ho=>exact ⟨⟨hc0, .inr (.inr (.inr (.inr (.inr (.inl ⟨hk,h,hp⟩))))),⟨fun _=>zz1,fun _=>zz2,fun _=>zz3,fun _=>zz4,fun _=>zz5,fun hx=>absurd hk hx,fun _=>zz7,fun _=>zz8,fun _=>zz9,fun _=>B2v,fun _=>B2w⟩⟩,⟨Nat.zero_le _,Nat.zero_le _,Nat.zero_le _,Nat.zero_le _,Nat.zero_le _,⟨Nat.le_trans (B7M h) (by decide),ho⟩,Nat.zero_le _,Nat.zero_le _,⟨Nat.zero_le _,fun w hw=>(by cases hw)⟩,Nat.zero_le _,⟨Nat.zero_le _,fun w hw=>(by cases hw)⟩⟩⟩
 |k7 x hk h hw ht=>exact ⟨⟨hc0, .inr (.inr (.inr (.inr (.inr (.inr (.inl ⟨hk,h,hw⟩)))))),⟨fun _=>zz1,fun _=>zz2,fun _=>zz3,fun _=>zz4,fun _=>zz5,fun _=>zz6,fun hx=>absurd hk hx,fun _=>zz8,fun _=>zz9,fun _=>B2v,fun _=>B2w⟩⟩,⟨Nat.zero_le _,Nat.zero_le _,Nat.zero_le _,Nat.zero_le _,Nat.zero_le _,⟨Nat.zero_le _,fun w hw=>(by cases hw)⟩,Nat.le_trans (D0N h) (by decide),Nat.zero_le _,⟨Nat.zero_le _,fun w hw=>(by cases hw)⟩,Nat.zero_le _,⟨Nat.zero_le _,fun w hw=>(by cases hw)⟩⟩⟩
 |k8 x hk h hw hc hm ht=>exact ⟨⟨hc0, .inr (.inr (.inr (.inr (.inr (.inr (.inr (.inl ⟨hk,h,hw,hc,hm⟩))))))),⟨fun _=>zz1,fun _=>zz2,fun _=>zz3,fun _=>zz4,fun _=>zz5,fun _=>zz6,fun _=>zz7,fun hx=>absurd hk hx,fun _=>zz9,fun _=>B2v,fun _=>B2w⟩⟩,⟨Nat.zero_le _,Nat.zero_le _,Nat.zero_le _,Nat.zero_le _,Nat.zero_le _,⟨Nat.zero_le _,fun w hw=>(by cases hw)⟩,Nat.zero_le _,Nat.le_trans (D0I h) (by decide),⟨Nat.zero_le _,fun w hw=>(by cases hw)⟩,Nat.zero_le _,⟨Nat.zero_le _,fun w hw=>(by cases hw)⟩⟩⟩
 |k9 S hk i hi h hl=>exact ⟨⟨hc0, .inr (.inr (.inr (.inr (.inr (.inr (.inr (.inr (.inl ⟨hk,C51 c.W c.Cap i S h (B1j hc0 hk hl).1 (B1j hc0 hk hl).2,hl,(h _ (J0 (by have:=(B1j hc0 hk hl).1;omega))).2.1,(h _ (J0 (by have:=(B1j hc0 hk hl).1;omega))).2.2.1⟩)))))))),⟨fun _=>zz1,fun _=>zz2,fun _=>zz3,fun _=>zz4,fun _=>zz5,fun _=>zz6,fun _=>zz7,fun _=>zz8,fun hx=>absurd hk hx,fun _=>B2v,fun _=>B2w⟩⟩,⟨Nat.zero_le _,Nat.zero_le _,Nat.zero_le _,Nat.zero_le _,Nat.zero_le _,⟨Nat.zero_le _,fun w hw=>(by cases hw)⟩,Nat.zero_le _,Nat.zero_le _,⟨Nat.le_trans (B1j hc0 hk hl).2 (by decide),fun d hd=>Nat.le_trans (C0W (h d hd)).1 (by decide)⟩,Nat.zero_le _,⟨Nat.zero_le _,fun w hw=>(by cases hw)⟩⟩⟩
 |k10 x hk h hK hc=>exact ⟨⟨hc0, .inr (.inr (.inr (.inr (.inr (.inr (.inr (.inr (.inr (.inl ⟨hk,h,hK,hc⟩))))))))),⟨fun _=>zz1,fun _=>zz2,fun _=>zz3,fun _=>zz4,fun _=>zz5,fun _=>zz6,fun _=>zz7,fun _=>zz8,fun _=>zz9,fun hx=>absurd hk hx,fun _=>B2w⟩⟩,⟨Nat.zero_le _,Nat.zero_le _,Nat.zero_le _,Nat.zero_le _,Nat.zero_le _,⟨Nat.zero_le _,fun w hw=>(by cases hw)⟩,Nat.zero_le _,Nat.zero_le _,⟨Nat.zero_le _,fun w hw=>(by cases hw)⟩,Nat.le_trans (D1n h) (by decide),⟨Nat.zero_le _,fun w hw=>(by cases hw)⟩⟩⟩
 |k11 x hk h hw hK hc ht hs he=>exact ⟨⟨hc0, .inr (.inr (.inr (.inr (.inr (.inr (.inr (.inr (.inr (.inr (⟨hk,h,hw,hK,hc⟩)))))))))),⟨fun _=>zz1,fun _=>zz2,fun _=>zz3,fun _=>zz4,fun _=>zz5,fun _=>zz6,fun _=>zz7,fun _=>zz8,fun _=>zz9,fun _=>B2v,fun hx=>absurd hk hx⟩⟩,⟨Nat.zero_le _,Nat.zero_le _,Nat.zero_le _,Nat.zero_le _,Nat.zero_le _,⟨Nat.zero_le _,fun w hw=>(by cases hw)⟩,Nat.zero_le _,Nat.zero_le _,⟨Nat.zero_le _,fun w hw=>(by cases hw)⟩,Nat.zero_le _,hs⟩⟩
theorem B2R {c:C9} {n:Nat} {T:Int} {s:B3} (hc0:V1 c) (hn:n<900) (h:Inv c n T s):M6 s=some 0:=by
 obtain ⟨a,b⟩:=C72 hc0 hn h;rw [(A9k s b).1,K9 a]
theorem C73 {c:C9} {n:Nat} {T:Int} {s:B3} (h:Inv c n T s):Inv c (n+1) T s:=by
 cases h with
 |k1 x hk h hw hc ht=>exact .k1 x hk h hw hc ht
 |k2 x hk h hw hK hc ht hl=>exact .k2 x hk h hw hK hc ht hl
 |k3 x hk h hw hK hc hm ht hl=>exact .k3 x hk h hw hK hc hm ht hl
 |k4 x hk h hw hK hc ha ht hl=>exact .k4 x hk h hw hK hc ha ht hl
 |k5 x hk h hw hK hc ht hl=>exact .k5 x hk h hw hK hc ht hl
 |k6 x hk h hp ht ho=>exact .k6 x hk h hp ht ho
 |k7 x hk h hw ht=>exact .k7 x hk h hw ht
 |k8 x hk h hw hc hm ht=>exact .k8 x hk h hw hc hm ht
 |k9 S hk i hi h hl=>exact .k9 S hk i (by omega) h hl
 |k10 x hk h hK hc=>exact .k10 x hk h hK hc
 |k11 x hk h hw hK hc ht hs he=>exact .k11 x hk h hw hK hc ht hs (by omega)
end Go.Win
namespace Go.Win
open Go.Vc Go.Dec
theorem D0T {c:C9} {n:Nat} {T t:Int} {s:B3} (hc0:V1 c) (hn:n<900) (h:Inv c n T s) (h0:0<=t) (h1:T<=t) (h2:t<=16777216): ∃r,J7 s t=some (r,0)/\Inv c n t r:=by
 have hv:=B2R hc0 hn h;cases h with
 |k1 x hk h hw hc ht=>
  obtain ⟨e,g,_⟩:=C6f h (show x.Now<=t by omega) h2
  refine ⟨_, ?_, .k1 _ hk g hw hc (Int.le_refl _)⟩;unfold J7;rw [hv,D3c];simp only [D3P,D3f,hk,Int.reduceBEq,D3g,e,D3c,D3o]
  rfl
 |k2 x hk h hw hK hc ht hl=>
  obtain ⟨B,e,g,gl⟩:=C1F h (show x.Now<=t by omega) h2 (by omega)
  refine ⟨_, ?_, .k2 ⟨x.W,x.K,x.Cap,t,B⟩ hk g hw hK hc (Int.le_refl _) (B3y g gl)⟩;unfold J7;rw [hv,D3c];simp only [D3P,D3f,hk,Int.reduceBEq,D3g,e,D3c,D3o]
  rfl
 |k3 x hk h hw hK hc hm ht hl=>
  obtain ⟨B,e,g,gl⟩:=C5a h (show x.Now<=t by omega) h2 (by omega)
  refine ⟨_, ?_, .k3 ⟨x.W,x.K,x.Cap,x.Be,t,B⟩ hk g hw hK hc hm (Int.le_refl _) (B3y g.1 gl)⟩;unfold J7;rw [hv,D3c];simp only [D3P,D3f,hk,Int.reduceBEq,D3g,e,D3c,D3o]
  rfl
 |k4 x hk h hw hK hc ha ht hl=>
  obtain ⟨M,e,g,gl⟩:=C0c h (show x.Now<=t by omega) h2 (by omega)
  refine ⟨_, ?_, .k4 ⟨x.Bd,x.W,x.K,x.Cap,t,x.Bg,M⟩ hk g hw hK hc ha (Int.le_refl _) (C8M g)⟩;unfold J7;rw [hv,D3c];simp only [D3P,D3f,hk,Int.reduceBEq,D3g,e,D3c,D3o]
  rfl
 |k5 x hk h hw hK hc ht hl=>
  obtain ⟨M,e,g,gl⟩:=C0d h (show x.Now<=t by omega) h2 (by omega)
  refine ⟨_, ?_, .k5 ⟨x.W,x.K,x.Cap,t,x.Bg,M⟩ hk g hw hK hc (Int.le_refl _) (C8O g)⟩;unfold J7;rw [hv,D3c];simp only [D3P,D3f,hk,Int.reduceBEq,D3g,e,D3c,D3o]
  rfl
 |k6 x hk h hp ht ho=>
  obtain ⟨e,g⟩:=C31 h ho (show x.Now<=t by omega) h2
  refine ⟨_, ?_, .k6 ⟨x.P,x.Ay,t,x.Ae⟩ hk g hp (Int.le_refl _) ho⟩;unfold J7;rw [hv,D3c];simp only [D3P,D3f,hk,Int.reduceBEq,D3g,e,D3c,D3o]
  rfl
 |k7 x hk h hw ht=>
  obtain ⟨L,e,g,gl⟩:=C1G h (show x.Now<=t by omega) h2
  refine ⟨_, ?_, .k7 ⟨t,L⟩ hk g (by show (L.length:Int)=c.W;omega) (Int.le_refl _)⟩
  unfold J7;rw [hv,D3c];simp only [D3P,D3f,hk,Int.reduceBEq,D3g,e,D3c,D3o]
  rfl
 |k8 x hk h hw hc hm ht=>
  obtain ⟨L,e,g⟩:=B87 h (show x.Now<=t by omega) h2
  refine ⟨_, ?_, .k8 ⟨x.Be,x.W,x.Cap,t,L⟩ hk g hw hc hm (Int.le_refl _)⟩;unfold J7;rw [hv,D3c];simp only [D3P,D3f,hk,Int.reduceBEq,D3g,e,D3c,D3o]
  rfl
 |k9 S hk i hi h hl=>
  have e:Y6 t=true:=by unfold Y6;simp;omega
  refine ⟨_, ?_, .k9 S hk i hi h hl⟩;unfold J7;rw [hv,D3c];simp only [D3P,D3f,hk,Int.reduceBEq,D3g,e,D3c,D3o]
  rfl
 |k10 x hk h hK hc=>
  have e:Y6 t=true:=by unfold Y6;simp;omega
  refine ⟨_, ?_, .k10 x hk h hK hc⟩;unfold J7;rw [hv,D3c];simp only [D3P,D3f,hk,Int.reduceBEq,D3g,e,D3c,D3o]
  rfl
 |k11 x hk h hw hK hc ht hs he=>
  obtain ⟨B,e,g,gs,ge⟩:=B7Q h hs (show x.Now<=t by omega) h2
  refine ⟨_, ?_, .k11 ⟨x.W,x.K,x.Cap,t,B⟩ hk g hw hK hc (Int.le_refl _) gs (by show J1 B<=n;omega)⟩
  unfold J7;rw [hv,D3c];simp only [D3P,D3f,hk,Int.reduceBEq,D3g,e,D3c,D3o]
  rfl
end Go.Win
namespace Go.Win
open Go.Vc Go.Dec
theorem V8 (s:B3) (f:Int) (re co su sm sp po hn hs ex ch sy qu):I7 s [] f re co su sm sp po hn hs ex ch sy qu=A0f s re co su sm sp po hn hs ex ch sy qu f:=by
 unfold I7;rw [show decide ((([]:List Int).length:Int)>0)=false from rfl,Bool.and_false,D3f]
theorem D0S {c:C9} {n:Nat} {T v:Int} {s:B3} (hc0:V1 c) (hn:n<900) (h:Inv c n T s) (h9:c.Ax≠9) (hv:-4096<=v/\v<=4096):(∃r,F6 s v []=some (r,0)/\Inv c (n+1) T r)\/ ∃f,F6 s v []=some (B6i,f)/\(f=4\/f=5\/f=6):=by
 have hw0:=B2R hc0 hn h;have d1:decide (v< -4096)=false:=D3j (by omega)
 have d2:decide (v>4096)=false:=D3j (by omega)
 cases h with
 |k1 x hk h hw hc ht=>
  rcases D1B h ((Y7 v).2 hv) with ⟨_,z,e⟩|⟨_,e,g⟩
  ·refine .inr ⟨5, ?_,by decide⟩
   unfold F6;rw [hw0,D3c];simp only [D3P,D3f,hk,Int.reduceBEq,D3g,e,D3c,d1,d2,Bool.or_self,V8]
   rfl
  ·refine .inl ⟨_, ?_, .k1 _ hk g hw hc ht⟩;unfold F6;rw [hw0,D3c];simp only [D3P,D3f,hk,Int.reduceBEq,D3g,e,D3c,d1,d2,Bool.or_self,V8]
   rfl
 |k2 x hk h hw hK hc ht hl=>
  rcases C1D h (by omega) with e|⟨B,e,g,gl⟩
  ·refine .inr ⟨5, ?_,by decide⟩
   unfold F6;rw [hw0,D3c];simp only [D3P,D3f,hk,Int.reduceBEq,D3g,e,D3c,d1,d2,Bool.or_self,V8]
   rfl
  ·refine .inl ⟨_, ?_, .k2 ⟨x.W,x.K,x.Cap,x.Now,B⟩ hk g hw hK hc ht (B3y g gl)⟩;unfold F6;rw [hw0,D3c];simp only [D3P,D3f,hk,Int.reduceBEq,D3g,e,D3c,d1,d2,Bool.or_self,V8]
   rfl
 |k3 x hk h hw hK hc hm ht hl=>
  rcases C49 v h (by omega) with e|e|⟨B,e,g,gl⟩
  ·refine .inr ⟨4, ?_,by decide⟩
   unfold F6;rw [hw0,D3c];simp only [D3P,D3f,hk,Int.reduceBEq,D3g,e,D3c,d1,d2,Bool.or_self,V8]
   rfl
  ·refine .inr ⟨5, ?_,by decide⟩
   unfold F6;rw [hw0,D3c];simp only [D3P,D3f,hk,Int.reduceBEq,D3g,e,D3c,d1,d2,Bool.or_self,V8]
   rfl
  ·refine .inl ⟨_, ?_, .k3 ⟨x.W,x.K,x.Cap,x.Be,x.Now,B⟩ hk g hw hK hc hm ht (B3y g.1 gl)⟩;unfold F6;rw [hw0,D3c];simp only [D3P,D3f,hk,Int.reduceBEq,D3g,e,D3c,d1,d2,Bool.or_self,V8]
   rfl
 |k4 x hk h hw hK hc ha ht hl=>
  rcases C0a v h (by omega) with e|e|⟨M,e,g,gl⟩
  ·refine .inr ⟨4, ?_,by decide⟩
   unfold F6;rw [hw0,D3c];simp only [D3P,D3f,hk,Int.reduceBEq,D3g,e,D3c,d1,d2,Bool.or_self,V8]
   rfl
  ·refine .inr ⟨5, ?_,by decide⟩
   unfold F6;rw [hw0,D3c];simp only [D3P,D3f,hk,Int.reduceBEq,D3g,e,D3c,d1,d2,Bool.or_self,V8]
   rfl
  ·refine .inl ⟨_, ?_, .k4 ⟨x.Bd,x.W,x.K,x.Cap,x.Now,x.Bg+1,M⟩ hk g hw hK hc ha ht (C8M g)⟩;unfold F6;rw [hw0,D3c];simp only [D3P,D3f,hk,Int.reduceBEq,D3g,e,D3c,d1,d2,Bool.or_self,V8]
   rfl
 |k5 x hk h hw hK hc ht hl=>
  rcases C0b h hv (by omega) with e|⟨M,e,g,gl⟩
  ·refine .inr ⟨5, ?_,by decide⟩
   unfold F6;rw [hw0,D3c];simp only [D3P,D3f,hk,Int.reduceBEq,D3g,e,D3c,d1,d2,Bool.or_self,V8]
   rfl
  ·refine .inl ⟨_, ?_, .k5 ⟨x.W,x.K,x.Cap,x.Now,x.Bg+1,M⟩ hk g hw hK hc ht (C8O g)⟩;unfold F6;rw [hw0,D3c];simp only [D3P,D3f,hk,Int.reduceBEq,D3g,e,D3c,d1,d2,Bool.or_self,V8]
   rfl
 |k6 x hk h hp ht ho=>
  rcases C30 (v:=v) h ho with e|e|⟨M,e,g,go⟩
  ·refine .inr ⟨4, ?_,by decide⟩
   unfold F6;rw [hw0,D3c];simp only [D3P,D3f,hk,Int.reduceBEq,D3g,e,D3c,d1,d2,Bool.or_self,V8]
   rfl
  ·refine .inr ⟨6, ?_,by decide⟩
   unfold F6;rw [hw0,D3c];simp only [D3P,D3f,hk,Int.reduceBEq,D3g,e,D3c,d1,d2,Bool.or_self,V8]
   rfl
  ·refine .inl ⟨_, ?_, .k6 ⟨x.P,x.Ay,x.Now,M⟩ hk g hp ht go⟩;unfold F6;rw [hw0,D3c];simp only [D3P,D3f,hk,Int.reduceBEq,D3g,e,D3c,d1,d2,Bool.or_self,V8]
   rfl
 |k7 x hk h hw ht=>
  rcases C1E v h with e|e|⟨L,e,g,gl⟩
  ·refine .inr ⟨4, ?_,by decide⟩
   unfold F6;rw [hw0,D3c];simp only [D3P,D3f,hk,Int.reduceBEq,D3g,e,D3c,d1,d2,Bool.or_self,V8]
   rfl
  ·refine .inr ⟨6, ?_,by decide⟩
   unfold F6;rw [hw0,D3c];simp only [D3P,D3f,hk,Int.reduceBEq,D3g,e,D3c,d1,d2,Bool.or_self,V8]
   rfl
  ·refine .inl ⟨_, ?_, .k7 ⟨x.Now,L⟩ hk g (by show (L.length:Int)=c.W;omega) ht⟩
   unfold F6;rw [hw0,D3c];simp only [D3P,D3f,hk,Int.reduceBEq,D3g,e,D3c,d1,d2,Bool.or_self,V8]
   rfl
 |k8 x hk h hw hc hm ht=>
  rcases B85 h hv with e|⟨L,e,g⟩
  ·refine .inr ⟨5, ?_,by decide⟩
   unfold F6;rw [hw0,D3c];simp only [D3P,D3f,hk,Int.reduceBEq,D3g,e,D3c,d1,d2,Bool.or_self,V8]
   rfl
  ·refine .inl ⟨_, ?_, .k8 ⟨x.Be,x.W,x.Cap,x.Now,L⟩ hk g hw hc hm ht⟩;unfold F6;rw [hw0,D3c];simp only [D3P,D3f,hk,Int.reduceBEq,D3g,e,D3c,d1,d2,Bool.or_self,V8]
   rfl
 |k9 S hk i hi h hl=>exact absurd hk h9
 |k10 x hk h hK hc=>
  rcases B86 h hv with e|⟨L,e,g⟩
  ·refine .inr ⟨5, ?_,by decide⟩
   unfold F6;rw [hw0,D3c];simp only [D3P,D3f,hk,Int.reduceBEq,D3g,e,D3c,d1,d2,Bool.or_self,V8]
   rfl
  ·refine .inl ⟨_, ?_, .k10 ⟨x.K,x.Cap,x.N+1,L⟩ hk g hK hc⟩;unfold F6;rw [hw0,D3c];simp only [D3P,D3f,hk,Int.reduceBEq,D3g,e,D3c,d1,d2,Bool.or_self,V8]
   rfl
 |k11 x hk h hw hK hc ht hs he=>
  rcases B7P h hs (by have:=D2f h hs;omega) (by omega) hv with e|⟨B,e,g,gs,ge⟩
  ·refine .inr ⟨5, ?_,by decide⟩
   unfold F6;rw [hw0,D3c];simp only [D3P,D3f,hk,Int.reduceBEq,D3g,e,D3c,d1,d2,Bool.or_self,V8]
   rfl
  ·refine .inl ⟨_, ?_, .k11 ⟨x.W,x.K,x.Cap,x.Now,B⟩ hk g hw hK hc ht gs (by show J1 B<=n+1;omega)⟩
   unfold F6;rw [hw0,D3c];simp only [D3P,D3f,hk,Int.reduceBEq,D3g,e,D3c,d1,d2,Bool.or_self,V8]
   rfl
end Go.Win
namespace Go.Win
open Go.Vc Go.Dec
def S4 (s:B3):Nat:=s.Aj.Ar.length+s.Ap.Ab.length+s.Sum.Ab.length+s.Al.Av.length+s.Am.Av.length+s.Bb.Ae.length+s.Aq.Bc.length+s.Ad.Ar.length+s.Af.Ao.length
theorem D1d {s:B3} (h:M6 s=some 0) (w:B9N s):S9 s=some ((S4 s+T2 s.Ak.Ah+J1 s.Aa.Ag:Nat):Int):=by
 obtain ⟨w1,w2,w3,w4,w5,w6,w7,w8,w9,w10,w11⟩:=w;have w61:=w6.1;have hL:T2 s.Ak.Ah<=s.Ak.Ah.length*1048576:=B0r _ _ _ w9.2;have hE:J1 s.Aa.Ag<=s.Aa.Ag.length*1048576:=B0r _ _ _ w11.2;have w91:=w9.1;have w111:=w11.1;have eb:A2 ((A2 ((A2 ((A2 ((A2 ((A2 ((A2 ((A2 ((s.Aj.Ar.length:Int)+(s.Ap.Ab.length:Int)))+(s.Sum.Ab.length:Int)))+(s.Al.Av.length:Int)))+(s.Am.Av.length:Int)))+(s.Bb.Ae.length:Int)))+(s.Aq.Bc.length:Int)))+(s.Ad.Ar.length:Int)))+(s.Af.Ao.length:Int))=((S4 s:Nat):Int):=by
  simp only [C55];unfold S4;rw [A7]<;>omega
 have h7: ∀b:Nat,b<=2199023255552->U2 s (b:Int) 0=some ((b+J1 s.Aa.Ag:Nat):Int):=by
  intro b hb;unfold U2;have hsf:sf (fun j=>(el s.Aa.Ag j).Aw.Ac.length) s.Aa.Ag.length 0=J1 s.Aa.Ag:=by
   rw [D0n s.Aa.Ag (fun x=>x.Aw.Ac.length) s.Aa.Ag.length 0 (by omega)]
   rfl
  have:=C4e (f:=fun t:Int×Int=>A1f s t.1 t.2) (fun i b=>(b,(i:Int))) s.Aa.Ag.length (fun j=>(el s.Aa.Ag j).Aw.Ac.length) (fun b=>some b)
   (fun i b hi=>by
    simp only [];unfold A1f;rw [D3h (by omega:(i:Int)<(s.Aa.Ag.length:Int)),D3g,F4 hi,D3c,Q4 hi (H0 w111)])
   (fun b=>by
    simp only [];unfold A1f;rw [D3j (D3F _),D3f]) s.Aa.Ag.length 0 b (by omega) (by rw [hsf];omega)
  rw [hsf] at this;exact this
 unfold S9;rw [h,D3c];simp only [D3P,D3f];rw [eb];have hsf:sf (fun j=>(el s.Ak.Ah j).Au.length) s.Ak.Ah.length 0=T2 s.Ak.Ah:=by
  rw [D0n s.Ak.Ah (fun c=>c.Au.length) s.Ak.Ah.length 0 (by omega)]
  rfl
 have hbase:S4 s<=11*1048576:=by unfold S4;omega
 unfold A1P;have:=C4e (f:=fun t:Int×Int=>A1e s t.1 t.2) (fun i b=>(b,(i:Int))) s.Ak.Ah.length (fun j=>(el s.Ak.Ah j).Au.length) (fun b=>U2 s b 0)
  (fun i b hi=>by
   simp only [];unfold A1e;rw [D3h (by omega:(i:Int)<(s.Ak.Ah.length:Int)),D3g,F4 hi,D3c,Q4 hi (H0 w91)])
  (fun b=>by
   simp only [];unfold A1e;rw [D3j (D3F _),D3f]) s.Ak.Ah.length 0 (S4 s) (by omega) (by rw [hsf];omega)
 rw [hsf] at this;refine this.trans ?_;exact h7 _ (by omega)
theorem D0W {c:C9} {n:Nat} {T:Int} {s:B3} (hc0:V1 c) (hcap:c.Cap<=300) (hn:n<900) (h:Inv c n T s): ∃(a:Nat) (B:Int),S9 s=some (a:Int)/\N4 c=some B/\(a:Int)<=B:=by
 have hv:=B2R hc0 hn h;have hlu:=(C72 hc0 hn h).2;have hr:=D1d hv hlu;have hc1:=hc0;unfold V1 at hc1;have hu: ∀r:Option Int,(cond ((0:Int) !=0) (some 0) r)=r:=fun _=>rfl;cases h with
 |k1 x hk h hw hc ht=>
  have e:S4 ⟨c,x,⟨0,0,0,0, []⟩,⟨0,0,0,0,0, []⟩,⟨0,0,0,0,0,0, []⟩,⟨0,0,0,0,0, []⟩,⟨0,0,0, []⟩,⟨0, []⟩,⟨false,0,0,0, []⟩,⟨[]⟩,⟨0,0,0, []⟩,⟨0,0,0,0, []⟩⟩+T2 []+J1 []=x.Ar.length:=by simp [S4,T2,J1]
  refine ⟨x.Ar.length,c.Cap,by rw [<-e];exact hr, ?_, ?_⟩
  ·unfold N4;rw [N2,A4l hc0];simp only [D3P,D3f,hk,Int.reduceBEq,D3g];unfold K4;simp only [hk,Int.reduceBEq,D3g,D3f]
  ·have b:=(A8b x).1 h;omega
 |k2 x hk h hw hK hc ht hl=>
  have e:S4 ⟨c,⟨0,0,0, []⟩,x,⟨0,0,0,0,0, []⟩,⟨0,0,0,0,0,0, []⟩,⟨0,0,0,0,0, []⟩,⟨0,0,0, []⟩,⟨0, []⟩,⟨false,0,0,0, []⟩,⟨[]⟩,⟨0,0,0, []⟩,⟨0,0,0,0, []⟩⟩+T2 []+J1 []=x.Ab.length:=by simp [S4,T2,J1]
  obtain ⟨b,m1,m2,m3⟩:=C8e (k:=c.K) (cap:=c.Cap) (by omega) (by omega)
  refine ⟨x.Ab.length,((b:Int)*(c.K+1)),by rw [<-e];exact hr, ?_, ?_⟩
  ·unfold N4;rw [N2,A4l hc0];simp only [D3P,D3f,hk,Int.reduceBEq,D3g];unfold K4;simp only [hk,Int.reduceBEq,D3g,D3f,m1,D3c]
  ·rw [<-hK];refine B7h h.2.1 ?_ m3;have ht:=h.2.2.1;rw [B1o (by omega)] at ht
   omega
 |k3 x hk h hw hK hc hm ht hl=>
  have e:S4 ⟨c,⟨0,0,0, []⟩,⟨0,0,0,0, []⟩,x,⟨0,0,0,0,0,0, []⟩,⟨0,0,0,0,0, []⟩,⟨0,0,0, []⟩,⟨0, []⟩,⟨false,0,0,0, []⟩,⟨[]⟩,⟨0,0,0, []⟩,⟨0,0,0,0, []⟩⟩+T2 []+J1 []=x.Ab.length:=by simp [S4,T2,J1]
  obtain ⟨b,m1,m2,m3⟩:=C8e (k:=c.K) (cap:=c.Cap) (by omega) (by omega)
  refine ⟨x.Ab.length,((b:Int)*(c.K+1)),by rw [<-e];exact hr, ?_, ?_⟩
  ·unfold N4;rw [N2,A4l hc0];simp only [D3P,D3f,hk,Int.reduceBEq,D3g];unfold K4;simp only [hk,Int.reduceBEq,D3g,D3f,m1,D3c]
  ·rw [<-hK];refine B7h h.1.2.1 ?_ m3;have ht:=h.1.2.2.1;rw [B1o (by omega)] at ht
   omega
 |k4 x hk h hw hK hc ha ht hl=>
  have e:S4 ⟨c,⟨0,0,0, []⟩,⟨0,0,0,0, []⟩,⟨0,0,0,0,0, []⟩,x,⟨0,0,0,0,0, []⟩,⟨0,0,0, []⟩,⟨0, []⟩,⟨false,0,0,0, []⟩,⟨[]⟩,⟨0,0,0, []⟩,⟨0,0,0,0, []⟩⟩+T2 []+J1 []=x.Av.length:=by simp [S4,T2,J1]
  obtain ⟨B,m1,m2⟩:=C9X h;rw [ha,hK,hc] at m1;refine ⟨x.Av.length,B,by rw [<-e];exact hr, ?_, ?_⟩
  ·unfold N4;rw [N2,A4l hc0];simp only [D3P,D3f,hk,Int.reduceBEq,D3g];unfold K4;simp only [hk,Int.reduceBEq,D3g,D3f,m1,D3c]
  ·exact m2
 |k5 x hk h hw hK hc ht hl=>
  have e:S4 ⟨c,⟨0,0,0, []⟩,⟨0,0,0,0, []⟩,⟨0,0,0,0,0, []⟩,⟨0,0,0,0,0,0, []⟩,x,⟨0,0,0, []⟩,⟨0, []⟩,⟨false,0,0,0, []⟩,⟨[]⟩,⟨0,0,0, []⟩,⟨0,0,0,0, []⟩⟩+T2 []+J1 []=x.Av.length:=by simp [S4,T2,J1]
  obtain ⟨B,m1,m2⟩:=C90 h (by omega)
  rw [hK,hc] at m1;refine ⟨x.Av.length,B,by rw [<-e];exact hr, ?_, ?_⟩
  ·unfold N4;rw [N2,A4l hc0];simp only [D3P,D3f,hk,Int.reduceBEq,D3g];unfold K4;simp only [hk,Int.reduceBEq,D3g,D3f,m1,D3c]
  ·exact m2
 |k6 x hk h hp ht ho=>
  have e:S4 ⟨c,⟨0,0,0, []⟩,⟨0,0,0,0, []⟩,⟨0,0,0,0,0, []⟩,⟨0,0,0,0,0,0, []⟩,⟨0,0,0,0,0, []⟩,x,⟨0, []⟩,⟨false,0,0,0, []⟩,⟨[]⟩,⟨0,0,0, []⟩,⟨0,0,0,0, []⟩⟩+T2 []+J1 []=x.Ae.length:=by simp [S4,T2,J1]
  refine ⟨x.Ae.length,c.P+1,by rw [<-e];exact hr, ?_,by have:=h.1.2.2.2;omega⟩
  unfold N4;rw [N2,A4l hc0];simp only [D3P,D3f,hk,Int.reduceBEq,D3g];unfold K4;simp only [hk,Int.reduceBEq,D3g,D3f];rw [A7 (n:=c.P+1) (by omega) (by omega)]
 |k7 x hk h hw ht=>
  have e:S4 ⟨c,⟨0,0,0, []⟩,⟨0,0,0,0, []⟩,⟨0,0,0,0,0, []⟩,⟨0,0,0,0,0,0, []⟩,⟨0,0,0,0,0, []⟩,⟨0,0,0, []⟩,x,⟨false,0,0,0, []⟩,⟨[]⟩,⟨0,0,0, []⟩,⟨0,0,0,0, []⟩⟩+T2 []+J1 []=x.Bc.length:=by simp [S4,T2,J1]
  refine ⟨x.Bc.length,c.W,by rw [<-e];exact hr, ?_, ?_⟩
  ·unfold N4;rw [N2,A4l hc0];simp only [D3P,D3f,hk,Int.reduceBEq,D3g];unfold K4;simp only [hk,Int.reduceBEq,D3g,D3f]
  ·omega
 |k8 x hk h hw hc hm ht=>
  have e:S4 ⟨c,⟨0,0,0, []⟩,⟨0,0,0,0, []⟩,⟨0,0,0,0,0, []⟩,⟨0,0,0,0,0,0, []⟩,⟨0,0,0,0,0, []⟩,⟨0,0,0, []⟩,⟨0, []⟩,x,⟨[]⟩,⟨0,0,0, []⟩,⟨0,0,0,0, []⟩⟩+T2 []+J1 []=x.Ar.length:=by simp [S4,T2,J1]
  have b:=C9e h;rw [hw,hc] at b;refine ⟨x.Ar.length,(L5 c.W c.Cap),by rw [<-e];exact hr, ?_, ?_⟩
  ·unfold N4;rw [N2,A4l hc0];simp only [D3P,D3f,hk,Int.reduceBEq,D3g];unfold K4;simp only [hk,Int.reduceBEq,D3g,D3f]
  ·exact b
 |k9 S hk i hi h hl=>
  have e:S4 ⟨c,⟨0,0,0, []⟩,⟨0,0,0,0, []⟩,⟨0,0,0,0,0, []⟩,⟨0,0,0,0,0,0, []⟩,⟨0,0,0,0,0, []⟩,⟨0,0,0, []⟩,⟨0, []⟩,⟨false,0,0,0, []⟩,⟨S⟩,⟨0,0,0, []⟩,⟨0,0,0,0, []⟩⟩+T2 S+J1 []=T2 S:=by simp [S4,J1]
  have hS:=B1j hc0 hk hl;have m:=B0r (fun d:A5=>d.Au.length) c.Cap.toNat S (fun d hd=>by have:=(C0W (h d hd)).2;omega)
  refine ⟨T2 S,c.Ah*c.Cap,by rw [<-e];exact hr, ?_, ?_⟩
  ·have q1:=Int.mul_le_mul (show c.Ah<=16 by omega) hcap (by omega) (by decide)
   have q0:=Int.mul_nonneg (a:=c.Ah) (b:=c.Cap) (by omega) (by omega)
   unfold N4;rw [N2,A4l hc0];simp only [D3P,D3f,hk,Int.reduceBEq,D3g];unfold K4;simp only [hk,Int.reduceBEq,D3g,D3f];rw [A7 (n:=c.Ah*c.Cap) (by omega) (by omega)]
  ·have e2:((S.length*c.Cap.toNat:Nat):Int)=c.Ah*c.Cap:=by
    push_cast
    rw [hl,Int.toNat_of_nonneg (by omega)]
   rw [<-e2];have m' :T2 S<=S.length*c.Cap.toNat:=m;omega
 |k10 x hk h hK hc=>
  have e:S4 ⟨c,⟨0,0,0, []⟩,⟨0,0,0,0, []⟩,⟨0,0,0,0,0, []⟩,⟨0,0,0,0,0,0, []⟩,⟨0,0,0,0,0, []⟩,⟨0,0,0, []⟩,⟨0, []⟩,⟨false,0,0,0, []⟩,⟨[]⟩,x,⟨0,0,0,0, []⟩⟩+T2 []+J1 []=x.Ao.length:=by simp [S4,T2,J1]
  refine ⟨x.Ao.length,c.Cap,by rw [<-e];exact hr, ?_, ?_⟩
  ·unfold N4;rw [N2,A4l hc0];simp only [D3P,D3f,hk,Int.reduceBEq,D3g];unfold K4;simp only [hk,Int.reduceBEq,D3g,D3f]
  ·have b:=h.1;unfold A4s at b;omega
 |k11 x hk h hw hK hc ht hs he=>
  have e:S4 ⟨c,⟨0,0,0, []⟩,⟨0,0,0,0, []⟩,⟨0,0,0,0,0, []⟩,⟨0,0,0,0,0,0, []⟩,⟨0,0,0,0,0, []⟩,⟨0,0,0, []⟩,⟨0, []⟩,⟨false,0,0,0, []⟩,⟨[]⟩,⟨0,0,0, []⟩,x⟩+T2 []+J1 x.Ag=J1 x.Ag:=by simp [S4,T2]
  obtain ⟨B,m1,m2⟩:=C9P h hs;rw [hK,hc] at m1;refine ⟨J1 x.Ag,B,by rw [<-e];exact hr, ?_, ?_⟩
  ·unfold N4;rw [N2,A4l hc0];simp only [D3P,D3f,hk,Int.reduceBEq,D3g];unfold K4;simp only [hk,Int.reduceBEq,D3g,D3f,m1,D3c]
  ·exact m2
end Go.Win
namespace Go.Win
open Go.Vc Go.Dec
theorem C3P {k a w kk cap p ch mx:Int} (hk:1<=k/\k<=11) (ha:1<=a/\a<=4) (hw:1<=w/\w<=20) (hkk:1<=kk/\kk<=4) (hcap:2<=cap/\cap<=41) (hp:0<=p/\p<=4) (hch:1<=ch/\ch<=3)
  (hm:k≠8->1<=mx/\mx<=20) (h8:k=8->0<=mx/\mx<=1):V1 (M2 ⟨k,a,w,kk,cap,p,ch,mx⟩)/\(M2 ⟨k,a,w,kk,cap,p,ch,mx⟩).Cap<=41/\(M2 ⟨k,a,w,kk,cap,p,ch,mx⟩).Ah<=3:=by
 have:k=1\/k=2\/k=3\/k=4\/k=5\/k=6\/k=7\/k=8\/k=9\/k=10\/k=11:=by omega
 unfold V1;rcases this with h|h|h|h|h|h|h|h|h|h|h<;>subst h
 ·rw [show M2 ⟨1,a,w,kk,cap,p,ch,mx⟩=⟨1,0,w,0,cap,0,0,0⟩ from rfl];dsimp only;omega
 ·rw [show M2 ⟨2,a,w,kk,cap,p,ch,mx⟩=⟨2,0,w,kk,cap,0,0,0⟩ from rfl];dsimp only;omega
 ·rw [show M2 ⟨3,a,w,kk,cap,p,ch,mx⟩=⟨3,0,w,kk,cap,0,0,mx⟩ from rfl];dsimp only;omega
 ·rw [show M2 ⟨4,a,w,kk,cap,p,ch,mx⟩=⟨4,a,w,kk,cap,0,0,0⟩ from rfl];dsimp only;omega
 ·rw [show M2 ⟨5,a,w,kk,cap,p,ch,mx⟩=⟨5,0,w,kk,cap,0,0,0⟩ from rfl];dsimp only;omega
 ·rw [show M2 ⟨6,a,w,kk,cap,p,ch,mx⟩=⟨6,0,0,0,0,p,0,0⟩ from rfl];dsimp only;omega
 ·rw [show M2 ⟨7,a,w,kk,cap,p,ch,mx⟩=⟨7,0,w,0,0,0,0,0⟩ from rfl];dsimp only;omega
 ·rw [show M2 ⟨8,a,w,kk,cap,p,ch,mx⟩=⟨8,0,w,0,cap,0,0,mx⟩ from rfl];dsimp only;omega
 ·rw [show M2 ⟨9,a,w,kk,cap,p,ch,mx⟩=⟨9,0,w,0,cap,0,ch,0⟩ from rfl];dsimp only;omega
 ·rw [show M2 ⟨10,a,w,kk,cap,p,ch,mx⟩=⟨10,0,0,kk,cap,0,0,0⟩ from rfl];dsimp only;omega
 ·rw [show M2 ⟨11,a,w,kk,cap,p,ch,mx⟩=⟨11,0,w,kk,cap,0,0,0⟩ from rfl];dsimp only;omega
theorem D2O {x:Int} (h:0<=x):0<=Int.tmod x 2/\Int.tmod x 2<=1:=by
 rw [Int.tmod_eq_emod_of_nonneg h];omega
theorem C9Y (p0:C9): ∃c,A8N p0=some c/\V1 c/\c.Cap<=41/\c.Ah<=3:=by
 obtain ⟨a1,e1,b1,c1⟩:=A02 p0.Ax (n:=11) (by decide) (by decide)
 obtain ⟨a2,e2,b2,c2⟩:=A02 p0.Bd (n:=4) (by decide) (by decide)
 obtain ⟨a3,e3,b3,c3⟩:=A02 p0.W (n:=20) (by decide) (by decide)
 obtain ⟨a4,e4,b4,c4⟩:=A02 p0.K (n:=4) (by decide) (by decide)
 obtain ⟨a5,e5,b5,c5⟩:=A02 p0.Cap (n:=40) (by decide) (by decide)
 obtain ⟨a6,e6,b6,c6⟩:=A02 p0.P (n:=5) (by decide) (by decide)
 obtain ⟨a7,e7,b7,c7⟩:=A02 p0.Ah (n:=3) (by decide) (by decide)
 obtain ⟨a8,e8,b8,c8⟩:=A02 p0.Be (n:=20) (by decide) (by decide)
 have w1:A2 (1+a1)=1+a1:=by rw [A7]<;>omega
 have w2:A2 (1+a2)=1+a2:=by rw [A7]<;>omega
 have w3:A2 (1+a3)=1+a3:=by rw [A7]<;>omega
 have w4:A2 (1+a4)=1+a4:=by rw [A7]<;>omega
 have w5:A2 (2+a5)=2+a5:=by rw [A7]<;>omega
 have w7:A2 (1+a7)=1+a7:=by rw [A7]<;>omega
 have w8:A2 (1+a8)=1+a8:=by rw [A7]<;>omega
 unfold A8N A42 A4x;simp only [e1,e2,e3,e4,e5,e6,e7,e8,D3c,w1,w2,w3,w4,w5,w7,w8]
 by_cases h:1+a1=8
 ·rw [D36.2 h,D3g];have:=D2O (x:=1+a8) (by omega)
  exact ⟨_,rfl,C3P (by omega) (by omega) (by omega) (by omega) (by omega) (by omega) (by omega) (by omega) (by omega)⟩
 ·rw [D32.2 h,D3f];exact ⟨_,rfl,C3P (by omega) (by omega) (by omega) (by omega) (by omega) (by omega) (by omega) (by omega) (by omega)⟩
theorem C8N:T5 []:=by
 unfold T5;exact ⟨Nat.zero_le _,fun b hb=>(by cases hb)⟩
theorem D0V {c:C9} (hc:V1 c):Inv c 0 0 (T3 c 0):=by
 have hc' :=hc;unfold V1 at hc';have r:=(C5N (now:=0) hc ⟨Int.le_refl _,by decide⟩).2.1
 have:c.Ax=1\/c.Ax=2\/c.Ax=3\/c.Ax=4\/c.Ax=5\/c.Ax=6\/c.Ax=7\/c.Ax=8\/c.Ax=9\/c.Ax=10\/c.Ax=11:=by omega
 rcases this with h|h|h|h|h|h|h|h|h|h|h
 ·have e:T3 c 0=⟨c,⟨c.W,c.Cap,0, []⟩,⟨0,0,0,0, []⟩,⟨0,0,0,0,0, []⟩,⟨0,0,0,0,0,0, []⟩,⟨0,0,0,0,0, []⟩,⟨0,0,0, []⟩,⟨0, []⟩,⟨false,0,0,0, []⟩,⟨[]⟩,⟨0,0,0, []⟩,⟨0,0,0,0, []⟩⟩:=by
   unfold T3;simp only [h,Int.reduceEq,if_true,if_false]
  rw [e] at r⊢;unfold A0u at r;simp only [h,Int.reduceEq,false_and,or_false,false_or,true_and] at r;exact .k1 _ h r.1 rfl rfl (Int.le_refl _)
 ·have e:T3 c 0=⟨c,⟨0,0,0, []⟩,⟨c.W,c.K,c.Cap,0, []⟩,⟨0,0,0,0,0, []⟩,⟨0,0,0,0,0,0, []⟩,⟨0,0,0,0,0, []⟩,⟨0,0,0, []⟩,⟨0, []⟩,⟨false,0,0,0, []⟩,⟨[]⟩,⟨0,0,0, []⟩,⟨0,0,0,0, []⟩⟩:=by
   unfold T3;simp only [h,Int.reduceEq,if_true,if_false]
  rw [e] at r⊢;unfold A0u at r;simp only [h,Int.reduceEq,false_and,or_false,false_or,true_and] at r;exact .k2 _ h r.1 rfl rfl rfl (Int.le_refl _) (Nat.zero_le _)
 ·have e:T3 c 0=⟨c,⟨0,0,0, []⟩,⟨0,0,0,0, []⟩,⟨c.W,c.K,c.Cap,c.Be,0, []⟩,⟨0,0,0,0,0,0, []⟩,⟨0,0,0,0,0, []⟩,⟨0,0,0, []⟩,⟨0, []⟩,⟨false,0,0,0, []⟩,⟨[]⟩,⟨0,0,0, []⟩,⟨0,0,0,0, []⟩⟩:=by
   unfold T3;simp only [h,Int.reduceEq,if_true,if_false]
  rw [e] at r⊢;unfold A0u at r;simp only [h,Int.reduceEq,false_and,or_false,false_or,true_and] at r;exact .k3 _ h r.1 rfl rfl rfl rfl (Int.le_refl _) (Nat.zero_le _)
 ·have e:T3 c 0=⟨c,⟨0,0,0, []⟩,⟨0,0,0,0, []⟩,⟨0,0,0,0,0, []⟩,⟨c.Bd,c.W,c.K,c.Cap,0,0, []⟩,⟨0,0,0,0,0, []⟩,⟨0,0,0, []⟩,⟨0, []⟩,⟨false,0,0,0, []⟩,⟨[]⟩,⟨0,0,0, []⟩,⟨0,0,0,0, []⟩⟩:=by
   unfold T3;simp only [h,Int.reduceEq,if_true,if_false]
  rw [e] at r⊢;unfold A0u at r;simp only [h,Int.reduceEq,false_and,or_false,false_or,true_and] at r;exact .k4 _ h r.1 rfl rfl rfl rfl (Int.le_refl _) (Nat.zero_le _)
 ·have e:T3 c 0=⟨c,⟨0,0,0, []⟩,⟨0,0,0,0, []⟩,⟨0,0,0,0,0, []⟩,⟨0,0,0,0,0,0, []⟩,⟨c.W,c.K,c.Cap,0,0, []⟩,⟨0,0,0, []⟩,⟨0, []⟩,⟨false,0,0,0, []⟩,⟨[]⟩,⟨0,0,0, []⟩,⟨0,0,0,0, []⟩⟩:=by
   unfold T3;simp only [h,Int.reduceEq,if_true,if_false]
  rw [e] at r⊢;unfold A0u at r;simp only [h,Int.reduceEq,false_and,or_false,false_or,true_and] at r;exact .k5 _ h r.1 rfl rfl rfl (Int.le_refl _) (Nat.zero_le _)
 ·have e:T3 c 0=⟨c,⟨0,0,0, []⟩,⟨0,0,0,0, []⟩,⟨0,0,0,0,0, []⟩,⟨0,0,0,0,0,0, []⟩,⟨0,0,0,0,0, []⟩,⟨c.P,0,0,List.replicate (c.P+1).toNat ⟨0,0⟩⟩,⟨0, []⟩,⟨false,0,0,0, []⟩,⟨[]⟩,⟨0,0,0, []⟩,⟨0,0,0,0, []⟩⟩:=by
   unfold T3;simp only [h,Int.reduceEq,if_true,if_false]
  rw [e] at r⊢;unfold A0u at r;simp only [h,Int.reduceEq,false_and,or_false,false_or,true_and] at r;exact .k6 _ h r.1 rfl (Int.le_refl _) fun w hw=>(by rw [List.eq_of_mem_replicate hw];unfold Q0;decide)
 ·have e:T3 c 0=⟨c,⟨0,0,0, []⟩,⟨0,0,0,0, []⟩,⟨0,0,0,0,0, []⟩,⟨0,0,0,0,0,0, []⟩,⟨0,0,0,0,0, []⟩,⟨0,0,0, []⟩,⟨0,List.replicate c.W.toNat 0⟩,⟨false,0,0,0, []⟩,⟨[]⟩,⟨0,0,0, []⟩,⟨0,0,0,0, []⟩⟩:=by
   unfold T3;simp only [h,Int.reduceEq,if_true,if_false]
  rw [e] at r⊢;unfold A0u at r;simp only [h,Int.reduceEq,false_and,or_false,false_or,true_and] at r;exact .k7 _ h r.1 r.2 (Int.le_refl _)
 ·have e:T3 c 0=⟨c,⟨0,0,0, []⟩,⟨0,0,0,0, []⟩,⟨0,0,0,0,0, []⟩,⟨0,0,0,0,0,0, []⟩,⟨0,0,0,0,0, []⟩,⟨0,0,0, []⟩,⟨0, []⟩,⟨c.Be==1,c.W,c.Cap,0, []⟩,⟨[]⟩,⟨0,0,0, []⟩,⟨0,0,0,0, []⟩⟩:=by
   unfold T3;simp only [h,Int.reduceEq,if_true,if_false]
  rw [e] at r⊢;unfold A0u at r;simp only [h,Int.reduceEq,false_and,or_false,false_or,true_and] at r;exact .k8 _ h r.1 rfl rfl rfl (Int.le_refl _)
 ·have e:T3 c 0=⟨c,⟨0,0,0, []⟩,⟨0,0,0,0, []⟩,⟨0,0,0,0,0, []⟩,⟨0,0,0,0,0,0, []⟩,⟨0,0,0,0,0, []⟩,⟨0,0,0, []⟩,⟨0, []⟩,⟨false,0,0,0, []⟩,⟨List.replicate c.Ah.toNat ⟨c.W,c.Cap,0,0, []⟩⟩,⟨0,0,0, []⟩,⟨0,0,0,0, []⟩⟩:=by
   unfold T3;simp only [h,Int.reduceEq,if_true,if_false]
  rw [e] at r⊢;unfold A0u at r;simp only [h,Int.reduceEq,false_and,or_false,false_or,true_and] at r;exact .k9 _ h 0 (D3U _) (fun d hd=>(by
   have hd:=List.eq_of_mem_replicate hd;subst hd;exact ⟨⟨⟨by show 1<=c.W;omega,by show c.W<=_;omega,by show 1<=c.Cap;omega,by show c.Cap<=64;omega,by show (0:Int)<=0;decide,by show (0:Int)<=_;decide,by show ((0:Nat):Int)<=c.Cap;omega⟩, .inl ⟨rfl,rfl,rfl⟩⟩,rfl,rfl,rfl⟩)) (by rw [D4d];omega)
 ·have e:T3 c 0=⟨c,⟨0,0,0, []⟩,⟨0,0,0,0, []⟩,⟨0,0,0,0,0, []⟩,⟨0,0,0,0,0,0, []⟩,⟨0,0,0,0,0, []⟩,⟨0,0,0, []⟩,⟨0, []⟩,⟨false,0,0,0, []⟩,⟨[]⟩,⟨c.K,c.Cap,0, []⟩,⟨0,0,0,0, []⟩⟩:=by
   unfold T3;simp only [h,Int.reduceEq,if_true,if_false]
  rw [e] at r⊢;unfold A0u at r;simp only [h,Int.reduceEq,false_and,or_false,false_or,true_and] at r;exact .k10 _ h r.1 rfl rfl
 ·have e:T3 c 0=⟨c,⟨0,0,0, []⟩,⟨0,0,0,0, []⟩,⟨0,0,0,0,0, []⟩,⟨0,0,0,0,0,0, []⟩,⟨0,0,0,0,0, []⟩,⟨0,0,0, []⟩,⟨0, []⟩,⟨false,0,0,0, []⟩,⟨[]⟩,⟨0,0,0, []⟩,⟨c.W,c.K,c.Cap,0, []⟩⟩:=by
   unfold T3;simp only [h,Int.reduceEq,if_true,if_false]
  rw [e] at r⊢;unfold A0u at r;simp only [h,Int.reduceEq,false_and,or_false,false_or,true_and] at r;exact .k11 _ h r.1 rfl rfl rfl (Int.le_refl _) C8N (D3U _)
theorem D0U {c:C9} {n:Nat} {T:Int} {s:B3} (h:Inv c n T s):s.Ai=c:=by
 cases h<;>rfl
def B7T (i:Int) (s:B3) (L:List Int) (At:Int):=(i,s.Ai.Ax,s.Ai.Bd,s.Ai.W,s.Ai.K,s.Ai.Cap,s.Ai.P,s.Ai.Ah,s.Ai.Be,s.Aj.W,s.Aj.Cap,s.Aj.Now,s.Aj.Ar,s.Ap.W,s.Ap.K,s.Ap.Cap,s.Ap.Now,s.Ap.Ab,s.Sum.W,s.Sum.K,s.Sum.Cap,s.Sum.Be,s.Sum.Now,s.Sum.Ab,s.Al.Bd,s.Al.W,s.Al.K,s.Al.Cap,s.Al.Now,s.Al.Bg,s.Al.Av,s.Am.W,s.Am.K,s.Am.Cap,s.Am.Now,s.Am.Bg,s.Am.Av,s.Bb.P,s.Bb.Ay,s.Bb.Now,s.Bb.Ae,s.Aq.Now,s.Aq.Bc,s.Ad.Be,s.Ad.W,s.Ad.Cap,s.Ad.Now,s.Ad.Ar,s.Ak.Ah,s.Af.K,s.Af.Cap,s.Af.N,s.Af.Ao,s.Aa.W,s.Aa.K,s.Aa.Cap,s.Aa.Now,s.Aa.Ag,L,At)
theorem B8E {c:C9} {n:Nat} {T:Int} {s:B3} (hc0:V1 c) (hcap:c.Cap<=300) (hn:n<900) (h:Inv c n T s) (i:Nat) (hi:i<1000) (L:List Int) (At:Int):
  L8 c (i:Int) L At s=some (.inl (B7T ((i+1:Nat):Int) s L At)):=by
 obtain ⟨a,B,e1,e2,e3⟩:=D0W hc0 hcap hn h;unfold L8;rw [B2R hc0 hn h,D3c];simp only [D3P,D3p,E4,e1,e2,D3c,D3D,D3j (show¬((a:Int)>B) by omega),D3f]
 rw [show A2 ((i:Int)+1)=((i+1:Nat):Int) by rw [A7]<;>omega]
 rfl
theorem D0i (c:C9) (x:A9) (s:B3) (i:Int) (ds L:List Int) (At:Int):P9 c x (s,0) i ds L At=
  Option.bind (F6 s x.V ds) fun y=>cond (y.2==(0:Int)) (L8 c i L At y.1)<|
   Option.bind (gd (!(((y.2==(8:Int))||(y.2==(2:Int)))||(y.2==(1:Int)))) (A2z y.1 B6i)) fun b=>
   cond ((((y.2==(8:Int))||(y.2==(2:Int)))||(y.2==(1:Int)))||(!b)) (some (.inr false))<|L8 c i L At s:=rfl
theorem C5I {c:C9} {x:A9} {s:B3} {i:Int} {ds L:List Int} {At f:Int} (e:F6 s x.V ds=some (B6i,f)) (hf:f=4\/f=5\/f=6\/f=9):
  P9 c x (s,0) i ds L At=L8 c i L At s:=by
 rw [D0i,e,D3c];have z:=C5f B6i C83;rcases hf with h|h|h|h<;>subst h
 ·simp only [z,Int.reduceBEq,D3f,Bool.or_self,D3p,E4,D3c,D3o]
 ·simp only [z,Int.reduceBEq,D3f,Bool.or_self,D3p,E4,D3c,D3o]
 ·simp only [z,Int.reduceBEq,D3f,Bool.or_self,D3p,E4,D3c,D3o]
 ·simp only [z,Int.reduceBEq,D3f,Bool.or_self,D3p,E4,D3c,D3o]
theorem C5H {c:C9} {x:A9} {s r:B3} {i:Int} {ds L:List Int} {At:Int} (e:F6 s x.V ds=some (r,0)):
  P9 c x (s,0) i ds L At=L8 c i L At r:=by
 rw [D0i,e,D3c]
 rfl
def C1V (c:C9) (n:Nat) (T:Int) (i:Nat) (L:List Int) (r:Option ((Int×Int×Int×Int×Int×Int×Int×Int×Int×Int×Int×Int×(List A9)×Int×Int×Int×Int×(List A3)×Int×Int×Int×Int×Int×(List A3)×Int×Int×Int×Int×Int×Int×(List A4)×Int×Int×Int×Int×Int×(List A4)×Int×Int×Int×(List C5)×Int×(List Int)×Bool×Int×Int×Int×(List A9)×(List A5)×Int×Int×Int×(List D4)×Int×Int×Int×Int×(List A6)×(List Int)×Int)⊕Bool)):Prop:=
 ∃(s:B3) (At:Nat),r=some (.inl (B7T ((i+1:Nat):Int) s L (At:Int)))/\Inv c (n+1) T s/\At<=L.length
theorem C9w {c:C9} {n:Nat} {T:Int} {s:B3} {x:A9} (hc0:V1 c) (hcap:c.Cap<=300) (hn:n+1<900) (h:Inv c n T s) (h9:c.Ax≠9) (hv:-4096<=x.V/\x.V<=4096) (i:Nat) (hi:i<1000)
  (L:List Int) (At:Nat) (hA:At<=L.length):C1V c n T i L (S2 c x (s,0) (i:Int) [] L (At:Int)):=by
 have nd:A1t s x.V []=some (0,false):=by
  unfold A1t;rw [D0U h];have:(c.Ax !=9)=true:=by rw [bne_iff_ne];exact h9
  simp only [this,D3o,D3W,D3g]
  rfl
 have fin: ∃(s' :B3),P9 c x (s,0) (i:Int) [] L (At:Int)=some (.inl (B7T ((i+1:Nat):Int) s' L (At:Int)))/\Inv c (n+1) T s' :=by
  rcases D0S hc0 (by omega) h h9 hv with ⟨r,e,g⟩|⟨f,e,hf⟩
  ·exact ⟨r,by rw [C5H e];exact B8E hc0 hcap hn g i hi L _,g⟩
  ·exact ⟨s,by rw [C5I e (by omega)];exact B8E hc0 hcap (by omega) h i hi L _,C73 h⟩
 obtain ⟨s',e,g⟩:=fin;refine ⟨s',At, ?_,g,hA⟩;unfold S2;refine G9 ?_;simp only [];unfold U6;rw [show decide ((([]:List Int).length:Int)<20)=true from rfl,D3g];simp only [];rw [nd,D3c];simp only [D3p,D3W,D3g];rw [e]
 rfl
theorem D0Z {c:C9} {n:Nat} {T:Int} {s:B3} {x:A9} (hc0:V1 c) (hcap:c.Cap<=300) (hch:c.Ah<=3) (hn:n+1<900) (h:Inv c n T s) (h9:c.Ax=9) (hv:-4096<=x.V/\x.V<=4096) (i:Nat) (hi:i<1000)
  (L:List Int) (hL:L.length<=maxLen) (At:Nat) (hA:At<=L.length):C1V c n T i L (S2 c x (s,0) (i:Int) [] L (At:Int)):=by
 have hval:=B2R hc0 (by omega) h
 cases id h with
 |k9 S hk m hm hS hl=>
  have hlen:=B1j hc0 hk hl;have h3:S.length<=3:=by omega
  have val:=C51 c.W c.Cap m S hS hlen.1 hlen.2;have nds: ∀ds:List Int,ds.length<20->A1t ⟨c,⟨0,0,0, []⟩,⟨0,0,0,0, []⟩,⟨0,0,0,0,0, []⟩,⟨0,0,0,0,0,0, []⟩,⟨0,0,0,0,0, []⟩,⟨0,0,0, []⟩,⟨0, []⟩,⟨false,0,0,0, []⟩,⟨S⟩,⟨0,0,0, []⟩,⟨0,0,0,0, []⟩⟩ x.V ds=some (B2j (run (A3N x.V S) ds 0)):=by
   intro ds hd;have hd:ds.length<=maxLen:=by rw [F8];omega
   have nl:=B6E c.W c.Cap m x.V ds (by omega) hv hd S hS (by omega) S [] 0 rfl
   have sn:A7G ⟨S⟩ x.V ds=some (B2j (run (A3N x.V S) ds 0)):=by
    unfold A7G;rw [val];simp only [D3c,D3P,D3f];exact nl
   unfold A1t;simp only [hk,D3P,D3p,E4,hval,D3c,Bool.or_self,D3f];rw [sn]
   rfl
  have adds: ∀(ds:List Int) (o:Option (List A5)),ds.length<20->after (A3N x.V S) ds=some (.done o)->
    F6 ⟨c,⟨0,0,0, []⟩,⟨0,0,0,0, []⟩,⟨0,0,0,0,0, []⟩,⟨0,0,0,0,0,0, []⟩,⟨0,0,0,0,0, []⟩,⟨0,0,0, []⟩,⟨0, []⟩,⟨false,0,0,0, []⟩,⟨S⟩,⟨0,0,0, []⟩,⟨0,0,0,0, []⟩⟩ x.V ds=some (match o with|none=>(B6i,9)|some cs=>(⟨c,⟨0,0,0, []⟩,⟨0,0,0,0, []⟩,⟨0,0,0,0,0, []⟩,⟨0,0,0,0,0,0, []⟩,⟨0,0,0,0,0, []⟩,⟨0,0,0, []⟩,⟨0, []⟩,⟨false,0,0,0, []⟩,⟨cs⟩,⟨0,0,0, []⟩,⟨0,0,0,0, []⟩⟩,0)):=by
   intro ds o hd haft;have hd:ds.length<=maxLen:=by rw [F8];omega
   have ad:=C0o c.W c.Cap m x.V ds (by omega) hv hd S hS (by omega) S [] [] 0 rfl rfl
   rw [B7R haft] at ad;have sadd:B0o ⟨S⟩ x.V ds=some (C12 ds.length [] (.ok o ds.length)):=by
    unfold B0o;rw [val];simp only [D3c,D3P,D3f];exact ad
   unfold F6;rw [hval,D3c];simp only [D3P,D3f,hk,Int.reduceBEq,D3g];rw [sadd,D3c];cases o with
   |none=>
    have e:C12 ds.length [] (RR.ok (none:Option (List A5)) ds.length)=(⟨[]⟩,9):=rfl;rw [e];unfold I7 A0f;simp only [hk,D3P,Bool.and_false,D3H,D3f]
    rfl
   |some cs=>
    have e:C12 ds.length [] (RR.ok (some cs) ds.length)=(⟨cs⟩,0):=by
     show (if ds.length<ds.length then ((⟨[]⟩:D6),(8:Int)) else (⟨[]++cs⟩,0))=_
     rw [if_neg (by omega)];rfl
    rw [e];unfold I7 A0f;simp only [hk,D3P,Bool.and_false,D3H,D3f]
  unfold S2;obtain ⟨r,e,s',At',q1,q2,q3⟩:=T8 (f:=fun t:List Int×List Int×Int=>U6 c x (⟨c,⟨0,0,0, []⟩,⟨0,0,0,0, []⟩,⟨0,0,0,0,0, []⟩,⟨0,0,0,0,0,0, []⟩,⟨0,0,0,0,0, []⟩,⟨0,0,0, []⟩,⟨0, []⟩,⟨false,0,0,0, []⟩,⟨S⟩,⟨0,0,0, []⟩,⟨0,0,0,0, []⟩⟩,0) (i:Int) t.1 t.2.1 t.2.2)
   (fun t=> ∃(At' :Nat) (t' :DT (Option (List A5))),At' <=L.length/\t.1.length<20/\t.2.1=L/\t.2.2=(At' :Int)/\after (A3N x.V S) t.1=some t')
   (fun t=>8-t.1.length) (fun r=>C1V c n T i L (some r)) ([],L,(At:Int))
   ⟨At,A3N x.V S,hA,(show 0<20 by decide),rfl,rfl,C0p _⟩ (by
    rintro ⟨ds,L',a'⟩ ⟨At',t',hA',hd,rfl,rfl,haft⟩;simp only at haft hd⊢;have ft:=B75 ds _ _ t' (B8u c.W c.Cap m x.V S hS) haft;unfold U6;have c0:decide ((ds.length:Int)<20)=true:=by rw [D3e];omega
    rw [c0,D3g];simp only [];rw [nds ds hd,D3c];cases t' with
    |done o=>
     right;rw [B7R haft];have e:B2j (RR.ok o ds.length)=(0,false):=rfl;rw [e];simp only [D3p,D3W,D3g];have ad:=adds ds o hd haft;cases o with
     |none=>
      refine ⟨_,by rw [C5I ad (by omega),B8E hc0 hcap (by omega) h i hi L' _];rfl,_,At',rfl,C73 h,hA'⟩
     |some cs=>
      have la:=D1h ds _ (C0q c.W c.Cap m x.V (by omega) hv S hS) _ _ _ (B7R haft) cs rfl
      have g:Inv c (n+1) T ⟨c,⟨0,0,0, []⟩,⟨0,0,0,0, []⟩,⟨0,0,0,0,0, []⟩,⟨0,0,0,0,0,0, []⟩,⟨0,0,0,0,0, []⟩,⟨0,0,0, []⟩,⟨0, []⟩,⟨false,0,0,0, []⟩,⟨cs⟩,⟨0,0,0, []⟩,⟨0,0,0,0, []⟩⟩:= .k9 cs hk (m+1) (by omega) la.2 (by rw [la.1];exact hl)
      refine ⟨_,by rw [C5H ad,B8E hc0 hcap hn g i hi L' _];rfl,_,At',rfl,g,hA'⟩
    |ask mm k=>
     left;rw [D1i haft];have e:B2j (RR.need mm ds.length:RR (Option (List A5)))=(mm,true):=rfl;rw [e];have hfm:1<=mm/\mm<=1099511627776/\ds.length<6:=by
      have f2:=ft.2;cases hn2:2*S.length-ds.length with
      |zero=>rw [hn2] at f2;exact f2.elim
      |succ n2=>
       rw [hn2] at f2;exact ⟨f2.1,(B74 _ ds _ _ (B8a c.W c.Cap m x.V S hS) haft).1,by omega⟩
     have c1:decide (mm<1)=false:=by rw [D3t];omega
     simp only [D3o,c1,Bool.or_self,D3f];obtain ⟨d,At2,e1,e2,e3,e4⟩:=C8R L' At' mm hfm.1 (by omega) hL hA'
     rw [e1];simp only [D3c];have hk2:decide ((ds.length+ [d].length)*8<=140737488355328)=true:=by rw [D3e,D3R];omega
     rw [hk2,O7];refine ⟨_,rfl,⟨At2,k d,e4,by simp;omega,rfl,rfl, ?_⟩,by simp;omega⟩
     rw [B4x ds _ _ d haft];show after (.ask mm k) [d]=_;unfold after;rw [if_pos ⟨e2,e3⟩,C0p])
  exact ⟨s',At',by rw [e];exact q1,q2,q3⟩
 |_ hk=>exact absurd h9 (by omega)
theorem D2D {c:C9} {n:Nat} {T:Int} {s:B3} {x:A9} (hc0:V1 c) (hcap:c.Cap<=300) (hch:c.Ah<=3) (hn:n+1<900) (h:Inv c n T s) (hv:-4096<=x.V/\x.V<=4096) (i:Nat) (hi:i<1000)
  (L:List Int) (hL:L.length<=maxLen) (At:Nat) (hA:At<=L.length):C1V c n T i L (S2 c x (s,0) (i:Int) [] L (At:Int)):=by
 by_cases h9:c.Ax=9
 ·exact D0Z hc0 hcap hch hn h h9 hv i hi L hL At hA
 ·exact C9w hc0 hcap hn h h9 hv i hi L At hA
theorem D0Y {c:C9} {l:List A9} {n:Nat} {T:Int} {s:B3} (hc0:V1 c) (hcap:c.Cap<=300) (hch:c.Ah<=3) (hn:n+1<900) (h:Inv c n T s) (hl:n<l.length)
  (h0:0<=l[n].T) (h1:T<=l[n].T) (h2:l[n].T<=16777216) (hv:-4096<=l[n].V/\l[n].V<=4096) (L:List Int) (hL:L.length<=maxLen) (At:Nat) (hA:At<=L.length):
  ∃(s' :B3) (At' :Nat),Q9 c l (n:Int) s.Ai.Ax s.Ai.Bd s.Ai.W s.Ai.K s.Ai.Cap s.Ai.P s.Ai.Ah s.Ai.Be s.Aj.W s.Aj.Cap s.Aj.Now s.Aj.Ar s.Ap.W s.Ap.K s.Ap.Cap s.Ap.Now s.Ap.Ab s.Sum.W s.Sum.K s.Sum.Cap s.Sum.Be s.Sum.Now s.Sum.Ab s.Al.Bd s.Al.W s.Al.K s.Al.Cap s.Al.Now s.Al.Bg s.Al.Av s.Am.W s.Am.K s.Am.Cap s.Am.Now s.Am.Bg s.Am.Av s.Bb.P s.Bb.Ay s.Bb.Now s.Bb.Ae s.Aq.Now s.Aq.Bc s.Ad.Be s.Ad.W s.Ad.Cap s.Ad.Now s.Ad.Ar s.Ak.Ah s.Af.K s.Af.Cap s.Af.N s.Af.Ao s.Aa.W s.Aa.K s.Aa.Cap s.Aa.Now s.Aa.Ag L (At:Int)=some (.inl (B7T ((n+1:Nat):Int) s' L (At' :Int)))/\Inv c (n+1) l[n].T s' /\At' <=L.length:=by
 obtain ⟨r,e,g⟩:=D0T hc0 (by omega) h h0 h1 h2
 obtain ⟨s',At',q1,q2,q3⟩:=D2D hc0 hcap hch hn g hv n (by omega) L hL At hA
 refine ⟨s',At', ?_,q2,q3⟩;unfold Q9;have c0:decide ((n:Int)<(l.length:Int))=true:=by rw [D3e];omega
 rw [c0,D3g,I2,D3q hl,D3c];rw [show J7 _ l[n].T=_ from e,D3c];exact q1
theorem B1v (p0:C9) (p1:List A9) (p2:List Int) (_:A6y p0) (w1:wfL A2I p1) (w2:wfL (E5 .i64) p2):A4w p0 p1 p2=some true:=by
 obtain ⟨c,ec,hc0,hcap,hch⟩:=C9Y p0;obtain ⟨l,hit,hS,hlen⟩:=C9v p1 (w:=20) (most:=30) w1.1 (by decide) (by decide) (by decide) (by decide)
 have hnew:=(C8m (now:=0) hc0 ⟨Int.le_refl _,by decide⟩).1
 have htick: ∀(i:Nat) (hi:i<l.length),0<=l[i].T/\l[i].T<=16777216:=fun i hi=>by
  have h1:=hS.2.2 i l[i] (H6 hi);have h2:=(hS.1 l[i] (D31 hi)).1;omega
 unfold A4w;rw [ec,D3c,hnew,D3c,show (((T3 c 0,(0:Int)):B3×Int).2 !=0)=false from rfl,D3f];simp only [];rw [hit,D3c];unfold A68;obtain ⟨r,hr,rfl⟩:=T8 (f:=fun t=>Q9 c l t.1 t.2.1 t.2.2.1 t.2.2.2.1 t.2.2.2.2.1 t.2.2.2.2.2.1 t.2.2.2.2.2.2.1 t.2.2.2.2.2.2.2.1 t.2.2.2.2.2.2.2.2.1 t.2.2.2.2.2.2.2.2.2.1 t.2.2.2.2.2.2.2.2.2.2.1 t.2.2.2.2.2.2.2.2.2.2.2.1 t.2.2.2.2.2.2.2.2.2.2.2.2.1 t.2.2.2.2.2.2.2.2.2.2.2.2.2.1 t.2.2.2.2.2.2.2.2.2.2.2.2.2.2.1 t.2.2.2.2.2.2.2.2.2.2.2.2.2.2.2.1 t.2.2.2.2.2.2.2.2.2.2.2.2.2.2.2.2.1 t.2.2.2.2.2.2.2.2.2.2.2.2.2.2.2.2.2.1 t.2.2.2.2.2.2.2.2.2.2.2.2.2.2.2.2.2.2.1 t.2.2.2.2.2.2.2.2.2.2.2.2.2.2.2.2.2.2.2.1 t.2.2.2.2.2.2.2.2.2.2.2.2.2.2.2.2.2.2.2.2.1 t.2.2.2.2.2.2.2.2.2.2.2.2.2.2.2.2.2.2.2.2.2.1 t.2.2.2.2.2.2.2.2.2.2.2.2.2.2.2.2.2.2.2.2.2.2.1 t.2.2.2.2.2.2.2.2.2.2.2.2.2.2.2.2.2.2.2.2.2.2.2.1 t.2.2.2.2.2.2.2.2.2.2.2.2.2.2.2.2.2.2.2.2.2.2.2.2.1 t.2.2.2.2.2.2.2.2.2.2.2.2.2.2.2.2.2.2.2.2.2.2.2.2.2.1 t.2.2.2.2.2.2.2.2.2.2.2.2.2.2.2.2.2.2.2.2.2.2.2.2.2.2.1 t.2.2.2.2.2.2.2.2.2.2.2.2.2.2.2.2.2.2.2.2.2.2.2.2.2.2.2.1 t.2.2.2.2.2.2.2.2.2.2.2.2.2.2.2.2.2.2.2.2.2.2.2.2.2.2.2.2.1 t.2.2.2.2.2.2.2.2.2.2.2.2.2.2.2.2.2.2.2.2.2.2.2.2.2.2.2.2.2.1 t.2.2.2.2.2.2.2.2.2.2.2.2.2.2.2.2.2.2.2.2.2.2.2.2.2.2.2.2.2.2.1 t.2.2.2.2.2.2.2.2.2.2.2.2.2.2.2.2.2.2.2.2.2.2.2.2.2.2.2.2.2.2.2.1 t.2.2.2.2.2.2.2.2.2.2.2.2.2.2.2.2.2.2.2.2.2.2.2.2.2.2.2.2.2.2.2.2.1 t.2.2.2.2.2.2.2.2.2.2.2.2.2.2.2.2.2.2.2.2.2.2.2.2.2.2.2.2.2.2.2.2.2.1 t.2.2.2.2.2.2.2.2.2.2.2.2.2.2.2.2.2.2.2.2.2.2.2.2.2.2.2.2.2.2.2.2.2.2.1 t.2.2.2.2.2.2.2.2.2.2.2.2.2.2.2.2.2.2.2.2.2.2.2.2.2.2.2.2.2.2.2.2.2.2.2.1 t.2.2.2.2.2.2.2.2.2.2.2.2.2.2.2.2.2.2.2.2.2.2.2.2.2.2.2.2.2.2.2.2.2.2.2.2.1 t.2.2.2.2.2.2.2.2.2.2.2.2.2.2.2.2.2.2.2.2.2.2.2.2.2.2.2.2.2.2.2.2.2.2.2.2.2.1 t.2.2.2.2.2.2.2.2.2.2.2.2.2.2.2.2.2.2.2.2.2.2.2.2.2.2.2.2.2.2.2.2.2.2.2.2.2.2.1 t.2.2.2.2.2.2.2.2.2.2.2.2.2.2.2.2.2.2.2.2.2.2.2.2.2.2.2.2.2.2.2.2.2.2.2.2.2.2.2.1 t.2.2.2.2.2.2.2.2.2.2.2.2.2.2.2.2.2.2.2.2.2.2.2.2.2.2.2.2.2.2.2.2.2.2.2.2.2.2.2.2.1 t.2.2.2.2.2.2.2.2.2.2.2.2.2.2.2.2.2.2.2.2.2.2.2.2.2.2.2.2.2.2.2.2.2.2.2.2.2.2.2.2.2.1 t.2.2.2.2.2.2.2.2.2.2.2.2.2.2.2.2.2.2.2.2.2.2.2.2.2.2.2.2.2.2.2.2.2.2.2.2.2.2.2.2.2.2.1 t.2.2.2.2.2.2.2.2.2.2.2.2.2.2.2.2.2.2.2.2.2.2.2.2.2.2.2.2.2.2.2.2.2.2.2.2.2.2.2.2.2.2.2.1 t.2.2.2.2.2.2.2.2.2.2.2.2.2.2.2.2.2.2.2.2.2.2.2.2.2.2.2.2.2.2.2.2.2.2.2.2.2.2.2.2.2.2.2.2.1 t.2.2.2.2.2.2.2.2.2.2.2.2.2.2.2.2.2.2.2.2.2.2.2.2.2.2.2.2.2.2.2.2.2.2.2.2.2.2.2.2.2.2.2.2.2.1 t.2.2.2.2.2.2.2.2.2.2.2.2.2.2.2.2.2.2.2.2.2.2.2.2.2.2.2.2.2.2.2.2.2.2.2.2.2.2.2.2.2.2.2.2.2.2.1 t.2.2.2.2.2.2.2.2.2.2.2.2.2.2.2.2.2.2.2.2.2.2.2.2.2.2.2.2.2.2.2.2.2.2.2.2.2.2.2.2.2.2.2.2.2.2.2.1 t.2.2.2.2.2.2.2.2.2.2.2.2.2.2.2.2.2.2.2.2.2.2.2.2.2.2.2.2.2.2.2.2.2.2.2.2.2.2.2.2.2.2.2.2.2.2.2.2.1 t.2.2.2.2.2.2.2.2.2.2.2.2.2.2.2.2.2.2.2.2.2.2.2.2.2.2.2.2.2.2.2.2.2.2.2.2.2.2.2.2.2.2.2.2.2.2.2.2.2.1 t.2.2.2.2.2.2.2.2.2.2.2.2.2.2.2.2.2.2.2.2.2.2.2.2.2.2.2.2.2.2.2.2.2.2.2.2.2.2.2.2.2.2.2.2.2.2.2.2.2.2.1 t.2.2.2.2.2.2.2.2.2.2.2.2.2.2.2.2.2.2.2.2.2.2.2.2.2.2.2.2.2.2.2.2.2.2.2.2.2.2.2.2.2.2.2.2.2.2.2.2.2.2.2.1 t.2.2.2.2.2.2.2.2.2.2.2.2.2.2.2.2.2.2.2.2.2.2.2.2.2.2.2.2.2.2.2.2.2.2.2.2.2.2.2.2.2.2.2.2.2.2.2.2.2.2.2.2.1 t.2.2.2.2.2.2.2.2.2.2.2.2.2.2.2.2.2.2.2.2.2.2.2.2.2.2.2.2.2.2.2.2.2.2.2.2.2.2.2.2.2.2.2.2.2.2.2.2.2.2.2.2.2.1 t.2.2.2.2.2.2.2.2.2.2.2.2.2.2.2.2.2.2.2.2.2.2.2.2.2.2.2.2.2.2.2.2.2.2.2.2.2.2.2.2.2.2.2.2.2.2.2.2.2.2.2.2.2.2.1 t.2.2.2.2.2.2.2.2.2.2.2.2.2.2.2.2.2.2.2.2.2.2.2.2.2.2.2.2.2.2.2.2.2.2.2.2.2.2.2.2.2.2.2.2.2.2.2.2.2.2.2.2.2.2.2.1 t.2.2.2.2.2.2.2.2.2.2.2.2.2.2.2.2.2.2.2.2.2.2.2.2.2.2.2.2.2.2.2.2.2.2.2.2.2.2.2.2.2.2.2.2.2.2.2.2.2.2.2.2.2.2.2.2.1 t.2.2.2.2.2.2.2.2.2.2.2.2.2.2.2.2.2.2.2.2.2.2.2.2.2.2.2.2.2.2.2.2.2.2.2.2.2.2.2.2.2.2.2.2.2.2.2.2.2.2.2.2.2.2.2.2.2.1 t.2.2.2.2.2.2.2.2.2.2.2.2.2.2.2.2.2.2.2.2.2.2.2.2.2.2.2.2.2.2.2.2.2.2.2.2.2.2.2.2.2.2.2.2.2.2.2.2.2.2.2.2.2.2.2.2.2.2.1 t.2.2.2.2.2.2.2.2.2.2.2.2.2.2.2.2.2.2.2.2.2.2.2.2.2.2.2.2.2.2.2.2.2.2.2.2.2.2.2.2.2.2.2.2.2.2.2.2.2.2.2.2.2.2.2.2.2.2.2)
  (fun t=> ∃(n:Nat) (T:Int) (s:B3) (At:Nat),t=B7T (n:Int) s p2 (At:Int)/\n<=l.length/\Inv c n T s/\At<=p2.length/\ ∀(j:Nat) (hj:j<l.length),n<=j->T<=l[j].T)
  (fun t=>l.length-t.1.toNat) (fun r=>r=true) (B7T 0 (T3 c 0) p2 0)
  ⟨0,0,T3 c 0,0,rfl,Nat.zero_le _,D0V hc0,Nat.zero_le _,fun j hj _=>(htick j hj).1⟩ (by
   rintro _ ⟨n,T,s,At,rfl,hn,h,hA,hnow⟩
   by_cases hlt:n<l.length
   ·left;have hv:=(Y7 l[n].V).1 (hS.1 l[n] (D31 hlt)).2;obtain ⟨s',At',e,g,hA'⟩:=D0Y hc0 (by omega) hch (by omega) h hlt (htick n hlt).1 (hnow n hlt (D3U _)) (htick n hlt).2 hv p2 w2.1 At hA
    refine ⟨_,e,⟨n+1,l[n].T,s',At',rfl,hlt,g,hA',fun j hj hnj=>hS.2.1 n j l[n] l[j] (by omega) (H6 hlt) (H6 hj)⟩, ?_⟩
    show l.length-((n+1:Nat):Int).toNat<l.length-((n:Nat):Int).toNat;omega
   ·right;refine ⟨true, ?_,rfl⟩;show Q9 _ _ _ _ _ _ _ _ _ _ _ _ _ _ _ _ _ _ _ _ _ _ _ _ _ _ _ _ _ _ _ _ _ _ _ _ _ _ _ _ _ _ _ _ _ _ _ _ _ _ _ _ _ _ _ _ _ _ _ _ _ _=_;unfold Q9;rw [show decide ((B7T (n:Int) s p2 (At:Int)).1<(l.length:Int))=false from D3j (show¬((n:Int)<(l.length:Int)) by omega),D3f,D0x]
    rfl)
 exact hr
end Go.Win
