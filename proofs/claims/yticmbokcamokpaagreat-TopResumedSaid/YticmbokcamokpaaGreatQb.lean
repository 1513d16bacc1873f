/- Plain laws of the functions on plain data. -/
import Derived.Test.YticmbokcamokpaaGreatQa
import Derived.Test.YticmbokcamokpaaGreatWin
import Derived.Laws.BitsLemmas
set_option linter.unusedVariables false
set_option linter.unusedSimpArgs false
set_option linter.unnecessarySimpa false
set_option linter.unusedSectionVars false
set_option maxHeartbeats 4000000
set_option maxHeartbeats 4000000
namespace Go.Win
open Go.Vc Go.Dec
def Fit (n lo hi s q:Int):Prop:=n*lo<=s/\s<=n*hi/\0<=q/\q<=n*16777216/\s*s<=n*q
theorem C6t (x:Int):0<=x*x:=by
 rcases Int.le_total 0 x with h|h
 ·exact Int.mul_nonneg h h
 ·have:=Int.mul_nonneg (a:= -x) (b:= -x) (by omega) (by omega)
  grind
theorem D5z {n1 q1 s1 n2 q2 s2:Int} (hn1:0<=n1) (hn2:0<=n2) (hq1:0<=q1) (hq2:0<=q2) (h1:s1*s1<=n1*q1) (h2:s2*s2<=n2*q2):(s1+s2)*(s1+s2)<=(n1+n2)*(q1+q2):=by
 have a0:0<=n1*q2:=Int.mul_nonneg hn1 hq2;have b0:0<=n2*q1:=Int.mul_nonneg hn2 hq1;have p:(s1*s2)*(s1*s2)<=(n1*q2)*(n2*q1):=by
  have e1:(s1*s2)*(s1*s2)=(s1*s1)*(s2*s2):=by grind
  have e2:(n1*q2)*(n2*q1)=(n1*q1)*(n2*q2):=by grind
  rw [e1,e2];exact Int.mul_le_mul h1 h2 (C6t s2) (Int.mul_nonneg hn1 hq1)
 have key: ∀P A B:Int,0<=A->0<=B->P*P<=A*B->2*P<=A+B:=by
  intro P A B hA hB hP;apply D85;intro hc;have h3:(A+B+1)*(A+B+1)<=(2*P)*(2*P):=Int.mul_le_mul (by omega) (by omega) (by omega) (by omega)
  have h4:(2*P)*(2*P)=4*(P*P):=by grind
  have h5:(A+B+1)*(A+B+1)=(A-B)*(A-B)+4*(A*B)+2*(A+B)+1:=by grind
  have h6:=C6t (A-B);omega
 have k:=key _ _ _ a0 b0 p
 grind
theorem D2p {n lo hi lo' hi' s q:Int} (hn:0<=n) (h:Fit n lo hi s q) (h1:lo' <=lo) (h2:hi<=hi'):Fit n lo' hi' s q:=by
 have a:=Int.mul_le_mul_of_nonneg_left h1 hn;have b:=Int.mul_le_mul_of_nonneg_left h2 hn;unfold Fit at*
 omega
theorem D4k {n1 n2 lo hi s1 q1 s2 q2:Int} (hn1:0<=n1) (hn2:0<=n2) (h1:Fit n1 lo hi s1 q1) (h2:Fit n2 lo hi s2 q2):Fit (n1+n2) lo hi (s1+s2) (q1+q2):=by
 obtain ⟨a1,a2,a3,a4,a5⟩:=h1;obtain ⟨b1,b2,b3,b4,b5⟩:=h2;refine ⟨by grind,by grind,by omega,by omega,D5z hn1 hn2 a3 b3 a5 b5⟩
theorem D1F {v:Int} (h:-4096<=v/\v<=4096):0<=v*v/\v*v<=16777216:=by
 refine ⟨C6t v, ?_⟩;have:=Int.mul_nonneg (a:=4096-v) (b:=4096+v) (by omega) (by omega)
 grind
structure MkP (seq cap now lo:Int) (m:A6):Prop where
 sq1:1<=m.Bx
 sq2:m.Bx<=seq
 n:m.N=seq-m.Bx+1
 cap:m.N<=cap
 t0:0<=m.T
 t1:m.T<=now
 lo_:lo<=m.Bv
 mm:m.Bv<=m.Bu
 hi:m.Bu<=4096
 fit:Fit m.N m.Bv m.Bu m.S m.Q
structure MkR (o m:A6):Prop where
 sq:o.Bx<m.Bx
 t:o.T<=m.T
 mn:o.Bv<=m.Bv
 mx:m.Bu<=o.Bu
 fit:Fit (o.N-m.N) o.Bv o.Bu (o.S-m.S) (o.Q-m.Q)
def D3B (seq:Int) (m:A6):Prop:=m.Bx=seq/\m.Bv=m.S/\m.Bu=m.S/\m.Q=m.S*m.S
structure MkL (seq cap now w lo:Int) (l:List A6):Prop where
 sq:0<=seq/\seq<=1099511627776
 each: ∀m∈l,MkP seq cap now lo m
 row:l.Pairwise MkR
 live: ∀i,i<l.length->(0<i\/l.length=1)->F9 now w (el l i).T=true
 last:0<l.length->D3B seq (el l (l.length-1))
theorem MkP.rng {seq cap now lo:Int} {m:A6} (hc:cap<=65536) (hlo:-4096<=lo) (h:MkP seq cap now lo m):(1<=m.N/\m.N<=65536)/\(-4096<=m.Bv/\m.Bv<=4096)/\(-4096<=m.Bu/\m.Bu<=4096)/\(-268435456<=m.S/\m.S<=268435456)/\(0<=m.Q/\m.Q<=1099511627776):=by
 have h1:=h.sq1;have h2:=h.sq2;have h3:=h.n;have h4:=h.cap;have h5:=h.lo_;have h6:=h.mm;have h7:=h.hi;obtain ⟨f1,f2,f3,f4,f5⟩:=h.fit;have a:=Int.mul_le_mul_of_nonneg_left (show (-4096:Int)<=m.Bv by omega) (show 0<=m.N by omega)
 have b:=Int.mul_le_mul_of_nonneg_left (show m.Bu<=(4096:Int) by omega) (show 0<=m.N by omega)
 omega
theorem MkR.trans {seq cap now lo:Int} {a b c:A6} (ha:MkP seq cap now lo a) (hb:MkP seq cap now lo b) (hc:MkP seq cap now lo c) (h1:MkR a b) (h2:MkR b c):MkR a c:=by
 have n1:=ha.n;have n2:=hb.n;have n3:=hc.n;have s1:=h1.sq;have s2:=h2.sq;have t1:=h1.t;have t2:=h2.t;have m1:=h1.mn;have m2:=h2.mn;have x1:=h1.mx;have x2:=h2.mx;have f:=D4k (by omega) (by omega) h1.fit (D2p (by omega) h2.fit m1 x1)
 have e1:a.N-b.N+(b.N-c.N)=a.N-c.N:=by omega
 have e2:a.S-b.S+(b.S-c.S)=a.S-c.S:=by omega
 have e3:a.Q-b.Q+(b.Q-c.Q)=a.Q-c.Q:=by omega
 rw [e1,e2,e3] at f;exact ⟨by omega,by omega,by omega,by omega,f⟩
theorem C1t {l:List A6} {seq cap now w lo:Int} (hc:cap<=65536) (hlo:-4096<=lo) (h:A4Q l seq cap now w lo):MkL seq cap now w lo l:=by
 obtain ⟨h1,h2,h3⟩:=h;have each: ∀i,i<l.length->MkP seq cap now lo (el l i):=fun i hi=>by
  have a:=(h2 i hi).1;have b:=(h2 i hi).2.1;unfold mk1 at a;unfold mk2 at b;have f:=(B3K (n:=(el l i).N) ⟨by omega,by omega⟩ ⟨by omega,by omega⟩ ⟨by omega,by omega⟩).1 b.2.2.2
  exact ⟨a.1.1,a.1.2,a.2.1,a.2.2.1,a.2.2.2.1,a.2.2.2.2,b.1,b.2.1,b.2.2.1,f⟩
 have adj: ∀i,i+1<l.length->MkR (el l i) (el l (i+1)):=fun i hi=>by
  have p:=each i (by omega)
  have q:=each (i+1) hi;have c:=(h2 (i+1) hi).2.2.2 (by omega)
  rw [D8R] at c;unfold mk4 at c;obtain ⟨c1,c2,c3,c4,c5⟩:=c;have r1:=p.rng hc hlo;have r2:=q.rng hc hlo;have n1:=p.n;have n2:=q.n;rw [C4 (n:=(el l i).N-(el l (i+1)).N) (by omega) (by omega),C4 (n:=(el l i).S-(el l (i+1)).S) (by omega) (by omega),C4 (n:=(el l i).Q-(el l (i+1)).Q) (by omega) (by omega)] at c5
  exact ⟨c1,c2,c3,c4,(B3K ⟨by omega,by omega⟩ r1.2.1 r1.2.2.1).1 c5⟩
 have all: ∀d i,i+d+1<l.length->MkR (el l i) (el l (i+d+1)):=by
  intro d
  induction d with
  |zero=>omega
  |succ d ih=>
   intro i hi;exact MkR.trans (each i (by omega)) (each (i+d+1) (by omega)) (each _ hi) (ih i (by omega)) (adj (i+d+1) hi)
 refine ⟨h1,fun m hm=> ?_, ?_,fun i hi hh=>(h2 i hi).2.2.1 hh,fun h0=> ?_⟩
 ·obtain ⟨i,hi,rfl⟩:=A2l hm
  grind
 ·rw [List.pairwise_iff_getElem];intro i j hi hj hij;have:=all (j-i-1) i (by omega)
  rw [show i+(j-i-1)+1=j by omega,L8 hi,L8 hj] at this
  exact this
 ·have c:=h3 h0;unfold B8m at c;have r:=(each (l.length-1) (by omega)).rng hc hlo
  have q1:(el l (l.length-1)).S*(el l (l.length-1)).S=(el l (l.length-1)).Bv*(el l (l.length-1)).Bv:=by rw [c.2.1]
  have q2:=D1F r.2.1;rw [C4 (by omega) (by omega)] at c
  exact c
theorem D08 {l:List A6} {seq cap now w lo:Int} (hc:cap<=65536) (hlo:-4096<=lo) (h:MkL seq cap now w lo l):A4Q l seq cap now w lo:=by
 refine ⟨h.sq,fun i hi=> ?_,fun h0=> ?_⟩
 ·have p:=h.each _ (O4 hi);have r:=p.rng hc hlo;refine ⟨⟨⟨p.sq1,p.sq2⟩,p.n,p.cap,p.t0,p.t1⟩,⟨p.lo_,p.mm,p.hi,(B3K ⟨by omega,by omega⟩ r.2.1 r.2.2.1).2 p.fit⟩,h.live i hi,fun h0=> ?_⟩
  have q:=h.each _ (O4 (show i-1<l.length by omega))
  have s:=q.rng hc hlo;have m:=List.pairwise_iff_getElem.1 h.row (i-1) i (by omega) hi (by omega)
  rw [<-L8,<-L8] at m;have n1:=p.n;have n2:=q.n;have sq:=m.sq;refine ⟨m.sq,m.t,m.mn,m.mx, ?_⟩;rw [C4 (n:=(el l (i-1)).N-(el l i).N) (by omega) (by omega),C4 (n:=(el l (i-1)).S-(el l i).S) (by omega) (by omega),C4 (n:=(el l (i-1)).Q-(el l i).Q) (by omega) (by omega)]
  exact (B3K ⟨by omega,by omega⟩ s.2.1 s.2.2.1).2 m.fit
 ·have c:=h.last h0;unfold D3B at c;have r:=(h.each _ (O4 (show l.length-1<l.length by omega))).rng hc hlo
  have q1:(el l (l.length-1)).S*(el l (l.length-1)).S=(el l (l.length-1)).Bv*(el l (l.length-1)).Bv:=by rw [c.2.1]
  have q2:=D1F r.2.1;unfold B8m;rw [C4 (n:=(el l (l.length-1)).S*(el l (l.length-1)).S) (by omega) (by omega)]
  exact c
theorem B9d {l:List A6} {seq cap now w lo:Int} (h:MkL seq cap now w lo l):(0<l.length->(l.length:Int)<=(el l 0).N)/\(0<=cap->(l.length:Int)<=cap):=by
 have key: ∀i,i<l.length->(el l 0).Bx+i<=(el l i).Bx:=by
  intro i
  induction i with
  |zero=>omega
  |succ i ih=>
   intro hi;have a:=ih (by omega)
   have m:=List.pairwise_iff_getElem.1 h.row i (i+1) (by omega) hi (by omega)
   rw [<-L8,<-L8] at m;have:=m.sq;omega
 have k0:0<l.length->(l.length:Int)<=(el l 0).N:=fun h0=>by
  have a:=key (l.length-1) (by omega)
  have p:=h.each _ (O4 h0);have q:=h.each _ (O4 (show l.length-1<l.length by omega))
  have n:=p.n;have s:=q.sq2;omega
 refine ⟨k0,fun hc=> ?_⟩;rcases Nat.eq_zero_or_pos l.length with g|g
 ·omega
 ·have a:=k0 g;have b:=(h.each _ (O4 g)).cap;omega
section
variable {β:Type}
end
theorem B87 {H:List A6->Prop} (hH:∀x l,H (x::l)->H l) (n w:Int): ∀ {l:List A6},H l->H (A3Q n w l)
 | [],h=>h
 | [x],h=>by
  unfold A3Q
  grind
 |x::y::l,h=>by
  unfold A3Q;split
  ·exact h
  ·exact B87 hH n w (hH x _ h)
theorem C0s {seq cap now w lo t:Int} (h1:now<=t) (h2:t<=16777216): ∀ {l:List A6},MkL seq cap now w lo l->MkL seq cap t w lo (A3Q t w l)
 | [],h=>⟨h.sq,fun m hm=>(by cases hm),List.Pairwise.nil,fun i hi=>(by simp [A3Q] at hi),fun h0=>(by simp [A3Q] at h0)⟩
 | [x],h=>by
  have up: ∀m∈ [x],MkP seq cap t lo m:=fun m hm=>by
   have p:=h.each m hm;have:=p.t1;exact { p with t1:=by omega}
  unfold A3Q;split
  ·rename_i hx;refine ⟨h.sq,up,h.row,fun i hi _=> ?_,h.last⟩;have:i=0:=by grind
   subst this;exact hx
  ·exact ⟨h.sq,fun m hm=>(by cases hm),List.Pairwise.nil,fun i hi=>(by simp at hi),fun h0=>(by simp at h0)⟩
 |x::y::l,h=>by
  unfold A3Q;split
  ·rename_i hy;refine ⟨h.sq,fun m hm=> ?_,h.row,fun i hi hx=> ?_,h.last⟩
   ·have p:=h.each m hm;have:=p.t1;exact { p with t1:=by omega}
   ·have i0:0<i:=by
     grind
    have hm:=h.each _ (O4 hi);have hy' :=(A36 _ _ _).1 hy;have ht:y.T<=(el (x::y::l) i).T:=by
     rcases Nat.eq_or_lt_of_le i0 with e|e
     ·rw [<-e];exact Int.le_refl _
     ·have m:=List.pairwise_iff_getElem.1 h.row 1 i (by simp) hi e
      rw [<-L8,<-L8] at m;exact m.t
    have t1:=hm.t1;have t0:=hm.t0;exact (A36 _ _ _).2 ⟨hy'.1,hy'.2.1,⟨t0,by omega⟩,by omega,by omega⟩
  ·refine C0s h1 h2 ⟨h.sq,fun m hm=>h.each m (List.mem_cons_of_mem x hm),(List.pairwise_cons.1 h.row).2,fun i hi hx=> ?_,fun h0=> ?_⟩
   ·exact h.live (i+1) (by grind) (.inl (by omega))
   ·exact h.last (by simp)
end Go.Win
set_option maxHeartbeats 4000000
namespace Go.Win
open Go.Vc Go.Dec
def D1X (agg k:Int) (u w:A6):Prop:=w.Bx-u.Bx>1->P5 u w agg k=true
theorem C9W {x:D2} (h:B6I x):MkL x.Bx x.Cap x.Now x.W (Z5 x.Bp) x.Bg/\(∀i,i+2<x.Bg.length->P5 (el x.Bg i) (el x.Bg (i+2)) x.Bp x.K=false)/\ ∀i,i+1<x.Bg.length->D1X x.Bp x.K (el x.Bg i) (el x.Bg (i+1)):=by
 obtain ⟨h1,h2,h3,h4⟩:=h;refine ⟨C1t h2.2.1.2 (A8W _) h3,fun i hi=> ?_,fun i hi hg=> ?_⟩
 ·have:=(h4 (i+2) hi).1 (by omega)
  rw [D8R] at this;exact D8q.2 this
 ·have:=(h4 (i+1) hi).2 (by omega)
  rw [D8R] at this;exact this hg
theorem D60 {x:D2} (ha:1<=x.Bp/\x.Bp<=4) (hp:A5S x.W x.K x.Cap x.Now) (hm:MkL x.Bx x.Cap x.Now x.W (Z5 x.Bp) x.Bg) (h2:∀i,i+2<x.Bg.length->P5 (el x.Bg i) (el x.Bg (i+2)) x.Bp x.K=false) (h1:∀i,i+1<x.Bg.length->D1X x.Bp x.K (el x.Bg i) (el x.Bg (i+1))):B6I x:=by
 refine ⟨ha,hp,D08 hp.2.1.2 (A8W _) hm,fun i hi=>⟨fun hg hn=> ?_,fun hg=> ?_⟩⟩
 ·obtain ⟨j,rfl⟩: ∃j,i=j+2:=⟨i-2,by omega⟩
  rw [D8R,h2 j hi] at hn;cases hn
 ·obtain ⟨j,rfl⟩: ∃j,i=j+1:=⟨i-1,by omega⟩
  rw [D8R];exact h1 j hi
theorem C25 {x:D2} {t:Int} (h:B6I x) (h1:x.Now<=t) (h2:t<=16777216) (hl:x.Bg.length<=1048576):
  ∃M,A7w x t=some (⟨x.Bp,x.W,x.K,x.Cap,t,x.Bx,M⟩,0)/\B6I ⟨x.Bp,x.W,x.K,x.Cap,t,x.Bx,M⟩/\M.length<=1048576:=by
 obtain ⟨a,b,c⟩:=C9W h;have hp:=h.2.1;refine ⟨A3Q t x.W x.Bg, ?_,D60 h.1 ⟨hp.1,hp.2.1,⟨by have:=hp.2.2.1;show 0<=t;omega,h2⟩,hp.2.2.2⟩ (C0s h1 h2 a) ?_ ?_,Nat.le_trans (B7Z _ _ _) hl⟩
 ·unfold A7w;rw [A6j x (G8 hl),D8a,O3 h];simp only [D8N,D8d];rw [A85 t hp.2.2.1,A40 h1 h2];simp only [D8N,D8d];unfold A18;rw [B8l t x.W hl]
  rfl
 ·exact B87 (H:=fun l=> ∀i,i+2<l.length->P5 (el l i) (el l (i+2)) x.Bp x.K=false) (fun y l hH i hi=>hH (i+1) (by simp only [D8t];omega)) t x.W b
 ·exact B87 (H:=fun l=> ∀i,i+1<l.length->D1X x.Bp x.K (el l i) (el l (i+1))) (fun y l hH i hi=>hH (i+1) (by simp only [D8t];omega)) t x.W c
theorem C26 {x:D5} {t:Int} (h:C2D x) (h1:x.Now<=t) (h2:t<=16777216) (hl:x.Bg.length<=1048576):
  ∃M,A7z x t=some (⟨x.W,x.K,x.Cap,t,x.Bx,M⟩,0)/\C2D ⟨x.W,x.K,x.Cap,t,x.Bx,M⟩/\M.length<=1048576:=by
 obtain ⟨hp,hm,hc⟩:=h;have a:=C1t hp.2.1.2 (by decide) hm
 refine ⟨A3Q t x.W x.Bg, ?_,⟨⟨hp.1,hp.2.1,⟨by have:=hp.2.2.1;show 0<=t;omega,h2⟩,hp.2.2.2⟩,D08 hp.2.1.2 (by decide) (C0s h1 h2 a), ?_⟩,Nat.le_trans (B7Z _ _ _) hl⟩
 ·unfold A7z;rw [A6k x (G8 hl),D8a,O3 ⟨hp,hm,hc⟩];simp only [D8N,D8d];rw [A85 t hp.2.2.1,A40 h1 h2];simp only [D8N,D8d];unfold A18;rw [B8l t x.W hl]
  rfl
 ·have:=B87 (H:=fun l=> ∀i,i+2<l.length-> ¬B5T (el l i) (el l (i+2)) x.K) (fun y l hH i hi=>hH (i+1) (by simp only [D8t];omega)) t x.W (l:=x.Bg) (fun i hi=>by
   have:=hc (i+2) (by omega) hi
   rw [D8R] at this;exact this)
  intro i hi hj;obtain ⟨j,rfl⟩: ∃j,i=j+2:=⟨i-2,by omega⟩
  rw [D8R];exact this j hj
end Go.Win
set_option maxHeartbeats 4000000
namespace Go.Win
open Go.Vc Go.Dec
instance {a b:A2}:TS (A5v a b) (I0 a/\I0 b) (fun r=>I0 r.1):=⟨fun ⟨h1,h2⟩=>by
 refine ⟨_,B6U h1 h2, ?_⟩;split
 ·exact A0C (by unfold I0 at h1 h2;unfold wv;omega) (by assumption)
 ·show I0 ⟨0,0⟩;unfold I0;simp⟩
instance {a b:A2}:TS (A3j a b) (I0 a/\I0 b) (fun r=>I0 r.1):=⟨fun ⟨h1,h2⟩=>by
 refine ⟨_,B01 h1 h2, ?_⟩;split
 ·exact A0C (C1v h1 h2) (by assumption)
 ·show I0 ⟨0,0⟩;unfold I0;simp⟩
instance {n k:Int}:TS (B4f n k) ((0<=n/\n<18446744073709551616)/\0<=k/\k<=9223372036854775807) (fun r=>I0 r.1):=⟨fun ⟨hn,hk⟩=>by
 unfold B4f;obtain ⟨m,rfl⟩:=Int.eq_ofNat_of_zero_le hk.1;have e1:=C4G hn m (A2.mk 0 1) (by omega) C5U
 have:T (A8j n (m:Int) 0 1) fun r=>I0 r.1:=⟨_,e1,C8q hn m _ C5U⟩;have z:I0 ⟨0,0⟩:=by unfold I0;simp
 have o:=C5U
 repeat' first
  |exact this
  |refine yC (fun _=> ?_) (fun _=> ?_)
  |refine yI ?_
  |assumption⟩
theorem D12 (x:E2) (v:Int) (hw:∀w∈x.Ag,I0 w) (hl:x.Ag.length<=1048576):T (B0G x v) fun r=>r.1.Ag.length<=x.Ag.length/\ ∀w∈r.1.Ag,I0 w:=by
 have no: ∀w∈([]:List A2),I0 w:=fun w h=>by cases h
 have this:TS (B1g x v (List.replicate ((x.Ag.length:Int)).toNat (A2.mk 0 0)) 0) True (fun r=>r.1.Ag.length<=x.Ag.length/\ ∀w∈r.1.Ag,I0 w):=⟨fun _=>by
  unfold B1g;refine yL (fun s=>0<=s.2/\s.2<=x.Ag.length/\s.1.length=x.Ag.length/\ ∀w∈s.1,I0 w) (fun s=>x.Ag.length-s.2.toNat)
   ⟨Int.le_refl _,by simp,by simp,fun w h=>by rw [List.eq_of_mem_replicate h];unfold I0;simp⟩ fun s ⟨h1,h2,h3,h4⟩=> ?_
  unfold B3T;simp only [T2 s.2 (by omega),D9b,D8Q]
  have o1:=B4P (U4 v);have o2:=U4 (A1 (A1 (x.Now-x.Bk)+1));refine yC (fun h=>yB (yS ⟨o2,h1,by omega⟩ fun p hp=>yB (yS ⟨hp,o1⟩ fun q hq=> ?_))) (fun h=>yP (yI ⟨by show s.1.length<=_;omega,h4⟩))
  rw [D8c] at h;refine yB (yX ⟨h1,h⟩ fun hm=>yB (yS ⟨hw _ hm,hq⟩ fun a ha=> ?_));have:=D4S (s.2).toNat h4 ha;exact yT⟩
 unfold B0G;rw [A8v x hw];exact yT
end Go.Win
set_option maxHeartbeats 4000000
namespace Go.Win
open Go.Vc Go.Dec
theorem D0a (x:F4) (v:Int) (hl:x.Bo.length<=1048576):T (A88 x v) fun r=>r.1.Bo.length<=x.Bo.length:=by
 unfold A88;rw [A68 x (G8 hl)]
 by_cases hv:C2B x
 ·have:=hv.1.1;exact yT
 ·rw [J7 hv];exact yT
end Go.Win
set_option maxHeartbeats 4000000
namespace Go.Win
open Go.Vc Go.Dec
def sV (m:Bool) (v:Int):Int:=if m then v else-v
theorem D18 (m:Bool) (a b:Int):Z9 m a b=decide (sV m b<=sV m a):=by
 cases m
 ·show decide (a<=b)=_;unfold sV;exact decide_eq_decide.2 (by simp)
 ·show decide (a>=b)=_;unfold sV;exact decide_eq_decide.2 (by simp)
def D7r (m:Bool) (L:List A8) (i j:Nat):Prop:=
 i≠j/\(el L i).T<=(el L j).T/\sV m (el L i).V<=sV m (el L j).V/\(¬((el L i).T=(el L j).T/\(el L i).V=(el L j).V)\/j<i)
noncomputable def D79 (m:Bool) (L:List A8) (i:Nat):Bool:=bOf (∀j,j<L.length-> ¬D7r m L i j)
structure DqP (m:Bool) (I:List A8) (now:Int):Prop where
 T: ∀i j,i<j->j<I.length->(el I i).T<(el I j).T
 V: ∀i j,i<j->j<I.length->sV m (el I j).V<sV m (el I i).V
 now: ∀i,i<I.length->(el I i).T<=now
theorem D6P {x:C2} (h:B5j x):DqP x.Bu x.Bc x.Now:=by
 have hs:=h.2;have step: ∀i,i+1<x.Bc.length->(el x.Bc i).T<(el x.Bc (i+1)).T/\sV x.Bu (el x.Bc (i+1)).V<sV x.Bu (el x.Bc i).V:=fun i hi=>by
  obtain ⟨g1,g2⟩:=(hs (i+1) hi).2 (by omega)
  rw [D8R] at g1 g2;rw [D18,D8r] at g2;omega
 have key: ∀d i,i+d+1<x.Bc.length->(el x.Bc i).T<(el x.Bc (i+d+1)).T/\sV x.Bu (el x.Bc (i+d+1)).V<sV x.Bu (el x.Bc i).V:=by
  intro d
  induction d with
  |zero=>intro i hi;exact step i hi
  |succ d ih=>
   intro i hi;have h1:=ih i (by omega)
   have h2:=step (i+d+1) (by omega)
   rw [show i+(d+1)+1=i+d+1+1 by omega]
   omega
 refine ⟨fun i j hij hj=> ?_,fun i j hij hj=> ?_,fun i hi=> ?_⟩
 ·have:=(key (j-i-1) i (by omega)).1
  rw [show i+(j-i-1)+1=j by omega] at this
  exact this
 ·have:=(key (j-i-1) i (by omega)).2
  rw [show i+(j-i-1)+1=j by omega] at this
  exact this
 ·have:=(A36 _ _ _).1 (hs i hi).1.1;omega
theorem C62 (x:C2) (v:Int) (hl:x.Bc.length+1<=1048576):T (A5J x v) fun r=>r.1.Bc.length<=x.Bc.length+1:=by
 unfold A5J;rw [A5f x (G8 (by omega))]
 have:T (A4K x v x.Bc) fun r=>r.1.Bc.length<=x.Bc.length+1:=by
  unfold A4K;refine yL (fun l=>l.length<=x.Bc.length) (fun l=>l.length) (D8S _) fun l hl=> ?_;unfold A9B
  by_cases h0:0<l.length
  ·have e:=T2 (l.length:Int) (by omega)
   simp only [e,List.nil_append];exact yT
  ·simp only [List.nil_append];exact yT
 have i:TS (A4K x v x.Bc) True (fun r=>r.1.Bc.length<=x.Bc.length+1):=⟨fun _=>this⟩;exact yT
end Go.Win
set_option maxHeartbeats 4000000
namespace Go.Win
open Go.Vc Go.Dec
theorem D21 {x:E2} (h:C2C x):x.Ag.length<=5:=by have:=h.1;omega
theorem C6f {x:E2} {t:Int} (h:C2C x) (hw:∀w∈x.Ag,I0 w) (h1:x.Now<=t) (h2:t<=16777216):
  A9K x t=some (⟨x.P,x.Bk,t,x.Ag⟩,0)/\C2C ⟨x.P,x.Bk,t,x.Ag⟩:=by
 have hl:=D21 h;refine ⟨?_,⟨⟨h.1.1,⟨by have:=h.1.2.1;show 0<=t;omega,h2⟩,⟨h.1.2.2.1.1,by have:=h.1.2.2.1;show x.Bk<=t;omega⟩,h.1.2.2.2⟩,fun i hi hiP=> ?_⟩⟩
 ·unfold A9K;rw [A8v x hw,D8a,O3 h];simp only [D8N,D8d];rw [A85 t h.1.2.1,A40 h1 h2];simp only [D8N,D8d];rw [K7 (by rw [D8c,D8G];omega),List.nil_append]
 ·obtain ⟨a,b⟩:=h.2 i hi hiP;refine ⟨a,fun hlt=> ?_⟩;have hiP' :(i:Int)<=x.P:=hiP;have hM:x.Ag.length=x.P+1:=h.1.2.2.2;have m0:=(A84 (hw _ (O4 (show i-1<x.Ag.length by omega)))).1
  have hle:=Int.mul_le_mul_of_nonneg_left (show x.Now-x.Bk+1<=t-x.Bk+1 by omega) m0
  have hlt' :wv (el x.Ag (i-1))*(t-x.Bk+1)<340282366920938463463374607431768211456:=hlt;have:=b (by omega)
  show wv (el x.Ag i)<=wv (el x.Ag (i-1))*(t-x.Bk+1);omega
theorem C4s {x:F4} {t:Int} (h:C2B x) (h1:x.Now<=t) (h2:t<=16777216):
  ∃L,A8t x t=some (⟨t,L⟩,0)/\C2B ⟨t,L⟩/\L.length=x.Bo.length:=by
 have hn:=h.1;have hl:x.Bo.length<=1048576:=by omega
 obtain ⟨d,hd⟩:=Int.eq_ofNat_of_zero_le (show 0<=t-x.Now by omega)
 refine ⟨A9H x.Bo d, ?_,⟨⟨by rw [B8n];exact hn.1,⟨by show 0<=t;omega,h2⟩⟩,fun i hi=> ?_⟩,B8n _ _⟩
 ·unfold A8t;rw [A68 x (G8 hl),D8a,O3 h];simp only [D8N,D8d];rw [A85 t hn.2,A40 h1 h2];have ew:A1 (t-x.Now)=t-x.Now:=by rw [C4]<;>omega
  have em:A4M (A1 (t-x.Now)) ((([]:List Int)++x.Bo).length:Int)=((min d x.Bo.length:Nat):Int):=by
   rw [ew,D2z (by omega),List.nil_append,hd,D8Q]
  simp only [D8N,D8d];rw [em,D8Q,List.nil_append];have e1:laid (laid x.Bo (min d x.Bo.length) (x.Bo.take (x.Bo.length-min d x.Bo.length))) 0 (List.replicate (min d x.Bo.length) 0)=A9H x.Bo d:=by
   have h1:laid x.Bo (min d x.Bo.length) (x.Bo.take (x.Bo.length-min d x.Bo.length))=x.Bo.take (min d x.Bo.length)++x.Bo.take (x.Bo.length-min d x.Bo.length):=by
    unfold laid;rw [List.drop_eq_nil_of_le (by rw [D8C];omega),List.append_nil]
   rw [h1];unfold laid A9H;rw [List.take_zero,List.nil_append,D9b,Nat.zero_add]
   congr 1
   have:(x.Bo.take (min d x.Bo.length)).length=min d x.Bo.length:=by rw [D8C];omega
   conv=>lhs;rw [<-this]
   rw [this,List.drop_append_of_le_length (by omega),List.drop_eq_nil_of_le (by omega),List.nil_append]
  have hl1:(laid x.Bo (min d x.Bo.length) (x.Bo.take (x.Bo.length-min d x.Bo.length))).length=x.Bo.length:=by
   unfold laid;simp only [D8g,D8C,D8I];omega
  rw [e1,K7 (by rw [D8c,D8G];omega),K7 (by rw [D8c];omega),K7 (by rw [D8c,hl1];omega)]
 ·have hi' :i<x.Bo.length:=by rw [<-B8n x.Bo d];exact hi
  have e:el (A9H x.Bo d) i=if d<=i then x.Bo.getD (i-d) 0 else 0:=by
   have:=D00 x.Bo d i hi';rw [A4F hi] at this;exact D8T this
  show (0<=el (A9H x.Bo d) i/\el (A9H x.Bo d) i<=1099511627776)/\(t<(i:Int)->el (A9H x.Bo d) i=0);rw [e]
  by_cases hc:d<=i
  ·rw [if_pos hc];have:=h.2 (i-d) (by omega)
   have eg:x.Bo.getD (i-d) 0=el x.Bo (i-d):=rfl;rw [eg];refine ⟨this.1,fun hlt=>this.2 (by omega)⟩
  ·rw [if_neg hc];exact ⟨by decide,fun _=>rfl⟩
theorem C1b {t w:Int} (ht:0<=t/\t<=16777216) (hw:1<=w/\w<=1048576): ∀ {l:List A8},l.Pairwise (fun a b=>a.T<b.T)->(∀p∈l,0<=p.T/\p.T<=t)-> ∀x∈l.dropWhile (fun p=> !F9 t w p.T),F9 t w x.T=true
 | [],_,_,x,hx=>by cases hx
 |a::l,hp,hr,x,hx=>by
  rw [List.dropWhile_cons] at hx;have h2:=List.pairwise_cons.1 hp;cases h:F9 t w a.T with
  |false=>
   rw [h] at hx;exact C1b ht hw h2.2 (fun p hp=>hr p (by simp [hp])) x hx
  |true=>
   rw [h] at hx;rcases List.mem_cons.1 hx with e|e
   ·rw [e];exact h
   ·have:=h2.1 x e;have hl:=(A36 _ _ _).1 h;have:=hr x (by simp [e])
    exact (A36 _ _ _).2 ⟨ht,hw,⟨this.1,by omega⟩,by omega,this.2⟩
theorem C76 {α:Type} {H:List α->Prop} (hH:∀x l,H (x::l)->H l) (p:α->Bool): ∀ {l:List α},H l->H (l.dropWhile p)
 | [],h=>h
 |x::l,h=>by
  rw [List.dropWhile_cons];cases p x with
  |true=>exact C76 hH p (hH x l h)
  |false=>exact h
def D1Y (m:Bool) (l:List A8):Prop:= ∀i,i+1<l.length->(el l i).T<(el l (i+1)).T/\Z9 m (el l (i+1)).V (el l i).V=false
theorem D6R {x:C2} (h:B5j x):D1Y x.Bu x.Bc:=fun i hi=>by
 have:=(h.2 (i+1) hi).2 (by omega)
 rw [D8R] at this;exact this
theorem D6Q {x:C2} (hp:(1<=x.W/\x.W<=1048576)/\(1<=x.Cap/\x.Cap<=65536)/\(0<=x.Now/\x.Now<=16777216)) (hc:(x.Bc.length:Int)<=x.Cap) (h1:∀p∈x.Bc,F9 x.Now x.W p.T=true/\ -4096<=p.V/\p.V<=4096) (h2:D1Y x.Bu x.Bc):B5j x:=
 ⟨⟨hp,hc⟩,fun i hi=>⟨h1 _ (O4 hi),fun h0=>by
  obtain ⟨j,rfl⟩: ∃j,i=j+1:=⟨i-1,by omega⟩
  rw [D8R];exact h2 j hi⟩⟩
theorem D0x {x:C2} (h:B5j x):x.Bc.length<=65536:=by have:=h.1;omega
theorem C1V {x:C2} {t:Int} (h:B5j x) (h1:x.Now<=t) (h2:t<=16777216):
  ∃L,A59 x t=some (⟨x.Bu,x.W,x.Cap,t,L⟩,0)/\B5j ⟨x.Bu,x.W,x.Cap,t,L⟩:=by
 have hl:=D0x h;have hp:=h.1.1;have hc:=h.1.2;have hdq:=D6P h;have pw:x.Bc.Pairwise (fun a b=>a.T<b.T):=by
  rw [List.pairwise_iff_getElem];intro i j hi hj hij;have:=hdq.T i j hij hj;rw [L8 hi,L8 hj] at this;exact this
 have rng: ∀p∈x.Bc,0<=p.T/\p.T<=t:=fun p hp=>by
  obtain ⟨i,hi,rfl⟩:=A2l hp;have:=(A36 _ _ _).1 (h.2 i hi).1.1;omega
 have ht:0<=t/\t<=16777216:=by omega
 have hd:=A8R (fun p:A8=> !F9 t x.W p.T) x.Bc;refine ⟨x.Bc.dropWhile (fun p=> !F9 t x.W p.T), ?_,D6Q ⟨hp.1,hp.2.1,ht⟩ (by show ((x.Bc.dropWhile _).length:Int)<=x.Cap;omega) (fun p hp' => ?_) (C76 (H:=D1Y x.Bu) (fun y l hH i hi=>hH (i+1) (by simp only [D8t];omega)) _ (D6R h))⟩
 ·unfold A59;rw [A5f x (G8 (by omega)),D8a,O3 h]
  simp only [D8N,D8d];rw [A85 t hp.2.2,A40 h1 h2];simp only [D8N,D8d];unfold A3T;rw [B4G (fun p:A8=> !F9 t x.W p.T) (fun v=>ck (decide ((([]:List A8).length+v.length)*16<=140737488355328))<|some ((C2.mk x.Bu x.W x.Cap t (([]:List A8)++v)),(0:Int)))]
  ·rw [D5D (by rw [D8G];omega),List.nil_append]
  ·intro y l hy;unfold A3l;rw [B3r,H7,A8U,D8a,A10];simp only [];rw [hy,Bool.and_self,D8e,K7 (by rw [D8c,D8t];omega)]
   rfl
  ·intro y l hy;unfold A3l;rw [B3r,H7,A8U,D8a,A10];simp only [];rw [hy,Bool.and_false,D8d]
  ·rfl
 ·refine ⟨C1b ht hp.1 pw rng _ hp', ?_⟩;obtain ⟨i,hi,rfl⟩:=A2l (B0w hp');exact (h.2 i hi).1.2
end Go.Win
set_option maxHeartbeats 4000000
namespace Go.Win
open Go.Vc Go.Dec
instance {l:List E0} {m:Int}:TS (A3q l m) (l.length<=1048577) (fun r=>r.length<=l.length):=⟨fun hl=>by
 unfold A3q A8e
 by_cases h0:2<=l.length
 ·have e:A1 ((l.length:Int)-2)=(l.length:Int)-2:=by rw [C4]<;>omega
  rw [e];refine yL (fun s=>0<=s.2/\s.2+2<=s.1.length/\s.1.length<=l.length\/s.2= -1/\s.1.length<=l.length) (fun s=>(s.2+1).toNat) (.inl ⟨by show 0<=(l.length:Int)-2;omega,by show (l.length:Int)-2+2<=(l.length:Int);omega,D8S _⟩) fun s hs=> ?_
  unfold A00;refine yC (fun h=> ?_) (fun _=>yP (yI (by omega)))
  rw [D8c] at h;simp only [T2 s.2 (by omega)]
  exact yT
 ·have e:decide (A1 ((l.length:Int)-2)>=1)=false:=by rw [C4 (by omega) (by omega)];exact D8h (by omega)
  refine ⟨l,M5 ?_,D8S _⟩;unfold A00;simp only [e];rfl⟩
theorem C63 (x:C1) (v:Int) (hl:x.Aw.length+1<=1048576):T (A7B x v) fun r=>r.1.Aw.length<=x.Aw.length+1:=by
 unfold A7B;rw [A5s]
 by_cases hv:C2E x
 ·have hk:=hv.1.1.1;have j8: ∀(i d:Int),0<=i->i<=x.Aw.length->TS (A2s x v i d) True (fun r=>r.1.Aw.length<=x.Aw.length+1):=fun i d h1 h2=>⟨fun _=>by
   unfold A2s A4Y A4q;simp only [List.nil_append];exact yT⟩
  have:TS (A71 x v 0) True (fun r=>r.1.Aw.length<=x.Aw.length+1):=⟨fun _=>by
   unfold A71;refine yL (fun i=>0<=i/\i<=x.Aw.length) (fun i=>x.Aw.length-i.toNat) ⟨Int.le_refl _,by simp⟩ fun i hi=> ?_
   have:=fun d=>j8 i d hi.1 hi.2;unfold B1M;simp only [T2 i (by omega)]
   exact yT⟩
  exact yT
 ·rw [J7 hv];exact yT
end Go.Win
set_option maxHeartbeats 4000000
namespace Go.Win
open Go.Vc Go.Dec
end Go.Win
set_option maxHeartbeats 4000000
namespace Go.Win
open Go.Vc Go.Dec
end Go.Win
set_option maxHeartbeats 4000000
namespace Go.Win
open Go.Vc Go.Dec
def B0v (l:List B2) (n:Int) (j:Nat):Prop:=(J4 l (j+1)).Bu+(J4 l j).Bv<2*n
def C5n (e:B2) (n:Int):Int:=A0t (n-e.Bv) (e.Bu-n)
theorem D4r (a b:Int):a<=A0t a b/\b<=A0t a b:=by
 show a<=(if b>a then b else a)/\b<=(if b>a then b else a)
 split<;>omega
theorem D4p {a b c:Int}:A0t a b<c↔a<c/\b<c:=by
 show (if b>a then b else a)<c↔_
 split<;>omega
section
variable {l:List B2} {N:Int} (h:OkR l N)
include h
theorem D3Q: ∀ {i j:Nat},i<j->j<l.length->(J4 l i).V<=(J4 l j).V/\(J4 l i).Bv<(J4 l j).Bv/\(J4 l i).Bu<(J4 l j).Bu:=by
 intro i j hij hj
 induction j with
 |zero=>omega
 |succ j ih=>
  have h1:=h.up j hj;rcases Nat.lt_or_ge i j with hlt|hge
  ·have:=ih hlt (by omega)
   omega
  ·have:i=j:=by omega
   subst this;exact h1
theorem C5d {n:Int} {j:Nat} (hj:j+1<l.length):B0v l n j↔C5n (J4 l (j+1)) n<C5n (J4 l j) n:=by
 have h1:=h.up j hj;have h2:=D4r (n-(J4 l j).Bv) ((J4 l j).Bu-n);unfold B0v C5n;rw [D4p];constructor
 ·intro hc;omega
 ·rintro ⟨g1,g2⟩
  by_cases hm:A0t (n-(J4 l j).Bv) ((J4 l j).Bu-n)<=n-(J4 l j).Bv
  ·omega
  ·have:A0t (n-(J4 l j).Bv) ((J4 l j).Bu-n)=(J4 l j).Bu-n:=by
    show (if _>_ then _ else _)=_
    split
    ·rfl
    ·rename_i hh;exfalso;apply hm;show (if _>_ then _ else _)<=_
     rw [if_neg hh];omega
   omega
theorem D0v {n:Int} {j k:Nat} (hjk:j<=k) (hk:k+1<l.length) (hc:B0v l n k):B0v l n j:=by
 rcases Nat.lt_or_ge j k with hlt|hge
 ·have h1:=D3Q h hlt (by omega)
  have h2:=D3Q h (show j+1<k+1 by omega) hk
  unfold B0v at hc⊢;omega
 ·have:j=k:=by omega
  subst this;exact hc
omit h in
theorem D4b {n n' :Int} {j:Nat} (hn:n<=n') (hc:B0v l n j):B0v l n' j:=by
 unfold B0v at hc⊢;omega
structure B4p (l:List B2) (n:Int) (k:Nat):Prop where
 lt:k<l.length
 low: ∀j,j<k->B0v l n j
 stop:k+1<l.length-> ¬B0v l n k
omit h in
theorem B8t {n:Int} {k k' :Nat} (hk:B4p l n k) (hk':B4p l n k'):k=k' :=by
 rcases Nat.lt_trichotomy k k' with hlt|rfl|hgt
 ·exact absurd (hk'.low k hlt) (hk.stop (by have:=hk'.lt;omega))
 ·rfl
 ·exact absurd (hk.low k' hgt) (hk'.stop (by have:=hk.lt;omega))
theorem B96 {n:Int} (hn:1<=n/\n<=N) {i:Nat} (hi:i<l.length):B3Z (J4 l i) n=C5n (J4 l i) n:=by
 have h1:=h.rng i hi;have h2:=h.n1;unfold B3Z C5n;rw [C4 (by omega) (by omega),C4 (by omega) (by omega)]
theorem B4U {n:Int} (hn:1<=n/\n<=N) (hl:l.length<=1000000000) {f:Nat} (hf:f<l.length) (hlow:∀j,j<f->B0v l n j): ∃k,f<=k/\B4p l n k/\A2H l n (f:Int)=some (k:Int):=by
 have hm:l.length<=maxLen:=by rw [I2];omega
 unfold A2H B7p;obtain ⟨r,hr,k,h1,h2,hQ⟩:=W6 (f:=fun s:Int=>B0I l n s)
  (fun s=> ∃k:Nat,f<=k/\k<l.length/\(∀j,j<k->B0v l n j)/\s=(k:Int))
  (fun s=>l.length-s.toNat) (fun r=> ∃k,f<=k/\B4p l n k/\r=(k:Int)) (f:Int) ⟨f,D8S _,hf,hlow,rfl⟩ (by
   rintro _ ⟨k,hfk,hk,hlw,rfl⟩;unfold B0I;have e1:A1 ((k:Int)+1)=((k+1:Nat):Int):=by rw [I2] at hm;rw [C4]<;>omega
   rw [e1]
   by_cases hlt:k+1<l.length
   ·rw [D8f (by omega:((k+1:Nat):Int)<(l.length:Int)),H7,H7,A0K hlt,A0K hk]
    simp only [D8a,D8L];rw [B96 h hn hlt,B96 h hn hk]
    by_cases hc:B0v l n k
    ·left;rw [D8f ((C5d h hlt).1 hc),D8e];refine ⟨_,rfl,⟨k+1,by omega,hlt,fun j hj=> ?_,rfl⟩,by show l.length-(((k+1:Nat):Int)).toNat<l.length-(k:Int).toNat;omega⟩
     exact D0v h (by omega) hlt hc
    ·right;rw [D8h (fun hx=>hc ((C5d h hlt).2 hx)),D8d];exact ⟨_,rfl,k,hfk,⟨hk,hlw,fun _=>hc⟩,rfl⟩
   ·right;rw [D8h (by omega: ¬((k+1:Nat):Int)<(l.length:Int))]
    simp only [L6,D8a,D8F,D8d];exact ⟨_,rfl,k,hfk,⟨hk,hlw,fun hx=>absurd hx hlt⟩,rfl⟩)
 exact ⟨k,h1,h2,by rw [hr,hQ]⟩
end
theorem B5l {l:List B2} {N n:Int} (h:OkR l N) (hn:1<=n/\n<=N) (hl:l.length<=1000000000): ∃k,B4p l n k/\A2H l n 0=some (k:Int):=by
 have h0:0<l.length:=by
  rcases Nat.eq_zero_or_pos l.length with h0|h0
  ·have:=h.nil.1 h0;omega
  ·exact h0
 obtain ⟨k,_,h2,h3⟩:=B4U h hn hl h0 (fun j hj=>by omega)
 exact ⟨k,h2,h3⟩
end Go.Win
set_option maxHeartbeats 4000000
namespace Go.Win
open Go.Vc Go.Dec
theorem C23 {a:A2} (ha:I0 a) {b:Nat} (hb:b<2):B31 a (b:Int)=(J0 ((wv a*2+b)%340282366920938463463374607431768211456),wv a/170141183460469231731687303715884105728):=by
 obtain ⟨h,l⟩:=a;unfold I0 at ha;simp only at ha;obtain ⟨h,rfl⟩:=Int.eq_ofNat_of_zero_le ha.1;obtain ⟨l,rfl⟩:=Int.eq_ofNat_of_zero_le ha.2.2.1;unfold B31;have s1: ∀x:Int,E5 .u64 x 1=(x*2)%18446744073709551616:=fun x=>by
  have:=B0C x (k:=1) (by decide)
  simpa using this
 have s2: ∀x:Int,G0 .u64 x 63=x/9223372036854775808:=fun x=>by
  have:=A9a x (k:=63) (by decide)
  simpa using this
 have d1:=B6w (a:=h%9223372036854775808) (b:=l/9223372036854775808) (k:=1) (by omega) (by omega)
 have d2:=B6w (a:=l%9223372036854775808) (b:=b) (k:=1) (by omega) (by omega)
 have e1:((h:Int)*2)%18446744073709551616=((h%9223372036854775808*2^1:Nat):Int):=by omega
 have e2:((l:Int)*2)%18446744073709551616=((l%9223372036854775808*2^1:Nat):Int):=by omega
 have e3:(l:Int)/9223372036854775808=((l/9223372036854775808:Nat):Int):=by omega
 simp only [s1,s2,e1,e2,e3];rw [d1,d2];unfold J0 wv;simp only
 congr 1
 ·congr 1<;>omega
 ·omega
theorem D3F {x:Int} (h0:0<=x) (h1:x<18446744073709551616):P7 .u64 x 1=x%2:=by
 show IntKind.u64.wrap _=_;obtain ⟨n,rfl⟩:=Int.eq_ofNat_of_zero_le h0;have e:(BitVec.ofInt IntKind.u64.bits (n:Int)&&&BitVec.ofInt IntKind.u64.bits 1).toNat=n%2:=by
  have hb:IntKind.u64.bits=64:=rfl;rw [hb,BitVec.toNat_and,BitVec.toNat_ofInt,BitVec.toNat_ofInt];have h2:(((n:Int)%((2^64:Nat):Int)).toNat)=n:=by omega
  have h3:((1:Int)%((2^64:Nat):Int)).toNat=2^1-1:=by decide
  rw [h2,h3,Nat.and_two_pow_sub_one_eq_mod]
 rw [e,IntKind.wrap_u64];omega
theorem B8u {m n:Nat} (h:m<=n):(2:Int)^n=2^m*2^(n-m):=by
 rw [<-Int.pow_add,show m+(n-m)=n by omega]
theorem D4L {a:A2} (ha:I0 a) {i:Nat} (hi:i<=127):C3Z a (i:Int)=some ((wv a/2^i)%2):=by
 unfold I0 at ha;unfold C3Z wv;have p64:(2:Int)^64=18446744073709551616:=by decide
 by_cases h:64<=i
 ·rw [D8f (by omega:(i:Int)>=64),D8e]
  have e1:A5 (A1 ((i:Int)-64))=((i-64:Nat):Int):=by rw [C4 (by omega) (by omega),K2];omega
  rw [e1,K7 (by rw [D8c];omega),A9a _ (by omega)]
  have p:=A1l (i-64);have e2:(a.Hi*18446744073709551616+a.Lo)/2^i=a.Hi/2^(i-64):=by
   rw [B8u h,p64,<-Int.ediv_ediv_of_nonneg (by decide)]
   congr 1
   omega
  have e3:0<=a.Hi/2^(i-64):=Int.ediv_nonneg ha.1 (by omega)
  have e4:a.Hi/2^(i-64)<=a.Hi:=Int.ediv_le_self _ ha.1;rw [e2,D3F e3 (by omega)]
 ·rw [D8h (by omega: ¬(i:Int)>=64),D8d]
  have e1:A5 (i:Int)=(i:Int):=by rw [K2];omega
  rw [e1,K7 (by rw [D8c];omega),A9a _ (by omega)]
  have p:=A1l i;have e3:0<=a.Lo/2^i:=Int.ediv_nonneg ha.2.2.1 (by omega)
  have e4:a.Lo/2^i<=a.Lo:=Int.ediv_le_self _ ha.2.2.1;rw [D3F e3 (by omega)]
  have e5:(a.Hi*18446744073709551616+a.Lo)/2^i=a.Lo/2^i+2*(a.Hi*2^(63-i)):=by
   have:a.Hi*18446744073709551616+a.Lo=a.Lo+2^i*(2*(a.Hi*2^(63-i))):=by
    have q:=B8u (m:=i) (n:=63) (by omega)
    have p63:(2:Int)^63=9223372036854775808:=by decide
    rw [p63] at q;have:(2:Int)^i*(2*(a.Hi*2^(63-i)))=2*(a.Hi*(2^i*2^(63-i))):=by grind
    rw [this,<-q];omega
   rw [this,Int.add_mul_ediv_left _ _ (by omega)]
  rw [e5]
  congr 1
  omega
theorem B7g {a b q r:Int} (h:a=q*b+r) (h0:0<=r) (h1:r<b):a/b=q/\a%b=r:=by
 rw [Int.ediv_emod_unique (by omega)]
 refine ⟨?_,h0,h1⟩;rw [h,Int.mul_comm];omega
theorem D4B (a b:Nat):B9h (a:Int) (b:Int)=some ((Nat.gcd a b:Nat):Int):=by
 unfold B9h;have c:(decide ((a:Int)<0)||decide ((b:Int)<0))=false:=by
  rw [D8K,D8r,D8r];omega
 rw [c,D8d];unfold C1y;obtain ⟨r,hr,hQ⟩:=W6 (f:=fun s:Int×Int=>B5i s.1 s.2)
  (fun s=> ∃x y:Nat,s=((x:Int),(y:Int))/\Nat.gcd x y=Nat.gcd a b)
  (fun s=>s.2.toNat) (fun r=>r=((Nat.gcd a b:Nat):Int)) ((a:Int),(b:Int)) ⟨a,b,rfl,rfl⟩ (by
   rintro _ ⟨x,y,rfl,hg⟩;simp only;unfold B5i
   by_cases h0:y=0
   ·right;subst h0;refine ⟨_,rfl, ?_⟩;rw [<-hg,Nat.gcd_zero_right]
   ·left;have c:((y:Int) !=0)=true:=by rw [bne_iff_ne];omega
    rw [c,D8e,K7 (by rw [D8c];omega)]
    refine ⟨_,rfl,⟨y,x%y,rfl, ?_⟩, ?_⟩
    ·rw [<-hg,Nat.gcd_comm,<-Nat.gcd_rec,Nat.gcd_comm]
    ·show (((x%y:Nat):Int)).toNat<(y:Int).toNat;have:=Nat.mod_lt x (show 0<y by omega)
     omega)
 rw [hr,hQ]
theorem B9P {x y:Int} (h0:0<=x) (h1:x<18446744073709551616) (h2:0<y):A11 0 x y=some (x/y,x%y):=by
 unfold A11;have c1:(y==(0:Int))=false:=by rw [D80];omega
 have c2:decide (y<=0)=false:=by rw [D8r];omega
 rw [c1,c2,D8d,D8d,K7 (by rw [D8c];omega),K7 (by rw [D8c];omega)]
 have e1:Int.tdiv x y=x/y:=Int.tdiv_eq_ediv_of_nonneg h0;have e2:Int.tmod x y=x%y:=Int.tmod_eq_emod_of_nonneg h0;have e3:0<=x/y:=Int.ediv_nonneg h0 (by omega)
 have e4:x/y<=x:=Int.ediv_le_self _ h0;have e5:A5 (x/y)=x/y:=by rw [K2];omega
 rw [e1,e2,e5]
 rfl
theorem B59 {n:Int} (h0:0<=n) (h1:n<18446744073709551616):I0 (S9 n)/\wv (S9 n)=n:=by
 unfold I0 wv S9;simp only;omega
end Go.Win
set_option maxHeartbeats 4000000
namespace Go.Win
open Go.Vc Go.Dec
theorem C6P {a:A2} (ha:I0 a): ∃n:Nat,n<=128/\A9o a=some (n:Int)/\wv a<2^n:=by
 unfold I0 at ha;have p64:(2:Int)^64=18446744073709551616:=by decide
 unfold A9o
 by_cases hh:a.Hi=0
 ·have c:(a.Hi !=(0:Int))=false:=by rw [bne_eq_false_iff_eq];exact hh
  rw [c,D8d]
  by_cases hl:a.Lo=0
  ·refine ⟨0,by omega, ?_, ?_⟩
   ·rw [hl];rfl
   ·unfold wv;rw [hh,hl];decide
  ·obtain ⟨b,b1,b2,b3,b4,b5⟩:=A5x (x:=a.Lo) (by omega) (by omega)
   refine ⟨b,by omega, ?_, ?_⟩
   ·rw [b1];rfl
   ·unfold wv;rw [hh];omega
 ·have c:(a.Hi !=(0:Int))=true:=by rw [bne_iff_ne];exact hh
  rw [c,D8e];obtain ⟨b,b1,b2,b3,b4,b5⟩:=A5x (x:=a.Hi) (by omega) (by omega)
  refine ⟨64+b,by omega, ?_, ?_⟩
  ·rw [b1];simp only [D8a];rw [C4 (by omega) (by omega)]
   rfl
  ·unfold wv;rw [Int.pow_add,p64];have:a.Hi+1<=2^b:=by omega
   have:=Int.mul_le_mul_of_nonneg_left this (show (0:Int)<=18446744073709551616 by decide)
   omega
theorem B3C {a:A2} (ha:I0 a) {b:Nat} (hb:b<2):
  N8 .u64 (E5 .u64 a.Hi 1) (G0 .u64 a.Lo 63)=(J0 ((wv a*2+b)%340282366920938463463374607431768211456)).Hi/\
  N8 .u64 (E5 .u64 a.Lo 1) (b:Int)=(J0 ((wv a*2+b)%340282366920938463463374607431768211456)).Lo/\
  G0 .u64 a.Hi 63=wv a/170141183460469231731687303715884105728:=by
 have h:=C23 ha hb;unfold B31 at h;have h1:=congrArg (fun x=>x.1.Hi) h;have h2:=congrArg (fun x=>x.1.Lo) h;have h3:=congrArg (fun x=>x.2) h;exact ⟨h1,h2,h3⟩
theorem D6m {a:A2} (ha:I0 a):E5 .u64 a.Lo 1=(J0 ((wv a*2)%340282366920938463463374607431768211456)).Lo:=by
 have:=B0C a.Lo (k:=1) (by decide)
 have e:E5 .u64 a.Lo 1=(a.Lo*2)%18446744073709551616:=by simpa using this
 unfold I0 at ha;rw [e];unfold J0 wv;simp only;omega
theorem B4h {a b:A2} (ha:I0 a) (hb:I0 b) (h0:0<wv b):A3i a b=some (J0 (wv a/wv b),J0 (wv a%wv b),true):=by
 have ra:=A84 ha;have rb:=A84 hb;obtain ⟨n0,hn0,hbits,hAn⟩:=C6P ha;have hne:A0p b=false:=by
  unfold wv at h0;unfold I0 at hb;unfold A0p;simp only [D81,D80];omega
 unfold A3i;rw [hne,hbits];simp only [D8d,D8a];unfold C0h
 generalize hA:wv a=A at*
 generalize hB:wv b=B at*
 have e0:A1 ((n0:Int)-1)=(n0:Int)-1:=by rw [C4]<;>omega
 rw [e0];obtain ⟨r,hr,hQ⟩:=W6 (f:=fun s:Int×Int×Int×Int×Int=>B4d a b s.1 s.2.1 s.2.2.1 s.2.2.2.1 s.2.2.2.2)
  (fun s=> ∃k:Nat,k<=n0/\s=((k:Int)-1,(J0 (A/2^k/B)).Hi,(J0 (A/2^k/B)).Lo,(J0 (A/2^k%B)).Hi,(J0 (A/2^k%B)).Lo))
  (fun s=>(s.1+1).toNat) (fun r=>r=(J0 (A/B),J0 (A%B),true)) ((n0:Int)-1,0,0,0,0) ⟨n0,D8S _,by
   have:A/2^n0=0:=Int.ediv_eq_zero_of_lt ra.1 hAn;rw [this];simp [J0]⟩ (by
   rintro _ ⟨k,hk,rfl⟩;simp only;unfold B4d;cases k with
   |zero=>
    right;rw [D8h (by omega: ¬(((0:Nat):Int)-1>=0)),D8d]
    refine ⟨_,rfl, ?_⟩;simp only [Int.pow_zero,Int.ediv_one]
   |succ i=>
    left;have e0:(((i+1:Nat):Int)-1)=(i:Int):=by omega
    have hbit:C0S a (i:Int)=some ((wv a/2^i)%2):=D4L ha (by omega)
    rw [e0,D8f (by omega:(i:Int)>=0),D8e,hbit,hA]
    simp only [D8a];have hA2:A/2^(i+1)=A/2^i/2:=by
     rw [Int.pow_succ,Int.ediv_ediv_of_nonneg (by have:=A1l i;omega)]
    have hAi0:0<=A/2^i:=Int.ediv_nonneg ra.1 (by have:=A1l i;omega)
    have hAi1:A/2^i<=A:=Int.ediv_le_self _ ra.1;rw [hA2]
    generalize hNd:A/2^i=N at*
    obtain ⟨β,hβ⟩:=Int.eq_ofNat_of_zero_le (show 0<=N%2 by omega)
    have hβ2:β<2:=by omega
    have hR0:0<=N/2%B:=Int.emod_nonneg _ (by omega)
    have hR1:N/2%B<B:=Int.emod_lt_of_pos _ h0;have hQ0:0<=N/2/B:=Int.ediv_nonneg (by omega) (by omega)
    have hQ1:N/2/B<=N/2:=Int.ediv_le_self _ (by omega)
    have hQR:=Int.mul_ediv_add_emod (N/2) B
    generalize hRR:N/2%B=R at*
    generalize hQQ:N/2/B=Q at*
    have hN:N=(2*Q)*B+(2*R+β):=by
     have:B*Q=Q*B:=Int.mul_comm _ _;have:2*Q*B=2*(Q*B):=Int.mul_assoc _ _ _;omega
    have oR:I0 (J0 R):=A0C hR0 (by omega)
    have oQ:I0 (J0 Q):=A0C hQ0 (by omega)
    obtain ⟨d1,d2,d3⟩:=B3C oR hβ2;rw [A0q] at d1 d2 d3;rw [hβ,d1,d2,d3];have hX0:0<=(R*2+β)%340282366920938463463374607431768211456:=by omega
    have hX1:(R*2+β)%340282366920938463463374607431768211456<340282366920938463463374607431768211456:=by omega
    have oX:=A0C hX0 hX1;have hc:R8 ⟨(J0 ((R*2+β)%340282366920938463463374607431768211456)).Hi,(J0 ((R*2+β)%340282366920938463463374607431768211456)).Lo⟩ b=if (R*2+β)%340282366920938463463374607431768211456<B then-1 else if (R*2+β)%340282366920938463463374607431768211456=B then 0 else 1:=by
     have:=B0k oX hb;rw [A0q,hB] at this;exact this
    simp only [hc];have ew:A1 ((i:Int)-1)=(i:Int)-1:=by rw [C4]<;>omega
    by_cases hge:B<=2*R+β
    ·have c1:((R/170141183460469231731687303715884105728==1)||decide ((if (R*2+β)%340282366920938463463374607431768211456<B then (-1:Int) else if (R*2+β)%340282366920938463463374607431768211456=B then 0 else 1)>=0))=true:=by
      rw [D8l,D84,D8c]
      by_cases ho:R/170141183460469231731687303715884105728=1
      ·exact .inl ho
      ·right;rw [if_neg (by omega)]
       split<;>omega
     rw [c1,D8e];have dm:=B7g (a:=N) (b:=B) (q:=2*Q+1) (r:=2*R+β-B) (by rw [Int.add_mul,hN];omega) (by omega) (by omega)
     unfold I0 at oX hb;unfold wv at hB;rw [B9o _ _ _ (by omega) (by omega) (by omega) (by omega) (by omega)]
     simp only [D8a];have hbw:(if (J0 ((R*2+β)%340282366920938463463374607431768211456)).Lo<b.Lo+0 then (1:Int) else 0)<=1/\0<=(if (J0 ((R*2+β)%340282366920938463463374607431768211456)).Lo<b.Lo+0 then (1:Int) else 0):=by split<;>omega
     rw [B9o _ _ _ (by omega) (by omega) (by omega) (by omega) (by omega)]
     simp only [D8a];obtain ⟨q1,q2,_⟩:=B3C oQ (b:=1) (by omega)
     rw [A0q] at q1 q2;change _=(J0 ((Q*2+1)%340282366920938463463374607431768211456)).Hi at q1;change N8 .u64 (E5 .u64 (J0 Q).Lo 1) 1=(J0 ((Q*2+1)%340282366920938463463374607431768211456)).Lo at q2;have hQ2:2*Q+1<=N:=by
      have:=Int.ediv_le_self B (show 0<=N by omega)
      omega
     rw [q1,q2,ew];refine ⟨_,rfl,⟨i,by omega, ?_⟩,by show ((i:Int)-1+1).toNat<((i:Int)+1).toNat;omega⟩
     rw [hNd,dm.1,dm.2];have:(Q*2+1)%340282366920938463463374607431768211456=2*Q+1:=by omega
     rw [this];unfold J0 at hbw⊢;simp only at hbw⊢
     congr 3
     split
     ·congr 1<;>omega
     ·congr 1<;>omega
    ·have hX:(R*2+β)%340282366920938463463374607431768211456=2*R+β:=by omega
     have c1:((R/170141183460469231731687303715884105728==1)||decide ((if (R*2+β)%340282366920938463463374607431768211456<B then (-1:Int) else if (R*2+β)%340282366920938463463374607431768211456=B then 0 else 1)>=0))=false:=by
      rw [D8K,D80,D8r];refine ⟨by omega, ?_⟩
      rw [if_pos (by omega)]
      omega
     rw [c1,D8d];have dm:=B7g (a:=N) (b:=B) (q:=2*Q) (r:=2*R+β) hN (by omega) (by omega)
     obtain ⟨q1,_,_⟩:=B3C oQ (b:=0) (by omega)
     have q2:=D6m oQ;rw [A0q] at q1 q2;change _=(J0 ((Q*2+0)%340282366920938463463374607431768211456)).Hi at q1;rw [Int.add_zero] at q1;rw [q1,q2,ew];refine ⟨_,rfl,⟨i,by omega, ?_⟩,by show ((i:Int)-1+1).toNat<((i:Int)+1).toNat;omega⟩
     rw [hNd,dm.1,dm.2,hX];have:(Q*2)%340282366920938463463374607431768211456=2*Q:=by omega
     rw [this])
 rw [hr,hQ]
end Go.Win
set_option maxHeartbeats 4000000
namespace Go.Win
open Go.Vc Go.Dec
theorem D6N {r:D4} (hb:okB r=true) {n:Int} (hn:1<=n/\n<=r.N) (hl:r.Ae.length<=1000000000): ∃k:Nat,A2H r.Ae n 0=some (k:Int)/\B9 r.Ae (k:Int)=some (J4 r.Ae k):=by
 obtain ⟨k,k1,k2⟩:=B5l ((A9d r).1 hb) hn hl;exact ⟨k,k2,A0K k1.lt⟩
theorem C5w (t:Int):A0t 1 t=if t<1 then 1 else t:=by
 show (if t>1 then t else 1)=_
 split<;>split<;>omega
theorem C39 {p q n:Int} (hp:0<=p) (hpq:p<=q) (hq:1<=q) (hq2:q<=9223372036854775807) (hn:1<=n) (hn2:n<=1099511627776):
  ∃lo rem:Int,A3i (Q3 (A5 p) (A5 n)) (K5 (A5 q))=some (⟨0,lo⟩,rem|>J0,true)/\
   lo=p*n/q/\rem=p*n%q/\0<=lo/\lo<=n/\(rem≠0->lo+1<=n)/\0<=rem/\rem<q:=by
 have e1:A5 p=p:=by rw [K2];omega
 have e2:A5 n=n:=by rw [K2];omega
 have e3:A5 q=q:=by rw [K2];omega
 rw [e1,e2,e3];have hX0:0<=p*n:=Int.mul_nonneg hp (by omega)
 have hX1:=(A9e (x:=p) (y:=n) (by omega) (by omega)).2
 have hprod:S6 p n=J0 (p*n):=A9L (by omega) (by omega)
 have hprod2:Q3 p n=J0 (p*n):=hprod;have oX:=A0C hX0 hX1;obtain ⟨oq,vq⟩:=B59 (n:=q) (by omega) (by omega)
 have hqq:q*n=n*q:=Int.mul_comm _ _;have hle:p*n<=q*n:=Int.mul_le_mul_of_nonneg_right hpq (by omega)
 have hdm:=Int.mul_ediv_add_emod (p*n) q;have hr0:=Int.emod_nonneg (p*n) (show q≠0 by omega)
 have hr1:=Int.emod_lt_of_pos (p*n) (show 0<q by omega)
 have hlo0:0<=p*n/q:=Int.ediv_nonneg hX0 (by omega)
 have hlo1:p*n/q<=n:=by
  have:p*n/q<=(n*q)/q:=Int.ediv_le_ediv (by omega) (by omega)
  rwa [Int.mul_ediv_cancel _ (by omega)] at this
 have hsmall:J0 (p*n/q)=⟨0,p*n/q⟩:=by
  unfold J0;congr 1<;>omega
 refine ⟨p*n/q,p*n%q, ?_,rfl,rfl,hlo0,hlo1,fun hne=> ?_,hr0,hr1⟩
 ·rw [hprod2];have:=B4h oX (b:=K5 q) oq (by show 0<wv (S9 q);rw [vq];omega)
  rw [this,A0q];show some (J0 (p*n/wv (S9 q)),J0 (p*n%wv (S9 q)),true)=_;rw [vq,hsmall]
 ·
  rcases Int.lt_or_le (p*n/q) n with hlt|hge
  ·omega
  ·exfalso;have:p*n/q=n:=by omega
   rw [this] at hdm;omega
theorem C7r (r:D4) (p q:Int) (hp:-9223372036854775808<=p/\p<=9223372036854775807) (hq:-9223372036854775808<=q/\q<=9223372036854775807) (hl:r.Ae.length<=1000000000):
  ∃x,A5A r p q=some x:=by
 unfold A5A;rw [A0X r hl];simp only [D8a];cases hb:okB r with
 |false=>exact ⟨_,rfl⟩
 |true=>
  have h:=(A9d r).1 hb;simp only [D8e,D8N,D8d];cases hc:((decide (q<1)||decide (p<0))||decide (p>q)) with
  |true=>exact ⟨_,rfl⟩
  |false=>
   simp only [D8K,D8r] at hc;simp only [D8d];cases hN:r.N==0 with
   |true=>exact ⟨_,rfl⟩
   |false=>
    rw [D80] at hN;have n0:=h.n0;have n1:=h.n1;obtain ⟨lo,rem,d1,_,_,l0,l1,l2,r0,r1⟩:=C39 (p:=p) (q:=q) (n:=r.N) (by omega) (by omega) (by omega) (by omega) (by omega) n1
    simp only [d1,D8a,D8d];have hz:(!((J0 rem).Hi==0&&((J0 rem).Lo==0&&true)))=decide (rem≠0):=by
     have g1:wv (J0 rem)=rem:=A0q rem;unfold J0 at*
     unfold wv at g1;rw [D8v];simp only [Bool.and_true,D8w,D81,D80,D8c];simp only at g1;omega
    rw [hz];have e1:A1 lo=lo:=by rw [C4]<;>omega
    have key: ∀n:Int,1<=n/\n<=r.N-> ∃k:Nat,A2H r.Ae n 0=some (k:Int)/\B9 r.Ae (k:Int)=some (J4 r.Ae k):=fun n hn=>D6N hb hn hl
    by_cases hr:rem=0
    ·rw [D8h (by simpa using hr)]
     simp only [D8d];obtain ⟨k,k1,k2⟩:=key (A0t 1 lo) (by rw [C5w];split<;>omega)
     unfold A5k;rw [e1,k1,D8a,k2];exact ⟨_,rfl⟩
    ·rw [D8f (by simpa using hr)]
     have l3:=l2 hr;simp only [D8e];have e2:A1 (lo+1)=lo+1:=by rw [C4]<;>omega
     have e3:A5 (lo+1)=lo+1:=by rw [K2];omega
     obtain ⟨k,k1,k2⟩:=key (A0t 1 (lo+1)) (by rw [C5w];split<;>omega)
     unfold A5k;rw [e3,e2,k1,D8a,k2];exact ⟨_,rfl⟩
def A4O (l:List B2) (m:Nat):Int:=if m=0 then 0 else (J4 l (m-1)).Bv
def A5g (l:List B2) (N:Int) (m:Nat):Int:=if m<l.length then (J4 l m).Bu-1 else N
theorem C48 {l:List B2} {N:Int} (h:OkR l N) {m:Nat} (h1:m<=l.length):0<=A4O l m/\A4O l m<=A5g l N m/\A5g l N m<=N:=by
 have n0:=h.n0;unfold A4O A5g
 by_cases hm0:m=0
 ·subst hm0;rw [if_pos rfl]
  by_cases hl:0<l.length
  ·rw [if_pos hl,h.first hl];have:=h.rng 0 hl;omega
  ·rw [if_neg hl];omega
 ·rw [if_neg hm0];have g1:=h.rng (m-1) (by omega)
  by_cases hl:m<l.length
  ·rw [if_pos hl];have g2:=h.rng m hl;have g3:=h.up (m-1) (by omega)
   rw [show m-1+1=m by omega] at g3
   omega
  ·rw [if_neg hl];omega
end Go.Win
set_option maxHeartbeats 4000000
namespace Go.Win
open Go.Vc Go.Dec
def tk (A B:List B2) (p:Nat×Nat):Bool:=decide (p.2=B.length)||(decide (p.1<A.length)&&decide ((J4 A p.1).V<=(J4 B p.2).V))
def A4p (A B:List B2) (p:Nat×Nat):Nat×Nat:=cond (tk A B p) (p.1+1,p.2) (p.1,p.2+1)
def R9 (A B:List B2):Nat->Nat×Nat
 |0=>(0,0)
 |k+1=>A4p A B (R9 A B k)
def me (A B:List B2) (a b:Int) (k:Nat):B2:=
 ⟨cond (tk A B (R9 A B k)) (J4 A (R9 A B k).1).V (J4 B (R9 A B k).2).V,
  A4O A (R9 A B (k+1)).1+A4O B (R9 A B (k+1)).2,A5g A a (R9 A B k).1+A5g B b (R9 A B k).2+1⟩
def meL (A B:List B2) (a b:Int) (n:Nat):List B2:=(List.range n).map (me A B a b)
theorem A0B (A B:List B2) (a b:Int) (n:Nat):(meL A B a b n).length=n:=by unfold meL;simp
theorem D2L (A B:List B2) (a b:Int) (n:Nat):meL A B a b (n+1)=meL A B a b n++ [me A B a b n]:=by
 unfold meL;rw [List.range_succ,D89]
 rfl
theorem C8j (A B:List B2) (a b:Int) {n i:Nat} (h:i<n):J4 (meL A B a b n) i=me A B a b i:=by
 unfold J4 meL
 grind
theorem C3a {A B:List B2} {p:Nat×Nat} (h1:p.1<=A.length) (_:p.2<=B.length) (h3:p.1+p.2<A.length+B.length) (h:tk A B p=true):
  p.1<A.length/\(p.2<B.length->(J4 A p.1).V<=(J4 B p.2).V):=by
 unfold tk at h
 grind
theorem C0Q {A B:List B2} {p:Nat×Nat} (h2:p.2<=B.length) (h:tk A B p=false):
  p.2<B.length/\(p.1<A.length->(J4 B p.2).V<(J4 A p.1).V):=by
 unfold tk at h
 grind
theorem C9D (A B:List B2): ∀k,k<=A.length+B.length->(R9 A B k).1<=A.length/\(R9 A B k).2<=B.length/\(R9 A B k).1+(R9 A B k).2=k:=by
 intro k
 induction k with
 |zero=>intro _;exact ⟨Nat.zero_le _,Nat.zero_le _,rfl⟩
 |succ k ih=>
  intro hk;obtain ⟨i1,i2,i3⟩:=ih (by omega)
  show (A4p A B (R9 A B k)).1<=_/\(A4p A B (R9 A B k)).2<=_/\(A4p A B (R9 A B k)).1+(A4p A B (R9 A B k)).2=_;unfold A4p;cases ht:tk A B (R9 A B k) with
  |true=>
   have:=(C3a i1 i2 (by omega) ht).1
   grind
  |false=>
   have:=(C0Q i2 ht).1
   grind
theorem C8k {A B:List B2} {a b:Int} {k:Nat} (hk:k<A.length+B.length) (ht:tk A B (R9 A B k)=true):
  me A B a b k=⟨(J4 A (R9 A B k).1).V,(J4 A (R9 A B k).1).Bv+A4O B (R9 A B k).2,(J4 A (R9 A B k).1).Bu+A5g B b (R9 A B k).2⟩:=by
 obtain ⟨i1,i2,i3⟩:=C9D A B k (by omega)
 obtain ⟨t1,_⟩:=C3a i1 i2 (by omega) ht
 unfold me;rw [show R9 A B (k+1)=A4p A B (R9 A B k) from rfl];unfold A4p;rw [ht];simp only [D8e];have e1:A4O A ((R9 A B k).1+1)=(J4 A (R9 A B k).1).Bv:=by unfold A4O;rw [if_neg (by omega),D8R]
 have e2:A5g A a (R9 A B k).1=(J4 A (R9 A B k).1).Bu-1:=by unfold A5g;rw [if_pos t1]
 grind
theorem C5L {A B:List B2} {a b:Int} {k:Nat} (hk:k<A.length+B.length) (ht:tk A B (R9 A B k)=false):
  me A B a b k=⟨(J4 B (R9 A B k).2).V,(J4 B (R9 A B k).2).Bv+A4O A (R9 A B k).1,(J4 B (R9 A B k).2).Bu+A5g A a (R9 A B k).1⟩:=by
 obtain ⟨i1,i2,i3⟩:=C9D A B k (by omega)
 obtain ⟨t1,_⟩:=C0Q i2 ht;unfold me;rw [show R9 A B (k+1)=A4p A B (R9 A B k) from rfl];unfold A4p;rw [ht];simp only [D8d];have e1:A4O B ((R9 A B k).2+1)=(J4 B (R9 A B k).2).Bv:=by unfold A4O;rw [if_neg (by omega),D8R]
 have e2:A5g B b (R9 A B k).2=(J4 B (R9 A B k).2).Bu-1:=by unfold A5g;rw [if_pos t1]
 rw [e1,e2]
 congr 1<;>omega
theorem C01 {B:List B2} {b:Int} (hB:OkR B b) (e:B2) (h1:0<=e.Bv/\e.Bv<=1099511627776) (h2:0<=e.Bu/\e.Bu<=1099511627776) {j:Nat} (hj:j<=B.length) (hl:B.length<=1000000000):
  A6K e B (j:Int) b=some ⟨e.V,e.Bv+A4O B j,e.Bu+A5g B b j⟩:=by
 have n1:=hB.n1;have n0:=hB.n0;obtain ⟨o1,o2,o3⟩:=C48 hB hj;have hj1: ∀m:Int,A6d e B (j:Int) b m=some ⟨e.V,m,e.Bu+A5g B b j⟩:=by
  intro m;unfold A6d
  by_cases hlt:j<B.length
  ·have r:=hB.rng j hlt;have e1:A5g B b j=(J4 B j).Bu-1:=by unfold A5g;rw [if_pos hlt]
   rw [D8f (by omega),D8e,A0K hlt]
   simp only [D8a];rw [show A1 ((J4 B j).Bu-1)=(J4 B j).Bu-1 by rw [C4]<;>omega,show A1 (e.Bu+((J4 B j).Bu-1))=e.Bu+((J4 B j).Bu-1) by rw [C4]<;>omega,e1]
  ·have e1:A5g B b j=b:=by unfold A5g;rw [if_neg hlt]
   rw [D8h (by omega),D8d,e1,show A1 (e.Bu+b)=e.Bu+b by rw [C4]<;>omega]
 unfold A6K
 by_cases h0:0<j
 ·have e1:A4O B j=(J4 B (j-1)).Bv:=by unfold A4O;rw [if_neg (by omega)]
  rw [D8f (by omega),D8e,show A1 ((j:Int)-1)=((j-1:Nat):Int) by rw [C4]<;>omega,A0K (show j-1<B.length by omega)]
  simp only [D8a];rw [hj1,<-e1,show A1 (e.Bv+A4O B j)=e.Bv+A4O B j by rw [C4]<;>omega]
 ·have e1:A4O B j=0:=by unfold A4O;rw [if_pos (by omega)]
  rw [D8h (by omega),D8d,hj1,e1,Int.add_zero]
theorem D4W {α:Type} {A B:List B2} {p:Nat×Nat} (h1:p.1<=A.length) (h2:p.2<=B.length) (X Y:Option α):
  (Option.bind (gd ((!((p.2:Int)==(B.length:Int)))&&(decide ((p.1:Int)<(A.length:Int)))) (B9 A (p.1:Int))) fun x=>
  Option.bind (gd ((!((p.2:Int)==(B.length:Int)))&&(decide ((p.1:Int)<(A.length:Int)))) (B9 B (p.2:Int))) fun y=>
  cond (((p.2:Int)==(B.length:Int))||((decide ((p.1:Int)<(A.length:Int)))&&(decide (x.V<=y.V)))) X Y)=cond (tk A B p) X Y:=by
 unfold tk
 by_cases hj:p.2=B.length
 ·simp_all
 ·rw [D80.2 (by omega:(p.2:Int)≠(B.length:Int)),D8h hj]
  by_cases hi:p.1<A.length
  ·rw [D8f (by omega:(p.1:Int)<(A.length:Int)),D8f hi,A0K hi,A0K (show p.2<B.length by omega)]
   rfl
  ·rw [D8h (by omega: ¬(p.1:Int)<(A.length:Int)),D8h hi]
   rfl
theorem C9n (r s:D4) (hA:OkR r.Ae r.N) (hB:OkR s.Ae s.N) (la:r.Ae.length<=1000000000) (lb:s.Ae.length<=1000000000):
  B15 r s 0 0 []=some (⟨r.N+s.N,meL r.Ae s.Ae r.N s.N (r.Ae.length+s.Ae.length)⟩,0):=by
 have hm:(1000000000:Nat)<=maxLen:=by rw [I2];omega
 have an0:=hA.n0;have an1:=hA.n1;have bn0:=hB.n0;have bn1:=hB.n1;unfold B15;obtain ⟨v,hv,hQ⟩:=W6 (f:=fun t:Int×Int×List B2=>A7h r s t.1 t.2.1 t.2.2)
  (fun t=> ∃k:Nat,k<=r.Ae.length+s.Ae.length/\t=(((R9 r.Ae s.Ae k).1:Int),((R9 r.Ae s.Ae k).2:Int),meL r.Ae s.Ae r.N s.N k))
  (fun t=>r.Ae.length+s.Ae.length-t.2.2.length) (fun v=>v=(⟨r.N+s.N,meL r.Ae s.Ae r.N s.N (r.Ae.length+s.Ae.length)⟩,0))
  (0,0, []) ⟨0,Nat.zero_le _,rfl⟩ (by
   rintro _ ⟨k,hk,rfl⟩;obtain ⟨i1,i2,i3⟩:=C9D r.Ae s.Ae k hk;simp only;unfold A7h;rw [D4W i1 i2]
   by_cases hlt:k<r.Ae.length+s.Ae.length
   ·left;have hc:(decide (((R9 r.Ae s.Ae k).1:Int)<(r.Ae.length:Int))||decide (((R9 r.Ae s.Ae k).2:Int)<(s.Ae.length:Int)))=true:=by
     grind
    have hsucc:meL r.Ae s.Ae r.N s.N (k+1)=meL r.Ae s.Ae r.N s.N k++ [me r.Ae s.Ae r.N s.N k]:=D2L _ _ _ _ _;have hpt:R9 r.Ae s.Ae (k+1)=A4p r.Ae s.Ae (R9 r.Ae s.Ae k):=rfl;unfold A4p at hpt;rw [hc,D8e];unfold A7g;cases ht:tk r.Ae s.Ae (R9 r.Ae s.Ae k) with
    |true=>
     obtain ⟨t1,_⟩:=C3a i1 i2 (by omega) ht
     have g:=hA.rng _ t1;rw [ht,D8e] at hpt;rw [D8e,A0K t1];simp only [D8a];rw [C01 hB _ (by omega) (by omega) i2 (by omega)]
     simp only [D8a];rw [K7 (by rw [D8c,A0B,D8P];omega),T0 t1 (by omega),<-C8k hlt ht,<-hsucc]
     refine ⟨_,rfl,⟨k+1,hlt,by grind⟩,by show _-(meL _ _ _ _ _).length<_-(meL _ _ _ _ _).length;rw [A0B,A0B];omega⟩
    |false=>
     obtain ⟨t1,_⟩:=C0Q i2 ht;have g:=hB.rng _ t1;rw [ht,D8d] at hpt;rw [D8d,A0K t1];simp only [D8a];rw [C01 hA _ (by omega) (by omega) i1 (by omega)]
     simp only [D8a];rw [K7 (by rw [D8c,A0B,D8P];omega),T0 t1 (by omega),<-C5L hlt ht,<-hsucc]
     refine ⟨_,rfl,⟨k+1,hlt,by grind⟩,by show _-(meL _ _ _ _ _).length<_-(meL _ _ _ _ _).length;rw [A0B,A0B];omega⟩
   ·right;have hc:(decide (((R9 r.Ae s.Ae k).1:Int)<(r.Ae.length:Int))||decide (((R9 r.Ae s.Ae k).2:Int)<(s.Ae.length:Int)))=false:=by
     grind
    have hke:k=r.Ae.length+s.Ae.length:=by omega
    rw [hc,D8d,show A1 (r.N+s.N)=r.N+s.N by rw [C4]<;>omega,hke]
    simp)
 rw [hv,hQ]
theorem C7q {B:List B2}: ∀k,k<=B.length->R9 [] B k=(0,k):=by
 intro k
 induction k with
 |zero=>intro _;rfl
 |succ k ih=>
  intro hk;rw [show R9 [] B (k+1)=A4p [] B (R9 [] B k) from rfl,ih (by omega)]
  have ht:tk [] B (0,k)=false:=by
   unfold tk
   grind
  unfold A4p
  grind
theorem C52 {A:List B2}: ∀k,k<=A.length->R9 A [] k=(k,0):=by
 intro k
 induction k with
 |zero=>intro _;rfl
 |succ k ih=>
  intro hk;rw [show R9 A [] (k+1)=A4p A [] (R9 A [] k) from rfl,ih (by omega)]
  rfl
theorem C79 {l m:List B2} (h:l.length=m.length) (h2:∀i,i<l.length->J4 l i=J4 m i):l=m:=by
 apply List.ext_getElem h;intro i h3 h4;rw [<-C8a h3,<-C8a h4,h2 i h3]
theorem C7c {B:List B2} {b:Int}:meL [] B 0 b B.length=B:=by
 refine C79 (A0B _ _ _ _ _) fun i hi=> ?_;rw [A0B] at hi;rw [C8j _ _ _ _ hi];have hp:=C7q i (Nat.le_of_lt hi);have ht:tk [] B (R9 [] B i)=false:=by
  rw [hp];unfold tk
  grind
 rw [C5L (by omega) ht,hp]
 have e1:A4O [] 0=0:=rfl;have e2:A5g [] 0 0=0:=rfl
 simp_all
theorem C5M {A:List B2} {a:Int}:meL A [] a 0 A.length=A:=by
 refine C79 (A0B _ _ _ _ _) fun i hi=> ?_;rw [A0B] at hi;rw [C8j _ _ _ _ hi];have hp:=C52 i (Nat.le_of_lt hi);have ht:tk A [] (R9 A [] i)=true:=by
  rw [hp]
  rfl
 rw [C8k (by omega) ht,hp]
 have e1:A4O [] 0=0:=rfl;have e2:A5g [] 0 0=0:=rfl
 simp_all
noncomputable def C1q (r s:D4):D4×Int:=
 cond (okB r&&okB s) (cond (decide (r.N+s.N>1099511627776)) (⟨0, []⟩,5) (⟨r.N+s.N,meL r.Ae s.Ae r.N s.N (r.Ae.length+s.Ae.length)⟩,0)) (⟨0, []⟩,2)
theorem C9E (r s:D4) (la:r.Ae.length<=1000000000) (lb:s.Ae.length<=1000000000):A7f r s=some (C1q r s):=by
 unfold A7f C1q;rw [A0X r (by omega),A0X s (by omega)]
 simp only [D8a];cases hr:okB r with
 |false=>rfl
 |true=>
  cases hs:okB s with
  |false=>rfl
  |true=>
   have hA:=(A9d r).1 hr;have hB:=(A9d s).1 hs;have an0:=hA.n0;have an1:=hA.n1;have bn0:=hB.n0;have bn1:=hB.n1;simp only [D8e,D8N,D8d,Bool.and_self];rw [show A1 (1099511627776-s.N)=1099511627776-s.N by rw [C4]<;>omega]
   by_cases hsum:r.N+s.N>1099511627776
   ·grind
   ·rw [D8h hsum,D8h (by omega)]
    simp only [D8d]
    by_cases ha:r.N=0
    ·have hnil:r.Ae= []:=D8V (hA.nil.2 ha);rw [D84.2 ha,D8e];unfold A37;rw [K7 (by grind),hnil,ha]
     simp only [D8a,List.nil_append,D8G,Nat.zero_add,Int.zero_add,C7c]
    ·rw [D80.2 ha,D8d]
     by_cases hb:s.N=0
     ·have hnil:s.Ae= []:=D8V (hB.nil.2 hb);rw [D84.2 hb,D8e];unfold A37;rw [K7 (by grind),hnil,hb]
      simp only [D8a,List.nil_append,D8G,Nat.add_zero,Int.add_zero,C5M]
     ·rw [D80.2 hb,D8d];exact C9n r s hA hB la lb
section widened
variable {s:D4} (hB:OkR s.Ae s.N) (lb:s.Ae.length<=1000000000)
include hB lb
end widened
end Go.Win
set_option maxHeartbeats 4000000
namespace Go.Win
open Go.Vc Go.Dec
def rk (N b:Int) (i:Nat):Int:=1+((i:Int)*(N-1))/b
def B5g (K:Nat->Nat):Nat->List Nat
 |0=> []
 |i+1=>B5g K i++(if i=0\/K i≠K (i-1) then [K i] else [])
theorem C5A (K:Nat->Nat): ∀m,(B5g K m).length<=m:=by
 intro m
 induction m with
 |zero=>exact D8S _
 |succ m ih=>
  unfold B5g;rw [D8g];split
  ·rw [D8P];omega
  ·rw [D8G];omega
theorem D4Q {N b:Int} (hN:1<=N) (hb:1<=b) (i:Nat):rk N b i<=rk N b (i+1)/\rk N b (i+1)-rk N b i<=(N-1+b-1)/b:=by
 unfold rk;have e:((i+1:Nat):Int)*(N-1)=(i:Int)*(N-1)+(N-1):=by rw [Int.natCast_add,Int.add_mul];simp
 rw [e]
 generalize (i:Int)*(N-1)=X
 have h1:=Int.mul_ediv_add_emod X b;have h2:=Int.emod_nonneg X (show b≠0 by omega)
 have h3:=Int.emod_lt_of_pos X (show 0<b by omega)
 have e2:(X+(N-1))/b=X/b+(X%b+(N-1))/b:=by
  have:X+(N-1)=(X%b+(N-1))+b*(X/b):=by omega
  rw [this,Int.add_mul_ediv_left _ _ (by omega)]
  omega
 have h4:0<=(X%b+(N-1))/b:=Int.ediv_nonneg (by omega) (by omega)
 have h5:(X%b+(N-1))/b<=(N-1+b-1)/b:=Int.ediv_le_ediv (by omega) (by omega)
 rw [e2];omega
theorem C24 {N b:Int} (hN:1<=N) (hb:1<=b) {i j:Nat} (h:i<=j):rk N b i<=rk N b j:=by
 induction j with
 |zero=>have:i=0:=by omega
        subst this;exact Int.le_refl _
 |succ j ih=>
  rcases Nat.lt_or_ge i (j+1) with hlt|hge
  ·exact Int.le_trans (ih (by omega)) (D4Q hN hb j).1
  ·have:i=j+1:=by omega
   subst this;exact Int.le_refl _
theorem D4R (N b:Int):rk N b 0=1:=by unfold rk;simp
theorem D4P {N:Int} {b:Nat} (hb:1<=b):rk N (b:Int) b=N:=by
 unfold rk;rw [Int.mul_ediv_cancel_left _ (by omega)]
 omega
theorem C0L {N:Int} {b:Nat} (hN:1<=N) (hb:1<=b) {i:Nat} (hi:i<=b):1<=rk N (b:Int) i/\rk N (b:Int) i<=N:=by
 have h1:=C24 hN (show (1:Int)<=(b:Int) by omega) (Nat.zero_le i)
 have h2:=C24 hN (show (1:Int)<=(b:Int) by omega) hi
 rw [D4R] at h1;rw [D4P hb] at h2;exact ⟨h1,h2⟩
open Classical in
noncomputable def kOf (l:List B2) (n:Int):Nat:=if h: ∃k,B4p l n k then Classical.choose h else 0
theorem C3O {l:List B2} {N n:Int} (h:OkR l N) (hn:1<=n/\n<=N) (hl:l.length<=1000000000):B4p l n (kOf l n):=by
 obtain ⟨k,hk,_⟩:=B5l h hn hl;unfold kOf;rw [dif_pos ⟨k,hk⟩];exact Classical.choose_spec (⟨k,hk⟩: ∃k,B4p l n k)
section
variable {l:List B2} {N:Int} (h:OkR l N) (hl:l.length<=1000000000) (hpos:0<l.length) {b:Nat} (hb1:1<=b) (hb2:b<=65536)
include h hl hpos hb1 hb2
omit hl in
theorem D6j {i:Nat} (hi:i<=b):A1 (1+A1 (Int.tdiv (A1 ((i:Int)*A1 (N-1))) (b:Int)))=rk N (b:Int) i:=by
 have hN:1<=N:=by have:=h.rng 0 hpos;omega
 have hN1:=h.n1;have e1:A1 (N-1)=N-1:=by rw [C4]<;>omega
 have hX0:0<=(i:Int)*(N-1):=Int.mul_nonneg (by omega) (by omega)
 have hX1:(i:Int)*(N-1)<=65536*1099511627776:=Int.mul_le_mul (by omega) (by omega) (by omega) (by omega)
 have e2:A1 ((i:Int)*(N-1))=(i:Int)*(N-1):=by rw [C4]<;>omega
 have e3:Int.tdiv ((i:Int)*(N-1)) (b:Int)=((i:Int)*(N-1))/(b:Int):=Int.tdiv_eq_ediv_of_nonneg hX0;have hr:=C0L hN hb1 hi;unfold rk at hr;rw [e1,e2,e3,C4 (n:=((i:Int)*(N-1))/(b:Int)) (by omega) (by omega),C4 (by omega) (by omega)]
 rfl
theorem C9C (r:D4) (hr1:r.Ae=l) (hr2:r.N=N):
  B16 r (b:Int) (-1) 0 0 []=some (⟨N,(B5g (fun i=>kOf l (rk N (b:Int) i)) (b+1)).map (J4 l)⟩,0):=by
 have hN:1<=N:=by have:=h.rng 0 hpos;omega
 unfold B16;obtain ⟨v,hv,hQ⟩:=W6 (f:=fun s:Int×Int×Int×List B2=>B0H r (b:Int) s.1 s.2.1 s.2.2.1 s.2.2.2)
  (fun s=> ∃i:Nat,i<=b+1/\s=(if i=0 then-1 else (kOf l (rk N (b:Int) (i-1)):Int),if i=0 then 0 else (kOf l (rk N (b:Int) (i-1)):Int),(i:Int),(B5g (fun i=>kOf l (rk N (b:Int) i)) i).map (J4 l)))
  (fun s=>b+1-s.2.2.1.toNat) (fun v=>v=(⟨N,(B5g (fun i=>kOf l (rk N (b:Int) i)) (b+1)).map (J4 l)⟩,0)) (-1,0,0, []) ⟨0,Nat.zero_le _,rfl⟩ (by
   rintro _ ⟨i,hi,rfl⟩;simp only;unfold B0H;rw [hr1,hr2]
   by_cases hlt:i<=b
   ·left;rw [D8f (by omega:(i:Int)<=(b:Int)),D8e,K7 (by rw [D8c];omega),D6j h hpos hb1 hb2 hlt]
    have hn:=C0L hN hb1 hlt;have hpl:=C3O h hn hl;have hplace:A2H l (rk N (b:Int) i) (if i=0 then 0 else (kOf l (rk N (b:Int) (i-1)):Int))=some (kOf l (rk N (b:Int) i):Int):=by
     by_cases h0:i=0
     ·rw [if_pos h0];obtain ⟨k,k1,k2⟩:=B5l h hn hl;rw [k2,B8t k1 hpl]
     ·rw [if_neg h0];have hprev:=C3O h (C0L hN hb1 (show i-1<=b by omega)) hl
      have hle:rk N (b:Int) (i-1)<=rk N (b:Int) i:=C24 hN (by omega) (by omega)
      obtain ⟨k,_,k1,k2⟩:=B4U h hn hl hprev.lt (fun j hj=>D4b hle (hprev.low j hj));rw [k2,B8t k1 hpl]
    rw [hplace];simp only [D8a];have ew:A1 ((i:Int)+1)=((i+1:Nat):Int):=by rw [C4]<;>omega
    have hkl:=C5A (fun i=>kOf l (rk N (b:Int) i)) i;rw [ew]
    by_cases hne:i=0\/kOf l (rk N (b:Int) i)≠kOf l (rk N (b:Int) (i-1))
    ·have c:((kOf l (rk N (b:Int) i):Int) !=(if i=0 then-1 else (kOf l (rk N (b:Int) (i-1)):Int)))=true:=by
      rw [bne_iff_ne];rcases hne with h0|h0
      ·rw [if_pos h0];omega
      ·split<;>omega
     rw [c,D8e,A0K hpl.lt];simp only [D8a];rw [K7 (by rw [D8c,D8X,D8P];omega)]
     refine ⟨_,rfl,⟨i+1,by omega, ?_⟩,by show b+1-(((i+1:Nat):Int)).toNat<b+1-(i:Int).toNat;omega⟩
     have hk:B5g (fun i=>kOf l (rk N (b:Int) i)) (i+1)=B5g (fun i=>kOf l (rk N (b:Int) i)) i++ [kOf l (rk N (b:Int) i)]:=by
      show _++(if _ then _ else _)=_
      rw [if_pos hne]
     rw [hk,D89];simp
    ·have hne' :=not_or.1 hne;have he:kOf l (rk N (b:Int) i)=kOf l (rk N (b:Int) (i-1)):=Classical.not_not.1 hne'.2;have c:((kOf l (rk N (b:Int) i):Int) !=(if i=0 then-1 else (kOf l (rk N (b:Int) (i-1)):Int)))=false:=by
      rw [bne_eq_false_iff_eq,if_neg hne'.1,he]
     rw [c,D8d];refine ⟨_,rfl,⟨i+1,by omega, ?_⟩,by show b+1-(((i+1:Nat):Int)).toNat<b+1-(i:Int).toNat;omega⟩
     have hk:B5g (fun i=>kOf l (rk N (b:Int) i)) (i+1)=B5g (fun i=>kOf l (rk N (b:Int) i)) i:=by
      show _++(if _ then _ else _)=_
      rw [if_neg hne,List.append_nil]
     rw [hk,if_neg hne'.1];simp [he]
   ·right;have hi2:i=b+1:=by omega
    subst hi2;rw [D8h (by omega),D8d]
    exact ⟨_,rfl,rfl⟩)
 rw [hv,hQ]
end
end Go.Win
set_option maxHeartbeats 4000000
namespace Go.Win
open Go.Vc Go.Dec
end Go.Win
set_option maxHeartbeats 4000000
namespace Go.Win
open Go.Vc Go.Dec
end Go.Win
set_option maxHeartbeats 4000000
namespace Go.Win
open Go.Vc Go.Dec
theorem D0Y (r s:D4):(C1q r s).1.Ae.length<=r.Ae.length+s.Ae.length:=by
 unfold C1q;cases okB r&&okB s with
 |false=>exact Nat.zero_le _
 |true=>
  rw [D8e];cases decide (r.N+s.N>1099511627776) with
  |true=>exact Nat.zero_le _
  |false=>rw [D8d,A0B];exact D8S _
abbrev lvQ (b:B1):Int:=b.Bd
abbrev tmQ (b:B1):Int:=b.T
def O2 (l:List B1):Nat:=(l.map fun x=>x.Bi.Ae.length).sum
theorem B0y (a b:List B1):O2 (a++b)=O2 a+O2 b:=by simp [O2]
theorem B1x (x:B1) (l:List B1):O2 (x::l)=x.Bi.Ae.length+O2 l:=by simp [O2]
theorem D2m {l:List B1} {x:B1} (h:x∈l):x.Bi.Ae.length<=O2 l:=by
 induction l with
 |nil=>cases h
 |cons y l ih=>
  rw [B1x];rcases List.mem_cons.1 h with h|h
  ·rw [h];omega
  ·have:=ih h;omega
def D3o (l:List B1):Int:=U9 (plainB l)
theorem B2H (X:List B1) (j:Int):A7P (fun b:A3=>b.Bd) (plainB X) j=A7P lvQ X j:=by
 unfold A7P plainB;rw [List.countP_map]
 rfl
theorem D2e {Q:Int->Prop} {k l:Int} {X:List B1}:CI (fun b:A3=>b.Bd) (fun b=>b.T) Q k l (plainB X)↔CI lvQ tmQ Q k l X:=by
 constructor
 ·intro h;refine ⟨fun j hj=> ?_,fun x hx j hj hjx=> ?_, ?_,fun x hx=> ?_⟩
  ·rw [<-B2H];exact h.le j hj
  ·rw [<-B2H];exact h.ge ⟨x.T,x.Bd⟩ (List.mem_map.2 ⟨x,hx,rfl⟩) j hj hjx
  ·have:=h.srt;unfold plainB at this;have q:=List.pairwise_map.1 this;exact q
  ·exact h.all ⟨x.T,x.Bd⟩ (List.mem_map.2 ⟨x,hx,rfl⟩)
 ·intro h;refine ⟨fun j hj=> ?_,fun x hx j hj hjx=> ?_, ?_,fun x hx=> ?_⟩
  ·rw [B2H];exact h.le j hj
  ·obtain ⟨y,hy,rfl⟩:=List.mem_map.1 hx;rw [B2H];exact h.ge y hy j hj hjx
  ·unfold plainB;exact List.pairwise_map.2 h.srt
  ·obtain ⟨y,hy,rfl⟩:=List.mem_map.1 hx;exact h.all y hy
theorem D2l {l:List B1} {i:Nat} (h:i+1<l.length) {b:B1} (hb:b.Bi.Ae.length<=(el l i).Bi.Ae.length+(el l (i+1)).Bi.Ae.length):
  ((l.set i b).take (i+1)++((l.set i b).drop (i+2)).take ((l.set i b).length-(i+2))).length+1=l.length/\O2 ((l.set i b).take (i+1)++((l.set i b).drop (i+2)).take ((l.set i b).length-(i+2)))<=O2 l:=by
 refine ⟨by simp;omega, ?_⟩
 have e:l=l.take i++(el l i::el l (i+1)::l.drop (i+2)):=by
  rw [L8 h,L8 (by omega)]
  simp
 have e2:(l.set i b).take (i+1)=l.take i++ [b]:=by
  rw [List.take_add_one,List.take_set_of_le (D8S _),List.getElem?_set_self (by omega)];rfl
 have e3:((l.set i b).drop (i+2)).take ((l.set i b).length-(i+2))=l.drop (i+2):=by
  rw [List.drop_set_of_lt (by omega),List.take_of_length_le (by simp)]
 rw [e2,e3]
 conv=>rhs;rw [e]
 simp only [B0y,B1x,D8E,List.cons_append,List.nil_append];omega
instance {r s:D4}:TS (A7f r s) (r.Ae.length<=1000000000/\s.Ae.length<=1000000000) (fun y=>y.1.Ae.length<=r.Ae.length+s.Ae.length):=⟨fun h=>⟨_,C9E r s h.1 h.2,D0Y r s⟩⟩
theorem D1s (p0:D4) (p1:Int) (hl:p0.Ae.length<=1000000000) (h64:1<=p1/\p1<=65536):T (A9P p0 p1) fun r=>r.1.Ae.length<=p0.Ae.length:=by
 unfold A9P;rw [A0X p0 (by omega)]
 simp only [D8a];cases hb:okB p0 with
 |false=>exact ⟨_,rfl,Nat.zero_le _⟩
 |true=>
  have h:=(A9d p0).1 hb;simp only [D8e,D8N,D8d];rw [D8h (by omega),D8h (by omega)]
  simp only [Bool.or_self,D8d];have e1:A1 (p1+1)=p1+1:=by rw [C4]<;>omega
  rw [e1]
  by_cases hle:(p0.Ae.length:Int)<=p1+1
  ·rw [D8f hle];simp only [D8e];unfold A37;exact yT
  ·rw [D8h hle];simp only [D8d];obtain ⟨b,rfl⟩:=Int.eq_ofNat_of_zero_le (show 0<=p1 by omega)
   have hpos:0<p0.Ae.length:=by omega
   rw [C9C h (by omega) hpos (by omega) (by omega) p0 rfl rfl]
   refine ⟨_,rfl, ?_⟩;have:=C5A (fun i=>kOf p0.Ae (rk p0.N (b:Int) i)) (b+1);simp only [D8X];omega
instance {r:D4} {p:Int}:TS (A9P r p) (r.Ae.length<=1000000000/\1<=p/\p<=65536) (fun y=>y.1.Ae.length<=r.Ae.length):=⟨fun h=>D1s r p h.1 h.2⟩
theorem D2n {l:List B1} {i:Nat} (h:i+1<l.length):(el l i).Bi.Ae.length+(el l (i+1)).Bi.Ae.length<=O2 l:=by
 have e:l=l.take i++(el l i::el l (i+1)::l.drop (i+2)):=by
  rw [L8 h,L8 (by omega)]
  simp
 conv=>rhs;rw [e]
 simp only [B0y,B1x];omega
theorem D5w {k p:Int} {l:List B1} {n v s:Int} (hk:1<=k/\k<=128) (hp:1<=p/\p<=65536) (hs:0<=s/\s<=n) (hn:n<=l.length) (hl:l.length<=1048577) (he:O2 l<=1000000000):
  T (A8G k p l n v s) fun r=>match r with
   | .inl r=>r.1.length+1<=l.length/\0<=r.2.1/\r.2.1<=r.1.length/\O2 r.1<=O2 l
   | .inr r=>r=l:=by
 unfold A8G;refine yL (fun s=>0<=s/\s<=n) (fun s=>s.toNat) hs fun s hs=> ?_;have h1:=T2 s (by omega)
 have h2:A1 (n-s)=n-s/\A1 (k+2)=k+2:=by constructor<;>(rw [C4]<;>omega)
 unfold A7K;simp only [h1,h2]
 by_cases hc:n-s<k+2
 ·rw [D8f hc];exact yT
 ·obtain ⟨i,rfl⟩:=Int.eq_ofNat_of_zero_le hs.1;have hi:i+1<l.length:=by omega
  have e2:=D2n hi;have d:=fun b=> @D2l l i hi b;have n1:((i:Int)+1).toNat=i+1:=by omega
  have n2:((i:Int)+2).toNat=i+2:=by omega
  rw [D8h hc];simp only [n1,n2,D8Q];exact yT
instance {k p n v:Int} {l:List B1}:TS (A8F k p l n v) ((1<=k/\k<=128)/\(1<=p/\p<=65536)/\(0<=n/\n<=l.length)/\l.length<=1048577/\O2 l<=1000000000) (fun r=>r.length<=l.length/\O2 r<=O2 l):=⟨fun ⟨hk,hp,hn,hl,he⟩=>by
 unfold A8F;refine yL (fun s=>s.1.length<=l.length/\0<=s.2.1/\s.2.1<=s.1.length/\O2 s.1<=O2 l) (fun s=>s.1.length) ⟨D8S _,hn.1,hn.2,D8S _⟩ fun s ⟨h1,h2,h3,h4⟩=> ?_;unfold B2r;refine yM (D5w hk hp ⟨h2,Int.le_refl _⟩ h3 (by omega) (by omega)) fun r h=> ?_
 cases r with
 |inl r=>dsimp only at h⊢;omega
 |inr r=>dsimp only at h⊢;rw [h];exact ⟨h1,h4⟩⟩
instance {l:List B1} {k b:Int}:TS (A4y l k b) (A1o l) (fun r=>r=bOf (B55 l k b)):=⟨fun h=>⟨_,B7P l k b h,rfl⟩⟩
instance {l:List B1}:TS (A25 l) (A1o l) (fun r=>r=A1 (U9 (plainB l))):=⟨fun h=>⟨_,B7O l h,rfl⟩⟩
theorem C4Z (x:C3) (v:Int) (hs:A1o x.Al) (hl:x.Al.length+1<=1048576) (he:O2 x.Al+1<=1000000000):
  T (A4S x v) fun r=>O2 r.1.Al<=O2 x.Al+1/\r.1.Al.length<=x.Al.length+1:=by
 unfold A4S;rw [A2m x hs]
 by_cases hv:C0E x
 ·obtain ⟨b,b1,b2,b3⟩:=A9g (k:=x.K) (c:=x.Cap) hv.1.2.2.2 hv.1.2.1;have hk:=hv.1.2.2.2;have e2:A1 (2*x.K)=2*x.K:=by rw [C4]<;>omega
  have e0:O2 []=0:=rfl;have ea: ∀b:B1,O2 (x.Al++ [b])=O2 x.Al+b.Bi.Ae.length:=fun b=>by rw [B0y,B1x,e0];omega
  rw [b1,e2];unfold B1Y A0S;simp only [List.nil_append];exact yT
 ·rw [J7 hv];exact ⟨_,rfl,Nat.zero_le _,Nat.zero_le _⟩
end Go.Win
set_option maxHeartbeats 4000000
namespace Go.Win
open Go.Vc Go.Dec
theorem B8P {l:List B1} (hl:l.length<=1048576):A1 (U9 (plainB l))=D3o l:=C3d (by rw [A1x];exact hl)
theorem B94 (f:Int) (l:List B1):plainB (l.dropWhile fun x=>decide (x.T<f))=(plainB l).dropWhile fun x=>decide (x.T<f):=by
 unfold plainB;rw [List.dropWhile_map]
 rfl
theorem D0n {l:List B1} {k b:Int} (f:Int) (h:B55 l k b):B55 (l.dropWhile fun x=>decide (x.T<f)) k b:=by
 refine ⟨h.1,by rw [B94];exact C8m h.2.1 _,fun i hi=> ?_⟩
 obtain ⟨j,hj,e⟩:=A2l (B0w (O4 hi));rw [<-e];exact h.2.2 j hj
theorem D0w (p:B1->Bool) (l:List B1):O2 (l.dropWhile p)<=O2 l:=by
 have:O2 l=O2 (l.takeWhile p)+O2 (l.dropWhile p):=by rw [<-B0y,List.takeWhile_append_dropWhile]
 omega
theorem C0M {x:C3} {t:Int} (h:C0E x) (hs:A1o x.Al) (h1:x.Now<=t) (h2:t<=16777216):
  ∃B,A5j x t=some (⟨x.W,x.K,x.Cap,t,B⟩,0)/\C0E ⟨x.W,x.K,x.Cap,t,B⟩/\A1o B/\O2 B<=O2 x.Al:=by
 obtain ⟨hp,hb,hc,hv⟩:=id h;have hd:=A8R (fun b:B1=>decide (b.T<P4 t x.W)) x.Al;have hsd:A1o (x.Al.dropWhile fun b=>decide (b.T<P4 t x.W)):=⟨Nat.le_trans hd hs.1,fun y hy=>hs.2 y (B0w hy)⟩;refine ⟨x.Al.dropWhile fun b=>decide (b.T<P4 t x.W), ?_,⟨⟨hp.1,hp.2.1,⟨by have:=hp.2.2.1;show 0<=t;omega,h2⟩,hp.2.2.2⟩,fun b e=>D0n _ (hb b e), ?_,fun i hi=> ?_⟩,hsd,D0w _ _⟩
 ·unfold A5j;rw [A2m x hs,D8a,O3 h];simp only [D8N,D8d];rw [A85 t hp.2.2.1,C0v,A40 h1 h2];simp only [D8N,D8d];rw [(D2o hs.1 _)]
  rfl
 ·show A1 (U9 (plainB (x.Al.dropWhile fun b=>decide (b.T<P4 t x.W))))<=x.Cap;rw [B8P hsd.1];rw [B8P hs.1] at hc;have:=C4b (fun b:A3=>decide (b.T<P4 t x.W)) (plainB x.Al);rw [<-B94] at this;unfold D3o at*
  omega
 ·have hi' :i<(x.Al.dropWhile fun b=>decide (b.T<P4 t x.W)).length:=hi;have hm:=O4 hi';obtain ⟨b,_,e,_⟩:=A9g (k:=x.K) (c:=x.Cap) hp.2.2.2 hp.2.1;have srt:=(D2e.1 (A6x (hb b e).2.1).1).srt;have a:=C0t tmQ (P4 t x.W) srt _ hm;have hpt:0<=t/\t<=16777216:=by have:=hp.2.2.1;omega
  rw [C3F hpt hp.1] at a;obtain ⟨j,hj,ej⟩:=A2l (B0w hm);have c:=(A36 _ _ _).1 (hv j hj);rw [ej] at c;have a2:t-x.W<(el (x.Al.dropWhile fun b=>decide (b.T<P4 t x.W)) i).T:=a.2;exact (A36 _ _ _).2 ⟨hpt,hp.1,c.2.2.1,a2,by show (el (x.Al.dropWhile fun b=>decide (b.T<P4 t x.W)) i).T<=t;omega⟩
end Go.Win
set_option maxHeartbeats 4000000
namespace Go.Win
open Go.Vc Go.Dec
theorem C1m {β:Type} (lv:β->Int) (B:Int): ∀(m:Nat) (X:List β),(∀x∈X,0<=lv x/\lv x<(m:Int))->(∀j:Int,0<=j->(A7P lv X j:Int)<=B)->(X.length:Int)<=(m:Int)*B
 |0,X,h,_=>by
  cases X with
  |nil=>simp
  |cons x X=>
   have:=h x (by simp)
   omega
 |m+1,X,h,hB=>by
  have e:=List.length_eq_countP_add_countP (fun x=>lv x==(m:Int)) (l:=X);have ih:=C1m lv B m (X.filter fun x=> !(lv x==(m:Int))) (fun x hx=>by
   have hx' :=List.mem_filter.1 hx;have a:=h x hx'.1;have b:=hx'.2;rw [D8w,D80] at b
   push_cast at a
   omega) (fun j hj=>by
   have:=List.Sublist.countP_le (p:=fun x=>lv x==j) (List.filter_sublist (l:=X) (p:=fun x=> !(lv x==(m:Int))));have:=hB j hj;unfold A7P at this⊢;omega)
  have a:=hB (m:Int) (by omega)
  unfold A7P at a;have c:List.countP (fun a=>decide (¬((lv a==(m:Int))=true))) X=(X.filter fun x=> !(lv x==(m:Int))).length:=by
   rw [List.countP_eq_length_filter]
   congr 1
   refine List.filter_congr fun x _=> ?_;cases (lv x==(m:Int))<;>rfl
  rw [c] at e
  push_cast
  rw [Int.add_mul];omega
theorem D4u {l:List A3} {x:A3} (h:x∈l):A8A x<=U9 l:=by
 induction l with
 |nil=>cases h
 |cons y l ih=>
  rw [B1X];have a:=C3c l;have b:=C6o y;rcases List.mem_cons.1 h with e|e
  ·rw [e];omega
  ·have:=ih e;omega
theorem D6a {L b:Nat} (h:(2:Int)^L<2^b):L<b:=by
 rcases Nat.lt_or_ge L b with g|g
 ·exact g
 ·exfalso;rw [B8u g] at h;have a:=A1l b;have c:=A1l (L-b);have:=Int.mul_le_mul_of_nonneg_left (show (1:Int)<=2^(L-b) by omega) (show (0:Int)<=2^b by omega)
  omega
theorem C47 {l:List A3} {k cap:Int} {b:Nat} (h:A7W l k) (ht:U9 l<=cap) (hb:cap<2^b):(l.length:Int)<=(b:Int)*(k+1):=by
 obtain ⟨ci,cs,cl⟩:=A6x h;refine C1m (fun x:A3=>x.Bd) (k+1) b l (fun x hx=> ?_) (fun j hj=> ?_)
 ·have a:=cl x hx;refine ⟨a.1, ?_⟩;have m:=D4u hx;unfold A8A at m;rw [if_pos a] at m;have:=D6a (L:=x.Bd.toNat) (b:=b) (by omega)
  omega
 ·have:=ci.le j hj;rw [if_neg (by omega)] at this
  omega
theorem D4h {l:List B1} {M:Int} (h:∀x∈l,(x.Bi.Ae.length:Int)<=M):(O2 l:Int)<=l.length*M:=by
 induction l with
 |nil=>simp [O2]
 |cons x l ih=>
  have a:=h x (by simp)
  have b:=ih fun y hy=>h y (by simp [hy])
  rw [B1x,D8t]
  push_cast
  rw [Int.add_mul];omega
end Go.Win
set_option maxHeartbeats 4000000
namespace Go.Win
open Go.Vc Go.Dec
theorem D6c {x:C3} (h:C0E x) (hs:A1o x.Al):x.Al.length<=65536:=by
 obtain ⟨hp,hb,ht,_⟩:=h;obtain ⟨sz,_,s2,_⟩:=A9g (k:=x.K) (c:=x.Cap) hp.2.2.2 hp.2.1;have a:=B6Q (A6x (hb sz s2).2.1).2.2;rw [A1x] at a;rw [B8P hs.1] at ht;have:=hp.2.1;unfold D3o at ht;omega
theorem C8s {x:D0} (h:okV x=true):x.Bc.length<=65536:=by
 have:=(B3s x).1 h;omega
theorem D4i {x:C2} (h:B5j x):x.Bc.length<=1048576:=by
 have:=D0x h;omega
theorem D6n {x:D2} (h:B6I x):x.Bg.length<=65536:=by
 have a:=(C9W h).1;have hp:=h.2.1.2.1;have:=(B9d a).2 (by omega)
 omega
theorem D6o {x:D5} (h:C2D x):x.Bg.length<=65536:=by
 obtain ⟨hp,hm,_⟩:=h;have a:=C1t hp.2.1.2 (by decide) hm
 have:=(B9d a).2 (by have:=hp.2.1;omega)
 have:=hp.2.1;omega
theorem D4I {x:C3} (h:C0E x) (hs:A1o x.Al):O2 x.Al<=150000000:=by
 obtain ⟨hp,hb,ht,_⟩:=h;have hcap:=hp.2.1;have hk:=hp.2.2.2;obtain ⟨sz,_,s2,s3,s4⟩:=A9g (k:=x.K) (c:=x.Cap) hk hcap;obtain ⟨b,_,g2,g3,g4,g5,g6⟩:=C2q (x:=x.Cap) (by omega) (by omega)
 have b17:b<=17:=Nat.le_of_not_lt fun hb=>by
  have h2:(2:Nat)^17<=2^(b-1):=Nat.pow_le_pow_right (by decide) (by omega)
  have:(2:Int)^17<=2^(b-1):=by exact_mod_cast h2
  omega
 have hbl:=hb sz s2;rw [B8P hs.1] at ht;have n:=C47 hbl.2.1 (cap:=x.Cap) (b:=b) ht g6;rw [A1x] at n;have e:=D4h (l:=x.Al) (M:=sz+1) (fun y hy=>by obtain ⟨i,hi,rfl⟩:=A2l hy;exact (hbl.2.2 i hi).2.2.1)
 have m1:=Int.mul_le_mul_of_nonneg_right n (show 0<=sz+1 by omega)
 have q1:=Int.mul_le_mul (show 2*x.K+1<=129 by omega) (show (b:Int)<=17 by omega) (by omega) (by decide)
 have q0:=Int.mul_nonneg (a:=2*x.K+1) (b:=(b:Int)) (by omega) (by omega)
 have r1:=Int.mul_le_mul q1 (show sz+1<=65537 by omega) (by omega) (by decide)
 have r0:=Int.mul_nonneg q0 (show 0<=sz+1 by omega)
 rw [Int.mul_comm (2*x.K+1) (b:Int)] at*
 omega
def C4L (l:List B5):Nat:=(l.map fun c=>c.Bf.length).sum
def B6l (s:A9):Nat:=s.Ar.Bc.length+s.Az.Ad.length+s.Sum.Ad.length+s.Au.Bg.length+s.Av.Bg.length+s.Bn.Ag.length+s.Bb.Bo.length+s.Af.Bc.length+s.Aj.Aw.length+s.Ab.Al.length+s.As.Ao.length
theorem D2H {l:List B5} (h:∀c∈l,c.Bf.length<=1048576):C4L l<=l.length*1048576:=by
 unfold C4L
 induction l with
 |nil=>simp
 |cons x l ih=>
  have a:=h x (by simp)
  have b:=ih fun y hy=>h y (by simp [hy])
  simp only [D83,List.sum_cons,D8t];omega
theorem C1A {s:A9} (hv:A19 s) (w:X4 s):(B6l s<=70000/\O2 s.Ab.Al<=150000000)/\C4L s.As.Ao<=16777216:=by
 obtain ⟨hc,hr,ho1,ho2,ho3,ho4,ho5,ho6,ho7,ho8,ho9,ho10,ho11⟩:=hv;obtain ⟨w1,w2,w3,w4,w5,w6,w7,w8,w9,w10,w11⟩:=w;have z1:s.Ap.Bj=1\/s.Ar.Bc.length=0:=(Decidable.em _).imp_right fun h=>(ho1 h).2.2.2;have z2:s.Ap.Bj=2\/s.Az.Ad.length=0:=(Decidable.em _).imp_right fun h=>(ho2 h).2.2.2.2;have z3:s.Ap.Bj=3\/s.Sum.Ad.length=0:=(Decidable.em _).imp_right fun h=>(ho3 h).2.2.2.2.2;have z4:s.Ap.Bj=4\/s.Au.Bg.length=0:=(Decidable.em _).imp_right fun h=>(ho4 h).2.2.2.2.2.2;have z5:s.Ap.Bj=5\/s.Av.Bg.length=0:=(Decidable.em _).imp_right fun h=>(ho5 h).2.2.2.2.2;have z6:s.Ap.Bj=6\/s.Bn.Ag.length=0:=(Decidable.em _).imp_right fun h=>(ho6 h).2.2.2;have z7:s.Ap.Bj=7\/s.Bb.Bo.length=0:=(Decidable.em _).imp_right fun h=>(ho7 h).2;have z8:s.Ap.Bj=8\/s.Af.Bc.length=0:=(Decidable.em _).imp_right fun h=>(ho8 h).2.2.2.2;have z9:s.Ap.Bj=9\/s.As.Ao.length=0:=(Decidable.em _).imp_right fun h=>ho9 h;have z10:s.Ap.Bj=10\/s.Aj.Aw.length=0:=(Decidable.em _).imp_right fun h=>(ho10 h).2.2.2;have z11:s.Ap.Bj=11\/s.Ab.Al.length=0:=(Decidable.em _).imp_right fun h=>(ho11 h).2.2.2.2;have q0:s.Ap.Bj≠11->O2 s.Ab.Al<=150000000:=fun h=>by
  have:=D8V (z11.resolve_left h);rw [this];simp [O2]
 have l0:C4L s.As.Ao<=16777216:=by
  have hL:=D2H w9.2
  by_cases k:s.Ap.Bj=9
  ·have h9:(s.As.Ao.length:Int)=s.Ap.Ao:=by
    rcases hr with h|h|h|h|h|h|h|h|h|h|h<;>first|exact h.2.2.1|(have:=h.1;omega)
   have:=hc.2.2.2.2.2.2.1.1 k;omega
  ·have:=z9.resolve_left k;omega
 refine ⟨?_,l0⟩;unfold B6l;rcases hr with ⟨k,h⟩|⟨k,h⟩|⟨k,h⟩|⟨k,h⟩|⟨k,h⟩|⟨k,h⟩|⟨k,h⟩|⟨k,h⟩|⟨k,h⟩|⟨k,h⟩|⟨k,h⟩
 ·have:=C8s h.1;exact ⟨by omega,q0 (by omega)⟩
 ·have:=C5u h.1 w2;exact ⟨by omega,q0 (by omega)⟩
 ·have:=C5u h.1.1 w3;exact ⟨by omega,q0 (by omega)⟩
 ·have:=D6n h.1;exact ⟨by omega,q0 (by omega)⟩
 ·have:=D6o h.1;exact ⟨by omega,q0 (by omega)⟩
 ·have:=h.1.1;exact ⟨by omega,q0 (by omega)⟩
 ·have:=h.1.1;exact ⟨by omega,q0 (by omega)⟩
 ·have:=h.1.1;exact ⟨by omega,q0 (by omega)⟩
 ·have:=hc.2.2.2.2.2.2.1.1 k;have:=h.2.1;exact ⟨by omega,q0 (by omega)⟩
 ·have:=h.1.1;unfold B1B at this;exact ⟨by omega,q0 (by omega)⟩
 ·have:=D6c h.1 w11;exact ⟨by omega,D4I h.1 w11⟩
end Go.Win
set_option maxHeartbeats 4000000
namespace Go.Win
open Go.Vc Go.Dec
theorem D11 (s:A9) (w:X4 s) (v:Int) (d:List Int) (hd:d.length<=maxLen): ∃r,Z6 s v d=some r/\X4 r.1:=by
 obtain ⟨h1,h2,h3,h4,h5,h6,h7,h8,h9,h10,h11⟩:=id w;unfold Z6;rw [(T4 s w),D8a]
 by_cases hv:A19 s
 ·rw [O3 hv];simp only [D8N,D8d];have fin: ∀(f:Int) (re:D0) (co:E4) (su:F3) (sm:D2) (sp:D5) (po:E2) (hn:Int) (hs:List Int) (ex:C2) (ch:List B5) (sy:C1) (qu:C3),
    X4 ⟨s.Ap,re,co,su,sm,sp,po,⟨hn,hs⟩,ex,⟨ch⟩,sy,qu⟩-> ∃r,M2 s d f re co su sm sp po hn hs ex ch sy qu=some r/\X4 r.1:=by
   intro f re co su sm sp po hn hs ex ch sy qu h;have fin2: ∀f:Int,∃r,A3e s re co su sm sp po hn hs ex ch sy qu f=some r/\X4 r.1:=fun f=>by
    unfold A3e;cases (f !=0) with
    |true=>exact ⟨_,rfl,B60⟩
    |false=>exact ⟨_,rfl,h⟩
   unfold M2;cases (((f==(0:Int))&&(s.Ap.Bj !=(9:Int)))&&(decide ((d.length:Int)>(0:Int)))) with
   |true=>exact fin2 8
   |false=>exact fin2 f
  obtain ⟨⟨hf,hq⟩,_⟩:=C1A hv w;unfold B6l at hf;cases c1:(s.Ap.Bj==(1:Int)) with
  |true=>
   obtain ⟨r,e1,e3⟩:=D3Z s.Ar v (G8 h1);simp only [D8e,e1,D8a];exact fin _ _ _ _ _ _ _ _ _ _ _ _ _ ⟨Nat.le_trans e3 (by decide),h2,h3,h4,h5,h6,h7,h8,h9,h10,h11⟩
  |false=>
  cases c2:(s.Ap.Bj==(2:Int)) with
  |true=>
   simp only [D8e,D8d];have hval:(decide (v< -4096)||decide (v>4096))= !M6 v:=by
    have:=D1N v;cases hr:M6 v with
    |true=>have:=this.1 hr;rw [D8h (by omega),D8h (by omega)];rfl
    |false=>
     have hn: ¬(-4096<=v/\v<=4096):=fun h=>by rw [this.2 h] at hr;cases hr
     rw [D8n,D8l,D8c,D8c];omega
   rw [hval];cases M6 v with
   |false=>exact ⟨_,rfl,B60⟩
   |true=>
    obtain ⟨r,e1,e3⟩:=C99 s.Az (by omega)
    have z5:r.1.Ad.length<=1048576:=by omega
    simp only [D8m,D8d,e1,D8a];exact fin _ _ _ _ _ _ _ _ _ _ _ _ _ ⟨h1,z5,h3,h4,h5,h6,h7,h8,h9,h10,h11⟩
  |false=>
  cases c3:(s.Ap.Bj==(3:Int)) with
  |true=>
   obtain ⟨r,e1,e3⟩:=D30 s.Sum v (by omega)
   have z5:r.1.Ad.length<=1048576:=by omega
   simp only [D8e,D8d,e1,D8a];exact fin _ _ _ _ _ _ _ _ _ _ _ _ _ ⟨h1,h2,z5,h4,h5,h6,h7,h8,h9,h10,h11⟩
  |false=>
  cases c4:(s.Ap.Bj==(4:Int)) with
  |true=>
   obtain ⟨r,e1,e3⟩:=C8M s.Au v (by omega)
   have z5:r.1.Bg.length<=1048576:=by omega
   simp only [D8e,D8d,e1,D8a];exact fin _ _ _ _ _ _ _ _ _ _ _ _ _ ⟨h1,h2,h3,z5,h5,h6,h7,h8,h9,h10,h11⟩
  |false=>
  cases c5:(s.Ap.Bj==(5:Int)) with
  |true=>
   obtain ⟨r,e1,e3⟩:=C8N s.Av v (by omega)
   have z5:r.1.Bg.length<=1048576:=by omega
   simp only [D8e,D8d,e1,D8a];exact fin _ _ _ _ _ _ _ _ _ _ _ _ _ ⟨h1,h2,h3,h4,z5,h6,h7,h8,h9,h10,h11⟩
  |false=>
  cases c6:(s.Ap.Bj==(6:Int)) with
  |true=>
   obtain ⟨r,e1,e3,e4⟩:=D12 s.Bn v h6.2 (by omega)
   have z5:r.1.Ag.length<=1048576:=by omega
   simp only [D8e,D8d,e1,D8a];exact fin _ _ _ _ _ _ _ _ _ _ _ _ _ ⟨h1,h2,h3,h4,h5,⟨z5,e4⟩,h7,h8,h9,h10,h11⟩
  |false=>
  cases c7:(s.Ap.Bj==(7:Int)) with
  |true=>
   obtain ⟨r,e1,e3⟩:=D0a s.Bb v (by omega)
   have z5:r.1.Bo.length<=1048576:=by omega
   simp only [D8e,D8d,e1,D8a];exact fin _ _ _ _ _ _ _ _ _ _ _ _ _ ⟨h1,h2,h3,h4,h5,h6,z5,h8,h9,h10,h11⟩
  |false=>
  cases c8:(s.Ap.Bj==(8:Int)) with
  |true=>
   obtain ⟨r,e1,e3⟩:=C62 s.Af v (by omega)
   have z5:r.1.Bc.length<=1048576:=by omega
   simp only [D8e,D8d,e1,D8a];exact fin _ _ _ _ _ _ _ _ _ _ _ _ _ ⟨h1,h2,h3,h4,h5,h6,h7,z5,h9,h10,h11⟩
  |false=>
  cases c9:(s.Ap.Bj==(9:Int)) with
  |true=>
   obtain ⟨r,e1,e3,e4⟩:=C61 s.As v d (G8 h9.1) (fun c hc=>G8 (h9.2 c hc)) hd;have z5:r.1.Ao.length<=1048576:=by omega
   simp only [D8e,D8d,e1,D8a];exact fin _ _ _ _ _ _ _ _ _ _ _ _ _ ⟨h1,h2,h3,h4,h5,h6,h7,h8,⟨z5,fun c hc=>Nat.le_trans (e4 c hc) (by decide)⟩,h10,h11⟩
  |false=>
  cases c10:(s.Ap.Bj==(10:Int)) with
  |true=>
   obtain ⟨r,e1,e3⟩:=C63 s.Aj v (by omega)
   have z5:r.1.Aw.length<=1048576:=by omega
   simp only [D8e,D8d,e1,D8a];exact fin _ _ _ _ _ _ _ _ _ _ _ _ _ ⟨h1,h2,h3,h4,h5,h6,h7,h8,h9,z5,h11⟩
  |false=>
  cases c11:(s.Ap.Bj==(11:Int)) with
  |true=>
   obtain ⟨r,e1,e3,e4⟩:=C4Z s.Ab v h11 (by omega) (by omega)
   have z5:r.1.Al.length<=1048576:=by omega
   simp only [D8e,D8d,e1,D8a];exact fin _ _ _ _ _ _ _ _ _ _ _ _ _ ⟨h1,h2,h3,h4,h5,h6,h7,h8,h9,h10,z5,fun b hb=>by have:b.Bi.Ae.length<=O2 r.1.Al:=D2m hb;omega⟩
  |false=>
   simp only [D8d];exact fin _ _ _ _ _ _ _ _ _ _ _ _ _ ⟨h1,h2,h3,h4,h5,h6,h7,h8,h9,h10,h11⟩
 ·rw [J7 hv];exact ⟨_,rfl,B60⟩
end Go.Win
set_option maxHeartbeats 4000000
namespace Go.Win
open Go.Vc Go.Dec
def B0d (l:List A8):List Int:=l.map fun p=>p.V
theorem B1m (l:List A8):(B0d l).length=l.length:=D8X _
def cLe (l:List Int) (v:Int):Nat:=l.countP fun x=>decide (x<=v)
theorem D5y (l:List Int) (v:Int):cLe l v<=l.length:=List.countP_le_length
theorem C4c (l:List A8) {i:Nat} (hi:i<l.length):B0d (l.take (i+1))=B0d (l.take i)++ [l[i].V]:=by
 unfold B0d;rw [List.take_succ_eq_append_getElem hi,D89]
 rfl
theorem C86 (l:List A8) (v:Int) (hl:l.length<=100000):B2K l v=some (cLe (B0d l) v:Int):=by
 have hm:l.length<=maxLen:=by rw [I2];omega
 unfold B2K B7i;obtain ⟨r,hr,hQ⟩:=W6 (f:=fun s:Int×Int=>B0B l v s.1 s.2)
  (fun s=> ∃i:Nat,i<=l.length/\s=((cLe (B0d (l.take i)) v:Int),(i:Int)))
  (fun s=>l.length-s.2.toNat) (fun r=>r=(cLe (B0d l) v:Int)) (0,0) ⟨0,Nat.zero_le _,rfl⟩ (by
   rintro _ ⟨i,hi,rfl⟩;simp only;unfold B0B
   by_cases hlt:i<l.length
   ·left;have hc:=D5y (B0d (l.take i)) v;rw [B1m,D8C] at hc;simp only [Int.ofNat_lt,hlt,decide_true,D8e,S0,M0 hlt,D8a,T0 hlt hm];have hs:cLe (B0d (l.take (i+1))) v=cLe (B0d (l.take i)) v+(if l[i].V<=v then 1 else 0):=by
     rw [C4c l hlt];unfold cLe;rw [List.countP_append,List.countP_singleton];simp
    by_cases hv:l[i].V<=v
    ·rw [D8f hv,D8e,C4 (by omega) (by omega)]
     rw [if_pos hv] at hs;exact ⟨_,rfl,⟨i+1,hlt,by rw [hs];simp⟩,by show l.length-((i:Int)+1).toNat<l.length-(i:Int).toNat;omega⟩
    ·rw [D8h hv,D8d];rw [if_neg hv] at hs;exact ⟨_,rfl,⟨i+1,hlt,by rw [hs];simp⟩,by show l.length-((i:Int)+1).toNat<l.length-(i:Int).toNat;omega⟩
   ·right;have:i=l.length:=by omega
    subst this;rw [List.take_length,D8h (by omega),D8d]
    exact ⟨_,rfl,rfl⟩)
 rw [hr,hQ]
theorem B7D (l:List A8) (t:Int) (hl:l.length<=100000) (ht1:0<=t) (ht2:t<=l.length) (h0:0<l.length) {T:Nat} (hT:(T:Int)=if t<1 then 1 else t):
  A0L l t=some ((A14 (B0d l)).getD (T-1) 0,true):=by
 have hm:l.length<=maxLen:=by rw [I2];omega
 unfold A0L B2w;obtain ⟨r,hr,hQ⟩:=W6 (f:=fun s:List Int×Int=>A3S l t s.1 s.2)
  (fun s=> ∃i:Nat,i<=l.length/\s=(B0d (l.take i),(i:Int)))
  (fun s=>l.length-s.2.toNat) (fun r=>r=((A14 (B0d l)).getD (T-1) 0,true)) ([],0) ⟨0,Nat.zero_le _,rfl⟩ (by
   rintro _ ⟨i,hi,rfl⟩;simp only;unfold A3S
   by_cases hlt:i<l.length
   ·left;simp only [Int.ofNat_lt,hlt,decide_true,D8e,S0,M0 hlt,D8a,T0 hlt hm];rw [K7 (by rw [D8c,B1m,D8C,D8P];omega)]
    refine ⟨_,rfl,⟨i+1,hlt, ?_⟩,by show l.length-((i:Int)+1).toNat<l.length-(i:Int).toNat;omega⟩
    rw [C4c l hlt]
    rfl
   ·right;have:i=l.length:=by omega
    subst this;rw [List.take_length,D8h (by omega),D8d,K7 (by rw [D8c,B1m];omega)]
    have e1:A1 t=t:=by rw [C4]<;>omega
    have e2:A0t t 1=(T:Int):=by
     show (if (1:Int)>t then 1 else t)=_
     rw [hT]
    have hT1:1<=T/\T<=l.length:=by split at hT<;>omega
    have e3:A1 ((T:Int)-1)=((T-1:Nat):Int):=by rw [C4]<;>omega
    have hlt2:T-1<(A14 (B0d l)).length:=by rw [C6q,B1m];omega
    rw [e1,e2,e3,S0,M0 hlt2];refine ⟨_,rfl, ?_⟩;simp [D86,M0 hlt2])
 rw [hr,hQ]
theorem B9v (l:List A8) (p q:Int) (hp:-9223372036854775808<=p/\p<=9223372036854775807) (hq:-9223372036854775808<=q/\q<=9223372036854775807) (hl:l.length<=100000):
  ∃x,A4J l p q=some x:=by
 unfold A4J;cases hc:(((((l.length:Int)==0)||decide (q<1))||decide (p<0))||decide (p>q)) with
 |true=>exact ⟨_,rfl⟩
 |false=>
  simp only [D8K,D8r,D80] at hc;obtain ⟨lo,rem,d1,_,_,l0,l1,l2,r0,r1⟩:=C39 (p:=p) (q:=q) (n:=(l.length:Int)) (by omega) (by omega) (by omega) (by omega) (by omega) (by omega)
  simp only [D8d,d1,D8a];have key: ∀t:Int,0<=t->t<=l.length-> ∃x,A0L l t=some x:=fun t h0 h1=>by
   obtain ⟨T,hT⟩:=Int.eq_ofNat_of_zero_le (show 0<=(if t<1 then 1 else t) by split<;>omega)
   exact ⟨_,B7D l t hl h0 h1 (by omega) hT.symm⟩
  cases h:(!((J0 rem).Hi==0&&((J0 rem).Lo==0&&true))) with
  |false=>exact key lo l0 l1
  |true=>
   have e3:A5 (lo+1)=lo+1:=by rw [K2];omega
   have hr:rem≠0:=fun h0=>by rw [h0] at h;cases h
   rw [D8e,e3];exact key _ (by omega) (l2 hr)
end Go.Win
set_option maxHeartbeats 4000000
namespace Go.Win
open Go.Vc Go.Dec
theorem C12 (a b c d:Int) (ha:0<=a/\a<18446744073709551616) (hb:0<=b/\b<18446744073709551616) (hc:0<=c/\c<18446744073709551616) (hd:0<=d/\d<18446744073709551616)
  (i:Nat) (h1:1<=i) (h4:i<=4):A5Q 0 0 (i:Int) a b c d=some ⟨a,b,c,d⟩:=by
 unfold A5Q;have step: ∀j:Nat,j<=3->(fun s:Int×Int×Int×Int×Int×Int×Int=>A0y s.1 s.2.1 s.2.2.1 s.2.2.2.1 s.2.2.2.2.1 s.2.2.2.2.2.1 s.2.2.2.2.2.2) (0,0,(j:Int),a,b,c,d)=some (.inl (0,0,((j+1:Nat):Int),a,b,c,d)):=by
  intro j hj;have z: ∀x:Int,0<=x/\x<18446744073709551616->N9 x 0 0=some (x,0):=fun x hx=>by
   rw [C4H _ _ _ hx.1 (by decide) (by decide) (by decide)]
   congr 2<;>omega
  show A0y 0 0 (j:Int) a b c d=_;unfold A0y;have hw:A1 ((j:Int)+1)=((j+1:Nat):Int):=by rw [C4]<;>omega
  rw [D8f (by omega:(j:Int)<4),D8e,hw]
  match j,hj with
  |0,_=>simp [B9,z a ha]
  |1,_=>simp [B9,z b hb]
  |2,_=>simp [B9,z c hc]
  |3,_=>simp [B9,z d hd]
 have fin:loop (fun s:Int×Int×Int×Int×Int×Int×Int=>A0y s.1 s.2.1 s.2.2.1 s.2.2.2.1 s.2.2.2.2.1 s.2.2.2.2.2.1 s.2.2.2.2.2.2) (0,0,((4:Nat):Int),a,b,c,d)=some ⟨a,b,c,d⟩:=M5 rfl
 match i,h1,h4 with
 |4,_,_=>exact fin
 |3,_,_=>rw [M1 (step 3 (by omega))];exact fin
 |2,_,_=>rw [M1 (step 2 (by omega)),M1 (step 3 (by omega))];exact fin
 |1,_,_=>rw [M1 (step 1 (by omega)),M1 (step 2 (by omega)),M1 (step 3 (by omega))];exact fin
def q1 (a:Int):H5:=⟨a,0,0,0⟩
theorem C6w {a x y:Int} (ha:0<=a) (hx:0<=x/\x<18446744073709551616) (hy:0<=y/\y<18446744073709551616) (h:a+x*y<18446744073709551616):
  J2 (q1 a) x y 0=some (q1 (a+x*y)):=by
 have hp:=(A9e hx hy).1;unfold J2 q1;rw [C4M hx hy];have e1:x*y/18446744073709551616=0:=by omega
 have e2:x*y%18446744073709551616=x*y:=by omega
 have e3:A1 ((0:Int)+1)=((1:Nat):Int):=by rw [C4]<;>omega
 simp only [e1,e2,e3];have i0:B9 [a,0,0,0] (0:Int)=some a:=rfl;rw [i0];simp only [D8a];rw [C4H _ _ _ ha hp (by decide) (by decide)]
 simp only [D8a];have e4:(a+x*y+0)/18446744073709551616=0:=by omega
 have e5:(a+x*y+0)%18446744073709551616=a+x*y:=by omega
 rw [e4,e5];exact C12 _ _ _ _ (by omega) (by omega) (by omega) (by omega) 1 (by omega) (by omega)
theorem B3m {a x y:Int} (ha:0<=a/\a<18446744073709551616) (hx:0<=x/\x<18446744073709551616) (hy:0<=y/\y<18446744073709551616) (h:x*y=0) (s:Nat) (h1:1<=s) (h2:s<=2):
  J2 (q1 a) x y (s:Int)=some (q1 a):=by
 unfold J2 q1;rw [C4M hx hy,h];have e3:A1 ((s:Int)+1)=((s+1:Nat):Int):=by rw [C4]<;>omega
 have i0:B9 [a,0,0,0] (s:Int)=some 0:=by
  match s,h1,h2 with
  |1,_,_=>rfl
  |2,_,_=>rfl
 simp only [i0,D8a];have z:N9 0 (0%18446744073709551616) 0=some (0,0):=rfl;rw [z];simp only [D8a,e3];have r:=C12 a 0 0 0 (by omega) (by omega) (by omega) (by omega) (s+1) (by omega) (by omega)
 match s,h1,h2 with
 |1,_,_=>exact r
 |2,_,_=>exact r
theorem D5V {a b:Int} (ha:a<18446744073709551616) (hb:0<=b) (h:b<=a):A77 (q1 a) (q1 b)=some (q1 (a-b)):=by
 have s0:P9 a b 0=some (a-b,0):=by
  rw [B9o _ _ _ (by omega) hb (by decide) (by decide) (by omega),if_neg (by omega)]
  congr 2;omega
 have z:P9 0 0 0=some (0,0):=rfl;unfold A77 B5V;rw [M1 (s' :=(0,1,a-b,0,0,0)) (by
  show V9 _ _ _ _ _ _ _=_;simp [V9,q1,B9,s0];rfl)]
 rw [M1 (s' :=(0,2,a-b,0,0,0)) (by
  show V9 _ _ _ _ _ _ _=_;simp [V9,q1,B9,z];rfl)]
 rw [M1 (s' :=(0,3,a-b,0,0,0)) (by
  show V9 _ _ _ _ _ _ _=_;simp [V9,q1,B9,z];rfl)]
 rw [M1 (s' :=(0,4,a-b,0,0,0)) (by
  show V9 _ _ _ _ _ _ _=_;simp [V9,q1,B9,z];rfl)]
 rw [M5 (r:=q1 (a-b)) rfl]
theorem by1 {d n:Int} (hd:0<=d/\d<18446744073709551616) (hn:0<n):B3H (q1 d) n=some (q1 (d/n),d%n):=by
 have z:A11 0 0 n=some (0,0):=by
  rw [B9P (by decide) (by decide) hn]
  simp
 have zd:=B9P hd.1 hd.2 hn;unfold B3H B9R;rw [M1 (s' :=(0,2,d,0,0,0)) (by
  show A0x _ _ _ _ _ _ _=_;simp [A0x,q1,B9,z];rfl)]
 rw [M1 (s' :=(0,1,d,0,0,0)) (by
  show A0x _ _ _ _ _ _ _=_;simp [A0x,q1,B9,z];rfl)]
 rw [M1 (s' :=(0,0,d,0,0,0)) (by
  show A0x _ _ _ _ _ _ _=_;simp [A0x,q1,B9,z];rfl)]
 rw [M1 (s' :=(d%n,-1,d/n,0,0,0)) (by
  show A0x _ _ _ _ _ _ _=_;simp [A0x,q1,B9,zd];rfl)]
 rw [M5 (r:=(q1 (d/n),d%n)) rfl]
end Go.Win
set_option maxHeartbeats 4000000
namespace Go.Win
open Go.Vc Go.Dec
def A1p:List A8->Int
 | []=>0
 |p::l=>p.V+A1p l
theorem D3i (l:List A8):N5 l-N4 l=A1p l:=by
 induction l with
 |nil=>rfl
 |cons p l ih=>simp only [N5,N4,A1p];split<;>omega
theorem C7Q (a b:List A8):A1p (a++b)=A1p a+A1p b:=by
 induction a with
 |nil=>simp [A1p]
 |cons p a ih=>simp only [List.cons_append,A1p,ih];omega
def B10 (v:Int):List A8->Int
 | []=>0
 |p::l=>(v-p.V)*(v-p.V)+B10 v l
theorem D4d (v:Int) (l:List A8):B10 v l=l.length*(v*v)-2*(v*A1p l)+Q8 l:=by
 induction l with
 |nil=>simp [B10,A1p,Q8]
 |cons p l ih=>
  simp only [B10,A1p,Q8,D8t,ih]
  grind
theorem D4e (v:Int) (l:List A8):0<=B10 v l:=by
 induction l with
 |nil=>simp [B10]
 |cons p l ih=>have:=C10 (v-p.V);simp only [B10];omega
def pD (l:List A8):Int:=l.length*Q8 l-A1p l*A1p l
theorem D4E (l:List A8) (p:A8):pD (l++ [p])=pD l+B10 p.V l:=by
 unfold pD;rw [D4d,B6R,C7Q,D8g];simp only [Q8,A1p,D8t,D8G,Int.add_zero]
 grind
theorem D4F (l:List A8) {i:Nat} (hi:i<l.length):pD (l.take (i+1))=pD (l.take i)+B10 l[i].V (l.take i):=by
 rw [List.take_succ_eq_append_getElem hi,D4E]
def A92 (l:List A8):Prop:=l.length<=65536/\ ∀p∈l,-4096<=p.V/\p.V<=4096
theorem B5q {l:List A8} (h:A92 l) (i:Nat):A92 (l.take i):=
 ⟨by have:=h.1;grind,fun p hp=>h.2 p (List.mem_of_mem_take hp)⟩
theorem C9X {x m:Int} (h1:-m<=x) (h2:x<=m):x*x<=m*m:=by
 have hm:0<=m:=by omega
 have a:0<=(m-x)*(m+x):=Int.mul_nonneg (by omega) (by omega)
 grind
theorem B8N {l:List A8} (h:∀p∈l,-4096<=p.V/\p.V<=4096):Q8 l<=l.length*16777216:=by
 induction l with
 |nil=>simp [Q8]
 |cons p l ih=>
  have h1:=h p (by simp)
  have h2:=ih (fun q hq=>h q (by simp [hq]))
  have h3:=C9X h1.1 h1.2;simp only [Q8,D8t];omega
theorem C80 {v:Int} (hv:-4096<=v/\v<=4096) {l:List A8} (h:∀p∈l,-4096<=p.V/\p.V<=4096):B10 v l<=l.length*67108864:=by
 induction l with
 |nil=>simp [B10]
 |cons p l ih=>
  have h1:=h p (by simp)
  have h2:=ih (fun q hq=>h q (by simp [hq]))
  have h3:=C9X (x:=v-p.V) (m:=8192) (by omega) (by omega)
  simp only [B10,D8t];omega
theorem C11 {l:List A8} (h:∀p∈l,-4096<=p.V/\p.V<=4096): -(l.length*4096)<=A1p l/\A1p l<=l.length*4096:=by
 induction l with
 |nil=>simp [A1p]
 |cons p l ih=>
  have h1:=h p (by simp)
  have h2:=ih (fun q hq=>h q (by simp [hq]))
  simp only [A1p,D8t];omega
theorem D2Y (l:List A8) (h:A92 l): ∀i:Nat,i<=l.length->0<=pD (l.take i)/\pD (l.take i)<=i*4398046511104:=by
 intro i
 induction i with
 |zero=>intro _;simp [pD,Q8,A1p]
 |succ i ih=>
  intro hi;have h1:=ih (by omega)
  have h2:=D4e l[i].V (l.take i);have h3:=C80 (h.2 l[i] (D8Z (by omega))) (B5q h i).2
  have h4:=h.1;rw [D4F l (by omega)]
  grind
theorem D6X {l:List A8} (h:A92 l):0<=pD l/\pD l<=288230376151711744:=by
 have:=D2Y l h l.length (D8S _);rw [List.take_length] at this;have:=h.1;omega
theorem D2O {l:List A8} (h:A92 l):0<=(l.length:Int)*Q8 l/\(l.length:Int)*Q8 l<=72057594037927936:=by
 have h1:=B8M l;have h2:=B8N h.2;have h3:=h.1;have h4:=Int.mul_le_mul (show (l.length:Int)<=65536 by omega) (show Q8 l<=1099511627776 by omega) h1 (by decide)
 exact ⟨Int.mul_nonneg (by omega) h1,by omega⟩
def B3t (d n:Nat):A4:=⟨((d/Nat.gcd d n:Nat):Int),((n/Nat.gcd d n:Nat):Int)⟩
theorem D1K {l:List A8} (h:A92 l): ∃b,A5I l=some (b,⟨0,if A1p l<0 then-A1p l else A1p l⟩):=by
 have hr:B6O l:=fun p hp=>by have:=h.2 p hp;omega
 have h1:=h.1;have h2:=C11 h.2;rw [C6C l hr (by omega)]
 have h3:=D3i l
 by_cases hc:N4 l<=N5 l
 ·refine ⟨false, ?_⟩;rw [if_pos hc,if_neg (by omega),h3]
  unfold J0
  congr 3<;>omega
 ·refine ⟨true, ?_⟩;rw [if_neg hc,if_pos (by omega),<-h3]
  unfold J0
  congr 3<;>omega
theorem D1E {l:List A8} (h:A92 l) (h0:l≠ []):A9z l (Q8 l) 0 0 0 0 0 0 0 0=some (B3t (pD l).toNat l.length,true):=by
 have hlen:0<l.length:=List.length_pos_iff.2 h0;have hl:=h.1;have hq0:=B8M l;have hq1:=B8N h.2;have hnq:=D2O h;have hpd:=D6X h;have hs:=C11 h.2;obtain ⟨b,htot⟩:=D1K h;have wn:A5 (l.length:Int)=(l.length:Int):=by rw [K2];omega
 have t0:J2 ⟨0,0,0,0⟩ (Q8 l) (l.length:Int) 0=some ⟨(l.length:Int)*Q8 l,0,0,0⟩:=by
  have:=C6w (a:=0) (x:=Q8 l) (y:=(l.length:Int)) (by decide) (by omega) (by omega) (by grind)
  rw [Int.zero_add,Int.mul_comm] at this;exact this
 have t1:=B3m (a:=(l.length:Int)*Q8 l) (x:=0) (y:=(l.length:Int)) (by omega) (by omega) (by omega) (by simp) 1 (by omega) (by omega)
 have t2:=B3m (a:=(l.length:Int)*Q8 l) (x:=0) (y:=(l.length:Int)) (by omega) (by omega) (by omega) (by simp) 2 (by omega) (by omega)
 unfold A9z;rw [M1 (s' :=(1,(l.length:Int)*Q8 l,0,0,0)) (by
  show U1 _ _ _ _ _ _ _ _ _ _=_;unfold U1;rw [D8f (by decide:(0:Int)<3),D8e,wn]
  have i0:B9 [Q8 l,0,0,0] (0:Int)=some (Q8 l):=rfl;rw [i0];simp only [D8a];rw [t0]
  rfl)]
 rw [M1 (s' :=(2,(l.length:Int)*Q8 l,0,0,0)) (by
  show U1 _ _ _ _ _ _ _ _ _ _=_;unfold U1;rw [D8f (by decide:(1:Int)<3),D8e,wn]
  have i0:B9 [Q8 l,0,0,0] (1:Int)=some 0:=rfl;rw [i0];simp only [D8a];have t1' :J2 ⟨(l.length:Int)*Q8 l,0,0,0⟩ 0 (l.length:Int) 1=_:=t1;rw [t1']
  rfl)]
 rw [M1 (s' :=(3,(l.length:Int)*Q8 l,0,0,0)) (by
  show U1 _ _ _ _ _ _ _ _ _ _=_;unfold U1;rw [D8f (by decide:(2:Int)<3),D8e,wn]
  have i0:B9 [Q8 l,0,0,0] (2:Int)=some 0:=rfl;rw [i0];simp only [D8a];have t2' :J2 ⟨(l.length:Int)*Q8 l,0,0,0⟩ 0 (l.length:Int) 2=_:=t2;rw [t2']
  rfl)]
 refine M5 ?_;show U1 _ _ _ _ _ _ _ _ _ _=_;unfold U1;rw [D8h (by decide: ¬(3:Int)<3),D8d,htot,wn]
 simp only [D8a]
 generalize hT:(if A1p l<0 then-A1p l else A1p l)=T
 have hT0:0<=T/\T<=268435456:=by rw [<-hT];split<;>omega
 have hTT:T*T=A1p l*A1p l:=by
  grind
 have hTn:T*T=(l.length:Int)*Q8 l-pD l:=by rw [hTT];unfold pD;omega
 have s0:J2 ⟨0,0,0,0⟩ T T 0=some (q1 (T*T)):=by
  have:=C6w (a:=0) (x:=T) (y:=T) (by decide) (by omega) (by omega) (by omega)
  rw [Int.zero_add] at this;exact this
 have hTT0:0<=T*T:=Int.mul_nonneg hT0.1 hT0.1;have s1:J2 (q1 (T*T)) T 0 1=some (q1 (T*T)):=B3m (by omega) (by omega) (by omega) (by simp) 1 (by omega) (by omega)
 have s2:J2 (q1 (T*T)) 0 0 2=some (q1 (T*T)):=B3m (by omega) (by omega) (by omega) (by simp) 2 (by omega) (by omega)
 rw [s0];simp only [D8a];rw [s1];simp only [D8a];rw [s1];simp only [D8a];rw [s2];simp only [D8a];have m1:A77 ⟨(l.length:Int)*Q8 l,0,0,0⟩ (q1 (T*T))=some (q1 (pD l)):=by
  have:=D5V (a:=(l.length:Int)*Q8 l) (b:=T*T) (by omega) hTT0 (by omega)
  rw [show (l.length:Int)*Q8 l-T*T=pD l by omega] at this
  exact this
 rw [m1];simp only [D8a];rw [by1 (by omega) (by omega)]
 simp only [D8a];obtain ⟨d,hd⟩:=Int.eq_ofNat_of_zero_le hpd.1;rw [hd] at hpd⊢;rw [D8Q]
 generalize hn:l.length=n at*
 have hmod:(d:Int)%(n:Int)=((d%n:Nat):Int):=by rw [Int.natCast_emod]
 have hmlt:d%n<n:=Nat.mod_lt _ (by omega)
 have w1:A1 (n:Int)=(n:Int):=by rw [C4]<;>omega
 have w2:A1 ((d:Int)%(n:Int))=((d%n:Nat):Int):=by rw [hmod,C4]<;>omega
 rw [w1,w2,D4B];have hg:Nat.gcd n (d%n)=Nat.gcd d n:=by rw [Nat.gcd_comm,<-Nat.gcd_rec,Nat.gcd_comm]
 rw [hg];simp only [D8a];have gpos:0<Nat.gcd d n:=Nat.gcd_pos_of_pos_right _ (by omega)
 have gle:Nat.gcd d n<=n:=Nat.gcd_le_right _ (by omega)
 have w3:A5 ((Nat.gcd d n:Nat):Int)=((Nat.gcd d n:Nat):Int):=by rw [K2];omega
 rw [w3,by1 (by omega) (by omega)]
 simp only [D8a];have f1:(d:Int)/((Nat.gcd d n:Nat):Int)=((d/Nat.gcd d n:Nat):Int):=by rw [Int.natCast_ediv]
 have f2:Int.tdiv (n:Int) ((Nat.gcd d n:Nat):Int)=((n/Nat.gcd d n:Nat):Int):=by rw [Int.tdiv_eq_ediv_of_nonneg (by omega),Int.natCast_ediv]
 have q1' :d/Nat.gcd d n<=d:=Nat.div_le_self _ _;have q2' :n/Nat.gcd d n<=n:=Nat.div_le_self _ _;rw [f1,f2];unfold q1;simp only;have z:(N8 .u64 (N8 .u64 0 0) 0)=0:=by decide
 rw [z];have c1:(((0:Int) !=0)||decide (((d/Nat.gcd d n:Nat):Int)>=9223372036854775808))=false:=by
  grind
 rw [c1,D8d,K7 (by grind)]
 unfold B3t
 generalize d/Nat.gcd d n=x at*
 generalize n/Nat.gcd d n=y at*
 rw [show A5 (y:Int)=(y:Int) by rw [K2];omega,C4 (by omega) (by omega),C4 (by omega) (by omega)]
 rfl
theorem C5j {l:List A8} (h:A92 l):A9y l=some (if l= [] then ⟨0,1⟩ else B3t (pD l).toNat l.length,true):=by
 have hl:=h.1;unfold A9y
 by_cases h0:l= []
 ·subst h0;rfl
 ·have hlen:0<l.length:=List.length_pos_iff.2 h0;have c:(A5 (l.length:Int)==0)=false:=by rw [D80,K2];omega
  rw [c,D8d,if_neg h0];have hm:l.length<=maxLen:=by rw [I2];omega
  unfold B4I;obtain ⟨r,hr,hQ⟩:=W6 (f:=fun s:Int×Int×Int×Int×Int=>A8S l s.1 s.2.1 s.2.2.1 s.2.2.2.1 s.2.2.2.2)
   (fun s=> ∃i:Nat,i<=l.length/\s=((i:Int),Q8 (l.take i),0,0,0))
   (fun s=>l.length-s.1.toNat) (fun r=>r=(B3t (pD l).toNat l.length,true)) (0,0,0,0,0) ⟨0,Nat.zero_le _,rfl⟩ (by
    rintro _ ⟨i,hi,rfl⟩;simp only;unfold A8S
    by_cases hlt:i<l.length
    ·left;have hv:=h.2 l[i] (D8Z hlt);have hq0:=B8M (l.take i);have hq1:=B8N (B5q h i).2;have hq2:=(B5q h i).1;have hsq:=C9X hv.1 hv.2;have hss:=C10 l[i].V;simp only [Int.ofNat_lt,hlt,decide_true,D8e,S0,M0 hlt,D8a,T0 hlt hm,B6P (show-9223372036854775808<=l[i].V by omega) (by omega)]
     have e1:=C4Y l[i].V;have t:=C6w (a:=Q8 (l.take i)) (x:=if l[i].V<0 then-l[i].V else l[i].V) (y:=if l[i].V<0 then-l[i].V else l[i].V) hq0 (by split<;>omega) (by split<;>omega) (by omega)
     rw [e1] at t;have t' :J2 ⟨Q8 (l.take i),0,0,0⟩ (if l[i].V<0 then-l[i].V else l[i].V) (if l[i].V<0 then-l[i].V else l[i].V) 0=_:=t
     rw [t'];refine ⟨_,rfl,⟨i+1,hlt, ?_⟩,by omega⟩
     rw [C6s l hlt]
     rfl
    ·right;have hn: ¬((i:Int)<(l.length:Int)):=by omega
     have hi2:i=l.length:=by omega
     subst hi2;rw [List.take_length];simp only [hn,decide_false,D8d];rw [D1E h h0];simp)
  rw [hr,hQ]
end Go.Win
set_option maxHeartbeats 4000000
namespace Go.Win
open Go.Vc Go.Dec
end Go.Win
set_option maxHeartbeats 4000000
namespace Go.Win
open Go.Vc Go.Dec
theorem C0T {a b:A2} (ha:I0 a) (hb:I0 b):A6Z a b=some (J0 (Nat.gcd (wv a).toNat (wv b).toNat:Nat)):=by
 unfold A6Z C0i;obtain ⟨r,hr,hQ⟩:=W6 (f:=fun s:Int×Int×Int×Int=>B4e s.1 s.2.1 s.2.2.1 s.2.2.2)
  (fun s=>I0 ⟨s.1,s.2.1⟩/\I0 ⟨s.2.2.1,s.2.2.2⟩/\Nat.gcd (wv ⟨s.1,s.2.1⟩).toNat (wv ⟨s.2.2.1,s.2.2.2⟩).toNat=Nat.gcd (wv a).toNat (wv b).toNat)
  (fun s=>(wv ⟨s.2.2.1,s.2.2.2⟩).toNat) (fun r=>r=J0 (Nat.gcd (wv a).toNat (wv b).toNat:Nat)) (a.Hi,a.Lo,b.Hi,b.Lo) ⟨ha,hb,rfl⟩ (by
   rintro ⟨x1,x2,y1,y2⟩ ⟨hx,hy,hg⟩;simp only at hx hy hg⊢;have rx:=A84 hx;have ry:=A84 hy;unfold B4e A0p;simp only
   by_cases h0:wv ⟨y1,y2⟩=0
   ·right;have hz:y1=0/\y2=0:=by unfold wv at h0;unfold I0 at hy;simp only at h0 hy;omega
    obtain ⟨rfl,rfl⟩:=hz;refine ⟨_,rfl, ?_⟩;rw [<-hg,h0];simp only [Int.toNat_zero,Nat.gcd_zero_right];rw [Int.toNat_of_nonneg rx.1,D5Y hx]
   ·left;have c:(!(y1==0&&y2==0))=true:=by
     unfold wv at h0;simp only [D8w,D81,D80];simp only at h0;omega
    rw [c,D8e,B4h hx hy (by omega)]
    have hm0:0<=wv ⟨x1,x2⟩%wv ⟨y1,y2⟩:=Int.emod_nonneg _ h0;have hm1:wv ⟨x1,x2⟩%wv ⟨y1,y2⟩<wv ⟨y1,y2⟩:=Int.emod_lt_of_pos _ (by omega)
    refine ⟨_,rfl,⟨hy,A0C hm0 (by omega), ?_⟩, ?_⟩
    ·show Nat.gcd _ (wv (J0 _)).toNat=_;rw [A0q,<-hg,Int.toNat_emod rx.1 ry.1,Nat.gcd_comm,<-Nat.gcd_rec,Nat.gcd_comm]
    ·show (wv (J0 _)).toNat<_;rw [A0q];omega)
 rw [hr,hQ]
theorem C33 {n:Int} (h1:-9223372036854775808<=n) (h2:n<=9223372036854775807):A1y n=A9f n/\0<=A9f n/\A9f n<18446744073709551616:=by
 unfold A1y A9f
 by_cases h:n<0
 ·rw [D8f h];simp only [D8e];have e1:A1 (n+1)=n+1:=by rw [C4]<;>omega
  have e2:IntKind.i64.wrap (0-(n+1))=0-(n+1):=by
   show A1 (0-(n+1))=_;rw [C4]<;>omega
  rw [e1,e2];have e3:A5 n=n+18446744073709551616:=by rw [K2];omega
  have e4:A5 (0-(n+1))=0-(n+1):=by rw [K2];omega
  have e5:IntKind.u64.wrap (0-(n+18446744073709551616))= -n:=by
   show A5 (0-(n+18446744073709551616))=_;rw [K2];omega
  have e6:A5 (0-(n+1)+1)= -n:=by rw [K2];omega
  rw [e3,e4,e5,e6];omega
 ·rw [D8h h];simp only [D8d];exact ⟨trivial,by rw [K2];omega,by rw [K2];omega⟩
theorem D2W {x:D0} (h:okV x=true) (hl:x.Bc.length<=65536):A92 x.Bc:=by
 refine ⟨hl,fun p hp=> ?_⟩;unfold okV at h;simp only [D8i,D8M] at h;have hv:=(h.2.2 p hp).2;unfold M6 at hv;simp only [D8i,D8c] at hv;omega
theorem D52 {x:D0} (h:okV x=true):x.Bc.length<=65536:=by
 unfold okV R7 at h;simp only [D8i,D8c] at h;omega
theorem C6p (n:Int):0<=A1y n/\A1y n<18446744073709551616:=by
 unfold A1y;have h1:=U4 n;have h2:0<=IntKind.u64.wrap (0-A5 n)/\IntKind.u64.wrap (0-A5 n)<18446744073709551616:=U4 (0-A5 n);cases decide (n<0)<;>assumption
instance {r:A4}:TS (R5 r) True (fun _=>True):=⟨fun _=>by
 have a:=B59 (C6p r.Bw).1 (C6p r.Bw).2;have b:=B59 (U4 r.Br).1 (U4 r.Br).2;have g:TS (A6Z (K5 (A1y r.Bw)) (K5 (A5 r.Br))) True (fun _=>True):=⟨fun _=>⟨_,C0T a.1 b.1,trivial⟩⟩;unfold R5 A0u;exact yT⟩
theorem D0Q (l:List A8) (hm:l.length<=65536):T (A76 l) (fun _=>True):=by
 have key: ∀v,TS (B0A l v 0) True (fun _=>True):=fun v=>⟨fun _=>by
  unfold B0A;refine yL (fun s=>0<=s.2/\s.2<=l.length) (fun s=>l.length-s.2.toNat) ⟨Int.le_refl _,by simp⟩ fun s hs=> ?_
  unfold B4H;simp only [T2 s.2 (by omega)]
  exact yT⟩
 unfold A76;exact yT
theorem C5s (l:List A8) (hm:l.length<=65536):T (A4I l) (fun _=>True):=by
 have key: ∀v,TS (A7R l v 0) True (fun _=>True):=fun v=>⟨fun _=>by
  unfold A7R;refine yL (fun s=>0<=s.2/\s.2<=l.length) (fun s=>l.length-s.2.toNat) ⟨Int.le_refl _,by simp⟩ fun s hs=> ?_
  unfold B1y;simp only [T2 s.2 (by omega)]
  exact yT⟩
 unfold A4I;exact yT
theorem D5t (x:D0) (q:L9) (hm:x.Bc.length<=maxLen) (hA:-9223372036854775808<=q.A/\q.A<=9223372036854775807) (hB:-9223372036854775808<=q.B/\q.B<=9223372036854775807):
  T (B2U x q) fun r=>r.1.Ax.length<=2:=by
 unfold B2U;rw [B0c,A7G x hm];cases hok:okV x with
 |false=>exact yT
 |true=>
  have hl:=D52 hok;have hs:=D2W hok hl;have hr:B6O x.Bc:=fun p hp=>by have:=hs.2 p hp;omega
  have i1:TS (A76 x.Bc) True (fun _=>True):=⟨fun _=>D0Q _ hl⟩;have i2:TS (A4I x.Bc) True (fun _=>True):=⟨fun _=>C5s _ hl⟩;have i3:TS (A4J x.Bc q.A q.B) True (fun _=>True):=⟨fun _=>let ⟨y,e⟩:=B9v x.Bc q.A q.B hA hB (by omega);⟨y,e,trivial⟩⟩
  have i4: ∀n,TS (A2b n) True (fun r=>r.1.Ax.length<=2):=fun n=>⟨fun _=>by unfold A2b;exact yT⟩
  simp only [D0y x.Bc hr (by omega),C4k x.Bc hr (by omega),C5j hs,C86 x.Bc q.A (by omega)]
  exact yT
end Go.Win
set_option maxHeartbeats 4000000
namespace Go.Win
open Go.Vc Go.Dec
theorem C0u {n:Int} (h1:-9223372036854775808<=n) (h2:n<=9223372036854775807): ∃b,R5 (A1m n)=some b:=yE (TS.pf trivial)
theorem C53 {l:List A3} {W K Cap Now:Int} (h:A3c l W K Cap Now) (hl:l.length<=1048576): ∃b,A16 l=some b:=by
 have hm:l.length<=maxLen:=G8 hl;unfold A16 A8H;exact yE (Q:=fun _=>True) (by exact yT)
theorem D0d (x:E4) (hl:x.Ad.length<=1048576): ∃r,A6y x=some r:=by
 unfold A6y;rw [A20 x (G8 hl)];simp only [D8a]
 by_cases h:A3c x.Ad x.W x.K x.Cap x.Now
 ·obtain ⟨b,e1⟩:=C53 h hl;rw [O3 h,e1];simp
 ·rw [J7 h];simp
theorem D35 (x:F3) (hl:x.Ad.length<=1048576): ∃r,B9p x=some r:=by
 unfold B9p;rw [A96 x (G8 hl)];simp only [D8a]
 by_cases h:B9l x
 ·obtain ⟨b,e1⟩:=C53 h.1 hl;rw [O3 h,e1];simp
 ·rw [J7 h];simp
theorem D09 {x:D2} (h:B6I x) {i:Nat} (hi:i<x.Bg.length):0<=A0l (el x.Bg i) x.Bp/\A0l (el x.Bg i) x.Bp<4611686018427387904:=by
 obtain ⟨ha,hp,hm,_⟩:=h;have h1:=hm.2.1 i hi;unfold B8q mk1 mk2 at h1;unfold A5S at hp;obtain ⟨g1,g2,_⟩:=h1;have hmn:=A8a (A8W x.Bp) hm hi;have hN:1<=(el x.Bg i).N/\(el x.Bg i).N<=65536:=by omega
 have f:=(B3K ⟨by omega,hN.2⟩ hmn.2.1 hmn.2.2).1 g2.2.2.2
 have hagg:x.Bp=1\/x.Bp=2\/x.Bp=3\/x.Bp=4:=by omega
 have hmax:(el x.Bg i).N*(el x.Bg i).Bu<=65536*4096:=by
  rcases Int.le_total 0 (el x.Bg i).Bu with g|g
  ·exact Int.mul_le_mul hN.2 (by omega) g (by omega)
  ·have:=Int.mul_nonneg (a:=(el x.Bg i).N) (b:= -(el x.Bg i).Bu) (by omega) (by omega)
   grind
 rw [C4N hmn.2.1 hmn.2.2];unfold A8Y;have hlo2:x.Bp=2->(0:Int)<=(el x.Bg i).Bv:=fun e=>by
  have g:=g2.1;rw [e] at g;exact g
 rcases hagg with e|e|e|e<;>rw [e]<;>simp
 ·omega
 ·have hlo:(0:Int)<=(el x.Bg i).Bv:=hlo2 e;have:=Int.mul_nonneg (a:=(el x.Bg i).N) (b:=(el x.Bg i).Bv) (by omega) hlo
  omega
 ·omega
 ·have e1:B1H (el x.Bg i).Bu (el x.Bg i).Bv=((el x.Bg i).Bu-(el x.Bg i).Bv,true):=by
   have g3:=C4N hmn.2.1 hmn.2.2 4;unfold B1H;have:((decide ((el x.Bg i).Bv<0)&&decide ((el x.Bg i).Bu>A1 (9223372036854775807+(el x.Bg i).Bv)))||(decide ((el x.Bg i).Bv>0)&&decide ((el x.Bg i).Bu<A1 (-9223372036854775808+(el x.Bg i).Bv))))=false:=by
    by_cases g1:(el x.Bg i).Bv<0
    ·rw [C4 (n:=9223372036854775807+(el x.Bg i).Bv) (by omega) (by omega)]
     simp;omega
    ·by_cases g2:(el x.Bg i).Bv>0
     ·rw [C4 (n:= -9223372036854775808+(el x.Bg i).Bv) (by omega) (by omega)]
      simp;omega
     grind
   rw [this,D8d,C4]<;>omega
  grind
theorem C5F {l:List A6} {seq cap now w lo:Int} (h:A4Q l seq cap now w lo) (h0:0<l.length) (hn:¬F9 now w (el l 0).T=true):1<l.length:=by
 rcases Nat.lt_or_ge 1 l.length with g|g
 ·exact g
 ·exact absurd ((h.2.1 0 h0).2.2.1 (.inr (by omega))) hn
theorem C8U (x:D2) (hl:x.Bg.length<=1048576): ∃r,B3h x=some r:=by
 unfold B3h;rw [A6j x (G8 hl)];simp only [D8a]
 by_cases h:B6I x
 ·rw [O3 h];simp only [D8N,D8d]
  by_cases h0:x.Bg.length=0
  ·have c:((x.Bg.length:Int)==0)=true:=by grind
   obtain ⟨b,e1⟩:=C0u (n:=0) (by decide) (by decide)
   simp_all
  ·have c:((x.Bg.length:Int)==0)=false:=by grind
   have g0:0<x.Bg.length:=by omega
   have r0:=A8a (A8W x.Bp) h.2.2.1 g0;have o0:=D09 h g0;have q0:=C4N r0.2.1 r0.2.2 x.Bp;simp only [c,D8d,B0x g0,D8a,A10,<-q0];cases hlv:F9 x.Now x.W (el x.Bg 0).T with
   |true=>
    obtain ⟨b,e1⟩:=C0u (n:=A0l (el x.Bg 0) x.Bp) (by omega) (by omega)
    simp_all
   |false=>
    have g1:=C5F h.2.2.1 g0 (by grind)
    have r1:=A8a (A8W x.Bp) h.2.2.1 g1;have o1:=D09 h g1;have q1:=C4N r1.2.1 r1.2.2 x.Bp;have i1:B9 x.Bg 1=some (el x.Bg 1):=J5 g1;simp only [D8d,i1,D8a,<-q1];cases ((el x.Bg 1).Bx==A1 ((el x.Bg 0).Bx+1)) with
    |true=>
     obtain ⟨b,e1⟩:=C0u (n:=A0l (el x.Bg 1) x.Bp) (by omega) (by omega)
     simp_all
    |false=>
     simp
 ·rw [J7 h];simp
theorem C9F {d n:Nat} (hd:d<9223372036854775808) (hn:n<9223372036854775808) (h0:0<n):
  B2T (d:Int) (n:Int)=some (B3t d n,true):=by
 have gpos:0<Nat.gcd d n:=Nat.gcd_pos_of_pos_right _ h0;have q1:d/Nat.gcd d n<=d:=Nat.div_le_self _ _;have q2:n/Nat.gcd d n<=n:=Nat.div_le_self _ _;have gle:Nat.gcd d n<=n:=Nat.gcd_le_right _ h0;unfold B2T;have c1:((n:Int)==0)=false:=by grind
 rw [c1,D8d];simp only;obtain ⟨s1,_,_⟩:=C33 (n:=(d:Int)) (by omega) (by omega)
 obtain ⟨s2,_,_⟩:=C33 (n:=(n:Int)) (by omega) (by omega)
 rw [s1,s2,C7U (by omega) (by omega),C7U (by omega) (by omega),if_neg (by omega),if_neg (by omega),B6e]
 obtain ⟨o1,v1⟩:=B59 (n:=(d:Int)) (by omega) (by omega)
 obtain ⟨o2,v2⟩:=B59 (n:=(n:Int)) (by omega) (by omega)
 have c2:(!(decide ((d:Int)<0)==decide ((n:Int)<0)))=false:=by
  rfl
 rw [c2];unfold B17;rw [C0T o1 o2,v1,v2,D8Q,D8Q];simp only [D8a];have og:I0 (J0 ((Nat.gcd d n:Nat):Int)):=A0C (by omega) (by omega)
 rw [B4h o1 og (by rw [A0q];omega),B4h o2 og (by rw [A0q];omega),A0q,v1,v2]
 simp only [D8a];have f1:(d:Int)/((Nat.gcd d n:Nat):Int)=((d/Nat.gcd d n:Nat):Int):=by rw [Int.natCast_ediv]
 have f2:(n:Int)/((Nat.gcd d n:Nat):Int)=((n/Nat.gcd d n:Nat):Int):=by rw [Int.natCast_ediv]
 rw [f1,f2];unfold B3t
 generalize d/Nat.gcd d n=x at*
 generalize n/Nat.gcd d n=y at*
 unfold J0;simp only [D8n,Bool.and_true,D8d];have c3:((((((x:Int)/18446744073709551616 !=0)||((y:Int)/18446744073709551616 !=0))||decide ((y:Int)%18446744073709551616>=9223372036854775808))||decide ((x:Int)%18446744073709551616>9223372036854775808))||((x:Int)%18446744073709551616==9223372036854775808))=false:=by
  grind
 rw [c3,D8d];have w1:A1 ((x:Int)%18446744073709551616)=(x:Int):=by rw [C4]<;>omega
 have w2:A1 ((y:Int)%18446744073709551616)=(y:Int):=by rw [C4]<;>omega
 grind
theorem C6r (m:A6): ∃r,A9i m=some r/\(-9223372036854775808<=r.1.Bw/\r.1.Bw<=9223372036854775807)/\(-9223372036854775808<=r.1.Br/\r.1.Br<=9223372036854775807):=by
 unfold A9i;rw [C6e];cases hm:A3Y m with
 |false=>simp
 |true=>
  have h:=(B1E m).1 hm;have t:=C3b h;have e:=C6z h;have e2:A1 (A1 (m.N*m.Q)-A1 (m.S*m.S))=A73 m:=by rw [<-e];rfl
  obtain ⟨d,hd⟩:=Int.eq_ofNat_of_zero_le t.1;have hn:=h.1;obtain ⟨n,hnn⟩:=Int.eq_ofNat_of_zero_le (show 0<=m.N by omega)
  have q1:d/Nat.gcd d n<=d:=Nat.div_le_self _ _;have q2:n/Nat.gcd d n<=n:=Nat.div_le_self _ _;simp only [D8m,D8d];rw [e,hd,hnn,C9F (by omega) (by omega) (by omega)]
  refine ⟨_,rfl, ?_, ?_⟩
  ·show (-9223372036854775808:Int)<=((d/Nat.gcd d n:Nat):Int)/\((d/Nat.gcd d n:Nat):Int)<=9223372036854775807
   grind
  ·show (-9223372036854775808:Int)<=((n/Nat.gcd d n:Nat):Int)/\((n/Nat.gcd d n:Nat):Int)<=9223372036854775807
   grind
theorem C8V (x:D5) (hl:x.Bg.length<=1048576): ∃r,B3k x=some r:=by
 have sp: ∀m,TS (A9i m) True (fun _=>True):=fun m=>⟨fun _=>let ⟨r,e,_⟩:=C6r m;⟨r,e,trivial⟩⟩
 unfold B3k;rw [A6k x (G8 hl)]
 by_cases h:C2D x
 ·have g:=fun g0 g1=>C5F (w:=x.W) h.2.1 g0 g1;simp only [A10];refine yE (Q:=fun _=>True) ?_;exact yT
 ·rw [J7 h];simp
instance {a:A2} {k:Nat}:TS (A45 a (k:Int)) (I0 a/\k<=63) (fun r=>I0 r.1):=⟨fun ⟨h1,h2⟩=>⟨_,D1T h1 h2,by
 unfold C9j;split
 ·exact A0C (Int.mul_nonneg (by unfold I0 at h1;unfold wv;omega) (Int.le_of_lt (A1l k))) (by assumption)
 ·show I0 ⟨0,0⟩;unfold I0;simp⟩⟩
theorem D15 (x:E2) (hw:∀w∈x.Ag,I0 w): ∃r,B6J x=some r:=by
 unfold B6J;rw [A8v x hw]
 by_cases h:C2C x
 ·have h1:=h.1;have o:=U4 (A1 (A1 (x.Now-x.Bk)+1));exact yE (Q:=fun _=>True) (by exact yT)
 ·rw [J7 h];simp
theorem C66 (x:C2) (hl:x.Bc.length<=1048576): ∃r,B08 x=some r:=by
 unfold B08;rw [A5f x (G8 hl)];simp only [D8a];cases (vOf (B5j x) !=0) with
 |true=>simp
 |false=>
  by_cases h0:x.Bc.length=0
  ·simp_all
  ·have c:((x.Bc.length:Int)==0)=false:=by grind
   rw [c,B0x (by omega)]
   simp
theorem D0e (x:F4) (hl:x.Bo.length<=1048576): ∃r,B4M x=some r:=by
 unfold B4M;rw [A68 x (G8 hl)]
 by_cases h:C2B x
 ·have hn:=h.1.1;have en:A1 ((x.Bo.length:Int)-1)=((x.Bo.length-1:Nat):Int):=by rw [C4]<;>omega
  have:TS (B3M x 0 0 0) True (fun _=>True):=⟨fun _=>by
   unfold B3M;refine yL (fun s=>0<=s.1/\s.1<=x.Bo.length/\I0 ⟨s.2.1,s.2.2⟩) (fun s=>x.Bo.length-s.1.toNat) ⟨Int.le_refl _,by simp,by unfold I0;simp⟩ fun s ⟨h1,h2,h3⟩=> ?_
   have o: ∀n,I0 (K5 (A5 n)):=fun n=>B4P (U4 n);have o1:I0 (K5 1):=B4P (by decide)
   unfold B7k;simp only [T2 s.1 (by omega),en]
   have l1: ∀a,TS (A45 a 1) (I0 a) (fun r=>I0 r.1):=fun a=>⟨fun h=>TS.pf (m:=A45 a ((1:Nat):Int)) ⟨h,by decide⟩⟩
   exact yT⟩
  exact yE (Q:=fun _=>True) (by exact yT)
 ·rw [J7 h];simp
end Go.Win
set_option maxHeartbeats 4000000
namespace Go.Win
open Go.Vc Go.Dec
theorem D1G {x:C1} (h:C2E x):x.Aw.length<=65536:=by
 have:=h.1;unfold B1B at this;omega
instance {a b:A2}:TS (A3i a b) (I0 a/\I0 b/\0<wv b) (fun _=>True):=⟨fun h=>⟨_,B4h h.1 h.2.1 h.2.2,trivial⟩⟩
theorem D4H (a b:Int):I0 (Q3 (A5 a) (A5 b)):=by
 rw [show Q3=S6 from rfl,A9L (U4 a) (U4 b)];exact A0C (A9e (U4 a) (U4 b)).1 (A9e (U4 a) (U4 b)).2
theorem D5Z {q:Int} (h:1<=q/\q<=9223372036854775807):I0 (K5 (A5 q))/\0<wv (K5 (A5 q)):=by
 obtain ⟨a,b⟩:=B59 (U4 q).1 (U4 q).2;exact ⟨a,by rw [show K5=S9 from rfl,b,K2];omega⟩
instance {x:C1}:TS (A31 x) (x.Aw.length<=1048576) (fun r=>r.length<=1048576):=⟨fun h=>by
 unfold A31 B1N;refine yL (fun s=>0<=s.2.2/\s.2.2<=x.Aw.length/\s.1.length<=s.2.2) (fun s=>x.Aw.length-s.2.2.toNat) ⟨Int.le_refl _,by simp,by simp⟩ fun s hs=> ?_
 unfold B0p;simp only [T2 s.2.2 (by omega)]
 exact yT⟩
instance {x:C1} {v:Int} {l:List B2}:TS (B0a x v l 0 0) (l.length<=1048576) (fun _=>True):=⟨fun h=>by
 unfold B0a;refine yL (fun s=>0<=s.2/\s.2<=l.length) (fun s=>l.length-s.2.toNat) ⟨Int.le_refl _,by simp⟩ fun s hs=> ?_
 unfold B36 A99;simp only [T2 s.2 (by omega)]
 exact yT⟩
instance {v a b:Int} {l:List B2}:TS (A52 v l a b 0) (l.length<=1048576) (fun _=>True):=⟨fun h=>by
 unfold A52;refine yL (fun s=>0<=s.2.2/\s.2.2<=l.length) (fun s=>l.length-s.2.2.toNat) ⟨Int.le_refl _,by simp⟩ fun s hs=> ?_
 unfold A97;simp only [T2 s.2.2 (by omega)]
 exact yT⟩
theorem D0g (x:C1) (v:Int): ∃r,A98 x v=some r:=by
 unfold A98;rw [A5s]
 by_cases hv:C2E x
 ·have:=D1G hv;exact yE (Q:=fun _=>True) (by exact yT)
 ·rw [J7 hv];exact ⟨_,rfl⟩
theorem C8W (x:C1) (p q:Int) (hp:-9223372036854775808<=p/\p<=9223372036854775807) (hq:-9223372036854775808<=q/\q<=9223372036854775807): ∃r,A5r x p q=some r:=by
 unfold A5r B0Q;rw [A5s]
 by_cases hv:C2E x
 ·have:=D1G hv
  by_cases hq1:1<=q
  ·have o:=D5Z (q:=q) ⟨hq1,hq.2⟩;have o2:=D4H p x.N;exact yE (Q:=fun _=>True) (by exact yT)
  ·have e:decide (q<1)=true:=D8f (by omega)
   rw [e];exact yE (Q:=fun _=>True) (by exact yT)
 ·rw [J7 hv];exact ⟨_,rfl⟩
end Go.Win
set_option maxHeartbeats 4000000
namespace Go.Win
open Go.Vc Go.Dec
instance {r:D4} {v:Int}:TS (B4T r v) (r.Ae.length<=1000000000) (fun _=>True):=⟨fun h=>by
 have:TS (B3X r v 0 0) True (fun _=>True):=⟨fun _=>by
  unfold B3X;refine yL (fun s=>0<=s.2/\s.2<=r.Ae.length) (fun s=>r.Ae.length-s.2.toNat) ⟨Int.le_refl _,by simp⟩ fun s hs=> ?_
  unfold B7o B3W;simp only [T2 s.2 (by omega)]
  exact yT⟩
 unfold B4T;rw [A0X r (by omega)]
 exact yT⟩
theorem C78 (l:List B1) {i:Nat} (h:i<l.length):O2 (l.take (i+1))=O2 (l.take i)+(el l i).Bi.Ae.length:=by
 rw [List.take_add_one,A4F h,B0y];simp [O2]
theorem C6v {l:List B1} (hs:A1o l) (he:O2 l<=900000000):T (A33 l) fun r=>r.1.Ae.length<=1000000000:=by
 have hl:=hs.1;have j7: ∀n e,e.length<=1+(el l 0).Bi.Ae.length->0<l.length->TS (A2W l n e) True (fun r=>r.1.Ae.length<=1000000000):=fun n e h1 h2=>⟨fun _=>by
  have e0:=C78 l h2;have e1:O2 (l.take 0)=0:=rfl;have e9: ∀i,i<=l.length->O2 (l.take i)<=O2 l:=fun i hi=>by
   conv=>rhs;rw [<-List.take_append_drop i l,B0y]
   omega
  unfold A2W B5G;refine yK (by simp;omega) ?_
  refine yL (fun s=>0<=s.1/\s.1+1<=l.length/\s.2.2.length<=1+O2 (l.take (s.1.toNat+1))) (fun s=>l.length-s.1.toNat) ⟨Int.le_refl _,by show (0:Int)+1<=_;omega,by show e.length<=1+O2 (l.take (0+1));omega⟩ fun s ⟨h3,h4,h5⟩=> ?_
  have e2:=e9 (s.1.toNat+1) (by omega)
  unfold B4u;rw [show (1:Int).toNat=1 from rfl,D8I];refine yC (fun h=> ?_) (fun _=>yP (yI (by show s.2.2.length<=_;omega)))
  rw [D8c] at h;have h6:s.1.toNat+1<l.length:=by omega
  have e3:=C78 l h6;have e4:=e9 (s.1.toNat+1+1) (by omega)
  have e5:el (l.drop 1) s.1.toNat=el l (s.1.toNat+1):=by
   rw [L8 (by rw [D8I];omega),L8 h6,List.getElem_drop]
   congr 1;omega
  have e6:=hs.2 _ (O4 h6);simp only [T2 s.1 (by omega)]
  refine yB (yX ⟨h3,by rw [D8I];omega⟩ fun _=> ?_)
  rw [e5];refine yB (yS ⟨by show s.2.2.length<=_;omega,e6⟩ fun y hy=> ?_)
  have hy:y.1.Ae.length<=s.2.2.length+(el l (s.1.toNat+1)).Bi.Ae.length:=hy;have e7:(s.1+1).toNat=s.1.toNat+1:=by omega
  refine yC (fun _=>yI (Nat.zero_le _)) (fun _=>yI ⟨⟨by show 0<=s.1+1;omega,by show s.1+1+1<=_;omega, ?_⟩, ?_⟩)
  ·show y.1.Ae.length<=1+O2 (l.take ((s.1+1).toNat+1));rw [e7];omega
  ·show l.length-(s.1+1).toNat<l.length-s.1.toNat;omega⟩
 have v: ∀i,i<l.length->TS (S5 (el l i).Bi) True (fun _=>True):=fun i hi=>⟨fun _=>⟨_,A0X _ (by have:=hs.2 _ (O4 hi);omega),trivial⟩⟩
 unfold A33 B5F;refine yL (fun s=>0<=s/\s<=l.length) (fun s=>l.length-s.toNat) ⟨Int.le_refl _,by simp⟩ fun s hs=> ?_
 unfold B4t A0S;simp only [T2 s (by omega)]
 refine yC (fun h=> ?_) (fun h=>yP ?_)
 ·rw [D8c] at h;have:=v s.toNat (by omega)
  exact yT
 ·refine yC (fun _=>yI (Nat.zero_le _)) (fun h=> ?_);rw [D80] at h;have h0:0<l.length:=by omega
  have a: ∀n,TS (A2W l n (el l (Int.toNat 0)).Bi.Ae) True (fun r=>r.1.Ae.length<=1000000000):=fun n=>j7 n (el l 0).Bi.Ae (by omega) h0
  have b:=fun n x=>j7 n [x] (by simp) h0
  exact yT
theorem D0f (x:C3) (v:Int) (hs:A1o x.Al) (he:O2 x.Al<=900000000): ∃r,A8x x v=some r:=by
 have:TS (A33 x.Al) True (fun r=>r.1.Ae.length<=1000000000):=⟨fun _=>C6v hs he⟩;unfold A8x B5a;rw [A2m x hs];exact yE (Q:=fun _=>True) (by exact yT)
theorem C8T (x:C3) (p q:Int) (hp:-9223372036854775808<=p/\p<=9223372036854775807) (hq:-9223372036854775808<=q/\q<=9223372036854775807) (hs:A1o x.Al) (he:O2 x.Al<=900000000): ∃r,A7e x p q=some r:=by
 have:TS (A33 x.Al) True (fun r=>r.1.Ae.length<=1000000000):=⟨fun _=>C6v hs he⟩;have: ∀r:D4,TS (A5A r p q) (r.Ae.length<=1000000000) (fun _=>True):=fun r=>⟨fun h=>let ⟨y,e⟩:=C7r r p q hp hq h;⟨y,e,trivial⟩⟩
 unfold A7e A9s;rw [A2m x hs];exact yE (Q:=fun _=>True) (by exact yT)
end Go.Win
set_option maxHeartbeats 4000000
namespace Go.Win
open Go.Vc Go.Dec
def D62:E3:=⟨⟨⟨0,0⟩,⟨0,0⟩,⟨0,0⟩⟩, [],⟨⟨0,0⟩,⟨0,0⟩⟩⟩
theorem D14 (s:A9) (w:X4 s) (q:L9) (ho:-9223372036854775808<=q.Op/\q.Op<=9223372036854775807) (hA:-9223372036854775808<=q.A/\q.A<=9223372036854775807) (hB:-9223372036854775808<=q.B/\q.B<=9223372036854775807):
  ∃r,A0H s q=some r/\r.1.Ax.length<=16:=by
 obtain ⟨h1,h2,h3,h4,h5,h6,h7,h8,h9,h10,h11⟩:=id w;unfold A0H;rw [(T4 s w),D8a]
 by_cases hv:A19 s
 ·obtain ⟨⟨hf,hq⟩,_⟩:=C1A hv w;unfold B6l at hf;rw [O3 hv];simp only [D8N,D8d];cases A2Z s.Ap q.Op with
  |false=>exact ⟨_,rfl,Nat.zero_le _⟩
  |true=>
  simp only [D8m,D8d];have fin: ∀(f v:Int) (b:Bool) (a:E3),a.Ax.length<=16-> ∃r,O0 f v b a=some r/\r.1.Ax.length<=16:=by
   intro f v b a ha;unfold O0;cases (f !=0) with
   |true=>exact ⟨_,rfl,Nat.zero_le _⟩
   |false=>
    cases b with
    |true=>exact ⟨_,rfl,by show 1<=16;omega⟩
    |false=>exact ⟨_,rfl,ha⟩
  have fin0: ∀(f:Int) (a:E3),a.Ax.length<=16-> ∃r,(cond (f !=(0:Int)) (some (D62,f)) (some (a,(0:Int))))=some r/\r.1.Ax.length<=16:=by
   intro f a ha;cases (f !=0) with
   |true=>exact ⟨_,rfl,Nat.zero_le _⟩
   |false=>exact ⟨_,rfl,ha⟩
  cases c1:(s.Ap.Bj==(1:Int)) with
  |true=>
   obtain ⟨r,e1,e3⟩:=D5t s.Ar q (G8 h1) hA hB;simp only [D8e,e1,D8a];exact ⟨_,rfl,by show r.1.Ax.length<=16;omega⟩
  |false=>
  cases c2:(s.Ap.Bj==(2:Int)) with
  |true=>
   obtain ⟨r,e1⟩:=D0d s.Az (by omega)
   simp only [D8e,D8d,e1,D8a];exact fin _ _ _ _ (Nat.zero_le _)
  |false=>
  cases c3:(s.Ap.Bj==(3:Int)) with
  |true=>
   obtain ⟨r,e1⟩:=D35 s.Sum (by omega)
   simp only [D8e,D8d,e1,D8a];exact fin _ _ _ _ (Nat.zero_le _)
  |false=>
  cases c4:(s.Ap.Bj==(4:Int)) with
  |true=>
   obtain ⟨r,e1⟩:=C8U s.Au (by omega)
   simp only [D8e,D8d,e1,D8a];exact fin _ _ _ _ (Nat.zero_le _)
  |false=>
  cases c5:(s.Ap.Bj==(5:Int)) with
  |true=>
   obtain ⟨r,e1⟩:=C8V s.Av (by omega)
   simp only [D8e,D8d,e1,D8a];exact fin _ _ _ _ (Nat.zero_le _)
  |false=>
  cases c6:(s.Ap.Bj==(6:Int)) with
  |true=>
   obtain ⟨r,e1⟩:=D15 s.Bn h6.2;simp only [D8e,D8d,e1,D8a];exact fin _ _ _ _ (Nat.zero_le _)
  |false=>
  cases c7:(s.Ap.Bj==(7:Int)) with
  |true=>
   obtain ⟨r,e1⟩:=D0e s.Bb (by omega)
   simp only [D8e,D8d,e1,D8a];exact fin _ _ _ _ (Nat.zero_le _)
  |false=>
  cases c8:(s.Ap.Bj==(8:Int)) with
  |true=>
   obtain ⟨r,e1⟩:=C66 s.Af (by omega)
   simp only [D8e,D8d,e1,D8a];exact fin _ _ _ _ (Nat.zero_le _)
  |false=>
  cases c9:(s.Ap.Bj==(9:Int)) with
  |true=>
   obtain ⟨r,e1,e3⟩:=C65 s.As (G8 h9.1) (fun c hc=>G8 (h9.2 c hc));simp only [D8e,D8d,e1,D8a];exact fin _ _ _ _ e3
  |false=>
  cases c10:(s.Ap.Bj==(10:Int)) with
  |true=>
   simp only [D8e,D8d];cases (q.Op==(7:Int)) with
   |true=>
    obtain ⟨r,e1⟩:=D0g s.Aj q.A;simp only [D8e,e1,D8a];exact fin0 _ _ (Nat.zero_le _)
   |false=>
    obtain ⟨r,e1⟩:=C8W s.Aj q.A q.B hA hB;simp only [D8d,e1,D8a];exact fin _ _ _ _ (Nat.zero_le _)
  |false=>
  cases c11:(s.Ap.Bj==(11:Int)) with
  |true=>
   have hsm:=h11;simp only [D8e,D8d];cases (q.Op==(7:Int)) with
   |true=>
    obtain ⟨r,e1⟩:=D0f s.Ab q.A hsm (by omega)
    simp only [D8e,e1,D8a];exact fin0 _ _ (Nat.zero_le _)
   |false=>
    obtain ⟨r,e1⟩:=C8T s.Ab q.A q.B hA hB hsm (by omega)
    simp only [D8d,e1,D8a];exact fin _ _ _ _ (Nat.zero_le _)
  |false=>
   simp only [D8d];exact fin _ _ _ _ (Nat.zero_le _)
 ·rw [J7 hv];exact ⟨_,rfl,Nat.zero_le _⟩
end Go.Win
set_option maxHeartbeats 4000000
namespace Go.Win
open Go.Vc Go.Dec
def rid (l:List A7) (i:Nat):Int:=(l.getD i default).ID
theorem C54 {l:List A7} {i:Nat} (h:i<l.length):B9 l (i:Int)=some (l.getD i default):=by
 rw [S0,D8o h];simp [List.getD,D8o h]
def Asc (l:List A7):Prop:= ∀i,i+1<l.length->rid l i<rid l (i+1)
theorem D0c {l:List A7} (h:Asc l): ∀ {i j:Nat},i<j->j<l.length->rid l i<rid l j:=by
 intro i j hij hj
 induction j with
 |zero=>omega
 |succ j ih=>
  have:=h j hj
  by_cases e:i=j
  ·subst e;exact this
  ·have:=ih (by omega) (by omega);omega
def B3A (l:List A7) (id:Int):Nat->Nat
 |0=>0
 |i+1=>B3A l id i+if rid l i<id then 1 else 0
theorem B86 (l:List A7) (id:Int): ∀i,B3A l id i<=i
 |0=>D8S 0
 |i+1=>by
  have:=B86 l id i;simp only [B3A];split<;>omega
theorem C0p {l:List A7} (h:Asc l) (id:Int): ∀i,i<=l.length-> ∀j,j<i->(rid l j<id↔j<B3A l id i):=by
 intro i
 induction i with
 |zero=>intro _ j hj;omega
 |succ i ih=>
  intro hi j hj;have hc:=B86 l id i;simp only [B3A]
  by_cases hlt:rid l i<id
  ·rw [if_pos hlt];have full:B3A l id i=i:=by
    apply Nat.le_antisymm hc;apply Nat.le_of_not_lt;intro hlt2;have h1:=(ih (by omega) (B3A l id i) hlt2)
    have h2:rid l (B3A l id i)<rid l i:=D0c h hlt2 (by omega)
    have:=h1.1 (by omega)
    omega
   constructor
   ·intro _;omega
   ·intro _
    by_cases e:j=i
    ·subst e;exact hlt
    ·have:=D0c h (show j<i by omega) (by omega);omega
  ·rw [if_neg hlt]
   by_cases e:j=i
   ·subst e;constructor
    ·intro hh;exact absurd hh hlt
    ·intro hh;omega
   ·exact ih (by omega) j (by omega)
def B5Z (l:List A7) (id:Int) (n:Nat):Int×Bool:=((n:Int),decide ((n:Int)<(l.length:Int))&&(rid l n==id))
theorem D0G (l:List A7) (id:Int) (n:Nat):
  (Option.bind (gd (decide ((n:Int)<(l.length:Int))) (B9 l (n:Int))) fun x=>some ((n:Int),((decide ((n:Int)<(l.length:Int)))&&(x.ID==id))))=some (B5Z l id n):=by
 by_cases h:n<l.length
 ·rw [D8f (by omega),H7,C54 h,D8a]
  unfold B5Z rid;rw [D8f (by omega)]
 ·rw [D8h (by omega),L6,D8a]
  unfold B5Z;rw [D8h (by omega)];rfl
theorem D5M {a b:Nat} (h:a+b<=9223372036854775807):A1 (G0 .u64 (A5 (A1 ((a:Int)+(b:Int)))) 1)=(((a+b)/2:Nat):Int):=by
 have e1:A1 ((a:Int)+(b:Int))=((a+b:Nat):Int):=by rw [C4]<;>omega
 have e2:A5 (((a+b:Nat):Int))=((a+b:Nat):Int):=by rw [K2];omega
 have e3: ∀x:Int,G0 .u64 x 1=x/2:=fun x=>by
  show x.fdiv (2^(min (1:Int).toNat IntKind.u64.bits))=_;have:min (1:Int).toNat IntKind.u64.bits=1:=rfl;rw [this,Int.fdiv_eq_ediv_of_nonneg _ (by decide)]
  rfl
 rw [e1,e2,e3,C4]<;>omega
theorem D3b (l:List A7) (id:Int) (N:Nat) (hN:N<=l.length) (hl:l.length<=1000000) (hp:∀j,j<l.length->(rid l j<id↔j<N)):
  A7x (l.length:Int) l id=some (N:Int):=by
 unfold A7x B2D;have key: ∀m lo hi:Nat,hi-lo<=m->lo<=N->N<=hi->hi<=l.length->
   loop (fun (s:(Int×Int))=>A0m l id s.1 s.2) ((lo:Int),(hi:Int))=some (N:Int):=by
  intro m
  induction m with
  |zero=>
   intro lo hi h1 h2 h3 h4;have:lo=N:=by omega
   subst this;have:hi=lo:=by omega
   subst this;refine M5 ?_;unfold A0m;rw [D8h (by omega)];rfl
  |succ m ih=>
   intro lo hi h1 h2 h3 h4
   by_cases hlt:lo<hi
   ·have hmid:(lo+hi)/2<l.length:=by omega
    have hp' :=hp _ hmid;have hst:A0m l id (lo:Int) (hi:Int)=some (.inl (if (lo+hi)/2<N then (((((lo+hi)/2+1:Nat)):Int),(hi:Int)) else ((lo:Int),(((lo+hi)/2:Nat):Int)))):=by
     unfold A0m A6N;rw [D8f (by omega),D8e]
     simp only [D5M (show lo+hi<=9223372036854775807 by omega),C54 hmid,D8a]
     have e2:A1 ((((lo+hi)/2:Nat):Int)+1)=(((lo+hi)/2+1:Nat):Int):=by rw [C4]<;>omega
     rw [e2];show cond (!(decide (rid l ((lo+hi)/2)>=id))) _ _=_
     by_cases h:(lo+hi)/2<N
     ·have:=hp'.2 h;rw [D8h (by omega),if_pos h];rfl
     ·have: ¬rid l ((lo+hi)/2)<id:=fun hh=>h (hp'.1 hh);rw [D8f (by omega),if_neg h];rfl
    rw [M1 hst]
    by_cases h:(lo+hi)/2<N
    ·rw [if_pos h];exact ih _ _ (by omega) (by omega) (by omega) (by omega)
    ·rw [if_neg h];exact ih _ _ (by omega) (by omega) (by omega) (by omega)
   ·have:lo=N:=by omega
    subst this;refine M5 ?_;unfold A0m;rw [D8h (by omega)];rfl
 exact key l.length 0 l.length (by omega) (by omega) hN (by omega)
theorem B1z (l:List A7) (id:Int) (hl:l.length<=1000000) (h:Asc l):A0Y l id=some (B5Z l id (B3A l id l.length)):=by
 unfold A0Y;rw [D3b l id _ (B86 l id _) hl (fun j hj=>C0p h id _ (D8S _) j hj),D8a];exact D0G l id _
end Go.Win
set_option maxHeartbeats 4000000
namespace Go.Win
open Go.Vc Go.Dec
def B6H (l:List A7) (i:Nat):Prop:=(0<=(el l i).ID/\(el l i).ID<=1048576)/\(1<=i->(el l (i-1)).ID<(el l i).ID)/\A19 (el l i).Ac
def B5k (l:List A7) (limit:Int):Prop:=((1<=limit/\limit<=64)/\(l.length:Int)<=limit)/\ ∀i,i<l.length->B6H l i
def A6b (l:List A7):Prop:=l.length<=1048576/\ ∀r∈l,X4 r.Ac
theorem D44 {l:List A7} (w:A6b l) {i:Nat} (hi:i<l.length):X4 (el l i).Ac:=w.2 _ (O4 hi)
theorem D26 {l:List A7} (hl:l.length<=maxLen) {i:Nat} (hi:i<l.length) (V:A9->Option Int) (hV:V (el l i).Ac=some (vOf (A19 (el l i).Ac))):
  (¬B6H l i->(cond (decide ((i:Int)<(l.length:Int))) (
   Option.bind (B9 l (i:Int)) fun x5_1=>
   Option.bind (gd ((!((decide (x5_1.ID<(0:Int)))||(decide (x5_1.ID>(1048576:Int)))))&&(decide ((i:Int)>(0:Int)))) (B9 l (A1 ((i:Int)-(1:Int))))) fun x6_15=>
   Option.bind (gd (!(((decide (x5_1.ID<(0:Int)))||(decide (x5_1.ID>(1048576:Int))))||((decide ((i:Int)>(0:Int)))&&(decide (x6_15.ID>=x5_1.ID))))) (V x5_1.Ac)) fun y6_26=>
   cond ((((decide (x5_1.ID<(0:Int)))||(decide (x5_1.ID>(1048576:Int))))||((decide ((i:Int)>(0:Int)))&&(decide (x6_15.ID>=x5_1.ID))))||(y6_26 !=(0:Int))) (
    some (.inr false))<|
   some (.inl (A1 ((i:Int)+(1:Int))))) (Option.map Sum.inr (some true)):Option (Int⊕Bool))=some (.inr false))/\
  (¬ ¬B6H l i->(cond (decide ((i:Int)<(l.length:Int))) (
   Option.bind (B9 l (i:Int)) fun x5_1=>
   Option.bind (gd ((!((decide (x5_1.ID<(0:Int)))||(decide (x5_1.ID>(1048576:Int)))))&&(decide ((i:Int)>(0:Int)))) (B9 l (A1 ((i:Int)-(1:Int))))) fun x6_15=>
   Option.bind (gd (!(((decide (x5_1.ID<(0:Int)))||(decide (x5_1.ID>(1048576:Int))))||((decide ((i:Int)>(0:Int)))&&(decide (x6_15.ID>=x5_1.ID))))) (V x5_1.Ac)) fun y6_26=>
   cond ((((decide (x5_1.ID<(0:Int)))||(decide (x5_1.ID>(1048576:Int))))||((decide ((i:Int)>(0:Int)))&&(decide (x6_15.ID>=x5_1.ID))))||(y6_26 !=(0:Int))) (
    some (.inr false))<|
   some (.inl (A1 ((i:Int)+(1:Int))))) (Option.map Sum.inr (some true)):Option (Int⊕Bool))=some (.inl ((i+1:Nat):Int))):=by
 rw [D8f (by omega:(i:Int)<(l.length:Int)),D8e,J5 hi,D8a,A0s hi hl,hV]
 by_cases g1:0<=(el l i).ID/\(el l i).ID<=1048576
 ·have e1:(decide ((el l i).ID<0)||decide ((el l i).ID>1048576))=false:=by
   grind
  rw [e1];simp only [D8n,D8L,D8B];rcases i with _|i
  ·have e4:decide (((0:Nat):Int)>0)=false:=rfl;rw [e4];simp only [L6,D8a,D8F,D8n,H7,D8B];refine V8 ?_;rw [C8v];unfold B6H
   grind
  ·have e4:decide (((i+1:Nat):Int)>0)=true:=D8f (by omega)
   rw [e4,B2S (by omega) (Nat.le_of_lt hi) hl,D8R,J5 (by omega)]
   simp only [H7,D8a,D8L]
   by_cases g2:(el l i).ID>=(el l (i+1)).ID
   ·rw [D8f g2];simp only [D8m,L6,D8a,D8U,D8e];refine ⟨fun _=>trivial,fun h=>absurd (fun h2=> ?_) h⟩;have:=h2.2.1 (by omega)
    grind
   ·rw [D8h g2];simp only [D8n,H7,D8a,D8B];refine V8 ?_;rw [C8v];unfold B6H
    grind
 ·have e1:(decide ((el l i).ID<0)||decide ((el l i).ID>1048576))=true:=by
   grind
  rw [e1];simp only [D8m,D8F,L6,D8a,D8U,D8e];exact ⟨fun _=>trivial,fun h=>absurd (fun h2=>g1 h2.1) h⟩
theorem A7r (l:List A7) (limit:Int) (w:A6b l):A1n l limit=some (bOf (B5k l limit)):=by
 have hl:=G8 w.1;unfold A1n
 by_cases h1:(1<=limit/\limit<=64)/\(l.length:Int)<=limit
 ·have e:((decide (limit<(1:Int))||decide (limit>(64:Int)))||decide ((l.length:Int)>limit))=false:=by
   grind
  rw [e,D8d];have H1:=R6 (f:=fun s:Int=>A6O l s) l.length (fun i=> ¬B6H l i) false (some true)
   (fun i hi _=>D26 hl hi N2 (T4 _ (D44 w hi)))
   (fun _=>by
    unfold A6O;rw [D8h (D8D _),D8d])
  unfold B2C
  by_cases h2: ∀i,i<l.length->B6H l i
  ·rw [H1.2 fun i hi hn=>hn (h2 i hi),A2z ⟨h1,h2⟩]
  ·rw [H1.1 (A7d h2),X6 fun h=>h2 h.2]
 ·have e:((decide (limit<(1:Int))||decide (limit>(64:Int)))||decide ((l.length:Int)>limit))=true:=by
   grind
  rw [e,D8e,X6 fun h=>h1 h.1]
theorem B32 (l:List A7) (i:Nat):rid l i=(el l i).ID:=rfl
theorem B3Q {l:List A7} {limit:Int} (h:B5k l limit):Asc l:=by
 intro i hi;have:=(h.2 (i+1) hi).2.1 (by omega)
 rw [D8R] at this;rw [B32,B32];exact this
def A2F (l:List A7):List Int:=l.map (·.ID)
theorem D2x (l:List A7) (hl:l.length<=1048576):A1J l=some (A2F l):=by
 unfold A1J A9Y;have H:=A5M (f:=fun s:List Int×Int=>A0g l s.1 s.2) (fun i=>(A2F (l.take i),(i:Int))) 0 l.length (Nat.zero_le _) (fun _=>False) [] (some (A2F l))
  (fun i _ hi _=>by
   refine ⟨fun h=>h.elim,fun _=> ?_⟩;simp only [];unfold A0g;rw [D8f (by omega:(i:Int)<(l.length:Int)),D8e,J5 hi,D8a,A0s hi (G8 hl)]
   have e1:A2F (l.take (i+1))=A2F (l.take i)++ [(el l i).ID]:=by
    rw [List.take_add_one,A4F hi];simp [A2F]
   have e2:(A2F (l.take i)).length=i:=by unfold A2F;grind
   rw [e1,e2,D8f (by grind),A2Y])
  (fun _=>by
   simp only [];unfold A0g;rw [D8h (D8D _),D8d,List.take_length])
 exact H.2 (fun _ _ _ h=>h)
theorem D5P:B4W=A1J:=rfl
def W2 (l:List A7) (id:Int):Nat:=B3A l id l.length
theorem D5u (l:List A7) (id:Int):W2 l id<=l.length:=B86 l id _
def A35 (l:List A7) (id:Int):Bool:=decide ((W2 l id:Int)<(l.length:Int))&&(rid l (W2 l id)==id)
theorem B3L (l:List A7) (id:Int):B5Z l id (B3A l id l.length)=((W2 l id:Int),A35 l id):=rfl
open Classical in
noncomputable def A7T (l:List A7) (limit:Int) (r:A7):List A7×Int:=
 if¬(B5k l limit/\A19 r.Ac) then ([],2) else if r.ID<0\/r.ID>1048576 then ([],1) else if A35 l r.ID=true then ([],10) else if (l.length:Int)=limit then ([],5) else
 (l.take (W2 l r.ID)++ [r]++l.drop (W2 l r.ID),0)
open Classical in
noncomputable def B5o (l:List A7) (id:Int):List A7×Int:=
 if¬B5k l 64 then ([],2) else if A35 l id=true then (l.take (W2 l id)++l.drop (W2 l id+1),0) else ([],11)
open Classical in
noncomputable def B2a (l:List A7) (r:A7):List A7×Int:=
 if¬(B5k l 64/\A19 r.Ac) then ([],2) else if A35 l r.ID=true then (l.set (W2 l r.ID) r,0) else ([],11)
theorem C6d (l:List A7) (limit:Int) (r:A7) (w:A6b l) (wr:X4 r.Ac):A6g l limit r=some (A7T l limit r):=by
 have v1:=A7r l limit w;have s1:=T4 r.Ac wr;unfold A6g;rw [v1,s1]
 by_cases h1:B5k l limit
 ·rw [A2z h1];simp only [D8a,D8m,D8n,H7,D8B]
  by_cases h2:A19 r.Ac
  ·rw [O3 h2,D8N,D8d]
   by_cases h3:r.ID<0\/r.ID>1048576
   ·have e:(decide (r.ID<0)||decide (r.ID>1048576))=true:=by grind
    have e' :A7T l limit r=([],1):=by unfold A7T;rw [if_neg (fun h=>h ⟨h1,h2⟩),if_pos h3]
    grind
   ·have e:(decide (r.ID<0)||decide (r.ID>1048576))=false:=by grind
    have hlen:=h1.1;rw [e,D8d,B1z l r.ID (by omega) (B3Q h1),B3L]
    simp only [D8a];cases h4:A35 l r.ID with
    |true=>
     have e' :A7T l limit r=([],10):=by unfold A7T;rw [if_neg (fun h=>h ⟨h1,h2⟩),if_neg h3,if_pos h4]
     rw [e'];rfl
    |false=>
     simp only [D8d]
     by_cases h5:(l.length:Int)=limit
     ·have e' :A7T l limit r=([],5):=by unfold A7T;rw [if_neg (fun h=>h ⟨h1,h2⟩),if_neg h3,if_neg (by grind),if_pos h5]
      grind
     ·have e' :A7T l limit r=(l.take (W2 l r.ID)++ [r]++l.drop (W2 l r.ID),0):=by unfold A7T;rw [if_neg (fun h=>h ⟨h1,h2⟩),if_neg h3,if_neg (by grind),if_neg h5]
      have e5:((l.length:Int)==limit)=false:=D80.2 h5;have ha:=D5u l r.ID;rw [e5,e'];simp only [D8d];simp only [D8Q,List.nil_append,D8G,D8g,D8C,D8I,D8t];have k1:decide (0<=(W2 l r.ID:Int)/\(W2 l r.ID:Int)<=(l.length:Int))=true:=D8f (by omega)
      have k2: ∀n:Nat,n<=1000->decide (n*640<=140737488355328)=true:=fun n hn=>D8f (by omega)
      rw [k1]
      repeat rw [k2 _ (by omega)]
      rfl
  ·have e' :A7T l limit r=([],2):=by unfold A7T;rw [if_pos fun h=>h2 h.2]
   rw [J7 h2,e'];rfl
 ·have e' :A7T l limit r=([],2):=by unfold A7T;rw [if_pos fun h=>h1 h.1]
  rw [X6 h1,e'];rfl
theorem D1z (l:List A7) (id:Int) (w:A6b l):A6h l id=some (B5o l id):=by
 have v1:=A7r l 64 w;unfold A6h;rw [v1]
 by_cases h1:B5k l 64
 ·rw [A2z h1];have hlen:=h1.1;simp only [D8a,D8m,D8d];rw [B1z l id (by omega) (B3Q h1),B3L]
  simp only [D8a];cases h4:A35 l id with
  |false=>
   have e' :B5o l id=([],11):=by unfold B5o;rw [if_neg (fun h=>h h1),if_neg (by grind)]
   rw [e'];rfl
  |true=>
   have e' :B5o l id=(l.take (W2 l id)++l.drop (W2 l id+1),0):=by unfold B5o;rw [if_neg (fun h=>h h1),if_pos h4]
   have hlt:W2 l id<l.length:=by
    unfold A35 at h4
    grind
   have es:A1 ((W2 l id:Int)+1)=((W2 l id+1:Nat):Int):=by rw [C4]<;>omega
   rw [e',es];simp only [D8m,D8d];simp only [D8Q,List.nil_append,D8G,D8C,D8I];have k1:decide (0<=(W2 l id:Int)/\(W2 l id:Int)<=(l.length:Int))=true:=D8f (by omega)
   have k3:decide (0<=((W2 l id+1:Nat):Int)/\((W2 l id+1:Nat):Int)<=(l.length:Int))=true:=D8f (by omega)
   have k2: ∀n:Nat,n<=1000->decide (n*640<=140737488355328)=true:=fun n hn=>D8f (by omega)
   rw [k1,k3]
   repeat rw [k2 _ (by omega)]
   rfl
 ·have e' :B5o l id=([],2):=by unfold B5o;rw [if_pos h1]
  rw [X6 h1,e'];rfl
theorem C9K (l:List A7) (r:A7) (w:A6b l) (wr:X4 r.Ac):A5n l r=some (B2a l r):=by
 have v1:=A7r l 64 w;have s1:=T4 r.Ac wr;unfold A5n;rw [v1,s1]
 by_cases h1:B5k l 64
 ·rw [A2z h1];have hlen:=h1.1;simp only [D8a,D8m,D8n,H7,D8B]
  by_cases h2:A19 r.Ac
  ·rw [O3 h2,D8N,D8d,B1z l r.ID (by omega) (B3Q h1),B3L]
   simp only [D8a];cases h4:A35 l r.ID with
   |false=>
    have e' :B2a l r=([],11):=by unfold B2a;rw [if_neg (fun h=>h ⟨h1,h2⟩),if_neg (by grind)]
    rw [e'];rfl
   |true=>
    have e' :B2a l r=(l.set (W2 l r.ID) r,0):=by unfold B2a;rw [if_neg (fun h=>h ⟨h1,h2⟩),if_pos h4]
    have hlt:W2 l r.ID<l.length:=by
     unfold A35 at h4
     grind
    rw [e'];simp only [D8m,D8d];simp only [D8Q,List.nil_append,D8G,Nat.zero_add,J5 hlt,D8a];have k2:decide (l.length*640<=140737488355328)=true:=D8f (by omega)
    simp_all
  ·have e' :B2a l r=([],2):=by unfold B2a;rw [if_pos fun h=>h2 h.2]
   rw [J7 h2,e'];rfl
 ·have e' :B2a l r=([],2):=by unfold B2a;rw [if_pos fun h=>h1 h.1]
  rw [X6 h1,e'];rfl
theorem C7O (l:List A7) (hl:l.length<=1048577) (h:∀r∈l,lenS r.Ac):B3b l l=some true:=by
 have hm:l.length<=maxLen:=by rw [I2];omega
 have hi:A1J l=some (A2F l):=by
  unfold A1J A9Y;have H:=A5M (f:=fun s:List Int×Int=>A0g l s.1 s.2) (fun i=>(A2F (l.take i),(i:Int))) 0 l.length (Nat.zero_le _) (fun _=>False) [] (some (A2F l))
   (fun i _ hi _=>by
    refine ⟨fun h=>h.elim,fun _=> ?_⟩;simp only [];unfold A0g;rw [D8f (by omega:(i:Int)<(l.length:Int)),D8e,J5 hi,D8a,A0s hi hm]
    have e1:A2F (l.take (i+1))=A2F (l.take i)++ [(el l i).ID]:=by
     rw [List.take_add_one,A4F hi];simp [A2F]
    have e2:(A2F (l.take i)).length=i:=by unfold A2F;grind
    rw [e1,e2,D8f (by grind),A2Y])
   (fun _=>by
    simp only [];unfold A0g;rw [D8h (D8D _),D8d,List.take_length])
  exact H.2 (fun _ _ _ h=>h)
 unfold B3b;rw [D5P,hi,D8a,D8a,B8p (A2F l) (by unfold A2F;grind),D8a,D8m,D8d]
 unfold B7u;refine (R6 (f:=fun s:Int=>A7q l l s) l.length (fun _=>False) false (some true) (fun i hi _=>⟨fun h=>h.elim,fun _=> ?_⟩) (fun _=> ?_)).2 fun _ _ h=>h
 ·unfold A7q;rw [D8f (by omega:(i:Int)<(l.length:Int)),D8e,J5 hi]
  simp [A0s hi hm,C7N _ (h _ (O4 hi))]
 ·unfold A7q;rw [D8h (D8D _),D8d]
end Go.Win
set_option maxHeartbeats 4000000
namespace Go.Win
open Go.Vc Go.Dec
def cb (u:Nat):List Int:=if u<128 then [(u:Int)] else ((128+u%128:Nat):Int)::cb (u/128)
termination_by u
decreasing_by omega
theorem B84 {u:Nat} (h:u<128):cb u= [(u:Int)]:=by rw [cb,if_pos h]
theorem B83 {u:Nat} (h:128<=u):cb u=((128+u%128:Nat):Int)::cb (u/128):=by rw [cb,if_neg (by omega)]
theorem D0p (u:Nat):1<=(cb u).length:=by
 by_cases h:u<128
 ·rw [B84 h];simp
 ·rw [B83 (by omega)];simp
def byt (l:List Int):Prop:= ∀x∈l,0<=x/\x<=255
def rdN:Nat->Nat->List Int->Option (Nat×Nat)
 |_,_, []=>none
 |i,u,x::l=>if 10<=i then none else if i=9/\1<x then none else if 128<=x then rdN (i+1) (u+(x.toNat%128)*128^i) l
  else if x=0/\0<i then none else some (u+x.toNat*128^i,i+1)
theorem C3W {i j:Nat} (h:i<=j):128^i<=128^j:=Nat.pow_le_pow_right (by decide) h
theorem D6Y (l:List Int): ∀(v i u:Nat),u+v*128^i<2^64->(0<i->0<v)->rdN i u (cb v++l)=some (u+v*128^i,i+(cb v).length):=by
 intro v
 induction v using Nat.strongRecOn with
 |_ v ih=>
  intro i u hlt hpos;have hi:i<10:=by
   apply D85;intro hn;have h1:=C3W (show 10<=i by omega)
   have h2:1<=v:=hpos (by omega)
   have h3:1*128^10<=v*128^i:=Nat.mul_le_mul h2 h1;have:(128:Nat)^10=1180591620717411303424:=by decide
   omega
  have h9:i=9->v<=1:=by
   intro h;subst h;apply D85;intro hn;have h3:2*128^9<=v*128^9:=D8y _ (by omega)
   have:(128:Nat)^9=9223372036854775808:=by decide
   omega
  by_cases h:v<128
  ·rw [B84 h];simp only [List.cons_append,List.nil_append,rdN,D8t,D8G];rw [if_neg (by omega),if_neg (by rintro ⟨a,b⟩;have:=h9 a;omega),if_neg (by omega),if_neg (by rintro ⟨a,b⟩;have:=hpos b;omega)]
   rfl
  ·rw [B83 (by omega)]
   simp only [List.cons_append,rdN,D8t];rw [if_neg (by omega),if_neg (by rintro ⟨a,b⟩;have:=h9 a;omega),if_pos (by omega)]
   have e1:(((128+v%128:Nat):Int)).toNat%128=v%128:=by rw [D8Q];omega
   have e2:u+v%128*128^i+v/128*128^(i+1)=u+v*128^i:=by
    have:v/128*128^(i+1)=128*(v/128)*128^i:=by rw [Nat.pow_succ];ac_rfl
    rw [this,Nat.add_assoc,<-Nat.add_mul]
    congr 2
    omega
   rw [e1,ih (v/128) (by omega) (i+1) _ (by rw [e2];exact hlt) (fun _=>by omega),e2]
   congr 2
   omega
def zz (n:Int):Nat:=if 0<=n then (2*n).toNat else (-2*n-1).toNat
def B5u (w:Nat):Int:=if w%2=0 then ((w/2:Nat):Int) else-((w/2:Nat):Int)-1
theorem C3e (n:Int):B5u (zz n)=n:=by unfold B5u zz;split<;>split<;>omega
theorem C8E (w:Nat):zz (B5u w)=w:=by unfold B5u zz;split<;>split<;>omega
theorem D3X {n:Int} (h:D6 .i64 n):zz n<2^64:=by
 simp [D6,Lit.wf,IntKind.min,IntKind.max,IntKind.signed,IntKind.bits] at h;unfold zz;split<;>omega
theorem D4Z {w:Nat} (h:w<2^64):D6 .i64 (B5u w):=by
 simp [D6,Lit.wf,IntKind.min,IntKind.max,IntKind.signed,IntKind.bits];unfold B5u;split<;>omega
def A1f (n:Int):List Int:=cb (zz n)
theorem C0r (n:Int):1<=(A1f n).length:=D0p _
def rd (l:List Int):Option (Int×Nat):=(rdN 0 0 l).map fun p=>(B5u p.1,p.2)
theorem B9m {n:Int} (h:D6 .i64 n) (l:List Int):rd (A1f n++l)=some (n,(A1f n).length):=by
 unfold rd A1f;rw [D6Y l (zz n) 0 0 (by have:=D3X h;simpa using this) (fun h=>absurd h (by omega))]
 simp [C3e]
def wr (ns:List Int):List Int:=ns.flatMap A1f
theorem B8Y:wr []= []:=rfl
theorem A9q (n:Int) (ns:List Int):wr (n::ns)=A1f n++wr ns:=rfl
theorem A32 (a b:List Int):wr (a++b)=wr a++wr b:=List.flatMap_append
theorem D1V (ns:List Int):ns.length<=(wr ns).length:=by
 induction ns with
 |nil=>simp [wr]
 |cons n ns ih=>
  rw [A9q,D8g,D8t];have:=C0r n;omega
def Q7 (ns:List Int):Prop:= ∀n∈ns,D6 .i64 n
end Go.Win
set_option maxHeartbeats 4000000
namespace Go.Win
open Go.Vc Go.Dec
theorem C8Q: ∀n:Fin 256,P7 .u8 (n.1:Int) 127=((n.1%128:Nat):Int):=by decide+kernel
theorem D1k: ∀n:Fin 256,N8 .u8 (n.1:Int) 128=((128+n.1%128:Nat):Int):=by decide+kernel
theorem D5q {x:Nat} (h:x<=255):P7 .u8 (x:Int) 127=((x%128:Nat):Int):=C8Q ⟨x,by omega⟩
theorem C9z {x:Nat} (h:x<=255):N8 .u8 (x:Int) 128=((128+x%128:Nat):Int):=D1k ⟨x,by omega⟩
theorem D1l (a b:Int):N8 .u64 a b=N8 .u64 b a:=by
 show IntKind.u64.wrap _=IntKind.u64.wrap _;rw [BitVec.or_comm]
theorem C40 {v m:Nat} (hv:v<18446744073709551616) (hm:m<=63):P7 .u64 (v:Int) ((2^m-1:Nat):Int)=((v%2^m:Nat):Int):=by
 show IntKind.u64.wrap _=_;have hbits:IntKind.u64.bits=64:=rfl;have hp:(2:Nat)^m<=2^63:=Nat.pow_le_pow_right (by decide) hm
 rw [hbits,IntKind.wrap_u64,BitVec.toNat_and,BitVec.toNat_ofInt,BitVec.toNat_ofInt];have e1:((((v:Int))%((2^64:Nat):Int)).toNat)=v:=by omega
 have e2:(((((2^m-1:Nat):Int))%((2^64:Nat):Int)).toNat)=2^m-1:=by omega
 rw [e1,e2,Nat.and_two_pow_sub_one_eq_mod];omega
theorem D7o {v:Nat} (hv:v<18446744073709551616):P7 .u64 (v:Int) 1=((v%2:Nat):Int):=C40 (m:=1) hv (by decide)
theorem D33 {v:Nat} (hv:v<18446744073709551616):P7 .u64 (v:Int) 127=((v%128:Nat):Int):=C40 (m:=7) hv (by decide)
theorem D3M {v:Nat} (hv:v<18446744073709551616):A8V .u64 (v:Int)=((18446744073709551615-v:Nat):Int):=by
 show IntKind.u64.wrap _=_;have hbits:IntKind.u64.bits=64:=rfl;rw [hbits,IntKind.wrap_u64];have e:BitVec.ofInt 64 (if IntKind.u64.signed then-1 else IntKind.u64.max)=BitVec.allOnes 64:=by decide
 rw [e,BitVec.allOnes_xor,BitVec.toNat_not,BitVec.toNat_ofInt];omega
theorem D7w {v:Nat} (hv:v<9223372036854775808):A8V .i64 (v:Int)= -(v:Int)-1:=by
 show IntKind.i64.wrap _=_;have hbits:IntKind.i64.bits=64:=rfl;rw [hbits,IntKind.wrap_i64];have e:BitVec.ofInt 64 (if IntKind.i64.signed then-1 else IntKind.i64.max)=BitVec.allOnes 64:=by decide
 rw [e,BitVec.allOnes_xor,BitVec.toNat_not,BitVec.toNat_ofInt];omega
theorem C1I (i:Nat):(128:Nat)^i=2^(7*i):=by rw [Nat.pow_mul]
def rdR (a:Nat):Option (Nat×Nat)->Int×Int×Bool
 |none=>(0,0,false)
 |some p=>(B5u p.1,((a+p.2:Nat):Int),true)
theorem D7z {u x i:Nat} (hu:u<128^i) (hi:i<=9) (hx:x<=255) (h9:i=9->x<=1):
  N8 .u64 (u:Int) (E5 .u64 (A5 (P7 .u8 (x:Int) 127)) (A5 (A1 (7*(i:Int)))))=((u+x%128*128^i:Nat):Int)/\u+x%128*128^i<18446744073709551616/\(i<=8->u+x%128*128^i<128^(i+1)):=by
 have b0:u+x%128*128^i<128^(i+1):=by
  have h1:x%128*128^i<=127*128^i:=D8y _ (by omega)
  omega
 have b1:u+x%128*128^i<18446744073709551616:=by
  by_cases h:i<=8
  ·have h1:=C3W (show i+1<=9 by omega)
   omega
  grind
 refine ⟨?_,b1,fun _=>b0⟩;have e1:A5 (A1 (7*(i:Int)))=((7*i:Nat):Int):=by rw [K2,C4]<;>omega
 have e2:A5 (((x%128:Nat):Int))=((x%128:Nat):Int):=by rw [K2];omega
 have e3:E5 .u64 ((x%128:Nat):Int) ((7*i:Nat):Int)=((x%128*2^(7*i):Nat):Int):=by
  rw [B0C _ (by omega)]
  have:(((x%128:Nat):Int))*2^(7*i)=((x%128*2^(7*i):Nat):Int):=by simp
  rw [this];rw [<-C1I];omega
 rw [e1,D5q hx,e2,e3,D1l,B6w (by rw [<-C1I];exact hu) (by rw [<-C1I];omega),<-C1I]
 omega
theorem D1u {l:List Int} (hb:byt l) (hl:l.length<=1099511627776) {a:Nat} (ha:a<=l.length): ∀(k i u:Nat),i+k=10->u<128^i->
  B37 l a u i=some (rdR a (rdN i u (l.drop (a+i)))):=by
 intro k
 induction k with
 |zero=>
  intro i u hi hu;have hi:i=10:=by omega
  subst hi;have e:rdN 10 u (l.drop (a+10))=none:=by
   cases h:l.drop (a+10) with
   |nil=>rfl
   |cons x m=>simp [rdN]
  rw [e]
  ·exact M5 rfl
 |succ k ih=>
  intro i u hi hu
  by_cases hlt:a+i<l.length
  ·have hx:=hb l[a+i] (D8Z hlt);obtain ⟨x,ex⟩:=Int.eq_ofNat_of_zero_le hx.1;have hx255:x<=255:=by omega
   have hd:l.drop (a+i)=(x:Int)::l.drop (a+(i+1)):=by rw [List.drop_eq_getElem_cons hlt,ex];rfl
   have hidx:B9 l (A1 ((a:Int)+(i:Int)))=some (x:Int):=by
    rw [C4 (by omega) (by omega),show ((a:Int)+(i:Int))=((a+i:Nat):Int) by omega,D4m hlt,ex]
   have hc:(decide ((i:Int)<10)&&decide (A1 ((a:Int)+(i:Int))<(l.length:Int)))=true:=by
    rw [C4 (by omega) (by omega),D8i,D8c,D8c];omega
   have hck:decide (0<=A5 (A1 (7*(i:Int))))=true:=by rw [D8c,K2];omega
   have hs:A1 ((i:Int)+1)=((i+1:Nat):Int):=by rw [C4]<;>omega
   rw [hd];unfold B37
   by_cases h9:i=9/\1<x
   ·have e:rdN i u ((x:Int)::l.drop (a+(i+1)))=none:=by
     simp only [rdN];rw [if_neg (by omega),if_pos (by omega)]
    rw [e];have h9' :(((i:Int)==9)&&decide ((x:Int)>1))=true:=by simp;omega
    ·refine M5 ?_;unfold A3F;rw [hc,D8e,hidx,D8a,h9',D8e];rfl
   ·have h9' :(((i:Int)==9)&&decide ((x:Int)>1))=false:=by simp;omega
    obtain ⟨p1,p2,p3⟩:=D7z (x:=x) hu (by omega) hx255 (by omega)
    by_cases h128:128<=x
    ·have e:rdN i u ((x:Int)::l.drop (a+(i+1)))=rdN (i+1) (u+x%128*128^i) (l.drop (a+(i+1))):=by
      simp only [rdN];rw [if_neg (by omega),if_neg (by omega),if_pos (by omega),D8Q]
     have r1:=ih (i+1) _ (by omega) (p3 (by omega))
     rw [e]
     ·rw [<-r1];refine M1 ?_;unfold A3F;simp only [];rw [hc,D8e,hidx,D8a,h9',D8d,K7 hck,D8f (by omega),D8e,p1,hs]
    ·by_cases h0:x=0/\0<i
     ·have e:rdN i u ((x:Int)::l.drop (a+(i+1)))=none:=by
       simp only [rdN];rw [if_neg (by omega),if_neg (by omega),if_neg (by omega),if_pos (by omega)]
      have h0' :(((x:Int)==0)&&decide ((i:Int)>0))=true:=by simp;omega
      rw [e]
      ·refine M5 ?_;unfold A3F;simp only [];rw [hc,D8e,hidx,D8a,h9',D8d,K7 hck,D8h (by omega),D8d,h0',D8e];rfl
     ·have e:rdN i u ((x:Int)::l.drop (a+(i+1)))=some (u+x%128*128^i,i+1):=by
       simp only [rdN];rw [if_neg (by omega),if_neg (by omega),if_neg (by omega),if_neg (by omega),D8Q,show x%128=x by omega]
      have h0' :(((x:Int)==0)&&decide ((i:Int)>0))=false:=by simp;omega
      rw [e]
      generalize hT:u+x%128*128^i=T at p1 p2⊢
      have q1:P7 .u64 (T:Int) 1=((T%2:Nat):Int):=D7o p2;have q2:A1 (G0 .u64 (T:Int) 1)=((T/2:Nat):Int):=by
       rw [show (1:Int)=((1:Nat):Int) from rfl,A9a _ (by omega),C4]<;>omega
      have q3:A1 (A1 ((a:Int)+(i:Int))+1)=((a+(i+1):Nat):Int):=by
       rw [C4 (n:=(a:Int)+(i:Int)) (by omega) (by omega),C4]<;>omega
      have q4:A8V .i64 ((T/2:Nat):Int)= -((T/2:Nat):Int)-1:=D7w (by omega)
      have q5:A1 (IntKind.i64.wrap (0-((T/2:Nat):Int))-1)= -((T/2:Nat):Int)-1:=by
       rw [show IntKind.i64.wrap (0-((T/2:Nat):Int))=A1 (0-((T/2:Nat):Int)) from rfl,C4 (n:=0-((T/2:Nat):Int)) (by omega) (by omega),C4]<;>omega
      ·refine M5 ?_;unfold A3F;simp only [];rw [hc,D8e,hidx,D8a,h9',D8d,K7 hck,D8h (by omega),D8d,h0',D8d,p1,q1,q2,q3,q4]
       unfold rdR B5u
       grind
  ·have hc:(decide ((i:Int)<10)&&decide (A1 ((a:Int)+(i:Int))<(l.length:Int)))=false:=by
    rw [C4 (by omega) (by omega),D81,D8r,D8r];omega
   have hd:l.drop (a+i)= []:=List.drop_eq_nil_of_le (by omega)
   rw [hd]
   ·refine M5 ?_;unfold A3F;simp only [];rw [hc,D8d];rfl
def rdA (l:List Int) (a:Nat):Int×Int×Bool:=match rd (l.drop a) with
 |none=>(0,0,false)
 |some p=>(p.1,((a+p.2:Nat):Int),true)
theorem D6g (l:List Int) (a:Nat):rdR a (rdN 0 0 (l.drop a))=rdA l a:=by
 unfold rdR rdA rd;cases rdN 0 0 (l.drop a)<;>rfl
theorem B45 {l:List Int} (hb:byt l) (hl:l.length<=1099511627776) {a:Nat} (ha:a<=l.length):A6V l a=some (rdA l a):=by
 unfold A6V;rw [D8h (by omega),D8h (by omega),Bool.or_self,D8d,<-D6g]
 exact (D1u hb hl ha 10 0 0 (by omega) (by decide))
theorem B0V (n:Int):IntKind.u8.wrap n=n%256:=IntKind.wrap_u8 n
theorem D5B {u:Nat}: ∀k,1<=k->u<128^k->(cb u).length<=k:=by
 intro k
 induction k generalizing u with
 |zero=>omega
 |succ k ih=>
  intro _ h
  by_cases h1:u<128
  ·rw [B84 h1];simp
  ·rw [B83 (by omega),D8t]
   grind
theorem B6n {n:Int} (h:D6 .i64 n):(A1f n).length<=10:=by
 refine D5B 10 (by decide) ?_
 have:=D3X h;omega
theorem C64: ∀(u:Nat) (v:List Int),u<18446744073709551616->v.length+(cb u).length<=1099511627776->
  M3 v u=some (v++cb u)/\A9W u v=some (v++cb u):=by
 intro u
 induction u using Nat.strongRecOn with
 |_ u ih=>
  intro v hu hl;have hcl:=D0p u
  by_cases h:u<128
  ·have e1:IntKind.u8.wrap (u:Int)=(u:Int):=by rw [B0V];omega
   rw [B84 h];unfold M3 A9W;constructor
   ·refine M5 ?_;unfold T5;simp only [];rw [D8h (by omega),D8d,K7 (by grind),e1];rfl
   ·refine M5 ?_;unfold A8Z;simp only [];rw [D8h (by omega),D8d,K7 (by grind),e1];rfl
  ·have e1:N8 .u8 (IntKind.u8.wrap (u:Int)) 128=((128+u%128:Nat):Int):=by
    rw [B0V,show (u:Int)%256=((u%256:Nat):Int) by omega,C9z (by omega)]
    omega
   have e2:N8 .u8 (IntKind.u8.wrap (P7 .u64 (u:Int) 127)) 128=((128+u%128:Nat):Int):=by
    rw [D33 hu,B0V,show ((u%128:Nat):Int)%256=((u%128:Nat):Int) by omega,C9z (by omega)]
    omega
   have e3:G0 .u64 (u:Int) 7=((u/128:Nat):Int):=by
    rw [show (7:Int)=((7:Nat):Int) from rfl,A9a _ (by omega)]
    omega
   have hc:cb u=((128+u%128:Nat):Int)::cb (u/128):=B83 (by omega)
   rw [hc,D8t] at hl;obtain ⟨r1,r2⟩:=ih (u/128) (by omega) (v++ [((128+u%128:Nat):Int)]) (by omega) (by grind)
   have e4:v++cb u=(v++ [((128+u%128:Nat):Int)])++cb (u/128):=by grind
   rw [e4];constructor
   ·rw [<-r1];refine M1 ?_;unfold T5;simp only [];rw [D8f (by omega),D8e,e1,K7 (by grind),e3]
   ·rw [<-r2];refine M1 ?_;unfold A8Z;simp only [];rw [D8f (by omega),D8e,e2,K7 (by grind),e3]
theorem S2 {n:Int}:D6 .i64 n↔ -9223372036854775808<=n/\n<=9223372036854775807:=by
 simp [D6,Lit.wf,IntKind.min,IntKind.max,IntKind.signed,IntKind.bits]
theorem D5c {n:Int} (h:D6 .i64 n) (hn:n<0):A8V .u64 (E5 .u64 (A5 n) 1)=(zz n:Int):=by
 have:=S2.1 h;have e:E5 .u64 (A5 n) 1=(((2*n)%18446744073709551616).toNat:Int):=by
  rw [show (1:Int)=((1:Nat):Int) from rfl,B0C _ (by omega),K2]
  omega
 rw [e,D3M (by omega)]
 unfold zz
 grind
theorem D5d {n:Int} (h:D6 .i64 n) (hn:0<=n):E5 .u64 (A5 n) 1=(zz n:Int):=by
 have:=S2.1 h;rw [show (1:Int)=((1:Nat):Int) from rfl,B0C _ (by omega),K2]
 unfold zz
 grind
end Go.Win
set_option maxHeartbeats 4000000
namespace Go.Win
open Go.Vc Go.Dec
theorem B8Z {ns:List Int} (h:Q7 ns):(wr ns).length<=10*ns.length:=by
 induction ns with
 |nil=>simp [wr]
 |cons n ns ih=>
  rw [A9q,D8g,D8t];have h1:=B6n (h n (by simp))
  have h2:=ih fun x hx=>h x (by simp [hx])
  omega
theorem A1u {a b:List Int}:Q7 (a++b)↔Q7 a/\Q7 b:=by
 constructor
 ·intro h;exact ⟨fun x hx=>h x (D8W.2 (.inl hx)),fun x hx=>h x (D8W.2 (.inr hx))⟩
 ·rintro ⟨h1,h2⟩ x hx;exact (D8W.1 hx).elim (h1 x) (h2 x)
theorem A44 {a:Int} {b:List Int}:Q7 (a::b)↔D6 .i64 a/\Q7 b:=by
 constructor
 ·intro h;exact ⟨h a (by simp),fun x hx=>h x (by simp [hx])⟩
 ·rintro ⟨h1,h2⟩ x hx;rcases List.mem_cons.1 hx with h|h
  ·subst h;exact h1
  ·exact h2 x h
theorem A1v:Q7 []:=fun _ h=>by cases h
def A8N (c:B7):List Int:= [c.Bj,c.Bp,c.W,c.K,c.Cap,c.P,c.Ao,c.Bu]
def A2B (c:B6):List Int:= [c.Op]++([c.ID]++(A8N c.Ap++([c.T]++([c.V]++(((c.Ba.length:Int)::c.Ba)++([c.Bh.Op]++([c.Bh.A]++([c.Bh.B]++(((c.Ay.length:Int)::c.Ay)++ [])))))))))
end Go.Win
set_option maxHeartbeats 4000000
namespace Go.Win
open Go.Vc Go.Dec
def L1 (b:List Int):List Int:=A1f (b.length:Int)++b
end Go.Win
set_option maxHeartbeats 4000000
namespace Go.Win
open Go.Vc Go.Dec
def C2A (e:B4) (i:Nat):Prop:=(K3 (el e.Ai i).Ac).2=true->(K3 (el e.Ai i).Ac).1=e.Now
def C0D (e:B4):Prop:=((0<=e.Now/\e.Now<=16777216)/\B5k e.Ai e.Be)/\ ∀i,i<e.Ai.length->C2A e i
theorem C8Y {e:B4} (hl:e.Ai.length<=maxLen) {i:Nat} (hi:i<e.Ai.length):
  (¬C2A e i->A0k e i=some (.inr 2))/\(¬ ¬C2A e i->A0k e i=some (.inl ((i+1:Nat):Int))):=by
 unfold A0k C2A;rw [D8f (by omega:(i:Int)<(e.Ai.length:Int)),D8e,J5 hi,D8a,A0s hi hl]
 dsimp only;cases h1:(K3 (el e.Ai i).Ac).2 with
 |false=>exact ⟨fun h=>absurd (fun h2=>by cases h2) h,fun _=>rfl⟩
 |true=>
  by_cases h2:(K3 (el e.Ai i).Ac).1=e.Now
  ·rw [h2,D8N];exact ⟨fun h=>absurd (fun _=>rfl) h,fun _=>rfl⟩
  ·have:((K3 (el e.Ai i).Ac).1 !=e.Now)=true:=by rw [bne_iff_ne];exact h2
   rw [this];exact ⟨fun _=>rfl,fun h=>absurd (fun h3=>h2 (h3 rfl)) h⟩
theorem C1X (e:B4):A93 e 0=A7Y e 0:=rfl
theorem A1K (e:B4) (hw:A6b e.Ai):X5 e=some (vOf (C0D e)):=by
 have hl:=G8 hw.1;unfold X5;rw [A7r e.Ai e.Be hw,C1X]
 by_cases h1:0<=e.Now/\e.Now<=16777216
 ·have e1:(decide (e.Now<0)||decide (e.Now>16777216))=false:=by rw [D8K,D8r,D8r];omega
  rw [e1];simp only [D8n,H7,D8a,D8B]
  by_cases h2:B5k e.Ai e.Be
  ·rw [A2z h2,D8m,D8d];have H:=R6 (f:=fun s:Int=>A0k e s) e.Ai.length (fun i=> ¬C2A e i) 2 (some 0)
    (fun i hi _=>C8Y hl hi)
    (fun _=>by
     unfold A0k;rw [D8h (D8D _),D8d])
   unfold A7Y
   by_cases h3: ∀i,i<e.Ai.length->C2A e i
   ·rw [H.2 fun i hi hn=>hn (h3 i hi),O3 ⟨⟨h1,h2⟩,h3⟩]
   ·rw [H.1 (A7d h3),J7 fun h=>h3 h.2]
  ·rw [X6 h2,J7 fun h=>h2 h.1.2]
   rfl
 ·have e1:(decide (e.Now<0)||decide (e.Now>16777216))=true:=by rw [D8l,D8c,D8c];omega
  rw [e1,J7 fun h=>h1 h.1.1]
  rfl
theorem D3a {e:B4} (w:A6b e.Ai):A9X e e=some true:=by
 unfold A9X;rw [beq_self_eq_true,beq_self_eq_true,Bool.and_self,H7,C7O e.Ai (Nat.le_succ_of_le w.1) fun r hr=>D2G (w.2 r hr)]
 rfl
end Go.Win
set_option maxHeartbeats 4000000
namespace Go.Win
open Go.Vc Go.Dec
end Go.Win
set_option maxHeartbeats 4000000
namespace Go.Win
open Go.Vc Go.Dec
def lN {α:Type} (g:α->List Int) (l:List α):List Int:=(l.length:Int)::l.flatMap g
def B9b (x:A8):List Int:= [x.T,x.V]
def B3o (x:A3):List Int:= [x.T,x.Bd]
def B9c (m:A6):List Int:= [m.Bx,m.T,m.N,m.S,m.Q,m.Bv,m.Bu]
def C2e (a:A2):List Int:= [A1 a.Hi,A1 a.Lo]
def C1o (x:G1):List Int:= [x.I,x.V]
def C6D (x:E0):List Int:= [x.V,x.G,x.D]
def C5h (x:B2):List Int:= [x.V,x.Bv,x.Bu]
def B5R (c:B5):List Int:= [c.W,c.Cap,c.I,c.Bm]++lN C1o c.Bf
def B5E (b:B1):List Int:= [b.T,b.Bl,b.Bd,b.Bi.N]++lN C5h b.Bi.Ae
end Go.Win
set_option maxHeartbeats 4000000
namespace Go.Win
open Go.Vc Go.Dec
theorem A69 {α:Type} {g:α->List Int} {l:List α} (hl:l.length<=1048576) (h:∀x∈l,Q7 (g x)):Q7 (lN g l):=by
 refine A44.2 ⟨S2.2 (by omega),fun n hn=> ?_⟩
 obtain ⟨x,hx,hn⟩:=D8O.1 hn;exact h x hx n hn
theorem G6 {a:Int} {l:List Int} (h:D6 .i64 a) (hl:Q7 l):Q7 (a::l):=A44.2 ⟨h,hl⟩
theorem D1R (n:Int):D6 .i64 (A1 n):=S2.2 (by rw [A8i];omega)
theorem C8f {x:A8} (w:B4a x):Q7 (B9b x):=G6 w.1 (G6 w.2 A1v)
theorem C3v {x:A3} (w:A7H x):Q7 (B3o x):=G6 w.1 (G6 w.2 A1v)
theorem C8i {x:A6} (w:B0g x):Q7 (B9c x):=G6 w.1 (G6 w.2.1 (G6 w.2.2.1 (G6 w.2.2.2.1 (G6 w.2.2.2.2.1 (G6 w.2.2.2.2.2.1 (G6 w.2.2.2.2.2.2 A1v))))))
theorem D48 (x:A2):Q7 (C2e x):=G6 (D1R _) (G6 (D1R _) A1v)
theorem D4t {x:G1} (w:B8U x):Q7 (C1o x):=G6 w.1 (G6 w.2 A1v)
theorem D6v {x:E0} (w:B7B x):Q7 (C6D x):=G6 w.1 (G6 w.2.1 (G6 w.2.2 A1v))
theorem D5H {x:B2} (w:B7A x):Q7 (C5h x):=G6 w.1 (G6 w.2.1 (G6 w.2.2 A1v))
theorem D2d {c:B5} (w:B2l c):Q7 (B5R c):=
 G6 w.1 (G6 w.2.1 (G6 w.2.2.1 (G6 w.2.2.2.1 (A69 w.2.2.2.2.1 fun x hx=>D4t (w.2.2.2.2.2 x hx)))))
theorem D2a {b:B1} (w:B2k b):Q7 (B5E b):=
 G6 w.1 (G6 w.2.1 (G6 w.2.2.1 (G6 w.2.2.2.1 (A69 w.2.2.2.2.1 fun x hx=>D5H (w.2.2.2.2.2 x hx)))))
theorem D0r {c:B7} (w:N0 c):Q7 (A8N c):=by
 obtain ⟨a,b,c',d,e,f,g,h⟩:=w;exact G6 a (G6 b (G6 c' (G6 d (G6 e (G6 f (G6 g (G6 h A1v)))))))
end Go.Win
set_option maxHeartbeats 4000000
namespace Go.Win
open Go.Vc Go.Dec
theorem C3R {s:A9} (h:A19 s):1<=s.Ap.Bj/\s.Ap.Bj<=11:=h.1.1
end Go.Win
set_option maxHeartbeats 4000000
namespace Go.Win
open Go.Vc Go.Dec
end Go.Win
set_option maxHeartbeats 4000000
namespace Go.Win
open Go.Vc Go.Dec
end Go.Win
set_option maxHeartbeats 4000000
namespace Go.Win
open Go.Vc Go.Dec
end Go.Win
set_option maxHeartbeats 4000000
namespace Go.Win
open Go.Vc Go.Dec
def B4r (r:F5):Prop:=r.Ak.Ax.length<=1048576/\r.Bt.length<=1048576/\r.Ay.length<=1048576
end Go.Win
set_option maxHeartbeats 4000000
namespace Go.Win
open Go.Vc Go.Dec
end Go.Win
set_option maxHeartbeats 4000000
namespace Go.Win
open Go.Vc Go.Dec
section
variable {l:List Int} (hb:byt l) (hl:l.length<=100000000)
include hb hl
end
end Go.Win
set_option maxHeartbeats 4000000
namespace Go.Win
open Go.Vc Go.Dec
section
variable {L:List Int} (hw:Q7 L) (hL:L.length<=100000000)
include hw hL
end
end Go.Win
set_option maxHeartbeats 4000000
namespace Go.Win
open Go.Vc Go.Dec
section
variable {L:List Int} (hw:Q7 L) (hL:L.length<=100000000)
include hw hL
end
end Go.Win
set_option maxHeartbeats 4000000
namespace Go.Win
open Go.Vc Go.Dec
section
variable {L:List Int} (hw:Q7 L) (hL:L.length<=100000000)
include hw hL
end
end Go.Win
set_option maxHeartbeats 4000000
namespace Go.Win
open Go.Vc Go.Dec
section
variable {L:List Int} (hw:Q7 L) (hL:L.length<=100000000)
include hw hL
end
end Go.Win
set_option maxHeartbeats 4000000
namespace Go.Win
open Go.Vc Go.Dec
end Go.Win
namespace Go.Win
open Go.Vc Go.Dec
set_option maxHeartbeats 4000000
set_option maxRecDepth 20000
theorem D2D (a b:Int):0<=E5 .u64 a b/\E5 .u64 a b<18446744073709551616:=U4 _
instance tsA {v:List Int} {n:Int}:TS (I6 v n) (v.length<=130000000000000) (fun r=>r.length<=v.length+10):=⟨fun h=>by
 have key: ∀u:Nat,u<18446744073709551616->T (M3 v u) fun r=>r.length<=v.length+10:=fun u hu=>by
  unfold M3;refine yL (fun s=> ∃u k:Nat,s.2=u/\1<=k/\u<128^k/\s.1.length+k<=v.length+10) (fun s=>s.2.toNat) ⟨u,10,rfl,by decide,Nat.lt_trans hu (by decide),D8S _⟩ ?_
  rintro ⟨w,_⟩ ⟨u,k,rfl,h1,h2,h3⟩;have e3:G0 .u64 (u:Int) 7=((u/128:Nat):Int):=by
   rw [show (7:Int)=((7:Nat):Int) from rfl,A9a _ (by omega)]
   omega
  dsimp only at h3⊢;unfold T5;rw [e3];refine yC (fun h=>yK (by simp;omega) (yI ⟨⟨u/128,k-1,rfl, ?_, ?_, ?_⟩, ?_⟩)) (fun h=>yP (yK (by simp;omega) (yI ?_)))
  all_goals simp only [D8c,D8r] at h
  ·grind
  ·rcases k with _|k
   ·omega
   grind
  ·grind
  ·omega
  grind
 obtain ⟨h1,h2⟩:=D2D (A5 n) 1;obtain ⟨x,hx⟩:=Int.eq_ofNat_of_zero_le h1;unfold I6 V6;rw [hx,D3M (by omega)]
 grind⟩
theorem D49 {M c i n:Nat} {v b:List Int} (h:i<n) (hv:v.length<=b.length+10+c*i) (hb:b.length+10+c*n<=M):v.length+c<=b.length+10+c*(i+1)/\v.length+c<=M:=by
 have:=Nat.mul_le_mul_left c (show i+1<=n by omega)
 grind
theorem wl (M:Nat) {α:Type} [Inhabited α] {f:α->List Int->Option (List Int)} {l:List α} {c:Nat} {b:List Int} (hf:∀x∈l,∀v:List Int,v.length+c<=M->T (f x v) fun r=>r.length<=v.length+c)
  (hl:l.length<=1048576) (hb:b.length+10+c*l.length<=M) {v0:List Int} (h0:v0.length<=b.length+10)
  {g:Int->List Int->Option ((Int×List Int)⊕List Int)}
  (hg:∀i v,g i v=cond (decide (i<(l.length:Int))) (Option.bind (B9 l i) fun x=>Option.bind (f x v) fun y=>some (.inl (A1 (i+1),y))) (Option.map Sum.inr (some v))):
  T (loop (fun s:Int×List Int=>g s.1 s.2) (0,v0)) fun r=>r.length<=b.length+10+c*l.length:=by
 refine yL (fun s=>0<=s.1/\s.1<=l.length/\s.2.length<=b.length+10+c*s.1.toNat) (fun s=>l.length-s.1.toNat) ⟨Int.le_refl _,by simp,by grind⟩ fun s ⟨h1,h2,h3⟩=> ?_
 rw [hg];refine yC (fun h=> ?_) (fun h=>yP (yI ?_))
 ·rw [D8c] at h;obtain ⟨i,hi⟩:=Int.eq_ofNat_of_zero_le h1;rw [hi] at h h3⊢;obtain ⟨a1,a2⟩:=D49 (c:=c) (n:=l.length) (show i<l.length by omega) (by simpa using h3) hb
  refine yB (yX ⟨by omega,h⟩ fun hm=>yB (yM (hf _ hm _ a2) fun r hr=>yI ?_))
  rw [(T2 (i:Int) (by omega)).1]
  grind
 grind
instance tsT9x1 {b:List Int} {p:Int} {f:Bool} {l:List A3}:TS (W8 b p f l) (l.length<=1048576/\b.length<=120000000000000) (fun r=>r.length<=b.length+10+20*l.length):=⟨fun ⟨h1,h2⟩=>by
 unfold W8 A1L;exact yB (yM (Q:=fun r=>_) (P:=fun r=>r.length<=b.length+10) (by exact yT) fun v hv=>wl 130000000000000 (f:=fun x v=>W3 x v p f) (c:=20) (fun x _ v hv=>by unfold W3;exact yT) h1 (by omega) hv (fun i v=>rfl))⟩
instance tsT9x2 {b:List Int} {p:Int} {f:Bool} {l:List A8}:TS (Z7 b p f l) (l.length<=1048576/\b.length<=120000000000000) (fun r=>r.length<=b.length+10+20*l.length):=⟨fun ⟨h1,h2⟩=>by
 unfold Z7 A2N;exact yB (yM (Q:=fun r=>_) (P:=fun r=>r.length<=b.length+10) (by exact yT) fun v hv=>wl 130000000000000 (f:=fun x v=>Y9 x v p f) (c:=20) (fun x _ v hv=>by unfold Y9;exact yT) h1 (by omega) hv (fun i v=>rfl))⟩
instance tsT9x3 {b:List Int} {p:Int} {f:Bool} {l:List A6}:TS (Z8 b p f l) (l.length<=1048576/\b.length<=120000000000000) (fun r=>r.length<=b.length+10+70*l.length):=⟨fun ⟨h1,h2⟩=>by
 unfold Z8 A2P;exact yB (yM (Q:=fun r=>_) (P:=fun r=>r.length<=b.length+10) (by exact yT) fun v hv=>wl 130000000000000 (f:=fun x v=>Z0 x v p f) (c:=70) (fun x _ v hv=>by unfold Z0;exact yT) h1 (by omega) hv (fun i v=>rfl))⟩
instance tsT9x4 {b:List Int} {p:Int} {f:Bool} {l:List B2}:TS (T9 b p f l) (l.length<=1048576/\b.length<=120000000000000) (fun r=>r.length<=b.length+10+30*l.length):=⟨fun ⟨h1,h2⟩=>by
 unfold T9 A2e;exact yB (yM (Q:=fun r=>_) (P:=fun r=>r.length<=b.length+10) (by exact yT) fun v hv=>wl 130000000000000 (f:=fun x v=>Y7 x v p f) (c:=30) (fun x _ v hv=>by unfold Y7;exact yT) h1 (by omega) hv (fun i v=>rfl))⟩
instance tsT9x5 {b:List Int} {p:Int} {f:Bool} {l:List G1}:TS (V1 b p f l) (l.length<=1048576/\b.length<=120000000000000) (fun r=>r.length<=b.length+10+20*l.length):=⟨fun ⟨h1,h2⟩=>by
 unfold V1 A2O;exact yB (yM (Q:=fun r=>_) (P:=fun r=>r.length<=b.length+10) (by exact yT) fun v hv=>wl 130000000000000 (f:=fun x v=>Y8 x v p f) (c:=20) (fun x _ v hv=>by unfold Y8;exact yT) h1 (by omega) hv (fun i v=>rfl))⟩
instance tsT9x6 {b:List Int} {p:Int} {f:Bool} {l:List E0}:TS (U0 b p f l) (l.length<=1048576/\b.length<=120000000000000) (fun r=>r.length<=b.length+10+30*l.length):=⟨fun ⟨h1,h2⟩=>by
 unfold U0 A2f;exact yB (yM (Q:=fun r=>_) (P:=fun r=>r.length<=b.length+10) (by exact yT) fun v hv=>wl 130000000000000 (f:=fun x v=>Z2 x v p f) (c:=30) (fun x _ v hv=>by unfold Z2;exact yT) h1 (by omega) hv (fun i v=>rfl))⟩
instance tsT9x7 {b:List Int} {p:Int} {f:Bool} {l:List Int}:TS (A09 b p f l) (l.length<=1048576/\b.length<=120000000000000) (fun r=>r.length<=b.length+10+10*l.length):=⟨fun ⟨h1,h2⟩=>by
 unfold A09 A4c;exact yB (yM (Q:=fun r=>_) (P:=fun r=>r.length<=b.length+10) (by exact yT) fun v hv=>wl 130000000000000 (f:=fun x v=>D3 v p f x) (c:=10) (fun x _ v hv=>by exact yT) h1 (by omega) hv (fun i v=>rfl))⟩
instance tsT9x8 {b:List Int} {p:Int} {f:Bool} {l:List A2}:TS (V2 b p f l) (l.length<=1048576/\b.length<=120000000000000) (fun r=>r.length<=b.length+10+20*l.length):=⟨fun ⟨h1,h2⟩=>by
 unfold V2 A2Q;refine yB (yM (Q:=fun r=>_) (P:=fun r=>r.length<=b.length+10) (by exact yT) fun v hv=>wl 130000000000000 (f:=fun x v=>(A0R v p f x).bind fun y=>some y.2) (c:=20) (fun x _ v hv=>by unfold A0R A2w;exact yT) h1 (by omega) hv (fun i v=> ?_))
 show U8 p f l i v=_;unfold U8
 grind⟩
theorem D0t (l:List Int) (h:l.length<=120000000000000):T (A1E l) fun _=>True:=by
 unfold A1E B3B;refine yL (fun s=>0<=s.2.2/\s.2.2<=l.length) (fun s=>l.length-s.2.2.toNat) ⟨Int.le_refl _,by simp⟩ fun s hs=> ?_
 unfold B1Z;simp only [T2 s.2.2 (by omega)]
 exact yT
end Go.Win
set_option maxHeartbeats 4000000
set_option maxRecDepth 20000
namespace Go.Win
open Go.Vc Go.Dec
instance tsEbx1 {s:A9} {q:L9}:TS (A0H s q) (X4 s/\S7 q) (fun r=>r.1.Ax.length<=16):=⟨fun h=>D14 s h.1 q (C9N h.2.1) (C9N h.2.2.1) (C9N h.2.2.2)⟩
instance tsEbx3 {l:List A7}:TS (A1J l) (A6b l) (fun r=>r.length<=1048576):=⟨fun h=>⟨_,D2x _ h.1,by simpa [A2F] using h.1⟩⟩
end Go.Win
set_option maxHeartbeats 4000000
set_option maxRecDepth 20000
namespace Go.Win
open Go.Vc Go.Dec
theorem C18 (n:Int): -9223372036854775808<=A1 n/\A1 n<9223372036854775808:=by
 rw [A8i];omega
instance tsEax1 {a b:Int}:TS (S8 a b) (1<=b/\b<=4611686018427387904) (fun r=>0<=r/\r<b):=⟨fun ⟨h1,h2⟩=>by
 unfold S8;have g1:=Int.tmod_lt_of_pos a (b:=b) (by omega)
 have g2: -b<Int.tmod a b:=Int.lt_tmod_of_pos a (by omega)
 refine yK (by rw [D8c];omega) (yC (fun h=>yI ?_) (fun h=>yI ?_))
 ·rw [D8c] at h;rw [C4 (by omega) (by omega)]
  omega
 ·rw [D8r] at h;omega⟩
instance tsEax2 {a b:Int}:TS (A3a a b) (1<=b/\b<=4611686018427387904) (fun r=>0<=r/\r<b):=⟨fun h=>yB (yS h fun _ h=>yI h)⟩
theorem D6b {a b c:Int} (h1:-9223372036854775808<=a/\a<9223372036854775808) (h2:0<=b/\b<9) (h3:0<=c/\c<9):S7 ⟨a,b,c⟩:=
 ⟨S2.2 (by dsimp only;omega),S2.2 (by dsimp only;omega),S2.2 (by dsimp only;omega)⟩
theorem B8v:S7 ⟨0,0,0⟩:=D6b (by decide) (by decide) (by decide)
end Go.Win
set_option maxHeartbeats 4000000
set_option maxRecDepth 20000
namespace Go.Win
open Go.Vc Go.Dec
def B7F (l:List A7):Prop:=l.Pairwise fun a b=>a.ID<b.ID
theorem B7M: ∀ {l:List A7},(∀i,i+1<l.length->(el l i).ID<(el l (i+1)).ID)↔B7F l
 | []=>⟨fun _=> .nil,fun _ i h=>by simp at h⟩
 | [x]=>⟨fun _=>List.pairwise_singleton _ _,fun _ i h=>by simp at h⟩
 |x::y::l=>by
  have ih:=B7M (l:=y::l);constructor
  ·intro h;have h1:=ih.1 fun i hi=>h (i+1) (by simp at hi⊢;omega)
   have h0:x.ID<y.ID:=h 0 (by simp)
   refine List.pairwise_cons.2 ⟨fun z hz=> ?_,h1⟩;rcases List.mem_cons.1 hz with rfl|hz
   ·exact h0
   ·have:=(List.pairwise_cons.1 h1).1 z hz;omega
  ·intro h i hi;obtain ⟨a,b⟩:=List.pairwise_cons.1 h;cases i with
   |zero=>exact a y (by simp)
   |succ i=>exact ih.2 b i (by simp at hi⊢;omega)
theorem C7W {l:List A7} (h:B7F l) (id:Int):(∀x∈l.take (W2 l id),x.ID<id)/\(∀x∈l.drop (W2 l id),id<=x.ID):=by
 have ha:Asc l:=fun i hi=>by rw [B32,B32];exact B7M.2 h i hi
 constructor
 ·intro x hx;obtain ⟨j,hj,rfl⟩:=List.mem_take_iff_getElem.1 hx;have hj' :j<l.length:=by omega
  have:=(C0p ha id _ (D8S _) j hj').2 (by unfold W2 at hj;omega)
  rw [B32,L8 hj'] at this;exact this
 ·intro x hx;obtain ⟨j,hj,rfl⟩:=List.mem_drop_iff_getElem.1 hx;have hj' :W2 l id+j<l.length:=by omega
  have: ¬rid l (W2 l id+j)<id:=fun h=>by
   have:=(C0p ha id _ (D8S _) _ hj').1 h;unfold W2 at this;omega
  rw [B32,L8 hj'] at this;omega
theorem D2w {l:List A7} (h:B7F l) (id:Int):A35 l id=true↔ ∃x∈l,x.ID=id:=by
 obtain ⟨h1,h2⟩:=C7W h id;constructor
 ·intro g;unfold A35 at g;simp only [D8i,D8c,D84] at g;exact ⟨_,O4 (show W2 l id<l.length by omega),g.2⟩
 ·rintro ⟨x,hx,rfl⟩;rw [<-List.take_append_drop (W2 l x.ID) l] at hx;rcases D8W.1 hx with g|g
  ·have:=h1 x g;omega
  ·have hlt:W2 l x.ID<l.length:=by
    have:=List.length_pos_of_mem g;rw [D8I] at this;omega
   unfold A35;rw [D8f (by omega),D8L,D84,B32,L8 hlt]
   rw [List.drop_eq_getElem_cons hlt] at g;rcases List.mem_cons.1 g with e|g'
   ·rw [<-e]
   ·have:=h2 _ (by rw [List.drop_eq_getElem_cons hlt];exact List.mem_cons_self)
    have hp:(l.drop (W2 l x.ID)).Pairwise fun a b=>a.ID<b.ID:=List.Pairwise.sublist (List.drop_sublist _ _) h;rw [List.drop_eq_getElem_cons hlt] at hp;have:=(List.pairwise_cons.1 hp).1 x g';omega
theorem D4q {l:List A7} {r:A7} (h:B7F l) (hn:A35 l r.ID=false):B7F (l.take (W2 l r.ID)++ [r]++l.drop (W2 l r.ID)):=by
 obtain ⟨h1,h2⟩:=C7W h r.ID;have h3: ∀x∈l.drop (W2 l r.ID),r.ID<x.ID:=fun x hx=>by
  have:=h2 x hx;rcases Int.lt_or_eq_of_le this with g|g
  ·exact g
  ·exfalso;have:=(D2w h r.ID).2 ⟨x,List.mem_of_mem_drop hx,g.symm⟩;rw [hn] at this;cases this
 have e:l.Pairwise fun a b=>a.ID<b.ID:=h;rw [<-List.take_append_drop (W2 l r.ID) l] at e;obtain ⟨p1,p2,p3⟩:=List.pairwise_append.1 e;refine List.pairwise_append.2 ⟨List.pairwise_append.2 ⟨p1,List.pairwise_singleton _ _,fun a ha b hb=> ?_⟩,p2,fun a ha b hb=> ?_⟩
 ·rw [List.mem_singleton.1 hb];exact h1 a ha
 ·rcases D8W.1 ha with g|g
  ·exact p3 a g b hb
  ·rw [List.mem_singleton.1 g];exact h3 b hb
theorem D4N {l:List A7} (h:B7F l) (i:Nat):B7F (l.take i++l.drop (i+1)):=by
 have e:l.Pairwise fun a b=>a.ID<b.ID:=h;rw [<-List.take_append_drop i l] at e;obtain ⟨p1,p2,p3⟩:=List.pairwise_append.1 e;have hs:(l.drop (i+1)).Sublist (l.drop i):=by
  rw [show i+1=i+1 from rfl,<-D88];exact List.drop_sublist _ _
 exact List.pairwise_append.2 ⟨p1,List.Pairwise.sublist hs p2,fun a ha b hb=>p3 a ha b (hs.mem hb)⟩
end Go.Win
set_option maxHeartbeats 4000000
set_option maxRecDepth 20000
namespace Go.Win
open Go.Vc Go.Dec
theorem kZ {p:Prop} (h:p:=by (repeat' first|assumption|exact fun g=>absurd k g|refine And.intro ?_ ?_)):p:=h
theorem kN {p:Prop} (h:p:=by (unfold K3;simp only [k,Int.reduceBEq,D8e,D8d];first|done|exact fun _=>trivial|exact fun _=>rfl|exact fun h=>by cases h)):p:=h
theorem D31 {s:A9} {n t:Int} (h:A19 s) (w:X4 s) (hc:(K3 s).2=true->(K3 s).1=n) (h1:n<=t) (h0:0<=t) (h2:t<=16777216):
  ∃r,A1q s t=some (r,0)/\A19 r/\X4 r/\((K3 r).2=true->(K3 r).1=t)/\r.Ap=s.Ap:=by
 have hv:=T4 s w;rw [O3 h] at hv;obtain ⟨cf,R,o1,o2,o3,o4,o5,o6,o7,o8,o9,o10,o11⟩:=h;have w0:=w;obtain ⟨w1,w2,w3,w4,w5,w6,w7,w8,w9,w10,w11⟩:=w;have fin: ∀r,A1q s t=some (r,0)->A9Z r->B0F r->X4 r->((K3 r).2=true->(K3 r).1=t)->r.Ap=s.Ap-> ∃r,A1q s t=some (r,0)/\A19 r/\X4 r/\((K3 r).2=true->(K3 r).1=t)/\r.Ap=s.Ap:=fun r a b c d e f=>⟨r,a,⟨by rw [f];exact cf,b,c⟩,d,e,f⟩
 unfold K3 at hc;unfold A1q at fin⊢;rw [hv,D8a] at fin⊢;rcases R with ⟨k,h⟩|⟨k,h⟩|⟨k,h⟩|⟨k,h⟩|⟨k,h⟩|⟨k,h⟩|⟨k,h⟩|⟨k,h⟩|⟨k,h⟩|⟨k,h⟩|⟨k,h⟩
 all_goals simp only [D8N,k,Int.reduceBEq,D8e,D8d,true_implies] at hc fin⊢
 ·obtain ⟨e,g,_⟩:=C8O h.1 (t:=t) (by omega) h2
  have q:(B1c s.Ar.Bc t s.Ar.W).length<=1048576:=Nat.le_trans (C8s g) (by decide)
  rw [e] at fin⊢;exact fin {s with Ar:=_} rfl (.inl ⟨k,g,h.2⟩) kZ kZ kN rfl
 ·obtain ⟨B,e,g,q⟩:=C4r h.1 (t:=t) (by omega) h2 w2
  rw [e] at fin⊢;exact fin {s with Az:=_} rfl (.inr (.inl ⟨k,g,h.2⟩)) kZ kZ kN rfl
 ·obtain ⟨B,e,g,q⟩:=C7y h.1 (t:=t) (by omega) h2 w3
  rw [e] at fin⊢;exact fin {s with Sum:=_} rfl (.inr (.inr (.inl ⟨k,g,h.2⟩))) kZ kZ kN rfl
 ·obtain ⟨B,e,g,q⟩:=C25 h.1 (t:=t) (by omega) h2 w4
  rw [e] at fin⊢;exact fin {s with Au:=_} rfl (.inr (.inr (.inr (.inl ⟨k,g,h.2⟩)))) kZ kZ kN rfl
 ·obtain ⟨B,e,g,q⟩:=C26 h.1 (t:=t) (by omega) h2 w5
  rw [e] at fin⊢;exact fin {s with Av:=_} rfl (.inr (.inr (.inr (.inr (.inl ⟨k,g,h.2⟩))))) kZ kZ kN rfl
 ·obtain ⟨e,g⟩:=C6f h.1 w6.2 (t:=t) (by omega) h2
  rw [e] at fin⊢;exact fin {s with Bn:=_} rfl (.inr (.inr (.inr (.inr (.inr (.inl ⟨k,g,h.2⟩)))))) kZ kZ kN rfl
 ·obtain ⟨L,e,g,q⟩:=C4s h.1 (t:=t) (by omega) h2
  have q' :L.length<=1048576:=by rw [q];exact w7
  rw [e] at fin⊢;exact fin {s with Bb:=_} rfl (.inr (.inr (.inr (.inr (.inr (.inr (.inl ⟨k,g,by show (L.length:Int)=_;rw [q];exact h.2⟩))))))) kZ kZ kN rfl
 ·obtain ⟨L,e,g⟩:=C1V h.1 (t:=t) (by omega) h2
  have q:=D4i g;rw [e] at fin⊢;exact fin {s with Af:=_} rfl (.inr (.inr (.inr (.inr (.inr (.inr (.inr (.inl ⟨k,g,h.2⟩)))))))) kZ kZ kN rfl
 ·have e:A0c t=true:=by unfold A0c;simp;omega
  rw [e] at fin⊢;exact fin s rfl (.inr (.inr (.inr (.inr (.inr (.inr (.inr (.inr (.inl ⟨k,h⟩))))))))) kZ w0 kN rfl
 ·have e:A0c t=true:=by unfold A0c;simp;omega
  rw [e] at fin⊢;exact fin s rfl (.inr (.inr (.inr (.inr (.inr (.inr (.inr (.inr (.inr (.inl ⟨k,h⟩)))))))))) kZ w0 kN rfl
 ·obtain ⟨B,e,g,q,_⟩:=C0M h.1 w11 (t:=t) (by omega) h2
  rw [e] at fin⊢;exact fin {s with Ab:=_} rfl (.inr (.inr (.inr (.inr (.inr (.inr (.inr (.inr (.inr (.inr ⟨k,g,h.2⟩)))))))))) kZ kZ kN rfl
end Go.Win
set_option maxHeartbeats 4000000
set_option maxRecDepth 20000
namespace Go.Win
open Go.Vc Go.Dec
end Go.Win
set_option maxHeartbeats 4000000
set_option maxRecDepth 20000
namespace Go.Win
open Go.Vc Go.Dec
end Go.Win
namespace Go.Win
open Go.Vc Go.Dec
def W {α:Type} (m:Option α) (Q:α->Prop):Prop:= ∀r,m=some r->Q r
theorem wI {α:Type} {a:α} {Q:α->Prop} (h:Q a):W (some a) Q:=fun r e=>by cases e;exact h
theorem wB {α β:Type} {m:Option α} {k:α->Option β} {Q:β->Prop} (h:∀a,W (k a) Q):W (Option.bind m k) Q:=fun r e=>by
 cases m with
 |none=>cases e
 |some a=>exact h a r e
theorem wS {α β:Type} {m:Option α} {k:α->Option β} {P:α->Prop} {Q:β->Prop} (g:W m P) (h:∀a,P a->W (k a) Q):W (Option.bind m k) Q:=fun r e=>by
 cases m with
 |none=>cases e
 |some a=>exact h a (g a rfl) r e
theorem wC {α:Type} {b:Bool} {x y:Option α} {Q:α->Prop} (h1:b=true->W x Q) (h2:b=false->W y Q):W (cond b x y) Q:=by
 cases b with
 |true=>exact h1 rfl
 |false=>exact h2 rfl
theorem wK {α:Type} {b:Bool} {m:Option α} {Q:α->Prop} (h:W m Q):W (ck b m) Q:=fun r e=>by
 cases b with
 |true=>exact h r e
 |false=>cases e
theorem wP {α β:Type} {m:Option α} {k:α->β} {Q:β->Prop} (h:W m fun a=>Q (k a)):W (Option.map k m) Q:=fun r e=>by
 cases m with
 |none=>cases e
 |some a=>cases e;exact h a rfl
theorem wL {S R:Type} {f:S->Option (S⊕R)} {s:S} {Q:R->Prop} (I:S->Prop) (h0:I s) (h: ∀s,I s->W (f s) fun x=>match x with
   | .inl s' =>I s'
   | .inr r=>Q r):W (loop f s) Q:=fun r e=>by
 obtain ⟨n,g⟩:=B4O e
 clear e
 induction n generalizing s with
 |zero=>cases g
 |succ n ih=>
  unfold M7 at g;cases k:f s with
  |none=>rw [k] at g;cases g
  |some x=>
   have hx:=h s h0 _ k;rw [k] at g;cases x with
   |inl s' =>exact ih hx g
   |inr q=>cases g;exact hx
end Go.Win
namespace Go.Win
open Go.Vc Go.Dec
set_option maxHeartbeats 4000000
set_option maxRecDepth 20000
instance (priority:=2000) tsT9sx1 {b:List Int} {p:Int} {f:Bool} {l:List B1}:TS (T7 b p f l) ((l.length<=42/\ ∀x∈l,x.Bi.Ae.length<=49)/\b.length<=100000000000000) (fun r=>r.length<=b.length+10+1530*l.length):=⟨fun ⟨h1,h2⟩=>by
 unfold T7 A2c;refine yB (yM (Q:=fun r=>_) (P:=fun r=>r.length<=b.length+10) (by exact yT) fun v hv=>wl 110000000000000 (f:=fun x v=>Z3 x v p f) (c:=1530) (fun x hx v hv=> ?_) (by omega) (by omega) hv (fun i v=>rfl))
 have:=h1.2 x hx;unfold Z3 A4l;exact yT⟩
instance (priority:=2000) tsT9sx2 {b:List Int} {p:Int} {f:Bool} {l:List B5}:TS (T8 b p f l) ((l.length<=16/\ ∀x∈l,x.Bf.length<=64)/\b.length<=100000000000000) (fun r=>r.length<=b.length+10+1400*l.length):=⟨fun ⟨h1,h2⟩=>by
 unfold T8 A2d;refine yB (yM (Q:=fun r=>_) (P:=fun r=>r.length<=b.length+10) (by exact yT) fun v hv=>wl 110000000000000 (f:=fun x v=>Z1 x v p f) (c:=1400) (fun x hx v hv=> ?_) (by omega) (by omega) hv (fun i v=>rfl))
 have:=h1.2 x hx;unfold Z1 A4m;exact yT⟩
def QS (c:B7):Prop:=c.Cap<=61/\c.K<=3
theorem C9V {k c:Int} (hk:1<=k/\k<=3) (hc:1<=c/\c<=61): ∃b sz:Nat,A5m k c=some (sz:Int)/\c<2^b/\b<=6/\sz<=48:=by
 obtain ⟨b,g1,g2,g3,g4,g5,g6⟩:=C2q (x:=c) (by omega) (by omega)
 have b6:b<=6:=Nat.le_of_not_lt fun hb=>by
  have h2:(2:Nat)^6<=2^(b-1):=Nat.pow_le_pow_right (by decide) (by omega)
  have:(2:Int)^6<=2^(b-1):=by exact_mod_cast h2
  omega
 have m:=Int.mul_le_mul (show 2*k<=6 by omega) (show (b:Int)+2<=8 by omega) (by omega) (by decide)
 have m0:=Int.mul_nonneg (a:=2*k) (b:=(b:Int)+2) (by omega) (by omega)
 refine ⟨b,(2*k*((b:Int)+2)).toNat, ?_,g6,b6,by omega⟩
 unfold A5m;have e:(((!(U3 k))||(decide (c<(1:Int))))||(decide (c>(65536:Int))))=false:=by
  rw [(C5J k).2 (by omega)];simp;omega
 simp only [e,D8d,g2,D8a];rw [C4 (n:=2*k) (by omega) (by omega),C4 (n:=(b:Int)+2) (by omega) (by omega),C4 (by omega) (by omega),Int.toNat_of_nonneg m0]
theorem D3e {s:A9} (hv:A19 s) (w:X4 s) (q:QS s.Ap):B6l s<=64/\s.As.Ao.length<=16/\(∀c∈s.As.Ao,c.Bf.length<=64)/\s.Ab.Al.length<=42/\ ∀x∈s.Ab.Al,x.Bi.Ae.length<=49:=by
 obtain ⟨hc,hr,ho1,ho2,ho3,ho4,ho5,ho6,ho7,ho8,ho9,ho10,ho11⟩:=hv;obtain ⟨w1,w2,w3,w4,w5,w6,w7,w8,w9,w10,w11⟩:=w;obtain ⟨q1,q2⟩:=q;have z1:s.Ap.Bj=1\/s.Ar.Bc.length=0:=(Decidable.em _).imp_right fun h=>(ho1 h).2.2.2;have z2:s.Ap.Bj=2\/s.Az.Ad.length=0:=(Decidable.em _).imp_right fun h=>(ho2 h).2.2.2.2;have z3:s.Ap.Bj=3\/s.Sum.Ad.length=0:=(Decidable.em _).imp_right fun h=>(ho3 h).2.2.2.2.2;have z4:s.Ap.Bj=4\/s.Au.Bg.length=0:=(Decidable.em _).imp_right fun h=>(ho4 h).2.2.2.2.2.2;have z5:s.Ap.Bj=5\/s.Av.Bg.length=0:=(Decidable.em _).imp_right fun h=>(ho5 h).2.2.2.2.2;have z6:s.Ap.Bj=6\/s.Bn.Ag.length=0:=(Decidable.em _).imp_right fun h=>(ho6 h).2.2.2;have z7:s.Ap.Bj=7\/s.Bb.Bo.length=0:=(Decidable.em _).imp_right fun h=>(ho7 h).2;have z8:s.Ap.Bj=8\/s.Af.Bc.length=0:=(Decidable.em _).imp_right fun h=>(ho8 h).2.2.2.2;have z9:s.Ap.Bj=9\/s.As.Ao.length=0:=(Decidable.em _).imp_right fun h=>ho9 h;have z10:s.Ap.Bj=10\/s.Aj.Aw.length=0:=(Decidable.em _).imp_right fun h=>(ho10 h).2.2.2;have z11:s.Ap.Bj=11\/s.Ab.Al.length=0:=(Decidable.em _).imp_right fun h=>(ho11 h).2.2.2.2;have e9:s.Ap.Bj≠9-> ∀c∈s.As.Ao,c.Bf.length<=64:=fun h c m=>by
  rw [D8V (z9.resolve_left h)] at m;cases m
 have e11:s.Ap.Bj≠11-> ∀x∈s.Ab.Al,x.Bi.Ae.length<=49:=fun h c m=>by
  rw [D8V (z11.resolve_left h)] at m;cases m
 unfold A3w at hc;unfold B6l;rcases hr with ⟨k,h⟩|⟨k,h⟩|⟨k,h⟩|⟨k,h⟩|⟨k,h⟩|⟨k,h⟩|⟨k,h⟩|⟨k,h⟩|⟨k,h⟩|⟨k,h⟩|⟨k,h⟩
 ·have:=(B3s _).1 h.1;exact ⟨by omega,by omega,e9 (by omega),by omega,e11 (by omega)⟩
 ·have a:=B6Q (A6x h.1.2.1).2.2;have b:=h.1.2.2.1;rw [C3d w2] at b;exact ⟨by omega,by omega,e9 (by omega),by omega,e11 (by omega)⟩
 ·have a:=B6Q (A6x h.1.1.2.1).2.2;have b:=h.1.1.2.2.1;rw [C3d w3] at b;exact ⟨by omega,by omega,e9 (by omega),by omega,e11 (by omega)⟩
 ·have a:=(B9d (C9W h.1).1).2 (by omega)
  exact ⟨by omega,by omega,e9 (by omega),by omega,e11 (by omega)⟩
 ·obtain ⟨hp,hm,_⟩:=h.1;have a:=(B9d (C1t hp.2.1.2 (by decide) hm)).2 (by omega)
  exact ⟨by omega,by omega,e9 (by omega),by omega,e11 (by omega)⟩
 ·have:=h.1.1;exact ⟨by omega,by omega,e9 (by omega),by omega,e11 (by omega)⟩
 ·exact ⟨by omega,by omega,e9 (by omega),by omega,e11 (by omega)⟩
 ·have:=h.1.1;exact ⟨by omega,by omega,e9 (by omega),by omega,e11 (by omega)⟩
 ·refine ⟨by omega,by omega,fun c m=> ?_,by omega,e11 (by omega)⟩
  obtain ⟨q,hq,ok⟩:=A1s s.As (G8 w9.1) fun c hc=>G8 (w9.2 c hc);rw [show Q0 s.As=some 0 from h.1] at hq;obtain ⟨q',hq',g⟩:=A24 c (G8 (w9.2 c m));rw [(ok (D8T hq).symm).2.2 c m] at hq';have:=g (D8T hq').symm;omega
 ·have:=h.1.1;unfold B1B at this;exact ⟨by omega,by omega,e9 (by omega),by omega,e11 (by omega)⟩
 ·obtain ⟨⟨hp,hb,ht,_⟩,g1,g2,g3⟩:=h;obtain ⟨b,sz,s1,s2,s3,s4⟩:=C9V (k:=s.Ab.K) (c:=s.Ab.Cap) (by omega) (by omega)
  obtain ⟨_,bk,each⟩:=hb _ s1;rw [B8P w11.1] at ht;have n:=C47 bk (cap:=s.Ab.Cap) (b:=b) ht s2;rw [A1x] at n;have m:=Int.mul_le_mul (show (b:Int)<=6 by omega) (show 2*s.Ab.K+1<=7 by omega) (by omega) (by decide)
  refine ⟨by omega,by omega,e9 (by omega),by omega,fun x hx=> ?_⟩
  obtain ⟨i,hi,rfl⟩:=A2l hx;have:=(each i hi).2.2.1;omega
instance (priority:=2000) tsT9sx3 {b:List Int} {p:Int} {f:Bool} {s:A9}:TS (A0M b p f s) (A19 s/\(X4 s/\QS s.Ap)/\b.length<=90000000000000) (fun r=>r.2.2.length<=b.length+66000):=⟨fun ⟨h1,h2,h3⟩=>by
 obtain ⟨hf,hc,h9,hq,hx⟩:=D3e h1 h2.1 h2.2;obtain ⟨w1,w2,w3,w4,w5,w6,w7,w8,w9,w10,w11⟩:=h2.1;unfold B6l at hf
 clear h1 h2
 unfold A0M;exact yT⟩
theorem D3w {e:B4} (ok:C0D e) (w:A6b e.Ai/\ ∀r∈e.Ai,QS r.Ac.Ap) (h6:e.Be<=6):T (A0N 0 e) fun r=>r.2.2.length<=400000:=by
 have h64:e.Ai.length<=6:=by have:=ok.1.2.1;omega
 have i2: ∀n,TS (A7D n) True (fun r=>r.length<=10):=fun n=>⟨fun _=>by
  have:=(tsA (v:= []) (n:=n)).pf (by simp)
  have this:T (I6 [] n) fun r=>r.length<=10:=by simpa using this
  exact this⟩
 have lp: ∀l v f,l.length=e.Ai.length->(∀r∈l,A19 r.Ac/\(X4 r.Ac/\QS r.Ac.Ap))->v.length<=1000->TS (A2K 0 e l 0 v f) True (fun r=>r.2.2.length<=400000):=fun l v f h1 h2 h3=>⟨fun _=>by
  obtain ⟨C,hC⟩: ∃C:Nat,C=66100:=⟨_,rfl⟩;unfold A2K;refine yL (fun s=>(0<=s.2.1/\s.2.1<=e.Ai.length)/\s.1.length=e.Ai.length/\(∀i:Nat,s.2.1<=i->i<s.1.length->A19 (el s.1 i).Ac/\(X4 (el s.1 i).Ac/\QS (el s.1 i).Ac.Ap))/\s.2.2.1.length<=1000+C*s.2.1.toNat) (fun s=>e.Ai.length-s.2.1.toNat)
   ⟨⟨Int.le_refl _,by simp⟩,h1,fun i _ hi=>h2 _ (O4 hi),by show v.length<=1000+C*0;omega⟩ fun s ⟨a1,a2,a3,a4⟩=> ?_
  obtain ⟨l,n,v,f⟩:=s;dsimp only at a1 a2 a3 a4⊢;obtain ⟨i,rfl⟩:=Int.eq_ofNat_of_zero_le a1.1;have hw:=(T2 (i:Int) (by omega)).1
  have a4:v.length<=1000+C*i:=a4;have a5:C*i<=C*6:=Nat.mul_le_mul_left C (by omega)
  have a6:C*(i+1)=C*i+C:=Nat.mul_succ C i;unfold A4W;refine yC (fun h=> ?_) (fun h=>yP (yI (by show v.length<=_;omega)))
  rw [D8i,D8c] at h;have hlt:i<l.length:=by omega
  have e0:B9 l (i:Int)=some (el l i):=J5 hlt;have e1:l.set i (el l i)=l:=by rw [L8 hlt];exact List.set_getElem_self hlt
  obtain ⟨g1,g2⟩:=a3 i (Int.le_refl _) hlt;have hs: ∀(x:A7) (j:Nat),(i:Int)+1<=j->j<(l.set i x).length->A19 (el (l.set i x) j).Ac/\(X4 (el (l.set i x) j).Ac/\QS (el (l.set i x) j).Ac.Ap):=fun x j h1 h2=>by
   rw [D9a] at h2;have e:el (l.set i x) j=el l j:=by
    rw [L8 (by rw [D9a];exact h2),L8 h2,List.getElem_set_ne (by omega)]
   rw [e];exact a3 j (by omega) h2
  have hs' : ∀j:Nat,(i:Int)+1<=j->j<l.length->A19 (el l j).Ac/\(X4 (el l j).Ac/\QS (el l j).Ac.Ap):=fun j h1 h2=>a3 j (by omega) h2
  have en:((i:Int)+1).toNat=i+1:=by omega
  have cf: ∀v1:List Int,v1.length<=20000000000000->T (Z4 v1 0 f (el l i).Ac.Ap) fun r=>r.length<=v1.length+80:=fun v1 h=>by
   unfold Z4;exact yT
  simp only [e0,D8a,D8Q,e1,hw];refine yB (yM (P:=fun r=>r.length<=v.length+10) (by exact yT) fun v1 hv1=>yB (yM (cf v1 (by omega)) fun v2 hv2=>yC (fun _=>yB (yS ⟨g1,g2,by omega⟩ fun y hy=>yI ?_)) (fun _=>yI ?_)))
  ·have hy:y.2.2.length<=v2.length+66000:=hy;refine ⟨⟨⟨by show 0<=(i:Int)+1;omega,by show (i:Int)+1<=_;omega⟩,by show (l.set i _).length=_;rw [D9a];exact a2,hs _, ?_⟩, ?_⟩
   ·dsimp only;rw [en];omega
   ·show e.Ai.length-((i:Int)+1).toNat<e.Ai.length-(i:Int).toNat;omega
  ·refine ⟨⟨⟨by show 0<=(i:Int)+1;omega,by show (i:Int)+1<=_;omega⟩,a2,hs', ?_⟩, ?_⟩
   ·dsimp only;rw [en];omega
   ·show e.Ai.length-((i:Int)+1).toNat<e.Ai.length-(i:Int).toNat;omega⟩
 have hl: ∀z:A7,laid (List.replicate e.Ai.length z) 0 (e.Ai.take (List.replicate e.Ai.length z).length)=e.Ai:=fun z=>by
  unfold laid;simp
 have hr: ∀r∈e.Ai,A19 r.Ac/\(X4 r.Ac/\QS r.Ac.Ap):=fun r hr=>by
  obtain ⟨i,hi,rfl⟩:=A2l hr;exact ⟨(ok.1.2.2 i hi).2.2,w.1.2 _ hr,w.2 _ hr⟩
 unfold A0N;simp only [D8Q,hl];refine yB (yM (P:=fun r=>r.length<=10) (by exact yT) fun v1 h1=>yB (yM (P:=fun r=>r.length<=20) (by exact yT) fun v2 h2=>yB (yM (P:=fun r=>r.length<=30) (by exact yT) fun v3 h3=>yB (yM (P:=fun r=>r.length<=40) (by exact yT) fun v4 h4=> ?_))))
 have:=fun f=>lp e.Ai v4 f rfl hr (by omega)
 exact yT
theorem D5s (v:List Int) (n:Int):W (I6 v n) fun r=>0<r.length:=by
 have key: ∀u,W (M3 v u) fun r=>0<r.length:=fun u=>by
  unfold M3;refine wL (fun _=>True) trivial fun s _=> ?_;unfold T5;exact wC (fun _=>wK (wI trivial)) (fun _=>wP (wK (wI (by simp))))
 unfold I6 V6;exact wC (fun _=>key _) (fun _=>key _)
theorem B72 {e:B4} (ok:C0D e) (w:A6b e.Ai) (q:∀r∈e.Ai,QS r.Ac.Ap) (h6:e.Be<=6):T (Y3 e) fun r=>r.2=0/\0<r.1.length/\r.1.length<=500000:=by
 unfold Y3;rw [A1K e w,O3 ok,D8a,D8N,D8d];refine yB (yM (D3w ok ⟨w,q⟩ h6) fun x hx=>yB (yM (D0t _ (by omega)) fun k _=> ?_))
 obtain ⟨r,hr,hl⟩:=(inferInstance:TS (I6 x.2.2 k) _ _).pf (by omega)
 refine yB ⟨r,hr, ?_⟩;dsimp only;rw [D8h (by omega),D8d]
 exact yI ⟨rfl,D5s _ _ _ hr,by show r.length<=_;omega⟩
end Go.Win
set_option maxHeartbeats 4000000
set_option maxRecDepth 20000
namespace Go.Win
open Go.Vc Go.Dec
theorem C7Y {l:List Int} {x:Int} (h:byt l) (hx:0<=x/\x<=255):byt (l++ [x]):=fun y hy=>by
 rcases D8W.1 hy with hy|hy
 ·exact h y hy
 ·rw [List.mem_singleton.1 hy];exact hx
theorem A3A:byt []:=fun x hx=>by cases hx
theorem D1M (n:Int):0<=IntKind.u8.wrap n/\IntKind.u8.wrap n<=255:=by rw [B0V];omega
theorem bA {v:List Int} {n:Int} (h:byt v):W (I6 v n) byt:=by
 have key: ∀u,W (M3 v u) byt:=fun u=>by
  unfold M3;refine wL (fun s=>byt s.1) h fun s hs=> ?_;unfold T5;exact wC (fun _=>wK (wI (C7Y hs (D1M _)))) fun _=>wP (wK (wI (C7Y hs (D1M _))))
 unfold I6 V6;exact wC (fun _=>key _) fun _=>key _
class BW {α:Type} (m:Option α) (H:outParam Prop) (Q:outParam (α->Prop)):Prop where pf:H->W m Q
end Go.Win
set_option maxHeartbeats 4000000
set_option maxRecDepth 20000
namespace Go.Win
open Go.Vc Go.Dec
noncomputable def nz (n:Int):Int:=B5u (cond (decide (n<0)) (A8V .u64 (E5 .u64 (A5 n) 1)) (E5 .u64 (A5 n) 1)).toNat
theorem C5P (n:Int):0<=cond (decide (n<0)) (A8V .u64 (E5 .u64 (A5 n) 1)) (E5 .u64 (A5 n) 1)/\cond (decide (n<0)) (A8V .u64 (E5 .u64 (A5 n) 1)) (E5 .u64 (A5 n) 1)<18446744073709551616:=by
 cases decide (n<0)
 ·exact U4 _
 ·exact U4 _
theorem B6G (n:Int):D6 .i64 (nz n):=D4Z (by have:=C5P n;omega)
theorem C1z {n:Int} (h:D6 .i64 n):nz n=n:=by
 unfold nz
 by_cases hn:n<0
 ·rw [D8f hn,D8e,D5c h hn,D8Q,C3e]
 ·rw [D8h hn,D8d,D5d h (by omega),D8Q,C3e]
theorem B6i {v:List Int} {n:Int} (hl:v.length<=1000000000000):I6 v n=some (v++wr [nz n]):=by
 have e:I6 v n=M3 v (cond (decide (n<0)) (A8V .u64 (E5 .u64 (A5 n) 1)) (E5 .u64 (A5 n) 1)):=by
  unfold I6 V6;cases decide (n<0)<;>rfl
 have hr:=C5P n;have c10:=B6n (B6G n);obtain ⟨u,hu⟩:=Int.eq_ofNat_of_zero_le hr.1;have hc:A1f (nz n)=cb u:=by
  unfold A1f nz;rw [hu,D8Q,C8E]
 rw [e,hu];rw [hc] at c10;have:=(C64 u v (by omega) (by omega)).1
 rw [this];simp [wr,hc]
def Wo (v ns r:List Int):Prop:=r=v++wr ns/\r.length<=v.length+10*ns.length/\Q7 ns
theorem wo {v ns:List Int} (h:Q7 ns):Wo v ns (v++wr ns):=⟨rfl,by rw [D8g];have:=B8Z h;omega,h⟩
theorem nz1 (n:Int):Q7 [nz n]:=fun x hx=>by rw [List.mem_singleton.1 hx];exact B6G n
instance cw0 {v:List Int} {n:Int}:TS (I6 v n) (v.length<=1000000000000) (Wo v [nz n]):=⟨fun h=>⟨_,B6i h,wo (nz1 n)⟩⟩
instance cw1 {v:List Int} {a n:Int}:TS (I3 v a n) (v.length<=1000000000000) (Wo v [nz n]):=⟨fun h=>by unfold I3;exact yB (yM (cw0.pf h) fun _ hr=>yI hr)⟩
instance cw2 {v:List Int} {a n p q:Int}:TS (Q6 p q v a n) (v.length<=1000000000000) (Wo v [nz n]):=⟨fun h=>by unfold Q6;exact yB (yM (cw1.pf h) fun _ hr=>yI hr)⟩
theorem cwl {l:List Int} {f:Int->List Int->Option (List Int)} (hl:l.length<=1048576) (hf:∀x∈l,∀v:List Int,v.length<=1000000000000->T (f x v) (Wo v [nz x])) {v0:List Int} (h0:v0.length<=100000000000)
  {g:Int->List Int->Option ((Int×List Int)⊕List Int)}
  (hg:∀i v,g i v=cond (decide (i<(l.length:Int))) (Option.bind (B9 l i) fun x=>Option.bind (f x v) fun y=>some (.inl (A1 (i+1),y))) (Option.map Sum.inr (some v))):
  T (loop (fun s:Int×List Int=>g s.1 s.2) (0,v0)) (Wo v0 (l.map nz)):=by
 have hw: ∀m:List Int,Q7 (m.map nz):=fun m x hx=>by obtain ⟨y,_,rfl⟩:=List.mem_map.1 hx;exact B6G y
 refine yL (fun s=> ∃i:Nat,s.1=i/\i<=l.length/\s.2=v0++wr ((l.take i).map nz)) (fun s=>l.length-s.1.toNat) ⟨0,rfl,Nat.zero_le _,by simp [wr]⟩ ?_
 rintro ⟨_,_⟩ ⟨i,rfl,h1,rfl⟩;rw [hg];refine yC (fun h=> ?_) (fun h=>yP (yI ?_))
 ·rw [D8c] at h;have h:i<l.length:=by dsimp only at h;omega
  have b:=B8Z (hw (l.take i));rw [D8X,D8C] at b;have e:B9 l (i:Int)=some l[i]:=by rw [J5 h,L8 h]
  dsimp only;rw [e,D8a];refine yB (yM (hf _ (D8Z h) _ (by rw [D8g];omega)) fun r hr=>yI ?_)
  rw [(T2 (i:Int) (by omega)).1]
  refine ⟨⟨i+1,rfl,h, ?_⟩,by dsimp only;omega⟩
  rw [hr.1,D8E,<-A32,show l.take (i+1)=l.take i++ [l[i]] by rw [List.take_add_one];simp [h],D89]
  rfl
 ·rw [D8r] at h;have:i=l.length:=by dsimp only at h;omega
  rw [this,List.take_length];exact wo (hw l)
instance cw3 {v l:List Int} {a:Int}:TS (A0O v a l) (l.length<=1048576/\v.length<=10000000000) (Wo v (nz l.length::l.map nz)):=⟨fun h=>by
 unfold A0O A53 A8f;refine yB (yB (yM (cw2.pf (by omega)) fun w hw=>yM (cwl (f:=fun x v=>I3 v a x) h.1 (fun x _ v hv=>cw1.pf hv) (by have:=hw.2.1;simp at this;omega) (fun i v=>rfl)) fun r hr=>yI ?_))
 have:r=v++wr (nz l.length::l.map nz):=by rw [hr.1,hw.1,D8E,<-A32];rfl
 rw [this];exact wo (A44.2 ⟨B6G _,hr.2.2⟩)⟩
instance cw4 {v l:List Int} {a:Int}:TS (A2t v a l) ((l.length<=1048576/\byt l)/\v.length<=10000000000) (Wo v (nz l.length::l.map nz)):=⟨fun h=>by
 unfold A2t A6T A9j;refine yB (yB (yM (cw2.pf (by omega)) fun w hw=>yM (cwl (f:=fun x v=>(A3s x v a).bind fun y=>some y.2) h.1.1 (fun x hx v hv=> ?_) (by have:=hw.2.1;simp at this;omega) (fun i v=> ?_)) fun r hr=>yI ?_))
 ·unfold A3s;have hb:=h.1.2 x hx;rw [C4 (by omega) (by omega)]
  exact yB (yB (yM (cw2.pf hv) fun _ hr=>yI (yI hr)))
 ·show A4b a l i v=_;unfold A4b;simp only [Option.bind_assoc,D8a]
 ·have:r=v++wr (nz l.length::l.map nz):=by rw [hr.1,hw.1,D8E,<-A32];rfl
  rw [this];exact wo (A44.2 ⟨B6G _,hr.2.2⟩)⟩
end Go.Win
set_option maxHeartbeats 4000000
set_option maxRecDepth 20000
namespace Go.Win
open Go.Vc Go.Dec
theorem woB {v w r a b:List Int} (h:Wo v a w) (g:Wo w b r):Wo v (a++b) r:=by
 have:r=v++wr (a++b):=by rw [g.1,h.1,D8E,<-A32]
 rw [this];exact wo (A1u.2 ⟨h.2.2,g.2.2⟩)
instance cw5 {v:List Int} {a:Int} {x:A4}:TS (A0n v a x) (v.length<=100000000000) (Wo v [nz x.Bw,nz x.Br]):=⟨fun h=>by
 unfold A0n;exact yB (yM (cw1.pf (by omega)) fun w hw=>yB (yM (cw1.pf (by have:=hw.2.1;simp at this;omega)) fun r hr=>yI (woB hw hr)))⟩
instance cw6 {v:List Int} {a:Int} {x:A2}:TS (A2v v a x) (v.length<=100000000000) (fun r=>Wo v [nz (A1 x.Hi),nz (A1 x.Lo)] r.2):=⟨fun h=>by
 unfold A2v A4w;exact yB (yB (yM (cw1.pf (by omega)) fun w hw=>yI (yB (yB (yM (cw1.pf (by have:=hw.2.1;simp at this;dsimp only;omega)) fun r hr=>yI (yI (woB hw hr)))))))⟩
noncomputable def A38 (r:F5):List Int:= [nz r.Code]++ [nz r.Ak.Am.Lo.Bw,nz r.Ak.Am.Lo.Br]++ [nz r.Ak.Am.Bs.Bw,nz r.Ak.Am.Bs.Br]++ [nz r.Ak.Am.Hi.Bw,nz r.Ak.Am.Hi.Br]++(nz r.Ak.Ax.length::r.Ak.Ax.map nz)++ [nz (A1 r.Ak.Aa.Bw.Hi),nz (A1 r.Ak.Aa.Bw.Lo)]++ [nz (A1 r.Ak.Aa.Br.Hi),nz (A1 r.Ak.Aa.Br.Lo)]++(nz r.Bt.length::r.Bt.map nz)++(nz r.Ay.length::r.Ay.map nz)
theorem C77 {r:F5} (h:B4r r) (hb:byt r.Ay):T (A2i r) fun x=>(x=([],5)/\1048576<(wr (A38 r)).length)\/(x=(wr (A38 r),0)/\Q7 (A38 r)/\(wr (A38 r)).length<=1048576):=by
 obtain ⟨h1,h2,h3⟩:=h;have fin: ∀w,Wo [] (A38 r) w->T (some (A3B (A2V.mk w 0 false false)):Option (List Int×Int)) fun x=>(x=([],5)/\1048576<(wr (A38 r)).length)\/(x=(wr (A38 r),0)/\Q7 (A38 r)/\(wr (A38 r)).length<=1048576):=fun w hw=>by
  have e:w=wr (A38 r):=hw.1;unfold A3B;dsimp only
  by_cases g:w.length<=1048576
  ·rw [D8h (by omega),D8d,<-e];exact yI (.inr ⟨rfl,hw.2.2,g⟩)
  ·rw [D8f (by omega),D8e];exact yI (.inl ⟨rfl,by rw [<-e];omega⟩)
 unfold A2i;refine yB (yM (P:=fun y=>Wo [] (A38 r) y.2) ?_ fun y hy=>fin _ hy);unfold B0t A1N A1r;have B: ∀ {ns w:List Int},Wo [] ns w->ns.length<=4000000->w.length<=10000000000:=fun g h=>by have:=g.2.1;simp at this;omega
 refine yB (yM (P:=Wo [] [nz r.Code]) (yB (yM (P:=Wo [] [nz r.Code]) (yB (yM ((cw0 (v:= [])).pf (by simp)) fun _ g=>yI g)) fun _ g=>yI g)) fun v0 g=> ?_)
 refine yB (yM (cw5.pf (by have:=B g (by simp);omega)) fun v1 k=> ?_);replace g:=woB g k
 refine yB (yM (cw5.pf (by have:=B g (by simp);omega)) fun v2 k=> ?_);replace g:=woB g k
 refine yB (yM (cw5.pf (by have:=B g (by simp);omega)) fun v3 k=> ?_);replace g:=woB g k
 refine yB (yM (cw3.pf ⟨h1,by have:=B g (by simp);omega⟩) fun v4 k=> ?_);replace g:=woB g k
 refine yB (yM (cw6.pf (by have:=B g (by simp;omega);omega)) fun v5 k=> ?_);replace g:=woB g k
 refine yB (yM (cw6.pf (by have:=B g (by simp;omega);omega)) fun v6 k=> ?_);replace g:=woB g k
 refine yB (yM (cw3.pf ⟨h2,by have:=B g (by simp;omega);omega⟩) fun v7 k=> ?_);replace g:=woB g k
 exact yB (yM (cw4.pf ⟨⟨h3,hb⟩,by have:=B g (by simp;omega);omega⟩) fun v8 k=>yI (woB g k))
end Go.Win
set_option maxHeartbeats 4000000
set_option maxRecDepth 20000
namespace Go.Win
open Go.Vc Go.Dec
structure At (l:List Int) (a:Int) (f:Bool) (ns:List Int):Prop where
 len:l.length<=1048576
 by_:byt l
 ok:f=false
 pl: ∃k:Nat,a=k/\k<=l.length/\l.drop k=wr ns
 w:Q7 ns
theorem rI {l ns:List Int} {a n x:Int} {f:Bool} (h:At l a f (n::ns)):T (C7 l a f x) fun r=>At l r.1 r.2.1 ns/\r.2.2=n:=by
 obtain ⟨h1,h2,rfl,⟨k,rfl,h3,h4⟩,h5⟩:=h;obtain ⟨w1,w2⟩:=A44.1 h5;rw [A9q] at h4;have e:rdA l k=(n,((k+(A1f n).length:Nat):Int),true):=by unfold rdA;rw [h4,B9m w1]
 have hl:=congrArg List.length h4;rw [D8I,D8g] at hl;have hc:=C0r n;unfold C7;rw [D8d,B45 h2 (by omega) h3,e,D8a]
 exact yI ⟨⟨h1,h2,rfl,⟨k+(A1f n).length,rfl,by omega,by rw [<-D88,h4,List.drop_left]⟩,w2⟩,rfl⟩
theorem rSm {l ns:List Int} {a n x:Int} {f:Bool} (h:At l a f (n::ns)):T (F1 l a f x) fun r=>At l r.1 r.2.1 ns/\r.2.2=n:=by
 unfold F1;exact yB (yM (rI h) fun _ hr=>yI hr)
theorem rW {l ns:List Int} {a n x p q:Int} {f:Bool} (h:At l a f (n::ns)) (hn:p<=n/\n<=q):T (G9 p q l a f x) fun r=>At l r.1 r.2.1 ns/\r.2.2=n:=by
 unfold G9;refine yB (yM (rI h) fun r hr=>yC (fun g=> ?_) fun _=>yI hr);rw [hr.2,D8l,D8c,D8c] at g;omega
theorem rRa {l ns:List Int} {a n m:Int} {f:Bool} {x:A4} (h:At l a f (n::m::ns)):T (A1M l a f x) fun r=>At l r.1 r.2.1 ns/\r.2.2=⟨n,m⟩:=by
 unfold A1M;exact yB (yM (rI h) fun r hr=>yB (yM (rI hr.1) fun s hs=>yI ⟨hs.1,by rw [hr.2,hs.2]⟩))
theorem rWi {l ns:List Int} {a n m:Int} {f:Bool} {x:A2} (h:At l a f (n::m::ns)):T (A0Q l a f x) fun r=>At l r.1 r.2.1 ns/\r.2.2=⟨A5 n,A5 m⟩:=by
 unfold A0Q A4v;exact yB (yB (yM (rI h) fun r hr=>yI (yB (yB (yM (rI hr.1) fun s hs=>yI (yI ⟨hs.1,by dsimp only;rw [hr.2,hs.2]⟩))))))
theorem rLs {β:Type} {l ms ns:List Int} {a:Int} {f:Bool} (h:At l a f ((ms.length:Int)::(ms++ns))) {r:Int->Bool->Option β} {pa:β->Int} {pf:β->Bool} {e:β->Int} {k:Nat} {g:Int->Bool->List Int->Int->Option ((Int×Bool×List Int×Int)⊕(Int×Bool×List Int))}
  (hr:∀a f m ns',m∈ms->At l a f (m::ns')->T (r a f) fun y=>At l (pa y) (pf y) ns' /\e y=m)
  (hg:∀a f xs n,g a f xs n=cond (decide (n>0)&& !f) (Option.bind (r a f) fun y=>ck (decide ((xs.length+ [e y].length)*k<=140737488355328)) (some (.inl (pa y,pf y,xs++ [e y],A1 (n-1))))) (Option.map Sum.inr (some (a,f,xs)))) (hk:k<=640):
  T (Option.bind (G9 0 (A1 ((l.length:Int)-a)) l a f 0) fun y=>loop (fun s:Int×Bool×List Int×Int=>g s.1 s.2.1 s.2.2.1 s.2.2.2) (y.1,y.2.1, [],y.2.2)) fun r=>At l r.1 r.2.1 ns/\r.2.2=ms:=by
 obtain ⟨k0,hk0,k1,k2⟩:=h.pl;have hl:=h.len;have hm:ms.length<=l.length-k0:=by
  have:=congrArg List.length k2;have b:=D1V ((ms.length:Int)::(ms++ns));rw [D8I] at this;simp only [D8t,D8g] at b;omega
 rw [hk0,C4 (n:=(l.length:Int)-k0) (by omega) (by omega),<-hk0]
 refine yB (yM (rW h (by omega)) fun y hy=> ?_)
 rw [hy.2];refine yL (fun s=> ∃ys,ms=s.2.2.1++ys/\s.2.2.2=ys.length/\At l s.1 s.2.1 (ys++ns)) (fun s=>s.2.2.2.toNat) ⟨ms,rfl,rfl,hy.1⟩ ?_;rintro ⟨a,f,xs,z⟩ ⟨ys,e0,e2,hA⟩;dsimp only at e0 e2 hA⊢;subst e2;rw [hg];have hf:=hA.ok;subst hf;have e1:=congrArg List.length e0;rw [D8g] at e1;refine yC (fun c=> ?_) fun c=>yP (yI ?_)
 ·rw [D8n,Bool.and_true,D8c] at c;cases ys with
  |nil=>simp at c
  |cons m ys=>
   have hmm:m∈ms:=by rw [e0];simp
   rw [D8t] at e1;have m1:(xs.length+1)*k<=1048577*640:=Nat.mul_le_mul (by omega) hk
   refine yB (yM (hr a false m (ys++ns) hmm hA) fun y hy=>yK (by rw [D8c,D8P];omega) (yI ?_))
   rw [D8t,C4 (by omega) (by omega)]
   exact ⟨⟨ys,by dsimp only;rw [hy.2,e0];simp,by dsimp only;omega,hy.1⟩,by dsimp only;omega⟩
 ·rw [D8n,Bool.and_true,D8r] at c;cases ys with
  |nil=>exact ⟨hA,by rw [e0];simp⟩
  |cons m ys=>rw [D8t] at c;omega
theorem rIs {l ms ns:List Int} {a:Int} {f:Bool} (h:At l a f ((ms.length:Int)::(ms++ns))):T (A0P l a f) fun r=>At l r.1 r.2.1 ns/\r.2.2=ms:=by
 unfold A0P A54 A8g;exact yB (yM (rLs h (fun a f m ns' _ hA=>rI hA) (fun _ _ _ _=>rfl) (by decide)) fun r hr=>yI hr)
theorem rTx {l ms ns:List Int} {a:Int} {f:Bool} (h:At l a f ((ms.length:Int)::(ms++ns))) (hb:byt ms):T (A2u l a f) fun r=>At l r.1 r.2.1 ns/\r.2.2=ms:=by
 unfold A2u A6U A9k;refine yB (yM (rLs h (fun a f m ns' hm hA=> ?_) (fun _ _ _ _=>rfl) (by decide)) fun r hr=>yI hr)
 unfold A56;refine yB (yM (rW hA (hb m hm)) fun r hr=>yI ⟨hr.1, ?_⟩);have:=hb m hm;rw [hr.2,B0V];omega
end Go.Win
set_option maxHeartbeats 4000000
set_option maxRecDepth 20000
namespace Go.Win
open Go.Vc Go.Dec
theorem A9p : ∀ {ns:List Int},Q7 ns->byt (wr ns)
 | [],_=>A3A
 |n::ns,h=>fun x hx=>by
  obtain ⟨h1,h2⟩:=A44.1 h;have:=bA (n:=n) A3A _ (B6i (by simp))
  rw [C1z h1,A9q,B8Y,List.append_nil,List.nil_append] at this;rw [A9q] at hx;rcases D8W.1 hx with hx|hx
  ·exact this x hx
  ·exact A9p h2 x hx
theorem At.fin {l:List Int} {a:Int} {f:Bool} (h:At l a f []):(f||(a !=(l.length:Int)))=false:=by
 obtain ⟨h1,h2,rfl,⟨k,rfl,h3,h4⟩,h5⟩:=h;have:=congrArg List.length h4;rw [D8I,B8Y,D8G] at this;have:k=l.length:=by omega
 rw [this];simp
theorem C74 {r:F5} (h:B4r r) (hb:byt r.Ay) (hw:Q7 (A38 r)) (hl:(wr (A38 r)).length<=1048576):T (A7Q (wr (A38 r))) fun x=>x.2=0:=by
 obtain ⟨h1,h2,h3⟩:=h;have ln: ∀m:List Int,m.length<=1048576->nz (m.length:Int)=((m.map nz).length:Int):=fun m hm=>by rw [D8X];exact C1z (S2.2 (by omega))
 have hA:At (wr (A38 r)) 0 false (A38 r):=⟨hl,A9p hw,rfl,⟨0,rfl,Nat.zero_le _,rfl⟩,hw⟩;have hbz:byt (r.Ay.map nz):=fun x hx=>by
  obtain ⟨y,hy,rfl⟩:=List.mem_map.1 hx;have:=hb y hy;rw [C1z (S2.2 (by omega))];exact this
 generalize wr (A38 r)=l at hA hl⊢
 unfold A38 at hA;rw [ln _ h1,ln _ h2,ln _ h3] at hA;simp only [D8E,List.cons_append,List.nil_append] at hA;unfold A7Q;rw [D8h (by omega)]
 refine yB (yM (P:=fun y=>(y.2.1||(y.1 !=(l.length:Int)))=false) ?_ fun y hy=> ?_)
 ·unfold B5U;refine yB (yM (rSm hA) fun _ ⟨hA,_⟩=> ?_);refine yB (yM (rRa hA) fun _ ⟨hA,_⟩=> ?_);refine yB (yM (rRa hA) fun _ ⟨hA,_⟩=> ?_);refine yB (yM (rRa hA) fun _ ⟨hA,_⟩=> ?_);refine yB (yM (rIs hA) fun _ ⟨hA,_⟩=> ?_);refine yB (yM (rWi hA) fun _ ⟨hA,_⟩=> ?_);refine yB (yM (rWi hA) fun _ ⟨hA,_⟩=> ?_);refine yB (yM (rIs hA) fun _ ⟨hA,_⟩=> ?_);exact yB (yM (rTx (ns:= []) (by rw [List.append_nil];exact hA) hbz) fun _ ⟨hA,_⟩=>yI hA.fin)
 ·rw [hy];exact yI rfl
end Go.Win
set_option maxHeartbeats 4000000
set_option maxRecDepth 20000
namespace Go.Win
open Go.Vc Go.Dec
theorem nzs: ∀ {ns:List Int},Q7 ns->ns.map nz=ns
 | [],_=>rfl
 |n::ns,h=>by
  obtain ⟨h1,h2⟩:=A44.1 h;rw [D83,C1z h1,nzs h2]
instance cw7 {v:List Int} {a n:Int}:TS (L3 v a n) (v.length<=1000000000000) (Wo v [nz n]):=⟨fun h=>by unfold L3;exact yB (yM (cw1.pf h) fun _ hr=>yI hr)⟩
theorem woL {v w ns:List Int} (h:Wo v ns w) {k m:Nat} (hv:v.length<=m) (hn:ns.length<=k):w.length<=m+10*k:=by have:=h.2.1;omega
instance cw8 {v:List Int} {a:Int} {x:B7}:TS (A3r v a x) (v.length<=100000000000) (Wo v ((A8N x).map nz)):=⟨fun h=>by
 unfold A3r;refine yB (yM (cw7.pf (by omega)) fun w1 g=>yB (yM (cw7.pf (by have:=woL g h (D8S _);simp at this;omega)) fun w2 k=> ?_));replace g:=woB g k
 refine yB (yM (cw1.pf (by have:=woL g h (D8S _);simp at this;omega)) fun w3 k=> ?_);replace g:=woB g k
 refine yB (yM (cw7.pf (by have:=woL g h (D8S _);simp at this;omega)) fun w4 k=> ?_);replace g:=woB g k
 refine yB (yM (cw7.pf (by have:=woL g h (D8S _);simp at this;omega)) fun w5 k=> ?_);replace g:=woB g k
 refine yB (yM (cw7.pf (by have:=woL g h (D8S _);simp at this;omega)) fun w6 k=> ?_);replace g:=woB g k
 refine yB (yM (cw7.pf (by have:=woL g h (D8S _);simp at this;omega)) fun w7 k=> ?_);replace g:=woB g k
 exact yB (yM (cw1.pf (by have:=woL g h (D8S _);simp at this;omega)) fun w8 k=>yI (woB g k))⟩
theorem D4g {c:B6} (hw:Q7 (A2B c)) (hd:c.Ba.length<=1048576) (hb:c.Ay.length<=1048576/\byt c.Ay):T (A06 c) fun x=>(x=([],5)/\1048576<(wr (A2B c)).length)\/(x=(wr (A2B c),0)/\(wr (A2B c)).length<=1048576):=by
 unfold A06;refine yB (yM (P:=Wo [] ((A2B c).map nz)) ?_ fun v hv=> ?_)
 ·unfold A8P A1N A1r;have B: ∀ {ns w:List Int},Wo [] ns w->ns.length<=4000000->w.length<=10000000000:=fun g h=>by have:=g.2.1;simp at this;omega
  refine yB (yM (P:=Wo [] [nz c.Op]) (yB (yM (P:=Wo [] [nz c.Op]) (yB (yM ((cw0 (v:= [])).pf (by simp)) fun _ g=>yI g)) fun _ g=>yI g)) fun v0 g=> ?_)
  refine yB (yM (cw1.pf (by have:=B g (by simp);omega)) fun v1 k=> ?_);replace g:=woB g k
  refine yB (yM (cw8.pf (by have:=B g (by simp);omega)) fun v2 k=> ?_);replace g:=woB g k
  refine yB (yM (cw1.pf (by have:=B g (by simp [A8N]);omega)) fun v3 k=> ?_);replace g:=woB g k
  refine yB (yM (cw1.pf (by have:=B g (by simp [A8N]);omega)) fun v4 k=> ?_);replace g:=woB g k
  refine yB (yM (cw3.pf ⟨hd,by have:=B g (by simp [A8N]);omega⟩) fun v5 k=> ?_);replace g:=woB g k
  refine yB (yM (cw7.pf (by have:=B g (by simp [A8N];omega);omega)) fun v6 k=> ?_);replace g:=woB g k
  refine yB (yM (cw1.pf (by have:=B g (by simp [A8N];omega);omega)) fun v7 k=> ?_);replace g:=woB g k
  refine yB (yM (cw1.pf (by have:=B g (by simp [A8N];omega);omega)) fun v8 k=> ?_);replace g:=woB g k
  refine yB (yM (cw4.pf ⟨hb,by have:=B g (by simp [A8N];omega);omega⟩) fun v9 k=>yI ?_)
  have:=woB g k;simpa [A2B,D8E] using this
 ·rw [nzs hw] at hv;have e:v=wr (A2B c):=hv.1;unfold A3B;dsimp only
  by_cases g:v.length<=1048576
  ·rw [D8h (by omega),D8d,<-e];exact yI (.inr ⟨rfl,g⟩)
  ·rw [D8f (by omega),D8e];exact yI (.inl ⟨rfl,by rw [<-e];omega⟩)
theorem rCf {l ns:List Int} {a:Int} {f:Bool} {x c:B7} (h:At l a f (A8N c++ns)):T (A1a l a f x) fun r=>At l r.1 r.2.1 ns/\r.2.2=c:=by
 unfold A1a;refine yB (yM (rSm h) fun _ ⟨h,e1⟩=>yB (yM (rSm h) fun _ ⟨h,e2⟩=>yB (yM (rI h) fun _ ⟨h,e3⟩=>yB (yM (rSm h) fun _ ⟨h,e4⟩=>yB (yM (rSm h) fun _ ⟨h,e5⟩=>yB (yM (rSm h) fun _ ⟨h,e6⟩=>yB (yM (rSm h) fun _ ⟨h,e7⟩=>yB (yM (rI h) fun _ ⟨h,e8⟩=>yI ⟨h, ?_⟩))))))));dsimp only;rw [e1,e2,e3,e4,e5,e6,e7,e8]
theorem D4c {c:B6} (hw:Q7 (A2B c)) (hd:c.Ba.length<=1048576) (hb:c.Ay.length<=1048576/\byt c.Ay) (hl:(wr (A2B c)).length<=1048576):J1 (wr (A2B c))=some (c,0):=by
 have hA:At (wr (A2B c)) 0 false (A2B c):=⟨hl,A9p hw,rfl,⟨0,rfl,Nat.zero_le _,rfl⟩,hw⟩;have key:T (J1 (wr (A2B c))) fun x=>x=(c,0):=by
  generalize wr (A2B c)=l at hA hl⊢
  unfold A2B at hA;simp only [D8E,List.cons_append,List.nil_append] at hA;unfold J1;rw [D8h (by omega)]
  refine yB (yM (P:=fun y=>(y.2.1||(y.1 !=(l.length:Int)))=false/\y.2.2=(c.Op,c.ID,c.Ap.Bj,c.Ap.Bp,c.Ap.W,c.Ap.K,c.Ap.Cap,c.Ap.P,c.Ap.Ao,c.Ap.Bu,c.T,c.V,c.Bh.Op,c.Bh.A,c.Bh.B,c.Ay,c.Ba)) ?_ fun y hy=> ?_)
  ·unfold A8Q;refine yB (yM (rSm hA) fun _ ⟨hA,e1⟩=> ?_);refine yB (yM (rI hA) fun _ ⟨hA,e2⟩=> ?_);refine yB (yM (rCf hA) fun _ ⟨hA,e3⟩=> ?_);refine yB (yM (rI hA) fun _ ⟨hA,e4⟩=> ?_);refine yB (yM (rI hA) fun _ ⟨hA,e5⟩=> ?_);refine yB (yM (rIs hA) fun _ ⟨hA,e6⟩=> ?_);refine yB (yM (rSm hA) fun _ ⟨hA,e7⟩=> ?_);refine yB (yM (rI hA) fun _ ⟨hA,e8⟩=> ?_);refine yB (yM (rI hA) fun _ ⟨hA,e9⟩=> ?_);refine yB (yM (rTx hA hb.2) fun _ ⟨hA,e10⟩=>yI ⟨hA.fin, ?_⟩);dsimp only;rw [e1,e2,e3,e4,e5,e6,e7,e8,e9,e10]
  ·rw [hy.1,D8d,hy.2];exact yI rfl
 obtain ⟨x,h,rfl⟩:=key;exact h
structure A7J (c:B6):Prop where
 ns:Q7 (A2B c)
 dr:c.Ba.length<=1000
 by0:c.Ay= []
theorem A7J.len {c:B6} (h:A7J c):(wr (A2B c)).length<=20000:=by
 have:=B8Z h.ns;have e:(A2B c).length=17+c.Ba.length:=by unfold A2B A8N;rw [h.by0];simp;omega
 have:=h.dr;omega
theorem A7J.enc {c:B6} (h:A7J c):A06 c=some (wr (A2B c),0):=by
 have hl:=h.len;obtain ⟨x,e,hx⟩:=D4g h.ns (by have:=h.dr;omega) (by rw [h.by0];exact ⟨by decide,A3A⟩)
 rcases hx with ⟨_,g⟩|⟨rfl,_⟩
 ·omega
 ·exact e
theorem A7J.dec {c:B6} (h:A7J c):J1 (wr (A2B c))=some (c,0):=
 D4c h.ns (by have:=h.dr;omega) (by rw [h.by0];exact ⟨by decide,A3A⟩) (by have:=h.len;omega)
end Go.Win
set_option maxHeartbeats 4000000
set_option maxRecDepth 20000
namespace Go.Win
open Go.Vc Go.Dec
def Wz (v ns r:List Int):Prop:=r=v++wr (ns.map nz)
theorem wz0 {v:List Int}:Wz v [] v:=by unfold Wz;simp [wr]
theorem B4j {v w r a b:List Int} (h:Wz v a w) (g:Wz w b r):Wz v (a++b) r:=by
 unfold Wz at*
 rw [g,h,D8E,<-A32,<-D89]
theorem wzA {v:List Int} {n:Int}:W (I6 v n) (Wz v [n]):=by
 have key: ∀u:Nat,u<18446744073709551616->W (M3 v u) fun r=>r=v++cb u:=fun u hu=>by
  unfold M3;refine wL (fun s=> ∃u' :Nat,s.2=u' /\u' <18446744073709551616/\s.1++cb u' =v++cb u) ⟨u,rfl,hu,rfl⟩ ?_;rintro ⟨w,_⟩ ⟨x,rfl,hx,hw⟩;dsimp only at hw⊢;unfold T5;refine wC (fun h=>wK (wI ⟨x/128, ?_,by omega, ?_⟩)) fun h=>wP (wK (wI ?_))
  ·dsimp only;rw [show (7:Int)=((7:Nat):Int) from rfl,A9a _ (by omega)]
   omega
  ·rw [D8c] at h;have e1:N8 .u8 (IntKind.u8.wrap (x:Int)) 128=((128+x%128:Nat):Int):=by
    rw [B0V,show (x:Int)%256=((x%256:Nat):Int) by omega,C9z (by omega)]
    congr 2
    omega
   rw [<-hw,B83 (u:=x) (by omega),e1]
   simp
  ·rw [D8r] at h;have e1:IntKind.u8.wrap (x:Int)=(x:Int):=by rw [B0V];omega
   rw [<-hw,B84 (u:=x) (by omega),e1]
 have e:I6 v n=M3 v (cond (decide (n<0)) (A8V .u64 (E5 .u64 (A5 n) 1)) (E5 .u64 (A5 n) 1)):=by
  unfold I6 V6;cases decide (n<0)<;>rfl
 have hr:=C5P n;obtain ⟨u,hu⟩:=Int.eq_ofNat_of_zero_le hr.1;have hc:A1f (nz n)=cb u:=by
  unfold A1f nz;rw [hu,D8Q,C8E]
 rw [e,hu];intro r h;have:=key u (by omega) r h
 unfold Wz;rw [this,D83,List.map_nil,A9q,B8Y,List.append_nil,hc]
class ZW {α:Type} (m:Option α) (H:outParam Prop) (Q:outParam (α->Prop)):Prop where pf:H->W m Q
theorem wVz {α β:Type} {m:Option α} {k:α->Option β} {H:Prop} {P:α->Prop} {Q:β->Prop} [i:ZW m H P] (h:H) (g:∀a,P a->W (k a) Q):W (Option.bind m k) Q:=wS (i.pf h) g
theorem wZ0 {α:Type} {m:Option α} {Q:α->Prop} (v:List Int) (h:Wz v [] v->W m Q):W m Q:=h wz0
theorem wZ1 {v ns:List Int} {m:Option (List Int)} (h:Wz v [] v->W m (Wz v ns)):W m (Wz v ns):=h wz0
theorem wNz {v ns:List Int} {m:Option (List Int)} (h:W m (Wz v ns):=by
 refine wZ1 fun g=> ?_
 repeat' first
  |exact wI g
  |((with_reducible refine wVz ?_ fun _ k=> ?_);(first|trivial|assumption);replace g:=B4j g k)
  |(refine fun _ e=>B4j g (ZW.pf ?_ _ e);first|trivial|assumption)):W m (Wz v ns):=h
instance zw1 {v:List Int} {n:Int}:ZW (I6 v n) True (Wz v [n]):=⟨fun _=>wzA⟩
instance zw2 {v:List Int} {a n:Int}:ZW (I3 v a n) True (Wz v [n]):=⟨fun _=>by unfold I3;exact wNz⟩
instance zw3 {v:List Int} {a n:Int} {f:Bool}:ZW (D3 v a f n) True (Wz v [n]):=⟨fun _=>by unfold D3;exact wNz⟩
instance zw4 {v:List Int} {a n:Int}:ZW (L3 v a n) True (Wz v [n]):=⟨fun _=>by unfold L3;exact wNz⟩
instance zw5 {v:List Int} {a n:Int} {f:Bool}:ZW (F7 v a f n) True (Wz v [n]):=⟨fun _=>by unfold F7;exact wNz⟩
instance zw6 {v:List Int} {a n p q:Int}:ZW (Q6 p q v a n) True (Wz v [n]):=⟨fun _=>by unfold Q6;exact wNz⟩
instance zw7 {v:List Int} {a n p q:Int} {f:Bool}:ZW (J6 p q v a f n) True (Wz v [n]):=⟨fun _=>by unfold J6;exact wNz⟩
theorem wzL {α:Type} {l:List α} {g:α->List Int} {f:α->List Int->Option (List Int)} (hl:l.length<=1048576) (hf:∀x v,x∈l->W (f x v) (Wz v (g x))) {b v0:List Int} (h0:Wz b [(l.length:Int)] v0) {G:Int->List Int->Option ((Int×List Int)⊕List Int)}
  (hg:∀i v,G i v=cond (decide (i<(l.length:Int))) (Option.bind (B9 l i) fun x=>Option.bind (f x v) fun y=>some (.inl (A1 (i+1),y))) (Option.map Sum.inr (some v))):W (loop (fun s:Int×List Int=>G s.1 s.2) (0,v0)) (Wz b (lN g l)):=by
 refine wL (fun s=> ∃i:Nat,s.1=i/\i<=l.length/\Wz b ((l.length:Int)::(l.take i).flatMap g) s.2) ⟨0,rfl,Nat.zero_le _,h0⟩ ?_;rintro ⟨_,v⟩ ⟨i,rfl,h1,h2⟩;dsimp only at h2⊢;rw [hg];refine wC (fun h=> ?_) fun h=>wP (wI ?_)
 ·rw [D8c] at h;have h:i<l.length:=by omega
  have e:B9 l (i:Int)=some l[i]:=by rw [S0,D8o h]
  rw [e,D8a];refine wS (hf _ v (D8Z h)) fun r hr=>wI ⟨i+1,by rw [C4 (by omega) (by omega)];rfl,h, ?_⟩
  have:=B4j h2 hr;rw [show l.take (i+1)=l.take i++ [l[i]] by rw [List.take_add_one];simp [h],List.flatMap_append]
  simpa using this
 ·rw [D8r] at h;have:i=l.length:=by omega
  rw [this,List.take_length] at h2;exact h2
instance zw8 {b:List Int} {p:Int} {f:Bool} {l:List A3}:ZW (A07 b p f l) (l.length<=1048576) (Wz b (lN B3o l)):=⟨fun h=>by
 unfold A07 W8 A1L;exact wS (wVz trivial fun v hv=>wzL h (f:=fun x v=>W3 x v p f) (fun x v _=>by unfold W3;exact wNz) hv (fun i v=>rfl)) fun _ h=>wI h⟩
instance zw9 {b:List Int} {p:Int} {f:Bool} {l:List A8}:ZW (A2o b p f l) (l.length<=1048576) (Wz b (lN B9b l)):=⟨fun h=>by
 unfold A2o Z7 A2N;exact wS (wVz trivial fun v hv=>wzL h (f:=fun x v=>Y9 x v p f) (fun x v _=>by unfold Y9;exact wNz) hv (fun i v=>rfl)) fun _ h=>wI h⟩
instance zw10 {b:List Int} {p:Int} {f:Bool} {l:List A6}:ZW (A2q b p f l) (l.length<=1048576) (Wz b (lN B9c l)):=⟨fun h=>by
 unfold A2q Z8 A2P;exact wS (wVz trivial fun v hv=>wzL h (f:=fun x v=>Z0 x v p f) (fun x v _=>by unfold Z0;exact wNz) hv (fun i v=>rfl)) fun _ h=>wI h⟩
instance zw11 {b:List Int} {p:Int} {f:Bool} {l:List B2}:ZW (T9 b p f l) (l.length<=1048576) (Wz b (lN C5h l)):=⟨fun h=>by
 unfold T9 A2e;exact wVz trivial fun v hv=>wzL h (f:=fun x v=>Y7 x v p f) (fun x v _=>by unfold Y7;exact wNz) hv (fun i v=>rfl)⟩
instance zw12 {b:List Int} {p:Int} {f:Bool} {l:List G1}:ZW (V1 b p f l) (l.length<=1048576) (Wz b (lN C1o l)):=⟨fun h=>by
 unfold V1 A2O;exact wVz trivial fun v hv=>wzL h (f:=fun x v=>Y8 x v p f) (fun x v _=>by unfold Y8;exact wNz) hv (fun i v=>rfl)⟩
instance zw13 {b:List Int} {p:Int} {f:Bool} {l:List E0}:ZW (U0 b p f l) (l.length<=1048576) (Wz b (lN C6D l)):=⟨fun h=>by
 unfold U0 A2f;exact wVz trivial fun v hv=>wzL h (f:=fun x v=>Z2 x v p f) (fun x v _=>by unfold Z2;exact wNz) hv (fun i v=>rfl)⟩
instance zw14 {b:List Int} {p:Int} {f:Bool} {l:List Int}:ZW (A4t b p f l) (l.length<=1048576) (Wz b (lN (fun x=> [x]) l)):=⟨fun h=>by
 unfold A4t A09 A4c;exact wS (wVz trivial fun v hv=>wzL h (f:=fun x v=>D3 v p f x) (fun x v _=>zw3.pf trivial) hv (fun i v=>rfl)) fun _ h=>wI h⟩
instance zw15 {b:List Int} {p:Int} {f:Bool} {l:List A2}:ZW (V2 b p f l) (l.length<=1048576) (Wz b (lN C2e l)):=⟨fun h=>by
 unfold V2 A2Q;refine wVz trivial fun v hv=>wzL h (f:=fun x v=>Option.bind (A0R v p f x) fun y=>some y.2) (fun x v _=> ?_) hv (fun i v=> ?_)
 ·unfold A0R A2w;simp only [Option.bind_assoc,D8a];exact wNz
 ·show U8 p f l i v=_;unfold U8;simp only [Option.bind_assoc,D8a]⟩
instance zw16 {b:List Int} {p:Int} {f:Bool} {l:List B1}:ZW (T7 b p f l) (l.length<=1048576/\ ∀x∈l,x.Bi.Ae.length<=1048576) (Wz b (lN B5E l)):=⟨fun h=>by
 unfold T7 A2c;refine wVz trivial fun v hv=>wzL h.1 (f:=fun x v=>Z3 x v p f) (fun x v hx=> ?_) hv (fun i v=>rfl);have h:=h.2 x hx;unfold Z3 A4l;simp only [Option.bind_assoc,D8a];exact wNz⟩
instance zw17 {b:List Int} {p:Int} {f:Bool} {l:List B5}:ZW (T8 b p f l) (l.length<=1048576/\ ∀x∈l,x.Bf.length<=1048576) (Wz b (lN B5R l)):=⟨fun h=>by
 unfold T8 A2d;refine wVz trivial fun v hv=>wzL h.1 (f:=fun x v=>Z1 x v p f) (fun x v hx=> ?_) hv (fun i v=>rfl);have h:=h.2 x hx;unfold Z1 A4m;simp only [Option.bind_assoc,D8a];exact wNz⟩
def C4I (b:Bool):Int:=cond b 1 0
noncomputable def stZ (s:A9):List Int:=
 if s.Ap.Bj=1 then [s.Ar.W,s.Ar.Cap,s.Ar.Now]++lN B9b s.Ar.Bc
 else if s.Ap.Bj=2 then [s.Az.W,s.Az.K,s.Az.Cap,s.Az.Now]++lN B3o s.Az.Ad
 else if s.Ap.Bj=3 then [s.Sum.W,s.Sum.K,s.Sum.Cap,s.Sum.Bu,s.Sum.Now]++lN B3o s.Sum.Ad
 else if s.Ap.Bj=4 then [s.Au.Bp,s.Au.W,s.Au.K,s.Au.Cap,s.Au.Now,s.Au.Bx]++lN B9c s.Au.Bg
 else if s.Ap.Bj=5 then [s.Av.W,s.Av.K,s.Av.Cap,s.Av.Now,s.Av.Bx]++lN B9c s.Av.Bg
 else if s.Ap.Bj=6 then [s.Bn.P,s.Bn.Bk,s.Bn.Now]++lN C2e s.Bn.Ag
 else if s.Ap.Bj=7 then [s.Bb.Now]++lN (fun x=> [x]) s.Bb.Bo
 else if s.Ap.Bj=8 then [C4I s.Af.Bu,s.Af.W,s.Af.Cap,s.Af.Now]++lN B9b s.Af.Bc
 else if s.Ap.Bj=9 then lN B5R s.As.Ao
 else if s.Ap.Bj=10 then [s.Aj.K,s.Aj.Cap,s.Aj.N]++lN C6D s.Aj.Aw
 else [s.Ab.W,s.Ab.K,s.Ab.Cap,s.Ab.Now]++lN B5E s.Ab.Al
noncomputable def C2I (r:A7):List Int:=r.ID::(A8N r.Ac.Ap++stZ r.Ac)
noncomputable def A0Z (e:B4):List Int:= [1,e.Now,e.Be,(e.Ai.length:Int)]++e.Ai.flatMap C2I
theorem D0O {k:Int} (h:1<=k/\k<=11):k=1\/k=2\/k=3\/k=4\/k=5\/k=6\/k=7\/k=8\/k=9\/k=10\/k=11:=by omega
instance zw18 {v:List Int} {a:Int} {f x:Bool}:ZW (A4r v a f x) True (fun r=>r.1=x/\Wz v [C4I x] r.2):=⟨fun _=>by
 unfold A4r A5t;cases x
 ·exact wVz trivial fun _ h=>wI ⟨rfl,h⟩
 ·exact wVz trivial fun _ h=>wI ⟨rfl,h⟩⟩
def C6n (s:A9):Prop:=X4 s/\ ∀x∈s.Ab.Al,x.Bi.Ae.length<=1048576
instance zw19 {b:List Int} {p:Int} {f:Bool} {s:A9}:ZW (A0M b p f s) (C6n s/\1<=s.Ap.Bj/\s.Ap.Bj<=11) (fun r=>r.1=f/\r.2.1=s/\Wz b (stZ s) r.2.2):=⟨fun ⟨w,hk⟩=>by
 obtain ⟨⟨w1,w2,w3,w4,w5,w6,w7,w8,w9,w10,w11⟩,w12⟩:=w;have w11:=And.intro w11.1 w12;refine wZ0 b fun g=> ?_;rcases D0O hk with k|k|k|k|k|k|k|k|k|k|k
 all_goals
  unfold A0M stZ;simp only [k,Int.reduceBEq,Int.reduceEq,D8e,D8d,if_true,if_false]
  repeat' first
   |(refine wI ⟨rfl, ?_,g⟩;first|rfl|(rw [q1]))
   |((with_reducible refine wVz ?_ fun _ q=> ?_);(first|trivial|assumption|exact w6.1);(first|replace g:=B4j g q|(have q1:=q.1;replace g:=B4j g q.2)))⟩
instance zw20 {v:List Int} {a:Int} {f:Bool} {c:B7}:ZW (Z4 v a f c) True (Wz v (A8N c)):=⟨fun _=>by unfold Z4;exact wNz⟩
theorem D46 {e:B4} (w:∀r∈e.Ai,C6n r.Ac/\1<=r.Ac.Ap.Bj/\r.Ac.Ap.Bj<=11) (h64:e.Ai.length<=64):W (A0N 0 e) fun r=>Wz [] (A0Z e) r.2.2:=by
 have i2: ∀n,W (A7D n) (Wz [] [n]):=fun n=>(wzA:W (I6 [] n) _);have hl: ∀z:A7,laid (List.replicate e.Ai.length z) 0 (e.Ai.take (List.replicate e.Ai.length z).length)=e.Ai:=fun z=>by
  unfold laid;simp
 unfold A0N A57 A1r;simp only [D8Q,hl];refine wS (P:=Wz [] [1]) (wS (wS (i2 _) fun _ h=>wI h) fun _ h=>wI h) fun v g=>wVz trivial fun v k=> ?_;replace g:=B4j g k;refine wVz trivial fun v k=>wVz trivial fun v k2=>wK ?_;replace g:=B4j (B4j g k) k2;unfold A2K;refine wL (fun s=>s.1=e.Ai/\ ∃i:Nat,s.2.1=i/\i<=e.Ai.length/\Wz [] ([1,e.Now,e.Be,(e.Ai.length:Int)]++(e.Ai.take i).flatMap C2I) s.2.2.1/\s.2.2.2=false) ⟨rfl,0,rfl,Nat.zero_le _,g,rfl⟩ ?_;rintro ⟨L,_,v,_⟩ ⟨hL,i,rfl,hi,g,rfl⟩;dsimp only at hL g⊢;subst hL;unfold A4W;rw [D8n,Bool.and_true];refine wC (fun h=> ?_) fun h=>wP (wI ?_)
 ·rw [D8c] at h;have h:i<e.Ai.length:=by omega
  have e0:B9 e.Ai (i:Int)=some e.Ai[i]:=by rw [S0,D8o h]
  have e1:e.Ai.set i e.Ai[i]=e.Ai:=List.set_getElem_self h;obtain ⟨w1,w2⟩:=w _ (D8Z h);simp only [e0,D8a,D8Q,e1,D8e];refine wVz trivial fun v1 k1=>wVz trivial fun v2 k2=>wVz ⟨w1,w2⟩ fun y hy=>wI ⟨?_,i+1, ?_,h, ?_,hy.1⟩
  ·rw [hy.2.1];exact e1
  ·rw [C4 (by omega) (by omega)];rfl
  ·have:=B4j g (B4j k1 (B4j k2 hy.2.2));rw [show e.Ai.take (i+1)=e.Ai.take i++ [e.Ai[i]] by rw [List.take_add_one];simp [h],List.flatMap_append,<-D8E]
   simpa [C2I] using this
 ·rw [D8r] at h;have:i=e.Ai.length:=by omega
  rw [this,List.take_length] at g;exact g
theorem D3c {s:A9} (h1:A19 s) (h2:X4 s):C6n s:=by
 obtain ⟨hcf,hr,ho⟩:=h1;refine ⟨h2,fun x hx=> ?_⟩
 by_cases hk:s.Ap.Bj=11
 ·unfold A9Z at hr;simp only [hk,Int.reduceEq,false_and,false_or,or_false,true_and] at hr;obtain ⟨q,_,q2,q3⟩:=A9g (k:=s.Ab.K) (c:=s.Ab.Cap) hr.1.1.2.2.2 hr.1.1.2.1;obtain ⟨i,hi,rfl⟩:=A2l hx;have:=(hr.1.2.1 q q2).2.2 i hi;have:=this.2.2.1;omega
 ·have:=(ho.2.2.2.2.2.2.2.2.2.2 hk).2.2.2.2;rw [D8V this] at hx;cases hx
theorem D6r (l:List Int):W (A1E l) fun s=>D6 .i64 s:=by
 have z: ∀n,D6 .i64 (A1 n):=fun n=>S2.2 (by have:=C18 n;omega)
 unfold A1E B3B;refine wL (fun _=>True) trivial fun s _=> ?_;unfold B1Z;exact wC (fun _=>wB fun _=>wI trivial) fun _=>wP (wI (z _))
theorem C5g {e:B4} (ok:C0D e) (w:A6b e.Ai):W (Y3 e) fun r=>(r.2=0-> ∃s,D6 .i64 s/\A1E (wr ((A0Z e).map nz))=some s/\r.1=wr ((A0Z e).map nz++ [s]))/\byt r.1:=by
 unfold Y3;rw [A1K e w,O3 ok,D8a,D8N,D8d];have h64:e.Ai.length<=64:=by have:=ok.1.2.1;omega
 refine wS (D46 (fun r hr=> ?_) h64) fun y hy=> ?_
 ·obtain ⟨i,hi,rfl⟩:=A2l hr;have k:=(ok.1.2.2 i hi).2.2;exact ⟨D3c k (w.2 _ hr),C3R k⟩
 ·have hy:y.2.2=wr ((A0Z e).map nz):=hy;intro r hr;cases hs:A1E y.2.2 with
  |none=>rw [hs] at hr;cases hr
  |some s=>
   rw [hs,D8a] at hr;have ws:=D6r _ _ hs;refine (show W _ fun r:List Int×Int=>(r.2=0-> ∃s,D6 .i64 s/\A1E (wr ((A0Z e).map nz))=some s/\r.1=wr ((A0Z e).map nz++ [s]))/\byt r.1 from wS wzA fun v hv=>wC (fun _=>wI ⟨fun g=>(by cases g),A3A⟩) fun _=>wI ?_) r hr
   have hv:v=y.2.2++wr ([s].map nz):=hv;have ev:v=wr ((A0Z e).map nz++ [s]):=by rw [hv,hy,nzs (ns:= [s]) (fun x hx=>by rw [List.mem_singleton.1 hx];exact ws),<-A32]
   refine ⟨fun _=>⟨s,ws,by rw [<-hy];exact hs,ev⟩, ?_⟩
   show byt v;rw [ev];refine A9p (A1u.2 ⟨fun x hx=> ?_,G6 ws A1v⟩);obtain ⟨y,_,rfl⟩:=List.mem_map.1 hx;exact B6G y
end Go.Win
set_option maxHeartbeats 4000000
set_option maxRecDepth 20000
namespace Go.Win
open Go.Vc Go.Dec
theorem rLz {α β:Type} {l ns:List Int} {a n0:Int} {f:Bool} {xs:List α} {gn:α->List Int} (h:At l a f (lN gn xs++ns)) (hne:∀x∈xs,1<=(gn x).length) {r:Int->Bool->Option β} {pa:β->Int} {pf:β->Bool} {e:β->α} {k:Nat} {g:Int->Bool->List α->Int->Option ((Int×Bool×List α×Int)⊕(Int×Bool×List α))}
  (hr:∀a f x ns',x∈xs->At l a f (gn x++ns')->T (r a f) fun y=>At l (pa y) (pf y) ns' /\e y=x)
  (hg:∀a f xs n,g a f xs n=cond (decide (n>0)&& !f) (Option.bind (r a f) fun y=>ck (decide ((xs.length+ [e y].length)*k<=140737488355328)) (some (.inl (pa y,pf y,xs++ [e y],A1 (n-1))))) (Option.map Sum.inr (some (a,f,xs)))) (hk:k<=640):
  T (Option.bind (G9 0 (A1 ((l.length:Int)-a)) l a f n0) fun y=>loop (fun s:Int×Bool×List α×Int=>g s.1 s.2.1 s.2.2.1 s.2.2.2) (y.1,y.2.1, [],y.2.2)) fun r=>At l r.1 r.2.1 ns/\r.2.2=xs:=by
 obtain ⟨k0,hk0,k1,k2⟩:=h.pl;have hl:=h.len;have fl: ∀xs:List α,(∀x∈xs,1<=(gn x).length)->xs.length<=(xs.flatMap gn).length:=fun xs=>by
  induction xs with
  |nil=>intro _;exact Nat.zero_le _
  |cons x xs ih=>
   intro hh;have h1:=hh x (by simp)
   have h2:=ih fun y hy=>hh y (by simp [hy])
   rw [List.flatMap_cons,D8g,D8t];omega
 have hm:xs.length<=l.length-k0:=by
  have:=congrArg List.length k2;have b:=D1V (lN gn xs++ns);have c:=fl xs hne;rw [D8I] at this;unfold lN at b this;simp only [D8t,D8g] at b;omega
 rw [hk0,C4 (n:=(l.length:Int)-k0) (by omega) (by omega),<-hk0]
 unfold lN at h;refine yB (yM (rW h (by omega)) fun y hy=> ?_)
 rw [hy.2];refine yL (fun s=> ∃ys,xs=s.2.2.1++ys/\s.2.2.2=ys.length/\At l s.1 s.2.1 (ys.flatMap gn++ns)) (fun s=>s.2.2.2.toNat) ⟨xs,rfl,rfl,hy.1⟩ ?_;rintro ⟨a,f,zs,z⟩ ⟨ys,e0,e2,hA⟩;dsimp only at e0 e2 hA⊢;subst e2;rw [hg];have hf:=hA.ok;subst hf;have e1:=congrArg List.length e0;rw [D8g] at e1;refine yC (fun c=> ?_) fun c=>yP (yI ?_)
 ·rw [D8n,Bool.and_true,D8c] at c;cases ys with
  |nil=>simp at c
  |cons m ys=>
   have hmm:m∈xs:=by rw [e0];simp
   rw [D8t] at e1;have m1:(zs.length+1)*k<=1048577*640:=Nat.mul_le_mul (by omega) hk
   rw [List.flatMap_cons,D8E] at hA;refine yB (yM (hr a false m (ys.flatMap gn++ns) hmm hA) fun y hy=>yK (by rw [D8c,D8P];omega) (yI ?_))
   rw [D8t,C4 (by omega) (by omega)]
   exact ⟨⟨ys,by dsimp only;rw [hy.2,e0];simp,by dsimp only;omega,hy.1⟩,by dsimp only;omega⟩
 ·rw [D8n,Bool.and_true,D8r] at c;cases ys with
  |nil=>exact ⟨hA,by rw [e0];simp⟩
  |cons m ys=>rw [D8t] at c;omega
section
variable {l ns:List Int} {a:Int} {f:Bool}
theorem zIt {xs b:List A8} (h:At l a f (lN B9b xs++ns)):T (A2p l a f b) fun r=>At l r.1 r.2.1 ns/\r.2.2=xs:=by
 unfold A2p A39 A6m;exact yB (yM (rLz h (fun _ _=>by simp [B9b]) (fun a f x ns' _ hA=>by unfold A5X;exact yB (yM (rI hA) fun _ ⟨hA,e1⟩=>yB (yM (rI hA) fun _ ⟨hA,e2⟩=>yI ⟨hA,by dsimp only;rw [e1,e2]⟩))) (fun _ _ _ _=>rfl) (by decide)) fun r hr=>yI hr)
theorem zBu {xs b:List A3} (h:At l a f (lN B3o xs++ns)):T (A08 l a f b) fun r=>At l r.1 r.2.1 ns/\r.2.2=xs:=by
 unfold A08 A3g A43;exact yB (yM (rLz h (fun _ _=>by simp [B3o]) (fun a f x ns' _ hA=>by unfold A4V;exact yB (yM (rI hA) fun _ ⟨hA,e1⟩=>yB (yM (rSm hA) fun _ ⟨hA,e2⟩=>yI ⟨hA,by dsimp only;rw [e1,e2]⟩))) (fun _ _ _ _=>rfl) (by decide)) fun r hr=>yI hr)
theorem zMa {xs b:List A6} (h:At l a f (lN B9c xs++ns)):T (A2r l a f b) fun r=>At l r.1 r.2.1 ns/\r.2.2=xs:=by
 unfold A2r A4a A6o;exact yB (yM (rLz h (fun _ _=>by simp [B9c]) (fun a f x ns' _ hA=>by unfold A5Y;exact yB (yM (rI hA) fun _ ⟨hA,e1⟩=>yB (yM (rI hA) fun _ ⟨hA,e2⟩=>yB (yM (rI hA) fun _ ⟨hA,e3⟩=>yB (yM (rI hA) fun _ ⟨hA,e4⟩=>yB (yM (rI hA) fun _ ⟨hA,e5⟩=>yB (yM (rI hA) fun _ ⟨hA,e6⟩=>yB (yM (rI hA) fun _ ⟨hA,e7⟩=>yI ⟨hA,by dsimp only;rw [e1,e2,e3,e4,e5,e6,e7]⟩)))))))) (fun _ _ _ _=>rfl) (by decide)) fun r hr=>yI hr)
theorem zLi {xs:List G1} (h:At l a f (lN C1o xs++ns)):T (A1A l a f) fun r=>At l r.1 r.2.1 ns/\r.2.2=xs:=by
 unfold A1A A6n;exact rLz h (fun _ _=>by simp [C1o]) (fun a f x ns' _ hA=>by unfold A5W;exact yB (yM (rI hA) fun _ ⟨hA,e1⟩=>yB (yM (rI hA) fun _ ⟨hA,e2⟩=>yI ⟨hA,by dsimp only;rw [e1,e2]⟩))) (fun _ _ _ _=>rfl) (by decide)
theorem zEt {xs:List B2} (h:At l a f (lN C5h xs++ns)):T (A03 l a f) fun r=>At l r.1 r.2.1 ns/\r.2.2=xs:=by
 unfold A03 A5F;exact rLz h (fun _ _=>by simp [C5h]) (fun a f x ns' _ hA=>by unfold A5V;exact yB (yM (rI hA) fun _ ⟨hA,e1⟩=>yB (yM (rI hA) fun _ ⟨hA,e2⟩=>yB (yM (rI hA) fun _ ⟨hA,e3⟩=>yI ⟨hA,by dsimp only;rw [e1,e2,e3]⟩)))) (fun _ _ _ _=>rfl) (by decide)
theorem zTu {xs b:List E0} (h:At l a f (lN C6D xs++ns)):T (A04 l a f b) fun r=>At l r.1 r.2.1 ns/\r.2.2=xs:=by
 unfold A04 A5G;exact rLz h (fun _ _=>by simp [C6D]) (fun a f x ns' _ hA=>by unfold A50;exact yB (yM (rI hA) fun _ ⟨hA,e1⟩=>yB (yM (rI hA) fun _ ⟨hA,e2⟩=>yB (yM (rI hA) fun _ ⟨hA,e3⟩=>yI ⟨hA,by dsimp only;rw [e1,e2,e3]⟩)))) (fun _ _ _ _=>rfl) (by decide)
theorem zSu {xs b:List Int} (h:At l a f (lN (fun x=> [x]) xs++ns)):T (A4u l a f b) fun r=>At l r.1 r.2.1 ns/\r.2.2=xs:=by
 unfold A4u A55 A8h;exact yB (yM (rLz h (fun _ _=>by simp) (fun a f x ns' _ hA=>rI hA) (fun _ _ _ _=>rfl) (by decide)) fun r hr=>yI hr)
theorem zWi {xs b:List A2} (hw:∀x∈xs,I0 x) (h:At l a f (lN C2e xs++ns)):T (A1B l a f b) fun r=>At l r.1 r.2.1 ns/\r.2.2=xs:=by
 unfold A1B A6p;refine rLz h (fun _ _=>by simp [C2e]) (fun a f x ns' hx hA=>yM (rWi hA) fun r hr=>⟨hr.1, ?_⟩) (fun _ _ _ _=>rfl) (by decide)
 obtain ⟨h1,h2,h3,h4⟩:=hw x hx;rw [hr.2];have e: ∀n,0<=n->n<18446744073709551616->A5 (A1 n)=n:=fun n _ _=>by rw [K2,A8i];omega
 rw [e _ h1 h2,e _ h3 h4]
theorem zCh {xs b:List B5} (h:At l a f (lN B5R xs++ns)):T (A02 l a f b) fun r=>At l r.1 r.2.1 ns/\r.2.2=xs:=by
 unfold A02 A5E;exact rLz h (fun _ _=>by simp [B5R]) (fun a f x ns' _ hA=>by
  unfold B5R at hA;rw [D8E] at hA;unfold A5Z A70;exact yB (yB (yM (rI hA) fun _ ⟨hA,e1⟩=>yB (yM (rSm hA) fun _ ⟨hA,e2⟩=>yB (yM (rI hA) fun _ ⟨hA,e3⟩=>yB (yM (rI hA) fun _ ⟨hA,e4⟩=>yB (yM (zLi hA) fun _ ⟨hA,e5⟩=>yI (yI ⟨hA,by dsimp only;rw [e1,e2,e3,e4,e5]⟩)))))))) (fun _ _ _ _=>rfl) (by decide)
theorem zBl {xs b:List B1} (h:At l a f (lN B5E xs++ns)):T (A01 l a f b) fun r=>At l r.1 r.2.1 ns/\r.2.2=xs:=by
 unfold A01 A5D;exact rLz h (fun _ _=>by simp [B5E]) (fun a f x ns' _ hA=>by
  unfold B5E at hA;rw [D8E] at hA;unfold A51 A7Z;exact yB (yB (yM (rI hA) fun _ ⟨hA,e1⟩=>yB (yM (rI hA) fun _ ⟨hA,e2⟩=>yB (yM (rSm hA) fun _ ⟨hA,e3⟩=>yB (yM (rI hA) fun _ ⟨hA,e4⟩=>yB (yM (zEt hA) fun _ ⟨hA,e5⟩=>yI (yI ⟨hA,by dsimp only;rw [e1,e2,e3,e4,e5]⟩)))))))) (fun _ _ _ _=>rfl) (by decide)
theorem zBo {x b:Bool} (h:At l a f (C4I x::ns)):T (A4s l a f b) fun r=>At l r.1 r.2.1 ns/\r.2.2=x:=by
 have k: ∀n,T (A2R l a f n) fun r=>At l r.1 r.2.1 ns/\r.2.2=x:=fun n=>by
  unfold A2R;refine yB (yM (rW h (by cases x<;>decide)) fun r hr=>yI ⟨hr.1, ?_⟩)
  dsimp only;rw [hr.2];cases x<;>rfl
 unfold A4s;exact yC (fun _=>k _) fun _=>k _
theorem zSt {s:A9} (hk:1<=s.Ap.Bj/\s.Ap.Bj<=11) (ho:B0F s) (hw:∀x∈s.Bn.Ag,I0 x) (h:At l a f (stZ s++ns)):T (A4n l a f { C4S with Ap:=s.Ap}) fun r=>At l r.1 r.2.1 ns/\r.2.2=s:=by
 obtain ⟨c,s1,s2,s3,s4,s5,s6,s7,s8,s9,s10,s11⟩:=s;obtain ⟨o1,o2,o3,o4,o5,o6,o7,o8,o9,o10,o11⟩:=ho;dsimp only at hk hw o1 o2 o3 o4 o5 o6 o7 o8 o9 o10 o11;have L: ∀ {α:Type} {l:List α},l.length=0->l= []:=fun h=>D8V h;have z1:c.Bj≠1->s1=⟨0,0,0, []⟩:=fun h=>by obtain ⟨a,b,c,d⟩:=o1 h;cases s1;simp_all
 have z2:c.Bj≠2->s2=⟨0,0,0,0, []⟩:=fun h=>by obtain ⟨a,b,c,d,e⟩:=o2 h;cases s2;simp_all
 have z3:c.Bj≠3->s3=⟨0,0,0,0,0, []⟩:=fun h=>by obtain ⟨a,b,c,d,e,f⟩:=o3 h;cases s3;simp_all
 have z4:c.Bj≠4->s4=⟨0,0,0,0,0,0, []⟩:=fun h=>by obtain ⟨a,b,c,d,e,f,g⟩:=o4 h;cases s4;simp_all
 have z5:c.Bj≠5->s5=⟨0,0,0,0,0, []⟩:=fun h=>by obtain ⟨a,b,c,d,e,f⟩:=o5 h;cases s5;simp_all
 have z6:c.Bj≠6->s6=⟨0,0,0, []⟩:=fun h=>by obtain ⟨a,b,c,d⟩:=o6 h;cases s6;simp_all
 have z7:c.Bj≠7->s7=⟨0, []⟩:=fun h=>by obtain ⟨a,b⟩:=o7 h;cases s7;simp_all
 have z8:c.Bj≠8->s8=⟨false,0,0,0, []⟩:=fun h=>by obtain ⟨a,b,c,d,e⟩:=o8 h;cases s8;simp_all
 have z9:c.Bj≠9->s9=⟨[]⟩:=fun h=>by have a:s9.Ao.length=0:=o9 h;cases s9;simp_all
 have z10:c.Bj≠10->s10=⟨0,0,0, []⟩:=fun h=>by obtain ⟨a,b,c,d⟩:=o10 h;cases s10;simp_all
 have z11:c.Bj≠11->s11=⟨0,0,0,0, []⟩:=fun h=>by obtain ⟨a,b,c,d,e⟩:=o11 h;cases s11;simp_all
 clear o1 o2 o3 o4 o5 o6 o7 o8 o9 o10 o11
 unfold stZ at h;unfold A4n;dsimp only at h⊢;rcases D0O hk with k|k|k|k|k|k|k|k|k|k|k
 all_goals
  simp only [k,Int.reduceBEq,Int.reduceEq,D8e,D8d,if_true,if_false,D8E,List.cons_append,List.nil_append] at h⊢
  try rw [z1 (by omega)]
  try rw [z2 (by omega)]
  try rw [z3 (by omega)]
  try rw [z4 (by omega)]
  try rw [z5 (by omega)]
  try rw [z6 (by omega)]
  try rw [z7 (by omega)]
  try rw [z8 (by omega)]
  try rw [z9 (by omega)]
  try rw [z10 (by omega)]
  try rw [z11 (by omega)]
 ·exact yB (yM (rI h) fun _ ⟨h,e1⟩=>yB (yM (rSm h) fun _ ⟨h,e2⟩=>yB (yM (rI h) fun _ ⟨h,e3⟩=>yB (yM (zIt h) fun _ ⟨h,e4⟩=>yI ⟨h,by dsimp only;rw [e1,e2,e3,e4];rfl⟩))))
 ·exact yB (yM (rI h) fun _ ⟨h,e1⟩=>yB (yM (rSm h) fun _ ⟨h,e2⟩=>yB (yM (rSm h) fun _ ⟨h,e3⟩=>yB (yM (rI h) fun _ ⟨h,e4⟩=>yB (yM (zBu h) fun _ ⟨h,e5⟩=>yI ⟨h,by dsimp only;rw [e1,e2,e3,e4,e5];rfl⟩)))))
 ·exact yB (yM (rI h) fun _ ⟨h,e1⟩=>yB (yM (rSm h) fun _ ⟨h,e2⟩=>yB (yM (rSm h) fun _ ⟨h,e3⟩=>yB (yM (rSm h) fun _ ⟨h,e4⟩=>yB (yM (rI h) fun _ ⟨h,e5⟩=>yB (yM (zBu h) fun _ ⟨h,e6⟩=>yI ⟨h,by dsimp only;rw [e1,e2,e3,e4,e5,e6];rfl⟩))))))
 ·exact yB (yM (rSm h) fun _ ⟨h,e1⟩=>yB (yM (rI h) fun _ ⟨h,e2⟩=>yB (yM (rSm h) fun _ ⟨h,e3⟩=>yB (yM (rSm h) fun _ ⟨h,e4⟩=>yB (yM (rI h) fun _ ⟨h,e5⟩=>yB (yM (rI h) fun _ ⟨h,e6⟩=>yB (yM (zMa h) fun _ ⟨h,e7⟩=>yI ⟨h,by dsimp only;rw [e1,e2,e3,e4,e5,e6,e7];rfl⟩)))))))
 ·exact yB (yM (rI h) fun _ ⟨h,e1⟩=>yB (yM (rSm h) fun _ ⟨h,e2⟩=>yB (yM (rSm h) fun _ ⟨h,e3⟩=>yB (yM (rI h) fun _ ⟨h,e4⟩=>yB (yM (rI h) fun _ ⟨h,e5⟩=>yB (yM (zMa h) fun _ ⟨h,e6⟩=>yI ⟨h,by dsimp only;rw [e1,e2,e3,e4,e5,e6];rfl⟩))))))
 ·exact yB (yM (rSm h) fun _ ⟨h,e1⟩=>yB (yM (rI h) fun _ ⟨h,e2⟩=>yB (yM (rI h) fun _ ⟨h,e3⟩=>yB (yM (zWi hw h) fun _ ⟨h,e4⟩=>yI ⟨h,by dsimp only;rw [e1,e2,e3,e4];rfl⟩))))
 ·exact yB (yM (rI h) fun _ ⟨h,e1⟩=>yB (yM (zSu h) fun _ ⟨h,e2⟩=>yI ⟨h,by dsimp only;rw [e1,e2];rfl⟩))
 ·exact yB (yM (zBo h) fun _ ⟨h,e1⟩=>yB (yM (rI h) fun _ ⟨h,e2⟩=>yB (yM (rSm h) fun _ ⟨h,e3⟩=>yB (yM (rI h) fun _ ⟨h,e4⟩=>yB (yM (zIt h) fun _ ⟨h,e5⟩=>yI ⟨h,by dsimp only;rw [e1,e2,e3,e4,e5];rfl⟩)))))
 ·exact yB (yM (zCh h) fun _ ⟨h,e1⟩=>yI ⟨h,by dsimp only;rw [e1];rfl⟩)
 ·exact yB (yM (rSm h) fun _ ⟨h,e1⟩=>yB (yM (rSm h) fun _ ⟨h,e2⟩=>yB (yM (rI h) fun _ ⟨h,e3⟩=>yB (yM (zTu h) fun _ ⟨h,e4⟩=>yI ⟨h,by dsimp only;rw [e1,e2,e3,e4];rfl⟩))))
 ·exact yB (yM (rI h) fun _ ⟨h,e1⟩=>yB (yM (rSm h) fun _ ⟨h,e2⟩=>yB (yM (rSm h) fun _ ⟨h,e3⟩=>yB (yM (rI h) fun _ ⟨h,e4⟩=>yB (yM (zBl h) fun _ ⟨h,e5⟩=>yI ⟨h,by dsimp only;rw [e1,e2,e3,e4,e5];rfl⟩)))))
end
end Go.Win
set_option maxHeartbeats 4000000
set_option maxRecDepth 20000
namespace Go.Win
open Go.Vc Go.Dec
def RS (Q:B7->Prop) (t:Int) (s:A9):Prop:=A19 s/\X4 s/\((K3 s).2=true->(K3 s).1=t)/\Q s.Ap
structure ES (Q:B7->Prop) (e:B4):Prop where
 now:0<=e.Now/\e.Now<=16777216
 lim:1<=e.Be/\e.Be<=64
 len:(e.Ai.length:Int)<=e.Be
 recs: ∀r∈e.Ai,(0<=r.ID/\r.ID<=1048576)/\RS Q e.Now r.Ac
 asc:B7F e.Ai
theorem ES.ok {Q:B7->Prop} {e:B4} (h:ES Q e):C0D e/\A6b e.Ai:=by
 have hl:=h.len;have hm:=h.lim;refine ⟨⟨⟨h.now,⟨h.lim,h.len⟩,fun i hi=> ?_⟩,fun i hi=> ?_⟩,by omega,fun r hr=>(h.recs _ hr).2.2.1⟩
 ·obtain ⟨a,b,_⟩:=h.recs _ (O4 hi);refine ⟨a,fun h1=> ?_,b⟩;have:=B7M.2 h.asc (i-1) (by omega)
  rw [show i-1+1=i by omega] at this
  exact this
 ·exact (h.recs _ (O4 hi)).2.2.2.1
theorem D4w {c:B7} {t:Int} (hc:A3w c):((K3 (B14 c t)).2=true->(K3 (B14 c t)).1=t)/\(B14 c t).Ap=c:=by
 unfold A3w at hc;have:c.Bj=1\/c.Bj=2\/c.Bj=3\/c.Bj=4\/c.Bj=5\/c.Bj=6\/c.Bj=7\/c.Bj=8\/c.Bj=9\/c.Bj=10\/c.Bj=11:=by omega
 unfold B14 K3;refine ⟨?_,rfl⟩;rcases this with h|h|h|h|h|h|h|h|h|h|h<;>simp [h]
theorem wT {p:Prop} (h:p:=by
 repeat' first
  |with_reducible refine wK ?_
  |refine wC (fun h=> ?_) (fun h=> ?_)
  |refine wB fun _=> ?_
  |refine wP ?_
  |refine wL (fun _=>True) trivial fun _ _=> ?_
  |(refine wI ?_;first|exact trivial|(intro e;first|exact rfl|(dsimp only at e;omega)|(simp only [bne_iff_ne] at h;dsimp only at e;omega)))):p:=h
theorem nw1 {x:D0} {v:Int}:W (A7i x v) fun r=>r.2=0->r.1.Now=x.Now:=by unfold A7i;exact wT
theorem nw2 {x:E4}:W (A3O x) fun r=>r.2=0->r.1.Now=x.Now:=by unfold A3O;exact wT
theorem nw3 {x:F3} {v:Int}:W (B3u x v) fun r=>r.2=0->r.1.Now=x.Now:=by unfold B3u;exact wT
theorem nw4 {x:D2} {v:Int}:W (A7v x v) fun r=>r.2=0->r.1.Now=x.Now:=by unfold A7v;exact wT
theorem nw5 {x:D5} {v:Int}:W (A7y x v) fun r=>r.2=0->r.1.Now=x.Now:=by unfold A7y;exact wT
theorem nw6 {x:E2} {v:Int}:W (B0G x v) fun r=>r.2=0->r.1.Now=x.Now:=by unfold B0G B1g B3T;exact wT
theorem nw7 {x:F4} {v:Int}:W (A88 x v) fun r=>r.2=0->r.1.Now=x.Now:=by unfold A88;exact wT
theorem nw8 {x:C2} {v:Int}:W (A5J x v) fun r=>r.2=0->r.1.Now=x.Now:=by unfold A5J A4K A9B;exact wT
theorem D7x {x:C3} {v:Int}:W (A4S x v) fun r=>r.2=0->r.1.Now=x.Now:=by unfold A4S;exact wT
def KC (s:A9) (r:A9×Int):Prop:=r.2=0->r.1.Ap=s.Ap/\K3 r.1=K3 s
theorem kT {s:A9} {k:Int} {z:A9} {y:Option (A9×Int)} (h:k=0->W y (KC s)):W (cond (k !=0) (some (z,k)) y) (KC s):=
 wC (fun g=>wI fun (e:k=0)=>by subst e;cases g) fun g=>h (by simpa using g)
theorem kQ {p:Prop} (h:p:=by (intro e;unfold K3;simp only [D84] at k;simp only [k,Int.reduceBEq,D8e,D8d];rw [hy e])):p:=h
theorem kR {p:Prop} (h:p:=by (intro e;unfold K3;simp only [D84] at k;simp only [k,Int.reduceBEq,D8d])):p:=h
theorem D5o (s:A9) (v:Int) (d:List Int):W (Z6 s v d) (KC s):=by
 have j15: ∀a b c d e f hn hs g h i j q,(q=0->K3 ⟨s.Ap,a,b,c,d,e,f,⟨hn,hs⟩,g,⟨h⟩,i,j⟩=K3 s)->W (A3e s a b c d e f hn hs g h i j q) (KC s):=fun a b c d e f hn hs g h i j q hq=>kT fun g=>wI fun _=>⟨rfl,hq g⟩;have j3: ∀x a b c d e f hn hs g h i j q,(q=0->K3 ⟨s.Ap,a,b,c,d,e,f,⟨hn,hs⟩,g,⟨h⟩,i,j⟩=K3 s)->W (M2 s x q a b c d e f hn hs g h i j) (KC s):=fun x a b c d e f hn hs g h i j q hq=>wC (fun _=>j15 _ _ _ _ _ _ _ _ _ _ _ _ _ fun e=>by omega) (fun _=>j15 _ _ _ _ _ _ _ _ _ _ _ _ _ hq)
 unfold Z6;refine wB fun a=>kT fun _=> ?_;refine wC (fun k=>wS nw1 fun y hy=>j3 _ _ _ _ _ _ _ _ _ _ _ _ _ _ kQ) fun _=> ?_;refine wC (fun k=>wC (fun _=>wI fun (e:(4:Int)=0)=>by omega) fun _=>wS nw2 fun y hy=>j3 _ _ _ _ _ _ _ _ _ _ _ _ _ _ kQ) fun _=> ?_
 refine wC (fun k=>wS nw3 fun y hy=>j3 _ _ _ _ _ _ _ _ _ _ _ _ _ _ kQ) fun _=> ?_;refine wC (fun k=>wS nw4 fun y hy=>j3 _ _ _ _ _ _ _ _ _ _ _ _ _ _ kQ) fun _=> ?_;refine wC (fun k=>wS nw5 fun y hy=>j3 _ _ _ _ _ _ _ _ _ _ _ _ _ _ kQ) fun _=> ?_;refine wC (fun k=>wS nw6 fun y hy=>j3 _ _ _ _ _ _ _ _ _ _ _ _ _ _ kQ) fun _=> ?_;refine wC (fun k=>wS nw7 fun y hy=>j3 _ _ _ _ _ _ _ _ _ _ _ _ _ _ kQ) fun _=> ?_;refine wC (fun k=>wS nw8 fun y hy=>j3 _ _ _ _ _ _ _ _ _ _ _ _ _ _ kQ) fun _=> ?_;refine wC (fun k=>wB fun _=>j3 _ _ _ _ _ _ _ _ _ _ _ _ _ _ kR) fun _=> ?_;refine wC (fun k=>wB fun _=>j3 _ _ _ _ _ _ _ _ _ _ _ _ _ _ kR) fun _=> ?_;refine wC (fun k=>wS D7x fun y hy=>j3 _ _ _ _ _ _ _ _ _ _ _ _ _ _ kQ) fun _=> ?_;exact j3 _ _ _ _ _ _ _ _ _ _ _ _ _ _ fun _=>rfl
end Go.Win
set_option maxHeartbeats 4000000
set_option maxRecDepth 20000
namespace Go.Win
open Go.Vc Go.Dec
theorem D5j {Q:B7->Prop} {e:B4} {r:A7} (h:ES Q e) (h0:(A7T e.Ai e.Be r).2=0) (hr:RS Q e.Now r.Ac):ES Q ⟨e.Now,e.Be,(A7T e.Ai e.Be r).1⟩:=by
 have hl:=h.len;unfold A7T at h0⊢;split at h0
 ·cases h0
 split at h0
 ·cases h0
 split at h0
 ·cases h0
 split at h0
 ·cases h0
 rename_i g1 g2 g3 g4;rw [if_neg g1,if_neg g2,if_neg g3,if_neg g4];refine ⟨h.now,h.lim, ?_,fun x hx=> ?_,D4q h.asc (D8q.2 g3)⟩
 ·show ((e.Ai.take _++ [r]++e.Ai.drop _).length:Int)<=e.Be;simp only [D8g,D8C,D8I,D8P];omega
 ·have hx:x∈e.Ai.take (W2 e.Ai r.ID)++ [r]++e.Ai.drop (W2 e.Ai r.ID):=hx;simp only [D8W,List.mem_singleton] at hx;rcases hx with (hx|rfl)|hx
  ·exact h.recs _ (List.mem_of_mem_take hx)
  ·exact ⟨by omega,hr⟩
  ·exact h.recs _ (List.mem_of_mem_drop hx)
theorem D5l {Q:B7->Prop} {e:B4} {i:Int} (h:ES Q e) (h0:(B5o e.Ai i).2=0):ES Q ⟨e.Now,e.Be,(B5o e.Ai i).1⟩:=by
 have hl:=h.len;unfold B5o at h0⊢;split at h0
 ·cases h0
 split at h0
 ·rename_i g1 g2;rw [if_neg g1,if_pos g2];refine ⟨h.now,h.lim, ?_,fun x hx=> ?_,D4N h.asc _⟩
  ·show ((e.Ai.take _++e.Ai.drop _).length:Int)<=e.Be;simp only [D8g,D8C,D8I];omega
  ·rcases D8W.1 hx with hx|hx
   ·exact h.recs _ (List.mem_of_mem_take hx)
   ·exact h.recs _ (List.mem_of_mem_drop hx)
 ·cases h0
theorem C98 {Q:B7->Prop} {e:B4} {t:Int} {L:List A7} (h:ES Q e) (ht:0<=t/\t<=16777216) (hL:L.length=e.Ai.length) (hi:∀i,i<L.length->(el L i).ID=(el e.Ai i).ID/\RS Q t (el L i).Ac):ES Q ⟨t,e.Be,L⟩:=by
 have hl:=h.len;refine ⟨ht,h.lim,by show (L.length:Int)<=e.Be;omega,fun r hr=> ?_,B7M.1 fun i hj=> ?_⟩
 ·obtain ⟨i,hlt,rfl⟩:=A2l hr;obtain ⟨a,b⟩:=hi i hlt;rw [a];exact ⟨(h.recs _ (O4 (by rw [<-hL];exact hlt))).1,b⟩
 ·have hj:i+1<L.length:=hj;show (el L i).ID<(el L (i+1)).ID;rw [(hi i (by omega)).1,(hi (i+1) hj).1]
  exact B7M.2 h.asc i (by omega)
abbrev oZ (e:B4) (c:B6):D8:=⟨e,c,⟨0,B4k, [], []⟩⟩
def PQ (Q:B7->Prop) (x:Int×D8):Prop:=x.2.reply_.Code=0/\ES Q x.2.Aq/\B4r x.2.reply_
theorem B6Z (k:Int):B4r ⟨k,B4k, [], []⟩:=⟨Nat.zero_le _,Nat.zero_le _,Nat.zero_le _⟩
section
variable {Q:B7->Prop} {e:B4} {c:B6} (h:ES Q e)
include h
theorem pQ (k:Int):PQ Q (k,oZ e c):=⟨rfl,h,B6Z _⟩
theorem D0C:A2j (oZ e c)=some (cond (A35 e.Ai c.ID) ((el e.Ai (W2 e.Ai c.ID)).Ac,true) (C4S,false))/\(A35 e.Ai c.ID=true->W2 e.Ai c.ID<e.Ai.length/\(el e.Ai (W2 e.Ai c.ID)).ID=c.ID):=by
 have ok:=h.ok.1;have hl:=h.len;have hm:=h.lim;have hh:A35 e.Ai c.ID=true->W2 e.Ai c.ID<e.Ai.length/\(el e.Ai (W2 e.Ai c.ID)).ID=c.ID:=fun g=>by
  unfold A35 at g;simp only [D8i,D8c,D84] at g;exact ⟨by omega,g.2⟩
 refine ⟨?_,hh⟩;unfold A2j;rw [B1z _ _ (by show e.Ai.length<=_;omega) (B3Q ok.1.2),D8a]
 dsimp only;rw [B3L];cases g:A35 e.Ai c.ID with
 |false=>rfl
 |true=>
  simp only [D8m,D8d,D8e];rw [J5 (hh g).1];rfl
theorem D3Y (hQ:A3w c.Ap->Q c.Ap):T (Y5 (oZ e c)) (PQ Q):=by
 unfold Y5;refine yC (fun _=>yI (pQ h _)) (fun _=> ?_)
 by_cases hc:A3w c.Ap
 ·have hw:=D4s (D4x hc h.now);have hn:=D4w (t:=e.Now) hc;exact yB ⟨_,D06 hc h.now,yC (fun h=>by cases h) fun _=>yB ⟨_,C6d _ _ _ h.ok.2 hw,yC (fun _=>yI (pQ h _)) fun h0=>yI ⟨rfl,D5j h (by simpa using h0) ⟨B9f hc h.now,hw,hn.1,by rw [hn.2];exact hQ hc⟩,B6Z _⟩⟩⟩
 ·exact yB ⟨_,D4y (fun g=>hc g.1),yC (fun _=>yI (pQ h _)) fun h=>by cases h⟩
theorem D6K:T (A0I (oZ e c)) (PQ Q):=by
 unfold A0I;exact yB ⟨_,D1z _ _ h.ok.2,yC (fun _=>yI (pQ h _)) fun h0=>yI ⟨rfl,D5l h (by simpa using h0),B6Z _⟩⟩
theorem D6M:T (A0J (oZ e c)) (PQ Q):=by
 have hl:=h.len;have hm:=h.lim;unfold A0J A2D;refine yC (fun _=>yI (pQ h _)) (fun ht=>yK (by rw [D8c,D8G];dsimp only;omega) ?_)
 simp only [D8K,D8r] at ht;have hn0:=h.now;have ht' :0<=c.T/\c.T<=16777216:=by omega
 refine yL (fun s=> ∃k:Nat,s.2=k/\k<=e.Ai.length/\s.1.length=e.Ai.length/\ ∀i,i<s.1.length->(el s.1 i).ID=(el e.Ai i).ID/\(i<k->RS Q c.T (el s.1 i).Ac)/\(k<=i->el s.1 i=el e.Ai i)) (fun s=>e.Ai.length-s.2.toNat) ⟨0,rfl,Nat.zero_le _,rfl,fun i _=>⟨rfl,fun h=>absurd h (Nat.not_lt_zero _),fun _=>rfl⟩⟩ ?_;rintro ⟨L,_⟩ ⟨k,rfl,h1,h2,h3⟩;dsimp only at h2 h3⊢;unfold A1Y;refine yC (fun g=> ?_) (fun g=>yP (yI ⟨rfl,C98 h ht' h2 fun i hi=>⟨(h3 i hi).1,(h3 i hi).2.1 ?_⟩,B6Z _⟩))
 ·rw [D8c] at g;have g:(k:Int)<(e.Ai.length:Int):=g;have hlt:k<L.length:=by omega
  obtain ⟨_,b1,b2,b3,b4⟩:=h.recs _ (O4 (show k<e.Ai.length by omega))
  obtain ⟨q,q1,q2,q3,q4,q5⟩:=D31 b1 b2 b3 (show e.Now<=c.T by omega) ht'.1 ht'.2
  have e0:B9 L (k:Int)=some (el L k):=J5 hlt;have e1:(el L k).Ac=(el e.Ai k).Ac:=by rw [(h3 k hlt).2.2 (D8S _)]
  simp only [e0,D8a,e1,q1,D8N,D8d,(T2 (k:Int) (by omega)).1,D8Q]
  refine yI ⟨⟨k+1,rfl,by omega,by rw [D9a];exact h2,fun i hi=> ?_⟩, ?_⟩
  ·replace hi:i<(L.set k ⟨(el L k).ID,q⟩).length:=hi;rw [D9a] at hi
   by_cases hik:i=k
   ·subst hik;have e2:el (L.set i ⟨(el L i).ID,q⟩) i=⟨(el L i).ID,q⟩:=by
     rw [L8 (by rw [D9a];exact hi)];exact List.getElem_set_self _
    dsimp only;rw [e2];exact ⟨(h3 i hi).1,fun _=>⟨q2,q3,q4,by rw [q5];exact b4⟩,fun h=>by omega⟩
   ·have e2:el (L.set k ⟨(el L k).ID,q⟩) i=el L i:=by
     rw [L8 (by rw [D9a];exact hi),L8 hi,List.getElem_set_ne (by omega)]
    dsimp only;rw [e2];exact ⟨(h3 i hi).1,fun h=>(h3 i hi).2.1 (by omega),fun h=>(h3 i hi).2.2 (by omega)⟩
  ·dsimp only;omega
 ·rw [D8r] at g;have g: ¬(k:Int)<(e.Ai.length:Int):=g;omega
theorem D7m (hd:c.Ba.length<=maxLen):T (A1h (oZ e c)) (PQ Q):=by
 obtain ⟨hf,hh⟩:=D0C (c:=c) h;have w:=h.ok.2;unfold A1h;rw [hf];cases g:A35 e.Ai c.ID with
 |false=>exact yI (pQ h _)
 |true=>
  obtain ⟨hi,hid⟩:=hh g;obtain ⟨_,b1,b2,b3,b4⟩:=h.recs _ (O4 hi);obtain ⟨q,q1,q2⟩:=D11 (el e.Ai (W2 e.Ai c.ID)).Ac b2 c.V c.Ba hd;simp only [D8a,D8e,D8m,D8d];refine yC (fun _=>yI (pQ h _)) fun _=>yB ⟨q,q1,yC (fun _=>yI (pQ h _)) fun hq0=>yB ⟨_,C9K _ _ w q2,yC (fun _=>yI (pQ h _)) fun h0=>yI ⟨rfl, ?_,B6Z _⟩⟩⟩;obtain ⟨k1,k2⟩:=D5o _ _ _ _ q1 (by simpa using hq0)
  have h0:(B2a e.Ai ⟨c.ID,q.1⟩).2=0:=by simpa using h0
  show ES Q ⟨e.Now,e.Be,(B2a e.Ai ⟨c.ID,q.1⟩).1⟩;unfold B2a at h0⊢;split at h0
  ·cases h0
  rename_i g1;rw [if_neg g1,if_pos g];have g1:=(Classical.not_not.1 g1).2;refine C98 h h.now (by rw [D9a]) fun i hi' => ?_
  have hi2:i<e.Ai.length:=by simpa using hi'
  by_cases hik:i=W2 e.Ai c.ID
  ·subst hik;rw [L8 hi',List.getElem_set_self];exact ⟨hid.symm,g1,q2,by rw [k2];exact b3,by rw [k1];exact b4⟩
  ·rw [L8 hi',List.getElem_set_ne (fun h=>hik h.symm),<-L8 hi2];exact ⟨rfl,(h.recs _ (O4 hi2)).2⟩
theorem D7n (hq:S7 c.Bh):T (A1i (oZ e c)) (PQ Q):=by
 obtain ⟨hf,hh⟩:=D0C (c:=c) h;unfold A1i;rw [hf];cases g:A35 e.Ai c.ID with
 |false=>exact yI (pQ h _)
 |true=>
  simp only [D8a,D8e,D8m,D8d];exact yB (yS ⟨h.ok.2.2 _ (O4 (hh g).1),hq⟩ fun b hb=>yI ⟨rfl,h,Nat.le_trans hb (by decide),Nat.zero_le _,Nat.zero_le _⟩)
theorem D6L:T (X2 (oZ e c)) (PQ Q):=by
 unfold X2;exact yB (yS h.ok.2 fun b hb=>yI ⟨rfl,h,Nat.zero_le _,hb,Nat.zero_le _⟩)
def AQ (Q:B7->Prop) (e:B4) (c:B6) (r:B4×F5):Prop:=(r.2.Code=0\/(r.1=e/\r.2=⟨r.2.Code,B4k, [], []⟩))/\(c.Op≠8->ES Q r.1/\B4r r.2)
theorem C42 (hQ:A3w c.Ap->Q c.Ap) (hd:c.Ba.length<=maxLen) (hq:S7 c.Bh) (h6:c.Op=6->T (X2 (oZ e c)) (PQ Q)) (h7:c.Op=7->T (S4 (oZ e c)) (PQ Q)) (h8:c.Op=8->T (A4g (oZ e c)) fun x=>x.2.reply_.Code=0):T (I9 e c) (AQ Q e c):=by
 obtain ⟨ok,w⟩:=h.ok;have fin: ∀ {m:Option (Int×D8)},T m (PQ Q)->T (Option.bind m fun y=>cond (y.1 !=(0:Int)) (some (e,(⟨y.1,B4k, [], []⟩:F5))) (some (y.2.Aq,y.2.reply_))) (AQ Q e c):=fun hm=>
  yB (yM hm fun a ha=>yC (fun _=>yI ⟨.inr ⟨rfl,rfl⟩,fun _=>⟨h,B6Z _⟩⟩) (fun _=>yI ⟨.inl ha.1,fun _=>ha.2⟩))
 unfold I9;rw [A1K e w,O3 ok,D8a,D8N,D8d];refine yC (fun _=>yI ⟨.inr ⟨rfl,rfl⟩,fun _=>⟨h,B6Z _⟩⟩) fun hp=> ?_;refine yC (fun _=>fin (D3Y h hQ)) fun c1=>yC (fun _=>fin (D6K h)) fun c2=>yC (fun _=>fin (D6M h)) fun c3=>yC (fun _=>fin (D7m h hd)) fun c4=>yC (fun _=>fin (D7n h hq)) fun c5=>yC (fun g=>fin (h6 (by simpa using g))) fun c6=>yC (fun g=>fin (h7 (by simpa using g))) fun c7=>yC (fun g=> ?_) fun c8=> ?_
 ·have g:c.Op=8:=by simpa using g
  exact yB (yM (h8 g) fun a ha=>yC (fun _=>yI ⟨.inr ⟨rfl,rfl⟩,fun k=>absurd g k⟩) (fun _=>yI ⟨.inl ha,fun k=>absurd g k⟩))
 ·unfold A6z A1Z at hp;rw [c1,c2,c3,c4,c5,c6,c7,c8] at hp;cases hp
end
theorem ES.any {Q:B7->Prop} {e:B4} (h:ES Q e):ES (fun _=>True) e:=⟨h.now,h.lim,h.len,fun r hr=>let ⟨a,b1,b2,b3,_⟩:=h.recs r hr;⟨a,b1,b2,b3,trivial⟩,h.asc⟩
end Go.Win
set_option maxHeartbeats 4000000
set_option maxRecDepth 20000
namespace Go.Win
open Go.Vc Go.Dec
theorem B6m {a b:List Int} (h:byt a) (g:byt b):byt (a++b):=fun x hx=>(D8W.1 hx).elim (h x) (g x)
theorem C8c {p b:List Int} (hp:p.length<=10000000000) (hb:b.length<=10000000000):T (A6R p b) fun r=>r=p++L1 b:=by
 have e:wr [nz (b.length:Int)]=A1f (b.length:Int):=by rw [C1z (S2.2 (by omega)),A9q,B8Y,List.append_nil]
 have c10:=B8Z (nz1 (b.length:Int));unfold A6R A9w;refine yB (yK (by rw [D8c,D8G];omega) (yB ⟨_,B6i (by rw [List.nil_append];omega),yI (yK ?_ (yI ?_))⟩))
 ·rw [D8c,List.nil_append,D8g];simp at c10;omega
 ·rw [e,List.nil_append,D8E];rfl
theorem B9N {l:List Int} (hb:byt l) (hl:l.length<=1099511627776) {a:Nat} (ha:a<=l.length):B2I l a=some (rdA l a):=by
 unfold B2I;rw [B45 hb hl ha,D8a]
end Go.Win
set_option maxHeartbeats 4000000
set_option maxRecDepth 20000
namespace Go.Win
open Go.Vc Go.Dec
theorem D5A (u:Nat):byt (cb u):=by
 induction u using Nat.strongRecOn with
 |_ u ih=>
  by_cases h:u<128
  ·rw [B84 h];intro x hx;simp only [List.mem_singleton] at hx;omega
  ·rw [B83 (by omega)]
   intro x hx;rcases List.mem_cons.1 hx with h1|h1
   ·omega
   ·exact ih (u/128) (by omega) x h1
theorem C5c (n:Int):byt (A1f n):=D5A _
theorem C9d {es:List (List Int)} (h:∀e∈es,byt e):byt (es.flatMap L1):=by
 intro x hx;obtain ⟨e,he,hxe⟩:=D8O.1 hx;exact B6m (C5c _) (h e he) x hxe
theorem B8K: ∀(es:List (List Int)) (pre:List Int) (out:List (List Int)),byt pre->(∀e∈es,byt e/\e.length<=1048576)->(pre++es.flatMap L1).length<=100000000000->out.length<=pre.length->
  A6i (pre++es.flatMap L1) out pre.length=some (out++es, [])
 | [],pre,out,hp,_,hl,ho=>by
  have hd:(pre++([]:List (List Int)).flatMap L1)=pre:=by simp
  rw [hd] at hl⊢;have e:rdA pre pre.length=(0,0,false):=by unfold rdA;rw [List.drop_length];rfl
  unfold A6i;refine M5 ?_;unfold A5o;simp only [];rw [B9N hp (by omega) (D8S _),e,D8a]
  simp only [D8n,D8U,D8e];rw [K7 (by rw [D8c];omega),D8Q,List.drop_length,K7 (by decide)]
  simp
 |e::es,pre,out,hp,h,hl,ho=>by
  have he:=h e (by simp)
  have hes: ∀e∈es,byt e/\e.length<=1048576:=fun x hx=>h x (by simp [hx])
  have w:D6 .i64 (e.length:Int):=S2.2 (by omega)
  have hL:pre++(e::es).flatMap L1=(pre++L1 e)++es.flatMap L1:=by rw [List.flatMap_cons,D8E]
  have hpre:byt (pre++L1 e):=B6m hp (B6m (C5c _) he.1);have hlen:(pre++L1 e).length=pre.length+(A1f (e.length:Int)).length+e.length:=by unfold L1;rw [D8g,D8g];omega
  have ih:=B8K es (pre++L1 e) (out++ [e]) hpre hes (by rw [<-hL];exact hl) (by rw [D8g,D8P,hlen];have:=C0r (e.length:Int);omega)
  rw [<-hL,D8E] at ih;rw [show out++e::es=out++([e]++es) from rfl,<-ih];have hdrop:(pre++(e::es).flatMap L1).drop pre.length=A1f (e.length:Int)++(e++es.flatMap L1):=by
   rw [List.drop_left,List.flatMap_cons];unfold L1;rw [D8E]
  have hbl:byt (pre++(e::es).flatMap L1):=B6m hp (C9d fun x hx=>(h x hx).1);have hge:pre.length+(A1f (e.length:Int)).length+e.length<=(pre++(e::es).flatMap L1).length:=by rw [hL,D8g,hlen];omega
  have hA:rdA (pre++(e::es).flatMap L1) pre.length=((e.length:Int),((pre.length+(A1f (e.length:Int)).length:Nat):Int),true):=by
   unfold rdA;rw [hdrop,B9m w]
  generalize hk:(A1f (e.length:Int)).length=k at*
  generalize hW:pre++(e::es).flatMap L1=W at*
  have hfr:(W.take (pre.length+k+e.length)).drop (pre.length+k)=e:=by
   have e1:W.drop (pre.length+k)=e++es.flatMap L1:=by rw [<-D88,hdrop,<-hk,List.drop_left]
   rw [List.drop_take,e1,show pre.length+k+e.length-(pre.length+k)=e.length by omega,List.take_left]
  have s1:A1 (((pre.length+k:Nat):Int)+(e.length:Int))=((pre.length+k+e.length:Nat):Int):=by rw [C4]<;>omega
  have s2:A1 ((W.length:Int)-((pre.length+k:Nat):Int))=(W.length:Int)-((pre.length+k:Nat):Int):=by rw [C4]<;>omega
  have c1:((((!true)||decide ((e.length:Int)<0))||decide ((e.length:Int)>1048576))||decide ((e.length:Int)>(W.length:Int)-((pre.length+k:Nat):Int)))=false:=by
   simp only [D8m,D8B,D8K,D8r];omega
  rw [show (((pre++L1 e).length:Nat):Int)=((pre.length+k+e.length:Nat):Int) by rw [hlen]]
  unfold A6i;refine M1 ?_;unfold A5o;simp only [];rw [B9N hbl (by omega) (by omega),hA,D8a]
  simp only [];rw [s2,c1,D8d,s1,K7 (by rw [D8c];omega),D8Q,D8Q,hfr,List.nil_append,
   K7 (by rw [D8c,D8G];omega),K7 (by rw [D8c,D8P];omega)]
end Go.Win
set_option maxHeartbeats 4000000
set_option maxRecDepth 20000
namespace Go.Win
open Go.Vc Go.Dec
theorem C68 {x:B5} {v:Int} {d:List Int} {a:Int} (hl:x.Bf.length<=maxLen):T (B04 x v d a) fun _=>True:=by
 obtain ⟨q,hq,hok⟩:=A24 x hl;unfold B04;rw [hq]
 by_cases h:q=0
 ·obtain ⟨h1,h2,h3,h4,h5,h6,h7,_,h8⟩:=hok h;unfold B1v;exact yT
 ·clear hok;exact yT
theorem C27 {s:E7} {v:Int} {d:List Int} (hl:s.Ao.length<=1048576) (hc:∀c∈s.Ao,c.Bf.length<=maxLen) (hd:d.length<=maxLen):T (A6P s v d) fun _=>True:=by
 obtain ⟨q,hq,_⟩:=A1s s (G8 hl) hc;unfold A6P;refine yB ⟨_,hq,yC (fun _=>yI trivial) fun _=> ?_⟩;unfold B41;refine yL (fun t=>0<=t.2/\t.2<=s.Ao.length) (fun t=>s.Ao.length-t.2.toNat) ⟨Int.le_refl _,by simp⟩ fun t ⟨a1,a2⟩=> ?_
 unfold B33;refine yC (fun g=> ?_) fun _=>yP (yI trivial);rw [D8c] at g;refine yB (yX ⟨a1,g⟩ fun hm=>yB (yM (C68 (hc _ hm)) fun _ _=>yC (fun _=>yI trivial) fun _=>yB (yM (C7V _ _ _ _ (hc _ hm) hd) fun _ _=>yC (fun _=>yI trivial) fun _=>yI ?_)));rw [(T2 t.2 (by omega)).1]
 exact ⟨⟨by dsimp only;omega,by dsimp only;omega⟩,by dsimp only;omega⟩
theorem D2P {Q:B7->Prop} {e:B4} {c:B6} (h:ES Q e) (hd:c.Ba.length<=maxLen) (hq:S7 c.Bh):T (A9x e c) fun _=>True:=by
 unfold A9x;refine yC (fun _=>yI trivial) fun h4=> ?_;have h4:c.Op=4:=by simpa using h4
 obtain ⟨x,hx⟩: ∃x,I9 e c=some x:=by
  obtain ⟨x,hx,_⟩:=C42 h.any (c:=c) (fun _=>trivial) hd hq (fun g=>by omega) (fun g=>by omega) (fun g=>by omega)
  exact ⟨x,hx⟩
 refine yB ⟨x,hx,yC (fun _=>yI trivial) fun _=> ?_⟩;have hl:=h.len;have hm:=h.lim;rw [B1z _ _ (by omega) (B3Q h.ok.1.1.2),D8a]
 refine yC (fun _=>yI trivial) fun g=> ?_;rw [B3L] at g⊢;unfold A35 at g;simp only [Bool.not_eq_false',D8i,D8c] at g;refine yB (yX ⟨by dsimp only;omega,g.1⟩ fun hm=>yB (yM (P:=fun _=>True) ?_ fun _ _=>yI trivial))
 have hu:=h.ok.2.2 _ hm;have key:T (A6P (el e.Ai (W2 e.Ai c.ID)).Ac.As c.V c.Ba) fun _=>True:=C27 hu.2.2.2.2.2.2.2.2.1.1 (fun c hc=>G8 (hu.2.2.2.2.2.2.2.2.1.2 c hc)) hd;unfold B0R;exact yB (yG (fun _=>⟨_,T4 _ hu,yC (fun _=>yI trivial) fun _=>yB (yM key fun _ _=>yI trivial)⟩) fun _=>yC (fun _=>yI trivial) fun _=>yB (yM key fun _ _=>yI trivial))
theorem D5W {t:V4} {m:Int} (h:0<=t.At/\t.At<=t.L.length) (hl:t.L.length<=maxLen) (hm:1<=m):T (A21 t m) fun r=>r.2.L=t.L/\0<=r.2.At/\r.2.At<=t.L.length:=by
 rw [I2] at hl;unfold A21;refine yC (fun _=>yI ⟨rfl,h⟩) fun g=> ?_;rw [D8r] at g;rw [C4 (n:=t.At+1) (by omega) (by omega),C4 (by omega) (by omega)]
 refine yB (yX (by omega) fun _=>yB (yM (P:=fun _=>True) ?_ fun _ _=>yI ⟨rfl,by dsimp only;omega,by dsimp only;omega⟩))
 unfold S8;exact yK (by rw [D8c];omega) (yC (fun _=>yI trivial) fun _=>yI trivial)
end Go.Win
set_option maxHeartbeats 4000000
set_option maxRecDepth 20000
namespace Go.Win
open Go.Vc Go.Dec
theorem iR {x:Int} (h:-9223372036854775808<=x/\x<=9223372036854775807):D6 .i64 x:=S2.2 h
theorem D1S {x:Int}:D6 .u64 x↔0<=x/\x<=18446744073709551615:=by simp [D6,Lit.wf,IntKind.min,IntKind.max,IntKind.signed,IntKind.bits]
theorem i0 {x:Int} (h:x=0):D6 .i64 x:=iR (by omega)
theorem l0 {α:Type} {q:α->Prop} {l:List α} (h:l.length=0):A1t q l:=by
 rw [D8V h];exact ⟨Nat.zero_le _,fun y hy=>by cases hy⟩
theorem lQ {α:Type} [Inhabited α] {q:α->Prop} {l:List α} (hl:l.length<=1048576) (h:∀i,i<l.length->q (el l i)):A1t q l:=⟨hl,fun y hy=>by obtain ⟨i,hi,rfl⟩:=A2l hy;exact h i hi⟩
theorem D6S {n w t:Int} (h:F9 n w t=true):0<=t/\t<=16777216:=by
 unfold F9 H4 at h;simp only [D8i,D8c] at h;omega
theorem wzB {l:List A3} {k:Int} (h:A7W l k) (hl:l.length<=1048576):A1t A7H l:=lQ hl fun i hi=>by
 have:=h.2.1 i hi;unfold A8D at this;have:=Classical.not_not.1 (fun g=>this (.inl g));exact ⟨iR (by omega),iR (by omega)⟩
theorem wzM {l:List A6} {seq cap now w lo:Int} (h:A4Q l seq cap now w lo) (hlo:-4096<=lo) (hc:cap<=65536) (hn:now<=16777216) (hl:l.length<=1048576):A1t B0g l:=lQ hl fun i hi=>by
 obtain ⟨a,b,_⟩:=h.2.1 i hi;have hs:=h.1;unfold mk1 at a;unfold mk2 A0a at b;simp only [D8i,D8c] at b;have r:=fun n=>C18 n;have r1:=r ((el l i).N*(el l i).Bv);have r2:=r ((el l i).N*(el l i).Bu);have r3:=r (A1 ((el l i).N*4096)*4096);exact ⟨iR (by omega),iR (by omega),iR (by omega),iR (by omega),iR (by omega),iR (by omega),iR (by omega)⟩
theorem wzC {c:B5} (h:N6 c=some 0) (hl:c.Bf.length<=1048576):B2l c:=by
 obtain ⟨r,hr,g⟩:=A24 c (G8 hl);rw [h] at hr;have g:=g (D8T hr).symm;unfold N6 at h;rw [D3J c (G8 hl)] at h;have h0:((((((decide (c.W<(1:Int))||decide (c.W>(1048576:Int)))||decide (c.Cap<(1:Int)))||decide (c.Cap>(64:Int)))||decide (c.I<(0:Int)))||decide (c.I>(1099511627776:Int)))||decide ((c.Bf.length:Int)>c.Cap))=false:=by
  simp only [D8K,D8r];omega
 rw [h0,D8d] at h
 by_cases hi:c.I=0
 ·have hn:=g.2.2.2.2.2.2.2.2 hi;rw [hi,beq_self_eq_true,D8e] at h;have hz:c.Bf.length=0:=by
   by_cases k:(0:Int)<c.Bf.length
   ·rw [D8f (show (c.Bf.length:Int)>0 from k),D8U,D8e] at h;cases h
   ·omega
  exact ⟨iR (by omega),iR (by omega),iR (by omega),i0 hn,l0 hz⟩
 ·rw [D80.2 hi,D8d] at h
  by_cases hz:(c.Bf.length:Int)=0
  ·rw [hz,beq_self_eq_true,D8e] at h;cases h
  rw [D80.2 hz,D8d] at h;cases ha:(List.range c.Bf.length).any (C44 c) with
  |true=>rw [ha,D8e] at h;cases h
  |false=>
   rw [ha,D8d] at h;have hx:D6 .i64 c.Bm:=by
    unfold D13 at h
    by_cases g1:c.Bm<=c.I
    ·rw [D8f g1,D8m] at h;simp [gd] at h
    ·rw [D8h g1,D8n,H7] at h;simp only [D8B] at h;cases e:B9 c.Bf (A1 ((c.Bf.length:Int)-1)) with
     |none=>rw [e] at h;cases h
     |some x=>
      rw [e,D8a] at h
      by_cases g2:c.Bm>A1 (x.I+c.W)
      ·rw [D8f g2,D8e] at h;cases h
      ·have:=C18 (x.I+c.W);exact iR (by omega)
   refine ⟨iR (by omega),iR (by omega),iR (by omega),hx,lQ hl fun i hi=> ?_⟩
   rw [List.any_eq_false] at ha;have:=ha i (List.mem_range.2 hi);unfold C44 at this;rw [A4F hi] at this;simp only [Bool.not_eq_true,D8K,D8r] at this;exact ⟨iR (by omega),iR (by omega)⟩
theorem wzK {b:Int} {x:B1} (h:B9k b x) (ht:0<=x.T/\x.T<=16777216/\0<=x.Bd/\x.Bd<=30) (hb:b<=65536):B2k x:=by
 obtain ⟨h1,h2,h3,h4,h5,h6,h7,h8⟩:=h;have k:=(A9d _).1 h1;have hv: ∀i,i<x.Bi.Ae.length->1<=(el x.Bi.Ae i).Bv/\(el x.Bi.Ae i).Bv<=(el x.Bi.Ae i).Bu/\(el x.Bi.Ae i).Bu<=x.Bi.N/\ -4096<=(el x.Bi.Ae i).V/\(el x.Bi.Ae i).V<=4096:=fun i hi=>by
  have up: ∀(d i:Nat),i+d<x.Bi.Ae.length->(el x.Bi.Ae i).V<=(el x.Bi.Ae (i+d)).V:=fun d=>by
   induction d with
   |zero=>intro i _;exact Int.le_refl _
   |succ d ih=>intro i h;exact Int.le_trans (ih i (by omega)) (k.up (i+d) (by omega)).1
  obtain ⟨r1,r2,r3⟩:=k.rng i hi;have u1:=up i 0 (by omega)
  have u2:=up (x.Bi.Ae.length-1-i) i (by omega)
  rw [Nat.zero_add] at u1;rw [show i+(x.Bi.Ae.length-1-i)=x.Bi.Ae.length-1 by omega] at u2
  exact ⟨r1,r2,r3,by omega,by omega⟩
 have hp:(2:Int)^x.Bd.toNat<=2^30:=by
  have:(2:Nat)^x.Bd.toNat<=2^30:=Nat.pow_le_pow_right (by decide) (by omega)
  exact_mod_cast this
 have hp0:(0:Int)<2^x.Bd.toNat:=Int.pow_pos (by decide)
 have e30:(2:Int)^30=1073741824:=by decide
 exact ⟨iR (by omega),iR (by omega),iR (by omega),iR (by omega),lQ (by omega) fun i hi=>by
  have:=hv i hi;exact ⟨iR (by omega),iR (by omega),iR (by omega)⟩⟩
theorem D6B {c:B7} (h:A3w c):N0 c:=by
 unfold A3w at h;exact ⟨iR (by omega),iR (by omega),iR (by omega),iR (by omega),iR (by omega),iR (by omega),iR (by omega),iR (by omega)⟩
theorem D6C {s:A9} (h:A19 s) (w:X4 s):A3h s:=by
 obtain ⟨hc,hr,o1,o2,o3,o4,o5,o6,o7,o8,o9,o10,o11⟩:=h;obtain ⟨w1,w2,w3,w4,w5,w6,w7,w8,w9,w10,w11⟩:=w;have z1:s.Ap.Bj≠1->B0X s.Ar:=fun k=>let h:=o1 k;⟨i0 h.1,i0 h.2.1,i0 h.2.2.1,l0 h.2.2.2⟩
 have z2:s.Ap.Bj≠2->B2m s.Az:=fun k=>let h:=o2 k;⟨i0 h.1,i0 h.2.1,i0 h.2.2.1,i0 h.2.2.2.1,l0 h.2.2.2.2⟩
 have z3:s.Ap.Bj≠3->B5x s.Sum:=fun k=>let h:=o3 k;⟨i0 h.1,i0 h.2.1,i0 h.2.2.1,i0 h.2.2.2.1,i0 h.2.2.2.2.1,l0 h.2.2.2.2.2⟩
 have z4:s.Ap.Bj≠4->B0Z s.Au:=fun k=>let h:=o4 k;⟨i0 h.1,i0 h.2.1,i0 h.2.2.1,i0 h.2.2.2.1,i0 h.2.2.2.2.1,i0 h.2.2.2.2.2.1,l0 h.2.2.2.2.2.2⟩
 have z5:s.Ap.Bj≠5->B00 s.Av:=fun k=>let h:=o5 k;⟨i0 h.1,i0 h.2.1,i0 h.2.2.1,i0 h.2.2.2.1,i0 h.2.2.2.2.1,l0 h.2.2.2.2.2⟩
 have z6:s.Ap.Bj≠6->B4b s.Bn:=fun k=>let h:=o6 k;⟨i0 h.1,i0 h.2.1,i0 h.2.2.1,l0 h.2.2.2⟩
 have z7:s.Ap.Bj≠7->B2n s.Bb:=fun k=>let h:=o7 k;⟨i0 h.1,l0 h.2⟩
 have z8:s.Ap.Bj≠8->B0f s.Af:=fun k=>let h:=o8 k;⟨trivial,i0 h.2.1,i0 h.2.2.1,i0 h.2.2.2.1,l0 h.2.2.2.2⟩
 have z9:s.Ap.Bj≠9->B0Y s.As:=fun k=>l0 (o9 k);have z10:s.Ap.Bj≠10->B0h s.Aj:=fun k=>let h:=o10 k;⟨i0 h.1,i0 h.2.1,i0 h.2.2.1,l0 h.2.2.2⟩
 have z11:s.Ap.Bj≠11->A83 s.Ab:=fun k=>let h:=o11 k;⟨i0 h.1,i0 h.2.1,i0 h.2.2.1,i0 h.2.2.2.1,l0 h.2.2.2.2⟩
 clear o1 o2 o3 o4 o5 o6 o7 o8 o9 o10 o11
 refine ⟨D6B hc, ?_⟩;rcases hr with ⟨k,h⟩|⟨k,h⟩|⟨k,h⟩|⟨k,h⟩|⟨k,h⟩|⟨k,h⟩|⟨k,h⟩|⟨k,h⟩|⟨k,h⟩|⟨k,h⟩|⟨k,h⟩
 ·refine ⟨?_,z2 (by omega),z3 (by omega),z4 (by omega),z5 (by omega),z6 (by omega),z7 (by omega),z8 (by omega),z9 (by omega),z10 (by omega),z11 (by omega)⟩
  obtain ⟨a,b,c,_,d,_⟩:=(B3s _).1 h.1;have c:0<=s.Ar.Now/\s.Ar.Now<=16777216:=by simpa [H4] using c
  exact ⟨iR (by omega),iR (by omega),iR (by omega),w1,fun p hp=>by
   obtain ⟨e1,e2,_,e3⟩:=d p hp;have e3: -4096<=p.V/\p.V<=4096:=by simpa [M6] using e3
   exact ⟨iR (by omega),iR (by omega)⟩⟩
 ·refine ⟨z1 (by omega), ?_,z3 (by omega),z4 (by omega),z5 (by omega),z6 (by omega),z7 (by omega),z8 (by omega),z9 (by omega),z10 (by omega),z11 (by omega)⟩
  obtain ⟨a,b,_⟩:=h.1;exact ⟨iR (by omega),iR (by omega),iR (by omega),iR (by omega),wzB b w2⟩
 ·refine ⟨z1 (by omega),z2 (by omega), ?_,z4 (by omega),z5 (by omega),z6 (by omega),z7 (by omega),z8 (by omega),z9 (by omega),z10 (by omega),z11 (by omega)⟩
  obtain ⟨⟨a,b,_⟩,c⟩:=h.1;exact ⟨iR (by omega),iR (by omega),iR (by omega),iR (by omega),iR (by omega),wzB b w3⟩
 ·refine ⟨z1 (by omega),z2 (by omega),z3 (by omega), ?_,z5 (by omega),z6 (by omega),z7 (by omega),z8 (by omega),z9 (by omega),z10 (by omega),z11 (by omega)⟩
  obtain ⟨a,b,c,_⟩:=h.1;unfold A5S at b;have hs:=c.1;refine ⟨iR (by omega),iR (by omega),iR (by omega),iR (by omega),iR (by omega),iR (by omega),wzM c ?_ (by omega) (by omega) w4⟩
  unfold Z5;cases ((s.Au.Bp==(2:Int))||(s.Au.Bp==(3:Int)))<;>decide
 ·refine ⟨z1 (by omega),z2 (by omega),z3 (by omega),z4 (by omega), ?_,z6 (by omega),z7 (by omega),z8 (by omega),z9 (by omega),z10 (by omega),z11 (by omega)⟩
  obtain ⟨b,c,_⟩:=h.1;unfold A5S at b;have hs:=c.1;exact ⟨iR (by omega),iR (by omega),iR (by omega),iR (by omega),iR (by omega),wzM c (by decide) (by omega) (by omega) w5⟩
 ·refine ⟨z1 (by omega),z2 (by omega),z3 (by omega),z4 (by omega),z5 (by omega), ?_,z7 (by omega),z8 (by omega),z9 (by omega),z10 (by omega),z11 (by omega)⟩
  obtain ⟨a,b⟩:=h.1;refine ⟨iR (by omega),iR (by omega),iR (by omega),w6.1,fun y hy=> ?_⟩
  have:=w6.2 y hy;unfold I0 at this;exact ⟨D1S.2 (by omega),D1S.2 (by omega)⟩
 ·refine ⟨z1 (by omega),z2 (by omega),z3 (by omega),z4 (by omega),z5 (by omega),z6 (by omega), ?_,z8 (by omega),z9 (by omega),z10 (by omega),z11 (by omega)⟩
  obtain ⟨a,b⟩:=h.1;exact ⟨iR (by omega),lQ w7 fun i hi=>iR (by have:=(b i hi).1;omega)⟩
 ·refine ⟨z1 (by omega),z2 (by omega),z3 (by omega),z4 (by omega),z5 (by omega),z6 (by omega),z7 (by omega), ?_,z9 (by omega),z10 (by omega),z11 (by omega)⟩
  obtain ⟨a,b⟩:=h.1;exact ⟨trivial,iR (by omega),iR (by omega),iR (by omega),lQ w8 fun i hi=>by
   have c:=(b i hi).1;have:=D6S c.1;exact ⟨iR (by omega),iR (by omega)⟩⟩
 ·refine ⟨z1 (by omega),z2 (by omega),z3 (by omega),z4 (by omega),z5 (by omega),z6 (by omega),z7 (by omega),z8 (by omega), ?_,z10 (by omega),z11 (by omega)⟩
  obtain ⟨q,hq,ok⟩:=A1s s.As (G8 w9.1) fun c hc=>G8 (w9.2 c hc);rw [show Q0 s.As=some 0 from h.1] at hq;exact ⟨w9.1,fun c m=>wzC ((ok (D8T hq).symm).2.2 c m) (w9.2 c m)⟩
 ·refine ⟨z1 (by omega),z2 (by omega),z3 (by omega),z4 (by omega),z5 (by omega),z6 (by omega),z7 (by omega),z8 (by omega),z9 (by omega), ?_,z11 (by omega)⟩
  obtain ⟨a,_,b,_⟩:=h.1;unfold B1B at a;have hm:A0r s.Aj.N s.Aj.K<=4611686018427387904:=by
   have:=(C0O a.2.2.1.1 a.1.1).2.2;unfold A0r;omega
  exact ⟨iR (by omega),iR (by omega),iR (by omega),lQ w10 fun i hi=>by
   have:=b i hi;unfold C2F at this;exact ⟨iR (by omega),iR (by omega),iR (by omega)⟩⟩
 ·refine ⟨z1 (by omega),z2 (by omega),z3 (by omega),z4 (by omega),z5 (by omega),z6 (by omega),z7 (by omega),z8 (by omega),z9 (by omega),z10 (by omega), ?_⟩
  obtain ⟨⟨hp,hb,ht,hlv⟩,_⟩:=h;unfold A5S at hp;obtain ⟨b,_,q2,q3⟩:=A9g (k:=s.Ab.K) (c:=s.Ab.Cap) (by omega) (by omega)
  obtain ⟨b1,b2,b3⟩:=hb b q2;exact ⟨iR (by omega),iR (by omega),iR (by omega),iR (by omega),lQ w11.1 fun i hi=>by
   have c:=b2.2.1 i (by rw [A1x];exact hi)
   unfold A8D at c;have c:=Classical.not_not.1 (fun g=>c (.inl g));have e:=C3U hi;rw [e] at c;exact wzK (b3 i hi) c (by omega)⟩
theorem ES.wf {Q:B7->Prop} {e:B4} (h:ES Q e):B0W e:=by
 have h1:=h.now;have h2:=h.lim;have h3:=h.len;exact ⟨iR (by omega),iR (by omega),by omega,fun r hr=>by
  obtain ⟨a,b1,b2,_⟩:=h.recs r hr;exact ⟨iR (by omega),D6C b1 b2⟩⟩
end Go.Win
set_option maxHeartbeats 4000000
set_option maxRecDepth 20000
namespace Go.Win
open Go.Vc Go.Dec
theorem D6q {s:A9} (w:A3h s):Q7 (stZ s):=by
 obtain ⟨_,w1,w2,w3,w4,w5,w6,w7,w8,w9,w10,w11⟩:=w;have fl:D6 .i64 (C4I s.Af.Bu):=by cases s.Af.Bu<;>exact S2.2 (by decide)
 unfold stZ
 repeat' split
 ·exact G6 w1.1 (G6 w1.2.1 (G6 w1.2.2.1 (A69 w1.2.2.2.1 fun x hx=>C8f (w1.2.2.2.2 x hx))))
 ·exact G6 w2.1 (G6 w2.2.1 (G6 w2.2.2.1 (G6 w2.2.2.2.1 (A69 w2.2.2.2.2.1 fun x hx=>C3v (w2.2.2.2.2.2 x hx)))))
 ·exact G6 w3.1 (G6 w3.2.1 (G6 w3.2.2.1 (G6 w3.2.2.2.1 (G6 w3.2.2.2.2.1 (A69 w3.2.2.2.2.2.1 fun x hx=>C3v (w3.2.2.2.2.2.2 x hx))))))
 ·exact G6 w4.1 (G6 w4.2.1 (G6 w4.2.2.1 (G6 w4.2.2.2.1 (G6 w4.2.2.2.2.1 (G6 w4.2.2.2.2.2.1 (A69 w4.2.2.2.2.2.2.1 fun x hx=>C8i (w4.2.2.2.2.2.2.2 x hx)))))))
 ·exact G6 w5.1 (G6 w5.2.1 (G6 w5.2.2.1 (G6 w5.2.2.2.1 (G6 w5.2.2.2.2.1 (A69 w5.2.2.2.2.2.1 fun x hx=>C8i (w5.2.2.2.2.2.2 x hx))))))
 ·exact G6 w6.1 (G6 w6.2.1 (G6 w6.2.2.1 (A69 w6.2.2.2.1 fun x hx=>D48 x)))
 ·exact G6 w7.1 (A69 w7.2.1 fun x hx=>G6 (w7.2.2 x hx) A1v)
 ·exact G6 fl (G6 w8.2.1 (G6 w8.2.2.1 (G6 w8.2.2.2.1 (A69 w8.2.2.2.2.1 fun x hx=>C8f (w8.2.2.2.2.2 x hx)))))
 ·exact A69 w9.1 fun x hx=>D2d (w9.2 x hx)
 ·exact G6 w10.1 (G6 w10.2.1 (G6 w10.2.2.1 (A69 w10.2.2.2.1 fun x hx=>D6v (w10.2.2.2.2 x hx))))
 ·exact G6 w11.1 (G6 w11.2.1 (G6 w11.2.2.1 (G6 w11.2.2.2.1 (A69 w11.2.2.2.2.1 fun x hx=>D2a (w11.2.2.2.2.2 x hx)))))
theorem D2b {e:B4} (w:B0W e):Q7 (A0Z e):=by
 obtain ⟨w1,w2,w3,w4⟩:=w;refine G6 (S2.2 (by decide)) (G6 w1 (G6 w2 (G6 (S2.2 (by omega)) fun n hn=> ?_)))
 obtain ⟨r,hr,hn⟩:=D8O.1 hn;obtain ⟨h1,h2⟩:=w4 r hr;exact (G6 h1 (A1u.2 ⟨D0r h2.1,D6q h2⟩):Q7 (C2I r)) n hn
theorem rW5 {l ns:List Int} {a n x p q:Int} {f:Bool} (h:At l a f (n::ns)) (hn:p<=n/\n<=q):T (A3t p q l a x) fun r=>At l r.1 r.2.1 ns/\r.2.2=n:=by
 obtain ⟨h1,h2,rfl,⟨k,rfl,h3,h4⟩,h5⟩:=h;obtain ⟨w1,w2⟩:=A44.1 h5;rw [A9q] at h4;have e:rdA l k=(n,((k+(A1f n).length:Nat):Int),true):=by unfold rdA;rw [h4,B9m w1]
 have hl:=congrArg List.length h4;rw [D8I,D8g] at hl;unfold A3t A81;rw [B45 h2 (by omega) h3,e]
 refine yB (yI ?_);dsimp only;rw [D8h (by omega),D8h (by omega),Bool.or_self,D8d]
 exact yI ⟨⟨h1,h2,rfl,⟨k+(A1f n).length,rfl,by omega,by rw [<-D88,h4,List.drop_left]⟩,w2⟩,rfl⟩
theorem D4T {α:Type} {D R:List α} {x y:α} {i:Nat} (h:D.length=i):(D++x::R).set i y=D++y::R:=by
 rw [List.set_append_right _ _ (by omega),h,Nat.sub_self];rfl
theorem D4o {α:Type} {D R:List α} {x:α} {i:Nat} (h:D.length=i):B9 (D++x::R) (i:Int)=some x:=by
 rw [S0,D8A (by omega),h,Nat.sub_self];rfl
theorem D47 {e:B4} (ok:C0D e) (w:A6b e.Ai) {l:List Int} {s:Int} (hA:At l 0 false (A0Z e++ [s])):T (A4o l 0 0 0) fun r=>At l r.1 r.2.1 [s]/\r.2.2=(e.Now,e.Be,e.Ai):=by
 have h64:e.Ai.length<=64:=by have:=ok.1.2.1;omega
 unfold A0Z at hA;simp only [D8E,List.cons_append,List.nil_append] at hA;unfold A4o;refine yB (yM (rW5 hA (by decide)) fun _ ⟨hA,_⟩=>yB (yM (rI hA) fun y2 ⟨hA,e2⟩=>yB (yM (rSm hA) fun y3 ⟨hA,e3⟩=>yB (yM (rW hA (by omega)) fun y5 ⟨hA,e5⟩=> ?_))))
 obtain ⟨n,bad,m⟩:=y5;dsimp only at hA e5⊢;subst e5;rw [hA.ok,D8d];refine yK (by rw [D8c];omega) ?_
 have hl: ∀z:A7,laid (List.replicate ((e.Ai.length:Int)).toNat z) 0 (([]:List A7).take (List.replicate ((e.Ai.length:Int)).toNat z).length)=List.replicate e.Ai.length z:=fun z=>by
  unfold laid;simp
 simp only [hl]
 generalize hz:A7.mk _ _=zR
 have hA0:=hA;rw [hA.ok] at hA0;unfold A94;refine yL (fun s' => ∃i:Nat,s'.2.1=i/\i<=e.Ai.length/\s'.1=e.Ai.take i++List.replicate (e.Ai.length-i) zR/\At l s'.2.2.1 s'.2.2.2 ((e.Ai.drop i).flatMap C2I++ [s])) (fun s' =>e.Ai.length-s'.2.1.toNat) ⟨0,rfl,Nat.zero_le _,by simp,hA0⟩ ?_
 rintro ⟨_,_,a,f⟩ ⟨i,rfl,hi,rfl,hA⟩;have hf:=hA.ok;dsimp only at hA hf⊢;subst hf;have hlen:(e.Ai.take i++List.replicate (e.Ai.length-i) zR).length=e.Ai.length:=by
  rw [D8g,D8C,D9b];omega
 unfold A9h;rw [hlen,D8n,Bool.and_true];refine yC (fun h=> ?_) fun h=>yP (yI ?_)
 ·rw [D8c] at h;have h:i<e.Ai.length:=by omega
  have hr:List.replicate (e.Ai.length-i) zR=zR::List.replicate (e.Ai.length-(i+1)) zR:=by
   rw [show e.Ai.length-i=(e.Ai.length-(i+1))+1 by omega,List.replicate_succ]
  have hd:(e.Ai.take i).length=i:=by rw [D8C];omega
  have hm:=D8Z h;have hel:el e.Ai i=e.Ai[i]:=L8 h;have k:=(ok.1.2.2 i h).2.2;rw [hel] at k;rw [List.drop_eq_getElem_cons h,List.flatMap_cons] at hA;rw [show C2I e.Ai[i]=e.Ai[i].ID::(A8N e.Ai[i].Ac.Ap++stZ e.Ai[i].Ac) from rfl] at hA;simp only [D8E,List.cons_append] at hA;rw [hr];simp only [D4o hd,D4T hd,D8a,D8Q];refine yB (yM (rI hA) fun y ⟨hA,e1⟩=>yB (yM (rCf hA) fun q ⟨hA,e2⟩=> ?_));rw [hA.ok,D8n,D8e];have hA' :=hA;rw [hA.ok] at hA';subst hz;dsimp only;rw [e1,e2];refine yB (yM (zSt (C3R k) k.2.2 (w.2 _ hm).2.2.2.2.2.1.2 hA') fun t ⟨hA,e3⟩=>yI ⟨⟨i+1, ?_,h, ?_,hA⟩, ?_⟩)
  ·dsimp only;rw [C4 (by omega) (by omega)];rfl
  ·dsimp only;rw [e3,show e.Ai.take (i+1)=e.Ai.take i++ [e.Ai[i]] by rw [List.take_add_one];simp [h],D8E]
   rfl
  ·dsimp only;rw [C4 (by omega) (by omega)];omega
 ·rw [D8r] at h;have hi:i=e.Ai.length:=by omega
  subst hi;rw [List.drop_length] at hA;refine ⟨hA, ?_⟩;rw [e2,e3,Nat.sub_self,List.take_length];simp
theorem D2j {e:B4} (ok:C0D e) (w:A6b e.Ai) (hw:Q7 (A0Z e)) {s:Int} (ws:D6 .i64 s) (hs:A1E (wr (A0Z e))=some s) (hl:(wr (A0Z e++ [s])).length<=1048576):A13 (wr (A0Z e++ [s]))=some (e,0):=by
 have hw' :Q7 (A0Z e++ [s]):=A1u.2 ⟨hw,G6 ws A1v⟩;have hA:At (wr (A0Z e++ [s])) 0 false (A0Z e++ [s]):=⟨hl,A9p hw',rfl,⟨0,rfl,Nat.zero_le _,rfl⟩,hw'⟩;obtain ⟨r,e1,hA,e2⟩:=D47 ok w hA;obtain ⟨h1,h2,h3,⟨k,h4,h5,h6⟩,h7⟩:=hA;obtain ⟨a,f,n,lm,rs⟩:=r;dsimp only at h3 h4 e2;subst h3 h4;cases e2;have hlen:k=(wr (A0Z e)).length:=by
  have:=congrArg List.length h6;rw [D8I,A32,D8g] at this;rw [A32,D8g] at h5;omega
 have ht:(wr (A0Z e++ [s])).take k=wr (A0Z e):=by rw [hlen,A32,List.take_left]
 have hrd:rdA (wr (A0Z e++ [s])) k=(s,((wr (A0Z e++ [s])).length:Int),true):=by
  unfold rdA;rw [h6,show wr [s]=A1f s++wr [] from rfl,B9m ws];have:=congrArg List.length h6;rw [D8I,show wr [s]=A1f s++wr [] from rfl,D8g,B8Y,D8G] at this;simp only [Prod.mk.injEq,true_and,and_true];omega
 unfold A13;rw [D8h (by omega),D8d,e1,D8a]
 dsimp only;rw [D8d,B45 h2 (by omega) h5,hrd,D8a]
 dsimp only;rw [D8Q,ht,hs];simp only [D8m,D8N,Bool.or_self,D8n,H7,D8a,D8d];rw [K7 (by rw [D8f (show (0:Int)<=k/\(k:Int)<=_ by omega),Bool.or_true]),A1K ⟨_,_,e.Ai⟩ w,O3 ok]
 rfl
theorem D1C {e:B4} (h:ES QS e) (h6:e.Be<=6): ∃b,Y3 e=some (b,0)/\A13 b=some (e,0):=by
 obtain ⟨ok,w⟩:=h.ok;obtain ⟨r,e1,r0,_,rl⟩:=B72 ok w (fun r hr=>(h.recs r hr).2.2.2.2) h6;obtain ⟨s,ws,hs,hb⟩:=(C5g ok w r e1).1 r0;have hw:=D2b h.wf;rw [nzs hw] at hs hb;obtain ⟨b,z⟩:=r;dsimp only at r0 hb rl;subst r0 hb;exact ⟨_,e1,D2j ok w hw ws hs (by omega)⟩
end Go.Win
set_option maxHeartbeats 4000000
set_option maxRecDepth 20000
namespace Go.Win
open Go.Vc Go.Dec
abbrev c2:B7:=⟨2,0,5,1,5,0,0,0⟩
abbrev s2 (l:List A3):A9:=⟨c2,⟨0,0,0, []⟩,⟨5,1,5,0,l⟩,⟨0,0,0,0,0, []⟩,⟨0,0,0,0,0,0, []⟩,⟨0,0,0,0,0, []⟩,⟨0,0,0, []⟩,⟨0, []⟩,⟨false,0,0,0, []⟩,⟨[]⟩,⟨0,0,0, []⟩,⟨0,0,0,0, []⟩⟩
theorem B82:A3w c2:=by unfold A3w;simp
theorem D6k:B14 c2 0=s2 []:=rfl
theorem D3D:A3c [⟨0,0⟩] 5 1 5 0:=by
 refine ⟨by decide,⟨by decide,fun i hi=> ?_,fun _ j hj=> ?_⟩,by decide,fun i hi=> ?_⟩
 ·obtain rfl:i=0:=by simpa using hi
  unfold A8D;decide
 ·obtain rfl:j=0:=by have:(j:Int)<=0:=hj;omega
  unfold B48;decide
 ·obtain rfl:i=0:=by simpa using hi
  decide
theorem D1A {l:List A3} (hl:l.length<=1048576) (h:A3c l 5 1 5 0):N2 (s2 l)=some 0:=by
 have w:X4 (s2 l):=⟨Nat.zero_le _,hl,Nat.zero_le _,Nat.zero_le _,Nat.zero_le _,⟨Nat.zero_le _,fun w h=>by cases h⟩,Nat.zero_le _,Nat.zero_le _,⟨Nat.zero_le _,fun w h=>by cases h⟩,Nat.zero_le _,⟨Nat.zero_le _,fun w h=>by cases h⟩⟩
 rw [T4 _ w,O3];have o:=(B9f (now:=0) B82 (by decide)).2.2
 exact ⟨B82, .inr (.inl ⟨rfl,h,rfl,rfl,rfl⟩),o.1,fun g=>absurd rfl g,o.2.2⟩
theorem D5x:A3O ⟨5,1,5,0, []⟩=some (⟨5,1,5,0, [⟨0,0⟩]⟩,0):=by
 have h0:A3c [] 5 1 5 0:=by
  have:=(B9f (now:=0) B82 (by decide)).2.1
  unfold A9Z at this;simpa [B14] using this
 have v:W9 ⟨5,1,5,0, []⟩=some 0:=by rw [A20 _ (by rw [I2];decide),O3 h0]
 have t:L7 []=some 0:=by unfold L7 A8I;exact M5 rfl
 have b:U6 [] 1=some true:=by
  unfold U6 A8J;show loop _ _=_;exact M5 rfl
 have i:V3 [] 1 0=some [⟨0,0⟩]:=by
  unfold V3 A5a;show loop _ _=_;refine M5 ?_;unfold A4B A2A;exact B52 (n:=3) rfl
 have n:A2X [] 1 0=some [⟨0,0⟩]:=by
  unfold A2X;rw [b,D8a];show Option.bind (A34 [] 0) _=_;rw [show A34 [] 0=some true from rfl,D8a];show Option.bind (L7 []) _=_;rw [t,D8a];show Option.bind (V3 [] 1 0) _=_;rw [i]
  rfl
 unfold A3O;rw [v,D8a];show Option.bind (L7 []) _=_;rw [t,D8a];show Option.bind (A2X [] 1 0) _=_;rw [n]
 rfl
theorem C0I:A0u ⟨1,1⟩=some true:=by
 have g:A6Z ⟨0,1⟩ ⟨0,1⟩=some ⟨0,1⟩:=by
  have o:I0 ⟨0,1⟩:=by unfold I0;decide
  rw [C0T o o]
  rfl
 unfold A0u;show Option.bind (A6Z ⟨0,1⟩ ⟨0,1⟩) _=_;rw [g]
 rfl
theorem C6y:B46=some true:=by
 unfold B46;rw [show (B7.mk 2 0 5 1 5 0 0 0)=c2 from rfl,D06 B82 (by decide),D8a,D6k]
 have a:Z6 (s2 []) 1 []=some (s2 [⟨0,0⟩],0):=by
  have h0:A3c [] 5 1 5 0:=by
   have:=(B9f (now:=0) B82 (by decide)).2.1
   unfold A9Z at this;simpa [B14] using this
  unfold Z6;rw [D1A (by decide) h0,D8a]
  show Option.bind (A3O ⟨5,1,5,0, []⟩) _=_;rw [D5x]
  rfl
 have q:A0H (s2 [⟨0,0⟩]) ⟨1,0,0⟩=some (⟨⟨⟨1,1⟩,⟨1,1⟩,⟨1,1⟩⟩, [],⟨⟨0,0⟩,⟨0,0⟩⟩⟩,0):=by
  have v:W9 ⟨5,1,5,0, [⟨0,0⟩]⟩=some 0:=by rw [A20 _ (by rw [I2];decide),O3 D3D]
  have t:L7 [⟨0,0⟩]=some 1:=by unfold L7 A8I;exact B52 (n:=2) rfl
  unfold A0H;rw [D1A (by decide) D3D,D8a]
  have c:A2Z c2 1=true:=by
   unfold A2Z;rw [A3N,C15 B82]
   rfl
  show cond (!A2Z c2 1) _ (Option.bind (A6y ⟨5,1,5,0, [⟨0,0⟩]⟩) _)=_;rw [c];show Option.bind (A6y ⟨5,1,5,0, [⟨0,0⟩]⟩) _=_;unfold A6y;rw [v];show Option.bind (Option.bind (A16 [⟨0,0⟩]) _) _=_;unfold A16;show Option.bind (Option.bind (Option.bind (L7 [⟨0,0⟩]) _) _) _=_;rw [t]
  rfl
 show Option.bind (Z6 (s2 []) 1 []) _=_;rw [a,D8a];show Option.bind (A0H (s2 [⟨0,0⟩]) ⟨1,0,0⟩) _=_;rw [q,D8a];have c:A5B ⟨1,1⟩ ⟨1,1⟩=some 0:=by
  unfold A5B;rw [C0I,D8a];simp only [D8a,D8m,D8n,H7,C0I,Bool.or_self,D8d]
  rfl
 have b:A6s ⟨⟨1,1⟩,⟨1,1⟩,⟨1,1⟩⟩=some true:=by
  unfold A6s;simp only [C0I,c,D8a,H7,Bool.and_self,decide_true]
  rfl
 show Option.bind (A6s ⟨⟨1,1⟩,⟨1,1⟩,⟨1,1⟩⟩) _=_;rw [b]
 rfl
end Go.Win
set_option maxHeartbeats 4000000
set_option maxRecDepth 20000
namespace Go.Win
open Go.Vc Go.Dec
structure TcP (c:B6):Prop where
 op:c.Op≠8
 cfg:QS c.Ap
 q:S7 c.Bh
 dr:c.Ba.length<=20
 by0:c.Ay= []
theorem C7o {c:B7} (h:QS c):QS (A5O c):=by
 have z3:(0:Int)<=3:=by decide
 have z6:(0:Int)<=61:=by decide
 have k: ∀ {b:Bool} {x y:B7},QS x->QS y->QS (cond b x y):=fun {b x y} h1 h2=>by cases b<;>assumption
 have j3: ∀b,QS (A22 c b):=fun b=>k ⟨h.1,h.2⟩ (k ⟨h.1,h.2⟩ (k ⟨h.1,h.2⟩ (k ⟨z6,z3⟩ (k ⟨z6,z3⟩ (k ⟨h.1,z3⟩ (k ⟨h.1,z3⟩ (k ⟨h.1,h.2⟩ ⟨z6,z3⟩)))))));exact k ⟨h.1,z3⟩ (k (j3 _) (k (j3 _) (j3 _)))
theorem D3l (c:B7) (k:Int):T (A7F c k) QS:=by
 have j: ∀a b d e f g h,0<=d/\d<3->0<=e/\e<60->T (A3G k a b d e f g h) QS:=fun a b d e f g h hd he=>by
  unfold A3G;refine yI (C7o ⟨?_, ?_⟩)
  ·show A1 (2+e)<=61;rw [C4 (by omega) (by omega)];omega
  ·show A1 (1+d)<=3;rw [C4 (by omega) (by omega)];omega
 unfold A7F;exact yB (yS (by decide) fun _ _=>yB (yS (by decide) fun _ _=>yB (yS (by decide) fun _ hd=>yB (yS (by decide) fun _ he=>yB (yS (by decide) fun _ _=>yB (yS (by decide) fun _ _=>yB (yS (by decide) fun _ _=>yC (fun _=>j _ _ _ _ _ _ _ hd he) (fun _=>j _ _ _ _ _ _ _ hd he))))))))
theorem C6A (p:B6) (n:Int):T (A4d p n) TcP:=by
 have z0:QS ⟨0,0,0,0,0,0,0,0⟩:=⟨by decide,by decide⟩
 have j2: ∀ {a b c d e q},a≠8->QS c->S7 q->T (A0o a b c d e q) TcP:=fun h1 h2 h3=>yI ⟨h1,h2,h3,Nat.zero_le _,rfl⟩;unfold A4d;refine yB (yS (by decide) fun a ha=>yB (yS (by decide) fun b hb=> ?_))
 rw [C4 (by omega) (by omega)]
 have j6: ∀x,(x=true->1+a≠8)->T (A23 p n a b x) TcP:=fun x hx=>by
  unfold A23 B2P;rw [C4 (n:=1+a) (by omega) (by omega)]
  exact yC (fun g=>j2 (hx g) z0 B8v) (fun _=>yB (yM (P:=fun _=>True) (by exact yT) fun _ _=>j2 (by decide) z0 B8v))
 refine yC (fun g=>yB (yS (by decide) fun _ _=>yB (yM (D3l _ _) fun c hc=>j2 (by rw [D84] at g;omega) hc B8v))) fun _=> ?_
 refine yC (fun g=>j2 (by rw [D84] at g;omega) z0 B8v) fun _=> ?_
 refine yC (fun g=>yB (yM (P:=fun _=>True) ?_ fun _ _=>j2 (by rw [D84] at g;omega) z0 B8v)) fun _=> ?_
 ·unfold C0B B5h;exact yT
 refine yC (fun g=>yB (yS (by decide) fun x hx=>yB (yS (by decide) fun y hy=>yB (yS (by decide) fun z hz=>j2 (by rw [D84] at g;omega) z0 (D6b (C18 _) hy hz))))) fun _=> ?_
 exact yC (fun _=>j6 _ fun g=>by rw [D84] at g;omega) (fun _=>j6 _ fun g=>by rw [D84] at g;omega)
theorem D5n {e:B4} {c:B6} (h:ES QS e) (h6:e.Be<=6):T (S4 (oZ e c)) (PQ QS):=by
 obtain ⟨r,hr,_,_,rl⟩:=B72 h.ok.1 h.ok.2 (fun r hr=>(h.recs r hr).2.2.2.2) h6;unfold S4;exact yB ⟨r,hr,yI ⟨rfl,h,Nat.zero_le _,Nat.zero_le _,by dsimp only;omega⟩⟩
theorem C2p {e:B4} {c:B6} (h:ES QS e) (h6:e.Be<=6) (hc:TcP c):T (I9 e c) fun r=>ES QS r.1/\B4r r.2:=
 yM (C42 h (fun _=>hc.cfg) (by have:=hc.dr;rw [I2];omega) hc.q (fun _=>D6L h) (fun _=>D5n h h6) (fun g=>absurd g hc.op)) fun _ k=>k.2 hc.op
theorem C75 {e:B4} {c:B6} (h:ES QS e) (hc:TcP c) (l:List Int) (hl:l.length<=maxLen):T (A6X e c l) fun d=>TcP d/\d.T=c.T/\d.V=c.V/\d.ID=c.ID/\d.Op=c.Op:=by
 have fin: ∀ds:List Int,ds.length<=20->TcP ⟨c.Op,c.ID,c.Ap,c.T,c.V,ds,c.Bh,c.Ay⟩:=fun ds hd=>⟨hc.op,hc.cfg,hc.q,hd,hc.by0⟩;unfold A6X B38 B6C;dsimp only;refine yL (fun s=>s.1.length<=20/\s.2.1=l/\0<=s.2.2/\s.2.2<=l.length) (fun s=>20-s.1.length) ⟨hc.dr,rfl,Int.le_refl _,by dsimp only;omega⟩ ?_
 rintro ⟨ds,_,a⟩ ⟨h1,rfl,h2,h3⟩;dsimp only at h1 h2 h3⊢;unfold B2j;refine yC (fun g=> ?_) (fun _=>yP (yI ⟨fin ds h1,rfl,rfl,rfl,rfl⟩));rw [D8c] at g;refine yB (yM (D2P h (by dsimp only;rw [I2];omega) hc.q) fun m _=>yC (fun _=>yP (yI ⟨fin ds h1,rfl,rfl,rfl,rfl⟩)) fun g2=> ?_)
 simp only [D8K,D8r] at g2;refine yK (by rw [D8c,D8G];omega) (yB (yM (D5W (t:=⟨_,a⟩) ⟨h2,h3⟩ hl (by omega)) fun r hr=>yK (by rw [D8c,D8g,D8G,D8P];omega) (yI ⟨⟨?_,hr⟩, ?_⟩)))
 all_goals (simp only [D8g,D8G,D8P];omega)
theorem wU {p:Prop} (h:p:=by
 repeat' first
  |with_reducible refine wK ?_
  |refine wC (fun h=> ?_) (fun h=> ?_)
  |refine wB fun _=> ?_
  |refine wP ?_
  |refine wL (fun _=>True) trivial fun _ _=> ?_
  |exact wI rfl
  |exact wI trivial):p:=h
theorem C9k {e:B4} {c:B6} (h8:c.Op≠8):W (I9 e c) fun r=>r.1.Be=e.Be:=by
 have fin: ∀ {m:Option (Int×D8)},W m (fun x=>x.2.Aq.Be=e.Be)->W (Option.bind m fun y=>cond (y.1 !=(0:Int)) (some (e,(⟨y.1,B4k, [], []⟩:F5))) (some (y.2.Aq,y.2.reply_))) fun r=>r.1.Be=e.Be:=fun h=>wS h fun a ha=>wC (fun _=>wI rfl) (fun _=>wI ha);unfold I9;refine wB fun _=>wC (fun _=>wI rfl) fun _=>wC (fun _=>wI rfl) fun hp=> ?_;refine wC (fun _=>fin ?_) fun c1=>wC (fun _=>fin ?_) fun c2=>wC (fun _=>fin ?_) fun c3=>wC (fun _=>fin ?_) fun c4=>wC (fun _=>fin ?_) fun c5=>wC (fun _=>fin ?_) fun c6=>wC (fun _=>fin ?_) fun c7=>wC (fun g=>absurd (by simpa using g) h8) fun c8=> ?_
 ·unfold Y5;exact wU
 ·unfold A0I;exact wU
 ·unfold A0J A2D A1Y;exact wU
 ·unfold A1h;exact wU
 ·unfold A1i;exact wU
 ·unfold X2;exact wU
 ·unfold S4;exact wU
 ·unfold A6z A1Z at hp;rw [c1,c2,c3,c4,c5,c6,c7,c8] at hp;cases hp
theorem D5k {n:Int} (hn:1<=n/\n<=64) {Q:B7->Prop}:ES Q ⟨0,n, []⟩:=⟨⟨Int.le_refl _,(by decide:(0:Int)<=16777216)⟩,hn,by show (0:Int)<=n;omega,(fun r hr=>by cases hr),List.Pairwise.nil⟩
theorem D59 (l:List B6) (n:Int) (w:wfL R4 l) (hn:n<=1000):T (B6S l n) fun e=>ES QS e/\e.Be=6:=by
 unfold B6S;show T (B5t l n 0 0 6 []) _;unfold B5t;refine yL (fun s=> ∃i:Nat,s.1=i/\i<=1000/\ES QS ⟨s.2.1,s.2.2.1,s.2.2.2⟩/\s.2.2.1=6) (fun s=>1000-s.1.toNat) ⟨0,rfl,Nat.zero_le _,D5k (by decide),rfl⟩ ?_
 rintro ⟨_,a,m,k⟩ ⟨i,rfl,h1,h2,h3⟩;dsimp only at h2 h3⊢;unfold B8O;refine yC (fun g=> ?_) fun g=>yP (yI ⟨h2,h3⟩);rw [D8i,D8c,D8c] at g;refine yB (yX (by omega) fun hm=>yB (yM (C6A _ _) fun c hc=>yB (yX (by omega) fun _=>yB (yM (C75 h2 hc _ (w.2 _ hm).2.2.2.2.2.1.1) fun d hd=> ?_))))
 obtain ⟨r,r1,r2,_⟩:=C2p h2 (show m<=6 by omega) hd.1
 refine yB ⟨r,r1, ?_⟩;rw [(T2 (i:Int) (by omega)).1]
 exact yI ⟨⟨i+1,rfl,by omega,r2,(C9k hd.1.op _ r1).trans h3⟩,by dsimp only;omega⟩
end Go.Win
set_option maxHeartbeats 4000000
set_option maxRecDepth 20000
namespace Go.Win
open Go.Vc Go.Dec
end Go.Win
set_option maxHeartbeats 4000000
set_option maxRecDepth 20000
namespace Go.Win
open Go.Vc Go.Dec
theorem D3j {α:Type} {m:Option α} {P Q:α->Prop} (h:T m P) (w:W m Q):T m fun a=>P a/\Q a:=by
 obtain ⟨a,e,p⟩:=h;exact ⟨a,e,p,w a e⟩
end Go.Win
set_option maxHeartbeats 4000000
set_option maxRecDepth 20000
namespace Go.Win
open Go.Vc Go.Dec
end Go.Win
namespace Go.Win
end Go.Win
set_option maxHeartbeats 4000000
set_option maxRecDepth 20000
namespace Go.Win
open Go.Vc Go.Dec
def GF (b:List Int):Prop:=byt b/\b.length<=1048576/\T (A7Q b) fun x=>x.2=0
theorem wo0 (r:F5):Q7 (A38 r):=by
 intro x hx;unfold A38 at hx;simp only [D8E,List.cons_append,List.nil_append,List.mem_cons,D8W,List.mem_map] at hx;have: ∃y,x=nz y:=by
  rcases hx with h|h|h|h|h|h|h|h|⟨y,_,h⟩|h|h|h|h|h|⟨y,_,h⟩|h|⟨y,_,h⟩<;>first|exact ⟨_,h⟩|exact ⟨_,h.symm⟩
 obtain ⟨y,rfl⟩:=this;exact B6G y
theorem wY {p:Prop} (h:p:=by
 repeat' first
  |with_reducible refine wK ?_
  |refine wC (fun h=> ?_) (fun h=> ?_)
  |refine wB fun _=> ?_
  |refine wP ?_
  |refine wL (fun _=>True) trivial fun _ _=> ?_
  |exact wI A3A
  |exact wI trivial):p:=h
theorem D0b {e:B4} {c:B6} (hs:W (S4 (oZ e c)) fun x=>byt x.2.reply_.Ay):W (I9 e c) fun r=>byt r.2.Ay:=by
 have fin: ∀ {m:Option (Int×D8)},W m (fun x=>byt x.2.reply_.Ay)->W (Option.bind m fun y=>cond (y.1 !=(0:Int)) (some (e,(⟨y.1,B4k, [], []⟩:F5))) (some (y.2.Aq,y.2.reply_))) fun r=>byt r.2.Ay:=fun h=>wS h fun a ha=>wC (fun _=>wI A3A) (fun _=>wI ha);unfold I9;refine wB fun _=>wC (fun _=>wI A3A) fun _=>wC (fun _=>wI A3A) fun hp=> ?_;refine wC (fun _=>fin ?_) fun c1=>wC (fun _=>fin ?_) fun c2=>wC (fun _=>fin ?_) fun c3=>wC (fun _=>fin ?_) fun c4=>wC (fun _=>fin ?_) fun c5=>wC (fun _=>fin ?_) fun c6=>wC (fun _=>fin ?_) fun c7=>wC (fun g=>fin ?_) fun c8=> ?_
 ·unfold Y5;exact wY
 ·unfold A0I;exact wY
 ·unfold A0J A2D A1Y;exact wY
 ·unfold A1h;exact wY
 ·unfold A1i;exact wY
 ·unfold X2;exact wY
 ·exact hs
 ·unfold A4g;exact wY
 ·unfold A6z A1Z at hp;rw [c1,c2,c3,c4,c5,c6,c7,c8] at hp;cases hp
end Go.Win
set_option maxHeartbeats 4000000
set_option maxRecDepth 20000
namespace Go.Win
open Go.Vc Go.Dec
def Rf (r:F5) (b:List Int):Prop:=GF b/\ ∀out:List Int,out.length<=10000000000->I8 r out=some (out++L1 b)
theorem D7A {r:F5} (h:B4r r) (hb:byt r.Ay): ∃b,Rf r b:=by
 have fr: ∀(b out:List Int),b.length<=1048576->out.length<=10000000000->A30 out b=some (out++L1 b):=fun b out g ho=>by
  unfold A30;obtain ⟨o,e,rfl⟩:=C8c (p:=out) (b:=b) ho (by omega)
  rw [e];rfl
 obtain ⟨x,e,hx⟩:=C77 h hb;rcases hx with ⟨rfl,_⟩|⟨rfl,hw,hl⟩
 ·have z:B4r (F5.mk (5:Int) (E3.mk (C9.mk (A4.mk (0:Int) (0:Int)) (A4.mk (0:Int) (0:Int)) (A4.mk (0:Int) (0:Int))) ([]:List Int) (D7.mk (A2.mk (0:Int) (0:Int)) (A2.mk (0:Int) (0:Int)))) ([]:List Int) ([]:List Int)):=⟨Nat.zero_le _,Nat.zero_le _,Nat.zero_le _⟩;obtain ⟨y,e2,hy⟩:=C77 z A3A;rcases hy with ⟨rfl,hy⟩|⟨rfl,hw,hl⟩
  ·have:=Nat.lt_of_lt_of_le hy (B8Z (wo0 _));simp [A38] at this
  ·refine ⟨_,⟨A9p hw,hl,yM (C74 z A3A hw hl) fun x hx=>hx⟩,fun out ho=> ?_⟩;unfold I8;rw [e,D8a];show cond true _ _=_;rw [D8e,e2,D8a];exact fr _ _ hl ho
 ·refine ⟨_,⟨A9p hw,hl,yM (C74 h hb hw hl) fun x hx=>hx⟩,fun out ho=> ?_⟩;unfold I8;rw [e,D8a];show cond false _ _=_;rw [D8d];exact fr _ _ hl ho
abbrev r13:F5:=⟨13,B4k, [], []⟩
noncomputable def B8I:List (List Int)->B4->List Int->Option (B4×List Int)
 | [],e,out=>some (e,out)
 |f::fs,e,out=>Option.bind (J1 f) fun cm=>cond (cm.2 !=0) (Option.bind (I8 r13 out) fun o=>B8I fs e o) (Option.bind (I9 e cm.1) fun ar=>Option.bind (I8 ar.2 out) fun o=>B8I fs ar.1 o)
theorem D28 (fs gs:List (List Int)): ∀(e:B4) (out:List Int),B8I (fs++gs) e out=Option.bind (B8I fs e out) fun x=>B8I gs x.1 x.2:=by
 induction fs with
 |nil=>intro e out;rfl
 |cons f fs ih=>
  intro e out;show Option.bind (J1 f) _=Option.bind (Option.bind (J1 f) _) _;cases J1 f with
  |none=>rfl
  |some cm=>
   simp only [D8a];cases cm.2 !=0 with
   |true=>
    simp only [D8e];cases I8 r13 out with
    |none=>rfl
    |some o=>exact ih _ _
   |false=>
    simp only [D8d];cases I9 e cm.1 with
    |none=>rfl
    |some ar=>
     simp only [D8a];cases I8 ar.2 out with
     |none=>rfl
     |some o=>exact ih _ _
theorem D0T {S R:Type} (f:S->Option (S⊕R)) (s:S):loop f s=Option.bind (f s) fun x=>Sum.elim (loop f) some x:=by
 rw [A4P];cases f s with
 |none=>rfl
 |some x=>cases x<;>rfl
theorem C9P {e:B4} (h:ES (fun _=>True) e) {b:List Int} {fr:List (List Int)×List Int} (hs:A91 b=some fr) (hl:b.length<=1048576) (h1:fr.1.length<=1048576):
  A2J e b=Option.bind (B8I fr.1 e []) fun x=>cond (decide ((fr.2.length:Int)>0)) (Option.bind (I8 r13 x.2) fun o=>some (x.1,o,0)) (some (x.1,x.2,0)):=by
 obtain ⟨ok,w⟩:=h.ok;have key: ∀(k i:Nat) (e:B4) (out:List Int),i+k=fr.1.length->A8z fr (i:Int) e.Now e.Be e.Ai out=Option.bind (B8I (fr.1.drop i) e out) fun x=>cond (decide ((fr.2.length:Int)>0)) (Option.bind (I8 r13 x.2) fun o=>some (x.1,o,0)) (some (x.1,x.2,0)):=by
  intro k
  induction k with
  |zero=>
   intro i e out hi;have hi:i=fr.1.length:=by omega
   subst hi;rw [List.drop_length];unfold A8z;rw [D0T];unfold A7u;dsimp only;rw [D8h (by omega),D8d]
   show _=cond _ _ _;cases decide ((fr.2.length:Int)>0) with
   |false=>rfl
   |true=>
    simp only [D8e];show Option.bind (Option.map Sum.inr (Option.bind (I8 r13 out) _)) _=Option.bind (I8 r13 out) _;cases I8 r13 out<;>rfl
  |succ k ih=>
   intro i e out hi;have hlt:i<fr.1.length:=by omega
   have ex:B9 fr.1 (i:Int)=some fr.1[i]:=by rw [J5 hlt,L8 hlt]
   rw [List.drop_eq_getElem_cons hlt];unfold A8z;rw [D0T];have st:A7u fr (i:Int) e.Now e.Be e.Ai out=Option.bind (J1 fr.1[i]) fun cm=>cond (cm.2 !=0) (Option.bind (I8 r13 out) fun o=>some (.inl (((i+1:Nat):Int),e.Now,e.Be,e.Ai,o))) (Option.bind (I9 e cm.1) fun ar=>Option.bind (I8 ar.2 out) fun o=>some (.inl (((i+1:Nat):Int),ar.1.Now,ar.1.Be,ar.1.Ai,o))):=by
    unfold A7u;rw [D8f (by omega),D8e,ex,D8a,(T2 (i:Int) (by omega)).1]
    rfl
   dsimp only;rw [st];show _=Option.bind (Option.bind (J1 fr.1[i]) _) _;cases J1 fr.1[i] with
   |none=>rfl
   |some cm=>
    simp only [D8a];cases cm.2 !=0 with
    |true=>
     simp only [D8e];cases I8 r13 out with
     |none=>rfl
     |some o=>exact ih (i+1) e o (by omega)
    |false=>
     simp only [D8d];cases I9 e cm.1 with
     |none=>rfl
     |some ar=>
      simp only [D8a];cases I8 ar.2 out with
      |none=>rfl
      |some o=>exact ih (i+1) ar.1 o (by omega)
 unfold A2J;rw [A1K _ w,O3 ok,D8a,D8N,D8d,D8h (by omega),D8d,hs,D8a]
 exact key fr.1.length 0 e [] (by omega)
end Go.Win
set_option maxHeartbeats 4000000
set_option maxRecDepth 20000
namespace Go.Win
open Go.Vc Go.Dec
theorem tW {α:Type} {m:Option α} {P:α->Prop} (h:T m P):W m P:=fun r e=>by
 obtain ⟨a,e',p⟩:=h;rw [e'] at e;cases e;exact p
theorem zw (n:Int):D6 .i64 (A1 n):=S2.2 (by have:=C18 n;omega)
structure B7G (c:B6):Prop where
 op:D6 .i64 c.Op
 id:D6 .i64 c.ID
 cfg:N0 c.Ap
 t:D6 .i64 c.T
 v:D6 .i64 c.V
 q:S7 c.Bh
 dr: ∀x∈c.Ba,D6 .i64 x
theorem B7G.W {c:B6} (h:B7G c) (g:TcP c):A7J c:=by
 refine ⟨?_,by have:=g.dr;omega,g.by0⟩
 have l:=g.dr;have b:Q7 (((c.Ay.length:Int)::c.Ay)++ []):=by rw [g.by0];exact G6 (S2.2 (by decide)) A1v
 unfold A2B;have o: ∀ {n:Int},D6 .i64 n->Q7 [n]:=fun h=>G6 h A1v;exact A1u.2 ⟨o h.op,A1u.2 ⟨o h.id,A1u.2 ⟨D0r h.cfg,A1u.2 ⟨o h.t,A1u.2 ⟨o h.v,A1u.2 ⟨G6 (S2.2 (by omega)) h.dr,A1u.2 ⟨o h.q.1,A1u.2 ⟨o h.q.2.1,A1u.2 ⟨o h.q.2.2,b⟩⟩⟩⟩⟩⟩⟩⟩⟩
theorem md {a b:Int} (h:1<=b/\b<=4611686018427387904):W (S8 a b) fun r=>D6 .i64 r:=tW (yM (tsEax1.pf h) fun r h' =>S2.2 (by omega))
theorem mi {a b:Int} (h:1<=b/\b<=4611686018427387904):W (A3a a b) fun r=>D6 .i64 r:=tW (yM (tsEax2.pf h) fun r h' =>S2.2 (by omega))
theorem z8:N0 ⟨0,0,0,0,0,0,0,0⟩:=⟨i0 rfl,i0 rfl,i0 rfl,i0 rfl,i0 rfl,i0 rfl,i0 rfl,i0 rfl⟩
theorem z3:S7 ⟨0,0,0⟩:=⟨i0 rfl,i0 rfl,i0 rfl⟩
theorem D2Z {c:B7} (h:N0 c):N0 (A5O c):=by
 obtain ⟨h1,h2,h3,h4,h5,h6,h7,h8⟩:=h;have z:D6 .i64 0:=i0 rfl;have k: ∀ {b:Bool} {x y:B7},N0 x->N0 y->N0 (cond b x y):=fun {b x y} h1 h2=>by cases b<;>assumption
 have j3: ∀b,N0 (A22 c b):=fun b=>by
  unfold A22
  repeat' first
   |refine k ?_ ?_
   |(refine ⟨?_, ?_, ?_, ?_, ?_, ?_, ?_, ?_⟩<;>assumption)
 unfold A5O
 repeat' first
  |exact j3 _
  |refine k ?_ ?_
  |(refine ⟨?_, ?_, ?_, ?_, ?_, ?_, ?_, ?_⟩<;>assumption)
theorem D3m {c:B7} {n:Int} (hn:D6 .i64 n):W (A7F c n) N0:=by
 have j: ∀a b d e f g h,D6 .i64 f->D6 .i64 h->W (A3G n a b d e f g h) N0:=fun a b d e f g h hf hh=>wI (D2Z ⟨hn,zw _,zw _,zw _,zw _,hf,zw _,hh⟩);unfold A7F;refine wB fun _=>wB fun _=>wB fun _=>wB fun _=>wS (mi (by decide)) fun _ hf=>wB fun _=>wS (tW (tsEax1.pf (by decide))) fun y hy=>wC (fun _=>j _ _ _ _ _ _ _ hf ?_) fun _=>j _ _ _ _ _ _ _ hf (zw _)
 rw [C4 (by omega) (by omega),Int.tmod_eq_emod_of_nonneg (by omega)]
 exact S2.2 (by omega)
theorem D3n {c:B6} {n:Int} (hn:D6 .i64 n):W (A4d c n) fun c=>B7G c/\c.Ba= []:=by
 have z:D6 .i64 0:=i0 rfl;have j2: ∀ {a b c d e q},D6 .i64 a->D6 .i64 b->N0 c->D6 .i64 d->D6 .i64 e->S7 q->W (A0o a b c d e q) fun c=>B7G c/\c.Ba= []:=fun h1 h2 h3 h4 h5 h6=>wI ⟨⟨h1,h2,h3,h4,h5,h6,fun x hx=>by cases hx⟩,rfl⟩
 have j6: ∀a {b} x,D6 .i64 b->W (A23 c n a b x) fun c=>B7G c/\c.Ba= []:=fun a b x hb=>by
  unfold A23 B2P;refine wC (fun _=>j2 (zw _) z z8 z z z3) fun _=>wS (P:=D6 .i64) ?_ fun _ hv=>j2 (S2.2 (by decide)) hb z8 hn hv z3
  exact wB fun _=>wC (fun _=>wB fun _=>wI (zw _)) fun _=>wC (fun _=>wB fun _=>wI (zw _)) fun _=>wB fun _=>wI (zw _)
 unfold A4d;refine wB fun _=>wS (md (by decide)) fun b hb=> ?_
 refine wC (fun _=>wB fun _=>wS (D3m (zw _)) fun _ hc=>j2 (zw _) hb hc z z z3) fun _=> ?_;refine wC (fun _=>j2 (zw _) hb z8 z z z3) fun _=> ?_;refine wC (fun _=>wB fun _=>j2 (zw _) z z8 (zw _) z z3) fun _=> ?_;refine wC (fun _=>wB fun _=>wS (md (by decide)) fun _ h1=>wS (md (by decide)) fun _ h2=>j2 (zw _) hb z8 z z ⟨zw _,h1,h2⟩) fun _=> ?_
 exact wC (fun _=>j6 _ _ hb) fun _=>j6 _ _ hb
theorem D4X {x m:Int} (h:D6 .i64 x):D6 .i64 (Int.tmod x m):=by
 have h:=S2.1 h;have a:(Int.tmod x m).natAbs<=x.natAbs:=by rw [Int.natAbs_tmod];exact Nat.mod_le _ _
 by_cases h0:0<=x
 ·have:=Int.tmod_nonneg m h0;exact S2.2 (by omega)
 ·have:=Int.tmod_nonneg m (show 0<= -x by omega)
  rw [Int.neg_tmod] at this;exact S2.2 (by omega)
theorem D5X {t:V4} {m:Int} (h:∀x∈t.L,D6 .i64 x):W (A21 t m) fun r=>D6 .i64 r.1/\r.2.L=t.L:=by
 unfold A21 S8;refine wC (fun _=>wI ⟨i0 rfl,rfl⟩) fun _=> ?_;intro r hr;cases e:B9 t.L (A1 (A1 (t.At+1)-1)) with
 |none=>rw [e] at hr;cases hr
 |some x=>
  rw [e,D8a] at hr;have hx:=h x (D4n e);exact (show W _ fun r:Int×V4=>D6 .i64 r.1/\r.2.L=t.L from wS (P:=D6 .i64) (wK (wC (fun _=>wI (zw _)) fun _=>wI (D4X hx))) fun y hy=>wI ⟨hy,rfl⟩) r hr
theorem D4f {e:B4} {c:B6} (h:B7G c) {l:List Int} (hl:∀x∈l,D6 .i64 x):W (A6X e c l) B7G:=by
 unfold A6X B38 B6C;refine wL (fun s=>(∀x∈s.1,D6 .i64 x)/\s.2.1=l) ⟨h.dr,rfl⟩ ?_;rintro ⟨ds,_,a⟩ ⟨h1,rfl⟩;dsimp only at h1⊢;have fin:B7G ⟨c.Op,c.ID,c.Ap,c.T,c.V,ds,c.Bh,c.Ay⟩:=⟨h.op,h.id,h.cfg,h.t,h.v,h.q,h1⟩;unfold B2j;refine wC (fun _=>wB fun m=>wC (fun _=>wP (wI fin)) fun _=>wK (wS (D5X hl) fun y hy=>wK (wI ⟨fun x hx=> ?_,hy.2⟩))) fun _=>wP (wI fin);rcases D8W.1 hx with hx|hx
 ·exact h1 x (by simpa using hx)
 ·rw [List.mem_singleton.1 hx];exact hy.1
theorem D6Z {e:B4} {c:B6} (h:ES QS e):W (S4 (oZ e c)) fun x=>byt x.2.reply_.Ay:=by
 obtain ⟨ok,w⟩:=h.ok;unfold S4;exact wS (C5g ok w) fun _ h=>wI h.2
noncomputable def C0l:List B6->B4->Option B4
 | [],e=>some e
 |c::cs,e=>Option.bind (I9 e c) fun r=>C0l cs r.1
theorem C0m (cs ds:List B6): ∀e,C0l (cs++ds) e=Option.bind (C0l cs e) (C0l ds):=by
 induction cs with
 |nil=>intro e;rfl
 |cons c cs ih=>
  intro e;show Option.bind (I9 e c) _=Option.bind (Option.bind (I9 e c) _) _;cases I9 e c with
  |none=>rfl
  |some r=>exact ih r.1
noncomputable def A27 (c:B6):List Int:=wr (A2B c)
theorem C9O: ∀(cs:List B6) {e:B4} (h:ES QS e) (h6:e.Be=6) (hc: ∀c∈cs,TcP c/\A7J c),∃x w,ES QS x/\x.Be=6/\C0l cs e=some x/\w.length<=1048600*cs.length/\ ∀out:List Int,out.length+1048600*cs.length<=10000000000->B8I (cs.map A27) e out=some (x,out++w)
 | [],e,h,h6,_=>⟨e, [],h,h6,rfl,Nat.zero_le _,fun out _=>by rw [List.append_nil];rfl⟩
 |c::cs,e,h,h6,hc=>by
  obtain ⟨c1,c2⟩:=hc c (by simp)
  obtain ⟨ar,e2,⟨⟨a1,a2⟩,a3⟩⟩:=D3j (C2p h (by omega) c1) (D0b (D6Z h))
  have a6:=(C9k c1.op _ e2).trans h6;obtain ⟨b,hr⟩:=D7A a2 a3;obtain ⟨x,w,g1,g2,g3,g4,g5⟩:=C9O cs a1 a6 fun d hd=>hc d (by simp [hd])
  have bl:(L1 b).length<=1048600:=by
   have:=hr.1.2.1;have c:=B6n (n:=(b.length:Int)) (S2.2 (by omega))
   unfold L1;rw [D8g];omega
  refine ⟨x,L1 b++w,g1,g2, ?_, ?_,fun out ho=> ?_⟩
  ·show Option.bind (I9 e c) _=_;rw [e2];exact g3
  ·rw [D8g,D8t];omega
  ·rw [D8t] at ho;show Option.bind (J1 (A27 c)) _=_;rw [show J1 (A27 c)=some (c,0) from c2.dec,D8a,D8N,D8d,e2,D8a,hr.2 out (by omega),D8a,g5 _ (by rw [D8g];omega),D8E]
theorem B88 {cs:List B6} (h:∀c∈cs,A7J c):((cs.map A27).flatMap L1).length<=20010*cs.length:=by
 induction cs with
 |nil=>exact Nat.zero_le _
 |cons c cs ih=>
  have h1:=(h c (by simp)).len
  have h2:=ih fun d hd=>h d (by simp [hd])
  have c10:=B6n (n:=((A27 c).length:Int)) (S2.2 (by unfold A27;omega))
  rw [D83,List.flatMap_cons,D8g,D8t];have:(L1 (A27 c)).length<=20010:=by unfold L1;rw [D8g];unfold A27 at*;omega
  omega
theorem C8g {cs:List B6} (h:∀c∈cs,A7J c) (hl:cs.length<=1000):B1j cs=some ((cs.map A27).flatMap L1,0):=by
 have key: ∀(k i:Nat),i+k=cs.length->A7t cs (((cs.take i).map A27).flatMap L1) (i:Int)=some ((cs.map A27).flatMap L1,0):=by
  intro k
  induction k with
  |zero=>
   intro i hi;have hi:i=cs.length:=by omega
   subst hi;rw [List.take_length];unfold A7t;refine M5 ?_;unfold A90;dsimp only;rw [D8h (by omega),D8d];rfl
  |succ k ih=>
   intro i hi;have hlt:i<cs.length:=by omega
   have hm:=h _ (D8Z hlt);have b:=B88 (cs:=cs.take i) fun c hc=>h c (List.mem_of_mem_take hc);rw [D8C] at b;rw [<-ih (i+1) (by omega)]
   unfold A7t;refine M1 ?_;unfold A90;obtain ⟨o,e,rfl⟩:=C8c (p:=((cs.take i).map A27).flatMap L1) (b:=wr (A2B cs[i])) (by omega) (by have:=hm.len;omega)
   dsimp only;rw [D8f (by omega),D8e,S0,D8o hlt,D8a,hm.enc,D8a,D8N,D8d,e,D8a,C4 (by omega) (by omega),show cs.take (i+1)=cs.take i++ [cs[i]] by rw [List.take_add_one];simp [hlt]]
   rw [D89,List.flatMap_append,D83,List.map_nil,List.flatMap_cons,List.flatMap_nil,List.append_nil];rfl
 exact key cs.length 0 (by omega)
theorem C0N {cs:List B6} (h:∀c∈cs,A7J c) (hl:cs.length<=1000):A91 ((cs.map A27).flatMap L1)=some (cs.map A27, []):=by
 have b:=B88 h;have:=B8K (cs.map A27) [] [] A3A (fun x hx=>by
  obtain ⟨c,hc,rfl⟩:=List.mem_map.1 hx;have:=(h c hc).len;exact ⟨A9p (h c hc).ns,by unfold A27;omega⟩) (by rw [List.nil_append];omega) (D8S _)
 exact this
theorem D6l (l:List Int):A6f l l=some true:=by unfold A6f;simp
theorem B7E (p0 p1 p2:List B6) (w0:wfL R4 p0) (w1:wfL R4 p1) (w2:wfL R4 p2):A7E p0 p1 p2=some true:=by
 have key:T (A7E p0 p1 p2) fun r=>r=true:=by
  unfold A7E;refine yB (yM (D59 p0 10 w0 (by decide)) fun e ⟨h,h6⟩=> ?_)
  have l1:=w1.1;have l2:=w2.1;rw [I2] at l1 l2;unfold B2E;refine yL (fun s=> ∃i:Nat,s.2.2.1=i/\i<=24/\s.1.length=min i p1.length/\s.1.length+s.2.1.length=i/\(∀c∈s.1++s.2.1,TcP c/\A7J c)/\C0l (s.1++s.2.1) e=some ⟨s.2.2.2.1,s.2.2.2.2.1,s.2.2.2.2.2⟩/\ES QS ⟨s.2.2.2.1,s.2.2.2.2.1,s.2.2.2.2.2⟩/\s.2.2.2.2.1=6) (fun s=>24-s.2.2.1.toNat) ⟨0,rfl,Nat.zero_le _,by simp,rfl,(fun c hc=>by cases hc),rfl,h,h6⟩ ?_
  rintro ⟨a,b,_,now,lim,rs⟩ ⟨i,rfl,i1,i2,i3,i4,i5,i6,i7⟩;dsimp only at i2 i3 i4 i5 i6 i7⊢;subst i7;have step: ∀x:B6,R4 x->i<24->(i<p1.length\/ ¬i<p1.length)->T (A2x p1 a b i now 6 rs x) fun y=>match y with
    | .inl s=>(∃i:Nat,s.2.2.1=i/\i<=24/\s.1.length=min i p1.length/\s.1.length+s.2.1.length=i/\(∀c∈s.1++s.2.1,TcP c/\A7J c)/\C0l (s.1++s.2.1) e=some ⟨s.2.2.2.1,s.2.2.2.2.1,s.2.2.2.2.2⟩/\ES QS ⟨s.2.2.2.1,s.2.2.2.2.1,s.2.2.2.2.2⟩/\s.2.2.2.2.1=6)/\24-s.2.2.1.toNat<24-(i:Int).toNat
    | .inr r=>r=true:=fun x wx hi _=>by
   unfold A2x;have hn:D6 .i64 now:=i6.wf.1;refine yB (yM (D3j (C6A x now) (D3n hn)) fun c ⟨c1,c2⟩=>yB (yM (D3j (C75 i6 c1 x.Ba wx.2.2.2.2.2.1.1) (D4f c2.1 wx.2.2.2.2.2.1.2)) fun d ⟨d1,d2⟩=> ?_));obtain ⟨ar,e2,a1,a2⟩:=C2p i6 (Int.le_refl 6) d1.1;have a6:=C9k d1.1.op _ e2;have dW:=d2.W d1.1;refine yB ⟨ar,e2, ?_⟩;rw [(T2 (i:Int) (by omega)).1]
   refine yC (fun g=>yK (by rw [D8c,D8P];omega) (yI ?_)) fun g=>yK (by rw [D8c,D8P];omega) (yI ?_)
   ·rw [D8c] at g;have b0:b= []:=D8V (by omega)
    subst b0;refine ⟨⟨i+1,rfl,hi,by simp;omega,by simp at i3⊢;omega,fun c hc=> ?_, ?_,a1,a6⟩,by dsimp only;omega⟩
    ·simp only [List.append_nil,D8W,List.mem_singleton] at hc i4;rcases hc with hc|rfl
     ·exact i4 c hc
     ·exact ⟨d1.1,dW⟩
    ·rw [List.append_nil] at i5⊢;rw [C0m,i5,D8a];show Option.bind (I9 _ d) _=_;rw [e2];rfl
   ·rw [D8r] at g;refine ⟨⟨i+1,rfl,hi,by dsimp only;omega,by simp;omega,fun c hc=> ?_, ?_,a1,a6⟩,by dsimp only;omega⟩
    ·rw [<-D8E] at hc;rcases D8W.1 hc with hc|hc
     ·exact i4 c hc
     ·rw [List.mem_singleton.1 hc];exact ⟨d1.1,dW⟩
    ·dsimp only;rw [<-D8E,C0m,i5,D8a];show Option.bind (I9 _ d) _=_;rw [e2];rfl
  unfold A6W;have hw:A1 ((p1.length:Int)+p2.length)<=p1.length+p2.length:=by rw [A8i];omega
  refine yC (fun g=> ?_) fun g=>yP ?_
  ·rw [D8i,D8c,D8c] at g;refine yC (fun k=> ?_) fun k=> ?_
   ·rw [D8c] at k;exact yB (yX (by omega) fun hm=>yM (step _ (w1.2 _ hm) (by omega) (.inl (by omega))) fun y hy=>by cases y<;>exact hy)
   ·rw [D8r] at k;rw [C4 (n:=(i:Int)-p1.length) (by omega) (by omega)]
    exact yB (yX (by omega) fun hm=>yM (step _ (w2.2 _ hm) (by omega) (.inr (by omega))) fun y hy=>by cases y<;>exact hy)
  ·have hab: ∀c∈a++b,A7J c:=fun c hc=>(i4 c hc).2;have ha: ∀c∈a,TcP c/\A7J c:=fun c hc=>i4 c (by simp [hc])
   have hb: ∀c∈b,TcP c/\A7J c:=fun c hc=>i4 c (by simp [hc])
   have la:a.length<=24:=by omega
   have lb:b.length<=24:=by omega
   have ja:=C8g (fun c hc=>(ha c hc).2) (by omega)
   have jb:=C8g (fun c hc=>(hb c hc).2) (by omega)
   have na:=B88 fun c hc=>(ha c hc).2;have nb:=B88 fun c hc=>(hb c hc).2;have eab:((a++b).map A27).flatMap L1=(a.map A27).flatMap L1++(b.map A27).flatMap L1:=by rw [D89,List.flatMap_append]
   obtain ⟨x,u,x1,x2,x3,x4,x5⟩:=C9O a h h6 ha;obtain ⟨z,v,z1,z2,z3,z4,z5⟩:=C9O b x1 x2 hb;obtain ⟨s,s1,s2⟩:=D1C x1 (by omega)
   have hz:z=⟨now,6,rs⟩:=by
    rw [C0m,x3,D8a,z3] at i5;exact D8T i5
   have r1:A2J e ((a.map A27).flatMap L1)=some (x,u,0):=by
    rw [C9P h.any (C0N (fun c hc=>(ha c hc).2) (by omega)) (by omega) (by rw [D8X];omega),x5 [] (by simp;omega)];rfl
   have r2:A2J x ((b.map A27).flatMap L1)=some (z,v,0):=by
    rw [C9P x1.any (C0N (fun c hc=>(hb c hc).2) (by omega)) (by omega) (by rw [D8X];omega),z5 [] (by simp;omega)];rfl
   have r3:A2J e ((a.map A27).flatMap L1++(b.map A27).flatMap L1)=some (z,u++v,0):=by
    rw [<-eab,C9P h.any (C0N hab (by rw [D8g];omega)) (by rw [eab,D8g];omega) (by rw [D8X,D8g];omega),D89,D28,x5 [] (by simp;omega),D8a,z5 _ (by simp;omega)]
    rfl
   have sm:=D3a z1.ok.2;rw [ja,D8a,jb,D8a];dsimp only;rw [r1,D8a];dsimp only;rw [s1,D8a];dsimp only;rw [s2,D8a];dsimp only;rw [r2,D8a,List.nil_append];dsimp only;rw [r3,D8a];dsimp only;rw [<-hz];refine yK (by rw [D8c,D8G];omega) (yK (by rw [D8c];omega) ?_)
   simp only [sm,beq_self_eq_true,Bool.and_self,H7,D8a,List.nil_append,D6l,C6y];exact yK (by rw [D8f (by simp;omega),Bool.or_true]) (yK (by rw [D8f (by omega),Bool.or_true]) (yI rfl))
 obtain ⟨r,h,rfl⟩:=key;exact h
end Go.Win
