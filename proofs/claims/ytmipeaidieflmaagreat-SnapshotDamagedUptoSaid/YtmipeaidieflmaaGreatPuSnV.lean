/- Plain laws of the functions on plain data. -/
import Derived.Test.YtmipeaidieflmaaGreatPuSnU
set_option linter.unusedVariables false
set_option linter.unusedSimpArgs false
set_option linter.unnecessarySimpa false
set_option linter.unusedSectionVars false
namespace Go.Win
open Go.Vc Go.Dec
theorem C9f {l:List Int} {i:Nat} (h:i<l.length):(l.take (i+1)).sum=(l.take i).sum+l[i]:=by
 have e:l.take (i+1)=l.take i++ [l[i]]:=by simp
 rw [e,List.sum_append];simp
theorem C5D {l:List Int} (hb:V8 l) (hl:l.length<=1099511627776): ∃n,Q8 l=some n/\n%65536=(1+l.sum)%65521:=by
 unfold Q8 B1Y;refine A8O (f:=fun s:Int×Int×Int=>A4x l s.1 s.2.1 s.2.2) (fun s=> ∃i:Nat,i<=l.length/\s.2.2=(i:Int)/\s.1=(1+(l.take i).sum)%65521/\0<=s.2.1/\s.2.1<65521) (fun s=>l.length-s.2.2.toNat) (fun n=>n%65536=(1+l.sum)%65521) (1,0,0) ⟨0,by omega,rfl,rfl,by decide,by decide⟩ ?_
 rintro ⟨x,y,_⟩ ⟨i,hi,rfl,h1,h2,h3⟩;dsimp only at h1 h2 h3⊢;unfold A4x
 by_cases h:i<l.length
 ·left;obtain ⟨b1,b2⟩:=hb l[i] (D2T h);have hs:=C9f h;rw [D19 (by omega),D18,Q6 h,D14]
  have hx:0<=x/\x<65521:=by omega
  have e1:Int.tmod (A3 (x+A3 l[i])) 65521=(x+l[i])%65521:=by
   rw [D5 (n:=l[i]) (by omega) (by omega),D5 (n:=x+l[i]) (by omega) (by omega),Int.tmod_eq_emod_of_nonneg (by omega)]
  rw [e1]
  generalize hX:(x+l[i])%65521=X
  have e2:Int.tmod (A3 (y+X)) 65521=(y+X)%65521:=by
   rw [D5 (n:=y+X) (by omega) (by omega),Int.tmod_eq_emod_of_nonneg (by omega)]
  rw [e2,D5 (n:=(i:Int)+1) (by omega) (by omega)]
  refine ⟨_,rfl,⟨i+1,by omega,rfl, ?_, ?_, ?_⟩, ?_⟩
  ·show X=_;rw [hs];omega
  ·show 0<=(y+X)%65521;omega
  ·show (y+X)%65521<65521;omega
  ·show l.length-((i:Int)+1).toNat<l.length-((i:Int)).toNat;omega
 ·right;rw [D2b (by omega),D17]
  have hll:l.take i=l:=List.take_of_length_le (by omega)
  rw [hll] at h1;refine ⟨_,rfl, ?_⟩;rw [D5 (n:=65536*y) (by omega) (by omega),D5 (n:=65536*y+x) (by omega) (by omega)]
  omega
theorem D0k {l:List Int} {i:Nat} (h:i<l.length) (b:Int):(l.set i b).sum=l.sum-l[i]+b:=by
 rw [List.set_eq_take_append_cons_drop,if_pos h];have e:l.sum=(l.take i++l.drop i).sum:=by rw [List.take_append_drop]
 rw [e,List.drop_eq_getElem_cons h,List.sum_append,List.sum_append,List.sum_cons,List.sum_cons];omega
theorem D0j {l:List Int} (hb:V8 l) (hl:l.length<=1099511627776) {i:Nat} (h:i<l.length) {b:Int} (hx:0<=b/\b<=255) (hs:Q8 (l.set i b)=Q8 l):b=l[i]:=by
 have hb' :V8 (l.set i b):=fun x hm=>by
  rcases List.mem_or_eq_of_mem_set hm with h1|h1
  ·exact hb x h1
  ·exact h1▸hx
 obtain ⟨n,n1,n2⟩:=C5D hb hl;obtain ⟨m,m1,m2⟩:=C5D hb' (by rw [D24];exact hl)
 rw [n1,m1] at hs;have hnm:m=n:=D2N hs;rw [D0k h] at m2;obtain ⟨b1,b2⟩:=hb l[i] (D2T h);omega
theorem C7d (u:Nat): ∀k x,(cb u)[k]? =some x->(k+1<(cb u).length->128<=x)/\(k+1=(cb u).length->x<128):=by
 induction u using Nat.strongRecOn with
 |ind u ih=>
  intro k x hx
  by_cases h:u<128
  ·rw [B4q h] at hx⊢;cases k with
   |zero=>simp at hx;subst hx;exact ⟨fun h2=>absurd h2 (by simp),fun _=>by omega⟩
   |succ k=>simp at hx
  ·rw [B4p (by omega)] at hx⊢
   have hl:=C2T (u/128);cases k with
   |zero=>
    simp at hx;subst hx;exact ⟨fun _=>by omega,fun h2=>by rw [D2n] at h2;omega⟩
   |succ k=>
    rw [List.getElem?_cons_succ] at hx;obtain ⟨h1,h2⟩:=ih (u/128) (by omega) k x hx
    exact ⟨fun h3=>h1 (by rw [D2n] at h3;omega),fun h3=>h2 (by rw [D2n] at h3;omega)⟩
theorem C4m: ∀ {A B t:List Int},K1 A->K1 B->wr A++t=wr B-> ∃M,B=A++M/\t=wr M
 | [],B,t,_,_,h=>⟨B,rfl,h⟩
 |a::A, [],t,_,_,h=>by
  have:=congrArg List.length h;rw [A0i,C4l,D2a,D2a,D2A] at this;have:=A37 a;omega
 |a::A,b::B,t,ha,hb,h=>by
  obtain ⟨a1,a2⟩:=Z1.1 ha;obtain ⟨b1,b2⟩:=Z1.1 hb;rw [A0i,A0i,D2y] at h;have e:=A1G a1 (wr A++t);rw [h,A1G b1] at e;obtain ⟨e1,_⟩:=Prod.mk.inj (D2N e);subst e1;obtain ⟨M,h1,h2⟩:=C4m a2 b2 (List.append_cancel_left h);exact ⟨M,by rw [h1];rfl,h2⟩
theorem C23 {L M:List Int} {e e' :B9} (h:A1b B1 L=some (e, [])) (h':A1b B1 (L++M)=some (e', [])):M= []:=by
 obtain ⟨pre,h1,h2⟩:=B3G.loc _ _ _ h;rw [List.append_nil] at h1;subst h1;rw [h2 M] at h';exact (Prod.mk.inj (D2N h')).2
theorem C1z {l t:List Int} {e e' :B9} (h:A06 l e) (h':A06 (l++t) e'):t= []:=by
 obtain ⟨L,s,w1,w2,h1,_,h2⟩:=h;obtain ⟨L',s',w1',w2',h1',_,h2'⟩:=h';have e1:wr (L++ [s])++t=wr (L' ++ [s']):=by rw [A2w,A2w,<-h1,<-h1']
 obtain ⟨M,m1,m2⟩:=C4m (A2Z w1 w2) (A2Z w1' w2') e1;rcases List.eq_nil_or_concat M with hM|⟨M',z,hM⟩
 ·rw [m2,hM];rfl
 ·rw [hM,List.concat_eq_append,<-D2y] at m1;have hL:=(List.append_inj' m1 rfl).1;rw [hL,D2y] at h2';have:=C23 h2 h2';cases this
theorem C8u {m n:Int} (hm:E0 .i64 m) (hn:E0 .i64 n) (h:M7 m=M7 n):m=n:=by
 have e:=A1G hm [];rw [h,A1G hn] at e;exact (Prod.mk.inj (D2N e)).1.symm
theorem C5B {L L' :List Int} {s s' :Int} {e e' :B9} (w1:K1 L) (w1':K1 L') (h2:A1b B1 L=some (e, [])) (h2':A1b B1 L' =some (e', []))
  (hl:(wr L++M7 s).length=(wr L' ++M7 s').length) (i:Nat) (ho:∀k,k≠i->(wr L++M7 s)[k]? =(wr L' ++M7 s')[k]?): ¬(wr L').length<(wr L).length:=by
 intro hq
 by_cases hi:(wr L').length<=i
 ·have ht:wr L' =(wr L).take (wr L').length:=by
   apply List.ext_getElem?;intro k
   by_cases hk:k<(wr L').length
   ·have:=ho k (by omega)
    rw [D2t (by omega),D2t hk] at this
    rw [D2r,if_pos hk,this]
   ·rw [D21 (by omega),D21 (by rw [D2w];omega)]
  have e1:wr L' ++(wr L).drop (wr L').length=wr L:=by
   conv=>lhs;lhs;rw [ht]
   exact List.take_append_drop _ _
  obtain ⟨M,m1,m2⟩:=C4m w1' w1 e1;rw [m1] at h2;have:=C23 h2' h2;rw [this,List.append_nil] at m1;rw [m1] at hq;exact Nat.lt_irrefl _ hq
 ·rcases List.eq_nil_or_concat L with hL|⟨L0,z,hL⟩
  ·rw [hL,C4l] at hq;exact absurd hq (Nat.not_lt_zero _)
  ·rw [List.concat_eq_append] at hL;have hw:wr L=wr L0++M7 z:=by rw [hL,A2w]
   have hz:=A37 z;have hs:=A37 s;have hlen:(wr L).length=(wr L0).length+(M7 z).length:=by rw [hw,D2a]
   rw [D2a,D2a] at hl;have hlast: ∃x,(M7 z)[(M7 z).length-1]? =some x:=⟨_,D2i (by omega)⟩
   obtain ⟨x,hx⟩:=hlast;have hx1:x<128:=(C7d _ _ _ hx).2 (show (M7 z).length-1+1=(M7 z).length by omega)
   have h1:=ho ((wr L).length-1) (by omega)
   rw [D2t (by omega),D2u (by omega),hw,D2u (by rw [D2a];omega),D2a] at h1
   rw [show (wr L0).length+(M7 z).length-1-(wr L0).length=(M7 z).length-1 by omega,hx] at h1
   have:=(C7d _ _ _ h1.symm).1 (show (wr L0).length+(M7 z).length-1-(wr L').length+1<(M7 s').length by omega)
   omega
theorem C9c {l:List Int} (hl:l.length<=1048576) {e e' :B9} (h:A06 l e) {i:Nat} (hi:i<l.length) {b:Int} (hb:0<=b/\b<=255) (h':A06 (l.set i b) e'):l.set i b=l:=by
 obtain ⟨L,s,w1,w2,h1,hs,h2⟩:=h;obtain ⟨L',s',w1',w2',h1',hs',h2'⟩:=h';have hlen:(wr L++M7 s).length=(wr L' ++M7 s').length:=by rw [<-h1',<-h1,D24]
 have ho: ∀k,k≠i->(wr L++M7 s)[k]? =(wr L' ++M7 s')[k]? :=fun k hk=>by
  rw [<-h1,<-h1',List.getElem?_set_ne (Ne.symm hk)]
 have q1:=C5B (s:=s) (s' :=s') w1 w1' h2 h2' hlen i ho;have q2:=C5B (s:=s') (s' :=s) w1' w1 h2' h2 hlen.symm i fun k hk=>(ho k hk).symm;have hq:(wr L).length=(wr L').length:=by omega
 rw [h1] at h1' hi hl⊢
 by_cases hiq:i<(wr L).length
 ·rw [List.set_append_left _ _ hiq] at h1' ⊢;obtain ⟨c1,c2⟩:=List.append_inj h1' (by rw [D24];exact hq)
  have hss:=C8u w2 w2' c2;rw [<-hss,<-c1,<-hs] at hs';have:=D0j (C4k L) (by rw [D2a] at hl;omega) hiq hb hs'
  rw [this,List.set_getElem_self]
 ·rw [List.set_append_right _ _ (by omega)] at h1' ⊢
  obtain ⟨c1,c2⟩:=List.append_inj h1' hq;rw [c2];rw [<-c1,hs] at hs';rw [D2N hs']
theorem B53 {y j:List Int} (hy:V8 y) (hj:V8 j) (hl:j.length<=1048576) (h:y≠j-> ∀e,¬A06 j e):P2 y j=some true:=by
 unfold P2;obtain ⟨r,e1,_,d,_⟩:=B1y hj hl;rw [e1,D14,same_bytes hy hj,D14,B09]
 by_cases he:y=j
 ·rw [D19 he]
  rfl
 ·rw [D2b he];have hr:r=(zE,13):=by
   rcases d with ⟨e,h1,_⟩|⟨_,h1⟩
   ·exact absurd h1 (h he e)
   ·exact h1
  have hz:A1v zE ⟨0,0, []⟩=some true:=B33 C6X;rw [hr];simp [hz]
theorem A9N (p0:B9) (p1 p2 p3:Int) (w0:G7 p0) (w1:E0 .i64 p1) (w2:E0 .u8 p2) (w3:E0 .i64 p3):A3B p0 p1 p2 p3=some true:=by
 unfold A3B;rw [C6j p0 w0,D14,B09];cases hf:decide ((p0.Ag.length:Int)<=70)&&decide (((szE p0.Ag:Nat):Int)<=400) with
 |false=>rfl
 |true=>
  have hb:=B8k hf;simp only [D2g,D2h,G8,D2v];rw [(T6 _ w0).2,D14]
  by_cases ok:A4a p0
  ·rw [Q3 ok,D2H,D17,B8v p0 w0 (B6s ok) (by omega),D14]
   have hw:=A4B w0;obtain ⟨s1,_⟩:=A4I hw (by omega)
   have hy:=B10 hw (by omega)
   have hl:=B11 hw (by omega)
   have hS:=C3T w0 ok (by omega)
   have hge:1<=(A12 (P9 p0)).length:=by
    obtain ⟨_,n,_,_,e⟩:=A4I hw (by omega)
    rw [e,D2a];have:=A37 n;omega
   rw [s1,D14]
   generalize hY:A12 (P9 p0)=y at hy hl hS hge
   obtain ⟨m,m1,m2,m3⟩:=C3u p1 (n:=(y.length:Int)) (by omega) (by omega)
   obtain ⟨i,rfl⟩:=Int.eq_ofNat_of_zero_le m2;have hi:i<y.length:=by omega
   obtain ⟨n,n1,n2,n3⟩:=C3u p3 (n:=3) (by omega) (by omega)
   have hb2:=C9K.1 w2;unfold A8P;rw [m1,n1];simp only [D14,List.nil_append,D2K];rw [K3 (by rw [D16];simp only [D2A];omega)]
   have hset:V8 (y.set i p2):=fun x hx=>by
    rcases List.mem_or_eq_of_mem_set hx with h|h
    ·exact hy x h
    ·exact h▸hb2
   have htake:V8 (y.take i):=fun x hx=>hy x (List.mem_of_mem_take hx);have happ:V8 (y++ [p2]):=B9V hy fun x hx=>by rw [List.mem_singleton] at hx;exact hx▸hb2
   by_cases c0:n=0
   ·subst c0;rw [beq_self_eq_true,D18,Q6 hi,D14,D14];exact B53 hy hset (by rw [D24];omega) fun hne e h=>hne (C9c (by omega) hS hi hb2 h).symm
   rw [D2U.2 c0,D17]
   by_cases c1:n=1
   ·subst c1;rw [beq_self_eq_true,D18,K3 (by rw [D16];omega)]
    refine B53 hy htake (by rw [D2w];omega) fun hne e h=> ?_
    have h2:A06 (y.take i++y.drop i) p0:=by rw [List.take_append_drop];exact hS
    have:=congrArg List.length (C1z h h2);rw [D2C,D2A] at this;omega
   rw [D2U.2 c1,D17]
   by_cases c2:n=2
   ·subst c2;rw [beq_self_eq_true,D18,K3 (by rw [D16];simp only [D2n,D2A];omega)]
    refine B53 hy happ (by rw [D2a,D2J];omega) fun hne e h=> ?_
    cases C1z hS h
   ·omega
  ·rw [I7 ok]
   rfl
end Go.Win
