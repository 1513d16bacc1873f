/- Plain laws of the functions on plain data. -/
import Derived.Test.YtmipeaidieflmaaGreatPuSnK
import Derived.Test.YtmipeaidieflmaaGreatQa
set_option linter.unusedVariables false
set_option linter.unusedSimpArgs false
set_option linter.unnecessarySimpa false
set_option linter.unusedSectionVars false
namespace Go.Win
open Go.Vc Go.Dec
def Un {β:Type} (P:Rd β) (pre:List Int) (g:β->List Int):Prop:= ∀ns b rest,K1 ns->P ns=some (b,rest)->pre++ns=g b++rest/\K1 rest
theorem Un.pure {β:Type} {x:β} {pre:List Int} {g:β->List Int} (h:pre=g x):Un (H8 x) pre g:=fun ns b rest hw e=>by
 cases e;exact ⟨by rw [h],hw⟩
theorem Un.fail {β:Type} {pre:List Int} {g:β->List Int}:Un (B4Q:Rd β) pre g:=fun _ _ _ _ e=>by cases e
theorem Un.int {β:Type} {f:Int->Rd β} {pre:List Int} {g:β->List Int} (h:∀n,E0 .i64 n->Un (f n) (pre++ [n]) g):Un (B8 B1 f) pre g:=fun ns b rest hw e=>by
 cases ns with
 |nil=>cases e
 |cons n ns=>
  obtain ⟨w1,w2⟩:=Z1.1 hw;obtain ⟨h1,h2⟩:=h n w1 ns b rest w2 e;exact ⟨by rw [<-h1,D2y];rfl,h2⟩
theorem Un.within {β:Type} {f:Int->Rd β} {pre:List Int} {g:β->List Int} {p q:Int} (h:∀n,p<=n/\n<=q->Un (f n) (pre++ [n]) g):Un (B8 (Y8 B1 p q) f) pre g:=fun ns b rest hw e=>by
 cases ns with
 |nil=>cases e
 |cons n ns=>
  obtain ⟨w1,w2⟩:=Z1.1 hw;obtain ⟨a,l',e1,e2⟩:=N4 e;have e1' :(if n<p\/q<n then none else some (n,ns))=some (a,l'):=e1
  split at e1'
  ·cases e1'
  ·cases e1';obtain ⟨h1,h2⟩:=h n (by omega) ns b rest w2 e2
   exact ⟨by rw [<-h1,D2y];rfl,h2⟩
theorem Un.bind {α β:Type} {P:Rd α} {f:α->Rd β} {pre:List Int} {k:α->List Int} {g:β->List Int} (h:Un P [] k) (h':∀a,Un (f a) (pre++k a) g):Un (B8 P f) pre g:=fun ns b rest hw e=>by
 obtain ⟨a,l',e1,e2⟩:=N4 e;obtain ⟨h1,h2⟩:=h ns a l' hw e1;obtain ⟨h3,h4⟩:=h' a l' b rest h2 e2;exact ⟨by rw [<-h3,D2y,<-h1];rfl,h4⟩
theorem Un.many {α:Type} {P:Rd α} {g:α->List Int} (h:Un P [] g): ∀(k:Nat) (ns:List Int) (l:List α) (rest:List Int),K1 ns->L3 P k ns=some (l,rest)->l.length=k/\ns=l.flatMap g++rest/\K1 rest
 |0,ns,l,rest,hw,e=>by cases e;exact ⟨rfl,rfl,hw⟩
 |k+1,ns,l,rest,hw,e=>by
  obtain ⟨a,l',e1,e2⟩:=N4 (P:=P) (f:=fun a=>B8 (L3 P k) fun as=>H8 (a::as)) e;obtain ⟨as,l'',e3,e4⟩:=N4 (P:=L3 P k) (f:=fun as=>H8 (a::as)) e2;cases e4;obtain ⟨h1,h2⟩:=h ns a l' hw e1;obtain ⟨h3,h4,h5⟩:=Un.many h k l' as rest h2 e3;refine ⟨by rw [D2n,h3], ?_,h5⟩
  rw [List.flatMap_cons,D2y,<-h4];exact h1
theorem Un.lst {α:Type} {P:Rd α} {g:α->List Int} (h:Un P [] g):Un (J5 B1 P) [] (lN g):=fun ns b rest hw e=>by
 cases ns with
 |nil=>cases e
 |cons n ns=>
  obtain ⟨w1,w2⟩:=Z1.1 hw;have e' :(if n<0\/(ns.length:Int)<n then none else L3 P n.toNat ns)=some (b,rest):=e
  split at e'
  ·cases e'
  ·obtain ⟨h1,h2,h3⟩:=Un.many h _ ns b rest w2 e';refine ⟨?_,h3⟩;unfold lN;rw [List.nil_append,List.cons_append,<-h2,h1,Int.toNat_of_nonneg (by omega)]
theorem C5F:Un (A44 B1) [] A0Z:=Un.int fun _ _=>Un.int fun _ _=>Un.pure rfl
theorem C1C:Un (A0P B1) [] U2:=Un.int fun _ _=>Un.int fun _ _=>Un.pure rfl
theorem C5G:Un (A45 B1) [] A00:=Un.int fun _ _=>Un.int fun _ _=>Un.int fun _ _=>Un.int fun _ _=>Un.int fun _ _=>Un.int fun _ _=>Un.int fun _ _=>Un.pure rfl
theorem D0m:Un (A7Z B1) [] A65:=Un.int fun _ _=>Un.int fun _ _=>Un.pure rfl
theorem D1n:Un (A99 B1) [] A8m:=Un.int fun _ _=>Un.int fun _ _=>Un.int fun _ _=>Un.pure rfl
theorem D1l:Un (B1B B1) [] A9K:=Un.int fun _ _=>Un.int fun _ _=>Un.int fun _ _=>Un.pure rfl
theorem C3f {n:Int} (h:E0 .i64 n):A3 (F3 n)=n:=by
 have:=A1Y.1 h;rw [A2x,B18];omega
theorem D0o:Un (A6s B1) [] A3s:=Un.int fun a ha=>Un.int fun b hb=>Un.pure (by unfold A3s;rw [C3f ha,C3f hb];rfl)
theorem D0n:Un B1 [] (fun n=> [n]):=fun ns b rest hw e=>by
 cases ns with
 |nil=>cases e
 |cons n ns=>cases e;exact ⟨rfl,(Z1.1 hw).2⟩
theorem C9j:Un (A5p B1) [] A0p:=Un.int fun _ _=>Un.int fun _ _=>Un.int fun _ _=>Un.int fun _ _=>Un.bind (Un.lst D0m) fun _=>Un.pure rfl
theorem C9i:Un (A4p B1) [] A0n:=Un.int fun _ _=>Un.int fun _ _=>Un.int fun _ _=>Un.int fun _ _=>Un.bind (Un.lst D1l) fun _=>Un.pure rfl
theorem D1j:Un (B4r B1) [] A6v:=Un.int fun _ _=>Un.int fun _ _=>Un.int fun _ _=>Un.int fun _ _=>Un.int fun _ _=>Un.int fun _ _=>Un.int fun _ _=>Un.int fun _ _=>Un.pure rfl
theorem A5E {s:B0} {c:E1} (h:s.Ak=c) {k:Int} (hk:c.Bb=k) (pre ns:List Int) (h' :pre++ns=if k=1 then [s.Al.W,s.Al.Cap,s.Al.Now]++lN A0Z s.Al.Av
 else if k=2 then [s.Ar.W,s.Ar.K,s.Ar.Cap,s.Ar.Now]++lN U2 s.Ar.Ac
 else if k=3 then [s.Sum.W,s.Sum.K,s.Sum.Cap,s.Sum.Bj,s.Sum.Now]++lN U2 s.Sum.Ac
 else if k=4 then [s.Ao.Bh,s.Ao.W,s.Ao.K,s.Ao.Cap,s.Ao.Now,s.Ao.Bl]++lN A00 s.Ao.Az
 else if k=5 then [s.Ap.W,s.Ap.K,s.Ap.Cap,s.Ap.Now,s.Ap.Bl]++lN A00 s.Ap.Az
 else if k=6 then [s.Bf.P,s.Bf.Bc,s.Bf.Now]++lN A3s s.Bf.Af
 else if k=7 then [s.Au.Now]++((s.Au.Bg.length:Int)::s.Au.Bg)
 else if k=8 then [Q1 s.Ae.Bj,s.Ae.W,s.Ae.Cap,s.Ae.Now]++lN A0Z s.Ae.Av
 else if k=9 then lN A0p s.Am.Aj
 else if k=10 then [s.Ah.K,s.Ah.Cap,s.Ah.N]++lN A8m s.Ah.Aq
 else [s.Aa.W,s.Aa.K,s.Aa.Cap,s.Aa.Now]++lN A0n s.Aa.Ai):pre++ns=stN s:=by
 unfold stN;rw [h,hk];exact h'
theorem C9l (c:E1):Un (stR B1 c) [] stN:=by
 unfold stR
 by_cases k:c.Bb=1
 ·rw [if_pos k];exact Un.int fun _ _=>Un.int fun _ _=>Un.int fun _ _=>Un.bind (Un.lst C5F) fun _=>Un.pure (A5E rfl k _ _ rfl)
 rw [if_neg k]
 clear k
 by_cases k:c.Bb=2
 ·rw [if_pos k];exact Un.int fun _ _=>Un.int fun _ _=>Un.int fun _ _=>Un.int fun _ _=>Un.bind (Un.lst C1C) fun _=>Un.pure (A5E rfl k _ _ rfl)
 rw [if_neg k]
 clear k
 by_cases k:c.Bb=3
 ·rw [if_pos k];exact Un.int fun _ _=>Un.int fun _ _=>Un.int fun _ _=>Un.int fun _ _=>Un.int fun _ _=>Un.bind (Un.lst C1C) fun _=>Un.pure (A5E rfl k _ _ rfl)
 rw [if_neg k]
 clear k
 by_cases k:c.Bb=4
 ·rw [if_pos k];exact Un.int fun _ _=>Un.int fun _ _=>Un.int fun _ _=>Un.int fun _ _=>Un.int fun _ _=>Un.int fun _ _=>Un.bind (Un.lst C5G) fun _=>Un.pure (A5E rfl k _ _ rfl)
 rw [if_neg k]
 clear k
 by_cases k:c.Bb=5
 ·rw [if_pos k];exact Un.int fun _ _=>Un.int fun _ _=>Un.int fun _ _=>Un.int fun _ _=>Un.int fun _ _=>Un.bind (Un.lst C5G) fun _=>Un.pure (A5E rfl k _ _ rfl)
 rw [if_neg k]
 clear k
 by_cases k:c.Bb=6
 ·rw [if_pos k];exact Un.int fun _ _=>Un.int fun _ _=>Un.int fun _ _=>Un.bind (Un.lst D0o) fun _=>Un.pure (A5E rfl k _ _ rfl)
 rw [if_neg k]
 clear k
 by_cases k:c.Bb=7
 ·rw [if_pos k];refine Un.int fun _ _=>Un.bind (Un.lst D0n) fun l=>Un.pure (A5E rfl k _ _ ?_);unfold lN;rw [B7O]
  rfl
 rw [if_neg k]
 clear k
 by_cases k:c.Bb=8
 ·rw [if_pos k];refine Un.within fun m hm=>Un.int fun _ _=>Un.int fun _ _=>Un.int fun _ _=>Un.bind (Un.lst C5F) fun _=>Un.pure (A5E rfl k _ _ ?_);have e:Q1 (m==1)=m:=by
   by_cases h:m=1
   ·subst h;rfl
   ·have h0:m=0:=by omega
    subst h0;rfl
  show _= [Q1 (m==1),_,_,_]++_;rw [e]
  rfl
 rw [if_neg k]
 clear k
 by_cases k:c.Bb=9
 ·rw [if_pos k];exact Un.bind (Un.lst C9j) fun _=>Un.pure (A5E rfl k _ _ rfl)
 rw [if_neg k]
 clear k
 by_cases k:c.Bb=10
 ·rw [if_pos k];exact Un.int fun _ _=>Un.int fun _ _=>Un.int fun _ _=>Un.bind (Un.lst D1n) fun _=>Un.pure (A5E rfl k _ _ rfl)
 rw [if_neg k]
 clear k
 by_cases k:c.Bb=11
 ·rw [if_pos k];exact Un.int fun _ _=>Un.int fun _ _=>Un.int fun _ _=>Un.int fun _ _=>Un.bind (Un.lst C9i) fun _=>Un.pure (A5E rfl k _ _ rfl)
 rw [if_neg k]
 clear k
 exact Un.fail
theorem D0i {c:E1} {ns:List Int} {s:B0} {r:List Int} (h:stR B1 c ns=some (s,r)):s.Ak=c:=by
 have e:=C5C B1 c (fun s=>s);have e2:(B8 (stR B1 c) fun s=>H8 { s with Ak:=c}) ns=some ({ s with Ak:=c},r):=A8R h
 have e3:(B8 (stR B1 c) fun s=>H8 s) ns=some (s,r):=A8R h;rw [e,e3] at e2;exact congrArg B0.Ak (Prod.mk.inj (D2N e2)).1
theorem D1m:Un (A0j B1) [] A1d:=
 Un.int fun _ _=>Un.bind D1j fun c=>fun ns b rest hw e=>by
  obtain ⟨s,l',e1,e2⟩:=N4 e;cases e2;obtain ⟨h1,h2⟩:=C9l c ns s _ hw e1;refine ⟨?_,h2⟩;have hc:s.Ak=c:=D0i e1;unfold A1d;rw [hc];rw [List.nil_append] at h1;simp [h1]
theorem D1k:Un (A1b B1) [] P9:=by
 refine Un.within fun v hv=>Un.int fun now _=>Un.int fun lim _=>Un.within fun n hn=>fun ns b rest hw e=> ?_;obtain ⟨rs,l',e1,e2⟩:=N4 e;cases e2;obtain ⟨h1,h2,h3⟩:=Un.many D1m _ ns rs _ hw e1;refine ⟨?_,h3⟩;have hv1:v=1:=by omega
 unfold P9;rw [h2,hv1,h1,Int.toNat_of_nonneg hn.1];simp
theorem A06.of_seal {ns:List Int} (h:K1 ns) (hl:ns.length<=100000) {e:B9} (hs:A06 (A12 ns) e):ns=P9 e:=by
 obtain ⟨_,n,hn,h1,h2⟩:=A4I h (by omega)
 obtain ⟨L,s,w1,w2,e1,e2,e3⟩:=hs;have hi:L++ [s]=ns++ [n]:=B9R (A2Z w1 w2) (A2Z h hn) (by rw [A2w,A2w,<-h2,<-e1])
 have hL:=(List.append_inj' hi rfl).1;subst hL;have:=(D1k L e [] w1 e3).1
 rwa [List.nil_append,List.append_nil] at this
theorem A9J.zero {l:List Int} {r:B9×Int} (d:A9J l r) (h:r.2=0):A06 l r.1/\A4a r.1:=by
 rcases d with ⟨e,h1,rfl⟩|⟨_,rfl⟩
 ·unfold B0Y at h⊢;split at h
  ·rename_i ok;rw [if_pos ok];exact ⟨h1,ok⟩
  ·exact absurd h (show (2:Int)≠0 by decide)
 ·exact absurd h (show (13:Int)≠0 by decide)
theorem A9J.other {l:List Int} {r:B9×Int} (d:A9J l r) (h:r.2≠0):(r.2=13\/r.2=2)/\r.1=zE:=by
 rcases d with ⟨e,h1,rfl⟩|⟨_,rfl⟩
 ·unfold B0Y at h⊢;split at h
  ·exact absurd rfl h
  ·rename_i no;rw [if_neg no];exact ⟨.inr rfl,rfl⟩
 ·exact ⟨.inl rfl,rfl⟩
theorem law28_SnapshotSealed_true (p0:List Int) (w0:wfL (E0 .i64) p0):A39 p0=some true:=by
 unfold A39;rw [B09]
 by_cases h:(p0.length:Int)>500
 ·rw [D19 h];rfl
 rw [D2b h,D17];have hw:K1 p0:=w0.2;obtain ⟨s1,_⟩:=A4I hw (by omega)
 have hy:=B10 hw (by omega)
 have hl:=B11 hw (by omega)
 obtain ⟨r,e1,e2,d,w⟩:=B1y hy (by omega)
 rw [s1,D14,e1,e2,D14,D14,B33 w,D14];simp only [D2g,D2H,Bool.or_self,D17]
 by_cases hz:r.2=0
 ·obtain ⟨hs,ok⟩:=d.zero hz;have hb:=hs.of_seal hw (by omega)
  obtain ⟨c1,_⟩:=C7i w ok (by rw [<-hb];omega)
  rw [hz,D2H,D17,c1,D14,(T6 _ w).1,Q3 ok,D14,<-hb,same_bytes hy hy,D19 rfl]
  rfl
 ·have hne:(r.2 !=0)=true:=by rw [bne_iff_ne];exact hz
  rw [hne,D18];rcases (d.other hz).1 with e|e<;>rw [e]<;>rfl
theorem C9V (e:B9):A9X e=A6m e:=rfl
theorem A9M (p0:B9) (p1 p2:Int) (w0:G7 p0) (w1:E0 .i64 p1) (w2:E0 .i64 p2):A3A p0 p1 p2=some true:=by
 unfold A3A;rw [C6j p0 w0,D14,B09];cases hf:decide ((p0.Ag.length:Int)<=70)&&decide (((szE p0.Ag:Nat):Int)<=400) with
 |false=>rfl
 |true=>
  have hb:=B8k hf;simp only [D2g,D2h,G8,D2v];rw [(T6 _ w0).2,D14]
  by_cases ok:A4a p0
  ·rw [Q3 ok,D2H,D17,C9V,B8v p0 w0 (B6s ok) (by omega),D14]
   have h4:4<=(P9 p0).length:=by unfold P9;simp
   obtain ⟨m,m1,m2,m3⟩:=C3u p1 (n:=((P9 p0).length:Int)) (by omega) (by omega)
   obtain ⟨i,rfl⟩:=Int.eq_ofNat_of_zero_le m2;have hi:i<(P9 p0).length:=by omega
   unfold A8P;rw [m1];simp only [D14,Q6 hi,D2K];have hw:K1 ((P9 p0).set i p2):=fun x hx=>by
    rcases List.mem_or_eq_of_mem_set hx with h|h
    ·exact A4B w0 x h
    ·exact h▸w2
   have hl:((P9 p0).set i p2).length<=100000:=by rw [D24];omega
   obtain ⟨s1,_⟩:=A4I hw (by omega)
   obtain ⟨r,e1,e2,d,w⟩:=B1y (B10 hw hl) (by have:=B11 hw hl;omega)
   rw [s1,D14,e1,e2,D14,D14,B33 w,D14,beq_self_eq_true,Bool.and_self];simp only [D2F]
   by_cases hz:r.2=0
   ·have ok2:=(d.zero hz).2;rw [hz,(T6 _ w).2,Q3 ok2]
    rfl
   ·have hne:(r.2 !=0)=true:=by rw [bne_iff_ne];exact hz
    rw [hne]
    rfl
  ·rw [I7 ok]
   rfl
end Go.Win
