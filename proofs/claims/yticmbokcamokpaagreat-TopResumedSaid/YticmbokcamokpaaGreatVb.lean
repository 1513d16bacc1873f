/- The framework, part b: operations are sound; calls. -/
import Derived.Laws.CopyRow
import Derived.Laws.IdiomCopy
import Derived.Test.YticmbokcamokpaaGreatVa
set_option linter.unusedVariables false
set_option linter.unusedSimpArgs false
namespace Go.Vc
open Go.RowKit
theorem W4.refl (m:G7):W4 m m:=⟨fun _ _ _ xs' h _=>⟨xs',h,rfl,rfl⟩,fun _ cs' h _=>⟨⟨cs',h⟩,rfl⟩,fun _ h=>h,fun _ h=>h,fun _ _ _=>rfl,fun _ _ _ _ h=>h⟩
theorem W4.trans {a b c:G7} (h:W4 a b) (k:W4 b c):W4 a c where
 tok:=fun t e sz xs' hs hA=>by
  obtain ⟨x1,g1,g2,g3⟩:=k.tok t e sz xs' hs (h.A _ hA);obtain ⟨x2,q1,q2,q3⟩:=h.tok t e sz x1 g1 hA
  grind
 box:=fun id cs' hs hA=>by
  obtain ⟨⟨c1,g1⟩,g2⟩:=k.box id cs' hs (h.A _ hA);obtain ⟨c2,q2⟩:=h.box id c1 g1 hA
  grind
 A:=fun i hi=>k.A _ (h.A _ hi)
 ok:=fun b hb=>k.ok _ (h.ok _ hb)
 cell:=fun b off hb=>(k.cell b off (h.ok _ hb)).trans (h.cell b off hb)
 map:=fun b _ _ hb g=>k.map b _ _ (h.ok _ hb) (h.map b _ _ hb g)
theorem B3I {m m' :G7} (h:W4 m m') {x:AV} {v:Value} (hp:PR m.w m.ok x v):PR m'.w m'.ok x v:=hp.ext h.ok h.cell
theorem D1q {w:World} {ok:Nat->Prop} {sz:Nat} {xs:List (List AV)} {b o cap:Nat} {f:Bool} (hcap:xs.length<=cap) (hmax:cap<=maxLen) (hf:f=true->cap=xs.length) (hsz:∀c∈xs,c.length=sz) (hok:ok b)
  (h:∀(i j:Nat) (c:List AV) (x:AV),xs[i]? =some c->c[j]? =some x-> ∃u,w.cell? ⟨b,o+(i*sz+j),none⟩=some u/\PR w ok x u):
  PR w ok (.lst sz f xs) (.slice (some ⟨b,o,none⟩) xs.length cap):=by
 refine .lst sz f xs (some ⟨b,o,none⟩) cap (fun i j=>(w.cell? ⟨b,o+(i*sz+j),none⟩).getD undef) hcap hmax hf hsz (by simp) (fun i j c x hi hj ad ha=> ?_) (fun i j c x hi hj=> ?_)
 ·grind
 grind
theorem M4.freeze {F:Fr} {a:Act} {m:G7} (h:M4 F a m) (t:Nat): ∃m',M4 F a m' /\m'.s=m.s.put (.tok t) .none/\m'.w=m.w/\m'.A=m.A/\W4 m m' /\
  ∀e sz xs v,m.s (.tok t)= .tok e sz xs->J8 m (.own t) v->PR m'.w m'.ok (.lst sz false xs) v:=by
 by_cases hl: ∃e sz xs b o cap,m.s (.tok t)= .tok e sz xs/\m.τ t=some (b,o,cap)
 ·obtain ⟨e,sz,xs,b,o,cap,hs,hτ⟩:=hl;have hlt:b<m.w.heap.size:=A0V h.mr hs hτ;obtain ⟨_,_,t2,_,t4⟩:=h.mr.tok t e sz xs hs;obtain ⟨_,c1,c2,cur,c3,c4,c5⟩:=t4 b o cap hτ;refine ⟨(m.dropTok t).openB b,(h.dropTok t).openB b (B1w h.mr hs hτ) hlt (h.newT t e sz xs _ hs hτ),rfl,rfl,rfl,(A78 m t).trans (B74 _ b),fun e' sz' xs' v hs' hv=> ?_⟩;rw [hs] at hs';cases hs';obtain ⟨_,_,hv2⟩:=hv;have hve:=(hv2 e sz xs hs).2 b o cap hτ;rw [hve];refine D1q c1 c2 (by simp) t2 (Or.inr rfl) (fun i j c x hi hj=> ?_)
  obtain ⟨u,q1,q2⟩:=c5 i j c x hi hj;exact ⟨u,by show m.w.cell? _=_;rw [cell_of_row m.w b _ cur e _ c3];exact q1,B3I ((A78 m t).trans (B74 _ b)) q2⟩
 ·refine ⟨m.dropTok t,h.dropTok t,rfl,rfl,rfl,A78 m t,fun e sz xs v hs hv=> ?_⟩;have hτ:m.τ t=none:=by
   cases hτ:m.τ t with
   |none=>rfl
   |some p=>grind
  obtain ⟨_,_,hv2⟩:=hv;have hve:=(hv2 e sz xs hs).1 hτ;obtain ⟨_,_,_,t3,_⟩:=h.mr.tok t e sz xs hs;have:=t3 hτ;subst this;rw [hve];exact .lst sz false [] none 0 (fun _ _=>undef) (D8S _) (by omega) (by simp) (by simp) (fun _=>rfl) (by simp) (by simp)
theorem M4.kills {F:Fr} {a:Act}: ∀(ks:List Nat) {m:G7},M4 F a m-> ∃m',M4 F a m' /\m'.s=m.s.apply (kills ks)/\m'.w=m.w/\m'.A=m.A/\W4 m m' /\
  ∀t∈ks,∀e sz xs v,m.s (.tok t)= .tok e sz xs->J8 m (.own t) v->PR m'.w m'.ok (.lst sz false xs) v
 | [],m,h=>⟨m,h,rfl,rfl,rfl,W4.refl m,by simp⟩
 |t::ts,m,h=>by
  obtain ⟨m1,h1,h2,h3,h4,h5,h6⟩:=M4.kills ts h;obtain ⟨m2,k1,k2,k3,k4,k5,k6⟩:=h1.freeze t;refine ⟨m2,k1,by rw [k2,h2];rfl,k3.trans h3,k4.trans h4,h5.trans k5,fun t' ht' e sz xs v hs hv=> ?_⟩
  by_cases hmem:t' ∈ts
  ·exact B3I k5 (h6 t' hmem e sz xs v hs hv)
  ·have htt:t' =t:=by grind
   subst htt;have hsame:m1.s (.tok t')=m.s (.tok t'):=by
    rw [h2]
    clear h2 h6 h1 k1 k2 k6 hs ht'
    induction ts with
    |nil=>rfl
    |cons q qs ih=>
     have hq:t' ≠q:=by grind
     show (AS.put _ (.tok q) .none) (.tok t')=_;rw [A0D _ _ _ _ hq]
     grind
   exact k6 e sz xs v (hsame.trans hs) (J8.ext h5 hv)
theorem C1F {m m' :G7} (he:W4 m m') {ks:List Nat} (hk:∀t∈ks,∀e sz xs v,m.s (.tok t)= .tok e sz xs->J8 m (.own t) v->PR m'.w m'.ok (.lst sz false xs) v)
  {c d:AV} {k:List Nat} {u:Value} (h:A4R m.s c=some (d,k)) (hsub:∀t∈k,t∈ks) (hv:J8 m c u):PR m'.w m'.ok d u:=by
 unfold A4R at h;split at h
 ·cases h;have h' :u=_:=hv;subst h';exact .int _ _
 ·cases h;have h' :u=_:=hv;subst h';exact .sb _
 ·cases h;have h' :u=_:=hv;subst h';exact .sb _
 ·cases h;exact B3I he hv
 ·grind
 ·cases h;have h' :u=_:=hv;subst h';exact .nilp
 ·cases h;have h' :u=_:=hv;subst h';exact .nilS
 ·cases h
theorem A8u {m m' :G7} (he:W4 m m') {ks:List Nat} (hk:∀t∈ks,∀e sz xs v,m.s (.tok t)= .tok e sz xs->J8 m (.own t) v->PR m'.w m'.ok (.lst sz false xs) v):
  ∀(cs ds:List AV) (k:List Nat) (us:List Value),Q5 m.s cs=some (ds,k)->(∀t∈k,t∈ks)->us.length=cs.length->(∀(j:Nat) (c:AV),cs[j]? =some c-> ∃u,us[j]? =some u/\J8 m c u)->
   ds.length=cs.length/\ ∀(j:Nat) (x:AV),ds[j]? =some x-> ∃u,us[j]? =some u/\PR m'.w m'.ok x u
 | [],ds,k,us,h,_,_,_=>by
  simp only [Q5,D82,Prod.mk.injEq] at h
  grind
 |c::cs,ds,k,us,h,hsub,hl,hv=>by
  simp only [Q5] at h;split at h
  ·rename_i d k1 hp;split at h
   ·rename_i ds' k2 hq;cases h
    match us,hl with
    |u::us,hl=>
     obtain ⟨u',e1,e2⟩:=hv 0 c rfl;cases e1;obtain ⟨g1,g2⟩:=A8u he hk cs ds' k2 us hq (fun t ht=>hsub t (by simp [ht])) (by grind) (fun j c hj=>by simpa using hv (j+1) c (by grind))
     refine ⟨by simp [g1],fun j x hj=> ?_⟩
     cases j with
     |zero=>cases hj;exact ⟨u,rfl,C1F he hk hp (fun t ht=>hsub t (by simp [ht])) e2⟩
     |succ j=>grind
   ·cases h
  ·cases h
theorem D5b {w:World} {ok:Nat->Prop} {c:AV} {u:Value} (h:ZR c u) (hs:c≠ .junk):PR w ok c u:=by
 unfold ZR at h;split at h
 ·subst h;exact .int _ _
 ·subst h;exact .bool _
 ·subst h;exact .nilS
 ·subst h;exact .nilp
 ·grind
 grind
theorem C1Y: ∀(cs:List AV),A2L cs=true-> ∀c∈cs,c≠ .junk
 | [],_,c,hc=>by simp at hc
 |d::cs,h,c,hc=>by
  rcases List.mem_cons.1 hc with rfl|hc
  ·rintro rfl;simp [A2L] at h
  ·refine C1Y cs ?_ c hc;cases d<;>simp_all [A2L]
theorem C0U {P:Program} {e:TypeId} {ei:TI} (he:Q9 P e ei) (hsol:A2L ei.zero=true) {z:Value} (hz:∃i,P.info? e=some i/\i.zero=some z) (w:World) (ok:Nat->Prop) (n:Nat):
  FR (PR w ok) ei.size (List.replicate n ei.zero) (madeCells z.cells (n*ei.size)).toList:=by
 obtain ⟨i,i1,i4⟩:=hz;obtain ⟨i',j1,_,_,z',j4,z1,z2,z3⟩:=he.info;rw [i1] at j1;cases j1;rw [i4] at j4;cases j4;refine ⟨by simp [size_madeCells],fun c hc=>by grind,fun k j c x hk hj=> ?_⟩
 have hkl:k<n:=by grind
 rw [List.getElem?_replicate,if_pos hkl] at hk;cases hk;have hjl:j<ei.size:=by grind
 obtain ⟨u,q1,_,q3⟩:=z3 j x hj;have hb:k*ei.size+j<n*ei.size:=by
  have:(k+1)*ei.size<=n*ei.size:=D8y _ hkl
  grind
 refine ⟨u, ?_,D5b q3 (C1Y _ hsol x (D8p hj))⟩;have hjz:j<z.cells.size:=by omega
 have hm:(k*ei.size+j)%z.cells.size=j:=by rw [z1,Nat.add_comm,Nat.add_mul_mod_self_right,Nat.mod_eq_of_lt hjl]
 have hzj:z.cells[j]! =u:=by
  grind
 simp only [madeCells,Array.toList_map,Array.toList_range,D8J,List.getElem?_range hb,Option.map_some,hm,hzj]
theorem A5i (s:AS): ∀(cs ds:List AV) (k:List Nat),Q5 s cs=some (ds,k)->A2L cs=true
 | [],_,_,_=>rfl
 |c::cs,ds,k,h=>by
  simp only [Q5] at h;split at h
  ·rename_i d k1 hp1;split at h
   ·rename_i ds' k2 hp2;have:=A5i s cs _ _ hp2;cases c<;>simp_all [A2L,A4R]
   ·cases h
  ·cases h
theorem B4Z {P:Program} (w:World) (t e:TypeId) (len:Nat) (parts:Array (Nat×Value)) (cells:Array Value) (ie:TypeInfo) (z:Value)
  (hu:P.underlying t=some (.slice e)) (hie:P.info? e=some ie) (hz:ie.zero=some z) (hsmall:¬len*ie.size>2^24)
  (h:Instr.fill (fun i=>some (i*ie.size,ie.size)) (madeCells z.cells (len*ie.size)) parts.toList=some cells):
  (Instr.buildSlice t len parts).run P w= .ok (.slice (some ⟨w.heap.size,0,none⟩) len len) (w.alloc (.cells cells e)):=by
 have hsmall' : ¬(len*ie.size>16777216):=by omega
 by_cases h0:len*ie.size=0
 ·have hm:madeCells z.cells (len*ie.size)= #[]:=by rw [h0];simp [madeCells]
  have hm2:(Array.range 0).map (fun _=>(default:Value))= #[]:=by simp
  rw [hm] at h;simp only [Instr.buildSlice,Sem.run_bind,run_underlying hu,Result.andThen_ok,sizeOf,typeInfo,run_program,hie,Sem.run_pure,h0,if_true];simp [hm2,h,newRow]
 ·unfold madeCells at h;simp [Instr.buildSlice,run_underlying hu,sizeOf,typeInfo,zeroValue,hie,hz,hsmall',h0];simp [h,newRow]
theorem C5p {F:Fr} {a:Act} {m m' :G7} (hx:M4 F a m) (he:W4 m m') {KS:List Nat} (hk:∀t∈KS,∀e sz xs v,m.s (.tok t)= .tok e sz xs->J8 m (.own t) v->PR m'.w m'.ok (.lst sz false xs) v) (sz:Nat):
  ∀(parts:List (Nat×Operand)) (xs:List (List AV)) (ks:List Nat) (cells:Array Value) (xs' :List (List AV)) (ks' :List Nat),FR (PR m'.w m'.ok) sz xs cells.toList->
   A3D sz xs ks m.s parts=some (xs',ks')->(∀t∈ks',t∈KS)->
   ∃cells',Instr.fill (fun i=>some (i*sz,sz)) cells (parts.map fun p=>(p.1,a.eval p.2))=some cells' /\FR (PR m'.w m'.ok) sz xs' cells'.toList/\xs'.length=xs.length/\(∀t∈ks,t∈ks')
 | [],xs,ks,cells,xs',ks',hfr,h,_=>by
  simp only [A3D,D82,Prod.mk.injEq] at h;obtain ⟨rfl,rfl⟩:=h;exact ⟨cells,rfl,hfr,rfl,fun _ h=>h⟩
 |(i,x)::r,xs,ks,cells,xs',ks',hfr,h,hsub=>by
  simp only [A3D] at h;split at h
  ·rename_i cs k hp;split at h
   ·rename_i hb;split at h
    ·rename_i hi;have hcl:=D8j hb;have hil:i<xs.length:=by simp_all
     have hsolid:(a.eval x).cells.size=(m.s.val x).cells.length/\ ∀(j:Nat) (c:AV),(m.s.val x).cells[j]? =some c-> ∃u,(a.eval x).cells[j]? =some u/\u.oneCell' =true/\J8 m c u:=by
      exact B34 (hx.val x) (A5i _ _ _ _ hp)
     obtain ⟨g1,g2⟩:=hsolid;have hih: ∀A4D,FR (PR m'.w m'.ok) sz (xs.set i cs) (Array.toList A4D)-> ∃cells',Instr.fill (fun i=>some (i*sz,sz)) A4D (r.map fun p=>(p.1,a.eval p.2))=some cells' /\FR (PR m'.w m'.ok) sz xs' cells'.toList/\xs'.length=(xs.set i cs).length/\(∀t∈ks++k,t∈ks'):=
      fun A4D h2=>C5p hx he hk sz r (xs.set i cs) (ks++k) A4D xs' ks' h2 h hsub
     have hkk: ∀t∈k,t∈KS:=by
      have: ∀t∈ks++k,t∈ks' :=by
       have key: ∀(r:List (Nat×Operand)) (xs:List (List AV)) (ks:List Nat),A3D sz xs ks m.s r=some (xs',ks')-> ∀t∈ks,t∈ks' :=by
        intro r
        induction r with
        |nil=>intro xs ks h t ht;simp only [A3D,D82,Prod.mk.injEq] at h;grind
        |cons p r ih=>
         intro xs ks h t ht;obtain ⟨i,x⟩:=p;simp only [A3D] at h;split at h
         ·split at h
          ·split at h
           ·exact ih _ _ h t (by simp [ht])
           ·cases h
          ·cases h
         ·cases h
       grind
      grind
     obtain ⟨p1,p2⟩:=A8u he hk _ cs k (a.eval x).cells.toList hp hkk (by omega) (fun j c hj=>let ⟨u,q1,_,q3⟩:=g2 j c hj;⟨u,by grind,q3⟩)
     have hul:(a.eval x).cells.toList.length=sz:=by simp;omega
     have hfit:i*sz+sz<=cells.size:=by
      have h1:=hfr.len;have h2:(i+1)*sz<=xs.length*sz:=D8y _ hil
      grind
     obtain ⟨cells',q1,q2,q3,q4⟩:=hih (cells.toList.take (i*sz)++(a.eval x).cells.toList++cells.toList.drop (i*sz+(a.eval x).cells.toList.length)).toArray
      (hfr.set i hil cs _ hcl hul p2)
     refine ⟨cells', ?_,q2,by grind,fun t ht=>q4 t (by simp [ht])⟩
     have hsz2:(a.eval x).cells.size=sz:=by omega
     rw [D83,C3E _ cells i (i*sz) (a.eval x) _ (by rw [hsz2]) (by omega)]
     exact q1
    ·cases h
   ·cases h
  ·cases h
theorem C4l {F:Fr} {A:Nat->Prop} {id:Nat} {o:Oper} {s:AS} (hd:∀k,o.dst=some k->k<F.N) (t e n:Nat) (parts:Array (Nat×Operand)) (ho:o.op= .buildSlice t n parts)
  (ht:F.P.underlying t=some (.slice e)) (ei:TI) (he:Q9 F.P e ei) (xs:List (List AV)) (ks:List Nat) (hf:A3D ei.size (List.replicate n ei.zero) [] s parts.toList=some (xs,ks))
  (hn:n*ei.size<=16777216) (hp:0<ei.size) (hsol:A2L ei.zero=true):OpOk F A id o s (dst o.dst (.own id)++((.tok id, .tok e ei.size xs)::kills ks)):=
 B3S hd _ fun a m hx hs hA hid=>by
  subst hs hA;obtain ⟨i,i1,i2,i3,z,i4,z1,z2,z3⟩:=he.info;obtain ⟨m1,h1,h2,h3,h4,h5,h6⟩:=hx.kills ks;have hzr:=C0U he hsol ⟨i,i1,i4⟩ m1.w m1.ok n;obtain ⟨cells',q1,q2,q3,_⟩:=C5p hx h5 h6 ei.size parts.toList _ [] _ xs ks hzr hf (fun t ht=>ht);have hlen:xs.length=n:=by grind
  have hrun:=B4Z (P:=F.P) m.w t e n (parts.map fun (i,x)=>(i,a.eval x)) cells' i z ht i1 i4 (by grind) (by
    simp_all)
  have hcl:=q2.len;simp only [Array.length_toList] at hcl;have hclaim:=h1.claim id m1.w.heap.size 0 n e ei.size xs (m1.w.alloc (.cells cells' e)) cells' (by grind) (At.alloc _ _ _) (B2L h1.mr) (h1.keep.alloc _ _) (.inl h1.keep.size) hp q2.esz (by omega)
   (by unfold maxLen;have:n<=n*ei.size:=Nat.le_mul_of_pos_right _ hp;omega) (heap_alloc_new _ _) (by grind) (A5H q2 cells' 0 (fun j u hj=>by grind))
  refine ⟨_,_, ?_,hclaim,by (show m1.s.put _ _=_;rw [h2];rfl),by rw [<-h4];rfl,A9J⟩
  simp only [execOp,ho,Sem.run_bind,hrun,Result.andThen_ok];rw [h3,hlen]
  rfl
theorem C2G {F:Fr} {A:Nat->Prop} {id:Nat} {o:Oper} {s:AS} (hd:∀k,o.dst=some k->k<F.N) (t e n:Nat) (parts:Array (Nat×Operand)) (ho:o.op= .buildSlice t n parts)
  (ht:F.P.underlying t=some (.slice e)) (ei:TI) (he:Q9 F.P e ei) (z:AV) (hz:ei.zero= [z]) (cs:List AV) (hf:A0A (C4Q n) (List.replicate n z) s parts.toList=some cs)
  (h1:ei.size=1) (hn:n<=16777216) (hsol:A2L ei.zero=true):OpOk F A id o s (dst o.dst (.bsl id n)++ [(.box id, .box cs)]):=
 A5h fun a m hx hs hA hid=>by
  subst hs hA;obtain ⟨i,i1,i2,i3,zv,i4,z1,z2,z3⟩:=he.info;have hi1:i.size=1:=by omega
  have hzr:=C0U he hsol ⟨i,i1,i4⟩ m.w m.ok n;have hzl:=hzr.len;have hcell: ∀(j:Nat) (c:AV),(List.replicate n z)[j]? =some c-> ∃u,(madeCells zv.cells (n*i.size))[j]? =some u/\u.oneCell' =true/\J8 m c u:=fun j c hj=>by
   have hjn:j<n:=by grind
   have hc:c=z:=by grind
   subst hc;obtain ⟨u,g1,g2⟩:=hzr.at_ j 0 [c] c (by rw [List.getElem?_replicate,if_pos hjn,hz]) rfl
   refine ⟨u, ?_,g2.oneCell,g2.vr0⟩
   grind
  obtain ⟨cells',q1,q2,q3⟩:=B5f hx (ti:=C4Q n) (place:=fun k=>some (k*i.size,i.size)) (fun k off size hk=>by
    simp only [A5K,C4Q,D8J] at hk
    grind) parts.toList _ (madeCells zv.cells (n*i.size)) cs (by
    grind) hcell hf
  have hrun:=B4Z (P:=F.P) m.w t e n (parts.map fun (i,x)=>(i,a.eval x)) cells' i zv ht i1 i4 (by grind) (by simp_all)
  refine ⟨.slice (some ⟨m.w.heap.size,0,none⟩) n n,m.w.alloc (.cells cells' e), ?_, ?_⟩
  ·simp only [execOp,ho,Sem.run_bind,hrun,Result.andThen_ok]
   rfl
  have h4:=hx.newBox id cs cells' e hid q2 q3;have hv:VR (m.newBox id cs cells' e) (.bsl id n) (.slice (some ⟨m.w.heap.size,0,none⟩) n n):=
   ⟨Or.inr rfl,rfl,fun _=>by
    show _=Value.slice (some ⟨(L4 m.β id (m.w.heap.size,0) id).1,(L4 m.β id (m.w.heap.size,0) id).2,none⟩) n n;rw [H3]⟩
  have h5:=h4.dst o.dst _ _ hd hv;cases hod:o.dst with
  |none=>rw [hod] at h5;exact ⟨_,_,_,h5⟩
  |some d=>rw [hod] at h5;exact ⟨_,_,_,h5⟩
theorem B9Z {F:Fr} {A:Nat->Prop} {id:Nat} {o:Oper} {s:AS} (hd:∀k,o.dst=some k->k<F.N) (f:FuncId) (first captured:Array Operand) (ho:o.op= .makeFunc (.func f) first captured)
  (hc:(first.toList.map s.val++captured.toList.map s.val).all A5d=true) (v:AV) (hv:(v= .fn f/\first.toList= []/\captured.toList= [])\/v= .clo f (first.toList.map s.val) (captured.toList.map s.val)):
  OpOk F A id o s (dst o.dst v):=
 L2 hd fun a m hx hs=>by
  subst hs;have hone: ∀x,A5d (m.s.val x)=true->(a.eval x).oneCell' =true/\VRs m (m.s.val x) (a.eval x):=fun x hk=>by
   have h1:=hx.val x;have h0:J8 m (m.s.val x) (a.eval x):=by
    generalize m.s.val x=y at hk h1
    cases y<;>first|exact h1|(simp [A5d] at hk)
   refine ⟨C8x h0 (by intro he;rw [he] at hk;simp [A5d] at hk), ?_⟩
   generalize m.s.val x=y at hk h0
   cases y<;>first|exact h0|(simp [A5d] at hk)
  have hl: ∀l:Array Operand,(∀x∈l.toList,A5d (m.s.val x)=true)->VRl m (l.toList.map m.s.val) (l.map a.eval):=fun l hl=>by
   refine ⟨by simp,fun j c hj=> ?_⟩
   grind
  rw [List.all_append,D8i] at hc;have hf1: ∀x∈first.toList,A5d (m.s.val x)=true:=fun x hx' =>D8M.1 hc.1 _ (List.mem_map.2 ⟨x,hx',rfl⟩)
  have hf2: ∀x∈captured.toList,A5d (m.s.val x)=true:=fun x hx' =>D8M.1 hc.2 _ (List.mem_map.2 ⟨x,hx',rfl⟩);refine ⟨.func (.func f) (first.map a.eval) (captured.map a.eval), ?_, ?_⟩
  ·simp only [execOp,ho,Instr.makeFunc,Sem.run_bind,Sem.run_pure,Result.andThen_ok]
  ·rcases hv with ⟨rfl,h1,h2⟩|rfl
   ·have e1:first= #[]:=Array.toList_inj.1 h1
    have e2:captured= #[]:=Array.toList_inj.1 h2;subst e1 e2;show J8 m (.fn f) _;simp [J8,VRs]
   ·exact ⟨_,_,rfl,hl first hf1,hl captured hf2⟩
end Go.Vc
namespace Go.Vc
open Go.RowKit
theorem C5S {F:Fr} {A:Nat->Prop} {id:Nat} {o:Oper} {s:AS} (hd:∀k,o.dst=some k->k<F.N) (t e:Nat) (l c:Operand) (ho:o.op= .makeSlice t l c)
  (ht:F.P.underlying t=some (.slice e)) (ei:TI) (he:Q9 F.P e ei) (k k':IntKind) (n q:Int) (hl:s.val l= .int k n) (hc:s.val c= .int k' q) (zs:List AV)
  (hz:Q5 (fun _=> .none) ei.zero=some (zs, [])) (hzl:zs.length=ei.size) (h0:0<=n) (hnq:n<=q) (hb:q*ei.bytes<=140737488355328) (hq:q<=140737488355328) (hp:0<ei.size):
  OpOk F A id o s (dst o.dst (.own id)++ [(.tok id, .tok e ei.size (List.replicate n.toNat zs))]):=
 B3S hd _ fun a m hx hs hA hid=>by
  subst hs hA;obtain ⟨i,i1,i2,i3,z,i4,z1,z2,z3⟩:=he.info;have hsol:=A5i _ _ _ _ hz;have hlv:a.eval l= .int k n:=by have:=hx.val l;rw [hl] at this;exact this
  have hcv:a.eval c= .int k' q:=by have:=hx.val c;rw [hc] at this;exact this
  have hrun:=run_make (P:=F.P) m.w t e i z ht i1 i4 k k' n q h0 hnq (by grind) (by omega)
  have hfr:=C0U he hsol ⟨i,i1,i4⟩ m.w m.ok q.toNat;have hpz:=A8u (m:= { m with s:=fun _=> .none}) (W4.refl _) (ks:= []) (by simp) ei.zero zs [] (z.cells.toList) hz (by simp) (by grind) (fun j c hj=>let ⟨u,g1,_,g3⟩:=z3 j c hj;⟨u,by grind,g3.vr⟩)
  have hnn:n.toNat<=q.toNat:=Int.toNat_le_toNat hnq;have hmul:n.toNat*ei.size<=q.toNat*ei.size:=D8y _ hnn;have hfr2:FR (PR m.w m.ok) ei.size (List.replicate n.toNat zs) ((madeCells z.cells (q.toNat*ei.size)).toList.take (n.toNat*ei.size)):=by
   refine ⟨by rw [D8C,Array.length_toList,size_madeCells,Nat.min_eq_left hmul,D9b],fun c hc=>by grind,fun i j c x hi hj=> ?_⟩
   have hil:i<n.toNat:=by grind
   rw [List.getElem?_replicate,if_pos hil] at hi;cases hi;have hjl:j<ei.size:=by grind
   obtain ⟨u,q1,q2⟩:=hpz.2 j x hj;have hb1:i*ei.size+j<n.toNat*ei.size:=by
    have:(i+1)*ei.size<=n.toNat*ei.size:=D8y _ hil
    grind
   refine ⟨u, ?_,q2⟩;have hjz:j<z.cells.size:=by omega
   have hm:(i*ei.size+j)%z.cells.size=j:=by rw [z1,Nat.add_comm,Nat.add_mul_mod_self_right,Nat.mod_eq_of_lt hjl]
   have hzj:z.cells[j]! =u:=by
    grind
   rw [D8x,if_pos hb1];simp only [madeCells,Array.toList_map,Array.toList_range,D8J,List.getElem?_range (show i*ei.size+j<q.toNat*ei.size by omega),Option.map_some,hm,hzj]
  have hclaim:=hx.claim id m.w.heap.size 0 q.toNat e ei.size (List.replicate n.toNat zs) (m.w.alloc (.cells (madeCells z.cells (q.toNat*i.size)) e)) (madeCells z.cells (q.toNat*i.size)) hid (At.alloc _ _ _) (B2L hx.mr)
   (hx.keep.alloc _ _) (.inl hx.keep.size) hp hfr2.esz (by grind) (by unfold maxLen;omega) (heap_alloc_new _ _) (by rw [size_madeCells,i2];omega)
   (A5H hfr2 _ 0 (fun j u hj=>by
    grind))
  refine ⟨.slice (some ⟨m.w.heap.size,0,none⟩) n.toNat q.toNat,_, ?_,hclaim,rfl,rfl, ?_⟩
  ·show _=Result.ok _ (m.w.alloc (.cells (madeCells z.cells (q.toNat*i.size)) e));simp only [execOp,ho,hlv,hcv,Sem.run_bind,hrun,Result.andThen_ok]
   rfl
  ·have:=A9J (m:=m) (id:=id) (e:=e) (sz:=ei.size) (xs:=List.replicate n.toNat zs) (w' :=m.w.alloc (.cells (madeCells z.cells (q.toNat*i.size)) e)) (b:=m.w.heap.size) (o:=0) (cap:=q.toNat)
   grind
theorem D53 {F:Fr} {A:Nat->Prop} {id:Nat} {o:Oper} {s:AS} (hd:∀k,o.dst=some k->k<F.N) (x:Operand) (ts:Array TypeId)
  (ho:o.op= .call { callee:= .builtin .len,args:= #[x],argTypes:=ts}) (t e:TypeId) (hts:ts[0]? =some t) (ht:F.P.underlying t=some (.slice e)) (xs:List (List AV)) (hx:B6q s (s.val x)=some xs):
  OpOk F A id o s (dst o.dst (.int .i64 xs.length)):=
 L2 hd fun a m h hs=>by
  subst hs;have hv:=h.val x;have key: ∃ad cap,a.eval x= .slice ad xs.length cap:=by
   generalize m.s.val x=y at hx hv
   generalize a.eval x=v at hv⊢
   cases y<;>simp only [B6q] at hx<;>try cases hx
   case lst sz f=>
    have hv' :PR m.w m.ok (.lst sz f xs) v:=hv;cases hv';simp
   case nilS=>exact ⟨_,_,hv⟩
   case own k=>
    split at hx
    ·rename_i e' sz xs' hs;cases hx;rcases A6L h.mr hv hs with ⟨_,h1,rfl⟩|⟨b,o,cap,_,_,h1,_⟩
     ·grind
     grind
    ·cases hx
  obtain ⟨ad,cap,hk⟩:=key;refine ⟨.int .i64 xs.length, ?_,rfl⟩;simp only [execOp,ho,resolve,invoke,builtin,Sem.run_bind,Sem.run_pure,Result.andThen_ok,List.map_toArray,D83,List.map_nil,Builtin.len_,hts,hk];simp [run_underlying ht,goInt]
theorem C3T {F:Fr} {A:Nat->Prop} {id:Nat} {o:Oper} {s:AS} (hd:∀k,o.dst=some k->k<F.N) (b:Builtin) (hb:b= .min\/b= .max) (x y:Operand) (ts:Array TypeId)
  (ho:o.op= .call { callee:= .builtin b,args:= #[x,y],argTypes:=ts}) (k:IntKind) (p q:Int) (hx:s.val x= .int k p) (hy:s.val y= .int k q):
  OpOk F A id o s (dst o.dst (.int k (match b with| .min=>(if q<p then q else p)|_=>(if q>p then q else p)))):=
 L2 hd fun a m h hs=>by
  subst hs;have h1:a.eval x= .int k p:=by have:=h.val x;rw [hx] at this;exact this
  have h2:a.eval y= .int k q:=by have:=h.val y;rw [hy] at this;exact this
  rcases hb with rfl|rfl
  ·refine ⟨_, ?_,rfl⟩;simp only [execOp,ho,resolve,invoke,builtin,Sem.run_bind,Sem.run_pure,Result.andThen_ok,List.map_toArray,D83,List.map_nil,h1,h2,Builtin.min_]
   rfl
  ·refine ⟨_, ?_,rfl⟩;simp only [execOp,ho,resolve,invoke,builtin,Sem.run_bind,Sem.run_pure,Result.andThen_ok,List.map_toArray,D83,List.map_nil,h1,h2,Builtin.max_]
   rfl
theorem B5p {P:Program} (w:World) (t e:TypeId) (ht:P.underlying t=some (.slice e)) (ei:TI) (he:Q9 P e ei) (ad:Addr) (n cap:Nat) (k:IntKind) (i:Int) (h0:0<=i) (h1:i<n):
  (Instr.indexAt t (.slice (some ad) n cap) (.int k i)).run P w= .ok (.pointer (some (ad.add (i.toNat*ei.size)))) w:=by
 have hs:=he.size w;simp [Instr.indexAt,asIntOf,run_underlying ht,h0,h1,hs]
theorem C7k {F:Fr} {A:Nat->Prop} {id:Nat} {o:Oper} {s:AS} (hd:∀k,o.dst=some k->k<F.N) (t e:TypeId) (x i:Operand) (ho:o.op= .indexAddr t x i) (ht:F.P.underlying t=some (.slice e))
  (ei:TI) (he:Q9 F.P e ei) (f:Bool) (xs:List (List AV)) (hx:s.val x= .lst ei.size f xs) (k:IntKind) (n:Int) (hi:s.val i= .int k n) (c:List AV) (h0:0<=n) (hc:xs[n.toNat]? =some c) (hp:0<ei.size):
  OpOk F A id o s (dst o.dst (.rp c)):=
 L2 hd fun a m h hs=>by
  subst hs;have h1:PR m.w m.ok (.lst ei.size f xs) (a.eval x):=by have:=h.val x;rw [hx] at this;exact this
  have h2:a.eval i= .int k n:=by have:=h.val i;rw [hi] at this;exact this
  have hlt:n.toNat<xs.length:=(D8k.1 hc).1
  generalize hv:a.eval x=v at h1
  cases h1 with
  |lst sz full xs ad cap u hcap hmax hfull hsz hnone hcell hrec=>
   cases ad with
   |none=>grind
   |some ad=>
    refine ⟨.pointer (some (ad.add (n.toNat*ei.size))), ?_, ?_⟩
    ·simp only [execOp,ho,hv,h2,Sem.run_bind,B5p m.w t e ht ei he ad xs.length cap k n h0 (by omega),Result.andThen_ok]
     rfl
    ·have hcl:0<c.length:=by grind
     ·obtain ⟨p1,p2,_⟩:=hcell n.toNat 0 c c[0] hc (by simp [hcl]) ad rfl
      rw [B6h p1];refine ⟨_,rfl,rfl,fun j x hj=> ?_⟩
      grind
theorem C7l {F:Fr} {A:Nat->Prop} {id:Nat} {o:Oper} {s:AS} (hd:∀k,o.dst=some k->k<F.N) (t e:TypeId) (x i:Operand) (ho:o.op= .indexAddr t x i) (ht:F.P.underlying t=some (.slice e))
  (ei:TI) (he:Q9 F.P e ei) (q e':Nat) (xs:List (List AV)) (hx:s.val x= .own q) (hq:s (.tok q)= .tok e' ei.size xs) (k:IntKind) (n:Int) (hi:s.val i= .int k n) (h0:0<=n) (h1:n<xs.length):
  OpOk F A id o s (dst o.dst (.elt q n.toNat 0)):=
 L2 hd fun a m h hs=>by
  subst hs;have hv:J8 m (.own q) (a.eval x):=by have:=h.val x;rw [hx] at this;exact this
  have h2:a.eval i= .int k n:=by have:=h.val i;rw [hi] at this;exact this
  rcases A6L h.mr hv hq with ⟨_,_,rfl⟩|⟨b,o,cap,cur,hτ,hv',_⟩
  ·grind
  ·refine ⟨.pointer (some ((⟨b,o,none⟩:Addr).add (n.toNat*ei.size))), ?_, ?_⟩
   ·simp only [execOp,ho,hv',h2,Sem.run_bind,B5p m.w t e ht ei he ⟨b,o,none⟩ xs.length cap k n h0 h1,Result.andThen_ok]
    rfl
   ·rw [A15];refine ⟨hv.1,rfl,fun e2 sz2 xs2 hs2=> ?_⟩
    grind
theorem C6j {P:Program} (w:World) (t e len:Nat) (ht:P.underlying t=some (.array len e)) (ei:TI) (he:Q9 P e ei) (ad:Addr) (k:IntKind) (i:Int) (h0:0<=i) (h1:i<len):
  (Instr.indexAt t (.pointer (some ad)) (.int k i)).run P w= .ok (.pointer (some (ad.add (i.toNat*ei.size)))) w:=by
 have hs:=he.size w;simp [Instr.indexAt,asIntOf,Instr.sureAddr,run_underlying ht,h0,h1,hs]
theorem C7i {F:Fr} {A:Nat->Prop} {id:Nat} {o:Oper} {s:AS} (hd:∀k,o.dst=some k->k<F.N) (t e len:Nat) (x i:Operand) (ho:o.op= .indexAddr t x i) (ht:F.P.underlying t=some (.array len e))
  (ei:TI) (he:Q9 F.P e ei) (h1:ei.size=1) (b:Nat) (hx:s.val x= .ptr b 0) (cs:List AV) (hb:s (.box b)= .box cs) (k:IntKind) (n:Int) (hi:s.val i= .int k n) (h0:0<=n) (hn:n<len):
  OpOk F A id o s (dst o.dst (.pix b n.toNat)):=
 L2 hd fun a m h hs=>by
  subst hs;have hv:J8 m (.ptr b 0) (a.eval x):=by have:=h.val x;rw [hx] at this;exact this
  have h2:a.eval i= .int k n:=by have:=h.val i;rw [hi] at this;exact this
  have h3:=hv.2.2 ⟨cs,hb⟩;refine ⟨.pointer (some ((⟨(m.β b).1,(m.β b).2+0,none⟩:Addr).add (n.toNat*ei.size))), ?_, ?_⟩
  ·simp only [execOp,ho,h3,h2,Sem.run_bind,C6j m.w t e len ht ei he _ k n h0 hn,Result.andThen_ok]
   rfl
  ·rw [A15,h1];refine ⟨hv.1,rfl,fun _=> ?_⟩;simp
theorem D4D {F:Fr} {A:Nat->Prop} {id:Nat} {o:Oper} {s:AS} (hd:∀k,o.dst=some k->k<F.N) (x:Operand) (ts:Array TypeId)
  (ho:o.op= .call { callee:= .builtin .len,args:= #[x],argTypes:=ts}) (t e:TypeId) (hts:ts[0]? =some t) (ht:F.P.underlying t=some (.slice e)) (b n:Nat) (hx:s.val x= .bsl b n) (cs:List AV) (hb:s (.box b)= .box cs):
  OpOk F A id o s (dst o.dst (.int .i64 n)):=
 L2 hd fun a m h hs=>by
  subst hs;have hv:J8 m (.bsl b n) (a.eval x):=by have:=h.val x;rw [hx] at this;exact this
  have h3:=hv.2.2 ⟨cs,hb⟩;refine ⟨.int .i64 n, ?_,rfl⟩;simp only [execOp,ho,resolve,invoke,builtin,Sem.run_bind,Sem.run_pure,Result.andThen_ok,List.map_toArray,D83,List.map_nil,Builtin.len_,hts,h3];simp [run_underlying ht,goInt]
theorem C7j {F:Fr} {A:Nat->Prop} {id:Nat} {o:Oper} {s:AS} (hd:∀k,o.dst=some k->k<F.N) (t e:TypeId) (x i:Operand) (ho:o.op= .indexAddr t x i) (ht:F.P.underlying t=some (.slice e))
  (ei:TI) (he:Q9 F.P e ei) (h1:ei.size=1) (b n':Nat) (hx:s.val x= .bsl b n') (cs:List AV) (hb:s (.box b)= .box cs) (k:IntKind) (n:Int) (hi:s.val i= .int k n) (h0:0<=n) (hn:n<n'):
  OpOk F A id o s (dst o.dst (.pix b n.toNat)):=
 L2 hd fun a m h hs=>by
  subst hs;have hv:J8 m (.bsl b n') (a.eval x):=by have:=h.val x;rw [hx] at this;exact this
  have h2:a.eval i= .int k n:=by have:=h.val i;rw [hi] at this;exact this
  have h3:=hv.2.2 ⟨cs,hb⟩;refine ⟨.pointer (some ((⟨(m.β b).1,(m.β b).2,none⟩:Addr).add (n.toNat*ei.size))), ?_, ?_⟩
  ·simp only [execOp,ho,h3,h2,Sem.run_bind,B5p m.w t e ht ei he _ n' n' k n h0 hn,Result.andThen_ok]
   rfl
  ·rw [A15,h1,Nat.mul_one];exact ⟨hv.1,rfl,fun _=>rfl⟩
theorem B42 (k:IntKind) (n:Int) (i:Nat): ∀(cs:List AV) (j:Nat) (cs' :List AV),B0O k n i j cs=some cs' ->
  (i<j->cs' =cs)/\(j<=i->i<j+cs.length->cs' =S1 cs (i-j) [.int k n])
 | [],j,cs',h=>by
  simp only [B0O,D82] at h
  grind
 |c::r,j,cs',h=>by
  cases c with
  |int k' a=>
   simp only [B0O] at h;split at h
   ·rename_i r2 hk hr;have hk' :k=k' :=by grind
    subst hk';cases h;obtain ⟨g1,g2⟩:=B42 k n i _ (j+1) r2 hr;refine ⟨fun hlt=> ?_,fun h1 h2=> ?_⟩
    ·rw [if_neg (by omega),g1 (by omega)]
    ·by_cases he:i=j
     ·subst he;rw [if_pos rfl,g1 (by omega)]
      simp [S1]
     ·rw [if_neg he,g2 (by omega) (by grind)]
      have:i-j=(i-(j+1))+1:=by omega
      rw [this]
      rfl
   ·cases h
  |_=>simp [B0O] at h
theorem C3B {m:G7} (hm:MR m) {q i j:Nat} {v:Value} (hv:J8 m (.elt q i j) v) {e sz:Nat} {xs:List (List AV)} (hs:m.s (.tok q)= .tok e sz xs):
  ∃b o cap cur,m.τ q=some (b,o,cap)/\v= .pointer (some ⟨b,o+(i*sz+j),none⟩)/\m.w.heap[b]? =some (.cells cur e (0,0))/\o+cap*sz<=cur.size/\xs.length<=cap/\i<xs.length/\0<sz/\
   (∀c∈xs,c.length=sz)/\ ¬m.ok b/\cap<=maxLen/\
   ∀(i j:Nat) (c:List AV) (x:AV),xs[i]? =some c->c[j]? =some x-> ∃u,cur[o+(i*sz+j)]? =some u/\PR m.w m.ok x u:=by
 obtain ⟨_,_,h2⟩:=hv;obtain ⟨g1,g2⟩:=h2 e sz xs hs;obtain ⟨_,t0,t1,t2,t3⟩:=hm.tok q e sz xs hs;cases hτ:m.τ q with
 |none=>grind
 |some p=>
  obtain ⟨b,o,cap⟩:=p;obtain ⟨c0,c1,c2,cur,c3,c4,c5⟩:=t3 b o cap hτ;exact ⟨b,o,cap,cur,rfl,g2 b o cap hτ,c3,c4,c1,g1,t0,t1,c0,c2,c5⟩
theorem C9x {F:Fr} {A:Nat->Prop} {id:Nat} {o:Oper} {s:AS} (hd:∀k,o.dst=some k->k<F.N) (t:TypeId) (x:Operand) (ho:o.op= .load t x) (ti:TI) (ht:Q9 F.P t ti)
  (q i j e sz:Nat) (xs:List (List AV)) (hx:s.val x= .elt q i j) (hq:s (.tok q)= .tok e sz xs) (hf:j+ti.size<=sz) (hp:0<ti.size) (c:List AV) (hc:xs[i]? =some c):
  OpOk F A id o s (dst o.dst (A5N ti ((c.drop j).take ti.size))):=
 L2 hd fun a m h hs=>by
  subst hs;have hv:J8 m (.elt q i j) (a.eval x):=by have:=h.val x;rw [hx] at this;exact this
  obtain ⟨b,oo,cap,cur,hτ,hv',hcur,hfit,hle,hi,hsz,hesz,_,_,hcells⟩:=C3B h.mr hv hq;have hcl:=hesz c (D8p hc);have hlen:((c.drop j).take ti.size).length=ti.size:=by simp;omega
  have hb:i*sz+sz<=cap*sz:=by
   have:(i+1)*sz<=cap*sz:=D8y _ (by omega)
   grind
  have hlen2:((cur.toList.drop (oo+(i*sz+j))).take ti.size).length=ti.size:=by simp;omega
  refine ⟨_, ?_,B2Q _ hlen hp ((cur.toList.drop (oo+(i*sz+j))).take ti.size) (hlen2.trans hlen.symm) (fun k y hk=> ?_)⟩
  ·simp only [execOp,ho,hv',Instr.loadAt,Instr.sureAddr,Sem.run_bind,Sem.run_pure,Result.andThen_ok];rw [A4k ht m.w _ hp _ hlen2 (fun k u hk=>by
    rw [A15,cell_of_row m.w _ _ cur e _ hcur]
    grind)]
   rfl
  ·rw [D8x] at hk⊢;split at hk
   ·rename_i hlt;rw [D8u] at hk;rw [if_pos hlt,D8u];obtain ⟨u,e1,e2⟩:=hcells i (j+k) c y hc hk;refine ⟨u, ?_,e2.oneCell,e2.vr0⟩
    grind
   ·cases hk
theorem M4.setTok {F:Fr} {a:Act} {m:G7} (h:M4 F a m) (q b o cap e sz:Nat) (xs xs':List (List AV)) (cur cur':Array Value) (hq:m.s (.tok q)= .tok e sz xs) (hτ:m.τ q=some (b,o,cap))
  (hcur:m.w.heap[b]? =some (.cells cur e (0,0))) (hl:xs'.length=xs.length) (hesz:∀c∈xs',c.length=sz) (hsize:cur'.size=cur.size)
  (hc:∀(i j:Nat) (c:List AV) (x:AV),xs'[i]? =some c->c[j]? =some x-> ∃u,cur'[o+(i*sz+j)]? =some u/\PR m.w m.ok x u):
  M4 F a { m with s:=m.s.put (.tok q) (.tok e sz xs'),w:=m.w.setRow b cur' }:=by
 have hm:=h.mr;obtain ⟨tA,t0,t1,t2,t3⟩:=hm.tok q e sz xs hq;obtain ⟨c0,c1,c2,cur0,c3,c4,c5⟩:=t3 b o cap hτ;rw [hcur] at c3;cases c3;have htok: ∀t et szt xt,(m.s.put (.tok q) (.tok e sz xs')) (.tok t)= .tok et szt xt->(t=q/\et=e/\szt=sz/\xt=xs')\/(t≠q/\m.s (.tok t)= .tok et szt xt):=by
  intro t et szt xt ht
  by_cases htq:t=q
  ·subst htq;rw [W7] at ht;grind
  ·rw [A0D _ _ _ _ htq] at ht
   grind
 have hlive: ∀t et szt xt,(m.s.put (.tok q) (.tok e sz xs')) (.tok t)= .tok et szt xt-> ∃x0,m.s (.tok t)= .tok et szt x0:=by
  grind
 have he:W4 m { m with s:=m.s.put (.tok q) (.tok e sz xs'),w:=m.w.setRow b cur' }:=
  {tok:=fun t et szt xt ht _=>by
    grind
   box:=fun _ cs' h _=>⟨⟨cs',h⟩,rfl⟩
   A:=fun _ h=>h
   ok:=fun _ h=>h
   cell:=fun k off hk=>B5Q _ _ _ _ _ (by grind)
   map:=fun k _ _ hk h=>(setRow_other _ _ _ _ (by grind)).trans h}
 refine h.mem ⟨fun k hk=> ?_,fun i cs' hi=> ?_,fun t et szt xt ht=> ?_,hm.sepB,fun i j ei ej si sj xi xj p q' hi hj hp hq' hne=> ?_,fun i j ci ej sj xj q' hi hj hq' => ?_⟩ he (fun _=>rfl)
  (h.keep.setRow _ cur _ e hcur hsize (.inl (h.newT q e sz xs _ hq hτ))) (fun _ _=>rfl) h.newB (fun _ cs h _=>⟨cs,h,rfl⟩) (fun t et szt xt p ht hp=> ?_) (fun _ hb=> .inl hb)
 ·show k<(m.w.setRow _ _).heap.size;rw [size_setRow];exact hm.okLt k hk
 ·obtain ⟨h1,h2,cur1,e1,h3,h4,h5⟩:=hm.box i cs' hi;refine ⟨h1,h2,cur1,e1, ?_,h4,fun j c hj=> ?_⟩
  ·show (m.w.setRow _ _).heap[(m.β i).1]? =_;rw [setRow_other _ _ _ _ (hm.sepM i q cs' e sz xs (b,o,cap) hi hq hτ)];exact h3
  ·obtain ⟨u,g1,g2,g3⟩:=h5 j c hj;exact ⟨u,g1,g2,g3.ext he⟩
 ·rcases htok t et szt xt ht with ⟨rfl,rfl,rfl,rfl⟩|⟨hne,h2⟩
  ·refine ⟨tA,t0,hesz,fun hn=> ?_,fun b' o' cap' hb' => ?_⟩
   ·grind
   ·have hb'' :m.τ t=some (b',o',cap'):=hb';rw [hτ] at hb'';cases hb'';refine ⟨c0,by omega,c2,cur',setRow_heap _ _ _ _ _ _ hcur,by omega,fun i j c x hi hj=> ?_⟩
    obtain ⟨u,q1,q2⟩:=hc i j c x hi hj;exact ⟨u,q1,B3I he q2⟩
  ·obtain ⟨h1,h3,h4,h5,h6⟩:=hm.tok t et szt xt h2;refine ⟨h1,h3,h4,h5,fun b' o' cap' hb' => ?_⟩;obtain ⟨g1,g2,g3,cur1,g4,g5,g6⟩:=h6 b' o' cap' hb';refine ⟨g1,g2,g3,cur1, ?_,g5,fun i j c x hi hj=> ?_⟩
   ·show (m.w.setRow _ _).heap[b']? =_;have hbb:b' ≠b:=hm.sepT t q et e szt sz xt xs _ _ h2 hq hb' hτ hne;rw [setRow_other _ _ _ _ hbb];exact g4
   ·obtain ⟨u,q1,q2⟩:=g6 i j c x hi hj;exact ⟨u,q1,B3I he q2⟩
 ·obtain ⟨x1,hx1⟩:=hlive i ei si xi hi;obtain ⟨x2,hx2⟩:=hlive j ej sj xj hj;exact hm.sepT i j ei ej si sj x1 x2 p q' hx1 hx2 hp hq' hne
 ·obtain ⟨x2,hx2⟩:=hlive j ej sj xj hj;exact hm.sepM i j ci ej sj x2 q' hi hx2 hq'
 ·obtain ⟨x2,hx2⟩:=hlive t et szt xt ht;exact h.newT t et szt x2 p hx2 hp
end Go.Vc
namespace Go.Vc
open Go.RowKit
theorem B2M {α:Type} (cur us:List α) (off k:Nat) (h:off+us.length<=cur.length):
  (cur.take off++us++cur.drop (off+us.length))[k]? =if k<off then cur[k]? else if k<off+us.length then us[k-off]? else cur[k]? :=by
 grind
theorem C7m {F:Fr} {A:Nat->Prop} {id:Nat} {o:Oper} {s:AS} (hd:∀k,o.dst=some k->k<F.N) (t:TypeId) (x y:Operand) (ho:o.op= .store t x y) (ti:TI) (ht:Q9 F.P t ti)
  (q i j e sz:Nat) (xs:List (List AV)) (hx:s.val x= .elt q i j) (hq:s (.tok q)= .tok e sz xs) (hf:j+ti.size<=sz) (ds:List AV) (hds:Q5 s (s.val y).cells=some (ds, []))
  (hl:(s.val y).cells.length=ti.size) (c:List AV) (hc:xs[i]? =some c):
  OpOk F A id o s (dst o.dst .junk++ [(.tok q, .tok e sz (xs.set i (S1 c j ds)))]):=by
 rintro a w ⟨β,τ,ok,hx0⟩ hA next Q hn
 generalize hm:(⟨s,β,τ,A,ok,w⟩:G7)=m at hx0
 have hs:m.s=s:=by rw [<-hm]
 have hw:m.w=w:=by rw [<-hm]
 have hAA:m.A=A:=by rw [<-hm]
 subst hs;have hv:J8 m (.elt q i j) (a.eval x):=by have:=hx0.val x;rw [hx] at this;exact this
 obtain ⟨b,oo,cap,cur,hτ,hv',hcur,hfit,hle,hi,hsz,hesz,_,_,hcells⟩:=C3B hx0.mr hv hq;obtain ⟨g1,g2⟩:=B34 (hx0.val y) (A5i _ _ _ _ hds);obtain ⟨p1,p2⟩:=A8u (W4.refl m) (ks:= []) (by simp) _ ds [] (a.eval y).cells.toList hds (by simp) (by omega) (fun j c hj=>let ⟨u,q1,_,q3⟩:=g2 j c hj;⟨u,by grind,q3⟩)
 have hcl:=hesz c (D8p hc);have hb:i*sz+sz<=cap*sz:=by
  have:(i+1)*sz<=cap*sz:=D8y _ (by omega)
  grind
 have hvl:(a.eval y).cells.toList.length=ti.size:=by simp;omega
 have hone: ∀u∈(a.eval y).cells.toList,u.oneCell' =true:=by
  intro u hu;obtain ⟨k,hk,rfl⟩:=List.mem_iff_getElem.1 hu;have hk' :k<(m.s.val y).cells.length:=by omega
  obtain ⟨x',q1,q2,_⟩:=g2 k _ (D8o hk')
  grind
 have hfit2:oo+(i*sz+j)+ti.size<=cur.size:=by omega
 have hrun:(execOp a.eval o).run F.P w= .ok .skip (w.setRow b (cur.toList.take (oo+(i*sz+j))++(a.eval y).cells.toList++cur.toList.drop (oo+(i*sz+j)+(a.eval y).cells.toList.length)).toArray):=by
  rw [<-hw];simp only [execOp,ho,hv',Instr.storeAt,Instr.sureAddr,Sem.run_bind,Sem.run_pure,Result.andThen_ok];rw [B40 ht m.w b _ e cur hcur (a.eval y) (g1.trans hl) hone hfit2];simp
 simp only [Oper.wp,hrun,Oper.upon_skip];apply hn;have hdl:ds.length=ti.size:=p1.trans hl;have h4:=hx0.setTok q b oo cap e sz xs (xs.set i (S1 c j ds)) cur
  (cur.toList.take (oo+(i*sz+j))++(a.eval y).cells.toList++cur.toList.drop (oo+(i*sz+j)+(a.eval y).cells.toList.length)).toArray hq hτ hcur (by simp)
  (fun d hd=>by
   rcases List.mem_or_eq_of_mem_set hd with hd|rfl
   ·grind
   ·rw [A3E _ _ _ (by omega)];exact hcl)
  (by simp;omega)
  (fun i' j' c' x' hi' hj' =>by
   simp only [List.getElem?_toArray];rw [B2M _ _ _ _ (by grind)]
   have hj'l:j' <c'.length:=(D8k.1 hj').1
   by_cases hii:i' =i
   ·subst hii;rw [List.getElem?_set_self hi] at hi';cases hi';rw [A3E _ _ _ (by omega)] at hj'l
    have hj2:(c.take j++ds++c.drop (j+ds.length))[j']? =some x' :=by rw [D8E];exact hj'
    rw [B2M _ _ _ _ (by omega)] at hj2
    by_cases h1:j' <j
    ·grind
    ·rw [if_neg h1] at hj2;rw [if_neg (by omega)]
     by_cases h2:j' <j+ds.length
     ·rw [if_pos h2] at hj2;rw [if_pos (by omega)]
      obtain ⟨u,e1,e2⟩:=p2 _ x' hj2;exact ⟨u,by grind,e2⟩
     grind
   ·rw [List.getElem?_set_ne (by omega)] at hi'
    have hdl' :=hesz c' (D8p hi');obtain ⟨u,e1,e2⟩:=hcells i' j' c' x' hi' hj';refine ⟨u, ?_,e2⟩;have hrng:oo+(i' *sz+j')<oo+(i*sz+j)\/ ¬(oo+(i' *sz+j')<oo+(i*sz+j)+(a.eval y).cells.toList.length):=by
     rcases Nat.lt_or_gt_of_ne hii with hlt|hgt
     ·have h2:(i' +1)*sz<=i*sz:=D8y sz hlt
      grind
     ·have h2:(i+1)*sz<=i' *sz:=D8y sz hgt
      grind
    grind)
 have h5:=(h4.mono (fun i=>A i\/i=id) (fun i hi=>Or.inl (by grind))).dst o.dst .junk undef hd trivial
 rw [<-hw];cases hod:o.dst with
 |none=>rw [hod] at h5;exact ⟨_,_,_,h5⟩
 |some d=>rw [hod] at h5;exact ⟨_,_,_,h5⟩
theorem B8j (a:Option Addr):a.map (·.add 0)=a:=by cases a<;>simp [Addr.add]
section
variable {P:Program} (w:World) (t e:TypeId) (ht:P.underlying t=some (.slice e)) (ei:TI) (he:Q9 P e ei) (a:Option Addr) (len cap:Nat) (hlc:len<=cap)
include ht he
include hlc in
theorem B3c (k:IntKind) (h:Int) (h0:0<=h) (h1:h<=len):(Instr.sliceAt t (.slice a len cap) none (some (.int k h)) none).run P w= .ok (.slice a h.toNat cap) w:=by
 have hs:=he.size w;have h2:h<=(cap:Int):=by omega
 simp [Instr.sliceAt,Instr.slice,Instr.sliceBounds,Instr.sliceBound,asIntOf,run_underlying ht,h0,h2,hs,B8j]
theorem B3d (k:IntKind) (l:Int) (h0:0<=l) (h1:l<=len):
  (Instr.sliceAt t (.slice a len cap) (some (.int k l)) none none).run P w= .ok (.slice (if cap=l.toNat then a else a.map (·.add (l.toNat*ei.size))) (len-l.toNat) (cap-l.toNat)) w:=by
 have hs:=he.size w;simp [Instr.sliceAt,Instr.slice,Instr.sliceBounds,Instr.sliceBound,asIntOf,run_underlying ht,h0,h1,hs]
include hlc in
theorem C6i (k k':IntKind) (l h:Int) (h0:0<=l) (h1:l<=h) (h2:h<=len):
  (Instr.sliceAt t (.slice a len cap) (some (.int k l)) (some (.int k' h)) none).run P w= .ok (.slice (if cap=l.toNat then a else a.map (·.add (l.toNat*ei.size))) (h.toNat-l.toNat) (cap-l.toNat)) w:=by
 have hs:=he.size w;have h3:h<=(cap:Int):=by omega
 have h4:0<=h:=by omega
 have hm:max h 0=h:=by omega
 simp [Instr.sliceAt,Instr.slice,Instr.sliceBounds,Instr.sliceBound,asIntOf,run_underlying ht,h0,h3,h4,hm,h1,hs]
include hlc in
theorem C6h (k k':IntKind) (h q:Int) (h0:0<=h) (h1:h=q) (h2:h<=len):
  (Instr.sliceAt t (.slice a len cap) none (some (.int k h)) (some (.int k' q))).run P w= .ok (.slice a h.toNat h.toNat) w:=by
 have hs:=he.size w;subst h1;have h3:h<=(cap:Int):=by omega
 have hm:max h 0=h:=by omega
 simp [Instr.sliceAt,Instr.slice,Instr.sliceBounds,Instr.sliceBound,asIntOf,run_underlying ht,h0,h3,hm,hs,B8j]
end
theorem C2H {w:World} {ok:Nat->Prop} {sz:Nat} {f:Bool} {xs:List (List AV)} {a:Option Addr} {cap:Nat} (h:PR w ok (.lst sz f xs) (.slice a xs.length cap)) (n:Nat) (hn:n<=xs.length) (f':Bool) (cap':Nat)
  (hc:n<=cap') (hcc:cap' <=cap) (hf:f' =true->cap' =n):PR w ok (.lst sz f' (xs.take n)) (.slice a n cap'):=by
 cases h with
 |lst sz full xs a cap u hcap hmax hfull hsz hnone hcell hrec=>
  have hl:(xs.take n).length=n:=by simp;omega
  have key: ∀(i j:Nat) (c:List AV),(xs.take n)[i]? =some c->xs[i]? =some c:=fun i j c hi=>by
   grind
  have:=PR.lst (w:=w) (ok:=ok) sz f' (xs.take n) a cap' u (by omega) (by omega) (by grind) (fun c hc=>hsz c (List.mem_of_mem_take hc)) (fun ha=>by grind)
   (fun i j c x hi hj=>hcell i j c x (key i j c hi) hj) (fun i j c x hi hj=>hrec i j c x (key i j c hi) hj)
  grind
theorem C8r {w:World} {ok:Nat->Prop} {sz:Nat} {f:Bool} {xs:List (List AV)} {a:Option Addr} {cap:Nat} (h:PR w ok (.lst sz f xs) (.slice a xs.length cap)) (n:Nat) (hn:n<=xs.length):
  PR w ok (.lst sz false (xs.drop n)) (.slice (if cap=n then a else a.map (·.add (n*sz))) (xs.length-n) (cap-n)):=by
 cases h with
 |lst sz full xs a cap u hcap hmax hfull hsz hnone hcell hrec=>
  have hl:(xs.drop n).length=xs.length-n:=by simp
  have:=PR.lst (w:=w) (ok:=ok) sz false (xs.drop n) (if cap=n then a else a.map (·.add (n*sz))) (cap-n) (fun i j=>u (n+i) j) (by omega) (by omega) (by simp) (fun c hc=>hsz c (List.mem_of_mem_drop hc))
   (fun ha=>by
    split at ha
    ·omega
    simp_all)
   (fun i j c x hi hj ad had=>by
    rw [D8u] at hi;have hlt:n+i<xs.length:=(D8k.1 hi).1;rw [if_neg (by omega)] at had
    cases a with
    |none=>cases had
    |some ad0=>
     cases had;obtain ⟨h1,h2,h3⟩:=hcell (n+i) j c x hi hj ad0 rfl;show (ad0.add (n*sz)).spot=none/\ok (ad0.add (n*sz)).block/\w.cell? ⟨(ad0.add (n*sz)).block,(ad0.add (n*sz)).off+(i*sz+j),none⟩=some (u (n+i) j);rw [B6h h1]
     grind)
   (fun i j c x hi hj=>by grind)
  grind
theorem D0U {w:World} {ok:Nat->Prop} {sz:Nat} {f:Bool} {xs:List (List AV)} {v:Value} (h:PR w ok (.lst sz f xs) v): ∃a cap,v= .slice a xs.length cap/\xs.length<=cap:=by
 cases h with
 |lst sz full xs a cap u hcap=>grind
theorem B1f {F:Fr} {A:Nat->Prop} {id:Nat} {o:Oper} {s:AS} (hd:∀k,o.dst=some k->k<F.N) (t e:TypeId) (x:Operand) (lo hi mx:Option Operand) (ho:o.op= .slice t x lo hi mx)
  (ht:F.P.underlying t=some (.slice e)) (ei:TI) (he:Q9 F.P e ei) (f:Bool) (xs:List (List AV)) (hx:s.val x= .lst ei.size f xs) (r:AV)
  (hr:(∃y k h,lo=none/\hi=some y/\mx=none/\s.val y= .int k h/\0<=h/\h<=xs.length/\r= .lst ei.size false (xs.take h.toNat))\/
   (∃y k l,lo=some y/\hi=none/\mx=none/\s.val y= .int k l/\0<=l/\l<=xs.length/\r= .lst ei.size false (xs.drop l.toNat))\/
   (∃y y' k k' l h,lo=some y/\hi=some y' /\mx=none/\s.val y= .int k l/\s.val y' = .int k' h/\0<=l/\l<=h/\h<=xs.length/\r= .lst ei.size false ((xs.take h.toNat).drop l.toNat))\/
   (∃y y' k k' h q,lo=none/\hi=some y/\mx=some y' /\s.val y= .int k h/\s.val y' = .int k' q/\0<=h/\h=q/\h<=xs.length/\r= .lst ei.size true (xs.take h.toNat))):
  OpOk F A id o s (dst o.dst r):=
 L2 hd fun a m hh hs=>by
  subst hs;have hv:PR m.w m.ok (.lst ei.size f xs) (a.eval x):=by have:=hh.val x;rw [hx] at this;exact this
  obtain ⟨ad,cap,hv',hcap⟩:=D0U hv;rw [hv'] at hv;have val: ∀y k n,m.s.val y= .int k n->a.eval y= .int k n:=fun y k n hy=>by have:=hh.val y;rw [hy] at this;exact this
  rcases hr with ⟨y,k,h,rfl,rfl,rfl,hy,h0,h1,rfl⟩|⟨y,k,l,rfl,rfl,rfl,hy,h0,h1,rfl⟩|⟨y,y',k,k',l,h,rfl,rfl,rfl,hy,hy',h0,h1,h2,rfl⟩|⟨y,y',k,k',h,q,rfl,rfl,rfl,hy,hy',h0,h1,h2,rfl⟩
  ·refine ⟨_, ?_,C2H hv h.toNat (by omega) false cap (by omega) (D8S _) (by simp)⟩
   simp only [execOp,ho,hv',Option.map_some,Option.map_none,val y k h hy,Sem.run_bind,B3c m.w t e ht ei he ad xs.length cap hcap k h h0 h1,Result.andThen_ok]
   rfl
  ·refine ⟨_, ?_,C8r hv l.toNat (by omega)⟩
   simp only [execOp,ho,hv',Option.map_some,Option.map_none,val y k l hy,Sem.run_bind,B3d m.w t e ht ei he ad xs.length cap k l h0 h1,Result.andThen_ok]
   rfl
  ·have h3:=C2H hv h.toNat (by omega) false cap (by omega) (D8S _) (by simp)
   have hl:(xs.take h.toNat).length=h.toNat:=by simp;omega
   have h3' :PR m.w m.ok (.lst ei.size false (xs.take h.toNat)) (.slice ad (xs.take h.toNat).length cap):=by grind
   have h4:=C8r h3' l.toNat (by omega)
   rw [hl] at h4;refine ⟨_, ?_,h4⟩;simp only [execOp,ho,hv',Option.map_some,Option.map_none,val y k l hy,val y' k' h hy',Sem.run_bind,C6i m.w t e ht ei he ad xs.length cap hcap k k' l h h0 h1 h2,Result.andThen_ok]
   rfl
  ·refine ⟨_, ?_,C2H hv h.toNat (by omega) true h.toNat (D8S _) (by omega) (fun _=>rfl)⟩
   simp only [execOp,ho,hv',Option.map_some,Option.map_none,val y k h hy,val y' k' q hy',Sem.run_bind,C6h m.w t e ht ei he ad xs.length cap hcap k k' h q h0 h1 h2,Result.andThen_ok]
   rfl
theorem B91 {F:Fr} {A:Nat->Prop} {id:Nat} {o:Oper} {s:AS} (hd:∀k,o.dst=some k->k<F.N) (t e:TypeId) (x:Operand) (lo hi mx:Option Operand) (ho:o.op= .slice t x lo hi mx)
  (ht:F.P.underlying t=some (.slice e)) (ei:TI) (he:Q9 F.P e ei) (q e':Nat) (xs:List (List AV)) (hx:s.val x= .own q) (hq:s (.tok q)= .tok e' ei.size xs) (xs':List (List AV))
  (hr:(∃y k h,lo=none/\hi=some y/\mx=none/\s.val y= .int k h/\0<=h/\h<=xs.length/\xs' =xs.take h.toNat)\/
   (∃y k l,lo=some y/\hi=none/\mx=none/\s.val y= .int k l/\0<=l/\l<=xs.length/\xs' =xs.drop l.toNat)):
  OpOk F A id o s (dst o.dst (.own id)++ [(.tok id, .tok e' ei.size xs'),(.tok q, .none)]):=
 B3S hd _ fun a m hh hs hA hid=>by
  subst hs hA;have hv:J8 m (.own q) (a.eval x):=by have:=hh.val x;rw [hx] at this;exact this
  have val: ∀y k n,m.s.val y= .int k n->a.eval y= .int k n:=fun y k n hy=>by have:=hh.val y;rw [hy] at this;exact this
  obtain ⟨_,t0,t1,_,t3⟩:=hh.mr.tok q e' ei.size xs hq;have hkeep:=hh.dropTok q;rcases A6L hh.mr hv hq with ⟨_,hv',rfl⟩|⟨b,oo,cap,cur,hτ,hv',hcur,hfit,hle,hmax,hrx⟩
  ·
   refine ⟨.slice none 0 0,(m.dropTok q).claim id none e' ei.size [] m.w, ?_,hkeep.claimNil id e' ei.size hid t0, ?_,rfl,C1E⟩
   ·rcases hr with ⟨y,k,h,rfl,rfl,rfl,hy,h0,h1,rfl⟩|⟨y,k,l,rfl,rfl,rfl,hy,h0,h1,rfl⟩
    ·have hh0:h=0:=by grind
     subst hh0;simp only [execOp,ho,hv',Option.map_some,Option.map_none,val y k 0 hy,Sem.run_bind,B3c m.w t e ht ei he none 0 0 (D8S _) k 0 h0 h1,Result.andThen_ok]
     rfl
    ·have hl0:l=0:=by grind
     subst hl0;simp only [execOp,ho,hv',Option.map_some,Option.map_none,val y k 0 hy,Sem.run_bind,B3d m.w t e ht ei he none 0 0 k 0 h0 h1,Result.andThen_ok]
     rfl
   ·have:xs' = []:=by
     rcases hr with ⟨y,k,h,_,_,_,_,_,_,rfl⟩|⟨y,k,l,_,_,_,_,_,_,rfl⟩<;>simp
    subst this
    rfl
  ·rcases hr with ⟨y,k,h,rfl,rfl,rfl,hy,h0,h1,rfl⟩|⟨y,k,l,rfl,rfl,rfl,hy,h0,h1,rfl⟩
   ·have hn:h.toNat<=xs.length:=by omega
    have hl:(xs.take h.toNat).length=h.toNat:=by simp;omega
    obtain ⟨_,_,_,cur',c3',c4',c5'⟩:=t3 b oo cap hτ;rw [hcur] at c3';cases c3';have hclaim:=hkeep.claim id b oo cap e' ei.size (xs.take h.toNat) m.w cur hid (At.refl _ _) (B1w hh.mr hq hτ) hh.keep (hh.newT q e' ei.size xs _ hq hτ) t0 (fun c hc=>t1 c (List.mem_of_mem_take hc)) (by omega) hmax hcur hfit
     (fun i j c x hi hj=>c5' i j c x (by
      grind) hj)
    refine ⟨.slice (some ⟨b,oo,none⟩) h.toNat cap,_, ?_,hclaim,rfl,rfl, ?_⟩
    ·simp only [execOp,ho,hv',Option.map_some,Option.map_none,val y k h hy,Sem.run_bind,B3c m.w t e ht ei he (some ⟨b,oo,none⟩) xs.length cap hle k h h0 h1,Result.andThen_ok]
     rfl
    ·have:=A9J (m:=m.dropTok q) (id:=id) (e:=e') (sz:=ei.size) (xs:=xs.take h.toNat) (w' :=m.w) (b:=b) (o:=oo) (cap:=cap)
     grind
   ·have hn:l.toNat<=xs.length:=by omega
    have hl:(xs.drop l.toNat).length=xs.length-l.toNat:=by simp
    obtain ⟨_,_,_,cur',c3',c4',c5'⟩:=t3 b oo cap hτ;rw [hcur] at c3';cases c3';have hmul:l.toNat*ei.size<=cap*ei.size:=D8y _ (by omega)
    have hclaim:=hkeep.claim id b (if cap=l.toNat then oo else oo+l.toNat*ei.size) (cap-l.toNat) e' ei.size (xs.drop l.toNat) m.w cur hid (At.refl _ _) (B1w hh.mr hq hτ) hh.keep (hh.newT q e' ei.size xs _ hq hτ) t0
     (fun c hc=>t1 c (List.mem_of_mem_drop hc)) (by omega) (by omega) hcur
     (by
      rw [Nat.sub_mul];split<;>omega)
     (fun i j c x hi hj=>by
      rw [D8u] at hi;have hlt:l.toNat+i<xs.length:=(D8k.1 hi).1;rw [if_neg (by omega)]
      obtain ⟨u,q1,q2⟩:=c5' (l.toNat+i) j c x hi hj;exact ⟨u,by grind,q2⟩)
    refine ⟨.slice (some ⟨b,if cap=l.toNat then oo else oo+l.toNat*ei.size,none⟩) (xs.length-l.toNat) (cap-l.toNat),_, ?_,hclaim,rfl,rfl, ?_⟩
    ·simp only [execOp,ho,hv',Option.map_some,Option.map_none,val y k l hy,Sem.run_bind,B3d m.w t e ht ei he (some ⟨b,oo,none⟩) xs.length cap k l h0 h1,Result.andThen_ok];have:(if cap=l.toNat then some (⟨b,oo,none⟩:Addr) else some ((⟨b,oo,none⟩:Addr).add (l.toNat*ei.size)))=some ⟨b,if cap=l.toNat then oo else oo+l.toNat*ei.size,none⟩:=by
      split<;>simp [A15]
     rw [this]
     rfl
    ·have:=A9J (m:=m.dropTok q) (id:=id) (e:=e') (sz:=ei.size) (xs:=xs.drop l.toNat) (w' :=m.w) (b:=b) (o:=if cap=l.toNat then oo else oo+l.toNat*ei.size) (cap:=cap-l.toNat)
     grind
theorem C29 {xs zs:List (List AV)} {i:Nat} (h:i+zs.length<=xs.length):(P0 xs i zs).length=xs.length:=by
 unfold P0;simp;omega
theorem B5r (xs:List (List AV)) (i:Nat):P0 xs i []=xs:=by
 unfold P0;simp
theorem A8w (s:AS) (k e sz:Nat) (xs:List (List AV)) (h:s (.tok k)= .tok e sz xs):s.put (.tok k) (.tok e sz xs)=s:=by
 funext l
 by_cases hl:l= .tok k
 ·subst hl;rw [W7,h]
 ·cases l with
  |tmp n=>rfl
  |box n=>rfl
  |tok n=>rw [A0D _ _ _ _ (fun e=>hl (by rw [e]))]
theorem B90 {F:Fr} {A:Nat->Prop} {id:Nat} {o:Oper} {s:AS} (hd:∀k,o.dst=some k->k<F.N) (t e:TypeId) (x:Operand) (lo hi mx:Option Operand) (ho:o.op= .slice t x lo hi mx)
  (ht:F.P.underlying t=some (.slice e)) (ei:TI) (he:Q9 F.P e ei) (q e':Nat) (xs:List (List AV)) (hx:s.val x= .ali q) (hq:s (.tok q)= .tok e' ei.size xs) (r:AV)
  (hr:(∃y k h,lo=none/\hi=some y/\mx=none/\s.val y= .int k h/\0<=h/\h<=xs.length/\r= .vw q 0 h.toNat)\/
   (∃y k l,lo=some y/\hi=none/\mx=none/\s.val y= .int k l/\0<=l/\l<=xs.length/\r= .vw q l.toNat (xs.length-l.toNat))):
  OpOk F A id o s (dst o.dst r):=
 L2 hd fun a m hh hs=>by
  subst hs;have hv:J8 m (.ali q) (a.eval x):=by have:=hh.val x;rw [hx] at this;exact this
  obtain ⟨hA,h1,h2⟩:=hv;obtain ⟨gN,gS⟩:=h2 e' ei.size xs hq;obtain ⟨_,t0,t1,t2,t3⟩:=hh.mr.tok q e' ei.size xs hq;have val: ∀y k n,m.s.val y= .int k n->a.eval y= .int k n:=fun y k n hy=>by have:=hh.val y;rw [hy] at this;exact this
  have shape: ∃ad cap,a.eval x= .slice ad xs.length cap/\xs.length<=cap/\(m.τ q=none->ad=none/\cap=0)/\(∀b oo c,m.τ q=some (b,oo,c)->ad=some ⟨b,oo,none⟩)/\ ∀b oo c,m.τ q=some (b,oo,c)->cap=c:=by
   cases hτ:m.τ q with
   |none=>
    grind
   |some p=>
    grind
  obtain ⟨ad,cap,hv',hle,hn,hp,hcp⟩:=shape;rcases hr with ⟨y,k,h,rfl,rfl,rfl,hy,h0,h1,rfl⟩|⟨y,k,l,rfl,rfl,rfl,hy,h0,h1,rfl⟩
  ·refine ⟨.slice ad h.toNat cap, ?_,hA,rfl,fun e2 sz2 xs2 hs2=> ?_⟩
   ·simp only [execOp,ho,hv',Option.map_some,Option.map_none,val y k h hy,Sem.run_bind,B3c m.w t e ht ei he ad xs.length cap hle k h h0 h1,Result.andThen_ok]
    rfl
   grind
  ·refine ⟨.slice (if cap=l.toNat then ad else ad.map (·.add (l.toNat*ei.size))) (xs.length-l.toNat) (cap-l.toNat), ?_,hA,rfl,fun e2 sz2 xs2 hs2=> ?_⟩
   ·simp only [execOp,ho,hv',Option.map_some,Option.map_none,val y k l hy,Sem.run_bind,B3d m.w t e ht ei he ad xs.length cap k l h0 h1,Result.andThen_ok]
    rfl
   ·rw [hq] at hs2;cases hs2;refine ⟨by omega,fun hτ=> ?_,fun b oo c hτ=> ?_⟩
    ·grind
    ·rw [hp b oo c hτ];refine ⟨if cap=l.toNat then oo else oo+l.toNat*ei.size,cap-l.toNat, ?_,by omega,fun h=>⟨by rw [if_neg (by omega)],by grind⟩⟩
     split<;>simp [A15]
theorem D1p {w:World} {ok:Nat->Prop} {f:Bool} {ys:List (List AV)} {v:Value} (h:PR w ok (.lst 1 f ys) v):
  ∃(a:Option Addr) (cap:Nat) (us:List Value),v= .slice a ys.length cap/\us.length=ys.length/\(0<ys.length-> ∃ad,a=some ad/\ad.spot=none/\ ∀j u,us[j]? =some u->w.cell? (ad.add j)=some u)/\
   ∀(j:Nat) (c:List AV) (x:AV),ys[j]? =some c->c[0]? =some x-> ∃u,us[j]? =some u/\PR w ok x u:=by
 cases h with
 |lst sz full xs a cap u hcap hmax hfull hsz hnone hcell hrec=>
  refine ⟨a,cap,(List.range ys.length).map fun j=>u j 0,rfl,by simp,fun hp=> ?_,fun j c x hj hc=> ?_⟩
  ·cases a with
   |none=>grind
   |some ad=>
    have hl: ∀j,j<ys.length-> ∃x,ys[j]? =some [x]:=fun j hj=>by
     have h1:=hsz _ (D8Z hj);obtain ⟨x,hx⟩: ∃x,ys[j]= [x]:=List.length_eq_one_iff.1 h1
     grind
    obtain ⟨x0,hx0⟩:=hl 0 hp;obtain ⟨s1,_,_⟩:=hcell 0 0 [x0] x0 hx0 rfl ad rfl;refine ⟨ad,rfl,s1,fun j v hv=> ?_⟩;rw [D8J,Option.map_eq_some_iff] at hv;obtain ⟨j',hj',rfl⟩:=hv;have hjl:j<ys.length:=by grind
    rw [List.getElem?_range hjl] at hj';cases hj';obtain ⟨x,hx⟩:=hl j hjl;obtain ⟨_,_,q3⟩:=hcell j 0 [x] x hx rfl ad rfl;rw [B6h s1]
    grind
  grind
theorem C5D {F:Fr} {a:Act} {m:G7} (h:M4 F a m) (q b o cap e:Nat) (xs zs:List (List AV)) (i:Nat) (cur:Array Value) (us:List Value) (hq:m.s (.tok q)= .tok e 1 xs) (hτ:m.τ q=some (b,o,cap))
  (hcur:m.w.heap[b]? =some (.cells cur e (0,0))) (hi:i+zs.length<=xs.length) (hz:∀c∈zs,c.length=1) (hu:us.length=zs.length)
  (hc:∀(j:Nat) (c:List AV) (x:AV),zs[j]? =some c->c[0]? =some x-> ∃u,us[j]? =some u/\PR m.w m.ok x u):
  M4 F a { m with s:=m.s.put (.tok q) (.tok e 1 (P0 xs i zs)),w:=m.w.setRow b (cur.toList.take (o+i)++us++cur.toList.drop (o+i+us.length)).toArray}:=by
 obtain ⟨_,t0,t1,t2,t3⟩:=h.mr.tok q e 1 xs hq;obtain ⟨_,c1,c2,cur',c3,c4,c5⟩:=t3 b o cap hτ;rw [hcur] at c3;cases c3;refine h.setTok q b o cap e 1 xs (P0 xs i zs) cur _ hq hτ hcur (C29 hi) (fun c hc' => ?_) (by simp;omega) (fun i' j' c' x' hi' hj' => ?_)
 ·unfold P0 at hc'
  grind
 ·have hrow:(xs.take i++zs++xs.drop (i+zs.length))[i']? =some c' :=by rw [D8E];exact hi'
  rw [B2M _ _ _ _ hi] at hrow;have hlen:c'.length=1:=by
   grind
  have hj0:j' =0:=by grind
  subst hj0;simp only [List.getElem?_toArray];rw [B2M _ _ _ _ (by simp;omega)]
  grind
theorem D4C {F:Fr} {A:Nat->Prop} {id:Nat} {o:Oper} {s:AS} (hd:∀k,o.dst=some k->k<F.N) (x y:Operand) (t t' e':TypeId)
  (ho:o.op= .call { callee:= .builtin .copy,args:= #[x,y],argTypes:= #[t,t']}) (ht:F.P.underlying t=some (.slice e')) (ei:TI) (he:Q9 F.P e' ei) (h1:ei.size=1)
  (k i n e:Nat) (f:Bool) (xs ys:List (List AV)) (hx:s.val x= .vw k i n) (hy:s.val y= .lst 1 f ys) (hq:s (.tok k)= .tok e 1 xs):
  OpOk F A id o s (dst o.dst (.int .i64 ((ys.take n).length:Nat))++ [(.tok k, .tok e 1 (P0 xs i (ys.take n)))]):=
 A5h fun a m hh hs hA hid=>by
  subst hs hA;have hv:J8 m (.vw k i n) (a.eval x):=by have:=hh.val x;rw [hx] at this;exact this
  have hv2:PR m.w m.ok (.lst 1 f ys) (a.eval y):=by have:=hh.val y;rw [hy] at this;exact this
  obtain ⟨_,_,hvv⟩:=hv;obtain ⟨g0,gN,gS⟩:=hvv e 1 xs hq;obtain ⟨_,t0,t1,t2,t3⟩:=hh.mr.tok k e 1 xs hq;obtain ⟨ya,ycap,us,hy1,hy2,hy3,hy4⟩:=D1p hv2;have hz: ∀c∈ys,c.length=1:=by
   have key: ∀v,PR m.w m.ok (.lst 1 f ys) v-> ∀c∈ys,c.length=1:=fun v hv=>by
    cases hv with
    |lst _ _ _ _ _ _ _ _ _ hsz=>exact hsz
   grind
  have hsize:(F.P.info? e').map (·.size)=some 1:=by
   obtain ⟨ii,i1,i2,_⟩:=he.info
   grind
  have hexec: ∀v w',(Builtin.copy_ #[t,t'] o.type #[a.eval x,a.eval y]).run F.P m.w= .ok v w' ->(execOp a.eval o).run F.P m.w= .ok (.value v) w' :=by
   intro v w' hv;simp only [execOp,ho,resolve,invoke,builtin,Sem.run_bind,Sem.run_pure,Result.andThen_ok,List.map_toArray,D83,List.map_nil,hv]
  have fin: ∀m2:G7,M4 F a m2->m2.A=m.A->m2.s=m.s.put (.tok k) (.tok e 1 (P0 xs i (ys.take n)))-> ∃β τ ok,M4 F (a.put o.dst (.int .i64 ((ys.take n).length:Nat))) ⟨m.s.apply (dst o.dst (.int .i64 ((ys.take n).length:Nat))++ [(.tok k, .tok e 1 (P0 xs i (ys.take n)))]),β,τ,fun i=>m.A i\/i=id,ok,m2.w⟩:=by
   intro m2 h2 hA2 hs2;have h5:=(h2.mono (fun i=>m.A i\/i=id) (fun i hi=>Or.inl (by grind))).dst o.dst (.int .i64 ((ys.take n).length:Nat)) (.int .i64 ((ys.take n).length:Nat)) hd rfl
   rw [hs2] at h5;cases hod:o.dst with
   |none=>rw [hod] at h5;exact ⟨_,_,_,h5⟩
   |some d=>rw [hod] at h5;exact ⟨_,_,_,h5⟩
  have none_case:(ys.take n)= []->(∃dp dcap,a.eval x= .slice dp n dcap)-> ∃v w',(execOp a.eval o).run F.P m.w= .ok (.value v) w' /\ ∃β τ ok,M4 F (a.put o.dst v) ⟨m.s.apply (dst o.dst (.int .i64 ((ys.take n).length:Nat))++ [(.tok k, .tok e 1 (P0 xs i (ys.take n)))]),β,τ,fun i=>m.A i\/i=id,ok,w'⟩:=by
   rintro h0 ⟨dp,dcap,hx'⟩;have hl0:=congrArg List.length h0;rw [D8C,D8G] at hl0;have hrun:=run_copy_none (P:=F.P) m.w t t' o.type e' dp ya n dcap ys.length ycap ht hsize (by grind)
   rw [<-hx',<-hy1] at hrun;refine ⟨_,_,hexec _ _ hrun, ?_⟩;have:=fin m hh rfl (by rw [h0,B5r,A8w _ _ _ _ _ hq])
   rw [h0] at this⊢;exact this
  cases hτ:m.τ k with
  |none=>
   have hx0:=t2 hτ;subst hx0;have hn0:n=0:=by grind
   subst hn0;exact none_case (by simp) ⟨_,_,gN hτ⟩
  |some p=>
   obtain ⟨b,oo,cap⟩:=p;obtain ⟨o',cap',hx',_,hoo⟩:=gS b oo cap hτ
   by_cases h0:ys.take n= []
   ·exact none_case h0 ⟨_,_,hx'⟩
   ·have hlt:0<(ys.take n).length:=List.length_pos_iff.2 h0;rw [D8C] at hlt;obtain ⟨ad,hya,hsp,hcell⟩:=hy3 (by omega)
    obtain ⟨_,c1,c2,cur,c3,c4,c5⟩:=t3 b oo cap hτ;have ho' :=(hoo (by omega)).1
    rw [Nat.mul_one] at ho';subst ho';have hul:(us.take n).length=(ys.take n).length:=by rw [D8C,D8C,hy2]
    have hrun:=run_copy_row F.P m.w t t' o.type e' b (oo+i) n cap' ad ys.length ycap cur e (us.take n) ht hsize c3 (by rw [hul,D8C,Nat.min_comm])
     (fun j v hj=>hcell j v (by grind)) (by grind) (fun v hv=>by
      obtain ⟨j,hj⟩:=List.mem_iff_getElem?.1 (List.mem_of_mem_take hv);have hjl:j<ys.length:=by grind
      obtain ⟨x1,hx1⟩:=List.length_eq_one_iff.1 (hz _ (D8Z hjl));obtain ⟨u,e1,e2⟩:=hy4 j _ x1 (D8o hjl) (by grind)
      rw [e1] at hj;cases hj;exact e2.oneCell)
    rw [<-hx',<-hya,<-hy1,hul] at hrun;refine ⟨_,_,hexec _ _ hrun, ?_⟩;have h6:=C5D hh k b oo cap e xs (ys.take n) i cur (us.take n) hq hτ c3 (by grind) (fun c hc=>hz c (List.mem_of_mem_take hc)) hul (fun j c x' hj hc=>by
     grind)
    rw [hul] at h6;exact fin _ h6 rfl rfl
theorem C6g {P:Program} (w:World) (t t' ty e':TypeId) (ht:P.underlying t=some (.slice e')) (ei:TI) (he:Q9 P e' ei) (b oo n cap e:Nat) (cur:Array Value) (hcur:w.heap[b]? =some (.cells cur e (0,0)))
  (y:Value) (yn:Nat) (news:List Value) (hlen:(Builtin.lenOf y).run P w= .ok yn w) (hf:(Builtin.firstCells ei.size (Nat.min yn n) y).run P w= .ok news.toArray w) (h1:∀v∈news,v.oneCell' =true) (hfit:oo+news.length<=cur.size):
  (Builtin.copy_ #[t,t'] ty #[.slice (some ⟨b,oo,none⟩) n cap,y]).run P w= .ok (goInt (Nat.min yn n)) (w.setRow b (cur.toList.take oo++news++cur.toList.drop (oo+news.length)).toArray):=by
 have hst:=run_storeCells_at P b oo e news 0 cur w hcur (by omega) h1
 have hs:=he.size w;simp only [Nat.add_zero] at hst;simp [Builtin.copy_,run_underlying ht,hs,hlen,hf,hst]
theorem C4u {P:Program} (w:World) (t t' ty e':TypeId) (ht:P.underlying t=some (.slice e')) (ei:TI) (he:Q9 P e' ei)
  (y:Value) (yn:Nat) (hlen:(Builtin.lenOf y).run P w= .ok yn w) (hf:(Builtin.firstCells ei.size 0 y).run P w= .ok #[] w):
  (Builtin.copy_ #[t,t'] ty #[.slice none 0 0,y]).run P w= .ok (goInt 0) w:=by
 have hs:=he.size w;have e0:Nat.min yn 0=0:=Nat.min_zero yn;simp [Builtin.copy_,run_underlying ht,hs,hlen,hf]
theorem B4q.firstN {m:G7} {xs:List (List AV)} {v:Value} {sz:Nat} {ad:Option Addr} {cap:Nat} {news:List Value} (h:B4q m xs v sz ad cap news) (P:Program) (n:Nat) (hn:n<=xs.length):
  (Builtin.firstCells sz n v).run P m.w= .ok (news.take (n*sz)).toArray m.w:=by
 rw [h.eq];cases ad with
 |none=>
  have:=h.nil rfl;subst this;have hnn:news= []:=D8V (by simpa using h.fr.len)
  subst hnn;simp
  rfl
 |some a=>exact run_firstCells_some (P:=P) m.w sz n a xs.length cap (news.take (n*sz)) (by
   rw [D8C,h.fr.len]
   simp_all) (fun j u hj=>h.cell a rfl j u (by
   grind))
theorem C7h {F:Fr} {A:Nat->Prop} {id:Nat} {o:Oper} {s:AS} (hd:∀k,o.dst=some k->k<F.N) (x y:Operand) (t t' e':TypeId)
  (ho:o.op= .call { callee:= .builtin .copy,args:= #[x,y],argTypes:= #[t,t']}) (ht:F.P.underlying t=some (.slice e')) (ei:TI) (he:Q9 F.P e' ei)
  (k e sz:Nat) (h1:ei.size=sz) (xs ys:List (List AV)) (hx:s.val x= .own k) (hy:A4H s sz (s.val y)=some ys) (hq:s (.tok k)= .tok e sz xs):
  OpOk F A id o s (dst o.dst (.int .i64 ((ys.take xs.length).length:Nat))++ [(.tok k, .tok e sz (P0 xs 0 (ys.take xs.length)))]):=
 A5h fun a m hh hs hA hid=>by
  subst hs hA h1;have hv:J8 m (.own k) (a.eval x):=by have:=hh.val x;rw [hx] at this;exact this
  obtain ⟨yad,ycap,news,hr⟩:=B5n hh (hh.val y) hy;have hylen:(Builtin.lenOf (a.eval y)).run F.P m.w= .ok ys.length m.w:=by rw [hr.eq];rfl
  have hexec: ∀v w',(Builtin.copy_ #[t,t'] o.type #[a.eval x,a.eval y]).run F.P m.w= .ok v w' ->(execOp a.eval o).run F.P m.w= .ok (.value v) w' :=by
   intro v w' hv;simp only [execOp,ho,resolve,invoke,builtin,Sem.run_bind,Sem.run_pure,Result.andThen_ok,List.map_toArray,D83,List.map_nil,hv]
  have fin: ∀m2:G7,M4 F a m2->m2.A=m.A->m2.s=m.s.put (.tok k) (.tok e ei.size (P0 xs 0 (ys.take xs.length)))-> ∃β τ ok,M4 F (a.put o.dst (.int .i64 ((ys.take xs.length).length:Nat))) ⟨m.s.apply (dst o.dst (.int .i64 ((ys.take xs.length).length:Nat))++ [(.tok k, .tok e ei.size (P0 xs 0 (ys.take xs.length)))]),β,τ,fun i=>m.A i\/i=id,ok,m2.w⟩:=by
   intro m2 h2 hA2 hs2;have h5:=(h2.mono (fun i=>m.A i\/i=id) (fun i hi=>Or.inl (by grind))).dst o.dst (.int .i64 ((ys.take xs.length).length:Nat)) (.int .i64 ((ys.take xs.length).length:Nat)) hd rfl
   rw [hs2] at h5;cases hod:o.dst with
   |none=>rw [hod] at h5;exact ⟨_,_,_,h5⟩
   |some d=>rw [hod] at h5;exact ⟨_,_,_,h5⟩
  have hmin:Nat.min ys.length xs.length=(ys.take xs.length).length:=by rw [D8C,Nat.min_comm]
  rcases A6L hh.mr hv hq with ⟨_,hve,hxs⟩|⟨b,oo,cap,cur,hτ,hve,hcur,hfit,hle,hmax,hrx⟩
  ·subst hxs;have hrun:=C4u (P:=F.P) m.w t t' o.type e' ht ei he (a.eval y) ys.length hylen (by have:=hr.firstN F.P 0 (Nat.zero_le _);grind)
   rw [<-hve] at hrun;refine ⟨_,_,hexec _ _ hrun, ?_⟩;exact fin m hh rfl (by
    have:P0 ([]:List (List AV)) 0 (ys.take ([]:List (List AV)).length)= []:=rfl;rw [this,A8w _ _ _ _ _ hq])
  ·have hn:(ys.take xs.length).length<=ys.length:=by grind
   have hn2:(ys.take xs.length).length<=xs.length:=by grind
   have hf:=hr.firstN F.P _ hn;have hyt:ys.take (ys.take xs.length).length=ys.take xs.length:=by
    simp
   have hfr1:=hr.fr.take _ hn;rw [hyt] at hfr1;have hfr2:=hrx.fr.drop (ys.take xs.length).length;have hfr:=hfr1.append hfr2;have hnl:=hfr1.len
   generalize hnw:news.take ((ys.take xs.length).length*ei.size)=nw at*
   have hxl:=hrx.fr.len;have hm1:(ys.take xs.length).length*ei.size<=xs.length*ei.size:=D8y _ hn2;have hm2:xs.length*ei.size<=cap*ei.size:=D8y _ hle;have hrun:=C6g (P:=F.P) m.w t t' o.type e' ht ei he b oo xs.length cap e cur hcur (a.eval y) ys.length nw hylen (by grind) (fun v hv=>by
    obtain ⟨j,hj⟩:=List.mem_iff_getElem?.1 hv;have hjl:j<(ys.take xs.length).length*ei.size:=by grind
    obtain ⟨d1,d2,d3⟩:=B6p hjl;have hi:=D8o d1;have hc:=hfr1.esz _ (D8Z d1);obtain ⟨u,e1,e2⟩:=hfr1.at_ _ (j%ei.size) _ _ hi (D8o (by omega))
    rw [d3,hj] at e1;cases e1;exact e2.oneCell) (by omega)
   rw [<-hve] at hrun;refine ⟨_,_,hexec _ _ hrun, ?_⟩;have hsp:P0 xs 0 (ys.take xs.length)=ys.take xs.length++xs.drop (ys.take xs.length).length:=by
    unfold P0;simp
   have h6:=hh.setTok k b oo cap e ei.size xs (P0 xs 0 (ys.take xs.length)) cur (cur.toList.take oo++nw++cur.toList.drop (oo+nw.length)).toArray hq hτ hcur (by
    grind) (fun c hc=>by rw [hsp] at hc;exact hfr.esz c hc) (by
    grind) (by
    rw [hsp];exact A5H hfr _ oo (fun j u hj=>by
     simp only [List.getElem?_toArray];rw [D8E];have htl:(cur.toList.take oo).length=oo:=by simp;omega
     rw [D8A (by omega),htl,show oo+j-oo=j by omega]
     grind))
   rw [hmin];exact fin _ h6 rfl rfl
theorem C4t {P:Program} (w:World) (t ty e':TypeId) (ht:P.underlying t=some (.slice e')) (ei:TI) (he:Q9 P e' ei) (kk:IntKind) (z:Int) (hz:ei.zero= [.int kk z]) (h1:ei.size=1)
  (b o n cap e:Nat) (cur:Array Value) (hg:w.heap[b]? =some (.cells cur e (0,0))) (hfit:o+n<=cur.size):
  (Builtin.clear_ #[t] ty #[.slice (some ⟨b,o,none⟩) n cap]).run P w= .ok (.tuple #[]) (w.setRow b (cur.toList.take o++List.replicate n (Value.int kk z)++cur.toList.drop (o+(List.replicate n (Value.int kk z)).length)).toArray):=by
 obtain ⟨i,i1,i2,i3,z0,i4,z1,z2,z3⟩:=he.info;obtain ⟨u,u1,u2,u3⟩:=z3 0 (.int kk z) (by rw [hz];rfl)
 have hu:u= .int kk z:=by cases u3;rfl
 subst hu;have hcells:z0.cells= #[.int kk z]:=by
  grind
 have hzc:(Builtin.zeroCells z0.cells n).toList=List.replicate n (Value.int kk z):=by
  rw [hcells];unfold Builtin.zeroCells;simp [Nat.mod_one,List.map_const']
 have hst:=run_storeCells_at P b o e (List.replicate n (.int kk z)) 0 cur w hg (by grind) (fun v hv=>by grind)
 cases n with
 |zero=>
  simp [Builtin.clear_,run_underlying ht];rw [setRow_self w b cur e (0,0) hg]
 |succ n=>
  simp only [Nat.add_zero] at hst;simp [Builtin.clear_,run_underlying ht,zeroValue,typeInfo,i1,i4,hzc,hst]
theorem D2T {F:Fr} {A:Nat->Prop} {id:Nat} {o:Oper} {s:AS} (hd:∀k,o.dst=some k->k<F.N) (x:Operand) (t e':TypeId)
  (ho:o.op= .call { callee:= .builtin .clear,args:= #[x],argTypes:= #[t]}) (ht:F.P.underlying t=some (.slice e')) (ei:TI) (he:Q9 F.P e' ei) (h1:ei.size=1) (kk:IntKind) (z:Int) (hz:ei.zero= [.int kk z])
  (k i n e:Nat) (xs:List (List AV)) (hx:s.val x= .vw k i n) (hq:s (.tok k)= .tok e 1 xs):
  OpOk F A id o s (dst o.dst (.tup [])++ [(.tok k, .tok e 1 (P0 xs i (List.replicate n [.int kk z])))]):=
 A5h fun a m hh hs hA hid=>by
  subst hs hA;have hv:J8 m (.vw k i n) (a.eval x):=by have:=hh.val x;rw [hx] at this;exact this
  obtain ⟨_,_,hvv⟩:=hv;obtain ⟨g0,gN,gS⟩:=hvv e 1 xs hq;obtain ⟨_,t0,t1,t2,t3⟩:=hh.mr.tok k e 1 xs hq;have hexec: ∀v w',(Builtin.clear_ #[t] o.type #[a.eval x]).run F.P m.w= .ok v w' ->(execOp a.eval o).run F.P m.w= .ok (.value v) w' :=by
   intro v w' hv;simp only [execOp,ho,resolve,invoke,builtin,Sem.run_bind,Sem.run_pure,Result.andThen_ok,List.map_toArray,D83,List.map_nil,hv]
  have fin: ∀m2:G7,M4 F a m2->m2.A=m.A->m2.s=m.s.put (.tok k) (.tok e 1 (P0 xs i (List.replicate n [.int kk z])))-> ∃β τ ok,M4 F (a.put o.dst (.tuple #[])) ⟨m.s.apply (dst o.dst (.tup [])++ [(.tok k, .tok e 1 (P0 xs i (List.replicate n [.int kk z])))]),β,τ,fun i=>m.A i\/i=id,ok,m2.w⟩:=by
   intro m2 h2 hA2 hs2;have h5:=(h2.mono (fun i=>m.A i\/i=id) (fun i hi=>Or.inl (by grind))).dst o.dst (.tup []) (.tuple #[]) hd ⟨#[],rfl,rfl,fun j c hj=>by simp at hj⟩
   rw [hs2] at h5;cases hod:o.dst with
   |none=>rw [hod] at h5;exact ⟨_,_,_,h5⟩
   |some d=>rw [hod] at h5;exact ⟨_,_,_,h5⟩
  cases hτ:m.τ k with
  |none=>
   have hx0:=t2 hτ;subst hx0;have hn0:n=0:=by grind
   subst hn0;have hrun:(Builtin.clear_ #[t] o.type #[.slice none 0 0]).run F.P m.w= .ok (.tuple #[]) m.w:=by
    simp [Builtin.clear_,run_underlying ht]
   rw [<-gN hτ] at hrun;exact ⟨_,_,hexec _ _ hrun,fin m hh rfl (by rw [List.replicate_zero,B5r,A8w _ _ _ _ _ hq])⟩
  |some p=>
   obtain ⟨b,oo,cap⟩:=p;obtain ⟨o',cap',hx',_,hoo⟩:=gS b oo cap hτ;obtain ⟨_,c1,c2,cur,c3,c4,c5⟩:=t3 b oo cap hτ
   by_cases hn0:n=0
   ·subst hn0;have hrun:(Builtin.clear_ #[t] o.type #[.slice (some ⟨b,o',none⟩) 0 cap']).run F.P m.w= .ok (.tuple #[]) m.w:=by
     simp [Builtin.clear_,run_underlying ht]
    rw [<-hx'] at hrun;exact ⟨_,_,hexec _ _ hrun,fin m hh rfl (by rw [List.replicate_zero,B5r,A8w _ _ _ _ _ hq])⟩
   ·have ho' :=(hoo (by omega)).1
    rw [Nat.mul_one] at ho';subst ho';have hrun:=C4t (P:=F.P) m.w t o.type e' ht ei he kk z hz h1 b (oo+i) n cap' e cur c3 (by omega)
    rw [<-hx'] at hrun;refine ⟨_,_,hexec _ _ hrun, ?_⟩;have h6:=C5D hh k b oo cap e xs (List.replicate n [.int kk z]) i cur (List.replicate n (.int kk z)) hq hτ c3 (by grind) (fun c hc=>by grind) (by simp) (fun j c x' hj hc=>by
     rw [List.getElem?_replicate] at hj;split at hj
     ·rename_i hjn;cases hj;cases hc;exact ⟨.int kk z,by rw [List.getElem?_replicate,if_pos hjn], .int kk z⟩
     ·cases hj)
    exact fin _ h6 rfl rfl
end Go.Vc
namespace Go.Vc
open Go.RowKit
def FV (s:AS) (fop:Operand) (f:FuncId) (bs cs:List AV):Prop:=(s.val fop= .fn f/\bs= []/\cs= [])\/(s.val fop= .clo f bs cs/\(bs++cs).all A5d=true)
def B6g (F:Fr) (A:Nat->Prop) (id:Nat) (o:Oper) (s:AS):B03->Prop
 | .ok e=>OpOk F A id o s e
 | .side p e=>p->OpOk F A id o s e
 | .elem xs i f=> ∀c,0<=i->xs[i.toNat]? =some c->OpOk F A id o s (f c)
 | .call f args d=> ∃fop as ts bs cs,o.op= .call { callee:= .value fop,args:=as,argTypes:=ts}/\FV s fop f bs cs/\args=bs++(as.toList.map s.val++cs)/\d=o.dst
 | .bad=>True
theorem W5 {a b:Nat} (h:Nat.blt a b=true):a<b:=by simp_all
theorem C8S {c:Array Operand} {f:Operand->AV} {x:AV} (h:c.toList.map f= [x]): ∃a,c= #[a]/\f a=x:=by
 obtain ⟨l⟩:=c
 match l,h with
 | [a],h=>grind
theorem C00 {c:Array Operand} {f:Operand->AV} {x y:AV} (h:c.toList.map f= [x,y]): ∃a b,c= #[a,b]/\f a=x/\f b=y:=by
 obtain ⟨l⟩:=c
 match l,h with
 | [a,b],h=>
  grind
section
variable {F:Fr} {A:Nat->Prop} {id:Nat} {o:Oper} {s:AS} {T:I4} (hT:A0v F.P T) (hd: ∀k,o.dst=some k->k<F.N)
include hT hd
theorem D0k (op:BinOp) (t:TypeId) (x y:Operand) (t':TypeId) (ho:o.op= .binOp op t x y t'):B6g F A id o s (C45 T op t o.dst (s.val x) (s.val y)):=by
 unfold C45;split
 ·rename_i k a k' b hx hy;split
  ·exact fun h=>C5T hd .shl t x y t' ho k k' a b hx hy h (.inl rfl)
  ·exact fun h=>C5T hd .shr t x y t' ho k k' a b hx hy h (.inr rfl)
  ·split
   ·rename_i hk;have hk' :k=k' :=by grind
    subst hk';exact fun h=>D1c hd .quo t x y t' ho k a b hx hy h (.inl rfl)
   ·trivial
  ·split
   ·rename_i hk;have hk' :k=k' :=by grind
    subst hk';exact fun h=>D1c hd .rem t x y t' ho k a b hx hy h (.inr rfl)
   ·trivial
  ·split
   ·rename_i v hk hv;have hk' :k=k' :=by grind
    subst hk';exact D1e hd _ t x y t' ho k a b hx hy v hv
   ·trivial
 ·rename_i as bs hx hy;split
  ·rename_i ti hti;split
   ·rename_i k ks r hp hr;exact C5Q hd .eql t x y t' ho ti (hT _ _ hti) as bs hx hy r hr (by grind) (.inl rfl)
   ·rename_i k ks r hp hr;exact C5Q hd .neq t x y t' ho ti (hT _ _ hti) as bs hx hy r hr (by grind) (.inr rfl)
   ·trivial
  ·trivial
 ·split
  ·rename_i p q ti hp hq hti;have hk:=(hT _ _ hti).kind;split
   ·rename_i hki;rw [hki] at hk;exact C3S hd .eql t x y t' ho p q hp hq hk (.inl rfl)
   ·rename_i hki;rw [hki] at hk;exact C3S hd .neq t x y t' ho p q hp hq hk (.inr rfl)
   ·trivial
  ·trivial
omit hT in
theorem D3p (op:UnOp) (t:TypeId) (x:Operand) (ho:o.op= .unOp op t x):B6g F A id o s (C90 op o.dst (s.val x)):=by
 unfold C90;split
 ·rename_i b hx;exact C4O hd .not t x ho (.bool (!b)) (fun m u hu=>by
   rw [hx] at hu;have hu' :u= .bool b:=hu;subst hu';exact ⟨.bool (!b),fun P w=>⟨rfl,rfl⟩⟩)
 ·rename_i b hx;exact C4O hd .not t x ho (.sb (!b)) (fun m u hu=>by
   rw [hx] at hu;have hu' :u= .bool b:=hu;subst hu';exact ⟨.bool (!b),fun P w=>⟨rfl,rfl⟩⟩)
 ·rename_i k n hx;exact C4O hd .neg t x ho _ (fun m u hu=>by
   rw [hx] at hu;have hu' :u= .int k n:=hu;subst hu';exact ⟨_,fun P w=>⟨rfl,rfl⟩⟩)
 ·rename_i k n hx;exact C4O hd .xor t x ho _ (fun m u hu=>by
   rw [hx] at hu;have hu' :u= .int k n:=hu;subst hu';exact ⟨_,fun P w=>⟨rfl,rfl⟩⟩)
 ·trivial
omit hd in
theorem X1 {t e:Nat} {ti:TI} (hti:I4.find T t=some ti) (hk:ti.kind= .slice e):F.P.underlying t=some (.slice e):=by
 have:=(hT _ _ hti).kind;rw [hk] at this;exact this
theorem C41 (x y:Operand) (t:TypeId) (ho:o.op= .call { callee:= .builtin .append,args:= #[x,y],argTypes:= #[t,t]}):B6g F A id o s (A3I s T id o.dst t (s.val x) (s.val y)):=by
 unfold A3I;split
 ·rename_i ti hti;split
  ·rename_i e hk;have ht:=X1 hT hti hk;split
   ·rename_i ei hei;have he:=hT _ _ hei;split
    ·rename_i ys hp hy;have hp' :=W5 hp;split
     ·rename_i k hx;split
      ·rename_i e' sz xs hs;split
       ·rename_i hc;simp only [D8i] at hc;have h1:=D8j hc.1;have h2:=D8j hc.2;subst h1 h2;exact fun ⟨h3,h4⟩=>B8s hd x y t e' ho ht ei he hp' ys hy xs _ h3 h4 (.inl ⟨k,hx,hs,rfl⟩)
       ·trivial
      ·trivial
     ·rename_i hx;exact fun ⟨h3,h4⟩=>B8s hd x y t e ho ht ei he hp' ys hy [] _ (by grind) (by grind) (.inr (.inl ⟨hx,rfl,rfl⟩))
     ·rename_i sz xs hx;split
      ·rename_i hc;have h1:=D8j hc;subst h1;exact fun ⟨h2,h3,h4⟩=>B8s hd x y t e ho ht ei he hp' ys hy xs _ h3 h4 (.inr (.inr ⟨hx,h2,rfl⟩))
      ·trivial
     ·rename_i k i n hx;split
      ·rename_i e' sz xs hs;split
       ·rename_i hc;simp only [D8i] at hc;have h0:=D8j hc.1;have h1:=D8j hc.2.1;have h2:=D8j hc.2.2;subst h0 h1 h2;exact fun ⟨h3,h4⟩=>C5R hd x y t e' ho ht ei he hp' ys hy k n xs hx hs h3 h4
       ·trivial
      ·trivial
     ·trivial
    ·trivial
   ·trivial
  ·trivial
 ·trivial
theorem C4i (b:Builtin) (args:Array Operand) (ts:Array TypeId) (ho:o.op= .call { callee:= .builtin b,args:=args,argTypes:=ts}):
  B6g F A id o s (A61 s T id o.dst b ts (args.toList.map s.val)):=by
 unfold A61;split
 ·split
  ·rename_i b n t hx ht;obtain ⟨a,rfl,ha⟩:=C8S hx;split
   ·rename_i cs ti hb hti;split
    ·rename_i e hk;exact D4D hd a ts ho t e (by
      obtain ⟨l⟩:=ts
      grind) (X1 hT hti hk) b n ha cs hb
    ·trivial
   ·trivial
  ·rename_i x t _ hx ht;obtain ⟨a,rfl,rfl⟩:=C8S hx;split
   ·rename_i ti xs hti hxs;split
    ·rename_i e hk;intro c _ hc;have hc' :c= [.int .i64 xs.length]:=(D8T hc).symm;subst hc';exact D53 hd a ts ho t e (by
      obtain ⟨l⟩:=ts
      grind) (X1 hT hti hk) xs hxs
    ·trivial
   ·trivial
  ·trivial
 ·split
  ·rename_i k a k' b hx;obtain ⟨p,q,rfl,hp,hq⟩:=C00 hx;split
   ·rename_i hk;have hk' :k=k' :=by grind
    subst hk';exact C3T hd .min (.inl rfl) p q ts ho k a b hp hq
   ·trivial
  ·trivial
 ·split
  ·rename_i k a k' b hx;obtain ⟨p,q,rfl,hp,hq⟩:=C00 hx;split
   ·rename_i hk;have hk' :k=k' :=by grind
    subst hk';exact C3T hd .max (.inr rfl) p q ts ho k a b hp hq
   ·trivial
  ·trivial
 ·split
  ·rename_i x y t t' hx ht;obtain ⟨p,q,rfl,rfl,rfl⟩:=C00 hx;split
   ·rename_i hk;have hk' :=D8j hk;subst hk';have hts:ts= #[t,t]:=by
     obtain ⟨l⟩:=ts;simp only at ht;rw [ht]
    subst hts;exact C41 hT hd p q t ho
   ·trivial
  ·trivial
 ·split
  ·rename_i k i n sz' f ys t t' hx ht;obtain ⟨p,q,rfl,hp,hq⟩:=C00 hx;split
   ·rename_i e sz xs ti hs hti;split
    ·rename_i e' hk;split
     ·rename_i ei hei;split
      ·rename_i hc;simp only [D8i] at hc;have c1:=D8j hc.1;have c2:=D8j hc.2.1;have c3:=D8j hc.2.2;subst c1 c2;have hts:ts= #[t,t']:=by
        obtain ⟨l⟩:=ts;simp only at ht;rw [ht]
       subst hts;exact D4C hd p q t t' e' ho (X1 hT hti hk) ei (hT _ _ hei) c3 k i n e f xs ys hp hq hs
      ·trivial
     ·trivial
    ·trivial
   ·trivial
  ·rename_i k y t t' hx ht;obtain ⟨p,q,rfl,hp,hq⟩:=C00 hx;split
   ·rename_i e sz xs ti hs hti;split
    ·rename_i e' hk;split
     ·rename_i ei hei;split
      ·rename_i ys hc hy;have hts:ts= #[t,t']:=by
        obtain ⟨l⟩:=ts;simp only at ht;rw [ht]
       subst hts;exact C7h hd p q t t' e' ho (X1 hT hti hk) ei (hT _ _ hei) k e sz (D8j hc) xs ys hp (by grind) hs
      ·trivial
     ·trivial
    ·trivial
   ·trivial
  ·trivial
 ·split
  ·rename_i k i n t hx ht;obtain ⟨p,rfl,hp⟩:=C8S hx;split
   ·rename_i e sz xs ti hs hti;split
    ·rename_i e' hk;split
     ·rename_i ei hei;split
      ·rename_i kk z hz;split
       ·rename_i hc;simp only [D8i] at hc;have c1:=D8j hc.1;have c3:=D8j hc.2;subst c1;have hts:ts= #[t]:=by
         obtain ⟨l⟩:=ts;simp only at ht;rw [ht]
        subst hts;exact D2T hd p t e' ho (X1 hT hti hk) ei (hT _ _ hei) c3 kk z hz k i n e xs hp hs
       ·trivial
      ·trivial
     ·trivial
    ·trivial
   ·trivial
  ·trivial
 ·trivial
theorem C7P (t e:TypeId) (ti ei:TI) (hti:I4.find T t=some ti) (hk:ti.kind= .slice e) (hei:I4.find T e=some ei) (x:Operand) (lo hi mx:Option Operand) (ho:o.op= .slice t x lo hi mx):
  B6g F A id o s (A80 s id o.dst ei.size (s.val x) (lo.map s.val) (hi.map s.val) (mx.map s.val)):=by
 have ht:=X1 hT hti hk;have he:=hT _ _ hei;unfold A80;split
 ·rename_i sz f xs hx;split
  ·rename_i hb;have:=D8j hb;subst this;split
   ·rename_i k h h1 h2 h3;cases lo<;>cases hi<;>cases mx<;>simp at h1 h2 h3
    rename_i y;exact fun ⟨p,q⟩=>B1f hd t e x _ _ _ ho ht ei he f xs hx _ (.inl ⟨y,k,h,rfl,rfl,rfl,h2,p,q,rfl⟩)
   ·rename_i k l h1 h2 h3;cases lo<;>cases hi<;>cases mx<;>simp at h1 h2 h3
    rename_i y;exact fun ⟨p,q⟩=>B1f hd t e x _ _ _ ho ht ei he f xs hx _ (.inr (.inl ⟨y,k,l,rfl,rfl,rfl,h1,p,q,rfl⟩))
   ·rename_i k l k' h h1 h2 h3;cases lo<;>cases hi<;>cases mx<;>simp at h1 h2 h3
    rename_i y y';exact fun ⟨p,q,r⟩=>B1f hd t e x _ _ _ ho ht ei he f xs hx _ (.inr (.inr (.inl ⟨y,y',k,k',l,h,rfl,rfl,rfl,h1,h2,p,q,r,rfl⟩)))
   ·rename_i k h k' q h1 h2 h3;cases lo<;>cases hi<;>cases mx<;>simp at h1 h2 h3
    rename_i y y';exact fun ⟨p,r,u⟩=>B1f hd t e x _ _ _ ho ht ei he f xs hx _ (.inr (.inr (.inr ⟨y,y',k,k',h,q,rfl,rfl,rfl,h2,h3,p,r,u,rfl⟩)))
   ·trivial
  ·trivial
 ·rename_i k hx;split
  ·rename_i e' sz xs hs;split
   ·rename_i hb;have:=D8j hb;subst this;split
    ·rename_i kk h h1 h2 h3;cases lo<;>cases hi<;>cases mx<;>simp at h1 h2 h3
     rename_i y;exact fun ⟨p,q⟩=>B91 hd t e x _ _ _ ho ht ei he k e' xs hx hs _ (.inl ⟨y,kk,h,rfl,rfl,rfl,h2,p,q,rfl⟩)
    ·rename_i kk l h1 h2 h3;cases lo<;>cases hi<;>cases mx<;>simp at h1 h2 h3
     rename_i y;exact fun ⟨p,q⟩=>B91 hd t e x _ _ _ ho ht ei he k e' xs hx hs _ (.inr ⟨y,kk,l,rfl,rfl,rfl,h1,p,q,rfl⟩)
    ·trivial
   ·trivial
  ·trivial
 ·rename_i k hx;split
  ·rename_i e' sz xs hs;split
   ·rename_i hb;have:=D8j hb;subst this;split
    ·rename_i kk h h1 h2 h3;cases lo<;>cases hi<;>cases mx<;>simp at h1 h2 h3
     rename_i y;exact fun ⟨p,q⟩=>B90 hd t e x _ _ _ ho ht ei he k e' xs hx hs _ (.inl ⟨y,kk,h,rfl,rfl,rfl,h2,p,q,rfl⟩)
    ·rename_i kk l h1 h2 h3;cases lo<;>cases hi<;>cases mx<;>simp at h1 h2 h3
     rename_i y;exact fun ⟨p,q⟩=>B90 hd t e x _ _ _ ho ht ei he k e' xs hx hs _ (.inr ⟨y,kk,l,rfl,rfl,rfl,h1,p,q,rfl⟩)
    ·trivial
   ·trivial
  ·trivial
 ·trivial
theorem D1j:B6g F A id o s (B1F T id s o):=by
 unfold B1F;split
 ·rename_i x ho;exact C8n hd x (.inl ho)
 ·rename_i x ho;exact C8n hd x (.inr ho)
 ·rename_i c x y ho;split
  ·rename_i hc;have:=C8o (A:=A) (id:=id) hd c x y ho true hc;exact this
  ·rename_i hc;have:=C8o (A:=A) (id:=id) hd c x y ho false hc;exact this
  ·trivial
 ·rename_i t ho;split
  ·rename_i ti hti;exact D2R hd t ho ti (hT _ _ hti)
  ·trivial
 ·rename_i t x ho;split
  ·rename_i hs;exact D50 hd t x ho hs
  ·trivial
 ·rename_i t ps ho;split
  ·rename_i ti hti;split
   ·rename_i fs hk;split
    ·rename_i cs hf;exact D2S hd t ps ho ti (hT _ _ hti) fs hk cs hf
    ·trivial
   ·trivial
  ·trivial
 ·rename_i t n ps ho;split
  ·rename_i ti hti;split
   ·rename_i e hk;split
    ·rename_i ei hei;split
     ·rename_i xs ks hf;split
      ·rename_i hc;simp only [D8i] at hc;exact C4l hd t e n ps ho (X1 hT hti hk) ei (hT _ _ hei) xs ks hf (D8H hc.1) (W5 hc.2.1) hc.2.2
      ·trivial
     ·split
      ·rename_i z hz;split
       ·rename_i cs hf;split
        ·rename_i hc;simp only [D8i] at hc;exact C2G hd t e n ps ho (X1 hT hti hk) ei (hT _ _ hei) z hz cs hf (D8j hc.1) (D8H hc.2.1) hc.2.2
        ·trivial
       ·trivial
      ·trivial
    ·trivial
   ·trivial
  ·trivial
 ·rename_i t x ho;split
  ·rename_i ti hti;split
   ·rename_i b off hx;split
    ·rename_i cs hb;split
     ·rename_i hc;simp only [D8i] at hc;exact C1B hd t x ho ti (hT _ _ hti) b off (.inl hx) cs hb (D8H hc.1) (W5 hc.2)
     ·trivial
    ·trivial
   ·rename_i cs hx;split
    ·rename_i hc;simp only [D8i] at hc;exact D1f hd t x ho ti (hT _ _ hti) cs hx (D8H hc.1) (W5 hc.2)
    ·trivial
   ·rename_i q i j hx;split
    ·rename_i e sz xs hs;split
     ·rename_i hc;simp only [D8i] at hc;exact fun c _ h1=>C9x hd t x ho ti (hT _ _ hti) q i j e sz xs hx hs (D8H hc.1) (W5 hc.2) c h1
     ·trivial
    ·trivial
   ·rename_i b i hx;split
    ·rename_i cs hb;split
     ·rename_i hc;have h1:=D8j hc;intro c _ hcs;simp only [D8Q,D8J] at hcs;cases hci:cs[i]? with
      |none=>grind
      |some v=>
       rw [hci] at hcs;cases hcs;have hlt:i<cs.length:=(D8k.1 hci).1;have hv:cs[i]=v:=(D8k.1 hci).2;have:=C1B (A:=A) (id:=id) hd t x ho ti (hT _ _ hti) b i (.inr hx) cs hb (by omega) (by omega)
       rw [h1,List.drop_eq_getElem_cons hlt,hv] at this;exact this
     ·trivial
    ·trivial
   ·trivial
  ·trivial
 ·rename_i t x y ho;split
  ·rename_i ti hti;split
   ·rename_i hc;simp only [D8i] at hc;have hl:=D8j hc.1;split
    ·rename_i b off hx;split
     ·rename_i cs hb;split
      ·rename_i hc2;exact B92 hd t x y ho ti (hT _ _ hti) b off (.inl hx) cs hb hc.2 hl (D8H hc2)
      ·trivial
     ·trivial
    ·rename_i q i j hx;split
     ·rename_i e sz xs ds hs hds;split
      ·rename_i hc2;exact fun c _ h1=>C7m hd t x y ho ti (hT _ _ hti) q i j e sz xs hx hs (D8H hc2) ds hds hl c h1
      ·trivial
     ·trivial
    ·rename_i b i hx;split
     ·rename_i cs k n hb hy;split
      ·rename_i cs' hset;intro hlt;have h2:=(B42 k n i cs 0 cs' hset).2 (by omega) (by omega)
       rw [hy] at hl;have hl1:ti.size=1:=hl.symm;have:=B92 (A:=A) (id:=id) hd t x y ho ti (hT _ _ hti) b i (.inr hx) cs hb hc.2 (by grind) (by omega)
       rw [hy] at this;rw [h2];exact this
      ·trivial
     ·trivial
    ·trivial
   ·trivial
  ·trivial
 ·rename_i x ho;split
  ·rename_i i j hx;split
   ·rename_i cs hb;have:=B1e (A:=A) (id:=id) hd x ho (.inl ⟨i,j,cs,hx,hb⟩);rw [hx] at this;exact this
   ·trivial
  ·rename_i k i j hx;split
   ·rename_i e szz xs hb;have:=B1e (A:=A) (id:=id) hd x ho (.inr (.inr (.inr ⟨k,i,j,e,szz,xs,hx,hb⟩)));rw [hx] at this;exact this
   ·trivial
  ·rename_i cs hx;have:=B1e (A:=A) (id:=id) hd x ho (.inr (.inl ⟨cs,hx⟩));rw [hx] at this;exact this
  ·rename_i f hx;have:=B1e (A:=A) (id:=id) hd x ho (.inr (.inr (.inl ⟨f,hx⟩)));rw [hx] at this;exact this
  ·trivial
 ·rename_i op t x y t' ho;exact D0k hT hd op t x y t' ho
 ·rename_i op t x ho;exact D3p hd op t x ho
 ·rename_i a b x ho;split
  ·rename_i k n ta ti hx hta hti;split
   ·rename_i k' hk;have h1:=(hT _ _ hti).kind;rw [hk] at h1;obtain ⟨d,hd'⟩: ∃d,F.P.underlying a=some d:=by
     have h2:=(hT _ _ hta).kind;cases hka:ta.kind<;>rw [hka] at h2<;>simp only [B7H] at h2
     case struct=>grind
     case other=>grind
     case imap=>grind
     all_goals grind
    exact C9v hd a b x ho k' k n hx d hd' h1
   ·trivial
  ·trivial
 ·rename_i t l c ho;split
  ·rename_i ti k n k' q hti hl hc;split
   ·rename_i e hk;split
    ·rename_i ei zs hei hz;split
     ·rename_i hch;simp only [D8i] at hch;rw [hei] at hz;exact fun ⟨h1,h2,h3,h4⟩=>C5S hd t e l c ho (X1 hT hti hk) ei (hT _ _ hei) k k' n q hl hc zs hz (D8j hch.1.2) h1 h2 h3 h4 (W5 hch.1.1)
     ·trivial
    ·trivial
   ·trivial
  ·trivial
 ·rename_i t x lo hi mx ho;split
  ·rename_i ti hti;split
   ·rename_i e hk;split
    ·rename_i ei hei;exact C7P hT hd t e ti ei hti hk hei x lo hi mx ho
    ·trivial
   ·trivial
  ·trivial
 ·rename_i t x f ho;split
  ·rename_i ti hti;split
   ·rename_i fo sz hf;split
    ·rename_i i j hp hx;split
     ·rename_i cs hb;exact B3R hd t x f ho ti (hT _ _ hti) fo sz hf (W5 hp) _ (.inl ⟨i,j,cs,hx,hb,rfl⟩)
     ·trivial
    ·rename_i cs hp hx;exact B3R hd t x f ho ti (hT _ _ hti) fo sz hf (W5 hp) _ (.inr (.inl ⟨cs,hx,rfl⟩))
    ·rename_i q i j hp hx;split
     ·rename_i e szz xs hs;exact B3R hd t x f ho ti (hT _ _ hti) fo sz hf (W5 hp) _ (.inr (.inr ⟨q,i,j,e,szz,xs,hx,hs,rfl⟩))
     ·trivial
    ·trivial
   ·trivial
  ·trivial
 ·rename_i t x i ho;split
  ·rename_i ti hti;split
   ·rename_i e hk;split
    ·rename_i ei sz f xs k n hei hx hi;split
     ·rename_i hc;simp only [D8i] at hc;have:=D8j hc.1;subst this;exact fun c h0 h1=>C7k hd t e x i ho (X1 hT hti hk) ei (hT _ _ hei) f xs hx k n hi c h0 h1 (W5 hc.2)
     ·trivial
    ·rename_i ei q k n hei hx hi;split
     ·rename_i e' sz xs hs;split
      ·rename_i hc;have:=D8j hc;subst this;exact fun ⟨h0,h1⟩=>C7l hd t e x i ho (X1 hT hti hk) ei (hT _ _ hei) q e' xs hx hs k n hi h0 h1
      ·trivial
     ·trivial
    ·rename_i ei b n' k n hei hx hi;split
     ·rename_i cs hb;split
      ·rename_i hc;have h1:=D8j hc;exact fun ⟨h0,hn⟩=>C7j hd t e x i ho (X1 hT hti hk) ei (hT _ _ hei) h1 b n' hx cs hb k n hi h0 hn
      ·trivial
     ·trivial
    ·trivial
   ·rename_i len e hk;split
    ·rename_i ei b k n hei hx hi;split
     ·rename_i cs hb;split
      ·rename_i hc;simp only [D8i] at hc;have h1:=D8j hc.1;have ht:=(hT _ _ hti).kind;rw [hk] at ht;exact fun ⟨h0,hn⟩=>C7i hd t e len x i ho ht ei (hT _ _ hei) h1 b hx cs hb k n hi h0 hn
      ·trivial
     ·trivial
    ·trivial
   ·trivial
  ·trivial
 ·rename_i f first captured ho
  split
  ·rename_i hc;split
   ·rename_i h1 h2;exact B9Z hd f first captured ho hc _ (.inl ⟨rfl,h1,h2⟩)
   ·exact B9Z hd f first captured ho hc _ (.inr rfl)
  ·trivial
 ·rename_i t x k lok ho;split
  ·rename_i ti hti;split
   ·rename_i b fs n hk hx hn;have h1:=(hT _ _ hti).kind;rw [hk] at h1;exact fun c h0 hc=>D1g hd t x k ho h1 b fs hx n hn c h0 hc
   ·trivial
  ·trivial
 ·rename_i x i ho;split
  ·rename_i vs hx;split
   ·rename_i v hv;exact C9w hd x i ho vs hx v hv
   ·trivial
  ·trivial
 ·rename_i c ho;obtain ⟨callee,args,ts⟩:=c;split
  ·rename_i b hb;simp only at hb;subst hb;exact C4i hT hd b args ts ho
  ·rename_i fop hfop;simp only at hfop;subst hfop;split
   ·rename_i f hf;exact ⟨fop,args,ts, [], [],ho, .inl ⟨hf,rfl,rfl⟩,by simp,rfl⟩
   ·rename_i f bs cs hf;split
    ·rename_i hc;exact ⟨fop,args,ts,bs,cs,ho, .inr ⟨hf,hc⟩,rfl,rfl⟩
    ·trivial
   ·trivial
  ·trivial
 ·trivial
end
theorem B8Q: ∀(p c:List AV),(A5u p c).length=c.length
 | [],c=>by cases c<;>simp [A5u]
 |x::p, []=>by cases x<;>simp [A5u]
 |x::p,v::c=>by
  have ih:=B8Q p c;unfold A5u;split<;>simp_all
theorem C6E {w:World} {ok:Nat->Prop}: ∀(p c:List AV) (j:Nat) (y:AV),(A5u p c)[j]? =some y-> ∃x,c[j]? =some x/\ ∀u,PR w ok x u->PR w ok y u
 | [],c,j,y,h=>by
  have:A5u [] c=c:=by cases c<;>simp [A5u]
  grind
 |q::p, [],j,y,h=>by
  have:A5u (q::p) []= []:=by cases q<;>simp [A5u]
  grind
 |q::p,v::c,j,y,h=>by
  have ih:=C6E (w:=w) (ok:=ok) p c;have general: ∀v',A5u (q::p) (v::c)=v' ::A5u p c->(∀u,PR w ok v u->PR w ok v' u)-> ∃x,(v::c)[j]? =some x/\ ∀u,PR w ok x u->PR w ok y u:=by
   grind
  clear h ih
  by_cases hv:v= .nilS
  ·subst hv
   by_cases hq: ∃sz f,q= .lst sz f []
   ·obtain ⟨sz,f,rfl⟩:=hq;refine general _ rfl (fun u hu=> ?_);cases hu;exact .lst _ _ [] none 0 (fun _ _=> .bool false) (D8S _) (by simp) (fun _=>rfl) (by simp) (fun _=>rfl) (fun i j c x hi=>by simp at hi) (fun i j c x hi=>by simp at hi)
   ·refine general .nilS ?_ (fun _ h=>h);cases q<;>try rfl
    case lst sz f xs=>
     cases xs with
     |nil=>grind
     |cons _ _=>rfl
  ·refine general v ?_ (fun _ h=>h);cases v<;>first|exact absurd rfl hv|skip
   all_goals (cases q<;>try rfl)
   all_goals (rename_i xs;cases xs<;>rfl)
def C0X (T:I4) (s s':AS):Prop:= ∀l,s' l=s l\/ ∃t e sz xs,l= .tok t/\s l= .tok e sz xs/\s' l= .tok e sz (A5L T e xs)
theorem C89 {T:I4} {s s' :AS} (h:C0X T s s') (l:Loc) (c:P2):C0X T (s.put l c) (s'.put l c):=fun m=>by
 simp only [AS.put];split
 ·simp
 ·exact h m
theorem B75 (T:I4) (s:AS): ∀e:U5,C0X T (s.apply e) (s.apply (A9C T e))
 | []=>fun l=> .inl rfl
 |(l0,c)::r=>by
  have ih:=B75 T s r
  by_cases h: ∃t e sz xs,l0= .tok t/\c= .tok e sz xs
  ·obtain ⟨t,e,sz,xs,rfl,rfl⟩:=h;intro l;show (AS.put (s.apply (A9C T r)) (.tok t) (.tok e sz (A5L T e xs))) l=(AS.put (s.apply r) (.tok t) (.tok e sz xs)) l\/_
   by_cases hl:l= .tok t
   ·subst hl;right;refine ⟨t,e,sz,xs,rfl, ?_, ?_⟩
    ·exact W7 _ _ _
    ·exact W7 _ _ _
   ·have hb:Loc.beq l (.tok t)=false:=by
     cases l with
     |tok q=>exact A9c (fun e=>hl (by rw [e]))
     |_=>rfl
    show (match Loc.beq l (.tok t) with|true=>_|false=>_)=(match Loc.beq l (.tok t) with|true=>_|false=>_)\/_
    rcases ih l with h1|⟨t',e',sz',xs',h1,h2,h3⟩
    ·grind
    ·right;refine ⟨t',e',sz',xs',h1, ?_, ?_⟩
     ·show (match Loc.beq l (.tok t) with|true=>_|false=>_)=_
      grind
     ·show (match Loc.beq l (.tok t) with|true=>_|false=>_)=_
      grind
  ·have e1:A9C T ((l0,c)::r)=(l0,c)::A9C T r:=by
    cases l0 with
    |tok t=>cases c with
     |tok e sz xs=>grind
     |_=>rfl
    |_=>rfl
   rw [e1];exact C89 ih l0 c
theorem P6 (T:I4) (e:TypeId) (xs:List (List AV)):(A5L T e xs).length=xs.length:=by
 unfold A5L
 grind
theorem B9S {w:World} {ok:Nat->Prop} {T:I4} {e:TypeId} {xs:List (List AV)} {i:Nat} {c:List AV} (h:(A5L T e xs)[i]? =some c):
  ∃c0,xs[i]? =some c0/\c.length=c0.length/\ ∀(j:Nat) (y:AV),c[j]? =some y-> ∃x,c0[j]? =some x/\ ∀u,PR w ok x u->PR w ok y u:=by
 unfold A5L at h;split at h
 ·split at h
  ·grind
  ·rw [D8J] at h;cases hx:xs[i]? with
   |none=>grind
   |some c0=>
    rw [hx] at h;cases h;exact ⟨c0,rfl,B8Q _ _,fun j y hj=>C6E _ _ j y hj⟩
 grind
theorem D0F {F:Fr} {A:Nat->Prop} {T:I4} {s s' :AS} {a:Act} {w:World} (hr:C0X T s s') (h:T1 F A s a w):T1 F A s' a w:=by
 obtain ⟨β,τ,ok,hx⟩:=h;have hbox: ∀i,s' (.box i)=s (.box i):=fun i=>by
  rcases hr (.box i) with h|⟨t,e,sz,xs,h,_⟩
  ·exact h
  ·cases h
 have htmp: ∀i,s' (.tmp i)=s (.tmp i):=fun i=>by
  rcases hr (.tmp i) with h|⟨t,e,sz,xs,h,_⟩
  ·exact h
  ·cases h
 have htok: ∀t e sz xs,s' (.tok t)= .tok e sz xs-> ∃xs0,s (.tok t)= .tok e sz xs0/\(xs=xs0\/xs=A5L T e xs0):=fun t e sz xs hs=>by
  rcases hr (.tok t) with h|⟨t',e',sz',xs',h1,h2,h3⟩
  ·grind
  grind
 have hlen: ∀t e sz xs,s' (.tok t)= .tok e sz xs-> ∃xs0,s (.tok t)= .tok e sz xs0/\xs0.length=xs.length:=fun t e sz xs hs=>by
  obtain ⟨xs0,h1,h2⟩:=htok t e sz xs hs;refine ⟨xs0,h1, ?_⟩;rcases h2 with rfl|rfl
  ·rfl
  ·exact (P6 _ _ _).symm
 have e1:W4 ⟨s,β,τ,A,ok,w⟩ ⟨s',β,τ,A,ok,w⟩:=⟨fun t e sz xs' hs _=>by
   grind,fun i cs' hs _=>⟨⟨cs',(hbox i).symm.trans hs⟩,rfl⟩,fun _ h=>h,fun _ h=>h,fun _ _ _=>rfl,fun _ _ _ _ h=>h⟩
 have hm:=hx.mr;have hb' : ∀i c,s' (.box i)= .box c->s (.box i)= .box c:=fun i c hc=>by grind
 refine ⟨β,τ,ok,⟨⟨hm.okLt,fun i c hc=> ?_,fun t e sz xs hs=> ?_,fun i j ci cj hi hj hne=>hm.sepB i j ci cj (hb' i ci hi) (hb' j cj hj) hne,fun i j ei ej si sj xi xj p q hi hj hp hq hne=> ?_,fun i j ci ej sj xj q hi hj hq=> ?_⟩,hx.defers,hx.size,fun l v hl=> ?_,hx.keep,hx.par,hx.parA,fun i cs hs hge=>hx.newB i cs (hb' i cs hs) hge,fun i cs hs hge=>hx.parL i cs (hb' i cs hs) hge,fun t e sz xs p hs hp=> ?_,hx.ok0,hx.okNew⟩⟩
 ·obtain ⟨h1,h2,cur,e,h3,h4,h5⟩:=hm.box i c (hb' i c hc);exact ⟨h1,h2,cur,e,h3,h4,fun j c' hj=>let ⟨u,g1,g2,g3⟩:=h5 j c' hj;⟨u,g1,g2,g3.ext e1⟩⟩
 ·obtain ⟨xs0,g1,g2⟩:=htok t e sz xs hs;obtain ⟨t1,t2,t3,t4,t5⟩:=hm.tok t e sz xs0 g1;rcases g2 with rfl|rfl
  ·grind
  ·refine ⟨t1,t2,fun c hc=> ?_,fun hn=> ?_,fun b o cap hb=> ?_⟩
   ·obtain ⟨i,hi,rfl⟩:=List.mem_iff_getElem.1 hc;obtain ⟨c0,q1,q2,_⟩:=B9S (w:=w) (ok:=ok) (D8o hi)
    grind
   ·grind
   ·obtain ⟨b1,b2,b3,cur,b4,b5,b6⟩:=t5 b o cap hb;refine ⟨b1,by grind,b3,cur,b4,b5,fun i j c x hi hj=> ?_⟩
    obtain ⟨c0,q1,_,q3⟩:=B9S (w:=w) (ok:=ok) hi
    grind
 ·obtain ⟨x1,g1,_⟩:=htok i ei si xi hi;obtain ⟨x2,g2,_⟩:=htok j ej sj xj hj;exact hm.sepT i j ei ej si sj x1 x2 p q g1 g2 hp hq hne
 ·obtain ⟨x2,g2,_⟩:=htok j ej sj xj hj;exact hm.sepM i j ci ej sj x2 q (hb' i ci hi) g2 hq
 ·have hl' :s' (.tmp l)= .av v:=hl;rw [htmp] at hl';exact (hx.env l v hl').ext e1
 ·obtain ⟨x1,g1,_⟩:=htok t e sz xs hs;exact hx.newT t e sz x1 p g1 hp
theorem C5V {F:Fr} {A:Nat->Prop} {T:I4} {id:Nat} {o:Oper} {s:AS} {e:U5} (h:OpOk F A id o s e):OpOk F A id o s (A9C T e):=by
 intro a w hs hA next Q hn
 exact h a w hs hA next Q fun a' w' hs' =>hn a' w' (D0F (B75 T s e) hs')
theorem C5X {F:Fr} {A:Nat->Prop} {id:Nat} {o:Oper} {s:AS} {T:I4} (hT:A0v F.P T) (hd:∀k,o.dst=some k->k<F.N):B6g F A id o s (B2R T id s o):=by
 have h:=D1j (A:=A) (id:=id) (s:=s) hT hd;unfold B2R;split
 ·generalize B1F T id s o=r at h
  cases r with
  |ok e=>exact C5V h
  |side p e=>exact fun hp=>C5V (h hp)
  |elem xs i f=>exact h
  |call f as d=>exact h
  |bad=>exact h
 ·exact h
end Go.Vc
namespace Go.Vc
open Go.RowKit
abbrev N3:=Option (TypeId×Nat×List (List AV))
def A5P (bx:List (List AV)) (tk:N3):AS:=fun l=>match l with
 | .box j=>match bx[j]? with
  |some cs=> .box cs
  |none=> .none
 | .tok 0=>match tk with
  |some (e,sz,xs)=> .tok e sz xs
  |none=> .none
 |_=> .none
def V7 (bx:List (List AV)) (tk:N3) (β:Nat->Nat×Nat) (p:Option (Nat×Nat×Nat)) (ok:Nat->Prop) (w:World):G7:=⟨A5P bx tk,β,fun _=>p,fun i=>i<bx.length+1,ok,w⟩
def tkB (tk:N3) (p:Option (Nat×Nat×Nat)) (b:Nat):Prop:= ∃x q,tk=some x/\p=some q/\b=q.1
def cFr (P:Program) (N:Nat) (bx:List (List AV)) (tk:N3) (β:Nat->Nat×Nat) (p:Option (Nat×Nat×Nat)) (ok:Nat->Prop) (w:World):Fr:=
 ⟨P,N,w,ok,β,bx.length+1,fun j=>(bx.getD j []).length,tkB tk p⟩
structure B7I (P:Program) (bx:List (List AV)) (tk:N3) (β:Nat->Nat×Nat) (p:Option (Nat×Nat×Nat)) (ok:Nat->Prop) (w:World) (r:AV) (bx' :List (List AV)) (tk' :N3) (u:Value) (w' :World)
  (β' :Nat->Nat×Nat) (p' :Option (Nat×Nat×Nat)) (ok' :Nat->Prop):Prop where
 mr:MR (V7 bx' tk' β' p' ok' w')
 vr:VR (V7 bx' tk' β' p' ok' w') r u
 keep:A8C (cFr P 0 bx tk β p ok w) w'
 same: ∀j,j<bx.length->β' j=β j
 len: ∀j,j<bx.length->(bx'.getD j []).length=(bx.getD j []).length
 long:bx.length<=bx'.length
 new: ∀j,bx.length<=j->j<bx'.length->w.heap.size<=(β' j).1
 newT: ∀b,tkB tk' p' b->w.heap.size<=b\/tkB tk p b
 ok0: ∀b,ok b->ok' b
 okNew: ∀b,ok' b->ok b\/(w.heap.size<=b\/tkB tk p b)
def C8I (P:Program) (bx:List (List AV)) (tk:N3) (β:Nat->Nat×Nat) (p:Option (Nat×Nat×Nat)) (ok:Nat->Prop) (w:World) (r:AV) (bx':List (List AV)) (tk':N3) (e:Ending) (w':World):Prop:=
 ∃u β' p' ok',e= .returned u/\B7I P bx tk β p ok w r bx' tk' u w' β' p' ok'
def C2n (P:Program) (f:FuncId) (vs:Array Value) (w:World) (Q:Ending->World->Prop):Prop:=
 ((callFunc f vs).run P w= .ok (.enter f vs) w/\Calls P f vs w Q)\/ ∃v w',(callFunc f vs).run P w= .ok (.value v) w' /\Q (.returned v) w'
theorem C2n.mono {P:Program} {f:FuncId} {vs:Array Value} {w:World} {Q Q' :Ending->World->Prop} (h:C2n P f vs w Q) (hq:∀e w,Q e w->Q' e w):C2n P f vs w Q' :=by
 rcases h with ⟨h1,h2⟩|⟨v,w',h1,h2⟩
 ·exact .inl ⟨h1,h2.mono hq⟩
 ·exact .inr ⟨v,w',h1,hq _ _ h2⟩
structure C5 (P:Program) (f:FuncId) (args:List AV) (bx:List (List AV)) (tk:N3) (r:AV) (bx' :List (List AV)) (tk' :N3):Prop where
 body: ∀(w:World) (β:Nat->Nat×Nat) (p:Option (Nat×Nat×Nat)) (ok:Nat->Prop) (vs:Array Value),MR (V7 bx tk β p ok w)->vs.size=args.length->
  (∀(i:Nat) (c:AV),args[i]? =some c-> ∃u,vs[i]? =some u/\VR1 (V7 bx tk β p ok w) c u)->C2n P f vs w (C8I P bx tk β p ok w r bx' tk')
abbrev E9 (P:Program) (f:FuncId) (args:List AV) (bx:List (List AV)) (r:AV) (bx':List (List AV)):Prop:=C5 P f args bx none r bx' none
theorem C1l (s:AS) (i:Nat): ∀ks:List Nat,(s.apply (kills ks)) (.box i)=s (.box i)
 | []=>rfl
 |_::ts=>C1l s i ts
theorem M4.grow {F:Fr} {a:Act} {m:G7} (h:M4 F a m) (w':World) (hs:m.w.heap.size<=w'.heap.size) (hb:∀k,k<m.w.heap.size->w'.heap[k]? =m.w.heap[k]?)
  (hz:∀a:Addr,a.block<m.w.heap.size->w'.frozen? a=m.w.frozen? a)
  (ho:w'.os=m.w.os) (ht:w'.tape=m.w.tape) (hu:w'.output=m.w.output):M4 F a { m with w:=w' }:=by
 have hm:=h.mr;have he:W4 m { m with w:=w' }:=⟨fun _ _ _ xs' h _=>⟨xs',h,rfl,rfl⟩,fun _ cs' h _=>⟨⟨cs',h⟩,rfl⟩,fun _ h=>h,fun _ h=>h,
  fun b off hk=>World.cell?_of_block (w:=m.w) (a:=⟨b,off,none⟩) (hb b (hm.okLt b hk)),fun b _ _ hk g=>(hb b (hm.okLt b hk)).trans g⟩
 refine h.mem ⟨fun k hk=> ?_,fun i cs hi=> ?_,fun t e sz xs ht' => ?_,hm.sepB,hm.sepT,hm.sepM⟩ he (fun _=>rfl) ⟨ho.trans h.keep.os,ht.trans h.keep.tape,hu.trans h.keep.output,Nat.le_trans h.keep.size hs,fun k hk hj ht=> ?_,fun k cur e hk ht hc=> ?_,fun a ha=>(hz a (Nat.lt_of_lt_of_le ha h.keep.size)).trans (h.keep.fz a ha)⟩
  (fun _ _=>rfl) h.newB (fun _ cs h _=>⟨cs,h,rfl⟩) h.newT (fun _ hb=> .inl hb)
 ·exact Nat.lt_of_lt_of_le (hm.okLt k hk) hs
 ·obtain ⟨h1,h2,cur,e,h3,h4,h5⟩:=hm.box i cs hi;exact ⟨h1,h2,cur,e,(hb _ (A41 hm hi)).trans h3,h4,fun j c hj=>let ⟨u,g1,g2,g3⟩:=h5 j c hj;⟨u,g1,g2,g3.ext he⟩⟩
 ·obtain ⟨h1,h2,h3,h4,h5⟩:=hm.tok t e sz xs ht';refine ⟨h1,h2,h3,h4,fun b o cap hk=> ?_⟩;obtain ⟨g1,g2,g3,cur,g4,g5,g6⟩:=h5 b o cap hk;exact ⟨g1,g2,g3,cur,(hb _ (A0V hm ht' hk)).trans g4,g5,fun i j c x hi hj=>let ⟨u,q1,q2⟩:=g6 i j c x hi hj;⟨u,q1,B3I he q2⟩⟩
 ·have:=h.keep.size;rw [hb k (by omega)]
  exact h.keep.block k hk hj ht
 ·have:=h.keep.size;rw [hb k (by omega)]
  exact h.keep.win k cur e hk ht hc
theorem B8T {m:G7} {c:AV} {u:Value} (h:VR m c u) (hc:∀vs,c≠ .tup vs):VR1 m c u:=by
 cases c<;>first|exact h|grind
theorem B3v {m:G7} {c:AV} {u:Value} (h:VR1 m c u) (hc:∀vs,c≠ .agg vs):J8 m c u:=by
 cases c<;>first|exact h|grind
theorem A9m {m:G7} {c:AV} {u:Value} (h:J8 m c u):VR1 m c u:=by
 cases c<;>first|exact h|exact (show False from h).elim
theorem B0e {m:G7} {c:AV} {u:Value} (h:VR1 m c u):VR m c u:=by
 cases c<;>first|exact h|exact (show False from h).elim
abbrev L5:=List (Nat×Nat×Nat)
def B6r (i o:Nat):L5->Nat->Option (Nat×Nat)
 | [],_=>none
 |(i',off,len)::r,j=>match Nat.beq i i' &&(Nat.ble off o&&Nat.blt o (off+len)) with
  |true=>some (j,o-off)
  |false=>B6r i o r (j+1)
def D3H (t:Option Nat) (k:Nat):Bool:=match t with
 |some i=>Nat.beq k i
 |none=>false
def hvS (B8:L5):AV->Option AV
 | .ptr i o=>match B6r i o B8 0 with
  |some (j,o')=>some (.ptr j o')
  |none=>none
 | .int k n=>some (.int k n)
 | .bool b=>some (.sb b)
 | .sb b=>some (.sb b)
 | .fn f=>some (.fn f)
 | .nilp=>some .nilp
 | .nilS=>some .nilS
 |_=>none
def C2w (B8:L5):List AV->Option (List AV)
 | []=>some []
 |c::cs=>match hvS B8 c,C2w B8 cs with
  |some d,some ds=>some (d::ds)
  |_,_=>none
def hv0 (s:AS) (B8:L5) (t:Option Nat):AV->Option (AV×List Nat)
 | .ptr i o=>match B6r i o B8 0 with
  |some (j,o')=>some (.ptr j o', [])
  |none=>none
 | .bsl i n=>match B6r i 0 B8 0 with
  |some (j,_)=>some (.bsl j n, [])
  |none=>none
 | .own k=>match D3H t k with
  |true=>some (.own 0, [])
  |false=>A4R s (.own k)
 | .clo f bs cs=>match C2w B8 bs,C2w B8 cs with
  |some bs',some cs' =>some (.clo f bs' cs', [])
  |_,_=>none
 | .fn f=>some (.fn f, [])
 |v=>A4R s v
def hvL (s:AS) (B8:L5) (t:Option Nat):List AV->Option (List AV×List Nat)
 | []=>some ([], [])
 |c::cs=>match hv0 s B8 t c,hvL s B8 t cs with
  |some (d,k),some (ds,ks)=>some (d::ds,k++ks)
  |_,_=>none
def hv1 (s:AS) (B8:L5) (t:Option Nat):AV->Option (AV×List Nat)
 | .agg cs=>match hvL s B8 t cs with
  |some (ds,ks)=>some (.agg ds,ks)
  |none=>none
 |v=>hv0 s B8 t v
def hvA (s:AS) (B8:L5) (t:Option Nat):List AV->Option (List AV×List Nat)
 | []=>some ([], [])
 |c::cs=>match hv1 s B8 t c,hvA s B8 t cs with
  |some (d,k),some (ds,ks)=>some (d::ds,k++ks)
  |_,_=>none
def hvB (s:AS) (B8:L5) (t:Option Nat):L5->Option (List (List AV)×List Nat)
 | []=>some ([], [])
 |(i,off,len)::r=>match s (.box i) with
  | .box cs=>match Nat.ble (off+len) cs.length with
   |true=>match hvL s B8 t ((cs.drop off).take len),hvB s B8 t r with
    |some (ds,k),some (bx,ks)=>some (ds::bx,k++ks)
    |_,_=>none
   |false=>none
  |_=>none
def apW (p q:Nat×Nat×Nat):Bool:= !Nat.beq p.1 q.1||(Nat.ble (p.2.1+p.2.2) q.2.1||Nat.ble (q.2.1+q.2.2) p.2.1)
def apart:L5->Bool
 | []=>true
 |p::r=>r.all (apW p)&&apart r
def A8B (s:AS):Option Nat->N3
 |none=>none
 |some k=>match s (.tok k) with
  | .tok e sz xs=>some (e,sz,xs)
  |_=>none
inductive D7l where
 |bad
 |go (args:List AV) (bx:List (List AV)) (tk:N3) (ks:List Nat)
def O9 (s:AS) (B8:L5) (t:Option Nat) (args:List AV):D7l:=
 match hvA s B8 t args,hvB s B8 t B8 with
 |some (as,ka),some (bx,kb)=>match apart B8&&((match t with
   |none=>true
   |some k=> !(ka++kb).any (Nat.beq k))&&(match t,A8B s t with
   |some _,none=>false
   |_,_=>true)) with
  |true=> .go as bx (A8B s t) (ka++kb)
  |false=> .bad
 |_,_=> .bad
theorem A4L {s:AS} {B8:L5} {t:Option Nat} {l as:List AV} {bx:List (List AV)} {tk:N3} {ks:List Nat} (h:O9 s B8 t l= .go as bx tk ks):
  ∃ka kb,hvA s B8 t l=some (as,ka)/\hvB s B8 t B8=some (bx,kb)/\ks=ka++kb/\apart B8=true/\tk=A8B s t/\ ∀k,t=some k->k∉ks/\ ∃e sz xs,s (.tok k)= .tok e sz xs/\tk=some (e,sz,xs):=by
 unfold O9 at h;split at h
 ·rename_i as' ka bx' kb h1 h2;split at h
  ·rename_i hc;cases h;simp only [D8i] at hc;refine ⟨ka,kb,h1,h2,rfl,hc.1,rfl,fun k hk=> ?_⟩;subst hk;obtain ⟨_,c1,c2⟩:=hc;refine ⟨fun hm=> ?_, ?_⟩
   ·simp only [D8w] at c1;have:(ka++kb).any (Nat.beq k)=true:=List.any_eq_true.2 ⟨k,hm,A2U k⟩
    grind
   ·simp only [A8B] at c2⊢
    grind
  ·cases h
 ·cases h
theorem B6s {i o:Nat}: ∀ {B8:L5} {n j o' :Nat},B6r i o B8 n=some (j,o')-> ∃off len,n<=j/\B8[j-n]? =some (i,off,len)/\off<=o/\o<off+len/\o' =o-off
 | [],n,j,o',h=>by cases h
 |(i',off,len)::r,n,j,o',h=>by
  simp only [B6r] at h;split at h
  ·rename_i hc;cases h;simp only [D8i] at hc;obtain ⟨c1,c2,c3⟩:=hc;have:=D8j c1;subst this;exact ⟨off,len,D8S _,by simp,D8H c2,by simp_all,rfl⟩
  ·obtain ⟨off',len',h1,h2,h3⟩:=B6s h
   grind
structure C8G (m m1 m2:G7) (B8:L5) (t:Option Nat) (ks:List Nat):Prop where
 ext:W4 m m1
 frz: ∀k∈ks,∀e sz xs v,m.s (.tok k)= .tok e sz xs->J8 m (.own k) v->PR m1.w m1.ok (.lst sz false xs) v
 w:m2.w=m1.w
 ok:m2.ok=m1.ok
 live: ∀(j i off len:Nat),B8[j]? =some (i,off,len)-> ∃cs,m.s (.box i)= .box cs
 β: ∀(j i off len:Nat),B8[j]? =some (i,off,len)->m2.β j=((m.β i).1,(m.β i).2+off)
 A: ∀(j i off len:Nat),B8[j]? =some (i,off,len)->m2.A j
 A0:m2.A 0
 tok: ∀k,t=some k->(∃e sz xs,m.s (.tok k)= .tok e sz xs/\m2.s (.tok 0)= .tok e sz xs)/\m2.τ 0=m.τ k
section hand
variable {m m1 m2:G7} {B8:L5} {t:Option Nat} {ks:List Nat} (H:C8G m m1 m2 B8 t ks)
include H
theorem C5t {i o j o' :Nat} (h:B6r i o B8 0=some (j,o')) {u:Value} (hv:VRs m (.ptr i o) u):VRs m2 (.ptr j o') u:=by
 obtain ⟨off,len,_,h2,h3,h4,rfl⟩:=B6s h;rw [Nat.sub_zero] at h2;refine ⟨H.A j i off len h2,hv.2.1,fun _=> ?_⟩;rw [hv.2.2 (H.live j i off len h2),H.β j i off len h2];show _=Value.pointer (some ⟨(m.β i).1,(m.β i).2+off+(o-off),none⟩);rw [show (m.β i).2+off+(o-off)=(m.β i).2+o by omega]
theorem D5O {c d:AV} {u:Value} (h:hvS B8 c=some d) (hv:VRs m c u):VRs m2 d u:=by
 cases c<;>simp only [hvS] at h<;>try cases h
 case ptr i o=>
  split at h
  ·rename_i j o' hf;cases h;exact C5t H hf hv
  ·cases h
 all_goals exact hv
theorem C8e: ∀ {cs ds:List AV} {us:Array Value},C2w B8 cs=some ds->VRl m cs us->VRl m2 ds us:=by
 intro cs ds us h hv;have key: ∀(cs ds:List AV),C2w B8 cs=some ds->ds.length=cs.length/\ ∀(j:Nat) (d:AV),ds[j]? =some d-> ∃c,cs[j]? =some c/\hvS B8 c=some d:=by
  intro cs
  induction cs with
  |nil=>intro ds h;cases h;simp
  |cons c cs ih=>
   intro ds h;simp only [C2w] at h
   grind
 obtain ⟨k1,k2⟩:=key cs ds h;refine ⟨hv.1.trans k1.symm,fun j d hj=> ?_⟩;obtain ⟨c,q1,q2⟩:=k2 j d hj;obtain ⟨u,e1,e2,e3⟩:=hv.2 j c q1;exact ⟨u,e1,e2,D5O H q2 e3⟩
theorem D0K {c d:AV} {k:List Nat} {u:Value} (h:hv0 m.s B8 t c=some (d,k)) (hsub:∀i∈k,i∈ks) (hv:J8 m c u):J8 m2 d u:=by
 have pers: ∀ {c d:AV} {k:List Nat},A4R m.s c=some (d,k)->(∀i∈k,i∈ks)->J8 m c u->J8 m2 d u:=fun h1 h2 h3=>by
  have:=C1F H.ext H.frz h1 h2 h3;rw [<-H.w,<-H.ok] at this;exact this.vr0
 unfold hv0 at h;split at h
 ·split at h
  ·rename_i j o' hf;cases h;exact C5t H hf hv
  ·cases h
 ·rename_i i n;split at h
  ·rename_i j o' hf;cases h;obtain ⟨off,len,_,h2,h3,h4,_⟩:=B6s hf;rw [Nat.sub_zero] at h2;have hoff:off=0:=by omega
   subst hoff;have hv' :VRs m (.bsl i n) u:=hv;refine ⟨H.A j i 0 len h2,hv'.2.1,fun _=> ?_⟩;rw [hv'.2.2 (H.live j i 0 len h2),H.β j i 0 len h2]
   rfl
  ·cases h
 ·rename_i q;split at h
  ·rename_i hq;cases h;have hv' :VRs m (.own q) u:=hv;have hq' :t=some q:=by
    unfold D3H at hq;split at hq
    ·rw [D8j hq]
    ·cases hq
   obtain ⟨⟨e,sz,xs,g1,g2⟩,g3⟩:=H.tok q hq';refine ⟨H.A0,hv'.2.1,fun e' sz' xs' hs=> ?_⟩;rw [g2] at hs;cases hs;rw [g3];exact hv'.2.2 e sz xs g1
  grind
 ·split at h
  ·rename_i bs' cs' h1 h2;cases h;obtain ⟨vb,vc,q1,q2,q3⟩:=hv;exact ⟨vb,vc,q1,C8e H h1 q2,C8e H h2 q3⟩
  ·cases h
 ·cases h;exact hv
 grind
theorem B51: ∀(cs ds:List AV) (k:List Nat) (us:List Value),hvL m.s B8 t cs=some (ds,k)->(∀i∈k,i∈ks)->us.length=cs.length->
   (∀(j:Nat) (c:AV),cs[j]? =some c-> ∃u,us[j]? =some u/\u.oneCell' =true/\J8 m c u)->
   ds.length=cs.length/\ ∀(j:Nat) (x:AV),ds[j]? =some x-> ∃u,us[j]? =some u/\u.oneCell' =true/\J8 m2 x u
 | [],ds,k,us,h,_,_,_=>by
  simp only [hvL,D82,Prod.mk.injEq] at h
  grind
 |c::cs,ds,k,us,h,hsub,hl,hv=>by
  simp only [hvL] at h;split at h
  ·rename_i d k1 ds' k2 hp hq;cases h
   match us,hl with
   |u::us,hl=>
    obtain ⟨u',e1,e2,e3⟩:=hv 0 c rfl;cases e1;obtain ⟨g1,g2⟩:=B51 cs ds' k2 us hq (fun t ht=>hsub t (by simp [ht])) (by grind) (fun j c hj=>by simpa using hv (j+1) c (by grind))
    refine ⟨by simp [g1],fun j x hj=> ?_⟩
    cases j with
    |zero=>cases hj;exact ⟨u,rfl,e2,D0K H hp (fun t ht=>hsub t (by simp [ht])) e3⟩
    |succ j=>grind
  ·cases h
theorem D5N {c d:AV} {k:List Nat} {u:Value} (h:hv1 m.s B8 t c=some (d,k)) (hsub:∀i∈k,i∈ks) (hv:VR m c u):VR1 m2 d u:=by
 unfold hv1 at h;split at h
 ·rename_i cs;split at h
  ·rename_i ds k' hq;cases h;obtain ⟨vs,rfl,h2,h3⟩:=hv;obtain ⟨g1,g2⟩:=B51 H cs ds k vs.toList hq hsub (by omega) (fun j c hj=>by grind)
   exact ⟨vs,rfl,by omega,fun j c hj=>by grind⟩
  ·cases h
 ·rename_i hna;refine A9m (D0K H h hsub ?_);refine B3v (B8T hv ?_) hna;rintro vs rfl;simp [hv0,A4R] at h
theorem B8d: ∀(cs ds:List AV) (k:List Nat) (us:List Value),hvA m.s B8 t cs=some (ds,k)->(∀i∈k,i∈ks)->us.length=cs.length->
   (∀(j:Nat) (c:AV),cs[j]? =some c-> ∃u,us[j]? =some u/\VR m c u)->
   ds.length=cs.length/\ ∀(j:Nat) (x:AV),ds[j]? =some x-> ∃u,us[j]? =some u/\VR1 m2 x u
 | [],ds,k,us,h,_,_,_=>by
  simp only [hvA,D82,Prod.mk.injEq] at h
  grind
 |c::cs,ds,k,us,h,hsub,hl,hv=>by
  simp only [hvA] at h;split at h
  ·rename_i d k1 ds' k2 hp hq;cases h
   match us,hl with
   |u::us,hl=>
    obtain ⟨u',e1,e3⟩:=hv 0 c rfl;cases e1;obtain ⟨g1,g2⟩:=B8d cs ds' k2 us hq (fun t ht=>hsub t (by simp [ht])) (by grind) (fun j c hj=>by simpa using hv (j+1) c (by grind))
    refine ⟨by simp [g1],fun j x hj=> ?_⟩
    cases j with
    |zero=>cases hj;exact ⟨u,rfl,D5N H hp (fun t ht=>hsub t (by simp [ht])) e3⟩
    |succ j=>grind
  ·cases h
end hand
theorem B3N {s:AS} {B8:L5} {t:Option Nat}: ∀ {ws:L5} {bx:List (List AV)} {ks:List Nat},hvB s B8 t ws=some (bx,ks)->bx.length=ws.length/\
  ∀(j:Nat) (p:Nat×Nat×Nat),ws[j]? =some p-> ∃(cs ds:List AV) (k:List Nat),s (.box p.1)= .box cs/\p.2.1+p.2.2<=cs.length/\hvL s B8 t ((cs.drop p.2.1).take p.2.2)=some (ds,k)/\bx[j]? =some ds/\ ∀i∈k,i∈ks
 | [],bx,ks,h=>by cases h;simp
 |(i,off,len)::r,bx,ks,h=>by
  simp only [hvB] at h;split at h
  ·rename_i cs hb;split at h
   ·rename_i hle;split at h
    ·rename_i ds k bx' ks' h1 h2;cases h;obtain ⟨g1,g2⟩:=B3N h2;refine ⟨by simp [g1],fun j p hj=> ?_⟩
     cases j with
     |zero=>cases hj;exact ⟨cs,ds,k,hb,D8H hle,h1,rfl,fun i hi=>by simp [hi]⟩
     |succ j=>
      grind
    ·cases h
   ·cases h
  ·cases h
theorem C3t: ∀ {B8:L5},apart B8=true-> ∀ {i j:Nat} {p q:Nat×Nat×Nat},B8[i]? =some p->B8[j]? =some q->i≠j->p.1=q.1->p.2.1+p.2.2<=q.2.1\/q.2.1+q.2.2<=p.2.1
 | [],_,i,j,p,q,h,_,_,_=>by simp at h
 |x::r,ha,i,j,p,q,hi,hj,hne,he=>by
  simp only [apart,D8i] at ha;have hx: ∀y∈r,x.1=y.1->x.2.1+x.2.2<=y.2.1\/y.2.1+y.2.2<=x.2.1:=fun y hy hxy=>by
   have:=D8M.1 ha.1 y hy;simp only [apW,D8l,D8w] at this
   simp_all
  cases i with
  |zero=>
   grind
  |succ i=>
   cases j with
   |zero=>
    grind
   |succ j=>exact C3t ha.2 (by simpa using hi) (by simpa using hj) (by omega) he
def S3 (m:G7) (B8:L5) (j:Nat):Nat×Nat:=match B8[j]? with
 |some (i,off,_)=>((m.β i).1,(m.β i).2+off)
 |none=>(0,0)
def A1O (m:G7) (t:Option Nat):Option (Nat×Nat×Nat):=match t with
 |some k=>m.τ k
 |none=>none
theorem B9a {F:Fr} {a:Act} {m:G7} (hx:M4 F a m) {B8:L5} {t:Option Nat} {args as:List AV} {bx:List (List AV)} {tk:N3} {ks:List Nat} (h:O9 m.s B8 t args= .go as bx tk ks):
  ∃m1,M4 F a m1/\m1.s=m.s.apply (kills ks)/\m1.w=m.w/\m1.A=m.A/\W4 m m1/\MR (V7 bx tk (S3 m B8) (A1O m t) m1.ok m1.w)/\bx.length=B8.length/\
   C8G m m1 (V7 bx tk (S3 m B8) (A1O m t) m1.ok m1.w) B8 t ks:=by
 obtain ⟨ka,kb,ha,hb,rfl,hap,rfl,ht⟩:=A4L h;obtain ⟨m1,h1,h2,h3,h4,h5,h6⟩:=hx.kills (ka++kb);obtain ⟨b1,b2⟩:=B3N hb;have hm0:=hx.mr;have hlive: ∀(j i off len:Nat),B8[j]? =some (i,off,len)-> ∃cs:List AV,m.s (.box i)= .box cs/\off+len<=cs.length:=fun j i off len hj=>by
  grind
 have hwβ: ∀(j i off len:Nat),B8[j]? =some (i,off,len)->S3 m B8 j=((m.β i).1,(m.β i).2+off):=fun j i off len hj=>by
  unfold S3;rw [hj]
 have H:C8G m m1 (V7 bx (A8B m.s t) (S3 m B8) (A1O m t) m1.ok m1.w) B8 t (ka++kb):=
  {ext:=h5,frz:=h6,w:=rfl,ok:=rfl
   live:=fun j i off len hj=>let ⟨cs,q,_⟩:=hlive j i off len hj;⟨cs,q⟩
   β:=hwβ
   A:=fun j i off len hj=>by
    have:=(D8k.1 hj).1;show j<bx.length+1;omega
   A0:=Nat.succ_pos _
   tok:=fun k hk=>by
    obtain ⟨_,e,sz,xs,q1,q2⟩:=ht k hk;refine ⟨⟨e,sz,xs,q1, ?_⟩, ?_⟩
    ·show (match A8B m.s t with|some (e,sz,xs)=>P2.tok e sz xs|none=>P2.none)=_
     rw [q2]
    ·subst hk;rfl}
 refine ⟨m1,h1,h2,h3,h4,h5, ?_,b1,H⟩;have hbox: ∀j cs,(V7 bx (A8B m.s t) (S3 m B8) (A1O m t) m1.ok m1.w).s (.box j)= .box cs->bx[j]? =some cs:=fun j cs hj=>by
  have hj' :(match bx[j]? with|some cs=>P2.box cs|none=>P2.none)= .box cs:=hj
  grind
 have hwin: ∀j cs,bx[j]? =some cs-> ∃(i off len:Nat) (cs0:List AV) (k:List Nat),B8[j]? =some (i,off,len)/\m.s (.box i)= .box cs0/\off+len<=cs0.length/\hvL m.s B8 t ((cs0.drop off).take len)=some (cs,k)/\ ∀i∈k,i∈ka++kb:=fun j cs hj=>by
  have hjl:j<B8.length:=by rw [<-b1];exact (D8k.1 hj).1
  obtain ⟨⟨i,off,len⟩,hi⟩: ∃p,B8[j]? =some p:=⟨B8[j],by simp [hjl]⟩
  obtain ⟨cs0,ds,k,q1,q2,q3,q4,q5⟩:=b2 j _ hi;rw [hj] at q4;cases q4;exact ⟨i,off,len,cs0,k,hi,q1,q2,q3,fun i hi=>by grind⟩
 have hlen: ∀(j:Nat) (cs:List AV) (i off len:Nat),bx[j]? =some cs->B8[j]? =some (i,off,len)->cs.length=len:=fun j cs i off len hj hi=>by
  obtain ⟨i',off',len',cs0,k,q0,q1,q2,q3,q4⟩:=hwin j cs hj;rw [hi] at q0;cases q0;obtain ⟨g1,g2,cur,e,g3,g4,g5⟩:=hm0.box i cs0 q1;have:=(B51 H _ _ _ (((cur.toList.drop (m.β i).2).drop off).take len) q3 q4 (by grind) (fun j' c hj' =>by
   grind)).1
  grind
 have htk: ∀q e sz xs,(V7 bx (A8B m.s t) (S3 m B8) (A1O m t) m1.ok m1.w).s (.tok q)= .tok e sz xs->q=0/\ ∃k,t=some k/\m.s (.tok k)= .tok e sz xs:=fun q e sz xs hq=>by
  cases q with
  |zero=>
   have hq' :(match A8B m.s t with|some (e,sz,xs)=>P2.tok e sz xs|none=>P2.none)= .tok e sz xs:=hq
   refine ⟨rfl, ?_⟩;cases t with
   |none=>cases hq'
   |some k=>
    grind
  |succ q=>cases (show P2.none=P2.tok e sz xs from hq)
 have hm1tok: ∀k e sz xs,t=some k->m.s (.tok k)= .tok e sz xs->m1.s (.tok k)= .tok e sz xs/\m1.τ k=m.τ k:=fun k e sz xs hk hs=>by
  have hn:=(ht k hk).1;have e1:m1.s (.tok k)= .tok e sz xs:=by
   rw [h2];have: ∀l:List Nat,k∉l->(m.s.apply (kills l)) (.tok k)=m.s (.tok k):=by
    intro l
    induction l with
    |nil=>intro _;rfl
    |cons q l ih=>
     intro hq;show (AS.put _ (.tok q) .none) (.tok k)=_;rw [A0D _ _ _ _ (by grind)]
     grind
   grind
  obtain ⟨xs0,_,_,g3⟩:=h5.tok k e sz xs e1 (hm0.tok k e sz xs hs).1
  grind
 refine ⟨h1.mr.okLt,fun j cs hj=> ?_,fun q e sz xs hq=> ?_,fun i j ci cj hi hj hne=> ?_,fun i j ei ej si sj xi xj p q hi hj _ _ hne=> ?_,fun i j ci ej sj xj q hi hj hq=> ?_⟩
 ·obtain ⟨i,off,len,cs0,k,q0,q1,q2,q3,q4⟩:=hwin j cs (hbox j cs hj);obtain ⟨g1,g2,cur,e,g3,g4,g5⟩:=hm0.box i cs0 q1;have hbox1:m1.s (.box i)= .box cs0:=by rw [h2,C1l];exact q1
  have hβ1:m1.β i=m.β i:=(h5.box i cs0 hbox1 g1).2;have hcl:=hlen j cs i off len (hbox j cs hj) q0;obtain ⟨_,r2⟩:=B51 H _ _ _ (((cur.toList.drop (m.β i).2).drop off).take len) q3 q4 (by grind) (fun j' c hj' =>by
   grind)
  have hw:S3 m B8 j=((m.β i).1,(m.β i).2+off):=hwβ j i off len q0;refine ⟨?_, ?_,cur,e, ?_, ?_,fun j' c hj' => ?_⟩
  ·have:=(D8k.1 (hbox j cs hj)).1;show j<bx.length+1;omega
  ·show¬m1.ok (S3 m B8 j).1;rw [hw,<-hβ1];exact (h1.mr.box i cs0 hbox1).2.1
  ·show m1.w.heap[(S3 m B8 j).1]? =_
   grind
  ·show (S3 m B8 j).2+_<=_
   grind
  ·obtain ⟨u,e1,e2,e3⟩:=r2 j' c hj';refine ⟨u, ?_,e2,e3⟩;show cur[(S3 m B8 j).2+j']? =_
   grind
 ·obtain ⟨rfl,k,hk,hs⟩:=htk q e sz xs hq;obtain ⟨e1,e2⟩:=hm1tok k e sz xs hk hs;obtain ⟨c1,c2,c3,c4,c5⟩:=h1.mr.tok k e sz xs e1;have hτ:A1O m t=m1.τ k:=by rw [e2,hk];rfl
  refine ⟨Nat.succ_pos _,c2,c3,fun hn=>c4 (hτ▸hn),fun b o cap hb=> ?_⟩;have hb' :m1.τ k=some (b,o,cap):=hτ▸hb;exact c5 b o cap hb'
 ·obtain ⟨i',oi,li,csi,_,p0,p1,p2,_,_⟩:=hwin i ci (hbox i ci hi);obtain ⟨j',oj,lj,csj,_,q0,q1,q2,_,_⟩:=hwin j cj (hbox j cj hj);show C0V (S3 m B8 i) _ (S3 m B8 j) _;rw [hwβ i i' oi li p0,hwβ j j' oj lj q0,hlen i ci i' oi li (hbox i ci hi) p0,hlen j cj j' oj lj (hbox j cj hj) q0];intro heq;have heq' :(m.β i').1=(m.β j').1:=heq;show (m.β i').2+oi+li<=(m.β j').2+oj\/(m.β j').2+oj+lj<=(m.β i').2+oi
  by_cases hij:i' =j'
  ·subst hij;rcases C3t hap p0 q0 hne rfl with h|h
   ·left;dsimp only at h;omega
   ·right;dsimp only at h;omega
  ·rcases hm0.sepB i' j' csi csj p1 q1 hij heq' with h|h
   ·left;omega
   ·right;omega
 ·obtain ⟨rfl,_⟩:=htk i ei si xi hi;obtain ⟨rfl,_⟩:=htk j ej sj xj hj;exact absurd rfl hne
 ·obtain ⟨i',oi,li,csi,_,p0,p1,_⟩:=hwin i ci (hbox i ci hi);obtain ⟨rfl,k,hk,hs⟩:=htk j ej sj xj hj;show (S3 m B8 i).1≠q.1;rw [hwβ i i' oi li p0];have hq' :m.τ k=some q:=by have:A1O m t=some q:=hq;rw [hk] at this;exact this
  exact hm0.sepM i' k csi ej sj xj q p1 hs hq'
end Go.Vc
namespace Go.Vc
open Go.RowKit
theorem B1C (s:AS) (i:Nat): ∀ks:List Nat,(s.apply (kills ks)) (.box i)=s (.box i)
 | []=>rfl
 |_::ts=>B1C s i ts
theorem C3P (s:AS) (i:Nat): ∀ks:List Nat,(s.apply (kills ks)) (.tmp i)=s (.tmp i)
 | []=>rfl
 |_::ts=>C3P s i ts
def bkS (B8:L5) (id:Nat):AV->AV
 | .ptr j o=>match B8[j]? with
  |some (i,off,_)=> .ptr i (off+o)
  |none=> .ptr id o
 |v=>v
def bk0 (B8:L5) (id:Nat):AV->AV
 | .ptr j o=>bkS B8 id (.ptr j o)
 | .own _=> .own id
 | .clo f bs cs=> .clo f (bs.map (bkS B8 id)) (cs.map (bkS B8 id))
 |v=>v
def bk1 (B8:L5) (id:Nat):AV->AV
 | .agg cs=> .agg (cs.map (bk0 B8 id))
 |v=>bk0 B8 id v
def bk (B8:L5) (id:Nat):AV->AV
 | .tup vs=> .tup (vs.map (bk1 B8 id))
 |v=>bk1 B8 id v
def bcS (n:Nat):AV->Bool
 | .int _ _| .bool _| .sb _| .nilS| .nilp| .fn _=>true
 | .ptr j _=>Nat.ble j n
 |_=>false
def bc0 (n:Nat):AV->Bool
 | .int _ _| .bool _| .sb _| .lst _ _ _| .nilS| .nilp| .fn _| .junk=>true
 | .ptr j _=>Nat.ble j n
 | .own q=>Nat.beq q 0
 | .clo _ bs cs=>bs.all (bcS n)&&cs.all (bcS n)
 |_=>false
def bc1 (n:Nat):AV->Bool
 | .agg cs=>cs.all (bc0 n)
 |v=>bc0 n v
def bcR (n:Nat):AV->Bool
 | .tup vs=>vs.all (bc1 n)
 |v=>bc1 n v
def B7N (n:Nat) (r:AV) (bx':List (List AV)):Bool:=
 (Nat.beq bx'.length n||Nat.beq bx'.length (n+1))&&(bx'.all (fun cs=>cs.all (bc0 n))&&bcR n r)
def X3 (s:AS) (B:AV->AV):L5->List (List AV)->U5
 |(i,off,_)::r,b::bs=>match (s.apply (X3 s B r bs)) (.box i) with
  | .box cs=>(.box i, .box (S1 cs off (b.map B)))::X3 s B r bs
  |_=>X3 s B r bs
 |_,_=> []
def B0D (id n:Nat) (B:AV->AV) (bx':List (List AV)):U5:=match bx'.drop n with
 | [cs]=> [(.box id, .box (cs.map B))]
 |_=> []
def B3P (id:Nat):N3->U5
 |some (e,sz,xs)=> [(.tok id, .tok e sz xs)]
 |none=> []
theorem C0A (s s':AS) (B:AV->AV) (i:Nat): ∀(B8:L5) (bx:List (List AV)),(s'.apply (X3 s B B8 bx)) (.tmp i)=s' (.tmp i)
 | [],_=>rfl
 |_::_, []=>rfl
 |(j,off,_)::r,b::bs=>by
  simp only [X3];split
  ·exact C0A s s' B i r bs
  ·exact C0A s s' B i r bs
theorem B6A (s s':AS) (B:AV->AV) (i:Nat): ∀(B8:L5) (bx:List (List AV)),(s'.apply (X3 s B B8 bx)) (.tok i)=s' (.tok i)
 | [],_=>rfl
 |_::_, []=>rfl
 |(j,off,_)::r,b::bs=>by
  simp only [X3];split
  ·exact B6A s s' B i r bs
  ·exact B6A s s' B i r bs
theorem B2N (s s':AS) (B:AV->AV) (i:Nat) (h:∀i,s' (.box i)=s (.box i)): ∀(B8:L5) (bx:List (List AV)),(s'.apply (X3 s B B8 bx)) (.box i)=(s.apply (X3 s B B8 bx)) (.box i)
 | [],_=>h i
 |_::_, []=>h i
 |(j,off,_)::r,b::bs=>by
  simp only [X3];split
  ·by_cases hij:i=j
   ·subst hij;show (AS.put _ _ _) _=(AS.put _ _ _) _;rw [A1H,A1H]
   ·show (AS.put _ _ _) _=(AS.put _ _ _) _;rw [A0b _ _ _ _ hij,A0b _ _ _ _ hij];exact B2N s s' B i h r bs
  ·exact B2N s s' B i h r bs
theorem C35 {cs news:List AV} {off o:Nat} (h:off+news.length<=cs.length):(S1 cs off news)[o]? =if o<off then cs[o]? else if o<off+news.length then news[o-off]? else cs[o]? :=by
 have:=B3j cs off news h o;rw [<-this];unfold S1;rw [D8E]
theorem C5C (s:AS) (B:AV->AV): ∀(B8:L5) (bx:List (List AV)),B8.length<=bx.length->
  (∀(j i off len:Nat),B8[j]? =some (i,off,len)->(bx.getD j []).length=len/\ ∃cs,s (.box i)= .box cs/\off+len<=cs.length)-> ∀i,
  (∀c,(s.apply (X3 s B B8 bx)) (.box i)= .box c-> ∃cs,s (.box i)= .box cs/\c.length=cs.length/\ ∀(o:Nat) (x:AV),c[o]? =some x->
   (∃(j off len:Nat) (y:AV),B8[j]? =some (i,off,len)/\off<=o/\o<off+len/\(bx.getD j [])[o-off]? =some y/\x=B y)\/((∀(j off len:Nat),B8[j]? =some (i,off,len)-> ¬(off<=o/\o<off+len))/\cs[o]? =some x))/\
  (∀cs,s (.box i)= .box cs-> ∃c,(s.apply (X3 s B B8 bx)) (.box i)= .box c)
 | [],bx,_,_,i=>⟨fun c hc=>⟨c,hc,rfl,fun o x hx=> .inr ⟨fun j off len hj=>by simp at hj,hx⟩⟩,fun cs hcs=>⟨cs,hcs⟩⟩
 |p::r, [],hl,_,_=>by simp at hl
 |(k,off,len)::r,b::bs,hl,hw,i=>by
  have ih:=C5C s B r bs (by simpa using hl) (fun j i off len hj=>by
   have:=hw (j+1) i off len (by simpa using hj)
   simpa using this)
  obtain ⟨hbl,cs0,hk,hfit⟩:=hw 0 k off len rfl;have hbl' :b.length=len:=by simpa using hbl
  obtain ⟨c1,hc1⟩:=(ih k).2 cs0 hk;obtain ⟨cs1,q1,q2,q3⟩:=(ih k).1 c1 hc1;rw [hk] at q1;cases q1;have e:X3 s B ((k,off,len)::r) (b::bs)=(.box k, .box (S1 c1 off (b.map B)))::X3 s B r bs:=by
   simp only [X3,hc1]
  rw [e]
  by_cases hik:i=k
  ·subst hik;have hput:(s.apply ((.box i, .box (S1 c1 off (b.map B)))::X3 s B r bs)) (.box i)= .box (S1 c1 off (b.map B)):=A1H _ _ _;refine ⟨fun c hc=> ?_,fun cs _=>⟨_,hput⟩⟩;rw [hput] at hc;cases hc;have hfit' :off+(b.map B).length<=c1.length:=by rw [D8X];omega
   refine ⟨cs0,hk,by rw [A3E _ _ _ hfit',q2],fun o x hx=> ?_⟩
   rw [C35 hfit',D8X,hbl'] at hx
   by_cases h1:o<off
   ·rw [if_pos h1] at hx;rcases q3 o x hx with ⟨j,off',len',y,g1,g2⟩|⟨g1,g2⟩
    ·exact .inl ⟨j+1,off',len',y,by simpa using g1,g2.1,g2.2.1,by simpa using g2.2.2.1,g2.2.2.2⟩
    ·refine .inr ⟨fun j off' len' hj=> ?_,g2⟩;cases j with
     |zero=>cases hj;omega
     |succ j=>exact g1 j off' len' (by simpa using hj)
   ·rw [if_neg h1] at hx
    by_cases h2:o<off+len
    ·rw [if_pos h2,D8J] at hx;cases hy:b[o-off]? with
     |none=>rw [hy] at hx;cases hx
     |some y=>
      rw [hy] at hx;cases hx;exact .inl ⟨0,off,len,y,rfl,by omega,h2,by simpa using hy,rfl⟩
    ·rw [if_neg h2] at hx;rcases q3 o x hx with ⟨j,off',len',y,g1,g2⟩|⟨g1,g2⟩
     ·exact .inl ⟨j+1,off',len',y,by simpa using g1,g2.1,g2.2.1,by simpa using g2.2.2.1,g2.2.2.2⟩
     ·refine .inr ⟨fun j off' len' hj=> ?_,g2⟩;cases j with
      |zero=>cases hj;omega
      |succ j=>exact g1 j off' len' (by simpa using hj)
  ·have hput:(s.apply ((.box k, .box (S1 c1 off (b.map B)))::X3 s B r bs)) (.box i)=(s.apply (X3 s B r bs)) (.box i):=A0b _ _ _ _ hik;rw [hput];refine ⟨fun c hc=> ?_,(ih i).2⟩;obtain ⟨cs,g1,g2,g3⟩:=(ih i).1 c hc;refine ⟨cs,g1,g2,fun o x hx=> ?_⟩;rcases g3 o x hx with ⟨j,off',len',y,g1,g2⟩|⟨g1,g2⟩
   ·exact .inl ⟨j+1,off',len',y,by simpa using g1,g2.1,g2.2.1,by simpa using g2.2.2.1,g2.2.2.2⟩
   ·refine .inr ⟨fun j off' len' hj=> ?_,g2⟩;cases j with
    |zero=>cases hj;exact absurd rfl hik
    |succ j=>exact g1 j off' len' (by simpa using hj)
def A4x (s:AS) (id:Nat) (B8:L5) (t:Option Nat) (bx':List (List AV)) (tk':N3):AS:=
 s.apply (B3P id tk' ++(B0D id B8.length (bk0 B8 id) bx' ++(X3 s (bk0 B8 id) B8 bx' ++kills t.toList)))
theorem H8 (s:AS) (e e':U5):s.apply (e++e')=(s.apply e').apply e:=by
 induction e with
 |nil=>rfl
 |cons p e ih=>obtain ⟨l,c⟩:=p;show (AS.apply s (e++e')).put l c=_;rw [ih];rfl
theorem D17 (s:AS) (id:Nat) (B8:L5) (t:Option Nat) (bx':List (List AV)) (tk':N3) (i:Nat):A4x s id B8 t bx' tk' (.tmp i)=s (.tmp i):=by
 unfold A4x;rw [H8,H8,H8];have e1: ∀x:AS,(x.apply (B3P id tk')) (.tmp i)=x (.tmp i):=fun x=>by unfold B3P;split<;>rfl
 have e2: ∀x:AS,(x.apply (B0D id B8.length (bk0 B8 id) bx')) (.tmp i)=x (.tmp i):=fun x=>by unfold B0D;split<;>rfl
 rw [e1,e2,C0A,C3P]
theorem A47 (s:AS) (id:Nat) (B8:L5) (t:Option Nat) (bx':List (List AV)) (tk':N3) {q e sz:Nat} {xs:List (List AV)} (h:A4x s id B8 t bx' tk' (.tok q)= .tok e sz xs):
  (q=id/\tk' =some (e,sz,xs))\/(t≠some q/\s (.tok q)= .tok e sz xs):=by
 unfold A4x at h;rw [H8,H8,H8] at h;have e2: ∀x:AS,(x.apply (B0D id B8.length (bk0 B8 id) bx')) (.tok q)=x (.tok q):=fun x=>by unfold B0D;split<;>rfl
 have rest: ∀x:P2,x=((((s.apply (kills t.toList)).apply (X3 s (bk0 B8 id) B8 bx')).apply (B0D id B8.length (bk0 B8 id) bx')) (.tok q))->x= .tok e sz xs->t≠some q/\s (.tok q)= .tok e sz xs:=by
  intro x hx he;rw [e2,B6A] at hx;subst hx;cases t with
  |none=>exact ⟨by simp,he⟩
  |some k=>
   have he' :(s.put (.tok k) .none) (.tok q)= .tok e sz xs:=he
   by_cases hk:q=k
   ·subst hk;rw [W7] at he';cases he'
   ·rw [A0D _ _ _ _ hk] at he';exact ⟨fun h=>hk (by cases h;rfl),he'⟩
 cases tk' with
 |none=>exact .inr (rest _ rfl h)
 |some x=>
  obtain ⟨e',sz',xs'⟩:=x
  by_cases hq:q=id
  ·subst hq;have h' :(AS.put _ (.tok q) (.tok e' sz' xs')) (.tok q)= .tok e sz xs:=h;rw [W7] at h';cases h';exact .inl ⟨rfl,rfl⟩
  ·have h' :(AS.put _ (.tok id) (.tok e' sz' xs')) (.tok q)= .tok e sz xs:=h;rw [A0D _ _ _ _ hq] at h';exact .inr (rest _ rfl h')
theorem D16 (s:AS) (id:Nat) (B8:L5) (t:Option Nat) (bx':List (List AV)) (tk':N3) (hlen:bx'.length=B8.length\/bx'.length=B8.length+1)
  (hw:∀(j i off len:Nat),B8[j]? =some (i,off,len)->(bx'.getD j []).length=len/\ ∃cs,s (.box i)= .box cs/\off+len<=cs.length) (i:Nat):
  (∀c,A4x s id B8 t bx' tk' (.box i)= .box c->(i=id/\ ∃c0,bx'[B8.length]? =some c0/\c=c0.map (bk0 B8 id))\/(∃cs,s (.box i)= .box cs/\c.length=cs.length/\ ∀(o:Nat) (x:AV),c[o]? =some x->
   (∃(j off len:Nat) (y:AV),B8[j]? =some (i,off,len)/\off<=o/\o<off+len/\(bx'.getD j [])[o-off]? =some y/\x=bk0 B8 id y)\/((∀(j off len:Nat),B8[j]? =some (i,off,len)-> ¬(off<=o/\o<off+len))/\cs[o]? =some x))):=by
 intro c hc;unfold A4x at hc;rw [H8,H8,H8] at hc;have e1: ∀x:AS,(x.apply (B3P id tk')) (.box i)=x (.box i):=fun x=>by unfold B3P;split<;>rfl
 rw [e1] at hc;have rest:((s.apply (kills t.toList)).apply (X3 s (bk0 B8 id) B8 bx')) (.box i)= .box c-> ∃cs,s (.box i)= .box cs/\c.length=cs.length/\ ∀(o:Nat) (x:AV),c[o]? =some x->
   (∃(j off len:Nat) (y:AV),B8[j]? =some (i,off,len)/\off<=o/\o<off+len/\(bx'.getD j [])[o-off]? =some y/\x=bk0 B8 id y)\/((∀(j off len:Nat),B8[j]? =some (i,off,len)-> ¬(off<=o/\o<off+len))/\cs[o]? =some x):=fun h=>by
  rw [B2N s _ _ i (fun i=>B1C s i _)] at h;exact (C5C s (bk0 B8 id) B8 bx' (by omega) hw i).1 c h
 unfold B0D at hc;split at hc
 ·rename_i c0 hd
  by_cases hi:i=id
  ·subst hi;have hc' :(AS.put _ (.box i) (.box (c0.map (bk0 B8 i)))) (.box i)= .box c:=hc;rw [A1H] at hc';cases hc';refine .inl ⟨rfl,c0, ?_,rfl⟩;have:=congrArg (·[0]?) hd;simpa using this
  ·have hc' :(AS.put _ (.box id) (.box (c0.map (bk0 B8 id)))) (.box i)= .box c:=hc;rw [A0b _ _ _ _ hi] at hc';exact .inr (rest hc')
 ·exact .inr (rest hc)
theorem C3w {F:Fr} {a:Act} {m1:G7} (h:M4 F a m1) (id:Nat) (hA:¬m1.A id) {B8:L5} {t:Option Nat} (hlive:∀(j i off len:Nat),B8[j]? =some (i,off,len)-> ∃cs,m1.s (.box i)= .box cs/\off+len<=cs.length)
  (htok:∀k,t=some k-> ∃e sz xs,m1.s (.tok k)= .tok e sz xs) {bx:List (List AV)} {tk:N3} (hbl:bx.length=B8.length) (hbn:∀(j i off len:Nat),B8[j]? =some (i,off,len)->(bx.getD j []).length=len)
  {r:AV} {bx' :List (List AV)} {tk' :N3} (hfit:B7N B8.length r bx' =true) {u:Value} {β' :Nat->Nat×Nat} {p' :Option (Nat×Nat×Nat)} {ok' :Nat->Prop} {w' :World}
  (L:B7I F.P bx tk (S3 m1 B8) (A1O m1 t) m1.ok m1.w r bx' tk' u w' β' p' ok'):
  ∃m3,M4 F a m3/\m3.s=A4x m1.s id B8 t bx' tk' /\m3.w=w' /\m3.A=(fun i=>m1.A i\/i=id)/\VR m3 (bk B8 id r) u/\m3.ok=ok' /\ ∀q,q≠id->m3.τ q=m1.τ q:=by
 have hm:=h.mr;simp only [B7N,D8i,D8l] at hfit;obtain ⟨hlen0,hcells0,hret⟩:=hfit;have hlen:bx'.length=B8.length\/bx'.length=B8.length+1:=hlen0.imp (fun h=>D8j h) (fun h=>D8j h);have hcells: ∀cs∈bx',∀c∈cs,bc0 B8.length c=true:=fun cs hcs c hc=>D8M.1 (D8M.1 hcells0 cs hcs) c hc;have hwβ: ∀(j i off len:Nat),B8[j]? =some (i,off,len)->S3 m1 B8 j=((m1.β i).1,(m1.β i).2+off):=fun j i off len hj=>by unfold S3;rw [hj]
 have hβ' : ∀(j i off len:Nat),B8[j]? =some (i,off,len)->β' j=((m1.β i).1,(m1.β i).2+off):=fun j i off len hj=>by
  have hjl:j<B8.length:=(D8k.1 hj).1;rw [L.same j (by omega),hwβ j i off len hj]
 have hbn' : ∀(j i off len:Nat),B8[j]? =some (i,off,len)->(bx'.getD j []).length=len:=fun j i off len hj=>by
  have hjl:j<B8.length:=(D8k.1 hj).1;rw [L.len j (by omega),hbn j i off len hj]
 have hsz:m1.w.heap.size<=w'.heap.size:=L.keep.size;have hAi: ∀(j i off len:Nat),B8[j]? =some (i,off,len)->m1.A i:=fun j i off len hj=>let ⟨cs,h1,_⟩:=hlive j i off len hj;(hm.box i cs h1).1
 have hneid: ∀i,m1.A i->i≠id:=fun i hi=>by rintro rfl;exact hA hi
 have htb: ∀b,tkB tk (A1O m1 t) b-> ∃k e sz xs q,t=some k/\m1.s (.tok k)= .tok e sz xs/\m1.τ k=some q/\b=q.1:=by
  rintro b ⟨x,q,_,hq,rfl⟩;cases t with
  |none=>cases hq
  |some k=>
   obtain ⟨e,sz,xs,hs⟩:=htok k rfl;exact ⟨k,e,sz,xs,q,rfl,hs,hq,rfl⟩
 have hntb_box: ∀i cs,m1.s (.box i)= .box cs-> ¬tkB tk (A1O m1 t) (m1.β i).1:=fun i cs hi hb=>by
  obtain ⟨k,e,sz,xs,q,_,h2,h3,h4⟩:=htb _ hb;exact hm.sepM i k cs e sz xs q hi h2 h3 h4
 have hntb_ok: ∀b,m1.ok b-> ¬tkB tk (A1O m1 t) b:=fun b hb hb' =>by
  obtain ⟨k,e,sz,xs,q,_,h2,h3,h4⟩:=htb _ hb';obtain ⟨b1,b2,b3⟩:=q;have h4' :b=b1:=h4;rw [h4'] at hb;exact ((hm.tok k e sz xs h2).2.2.2.2 b1 b2 b3 h3).1 hb
 have hntb_tok: ∀q' e sz xs p,m1.s (.tok q')= .tok e sz xs->m1.τ q' =some p->t≠some q' -> ¬tkB tk (A1O m1 t) p.1:=fun q' e sz xs p hq hp hne hb=>by
  obtain ⟨k,e',sz',xs',q,h1,h2,h3,h4⟩:=htb _ hb;exact hm.sepT q' k e e' sz sz' xs xs' p q hq h2 hp h3 (by rintro rfl;exact hne h1) h4
 have hrow: ∀k cur e,k<m1.w.heap.size-> ¬tkB tk (A1O m1 t) k->m1.w.heap[k]? =some (.cells cur e (0,0))-> ∃cur',w'.heap[k]? =some (.cells cur' e (0,0))/\cur'.size=cur.size/\
   ∀o,(∀(j i off len:Nat),B8[j]? =some (i,off,len)->(m1.β i).1=k-> ¬((m1.β i).2+off<=o/\o<(m1.β i).2+off+len))->cur'[o]? =cur[o]? :=fun k cur e hk ht hc=>by
  obtain ⟨cur',h1,h2,h3⟩:=L.keep.win k cur e hk ht hc;refine ⟨cur',h1,h2,fun o ho=>h3 o (fun j hj hjk=> ?_)⟩;show¬((S3 m1 B8 j).2<=o/\o<(S3 m1 B8 j).2+(bx.getD j []).length);cases hq:B8[j]? with
  |none=>
   have:bx.getD j []= []:=by
    have:B8.length<=j:=List.getElem?_eq_none_iff.1 hq;simp [D86,D87 (by omega:bx.length<=j)]
   rw [this];simp only [D8G];omega
  |some p=>
   obtain ⟨i,off,len⟩:=p;have hw:=hwβ j i off len hq;rw [hbn j i off len hq,hw];have hk' :(m1.β i).1=k:=by
    have:(S3 m1 B8 j).1=k:=hjk;rw [hw] at this;exact this
   exact ho j i off len hq hk'
 have hsame: ∀k,k<m1.w.heap.size->(∀(j i off len:Nat),B8[j]? =some (i,off,len)->k≠(m1.β i).1)-> ¬tkB tk (A1O m1 t) k->(∃cur e,m1.w.heap[k]? =some (.cells cur e (0,0)))->w'.heap[k]? =m1.w.heap[k]? :=by
  rintro k hk1 hk2 hk3 ⟨cur,e,hc⟩;obtain ⟨cur',g1,g2,g3⟩:=hrow k cur e hk1 hk3 hc;have:cur' =cur:=by
   apply Array.ext_getElem?;intro o;exact g3 o (fun j i off len hj hik=>absurd hik.symm (hk2 j i off len hj))
  rw [g1,this,hc]
 have hheap: ∀b,m1.ok b->w'.heap[b]? =m1.w.heap[b]? :=fun b hb=>(by
   refine L.keep.block b (hm.okLt b hb) (fun j hj hj0 hjb=> ?_) (hntb_ok b hb);have hj0' :0<(bx.getD j []).length:=hj0;have hjb' :b=(S3 m1 B8 j).1:=hjb;cases hq:B8[j]? with
   |none=>
    have hle:B8.length<=j:=List.getElem?_eq_none_iff.1 hq;have:bx.getD j []= []:=by simp [D86,D87 (by omega:bx.length<=j)]
    rw [this] at hj0';exact absurd hj0' (by simp)
   |some p=>
    obtain ⟨i,off',len⟩:=p;rw [hwβ j i off' len hq] at hjb';obtain ⟨cs,hcs,_⟩:=hlive j i off' len hq;have hb2:b=(m1.β i).1:=hjb';rw [hb2] at hb;exact (hm.box i cs hcs).2.1 hb)
 have hcell: ∀b off,m1.ok b->w'.cell? ⟨b,off,none⟩=m1.w.cell? ⟨b,off,none⟩:=fun b off hb=>
  World.cell?_of_block (w:=m1.w) (a:=⟨b,off,none⟩) (hheap b hb)
 have hw3: ∀(j i off len:Nat),B8[j]? =some (i,off,len)->(bx'.getD j []).length=len/\ ∃cs,m1.s (.box i)= .box cs/\off+len<=cs.length:=fun j i off len hj=>⟨hbn' j i off len hj,hlive j i off len hj⟩;have hB:=D16 m1.s id B8 t bx' tk' hlen hw3
 let m3:G7:=⟨A4x m1.s id B8 t bx' tk',L4 m1.β id (β' B8.length),L4 m1.τ id p',fun i=>m1.A i\/i=id,ok',w'⟩
 have hs3: ∀l,m3.s l=A4x m1.s id B8 t bx' tk' l:=fun _=>rfl;have hnob: ∀cs,m1.s (.box id)≠ .box cs:=fun cs hc=>hA (hm.box id cs hc).1;have hnot: ∀e sz xs,m1.s (.tok id)≠ .tok e sz xs:=fun e sz xs hc=>hA (hm.tok id e sz xs hc).1;have hlive3: ∀i c,i≠id->m3.s (.box i)= .box c-> ∃cs,m1.s (.box i)= .box cs/\c.length=cs.length:=fun i c hi hc=>by
  rcases hB i c hc with ⟨h1,_⟩|⟨cs,h1,h2,_⟩
  ·exact absurd h1 hi
  ·exact ⟨cs,h1,h2⟩
 have he:W4 m1 m3:=
  {tok:=fun q e sz xs' hs hq=>by
    rcases A47 _ _ _ _ _ _ hs with ⟨rfl,_⟩|⟨_,h2⟩
    ·exact absurd hq hA
    ·exact ⟨xs',h2,rfl,K1 _ _ (hneid q hq)⟩
   box:=fun i cs' hs hi=>by
    obtain ⟨cs,h1,_⟩:=hlive3 i cs' (hneid i hi) hs;exact ⟨⟨cs,h1⟩,K1 _ _ (hneid i hi)⟩
   A:=fun _ h=> .inl h
   ok:=L.ok0
   cell:=hcell
   map:=fun b _ _ hb g=>(hheap b hb).trans g}
 have hbx' : ∀j,j<bx'.length->(V7 bx' tk' β' p' ok' w').s (.box j)= .box (bx'.getD j []):=fun j hj=>by
  show (match bx'[j]? with|some cs=>P2.box cs|none=>P2.none)=_
  rw [D8o hj,D86,D8o hj]
  rfl
 have vS: ∀c v,bcS B8.length c=true->VRs (V7 bx' tk' β' p' ok' w') c v->VRs m3 (bkS B8 id c) v:=by
  intro c v hc hv;cases c with
  |ptr j o=>
   obtain ⟨h1,h2,h3⟩:=hv;simp only [bkS];split
   ·rename_i i off len hi;have hjl:j<B8.length:=(D8k.1 hi).1;have hve:=h3 ⟨_,hbx' j (by omega)⟩
    have hAi' :=hAi j i off len hi;refine ⟨.inl hAi',h2,fun _=> ?_⟩;rw [hve];show Value.pointer (some ⟨(β' j).1,(β' j).2+o,none⟩)=Value.pointer (some ⟨(L4 m1.β id (β' B8.length) i).1,(L4 m1.β id (β' B8.length) i).2+(off+o),none⟩);rw [K1 _ _ (hneid i hAi'),hβ' j i off len hi];show Value.pointer (some ⟨(m1.β i).1,(m1.β i).2+off+o,none⟩)=_;rw [Nat.add_assoc]
   ·rename_i hi;have hge:B8.length<=j:=List.getElem?_eq_none_iff.1 hi;have hle:j<=B8.length:=D8H hc;have hjj:j=B8.length:=by omega
    subst hjj;refine ⟨.inr rfl,h2,fun ⟨cs,hcs⟩=> ?_⟩;rcases hB id cs hcs with ⟨_,c0,q1,_⟩|⟨cs0,q1,_⟩
    ·have hve:=h3 ⟨_,hbx' B8.length (D8k.1 q1).1⟩;rw [hve];show _=Value.pointer (some ⟨(L4 m1.β id (β' B8.length) id).1,(L4 m1.β id (β' B8.length) id).2+o,none⟩);rw [H3]
     rfl
    ·exact absurd q1 (hnob cs0)
  |int=>exact hv
  |bool=>exact hv
  |sb=>exact hv
  |fn=>exact hv
  |nilp=>exact hv
  |nilS=>exact hv
  |_=>simp [bcS] at hc
 have vL: ∀cs vs,cs.all (bcS B8.length)=true->VRl (V7 bx' tk' β' p' ok' w') cs vs->VRl m3 (cs.map (bkS B8 id)) vs:=by
  intro cs vs hc hv;refine ⟨by rw [D8X];exact hv.1,fun j c hj=> ?_⟩
  rw [D8J] at hj;cases hq:cs[j]? with
  |none=>rw [hq] at hj;cases hj
  |some d=>
   rw [hq] at hj;cases hj;obtain ⟨u',e1,e2,e3⟩:=hv.2 j d hq;exact ⟨u',e1,e2,vS d u' (D8M.1 hc d (D8p hq)) e3⟩
 have v0: ∀c v,bc0 B8.length c=true->J8 (V7 bx' tk' β' p' ok' w') c v->J8 m3 (bk0 B8 id c) v:=by
  intro c v hc hv;cases c with
  |ptr j o=>
   have:=vS (.ptr j o) v hc hv;simp only [bk0];simp only [bkS] at this⊢;split
   ·rename_i hi;rw [hi] at this;exact this
   ·rename_i hi;rw [hi] at this;exact this
  |own q=>
   have hq:q=0:=D8j hc;subst hq;obtain ⟨_,h2,h3⟩:=hv;refine ⟨.inr rfl,h2,fun e sz xs hs=> ?_⟩;rcases A47 _ _ _ _ _ _ hs with ⟨_,rfl⟩|⟨_,hq⟩
   ·obtain ⟨g1,g2⟩:=h3 e sz xs rfl;refine ⟨fun hn=>g1 ?_,fun b o cap hb=>g2 b o cap ?_⟩
    ·have hn' :L4 m1.τ id p' id=none:=hn;rw [H3] at hn';exact hn'
    ·have hb' :L4 m1.τ id p' id=some (b,o,cap):=hb;rw [H3] at hb';exact hb'
   ·exact absurd hq (hnot e sz xs)
  |clo f bs cs=>
   simp only [bc0,D8i] at hc;obtain ⟨vb,vc,q1,q2,q3⟩:=hv;exact ⟨vb,vc,q1,vL bs vb hc.1 q2,vL cs vc hc.2 q3⟩
  |int=>exact hv
  |bool=>exact hv
  |sb=>exact hv
  |lst=>exact hv
  |fn=>exact hv
  |nilp=>exact hv
  |nilS=>exact hv
  |junk=>exact hv
  |_=>simp [bc0] at hc
 have v1: ∀c v,bc1 B8.length c=true->VR1 (V7 bx' tk' β' p' ok' w') c v->VR1 m3 (bk1 B8 id c) v:=by
  intro c v hc hv
  by_cases hagg: ∃cs,c= .agg cs
  ·obtain ⟨cs,rfl⟩:=hagg;obtain ⟨vs,h1,h2,h3⟩:=hv;refine ⟨vs,h1,by simpa using h2,fun j c hj=> ?_⟩
   simp only [D8J] at hj;cases hq:cs[j]? with
   |none=>rw [hq] at hj;cases hj
   |some d=>
    rw [hq] at hj;cases hj;obtain ⟨v',q1,q2,q3⟩:=h3 j d hq;exact ⟨v',q1,q2,v0 d v' (D8M.1 hc d (D8p hq)) q3⟩
  ·have hna: ∀cs,c≠ .agg cs:=fun cs e=>hagg ⟨cs,e⟩;have e1:bc1 B8.length c=bc0 B8.length c:=by cases c<;>first|rfl|exact absurd rfl (hna _)
   have e2:bk1 B8 id c=bk0 B8 id c:=by cases c<;>first|rfl|exact absurd rfl (hna _)
   rw [e1] at hc;rw [e2];exact A9m (v0 c v hc (B3v hv hna))
 have hm3:MR m3:=by
  refine ⟨L.mr.okLt,fun i c hc=> ?_,fun q e sz xs hq=> ?_,fun i j ci cj hi hj hne=> ?_,fun i j ei ej si sj xi xj p q hi hj hp hq hne=> ?_,fun i j ci ej sj xj q hi hj hq=> ?_⟩
  ·rcases hB i c hc with ⟨rfl,c0,q1,rfl⟩|⟨cs,q1,q2,q3⟩
   ·have hjl:=(D8k.1 q1).1;have hgd:bx'.getD B8.length []=c0:=by rw [D86,q1];rfl
    obtain ⟨g1,g2,cur,e,g3,g4,g5⟩:=L.mr.box B8.length _ (hbx' B8.length hjl);rw [hgd] at g4 g5;have hβ3:m3.β i=β' B8.length:=H3 _ _ _;refine ⟨.inr rfl,by rw [hβ3];exact g2,cur,e,by rw [hβ3];exact g3,by rw [hβ3,D8X];exact g4,fun j c hj=> ?_⟩
    rw [D8J] at hj;cases hq:c0[j]? with
    |none=>rw [hq] at hj;cases hj
    |some y=>
     rw [hq] at hj;cases hj;obtain ⟨u',e1,e2,e3⟩:=g5 j y hq;exact ⟨u',by rw [hβ3];exact e1,e2,v0 y u' (hcells c0 (D8p q1) y (D8p hq)) e3⟩
   ·obtain ⟨g1,g2,cur,e,g3,g4,g5⟩:=hm.box i cs q1;have hlt:=A41 hm q1;have hne:=hneid i g1;have hβ3:m3.β i=m1.β i:=K1 _ _ hne;obtain ⟨cur',r1,r2,r3⟩:=hrow _ cur e hlt (hntb_box i cs q1) g3;refine ⟨.inl g1, ?_,cur',e,by rw [hβ3];exact r1,by rw [hβ3,q2,r2];exact g4,fun o x hx=> ?_⟩
    ·rw [hβ3];intro hb;rcases L.okNew _ hb with hb|hb|hb
     ·exact g2 hb
     ·have hb' :m1.w.heap.size<=(m1.β i).1:=hb;omega
     ·exact hntb_box i cs q1 hb
    ·rw [hβ3];rcases q3 o x hx with ⟨j,off,len,y,p1,p2,p3,p4,rfl⟩|⟨p1,p2⟩
     ·have hjl:j<B8.length:=(D8k.1 p1).1;obtain ⟨_,_,cur2,e2,k3,k4,k5⟩:=L.mr.box j _ (hbx' j (by omega))
      have hbj:=hβ' j i off len p1;have k3' :w'.heap[(β' j).1]? =some (.cells cur2 e2 (0,0)):=k3;rw [hbj] at k3';have k3'' :w'.heap[(m1.β i).1]? =some (.cells cur2 e2 (0,0)):=k3';rw [r1] at k3'';cases k3'';obtain ⟨u',f1,f2,f3⟩:=k5 _ y p4;have f1' :cur'[(β' j).2+(o-off)]? =some u' :=f1;rw [hbj] at f1';have f1'' :cur'[(m1.β i).2+off+(o-off)]? =some u' :=f1';rw [show (m1.β i).2+off+(o-off)=(m1.β i).2+o by omega] at f1''
      refine ⟨u',f1'',f2,v0 y u' (hcells _ (D8p (l:=bx') (i:=j) ?_) y (D8p p4)) f3⟩;rw [D86,D8o (by omega:j<bx'.length)]
      rfl
     ·obtain ⟨u',f1,f2,f3⟩:=g5 o x p2;refine ⟨u', ?_,f2,f3.ext he⟩;rw [r3]
      ·exact f1
      ·intro j i' off len hj hk ⟨hr1,hr2⟩
       by_cases hii:i' =i
       ·subst hii;exact p1 j off len hj ⟨by omega,by omega⟩
       ·obtain ⟨cs',l1,l2⟩:=hlive j i' off len hj;have hol:o<cs.length:=(D8k.1 p2).1;rcases hm.sepB i' i cs' cs l1 q1 hii hk with h|h<;>omega
  ·rcases A47 _ _ _ _ _ _ hq with ⟨rfl,rfl⟩|⟨ht,hq'⟩
   ·obtain ⟨c1,c2,c3,c4,c5⟩:=L.mr.tok 0 e sz xs rfl;have hτ3:m3.τ q=p' :=H3 _ _ _;refine ⟨.inr rfl,c2,c3,fun hn=>c4 (hτ3▸hn),fun b o cap hb=> ?_⟩;have hb' :p' =some (b,o,cap):=hτ3▸hb;exact c5 b o cap hb'
   ·obtain ⟨c1,c2,c3,c4,c5⟩:=hm.tok q e sz xs hq';have hτ3:m3.τ q=m1.τ q:=K1 _ _ (hneid q c1);refine ⟨.inl c1,c2,c3,fun hn=>c4 (hτ3▸hn),fun b o cap hb=> ?_⟩;have hb' :m1.τ q=some (b,o,cap):=hτ3▸hb;obtain ⟨d1,d2,d3,cur,d4,d5,d6⟩:=c5 b o cap hb';have hntb:=hntb_tok q e sz xs _ hq' hb' ht;refine ⟨fun hbo=> ?_,d2,d3,cur, ?_,d5,fun i j c x hi hj=> ?_⟩
    ·rcases L.okNew _ hbo with h1|h1|h1
     ·exact d1 h1
     ·have h1' :m1.w.heap.size<=b:=h1;have hlt:b<m1.w.heap.size:=A0V hm hq' hb';omega
     ·exact hntb h1
    ·show w'.heap[b]? =_;rw [hsame b (A0V hm hq' hb') (fun j i off len hj hbi=> ?_) hntb ⟨cur,e,d4⟩]
     ·exact d4
     ·obtain ⟨cs',l1,l2⟩:=hlive j i off len hj;exact hm.sepM i q cs' e sz xs _ l1 hq' hb' hbi.symm
    ·obtain ⟨v,p1,p2⟩:=d6 i j c x hi hj;exact ⟨v,p1,B3I he p2⟩
  ·
   have old: ∀i c,m3.s (.box i)= .box c->i≠id->(∃c',m1.s (.box i)= .box c' /\c.length=c'.length)/\m3.β i=m1.β i:=fun i c hc hn=>⟨hlive3 i c hn hc,K1 _ _ hn⟩;have new: ∀c,m3.s (.box id)= .box c->m1.w.heap.size<=(m3.β id).1:=by
    intro c hc;rcases hB id c hc with ⟨_,c0,q1,_⟩|⟨cs,q1,_⟩
    ·have hjl:=(D8k.1 q1).1;have e1:m3.β id=β' B8.length:=H3 _ _ _;rw [e1];exact L.new B8.length (by omega) hjl
    ·exact absurd q1 (hnob cs)
   by_cases hi' :i=id
   ·subst hi';obtain ⟨⟨c',hc',_⟩,h2⟩:=old j cj hj (fun e=>hne e.symm);have h3:=new ci hi;have h4:=A41 hm hc';intro heq;rw [h2] at heq;omega
   ·obtain ⟨⟨c',hc',lc⟩,h2⟩:=old i ci hi hi'
    by_cases hj' :j=id
    ·subst hj';have h3:=new cj hj;have h4:=A41 hm hc';intro heq;rw [h2] at heq;omega
    ·obtain ⟨⟨c2,hc2,lc2⟩,h3⟩:=old j cj hj hj';rw [h2,h3,lc,lc2];exact hm.sepB i j c' c2 hc' hc2 hne
  ·
   have oldT: ∀i e sz xs p,m3.s (.tok i)= .tok e sz xs->m3.τ i=some p->i≠id->t≠some i/\m1.s (.tok i)= .tok e sz xs/\m1.τ i=some p:=fun i e sz xs p hi hp hn=>by
    rcases A47 _ _ _ _ _ _ hi with ⟨h1,_⟩|⟨h1,h2⟩
    ·exact absurd h1 hn
    ·have:m3.τ i=m1.τ i:=K1 _ _ hn;exact ⟨h1,h2,this▸hp⟩
   have newT: ∀e sz xs p,m3.s (.tok id)= .tok e sz xs->m3.τ id=some p->m1.w.heap.size<=p.1\/tkB tk (A1O m1 t) p.1:=fun e sz xs p hi hp=>by
    rcases A47 _ _ _ _ _ _ hi with ⟨_,h1⟩|⟨_,h2⟩
    ·have:m3.τ id=p' :=H3 _ _ _;exact L.newT p.1 ⟨_,p,h1,this▸hp,rfl⟩
    ·exact absurd h2 (hnot e sz xs)
   by_cases hi' :i=id
   ·subst hi';have hji:j≠i:=fun e=>hne e.symm;obtain ⟨h1,h2,h3⟩:=oldT j ej sj xj q hj hq hji;rcases newT ei si xi p hi hp with h4|h4
    ·have:=A0V hm h2 h3;intro heq;omega
    ·intro heq;rw [heq] at h4;exact hntb_tok j ej sj xj q h2 h3 h1 h4
   ·obtain ⟨h1,h2,h3⟩:=oldT i ei si xi p hi hp hi'
    by_cases hj' :j=id
    ·subst hj';rcases newT ej sj xj q hj hq with h4|h4
     ·have:=A0V hm h2 h3;intro heq;omega
     ·intro heq;rw [<-heq] at h4;exact hntb_tok i ei si xi p h2 h3 h1 h4
    ·obtain ⟨_,h5,h6⟩:=oldT j ej sj xj q hj hq hj';exact hm.sepT i j ei ej si sj xi xj p q h2 h5 h3 h6 hne
  ·
   by_cases hj' :j=id
   ·subst hj';rcases A47 _ _ _ _ _ _ hj with ⟨_,h1⟩|⟨_,h2⟩
    ·have hτ3:m3.τ j=p' :=H3 _ _ _;have hq' :p' =some q:=hτ3▸hq
     by_cases hi' :i=j
     ·subst hi';rcases hB i ci hi with ⟨_,c0,q1,_⟩|⟨cs,q1,_⟩
      ·have hjl:=(D8k.1 q1).1;have e1:m3.β i=β' B8.length:=H3 _ _ _;rw [e1];exact L.mr.sepM B8.length 0 _ ej sj xj q (hbx' _ hjl) (by
        show (match tk' with|some (e,sz,xs)=>P2.tok e sz xs|none=>P2.none)=_
        rw [h1]) hq'
      ·exact absurd q1 (hnob cs)
     ·obtain ⟨cs,q1,_⟩:=hlive3 i ci hi' hi;have e1:m3.β i=m1.β i:=K1 _ _ hi';rw [e1];rcases L.newT q.1 ⟨_,q,h1,hq',rfl⟩ with h4|h4
      ·have:=A41 hm q1;intro heq;have h4' :m1.w.heap.size<=q.1:=h4;omega
      ·intro heq;rw [<-heq] at h4;exact hntb_box i cs q1 h4
    ·exact absurd h2 (hnot ej sj xj)
   ·rcases A47 _ _ _ _ _ _ hj with ⟨h1,_⟩|⟨h1,h2⟩
    ·exact absurd h1 hj'
    ·have hτ3:m3.τ j=m1.τ j:=K1 _ _ hj';have hq' :m1.τ j=some q:=hτ3▸hq
     by_cases hi' :i=id
     ·subst hi';rcases hB i ci hi with ⟨_,c0,q1,_⟩|⟨cs,q1,_⟩
      ·have hjl:=(D8k.1 q1).1;have e1:m3.β i=β' B8.length:=H3 _ _ _;rw [e1];have h3:m1.w.heap.size<=(β' B8.length).1:=L.new B8.length (by omega) hjl
       have:=A0V hm h2 hq';omega
      ·exact absurd q1 (hnob cs)
     ·obtain ⟨cs,q1,_⟩:=hlive3 i ci hi' hi;have e1:m3.β i=m1.β i:=K1 _ _ hi';rw [e1];exact hm.sepM i j cs ej sj xj q q1 h2 hq'
 have hFm:F.m<=id:=by
  rcases Nat.lt_or_ge id F.m with h1|h1
  ·exact absurd (h.parA id h1) hA
  ·exact h1
 have htbF: ∀k,k<F.w0.heap.size-> ¬F.tb k-> ¬tkB tk (A1O m1 t) k:=fun k hk ht hb=>by
  obtain ⟨k',e,sz,xs,q,_,h2,h3,rfl⟩:=htb _ hb;rcases h.newT k' e sz xs q h2 h3 with h4|h4
  ·omega
  ·exact ht h4
 have hkeep:A8C F w' :=by
  refine ⟨L.keep.os.trans h.keep.os,L.keep.tape.trans h.keep.tape,L.keep.output.trans h.keep.output,Nat.le_trans h.keep.size hsz,fun k hk1 hk2 ht=> ?_,fun k cur e hk ht hc=> ?_,fun a ha=>(L.keep.fz a (Nat.lt_of_lt_of_le ha h.keep.size)).trans (h.keep.fz a ha)⟩
  ·have hks:k<m1.w.heap.size:=Nat.lt_of_lt_of_le hk1 h.keep.size;refine (L.keep.block k hks (fun j hj hj0 hjb=> ?_) (htbF k hk1 ht)).trans (h.keep.block k hk1 hk2 ht);have hj0' :0<(bx.getD j []).length:=hj0;have hjb' :k=(S3 m1 B8 j).1:=hjb;cases hq:B8[j]? with
   |none=>
    have hle:B8.length<=j:=List.getElem?_eq_none_iff.1 hq;have:bx.getD j []= []:=by simp [D86,D87 (by omega:bx.length<=j)]
    rw [this] at hj0';exact absurd hj0' (by simp)
   |some p=>
    obtain ⟨i,off,len⟩:=p;rw [hwβ j i off len hq] at hjb';have hb2:k=(m1.β i).1:=hjb';obtain ⟨cs,hcs,hfit⟩:=hlive j i off len hq;rw [hbn j i off len hq] at hj0';rcases Nat.lt_or_ge i F.m with h1|h1
    ·refine hk2 i h1 ?_ (by rw [hb2,h.par i h1])
     rw [<-h.parL i cs hcs h1];omega
    ·have:=h.newB i cs hcs h1;omega
  ·obtain ⟨cur1,g1,g2,g3⟩:=h.keep.win k cur e hk ht hc;have hks:k<m1.w.heap.size:=Nat.lt_of_lt_of_le hk h.keep.size;obtain ⟨cur2,r1,r2,r3⟩:=hrow k cur1 e hks (htbF k hk ht) g1;refine ⟨cur2,r1,r2.trans g2,fun o ho=> ?_⟩;rw [<-g3 o ho];refine r3 o (fun j i off len hj hik=> ?_);obtain ⟨cs,hcs,hfit⟩:=hlive j i off len hj;rcases Nat.lt_or_ge i F.m with h1|h1
   ·have:=ho i h1 (by rw [<-h.par i h1];exact hik)
    rw [<-h.par i h1,<-h.parL i cs hcs h1] at this;omega
   ·have:=h.newB i cs hcs h1;omega
 refine ⟨m3,h.mem hm3 he (fun l=>D17 _ _ _ _ _ _ l) hkeep (fun j hj=>K1 _ _ (by omega)) (fun i c hc hi=> ?_) (fun i c hc hi=> ?_) (fun q e sz xs p hq hp=> ?_) (fun b hb=> ?_),rfl,rfl,rfl, ?_,rfl,fun q hq=>K1 _ _ hq⟩
 ·by_cases hi' :i=id
  ·subst hi';rcases hB i c hc with ⟨_,c0,q1,_⟩|⟨cs,q1,_⟩
   ·have hjl:=(D8k.1 q1).1;have e1:m3.β i=β' B8.length:=H3 _ _ _;rw [e1];have h3:m1.w.heap.size<=(β' B8.length).1:=L.new B8.length (by omega) hjl
    have:=h.keep.size;omega
   ·exact absurd q1 (hnob cs)
  ·obtain ⟨cs,q1,_⟩:=hlive3 i c hi' hc;have e1:m3.β i=m1.β i:=K1 _ _ hi';rw [e1];exact h.newB i cs q1 hi
 ·have hi' :i≠id:=by omega
  exact hlive3 i c hi' hc
 ·by_cases hq' :q=id
  ·subst hq';rcases A47 _ _ _ _ _ _ hq with ⟨_,h1⟩|⟨_,h2⟩
   ·have hτ3:m3.τ q=p' :=H3 _ _ _;have hp' :p' =some p:=hτ3▸hp;rcases L.newT p.1 ⟨_,p,h1,hp',rfl⟩ with h4|h4
    ·have h4' :m1.w.heap.size<=p.1:=h4;have:=h.keep.size;left;omega
    ·obtain ⟨k',e',sz',xs',q',_,g2,g3,g4⟩:=htb _ h4;rw [g4];exact h.newT k' e' sz' xs' q' g2 g3
   ·exact absurd h2 (hnot e sz xs)
  ·rcases A47 _ _ _ _ _ _ hq with ⟨h1,_⟩|⟨_,h2⟩
   ·exact absurd h1 hq'
   ·have hτ3:m3.τ q=m1.τ q:=K1 _ _ hq';exact h.newT q e sz xs p h2 (hτ3▸hp)
 ·rcases L.okNew b hb with h1|h1|h1
  ·exact .inl h1
  ·exact .inr (.inl (Nat.le_trans h.keep.size h1))
  ·obtain ⟨k',e',sz',xs',q',_,g2,g3,g4⟩:=htb _ h1;rw [g4];exact .inr (h.newT k' e' sz' xs' q' g2 g3)
 ·
  by_cases htup: ∃cs,r= .tup cs
  ·obtain ⟨cs,rfl⟩:=htup;obtain ⟨vs,h1,h2,h3⟩:=L.vr;refine ⟨vs,h1,by simpa using h2,fun j c hj=> ?_⟩
   simp only [D8J] at hj;cases hq:cs[j]? with
   |none=>rw [hq] at hj;cases hj
   |some d=>
    rw [hq] at hj;cases hj;obtain ⟨v',q1,q3⟩:=h3 j d hq;exact ⟨v',q1,v1 d v' (D8M.1 hret d (D8p hq)) q3⟩
  ·have hna: ∀cs,r≠ .tup cs:=fun cs e=>htup ⟨cs,e⟩;have e1:bcR B8.length r=bc1 B8.length r:=by cases r<;>first|rfl|exact absurd rfl (hna _)
   have e2:bk B8 id r=bk1 B8 id r:=by cases r<;>first|rfl|exact absurd rfl (hna _)
   rw [e1] at hret;rw [e2];exact B0e (v1 r u hret (B8T L.vr hna))
end Go.Vc
namespace Go.Vc
open Go.RowKit
theorem D4l {m m' :G7} {r:AV} {u:Value} (hf:D2q r=true) (h:VR m r u):VR m' r u:=by
 have h0: ∀c v,C1f c=true->J8 m c v->J8 m' c v:=by
  intro c v hc hv;cases c<;>first|exact hv|(simp [C1f] at hc)
 have h1: ∀c v,C1g c=true->VR1 m c v->VR1 m' c v:=by
  intro c v hc hv
  by_cases hagg: ∃cs,c= .agg cs
  ·obtain ⟨cs,rfl⟩:=hagg;obtain ⟨vs,g1,g2,g3⟩:=hv;exact ⟨vs,g1,g2,fun j d hj=>let ⟨w,q1,q2,q3⟩:=g3 j d hj;⟨w,q1,q2,h0 d w (D8M.1 hc d (D8p hj)) q3⟩⟩
  ·have hna: ∀cs,c≠ .agg cs:=fun cs e=>hagg ⟨cs,e⟩;have e1:C1g c=C1f c:=by cases c<;>first|rfl|grind
   rw [e1] at hc;exact A9m (h0 c v hc (B3v hv hna))
 by_cases htup: ∃cs,r= .tup cs
 ·obtain ⟨cs,rfl⟩:=htup;obtain ⟨vs,g1,g2,g3⟩:=h;exact ⟨vs,g1,g2,fun j d hj=>let ⟨w,q1,q3⟩:=g3 j d hj;⟨w,q1,h1 d w (D8M.1 hf d (D8p hj)) q3⟩⟩
 ·have hna: ∀cs,r≠ .tup cs:=fun cs e=>htup ⟨cs,e⟩;have e1:D2q r=C1g r:=by cases r<;>first|rfl|grind
  rw [e1] at hf;exact B0e (h1 r u hf (B8T h hna))
theorem C7b (s:AS) (ks:List Nat) (e:U5):s.apply (e++kills ks)=(s.apply (kills ks)).apply e:=by
 induction e with
 |nil=>rfl
 |cons p e ih=>obtain ⟨l,c⟩:=p;show (AS.apply s (e++kills ks)).put l c=_;rw [ih];rfl
theorem D1Q {m:G7} {c:AV} {u:Value} (h:VRs m c u):VR m c u:=by
 cases c<;>first|exact h|exact (show False from h).elim
theorem C1U {R:AV->Value->Prop} {xs ys:List AV} {us vs:List Value} (h1:us.length=xs.length) (h2:∀(i:Nat) (c:AV),xs[i]? =some c-> ∃u,us[i]? =some u/\R c u)
  (h3:∀(i:Nat) (c:AV),ys[i]? =some c-> ∃u,vs[i]? =some u/\R c u): ∀(i:Nat) (c:AV),(xs++ys)[i]? =some c-> ∃u,(us++vs)[i]? =some u/\R c u:=by
 grind
theorem B4D {F:Fr} {a:Act} {m:G7} (hx:M4 F a m) {o:Oper} {fop:Operand} {args:Array Operand} {ts:Array TypeId} {f:FuncId} {bs cs:List AV} (ho:o.op= .call { callee:= .value fop,args:=args,argTypes:=ts}) (hf:FV m.s fop f bs cs):
  ∃vs:Array Value,(execOp a.eval o).run F.P m.w=(callFunc f vs).run F.P m.w/\vs.toList.length=(bs++(args.toList.map m.s.val++cs)).length/\
   ∀(i:Nat) (c:AV),(bs++(args.toList.map m.s.val++cs))[i]? =some c-> ∃u,vs.toList[i]? =some u/\VR m c u:=by
 have hv: ∃vb vc,a.eval fop= .func (.func f) vb vc/\VRl m bs vb/\VRl m cs vc:=by
  have:=hx.val fop;rcases hf with ⟨hf,rfl,rfl⟩|⟨hf,_⟩
  ·rw [hf] at this;exact ⟨#[], #[],this,⟨rfl,fun j c hj=>by simp at hj⟩,⟨rfl,fun j c hj=>by simp at hj⟩⟩
  ·rw [hf] at this;exact this
 obtain ⟨vb,vc,h1,h2,h3⟩:=hv;refine ⟨(vb++args.map a.eval)++vc, ?_, ?_, ?_⟩
 ·simp only [execOp,ho,resolve,h1,Deferred.ofValue,Sem.run_bind,Sem.run_pure,Result.andThen_ok,invoke]
 ·have e1:=h2.1;have e2:=h3.1
  grind
 ·rw [Array.toList_append,Array.toList_append,D8E,Array.toList_map];refine C1U (by simpa using h2.1) (fun i c hi=> ?_) (C1U (by simp) (fun i c hi=> ?_) (fun i c hi=> ?_))
  ·obtain ⟨u,q1,_,q3⟩:=h2.2 i c hi;exact ⟨u,by grind,D1Q q3⟩
  ·rw [D8J] at hi⊢;cases hq:args.toList[i]? with
   |none=>grind
   |some x=>rw [hq] at hi;cases hi;exact ⟨a.eval x,rfl,hx.val x⟩
  ·obtain ⟨u,q1,_,q3⟩:=h3.2 i c hi;exact ⟨u,by grind,D1Q q3⟩
theorem B6z {s s' :AS} (h:∀i,s' (.box i)=s (.box i)) (B:AV->AV): ∀(B8:L5) (bx:List (List AV)),X3 s' B B8 bx=X3 s B B8 bx
 | [],_=>rfl
 |_::_, []=>rfl
 |(i,off,_)::r,b::bs=>by
  simp only [X3,B6z h B r bs,B2N s s' B i h r bs]
def C1n (B8:L5) (t:Option Nat) (r:AV) (tk':N3):Bool:=D2q r&&(B8.isEmpty&&(t.isNone&&tk'.isNone))
def B89 (B8:L5) (t:Option Nat) (r:AV) (bx':List (List AV)) (tk':N3):Bool:=C1n B8 t r tk' ||B7N B8.length r bx'
def A9D (s:AS) (id:Nat) (d:Option Tmp) (B8:L5) (t:Option Nat) (ks:List Nat) (r:AV) (bx':List (List AV)) (tk':N3):U5:=
 match C1n B8 t r tk' with
 |true=>dst d r
 |false=>dst d (bk B8 id r)++(B3P id tk' ++(B0D id B8.length (bk0 B8 id) bx' ++(X3 s (bk0 B8 id) B8 bx' ++kills (t.toList++ks))))
theorem B8g (s:AS) (ks ks':List Nat):s.apply (kills (ks++ks'))=(s.apply (kills ks')).apply (kills ks):=by
 induction ks with
 |nil=>rfl
 |cons k ks ih=>show (AS.apply s (kills (ks++ks'))).put _ _=_;rw [ih];rfl
theorem A6C (s:AS) (k:Nat): ∀l:List Nat,k∉l->(s.apply (kills l)) (.tok k)=s (.tok k)
 | [],_=>rfl
 |q::l,hq=>by
  show (AS.put _ (.tok q) .none) (.tok k)=_;rw [A0D _ _ _ _ (by grind)]
  exact A6C s k l (fun h=>hq (by simp [h]))
theorem D1d {F:Fr} {A:Nat->Prop} {id:Nat} {o:Oper} {s:AS} (hd:∀k,o.dst=some k->k<F.N) (fop:Operand) (args:Array Operand) (ts:Array TypeId) (ho:o.op= .call { callee:= .value fop,args:=args,argTypes:=ts})
  (f:FuncId) (bs cs:List AV) (hf:FV s fop f bs cs) (B8:L5) (t:Option Nat) (as:List AV) (bx:List (List AV)) (tk:N3) (ks:List Nat) (hc:O9 s B8 t (bs++(args.toList.map s.val++cs))= .go as bx tk ks)
  (r:AV) (bx':List (List AV)) (tk':N3) (hC:C5 F.P f as bx tk r bx' tk') (hok:B89 B8 t r bx' tk' =true):OpOk F A id o s (A9D s id o.dst B8 t ks r bx' tk'):=by
 rintro a w ⟨β,τ,ok,hx0⟩ hA next Q hn
 generalize hm:(⟨s,β,τ,A,ok,w⟩:G7)=m at hx0
 have hs:m.s=s:=by rw [<-hm]
 have hw:m.w=w:=by rw [<-hm]
 have hAA:m.A=A:=by rw [<-hm]
 subst hs hw hAA;obtain ⟨vs,hexec,hvl,hvv⟩:=B4D hx0 ho hf;obtain ⟨ka,kb,ha,hb,hks,hap,htk,ht⟩:=A4L hc;obtain ⟨m1,h1,h2,h3,h4,h5,hmr,hbl,H⟩:=B9a hx0 hc;obtain ⟨v1,v2⟩:=B8d H _ as ka vs.toList ha (fun i hi=>by grind) hvl hvv
 have hcalls:=hC.body m1.w _ _ m1.ok vs hmr (by grind) (fun i c hi=>by
  grind)
 rw [h3] at hcalls
 suffices key: ∀u w',C8I F.P bx tk (S3 m B8) (A1O m t) m1.ok m.w r bx' tk' (.returned u) w' ->next (a.put o.dst u) w' by
  rcases hcalls with ⟨c1,c2⟩|⟨v,w',c1,c2⟩
  ·simp only [Oper.wp,hexec,c1,Oper.upon_enter];refine c2.mono ?_;intro e w' hp;have hp' :=hp;obtain ⟨u,β',p',ok',rfl,_⟩:=hp'
   grind
  ·simp only [Oper.wp,hexec,c1,Oper.upon_value]
   grind
 rintro u w' ⟨u',β',p',ok',hue,L⟩;cases hue;apply hn;obtain ⟨b1,b2⟩:=B3N hb;unfold A9D;cases hfl:C1n B8 t r tk' with
 |true=>
  simp only [C1n,D8i] at hfl;obtain ⟨f1,f2,f3,f4⟩:=hfl;have hie:B8= []:=List.isEmpty_iff.1 f2;have hte:t=none:=Option.isNone_iff_eq_none.1 f3;subst hie hte;have hbe:bx= []:=D8V hbl;subst hbe;have hnt: ∀b,¬(cFr F.P 0 [] tk (S3 m []) (A1O m none) m1.ok m.w).tb b:=fun b hb' =>by
   obtain ⟨_,q,_,hq,_⟩:=hb';cases hq
  have hg:=hx0.grow w' L.keep.size (fun k hk=>L.keep.block k hk (fun j hj hj0=>by
   have:0<(([]:List (List AV)).getD j []).length:=hj0;simp at this) (hnt k)) L.keep.fz L.keep.os L.keep.tape L.keep.output
  have h7:=(hg.mono (fun i=>m.A i\/i=id) (fun i hi=>Or.inl hi)).dst o.dst r u hd (D4l f1 L.vr);exact ⟨_,_,_,h7⟩
 |false=>
  have hfit:B7N B8.length r bx' =true:=by
   simp only [B89,hfl,D8B] at hok;exact hok
  have hbox1: ∀i,m1.s (.box i)=m.s (.box i):=fun i=>by rw [h2,B1C]
  have hlive: ∀(j i off len:Nat),B8[j]? =some (i,off,len)-> ∃cs,m1.s (.box i)= .box cs/\off+len<=cs.length:=fun j i off len hj=>by
   grind
  have htok1: ∀k,t=some k-> ∃e sz xs,m1.s (.tok k)= .tok e sz xs/\m1.τ k=m.τ k:=fun k hk=>by
   obtain ⟨g1,e,sz,xs,g2,_⟩:=ht k hk;have e1:m1.s (.tok k)= .tok e sz xs:=by rw [h2,A6C _ _ _ g1];exact g2
   obtain ⟨_,_,_,g3⟩:=h5.tok k e sz xs e1 (hx0.mr.tok k e sz xs g2).1
   grind
  have hwβ:S3 m1 B8=S3 m B8:=by
   funext j
   unfold S3;split
   ·rename_i i off len hj;obtain ⟨cs0,q1,_⟩:=hlive j i off len hj;have hA0:m.A i:=by rw [hbox1] at q1;exact (hx0.mr.box i cs0 q1).1
    rw [(h5.box i cs0 q1 hA0).2]
   ·rfl
  have hwτ:A1O m1 t=A1O m t:=by
   cases t with
   |none=>rfl
   |some k=>obtain ⟨_,_,_,_,g⟩:=htok1 k rfl;exact g
  have hbn: ∀(j i off len:Nat),B8[j]? =some (i,off,len)->(bx.getD j []).length=len:=fun j i off len hj=>by
   obtain ⟨cs0,ds,k,q1,q2,q3,q4,q5⟩:=b2 j _ hj;have q2' :off+len<=cs0.length:=q2;have hd' :bx.getD j []=ds:=by grind
   obtain ⟨g1,g2,cur,e,g3,g4,g5⟩:=hx0.mr.box i cs0 q1;have:=(B51 H _ _ _ (((cur.toList.drop (m.β i).2).drop off).take len) q3 (fun i hi=>by grind) (by grind) (fun j' c hj' =>by
    grind)).1
   grind
  rw [<-h3,<-hwβ,<-hwτ] at L;obtain ⟨m3,k1,k2,k3,k4,k5,_,_⟩:=C3w h1 id (by grind) hlive (fun k hk=>let ⟨e,sz,xs,g,_⟩:=htok1 k hk;⟨e,sz,xs,g⟩) hbl hbn hfit L
  have h7:=k1.dst o.dst _ u hd k5;refine ⟨m3.β,m3.τ,m3.ok, ?_⟩;have hst:(⟨m.s.apply (dst o.dst (bk B8 id r)++(B3P id tk' ++(B0D id B8.length (bk0 B8 id) bx' ++(X3 m.s (bk0 B8 id) B8 bx' ++kills (t.toList++ks))))),m3.β,m3.τ,fun i=>m.A i\/i=id,m3.ok,w'⟩:G7)=
    {m3 with s:=m3.s.apply (dst o.dst (bk B8 id r))}:=by
   rw [k2,A4x,B6z hbox1,h2,H8,H8,H8,H8,B8g,H8,H8,H8,<-k3,<-h4,<-k4]
  grind
abbrev A0w (zs:List Int):List (List AV):=zs.map fun z=> [.int .i64 z]
def A14 (zs:List Int):List Int:=zs.mergeSort fun x y=>decide (x<=y)
structure SortsInts (P:Program) (f:FuncId):Prop where
 enters: ∀(vs:Array Value) (w:World),(callFunc f vs).run P w= .ok (.enter f vs) w
 nil: ∀(p:Option Addr) (cap:Nat) (w:World),Calls P f #[.slice p 0 cap] w fun e w' =>e= .returned (.tuple #[])/\w' =w
 row: ∀(blk off cap:Nat) (zs:List Int) (w:World),(∀j,j<zs.length->w.cell? ⟨blk,off+j,none⟩=some (.int .i64 zs[j]!)/\w.frozen? ⟨blk,off+j,none⟩=false)->blk<w.heap.size->zs.length<4611686018427387904->
  Calls P f #[.slice (some ⟨blk,off,none⟩) zs.length cap] w fun e w' =>e= .returned (.tuple #[])/\At w w' blk/\(∀a:Addr,a.block<w.heap.size->w'.frozen? a=w.frozen? a)/\w'.os=w.os/\w'.tape=w.tape/\w'.output=w.output/\
   ∀cur e fr,w.heap[blk]? =some (.cells cur e fr)-> ∃cur',w'.heap[blk]? =some (.cells cur' e fr)/\cur'.size=cur.size/\ ∀j,j<zs.length->cur'[off+j]? =some (.int .i64 (A14 zs)[j]!)
structure D3z (P:Program) (f:FuncId) (args:List AV) (e:TypeId) (sz:Nat) (xs:List (List AV)):Prop where
 pos:0<sz
 size: ∀c∈xs,c.length=sz
 body: ∀(w:World) (ok:Nat->Prop) (vs:Array Value),(∀b,ok b->b<w.heap.size)->vs.size=args.length->
  (∀(i:Nat) (c:AV),args[i]? =some c-> ∃u,vs[i]? =some u/\VR1 (V7 [] none (fun _=>(0,0)) none ok w) c u)->
  C2n P f vs w fun en w' => ∃v,en= .returned v/\At w w' w.heap.size/\(∀a:Addr,a.block<w.heap.size->w'.frozen? a=w.frozen? a)/\w'.os=w.os/\w'.tape=w.tape/\w'.output=w.output/\
   ((v= .slice none 0 0/\xs= [])\/ ∃b o cap cur,v= .slice (some ⟨b,o,none⟩) xs.length cap/\w.heap.size<=b/\xs.length<=cap/\cap<=maxLen/\w'.heap[b]? =some (.cells cur e (0,0))/\o+cap*sz<=cur.size/\
    ∀(i j:Nat) (c:List AV) (x:AV),xs[i]? =some c->c[j]? =some x-> ∃u,cur[o+(i*sz+j)]? =some u/\PR w ok x u)
theorem D2U {F:Fr} {A:Nat->Prop} {id:Nat} {o:Oper} {s:AS} (hd:∀k,o.dst=some k->k<F.N) (fop:Operand) (args:Array Operand) (ts:Array TypeId) (ho:o.op= .call { callee:= .value fop,args:=args,argTypes:=ts})
  (f:FuncId) (bs cs:List AV) (hf:FV s fop f bs cs) (as:List AV) (bx:List (List AV)) (tk:N3) (ks:List Nat) (hc:O9 s [] none (bs++(args.toList.map s.val++cs))= .go as bx tk ks)
  (e:TypeId) (sz:Nat) (xs:List (List AV)) (hC:D3z F.P f as e sz xs):OpOk F A id o s (dst o.dst (.own id)++([(.tok id, .tok e sz xs)]++kills ks)):=by
 rintro a w ⟨β,τ,ok,hx0⟩ hA next Q hn
 generalize hm:(⟨s,β,τ,A,ok,w⟩:G7)=m at hx0
 have hs:m.s=s:=by rw [<-hm]
 have hw:m.w=w:=by rw [<-hm]
 have hAA:m.A=A:=by rw [<-hm]
 subst hs hw hAA;obtain ⟨vs,hexec,hvl,hvv⟩:=B4D hx0 ho hf;obtain ⟨ka,kb,ha,hb,hks,_,htk,_⟩:=A4L hc;obtain ⟨m1,h1,h2,h3,h4,h5,_,hbl,H⟩:=B9a hx0 hc;obtain ⟨v1,v2⟩:=B8d H _ as ka vs.toList ha (fun i hi=>by grind) hvl hvv
 have hbe:bx= []:=D8V hbl;have htke:tk=none:=htk;subst hbe htke;have hcalls:=hC.body m1.w m1.ok vs h1.mr.okLt (by grind) (fun i c hi=>by
  obtain ⟨u,e1,e2⟩:=v2 i c hi;exact ⟨u,by grind,e2⟩)
 rw [<-h3] at hexec
 suffices key: ∀v w',(At m1.w w' m1.w.heap.size/\(∀a:Addr,a.block<m1.w.heap.size->w'.frozen? a=m1.w.frozen? a)/\w'.os=m1.w.os/\w'.tape=m1.w.tape/\w'.output=m1.w.output/\
   ((v= .slice none 0 0/\xs= [])\/ ∃b o cap cur,v= .slice (some ⟨b,o,none⟩) xs.length cap/\m1.w.heap.size<=b/\xs.length<=cap/\cap<=maxLen/\w'.heap[b]? =some (.cells cur e (0,0))/\o+cap*sz<=cur.size/\
    ∀(i j:Nat) (c:List AV) (x:AV),xs[i]? =some c->c[j]? =some x-> ∃u,cur[o+(i*sz+j)]? =some u/\PR m1.w m1.ok x u))->next (a.put o.dst v) w' by
  rw [<-h3];rcases hcalls with ⟨c1,c2⟩|⟨v,w',c1,v',hv',hp⟩
  ·simp only [Oper.wp,hexec,c1,Oper.upon_enter];refine c2.mono ?_
   grind
  ·simp only [Oper.wp,hexec,c1,Oper.upon_value];cases hv'
   grind
 rintro v w' ⟨p1,p2,p3,p4,p5,p6⟩;apply hn;have hA1: ¬m1.A id:=by grind
 have hst: ∀(x:AS),x=(m1.s.put (.tok id) (.tok e sz xs))->x.apply (dst o.dst (.own id))=m.s.apply (dst o.dst (.own id)++([(.tok id, .tok e sz xs)]++kills ks)):=by
  rintro x rfl;rw [H8,C7b,<-h2]
  rfl
 have hblk: ∀k,k<m1.w.heap.size->w'.heap[k]? =m1.w.heap[k]? :=fun k hk=>p1.block k hk (by omega)
 rcases p6 with ⟨rfl,rfl⟩|⟨b,off,cap,cur,rfl,q1,q2,q3,q4,q5,q6⟩
 ·have hg:=h1.grow w' p1.size hblk p2 p3 p4 p5;have hcl:=hg.claimNil id e sz hA1 hC.pos;have h7:=hcl.dst o.dst (.own id) (.slice none 0 0) hd ⟨.inr rfl,rfl,fun e' sz' xs' hs' =>by
   have hs2:(m1.s.put (.tok id) (.tok e sz [])) (.tok id)= .tok e' sz' xs' :=hs';rw [W7] at hs2;cases hs2;refine ⟨fun _=>rfl,fun b o cap hb=> ?_⟩;have hb2:L4 m1.τ id none id=some (b,o,cap):=hb;rw [H3] at hb2;cases hb2⟩
  refine ⟨m1.β,L4 m1.τ id none,m1.ok, ?_⟩;rw [<-hst _ rfl];have hAe:(fun i=>m.A i\/i=id)=fun i=>m1.A i\/i=id:=by rw [h4]
  rw [hAe];exact h7
 ·have hk:A8C F w' :=⟨p3.trans h1.keep.os,p4.trans h1.keep.tape,p5.trans h1.keep.output,Nat.le_trans h1.keep.size p1.size,fun k hk1 hk2 ht=>(hblk k (Nat.lt_of_lt_of_le hk1 h1.keep.size)).trans (h1.keep.block k hk1 hk2 ht),
   fun k cur e hk ht hc=>by rw [hblk k (Nat.lt_of_lt_of_le hk h1.keep.size)];exact h1.keep.win k cur e hk ht hc,
   fun a ha=>(p2 a (Nat.lt_of_lt_of_le ha h1.keep.size)).trans (h1.keep.fz a ha)⟩
  have hfree:C4T m1 b:=⟨fun hb=>by have:=h1.mr.okLt b hb;omega,fun i cs hi=>by have:=A41 h1.mr hi;omega,fun t e' sz' xs' p ht hp=>by have:=A0V h1.mr ht hp;omega⟩
  have hat:At m1.w w' b:=⟨p1.size,fun k hk1 _=>hblk k hk1⟩;have hcl:=h1.claim id b off cap e sz xs w' cur hA1 hat hfree hk (.inl (Nat.le_trans h1.keep.size q1)) hC.pos hC.size q2 q3 q4 q5 q6;have h7:=hcl.dst o.dst (.own id) (.slice (some ⟨b,off,none⟩) xs.length cap) hd ⟨.inr rfl,rfl,fun e' sz' xs' hs' =>by
   have hs2:(m1.s.put (.tok id) (.tok e sz xs)) (.tok id)= .tok e' sz' xs' :=hs';rw [W7] at hs2;cases hs2;refine ⟨fun hb=> ?_,fun b' o' cap' hb=> ?_⟩
   ·have hb2:L4 m1.τ id (some (b,off,cap)) id=none:=hb;rw [H3] at hb2;cases hb2
   ·have hb2:L4 m1.τ id (some (b,off,cap)) id=some (b',o',cap'):=hb;rw [H3] at hb2
    grind⟩
  refine ⟨m1.β,L4 m1.τ id (some (b,off,cap)),m1.ok, ?_⟩;rw [<-hst _ rfl];have hAe:(fun i=>m.A i\/i=id)=fun i=>m1.A i\/i=id:=by rw [h4]
  rw [hAe];exact h7
theorem D23 {s:AS} {l:Loc} {c:P2} (h:s l=c):s.put l c=s:=by
 funext k
 simp only [AS.put];split
 ·rename_i hb;have:k=l:=by
   cases k<;>cases l<;>simp only [Loc.beq] at hb<;>first|(rw [D8j hb])|cases hb
  rw [this,h]
 ·rfl
theorem D2k {zs:List Int} {i j:Nat} {c:List AV} {x:AV} (h1:(A0w zs)[i]? =some c) (h2:c[j]? =some x):j=0/\i<zs.length/\x= .int .i64 zs[i]! :=by
 grind
theorem D2X {F:Fr} {A:Nat->Prop} {id:Nat} {o:Oper} {s:AS} (hd:∀k,o.dst=some k->k<F.N) (fop:Operand) (args:Array Operand) (ts:Array TypeId) (ho:o.op= .call { callee:= .value fop,args:=args,argTypes:=ts})
  (f:FuncId) (bs cs:List AV) (hf:FV s fop f bs cs) (t:Nat) (hargs:bs++(args.toList.map s.val++cs)= [.own t]) (e:TypeId) (zs:List Int) (ht:s (.tok t)= .tok e 1 (A0w zs)) (hlen:zs.length<4611686018427387904) (hC:SortsInts F.P f):
  OpOk F A id o s (dst o.dst (.tup [])++ [(.tok t, .tok e 1 (A0w (A14 zs)))]):=by
 rintro a w ⟨β,τ,ok,hx0⟩ hA next Q hn
 generalize hm:(⟨s,β,τ,A,ok,w⟩:G7)=m at hx0
 have hs:m.s=s:=by rw [<-hm]
 have hw:m.w=w:=by rw [<-hm]
 have hAA:m.A=A:=by rw [<-hm]
 subst hs hw hAA;obtain ⟨vs,hexec,hvl,hvv⟩:=B4D hx0 ho hf;rw [hargs] at hvl hvv;obtain ⟨u0,hu0,hv'⟩:=hvv 0 (.own t) rfl;have hvs:vs= #[u0]:=by
  apply Array.toList_inj.1
  match hl:vs.toList,hvl with
  | [x],_=>grind
 subst hvs;have hv:J8 m (.own t) u0:=hv';have hslen:(A14 zs).length=zs.length:=List.length_mergeSort _;have helen: ∀l:List Int,(A0w l).length=l.length:=fun l=>by unfold A0w;rw [D8X]
 rcases A6L hx0.mr hv ht with ⟨hτ,hve,hxs⟩|⟨b,off,cap,cur,hτ,hve,hcur,hfit,hle,hmax,_⟩
 ·have hz:zs= []:=by
   grind
  subst hz;rw [hve] at hexec;simp only [Oper.wp,hexec,hC.enters,Oper.upon_enter];refine (hC.nil none 0 m.w).mono ?_;rintro en w' ⟨rfl,rfl⟩;apply hn;have h7:=(hx0.mono (fun i=>m.A i\/i=id) (fun i hi=>Or.inl hi)).dst o.dst (.tup []) (.tuple #[]) hd ⟨#[],rfl,rfl,by simp⟩
  have hsz:A14 []= []:=List.length_eq_zero_iff.1 hslen;rw [hsz,H8];have hself:m.s.apply [(.tok t, .tok e 1 (A0w []))]=m.s:=D23 ht;rw [hself];exact ⟨_,_,_,h7⟩
 ·obtain ⟨_,_,_,_,htk⟩:=hx0.mr.tok t e 1 _ ht;obtain ⟨hnok,_,_,cur0,hcur0,_,hcells⟩:=htk b off cap hτ;rw [hcur] at hcur0;cases hcur0;rw [helen] at hve hle;rw [hve] at hexec;simp only [Oper.wp,hexec,hC.enters,Oper.upon_enter];have hb:b<m.w.heap.size:=(D8Y.1 hcur).1;refine (hC.row b off cap zs m.w (fun j hj=> ?_) hb hlen).mono ?_
  ·have hc:(A0w zs)[j]? =some [.int .i64 zs[j]!]:=by
    grind
   obtain ⟨u,g1,g2⟩:=hcells j 0 _ _ hc rfl;have hu:u= .int .i64 zs[j]! :=by cases g2;rfl
   subst hu;refine ⟨?_, ?_⟩
   ·unfold World.cell?
    grind
   ·unfold World.frozen?
    grind
  ·rintro en w' ⟨rfl,p1,p2,p3,p4,p5,p6⟩;obtain ⟨cur',q1,q2,q3⟩:=p6 cur e (0,0) hcur;apply hn;have h1:=hx0.setTok t b off cap e 1 (A0w zs) (A0w (A14 zs)) cur cur' ht hτ hcur (by rw [helen,helen,hslen]) (fun c hc=>by
    grind) q2 (fun i j c x hi hj=>by
    obtain ⟨rfl,hlt,rfl⟩:=D2k hi hj;refine ⟨_, ?_, .int _ _⟩
    grind)
   have hset:=setRow_heap m.w b cur cur' e (0,0) hcur;have h2:=h1.grow w' (by rw [size_setRow];exact p1.size) (fun k hk=>by
    rw [size_setRow] at hk
    by_cases hkb:k=b
    ·grind
    ·rw [p1.block k hk hkb];exact (setRow_other m.w b k cur' hkb).symm) (fun a ha=>by
    rw [size_setRow] at ha;rw [p2 a ha];exact (A5y m.w b cur' a).symm) p3 p4 p5
   have h7:=(h2.mono (fun i=>m.A i\/i=id) (fun i hi=>Or.inl hi)).dst o.dst (.tup []) (.tuple #[]) hd ⟨#[],rfl,rfl,by simp⟩
   rw [H8];exact ⟨_,_,_,h7⟩
end Go.Vc
namespace Go.Vc
open Go.RowKit
def ltS (n:Nat):AV->Bool
 | .int _ _| .bool _| .sb _| .nilS| .nilp| .fn _=>true
 | .ptr j _=>Nat.blt j n
 |_=>false
def lt0 (n:Nat):AV->Bool
 | .int _ _| .bool _| .sb _| .lst _ _ _| .nilS| .nilp| .fn _| .junk=>true
 | .ptr j _=>Nat.blt j n
 | .own q=>Nat.beq q 0
 | .clo _ bs cs=>bs.all (ltS n)&&cs.all (ltS n)
 |_=>false
def lt1 (n:Nat):AV->Bool
 | .agg cs=>cs.all (lt0 n)
 |v=>lt0 n v
def ltR (n:Nat):AV->Bool
 | .tup vs=>vs.all (lt1 n)
 |v=>lt1 n v
structure Tr (m m' :G7) (n:Nat):Prop where
 A: ∀j,j<n->m'.A j
 A0:m'.A 0
 box: ∀j,j<n->(∃cs,m'.s (.box j)= .box cs)->(∃cs,m.s (.box j)= .box cs)/\m'.β j=m.β j
 tok: ∀e sz xs,m'.s (.tok 0)= .tok e sz xs->m.s (.tok 0)= .tok e sz xs
 τ:m'.τ 0=m.τ 0
 pr: ∀x v,PR m.w m.ok x v->PR m'.w m'.ok x v
section
variable {m m' :G7} {n:Nat} (T:Tr m m' n)
include T
theorem Tr.ptr {j o:Nat} {u:Value} (hj:j<n) (hv:VRs m (.ptr j o) u):VRs m' (.ptr j o) u:=
 ⟨T.A j hj,hv.2.1,fun h=>by
  obtain ⟨h1,h2⟩:=T.box j hj h;rw [h2];exact hv.2.2 h1⟩
theorem Tr.vrS {c:AV} {u:Value} (hc:ltS n c=true) (hv:VRs m c u):VRs m' c u:=by
 cases c<;>simp only [ltS,Bool.false_eq_true] at hc<;>try exact hv
 case ptr j o=>exact T.ptr (by simp_all) hv
theorem Tr.vrl {cs:List AV} {us:Array Value} (hc:cs.all (ltS n)=true) (hv:VRl m cs us):VRl m' cs us:=
 ⟨hv.1,fun j c hj=>let ⟨u,h1,h2,h3⟩:=hv.2 j c hj;⟨u,h1,h2,T.vrS (D8M.1 hc c (D8p hj)) h3⟩⟩
theorem Tr.vr0 {c:AV} {u:Value} (hc:lt0 n c=true) (hv:J8 m c u):J8 m' c u:=by
 cases c<;>simp only [lt0,Bool.false_eq_true] at hc<;>try exact hv
 case ptr j o=>exact T.ptr (by simp_all) hv
 case lst sz f xs=>exact T.pr _ _ hv
 case own q=>
  have hq:=D8j hc;subst hq;have hv' :VRs m (.own 0) u:=hv;refine ⟨T.A0,hv'.2.1,fun e sz xs hs=> ?_⟩;rw [T.τ];exact hv'.2.2 e sz xs (T.tok e sz xs hs)
 case clo f bs cs=>
  simp only [D8i] at hc;obtain ⟨vb,vc,h1,h2,h3⟩:=hv;exact ⟨vb,vc,h1,T.vrl hc.1 h2,T.vrl hc.2 h3⟩
theorem Tr.vr1 {c:AV} {u:Value} (hc:lt1 n c=true) (hv:VR1 m c u):VR1 m' c u:=by
 by_cases hagg: ∃cs,c= .agg cs
 ·obtain ⟨cs,rfl⟩:=hagg;obtain ⟨vs,h1,h2,h3⟩:=hv;exact ⟨vs,h1,h2,fun j d hj=>let ⟨v,q1,q2,q3⟩:=h3 j d hj;⟨v,q1,q2,T.vr0 (D8M.1 hc d (D8p hj)) q3⟩⟩
 ·have hna: ∀cs,c≠ .agg cs:=fun cs e=>hagg ⟨cs,e⟩;have e1:lt1 n c=lt0 n c:=by cases c<;>first|rfl|grind
  rw [e1] at hc;exact A9m (T.vr0 hc (B3v hv hna))
theorem Tr.vr {c:AV} {u:Value} (hc:ltR n c=true) (hv:VR m c u):VR m' c u:=by
 by_cases htup: ∃cs,c= .tup cs
 ·obtain ⟨cs,rfl⟩:=htup;obtain ⟨vs,h1,h2,h3⟩:=hv;exact ⟨vs,h1,h2,fun j d hj=>let ⟨v,q1,q3⟩:=h3 j d hj;⟨v,q1,T.vr1 (D8M.1 hc d (D8p hj)) q3⟩⟩
 ·have hna: ∀cs,c≠ .tup cs:=fun cs e=>htup ⟨cs,e⟩;have e1:ltR n c=lt1 n c:=by cases c<;>first|rfl|grind
  rw [e1] at hc;exact B0e (T.vr1 hc (B8T hv hna))
end
theorem A17 {bx:List (List AV)} {tk:N3} {j:Nat} {cs:List AV} (h:A5P bx tk (.box j)= .box cs):bx[j]? =some cs:=by
 have h' :(match bx[j]? with|some cs=>P2.box cs|none=>P2.none)= .box cs:=h
 grind
theorem A86 {bx:List (List AV)} {tk:N3} {j:Nat} {cs:List AV} (h:bx[j]? =some cs):A5P bx tk (.box j)= .box cs:=by
 show (match bx[j]? with|some cs=>P2.box cs|none=>P2.none)= .box cs
 rw [h]
theorem A1e {bx:List (List AV)} {tk:N3} {q e sz:Nat} {xs:List (List AV)} (h:A5P bx tk (.tok q)= .tok e sz xs):q=0/\tk=some (e,sz,xs):=by
 cases q with
 |zero=>
  have h' :(match tk with|some (e,sz,xs)=>P2.tok e sz xs|none=>P2.none)= .tok e sz xs:=h
  grind
 |succ q=>cases (show P2.none=P2.tok e sz xs from h)
theorem D01 {bx:List (List AV)} {tk:N3} {β:Nat->Nat×Nat} {p:Option (Nat×Nat×Nat)} {ok:Nat->Prop} {w:World} (h:MR (V7 bx tk β p ok w)) (hlt:∀cs∈bx,∀c∈cs,lt0 bx.length c=true)
  (b off e:Nat) (row:List AV) (cur:Array Value) (hb:w.heap[b]? =some (.cells cur e (0,0))) (hok:¬ok b) (hfit:off+row.length<=cur.size) (hrow:∀(j:Nat) (c:AV),row[j]? =some c-> ∃u,cur[off+j]? =some u/\PR w ok c u)
  (hsB:∀(j:Nat) (cs:List AV),bx[j]? =some cs->(β j).1≠b) (hsT:∀x q,tk=some x->p=some q->b≠q.1):
  MR (V7 (bx++ [row]) tk (L4 β bx.length (b,off)) p ok w)/\Tr (V7 bx tk β p ok w) (V7 (bx++ [row]) tk (L4 β bx.length (b,off)) p ok w) bx.length:=by
 have hbox: ∀j cs,(bx++ [row])[j]? =some cs->(j<bx.length/\bx[j]? =some cs)\/(j=bx.length/\cs=row):=fun j cs hj=>by
  grind
 have hβ1: ∀j,j≠bx.length->L4 β bx.length (b,off) j=β j:=fun j hj=>K1 _ _ hj;have hβ2:L4 β bx.length (b,off) bx.length=(b,off):=H3 _ _ _;have hT:Tr (V7 bx tk β p ok w) (V7 (bx++ [row]) tk (L4 β bx.length (b,off)) p ok w) bx.length:=
  {A:=fun j hj=>by show j<(bx++ [row]).length+1;simp;omega
   A0:=Nat.succ_pos _
   box:=fun j hj=>by
    rintro ⟨cs,hcs⟩;rcases hbox j cs (A17 (tk:=tk) hcs) with ⟨_,h2⟩|⟨h1,_⟩
    ·exact ⟨⟨cs,A86 (tk:=tk) h2⟩,hβ1 j (by omega)⟩
    ·omega
   tok:=fun _ _ _ h=>h
   τ:=rfl
   pr:=fun _ _ h=>h}
 refine ⟨⟨h.okLt,fun j cs hj=> ?_,fun q e' sz xs hq=> ?_,fun i j ci cj hi hj hne=> ?_,fun i j ei ej si sj xi xj p' q hi hj _ _ hne=> ?_,fun i j ci ej sj xj q hi hj hq=> ?_⟩,hT⟩
 ·rcases hbox j cs (A17 (tk:=tk) hj) with ⟨h1,h2⟩|⟨rfl,rfl⟩
  ·obtain ⟨g1,g2,cur',e',g3,g4,g5⟩:=h.box j cs (A86 (tk:=tk) h2);have hβ:=hβ1 j (by omega)
   refine ⟨hT.A j h1,by show¬ok (L4 β bx.length (b,off) j).1;rw [hβ];exact g2,cur',e',by show w.heap[(L4 β bx.length (b,off) j).1]? =_;rw [hβ];exact g3,by show (L4 β bx.length (b,off) j).2+_<=_;rw [hβ];exact g4,fun j' c hj' => ?_⟩
   obtain ⟨u,q1,q2,q3⟩:=g5 j' c hj';refine ⟨u,by show cur'[(L4 β bx.length (b,off) j).2+j']? =_;rw [hβ];exact q1,q2,hT.vr0 (hlt cs (D8p h2) c (D8p hj')) q3⟩
  ·refine ⟨by show bx.length<(bx++ [cs]).length+1;simp;omega,by show¬ok (L4 β bx.length (b,off) bx.length).1;grind,cur,e,by show w.heap[(L4 β bx.length (b,off) bx.length).1]? =_;grind,
    by show (L4 β bx.length (b,off) bx.length).2+_<=_;grind,fun j' c hj' => ?_⟩
   obtain ⟨u,q1,q2⟩:=hrow j' c hj';exact ⟨u,by show cur[(L4 β bx.length (b,off) bx.length).2+j']? =_;grind,q2.oneCell,q2.vr0⟩
 ·obtain ⟨rfl,htk⟩:=A1e hq;have hq0:(V7 bx tk β p ok w).s (.tok 0)= .tok e' sz xs:=hq;obtain ⟨g1,g2,g3,g4,g5⟩:=h.tok 0 e' sz xs hq0;exact ⟨Nat.succ_pos _,g2,g3,g4,g5⟩
 ·show C0V (L4 β bx.length (b,off) i) _ (L4 β bx.length (b,off) j) _;rcases hbox i ci (A17 (tk:=tk) hi) with ⟨h1,h2⟩|⟨rfl,rfl⟩
  ·rcases hbox j cj (A17 (tk:=tk) hj) with ⟨h3,h4⟩|⟨rfl,rfl⟩
   ·rw [hβ1 i (by omega),hβ1 j (by omega)]
    exact h.sepB i j ci cj (A86 (tk:=tk) h2) (A86 (tk:=tk) h4) hne
   ·rw [hβ1 i (by omega),hβ2]
    intro heq
    grind
  ·rcases hbox j cj (A17 (tk:=tk) hj) with ⟨h3,h4⟩|⟨rfl,rfl⟩
   ·rw [hβ2,hβ1 j (by omega)]
    intro heq
    grind
   omega
 ·obtain ⟨rfl,_⟩:=A1e hi;obtain ⟨rfl,_⟩:=A1e hj;omega
 ·obtain ⟨rfl,htk⟩:=A1e hj;have hq' :p=some q:=hq;show (L4 β bx.length (b,off) i).1≠q.1;rcases hbox i ci (A17 (tk:=tk) hi) with ⟨h1,h2⟩|⟨rfl,rfl⟩
  ·rw [hβ1 i (by omega)]
   exact h.sepM i 0 ci ej sj xj q (A86 (tk:=tk) h2) hj hq
  grind
theorem D0R {P:Program} {bx:List (List AV)} {row:List AV} {tk:N3} {β:Nat->Nat×Nat} {b off:Nat} {p:Option (Nat×Nat×Nat)} {ok:Nat->Prop} {w:World} {r:AV} {bx' :List (List AV)} {row' :List AV} {tk' :N3} {u:Value} {w' :World}
  {β' :Nat->Nat×Nat} {p' :Option (Nat×Nat×Nat)} {ok' :Nat->Prop} (L:B7I P (bx++ [row]) tk (L4 β bx.length (b,off)) p ok w r (bx' ++ [row']) tk' u w' β' p' ok') (hl:bx'.length=bx.length)
  (hltB:∀cs∈bx',∀c∈cs,lt0 bx.length c=true) (hltR:ltR bx.length r=true) (cur:Array Value) (e:TypeId) (hb:w.heap[b]? =some (.cells cur e (0,0))) (hok:¬ok b) (hsB:∀j,j<bx.length->(β j).1≠b) (hsT:¬tkB tk p b):
  B7I P bx tk β p ok w r bx' tk' u (w'.setRow b cur) β' p' ok' /\ ¬ok' b/\ ∃cur',w'.heap[b]? =some (.cells cur' e (0,0))/\cur'.size=cur.size/\(∀o,¬(off<=o/\o<off+row.length)->cur'[o]? =cur[o]?)/\row'.length=row.length/\
   ∀(j:Nat) (c:AV),row'[j]? =some c-> ∃u,cur'[off+j]? =some u/\J8 (V7 (bx' ++ [row']) tk' β' p' ok' w') c u:=by
 have hβ1: ∀j,j≠bx.length->L4 β bx.length (b,off) j=β j:=fun j hj=>K1 _ _ hj;have hβ2:L4 β bx.length (b,off) bx.length=(b,off):=H3 _ _ _;have hlen1:(bx++ [row]).length=bx.length+1:=by simp
 have hlen2:(bx' ++ [row']).length=bx.length+1:=by simp [hl]
 have hbs:b<w.heap.size:=(D8Y.1 hb).1;have hok' : ¬ok' b:=fun h=>by
  rcases L.okNew b h with h|h|h
  ·exact hok h
  ·omega
  grind
 have hβ' : ∀j,j<bx.length->β' j=β j:=fun j hj=>by rw [L.same j (by omega),hβ1 j (by omega)]
 have hβn:β' bx.length=(b,off):=by rw [L.same bx.length (by omega),hβ2]
 have hT' : ∀x q,tk' =some x->p' =some q->q.1≠b:=fun x q h1 h2 heq=>by
  rcases L.newT q.1 ⟨x,q,h1,h2,rfl⟩ with h|h
  ·omega
  grind
 have hg1: ∀j,j<bx.length->(bx++ [row]).getD j []=bx.getD j []:=fun j hj=>by grind
 have hg2:(bx++ [row]).getD bx.length []=row:=by simp
 have hg3: ∀j,j<bx.length->(bx' ++ [row']).getD j []=bx'.getD j []:=fun j hj=>by grind
 have hg4:(bx' ++ [row']).getD bx.length []=row' :=by grind
 have hg5: ∀j,bx.length<j->(bx++ [row]).getD j []= []:=fun j hj=>by grind
 obtain ⟨cur',k1,k2,k3⟩:=L.keep.win b cur e hbs hsT hb;have hset:(w'.setRow b cur).heap[b]? =some (.cells cur e (0,0)):=setRow_heap _ _ _ _ _ _ k1;have hoth: ∀k,k≠b->(w'.setRow b cur).heap[k]? =w'.heap[k]? :=fun k hk=>setRow_other w' b k cur hk;have hcell: ∀k o,ok' k->(w'.setRow b cur).cell? ⟨k,o,none⟩=w'.cell? ⟨k,o,none⟩:=fun k o hk=>
  World.cell?_of_block (w:=w') (a:=⟨k,o,none⟩) (hoth k (by grind))
 have hTr:Tr (V7 (bx' ++ [row']) tk' β' p' ok' w') (V7 bx' tk' β' p' ok' (w'.setRow b cur)) bx.length:=
  {A:=fun j hj=>by show j<bx'.length+1;omega
   A0:=Nat.succ_pos _
   box:=fun j hj=>by
    rintro ⟨cs,hcs⟩;have h1:=A17 (tk:=tk') hcs;exact ⟨⟨cs,A86 (tk:=tk') (by grind)⟩,rfl⟩
   tok:=fun _ _ _ h=>h
   τ:=rfl
   pr:=fun _ _ h=>h.ext (fun _ h=>h) hcell}
 have hm:=L.mr;have hold: ∀j cs,bx'[j]? =some cs->j<bx.length/\(V7 (bx' ++ [row']) tk' β' p' ok' w').s (.box j)= .box cs:=fun j cs hj=>by
  have hjl:=(D8k.1 hj).1;exact ⟨by omega,A86 (tk:=tk') (by grind)⟩
 refine ⟨⟨⟨fun k hk=> ?_,fun j cs hj=> ?_,fun q e' sz xs hq=> ?_,fun i j ci cj hi hj hne=> ?_,fun i j ei ej si sj xi xj p2 q hi hj _ _ hne=> ?_,fun i j ci ej sj xj q hi hj hq=> ?_⟩,hTr.vr hltR L.vr,
  ⟨L.keep.os,L.keep.tape,L.keep.output,by rw [size_setRow];exact L.keep.size,fun k hk hj ht=> ?_,fun k c e' hk ht hc=> ?_,fun a ha=>(A5y w' b cur a).trans (L.keep.fz a ha)⟩,hβ',fun j hj=> ?_,by omega,fun j h1 h2=>by omega,L.newT,L.ok0,L.okNew⟩,
  hok',cur',k1,k2,fun o ho=>k3 o (fun j hj hjb hr=> ?_), ?_,fun j c hj=> ?_⟩
 ·show k<(w'.setRow b cur).heap.size;rw [size_setRow];exact hm.okLt k hk
 ·obtain ⟨hjl,hs⟩:=hold j cs (A17 (tk:=tk') hj);obtain ⟨g1,g2,c2,e2,g3,g4,g5⟩:=hm.box j cs hs;have hne:(β' j).1≠b:=by grind
  refine ⟨hTr.A j hjl,g2,c2,e2, ?_,g4,fun j' c hj' => ?_⟩
  ·show (w'.setRow b cur).heap[(β' j).1]? =_;rw [hoth _ hne];exact g3
  ·obtain ⟨v,q1,q2,q3⟩:=g5 j' c hj';exact ⟨v,q1,q2,hTr.vr0 (hltB cs (D8p (A17 (tk:=tk') hj)) c (D8p hj')) q3⟩
 ·obtain ⟨rfl,htk⟩:=A1e hq;obtain ⟨g1,g2,g3,g4,g5⟩:=hm.tok 0 e' sz xs hq;refine ⟨Nat.succ_pos _,g2,g3,g4,fun b2 o cap hb2=> ?_⟩;obtain ⟨d1,d2,d3,c2,d4,d5,d6⟩:=g5 b2 o cap hb2;have hne:b2≠b:=hT' _ _ htk hb2;refine ⟨d1,d2,d3,c2, ?_,d5,fun i j c x hi hj=> ?_⟩
  ·show (w'.setRow b cur).heap[b2]? =_;rw [hoth _ hne];exact d4
  ·obtain ⟨v,q1,q2⟩:=d6 i j c x hi hj;exact ⟨v,q1,q2.ext (fun _ h=>h) hcell⟩
 ·exact hm.sepB i j ci cj (hold i ci (A17 (tk:=tk') hi)).2 (hold j cj (A17 (tk:=tk') hj)).2 hne
 ·obtain ⟨rfl,_⟩:=A1e hi;obtain ⟨rfl,_⟩:=A1e hj;omega
 ·obtain ⟨rfl,_⟩:=A1e (tk:=tk') hj;exact hm.sepM i 0 ci ej sj xj q (hold i ci (A17 (tk:=tk') hi)).2 hj hq
 ·by_cases hkb:k=b
  ·subst hkb;rw [hset];exact hb.symm
  ·rw [hoth k hkb];refine L.keep.block k hk (fun j hj1 hj0=> ?_) ht;have hj0' :0<((bx++ [row]).getD j []).length:=hj0;show k≠(L4 β bx.length (b,off) j).1
   by_cases hjn:j=bx.length
   ·grind
   ·rw [hβ1 j hjn]
    by_cases hjl:j<bx.length
    ·refine hj j (by show j<bx.length+1;omega) ?_
     show 0<(bx.getD j []).length
     grind
    grind
 ·by_cases hkb:k=b
  ·subst hkb;have hc' :w.heap[k]? =_:=hc
   grind
  ·obtain ⟨c',q1,q2,q3⟩:=L.keep.win k c e' hk ht hc;refine ⟨c',by grind,q2,fun o ho=>q3 o (fun j hj1 hjb hr=> ?_)⟩
   have hjb' :(L4 β bx.length (b,off) j).1=k:=hjb;have hr' :(L4 β bx.length (b,off) j).2<=o/\o<(L4 β bx.length (b,off) j).2+((bx++ [row]).getD j []).length:=hr
   by_cases hjn:j=bx.length
   ·grind
   ·rw [hβ1 j hjn] at hjb' hr'
    by_cases hjl:j<bx.length
    ·rw [hg1 j hjl] at hr';exact ho j (by show j<bx.length+1;omega) hjb' hr'
    grind
 ·have:=L.len j (by omega)
  grind
 ·have hjb' :(L4 β bx.length (b,off) j).1=b:=hjb;have hr' :(L4 β bx.length (b,off) j).2<=o/\o<(L4 β bx.length (b,off) j).2+((bx++ [row]).getD j []).length:=hr
  grind
 ·have:=L.len bx.length (by omega)
  grind
 ·obtain ⟨g1,g2,c2,e2,g3,g4,g5⟩:=hm.box bx.length row' (A86 (tk:=tk') (by grind))
  have g3' :w'.heap[(β' bx.length).1]? =some (.cells c2 e2 (0,0)):=g3;rw [hβn] at g3';have g3'' :w'.heap[b]? =some (.cells c2 e2 (0,0)):=g3';rw [k1] at g3'';cases g3'';obtain ⟨v,q1,q2,q3⟩:=g5 j c hj;have q1' :cur'[(β' bx.length).2+j]? =some v:=q1
  simp_all
def isE:AV->Bool
 | .elt _ _ _=>true
 |_=>false
def deE (v:AV):AV:=match isE v with
 |true=> .nilp
 |false=>v
def B78:List AV->Option (Nat×Nat×Nat)
 | []=>none
 | .elt k i j::r=>match r.any isE with
  |true=>none
  |false=>some (k,i,j)
 |_::r=>B78 r
def B6K (n:Nat):List AV->List AV->List AV
 |v::r,a::as=>(match isE v with
  |true=> .ptr n 0
  |false=>a)::B6K n r as
 |_,as=>as
theorem B79: ∀ {l:List AV} {k i j:Nat},B78 l=some (k,i,j)->(∃q:Nat,l[q]? =some (AV.elt k i j))/\ ∀(q:Nat) (c:AV),l[q]? =some c->isE c=true->c= .elt k i j
 | [],k,i,j,h=>by cases h
 |v::r,k,i,j,h=>by
  by_cases hv:isE v=true
  ·cases v<;>simp only [isE,Bool.false_eq_true] at hv
   case elt k' i' j' =>
    simp only [B78] at h;split at h
    ·cases h
    ·rename_i hr;cases h;refine ⟨⟨0,rfl⟩,fun q c hq hc=> ?_⟩
     grind
  ·have e:B78 (v::r)=B78 r:=by cases v<;>first|rfl|exact absurd rfl hv
   rw [e] at h;obtain ⟨⟨q,h1⟩,h2⟩:=B79 h;refine ⟨⟨q+1,by grind⟩,fun q c hq hc=> ?_⟩
   grind
theorem C3X (n:Nat): ∀ {l as:List AV},as.length=l.length->(B6K n l as).length=l.length/\ ∀(q:Nat) (x:AV),(B6K n l as)[q]? =some x-> ∃c,l[q]? =some c/\((isE c=true/\x= .ptr n 0)\/(isE c=false/\as[q]? =some x))
 | [], [],_=>⟨rfl,fun q x h=>by simp [B6K] at h⟩
 |v::r,a::as,hl=>by
  obtain ⟨h1,h2⟩:=C3X n (l:=r) (as:=as) (by grind)
  refine ⟨by simp [B6K,h1],fun q x hq=> ?_⟩
  cases q with
  |zero=>
   refine ⟨v,rfl, ?_⟩;simp only [B6K] at hq
   grind
  |succ q=>simpa using h2 q x (by simpa [B6K] using hq)
def C9b:AV->Bool
 | .int _ _| .bool _| .sb _| .lst _ _ _| .nilp| .nilS=>true
 |_=>false
theorem D2r {m:G7} {c:AV} {u:Value} (hc:C9b c=true) (h:J8 m c u):PR m.w m.ok c u:=by
 cases c<;>simp only [C9b,Bool.false_eq_true] at hc
 case int k n=>have h' :u= .int k n:=h;rw [h'];exact .int _ _
 case bool b=>have h' :u= .bool b:=h;rw [h'];exact .bool _
 case sb b=>have h' :u= .bool b:=h;rw [h'];exact .sb _
 case lst=>exact h
 case nilp=>have h' :u= .pointer none:=h;rw [h'];exact .nilp
 case nilS=>have h' :u= .slice none 0 0:=h;rw [h'];exact .nilS
def neO (t:Option Nat) (k:Nat):Bool:=match t with
 |some i=> !Nat.beq k i
 |none=>true
def C82 (n:Nat) (t:Option Nat) (k:Nat) (ks:List Nat) (j len sz:Nat) (as:List AV) (bx:List (List AV)) (r:AV) (bx':List (List AV)) (row':List AV):Bool:=
 (!(ks.any (Nat.beq k))&&(neO t k&&(Nat.ble (j+len) sz&&(Nat.beq bx'.length n&&B7N n r bx'))))&&((as.all (lt1 n)&&bx.all (fun cs=>cs.all (lt0 n)))&&(bx'.all (fun cs=>cs.all (lt0 n))&&(ltR n r&&row'.all C9b)))
def B3D (s:AS) (id:Nat) (d:Option Tmp) (B8:L5) (t:Option Nat) (ks:List Nat) (r:AV) (bx':List (List AV)) (tk':N3) (k e sz:Nat) (xs:List (List AV)):U5:=
 (.tok k, .tok e sz xs)::(dst d (bk B8 id r)++(B3P id tk' ++(B0D id B8.length (bk0 B8 id) bx' ++(X3 s (bk0 B8 id) B8 bx' ++kills (t.toList++ks)))))
theorem C67 (s:AS) (id:Nat) (B8:L5) (t:Option Nat) (bx':List (List AV)) (tk':N3) {k:Nat} (h1:k≠id) (h2:t≠some k):A4x s id B8 t bx' tk' (.tok k)=s (.tok k):=by
 unfold A4x;rw [H8,H8,H8];have e1: ∀x:AS,(x.apply (B3P id tk')) (.tok k)=x (.tok k):=fun x=>by
  unfold B3P;split
  ·show (AS.put _ (.tok id) _) (.tok k)=_;rw [A0D _ _ _ _ h1]
   rfl
  ·rfl
 have e2: ∀x:AS,(x.apply (B0D id B8.length (bk0 B8 id) bx')) (.tok k)=x (.tok k):=fun x=>by unfold B0D;split<;>rfl
 rw [e1,e2,B6A,A6C]
 grind
theorem D1I {α:Type} {l:List (List α)} {n:Nat} (h:l.length=n+1):l=l.take n++ [l.getD n []]:=by
 have h1:=List.take_append_drop n l;have h2:l.drop n= [l.getD n []]:=by
  rw [List.drop_eq_getElem_cons (by omega),List.drop_eq_nil_of_le (by omega),D86,D8o (by omega)]
  rfl
 rw [<-h2,h1]
theorem C1u {i i' j' sz:Nat} (h:i' <i) (hj:j' <sz):i' *sz+j' <i*sz:=by
 have:(i' +1)*sz<=i*sz:=D8y sz h
 grind
theorem D51 {F:Fr} {A:Nat->Prop} {id:Nat} {o:Oper} {s:AS} (hd:∀k,o.dst=some k->k<F.N) (fop:Operand) (args:Array Operand) (ts:Array TypeId) (ho:o.op= .call { callee:= .value fop,args:=args,argTypes:=ts})
  (f:FuncId) (bs cs:List AV) (hf:FV s fop f bs cs) (B8:L5) (t:Option Nat) (k i j len:Nat) (hE:B78 (bs++(args.toList.map s.val++cs))=some (k,i,j)) (e sz:Nat) (xs:List (List AV)) (hk:s (.tok k)= .tok e sz xs)
  (as:List AV) (bx:List (List AV)) (tk:N3) (ks:List Nat) (hc:O9 s B8 t ((bs++(args.toList.map s.val++cs)).map deE)= .go as bx tk ks) (c:List AV) (hrow:xs[i]? =some c)
  (r:AV) (bx':List (List AV)) (row':List AV) (tk':N3) (hC:C5 F.P f (B6K B8.length (bs++(args.toList.map s.val++cs)) as) (bx++ [(c.drop j).take len]) tk r (bx' ++ [row']) tk')
  (hok:C82 B8.length t k ks j len sz as bx r bx' row' =true):OpOk F A id o s (B3D s id o.dst B8 t ks r bx' tk' k e sz (xs.set i (S1 c j row'))):=by
 rintro a w ⟨β,τ,ok,hx0⟩ hA next Q hn
 generalize hm:(⟨s,β,τ,A,ok,w⟩:G7)=m at hx0
 have hs:m.s=s:=by rw [<-hm]
 have hw:m.w=w:=by rw [<-hm]
 have hAA:m.A=A:=by rw [<-hm]
 subst hs hw hAA;obtain ⟨vs,hexec,hvl,hvv⟩:=B4D hx0 ho hf
 generalize bs++(args.toList.map m.s.val++cs)=L at*
 simp only [C82,D8i] at hok;obtain ⟨⟨o1,o2,o3,o4,o5⟩,⟨o6,o7⟩,o8,o9,o10⟩:=hok;obtain ⟨ka,kb,ha,hb,hks,hap,htk,ht⟩:=A4L hc;have hkks:k∉ks:=fun hm=>by
  simp only [D8w] at o1;have:ks.any (Nat.beq k)=true:=List.any_eq_true.2 ⟨k,hm,A2U k⟩
  grind
 have hkt:t≠some k:=by
  rintro rfl;simp only [neO,A2U] at o2;cases o2
 have hjl:j+len<=sz:=D8H o3;have hbl' :bx'.length=B8.length:=D8j o4;obtain ⟨⟨q0,hq0⟩,hE2⟩:=B79 hE;obtain ⟨u0,hu0,hv0⟩:=hvv q0 _ hq0;have hv0' :VRs m (.elt k i j) u0:=hv0;obtain ⟨hAk,_,helt⟩:=hv0';obtain ⟨hil,hptr⟩:=helt e sz xs hk;obtain ⟨m1,h1,h2,h3,h4,h5,hmr,hbl,H⟩:=B9a hx0 hc;have hul:((L.zip vs.toList).map fun p=>if isE p.1 then Value.pointer none else p.2).length=(L.map deE).length:=by grind
 have hget: ∀(q:Nat) (c:AV) (u:Value),L[q]? =some c->vs.toList[q]? =some u->((L.zip vs.toList).map fun p=>if isE p.1 then Value.pointer none else p.2)[q]? =some (if isE c then Value.pointer none else u):=fun q c u h1 h2=>by
  grind
 obtain ⟨v1,v2⟩:=B8d H _ as ka _ ha (fun i hi=>by grind) hul (fun q c hq=>by
  rw [D8J] at hq;cases hL:L[q]? with
  |none=>grind
  |some c0=>
   rw [hL] at hq;cases hq;obtain ⟨u,e1,e2⟩:=hvv q c0 hL;refine ⟨_,hget q c0 u hL e1, ?_⟩;unfold deE;cases hc0:isE c0 with
   |true=>rfl
   |false=>grind)
 have v1' :as.length=L.length:=by grind
 have hk1:m1.s (.tok k)= .tok e sz xs:=by rw [h2,A6C _ _ _ hkks];exact hk
 have hτ1:m1.τ k=m.τ k:=(h5.tok k e sz xs hk1 (hx0.mr.tok k e sz xs hk).1).choose_spec.2.2;obtain ⟨_,hsz0,hesz,hnil,hblk⟩:=h1.mr.tok k e sz xs hk1;cases hτ:m.τ k with
 |none=>
  grind
 |some p0=>
 obtain ⟨b,off0,cap⟩:=p0;obtain ⟨hnok,hcap,hmax,cur,hcur,hfit,hcells⟩:=hblk b off0 cap (hτ1.trans hτ);have hcl:c.length=sz:=hesz c (D8p hrow);have hrl:((c.drop j).take len).length=len:=by simp;omega
 have hir:i*sz+sz<=cap*sz:=by
  have:(i+1)*sz<=cap*sz:=D8y sz (by omega)
  grind
 have hwβ: ∀(q i' off len' :Nat),B8[q]? =some (i',off,len')->S3 m B8 q=((m.β i').1,(m.β i').2+off):=fun q i' off len' hq=>by unfold S3;rw [hq]
 obtain ⟨b1,b2⟩:=B3N hb;have hsB: ∀q,q<B8.length->(S3 m B8 q).1≠b:=fun q hq=>by
  obtain ⟨⟨i',off,len'⟩,hi⟩: ∃p,B8[q]? =some p:=⟨B8[q],by simp [hq]⟩
  obtain ⟨cs0,_,_,q1,_,_⟩:=b2 q _ hi;rw [hwβ q i' off len' hi];exact hx0.mr.sepM i' k cs0 e sz xs _ q1 hk hτ
 have hsT: ¬tkB tk (A1O m t) b:=by
  rintro ⟨x,q,_,hq,hbq⟩;cases t with
  |none=>cases hq
  |some k' =>
   obtain ⟨_,e',sz',xs',g2,_⟩:=ht k' rfl;exact hx0.mr.sepT k k' e e' sz sz' xs xs' _ q hk g2 hτ hq (by grind) hbq
 rw [<-hbl] at o6 o7 o8 o9;obtain ⟨hmr',hTr⟩:=D01 hmr (fun cs hcs c hc=>D8M.1 (D8M.1 o7 cs hcs) c hc) b (off0+(i*sz+j)) e ((c.drop j).take len) cur hcur hnok (by omega) (fun j' c' hj' =>by
  rw [D8x] at hj';split at hj'
  ·rw [D8u] at hj';obtain ⟨u,e1,e2⟩:=hcells i (j+j') c c' hrow hj'
   grind
  ·cases hj') (fun q cs hq=>hsB q (by grind)) (fun x q h1 h2 h3=>hsT ⟨x,q,h1,h2,h3⟩)
 obtain ⟨p1,p2⟩:=C3X B8.length v1';have hcalls:=hC.body m1.w _ _ m1.ok vs hmr' (by grind) (fun q x hq=>by
  obtain ⟨c0,g1,g2⟩:=p2 q x hq;obtain ⟨u,e1,e2⟩:=hvv q c0 g1;have e1' :vs[q]? =some u:=by grind
  refine ⟨u,e1', ?_⟩;rcases g2 with ⟨g2,rfl⟩|⟨g2,g3⟩
  ·have:=hE2 q c0 g1 g2;subst this;have e2' :VRs m (.elt k i j) u:=e2;have hu:=(e2'.2.2 e sz xs hk).2 b off0 cap hτ;refine ⟨?_,e2'.2.1,fun _=> ?_⟩
   ·show B8.length<(bx++ [(c.drop j).take len]).length+1;simp;omega
   ·rw [hu];show _=Value.pointer (some ⟨(L4 (S3 m B8) bx.length (b,off0+(i*sz+j)) B8.length).1,(L4 (S3 m B8) bx.length (b,off0+(i*sz+j)) B8.length).2+0,none⟩);rw [<-hbl,H3]
    rfl
  ·obtain ⟨u',f1,f2⟩:=v2 q x g3;rw [hget q c0 u g1 e1,g2] at f1;simp only [Bool.false_eq_true,if_false,D82] at f1;subst f1;exact hTr.vr1 (D8M.1 o6 x (D8p g3)) f2)
 rw [h3] at hcalls
 suffices key: ∀u w',C8I F.P (bx++ [(c.drop j).take len]) tk (L4 (S3 m B8) bx.length (b,off0+(i*sz+j))) (A1O m t) m1.ok m.w r (bx' ++ [row']) tk' (.returned u) w' ->next (a.put o.dst u) w' by
  rcases hcalls with ⟨c1,c2⟩|⟨v,w',c1,c2⟩
  ·simp only [Oper.wp,hexec,c1,Oper.upon_enter];refine c2.mono ?_;intro en w' hp;have hp' :=hp;obtain ⟨u,β',p',ok',rfl,_⟩:=hp'
   grind
  ·simp only [Oper.wp,hexec,c1,Oper.upon_value]
   grind
 rintro u w' ⟨u',β',p',ok',hue,L0⟩;cases hue;apply hn;have hcur0:m.w.heap[b]? =some (.cells cur e (0,0)):=by grind
 obtain ⟨L,hok',cur',hb',hs',hun,hrl',hrow'⟩:=D0R L0 (by omega) (fun cs hcs c hc=>D8M.1 (D8M.1 o8 cs hcs) c hc) o9 cur e hcur0 hnok (fun q hq=>hsB q (by omega)) hsT
 rw [hrl] at hun hrl';have hbox1: ∀i,m1.s (.box i)=m.s (.box i):=fun i=>by rw [h2,B1C]
 have hlive: ∀(j i off len:Nat),B8[j]? =some (i,off,len)-> ∃cs,m1.s (.box i)= .box cs/\off+len<=cs.length:=fun j i off len hj=>by
  obtain ⟨cs0,_,_,q1,q2,_⟩:=b2 j _ hj
  grind
 have htok1: ∀k,t=some k-> ∃e sz xs,m1.s (.tok k)= .tok e sz xs/\m1.τ k=m.τ k:=fun k hk=>by
  obtain ⟨g1,e,sz,xs,g2,_⟩:=ht k hk;have e1:m1.s (.tok k)= .tok e sz xs:=by rw [h2,A6C _ _ _ g1];exact g2
  obtain ⟨_,_,_,g3⟩:=h5.tok k e sz xs e1 (hx0.mr.tok k e sz xs g2).1
  grind
 have hwβ1:S3 m1 B8=S3 m B8:=by
  funext j
  unfold S3;split
  ·rename_i i off len hj;obtain ⟨cs0,q1,_⟩:=hlive j i off len hj;have hA0:m.A i:=by rw [hbox1] at q1;exact (hx0.mr.box i cs0 q1).1
   rw [(h5.box i cs0 q1 hA0).2]
  ·rfl
 have hwτ:A1O m1 t=A1O m t:=by
  cases t with
  |none=>rfl
  |some k=>obtain ⟨_,_,_,_,g⟩:=htok1 k rfl;exact g
 have hbn: ∀(j i off len:Nat),B8[j]? =some (i,off,len)->(bx.getD j []).length=len:=fun j i off len hj=>by
  obtain ⟨cs0,ds,k,q1,q2,q3,q4,q5⟩:=b2 j _ hj;have q2' :off+len<=cs0.length:=q2;have hd' :bx.getD j []=ds:=by grind
  obtain ⟨g1,g2,cur,e,g3,g4,g5⟩:=hx0.mr.box i cs0 q1;have:=(B51 H _ _ _ (((cur.toList.drop (m.β i).2).drop off).take len) q3 (fun i hi=>by grind) (by simp only [D8C,D8I,Array.length_toList];omega) (fun j' c hj' =>by
   rw [D8x] at hj';split at hj'
   ·rename_i hlt;rw [D8u] at hj';obtain ⟨u,e1,e2,e3⟩:=g5 _ c hj';exact ⟨u,by rw [D8x,if_pos hlt,D8u,D8u];grind,e2,e3⟩
   ·cases hj')).1
  rw [hd',this];simp only [D8C,D8I];omega
 rw [<-h3,<-hwβ1,<-hwτ] at L;obtain ⟨m3,k1,k2,k3,k4,k5,k6,k7⟩:=C3w h1 id (by grind) hlive (fun k hk=>let ⟨e,sz,xs,g,_⟩:=htok1 k hk;⟨e,sz,xs,g⟩) hbl hbn o5 L
 have hkid:k≠id:=by grind
 have hτ3:m3.τ k=some (b,off0,cap):=(k7 k hkid).trans (hτ1.trans hτ);have hk3:m3.s (.tok k)= .tok e sz xs:=by rw [k2,C67 _ _ _ _ _ _ hkid hkt];exact hk1
 have hset:m3.w.heap[b]? =some (.cells cur e (0,0)):=by rw [k3];exact setRow_heap _ _ _ _ _ _ hb'
 have h7:=k1.dst o.dst _ u hd k5;have hdk:(m3.s.apply (dst o.dst (bk B8 id r))) (.tok k)=m3.s (.tok k):=by
  cases o.dst<;>rfl
 obtain ⟨_,_,_,_,hblk3⟩:=k1.mr.tok k e sz xs hk3;obtain ⟨_,_,_,cur3,hcur3,_,hcells3⟩:=hblk3 b off0 cap hτ3;rw [hset] at hcur3;cases hcur3;have hspl:j+row'.length<=c.length:=by omega
 have hsl:(S1 c j row').length=sz:=by rw [A3E _ _ _ hspl,hcl]
 have h8:=h7.setTok k b off0 cap e sz xs (xs.set i (S1 c j row')) cur cur' (hdk.trans hk3) hτ3 hset (by simp) (fun c' hc' =>by
  grind) hs' (fun i' j' c' x hi' hj' =>by
  by_cases hii:i=i'
  ·subst hii;rw [List.getElem?_set_self hil] at hi';cases hi';have hj'l:j' <sz:=by grind
   rw [C35 hspl] at hj'
   by_cases g1:j' <j
   ·rw [if_pos g1] at hj';obtain ⟨v,e1,e2⟩:=hcells3 i j' c x hrow hj'
    grind
   ·rw [if_neg g1] at hj'
    by_cases g2:j' <j+row'.length
    ·rw [if_pos g2] at hj';obtain ⟨v,e1,e2⟩:=hrow' _ x hj';refine ⟨v,by rw [show off0+(i*sz+j')=off0+(i*sz+j)+(j' -j) by omega];exact e1, ?_⟩
     have hp:=D2r (D8M.1 o10 x (D8p hj')) e2;show PR m3.w m3.ok x v;rw [k3,k6];exact PR.ext (w:=w') (ok:=ok') hp (fun _ h=>h) (fun b2 o2 hb2=>World.cell?_of_block (w:=w') (a:=⟨b2,o2,none⟩) (setRow_other w' b b2 cur (by grind)))
    ·rw [if_neg g2] at hj';obtain ⟨v,e1,e2⟩:=hcells3 i j' c x hrow hj'
     grind
  ·rw [List.getElem?_set_ne hii] at hi';have hj'l:j' <sz:=by grind
   obtain ⟨v,e1,e2⟩:=hcells3 i' j' c' x hi' hj';refine ⟨v, ?_,e2⟩;rw [hun _ (by
    rcases Nat.lt_or_gt_of_ne hii with h|h
    ·have:=C1u (j' :=j+len-1) (sz:=sz) h;omega
    ·have:=C1u (j' :=j') h hj'l;omega)]
   exact e1)
 have hset' :((m3.w).setRow b cur').heap[b]? =some (.cells cur' e (0,0)):=setRow_heap _ _ _ _ _ _ hset;have hh: ∀q,w'.heap[q]? =(m3.w.setRow b cur').heap[q]? :=fun q=>by
  by_cases hqb:q=b
  ·subst hqb;rw [hset',hb']
  ·rw [setRow_other _ _ _ _ hqb,k3,setRow_other _ _ _ _ hqb]
 have h9:=h8.grow w' (by show (m3.w.setRow b cur').heap.size<=_;rw [size_setRow,k3,size_setRow];omega) (fun q _=>hh q) (fun ad _=>by
  show _=(m3.w.setRow b cur').frozen? ad;rw [A5y,k3,A5y]) (by show _=(m3.w.setRow b cur').os;rw [k3];rfl) (by show _=(m3.w.setRow b cur').tape;rw [k3];rfl) (by show _=(m3.w.setRow b cur').output;rw [k3];rfl)
 refine ⟨m3.β,m3.τ,m3.ok, ?_⟩;have hst:(⟨m.s.apply (B3D m.s id o.dst B8 t ks r bx' tk' k e sz (xs.set i (S1 c j row'))),m3.β,m3.τ,fun i=>m.A i\/i=id,m3.ok,w'⟩:G7)=
   ⟨(m3.s.apply (dst o.dst (bk B8 id r))).put (.tok k) (.tok e sz (xs.set i (S1 c j row'))),m3.β,m3.τ,m3.A,m3.ok,w'⟩:=by
  unfold B3D;show (⟨(m.s.apply (dst o.dst (bk B8 id r)++(B3P id tk' ++(B0D id B8.length (bk0 B8 id) bx' ++(X3 m.s (bk0 B8 id) B8 bx' ++kills (t.toList++ks)))))).put _ _,_,_,_,_,_⟩:G7)=_;rw [k2,A4x,B6z hbox1,h2,H8,H8,H8,H8,B8g,H8,H8,H8,k4,h4]
 grind
end Go.Vc
