/- The contracts: each function of the program does what its function on plain data says. Made by program. -/
import Derived.Test.YtnanpdjjnegknaaGreatTab
import Derived.Test.YtnanpdjjnegknaaGreatWin
import Derived.Test.YtnanpdjjnegknaaGreatVc
import Derived.Test.YtnanpdjjnegknaaGreatWalk
import Derived.Test.YtnanpdjjnegknaaGreatSrt
set_option linter.unusedVariables false
set_option linter.unusedSimpArgs false
set_option linter.unnecessarySimpa false
set_option maxHeartbeats 40000000
set_option maxRecDepth 20000
namespace Go.Proofs.YtnanpdjjnegknaaGreat
open Go.Vc Go.Dec Go.Win
theorem cE {α:Type} {k c:Int} {a b:Option α} {r:α} {G:Prop} (h:(cond (k==c) a b)=some r) (p:k=c->a=some r->G) (q:b=some r->G):G:=by
 by_cases hk:k=c
 ·exact p hk (by rw [D2L.2 hk] at h;exact h)
 ·exact q (by rw [D2H.2 hk] at h;exact h)
theorem mE {k c:Int} {l:List (List AV)} {y:List AV} (g:k=c) (h:0<=c-1/\l[(c-1).toNat]? =some y):0<=k-1/\l[(k-1).toNat]? =some y:=by
 subst g;exact h
theorem lE {α:Type} {a b:α} (h:a=b:=by first|rfl|(simp only [V2,D2P,D2K,List.map_nil,List.map_take,List.map_drop,List.map_set,List.map_replicate];done)|(simp only [V2,D2P,D2K,List.map_nil,List.map_take,List.map_drop,List.map_set,List.map_replicate];rfl)|(simp only [V2,D2P,D2K,List.map_nil,List.map_take,List.map_drop,List.map_set,List.map_replicate,eL,J0,J2,K3,I2,I3,J7,A5b,H3,C9,A3T,G1,A5c,B2,G8,H1,A9,A3S,W9,Z5,A2S,I0,A2F];done)|(simp only [V2,D2P,D2K,List.map_nil,List.map_take,List.map_drop,List.map_set,List.map_replicate,eL,J0,J2,K3,I2,I3,J7,A5b,H3,C9,A3T,G1,A5c,B2,G8,H1,A9,A3S,W9,Z5,A2S,I0,A2F];rfl)|(simp only [C4c,C5A,M5,D2R,List.map_replicate,List.map_take];rfl)|(simp only [C4c,List.nil_append,D2E,V2,D2P,D2K,List.map_nil,List.map_take,List.map_drop,List.map_set,List.map_replicate,eL,J0,J2,K3,I2,I3,J7,A5b,H3,C9,A3T,G1,A5c,B2,G8,H1,A9,A3S,W9,Z5,A2S,I0,A2F];first|done|rfl)|(simp only [D2E,D2Q,D1X,V2,D2P,D2K,List.map_nil,List.map_take,List.map_drop,List.map_set,List.map_replicate,eL,J0,J2,K3,I2,I3,J7,A5b,H3,C9,A3T,G1,A5c,B2,G8,H1,A9,A3S,W9,Z5,A2S,I0,A2F];first|done|rfl)):a=b:=h
abbrev tM (n:Nat) (v:AV):Vc.Loc×N7:=(.tmp n, .av v)
abbrev tB (n:Nat) (cs:List AV):Vc.Loc×N7:=(.box n, .box cs)
abbrev iI (n:Int):AV:= .int .i64 n
abbrev iU (n:Int):AV:= .int .u64 n
abbrev lF (n:Nat) (xs:List (List AV)):AV:= .lst n false xs
theorem cD {α:Type} {b:Bool} {x y r:α} {p q:Prop} (h:cond b x y=r) (A:b=true->x=r->p) (B:b=false->y=r->q):(b=true->p)/\(b=false->q):=⟨fun g=>A g (cT g h),fun g=>B g (cF g h)⟩
theorem cN {α:Type} {b:Bool} {x y r:α} {p q:Prop} (h:cond (!b) x y=r) (A:b=true->y=r->p) (B:b=false->x=r->q):(b=true->p)/\(b=false->q):=⟨fun g=>A g (cF (nE g) h),fun g=>B g (cT (nE g) h)⟩
theorem cK {p:CK->Prop} {a:AV} {bs:List (List AV)} (h:p (CK.plain a bs)):Exists p:=⟨_,h⟩
theorem jU {p:List (Nat×Option Nat)->List Nat->Unit->Prop} (h:p [] [] ()): ∃a b c,p a b c:=⟨[], [],(),h⟩
theorem jT {α:Type} {p:List (Nat×Option Nat)->List Nat->α->Prop} (c:α) (h:p [] [] c): ∃a b c,p a b c:=⟨[], [],c,h⟩
theorem jL (n:Nat):n<n+1:=D19 n
theorem C0 {f:FuncId} {fn:Func} (hf:Tryz.prog.funcs[f]? =some fn) (hcall:∀(vs:Array Value) (w:World),(callFunc f vs).run Tryz.prog w= .ok (.enter f vs) w) {args:List AV} {bx:List (List AV)} {tk:N6} {r:AV} {bx' :List (List AV)} {tk' :N6} (m:Nat)
  (h:vcs Tryz.prog tab m (A93 fn) A4U m (A0V args bx tk) (D04 tab m fn.results.toList r bx' tk')) (hst:(C0H fn&&A0X fn.ntmps (A93 fn))=true:=by kernel_rfl) (hmm:bx.length+1=m:=by rfl) (hargs:Nat.ble args.length fn.ntmps=true:=by rfl):A1 Tryz.prog f args bx tk r bx' tk' :=
 B9c D07 C8E hf hcall hst m hmm hargs _ rfl h
theorem cW {f:FuncId} {a1 a2:List AV} {bx bx2:List (List AV)} {tk tk2:N6} {r:AV} {bx' :List (List AV)} {tk' :N6} (h:A1 Tryz.prog f a2 bx2 tk2 r bx' tk') (hw:B8L (bx2.length+1) a1 a2 (B6D (bx2.length+1) bx bx2 (tkW tk tk2))):A1 Tryz.prog f a1 bx tk r bx' tk' :=A1.wk h hw
theorem bC {α β:Type} {m:Option α} {k:α->Option β} {r:β} {P:Prop} (h:m.bind k=some r) (H:∀a,m=some a->k a=some r->P):P:=let ⟨a,e,f⟩:=bS h;H a e f
theorem kC {α:Type} {b:Bool} {k:Option α} {r:α} {P:Prop} (h:ck b k=some r) (H:b=true->k=some r->P):P:=let ⟨e,f⟩:=ckS h;H e f
theorem oC {S R:Type} {f:S->Option (S⊕R)} {s:S} {r:R} {P:Prop} (h:loop f s=some r) (H:∀n,J8 f n s=some r->P):P:=let ⟨n,e⟩:=B6K h;H n e
theorem zz {P:Prop} (hh:P:=by repeat first|exact trivial|refine r8 ?_|refine r1 ?_|refine fr ?_):P:=hh
theorem lf {P:Prop} (hh:P:=by
 first|cases h|rw [<-oJ h]
 repeat first|exact trivial|refine eN ?_|refine r8 ?_|refine r1 ?_|refine fr ?_):P:=hh
theorem lO {S R:Type} {f:S->Option (S⊕R)} {s:S} {r:R} {G:Inv⊕Nat->Prop} (h:loop f s=some r) (E:S->St) (H:∀n,J8 f n s=some r->G (.inl ⟨S×Nat,fun q=>E q.1,fun q=>J8 f q.2 q.1=some r,fun q=>q.2⟩)):Exists G:=let ⟨n,e⟩:=B6K h;⟨_,H n e⟩
theorem nx {S R:Type} {f:S->Option (S⊕R)} {r:R} {V:S×Nat->Prop} (H:∀(s:S) (m:Nat) (x:S⊕R),f s=some x->(∀s',x=.inl s'->J8 f m s'=some r)->(∀r',x=.inr r'->r'=r)->V (s,m+1)):∀q:S×Nat,J8 f q.2 q.1=some r->V q:=fun ⟨s,n⟩ h=>by
 obtain ⟨m,x,hm,h,hl,hr⟩:=B3S h
 replace hm:n=m+1:=hm
 subst hm
 exact H s m x h hl hr
theorem uO {G:Option (Inv×Nat)->Prop} (st:St) (n:Nat) (h:G (some (⟨Unit,fun _=>st,fun _=>True,fun _=>0⟩,n))):Exists G:=⟨_,h⟩
theorem jV {p:List (Nat×Option Nat)->List Nat->Unit->Prop} (h:p [] [] ()):∃a b c,True/\p a b c:=⟨[],[],(),trivial,h⟩
theorem jR {S R:Type} {f:S->Option (S⊕R)} {r:R} {s':S} {m:Nat} {x:S⊕R} {W:List (Nat×Option Nat)->List Nat->S×Nat->Prop} (h:some (Sum.inl s')=some x) (hl:∀s',x=.inl s'->J8 f m s'=some r) (k:W [] [] (s',m)):∃a b c,J8 f (Prod.snd c) (Prod.fst c)=some r/\(Prod.snd c<m+1/\W a b c):=⟨[],[],(s',m),hl _ (oJ h).symm,jL m,k⟩
end Go.Proofs.YtnanpdjjnegknaaGreat
