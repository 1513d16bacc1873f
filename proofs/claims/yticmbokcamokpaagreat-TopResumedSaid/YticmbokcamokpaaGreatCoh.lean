/- The contracts: each function of the program does what its function on plain data says. Made by program. -/
import Derived.Test.YticmbokcamokpaaGreatTab
import Derived.Test.YticmbokcamokpaaGreatWin
import Derived.Test.YticmbokcamokpaaGreatVc
import Derived.Test.YticmbokcamokpaaGreatWalk
import Derived.Test.YticmbokcamokpaaGreatSrt
set_option linter.unusedVariables false
set_option linter.unusedSimpArgs false
set_option linter.unnecessarySimpa false
set_option maxHeartbeats 40000000
set_option maxRecDepth 20000
namespace Go.Proofs.YticmbokcamokpaaGreat
open Go.Vc Go.Dec Go.Win
theorem cE {α:Type} {k c:Int} {a b:Option α} {r:α} {G:Prop} (h:(cond (k==c) a b)=some r) (p:k=c->a=some r->G) (q:b=some r->G):G:=by
 by_cases hk:k=c
 ·exact p hk (by rw [D84.2 hk] at h;exact h)
 ·exact q (by rw [D80.2 hk] at h;exact h)
theorem mE {k c:Int} {l:List (List AV)} {y:List AV} (g:k=c) (h:0<=c-1/\l[(c-1).toNat]? =some y):0<=k-1/\l[(k-1).toNat]? =some y:=by
 subst g;exact h
theorem lE {α:Type} {a b:α} (h:a=b:=by first|rfl|(simp only [A0w,D89,D83,List.map_nil,List.map_take,List.map_drop,List.map_set,List.map_replicate];done)|(simp only [A0w,D89,D83,List.map_nil,List.map_take,List.map_drop,List.map_set,List.map_replicate];rfl)|(simp only [A0w,D89,D83,List.map_nil,List.map_take,List.map_drop,List.map_set,List.map_replicate,eL,M9,N1,P3,K9,K4,O6,A8o,I7,F8,A64,H9,A8p,D1,I1,G4,C6,A63,E6,A1g,A0U,H6,A5e,A3C,A8q];done)|(simp only [A0w,D89,D83,List.map_nil,List.map_take,List.map_drop,List.map_set,List.map_replicate,eL,M9,N1,P3,K9,K4,O6,A8o,I7,F8,A64,H9,A8p,D1,I1,G4,C6,A63,E6,A1g,A0U,H6,A5e,A3C,A8q];rfl)|(simp only [C5I,C7a,P6,D9b,List.map_replicate,List.map_take];rfl)|(simp only [C5I,List.nil_append,D8X,A0w,D89,D83,List.map_nil,List.map_take,List.map_drop,List.map_set,List.map_replicate,eL,M9,N1,P3,K9,K4,O6,A8o,I7,F8,A64,H9,A8p,D1,I1,G4,C6,A63,E6,A1g,A0U,H6,A5e,A3C,A8q];first|done|rfl)|(simp only [D8X,D9a,D8g,A0w,D89,D83,List.map_nil,List.map_take,List.map_drop,List.map_set,List.map_replicate,eL,M9,N1,P3,K9,K4,O6,A8o,I7,F8,A64,H9,A8p,D1,I1,G4,C6,A63,E6,A1g,A0U,H6,A5e,A3C,A8q];first|done|rfl)):a=b:=h
abbrev tM (n:Nat) (v:AV):Vc.Loc×P2:=(.tmp n, .av v)
abbrev tB (n:Nat) (cs:List AV):Vc.Loc×P2:=(.box n, .box cs)
abbrev iI (n:Int):AV:= .int .i64 n
abbrev iU (n:Int):AV:= .int .u64 n
abbrev lF (n:Nat) (xs:List (List AV)):AV:= .lst n false xs
theorem cD {α:Type} {b:Bool} {x y r:α} {p q:Prop} (h:cond b x y=r) (A:b=true->x=r->p) (B:b=false->y=r->q):(b=true->p)/\(b=false->q):=⟨fun g=>A g (cT g h),fun g=>B g (cF g h)⟩
theorem cN {α:Type} {b:Bool} {x y r:α} {p q:Prop} (h:cond (!b) x y=r) (A:b=true->y=r->p) (B:b=false->x=r->q):(b=true->p)/\(b=false->q):=⟨fun g=>A g (cF (nE g) h),fun g=>B g (cT (nE g) h)⟩
theorem cK {p:CK->Prop} {a:AV} {bs:List (List AV)} (h:p (CK.plain a bs)):Exists p:=⟨_,h⟩
theorem jU {p:List (Nat×Option Nat)->List Nat->Unit->Prop} (h:p [] [] ()): ∃a b c,p a b c:=⟨[], [],(),h⟩
theorem jT {α:Type} {p:List (Nat×Option Nat)->List Nat->α->Prop} (c:α) (h:p [] [] c): ∃a b c,p a b c:=⟨[], [],c,h⟩
theorem jL (n:Nat):n<n+1:=D8s n
theorem C0 {f:FuncId} {fn:Func} (hf:Tryz.prog.funcs[f]? =some fn) (hcall:∀(vs:Array Value) (w:World),(callFunc f vs).run Tryz.prog w= .ok (.enter f vs) w) {args:List AV} {bx:List (List AV)} {tk:N3} {r:AV} {bx' :List (List AV)} {tk' :N3} (m:Nat)
  (h:vcs Tryz.prog tab m (B3w fn) A74 m (A29 args bx tk) (D6i tab m fn.results.toList r bx' tk')) (hst:(C2v fn&&A3b fn.ntmps (B3w fn))=true:=by kernel_rfl) (hmm:bx.length+1=m:=by rfl) (hargs:Nat.ble args.length fn.ntmps=true:=by rfl):C5 Tryz.prog f args bx tk r bx' tk' :=
 C09 D6t D1m hf hcall hst m hmm hargs _ rfl h
theorem cW {f:FuncId} {a1 a2:List AV} {bx bx2:List (List AV)} {tk tk2:N3} {r:AV} {bx' :List (List AV)} {tk' :N3} (h:C5 Tryz.prog f a2 bx2 tk2 r bx' tk') (hw:B6V (bx2.length+1) a1 a2 (B5A (bx2.length+1) bx bx2 (tkW tk tk2))):C5 Tryz.prog f a1 bx tk r bx' tk' :=C5.wk h hw
theorem pN {m:Nat} {V:Nat->St->Prop} {M:Prop} {nx:Nat} {st:St} (h:V nx st):C8J m V M nx st:=⟨⟨none,h⟩⟩
theorem jN {m:Nat} {V:KT->Prop} {R:VT} {nx:Nat} {st:St} {K:KT} (h:V fun e nx' st'=>match e with
 |.normal=>R nx' st' K
 |e=>K e nx' st'):D3A m V R nx st K:=⟨⟨none,h⟩⟩
theorem bC {α β:Type} {m:Option α} {k:α->Option β} {r:β} {P:Prop} (h:m.bind k=some r) (H:∀a,m=some a->k a=some r->P):P:=let ⟨a,e,f⟩:=bS h;H a e f
theorem kC {α:Type} {b:Bool} {k:Option α} {r:α} {P:Prop} (h:ck b k=some r) (H:b=true->k=some r->P):P:=let ⟨e,f⟩:=ckS h;H e f
theorem oC {S R:Type} {f:S->Option (S⊕R)} {s:S} {r:R} {P:Prop} (h:loop f s=some r) (H:∀n,M7 f n s=some r->P):P:=let ⟨n,e⟩:=B4O h;H n e
theorem zz {P:Prop} (hh:P:=by repeat first|exact trivial|refine r8 ?_|refine r1 ?_|refine fr ?_):P:=hh
theorem lf {P:Prop} (hh:P:=by
 first|cases h|rw [<-oJ h]
 repeat first|exact trivial|refine eN ?_|refine pN ?_|refine jN ?_|refine r8 ?_|refine r1 ?_|refine fr ?_):P:=hh
theorem lO {S R:Type} {f:S->Option (S⊕R)} {s:S} {r:R} {G:Inv⊕Nat->Prop} (h:loop f s=some r) (E:S->St) (H:∀n,M7 f n s=some r->G (.inl ⟨S×Nat,fun q=>E q.1,fun q=>M7 f q.2 q.1=some r,fun q=>q.2⟩)):Exists G:=let ⟨n,e⟩:=B4O h;⟨_,H n e⟩
theorem nx {S R:Type} {f:S->Option (S⊕R)} {r:R} {V:S×Nat->Prop} (H:∀(s:S) (m:Nat) (x:S⊕R),f s=some x->(∀s',x=.inl s'->M7 f m s'=some r)->(∀r',x=.inr r'->r'=r)->V (s,m+1)):∀q:S×Nat,M7 f q.2 q.1=some r->V q:=fun ⟨s,n⟩ h=>by
 obtain ⟨m,x,hm,h,hl,hr⟩:=B2O h
 replace hm:n=m+1:=hm
 subst hm
 exact H s m x h hl hr
theorem uO {G:Option (Inv×Nat)->Prop} (st:St) (n:Nat) (h:G (some (⟨Unit,fun _=>st,fun _=>True,fun _=>0⟩,n))):Exists G:=⟨_,h⟩
theorem jV {p:List (Nat×Option Nat)->List Nat->Unit->Prop} (h:p [] [] ()):∃a b c,True/\p a b c:=⟨[],[],(),trivial,h⟩
theorem jR {S R:Type} {f:S->Option (S⊕R)} {r:R} {s':S} {m:Nat} {x:S⊕R} {W:List (Nat×Option Nat)->List Nat->S×Nat->Prop} (h:some (Sum.inl s')=some x) (hl:∀s',x=.inl s'->M7 f m s'=some r) (k:W [] [] (s',m)):∃a b c,M7 f (Prod.snd c) (Prod.fst c)=some r/\(Prod.snd c<m+1/\W a b c):=⟨[],[],(s',m),hl _ (oJ h).symm,jL m,k⟩
class CC (f:Nat) (P:outParam Prop):Prop where
 pf:P
def fQ:List AV->List AV->Nat->Option (Nat×Nat)
 |.ptr b o::xs,.ptr j _::bs,i=>match Nat.beq j i with
  |true=>some (b,o)
  |false=>fQ xs bs i
 |_::xs,_::bs,i=>fQ xs bs i
 |_,_,_=>none
def fP:List AV->List AV->Nat->Option (Nat×Nat)
 |.ptr b o::xs,.ptr j _::bs,i=>match Nat.beq j i with
  |true=>some (b,o)
  |false=>fP xs bs i
 |.clo _ _ c::xs,.clo _ _ d::bs,i=>match fQ c d i with
  |some p=>some p
  |none=>fP xs bs i
 |_::xs,_::bs,i=>fP xs bs i
 |_,_,_=>none
def gR (i:Nat):List AV->List AV->Option (Nat×Nat)
 |.ptr j _::xs,.ptr b o::ys=>match Nat.beq j i with
  |true=>some (b,o)
  |false=>gR i xs ys
 |_::xs,_::ys=>gR i xs ys
 |_,_=>none
def gB (s:AS) (i:Nat):List ((Nat×Nat×Nat)×List AV)->Option (Nat×Nat)
 |[]=>none
 |((x,o,n),row)::l=>match s (.box x) with
  |.box cs=>match gR i row ((cs.drop o).take n) with
   |some p=>some p
   |none=>gB s i l
  |_=>gB s i l
def aX (s:AS) (a a2:List AV):List (List AV)->Nat->List ((Nat×Nat×Nat)×List AV)->L5
 |[],_,_=>[]
 |b::bs,i,l=>match fP a a2 i with
  |some (x,o)=>(x,o,b.length)::aX s a a2 bs (i+1) (((x,o,b.length),b)::l)
  |none=>match gB s i l with
   |some (x,o)=>(x,o,b.length)::aX s a a2 bs (i+1) (((x,o,b.length),b)::l)
   |none=>aX s a a2 bs (i+1) l
def oI:List AV->Option Nat
 |.own t::_=>some t
 |_::r=>oI r
 |[]=>none
def oW (s:AS):L5->Option Nat
 |[]=>none
 |(x,o,n)::w=>match s (.box x) with
  |.box cs=>match oI ((cs.drop o).take n) with
   |some t=>some t
   |none=>oW s w
  |_=>oW s w
def aT (s:AS) (a:List AV) (w:L5):N3->Option Nat
 |none=>none
 |some _=>match oI a with
  |some t=>some t
  |none=>oW s w
theorem pM {m:Nat} {V:Nat->St->Prop} {M:Prop} {nx:Nat} {st:St} (h:M):C8J m V M nx st:=⟨⟨some none,h⟩⟩
class CF (H:Prop) (f:outParam Nat) (a:outParam (List AV)) (b:outParam (List (List AV))) (t:outParam N3) (r:outParam AV) (b':outParam (List (List AV))) (t':outParam N3):Prop where
 pf:H->C5 Tryz.prog f a b t r b' t'
theorem cG {id:Nat} {s:AS} {f:FuncId} {a:List AV} {d:Option Tmp} {K:U5->Prop} {Q:Prop} [i:CC f Q] {a2:List AV} {b2:List (List AV)} {t2:N3} {r:AV} {bx':List (List AV)} {tk':N3} (h:Q->C5 Tryz.prog f a2 b2 t2 r bx' tk')
  (H:match O9 s (aX s a a2 b2 0 []) (aT s a (aX s a a2 b2 0 []) t2) a with
   |.bad=>False
   |.go xs bx tk ks=>B6V (b2.length+1) xs a2 (B5A (b2.length+1) bx b2 (tkW tk t2)))
  (H2:match O9 s (aX s a a2 b2 0 []) (aT s a (aX s a a2 b2 0 []) t2) a with
   |.bad=>False
   |.go xs bx tk ks=>A28 s a (aX s a a2 b2 0 []) (aT s a (aX s a a2 b2 0 []) t2)=true/\(B89 (aX s a a2 b2 0 []) (aT s a (aX s a a2 b2 0 []) t2) r bx' tk'=true/\K (A9D s id d (aX s a a2 b2 0 []) (aT s a (aX s a a2 b2 0 []) t2) ks r bx' tk'))):C8F Tryz.prog id s f a d K:=⟨⟨.gen (aX s a a2 b2 0 []) (aT s a (aX s a a2 b2 0 []) t2) r bx' tk',by
  revert H H2
  show (match O9 s (aX s a a2 b2 0 []) (aT s a (aX s a a2 b2 0 []) t2) a with|.bad=>False|.go xs bx tk ks=>_)->(match O9 s (aX s a a2 b2 0 []) (aT s a (aX s a a2 b2 0 []) t2) a with|.bad=>False|.go xs bx tk ks=>_)->(match O9 s (aX s a a2 b2 0 []) (aT s a (aX s a a2 b2 0 []) t2) a with|.bad=>False|.go xs bx tk ks=>_)
  cases O9 s (aX s a a2 b2 0 []) (aT s a (aX s a a2 b2 0 []) t2) a with
  |bad=>exact fun _ x=>x
  |go xs bx tk ks=>exact fun x ⟨y,z,w⟩=>⟨cW (h i.pf) x,y,z,w⟩⟩⟩
theorem cGf {id:Nat} {s:AS} {f:FuncId} {a:List AV} {d:Option Tmp} {K:U5->Prop} {H0:Prop} {a2:List AV} {b2:List (List AV)} {t2:N3} {r:AV} {bx':List (List AV)} {tk':N3} [i:CF H0 f a2 b2 t2 r bx' tk'] (h:H0)
  (H:match O9 s (aX s a a2 b2 0 []) (aT s a (aX s a a2 b2 0 []) t2) a with
   |.bad=>False
   |.go xs bx tk ks=>B6V (b2.length+1) xs a2 (B5A (b2.length+1) bx b2 (tkW tk t2)))
  (H2:match O9 s (aX s a a2 b2 0 []) (aT s a (aX s a a2 b2 0 []) t2) a with
   |.bad=>False
   |.go xs bx tk ks=>A28 s a (aX s a a2 b2 0 []) (aT s a (aX s a a2 b2 0 []) t2)=true/\(B89 (aX s a a2 b2 0 []) (aT s a (aX s a a2 b2 0 []) t2) r bx' tk'=true/\K (A9D s id d (aX s a a2 b2 0 []) (aT s a (aX s a a2 b2 0 []) t2) ks r bx' tk'))):C8F Tryz.prog id s f a d K:=⟨⟨.gen (aX s a a2 b2 0 []) (aT s a (aX s a a2 b2 0 []) t2) r bx' tk',by
  revert H H2
  show (match O9 s (aX s a a2 b2 0 []) (aT s a (aX s a a2 b2 0 []) t2) a with|.bad=>False|.go xs bx tk ks=>_)->(match O9 s (aX s a a2 b2 0 []) (aT s a (aX s a a2 b2 0 []) t2) a with|.bad=>False|.go xs bx tk ks=>_)->(match O9 s (aX s a a2 b2 0 []) (aT s a (aX s a a2 b2 0 []) t2) a with|.bad=>False|.go xs bx tk ks=>_)
  cases O9 s (aX s a a2 b2 0 []) (aT s a (aX s a a2 b2 0 []) t2) a with
  |bad=>exact fun _ x=>x
  |go xs bx tk ks=>exact fun x ⟨y,z,w⟩=>⟨cW (i.pf h) x,y,z,w⟩⟩⟩
def pick (s:AS) (ks bs:List Nat):St:=ks.map (fun k=>(.tmp k,s (.tmp k)))++bs.map (fun b=>(.box b,s (.box b)))
def aRc:List AV->List AV->O1
 |.own t::a,.own k::b=>(t,some k)::aRc a b
 |.own t::a,_::b=>(t,none)::aRc a b
 |_::a,_::b=>aRc a b
 |_,_=>[]
def aRr (s:AS):Vc.Loc×P2->O1
 |(.tmp d,.av (.own t))=>match s (.tmp d) with
  |.av (.own k)=>[(t,some k)]
  |_=>[(t,none)]
 |(.box b,.box cs)=>match s (.box b) with
  |.box cs'=>aRc cs cs'
  |_=>[]
 |_=>[]
def aRo (s:AS):St->O1
 |[]=>[]
 |x::r=>aRr s x++aRo s r
theorem lA {S R:Type} {f:S->Option (S⊕R)} {s:S} {r:R} {m nx:Nat} {st:St} {K:KT} {vx:VT} (h:loop f s=some r) (u:List Nat×List Nat×(S->St))
  (H0:Wkf m nx (aRo (St.get st) (u.2.2 s++pick (St.get st) u.1 u.2.1)) [] (St.get st) (u.2.2 s++pick (St.get st) u.1 u.2.1))
  (H:∀(s':S) (n:Nat) (x:S⊕R),f s'=some x->(∀s'',x=.inl s''->M7 f n s''=some r)->(∀r',x=.inr r'->r'=r)->
   X0 (u.2.2 s'++pick (St.get st) u.1 u.2.1) [] fun st2=>vx nx st2 fun e nx' st'=>match e with
    |.normal=>∃ρ fz x',M7 f (Prod.snd x') (Prod.fst x')=some r/\(Prod.snd x'<n+1/\Wkf m nx ρ fz (St.get st') (u.2.2 (Prod.fst x')++pick (St.get st) u.1 u.2.1))
    |e=>K e nx' st'):C8H m vx nx st K:=by
 obtain ⟨n,hn⟩:=B4O h
 refine ⟨⟨.inl ⟨S×Nat,fun q=>u.2.2 q.1++pick (St.get st) u.1 u.2.1,fun q=>M7 f q.2 q.1=some r,fun q=>q.2⟩,⟨_,_,(s,n),hn,H0⟩,?_⟩⟩
 rintro ⟨s',n'⟩ hq
 obtain ⟨k,x,hm,hx,hl,hr⟩:=B2O hq
 have hm:n'=k+1:=hm
 subst hm
 have:=H s' k x hx hl hr
 rw [A67,List.append_nil] at this
 exact this
theorem lU {m nx:Nat} {st:St} {K:KT} {vx:VT} (n:Nat) (h:D3r vx n nx st K):C8H m vx nx st K:=⟨⟨.inr n,h⟩⟩
theorem cTk {α:Type} {b:Bool} {x y r:α} {P:Prop} (h:cond b x y=r) (e:b=true) (k:x=r->P):P:=k (cT e h)
theorem cFk {α:Type} {b:Bool} {x y r:α} {P:Prop} (h:cond b x y=r) (e:b=false) (k:y=r->P):P:=k (cF e h)
theorem uA {a b c:Bool} {P:Prop} (h:(a&&b)=c) (k:(a&&b)=c->P):P:=k h
theorem uR {a b c:Bool} {P:Prop} (h:(a||b)=c) (k:(a||b)=c->P):P:=k h
theorem uN {a c:Bool} {P:Prop} (h:(!a)=c) (k:(!a)=c->P):P:=k h
theorem gX {α β:Type} [Inhabited α] {b:Bool} {m:Option α} {k:α->Option β} {r:β} {P:Prop} (h:Option.bind (gd b m) k=some r) (e:b=true) (K:m.bind k=some r->P):P:=K (by rw [e,H7] at h;exact h)
theorem gS {α β:Type} [Inhabited α] {b:Bool} {m:Option α} {k:α->Option β} {r:β} {P:Prop} (h:Option.bind (gd b m) k=some r) (e:b=false) (K:∀a,k a=some r->P):P:=by rw [e] at h;exact K _ h
theorem jRa {S R:Type} {f:S->Option (S⊕R)} {r:R} {s':S} {n m nx:Nat} {x:S⊕R} {E:S->St} {B:St} {s:AS} (h:some (Sum.inl s')=some x) (hl:∀s',x=.inl s'->M7 f n s'=some r) (k:Wkf m nx (aRo s (E s'++B)) [] s (E s'++B)):
  ∃(ρ:O1) (fz:List Nat) (x':S×Nat),M7 f (Prod.snd x') (Prod.fst x')=some r/\(Prod.snd x'<n+1/\Wkf m nx ρ fz s (E (Prod.fst x')++B)):=⟨_,_,(s',n),hl _ (oJ h).symm,D8s n,k⟩
theorem au {P:Prop} (hh:P:=by
 repeat' ((conv=>whnf);first
  |done
  |refine pN ?_
  |refine jN ?_
  |refine cD h (fun g h=>?_) (fun g h=>?_)
  |refine cN h (fun g h=>?_) (fun g h=>?_)
  |(refine bC h fun a f h=>?_;first|refine cGf f ?_ ?_|refine eX _ (An (J9 _ f) ?_)|refine eX _ (An (P8 _ f) ?_)|(refine An ?_ ?_;focus (first|exact kL (N7 _ f)|exact N7 _ f|exact B3q _ f))|refine eX _ (An (kM (P8 _ f)) ?_))
  |(refine kC h fun e h=>An ?_ ?_;focus (first|exact oD e|exact kA (oD e)|exact kV (oD e)|exact kF (oD e)|exact kL (oD e)|exact kM (oD e)))
  |refine cG (fun k=>k rfl) (by repeat first|exact trivial|exact rfl|refine r8 ?_|refine r1 ?_|refine fr ?_) ?_
  |refine eX _ (An (lenS _ _) ?_)
  |refine eX _ (An (D5R rfl) ?_)
  |refine eX _ (An ⟨by decide,rfl⟩ ?_)
  |(refine lA h E ?_ fun b m1 x1 h hl1 hr1=>?_;focus (repeat first|exact trivial|exact rfl|refine r8 ?_|refine r1 ?_|refine fr ?_|refine An lE ?_|refine An ff (An lE ?_);done))
  |(refine lA h F ?_ fun b m1 x1 h hl1 hr1=>?_;focus (repeat first|exact trivial|exact rfl|refine r8 ?_|refine r1 ?_|refine fr ?_|refine An lE ?_|refine An ff (An lE ?_);done))
  |refine jRa h hl1 ?_
  |(refine An (fun g=>?_) (fun g=>?_)<;>try exact absurd g (by decide))
  |(replace h:=W1 h hr1)
  |(replace h:=A2I h hr1)
  |(refine gX h ?_ fun h=>?_;focus (first|rfl|assumption|(simp only [*,D8U,D8B,D8L,D8F,D8m,D8n];done)))
  |(refine gS h ?_ fun a h=>?_;focus (first|rfl|assumption|(simp only [*,D8U,D8B,D8L,D8F,D8m,D8n];done)))
  |(refine cTk h ?_ fun h=>?_;focus (first|rfl|assumption|(simp only [*,D8U,D8B,D8L,D8F,D8m,D8n];done)))
  |(refine cFk h ?_ fun h=>?_;focus (first|rfl|assumption|(simp only [*,D8U,D8B,D8L,D8F,D8m,D8n];done)))
  |focus ((first|refine uA h fun h=>?_|refine uR h fun h=>?_|refine uN h fun h=>?_|skip);(first|cases h|rw [<-oJ h]);(repeat first|exact trivial|exact rfl|refine r8 ?_|refine r1 ?_|refine fr ?_|refine pN ?_|refine An ff (An lE ?_)|(refine An ?_ ?_;focus (first|rfl|assumption|(simp only [*,D8U,D8B,D8L,D8F,D8m,D8n];done))));done)
  |exact trivial
  |exact rfl
  |refine r8 ?_
  |refine r1 ?_
  |refine fr ?_
  |refine An ff (An lE ?_)
  |refine An lE ?_
  |(refine An ?_ ?_;focus (decide;done))
  |refine lU 8 ?_
  |focus (exfalso;simp_all;done))):P:=hh
end Go.Proofs.YticmbokcamokpaaGreat
