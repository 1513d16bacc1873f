/- Plain laws of the functions on plain data. -/
import Derived.Test.YtmipeaidieflmaaGreatPuSnJ
set_option linter.unusedVariables false
set_option linter.unusedSimpArgs false
set_option linter.unnecessarySimpa false
set_option linter.unusedSectionVars false
namespace Go.Win
open Go.Vc Go.Dec
def As {α:Type} (P:Rd α) (x:α) (ns:List Int):Prop:= ∀rest,P (ns++rest)=some (x,rest)
theorem As.pure {α:Type} (x:α):As (H8 x) x []:=fun _=>rfl
theorem As.int {β:Type} {f:Int->Rd β} {b:β} {n:Int} {ms:List Int} (h:As (f n) b ms):As (B8 B1 f) b (n::ms):=fun rest=>h rest
theorem As.bind {α β:Type} {P:Rd α} {f:α->Rd β} {a:α} {b:β} {ns ms:List Int} (h:As P a ns) (h':As (f a) b ms):As (B8 P f) b (ns++ms):=fun rest=>by
 rw [D2y,A8R (h _),h']
theorem As.cg {α:Type} {P:Rd α} {x y:α} {ns:List Int} (h:As P x ns) (e:x=y):As P y ns:=e▸h
theorem As.bind0 {α β:Type} {P:Rd α} {f:α->Rd β} {a:α} {b:β} {ns:List Int} (h:As P a ns) (h':As (f a) b []):As (B8 P f) b ns:=by
 have:=As.bind h h'
 rwa [List.append_nil] at this
theorem As.many {α:Type} {P:Rd α} {g:α->List Int}: ∀(l:List α),(∀x∈l,As P x (g x))->As (L3 P l.length) l (l.flatMap g)
 | [],_=>As.pure []
 |x::l,h=>As.bind (h x (List.mem_cons_self ..)) (As.bind0 (As.many l fun y hy=>h y (List.mem_cons_of_mem _ hy)) (As.pure (x::l)))
theorem C5i {α:Type} {g:α->List Int} (h1:∀x,1<=(g x).length): ∀l:List α,l.length<=(l.flatMap g).length
 | []=>D2M _
 |x::l=>by
  rw [List.flatMap_cons,D2a,D2n];have:=h1 x;have:=C5i h1 l;omega
theorem As.lst {α:Type} {P:Rd α} {g:α->List Int} (h1:∀x,1<=(g x).length) (l:List α) (h:∀x∈l,As P x (g x)):As (J5 B1 P) l (lN g l):=by
 refine As.int fun rest=> ?_;have hl:=C5i h1 l;show (if (l.length:Int)<0\/((l.flatMap g++rest).length:Int)<(l.length:Int) then none else L3 P (l.length:Int).toNat (l.flatMap g++rest))=_
 rw [if_neg (by rw [D2a];omega),D2K,As.many l h rest]
theorem As.within {β:Type} {f:Int->Rd β} {b:β} {n p q:Int} {ms:List Int} (hn:p<=n/\n<=q) (h:As (f n) b ms):As (B8 (Y8 B1 p q) f) b (n::ms):=fun rest=>by
 have e:Y8 B1 p q (n::(ms++rest))=some (n,ms++rest):=by
  show (if n<p\/q<n then none else some (n,ms++rest))=_
  rw [if_neg (by omega)]
 rw [List.cons_append,A8R e,h]
theorem C5b (x:D7):As (A44 B1) x (A0Z x):=As.int (As.int (As.pure x))
theorem C0V (x:A9):As (A0P B1) x (U2 x):=As.int (As.int (As.pure x))
theorem C5c (x:D0):As (A45 B1) x (A00 x):=As.int (As.int (As.int (As.int (As.int (As.int (As.int (As.pure x)))))))
theorem C9R (x:H4):As (A7Z B1) x (A65 x):=As.int (As.int (As.pure x))
theorem D0K (x:E3):As (A99 B1) x (A8m x):=As.int (As.int (As.int (As.pure x)))
theorem D0I (x:F6):As (B1B B1) x (A9K x):=As.int (As.int (As.int (As.pure x)))
theorem C34 {n:Int} (h:E0 .u64 n):F3 (A3 n)=n:=by
 simp [E0,Lit.wf,IntKind.min,IntKind.max,IntKind.signed,IntKind.bits] at h;rw [A2x,B18];omega
theorem C9S {x:C7} (w:S0 x):As (A6s B1) x (A3s x):=by
 refine As.int (As.int (As.cg (As.pure _) ?_));rw [C34 w.1,C34 w.2]
theorem C8k (x:C8):As (A5p B1) x (A0p x):=As.int (As.int (As.int (As.int (As.bind0 (As.lst (fun _=>Nat.le_add_left _ _) x.Ay fun y _=>C9R y) (As.pure x)))))
theorem C8j (x:D1):As (A4p B1) x (A0n x):=As.int (As.int (As.int (As.int (As.bind0 (As.lst (fun _=>Nat.le_add_left _ _) x.Ba.Ad fun y _=>D0I y) (As.pure x)))))
theorem D0G (c:E1):As (B4r B1) c (A6v c):=As.int (As.int (As.int (As.int (As.int (As.int (As.int (As.int (As.pure c))))))))
theorem A5u {α:Type} {l:List α} (h:l.length=0):l= []:=D2P h
theorem z1 {x:E9} (h:B2d x):x=⟨0,0,0, []⟩:=by obtain ⟨a,b,c,l⟩:=x;obtain ⟨h1,h2,h3,h4⟩:=h;cases h1;cases h2;cases h3;cases A5u h4;rfl
theorem z2 {x:G1} (h:B4a x):x=⟨0,0,0,0, []⟩:=by obtain ⟨a,b,c,d,l⟩:=x;obtain ⟨h1,h2,h3,h4,h5⟩:=h;cases h1;cases h2;cases h3;cases h4;cases A5u h5;rfl
theorem z3 {x:I0} (h:B9S x):x=⟨0,0,0,0,0, []⟩:=by obtain ⟨a,b,c,d,e,l⟩:=x;obtain ⟨h1,h2,h3,h4,h5,h6⟩:=h;cases h1;cases h2;cases h3;cases h4;cases h5;cases A5u h6;rfl
theorem z4 {x:F0} (h:B2e x):x=⟨0,0,0,0,0,0, []⟩:=by obtain ⟨a,b,c,d,e,f,l⟩:=x;obtain ⟨h1,h2,h3,h4,h5,h6,h7⟩:=h;cases h1;cases h2;cases h3;cases h4;cases h5;cases h6;cases A5u h7;rfl
theorem z5 {x:F1} (h:B2f x):x=⟨0,0,0,0,0, []⟩:=by obtain ⟨a,b,c,d,e,l⟩:=x;obtain ⟨h1,h2,h3,h4,h5,h6⟩:=h;cases h1;cases h2;cases h3;cases h4;cases h5;cases A5u h6;rfl
theorem z6 {x:G2} (h:B6M x):x=⟨0,0,0, []⟩:=by obtain ⟨a,b,c,l⟩:=x;obtain ⟨h1,h2,h3,h4⟩:=h;cases h1;cases h2;cases h3;cases A5u h4;rfl
theorem z7 {x:J7} (h:B4b x):x=⟨0, []⟩:=by obtain ⟨a,l⟩:=x;obtain ⟨h1,h2⟩:=h;cases h1;cases A5u h2;rfl
theorem z8 {x:E5} (h:A9F x):x=⟨false,0,0,0, []⟩:=by obtain ⟨a,b,c,d,l⟩:=x;obtain ⟨h1,h2,h3,h4,h5⟩:=h;cases h1;cases h2;cases h3;cases h4;cases A5u h5;rfl
theorem z9 {x:I2} (h:A7s x):x=⟨[]⟩:=by obtain ⟨l⟩:=x;cases A5u h;rfl
theorem z10 {x:D8} (h:A5K x):x=⟨0,0,0, []⟩:=by obtain ⟨a,b,c,l⟩:=x;obtain ⟨h1,h2,h3,h4⟩:=h;cases h1;cases h2;cases h3;cases A5u h4;rfl
theorem z11 {x:E2} (h:A8p x):x=⟨0,0,0,0, []⟩:=by obtain ⟨a,b,c,d,l⟩:=x;obtain ⟨h1,h2,h3,h4,h5⟩:=h;cases h1;cases h2;cases h3;cases h4;cases A5u h5;rfl
theorem C8l {s:B0} (w:L2 s) (ok:B6t s):As (stR B1 s.Ak) s (stN s):=by
 have hk:=C1o ok;obtain ⟨_,_,o1,o2,o3,o4,o5,o6,o7,o8,o9,o10,o11⟩:=ok;obtain ⟨_,_,_,_,_,_,w6,_⟩:=w;obtain ⟨c,s1,s2,s3,s4,s5,s6,s7,s8,s9,s10,s11⟩:=s;dsimp only at o1 o2 o3 o4 o5 o6 o7 o8 o9 o10 o11 hk w6;have fin: ∀ {x:B0},x=⟨c,s1,s2,s3,s4,s5,s6,s7,s8,s9,s10,s11⟩->As (H8 x) ⟨c,s1,s2,s3,s4,s5,s6,s7,s8,s9,s10,s11⟩ []:=fun e=>e▸As.pure _;unfold stR stN;dsimp only
 by_cases k1:c.Bb=1
 ·rw [if_pos k1,if_pos k1];refine As.int (As.int (As.int (As.bind0 (As.lst (g:=A0Z) (fun _=>Nat.le_add_left _ _) s1.Av fun y _=>C5b y) (fin ?_))));rw [z2 (o2 (by omega)),z3 (o3 (by omega)),z4 (o4 (by omega)),z5 (o5 (by omega)),z6 (o6 (by omega)),z7 (o7 (by omega)),z8 (o8 (by omega)),z9 (o9 (by omega)),z10 (o10 (by omega)),z11 (o11 (by omega))]
  rfl
 rw [if_neg k1,if_neg k1]
 by_cases k2:c.Bb=2
 ·rw [if_pos k2,if_pos k2];refine As.int (As.int (As.int (As.int (As.bind0 (As.lst (g:=U2) (fun _=>Nat.le_add_left _ _) s2.Ac fun y _=>C0V y) (fin ?_)))));rw [z1 (o1 (by omega)),z3 (o3 (by omega)),z4 (o4 (by omega)),z5 (o5 (by omega)),z6 (o6 (by omega)),z7 (o7 (by omega)),z8 (o8 (by omega)),z9 (o9 (by omega)),z10 (o10 (by omega)),z11 (o11 (by omega))]
  rfl
 rw [if_neg k2,if_neg k2]
 by_cases k3:c.Bb=3
 ·rw [if_pos k3,if_pos k3];refine As.int (As.int (As.int (As.int (As.int (As.bind0 (As.lst (g:=U2) (fun _=>Nat.le_add_left _ _) s3.Ac fun y _=>C0V y) (fin ?_))))));rw [z1 (o1 (by omega)),z2 (o2 (by omega)),z4 (o4 (by omega)),z5 (o5 (by omega)),z6 (o6 (by omega)),z7 (o7 (by omega)),z8 (o8 (by omega)),z9 (o9 (by omega)),z10 (o10 (by omega)),z11 (o11 (by omega))]
  rfl
 rw [if_neg k3,if_neg k3]
 by_cases k4:c.Bb=4
 ·rw [if_pos k4,if_pos k4];refine As.int (As.int (As.int (As.int (As.int (As.int (As.bind0 (As.lst (g:=A00) (fun _=>Nat.le_add_left _ _) s4.Az fun y _=>C5c y) (fin ?_)))))));rw [z1 (o1 (by omega)),z2 (o2 (by omega)),z3 (o3 (by omega)),z5 (o5 (by omega)),z6 (o6 (by omega)),z7 (o7 (by omega)),z8 (o8 (by omega)),z9 (o9 (by omega)),z10 (o10 (by omega)),z11 (o11 (by omega))]
  rfl
 rw [if_neg k4,if_neg k4]
 by_cases k5:c.Bb=5
 ·rw [if_pos k5,if_pos k5];refine As.int (As.int (As.int (As.int (As.int (As.bind0 (As.lst (g:=A00) (fun _=>Nat.le_add_left _ _) s5.Az fun y _=>C5c y) (fin ?_))))));rw [z1 (o1 (by omega)),z2 (o2 (by omega)),z3 (o3 (by omega)),z4 (o4 (by omega)),z6 (o6 (by omega)),z7 (o7 (by omega)),z8 (o8 (by omega)),z9 (o9 (by omega)),z10 (o10 (by omega)),z11 (o11 (by omega))]
  rfl
 rw [if_neg k5,if_neg k5]
 by_cases k6:c.Bb=6
 ·rw [if_pos k6,if_pos k6];refine As.int (As.int (As.int (As.bind0 (As.lst (g:=A3s) (fun _=>Nat.le_add_left _ _) s6.Af fun y hy=>C9S (w6.2.2.2.2 y hy)) (fin ?_))));rw [z1 (o1 (by omega)),z2 (o2 (by omega)),z3 (o3 (by omega)),z4 (o4 (by omega)),z5 (o5 (by omega)),z7 (o7 (by omega)),z8 (o8 (by omega)),z9 (o9 (by omega)),z10 (o10 (by omega)),z11 (o11 (by omega))]
  rfl
 rw [if_neg k6,if_neg k6]
 by_cases k7:c.Bb=7
 ·rw [if_pos k7,if_pos k7];have hl:As (J5 B1 B1) s7.Bg ((s7.Bg.length:Int)::s7.Bg):=by
   have:=As.lst (P:=B1) (g:=fun n=> [n]) (fun _=>D2M _) s7.Bg fun y _ rest=>rfl;unfold lN at this
   rwa [show s7.Bg.flatMap (fun n=> [n])=s7.Bg by simp] at this
  refine As.int (As.bind0 hl (fin ?_));rw [z1 (o1 (by omega)),z2 (o2 (by omega)),z3 (o3 (by omega)),z4 (o4 (by omega)),z5 (o5 (by omega)),z6 (o6 (by omega)),z8 (o8 (by omega)),z9 (o9 (by omega)),z10 (o10 (by omega)),z11 (o11 (by omega))]
  rfl
 rw [if_neg k7,if_neg k7]
 by_cases k8:c.Bb=8
 ·rw [if_pos k8,if_pos k8];have hf:(0<=Q1 s8.Bj/\Q1 s8.Bj<=1)/\(Q1 s8.Bj==1)=s8.Bj:=by cases s8.Bj<;>decide
  refine As.within hf.1 (As.int (As.int (As.int (As.bind0 (As.lst (g:=A0Z) (fun _=>Nat.le_add_left _ _) s8.Av fun y _=>C5b y) (fin ?_)))));rw [hf.2,z1 (o1 (by omega)),z2 (o2 (by omega)),z3 (o3 (by omega)),z4 (o4 (by omega)),z5 (o5 (by omega)),z6 (o6 (by omega)),z7 (o7 (by omega)),z9 (o9 (by omega)),z10 (o10 (by omega)),z11 (o11 (by omega))]
  rfl
 rw [if_neg k8,if_neg k8]
 by_cases k9:c.Bb=9
 ·rw [if_pos k9,if_pos k9];refine As.bind0 (As.lst (g:=A0p) (fun x=>by unfold A0p;simp) s9.Aj fun y _=>C8k y) (fin ?_)
  rw [z1 (o1 (by omega)),z2 (o2 (by omega)),z3 (o3 (by omega)),z4 (o4 (by omega)),z5 (o5 (by omega)),z6 (o6 (by omega)),z7 (o7 (by omega)),z8 (o8 (by omega)),z10 (o10 (by omega)),z11 (o11 (by omega))]
  rfl
 rw [if_neg k9,if_neg k9]
 by_cases k10:c.Bb=10
 ·rw [if_pos k10,if_pos k10];refine As.int (As.int (As.int (As.bind0 (As.lst (g:=A8m) (fun _=>Nat.le_add_left _ _) s10.Aq fun y _=>D0K y) (fin ?_))));rw [z1 (o1 (by omega)),z2 (o2 (by omega)),z3 (o3 (by omega)),z4 (o4 (by omega)),z5 (o5 (by omega)),z6 (o6 (by omega)),z7 (o7 (by omega)),z8 (o8 (by omega)),z9 (o9 (by omega)),z11 (o11 (by omega))]
  rfl
 rw [if_neg k10,if_neg k10];have k11:c.Bb=11:=by omega
 rw [if_pos k11];refine As.int (As.int (As.int (As.int (As.bind0 (As.lst (g:=A0n) (fun x=>by unfold A0n;simp) s11.Ai fun y _=>C8j y) (fin ?_)))))
 rw [z1 (o1 (by omega)),z2 (o2 (by omega)),z3 (o3 (by omega)),z4 (o4 (by omega)),z5 (o5 (by omega)),z6 (o6 (by omega)),z7 (o7 (by omega)),z8 (o8 (by omega)),z9 (o9 (by omega)),z10 (o10 (by omega))]
 rfl
theorem D0J {r:C4} (w:M4 r) (ok:B6t r.Ab):As (A0j B1) r (A1d r):=
 As.int (n:=r.ID) (ms:=A6v r.Ab.Ak++stN r.Ab) (As.bind (D0G r.Ab.Ak) (As.bind0 (C8l w.2 ok) (As.pure r)))
theorem C8M {e:B9} (h:A4a e): ∀r∈e.Ag,B6t r.Ab:=by
 intro r hr;obtain ⟨i,hi,rfl⟩:=C7z hr;exact (h.1.2.2 i hi).2.2
theorem D0H {e:B9} (w:G7 e) (ok:A4a e) (h64:e.Ag.length<=64):As (A1b B1) e (P9 e):=by
 refine As.within (n:=1) (by omega) (As.int (As.int (As.within (by omega) ?_)))
 rw [D2K];exact As.bind0 (As.many e.Ag fun r hr=>D0J (w.2.2.2 r hr) (C8M ok r hr)) (As.pure e)
theorem B8k {e:B9} (h:(decide ((e.Ag.length:Int)<=70)&&decide (((szE e.Ag:Nat):Int)<=400))=true):(P9 e).length<=3924:=by
 rw [D2c,D16,D16] at h;have:=C8q e;omega
theorem B11 {ns:List Int} (h:K1 ns) (hl:ns.length<=100000):(A12 ns).length<=1000010:=by
 obtain ⟨_,n,hn,_,e⟩:=A4I h (by omega)
 rw [e,D2a];have:=A60 h;have:=A8K hn;omega
theorem B10 {ns:List Int} (h:K1 ns) (hl:ns.length<=100000):V8 (A12 ns):=by
 obtain ⟨_,n,hn,_,e⟩:=A4I h (by omega)
 rw [e];exact B9V (C4k _) (B8i _)
theorem C98 {e:B9} (h:A4a e):e.Ag.length<=64:=by
 have h1:=h.1.2.1;omega
theorem C3T {e:B9} (w:G7 e) (ok:A4a e) (hl:(P9 e).length<=100000):A06 (A12 (P9 e)) e:=by
 obtain ⟨_,n,hn,h1,h2⟩:=A4I (A4B w) (by omega)
 have:=D0H w ok (C98 ok) [];rw [List.append_nil] at this;exact ⟨P9 e,n,A4B w,hn,h2,h1,this⟩
theorem C7i {e:B9} (w:G7 e) (ok:A4a e) (hl:(P9 e).length<=100000):S4 e=some (A12 (P9 e),0)/\A3P e=some (A12 (P9 e),0):=by
 have h:=(B7k e w (by omega)).1 ok
 have hs:=B11 (A4B w) hl;unfold C6e at h
 rwa [if_neg (by omega)] at h
theorem C9Y {e:B9} (w:G7 e) (ok:A4a e) (hl:(P9 e).length<=100000):S3 (A12 (P9 e))=some (e,0):=by
 have hs:=B11 (A4B w) hl;obtain ⟨r,e1,_,d,_⟩:=B1y (B10 (A4B w) hl) (by omega)
 have:=d.uniq (.inl ⟨e,C3T w ok hl,rfl⟩);rw [e1,this];unfold B0Y;rw [if_pos ok]
theorem A9P (p0:B9) (w0:G7 p0):A3D p0=some true:=by
 unfold A3D;rw [C6j p0 w0,D14,B09];cases hf:decide ((p0.Ag.length:Int)<=70)&&decide (((szE p0.Ag:Nat):Int)<=400) with
 |false=>rfl
 |true=>
  have hb:=B8k hf;rw [D2g,D17]
  by_cases ok:A4a p0
  ·obtain ⟨e1,e2⟩:=C7i w0 ok (by omega)
   have hy:=B10 (A4B w0) (by omega)
   rw [e1,e2,D14,D14,same_bytes hy hy,D19 rfl,D14];simp only [D2g,D2H,Bool.or_self,D17];rw [C9Y w0 ok (by omega),D14]
   simp [B33 w0]
  ·obtain ⟨e1,e2⟩:=(B7k p0 w0 (by omega)).2 ok
   have hn:V8 []:=fun x hx=>by cases hx
   rw [e1,e2,D14,D14,same_bytes hn hn,D19 rfl]
   rfl
end Go.Win
