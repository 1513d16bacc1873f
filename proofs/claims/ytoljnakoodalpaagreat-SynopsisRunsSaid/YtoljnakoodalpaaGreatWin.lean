/- The functions of the program and of the statements, as functions on plain data: made by program out of the translated code. -/
import Derived.Test.YtoljnakoodalpaaGreatVc
set_option linter.unusedVariables false
namespace Go.Win
open Go.Vc Go.Dec
noncomputable section
structure B0 where
 V:Int
 Bf:Int
 Be:Int
 deriving Inhabited
def C1 (p:B0):List AV:= [.int .i64 p.V, .int .i64 p.Bf, .int .i64 p.Be]
def C4t (p:B0):Prop:=(E5 .i64) p.V/\(E5 .i64) p.Bf/\(E5 .i64) p.Be
def C1N (p:B0):Prop:=(E5 .i64) p.V/\(E5 .i64) p.Bf/\(E5 .i64) p.Be
structure C8 where
 N:Int
 Ac:(List B0)
 deriving Inhabited
def A6i (p:C8):List AV:= [.int .i64 p.N, .lst 3 false (List.map C1 p.Ac)]
def C4v (p:C8):Prop:=(E5 .i64) p.N/\(wfL C4t) p.Ac
def C1O (p:C8):Prop:=(E5 .i64) p.N/\(A5X C1N) p.Ac
structure A6 where
 T:Int
 Az:Int
 As:Int
 Aw:C8
 deriving Inhabited
def C3 (p:A6):List AV:= [.int .i64 p.T, .int .i64 p.Az, .int .i64 p.As, .int .i64 p.Aw.N, .lst 3 false (List.map C1 p.Aw.Ac)]
def C4q (p:A6):Prop:=(E5 .i64) p.T/\(E5 .i64) p.Az/\(E5 .i64) p.As/\C4v p.Aw
def C1L (p:A6):Prop:=(E5 .i64) p.T/\(E5 .i64) p.Az/\(E5 .i64) p.As/\C1O p.Aw
structure A3 where
 T:Int
 As:Int
 deriving Inhabited
def C6 (p:A3):List AV:= [.int .i64 p.T, .int .i64 p.As]
def B4p (p:A3):Prop:=(E5 .i64) p.T/\(E5 .i64) p.As
def B26 (p:A3):Prop:=(E5 .i64) p.T/\(E5 .i64) p.As
structure D9 where
 I:Int
 V:Int
 deriving Inhabited
def H5 (p:D9):List AV:= [.int .i64 p.I, .int .i64 p.V]
def C5h (p:D9):Prop:=(E5 .i64) p.I/\(E5 .i64) p.V
def C4p (p:D9):Prop:=(E5 .i64) p.I/\(E5 .i64) p.V
structure A5 where
 W:Int
 Cap:Int
 I:Int
 Ba:Int
 Au:(List D9)
 deriving Inhabited
def D1 (p:A5):List AV:= [.int .i64 p.W, .int .i64 p.Cap, .int .i64 p.I, .int .i64 p.Ba, .lst 2 false (List.map H5 p.Au)]
def C4r (p:A5):Prop:=(E5 .i64) p.W/\(E5 .i64) p.Cap/\(E5 .i64) p.I/\(E5 .i64) p.Ba/\(wfL C5h) p.Au
def C1M (p:A5):Prop:=(E5 .i64) p.W/\(E5 .i64) p.Cap/\(E5 .i64) p.I/\(E5 .i64) p.Ba/\(A5X C4p) p.Au
structure C9 where
 Ax:Int
 Bd:Int
 W:Int
 K:Int
 Cap:Int
 P:Int
 Ah:Int
 Be:Int
 deriving Inhabited
def G2 (p:C9):List AV:= [.int .i64 p.Ax, .int .i64 p.Bd, .int .i64 p.W, .int .i64 p.K, .int .i64 p.Cap, .int .i64 p.P, .int .i64 p.Ah, .int .i64 p.Be]
def A6y (p:C9):Prop:=(E5 .i64) p.Ax/\(E5 .i64) p.Bd/\(E5 .i64) p.W/\(E5 .i64) p.K/\(E5 .i64) p.Cap/\(E5 .i64) p.P/\(E5 .i64) p.Ah/\(E5 .i64) p.Be
def C0h (p:C9):Prop:=(E5 .i64) p.Ax/\(E5 .i64) p.Bd/\(E5 .i64) p.W/\(E5 .i64) p.K/\(E5 .i64) p.Cap/\(E5 .i64) p.P/\(E5 .i64) p.Ah/\(E5 .i64) p.Be
structure D2 where
 W:Int
 K:Int
 Cap:Int
 Now:Int
 Ab:(List A3)
 deriving Inhabited
def J4 (p:D2):List AV:= [.int .i64 p.W, .int .i64 p.K, .int .i64 p.Cap, .int .i64 p.Now, .lst 2 false (List.map C6 p.Ab)]
def C4s (p:D2):Prop:=(E5 .i64) p.W/\(E5 .i64) p.K/\(E5 .i64) p.Cap/\(E5 .i64) p.Now/\(wfL B4p) p.Ab
def B4n (p:D2):Prop:=(E5 .i64) p.W/\(E5 .i64) p.K/\(E5 .i64) p.Cap/\(E5 .i64) p.Now/\(A5X B26) p.Ab
structure A9 where
 T:Int
 V:Int
 deriving Inhabited
def C7 (p:A9):List AV:= [.int .i64 p.T, .int .i64 p.V]
def A2I (p:A9):Prop:=(E5 .i64) p.T/\(E5 .i64) p.V
def B5P (p:A9):Prop:=(E5 .i64) p.T/\(E5 .i64) p.V
structure B4 where
 Be:Bool
 W:Int
 Cap:Int
 Now:Int
 Ar:(List A9)
 deriving Inhabited
def G4 (p:B4):List AV:= [.sb p.Be, .int .i64 p.W, .int .i64 p.Cap, .int .i64 p.Now, .lst 2 false (List.map C7 p.Ar)]
def C0i (p:B4):Prop:=(fun _:Bool=>True) p.Be/\(E5 .i64) p.W/\(E5 .i64) p.Cap/\(E5 .i64) p.Now/\(wfL A2I) p.Ar
def B18 (p:B4):Prop:=(fun _:Bool=>True) p.Be/\(E5 .i64) p.W/\(E5 .i64) p.Cap/\(E5 .i64) p.Now/\(A5X B5P) p.Ar
structure E3 where
 Now:Int
 Bc:(List Int)
 deriving Inhabited
def A6h (p:E3):List AV:= [.int .i64 p.Now, .lst 1 false (List.map (eI .i64) p.Bc)]
def C4u (p:E3):Prop:=(E5 .i64) p.Now/\(wfL (E5 .i64)) p.Bc
def B4o (p:E3):Prop:=(E5 .i64) p.Now/\(A5X (E5 .i64)) p.Bc
structure A4 where
 Bg:Int
 T:Int
 N:Int
 S:Int
 Q:Int
 Bf:Int
 Be:Int
 deriving Inhabited
def A8 (p:A4):List AV:= [.int .i64 p.Bg, .int .i64 p.T, .int .i64 p.N, .int .i64 p.S, .int .i64 p.Q, .int .i64 p.Bf, .int .i64 p.Be]
def B65 (p:A4):Prop:=(E5 .i64) p.Bg/\(E5 .i64) p.T/\(E5 .i64) p.N/\(E5 .i64) p.S/\(E5 .i64) p.Q/\(E5 .i64) p.Bf/\(E5 .i64) p.Be
def B5Q (p:A4):Prop:=(E5 .i64) p.Bg/\(E5 .i64) p.T/\(E5 .i64) p.N/\(E5 .i64) p.S/\(E5 .i64) p.Q/\(E5 .i64) p.Bf/\(E5 .i64) p.Be
structure C5 where
 Hi:Int
 Lo:Int
 deriving Inhabited
def I0 (p:C5):List AV:= [.int .u64 p.Hi, .int .u64 p.Lo]
def C5j (p:C5):Prop:=(E5 .u64) p.Hi/\(E5 .u64) p.Lo
def B5S (p:C5):Prop:=(E5 .u64) p.Hi/\(E5 .u64) p.Lo
structure D3 where
 P:Int
 Ay:Int
 Now:Int
 Ae:(List C5)
 deriving Inhabited
def J8 (p:D3):List AV:= [.int .i64 p.P, .int .i64 p.Ay, .int .i64 p.Now, .lst 2 false (List.map I0 p.Ae)]
def C5i (p:D3):Prop:=(E5 .i64) p.P/\(E5 .i64) p.Ay/\(E5 .i64) p.Now/\(wfL C5j) p.Ae
def B5R (p:D3):Prop:=(E5 .i64) p.P/\(E5 .i64) p.Ay/\(E5 .i64) p.Now/\(A5X B5S) p.Ae
structure B6 where
 W:Int
 K:Int
 Cap:Int
 Now:Int
 Ag:(List A6)
 deriving Inhabited
def G1 (p:B6):List AV:= [.int .i64 p.W, .int .i64 p.K, .int .i64 p.Cap, .int .i64 p.Now, .lst 5 false (List.map C3 p.Ag)]
def B9k (p:B6):Prop:=(E5 .i64) p.W/\(E5 .i64) p.K/\(E5 .i64) p.Cap/\(E5 .i64) p.Now/\(wfL C4q) p.Ag
def B1r (p:B6):Prop:=(E5 .i64) p.W/\(E5 .i64) p.K/\(E5 .i64) p.Cap/\(E5 .i64) p.Now/\(A5X C1L) p.Ag
structure C4 where
 W:Int
 Cap:Int
 Now:Int
 Ar:(List A9)
 deriving Inhabited
def I8 (p:C4):List AV:= [.int .i64 p.W, .int .i64 p.Cap, .int .i64 p.Now, .lst 2 false (List.map C7 p.Ar)]
def C1Q (p:C4):Prop:=(E5 .i64) p.W/\(E5 .i64) p.Cap/\(E5 .i64) p.Now/\(wfL A2I) p.Ar
def B27 (p:C4):Prop:=(E5 .i64) p.W/\(E5 .i64) p.Cap/\(E5 .i64) p.Now/\(A5X B5P) p.Ar
structure D6 where
 Ah:(List A5)
 deriving Inhabited
def A4Z (p:D6):List AV:= [.lst 5 false (List.map D1 p.Ah)]
def C1R (p:D6):Prop:=(wfL C4r) p.Ah
def B28 (p:D6):Prop:=(A5X C1M) p.Ah
structure B9 where
 Bd:Int
 W:Int
 K:Int
 Cap:Int
 Now:Int
 Bg:Int
 Av:(List A4)
 deriving Inhabited
def H4 (p:B9):List AV:= [.int .i64 p.Bd, .int .i64 p.W, .int .i64 p.K, .int .i64 p.Cap, .int .i64 p.Now, .int .i64 p.Bg, .lst 7 false (List.map A8 p.Av)]
def C1S (p:B9):Prop:=(E5 .i64) p.Bd/\(E5 .i64) p.W/\(E5 .i64) p.K/\(E5 .i64) p.Cap/\(E5 .i64) p.Now/\(E5 .i64) p.Bg/\(wfL B65) p.Av
def B29 (p:B9):Prop:=(E5 .i64) p.Bd/\(E5 .i64) p.W/\(E5 .i64) p.K/\(E5 .i64) p.Cap/\(E5 .i64) p.Now/\(E5 .i64) p.Bg/\(A5X B5Q) p.Av
structure C2 where
 W:Int
 K:Int
 Cap:Int
 Now:Int
 Bg:Int
 Av:(List A4)
 deriving Inhabited
def H7 (p:C2):List AV:= [.int .i64 p.W, .int .i64 p.K, .int .i64 p.Cap, .int .i64 p.Now, .int .i64 p.Bg, .lst 7 false (List.map A8 p.Av)]
def C1T (p:C2):Prop:=(E5 .i64) p.W/\(E5 .i64) p.K/\(E5 .i64) p.Cap/\(E5 .i64) p.Now/\(E5 .i64) p.Bg/\(wfL B65) p.Av
def B3a (p:C2):Prop:=(E5 .i64) p.W/\(E5 .i64) p.K/\(E5 .i64) p.Cap/\(E5 .i64) p.Now/\(E5 .i64) p.Bg/\(A5X B5Q) p.Av
structure D8 where
 W:Int
 K:Int
 Cap:Int
 Be:Int
 Now:Int
 Ab:(List A3)
 deriving Inhabited
def K8 (p:D8):List AV:= [.int .i64 p.W, .int .i64 p.K, .int .i64 p.Cap, .int .i64 p.Be, .int .i64 p.Now, .lst 2 false (List.map C6 p.Ab)]
def C7m (p:D8):Prop:=(E5 .i64) p.W/\(E5 .i64) p.K/\(E5 .i64) p.Cap/\(E5 .i64) p.Be/\(E5 .i64) p.Now/\(wfL B4p) p.Ab
def B64 (p:D8):Prop:=(E5 .i64) p.W/\(E5 .i64) p.K/\(E5 .i64) p.Cap/\(E5 .i64) p.Be/\(E5 .i64) p.Now/\(A5X B26) p.Ab
structure D4 where
 V:Int
 G:Int
 D:Int
 deriving Inhabited
def E2 (p:D4):List AV:= [.int .i64 p.V, .int .i64 p.G, .int .i64 p.D]
def C4w (p:D4):Prop:=(E5 .i64) p.V/\(E5 .i64) p.G/\(E5 .i64) p.D
def C1P (p:D4):Prop:=(E5 .i64) p.V/\(E5 .i64) p.G/\(E5 .i64) p.D
structure B7 where
 K:Int
 Cap:Int
 N:Int
 Ao:(List D4)
 deriving Inhabited
def F3 (p:B7):List AV:= [.int .i64 p.K, .int .i64 p.Cap, .int .i64 p.N, .lst 3 false (List.map E2 p.Ao)]
def C0j (p:B7):Prop:=(E5 .i64) p.K/\(E5 .i64) p.Cap/\(E5 .i64) p.N/\(wfL C4w) p.Ao
def B19 (p:B7):Prop:=(E5 .i64) p.K/\(E5 .i64) p.Cap/\(E5 .i64) p.N/\(A5X C1P) p.Ao
structure B3 where
 Ai:C9
 Aj:C4
 Ap:D2
 Sum:D8
 Al:B9
 Am:C2
 Bb:D3
 Aq:E3
 Ad:B4
 Ak:D6
 Af:B7
 Aa:B6
 deriving Inhabited
def E8 (p:B3):List AV:= [.int .i64 p.Ai.Ax, .int .i64 p.Ai.Bd, .int .i64 p.Ai.W, .int .i64 p.Ai.K, .int .i64 p.Ai.Cap, .int .i64 p.Ai.P, .int .i64 p.Ai.Ah, .int .i64 p.Ai.Be, .int .i64 p.Aj.W, .int .i64 p.Aj.Cap, .int .i64 p.Aj.Now, .lst 2 false (List.map C7 p.Aj.Ar), .int .i64 p.Ap.W, .int .i64 p.Ap.K, .int .i64 p.Ap.Cap, .int .i64 p.Ap.Now, .lst 2 false (List.map C6 p.Ap.Ab), .int .i64 p.Sum.W, .int .i64 p.Sum.K, .int .i64 p.Sum.Cap, .int .i64 p.Sum.Be, .int .i64 p.Sum.Now, .lst 2 false (List.map C6 p.Sum.Ab), .int .i64 p.Al.Bd, .int .i64 p.Al.W, .int .i64 p.Al.K, .int .i64 p.Al.Cap, .int .i64 p.Al.Now, .int .i64 p.Al.Bg, .lst 7 false (List.map A8 p.Al.Av), .int .i64 p.Am.W, .int .i64 p.Am.K, .int .i64 p.Am.Cap, .int .i64 p.Am.Now, .int .i64 p.Am.Bg, .lst 7 false (List.map A8 p.Am.Av), .int .i64 p.Bb.P, .int .i64 p.Bb.Ay, .int .i64 p.Bb.Now, .lst 2 false (List.map I0 p.Bb.Ae), .int .i64 p.Aq.Now, .lst 1 false (List.map (eI .i64) p.Aq.Bc), .sb p.Ad.Be, .int .i64 p.Ad.W, .int .i64 p.Ad.Cap, .int .i64 p.Ad.Now, .lst 2 false (List.map C7 p.Ad.Ar), .lst 5 false (List.map D1 p.Ak.Ah), .int .i64 p.Af.K, .int .i64 p.Af.Cap, .int .i64 p.Af.N, .lst 3 false (List.map E2 p.Af.Ao), .int .i64 p.Aa.W, .int .i64 p.Aa.K, .int .i64 p.Aa.Cap, .int .i64 p.Aa.Now, .lst 5 false (List.map C3 p.Aa.Ag)]
def D0p (p:B3):Prop:=A6y p.Ai/\C1Q p.Aj/\C4s p.Ap/\C7m p.Sum/\C1S p.Al/\C1T p.Am/\C5i p.Bb/\C4u p.Aq/\C0i p.Ad/\C1R p.Ak/\C0j p.Af/\B9k p.Aa
def A6T (p:B3):Prop:=C0h p.Ai/\B27 p.Aj/\B4n p.Ap/\B64 p.Sum/\B29 p.Al/\B3a p.Am/\B5R p.Bb/\B4o p.Aq/\B18 p.Ad/\B28 p.Ak/\B19 p.Af/\B1r p.Aa
structure H9 where
 draws_:(List Int)
 at_:Int
 beyond_:Int
 deriving Inhabited
def A3F (p:H9):List AV:= [.lst 1 false (List.map (eI .i64) p.draws_), .int .i64 p.at_, .int .i64 p.beyond_]
def D0q (p:H9):Prop:=(wfL (E5 .i64)) p.draws_/\(E5 .i64) p.at_/\(E5 .i64) p.beyond_
def C96 (p:H9):Prop:=(A5X (E5 .i64)) p.draws_/\(E5 .i64) p.at_/\(E5 .i64) p.beyond_
structure V5 where
 L:(List Int)
 At:Int
 deriving Inhabited
def A6j (p:V5):List AV:= [.lst 1 false (List.map (eI .i64) p.L), .int .i64 p.At]
def D2p (p:V5):Prop:=(wfL (E5 .i64)) p.L/\(E5 .i64) p.At
def D1w (p:V5):Prop:=(A5X (E5 .i64)) p.L/\(E5 .i64) p.At
def A8O (b a:Int):Option (Int×Bool):=
 cond ((a==0)||((b==(-9223372036854775808:Int))&&(a==(-1:Int)))) (
  some (0,false))<|
 ck (decide (a≠0))<|
 ck (decide (a≠0))<|
 cond (((Int.tmod b a) !=0)&&((decide (b<0))==(decide (a<0)))) (
  some ((A2 ((A2 (Int.tdiv b a))+1)),true))<|
 some ((A2 (Int.tdiv b a)),true)
def A15 (e d b a:Int):Option ((Int×Int)⊕Int):=
 cond (decide (a<=e)) (
  ck (decide (0<=(G8 a)))<|
  cond (decide ((A78 .i64 1 (G8 a))>(A2 (d+1)))) (
   Option.bind (A8O (A2 ((A78 .i64 1 (G8 a))-1)) d) fun c=>
   some (.inl ((A2 ((A2 (2*b))+c.1)),(A2 (a+1)))))<|
  some (.inl (b,(A2 (a+1)))))<|
 Option.map Sum.inr (some b)
def A9F (c d a b:Int):Option Int:=
 loop (fun (s:(Int×Int))=>A15 c d s.1 s.2) (a,b)
def A4S (a b:Int):Option Int:=
 cond ((((decide (a<0))||(decide (a>30)))||(decide (b<1)))||(decide (b>65536))) (
  some (-1:Int))<|
 A9F a b 0 0
def A2J (c:Int) (a:List A6):Option ((List A6)⊕(List A6)):=
 Option.bind (gd (decide ((a.length:Int)>(0:Int))) (D0 a 0)) fun b=>
 cond ((decide ((a.length:Int)>(0:Int)))&&(decide (b.T<c))) (
  ck (decide (0<=(1:Int)/\1<=(a.length:Int)))<|
  some (.inl (a.drop ((1:Int)).toNat)))<|
 Option.map Sum.inr (ck (decide ((([]:List A6).length+a.length)*56<=140737488355328))<|
 some (([]:List A6)++a))
def B0E (b:Int) (a:List A6):Option (List A6):=
 loop (fun (s:(List A6))=>A2J b s) a
def A6e (a:List A6) (b:Int):Option (List A6):=
 B0E b a
def A1v (d:List A6) (b:List A3) (c:Int):Option (((List A3)×Int)⊕(List A3)):=
 cond (decide (c<(d.length:Int))) (
  Option.bind (D0 d c) fun a=>
  ck (decide ((b.length+ [(A3.mk a.T a.As)].length)*16<=140737488355328))<|
  some (.inl ((b++ [(A3.mk a.T a.As)]),(A2 (c+1)))))<|
 Option.map Sum.inr (some b)
def B1z (c:List A6) (a:List A3) (b:Int):Option (List A3):=
 loop (fun (s:((List A3)×Int))=>A1v c s.1 s.2) (a,b)
def A2Y (a:List A6):Option (List A3):=
 B1z a ([]:List A3) 0
def A0V (a:Int):Bool:=
 ((decide (a>=0))&&(decide (a<=30)))
def B6k (e:List A3) (b a:Int):Option ((Int×Int)⊕Int):=
 cond (decide (a<(e.length:Int))) (
  Option.bind (D0 e a) fun c=>
  let d:=(A0V c.As);
  cond d (
   ck (decide (0<=(G8 c.As)))<|
   some (.inl ((A2 (b+(A78 .i64 1 (G8 c.As)))),(A2 (a+1)))))<|
  some (.inl (b,(A2 (a+1)))))<|
 Option.map Sum.inr (some b)
def B7i (c:List A3) (a b:Int):Option Int:=
 loop (fun (s:(Int×Int))=>B6k c s.1 s.2) (a,b)
def T0 (a:List A3):Option Int:=
 B7i a 0 0
def A2X (c:List A6):Option Int:=
 Option.bind (A2Y c) fun a=>
 Option.bind (T0 a) fun b=>
 some b
def W3 (a:Int):Bool:=
 ((decide (a>=0))&&(decide (a<=16777216)))
def A18 (L w x y z A B C D E F a b c d e f g h i j k l m n o p q r s t u:Int) (G:A3) (v:Int):Option (Int⊕Bool):=
 cond (decide (v<=G.As)) (
  Option.bind (D0 [w,x,y,z,A,B,C,D,E,F,a,b,c,d,e,f,g,h,i,j,k,l,m,n,o,p,q,r,s,t,u] v) fun K=>
  Option.bind (D0 [w,x,y,z,A,B,C,D,E,F,a,b,c,d,e,f,g,h,i,j,k,l,m,n,o,p,q,r,s,t,u] v) fun H=>
  Option.bind (gd ((!(decide (H>(A2 (L+1)))))&&(decide (v<G.As))) (D0 [w,x,y,z,A,B,C,D,E,F,a,b,c,d,e,f,g,h,i,j,k,l,m,n,o,p,q,r,s,t,u] v)) fun J=>
  Option.bind (gd ((!(decide (H>(A2 (L+1)))))&&(decide (v<G.As))) (D0 [w,x,y,z,A,B,C,D,E,F,a,b,c,d,e,f,g,h,i,j,k,l,m,n,o,p,q,r,s,t,u] v)) fun I=>
  cond ((decide (H>(A2 (L+1))))||((decide (v<G.As))&&(decide (I<L)))) (
   some (.inr false))<|
  some (.inl (A2 (v+1))))<|
 Option.map Sum.inr (some true)
def A2M (I w x y z A B C D E F a b c d e f g h i j k l m n o p q r t u v:Int) (G:A3) (H:Int):Option Bool:=
 loop (fun (s:Int)=>A18 I w x y z A B C D E F a b c d e f g h i j k l m n o p q r t u v G s) H
def A5H (Q:List A3) (R H x y z A B C D E F G c d e f g h i j k l m n o p q r s t u v w:Int):Option ((Int×Int×Int×Int×Int×Int×Int×Int×Int×Int×Int×Int×Int×Int×Int×Int×Int×Int×Int×Int×Int×Int×Int×Int×Int×Int×Int×Int×Int×Int×Int×Int)⊕Bool):=
 cond (decide (H<(Q.length:Int))) (
  Option.bind (D0 Q H) fun a=>
  let L:=(W3 a.T);
  let M:=(A0V a.As);
  cond ((!L)||(!M)) (
   some (.inr false))<|
  Option.bind (gd (decide (H>0)) (D0 Q (A2 (H-1)))) fun I=>
  Option.bind (gd ((decide (H>0))&&(!(decide (I.T>a.T)))) (D0 Q (A2 (H-1)))) fun J=>
  cond ((decide (H>0))&&((decide (I.T>a.T))||(decide (J.As<a.As)))) (
   some (.inr false))<|
  Option.bind (D0 [x,y,z,A,B,C,D,E,F,G,c,d,e,f,g,h,i,j,k,l,m,n,o,p,q,r,s,t,u,v,w] a.As) fun N=>
  Option.bind (D0 [x,y,z,A,B,C,D,E,F,G,c,d,e,f,g,h,i,j,k,l,m,n,o,p,q,r,s,t,u,v,w] a.As) fun b=>
  Option.bind (D0 [x,y,z,A,B,C,D,E,F,G,c,d,e,f,g,h,i,j,k,l,m,n,o,p,q,r,s,t,u,v,w] a.As) fun O=>
  Option.bind (D0 [x,y,z,A,B,C,D,E,F,G,c,d,e,f,g,h,i,j,k,l,m,n,o,p,q,r,s,t,u,v,w] a.As) fun P=>
  some (.inl ((A2 (H+1)),(if (a.As).toNat=0 then (A2 (b+1)) else x),(if (a.As).toNat=1 then (A2 (b+1)) else y),(if (a.As).toNat=2 then (A2 (b+1)) else z),(if (a.As).toNat=3 then (A2 (b+1)) else A),(if (a.As).toNat=4 then (A2 (b+1)) else B),(if (a.As).toNat=5 then (A2 (b+1)) else C),(if (a.As).toNat=6 then (A2 (b+1)) else D),(if (a.As).toNat=7 then (A2 (b+1)) else E),(if (a.As).toNat=8 then (A2 (b+1)) else F),(if (a.As).toNat=9 then (A2 (b+1)) else G),(if (a.As).toNat=10 then (A2 (b+1)) else c),(if (a.As).toNat=11 then (A2 (b+1)) else d),(if (a.As).toNat=12 then (A2 (b+1)) else e),(if (a.As).toNat=13 then (A2 (b+1)) else f),(if (a.As).toNat=14 then (A2 (b+1)) else g),(if (a.As).toNat=15 then (A2 (b+1)) else h),(if (a.As).toNat=16 then (A2 (b+1)) else i),(if (a.As).toNat=17 then (A2 (b+1)) else j),(if (a.As).toNat=18 then (A2 (b+1)) else k),(if (a.As).toNat=19 then (A2 (b+1)) else l),(if (a.As).toNat=20 then (A2 (b+1)) else m),(if (a.As).toNat=21 then (A2 (b+1)) else n),(if (a.As).toNat=22 then (A2 (b+1)) else o),(if (a.As).toNat=23 then (A2 (b+1)) else p),(if (a.As).toNat=24 then (A2 (b+1)) else q),(if (a.As).toNat=25 then (A2 (b+1)) else r),(if (a.As).toNat=26 then (A2 (b+1)) else s),(if (a.As).toNat=27 then (A2 (b+1)) else t),(if (a.As).toNat=28 then (A2 (b+1)) else u),(if (a.As).toNat=29 then (A2 (b+1)) else v),(if (a.As).toNat=30 then (A2 (b+1)) else w))))<|
 Option.map Sum.inr (cond ((Q.length:Int)==(0:Int)) (
  some true)<|
 Option.bind (D0 Q 0) fun K=>
 A2M R x y z A B C D E F G c d e f g h i j k l m n o p q r s t u v w K 0)
def B0G (H:List A3) (I G w x y z A B C D E F a b c d e f g h i j k l m n o p q r t u v:Int):Option Bool:=
 loop (fun (s:(Int×Int×Int×Int×Int×Int×Int×Int×Int×Int×Int×Int×Int×Int×Int×Int×Int×Int×Int×Int×Int×Int×Int×Int×Int×Int×Int×Int×Int×Int×Int×Int))=>A5H H I s.1 s.2.1 s.2.2.1 s.2.2.2.1 s.2.2.2.2.1 s.2.2.2.2.2.1 s.2.2.2.2.2.2.1 s.2.2.2.2.2.2.2.1 s.2.2.2.2.2.2.2.2.1 s.2.2.2.2.2.2.2.2.2.1 s.2.2.2.2.2.2.2.2.2.2.1 s.2.2.2.2.2.2.2.2.2.2.2.1 s.2.2.2.2.2.2.2.2.2.2.2.2.1 s.2.2.2.2.2.2.2.2.2.2.2.2.2.1 s.2.2.2.2.2.2.2.2.2.2.2.2.2.2.1 s.2.2.2.2.2.2.2.2.2.2.2.2.2.2.2.1 s.2.2.2.2.2.2.2.2.2.2.2.2.2.2.2.2.1 s.2.2.2.2.2.2.2.2.2.2.2.2.2.2.2.2.2.1 s.2.2.2.2.2.2.2.2.2.2.2.2.2.2.2.2.2.2.1 s.2.2.2.2.2.2.2.2.2.2.2.2.2.2.2.2.2.2.2.1 s.2.2.2.2.2.2.2.2.2.2.2.2.2.2.2.2.2.2.2.2.1 s.2.2.2.2.2.2.2.2.2.2.2.2.2.2.2.2.2.2.2.2.2.1 s.2.2.2.2.2.2.2.2.2.2.2.2.2.2.2.2.2.2.2.2.2.2.1 s.2.2.2.2.2.2.2.2.2.2.2.2.2.2.2.2.2.2.2.2.2.2.2.1 s.2.2.2.2.2.2.2.2.2.2.2.2.2.2.2.2.2.2.2.2.2.2.2.2.1 s.2.2.2.2.2.2.2.2.2.2.2.2.2.2.2.2.2.2.2.2.2.2.2.2.2.1 s.2.2.2.2.2.2.2.2.2.2.2.2.2.2.2.2.2.2.2.2.2.2.2.2.2.2.1 s.2.2.2.2.2.2.2.2.2.2.2.2.2.2.2.2.2.2.2.2.2.2.2.2.2.2.2.1 s.2.2.2.2.2.2.2.2.2.2.2.2.2.2.2.2.2.2.2.2.2.2.2.2.2.2.2.2.1 s.2.2.2.2.2.2.2.2.2.2.2.2.2.2.2.2.2.2.2.2.2.2.2.2.2.2.2.2.2.1 s.2.2.2.2.2.2.2.2.2.2.2.2.2.2.2.2.2.2.2.2.2.2.2.2.2.2.2.2.2.2.1 s.2.2.2.2.2.2.2.2.2.2.2.2.2.2.2.2.2.2.2.2.2.2.2.2.2.2.2.2.2.2.2) (G,w,x,y,z,A,B,C,D,E,F,a,b,c,d,e,f,g,h,i,j,k,l,m,n,o,p,q,r,t,u,v)
def Y1 (b:List A3) (a:Int):Option Bool:=
 cond ((decide (a<1))||(decide (a>128))) (
  some false)<|
 B0G b a 0 0 0 0 0 0 0 0 0 0 0 0 0 0 0 0 0 0 0 0 0 0 0 0 0 0 0 0 0 0 0 0
def A2R (f:C8) (a:Int):Option (Int⊕Int):=
 cond (decide (a<(f.Ac.length:Int))) (
  Option.bind (D0 f.Ac a) fun b=>
  cond (((decide (b.Bf<1))||(decide (b.Bf>b.Be)))||(decide (b.Be>f.N))) (
   some (.inr 2))<|
  cond (decide (a>0)) (
   Option.bind (D0 f.Ac (A2 (a-1))) fun c=>
   cond (((decide (c.V>b.V))||(decide (c.Bf>=b.Bf)))||(decide (c.Be>=b.Be))) (
    some (.inr 2))<|
   some (.inl (A2 (a+1))))<|
  some (.inl (A2 (a+1))))<|
 Option.map Sum.inr (Option.bind (gd (decide ((f.Ac.length:Int)>(0:Int))) (D0 f.Ac 0)) fun d=>
 Option.bind (gd ((decide ((f.Ac.length:Int)>(0:Int)))&&(!(d.Be !=1))) (D0 f.Ac (A2 ((f.Ac.length:Int)-(1:Int))))) fun e=>
 cond ((decide ((f.Ac.length:Int)>(0:Int)))&&((d.Be !=1)||(e.Bf !=f.N))) (
  some 2)<|
 some 0)
def B09 (b:C8) (a:Int):Option Int:=
 loop (fun (s:Int)=>A2R b s) a
def Y4 (a:C8):Option Int:=
 cond (((decide (a.N<0))||(decide (a.N>1099511627776)))||(!(((a.Ac.length:Int)==(0:Int))==(a.N==0)))) (
  some 2)<|
 B09 a 0
def B08 (e:C8) (b a:Int):Option ((Int×Int)⊕Int):=
 cond (decide (a<(e.Ac.length:Int))) (
  Option.bind (D0 e.Ac a) fun d=>
  Option.bind (D0 e.Ac (A2 (a-1))) fun c=>
  some (.inl ((P8 b (A2 (d.Be-c.Bf))),(A2 (a+1)))))<|
 Option.map Sum.inr (some b)
def A8S (c:C8) (a b:Int):Option Int:=
 loop (fun (s:(Int×Int))=>B08 c s.1 s.2) (a,b)
def B3Q (b:C8):Option Int:=
 Option.bind (Y4 b) fun a=>
 cond ((a !=0)||((b.Ac.length:Int)==(0:Int))) (
  some 0)<|
 A8S b 1 1
def A3A (i:List A6) (h b:Int):Option (Int⊕Bool):=
 cond (decide (b<(i.length:Int))) (
  Option.bind (D0 i b) fun a=>
  Option.bind (Y4 a.Aw) fun c=>
  ck (!(!(c !=0))||(decide (0<=(G8 a.As))))<|
  Option.bind (gd (!(((c !=0)||(a.Aw.N !=(A78 .i64 1 (G8 a.As))))||(decide ((a.Aw.Ac.length:Int)>(A2 (h+1)))))) (B3Q a.Aw)) fun f=>
  Option.bind (gd (!(((c !=0)||(a.Aw.N !=(A78 .i64 1 (G8 a.As))))||(decide ((a.Aw.Ac.length:Int)>(A2 (h+1)))))) (A4S a.As h)) fun g=>
  cond ((((c !=0)||(a.Aw.N !=(A78 .i64 1 (G8 a.As))))||(decide ((a.Aw.Ac.length:Int)>(A2 (h+1)))))||(decide ((A2 (f-1))>g))) (
   some (.inr false))<|
  Option.bind (D0 a.Aw.Ac 0) fun e=>
  Option.bind (D0 a.Aw.Ac (A2 ((a.Aw.Ac.length:Int)-(1:Int)))) fun d=>
  cond ((((decide (e.V<(-4096:Int)))||(decide (d.V>4096)))||(decide (a.Az<e.V)))||(decide (a.Az>d.V))) (
   some (.inr false))<|
  some (.inl (A2 (b+1))))<|
 Option.map Sum.inr (some true)
def B1y (b:List A6) (c a:Int):Option Bool:=
 loop (fun (s:Int)=>A3A b c s) a
def A4n (d:List A6) (e c:Int):Option Bool:=
 Option.bind (gd (!((decide (c<1))||(decide (c>65536)))) (A2Y d)) fun b=>
 Option.bind (gd (!((decide (c<1))||(decide (c>65536)))) (Y1 b e)) fun a=>
 cond (((decide (c<1))||(decide (c>65536)))||(!a)) (
  some false)<|
 B1y d c 0
def A9l (a:Int):C8:=
 (C8.mk 1 [(B0.mk a 1 1)])
def A2n (c:B0) (d:List B0) (e f a:Int):Option B0:=
 cond (decide (e<(d.length:Int))) (
  Option.bind (D0 d e) fun b=>
  some (B0.mk c.V a (A2 (c.Be+(A2 (b.Be-1))))))<|
 some (B0.mk c.V a (A2 (c.Be+f)))
def A4C (b:B0) (d:List B0) (c e:Int):Option B0:=
 cond (decide (c>0)) (
  Option.bind (D0 d (A2 (c-1))) fun a=>
  A2n b d c e (A2 (b.Bf+a.Bf)))<|
 A2n b d c e b.Bf
def A1j (a:C8):Option C8:=
 ck (decide ((([]:List B0).length+a.Ac.length)*24<=140737488355328))<|
 some (C8.mk a.N (([]:List B0)++a.Ac))
def A47 (b:List B0) (c d:Int) (a:B0):Option ((Int×Int×(List B0))⊕(C8×Int)):=
 ck (decide ((b.length+ [a].length)*24<=140737488355328))<|
 some (.inl (c,d,(b++ [a])))
def A48 (j k:C8) (a b:Int) (c:List B0):Option ((Int×Int×(List B0))⊕(C8×Int)):=
 cond ((decide (a<(j.Ac.length:Int)))||(decide (b<(k.Ac.length:Int)))) (
  Option.bind (gd ((!(b==(k.Ac.length:Int)))&&(decide (a<(j.Ac.length:Int)))) (D0 j.Ac a)) fun d=>
  Option.bind (gd ((!(b==(k.Ac.length:Int)))&&(decide (a<(j.Ac.length:Int)))) (D0 k.Ac b)) fun e=>
  cond ((b==(k.Ac.length:Int))||((decide (a<(j.Ac.length:Int)))&&(decide (d.V<=e.V)))) (
   Option.bind (D0 j.Ac a) fun f=>
   Option.bind (A4C f k.Ac b k.N) fun g=>
   A47 c (A2 (a+1)) b g)<|
  Option.bind (D0 k.Ac b) fun h=>
  Option.bind (A4C h j.Ac a j.N) fun i=>
  A47 c a (A2 (b+1)) i)<|
 Option.map Sum.inr (some ((C8.mk (A2 (j.N+k.N)) c),0))
def A9u (d e:C8) (b c:Int) (a:List B0):Option (C8×Int):=
 loop (fun (s:(Int×Int×(List B0)))=>A48 d e s.1 s.2.1 s.2.2) (b,c,a)
def A2m (e f:C8):Option (C8×Int):=
 Option.bind (Y4 e) fun a=>
 cond (a !=0) (
  some ((C8.mk 0 []),a))<|
 Option.bind (Y4 f) fun b=>
 cond (b !=0) (
  some ((C8.mk 0 []),b))<|
 cond (decide (e.N>(A2 (1099511627776-f.N)))) (
  some ((C8.mk 0 []),5))<|
 cond (e.N==0) (
  Option.bind (A1j f) fun c=>
  some (c,0))<|
 cond (f.N==0) (
  Option.bind (A1j e) fun d=>
  some (d,0))<|
 A9u e f 0 0 ([]:List B0)
def A6M (a:B0) (b:Int):Int:=
 (P8 (A2 (b-a.Bf)) (A2 (a.Be-b)))
def A8e (f:List B0) (g a:Int):Option (Int⊕Int):=
 Option.bind (gd (decide ((A2 (a+1))<(f.length:Int))) (D0 f (A2 (a+1)))) fun e=>
 let b:=(A6M e g);
 Option.bind (gd (decide ((A2 (a+1))<(f.length:Int))) (D0 f a)) fun c=>
 let d:=(A6M c g);
 cond ((decide ((A2 (a+1))<(f.length:Int)))&&(decide (b<d))) (
  some (.inl (A2 (a+1))))<|
 Option.map Sum.inr (some a)
def B4f (b:List B0) (c a:Int):Option Int:=
 loop (fun (s:Int)=>A8e b c s) a
def A5a (a:List B0) (b c:Int):Option Int:=
 B4f a b c
def A49 (g:C8) (h e f c:Int) (a:List B0):Option ((Int×Int×Int×(List B0))⊕(C8×Int)):=
 cond (decide (c<=h)) (
  ck (decide (h≠0))<|
  Option.bind (A5a g.Ac (A2 (1+(A2 (Int.tdiv (A2 (c*(A2 (g.N-1)))) h)))) f) fun b=>
  cond (b !=e) (
   Option.bind (D0 g.Ac b) fun d=>
   ck (decide ((a.length+ [d].length)*24<=140737488355328))<|
   some (.inl (b,b,(A2 (c+1)),(a++ [d]))))<|
  some (.inl (e,b,(A2 (c+1)),a)))<|
 Option.map Sum.inr (some ((C8.mk g.N a),0))
def A9v (e:C8) (f c d b:Int) (a:List B0):Option (C8×Int):=
 loop (fun (s:(Int×Int×Int×(List B0)))=>A49 e f s.1 s.2.1 s.2.2.1 s.2.2.2) (c,d,b,a)
def A0k (c:C8) (d:Int):Option (C8×Int):=
 Option.bind (Y4 c) fun a=>
 cond (a !=0) (
  some ((C8.mk 0 []),a))<|
 cond ((decide (d<1))||(decide (d>65536))) (
  some ((C8.mk 0 []),1))<|
 cond (decide ((c.Ac.length:Int)<=(A2 (d+1)))) (
  Option.bind (A1j c) fun b=>
  some (b,0))<|
 A9v c d (-1:Int) 0 0 ([]:List B0)
def A2L (o p:Int) (b:List A6) (f d a:Int):Option (Int⊕(((List A6)×Int×Int)⊕(List A6))):=
 Option.bind (gd (decide (a>0)) (D0 b (A2 (a-1)))) fun n=>
 Option.bind (gd (decide (a>0)) (D0 b (A2 (a-1)))) fun i=>
 cond ((decide (a>0))&&(i.As==d)) (
  some (.inl (A2 (a-1))))<|
 Option.map Sum.inr (cond (decide ((A2 (f-a))<(A2 (o+2)))) (
  some (.inr b))<|
 Option.bind (D0 b a) fun l=>
 Option.bind (D0 b a) fun g=>
 Option.bind (D0 b (A2 (a+1))) fun m=>
 Option.bind (D0 b (A2 (a+1))) fun c=>
 Option.bind (A2m g.Aw c.Aw) fun h=>
 Option.bind (A0k h.1 p) fun e=>
 Option.bind (D0 b a) fun j=>
 Option.bind (D0 b a) fun k=>
 ck (decide (0<=(A2 (a+1))/\(A2 (a+1))<=((b.set (a).toNat (A6.mk c.T c.Az (A2 (d+1)) e.1)).length:Int)))<|
 ck (decide (0<=(A2 (a+2))/\(A2 (a+2))<=((b.set (a).toNat (A6.mk c.T c.Az (A2 (d+1)) e.1)).length:Int)))<|
 ck (decide (0<((A2 (a+(1:Int)))).toNat/\((A2 (a+(1:Int)))).toNat+(((b.set (a).toNat (A6.mk c.T c.Az (A2 (d+1)) e.1)).drop ((A2 (a+(2:Int)))).toNat).take ((b.set (a).toNat (A6.mk c.T c.Az (A2 (d+1)) e.1)).length-((A2 (a+(2:Int)))).toNat)).length<=(b.set (a).toNat (A6.mk c.T c.Az (A2 (d+1)) e.1)).length))<|
 some (.inl (((b.set (a).toNat (A6.mk c.T c.Az (A2 (d+1)) e.1)).take ((A2 (a+(1:Int)))).toNat++(((b.set (a).toNat (A6.mk c.T c.Az (A2 (d+1)) e.1)).drop ((A2 (a+(2:Int)))).toNat).take ((b.set (a).toNat (A6.mk c.T c.Az (A2 (d+1)) e.1)).length-((A2 (a+(2:Int)))).toNat))),(A2 (a+1)),(A2 (d+1)))))
def A6B (e f:Int) (a:List A6) (b c d:Int):Option (((List A6)×Int×Int)⊕(List A6)):=
 loop (fun (s:Int)=>A2L e f a b c s) d
def A2K (d e:Int) (b:List A6) (a c:Int):Option (((List A6)×Int×Int)⊕(List A6)):=
 A6B d e b a c a
def A1u (d e:Int) (a:List A6) (b c:Int):Option (List A6):=
 loop (fun (s:((List A6)×Int×Int))=>A2K d e s.1 s.2.1 s.2.2) (a,b,c)
def A6f (e:List A6) (h i f g:Int):Option (List A6):=
 Option.bind (A4n e h i) fun a=>
 Option.bind (gd ((!(((!a)||(decide (f<0)))||(decide (f>16777216))))&&(decide ((e.length:Int)>(0:Int)))) (D0 e (A2 ((e.length:Int)-(1:Int))))) fun c=>
 Option.bind (gd (!((((((!a)||(decide (f<0)))||(decide (f>16777216)))||((decide ((e.length:Int)>(0:Int)))&&(decide (c.T>f))))||(decide (g<(-4096:Int))))||(decide (g>4096)))) (A2X e)) fun d=>
 cond (((((((!a)||(decide (f<0)))||(decide (f>16777216)))||((decide ((e.length:Int)>(0:Int)))&&(decide (c.T>f))))||(decide (g<(-4096:Int))))||(decide (g>4096)))||(decide (d>=1073741824))) (
  some [])<|
 ck (decide ((([]:List A6).length+e.length)*56<=140737488355328))<|
 let b:=(A9l g);
 ck (decide (((([]:List A6)++e).length+ [(A6.mk f g 0 b)].length)*56<=140737488355328))<|
 A1u h i ((([]:List A6)++e)++ [(A6.mk f g 0 b)]) (((([]:List A6)++e)++ [(A6.mk f g 0 b)]).length:Int) 0
def A16 (c:Int) (a:List A3):Option ((List A3)⊕(List A3)):=
 Option.bind (gd (decide ((a.length:Int)>(0:Int))) (D0 a 0)) fun b=>
 cond ((decide ((a.length:Int)>(0:Int)))&&(decide (b.T<c))) (
  ck (decide (0<=(1:Int)/\1<=(a.length:Int)))<|
  some (.inl (a.drop ((1:Int)).toNat)))<|
 Option.map Sum.inr (ck (decide ((([]:List A3).length+a.length)*16<=140737488355328))<|
 some (([]:List A3)++a))
def A9G (b:Int) (a:List A3):Option (List A3):=
 loop (fun (s:(List A3))=>A16 b s) a
def A2Z (a:List A3) (b:Int):Option (List A3):=
 A9G b a
def A0B (k:Int) (b:List A3) (e d a:Int):Option (Int⊕(((List A3)×Int×Int)⊕(List A3))):=
 Option.bind (gd (decide (a>0)) (D0 b (A2 (a-1)))) fun j=>
 Option.bind (gd (decide (a>0)) (D0 b (A2 (a-1)))) fun f=>
 cond ((decide (a>0))&&(f.As==d)) (
  some (.inl (A2 (a-1))))<|
 Option.map Sum.inr (cond (decide ((A2 (e-a))<(A2 (k+2)))) (
  some (.inr b))<|
 Option.bind (D0 b (A2 (a+1))) fun i=>
 Option.bind (D0 b (A2 (a+1))) fun c=>
 Option.bind (D0 b a) fun g=>
 Option.bind (D0 b a) fun h=>
 ck (decide (0<=(A2 (a+1))/\(A2 (a+1))<=((b.set (a).toNat (A3.mk c.T (A2 (d+(1:Int))))).length:Int)))<|
 ck (decide (0<=(A2 (a+2))/\(A2 (a+2))<=((b.set (a).toNat (A3.mk c.T (A2 (d+(1:Int))))).length:Int)))<|
 ck (decide (0<((A2 (a+(1:Int)))).toNat/\((A2 (a+(1:Int)))).toNat+(((b.set (a).toNat (A3.mk c.T (A2 (d+(1:Int))))).drop ((A2 (a+(2:Int)))).toNat).take ((b.set (a).toNat (A3.mk c.T (A2 (d+(1:Int))))).length-((A2 (a+(2:Int)))).toNat)).length<=(b.set (a).toNat (A3.mk c.T (A2 (d+(1:Int))))).length))<|
 some (.inl (((b.set (a).toNat (A3.mk c.T (A2 (d+(1:Int))))).take ((A2 (a+(1:Int)))).toNat++(((b.set (a).toNat (A3.mk c.T (A2 (d+(1:Int))))).drop ((A2 (a+(2:Int)))).toNat).take ((b.set (a).toNat (A3.mk c.T (A2 (d+(1:Int))))).length-((A2 (a+(2:Int)))).toNat))),(A2 (a+1)),(A2 (d+1)))))
def A3B (e:Int) (a:List A3) (b c d:Int):Option (((List A3)×Int×Int)⊕(List A3)):=
 loop (fun (s:Int)=>A0B e a b c s) d
def A0A (d:Int) (b:List A3) (a c:Int):Option (((List A3)×Int×Int)⊕(List A3)):=
 A3B d b a c a
def W2 (d:Int) (a:List A3) (b c:Int):Option (List A3):=
 loop (fun (s:((List A3)×Int×Int))=>A0A d s.1 s.2.1 s.2.2) (a,b,c)
def A01 (a:List A3) (c b:Int):Option (List A3):=
 ck (decide ((a.length+ [(A3.mk b 0)].length)*16<=140737488355328))<|
 W2 c (a++ [(A3.mk b 0)]) ((a++ [(A3.mk b 0)]).length:Int) 0
def A5Z (c:List A3) (d:Int):Option Bool:=
 let a:=(W3 d);
 Option.bind (gd (a&&(!((c.length:Int)==(0:Int)))) (D0 c (A2 ((c.length:Int)-(1:Int))))) fun b=>
 some (a&&(((c.length:Int)==(0:Int))||(decide (b.T<=d))))
def A4T (e:List A3) (f g:Int):Option (List A3):=
 Option.bind (Y1 e f) fun a=>
 Option.bind (gd (!(!a)) (A5Z e g)) fun b=>
 Option.bind (gd (!((!a)||(!b))) (T0 e)) fun c=>
 cond (((!a)||(!b))||(decide (c>=1073741824))) (
  some [])<|
 ck (decide ((([]:List A3).length+e.length)*16<=140737488355328))<|
 Option.bind (A01 (([]:List A3)++e) f g) fun d=>
 some d
def A0h (d e a:Int) (b:List A3):Option ((Int×(List A3))⊕(List A3)):=
 cond (decide (a>0)) (
  Option.bind (A01 b d e) fun c=>
  some (.inl ((A2 (a-1)),c)))<|
 Option.map Sum.inr (some b)
def A0z (c d a:Int) (b:List A3):Option (List A3):=
 loop (fun (s:(Int×(List A3)))=>A0h c d s.1 s.2) (a,b)
def A17 (e:List A3) (f g d:Int):Option (List A3):=
 Option.bind (Y1 e f) fun a=>
 Option.bind (gd (!(!a)) (A5Z e g)) fun b=>
 Option.bind (gd ((!((((!a)||(!b))||(decide (d<0)))||(decide (d>1024))))&&(decide (d>0))) (T0 e)) fun c=>
 cond (((((!a)||(!b))||(decide (d<0)))||(decide (d>1024)))||((decide (d>0))&&(decide (c>(A2 (1073741824-d)))))) (
  some [])<|
 ck (decide ((([]:List A3).length+e.length)*16<=140737488355328))<|
 A0z f g d (([]:List A3)++e)
def A4q (f:A5) (a:Int):Option (Int⊕Int):=
 cond (decide (a<(f.Au.length:Int))) (
  Option.bind (D0 f.Au a) fun b=>
  cond (((((decide (b.V<(-4096:Int)))||(decide (b.V>4096)))||(decide (b.I<1)))||(decide (b.I>f.I)))||(decide (b.I<=(A2 (f.I-f.W))))) (
   some (.inr 2))<|
  Option.bind (gd (decide (a>0)) (D0 f.Au (A2 (a-1)))) fun c=>
  Option.bind (gd ((decide (a>0))&&(!(decide (b.I<=c.I)))) (D0 f.Au (A2 (a-1)))) fun d=>
  cond ((decide (a>0))&&((decide (b.I<=c.I))||(decide (b.I>(A2 (d.I+f.W)))))) (
   some (.inr 2))<|
  some (.inl (A2 (a+1))))<|
 Option.map Sum.inr (Option.bind (gd (!(decide (f.Ba<=f.I))) (D0 f.Au (A2 ((f.Au.length:Int)-(1:Int))))) fun e=>
 cond ((decide (f.Ba<=f.I))||(decide (f.Ba>(A2 (e.I+f.W))))) (
  some 2)<|
 some 0)
def A5M (b:A5) (a:Int):Option Int:=
 loop (fun (s:Int)=>A4q b s) a
def L3 (a:A5):Option Int:=
 cond (((((((decide (a.W<1))||(decide (a.W>1048576)))||(decide (a.Cap<1)))||(decide (a.Cap>64)))||(decide (a.I<0)))||(decide (a.I>1099511627776)))||(decide ((a.Au.length:Int)>a.Cap))) (
  some 2)<|
 cond (a.I==0) (
  cond ((decide ((a.Au.length:Int)>(0:Int)))||(a.Ba !=0)) (
   some 2)<|
  some 0)<|
 cond ((a.Au.length:Int)==(0:Int)) (
  some 2)<|
 A5M a 0
def B1L (e:List Int) (d f:Int):Option (Int×Int×Int):=
 cond ((decide (f<1))||(decide (d<0))) (
  some (0,0,1))<|
 Option.bind (gd (!(decide (d>=(e.length:Int)))) (D0 e d)) fun a=>
 Option.bind (gd (!((decide (d>=(e.length:Int)))||(decide (a<0)))) (D0 e d)) fun b=>
 cond (((decide (d>=(e.length:Int)))||(decide (a<0)))||(decide (b>=f))) (
  some (0,0,8))<|
 Option.bind (D0 e d) fun c=>
 some (c,(A2 (d+1)),0)
def X5 (b:H9) (c:Int):Option (Int×Int×H9):=
 Option.bind (B1L b.draws_ b.at_ c) fun a=>
 cond (a.2.2 !=0) (
  cond (decide (b.at_>=(b.draws_.length:Int))) (
   some (0,a.2.2,(H9.mk b.draws_ b.at_ c)))<|
  some (0,a.2.2,b))<|
 some (a.1,0,(H9.mk b.draws_ a.2.1 b.beyond_))
def B0L (d:A5) (c:List D9) (b:H9) (a:Int):Option (A5×Int×H9):=
 some ((A5.mk d.W d.Cap (A2 (d.I+1)) a c),0,b)
def A0n (e:A5) (f:Int) (c:List D9) (d:Bool) (a:H9):Option (A5×Int×H9):=
 cond d (
  cond ((c.length:Int)==e.Cap) (
   some ((A5.mk 0 0 0 0 []),9,a))<|
  ck (decide ((c.length+ [(D9.mk (A2 (e.I+1)) f)].length)*16<=140737488355328))<|
  Option.bind (X5 a e.W) fun b=>
  cond (b.2.1 !=0) (
   some ((A5.mk 0 0 0 0 []),b.2.1,b.2.2))<|
  B0L e (c++ [(D9.mk (A2 (e.I+1)) f)]) b.2.2 (A2 ((A2 ((A2 (e.I+(1:Int)))+(1:Int)))+b.1)))<|
 B0L e c a e.Ba
def A86 (d:A5) (f:Int) (e:H9):Option (A5×Int×H9):=
 cond ((decide (f<(-4096:Int)))||(decide (f>4096))) (
  some ((A5.mk 0 0 0 0 []),4,e))<|
 cond (decide (e.at_<0)) (
  some ((A5.mk 0 0 0 0 []),1,e))<|
 cond (d.I==1099511627776) (
  some ((A5.mk 0 0 0 0 []),5,e))<|
 ck (decide ((([]:List D9).length+d.Au.length)*16<=140737488355328))<|
 Option.bind (gd (decide (((([]:List D9)++d.Au).length:Int)>(0:Int))) (D0 (([]:List D9)++d.Au) 0)) fun c=>
 Option.bind (gd (decide (((([]:List D9)++d.Au).length:Int)>(0:Int))) (D0 (([]:List D9)++d.Au) 0)) fun b=>
 cond ((decide (((([]:List D9)++d.Au).length:Int)>(0:Int)))&&(b.I==(A2 ((A2 (d.I+1))-d.W)))) (
  ck (decide (0<=(1:Int)/\1<=((([]:List D9)++d.Au).length:Int)))<|
  A0n d f ((([]:List D9)++d.Au).drop ((1:Int)).toNat) (d.Ba==(A2 (d.I+1))) e)<|
 Option.bind (X5 e (L5 (A2 (d.I+1)) d.W)) fun a=>
 cond (a.2.1 !=0) (
  some ((A5.mk 0 0 0 0 []),a.2.1,a.2.2))<|
 cond (a.1==0) (
  A0n d f ([]:List D9) true a.2.2)<|
 A0n d f (([]:List D9)++d.Au) (d.Ba==(A2 (d.I+1))) a.2.2
def A6Z (c:A5) (d:Int) (e:List Int) (f:Int):Option (A5×Int×Int):=
 Option.bind (L3 c) fun b=>
 cond (b !=0) (
  some ((A5.mk 0 0 0 0 []),0,b))<|
 Option.bind (A86 c d (H9.mk e f 0)) fun a=>
 cond (a.2.1 !=0) (
  some ((A5.mk 0 0 0 0 []),0,a.2.1))<|
 some (a.1,a.2.2.at_,0)
def A51 (c:A5) (d:Int) (e:List Int) (f:Int):Option (Int×Bool):=
 Option.bind (L3 c) fun b=>
 cond (b !=0) (
  some (0,false))<|
 Option.bind (A86 c d (H9.mk e f 0)) fun a=>
 cond ((a.2.1 !=8)||(a.2.2.beyond_==0)) (
  some (0,false))<|
 some (a.2.2.beyond_,true)
def P6 (a b:Int):(A5×Int):=
 cond ((((decide (a<1))||(decide (a>1048576)))||(decide (b<1)))||(decide (b>64))) (
  ((A5.mk 0 0 0 0 []),1))<|
 ((A5.mk a b 0 0 []),0)
def A2b (a:Int):Bool:=
 ((decide (a>=0))&&(decide (a<=16777216)))
def O8 (c b:Int):(Int×Int):=
 let a:=(A2b c);
 cond (!a) (
  (0,1))<|
 cond ((decide (b<c))||(decide (b>16777216))) (
  (0,3))<|
 (b,0)
def U3 (c b:Int):Int:=
 let a:=(A2b c);
 cond (((!a)||(decide (b<1)))||(decide (b>1048576))) (
  (-1:Int))<|
 (P8 0 (A2 ((A2 (c-b))+1)))
def L9 (d e c:Int):Bool:=
 let a:=(U3 d e);
 let b:=(A2b c);
 ((((decide (a>=0))&&b)&&(decide (a<=c)))&&(decide (c<=d)))
def B5 (b a:Bool) (c:Int):(Bool×Int):=
 ((a&&b),0)
def E6 (b a:Bool) (c d:Int):(Bool×Int×Int):=
 ((a&&b),0,0)
def B1 (a b c:Int):Bool:=
 ((decide (a>=b))&&(decide (a<=c)))
def A1H (f:C9) (d e:Bool×Int) (c a:Int) (b:Bool):Int:=
 cond ((!b)||(!(f.Ax==f.Ax&&(c==0&&(a==0&&(d.2==0&&(e.2==0&&(f.P==0&&(f.Ah==0&&(f.Be==0&&true)))))))))) (
  1)<|
 0
def A2d (h:C9) (a:Int) (d:Bool):Int:=
 let e:=(B1 h.K 1 64);
 let c:=(B5 e d h.K);
 let f:=(B1 h.Cap 1 65536);
 let b:=(B5 f c.1 h.Cap);
 cond (decide ((1048576:Int)>(0:Int))) (
  let g:=(B1 h.W 1 1048576);
  A1H h c b a 0 (b.1&&g))<|
 A1H h c b a h.W b.1
def A0D (d:C9) (c:Bool×Int) (a:Int) (b:Bool):Int:=
 cond ((!b)||(!(d.Ax==d.Ax&&(d.Bd==0&&(a==0&&(d.K==0&&(d.Cap==0&&(c.2==0&&(d.Ah==0&&(d.Be==0&&true)))))))))) (
  1)<|
 0
def A0E (c:C9) (a:Int) (b:Bool):Int:=
 cond ((!b)||(!(c.Ax==c.Ax&&(c.Bd==0&&(a==0&&(c.K==0&&(c.Cap==0&&(c.P==0&&(c.Ah==0&&(c.Be==0&&true)))))))))) (
  1)<|
 0
def A0F (d:C9) (c:Bool×Int×Int) (a:Int) (b:Bool):Int:=
 cond ((!b)||(!(d.Ax==d.Ax&&(d.Bd==0&&(a==0&&(d.K==0&&(c.2.2==0&&(d.P==0&&(c.2.1==0&&(d.Be==0&&true)))))))))) (
  1)<|
 0
def A0G (d:C9) (c:Bool×Int×Int) (a:Int) (b:Bool):Int:=
 cond ((!b)||(!(d.Ax==d.Ax&&(d.Bd==0&&(a==0&&(c.2.1==0&&(c.2.2==0&&(d.P==0&&(d.Ah==0&&(d.Be==0&&true)))))))))) (
  1)<|
 0
def A0H (e:C9) (c d:Bool×Int) (a:Int) (b:Bool):Int:=
 cond ((!b)||(!(e.Ax==e.Ax&&(e.Bd==0&&(a==0&&(c.2==0&&(d.2==0&&(e.P==0&&(e.Ah==0&&((0:Int)==(0:Int)&&true)))))))))) (
  1)<|
 0
def A0I (d:C9) (c:Bool×Int) (a:Int) (b:Bool):Int:=
 cond ((!b)||(!(d.Ax==d.Ax&&(d.Bd==0&&(a==0&&(d.K==0&&(c.2==0&&(d.P==0&&(d.Ah==0&&((0:Int)==(0:Int)&&true)))))))))) (
  1)<|
 0
def A0J (d:C9) (c:Bool×Int) (a:Int) (b:Bool):Int:=
 cond ((!b)||(!(d.Ax==d.Ax&&(d.Bd==0&&(a==0&&(d.K==0&&(c.2==0&&(d.P==0&&(d.Ah==0&&(d.Be==0&&true)))))))))) (
  1)<|
 0
def U0 (f:C9) (d:Bool):Int:=
 cond d (
  A2d f f.Bd true)<|
 cond (f.Ax==8) (
  let e:=(B1 f.Be 0 1);
  let b:=(B1 f.Cap 1 65536);
  let a:=(B5 b e f.Cap);
  cond (decide ((1048576:Int)>(0:Int))) (
   let c:=(B1 f.W 1 1048576);
   A0I f a 0 (a.1&&c))<|
  A0I f a f.W a.1)<|
 cond (f.Ax==1) (
  let b:=(B1 f.Cap 1 65536);
  let a:=(B5 b true f.Cap);
  cond (decide ((1048576:Int)>(0:Int))) (
   let c:=(B1 f.W 1 1048576);
   A0J f a 0 (a.1&&c))<|
  A0J f a f.W a.1)<|
 1
def A0C (q:C9):Int:=
 cond (q.Ax==6) (
  let h:=(B1 q.P 0 4);
  let d:=(B5 h true q.P);
  cond (decide ((0:Int)>(0:Int))) (
   let a:=(B1 q.W 1 0);
   A0D q d 0 (d.1&&a))<|
  A0D q d q.W d.1)<|
 cond (q.Ax==7) (
  cond (decide ((64:Int)>(0:Int))) (
   let a:=(B1 q.W 1 64);
   A0E q 0 a)<|
  A0E q q.W true)<|
 cond (q.Ax==9) (
  let i:=(B1 q.Ah 1 16);
  let j:=(B1 q.Cap 1 64);
  let b:=(E6 (i&&j) true q.Ah q.Cap);
  cond (decide ((1048576:Int)>(0:Int))) (
   let a:=(B1 q.W 1 1048576);
   A0F q b 0 (b.1&&a))<|
  A0F q b q.W b.1)<|
 cond (q.Ax==10) (
  let k:=(B1 q.K 1 64);
  let l:=(B1 q.Cap 2 65536);
  let c:=(E6 (k&&l) true q.K q.Cap);
  cond (decide ((0:Int)>(0:Int))) (
   let a:=(B1 q.W 1 0);
   A0G q c 0 (c.1&&a))<|
  A0G q c q.W c.1)<|
 cond (q.Ax==3) (
  let m:=(B1 q.Be 1 1024);
  let n:=(B1 q.K 1 64);
  let f:=(B5 n m q.K);
  let o:=(B1 q.Cap 1 65536);
  let e:=(B5 o f.1 q.Cap);
  cond (decide ((1048576:Int)>(0:Int))) (
   let a:=(B1 q.W 1 1048576);
   A0H q f e 0 (e.1&&a))<|
  A0H q f e q.W e.1)<|
 cond (q.Ax==4) (
  let p:=(B1 q.Bd 1 4);
  let g:=(B5 p true q.Bd);
  A2d q g.2 g.1)<|
 cond (q.Ax==2) (
  U0 q (q.Ax==2))<|
 cond (q.Ax==5) (
  U0 q (q.Ax==5))<|
 U0 q (q.Ax==11)
def A4Y (a b c d:Int):Bool:=
 ((((((((decide (a>=1))&&(decide (a<=1048576)))&&(decide (b>=1)))&&(decide (b<=64)))&&(decide (c>=1)))&&(decide (c<=65536)))&&(decide (d>=0)))&&(decide (d<=16777216)))
def A2e (d:D2) (a:Int):Option (Int⊕Int):=
 cond (decide (a<(d.Ab.length:Int))) (
  Option.bind (D0 d.Ab a) fun b=>
  let c:=(L9 d.Now d.W b.T);
  cond (!c) (
   some (.inr 2))<|
  some (.inl (A2 (a+1))))<|
 Option.map Sum.inr (some 0)
def A9K (b:D2) (a:Int):Option Int:=
 loop (fun (s:Int)=>A2e b s) a
def A1p (d:D2):Option Int:=
 let a:=(A4Y d.W d.K d.Cap d.Now);
 Option.bind (gd (!(!a)) (Y1 d.Ab d.K)) fun b=>
 Option.bind (gd (!((!a)||(!b))) (T0 d.Ab)) fun c=>
 cond (((!a)||(!b))||(decide (c>d.Cap))) (
  some 2)<|
 A9K d 0
def A87 (d:D2):Option (D2×Int):=
 Option.bind (A1p d) fun a=>
 cond (a !=0) (
  some ((D2.mk 0 0 0 0 []),a))<|
 Option.bind (T0 d.Ab) fun b=>
 cond (b==d.Cap) (
  some ((D2.mk 0 0 0 0 []),5))<|
 Option.bind (A4T d.Ab d.K d.Now) fun c=>
 some ((D2.mk d.W d.K d.Cap d.Now c),0)
def A6g (e:D2) (f:Int):Option (D2×Int):=
 Option.bind (A1p e) fun a=>
 cond (a !=0) (
  some ((D2.mk 0 0 0 0 []),a))<|
 let b:=(O8 e.Now f);
 cond (b.2 !=0) (
  some ((D2.mk 0 0 0 0 []),b.2))<|
 let c:=(U3 f e.W);
 Option.bind (A2Z e.Ab c) fun d=>
 some ((D2.mk e.W e.K e.Cap f d),0)
def A61 (b c d e:Int):(D2×Int):=
 let a:=(A4Y b c d e);
 cond (!a) (
  ((D2.mk 0 0 0 0 []),1))<|
 ((D2.mk b c d e []),0)
def A40 (a:Int):Bool:=
 ((decide (a>=0))&&(decide (a<=16777216)))
def B8s (d:List A9) (e a:Int):Option (Int⊕Bool):=
 cond (decide (a<(d.length:Int))) (
  Option.bind (D0 d a) fun b=>
  Option.bind (gd ((!((decide (b.T<0))||(decide (b.T>e))))&&(decide (a>0))) (D0 d (A2 (a-1)))) fun c=>
  cond (((decide (b.T<0))||(decide (b.T>e)))||((decide (a>0))&&(decide (c.T>b.T)))) (
   some (.inr false))<|
  some (.inl (A2 (a+1))))<|
 Option.map Sum.inr (some true)
def B9D (b:List A9) (c a:Int):Option Bool:=
 loop (fun (s:Int)=>B8s b c s) a
def A8I (c:List A9) (b:Int):Option Bool:=
 let a:=(A40 b);
 cond (!a) (
  some false)<|
 B9D c b 0
def A24 (e:List A9) (f g:Int) (b:List A9) (a:Int):Option (((List A9)×Int)⊕(List A9)):=
 cond (decide (a<(e.length:Int))) (
  Option.bind (D0 e a) fun c=>
  let d:=(L9 f g c.T);
  cond d (
   ck (decide ((b.length+ [c].length)*16<=140737488355328))<|
   some (.inl ((b++ [c]),(A2 (a+1)))))<|
  some (.inl (b,(A2 (a+1)))))<|
 Option.map Sum.inr (some b)
def A9p (c:List A9) (d e:Int) (b:List A9) (a:Int):Option (List A9):=
 loop (fun (s:((List A9)×Int))=>A24 c d e s.1 s.2) (b,a)
def A93 (b:List A9) (c d:Int):Option (List A9):=
 Option.bind (A8I b c) fun a=>
 cond (!a) (
  some [])<|
 A9p b c d ([]:List A9) 0
def L6 (c:Bool) (a b:Int):Bool:=
 cond c (
  (decide (a>=b)))<|
 (decide (a<=b))
def A4r (a b c:Int):Bool:=
 ((((((decide (a>=1))&&(decide (a<=1048576)))&&(decide (b>=1)))&&(decide (b<=65536)))&&(decide (c>=0)))&&(decide (c<=16777216)))
def A06 (g:B4) (a:Int):Option (Int⊕Int):=
 cond (decide (a<(g.Ar.length:Int))) (
  Option.bind (D0 g.Ar a) fun b=>
  let f:=(L9 g.Now g.W b.T);
  cond (((!f)||(decide (b.V<(-4096:Int))))||(decide (b.V>4096))) (
   some (.inr 2))<|
  Option.bind (gd (decide (a>0)) (D0 g.Ar (A2 (a-1)))) fun c=>
  Option.bind (gd ((decide (a>0))&&(!(decide (c.T>=b.T)))) (D0 g.Ar (A2 (a-1)))) fun d=>
  let e:=(L6 g.Be b.V d.V);
  cond ((decide (a>0))&&((decide (c.T>=b.T))||e)) (
   some (.inr 2))<|
  some (.inl (A2 (a+1))))<|
 Option.map Sum.inr (some 0)
def A7T (b:B4) (a:Int):Option Int:=
 loop (fun (s:Int)=>A06 b s) a
def Z6 (b:B4):Option Int:=
 let a:=(A4r b.W b.Cap b.Now);
 cond ((!a)||(decide ((b.Ar.length:Int)>b.Cap))) (
  some 2)<|
 A7T b 0
def A4b (f:B4) (g:Int) (a:List A9):Option ((List A9)⊕(B4×Int)):=
 Option.bind (gd (decide ((a.length:Int)>(0:Int))) (D0 a (A2 ((a.length:Int)-(1:Int))))) fun c=>
 let d:=(L6 f.Be g c.V);
 cond ((decide ((a.length:Int)>(0:Int)))&&d) (
  ck (decide (0<=(A2 ((a.length:Int)-(1:Int)))/\(A2 ((a.length:Int)-(1:Int)))<=(a.length:Int)))<|
  some (.inl (a.take ((A2 ((a.length:Int)-(1:Int)))).toNat)))<|
 Option.map Sum.inr (ck (decide ((([]:List A9).length+a.length)*16<=140737488355328))<|
 Option.bind (gd (!(((([]:List A9)++a).length:Int)==(0:Int))) (D0 (([]:List A9)++a) (A2 (((([]:List A9)++a).length:Int)-(1:Int))))) fun e=>
 Option.bind (gd (!(((([]:List A9)++a).length:Int)==(0:Int))) (D0 (([]:List A9)++a) (A2 (((([]:List A9)++a).length:Int)-(1:Int))))) fun b=>
 cond ((((([]:List A9)++a).length:Int)==(0:Int))||(decide (b.T<f.Now))) (
  cond (((([]:List A9)++a).length:Int)==f.Cap) (
   some ((B4.mk false 0 0 0 []),5))<|
  ck (decide (((([]:List A9)++a).length+ [(A9.mk f.Now g)].length)*16<=140737488355328))<|
  some ((B4.mk f.Be f.W f.Cap f.Now ((([]:List A9)++a)++ [(A9.mk f.Now g)])),0))<|
 some ((B4.mk f.Be f.W f.Cap f.Now (([]:List A9)++a)),0))
def A41 (b:B4) (c:Int) (a:List A9):Option (B4×Int):=
 loop (fun (s:(List A9))=>A4b b c s) a
def A53 (b:B4) (c:Int):Option (B4×Int):=
 Option.bind (Z6 b) fun a=>
 cond (a !=0) (
  some ((B4.mk false 0 0 0 []),a))<|
 cond ((decide (c<(-4096:Int)))||(decide (c>4096))) (
  some ((B4.mk false 0 0 0 []),4))<|
 A41 b c b.Ar
def A37 (d:B4) (e:Int) (a:List A9):Option ((List A9)⊕(B4×Int)):=
 Option.bind (gd (decide ((a.length:Int)>(0:Int))) (D0 a 0)) fun c=>
 let b:=(L9 e d.W c.T);
 cond ((decide ((a.length:Int)>(0:Int)))&&(!b)) (
  ck (decide (0<=(1:Int)/\1<=(a.length:Int)))<|
  some (.inl (a.drop ((1:Int)).toNat)))<|
 Option.map Sum.inr (ck (decide ((([]:List A9).length+a.length)*16<=140737488355328))<|
 some ((B4.mk d.Be d.W d.Cap e (([]:List A9)++a)),0))
def A89 (b:B4) (c:Int) (a:List A9):Option (B4×Int):=
 loop (fun (s:(List A9))=>A37 b c s) a
def A4c (c:B4) (d:Int):Option (B4×Int):=
 Option.bind (Z6 c) fun a=>
 cond (a !=0) (
  some ((B4.mk false 0 0 0 []),a))<|
 let b:=(O8 c.Now d);
 cond (b.2 !=0) (
  some ((B4.mk false 0 0 0 []),b.2))<|
 A89 c d c.Ar
def A3W (e:Bool) (b c d:Int):(B4×Int):=
 let a:=(A4r b c d);
 cond (!a) (
  ((B4.mk false 0 0 0 []),1))<|
 ((B4.mk e b c d []),0)
def A2f (c:E3) (a:Int):Option (Int⊕Int):=
 cond (decide (a<(c.Bc.length:Int))) (
  Option.bind (D0 c.Bc a) fun b=>
  cond (((decide (b<0))||(decide (b>1099511627776)))||((b !=0)&&(decide (a>c.Now)))) (
   some (.inr 2))<|
  some (.inl (A2 (a+1))))<|
 Option.map Sum.inr (some 0)
def A9L (b:E3) (a:Int):Option Int:=
 loop (fun (s:Int)=>A2f b s) a
def A1r (a:E3):Option Int:=
 cond ((((decide ((a.Bc.length:Int)<(1:Int)))||(decide ((a.Bc.length:Int)>(64:Int))))||(decide (a.Now<0)))||(decide (a.Now>16777216))) (
  some 2)<|
 A9L a 0
def A65 (g:E3) (h:Int):Option (E3×Int):=
 Option.bind (A1r g) fun a=>
 cond (a !=0) (
  some ((E3.mk 0 []),a))<|
 cond ((decide (h<0))||(decide (h>4096))) (
  some ((E3.mk 0 []),4))<|
 Option.bind (D0 g.Bc 0) fun b=>
 cond (decide (b>(A2 (1099511627776-h)))) (
  some ((E3.mk 0 []),6))<|
 ck (decide ((([]:List Int).length+g.Bc.length)*8<=140737488355328))<|
 Option.bind (D0 (([]:List Int)++g.Bc) 0) fun d=>
 Option.bind (D0 (([]:List Int)++g.Bc) 0) fun c=>
 Option.bind (D0 (([]:List Int)++g.Bc) 0) fun e=>
 Option.bind (D0 (([]:List Int)++g.Bc) 0) fun f=>
 some ((E3.mk g.Now ((([]:List Int)++g.Bc).set ((0:Int)).toNat (A2 (c+h)))),0)
def A6l (c:E3) (d:Int):Option (E3×Int):=
 Option.bind (A1r c) fun a=>
 cond (a !=0) (
  some ((E3.mk 0 []),a))<|
 let b:=(O8 c.Now d);
 cond (b.2 !=0) (
  some ((E3.mk 0 []),b.2))<|
 ck (decide ((([]:List Int).length+c.Bc.length)*8<=140737488355328))<|
 ck (decide (0<=(L5 (A2 (d-c.Now)) ((([]:List Int)++c.Bc).length:Int))/\(L5 (A2 (d-c.Now)) ((([]:List Int)++c.Bc).length:Int))<=((([]:List Int)++c.Bc).length:Int)))<|
 ck (decide (0<=(L5 (A2 (d-c.Now)) ((([]:List Int)++c.Bc).length:Int))/\(L5 (A2 (d-c.Now)) ((([]:List Int)++c.Bc).length:Int))<=((laid (([]:List Int)++c.Bc) ((L5 (A2 (d-c.Now)) ((([]:List Int)++c.Bc).length:Int))).toNat (c.Bc.take ((([]:List Int)++c.Bc).length-((L5 (A2 (d-c.Now)) ((([]:List Int)++c.Bc).length:Int))).toNat))).length:Int)))<|
 some ((E3.mk d (laid (laid (([]:List Int)++c.Bc) ((L5 (A2 (d-c.Now)) ((([]:List Int)++c.Bc).length:Int))).toNat (c.Bc.take ((([]:List Int)++c.Bc).length-((L5 (A2 (d-c.Now)) ((([]:List Int)++c.Bc).length:Int))).toNat))) 0 (List.replicate ((L5 (A2 (d-c.Now)) ((([]:List Int)++c.Bc).length:Int))).toNat 0))),0)
def B1O (a b:Int):Option (E3×Int):=
 cond ((((decide (a<1))||(decide (a>64)))||(decide (b<0)))||(decide (b>16777216))) (
  some ((E3.mk 0 []),1))<|
 ck (decide (0<=a/\a<=a/\a*8<=140737488355328/\a<=140737488355328))<|
 some ((E3.mk b (List.replicate (a).toNat 0)),0)
def B1S (a:Int):Bool:=
 ((decide (a>=0))&&(decide (a<=16777216)))
def B7L (b c:Int):Option (D3×Int):=
 let a:=(B1S c);
 cond (((decide (b<0))||(decide (b>4)))||(!a)) (
  some ((D3.mk 0 0 0 []),1))<|
 ck (decide (0<=(A2 (b+1))/\(A2 (b+1))<=(A2 (b+1))/\(A2 (b+(1:Int)))*16<=140737488355328/\(A2 (b+(1:Int)))<=140737488355328))<|
 some ((D3.mk b c c (List.replicate ((A2 (b+(1:Int)))).toNat (C5.mk 0 0))),0)
def Y3 (a b c d:Int):Bool:=
 ((((((((decide (a>=1))&&(decide (a<=1048576)))&&(decide (b>=1)))&&(decide (b<=64)))&&(decide (c>=1)))&&(decide (c<=65536)))&&(decide (d>=0)))&&(decide (d<=16777216)))
def A3f (b c d e:Int):(B6×Int):=
 let a:=(Y3 b c d e);
 cond (!a) (
  ((B6.mk 0 0 0 0 []),1))<|
 ((B6.mk b c d e []),0)
def A57 (a b c:Int):Bool:=
 ((((((decide (a>=1))&&(decide (a<=1048576)))&&(decide (b>=1)))&&(decide (b<=65536)))&&(decide (c>=0)))&&(decide (c<=16777216)))
def A5d (b c d:Int):(C4×Int):=
 let a:=(A57 b c d);
 cond (!a) (
  ((C4.mk 0 0 0 []),1))<|
 ((C4.mk b c d []),0)
def A3n (d e f c:Int) (a:List A5):Option ((Int×(List A5))⊕(D6×Int)):=
 cond (decide (c<d)) (
  let b:=(P6 e f);
  cond (b.2 !=0) (
   some (.inr ((D6.mk []),b.2)))<|
  ck (decide ((a.length+ [b.1].length)*56<=140737488355328))<|
  some (.inl ((A2 (c+1)),(a++ [b.1]))))<|
 Option.map Sum.inr (some ((D6.mk a),0))
def A9D (c d e b:Int) (a:List A5):Option (D6×Int):=
 loop (fun (s:(Int×(List A5)))=>A3n c d e s.1 s.2) (b,a)
def B0p (a b c:Int):Option (D6×Int):=
 cond ((decide (a<1))||(decide (a>16))) (
  some ((D6.mk []),1))<|
 A9D a b c 0 ([]:List A5)
def A45 (a b c d:Int):Bool:=
 ((((((((decide (a>=1))&&(decide (a<=1048576)))&&(decide (b>=1)))&&(decide (b<=64)))&&(decide (c>=1)))&&(decide (c<=65536)))&&(decide (d>=0)))&&(decide (d<=16777216)))
def A0l (b c d e f:Int):Bool:=
 let a:=(A45 c d e f);
 (((decide (b>=1))&&(decide (b<=4)))&&a)
def A5B (b c d e f:Int):(B9×Int):=
 let a:=(A0l b c d e f);
 cond (!a) (
  ((B9.mk 0 0 0 0 0 0 []),1))<|
 ((B9.mk b c d e f 0 []),0)
def A5D (b c d e:Int):(C2×Int):=
 let a:=(A45 b c d e);
 cond (!a) (
  ((C2.mk 0 0 0 0 0 []),1))<|
 ((C2.mk b c d e 0 []),0)
def A8v (a b c d e:Int):Bool:=
 ((((((((((decide (a>=1))&&(decide (a<=1048576)))&&(decide (b>=1)))&&(decide (b<=64)))&&(decide (c>=1)))&&(decide (c<=65536)))&&(decide (d>=1)))&&(decide (d<=1024)))&&(decide (e>=0)))&&(decide (e<=16777216)))
def B0A (b c d e f:Int):(D8×Int):=
 let a:=(A8v b c d e f);
 cond (!a) (
  ((D8.mk 0 0 0 0 0 []),1))<|
 ((D8.mk b c d e f []),0)
def A34 (a b:Int):(B7×Int):=
 cond ((((decide (a<1))||(decide (a>64)))||(decide (b<2)))||(decide (b>65536))) (
  ((B7.mk 0 0 0 []),1))<|
 ((B7.mk a b 0 []),0)
def Y6 (a:Int):Bool:=
 ((decide (a>=0))&&(decide (a<=16777216)))
def M1 (n:C9) (m:Int) (i:C4) (a:D2) (b:D8) (c:B9) (d:C2) (e:D3) (j:Int) (k:List Int) (f:B4) (l:List A5) (g:B7) (h:B6):Option (B3×Int):=
 cond (m !=0) (
  some ((B3.mk (C9.mk 0 0 0 0 0 0 0 0) (C4.mk 0 0 0 []) (D2.mk 0 0 0 0 []) (D8.mk 0 0 0 0 0 []) (B9.mk 0 0 0 0 0 0 []) (C2.mk 0 0 0 0 0 []) (D3.mk 0 0 0 []) (E3.mk 0 []) (B4.mk false 0 0 0 []) (D6.mk []) (B7.mk 0 0 0 []) (B6.mk 0 0 0 0 [])),m))<|
 some ((B3.mk n i a b c d e (E3.mk j k) f (D6.mk l) g h),0)
def A4N (n:C9) (o:Int):Option (B3×Int):=
 let l:=(A0C n);
 cond (l !=0) (
  some ((B3.mk (C9.mk 0 0 0 0 0 0 0 0) (C4.mk 0 0 0 []) (D2.mk 0 0 0 0 []) (D8.mk 0 0 0 0 0 []) (B9.mk 0 0 0 0 0 0 []) (C2.mk 0 0 0 0 0 []) (D3.mk 0 0 0 []) (E3.mk 0 []) (B4.mk false 0 0 0 []) (D6.mk []) (B7.mk 0 0 0 []) (B6.mk 0 0 0 0 [])),l))<|
 let m:=(Y6 o);
 cond (!m) (
  some ((B3.mk (C9.mk 0 0 0 0 0 0 0 0) (C4.mk 0 0 0 []) (D2.mk 0 0 0 0 []) (D8.mk 0 0 0 0 0 []) (B9.mk 0 0 0 0 0 0 []) (C2.mk 0 0 0 0 0 []) (D3.mk 0 0 0 []) (E3.mk 0 []) (B4.mk false 0 0 0 []) (D6.mk []) (B7.mk 0 0 0 []) (B6.mk 0 0 0 0 [])),1))<|
 cond (n.Ax==1) (
  let b:=(A5d n.W n.Cap o);
  M1 n b.2 b.1 (D2.mk 0 0 0 0 []) (D8.mk 0 0 0 0 0 []) (B9.mk 0 0 0 0 0 0 []) (C2.mk 0 0 0 0 0 []) (D3.mk 0 0 0 []) 0 ([]:List Int) (B4.mk false 0 0 0 []) ([]:List A5) (B7.mk 0 0 0 []) (B6.mk 0 0 0 0 []))<|
 cond (n.Ax==2) (
  let c:=(A61 n.W n.K n.Cap o);
  M1 n c.2 (C4.mk 0 0 0 []) c.1 (D8.mk 0 0 0 0 0 []) (B9.mk 0 0 0 0 0 0 []) (C2.mk 0 0 0 0 0 []) (D3.mk 0 0 0 []) 0 ([]:List Int) (B4.mk false 0 0 0 []) ([]:List A5) (B7.mk 0 0 0 []) (B6.mk 0 0 0 0 []))<|
 cond (n.Ax==3) (
  let d:=(B0A n.W n.K n.Cap n.Be o);
  M1 n d.2 (C4.mk 0 0 0 []) (D2.mk 0 0 0 0 []) d.1 (B9.mk 0 0 0 0 0 0 []) (C2.mk 0 0 0 0 0 []) (D3.mk 0 0 0 []) 0 ([]:List Int) (B4.mk false 0 0 0 []) ([]:List A5) (B7.mk 0 0 0 []) (B6.mk 0 0 0 0 []))<|
 cond (n.Ax==4) (
  let e:=(A5B n.Bd n.W n.K n.Cap o);
  M1 n e.2 (C4.mk 0 0 0 []) (D2.mk 0 0 0 0 []) (D8.mk 0 0 0 0 0 []) e.1 (C2.mk 0 0 0 0 0 []) (D3.mk 0 0 0 []) 0 ([]:List Int) (B4.mk false 0 0 0 []) ([]:List A5) (B7.mk 0 0 0 []) (B6.mk 0 0 0 0 []))<|
 cond (n.Ax==5) (
  let f:=(A5D n.W n.K n.Cap o);
  M1 n f.2 (C4.mk 0 0 0 []) (D2.mk 0 0 0 0 []) (D8.mk 0 0 0 0 0 []) (B9.mk 0 0 0 0 0 0 []) f.1 (D3.mk 0 0 0 []) 0 ([]:List Int) (B4.mk false 0 0 0 []) ([]:List A5) (B7.mk 0 0 0 []) (B6.mk 0 0 0 0 []))<|
 cond (n.Ax==6) (
  Option.bind (B7L n.P o) fun g=>
  M1 n g.2 (C4.mk 0 0 0 []) (D2.mk 0 0 0 0 []) (D8.mk 0 0 0 0 0 []) (B9.mk 0 0 0 0 0 0 []) (C2.mk 0 0 0 0 0 []) g.1 0 ([]:List Int) (B4.mk false 0 0 0 []) ([]:List A5) (B7.mk 0 0 0 []) (B6.mk 0 0 0 0 []))<|
 cond (n.Ax==7) (
  Option.bind (B1O n.W o) fun a=>
  M1 n a.2 (C4.mk 0 0 0 []) (D2.mk 0 0 0 0 []) (D8.mk 0 0 0 0 0 []) (B9.mk 0 0 0 0 0 0 []) (C2.mk 0 0 0 0 0 []) (D3.mk 0 0 0 []) a.1.Now a.1.Bc (B4.mk false 0 0 0 []) ([]:List A5) (B7.mk 0 0 0 []) (B6.mk 0 0 0 0 []))<|
 cond (n.Ax==8) (
  let h:=(A3W (n.Be==1) n.W n.Cap o);
  M1 n h.2 (C4.mk 0 0 0 []) (D2.mk 0 0 0 0 []) (D8.mk 0 0 0 0 0 []) (B9.mk 0 0 0 0 0 0 []) (C2.mk 0 0 0 0 0 []) (D3.mk 0 0 0 []) 0 ([]:List Int) h.1 ([]:List A5) (B7.mk 0 0 0 []) (B6.mk 0 0 0 0 []))<|
 cond (n.Ax==9) (
  Option.bind (B0p n.Ah n.W n.Cap) fun i=>
  M1 n i.2 (C4.mk 0 0 0 []) (D2.mk 0 0 0 0 []) (D8.mk 0 0 0 0 0 []) (B9.mk 0 0 0 0 0 0 []) (C2.mk 0 0 0 0 0 []) (D3.mk 0 0 0 []) 0 ([]:List Int) (B4.mk false 0 0 0 []) i.1.Ah (B7.mk 0 0 0 []) (B6.mk 0 0 0 0 []))<|
 cond (n.Ax==10) (
  let j:=(A34 n.K n.Cap);
  M1 n j.2 (C4.mk 0 0 0 []) (D2.mk 0 0 0 0 []) (D8.mk 0 0 0 0 0 []) (B9.mk 0 0 0 0 0 0 []) (C2.mk 0 0 0 0 0 []) (D3.mk 0 0 0 []) 0 ([]:List Int) (B4.mk false 0 0 0 []) ([]:List A5) j.1 (B6.mk 0 0 0 0 []))<|
 cond (n.Ax==11) (
  let k:=(A3f n.W n.K n.Cap o);
  M1 n k.2 (C4.mk 0 0 0 []) (D2.mk 0 0 0 0 []) (D8.mk 0 0 0 0 0 []) (B9.mk 0 0 0 0 0 0 []) (C2.mk 0 0 0 0 0 []) (D3.mk 0 0 0 []) 0 ([]:List Int) (B4.mk false 0 0 0 []) ([]:List A5) (B7.mk 0 0 0 []) k.1)<|
 M1 n 0 (C4.mk 0 0 0 []) (D2.mk 0 0 0 0 []) (D8.mk 0 0 0 0 0 []) (B9.mk 0 0 0 0 0 0 []) (C2.mk 0 0 0 0 0 []) (D3.mk 0 0 0 []) 0 ([]:List Int) (B4.mk false 0 0 0 []) ([]:List A5) (B7.mk 0 0 0 []) (B6.mk 0 0 0 0 [])
def A4k (a:B3):Bool:=
 cond ((a.Ai.Ax !=1)&&((((a.Aj.W !=0)||(a.Aj.Cap !=0))||(a.Aj.Now !=0))||(decide ((a.Aj.Ar.length:Int)>(0:Int))))) (
  false)<|
 cond ((a.Ai.Ax !=2)&&(((((a.Ap.W !=0)||(a.Ap.K !=0))||(a.Ap.Cap !=0))||(a.Ap.Now !=0))||(decide ((a.Ap.Ab.length:Int)>(0:Int))))) (
  false)<|
 cond ((a.Ai.Ax !=3)&&((((((a.Sum.W !=0)||(a.Sum.K !=0))||(a.Sum.Cap !=0))||(a.Sum.Be !=0))||(a.Sum.Now !=0))||(decide ((a.Sum.Ab.length:Int)>(0:Int))))) (
  false)<|
 cond ((a.Ai.Ax !=4)&&(((((((a.Al.Bd !=0)||(a.Al.W !=0))||(a.Al.K !=0))||(a.Al.Cap !=0))||(a.Al.Now !=0))||(a.Al.Bg !=0))||(decide ((a.Al.Av.length:Int)>(0:Int))))) (
  false)<|
 cond ((a.Ai.Ax !=5)&&((((((a.Am.W !=0)||(a.Am.K !=0))||(a.Am.Cap !=0))||(a.Am.Now !=0))||(a.Am.Bg !=0))||(decide ((a.Am.Av.length:Int)>(0:Int))))) (
  false)<|
 cond ((a.Ai.Ax !=6)&&((((a.Bb.P !=0)||(a.Bb.Ay !=0))||(a.Bb.Now !=0))||(decide ((a.Bb.Ae.length:Int)>(0:Int))))) (
  false)<|
 cond ((a.Ai.Ax !=7)&&((a.Aq.Now !=0)||(decide ((a.Aq.Bc.length:Int)>(0:Int))))) (
  false)<|
 cond ((a.Ai.Ax !=8)&&((((a.Ad.Be||(a.Ad.W !=0))||(a.Ad.Cap !=0))||(a.Ad.Now !=0))||(decide ((a.Ad.Ar.length:Int)>(0:Int))))) (
  false)<|
 cond ((a.Ai.Ax !=9)&&(decide ((a.Ak.Ah.length:Int)>(0:Int)))) (
  false)<|
 cond ((a.Ai.Ax !=10)&&((((a.Af.K !=0)||(a.Af.Cap !=0))||(a.Af.N !=0))||(decide ((a.Af.Ao.length:Int)>(0:Int))))) (
  false)<|
 ((a.Ai.Ax==11)||(((((a.Aa.W==0)&&(a.Aa.K==0))&&(a.Aa.Cap==0))&&(a.Aa.Now==0))&&((a.Aa.Ag.length:Int)==(0:Int))))
def X4 (a b:C5):Int:=
 cond ((decide (a.Hi<b.Hi))||((a.Hi==b.Hi)&&(decide (a.Lo<b.Lo)))) (
  (-1:Int))<|
 cond (a.Hi==b.Hi&&(a.Lo==b.Lo&&true)) (
  0)<|
 1
def A6U (c d:C5):Option (C5×Bool):=
 Option.bind (R8 c.Lo d.Lo 0) fun a=>
 Option.bind (R8 c.Hi d.Hi a.2) fun b=>
 cond (b.2 !=0) (
  some ((C5.mk 0 0),false))<|
 some ((C5.mk b.1 a.1),true)
def A2j (a b:Int):(Int×Int):=
 ((G8 ((G8 ((G8 ((B2g .u64 a 32)*(B2g .u64 b 32)))+(B2g .u64 (G8 ((G8 ((B2g .u64 a 32)*(B3z .u64 b 4294967295)))+(B2g .u64 (G8 ((B3z .u64 a 4294967295)*(B3z .u64 b 4294967295))) 32))) 32)))+(B2g .u64 (G8 ((B3z .u64 (G8 ((G8 ((B2g .u64 a 32)*(B3z .u64 b 4294967295)))+(B2g .u64 (G8 ((B3z .u64 a 4294967295)*(B3z .u64 b 4294967295))) 32))) 4294967295)+(G8 ((B3z .u64 a 4294967295)*(B2g .u64 b 32))))) 32))),(G8 (a*b)))
def U7 (b c:Int):C5:=
 let a:=(A2j b c);
 (C5.mk a.1 a.2)
def A6b (f a b c:Int):Option (C5×Bool):=
 let g:=(U7 a c);
 let d:=(U7 a b);
 cond (d.Hi !=0) (
  some ((C5.mk 0 0),false))<|
 Option.bind (A6U g (C5.mk d.Lo 0)) fun e=>
 some (e.1,e.2)
def A1G (a b:C5):Option (C5×Bool):=
 cond ((a.Hi !=0)&&(b.Hi !=0)) (
  some ((C5.mk 0 0),false))<|
 cond (a.Hi !=0) (
  A6b b.Hi b.Lo a.Hi a.Lo)<|
 A6b a.Hi a.Lo b.Hi b.Lo
def S3 (a:Int):C5:=
 (C5.mk 0 a)
def A2Q (j:D3) (f:C5) (a:Int):Option (Int⊕Int):=
 cond (decide (a<=j.P)) (
  Option.bind (D0 j.Ae (A2 (a-1))) fun g=>
  Option.bind (D0 j.Ae a) fun h=>
  let c:=(X4 g h);
  cond (decide (c>0)) (
   some (.inr 2))<|
  Option.bind (D0 j.Ae (A2 (a-1))) fun i=>
  Option.bind (A1G i f) fun b=>
  Option.bind (gd b.2 (D0 j.Ae a)) fun d=>
  let e:=(X4 d b.1);
  cond (b.2&&(decide (e>0))) (
   some (.inr 2))<|
  some (.inl (A2 (a+1))))<|
 Option.map Sum.inr (some 0)
def B06 (c:D3) (a:C5) (b:Int):Option Int:=
 loop (fun (s:Int)=>A2Q c a s) b
def A1Z (c:D3):Option Int:=
 let a:=(B1S c.Now);
 cond ((((((decide (c.P<0))||(decide (c.P>4)))||(!a))||(decide (c.Ay<0)))||(decide (c.Ay>c.Now)))||((c.Ae.length:Int) !=(A2 (c.P+1)))) (
  some 2)<|
 let b:=(S3 (G8 (A2 ((A2 (c.Now-c.Ay))+1))));
 B06 c b 1
def B3I (b:Int):Option Int:=
 cond (decide (b<0)) (
  some 0)<|
 Option.bind (A2i (G8 b)) fun a=>
 some a
def A3T (c d:Int):Option Int:=
 let a:=(Y3 1 c d 0);
 cond (!a) (
  some 0)<|
 Option.bind (B3I d) fun b=>
 some (A2 ((A2 (2*c))*(A2 (b+2))))
def A0M (d:B6) (a:Int):Option (Int⊕Int):=
 cond (decide (a<(d.Ag.length:Int))) (
  Option.bind (D0 d.Ag a) fun b=>
  let c:=(L9 d.Now d.W b.T);
  cond (!c) (
   some (.inr 2))<|
  some (.inl (A2 (a+1))))<|
 Option.map Sum.inr (some 0)
def A7y (b:B6) (a:Int):Option Int:=
 loop (fun (s:Int)=>A0M b s) a
def X7 (e:B6):Option Int:=
 let a:=(Y3 e.W e.K e.Cap e.Now);
 Option.bind (gd (!(!a)) (A3T e.K e.Cap)) fun c=>
 Option.bind (gd (!(!a)) (A4n e.Ag (A2 (2*e.K)) c)) fun b=>
 Option.bind (gd (!((!a)||(!b))) (A2X e.Ag)) fun d=>
 cond (((!a)||(!b))||(decide (d>e.Cap))) (
  some 2)<|
 A7y e 0
def A7z (a:Int):Bool:=
 ((decide (a>=(-4096:Int)))&&(decide (a<=4096)))
def A39 (e:C4) (a:Int):Option (Int⊕Int):=
 cond (decide (a<(e.Ar.length:Int))) (
  Option.bind (D0 e.Ar a) fun b=>
  let d:=(L9 e.Now e.W b.T);
  let c:=(A7z b.V);
  cond ((!d)||(!c)) (
   some (.inr 2))<|
  some (.inl (A2 (a+1))))<|
 Option.map Sum.inr (some 0)
def A9f (b:C4) (a:Int):Option Int:=
 loop (fun (s:Int)=>A39 b s) a
def X0 (c:C4):Option Int:=
 let a:=(A57 c.W c.Cap c.Now);
 Option.bind (gd (!((!a)||(decide ((c.Ar.length:Int)>c.Cap)))) (A8I c.Ar c.Now)) fun b=>
 cond (((!a)||(decide ((c.Ar.length:Int)>c.Cap)))||(!b)) (
  some 2)<|
 A9f c 0
def L1 (e:D6) (a:Int):Option (Int⊕Int):=
 cond (decide (a<(e.Ah.length:Int))) (
  Option.bind (D0 e.Ah a) fun b=>
  Option.bind (D0 e.Ah 0) fun c=>
  Option.bind (L3 b) fun d=>
  cond ((((d !=0)||(b.W !=c.W))||(b.Cap !=c.Cap))||(b.I !=c.I)) (
   some (.inr 2))<|
  some (.inl (A2 (a+1))))<|
 Option.map Sum.inr (some 0)
def A0v (b:D6) (a:Int):Option Int:=
 loop (fun (s:Int)=>L1 b s) a
def M0 (a:D6):Option Int:=
 cond ((decide ((a.Ah.length:Int)<(1:Int)))||(decide ((a.Ah.length:Int)>(16:Int)))) (
  some 2)<|
 A0v a 0
def R7 (a d e b c:Int):Bool:=
 (((((decide (b>=(A2 (a*d))))&&(decide (b<=(A2 (a*e)))))&&(decide (c>=0)))&&(decide (c<=(A2 ((A2 (a*(4096:Int)))*(4096:Int))))))&&(decide ((A2 (b*b))<=(A2 (a*c)))))
def A4d (h:List A4) (i k j l m d:Int):Option (Int⊕Bool):=
 cond (decide (d<(h.length:Int))) (
  Option.bind (D0 h d) fun a=>
  cond ((((((decide (a.Bg<1))||(decide (a.Bg>i)))||(a.N !=(A2 ((A2 (i-a.Bg))+1))))||(decide (a.N>k)))||(decide (a.T<0)))||(decide (a.T>j))) (
   some (.inr false))<|
  let g:=(R7 a.N a.Bf a.Be a.S a.Q);
  cond ((((decide (a.Bf<m))||(decide (a.Be>4096)))||(decide (a.Bf>a.Be)))||(!g)) (
   some (.inr false))<|
  let e:=(L9 j l a.T);
  cond (((decide (d>0))||((h.length:Int)==(1:Int)))&&(!e)) (
   some (.inr false))<|
  cond (d==0) (
   some (.inl (A2 (d+1))))<|
  Option.bind (D0 h (A2 (d-1))) fun b=>
  let f:=(R7 (A2 (b.N-a.N)) b.Bf b.Be (A2 (b.S-a.S)) (A2 (b.Q-a.Q)));
  cond (((((decide (b.Bg>=a.Bg))||(decide (b.T>a.T)))||(decide (b.Bf>a.Bf)))||(decide (b.Be<a.Be)))||(!f)) (
   some (.inr false))<|
  some (.inl (A2 (d+1))))<|
 Option.map Sum.inr (cond ((h.length:Int)==(0:Int)) (
  some true)<|
 Option.bind (D0 h (A2 ((h.length:Int)-(1:Int)))) fun c=>
 some ((((c.Bg==i)&&(c.Bf==c.S))&&(c.Be==c.S))&&(c.Q==(A2 (c.S*c.S)))))
def B2T (b:List A4) (c d e f g a:Int):Option Bool:=
 loop (fun (s:Int)=>A4d b c d e f g s) a
def A56 (b:List A4) (a c d e f:Int):Option Bool:=
 cond ((decide (a<0))||(decide (a>1099511627776))) (
  some false)<|
 B2T b a c d e f 0
def F5 (a:Int):Int:=
 cond ((a==2)||(a==3)) (
  0)<|
 (-4096:Int)
def B56 (a b:Int):(Int×Bool):=
 cond ((!((decide (a>=0))==(decide (b>=0))))&&(!((decide ((A2 (a-b))>=0))==(decide (a>=0))))) (
  (0,false))<|
 ((A2 (a-b)),true)
def A2A (b:A4) (c:Int):Int:=
 cond (c==1) (
  b.N)<|
 cond (c==2) (
  b.S)<|
 cond (c==3) (
  b.Q)<|
 cond (c==4) (
  let a:=(B56 b.Be b.Bf);
  a.1)<|
 0
def F7 (e f:A4) (c d:Int):Bool:=
 let a:=(A2A f c);
 let b:=(A2A e c);
 (decide ((A2 ((A2 (d+1))*a))>=(A2 (d*b))))
def A1M (h:B9) (a:Int):Option (Int⊕Int):=
 cond (decide (a<(h.Av.length:Int))) (
  Option.bind (D0 h.Av a) fun b=>
  Option.bind (gd (decide (a>=2)) (D0 h.Av (A2 (a-2)))) fun g=>
  let d:=(F7 g b h.Bd h.K);
  cond ((decide (a>=2))&&d) (
   some (.inr 2))<|
  Option.bind (gd (decide (a>=1)) (D0 h.Av (A2 (a-1)))) fun c=>
  Option.bind (gd ((decide (a>=1))&&(decide ((A2 (b.Bg-c.Bg))>1))) (D0 h.Av (A2 (a-1)))) fun e=>
  let f:=(F7 e b h.Bd h.K);
  cond (((decide (a>=1))&&(decide ((A2 (b.Bg-c.Bg))>1)))&&(!f)) (
   some (.inr 2))<|
  some (.inl (A2 (a+1))))<|
 Option.map Sum.inr (some 0)
def A9h (b:B9) (a:Int):Option Int:=
 loop (fun (s:Int)=>A1M b s) a
def A0Q (d:B9):Option Int:=
 let a:=(A0l d.Bd d.W d.K d.Cap d.Now);
 let b:=(F5 d.Bd);
 Option.bind (gd (!(!a)) (A56 d.Av d.Bg d.Cap d.Now d.W b)) fun c=>
 cond ((!a)||(!c)) (
  some 2)<|
 A9h d 0
def A4L (a:A4):Bool:=
 cond ((((((decide (a.N<1))||(decide (a.N>65536)))||(decide (a.S<(A2 ((IntKind.i64.wrap (0-a.N))*4096)))))||(decide (a.S>(A2 (a.N*4096)))))||(decide (a.Q<0)))||(decide (a.Q>(A2 ((A2 (a.N*(4096:Int)))*(4096:Int)))))) (
  false)<|
 (decide ((A2 (a.S*a.S))<=(A2 (a.N*a.Q))))
def A1c (a:A4):Int:=
 (A2 ((A2 (a.N*a.Q))-(A2 (a.S*a.S))))
def A4K (m n:A4) (l:Int):Option Bool:=
 let c:=(A4L m);
 let d:=(A4L n);
 cond ((((!c)||(!d))||(decide (l<1)))||(decide (l>64))) (
  some false)<|
 cond (decide ((A2 ((A2 (6*l))*n.N))<(A2 ((A2 ((A2 (6*l))-1))*m.N)))) (
  some false)<|
 let e:=(A1c n);
 let f:=(U7 (G8 e) (G8 m.N));
 let g:=(S3 (G8 (A2 (6*l))));
 Option.bind (A1G f g) fun a=>
 let h:=(A1c m);
 let i:=(U7 (G8 h) (G8 n.N));
 let j:=(S3 (G8 (A2 ((A2 (6*l))-1))));
 Option.bind (A1G i j) fun b=>
 let k:=(X4 a.1 b.1);
 some (decide (k>=0))
def A1N (e:C2) (a:Int):Option (Int⊕Int):=
 cond (decide (a<(e.Av.length:Int))) (
  Option.bind (D0 e.Av (A2 (a-2))) fun c=>
  Option.bind (D0 e.Av a) fun d=>
  Option.bind (A4K c d e.K) fun b=>
  cond b (
   some (.inr 2))<|
  some (.inl (A2 (a+1))))<|
 Option.map Sum.inr (some 0)
def A9i (b:C2) (a:Int):Option Int:=
 loop (fun (s:Int)=>A1N b s) a
def A0R (c:C2):Option Int:=
 let a:=(A45 c.W c.K c.Cap c.Now);
 Option.bind (gd (!(!a)) (A56 c.Av c.Bg c.Cap c.Now c.W (-4096:Int))) fun b=>
 cond ((!a)||(!b)) (
  some 2)<|
 A9i c 2
def A3M (d:D8) (a:Int):Option (Int⊕Int):=
 cond (decide (a<(d.Ab.length:Int))) (
  Option.bind (D0 d.Ab a) fun b=>
  let c:=(L9 d.Now d.W b.T);
  cond (!c) (
   some (.inr 2))<|
  some (.inl (A2 (a+1))))<|
 Option.map Sum.inr (some 0)
def B17 (b:D8) (a:Int):Option Int:=
 loop (fun (s:Int)=>A3M b s) a
def A3o (d:D8):Option Int:=
 let a:=(A8v d.W d.K d.Cap d.Be d.Now);
 Option.bind (gd (!(!a)) (Y1 d.Ab d.K)) fun b=>
 Option.bind (gd (!((!a)||(!b))) (T0 d.Ab)) fun c=>
 cond (((!a)||(!b))||(decide (c>d.Cap))) (
  some 2)<|
 B17 d 0
def A4M (b a:Int):Option Int:=
 ck (decide (a≠0))<|
 some (P8 1 (A2 (Int.tdiv b a)))
def A1d (h:B7) (d e b:Int):Option ((Int×Int)⊕Int):=
 cond (decide (b<(h.Ao.length:Int))) (
  Option.bind (D0 h.Ao b) fun a=>
  Option.bind (gd ((!((decide (a.V<(-4096:Int)))||(decide (a.V>4096))))&&(decide (b>0))) (D0 h.Ao (A2 (b-1)))) fun f=>
  cond (((decide (a.V<(-4096:Int)))||(decide (a.V>4096)))||((decide (b>0))&&(decide (f.V>a.V)))) (
   some (.inr 2))<|
  cond ((((decide (a.G<1))||(decide (a.D<0)))||(decide (a.G>d)))||(decide (a.D>(A2 (d-a.G))))) (
   some (.inr 2))<|
  some (.inl ((A2 (e+a.G)),(A2 (b+1)))))<|
 Option.map Sum.inr (Option.bind (D0 h.Ao 0) fun c=>
 Option.bind (D0 h.Ao (A2 ((h.Ao.length:Int)-(1:Int)))) fun g=>
 cond ((((e !=h.N)||(c.G !=1))||(c.D !=0))||(g.D !=0)) (
  some 2)<|
 some 0)
def A7W (d:B7) (b c a:Int):Option Int:=
 loop (fun (s:(Int×Int))=>A1d d b s.1 s.2) (c,a)
def A1E (b:B7):Option Int:=
 cond (((((((decide (b.K<1))||(decide (b.K>64)))||(decide (b.Cap<2)))||(decide (b.Cap>65536)))||(decide (b.N<0)))||(decide (b.N>1099511627776)))||(decide ((b.Ao.length:Int)>b.Cap))) (
  some 2)<|
 cond (b.N==0) (
  cond (decide ((b.Ao.length:Int)>(0:Int))) (
   some 2)<|
  some 0)<|
 cond ((b.Ao.length:Int)==(0:Int)) (
  some 2)<|
 Option.bind (A4M b.N b.K) fun a=>
 A7W b a 0 0
def A5E (n:B3):Option Bool:=
 cond (n.Ai.Ax==1) (
  Option.bind (X0 n.Aj) fun l=>
  some (((l==0)&&(n.Aj.W==n.Ai.W))&&(n.Aj.Cap==n.Ai.Cap)))<|
 cond (n.Ai.Ax==2) (
  Option.bind (A1p n.Ap) fun m=>
  some ((((m==0)&&(n.Ap.W==n.Ai.W))&&(n.Ap.K==n.Ai.K))&&(n.Ap.Cap==n.Ai.Cap)))<|
 cond (n.Ai.Ax==3) (
  Option.bind (A3o n.Sum) fun d=>
  some (((((d==0)&&(n.Sum.W==n.Ai.W))&&(n.Sum.K==n.Ai.K))&&(n.Sum.Cap==n.Ai.Cap))&&(n.Sum.Be==n.Ai.Be)))<|
 cond (n.Ai.Ax==4) (
  Option.bind (A0Q n.Al) fun e=>
  some (((((e==0)&&(n.Al.W==n.Ai.W))&&(n.Al.K==n.Ai.K))&&(n.Al.Cap==n.Ai.Cap))&&(n.Al.Bd==n.Ai.Bd)))<|
 cond (n.Ai.Ax==5) (
  Option.bind (A0R n.Am) fun f=>
  some ((((f==0)&&(n.Am.W==n.Ai.W))&&(n.Am.K==n.Ai.K))&&(n.Am.Cap==n.Ai.Cap)))<|
 cond (n.Ai.Ax==6) (
  Option.bind (A1Z n.Bb) fun g=>
  some ((g==0)&&(n.Bb.P==n.Ai.P)))<|
 cond (n.Ai.Ax==7) (
  Option.bind (A1r n.Aq) fun h=>
  some ((h==0)&&((n.Aq.Bc.length:Int)==n.Ai.W)))<|
 cond (n.Ai.Ax==8) (
  Option.bind (Z6 n.Ad) fun i=>
  some ((((i==0)&&(n.Ad.W==n.Ai.W))&&(n.Ad.Cap==n.Ai.Cap))&&(n.Ad.Be==(n.Ai.Be==1))))<|
 cond (n.Ai.Ax==9) (
  Option.bind (M0 n.Ak) fun a=>
  Option.bind (gd ((a==0)&&((n.Ak.Ah.length:Int)==n.Ai.Ah)) (D0 n.Ak.Ah 0)) fun b=>
  Option.bind (gd (((a==0)&&((n.Ak.Ah.length:Int)==n.Ai.Ah))&&(b.W==n.Ai.W)) (D0 n.Ak.Ah 0)) fun c=>
  some ((((a==0)&&((n.Ak.Ah.length:Int)==n.Ai.Ah))&&(b.W==n.Ai.W))&&(c.Cap==n.Ai.Cap)))<|
 cond (n.Ai.Ax==10) (
  Option.bind (A1E n.Af) fun j=>
  some (((j==0)&&(n.Af.K==n.Ai.K))&&(n.Af.Cap==n.Ai.Cap)))<|
 Option.bind (X7 n.Aa) fun k=>
 some ((((k==0)&&(n.Aa.W==n.Ai.W))&&(n.Aa.K==n.Ai.K))&&(n.Aa.Cap==n.Ai.Cap))
def M6 (d:B3):Option Int:=
 let a:=(A0C d.Ai);
 Option.bind (gd (!(a !=0)) (A5E d)) fun c=>
 let b:=(A4k d);
 cond (((a !=0)||(!c))||(!b)) (
  some 2)<|
 some 0
def A1f (d:B3) (b a:Int):Option ((Int×Int)⊕Int):=
 cond (decide (a<(d.Aa.Ag.length:Int))) (
  Option.bind (D0 d.Aa.Ag a) fun c=>
  some (.inl ((A2 (b+(c.Aw.Ac.length:Int))),(A2 (a+1)))))<|
 Option.map Sum.inr (some b)
def U2 (c:B3) (b a:Int):Option Int:=
 loop (fun (s:(Int×Int))=>A1f c s.1 s.2) (b,a)
def A1e (d:B3) (b a:Int):Option ((Int×Int)⊕Int):=
 cond (decide (a<(d.Ak.Ah.length:Int))) (
  Option.bind (D0 d.Ak.Ah a) fun c=>
  some (.inl ((A2 (b+(c.Au.length:Int))),(A2 (a+1)))))<|
 Option.map Sum.inr (U2 d b 0)
def A1P (c:B3) (b a:Int):Option Int:=
 loop (fun (s:(Int×Int))=>A1e c s.1 s.2) (b,a)
def S9 (b:B3):Option Int:=
 Option.bind (M6 b) fun a=>
 cond (a !=0) (
  some 0)<|
 A1P b (A2 ((A2 ((A2 ((A2 ((A2 ((A2 ((A2 ((A2 ((b.Aj.Ar.length:Int)+(b.Ap.Ab.length:Int)))+(b.Sum.Ab.length:Int)))+(b.Al.Av.length:Int)))+(b.Am.Av.length:Int)))+(b.Bb.Ae.length:Int)))+(b.Aq.Bc.length:Int)))+(b.Ad.Ar.length:Int)))+(b.Af.Ao.length:Int))) 0
def A8M:Option Bool:=
 Option.bind (A4N (C9.mk 6 0 0 0 0 2 0 0) 0) fun a=>
 Option.bind (gd (a.2==0) (S9 a.1)) fun b=>
 some ((a.2==0)&&(b==3))
def W7 (b a:Int):Option Int:=
 ck (decide (a≠0))<|
 cond (decide ((Int.tmod b a)<0)) (
  some (A2 ((Int.tmod b a)+a)))<|
 some (Int.tmod b a)
def A4x (b c:Int):Option Int:=
 Option.bind (W7 b c) fun a=>
 some a
def O9 (h:C9) (a b c d e f g:Int):C9:=
 (C9.mk h.Ax a b c d e f g)
def A3l (b:C9) (a:Bool):C9:=
 cond a (
  O9 b 0 b.W b.K b.Cap 0 0 0)<|
 cond (b.Ax==3) (
  O9 b 0 b.W b.K b.Cap 0 0 b.Be)<|
 cond (b.Ax==4) (
  O9 b b.Bd b.W b.K b.Cap 0 0 0)<|
 cond (b.Ax==6) (
  O9 b 0 0 0 0 b.P 0 0)<|
 cond (b.Ax==7) (
  O9 b 0 b.W 0 0 0 0 0)<|
 cond (b.Ax==8) (
  O9 b 0 b.W 0 b.Cap 0 0 b.Be)<|
 cond (b.Ax==9) (
  O9 b 0 b.W 0 b.Cap 0 b.Ah 0)<|
 cond (b.Ax==10) (
  O9 b 0 0 b.K b.Cap 0 0 0)<|
 O9 b 0 0 0 0 0 0 0
def M2 (a:C9):C9:=
 cond (a.Ax==1) (
  O9 a 0 a.W 0 a.Cap 0 0 0)<|
 cond (a.Ax==2) (
  A3l a (a.Ax==2))<|
 cond (a.Ax==5) (
  A3l a (a.Ax==5))<|
 A3l a (a.Ax==11)
def A42 (c d e f b g h a:Int):Option C9:=
 let i:=(M2 (C9.mk (A2 (1+c)) (A2 (1+d)) (A2 (1+e)) (A2 (1+f)) (A2 (2+b)) g (A2 (1+h)) a));
 some i
def A8N (i:C9):Option C9:=
 Option.bind (A4x i.Ax 11) fun a=>
 Option.bind (A4x i.Bd 4) fun c=>
 Option.bind (W7 i.W 20) fun d=>
 Option.bind (A4x i.K 4) fun e=>
 Option.bind (A4x i.Cap 40) fun b=>
 Option.bind (A4x i.P 5) fun f=>
 Option.bind (A4x i.Ah 3) fun g=>
 Option.bind (W7 i.Be 20) fun h=>
 cond ((A2 (1+a))==8) (
  A42 a c d e b f g (Int.tmod (A2 (1+h)) 2))<|
 A42 a c d e b f g (A2 (1+h))
def A55 (c:Int) (a:Bool):Option Int:=
 cond a (
  Option.bind (W7 (A2 (Int.tdiv c 8)) 3) fun b=>
  some (A2 (1+b)))<|
 some 0
def B3F (c d:Int):Option Int:=
 Option.bind (W7 c 8) fun a=>
 cond (a==0) (
  Option.bind (W7 (A2 (Int.tdiv c 8)) (A2 ((A2 (2*d))+2))) fun b=>
  some b)<|
 cond (a==1) (
  A55 c (a==1))<|
 A55 c (a==2)
def A98 (e:Int):Option Int:=
 Option.bind (W7 e 8) fun a=>
 cond (a==0) (
  Option.bind (W7 (A2 (Int.tdiv e 8)) 8193) fun b=>
  some (A2 (b-4096)))<|
 cond (a==1) (
  Option.bind (W7 (A2 (Int.tdiv e 8)) 2) fun c=>
  some (A2 (4096*(A2 ((A2 (2*c))-1)))))<|
 Option.bind (W7 (A2 (Int.tdiv e 8)) 13) fun d=>
 some (A2 (d-6))
def A43 (h:List A9) (i j:Int) (b:List A9) (c a:Int):Option (((List A9)×Int×Int)⊕(List A9)):=
 cond ((decide (a<(h.length:Int)))&&(decide (a<j))) (
  Option.bind (D0 h a) fun f=>
  Option.bind (B3F f.T i) fun d=>
  Option.bind (D0 h a) fun g=>
  Option.bind (A98 g.V) fun e=>
  ck (decide ((b.length+ [(A9.mk (A2 (c+d)) e)].length)*16<=140737488355328))<|
  some (.inl ((b++ [(A9.mk (A2 (c+d)) e)]),(A2 (c+d)),(A2 (a+1)))))<|
 Option.map Sum.inr (some b)
def B4c (d:List A9) (e f:Int) (a:List A9) (b c:Int):Option (List A9):=
 loop (fun (s:((List A9)×Int×Int))=>A43 d e f s.1 s.2.1 s.2.2) (a,b,c)
def A97 (a:List A9) (b c:Int):Option (List A9):=
 B4c a b c ([]:List A9) 0 0
def C3v (a:List Int):V5:=
 (V5.mk a 0)
def A44 (c:V5) (d:Int):Option (Int×V5):=
 cond (decide (c.At>=(c.L.length:Int))) (
  some (0,c))<|
 Option.bind (D0 c.L (A2 ((A2 (c.At+(1:Int)))-(1:Int)))) fun b=>
 Option.bind (W7 b d) fun a=>
 some (a,(V5.mk c.L (A2 (c.At+1))))
def A5e (a b:Int):Option ((Int×Int)⊕Int):=
 cond (decide (a>0)) (
  some (.inl ((A2 (Int.tdiv a 2)),(A2 (b+1)))))<|
 Option.map Sum.inr (some b)
def A6p (a b:Int):Option Int:=
 loop (fun (s:(Int×Int))=>A5e s.1 s.2) (a,b)
def A2o (a:Int):Option Int:=
 A6p a 0
def A09 (a:Int):Bool:=
 ((decide (a>=1))&&(decide (a<=128)))
def B0e (c d:Int):Option Int:=
 let a:=(A09 c);
 cond ((!a)||(decide (d<0))) (
  some 0)<|
 Option.bind (A2o d) fun b=>
 some (A2 ((A2 (c+1))*b))
def G7 (a:Int):Bool:=
 ((decide (a>=1))&&(decide (a<=64)))
def N6 (a:Int):Bool:=
 ((decide (a>=1))&&(decide (a<=4)))
def Y5 (c b:Int):Option Int:=
 Option.bind (A2o b) fun a=>
 some (A2 ((A2 ((A2 (2*c))*a))+2))
def B0h (e c d:Int):Option Int:=
 let a:=(N6 e);
 let b:=(G7 c);
 cond ((((!a)||(!b))||(decide (d<1)))||(decide (d>65536))) (
  some 0)<|
 cond (e==2) (
  Y5 c (A2 (d*4096)))<|
 cond (e==3) (
  Y5 c (A2 ((A2 (d*(4096:Int)))*(4096:Int))))<|
 cond (e==4) (
  Y5 c 8192)<|
 Y5 c d
def B0i (d c:Int):Option Int:=
 let a:=(G7 d);
 cond (((!a)||(decide (c<1)))||(decide (c>65536))) (
  some 0)<|
 Option.bind (A2o c) fun b=>
 some (A2 ((A2 ((A2 (12*d))*(A2 ((A2 (3*b))+(24:Int)))))+(4:Int)))
def A1a (d c:Int):Option Int:=
 let a:=(G7 d);
 cond (((!a)||(decide (c<1)))||(decide (c>65536))) (
  some 0)<|
 Option.bind (A2o c) fun b=>
 some (A2 ((A2 (2*d))*(A2 (b+2))))
def B0l (d e:Int):Option Int:=
 Option.bind (A1a d e) fun a=>
 cond (a==0) (
  some 0)<|
 Option.bind (A2o e) fun b=>
 Option.bind (A1a d e) fun c=>
 some (A2 ((A2 ((A2 ((A2 (2*d))+1))*b))*(A2 (c+1))))
def E7 (a:Int):Bool:=
 ((decide (a>=0))&&(decide (a<=16777216)))
def K3 (a:Int):Bool:=
 ((decide (a>=1))&&(decide (a<=1048576)))
def H1 (d c e:Int):Bool:=
 let b:=(K3 d);
 let a:=(E7 e);
 (((b&&(decide (c>=1)))&&(decide (c<=65536)))&&a)
def A0O (h:C9) (a b:Bool):Bool:=
 cond b (
  let g:=(G7 h.K);
  (a&&g))<|
 cond (h.Ax==3) (
  let c:=(G7 h.K);
  (((a&&c)&&(decide (h.Be>=1)))&&(decide (h.Be<=1024))))<|
 cond (h.Ax==4) (
  let d:=(G7 h.K);
  let e:=(N6 h.Bd);
  ((a&&d)&&e))<|
 cond (h.Ax==6) (
  ((decide (h.P>=0))&&(decide (h.P<=4))))<|
 cond (h.Ax==7) (
  ((decide (h.W>=1))&&(decide (h.W<=64))))<|
 cond (h.Ax==8) (
  (a&&((h.Be==0)||(h.Be==1))))<|
 cond (h.Ax==9) (
  ((((((decide (h.Ah>=1))&&(decide (h.Ah<=16)))&&(decide (h.W>=1)))&&(decide (h.W<=1048576)))&&(decide (h.Cap>=1)))&&(decide (h.Cap<=64))))<|
 cond (h.Ax==10) (
  let f:=(G7 h.K);
  ((f&&(decide (h.Cap>=2)))&&(decide (h.Cap<=65536))))<|
 false
def A7F (b:C9):Bool:=
 let a:=(H1 b.W b.Cap 0);
 cond (b.Ax==1) (
  a)<|
 cond (b.Ax==2) (
  A0O b a (b.Ax==2))<|
 cond (b.Ax==5) (
  A0O b a (b.Ax==5))<|
 A0O b a (b.Ax==11)
def A0d (c:C9):Int:=
 let a:=(M2 c);
 let b:=(A7F c);
 cond ((!(c.Ax==a.Ax&&(c.Bd==a.Bd&&(c.W==a.W&&(c.K==a.K&&(c.Cap==a.Cap&&(c.P==a.P&&(c.Ah==a.Ah&&(c.Be==a.Be&&true)))))))))||(!b)) (
  1)<|
 0
def K4 (f:C9) (c:Bool):Option Int:=
 cond c (
  Option.bind (B0e f.K f.Cap) fun d=>
  some d)<|
 cond (f.Ax==4) (
  Option.bind (B0h f.Bd f.K f.Cap) fun e=>
  some e)<|
 cond (f.Ax==5) (
  Option.bind (B0i f.K f.Cap) fun a=>
  some a)<|
 cond (f.Ax==6) (
  some (A2 (f.P+1)))<|
 cond (f.Ax==7) (
  some f.W)<|
 cond (f.Ax==8) (
  some (L5 f.W f.Cap))<|
 cond (f.Ax==9) (
  some (A2 (f.Ah*f.Cap)))<|
 cond (f.Ax==11) (
  Option.bind (B0l f.K f.Cap) fun b=>
  some b)<|
 some f.Cap
def N4 (b:C9):Option Int:=
 let a:=(A0d b);
 cond (a !=0) (
  some 0)<|
 cond (b.Ax==2) (
  K4 b (b.Ax==2))<|
 K4 b (b.Ax==3)
def A1K (d e:List A9) (a:Int):Option (Int⊕Bool):=
 cond (decide (a<(d.length:Int))) (
  Option.bind (D0 d a) fun b=>
  Option.bind (D0 e a) fun c=>
  cond (!(b.T==c.T&&(b.V==c.V&&true))) (
   some (.inr false))<|
  some (.inl (A2 (a+1))))<|
 Option.map Sum.inr (some true)
def A2p (b c:List A9) (a:Int):Option Bool:=
 loop (fun (s:Int)=>A1K b c s) a
def X1 (a b:List A9):Option Bool:=
 cond ((a.length:Int) !=(b.length:Int)) (
  some false)<|
 A2p a b 0
def A5f (b c:C4):Option Bool:=
 Option.bind (gd (((b.W==c.W)&&(b.Cap==c.Cap))&&(b.Now==c.Now)) (X1 b.Ar c.Ar)) fun a=>
 some ((((b.W==c.W)&&(b.Cap==c.Cap))&&(b.Now==c.Now))&&a)
def A3g (d e:List A3) (a:Int):Option (Int⊕Bool):=
 cond (decide (a<(d.length:Int))) (
  Option.bind (D0 d a) fun b=>
  Option.bind (D0 e a) fun c=>
  cond (!(b.T==c.T&&(b.As==c.As&&true))) (
   some (.inr false))<|
  some (.inl (A2 (a+1))))<|
 Option.map Sum.inr (some true)
def A9w (b c:List A3) (a:Int):Option Bool:=
 loop (fun (s:Int)=>A3g b c s) a
def A3J (a b:List A3):Option Bool:=
 cond ((a.length:Int) !=(b.length:Int)) (
  some false)<|
 A9w a b 0
def A5i (b c:D2):Option Bool:=
 Option.bind (gd ((((b.W==c.W)&&(b.K==c.K))&&(b.Cap==c.Cap))&&(b.Now==c.Now)) (A3J b.Ab c.Ab)) fun a=>
 some (((((b.W==c.W)&&(b.K==c.K))&&(b.Cap==c.Cap))&&(b.Now==c.Now))&&a)
def A5j (b c:D8):Option Bool:=
 Option.bind (gd (((((b.W==c.W)&&(b.K==c.K))&&(b.Cap==c.Cap))&&(b.Be==c.Be))&&(b.Now==c.Now)) (A3J b.Ab c.Ab)) fun a=>
 some ((((((b.W==c.W)&&(b.K==c.K))&&(b.Cap==c.Cap))&&(b.Be==c.Be))&&(b.Now==c.Now))&&a)
def Z2 (d e:List A4) (c:Int):Option (Int⊕Bool):=
 cond (decide (c<(d.length:Int))) (
  Option.bind (D0 d c) fun a=>
  Option.bind (D0 e c) fun b=>
  cond (!(a.Bg==b.Bg&&(a.T==b.T&&(a.N==b.N&&(a.S==b.S&&(a.Q==b.Q&&(a.Bf==b.Bf&&(a.Be==b.Be&&true)))))))) (
   some (.inr false))<|
  some (.inl (A2 (c+1))))<|
 Option.map Sum.inr (some true)
def A4F (b c:List A4) (a:Int):Option Bool:=
 loop (fun (s:Int)=>Z2 b c s) a
def X2 (a b:List A4):Option Bool:=
 cond ((a.length:Int) !=(b.length:Int)) (
  some false)<|
 A4F a b 0
def A5m (b c:B9):Option Bool:=
 Option.bind (gd ((((((b.Bd==c.Bd)&&(b.W==c.W))&&(b.K==c.K))&&(b.Cap==c.Cap))&&(b.Now==c.Now))&&(b.Bg==c.Bg)) (X2 b.Av c.Av)) fun a=>
 some (((((((b.Bd==c.Bd)&&(b.W==c.W))&&(b.K==c.K))&&(b.Cap==c.Cap))&&(b.Now==c.Now))&&(b.Bg==c.Bg))&&a)
def A5n (b c:C2):Option Bool:=
 Option.bind (gd (((((b.W==c.W)&&(b.K==c.K))&&(b.Cap==c.Cap))&&(b.Now==c.Now))&&(b.Bg==c.Bg)) (X2 b.Av c.Av)) fun a=>
 some ((((((b.W==c.W)&&(b.K==c.K))&&(b.Cap==c.Cap))&&(b.Now==c.Now))&&(b.Bg==c.Bg))&&a)
def A0t (d e:List C5) (a:Int):Option (Int⊕Bool):=
 cond (decide (a<(d.length:Int))) (
  Option.bind (D0 d a) fun b=>
  Option.bind (D0 e a) fun c=>
  cond (!(b.Hi==c.Hi&&(b.Lo==c.Lo&&true))) (
   some (.inr false))<|
  some (.inl (A2 (a+1))))<|
 Option.map Sum.inr (some true)
def A5Q (b c:List C5) (a:Int):Option Bool:=
 loop (fun (s:Int)=>A0t b c s) a
def A1s (a b:List C5):Option Bool:=
 cond ((a.length:Int) !=(b.length:Int)) (
  some false)<|
 A5Q a b 0
def A5o (b c:D3):Option Bool:=
 Option.bind (gd (((b.P==c.P)&&(b.Ay==c.Ay))&&(b.Now==c.Now)) (A1s b.Ae c.Ae)) fun a=>
 some ((((b.P==c.P)&&(b.Ay==c.Ay))&&(b.Now==c.Now))&&a)
def A0N (d e:List Int) (a:Int):Option (Int⊕Bool):=
 cond (decide (a<(d.length:Int))) (
  Option.bind (D0 d a) fun b=>
  Option.bind (D0 e a) fun c=>
  cond (b !=c) (
   some (.inr false))<|
  some (.inl (A2 (a+1))))<|
 Option.map Sum.inr (some true)
def A07 (b c:List Int) (a:Int):Option Bool:=
 loop (fun (s:Int)=>A0N b c s) a
def X8 (a b:List Int):Option Bool:=
 cond ((a.length:Int) !=(b.length:Int)) (
  some false)<|
 A07 a b 0
def A5p (b c:E3):Option Bool:=
 Option.bind (gd (b.Now==c.Now) (X8 b.Bc c.Bc)) fun a=>
 some ((b.Now==c.Now)&&a)
def A5q (b c:B4):Option Bool:=
 Option.bind (gd ((((b.Be==c.Be)&&(b.W==c.W))&&(b.Cap==c.Cap))&&(b.Now==c.Now)) (X1 b.Ar c.Ar)) fun a=>
 some (((((b.Be==c.Be)&&(b.W==c.W))&&(b.Cap==c.Cap))&&(b.Now==c.Now))&&a)
def A8n (d e:A5) (a:Int):Option (Int⊕Bool):=
 cond (decide (a<(d.Au.length:Int))) (
  Option.bind (D0 d.Au a) fun b=>
  Option.bind (D0 e.Au a) fun c=>
  cond (!(b.I==c.I&&(b.V==c.V&&true))) (
   some (.inr false))<|
  some (.inl (A2 (a+1))))<|
 Option.map Sum.inr (some true)
def A9y (b c:A5) (a:Int):Option Bool:=
 loop (fun (s:Int)=>A8n b c s) a
def B0j (a b:A5):Option Bool:=
 cond (((((a.W !=b.W)||(a.Cap !=b.Cap))||(a.I !=b.I))||(a.Ba !=b.Ba))||((a.Au.length:Int) !=(b.Au.length:Int))) (
  some false)<|
 A9y a b 0
def A5t (e f:D6) (a:Int):Option (Int⊕Bool):=
 cond (decide (a<(e.Ah.length:Int))) (
  Option.bind (D0 e.Ah a) fun c=>
  Option.bind (D0 f.Ah a) fun d=>
  Option.bind (B0j c d) fun b=>
  cond (!b) (
   some (.inr false))<|
  some (.inl (A2 (a+1))))<|
 Option.map Sum.inr (some true)
def A6u (b c:D6) (a:Int):Option Bool:=
 loop (fun (s:Int)=>A5t b c s) a
def A5s (a b:D6):Option Bool:=
 cond ((a.Ah.length:Int) !=(b.Ah.length:Int)) (
  some false)<|
 A6u a b 0
def A3j (d e:B7) (a:Int):Option (Int⊕Bool):=
 cond (decide (a<(d.Ao.length:Int))) (
  Option.bind (D0 d.Ao a) fun b=>
  Option.bind (D0 e.Ao a) fun c=>
  cond (!(b.V==c.V&&(b.G==c.G&&(b.D==c.D&&true)))) (
   some (.inr false))<|
  some (.inl (A2 (a+1))))<|
 Option.map Sum.inr (some true)
def A9A (b c:B7) (a:Int):Option Bool:=
 loop (fun (s:Int)=>A3j b c s) a
def A5v (a b:B7):Option Bool:=
 cond ((((a.K !=b.K)||(a.Cap !=b.Cap))||(a.N !=b.N))||((a.Ao.length:Int) !=(b.Ao.length:Int))) (
  some false)<|
 A9A a b 0
def A5w (d e:C8) (a:Int):Option (Int⊕Bool):=
 cond (decide (a<(d.Ac.length:Int))) (
  Option.bind (D0 d.Ac a) fun b=>
  Option.bind (D0 e.Ac a) fun c=>
  cond (!(b.V==c.V&&(b.Bf==c.Bf&&(b.Be==c.Be&&true)))) (
   some (.inr false))<|
  some (.inl (A2 (a+1))))<|
 Option.map Sum.inr (some true)
def B4h (b c:C8) (a:Int):Option Bool:=
 loop (fun (s:Int)=>A5w b c s) a
def B0k (a b:C8):Option Bool:=
 cond ((a.N !=b.N)||((a.Ac.length:Int) !=(b.Ac.length:Int))) (
  some false)<|
 B4h a b 0
def A3k (k l:List A6) (a:Int):Option (Int⊕Bool):=
 cond (decide (a<(k.length:Int))) (
  Option.bind (D0 k a) fun b=>
  Option.bind (D0 l a) fun c=>
  Option.bind (gd (!(b.T !=c.T)) (D0 k a)) fun d=>
  Option.bind (gd (!(b.T !=c.T)) (D0 l a)) fun e=>
  Option.bind (gd (!((b.T !=c.T)||(d.Az !=e.Az))) (D0 k a)) fun f=>
  Option.bind (gd (!((b.T !=c.T)||(d.Az !=e.Az))) (D0 l a)) fun g=>
  Option.bind (gd (!(((b.T !=c.T)||(d.Az !=e.Az))||(f.As !=g.As))) (D0 k a)) fun h=>
  Option.bind (gd (!(((b.T !=c.T)||(d.Az !=e.Az))||(f.As !=g.As))) (D0 l a)) fun i=>
  Option.bind (gd (!(((b.T !=c.T)||(d.Az !=e.Az))||(f.As !=g.As))) (B0k h.Aw i.Aw)) fun j=>
  cond ((((b.T !=c.T)||(d.Az !=e.Az))||(f.As !=g.As))||(!j)) (
   some (.inr false))<|
  some (.inl (A2 (a+1))))<|
 Option.map Sum.inr (some true)
def A9C (b c:List A6) (a:Int):Option Bool:=
 loop (fun (s:Int)=>A3k b c s) a
def A5x (a b:List A6):Option Bool:=
 cond ((a.length:Int) !=(b.length:Int)) (
  some false)<|
 A9C a b 0
def A5y (b c:B6):Option Bool:=
 Option.bind (gd ((((b.W==c.W)&&(b.K==c.K))&&(b.Cap==c.Cap))&&(b.Now==c.Now)) (A5x b.Ag c.Ag)) fun a=>
 some (((((b.W==c.W)&&(b.K==c.K))&&(b.Cap==c.Cap))&&(b.Now==c.Now))&&a)
def A2z (l m:B3):Option Bool:=
 Option.bind (gd (l.Ai.Ax==m.Ai.Ax&&(l.Ai.Bd==m.Ai.Bd&&(l.Ai.W==m.Ai.W&&(l.Ai.K==m.Ai.K&&(l.Ai.Cap==m.Ai.Cap&&(l.Ai.P==m.Ai.P&&(l.Ai.Ah==m.Ai.Ah&&(l.Ai.Be==m.Ai.Be&&true)))))))) (A5f l.Aj m.Aj)) fun a=>
 Option.bind (gd ((l.Ai.Ax==m.Ai.Ax&&(l.Ai.Bd==m.Ai.Bd&&(l.Ai.W==m.Ai.W&&(l.Ai.K==m.Ai.K&&(l.Ai.Cap==m.Ai.Cap&&(l.Ai.P==m.Ai.P&&(l.Ai.Ah==m.Ai.Ah&&(l.Ai.Be==m.Ai.Be&&true))))))))&&a) (A5i l.Ap m.Ap)) fun b=>
 Option.bind (gd (((l.Ai.Ax==m.Ai.Ax&&(l.Ai.Bd==m.Ai.Bd&&(l.Ai.W==m.Ai.W&&(l.Ai.K==m.Ai.K&&(l.Ai.Cap==m.Ai.Cap&&(l.Ai.P==m.Ai.P&&(l.Ai.Ah==m.Ai.Ah&&(l.Ai.Be==m.Ai.Be&&true))))))))&&a)&&b) (A5j l.Sum m.Sum)) fun c=>
 Option.bind (gd ((((l.Ai.Ax==m.Ai.Ax&&(l.Ai.Bd==m.Ai.Bd&&(l.Ai.W==m.Ai.W&&(l.Ai.K==m.Ai.K&&(l.Ai.Cap==m.Ai.Cap&&(l.Ai.P==m.Ai.P&&(l.Ai.Ah==m.Ai.Ah&&(l.Ai.Be==m.Ai.Be&&true))))))))&&a)&&b)&&c) (A5m l.Al m.Al)) fun d=>
 Option.bind (gd (((((l.Ai.Ax==m.Ai.Ax&&(l.Ai.Bd==m.Ai.Bd&&(l.Ai.W==m.Ai.W&&(l.Ai.K==m.Ai.K&&(l.Ai.Cap==m.Ai.Cap&&(l.Ai.P==m.Ai.P&&(l.Ai.Ah==m.Ai.Ah&&(l.Ai.Be==m.Ai.Be&&true))))))))&&a)&&b)&&c)&&d) (A5n l.Am m.Am)) fun e=>
 Option.bind (gd ((((((l.Ai.Ax==m.Ai.Ax&&(l.Ai.Bd==m.Ai.Bd&&(l.Ai.W==m.Ai.W&&(l.Ai.K==m.Ai.K&&(l.Ai.Cap==m.Ai.Cap&&(l.Ai.P==m.Ai.P&&(l.Ai.Ah==m.Ai.Ah&&(l.Ai.Be==m.Ai.Be&&true))))))))&&a)&&b)&&c)&&d)&&e) (A5o l.Bb m.Bb)) fun f=>
 Option.bind (gd (((((((l.Ai.Ax==m.Ai.Ax&&(l.Ai.Bd==m.Ai.Bd&&(l.Ai.W==m.Ai.W&&(l.Ai.K==m.Ai.K&&(l.Ai.Cap==m.Ai.Cap&&(l.Ai.P==m.Ai.P&&(l.Ai.Ah==m.Ai.Ah&&(l.Ai.Be==m.Ai.Be&&true))))))))&&a)&&b)&&c)&&d)&&e)&&f) (A5p l.Aq m.Aq)) fun g=>
 Option.bind (gd ((((((((l.Ai.Ax==m.Ai.Ax&&(l.Ai.Bd==m.Ai.Bd&&(l.Ai.W==m.Ai.W&&(l.Ai.K==m.Ai.K&&(l.Ai.Cap==m.Ai.Cap&&(l.Ai.P==m.Ai.P&&(l.Ai.Ah==m.Ai.Ah&&(l.Ai.Be==m.Ai.Be&&true))))))))&&a)&&b)&&c)&&d)&&e)&&f)&&g) (A5q l.Ad m.Ad)) fun h=>
 Option.bind (gd (((((((((l.Ai.Ax==m.Ai.Ax&&(l.Ai.Bd==m.Ai.Bd&&(l.Ai.W==m.Ai.W&&(l.Ai.K==m.Ai.K&&(l.Ai.Cap==m.Ai.Cap&&(l.Ai.P==m.Ai.P&&(l.Ai.Ah==m.Ai.Ah&&(l.Ai.Be==m.Ai.Be&&true))))))))&&a)&&b)&&c)&&d)&&e)&&f)&&g)&&h) (A5s l.Ak m.Ak)) fun i=>
 Option.bind (gd ((((((((((l.Ai.Ax==m.Ai.Ax&&(l.Ai.Bd==m.Ai.Bd&&(l.Ai.W==m.Ai.W&&(l.Ai.K==m.Ai.K&&(l.Ai.Cap==m.Ai.Cap&&(l.Ai.P==m.Ai.P&&(l.Ai.Ah==m.Ai.Ah&&(l.Ai.Be==m.Ai.Be&&true))))))))&&a)&&b)&&c)&&d)&&e)&&f)&&g)&&h)&&i) (A5v l.Af m.Af)) fun j=>
 Option.bind (gd (((((((((((l.Ai.Ax==m.Ai.Ax&&(l.Ai.Bd==m.Ai.Bd&&(l.Ai.W==m.Ai.W&&(l.Ai.K==m.Ai.K&&(l.Ai.Cap==m.Ai.Cap&&(l.Ai.P==m.Ai.P&&(l.Ai.Ah==m.Ai.Ah&&(l.Ai.Be==m.Ai.Be&&true))))))))&&a)&&b)&&c)&&d)&&e)&&f)&&g)&&h)&&i)&&j) (A5y l.Aa m.Aa)) fun k=>
 some ((((((((((((l.Ai.Ax==m.Ai.Ax&&(l.Ai.Bd==m.Ai.Bd&&(l.Ai.W==m.Ai.W&&(l.Ai.K==m.Ai.K&&(l.Ai.Cap==m.Ai.Cap&&(l.Ai.P==m.Ai.P&&(l.Ai.Ah==m.Ai.Ah&&(l.Ai.Be==m.Ai.Be&&true))))))))&&a)&&b)&&c)&&d)&&e)&&f)&&g)&&h)&&i)&&j)&&k)
def A7O (f d a b:Int):Option ((Int×Int×Int)⊕(C5×Bool)):=
 cond (decide (d>0)) (
  let e:=(S3 f);
  Option.bind (A1G (C5.mk a b) e) fun c=>
  cond (!c.2) (
   some (.inr ((C5.mk 0 0),false)))<|
  some (.inl ((A2 (d-1)),c.1.Hi,c.1.Lo)))<|
 Option.map Sum.inr (some ((C5.mk a b),true))
def A81 (d c a b:Int):Option (C5×Bool):=
 loop (fun (s:(Int×Int×Int))=>A7O d s.1 s.2.1 s.2.2) (c,a,b)
def B1s (c d:Int):Option (C5×Bool):=
 cond (decide (d<0)) (
  some ((C5.mk 0 0),false))<|
 cond (decide (c<=1)) (
  cond ((c==0)&&(decide (d>0))) (
   some ((C5.mk 0 0),true))<|
  let b:=(S3 1);
  some (b,true))<|
 let a:=(S3 1);
 A81 c d a.Hi a.Lo
def A3e (j:D3) (k:Int) (b:List C5) (a:Int):Option (((List C5)×Int)⊕(D3×Int)):=
 cond (decide (a<((List.replicate ((j.Ae.length:Int)).toNat (C5.mk 0 (0:Int))).length:Int))) (
  Option.bind (B1s (G8 (A2 ((A2 (j.Now-j.Ay))+1))) a) fun d=>
  let e:=(S3 (G8 k));
  Option.bind (A1G d.1 e) fun f=>
  Option.bind (D0 j.Ae a) fun g=>
  Option.bind (A6U g f.1) fun c=>
  cond (!c.2) (
   some (.inr ((D3.mk 0 0 0 []),6)))<|
  Option.bind (D0 b a) fun h=>
  Option.bind (D0 b a) fun i=>
  some (.inl ((b.set (a).toNat c.1),(A2 (a+1)))))<|
 Option.map Sum.inr (some ((D3.mk j.P j.Ay j.Now b),0))
def B2k (c:D3) (d:Int) (b:List C5) (a:Int):Option (D3×Int):=
 loop (fun (s:((List C5)×Int))=>A3e c d s.1 s.2) (b,a)
def A8d (b:D3) (c:Int):Option (D3×Int):=
 Option.bind (A1Z b) fun a=>
 cond (a !=0) (
  some ((D3.mk 0 0 0 []),a))<|
 cond ((decide (c<0))||(decide (c>4096))) (
  some ((D3.mk 0 0 0 []),4))<|
 ck (decide (0<=(b.Ae.length:Int)/\(b.Ae.length:Int)<=(b.Ae.length:Int)/\(b.Ae.length:Int)*16<=140737488355328/\(b.Ae.length:Int)<=140737488355328))<|
 B2k b c (List.replicate ((b.Ae.length:Int)).toNat (C5.mk 0 0)) 0
def A4B (e:B6) (f:Int):Option (B6×Int):=
 Option.bind (X7 e) fun a=>
 cond (a !=0) (
  some ((B6.mk 0 0 0 0 []),a))<|
 cond ((decide (f<(-4096:Int)))||(decide (f>4096))) (
  some ((B6.mk 0 0 0 0 []),4))<|
 Option.bind (A2X e.Ag) fun c=>
 cond (c==e.Cap) (
  some ((B6.mk 0 0 0 0 []),5))<|
 Option.bind (A3T e.K e.Cap) fun d=>
 Option.bind (A6f e.Ag (A2 (2*e.K)) d e.Now f) fun b=>
 some ((B6.mk e.W e.K e.Cap e.Now b),0)
def A5b (c:C4) (d:Int):Option (C4×Int):=
 Option.bind (X0 c) fun a=>
 cond (a !=0) (
  some ((C4.mk 0 0 0 []),a))<|
 let b:=(A7z d);
 cond (!b) (
  some ((C4.mk 0 0 0 []),4))<|
 cond ((c.Ar.length:Int)==c.Cap) (
  some ((C4.mk 0 0 0 []),5))<|
 ck (decide (0<=(c.Ar.length:Int)/\(c.Ar.length:Int)=(c.Ar.length:Int)/\(c.Ar.length:Int)<=(c.Ar.length:Int)))<|
 ck (decide ([(A9.mk c.Now d)]≠ []/\((c.Ar.take ((c.Ar.length:Int)).toNat).length+ [(A9.mk c.Now d)].length)*16<=140737488355328))<|
 some ((C4.mk c.W c.Cap c.Now ((c.Ar.take ((c.Ar.length:Int)).toNat)++ [(A9.mk c.Now d)])),0)
def V7 (f:D6) (h:Int) (g:List Int) (d c:Int) (a:List A5):Option ((Int×Int×(List A5))⊕(D6×Int)):=
 cond (decide (c<(f.Ah.length:Int))) (
  Option.bind (D0 f.Ah c) fun e=>
  Option.bind (A6Z e h g d) fun b=>
  cond (b.2.2 !=0) (
   some (.inr ((D6.mk []),b.2.2)))<|
  ck (decide ((a.length+ [b.1].length)*56<=140737488355328))<|
  some (.inl (b.2.1,(A2 (c+1)),(a++ [b.1]))))<|
 Option.map Sum.inr (cond (decide (d<(g.length:Int))) (
  some ((D6.mk []),8))<|
 some ((D6.mk a),0))
def A6w (d:D6) (e:Int) (f:List Int) (b c:Int) (a:List A5):Option (D6×Int):=
 loop (fun (s:(Int×Int×(List A5)))=>V7 d e f s.1 s.2.1 s.2.2) (b,c,a)
def B0o (b:D6) (c:Int) (d:List Int):Option (D6×Int):=
 Option.bind (M0 b) fun a=>
 cond (a !=0) (
  some ((D6.mk []),a))<|
 A6w b c d 0 0 ([]:List A5)
def A3R (e:List A4) (f g d:Int) (b:List A4) (c:Int):Option (((List A4)×Int)⊕(List A4)):=
 cond (decide (c<(e.length:Int))) (
  Option.bind (D0 e c) fun a=>
  ck (decide ((b.length+ [(A4.mk a.Bg a.T (A2 (a.N+1)) (A2 (a.S+d)) (A2 (a.Q+(A2 (d*d)))) (L5 a.Bf d) (P8 a.Be d))].length)*56<=140737488355328))<|
  some (.inl ((b++ [(A4.mk a.Bg a.T (A2 (a.N+1)) (A2 (a.S+d)) (A2 (a.Q+(A2 (d*d)))) (L5 a.Bf d) (P8 a.Be d))]),(A2 (c+1)))))<|
 Option.map Sum.inr (ck (decide ((b.length+ [(A4.mk f g 1 d (A2 (d*d)) d d)].length)*56<=140737488355328))<|
 some (b++ [(A4.mk f g 1 d (A2 (d*d)) d d)]))
def B5b (c:List A4) (d e f:Int) (b:List A4) (a:Int):Option (List A4):=
 loop (fun (s:((List A4)×Int))=>A3R c d e f s.1 s.2) (b,a)
def A4y (a:List A4) (b c d:Int):Option (List A4):=
 B5b a b c d ([]:List A4) 0
def A7H (i j:A4) (b d c e f g:Int) (h:List A4):Bool:=
 let a:=(F7 i j b c);
 a
def A2g (o:List A4) (h i j k l m:Int) (n:List A4) (c:A4) (d:List A4) (b a:Int):Option (Int⊕(((List A4)×Int)⊕(List A4))):=
 cond (decide (a>b)) (
  Option.bind (D0 o b) fun e=>
  Option.bind (D0 o a) fun f=>
  let g:=(A7H e f h i j k l m n);
  cond g (
   Option.map Sum.inr (some (.inl ((d++ [c]),a))))<|
  some (.inl (A2 (a-1))))<|
 Option.map Sum.inr (some (.inl ((d++ [c]),(A2 (b+1)))))
def A9P (l:List A4) (e f g h i j:Int) (k:List A4) (a:A4) (b:List A4) (c d:Int):Option (((List A4)×Int)⊕(List A4)):=
 loop (fun (s:Int)=>A2g l e f g h i j k a b c s) d
def A0o (d:List A4) (e f g h i j:Int) (k a:List A4) (b:Int):Option (((List A4)×Int)⊕(List A4)):=
 cond (decide (b<(d.length:Int))) (
  Option.bind (D0 d b) fun c=>
  ck (decide ((a.length+ [c].length)*56<=140737488355328))<|
  A9P d e f g h i j k c a b (A2 ((d.length:Int)-(1:Int))))<|
 Option.map Sum.inr (some a)
def A9O (j:List A4) (c d e f g h:Int) (i a:List A4) (b:Int):Option (List A4):=
 loop (fun (s:((List A4)×Int))=>A0o j c d e f g h i s.1 s.2) (a,b)
def A28 (h:List A4) (a b c d e f:Int) (g:List A4):Option (List A4):=
 A9O h a b c d e f g ([]:List A4) 0
def A5z (f:B9) (g:Int):Option (B9×Int):=
 Option.bind (A0Q (B9.mk f.Bd f.W f.K f.Cap f.Now f.Bg f.Av)) fun a=>
 cond (a !=0) (
  some ((B9.mk 0 0 0 0 0 0 []),a))<|
 let b:=(F5 f.Bd);
 cond ((decide (g<b))||(decide (g>4096))) (
  some ((B9.mk 0 0 0 0 0 0 []),4))<|
 Option.bind (gd (decide ((f.Av.length:Int)>(0:Int))) (D0 f.Av 0)) fun c=>
 cond (((decide ((f.Av.length:Int)>(0:Int)))&&(c.N==f.Cap))||(f.Bg==1099511627776)) (
  some ((B9.mk 0 0 0 0 0 0 []),5))<|
 Option.bind (A4y f.Av (A2 (f.Bg+1)) f.Now g) fun d=>
 Option.bind (A28 d f.Bd f.W f.K f.Cap f.Now (A2 (f.Bg+1)) f.Av) fun e=>
 some ((B9.mk f.Bd f.W f.K f.Cap f.Now (A2 (f.Bg+1)) e),0)
def A7K (h i:A4) (c b d e f:Int) (g:List A4):Option Bool:=
 Option.bind (A4K h i b) fun a=>
 some a
def A2h (n:List A4) (h i j k l:Int) (m:List A4) (c:A4) (d:List A4) (b a:Int):Option (Int⊕(((List A4)×Int)⊕(List A4))):=
 cond (decide (a>b)) (
  Option.bind (D0 n b) fun e=>
  Option.bind (D0 n a) fun f=>
  Option.bind (A7K e f h i j k l m) fun g=>
  cond g (
   Option.map Sum.inr (some (.inl ((d++ [c]),a))))<|
  some (.inl (A2 (a-1))))<|
 Option.map Sum.inr (some (.inl ((d++ [c]),(A2 (b+1)))))
def A9R (k:List A4) (e f g h i:Int) (j:List A4) (a:A4) (b:List A4) (c d:Int):Option (((List A4)×Int)⊕(List A4)):=
 loop (fun (s:Int)=>A2h k e f g h i j a b c s) d
def A0p (d:List A4) (e f g h i:Int) (j a:List A4) (b:Int):Option (((List A4)×Int)⊕(List A4)):=
 cond (decide (b<(d.length:Int))) (
  Option.bind (D0 d b) fun c=>
  ck (decide ((a.length+ [c].length)*56<=140737488355328))<|
  A9R d e f g h i j c a b (A2 ((d.length:Int)-(1:Int))))<|
 Option.map Sum.inr (some a)
def A9Q (i:List A4) (c d e f g:Int) (h a:List A4) (b:Int):Option (List A4):=
 loop (fun (s:((List A4)×Int))=>A0p i c d e f g h s.1 s.2) (a,b)
def A29 (g:List A4) (a b c d e:Int) (f:List A4):Option (List A4):=
 A9Q g a b c d e f ([]:List A4) 0
def A7J (e:C2) (f:Int):Option (C2×Int):=
 Option.bind (A0R (C2.mk e.W e.K e.Cap e.Now e.Bg e.Av)) fun a=>
 cond (a !=0) (
  some ((C2.mk 0 0 0 0 0 []),a))<|
 cond ((decide (f<(-4096:Int)))||(decide (f>4096))) (
  some ((C2.mk 0 0 0 0 0 []),4))<|
 Option.bind (gd (decide ((e.Av.length:Int)>(0:Int))) (D0 e.Av 0)) fun b=>
 cond (((decide ((e.Av.length:Int)>(0:Int)))&&(b.N==e.Cap))||(e.Bg==1099511627776)) (
  some ((C2.mk 0 0 0 0 0 []),5))<|
 Option.bind (A4y e.Av (A2 (e.Bg+1)) e.Now f) fun c=>
 Option.bind (A29 c e.W e.K e.Cap e.Now (A2 (e.Bg+1)) e.Av) fun d=>
 some ((C2.mk e.W e.K e.Cap e.Now (A2 (e.Bg+1)) d),0)
def B0z (d:D8) (e:Int):Option (D8×Int):=
 Option.bind (A3o d) fun a=>
 cond (a !=0) (
  some ((D8.mk 0 0 0 0 0 []),a))<|
 cond ((decide (e<0))||(decide (e>d.Be))) (
  some ((D8.mk 0 0 0 0 0 []),4))<|
 Option.bind (T0 d.Ab) fun b=>
 cond (decide (b>(A2 (d.Cap-e)))) (
  some ((D8.mk 0 0 0 0 0 []),5))<|
 Option.bind (A17 d.Ab d.K d.Now e) fun c=>
 some ((D8.mk d.W d.K d.Cap d.Be d.Now c),0)
def Q2 (m:Int) (c:List D4) (a:Int):Option (((List D4)×Int)⊕(List D4)):=
 cond (decide (a>=1)) (
  Option.bind (D0 c (A2 (a+1))) fun i=>
  Option.bind (D0 c (A2 (a+1))) fun f=>
  Option.bind (D0 c a) fun j=>
  Option.bind (D0 c a) fun g=>
  cond (decide ((A2 ((A2 (g.G+f.G))+f.D))<=m)) (
   Option.bind (D0 c (A2 (a+1))) fun k=>
   Option.bind (D0 c (A2 (a+1))) fun e=>
   Option.bind (D0 c a) fun l=>
   Option.bind (D0 c a) fun d=>
   Option.bind (D0 c (A2 (a+1))) fun h=>
   Option.bind (D0 c (A2 (a+1))) fun b=>
   ck (decide (0<=a/\a<=((c.set ((A2 (a+(1:Int)))).toNat (D4.mk b.V (A2 (e.G+d.G)) b.D)).length:Int)))<|
   ck (decide (0<=(A2 (a+1))/\(A2 (a+1))<=((c.set ((A2 (a+(1:Int)))).toNat (D4.mk b.V (A2 (e.G+d.G)) b.D)).length:Int)))<|
   ck (decide (0<(a).toNat/\(a).toNat+(((c.set ((A2 (a+(1:Int)))).toNat (D4.mk b.V (A2 (e.G+d.G)) b.D)).drop ((A2 (a+(1:Int)))).toNat).take ((c.set ((A2 (a+(1:Int)))).toNat (D4.mk b.V (A2 (e.G+d.G)) b.D)).length-((A2 (a+(1:Int)))).toNat)).length<=(c.set ((A2 (a+(1:Int)))).toNat (D4.mk b.V (A2 (e.G+d.G)) b.D)).length))<|
   some (.inl (((c.set ((A2 (a+(1:Int)))).toNat (D4.mk b.V (A2 (e.G+d.G)) b.D)).take (a).toNat++(((c.set ((A2 (a+(1:Int)))).toNat (D4.mk b.V (A2 (e.G+d.G)) b.D)).drop ((A2 (a+(1:Int)))).toNat).take ((c.set ((A2 (a+(1:Int)))).toNat (D4.mk b.V (A2 (e.G+d.G)) b.D)).length-((A2 (a+(1:Int)))).toNat))),(A2 (a-1)))))<|
  some (.inl (c,(A2 (a-1)))))<|
 Option.map Sum.inr (some c)
def R3 (c:Int) (a:List D4) (b:Int):Option (List D4):=
 loop (fun (s:((List D4)×Int))=>Q2 c s.1 s.2) (a,b)
def A1O (a:List D4) (b:Int):Option (List D4):=
 R3 b a (A2 ((a.length:Int)-(2:Int)))
def X9 (b:B7) (a:List D4):Option (B7×Int):=
 cond (decide ((a.length:Int)>b.Cap)) (
  some ((B7.mk 0 0 0 []),5))<|
 some ((B7.mk b.K b.Cap (A2 (b.N+1)) a),0)
def A04 (e:B7) (f a b:Int):Option (B7×Int):=
 ck (decide (0<=a/\a<=(e.Ao.length:Int)))<|
 ck (decide ((([]:List D4).length+(e.Ao.take (a).toNat).length)*24<=140737488355328))<|
 ck (decide (((([]:List D4)++(e.Ao.take (a).toNat)).length+ [(D4.mk f 1 b)].length)*24<=140737488355328))<|
 ck (decide (0<=a/\a<=(e.Ao.length:Int)))<|
 ck (decide ((((([]:List D4)++(e.Ao.take (a).toNat))++ [(D4.mk f 1 b)]).length+(e.Ao.drop (a).toNat).length)*24<=140737488355328))<|
 cond (decide (((((([]:List D4)++(e.Ao.take (a).toNat))++ [(D4.mk f 1 b)])++(e.Ao.drop (a).toNat)).length:Int)>e.Cap)) (
  Option.bind (A4M (A2 (e.N+1)) e.K) fun c=>
  Option.bind (A1O (((([]:List D4)++(e.Ao.take (a).toNat))++ [(D4.mk f 1 b)])++(e.Ao.drop (a).toNat)) c) fun d=>
  X9 e d)<|
 X9 e (((([]:List D4)++(e.Ao.take (a).toNat))++ [(D4.mk f 1 b)])++(e.Ao.drop (a).toNat))
def A0w (e:B7) (f a:Int):Option (Int⊕(B7×Int)):=
 Option.bind (gd (decide (a<(e.Ao.length:Int))) (D0 e.Ao a)) fun d=>
 cond ((decide (a<(e.Ao.length:Int)))&&(decide (d.V<=f))) (
  some (.inl (A2 (a+1))))<|
 Option.map Sum.inr (cond ((decide (a>0))&&(decide (a<(e.Ao.length:Int)))) (
  Option.bind (D0 e.Ao a) fun b=>
  Option.bind (D0 e.Ao a) fun c=>
  A04 e f a (A2 ((A2 (b.G+c.D))-1)))<|
 A04 e f a 0)
def A5V (b:B7) (c a:Int):Option (B7×Int):=
 loop (fun (s:Int)=>A0w b c s) a
def A3p (b:B7) (c:Int):Option (B7×Int):=
 Option.bind (A1E b) fun a=>
 cond (a !=0) (
  some ((B7.mk 0 0 0 []),a))<|
 cond ((decide (c<(-4096:Int)))||(decide (c>4096))) (
  some ((B7.mk 0 0 0 []),4))<|
 cond (b.N==1099511627776) (
  some ((B7.mk 0 0 0 []),5))<|
 A5V b c 0
def A0f (n:B3) (i:C4) (a:D2) (b:D8) (c:B9) (d:C2) (e:D3) (j:Int) (k:List Int) (f:B4) (l:List A5) (g:B7) (h:B6) (m:Int):Option (B3×Int):=
 cond (m !=0) (
  some ((B3.mk (C9.mk 0 0 0 0 0 0 0 0) (C4.mk 0 0 0 []) (D2.mk 0 0 0 0 []) (D8.mk 0 0 0 0 0 []) (B9.mk 0 0 0 0 0 0 []) (C2.mk 0 0 0 0 0 []) (D3.mk 0 0 0 []) (E3.mk 0 []) (B4.mk false 0 0 0 []) (D6.mk []) (B7.mk 0 0 0 []) (B6.mk 0 0 0 0 [])),m))<|
 some ((B3.mk n.Ai i a b c d e (E3.mk j k) f (D6.mk l) g h),0)
def I7 (n:B3) (o:List Int) (m:Int) (i:C4) (a:D2) (b:D8) (c:B9) (d:C2) (e:D3) (j:Int) (k:List Int) (f:B4) (l:List A5) (g:B7) (h:B6):Option (B3×Int):=
 cond (((m==0)&&(n.Ai.Ax !=9))&&(decide ((o.length:Int)>(0:Int)))) (
  A0f n i a b c d e j k f l g h 8)<|
 A0f n i a b c d e j k f l g h m
def F6 (m:B3) (o:Int) (n:List Int):Option (B3×Int):=
 Option.bind (M6 m) fun b=>
 cond (b !=0) (
  some ((B3.mk (C9.mk 0 0 0 0 0 0 0 0) (C4.mk 0 0 0 []) (D2.mk 0 0 0 0 []) (D8.mk 0 0 0 0 0 []) (B9.mk 0 0 0 0 0 0 []) (C2.mk 0 0 0 0 0 []) (D3.mk 0 0 0 []) (E3.mk 0 []) (B4.mk false 0 0 0 []) (D6.mk []) (B7.mk 0 0 0 []) (B6.mk 0 0 0 0 [])),b))<|
 cond (m.Ai.Ax==1) (
  Option.bind (A5b m.Aj o) fun l=>
  I7 m n l.2 l.1 m.Ap m.Sum m.Al m.Am m.Bb m.Aq.Now m.Aq.Bc m.Ad m.Ak.Ah m.Af m.Aa)<|
 cond (m.Ai.Ax==2) (
  cond ((decide (o<(-4096:Int)))||(decide (o>4096))) (
   some ((B3.mk (C9.mk 0 0 0 0 0 0 0 0) (C4.mk 0 0 0 []) (D2.mk 0 0 0 0 []) (D8.mk 0 0 0 0 0 []) (B9.mk 0 0 0 0 0 0 []) (C2.mk 0 0 0 0 0 []) (D3.mk 0 0 0 []) (E3.mk 0 []) (B4.mk false 0 0 0 []) (D6.mk []) (B7.mk 0 0 0 []) (B6.mk 0 0 0 0 [])),4))<|
  Option.bind (A87 m.Ap) fun c=>
  I7 m n c.2 m.Aj c.1 m.Sum m.Al m.Am m.Bb m.Aq.Now m.Aq.Bc m.Ad m.Ak.Ah m.Af m.Aa)<|
 cond (m.Ai.Ax==3) (
  Option.bind (B0z m.Sum o) fun d=>
  I7 m n d.2 m.Aj m.Ap d.1 m.Al m.Am m.Bb m.Aq.Now m.Aq.Bc m.Ad m.Ak.Ah m.Af m.Aa)<|
 cond (m.Ai.Ax==4) (
  Option.bind (A5z m.Al o) fun e=>
  I7 m n e.2 m.Aj m.Ap m.Sum e.1 m.Am m.Bb m.Aq.Now m.Aq.Bc m.Ad m.Ak.Ah m.Af m.Aa)<|
 cond (m.Ai.Ax==5) (
  Option.bind (A7J m.Am o) fun f=>
  I7 m n f.2 m.Aj m.Ap m.Sum m.Al f.1 m.Bb m.Aq.Now m.Aq.Bc m.Ad m.Ak.Ah m.Af m.Aa)<|
 cond (m.Ai.Ax==6) (
  Option.bind (A8d m.Bb o) fun g=>
  I7 m n g.2 m.Aj m.Ap m.Sum m.Al m.Am g.1 m.Aq.Now m.Aq.Bc m.Ad m.Ak.Ah m.Af m.Aa)<|
 cond (m.Ai.Ax==7) (
  Option.bind (A65 m.Aq o) fun a=>
  I7 m n a.2 m.Aj m.Ap m.Sum m.Al m.Am m.Bb a.1.Now a.1.Bc m.Ad m.Ak.Ah m.Af m.Aa)<|
 cond (m.Ai.Ax==8) (
  Option.bind (A53 m.Ad o) fun h=>
  I7 m n h.2 m.Aj m.Ap m.Sum m.Al m.Am m.Bb m.Aq.Now m.Aq.Bc h.1 m.Ak.Ah m.Af m.Aa)<|
 cond (m.Ai.Ax==9) (
  Option.bind (B0o m.Ak o n) fun i=>
  I7 m n i.2 m.Aj m.Ap m.Sum m.Al m.Am m.Bb m.Aq.Now m.Aq.Bc m.Ad i.1.Ah m.Af m.Aa)<|
 cond (m.Ai.Ax==10) (
  Option.bind (A3p m.Af o) fun j=>
  I7 m n j.2 m.Aj m.Ap m.Sum m.Al m.Am m.Bb m.Aq.Now m.Aq.Bc m.Ad m.Ak.Ah j.1 m.Aa)<|
 cond (m.Ai.Ax==11) (
  Option.bind (A4B m.Aa o) fun k=>
  I7 m n k.2 m.Aj m.Ap m.Sum m.Al m.Am m.Bb m.Aq.Now m.Aq.Bc m.Ad m.Ak.Ah m.Af k.1)<|
 I7 m n b m.Aj m.Ap m.Sum m.Al m.Am m.Bb m.Aq.Now m.Aq.Bc m.Ad m.Ak.Ah m.Af m.Aa
def A7w (c:D3) (d:Int):Option (D3×Int):=
 Option.bind (A1Z c) fun a=>
 cond (a !=0) (
  some ((D3.mk 0 0 0 []),a))<|
 let b:=(O8 c.Now d);
 cond (b.2 !=0) (
  some ((D3.mk 0 0 0 []),b.2))<|
 ck (decide ((([]:List C5).length+c.Ae.length)*16<=140737488355328))<|
 some ((D3.mk c.P c.Ay d (([]:List C5)++c.Ae)),0)
def A3I (e:B6) (f:Int):Option (B6×Int):=
 Option.bind (X7 e) fun a=>
 cond (a !=0) (
  some ((B6.mk 0 0 0 0 []),a))<|
 let b:=(O8 e.Now f);
 cond (b.2 !=0) (
  some ((B6.mk 0 0 0 0 []),b.2))<|
 let c:=(U3 f e.W);
 Option.bind (A6e e.Ag c) fun d=>
 some ((B6.mk e.W e.K e.Cap f d),0)
def A5c (d:C4) (e:Int):Option (C4×Int):=
 Option.bind (X0 d) fun a=>
 cond (a !=0) (
  some ((C4.mk 0 0 0 []),a))<|
 let b:=(O8 d.Now e);
 cond (b.2 !=0) (
  some ((C4.mk 0 0 0 []),b.2))<|
 Option.bind (A93 d.Ar e d.W) fun c=>
 some ((C4.mk d.W d.Cap e c),0)
def A2O (f g:Int) (a:List A4):Option ((List A4)⊕(List A4)):=
 Option.bind (gd (decide ((a.length:Int)>(1:Int))) (D0 a 1)) fun d=>
 let b:=(L9 f g d.T);
 cond ((decide ((a.length:Int)>(1:Int)))&&(!b)) (
  ck (decide (0<=(1:Int)/\1<=(a.length:Int)))<|
  some (.inl (a.drop ((1:Int)).toNat)))<|
 Option.map Sum.inr (Option.bind (gd ((a.length:Int)==(1:Int)) (D0 a 0)) fun e=>
 let c:=(L9 f g e.T);
 cond (((a.length:Int)==(1:Int))&&(!c)) (
  some [])<|
 ck (decide ((([]:List A4).length+a.length)*56<=140737488355328))<|
 some (([]:List A4)++a))
def A1A (b c:Int) (a:List A4):Option (List A4):=
 loop (fun (s:(List A4))=>A2O b c s) a
def A3S (a:List A4) (b c:Int):Option (List A4):=
 A1A b c a
def A5A (d:B9) (e:Int):Option (B9×Int):=
 Option.bind (A0Q d) fun a=>
 cond (a !=0) (
  some ((B9.mk 0 0 0 0 0 0 []),a))<|
 let b:=(O8 d.Now e);
 cond (b.2 !=0) (
  some ((B9.mk 0 0 0 0 0 0 []),b.2))<|
 Option.bind (A3S d.Av e d.W) fun c=>
 some ((B9.mk d.Bd d.W d.K d.Cap e d.Bg c),0)
def A5C (d:C2) (e:Int):Option (C2×Int):=
 Option.bind (A0R d) fun a=>
 cond (a !=0) (
  some ((C2.mk 0 0 0 0 0 []),a))<|
 let b:=(O8 d.Now e);
 cond (b.2 !=0) (
  some ((C2.mk 0 0 0 0 0 []),b.2))<|
 Option.bind (A3S d.Av e d.W) fun c=>
 some ((C2.mk d.W d.K d.Cap e d.Bg c),0)
def A8Y (e:D8) (f:Int):Option (D8×Int):=
 Option.bind (A3o e) fun a=>
 cond (a !=0) (
  some ((D8.mk 0 0 0 0 0 []),a))<|
 let b:=(O8 e.Now f);
 cond (b.2 !=0) (
  some ((D8.mk 0 0 0 0 0 []),b.2))<|
 let c:=(U3 f e.W);
 Option.bind (A2Z e.Ab c) fun d=>
 some ((D8.mk e.W e.K e.Cap e.Be f d),0)
def K0 (l:B3) (k:Int) (h:C4) (a:D2) (b:D8) (c:B9) (d:C2) (e:D3) (i:Int) (j:List Int) (f:B4) (g:B6):Option (B3×Int):=
 cond (k !=0) (
  some ((B3.mk (C9.mk 0 0 0 0 0 0 0 0) (C4.mk 0 0 0 []) (D2.mk 0 0 0 0 []) (D8.mk 0 0 0 0 0 []) (B9.mk 0 0 0 0 0 0 []) (C2.mk 0 0 0 0 0 []) (D3.mk 0 0 0 []) (E3.mk 0 []) (B4.mk false 0 0 0 []) (D6.mk []) (B7.mk 0 0 0 []) (B6.mk 0 0 0 0 [])),k))<|
 some ((B3.mk l.Ai h a b c d e (E3.mk i j) f l.Ak l.Af g),0)
def J7 (l:B3) (m:Int):Option (B3×Int):=
 Option.bind (M6 l) fun b=>
 cond (b !=0) (
  some ((B3.mk (C9.mk 0 0 0 0 0 0 0 0) (C4.mk 0 0 0 []) (D2.mk 0 0 0 0 []) (D8.mk 0 0 0 0 0 []) (B9.mk 0 0 0 0 0 0 []) (C2.mk 0 0 0 0 0 []) (D3.mk 0 0 0 []) (E3.mk 0 []) (B4.mk false 0 0 0 []) (D6.mk []) (B7.mk 0 0 0 []) (B6.mk 0 0 0 0 [])),b))<|
 cond (l.Ai.Ax==1) (
  Option.bind (A5c l.Aj m) fun j=>
  K0 l j.2 j.1 l.Ap l.Sum l.Al l.Am l.Bb l.Aq.Now l.Aq.Bc l.Ad l.Aa)<|
 cond (l.Ai.Ax==2) (
  Option.bind (A6g l.Ap m) fun c=>
  K0 l c.2 l.Aj c.1 l.Sum l.Al l.Am l.Bb l.Aq.Now l.Aq.Bc l.Ad l.Aa)<|
 cond (l.Ai.Ax==3) (
  Option.bind (A8Y l.Sum m) fun d=>
  K0 l d.2 l.Aj l.Ap d.1 l.Al l.Am l.Bb l.Aq.Now l.Aq.Bc l.Ad l.Aa)<|
 cond (l.Ai.Ax==4) (
  Option.bind (A5A l.Al m) fun e=>
  K0 l e.2 l.Aj l.Ap l.Sum e.1 l.Am l.Bb l.Aq.Now l.Aq.Bc l.Ad l.Aa)<|
 cond (l.Ai.Ax==5) (
  Option.bind (A5C l.Am m) fun f=>
  K0 l f.2 l.Aj l.Ap l.Sum l.Al f.1 l.Bb l.Aq.Now l.Aq.Bc l.Ad l.Aa)<|
 cond (l.Ai.Ax==6) (
  Option.bind (A7w l.Bb m) fun g=>
  K0 l g.2 l.Aj l.Ap l.Sum l.Al l.Am g.1 l.Aq.Now l.Aq.Bc l.Ad l.Aa)<|
 cond (l.Ai.Ax==7) (
  Option.bind (A6l l.Aq m) fun a=>
  K0 l a.2 l.Aj l.Ap l.Sum l.Al l.Am l.Bb a.1.Now a.1.Bc l.Ad l.Aa)<|
 cond (l.Ai.Ax==8) (
  Option.bind (A4c l.Ad m) fun h=>
  K0 l h.2 l.Aj l.Ap l.Sum l.Al l.Am l.Bb l.Aq.Now l.Aq.Bc h.1 l.Aa)<|
 cond (l.Ai.Ax==11) (
  Option.bind (A3I l.Aa m) fun i=>
  K0 l i.2 l.Aj l.Ap l.Sum l.Al l.Am l.Bb l.Aq.Now l.Aq.Bc l.Ad i.1)<|
 let k:=(Y6 m);
 cond (!k) (
  K0 l 3 l.Aj l.Ap l.Sum l.Al l.Am l.Bb l.Aq.Now l.Aq.Bc l.Ad l.Aa)<|
 K0 l b l.Aj l.Ap l.Sum l.Al l.Am l.Bb l.Aq.Now l.Aq.Bc l.Ad l.Aa
def A0e (f:D6) (g:Int) (h:List Int) (c a:Int):Option ((Int×Int)⊕(Int×Bool)):=
 cond (decide (a<(f.Ah.length:Int))) (
  Option.bind (D0 f.Ah a) fun d=>
  Option.bind (A51 d g h c) fun e=>
  cond e.2 (
   some (.inr (e.1,true)))<|
  Option.bind (A6Z d g h c) fun b=>
  cond (b.2.2 !=0) (
   some (.inr (0,false)))<|
  some (.inl (b.2.1,(A2 (a+1)))))<|
 Option.map Sum.inr (some (0,false))
def A4i (c:D6) (d:Int) (e:List Int) (b a:Int):Option (Int×Bool):=
 loop (fun (s:(Int×Int))=>A0e c d e s.1 s.2) (b,a)
def A7G (b:D6) (c:Int) (d:List Int):Option (Int×Bool):=
 Option.bind (M0 b) fun a=>
 cond (a !=0) (
  some (0,false))<|
 A4i b c d 0 0
def A1t (c:B3) (d:Int) (e:List Int):Option (Int×Bool):=
 Option.bind (gd (!(c.Ai.Ax !=9)) (M6 c)) fun b=>
 cond ((c.Ai.Ax !=9)||(b !=0)) (
  some (0,false))<|
 Option.bind (A7G c.Ak d e) fun a=>
 some (a.1,a.2)
def L8 (h:C9) (e:Int) (c:List Int) (d:Int) (a:B3):Option ((Int×Int×Int×Int×Int×Int×Int×Int×Int×Int×Int×Int×(List A9)×Int×Int×Int×Int×(List A3)×Int×Int×Int×Int×Int×(List A3)×Int×Int×Int×Int×Int×Int×(List A4)×Int×Int×Int×Int×Int×(List A4)×Int×Int×Int×(List C5)×Int×(List Int)×Bool×Int×Int×Int×(List A9)×(List A5)×Int×Int×Int×(List D4)×Int×Int×Int×Int×(List A6)×(List Int)×Int)⊕Bool):=
 Option.bind (M6 a) fun b=>
 Option.bind (gd (!(b !=0)) (S9 a)) fun f=>
 Option.bind (gd (!(b !=0)) (N4 h)) fun g=>
 cond ((b !=0)||(decide (f>g))) (
  some (.inr false))<|
 some (.inl ((A2 (e+1)),a.Ai.Ax,a.Ai.Bd,a.Ai.W,a.Ai.K,a.Ai.Cap,a.Ai.P,a.Ai.Ah,a.Ai.Be,a.Aj.W,a.Aj.Cap,a.Aj.Now,a.Aj.Ar,a.Ap.W,a.Ap.K,a.Ap.Cap,a.Ap.Now,a.Ap.Ab,a.Sum.W,a.Sum.K,a.Sum.Cap,a.Sum.Be,a.Sum.Now,a.Sum.Ab,a.Al.Bd,a.Al.W,a.Al.K,a.Al.Cap,a.Al.Now,a.Al.Bg,a.Al.Av,a.Am.W,a.Am.K,a.Am.Cap,a.Am.Now,a.Am.Bg,a.Am.Av,a.Bb.P,a.Bb.Ay,a.Bb.Now,a.Bb.Ae,a.Aq.Now,a.Aq.Bc,a.Ad.Be,a.Ad.W,a.Ad.Cap,a.Ad.Now,a.Ad.Ar,a.Ak.Ah,a.Af.K,a.Af.Cap,a.Af.N,a.Af.Ao,a.Aa.W,a.Aa.K,a.Aa.Cap,a.Aa.Now,a.Aa.Ag,c,d))
def P9 (e:C9) (i:A9) (f:B3×Int) (d:Int) (h b:List Int) (c:Int):Option ((Int×Int×Int×Int×Int×Int×Int×Int×Int×Int×Int×Int×(List A9)×Int×Int×Int×Int×(List A3)×Int×Int×Int×Int×Int×(List A3)×Int×Int×Int×Int×Int×Int×(List A4)×Int×Int×Int×Int×Int×(List A4)×Int×Int×Int×(List C5)×Int×(List Int)×Bool×Int×Int×Int×(List A9)×(List A5)×Int×Int×Int×(List D4)×Int×Int×Int×Int×(List A6)×(List Int)×Int)⊕Bool):=
 Option.bind (F6 f.1 i.V h) fun a=>
 cond (a.2==0) (
  L8 e d b c a.1)<|
 Option.bind (gd (!(((a.2==8)||(a.2==2))||(a.2==1))) (A2z a.1 (B3.mk (C9.mk 0 0 0 0 0 0 0 0) (C4.mk 0 0 0 []) (D2.mk 0 0 0 0 []) (D8.mk 0 0 0 0 0 []) (B9.mk 0 0 0 0 0 0 []) (C2.mk 0 0 0 0 0 []) (D3.mk 0 0 0 []) (E3.mk 0 []) (B4.mk false 0 0 0 []) (D6.mk []) (B7.mk 0 0 0 []) (B6.mk 0 0 0 0 [])))) fun g=>
 cond ((((a.2==8)||(a.2==2))||(a.2==1))||(!g)) (
  some (.inr false))<|
 L8 e d b c f.1
def U6 (i:C9) (f:A9) (g:B3×Int) (h:Int) (c a:List Int) (b:Int):Option (((List Int)×(List Int)×Int)⊕((Int×Int×Int×Int×Int×Int×Int×Int×Int×Int×Int×Int×(List A9)×Int×Int×Int×Int×(List A3)×Int×Int×Int×Int×Int×(List A3)×Int×Int×Int×Int×Int×Int×(List A4)×Int×Int×Int×Int×Int×(List A4)×Int×Int×Int×(List C5)×Int×(List Int)×Bool×Int×Int×Int×(List A9)×(List A5)×Int×Int×Int×(List D4)×Int×Int×Int×Int×(List A6)×(List Int)×Int)⊕Bool)):=
 cond (decide ((c.length:Int)<(20:Int))) (
  Option.bind (A1t g.1 f.V c) fun e=>
  cond ((!e.2)||(decide (e.1<1))) (
   Option.map Sum.inr (P9 i f g h c a b))<|
  Option.bind (A44 (V5.mk a b) e.1) fun d=>
  ck (decide ((c.length+ [d.1].length)*8<=140737488355328))<|
  some (.inl ((c++ [d.1]),d.2.L,d.2.At)))<|
 Option.map Sum.inr (P9 i f g h c a b)
def S2 (e:C9) (f:A9) (g:B3×Int) (c:Int) (d a:List Int) (b:Int):Option ((Int×Int×Int×Int×Int×Int×Int×Int×Int×Int×Int×Int×(List A9)×Int×Int×Int×Int×(List A3)×Int×Int×Int×Int×Int×(List A3)×Int×Int×Int×Int×Int×Int×(List A4)×Int×Int×Int×Int×Int×(List A4)×Int×Int×Int×(List C5)×Int×(List Int)×Bool×Int×Int×Int×(List A9)×(List A5)×Int×Int×Int×(List D4)×Int×Int×Int×Int×(List A6)×(List Int)×Int)⊕Bool):=
 loop (fun (s:((List Int)×(List Int)×Int))=>U6 e f g c s.1 s.2.1 s.2.2) (d,a,b)
def Q9 (b3:C9) (a9:List A9) (a X Y Z a0 a1 a2 a3 a4 a5 a6 b:Int) (c:List A9) (d e f g:Int) (h:List A3) (i j k l m:Int) (n:List A3) (o p q r s t:Int) (u:List A4) (v w x y z:Int) (A:List A4) (B C D:Int) (E:List C5) (F:Int) (G:List Int) (H:Bool) (I J K:Int) (L:List A9) (M:List A5) (N O P:Int) (Q:List D4) (R S U V:Int) (W:List A6) (a7:List Int) (a8:Int):Option ((Int×Int×Int×Int×Int×Int×Int×Int×Int×Int×Int×Int×(List A9)×Int×Int×Int×Int×(List A3)×Int×Int×Int×Int×Int×(List A3)×Int×Int×Int×Int×Int×Int×(List A4)×Int×Int×Int×Int×Int×(List A4)×Int×Int×Int×(List C5)×Int×(List Int)×Bool×Int×Int×Int×(List A9)×(List A5)×Int×Int×Int×(List D4)×Int×Int×Int×Int×(List A6)×(List Int)×Int)⊕Bool):=
 cond (decide (a<(a9.length:Int))) (
  Option.bind (D0 a9 a) fun b0=>
  Option.bind (J7 (B3.mk (C9.mk X Y Z a0 a1 a2 a3 a4) (C4.mk a5 a6 b c) (D2.mk d e f g h) (D8.mk i j k l m n) (B9.mk o p q r s t u) (C2.mk v w x y z A) (D3.mk B C D E) (E3.mk F G) (B4.mk H I J K L) (D6.mk M) (B7.mk N O P Q) (B6.mk R S U V W)) b0.T) fun b1=>
  cond (b1.2 !=0) (
   some (.inr false))<|
  S2 b3 b0 b1 a ([]:List Int) a7 a8)<|
 Option.map Sum.inr (Option.bind A8M fun b2=>
 some b2)
def A68 (a9:C9) (b0:List A9) (a8 W X Y Z a0 a1 a2 a3 a4 a5 a:Int) (b:List A9) (c d e f:Int) (g:List A3) (h i j k l:Int) (m:List A3) (n o p q r t:Int) (u:List A4) (v w x y z:Int) (A:List A4) (B C D:Int) (E:List C5) (F:Int) (G:List Int) (H:Bool) (I J K:Int) (L:List A9) (M:List A5) (N O P:Int) (Q:List D4) (R S T U:Int) (V:List A6) (a6:List Int) (a7:Int):Option Bool:=
 loop (fun (s:(Int×Int×Int×Int×Int×Int×Int×Int×Int×Int×Int×Int×(List A9)×Int×Int×Int×Int×(List A3)×Int×Int×Int×Int×Int×(List A3)×Int×Int×Int×Int×Int×Int×(List A4)×Int×Int×Int×Int×Int×(List A4)×Int×Int×Int×(List C5)×Int×(List Int)×Bool×Int×Int×Int×(List A9)×(List A5)×Int×Int×Int×(List D4)×Int×Int×Int×Int×(List A6)×(List Int)×Int))=>Q9 a9 b0 s.1 s.2.1 s.2.2.1 s.2.2.2.1 s.2.2.2.2.1 s.2.2.2.2.2.1 s.2.2.2.2.2.2.1 s.2.2.2.2.2.2.2.1 s.2.2.2.2.2.2.2.2.1 s.2.2.2.2.2.2.2.2.2.1 s.2.2.2.2.2.2.2.2.2.2.1 s.2.2.2.2.2.2.2.2.2.2.2.1 s.2.2.2.2.2.2.2.2.2.2.2.2.1 s.2.2.2.2.2.2.2.2.2.2.2.2.2.1 s.2.2.2.2.2.2.2.2.2.2.2.2.2.2.1 s.2.2.2.2.2.2.2.2.2.2.2.2.2.2.2.1 s.2.2.2.2.2.2.2.2.2.2.2.2.2.2.2.2.1 s.2.2.2.2.2.2.2.2.2.2.2.2.2.2.2.2.2.1 s.2.2.2.2.2.2.2.2.2.2.2.2.2.2.2.2.2.2.1 s.2.2.2.2.2.2.2.2.2.2.2.2.2.2.2.2.2.2.2.1 s.2.2.2.2.2.2.2.2.2.2.2.2.2.2.2.2.2.2.2.2.1 s.2.2.2.2.2.2.2.2.2.2.2.2.2.2.2.2.2.2.2.2.2.1 s.2.2.2.2.2.2.2.2.2.2.2.2.2.2.2.2.2.2.2.2.2.2.1 s.2.2.2.2.2.2.2.2.2.2.2.2.2.2.2.2.2.2.2.2.2.2.2.1 s.2.2.2.2.2.2.2.2.2.2.2.2.2.2.2.2.2.2.2.2.2.2.2.2.1 s.2.2.2.2.2.2.2.2.2.2.2.2.2.2.2.2.2.2.2.2.2.2.2.2.2.1 s.2.2.2.2.2.2.2.2.2.2.2.2.2.2.2.2.2.2.2.2.2.2.2.2.2.2.1 s.2.2.2.2.2.2.2.2.2.2.2.2.2.2.2.2.2.2.2.2.2.2.2.2.2.2.2.1 s.2.2.2.2.2.2.2.2.2.2.2.2.2.2.2.2.2.2.2.2.2.2.2.2.2.2.2.2.1 s.2.2.2.2.2.2.2.2.2.2.2.2.2.2.2.2.2.2.2.2.2.2.2.2.2.2.2.2.2.1 s.2.2.2.2.2.2.2.2.2.2.2.2.2.2.2.2.2.2.2.2.2.2.2.2.2.2.2.2.2.2.1 s.2.2.2.2.2.2.2.2.2.2.2.2.2.2.2.2.2.2.2.2.2.2.2.2.2.2.2.2.2.2.2.1 s.2.2.2.2.2.2.2.2.2.2.2.2.2.2.2.2.2.2.2.2.2.2.2.2.2.2.2.2.2.2.2.2.1 s.2.2.2.2.2.2.2.2.2.2.2.2.2.2.2.2.2.2.2.2.2.2.2.2.2.2.2.2.2.2.2.2.2.1 s.2.2.2.2.2.2.2.2.2.2.2.2.2.2.2.2.2.2.2.2.2.2.2.2.2.2.2.2.2.2.2.2.2.2.1 s.2.2.2.2.2.2.2.2.2.2.2.2.2.2.2.2.2.2.2.2.2.2.2.2.2.2.2.2.2.2.2.2.2.2.2.1 s.2.2.2.2.2.2.2.2.2.2.2.2.2.2.2.2.2.2.2.2.2.2.2.2.2.2.2.2.2.2.2.2.2.2.2.2.1 s.2.2.2.2.2.2.2.2.2.2.2.2.2.2.2.2.2.2.2.2.2.2.2.2.2.2.2.2.2.2.2.2.2.2.2.2.2.1 s.2.2.2.2.2.2.2.2.2.2.2.2.2.2.2.2.2.2.2.2.2.2.2.2.2.2.2.2.2.2.2.2.2.2.2.2.2.2.1 s.2.2.2.2.2.2.2.2.2.2.2.2.2.2.2.2.2.2.2.2.2.2.2.2.2.2.2.2.2.2.2.2.2.2.2.2.2.2.2.1 s.2.2.2.2.2.2.2.2.2.2.2.2.2.2.2.2.2.2.2.2.2.2.2.2.2.2.2.2.2.2.2.2.2.2.2.2.2.2.2.2.1 s.2.2.2.2.2.2.2.2.2.2.2.2.2.2.2.2.2.2.2.2.2.2.2.2.2.2.2.2.2.2.2.2.2.2.2.2.2.2.2.2.2.1 s.2.2.2.2.2.2.2.2.2.2.2.2.2.2.2.2.2.2.2.2.2.2.2.2.2.2.2.2.2.2.2.2.2.2.2.2.2.2.2.2.2.2.1 s.2.2.2.2.2.2.2.2.2.2.2.2.2.2.2.2.2.2.2.2.2.2.2.2.2.2.2.2.2.2.2.2.2.2.2.2.2.2.2.2.2.2.2.1 s.2.2.2.2.2.2.2.2.2.2.2.2.2.2.2.2.2.2.2.2.2.2.2.2.2.2.2.2.2.2.2.2.2.2.2.2.2.2.2.2.2.2.2.2.1 s.2.2.2.2.2.2.2.2.2.2.2.2.2.2.2.2.2.2.2.2.2.2.2.2.2.2.2.2.2.2.2.2.2.2.2.2.2.2.2.2.2.2.2.2.2.1 s.2.2.2.2.2.2.2.2.2.2.2.2.2.2.2.2.2.2.2.2.2.2.2.2.2.2.2.2.2.2.2.2.2.2.2.2.2.2.2.2.2.2.2.2.2.2.1 s.2.2.2.2.2.2.2.2.2.2.2.2.2.2.2.2.2.2.2.2.2.2.2.2.2.2.2.2.2.2.2.2.2.2.2.2.2.2.2.2.2.2.2.2.2.2.2.1 s.2.2.2.2.2.2.2.2.2.2.2.2.2.2.2.2.2.2.2.2.2.2.2.2.2.2.2.2.2.2.2.2.2.2.2.2.2.2.2.2.2.2.2.2.2.2.2.2.1 s.2.2.2.2.2.2.2.2.2.2.2.2.2.2.2.2.2.2.2.2.2.2.2.2.2.2.2.2.2.2.2.2.2.2.2.2.2.2.2.2.2.2.2.2.2.2.2.2.2.1 s.2.2.2.2.2.2.2.2.2.2.2.2.2.2.2.2.2.2.2.2.2.2.2.2.2.2.2.2.2.2.2.2.2.2.2.2.2.2.2.2.2.2.2.2.2.2.2.2.2.2.1 s.2.2.2.2.2.2.2.2.2.2.2.2.2.2.2.2.2.2.2.2.2.2.2.2.2.2.2.2.2.2.2.2.2.2.2.2.2.2.2.2.2.2.2.2.2.2.2.2.2.2.2.1 s.2.2.2.2.2.2.2.2.2.2.2.2.2.2.2.2.2.2.2.2.2.2.2.2.2.2.2.2.2.2.2.2.2.2.2.2.2.2.2.2.2.2.2.2.2.2.2.2.2.2.2.2.1 s.2.2.2.2.2.2.2.2.2.2.2.2.2.2.2.2.2.2.2.2.2.2.2.2.2.2.2.2.2.2.2.2.2.2.2.2.2.2.2.2.2.2.2.2.2.2.2.2.2.2.2.2.2.1 s.2.2.2.2.2.2.2.2.2.2.2.2.2.2.2.2.2.2.2.2.2.2.2.2.2.2.2.2.2.2.2.2.2.2.2.2.2.2.2.2.2.2.2.2.2.2.2.2.2.2.2.2.2.2.1 s.2.2.2.2.2.2.2.2.2.2.2.2.2.2.2.2.2.2.2.2.2.2.2.2.2.2.2.2.2.2.2.2.2.2.2.2.2.2.2.2.2.2.2.2.2.2.2.2.2.2.2.2.2.2.2.1 s.2.2.2.2.2.2.2.2.2.2.2.2.2.2.2.2.2.2.2.2.2.2.2.2.2.2.2.2.2.2.2.2.2.2.2.2.2.2.2.2.2.2.2.2.2.2.2.2.2.2.2.2.2.2.2.2.1 s.2.2.2.2.2.2.2.2.2.2.2.2.2.2.2.2.2.2.2.2.2.2.2.2.2.2.2.2.2.2.2.2.2.2.2.2.2.2.2.2.2.2.2.2.2.2.2.2.2.2.2.2.2.2.2.2.2.1 s.2.2.2.2.2.2.2.2.2.2.2.2.2.2.2.2.2.2.2.2.2.2.2.2.2.2.2.2.2.2.2.2.2.2.2.2.2.2.2.2.2.2.2.2.2.2.2.2.2.2.2.2.2.2.2.2.2.2.1 s.2.2.2.2.2.2.2.2.2.2.2.2.2.2.2.2.2.2.2.2.2.2.2.2.2.2.2.2.2.2.2.2.2.2.2.2.2.2.2.2.2.2.2.2.2.2.2.2.2.2.2.2.2.2.2.2.2.2.2) (a8,W,X,Y,Z,a0,a1,a2,a3,a4,a5,a,b,c,d,e,f,g,h,i,j,k,l,m,n,o,p,q,r,t,u,v,w,x,y,z,A,B,C,D,E,F,G,H,I,J,K,L,M,N,O,P,Q,R,S,T,U,V,a6,a7)
def A4w (e:C9) (f:List A9) (g:List Int):Option Bool:=
 Option.bind (A8N e) fun b=>
 Option.bind (A4N b 0) fun a=>
 cond (a.2 !=0) (
  some false)<|
 let c:=(C3v g);
 Option.bind (A97 f 20 30) fun d=>
 A68 b d 0 a.1.Ai.Ax a.1.Ai.Bd a.1.Ai.W a.1.Ai.K a.1.Ai.Cap a.1.Ai.P a.1.Ai.Ah a.1.Ai.Be a.1.Aj.W a.1.Aj.Cap a.1.Aj.Now a.1.Aj.Ar a.1.Ap.W a.1.Ap.K a.1.Ap.Cap a.1.Ap.Now a.1.Ap.Ab a.1.Sum.W a.1.Sum.K a.1.Sum.Cap a.1.Sum.Be a.1.Sum.Now a.1.Sum.Ab a.1.Al.Bd a.1.Al.W a.1.Al.K a.1.Al.Cap a.1.Al.Now a.1.Al.Bg a.1.Al.Av a.1.Am.W a.1.Am.K a.1.Am.Cap a.1.Am.Now a.1.Am.Bg a.1.Am.Av a.1.Bb.P a.1.Bb.Ay a.1.Bb.Now a.1.Bb.Ae a.1.Aq.Now a.1.Aq.Bc a.1.Ad.Be a.1.Ad.W a.1.Ad.Cap a.1.Ad.Now a.1.Ad.Ar a.1.Ak.Ah a.1.Af.K a.1.Af.Cap a.1.Af.N a.1.Af.Ao a.1.Aa.W a.1.Aa.K a.1.Aa.Cap a.1.Aa.Now a.1.Aa.Ag c.L c.At
def A9g (b a:Int):(Int×Bool):=
 cond (((decide (a<0))&&(decide (b>(A2 (9223372036854775807+a)))))||((decide (a>0))&&(decide (b<(A2 ((-9223372036854775808:Int)+a)))))) (
  (0,false))<|
 ((A2 (b-a)),true)
def C05 (c d:C5):Option (C5×Bool):=
 Option.bind (R8 c.Lo d.Lo 0) fun a=>
 Option.bind (R8 c.Hi d.Hi a.2) fun b=>
 cond (b.2 !=0) (
  some ((C5.mk 0 0),false))<|
 some ((C5.mk b.1 a.1),true)
def A11 (a b:C5):Int:=
 cond ((decide (a.Hi<b.Hi))||((a.Hi==b.Hi)&&(decide (a.Lo<b.Lo)))) (
  (-1:Int))<|
 cond (a.Hi==b.Hi&&(a.Lo==b.Lo&&true)) (
  0)<|
 1
def T1 (b c:Int):C5:=
 let a:=(A2j b c);
 (C5.mk a.1 a.2)
def B1V (e f:C5):Option (C5×Bool):=
 cond ((e.Hi !=0)&&(f.Hi !=0)) (
  some ((C5.mk 0 0),false))<|
 let b:=(T1 e.Hi f.Lo);
 let c:=(T1 e.Lo f.Hi);
 cond ((b.Hi !=0)||(c.Hi !=0)) (
  some ((C5.mk 0 0),false))<|
 let d:=(T1 e.Lo f.Lo);
 Option.bind (C05 d (C5.mk (G8 (b.Lo+c.Lo)) 0)) fun a=>
 some (a.1,a.2)
def A0a (a:Int):C5:=
 (C5.mk 0 a)
def B0c (b a:Int):Int:=
 cond ((decide (a<b))||(decide (a>16777216))) (
  3)<|
 0
def N0 (c d:Int):Int:=
 let a:=(E7 c);
 let b:=(K3 d);
 cond ((!a)||(!b)) (
 (-1:Int))<|
 (P8 0 (A2 ((A2 (c-d))+1)))
def E0 (d f e:Int):Bool:=
 let a:=(E7 d);
 let b:=(K3 f);
 let c:=(E7 e);
 ((((a&&b)&&c)&&(decide (e>(A2 (d-f)))))&&(decide (e<=d)))
def B0d (e:List Int) (d f:Int):Option (Int×Int×Int):=
 cond ((decide (f<1))||(decide (d<0))) (
  some (0,0,1))<|
 Option.bind (gd (!(decide (d>=(e.length:Int)))) (D0 e d)) fun a=>
 Option.bind (gd (!((decide (d>=(e.length:Int)))||(decide (a<0)))) (D0 e d)) fun b=>
 cond (((decide (d>=(e.length:Int)))||(decide (a<0)))||(decide (b>=f))) (
  some (0,0,8))<|
 Option.bind (D0 e d) fun c=>
 some (c,(A2 (d+1)),0)
def A7A (d:List A9) (e a:Int):Option (Int⊕Bool):=
 cond (decide (a<(d.length:Int))) (
  Option.bind (D0 d a) fun b=>
  Option.bind (gd ((!((decide (b.T<0))||(decide (b.T>e))))&&(decide (a>0))) (D0 d (A2 (a-1)))) fun c=>
  cond (((decide (b.T<0))||(decide (b.T>e)))||((decide (a>0))&&(decide (c.T>b.T)))) (
   some (.inr false))<|
  some (.inl (A2 (a+1))))<|
 Option.map Sum.inr (some true)
def A8f (b:List A9) (c a:Int):Option Bool:=
 loop (fun (s:Int)=>A7A b c s) a
def A8T (c:List A9) (b:Int):Option Bool:=
 let a:=(E7 b);
 cond (!a) (
  some false)<|
 A8f c b 0
def B5l (b c d:Int):(C4×Int):=
 let a:=(H1 b c d);
 cond (!a) (
  ((C4.mk 0 0 0 []),1))<|
 ((C4.mk b c d []),0)
def F0 (a:Int):Bool:=
 ((decide (a>=(-4096:Int)))&&(decide (a<=4096)))
def A0s (e:C4) (a:Int):Option (Int⊕Int):=
 cond (decide (a<(e.Ar.length:Int))) (
  Option.bind (D0 e.Ar a) fun b=>
  let d:=(E0 e.Now e.W b.T);
  let c:=(F0 b.V);
  cond ((!d)||(!c)) (
   some (.inr 2))<|
  some (.inl (A2 (a+1))))<|
 Option.map Sum.inr (some 0)
def A2S (b:C4) (a:Int):Option Int:=
 loop (fun (s:Int)=>A0s b s) a
def A0b (c:C4):Option Int:=
 let a:=(H1 c.W c.Cap c.Now);
 Option.bind (gd (!((!a)||(decide ((c.Ar.length:Int)>c.Cap)))) (A8T c.Ar c.Now)) fun b=>
 cond (((!a)||(decide ((c.Ar.length:Int)>c.Cap)))||(!b)) (
  some 2)<|
 A2S c 0
def A6N (c:Int) (a:List A3):Option ((List A3)⊕(List A3)):=
 Option.bind (gd (decide ((a.length:Int)>(0:Int))) (D0 a 0)) fun b=>
 cond ((decide ((a.length:Int)>(0:Int)))&&(decide (b.T<c))) (
 ck (decide (0<=(1:Int)/\1<=(a.length:Int)))<|
 some (.inl (a.drop ((1:Int)).toNat)))<|
 Option.map Sum.inr (some a)
def B1W (b:Int) (a:List A3):Option (List A3):=
 loop (fun (s:(List A3))=>A6N b s) a
def B5m (a:List A3) (b:Int):Option (List A3):=
 B1W b a
def A4e (d:List A3) (c a:Int):Option ((Int×Int)⊕Int):=
 cond (decide (a<(d.length:Int))) (
  Option.bind (D0 d a) fun b=>
  cond ((decide (b.As>=0))&&(decide (b.As<=30))) (
   ck (decide (0<=(G8 b.As)))<|
   some (.inl ((A2 (c+(A78 .i64 1 (G8 b.As)))),(A2 (a+1)))))<|
  some (.inl (c,(A2 (a+1)))))<|
 Option.map Sum.inr (some c)
def B2Y (c:List A3) (a b:Int):Option Int:=
 loop (fun (s:(Int×Int))=>A4e c s.1 s.2) (a,b)
def A1k (a:List A3):Option Int:=
 B2Y a 0 0
def A4f (f:List A3) (g:Int) (b:List Int) (a:Int):Option (Int⊕Bool):=
 cond (decide (a<(b.length:Int))) (
  Option.bind (D0 b a) fun e=>
  Option.bind (D0 b a) fun c=>
  Option.bind (gd (decide ((f.length:Int)>(0:Int))) (D0 f 0)) fun d=>
  cond ((decide ((f.length:Int)>(0:Int)))&&(((decide (a<d.As))&&(decide (c<g)))||(decide (c>(A2 (g+1)))))) (
   some (.inr false))<|
  some (.inl (A2 (a+1))))<|
 Option.map Sum.inr (some true)
def A5g (c:List A3) (d:Int) (b:List Int) (a:Int):Option Bool:=
 loop (fun (s:Int)=>A4f c d b s) a
def A7B (k:List A3) (l:Int) (c:List Int) (b:Int):Option (((List Int)×Int)⊕Bool):=
 cond (decide (b<(k.length:Int))) (
  Option.bind (D0 k b) fun a=>
  let d:=(E7 a.T);
  Option.bind (gd ((!(((!d)||(decide (a.As<0)))||(decide (a.As>30))))&&(decide (b>0))) (D0 k (A2 (b-1)))) fun e=>
  Option.bind (gd (((!(((!d)||(decide (a.As<0)))||(decide (a.As>30))))&&(decide (b>0)))&&(!(decide (e.T>a.T)))) (D0 k (A2 (b-1)))) fun f=>
  cond ((((!d)||(decide (a.As<0)))||(decide (a.As>30)))||((decide (b>0))&&((decide (e.T>a.T))||(decide (f.As<a.As))))) (
   some (.inr false))<|
  Option.bind (D0 c a.As) fun h=>
  Option.bind (D0 c a.As) fun g=>
  Option.bind (D0 c a.As) fun i=>
  Option.bind (D0 c a.As) fun j=>
  some (.inl ((c.set (a.As).toNat (A2 (g+1))),(A2 (b+1)))))<|
 Option.map Sum.inr (A5g k l c 0)
def B2Z (c:List A3) (d:Int) (b:List Int) (a:Int):Option Bool:=
 loop (fun (s:((List Int)×Int))=>A7B c d s.1 s.2) (b,a)
def A32 (c:List A3) (b:Int):Option Bool:=
 let a:=(A09 b);
 cond (!a) (
  some false)<|
 ck (decide (0<=(31:Int)/\(31:Int)<=(31:Int)/\(31:Int)*8<=140737488355328/\(31:Int)<=140737488355328))<|
 B2Z c b (List.replicate ((31:Int)).toNat 0) 0
def B0f (b:List A3):Option Int:=
 cond ((b.length:Int)==(0:Int)) (
  some 0)<|
 Option.bind (D0 b (A2 ((b.length:Int)-(1:Int)))) fun a=>
 some a.T
def A9x (j:Int) (b:List A3) (e a d c:Int):Option ((Int×Int×Int)⊕(((List A3)×Int)⊕(List A3))):=
 cond (decide (c<(b.length:Int))) (
  Option.bind (D0 b c) fun i=>
  Option.bind (D0 b c) fun g=>
  cond (g.As==e) (
   cond (decide (a<0)) (
    some (.inl (c,(A2 (d+1)),(A2 (c+1)))))<|
   some (.inl (a,(A2 (d+1)),(A2 (c+1)))))<|
  some (.inl (a,d,(A2 (c+1)))))<|
 Option.map Sum.inr (cond (decide (d<=(A2 (j+1)))) (
  some (.inr b))<|
 Option.bind (D0 b (A2 (a+1))) fun h=>
 Option.bind (D0 b (A2 (a+1))) fun f=>
 ck (decide (0<=a/\a<=(b.length:Int)))<|
 ck (decide ((([]:List A3).length+(b.take (a).toNat).length)*16<=140737488355328))<|
 ck (decide (((([]:List A3)++(b.take (a).toNat)).length+ [(A3.mk f.T (A2 (e+1)))].length)*16<=140737488355328))<|
 ck (decide (0<=(A2 (a+2))/\(A2 (a+2))<=(b.length:Int)))<|
 ck (decide ((((([]:List A3)++(b.take (a).toNat))++ [(A3.mk f.T (A2 (e+1)))]).length+(b.drop ((A2 (a+(2:Int)))).toNat).length)*16<=140737488355328))<|
 some (.inl ((((([]:List A3)++(b.take (a).toNat))++ [(A3.mk f.T (A2 (e+1)))])++(b.drop ((A2 (a+(2:Int)))).toNat)),(A2 (e+1)))))
def B1c (f:Int) (c:List A3) (d e a b:Int):Option (((List A3)×Int)⊕(List A3)):=
 loop (fun (s:(Int×Int×Int))=>A9x f c d s.1 s.2.1 s.2.2) (e,a,b)
def A6q (c:Int) (a:List A3) (b:Int):Option (((List A3)×Int)⊕(List A3)):=
 cond (decide (b<=30)) (
  B1c c a b (-1:Int) 0 0)<|
 Option.map Sum.inr (some a)
def A4E (c:Int) (a:List A3) (b:Int):Option (List A3):=
 loop (fun (s:((List A3)×Int))=>A6q c s.1 s.2) (a,b)
def B1X (a:List A3) (c b:Int):Option (List A3):=
 ck (decide ((([]:List A3).length+a.length)*16<=140737488355328))<|
 ck (decide (((([]:List A3)++a).length+ [(A3.mk b 0)].length)*16<=140737488355328))<|
 A4E c ((([]:List A3)++a)++ [(A3.mk b 0)]) 0
def B5n (f:List A3) (h g:Int):Option (List A3):=
 Option.bind (A32 f h) fun a=>
 let b:=(E7 g);
 Option.bind (gd (!((!a)||(!b))) (B0f f)) fun c=>
 Option.bind (gd (!(((!a)||(!b))||(decide (g<c)))) (A1k f)) fun d=>
 cond ((((!a)||(!b))||(decide (g<c)))||(decide (d>=1073741824))) (
  some [])<|
 Option.bind (B1X f h g) fun e=>
 some e
def A08 (d e:Int) (a:List A3) (b:Int):Option (((List A3)×Int)⊕(List A3)):=
 cond (decide (b>0)) (
  Option.bind (B1X a d e) fun c=>
  some (.inl (c,(A2 (b-1)))))<|
 Option.map Sum.inr (some a)
def A1L (c d:Int) (a:List A3) (b:Int):Option (List A3):=
 loop (fun (s:((List A3)×Int))=>A08 c d s.1 s.2) (a,b)
def B1b (f:List A3) (h g e:Int):Option (List A3):=
 Option.bind (A32 f h) fun b=>
 let a:=(E7 g);
 Option.bind (gd (!((((!b)||(decide (e<0)))||(decide (e>1024)))||(!a))) (B0f f)) fun c=>
 Option.bind (gd ((!(((((!b)||(decide (e<0)))||(decide (e>1024)))||(!a))||(decide (g<c))))&&(decide (e>0))) (A1k f)) fun d=>
 cond ((((((!b)||(decide (e<0)))||(decide (e>1024)))||(!a))||(decide (g<c)))||((decide (e>0))&&(decide ((A2 (d+e))>1073741824)))) (
  some [])<|
 A1L h g f e
def A5h (d:List A3) (e f a:Int):Option (Int⊕Bool):=
 cond (decide (a<(d.length:Int))) (
  Option.bind (D0 d a) fun b=>
  let c:=(E0 f e b.T);
  cond (!c) (
   some (.inr false))<|
  some (.inl (A2 (a+1))))<|
 Option.map Sum.inr (some true)
def B4g (b:List A3) (c d a:Int):Option Bool:=
 loop (fun (s:Int)=>A5h b c d s) a
def B0g (e:List A3) (f g h i:Int):Option Bool:=
 let a:=(H1 f h i);
 let b:=(G7 g);
 Option.bind (gd (!((!a)||(!b))) (A32 e g)) fun c=>
 Option.bind (gd (!(((!a)||(!b))||(!c))) (A1k e)) fun d=>
 cond ((((!a)||(!b))||(!c))||(decide (d>h))) (
  some false)<|
 B4g e f i 0
def B5o (c d e f:Int):(D2×Int):=
 let a:=(H1 c e f);
 let b:=(G7 d);
 cond ((!a)||(!b)) (
  ((D2.mk 0 0 0 0 []),1))<|
 ((D2.mk c d e f []),0)
def A8g (b:D2):Option Int:=
 Option.bind (B0g b.Ab b.W b.K b.Cap b.Now) fun a=>
 cond (!a) (
  some 2)<|
 some 0
def A3h (a:Int):Bool:=
 ((decide (a>=1))&&(decide (a<=1024)))
def B5p (d e f g h:Int):(D8×Int):=
 let b:=(H1 d f h);
 let c:=(G7 e);
 let a:=(A3h g);
 cond (((!b)||(!c))||(!a)) (
  ((D8.mk 0 0 0 0 0 []),1))<|
 ((D8.mk d e f g h []),0)
def A8h (c:D8):Option Int:=
 Option.bind (B0g c.Ab c.W c.K c.Cap c.Now) fun a=>
 let b:=(A3h c.Be);
 cond ((!a)||(!b)) (
  some 2)<|
 some 0
def A5k (f g:Int) (a:List A4):Option ((List A4)⊕(List A4)):=
 Option.bind (gd (decide ((a.length:Int)>(1:Int))) (D0 a 1)) fun d=>
 let b:=(E0 f g d.T);
 cond ((decide ((a.length:Int)>(1:Int)))&&(!b)) (
 ck (decide (0<=(1:Int)/\1<=(a.length:Int)))<|
 some (.inl (a.drop ((1:Int)).toNat)))<|
 Option.map Sum.inr (Option.bind (gd ((a.length:Int)==(1:Int)) (D0 a 0)) fun e=>
 let c:=(E0 f g e.T);
 cond (((a.length:Int)==(1:Int))&&(!c)) (
 some [])<|
 some a)
def A6r (b c:Int) (a:List A4):Option (List A4):=
 loop (fun (s:(List A4))=>A5k b c s) a
def A5l (a b c d e:Int):Bool:=
 (((((decide ((A2 (a*d))<=b))&&(decide (b<=(A2 (a*e)))))&&(decide (c>=0)))&&(decide (c<=(A2 ((A2 (a*(4096:Int)))*(4096:Int))))))&&(decide ((A2 (b*b))<=(A2 (a*c)))))
def A1l (b c:Int):Bool:=
 let a:=(F0 c);
 (a&&(((decide (c>=0))||(b==1))||(b==4)))
def A4g (l:List A4) (o q p n m b:Int):Option (Int⊕Bool):=
 cond (decide (b<(l.length:Int))) (
  Option.bind (D0 l b) fun a=>
  Option.bind (gd ((!((((decide (a.Bg<1))||(decide (a.Bg>m)))||(a.N !=(A2 ((A2 (m-a.Bg))+1))))||(decide (a.N>p))))&&(decide (b>0))) (D0 l (A2 (b-1)))) fun g=>
  cond (((((decide (a.Bg<1))||(decide (a.Bg>m)))||(a.N !=(A2 ((A2 (m-a.Bg))+1))))||(decide (a.N>p)))||((decide (b>0))&&(decide (g.Bg>=a.Bg)))) (
   some (.inr false))<|
  let d:=(E7 a.T);
  Option.bind (gd ((!((!d)||(decide (a.T>n))))&&(decide (b>0))) (D0 l (A2 (b-1)))) fun h=>
  let i:=(E0 n q a.T);
  cond ((((!d)||(decide (a.T>n)))||((decide (b>0))&&(decide (h.T>a.T))))||(((decide (b>0))||((l.length:Int)==(1:Int)))&&(!i))) (
   some (.inr false))<|
  let j:=(A1l o a.Bf);
  let k:=(A1l o a.Be);
  let e:=(A5l a.N a.S a.Q a.Bf a.Be);
  cond ((((((((!j)||(!k))||(decide (a.Bf>a.Be)))||(decide (a.S<(A2 ((IntKind.i64.wrap (0-a.N))*4096)))))||(decide (a.S>(A2 (a.N*4096)))))||(decide (a.Q<0)))||(decide (a.Q>(A2 ((A2 (a.N*(4096:Int)))*(4096:Int))))))||(!e)) (
   some (.inr false))<|
  cond ((b==(A2 ((l.length:Int)-(1:Int))))&&((((a.Bg !=m)||(a.Bf !=a.S))||(a.Be !=a.S))||(a.Q !=(A2 (a.S*a.S))))) (
   some (.inr false))<|
  cond (decide (b>0)) (
   Option.bind (D0 l (A2 (b-1))) fun c=>
   let f:=(A5l (A2 (c.N-a.N)) (A2 (c.S-a.S)) (A2 (c.Q-a.Q)) c.Bf c.Be);
   cond (((decide (a.Bf<c.Bf))||(decide (a.Be>c.Be)))||(!f)) (
    some (.inr false))<|
   some (.inl (A2 (b+1))))<|
  some (.inl (A2 (b+1))))<|
 Option.map Sum.inr (some true)
def B20 (b:List A4) (c d e f g a:Int):Option Bool:=
 loop (fun (s:Int)=>A4g b c d e f g s) a
def A8V (b:List A4) (c d e f a:Int):Option Bool:=
 cond ((decide (a<0))||(decide (a>1099511627776))) (
  some false)<|
 B20 b c d e f a 0
def B5q (d e f g h:Int):(B9×Int):=
 let b:=(N6 d);
 let c:=(H1 e g h);
 let a:=(G7 f);
 cond (((!b)||(!c))||(!a)) (
  ((B9.mk 0 0 0 0 0 0 []),1))<|
 ((B9.mk d e f g h 0 []),0)
def B6O:Int:=
 0
def A0Z (b:A4) (c:Int):Int:=
 cond (c==1) (
  b.N)<|
 cond (c==2) (
  b.S)<|
 cond (c==3) (
  b.Q)<|
 cond (c==4) (
  let a:=(A9g b.Be b.Bf);
  cond a.2 (
   a.1)<|
  B6O)<|
 B6O
def A2q (j:B9) (a:Int):Option (Int⊕Int):=
 cond (decide (a<(j.Av.length:Int))) (
  Option.bind (D0 j.Av a) fun b=>
  let i:=(A0Z b j.Bd);
  Option.bind (gd (decide (a>1)) (D0 j.Av (A2 (a-2)))) fun d=>
  let e:=(A0Z d j.Bd);
  cond ((decide (a>1))&&(decide ((A2 ((A2 (j.K+1))*i))>=(A2 (j.K*e))))) (
   some (.inr 2))<|
  Option.bind (gd (decide (a>0)) (D0 j.Av (A2 (a-1)))) fun c=>
  let f:=(A0Z b j.Bd);
  Option.bind (gd ((decide (a>0))&&(decide (b.Bg>(A2 (c.Bg+1))))) (D0 j.Av (A2 (a-1)))) fun g=>
  let h:=(A0Z g j.Bd);
  cond (((decide (a>0))&&(decide (b.Bg>(A2 (c.Bg+1)))))&&(decide ((A2 ((A2 (j.K+1))*f))<(A2 (j.K*h))))) (
   some (.inr 2))<|
  some (.inl (A2 (a+1))))<|
 Option.map Sum.inr (some 0)
def A9S (b:B9) (a:Int):Option Int:=
 loop (fun (s:Int)=>A2q b s) a
def A8i (e:B9):Option Int:=
 let c:=(N6 e.Bd);
 let a:=(H1 e.W e.Cap e.Now);
 let b:=(G7 e.K);
 Option.bind (gd (!(((!c)||(!a))||(!b))) (A8V e.Av e.Bd e.W e.Cap e.Now e.Bg)) fun d=>
 cond ((((!c)||(!a))||(!b))||(!d)) (
  some 2)<|
 A9S e 0
def A1m (a:A4):Bool:=
 (((((((decide (a.N>=1))&&(decide (a.N<=65536)))&&(decide (a.S>=(A2 ((IntKind.i64.wrap (0-a.N))*4096)))))&&(decide (a.S<=(A2 (a.N*4096)))))&&(decide (a.Q>=0)))&&(decide (a.Q<=(A2 ((A2 (a.N*(4096:Int)))*(4096:Int))))))&&(decide ((A2 (a.S*a.S))<=(A2 (a.N*a.Q)))))
def B2n (g h:A4) (i:Int):Bool:=
 let d:=(A1m g);
 let e:=(A1m h);
 let a:=(G7 i);
 cond ((((!d)||(!e))||(!a))||(decide ((A2 ((A2 (6*i))*h.N))<(A2 ((A2 ((A2 (6*i))-1))*g.N))))) (
  false)<|
 let f:=(T1 (G8 (A2 ((A2 (h.N*h.Q))-(A2 (h.S*h.S))))) (G8 (A2 ((A2 (6*i))*g.N))));
 let b:=(T1 (G8 (A2 ((A2 (g.N*g.Q))-(A2 (g.S*g.S))))) (G8 (A2 ((A2 ((A2 (6*i))-1))*h.N))));
 let c:=(A11 f b);
 (decide (c>=0))
def B5r (c d e f:Int):(C2×Int):=
 let a:=(H1 c e f);
 let b:=(G7 d);
 cond ((!a)||(!b)) (
  ((C2.mk 0 0 0 0 0 []),1))<|
 ((C2.mk c d e f 0 []),0)
def A2r (e:C2) (a:Int):Option (Int⊕Int):=
 cond (decide (a<(e.Av.length:Int))) (
  Option.bind (D0 e.Av (A2 (a-2))) fun c=>
  Option.bind (D0 e.Av a) fun d=>
  let b:=(B2n c d e.K);
  cond b (
   some (.inr 2))<|
  some (.inl (A2 (a+1))))<|
 Option.map Sum.inr (some 0)
def A9T (b:C2) (a:Int):Option Int:=
 loop (fun (s:Int)=>A2r b s) a
def A8j (d:C2):Option Int:=
 let b:=(H1 d.W d.Cap d.Now);
 let a:=(G7 d.K);
 Option.bind (gd (!((!b)||(!a))) (A8V d.Av 4 d.W d.Cap d.Now d.Bg)) fun c=>
 cond (((!b)||(!a))||(!c)) (
  some 2)<|
 A9T d 2
def B1Y (b c:Int):Option (D3×Int):=
 let a:=(E7 c);
 cond (((decide (b<0))||(decide (b>4)))||(!a)) (
  some ((D3.mk 0 0 0 []),1))<|
 ck (decide (0<=(A2 (b+1))/\(A2 (b+1))<=(A2 (b+1))/\(A2 (b+(1:Int)))*16<=140737488355328/\(A2 (b+(1:Int)))<=140737488355328))<|
 some ((D3.mk b c c (List.replicate ((A2 (b+(1:Int)))).toNat (C5.mk 0 0))),0)
def A2s (j:D3) (a:Int):Option (Int⊕Int):=
 cond (decide (a<=j.P)) (
  Option.bind (D0 j.Ae (A2 (a-1))) fun g=>
  let d:=(A0a (G8 (A2 ((A2 (j.Now-j.Ay))+1))));
  Option.bind (B1V g d) fun b=>
  Option.bind (D0 j.Ae a) fun h=>
  Option.bind (D0 j.Ae (A2 (a-1))) fun i=>
  let c:=(A11 h i);
  Option.bind (gd ((!(decide (c<0)))&&b.2) (D0 j.Ae a)) fun e=>
  let f:=(A11 e b.1);
  cond ((decide (c<0))||(b.2&&(decide (f>0)))) (
   some (.inr 2))<|
  some (.inl (A2 (a+1))))<|
 Option.map Sum.inr (some 0)
def A9U (b:D3) (a:Int):Option Int:=
 loop (fun (s:Int)=>A2s b s) a
def A8k (b:D3):Option Int:=
 let a:=(E7 b.Now);
 cond ((((((decide (b.P<0))||(decide (b.P>4)))||(!a))||(decide (b.Ay<0)))||(decide (b.Ay>b.Now)))||((b.Ae.length:Int) !=(A2 (b.P+1)))) (
  some 2)<|
 A9U b 1
def B5t (b c:Int):Option (E3×Int):=
 let a:=(E7 c);
 cond (((decide (b<1))||(decide (b>64)))||(!a)) (
  some ((E3.mk 0 []),1))<|
 ck (decide (0<=b/\b<=b/\b*8<=140737488355328/\b<=140737488355328))<|
 some ((E3.mk c (List.replicate (b).toNat 0)),0)
def A2t (c:E3) (a:Int):Option (Int⊕Int):=
 cond (decide (a<(c.Bc.length:Int))) (
  Option.bind (D0 c.Bc a) fun b=>
  cond (((decide (b<0))||(decide (b>1099511627776)))||((decide (a>c.Now))&&(b !=0))) (
   some (.inr 2))<|
  some (.inl (A2 (a+1))))<|
 Option.map Sum.inr (some 0)
def A9V (b:E3) (a:Int):Option Int:=
 loop (fun (s:Int)=>A2t b s) a
def A8l (b:E3):Option Int:=
 let a:=(E7 b.Now);
 cond (((decide ((b.Bc.length:Int)<(1:Int)))||(decide ((b.Bc.length:Int)>(64:Int))))||(!a)) (
  some 2)<|
 A9V b 0
def B5u (e:Bool) (b c d:Int):(B4×Int):=
 let a:=(H1 b c d);
 cond (!a) (
  ((B4.mk false 0 0 0 []),1))<|
 ((B4.mk e b c d []),0)
def B5v (a:Bool) (b c:Int):Bool:=
 ((a&&(decide (b>c)))||((!a)&&(decide (b<c))))
def A2u (h:B4) (a:Int):Option (Int⊕Int):=
 cond (decide (a<(h.Ar.length:Int))) (
  Option.bind (D0 h.Ar a) fun b=>
  let d:=(E0 h.Now h.W b.T);
  let c:=(F0 b.V);
  Option.bind (gd ((!((!d)||(!c)))&&(decide (a>0))) (D0 h.Ar (A2 (a-1)))) fun e=>
  Option.bind (gd (((!((!d)||(!c)))&&(decide (a>0)))&&(!(decide (e.T>=b.T)))) (D0 h.Ar (A2 (a-1)))) fun f=>
  let g:=(B5v h.Be f.V b.V);
  cond (((!d)||(!c))||((decide (a>0))&&((decide (e.T>=b.T))||(!g)))) (
   some (.inr 2))<|
  some (.inl (A2 (a+1))))<|
 Option.map Sum.inr (some 0)
def A9W (b:B4) (a:Int):Option Int:=
 loop (fun (s:Int)=>A2u b s) a
def A8m (b:B4):Option Int:=
 let a:=(H1 b.W b.Cap b.Now);
 cond ((!a)||(decide ((b.Ar.length:Int)>b.Cap))) (
  some 2)<|
 A9W b 0
def A4G (g:A5) (a:Int):Option (Int⊕Int):=
 cond (decide (a<(g.Au.length:Int))) (
  Option.bind (D0 g.Au a) fun b=>
  let c:=(F0 b.V);
  Option.bind (gd ((!((!c)||(decide (b.I>g.I))))&&(decide (a>0))) (D0 g.Au (A2 (a-1)))) fun d=>
  Option.bind (gd (((!((!c)||(decide (b.I>g.I))))&&(decide (a>0)))&&(!(decide (b.I<=d.I)))) (D0 g.Au (A2 (a-1)))) fun e=>
  cond (((!c)||(decide (b.I>g.I)))||((decide (a>0))&&((decide (b.I<=d.I))||(decide (b.I>(A2 (e.I+g.W))))))) (
   some (.inr 2))<|
  some (.inl (A2 (a+1))))<|
 Option.map Sum.inr (Option.bind (gd (!(decide (g.Ba<=g.I))) (D0 g.Au (A2 ((g.Au.length:Int)-(1:Int))))) fun f=>
 cond ((decide (g.Ba<=g.I))||(decide (g.Ba>(A2 (f.I+g.W))))) (
  some 2)<|
 some 0)
def A5R (b:A5) (a:Int):Option Int:=
 loop (fun (s:Int)=>A4G b s) a
def A3i (d:A5):Option Int:=
 let c:=(K3 d.W);
 cond ((((((!c)||(decide (d.Cap<1)))||(decide (d.Cap>64)))||(decide (d.I<0)))||(decide (d.I>1099511627776)))||(decide ((d.Au.length:Int)>d.Cap))) (
  some 2)<|
 cond (d.I==0) (
  cond (((d.Au.length:Int) !=(0:Int))||(d.Ba !=0)) (
   some 2)<|
  some 0)<|
 Option.bind (gd (!((d.Au.length:Int)==(0:Int))) (D0 d.Au 0)) fun a=>
 Option.bind (gd (!(((d.Au.length:Int)==(0:Int))||(decide (a.I<=(A2 (d.I-d.W)))))) (D0 d.Au 0)) fun b=>
 cond ((((d.Au.length:Int)==(0:Int))||(decide (a.I<=(A2 (d.I-d.W)))))||(decide (b.I<1))) (
  some 2)<|
 A5R d 0
def A6s (d:A5) (c:Int) (b:List D9) (a:Int):Option (A5×Int×Int×Int):=
 some ((A5.mk d.W d.Cap (A2 (d.I+1)) a b),c,0,0)
def U9 (e:A5) (f:Int) (g:List Int) (c:Int) (a:List D9) (d:Bool):Option (A5×Int×Int×Int):=
 cond d (
  ck (decide ((a.length+ [(D9.mk (A2 (e.I+1)) f)].length)*16<=140737488355328))<|
  cond (decide (((a++ [(D9.mk (A2 (e.I+1)) f)]).length:Int)>e.Cap)) (
   some ((A5.mk 0 0 0 0 []),0,0,9))<|
  Option.bind (B0d g c e.W) fun b=>
  cond (b.2.2 !=0) (
   some ((A5.mk 0 0 0 0 []),c,e.W,b.2.2))<|
  A6s e b.2.1 (a++ [(D9.mk (A2 (e.I+1)) f)]) (A2 ((A2 ((A2 (e.I+(1:Int)))+(1:Int)))+b.1)))<|
 A6s e c a e.Ba
def A5r (e:A5) (f:Int) (g:List Int) (h:Int):Option (A5×Int×Int×Int):=
 let c:=(F0 f);
 cond (!c) (
  some ((A5.mk 0 0 0 0 []),0,0,4))<|
 cond (decide (h<0)) (
  some ((A5.mk 0 0 0 0 []),0,0,1))<|
 cond (e.I==1099511627776) (
  some ((A5.mk 0 0 0 0 []),0,0,5))<|
 ck (decide ((([]:List D9).length+e.Au.length)*16<=140737488355328))<|
 Option.bind (gd (decide (((([]:List D9)++e.Au).length:Int)>(0:Int))) (D0 (([]:List D9)++e.Au) 0)) fun d=>
 Option.bind (gd (decide (((([]:List D9)++e.Au).length:Int)>(0:Int))) (D0 (([]:List D9)++e.Au) 0)) fun b=>
 cond ((decide (((([]:List D9)++e.Au).length:Int)>(0:Int)))&&(b.I==(A2 ((A2 (e.I+1))-e.W)))) (
  ck (decide (0<=(1:Int)/\1<=((([]:List D9)++e.Au).length:Int)))<|
  U9 e f g h ((([]:List D9)++e.Au).drop ((1:Int)).toNat) ((decide (e.I>0))&&(e.Ba==(A2 (e.I+1)))))<|
 Option.bind (B0d g h (L5 (A2 (e.I+1)) e.W)) fun a=>
 cond (a.2.2 !=0) (
  some ((A5.mk 0 0 0 0 []),h,(L5 (A2 (e.I+1)) e.W),a.2.2))<|
 cond (a.1==0) (
  U9 e f g a.2.1 ([]:List D9) true)<|
 U9 e f g a.2.1 (([]:List D9)++e.Au) ((decide (e.I>0))&&(e.Ba==(A2 (e.I+1))))
def B5w (c:A5) (d:Int) (e:List Int) (f:Int):Option (A5×Int×Int):=
 Option.bind (A3i c) fun b=>
 cond (b !=0) (
  some ((A5.mk 0 0 0 0 []),0,b))<|
 Option.bind (A5r c d e f) fun a=>
 cond (a.2.2.2 !=0) (
  some ((A5.mk 0 0 0 0 []),0,a.2.2.2))<|
 some (a.1,a.2.1,0)
def B2o (c:A5) (e:Int) (d:List Int) (f:Int):Option (Int×Bool):=
 Option.bind (A3i c) fun b=>
 cond (b !=0) (
  some (0,false))<|
 Option.bind (A5r c e d f) fun a=>
 cond ((a.2.2.2 !=8)||(decide (a.2.1<(d.length:Int)))) (
  some (0,false))<|
 some (a.2.2.1,true)
def V6 (c b:Int):(A5×Int):=
 let a:=(K3 c);
 cond (((!a)||(decide (b<1)))||(decide (b>64))) (
  ((A5.mk 0 0 0 0 []),1))<|
 ((A5.mk c b 0 0 []),0)
def A6t (d e c:Int) (a:List A5):Option ((Int×(List A5))⊕(D6×Int)):=
 cond (decide (c>0)) (
  let b:=(V6 d e);
  cond (b.2 !=0) (
   some (.inr ((D6.mk []),b.2)))<|
  ck (decide ((a.length+ [b.1].length)*56<=140737488355328))<|
  some (.inl ((A2 (c-1)),(a++ [b.1]))))<|
 Option.map Sum.inr (some ((D6.mk a),0))
def B1d (c d b:Int) (a:List A5):Option (D6×Int):=
 loop (fun (s:(Int×(List A5)))=>A6t c d s.1 s.2) (b,a)
def B5x (a b c:Int):Option (D6×Int):=
 cond ((decide (a<1))||(decide (a>16))) (
  some ((D6.mk []),1))<|
 B1d b c a ([]:List A5)
def A4H (e:D6) (a:Int):Option (Int⊕Int):=
 cond (decide (a<(e.Ah.length:Int))) (
  Option.bind (D0 e.Ah a) fun b=>
  Option.bind (D0 e.Ah 0) fun c=>
  Option.bind (A3i b) fun d=>
  cond ((((d !=0)||(b.W !=c.W))||(b.Cap !=c.Cap))||(b.I !=c.I)) (
   some (.inr 2))<|
  some (.inl (A2 (a+1))))<|
 Option.map Sum.inr (some 0)
def A9X (b:D6) (a:Int):Option Int:=
 loop (fun (s:Int)=>A4H b s) a
def A5u (a:D6):Option Int:=
 cond ((decide ((a.Ah.length:Int)<(1:Int)))||(decide ((a.Ah.length:Int)>(16:Int)))) (
  some 2)<|
 A9X a 0
def A9z (f:List B0) (g b a:Int):Option ((Int×Int)⊕Int):=
 cond (decide (a<(f.length:Int))) (
  Option.bind (D0 f a) fun c=>
  Option.bind (D0 f b) fun d=>
  Option.bind (D0 f b) fun e=>
  cond (decide ((P8 (A2 (g-c.Bf)) (A2 (c.Be-g)))<(P8 (A2 (g-d.Bf)) (A2 (e.Be-g))))) (
   some (.inl (a,(A2 (a+1)))))<|
  some (.inl (b,(A2 (a+1)))))<|
 Option.map Sum.inr (some b)
def B5y (c:List B0) (d b a:Int):Option Int:=
 loop (fun (s:(Int×Int))=>A9z c d s.1 s.2) (b,a)
def B1Z (a:List B0) (b:Int):Option Int:=
 B5y a b 0 0
def C5U (a:B7):Option Int:=
 ck (decide (a.K≠0))<|
 some (P8 1 (A2 (Int.tdiv a.N a.K)))
def A1n (c b:Int):(B7×Int):=
 let a:=(G7 c);
 cond (((!a)||(decide (b<2)))||(decide (b>65536))) (
  ((B7.mk 0 0 0 []),1))<|
 ((B7.mk c b 0 []),0)
def A2v (g:B7) (c b:Int):Option ((Int×Int)⊕Int):=
 cond (decide (b<(g.Ao.length:Int))) (
  Option.bind (D0 g.Ao b) fun a=>
  let d:=(F0 a.V);
  Option.bind (gd (!(((((!d)||(decide (a.G<1)))||(decide (a.G>g.N)))||(decide (a.D<0)))||(decide (a.D>g.N)))) (C5U g)) fun e=>
  Option.bind (gd ((!((((((!d)||(decide (a.G<1)))||(decide (a.G>g.N)))||(decide (a.D<0)))||(decide (a.D>g.N)))||(decide ((A2 (a.G+a.D))>e))))&&(decide (b>0))) (D0 g.Ao (A2 (b-1)))) fun f=>
  cond (((((((((!d)||(decide (a.G<1)))||(decide (a.G>g.N)))||(decide (a.D<0)))||(decide (a.D>g.N)))||(decide ((A2 (a.G+a.D))>e)))||((decide (b>0))&&(decide (f.V>a.V))))||((b==0)&&((a.G !=1)||(a.D !=0))))||((b==(A2 ((g.Ao.length:Int)-(1:Int))))&&(a.D !=0))) (
   some (.inr 2))<|
  cond (decide ((A2 (c+a.G))>g.N)) (
   some (.inr 2))<|
  some (.inl ((A2 (c+a.G)),(A2 (b+1)))))<|
 Option.map Sum.inr (cond (c !=g.N) (
  some 2)<|
 some 0)
def A9Y (c:B7) (b a:Int):Option Int:=
 loop (fun (s:(Int×Int))=>A2v c s.1 s.2) (b,a)
def A8o (b:B7):Option Int:=
 let a:=(A1n b.K b.Cap);
 cond (((((a.2 !=0)||(decide (b.N<0)))||(decide (b.N>1099511627776)))||(decide ((b.Ao.length:Int)>b.Cap)))||(!(((b.Ao.length:Int)==(0:Int))==(b.N==0)))) (
  some 2)<|
 A9Y b 0 0
def A2w (d:C8) (a:Int):Option (Int⊕Int):=
 cond (decide (a<(d.Ac.length:Int))) (
  Option.bind (D0 d.Ac a) fun b=>
  cond (((((decide (b.Bf<1))||(decide (b.Bf>b.Be)))||(decide (b.Be>d.N)))||((a==0)&&(b.Be !=1)))||((a==(A2 ((d.Ac.length:Int)-(1:Int))))&&(b.Bf !=d.N))) (
   some (.inr 2))<|
  cond (decide (a>0)) (
   Option.bind (D0 d.Ac (A2 (a-1))) fun c=>
   cond (((decide (c.V>b.V))||(decide (c.Bf>=b.Bf)))||(decide (c.Be>=b.Be))) (
    some (.inr 2))<|
   some (.inl (A2 (a+1))))<|
  some (.inl (A2 (a+1))))<|
 Option.map Sum.inr (some 0)
def A9Z (b:C8) (a:Int):Option Int:=
 loop (fun (s:Int)=>A2w b s) a
def A0c (a:C8):Option Int:=
 cond (((decide (a.N<0))||(decide (a.N>1099511627776)))||(!(((a.Ac.length:Int)==(0:Int))==(a.N==0)))) (
  some 2)<|
 A9Z a 0
def C1C (e:C8) (b a:Int):Option ((Int×Int)⊕Int):=
 cond (decide (a<(e.Ac.length:Int))) (
  Option.bind (D0 e.Ac a) fun d=>
  Option.bind (D0 e.Ac (A2 (a-1))) fun c=>
  some (.inl ((P8 b (A2 (d.Be-c.Bf))),(A2 (a+1)))))<|
 Option.map Sum.inr (some b)
def B5A (c:C8) (a b:Int):Option Int:=
 loop (fun (s:(Int×Int))=>C1C c s.1 s.2) (a,b)
def B5z (b:C8):Option Int:=
 Option.bind (A0c b) fun a=>
 cond ((a !=0)||(b.N==0)) (
  some 0)<|
 B5A b 1 1
def A4I (h:C8) (i:Bool) (a:B0) (e:Int) (f:List B0) (g c b:Int):Option ((Int×Int)⊕(((List B0)×Int)⊕(List B0))):=
 cond (decide (b>=0)) (
  Option.bind (D0 h.Ac b) fun d=>
  cond ((decide (d.V>a.V))||(i&&(d.V==a.V))) (
   some (.inl ((A2 (d.Be-1)),(A2 (b-1)))))<|
  some (.inl (c,(A2 (b-1)))))<|
 Option.map Sum.inr (ck (decide ((f.length+ [(B0.mk a.V (A2 (a.Bf+e)) (A2 (a.Be+c)))].length)*24<=140737488355328))<|
 some (.inl ((f++ [(B0.mk a.V (A2 (a.Bf+e)) (A2 (a.Be+c)))]),(A2 (g+1)))))
def A5S (g:C8) (h:Bool) (e:B0) (c:Int) (f:List B0) (d a b:Int):Option (((List B0)×Int)⊕(List B0)):=
 loop (fun (s:(Int×Int))=>A4I g h e c f d s.1 s.2) (a,b)
def A5U (g:C8) (h:Bool) (b:B0) (f:List B0) (e d a:Int):Option ((Int×Int)⊕(((List B0)×Int)⊕(List B0))):=
 cond (decide (a<(g.Ac.length:Int))) (
  Option.bind (D0 g.Ac a) fun c=>
  cond ((decide (c.V<b.V))||((!h)&&(c.V==b.V))) (
   some (.inl (c.Bf,(A2 (a+1)))))<|
  some (.inl (d,(A2 (a+1)))))<|
 Option.map Sum.inr (A5S g h b d f e g.N (A2 ((g.Ac.length:Int)-(1:Int))))
def A6O (f:C8) (g:Bool) (d:B0) (e:List B0) (a b c:Int):Option (((List B0)×Int)⊕(List B0)):=
 loop (fun (s:(Int×Int))=>A5U f g d e a s.1 s.2) (b,c)
def A5T (d e:C8) (f:Bool) (b:List B0) (a:Int):Option (((List B0)×Int)⊕(List B0)):=
 cond (decide (a<(d.Ac.length:Int))) (
  Option.bind (D0 d.Ac a) fun c=>
  A6O e f c b a 0 0)<|
 Option.map Sum.inr (some b)
def B1e (c d:C8) (e:Bool) (b:List B0) (a:Int):Option (List B0):=
 loop (fun (s:((List B0)×Int))=>A5T c d e s.1 s.2) (b,a)
def A6v (a b:C8) (c:Bool):Option (List B0):=
 B1e a b c ([]:List B0) 0
def A7C (h i:C8) (c b a:List B0):Option (((List B0)×(List B0)×(List B0))⊕(C8×Int)):=
 cond (decide ((A2 ((c.length:Int)+(b.length:Int)))>(0:Int))) (
  Option.bind (gd ((!((b.length:Int)==(0:Int)))&&(decide ((c.length:Int)>(0:Int)))) (D0 c 0)) fun g=>
  Option.bind (gd ((!((b.length:Int)==(0:Int)))&&(decide ((c.length:Int)>(0:Int)))) (D0 b 0)) fun f=>
  cond (((b.length:Int)==(0:Int))||((decide ((c.length:Int)>(0:Int)))&&(decide (g.V<=f.V)))) (
   Option.bind (D0 c 0) fun d=>
   ck (decide ((a.length+ [d].length)*24<=140737488355328))<|
   ck (decide (0<=(1:Int)/\1<=(c.length:Int)))<|
   some (.inl ((c.drop ((1:Int)).toNat),b,(a++ [d]))))<|
  Option.bind (D0 b 0) fun e=>
  ck (decide ((a.length+ [e].length)*24<=140737488355328))<|
  ck (decide (0<=(1:Int)/\1<=(b.length:Int)))<|
  some (.inl (c,(b.drop ((1:Int)).toNat),(a++ [e]))))<|
 Option.map Sum.inr (some ((C8.mk (A2 (h.N+i.N)) a),0))
def A8p (d e:C8) (c b a:List B0):Option (C8×Int):=
 loop (fun (s:((List B0)×(List B0)×(List B0)))=>A7C d e s.1 s.2.1 s.2.2) (c,b,a)
def A58 (e f:C8):Option (C8×Int):=
 Option.bind (A0c e) fun a=>
 cond (a !=0) (
  some ((C8.mk 0 []),a))<|
 Option.bind (A0c f) fun b=>
 cond (b !=0) (
  some ((C8.mk 0 []),b))<|
 cond (decide ((A2 (e.N+f.N))>1099511627776)) (
  some ((C8.mk 0 []),5))<|
 Option.bind (A6v e f true) fun c=>
 Option.bind (A6v f e false) fun d=>
 A8p e f c d ([]:List B0)
def A7D (f:C8) (g e c:Int) (a:List B0):Option ((Int×Int×(List B0))⊕(C8×Int)):=
 cond (decide (c<=g)) (
  ck (decide (g≠0))<|
  Option.bind (B1Z f.Ac (A2 (1+(A2 (Int.tdiv (A2 (c*(A2 (f.N-1)))) g))))) fun b=>
  cond (decide (b>e)) (
   Option.bind (D0 f.Ac b) fun d=>
   ck (decide ((a.length+ [d].length)*24<=140737488355328))<|
   some (.inl (b,(A2 (c+1)),(a++ [d]))))<|
  some (.inl (e,(A2 (c+1)),a)))<|
 Option.map Sum.inr (some ((C8.mk f.N a),0))
def A8q (d:C8) (e b c:Int) (a:List B0):Option (C8×Int):=
 loop (fun (s:(Int×Int×(List B0)))=>A7D d e s.1 s.2.1 s.2.2) (b,c,a)
def A59 (b:C8) (c:Int):Option (C8×Int):=
 Option.bind (A0c b) fun a=>
 cond (a !=0) (
  some ((C8.mk 0 []),a))<|
 cond ((decide (c<1))||(decide (c>65536))) (
  some ((C8.mk 0 []),1))<|
 cond (decide ((b.Ac.length:Int)<=(A2 (c+1)))) (
  some (b,0))<|
 A8q b c (-1:Int) 0 ([]:List B0)
def A2T (d c b a:Int):Option ((Int×Int)⊕Int):=
 cond (decide (a<=d)) (
  ck (decide (0<=(G8 a)))<|
  cond (decide ((A78 .i64 1 (G8 a))>(A2 (c+1)))) (
   ck (decide (c≠0))<|
   some (.inl ((A2 ((A2 (2*b))+(A2 (Int.tdiv (A2 ((A2 ((A2 ((A78 .i64 1 (G8 a))-1))+c))-1)) c)))),(A2 (a+1)))))<|
  some (.inl (b,(A2 (a+1)))))<|
 Option.map Sum.inr (some b)
def B1f (c d a b:Int):Option Int:=
 loop (fun (s:(Int×Int))=>A2T c d s.1 s.2) (a,b)
def A9B (a b:Int):Option Int:=
 cond ((((decide (a<0))||(decide (a>30)))||(decide (b<1)))||(decide (b>65536))) (
  some (-1:Int))<|
 B1f a b 0 0
def A6P (c:Int) (a:List A6):Option ((List A6)⊕(List A6)):=
 Option.bind (gd (decide ((a.length:Int)>(0:Int))) (D0 a 0)) fun b=>
 cond ((decide ((a.length:Int)>(0:Int)))&&(decide (b.T<c))) (
 ck (decide (0<=(1:Int)/\1<=(a.length:Int)))<|
 some (.inl (a.drop ((1:Int)).toNat)))<|
 Option.map Sum.inr (some a)
def B10 (b:Int) (a:List A6):Option (List A6):=
 loop (fun (s:(List A6))=>A6P b s) a
def B5B (a:List A6) (b:Int):Option (List A6):=
 B10 b a
def B81 (d:List A6) (b:List A3) (c:Int):Option (((List A3)×Int)⊕(List A3)):=
 cond (decide (c<(d.length:Int))) (
  Option.bind (D0 d c) fun a=>
  ck (decide ((b.length+ [(A3.mk a.T a.As)].length)*16<=140737488355328))<|
  some (.inl ((b++ [(A3.mk a.T a.As)]),(A2 (c+1)))))<|
 Option.map Sum.inr (some b)
def B93 (c:List A6) (a:List A3) (b:Int):Option (List A3):=
 loop (fun (s:((List A3)×Int))=>B81 c s.1 s.2) (a,b)
def B2p (a:List A6):Option (List A3):=
 B93 a ([]:List A3) 0
def A8W (c:List A6):Option Int:=
 Option.bind (B2p c) fun a=>
 Option.bind (A1k a) fun b=>
 some b
def A4h (j:List A6) (k c:Int):Option (Int⊕Bool):=
 cond (decide (c<(j.length:Int))) (
  Option.bind (D0 j c) fun a=>
  Option.bind (A0c a.Aw) fun g=>
  ck (!(!(g !=0))||(decide (0<=(G8 a.As))))<|
  cond (((g !=0)||(a.Aw.N !=(A78 .i64 1 (G8 a.As))))||(decide ((a.Aw.Ac.length:Int)>(A2 (k+1))))) (
   some (.inr false))<|
  Option.bind (D0 a.Aw.Ac 0) fun d=>
  Option.bind (D0 a.Aw.Ac (A2 ((a.Aw.Ac.length:Int)-(1:Int)))) fun b=>
  let e:=(F0 d.V);
  let f:=(F0 b.V);
  Option.bind (gd (!((((!e)||(!f))||(decide (a.Az<d.V)))||(decide (a.Az>b.V)))) (B5z a.Aw)) fun h=>
  Option.bind (gd (!((((!e)||(!f))||(decide (a.Az<d.V)))||(decide (a.Az>b.V)))) (A9B a.As k)) fun i=>
  cond (((((!e)||(!f))||(decide (a.Az<d.V)))||(decide (a.Az>b.V)))||(decide ((A2 (h-1))>i))) (
   some (.inr false))<|
  some (.inl (A2 (c+1))))<|
 Option.map Sum.inr (some true)
def B21 (b:List A6) (c a:Int):Option Bool:=
 loop (fun (s:Int)=>A4h b c s) a
def A8X (d:List A6) (e c:Int):Option Bool:=
 Option.bind (gd (!((decide (c<1))||(decide (c>65536)))) (B2p d)) fun b=>
 Option.bind (gd (!((decide (c<1))||(decide (c>65536)))) (A32 b e)) fun a=>
 cond (((decide (c<1))||(decide (c>65536)))||(!a)) (
  some false)<|
 B21 d c 0
def C8H (a:Int):C8:=
 (C8.mk 1 [(B0.mk a 1 1)])
def A6Q (n o:Int) (b:List A6) (e a f c:Int):Option ((Int×Int×Int)⊕(((List A6)×Int)⊕(List A6))):=
 cond (decide (c<(b.length:Int))) (
  Option.bind (D0 b c) fun k=>
  Option.bind (D0 b c) fun h=>
  cond (h.As==e) (
   cond (decide (a<0)) (
    some (.inl (c,(A2 (f+1)),(A2 (c+1)))))<|
   some (.inl (a,(A2 (f+1)),(A2 (c+1)))))<|
  some (.inl (a,f,(A2 (c+1)))))<|
 Option.map Sum.inr (cond (decide (f<=(A2 (n+1)))) (
  some (.inr b))<|
 Option.bind (D0 b a) fun l=>
 Option.bind (D0 b a) fun i=>
 Option.bind (D0 b (A2 (a+1))) fun m=>
 Option.bind (D0 b (A2 (a+1))) fun d=>
 Option.bind (A58 i.Aw d.Aw) fun j=>
 Option.bind (A59 j.1 o) fun g=>
 ck (decide (0<=a/\a<=(b.length:Int)))<|
 ck (decide ((([]:List A6).length+(b.take (a).toNat).length)*56<=140737488355328))<|
 ck (decide (((([]:List A6)++(b.take (a).toNat)).length+ [(A6.mk d.T d.Az (A2 (e+1)) g.1)].length)*56<=140737488355328))<|
 ck (decide (0<=(A2 (a+2))/\(A2 (a+2))<=(b.length:Int)))<|
 ck (decide ((((([]:List A6)++(b.take (a).toNat))++ [(A6.mk d.T d.Az (A2 (e+1)) g.1)]).length+(b.drop ((A2 (a+(2:Int)))).toNat).length)*56<=140737488355328))<|
 some (.inl ((((([]:List A6)++(b.take (a).toNat))++ [(A6.mk d.T d.Az (A2 (e+1)) g.1)])++(b.drop ((A2 (a+(2:Int)))).toNat)),(A2 (e+1)))))
def A7E (f g:Int) (a:List A6) (b c d e:Int):Option (((List A6)×Int)⊕(List A6)):=
 loop (fun (s:(Int×Int×Int))=>A6Q f g a b s.1 s.2.1 s.2.2) (c,d,e)
def A3K (c d:Int) (a:List A6) (b:Int):Option (((List A6)×Int)⊕(List A6)):=
 cond (decide (b<=30)) (
  A7E c d a b (-1:Int) 0 0)<|
 Option.map Sum.inr (some a)
def A2x (c d:Int) (a:List A6) (b:Int):Option (List A6):=
 loop (fun (s:((List A6)×Int))=>A3K c d s.1 s.2) (a,b)
def B5C (g:List A6) (j k h i:Int):Option (List A6):=
 Option.bind (A8X g j k) fun a=>
 let b:=(E7 h);
 Option.bind (gd ((!((!a)||(!b)))&&(decide ((g.length:Int)>(0:Int)))) (D0 g (A2 ((g.length:Int)-(1:Int))))) fun c=>
 let d:=(F0 i);
 Option.bind (gd (!((((!a)||(!b))||((decide ((g.length:Int)>(0:Int)))&&(decide (h<c.T))))||(!d))) (A8W g)) fun f=>
 cond (((((!a)||(!b))||((decide ((g.length:Int)>(0:Int)))&&(decide (h<c.T))))||(!d))||(decide (f>=1073741824))) (
  some [])<|
 ck (decide ((([]:List A6).length+g.length)*56<=140737488355328))<|
 let e:=(C8H i);
 ck (decide (((([]:List A6)++g).length+ [(A6.mk h i 0 e)].length)*56<=140737488355328))<|
 A2x j k ((([]:List A6)++g)++ [(A6.mk h i 0 e)]) 0
def B5D (c d e f:Int):(B6×Int):=
 let a:=(H1 c e f);
 let b:=(G7 d);
 cond ((!a)||(!b)) (
  ((B6.mk 0 0 0 0 []),1))<|
 ((B6.mk c d e f []),0)
def A2y (d:B6) (a:Int):Option (Int⊕Int):=
 cond (decide (a<(d.Ag.length:Int))) (
  Option.bind (D0 d.Ag a) fun b=>
  let c:=(E0 d.Now d.W b.T);
  cond (!c) (
   some (.inr 2))<|
  some (.inl (A2 (a+1))))<|
 Option.map Sum.inr (some 0)
def A90 (b:B6) (a:Int):Option Int:=
 loop (fun (s:Int)=>A2y b s) a
def A8r (f:B6):Option Int:=
 let b:=(H1 f.W f.Cap f.Now);
 let a:=(G7 f.K);
 Option.bind (gd (!((!b)||(!a))) (A1a f.K f.Cap)) fun d=>
 Option.bind (gd (!((!b)||(!a))) (A8X f.Ag (A2 (2*f.K)) d)) fun c=>
 Option.bind (gd (!(((!b)||(!a))||(!c))) (A8W f.Ag)) fun e=>
 cond ((((!b)||(!a))||(!c))||(decide (e>f.Cap))) (
  some 2)<|
 A90 f 0
def N3 (m:B3) (i:C4) (a:D2) (b:D8) (c:B9) (d:C2) (e:D3) (j:Int) (k:List Int) (f:B4) (l:List A5) (g:B7) (h:B6):B3:=
 (B3.mk m.Ai i a b c d e (E3.mk j k) f (D6.mk l) g h)
def O0 (a:B3):B3:=
 cond (a.Ai.Ax==1) (
  N3 a a.Aj (D2.mk 0 0 0 0 []) (D8.mk 0 0 0 0 0 []) (B9.mk 0 0 0 0 0 0 []) (C2.mk 0 0 0 0 0 []) (D3.mk 0 0 0 []) 0 ([]:List Int) (B4.mk false 0 0 0 []) ([]:List A5) (B7.mk 0 0 0 []) (B6.mk 0 0 0 0 []))<|
 cond (a.Ai.Ax==2) (
  N3 a (C4.mk 0 0 0 []) a.Ap (D8.mk 0 0 0 0 0 []) (B9.mk 0 0 0 0 0 0 []) (C2.mk 0 0 0 0 0 []) (D3.mk 0 0 0 []) 0 ([]:List Int) (B4.mk false 0 0 0 []) ([]:List A5) (B7.mk 0 0 0 []) (B6.mk 0 0 0 0 []))<|
 cond (a.Ai.Ax==3) (
  N3 a (C4.mk 0 0 0 []) (D2.mk 0 0 0 0 []) a.Sum (B9.mk 0 0 0 0 0 0 []) (C2.mk 0 0 0 0 0 []) (D3.mk 0 0 0 []) 0 ([]:List Int) (B4.mk false 0 0 0 []) ([]:List A5) (B7.mk 0 0 0 []) (B6.mk 0 0 0 0 []))<|
 cond (a.Ai.Ax==4) (
  N3 a (C4.mk 0 0 0 []) (D2.mk 0 0 0 0 []) (D8.mk 0 0 0 0 0 []) a.Al (C2.mk 0 0 0 0 0 []) (D3.mk 0 0 0 []) 0 ([]:List Int) (B4.mk false 0 0 0 []) ([]:List A5) (B7.mk 0 0 0 []) (B6.mk 0 0 0 0 []))<|
 cond (a.Ai.Ax==5) (
  N3 a (C4.mk 0 0 0 []) (D2.mk 0 0 0 0 []) (D8.mk 0 0 0 0 0 []) (B9.mk 0 0 0 0 0 0 []) a.Am (D3.mk 0 0 0 []) 0 ([]:List Int) (B4.mk false 0 0 0 []) ([]:List A5) (B7.mk 0 0 0 []) (B6.mk 0 0 0 0 []))<|
 cond (a.Ai.Ax==6) (
  N3 a (C4.mk 0 0 0 []) (D2.mk 0 0 0 0 []) (D8.mk 0 0 0 0 0 []) (B9.mk 0 0 0 0 0 0 []) (C2.mk 0 0 0 0 0 []) a.Bb 0 ([]:List Int) (B4.mk false 0 0 0 []) ([]:List A5) (B7.mk 0 0 0 []) (B6.mk 0 0 0 0 []))<|
 cond (a.Ai.Ax==7) (
  N3 a (C4.mk 0 0 0 []) (D2.mk 0 0 0 0 []) (D8.mk 0 0 0 0 0 []) (B9.mk 0 0 0 0 0 0 []) (C2.mk 0 0 0 0 0 []) (D3.mk 0 0 0 []) a.Aq.Now a.Aq.Bc (B4.mk false 0 0 0 []) ([]:List A5) (B7.mk 0 0 0 []) (B6.mk 0 0 0 0 []))<|
 cond (a.Ai.Ax==8) (
  N3 a (C4.mk 0 0 0 []) (D2.mk 0 0 0 0 []) (D8.mk 0 0 0 0 0 []) (B9.mk 0 0 0 0 0 0 []) (C2.mk 0 0 0 0 0 []) (D3.mk 0 0 0 []) 0 ([]:List Int) a.Ad ([]:List A5) (B7.mk 0 0 0 []) (B6.mk 0 0 0 0 []))<|
 cond (a.Ai.Ax==9) (
  N3 a (C4.mk 0 0 0 []) (D2.mk 0 0 0 0 []) (D8.mk 0 0 0 0 0 []) (B9.mk 0 0 0 0 0 0 []) (C2.mk 0 0 0 0 0 []) (D3.mk 0 0 0 []) 0 ([]:List Int) (B4.mk false 0 0 0 []) a.Ak.Ah (B7.mk 0 0 0 []) (B6.mk 0 0 0 0 []))<|
 cond (a.Ai.Ax==10) (
  N3 a (C4.mk 0 0 0 []) (D2.mk 0 0 0 0 []) (D8.mk 0 0 0 0 0 []) (B9.mk 0 0 0 0 0 0 []) (C2.mk 0 0 0 0 0 []) (D3.mk 0 0 0 []) 0 ([]:List Int) (B4.mk false 0 0 0 []) ([]:List A5) a.Af (B6.mk 0 0 0 0 []))<|
 cond (a.Ai.Ax==11) (
  N3 a (C4.mk 0 0 0 []) (D2.mk 0 0 0 0 []) (D8.mk 0 0 0 0 0 []) (B9.mk 0 0 0 0 0 0 []) (C2.mk 0 0 0 0 0 []) (D3.mk 0 0 0 []) 0 ([]:List Int) (B4.mk false 0 0 0 []) ([]:List A5) (B7.mk 0 0 0 []) a.Aa)<|
 N3 a (C4.mk 0 0 0 []) (D2.mk 0 0 0 0 []) (D8.mk 0 0 0 0 0 []) (B9.mk 0 0 0 0 0 0 []) (C2.mk 0 0 0 0 0 []) (D3.mk 0 0 0 []) 0 ([]:List Int) (B4.mk false 0 0 0 []) ([]:List A5) (B7.mk 0 0 0 []) (B6.mk 0 0 0 0 [])
def Q8 (X:C9) (V W a:Int) (b:List A9) (c d e f:Int) (g:List A3) (h i j k l:Int) (m:List A3) (n o p q r s:Int) (t:List A4) (u v w x y:Int) (z:List A4) (A B C:Int) (D:List C5) (E:Int) (F:List Int) (G:Bool) (H I J:Int) (K:List A9) (L:List A5) (M N O:Int) (P:List D4) (Q R S T:Int) (U:List A6):Option (B3×Int):=
 some ((B3.mk X (C4.mk V W a b) (D2.mk c d e f g) (D8.mk h i j k l m) (B9.mk n o p q r s t) (C2.mk u v w x y z) (D3.mk A B C D) (E3.mk E F) (B4.mk G H I J K) (D6.mk L) (B7.mk M N O P) (B6.mk Q R S T U)),0)
def C06 (n:C9) (o:Int):Option (B3×Int):=
 let k:=(A0d n);
 cond (k !=0) (
  some ((B3.mk (C9.mk 0 0 0 0 0 0 0 0) (C4.mk 0 0 0 []) (D2.mk 0 0 0 0 []) (D8.mk 0 0 0 0 0 []) (B9.mk 0 0 0 0 0 0 []) (C2.mk 0 0 0 0 0 []) (D3.mk 0 0 0 []) (E3.mk 0 []) (B4.mk false 0 0 0 []) (D6.mk []) (B7.mk 0 0 0 []) (B6.mk 0 0 0 0 [])),k))<|
 let m:=(E7 o);
 cond (!m) (
  some ((B3.mk (C9.mk 0 0 0 0 0 0 0 0) (C4.mk 0 0 0 []) (D2.mk 0 0 0 0 []) (D8.mk 0 0 0 0 0 []) (B9.mk 0 0 0 0 0 0 []) (C2.mk 0 0 0 0 0 []) (D3.mk 0 0 0 []) (E3.mk 0 []) (B4.mk false 0 0 0 []) (D6.mk []) (B7.mk 0 0 0 []) (B6.mk 0 0 0 0 [])),1))<|
 cond (n.Ax==1) (
  let i:=(B5l n.W n.Cap o);
  Q8 n i.1.W i.1.Cap i.1.Now i.1.Ar 0 0 0 0 ([]:List A3) 0 0 0 0 0 ([]:List A3) 0 0 0 0 0 0 ([]:List A4) 0 0 0 0 0 ([]:List A4) 0 0 0 ([]:List C5) 0 ([]:List Int) false 0 0 0 ([]:List A9) ([]:List A5) 0 0 0 ([]:List D4) 0 0 0 0 [])<|
 cond (n.Ax==2) (
  let d:=(B5o n.W n.K n.Cap o);
  Q8 n 0 0 0 ([]:List A9) d.1.W d.1.K d.1.Cap d.1.Now d.1.Ab 0 0 0 0 0 ([]:List A3) 0 0 0 0 0 0 ([]:List A4) 0 0 0 0 0 ([]:List A4) 0 0 0 ([]:List C5) 0 ([]:List Int) false 0 0 0 ([]:List A9) ([]:List A5) 0 0 0 ([]:List D4) 0 0 0 0 [])<|
 cond (n.Ax==3) (
  let b:=(B5p n.W n.K n.Cap n.Be o);
  Q8 n 0 0 0 ([]:List A9) 0 0 0 0 ([]:List A3) b.1.W b.1.K b.1.Cap b.1.Be b.1.Now b.1.Ab 0 0 0 0 0 0 ([]:List A4) 0 0 0 0 0 ([]:List A4) 0 0 0 ([]:List C5) 0 ([]:List Int) false 0 0 0 ([]:List A9) ([]:List A5) 0 0 0 ([]:List D4) 0 0 0 0 [])<|
 cond (n.Ax==4) (
  let a:=(B5q n.Bd n.W n.K n.Cap o);
  Q8 n 0 0 0 ([]:List A9) 0 0 0 0 ([]:List A3) 0 0 0 0 0 ([]:List A3) a.1.Bd a.1.W a.1.K a.1.Cap a.1.Now a.1.Bg a.1.Av 0 0 0 0 0 ([]:List A4) 0 0 0 ([]:List C5) 0 ([]:List Int) false 0 0 0 ([]:List A9) ([]:List A5) 0 0 0 ([]:List D4) 0 0 0 0 [])<|
 cond (n.Ax==5) (
  let c:=(B5r n.W n.K n.Cap o);
  Q8 n 0 0 0 ([]:List A9) 0 0 0 0 ([]:List A3) 0 0 0 0 0 ([]:List A3) 0 0 0 0 0 0 ([]:List A4) c.1.W c.1.K c.1.Cap c.1.Now c.1.Bg c.1.Av 0 0 0 ([]:List C5) 0 ([]:List Int) false 0 0 0 ([]:List A9) ([]:List A5) 0 0 0 ([]:List D4) 0 0 0 0 [])<|
 cond (n.Ax==6) (
  Option.bind (B1Y n.P o) fun g=>
  Q8 n 0 0 0 ([]:List A9) 0 0 0 0 ([]:List A3) 0 0 0 0 0 ([]:List A3) 0 0 0 0 0 0 ([]:List A4) 0 0 0 0 0 ([]:List A4) g.1.P g.1.Ay g.1.Now g.1.Ae 0 ([]:List Int) false 0 0 0 ([]:List A9) ([]:List A5) 0 0 0 ([]:List D4) 0 0 0 0 [])<|
 cond (n.Ax==7) (
  Option.bind (B5t n.W o) fun j=>
  Q8 n 0 0 0 ([]:List A9) 0 0 0 0 ([]:List A3) 0 0 0 0 0 ([]:List A3) 0 0 0 0 0 0 ([]:List A4) 0 0 0 0 0 ([]:List A4) 0 0 0 ([]:List C5) j.1.Now j.1.Bc false 0 0 0 ([]:List A9) ([]:List A5) 0 0 0 ([]:List D4) 0 0 0 0 [])<|
 cond (n.Ax==8) (
  let e:=(B5u (n.Be==1) n.W n.Cap o);
  Q8 n 0 0 0 ([]:List A9) 0 0 0 0 ([]:List A3) 0 0 0 0 0 ([]:List A3) 0 0 0 0 0 0 ([]:List A4) 0 0 0 0 0 ([]:List A4) 0 0 0 ([]:List C5) 0 ([]:List Int) e.1.Be e.1.W e.1.Cap e.1.Now e.1.Ar ([]:List A5) 0 0 0 ([]:List D4) 0 0 0 0 [])<|
 cond (n.Ax==9) (
  Option.bind (B5x n.Ah n.W n.Cap) fun l=>
  Q8 n 0 0 0 ([]:List A9) 0 0 0 0 ([]:List A3) 0 0 0 0 0 ([]:List A3) 0 0 0 0 0 0 ([]:List A4) 0 0 0 0 0 ([]:List A4) 0 0 0 ([]:List C5) 0 ([]:List Int) false 0 0 0 ([]:List A9) l.1.Ah 0 0 0 ([]:List D4) 0 0 0 0 [])<|
 cond (n.Ax==10) (
  let h:=(A1n n.K n.Cap);
  Q8 n 0 0 0 ([]:List A9) 0 0 0 0 ([]:List A3) 0 0 0 0 0 ([]:List A3) 0 0 0 0 0 0 ([]:List A4) 0 0 0 0 0 ([]:List A4) 0 0 0 ([]:List C5) 0 ([]:List Int) false 0 0 0 ([]:List A9) ([]:List A5) h.1.K h.1.Cap h.1.N h.1.Ao 0 0 0 0 [])<|
 cond (n.Ax==11) (
  let f:=(B5D n.W n.K n.Cap o);
  Q8 n 0 0 0 ([]:List A9) 0 0 0 0 ([]:List A3) 0 0 0 0 0 ([]:List A3) 0 0 0 0 0 0 ([]:List A4) 0 0 0 0 0 ([]:List A4) 0 0 0 ([]:List C5) 0 ([]:List Int) false 0 0 0 ([]:List A9) ([]:List A5) 0 0 0 ([]:List D4) f.1.W f.1.K f.1.Cap f.1.Now f.1.Ag)<|
 Q8 n 0 0 0 ([]:List A9) 0 0 0 0 ([]:List A3) 0 0 0 0 0 ([]:List A3) 0 0 0 0 0 0 ([]:List A4) 0 0 0 0 0 ([]:List A4) 0 0 0 ([]:List C5) 0 ([]:List Int) false 0 0 0 ([]:List A9) ([]:List A5) 0 0 0 ([]:List D4) 0 0 0 0 ([]:List A6)
def B3R (n:B3):Option Bool:=
 cond (n.Ai.Ax==1) (
  Option.bind (A0b n.Aj) fun k=>
  some (((k==0)&&(n.Aj.W==n.Ai.W))&&(n.Aj.Cap==n.Ai.Cap)))<|
 cond (n.Ai.Ax==2) (
  Option.bind (A8g n.Ap) fun l=>
  some ((((l==0)&&(n.Ap.W==n.Ai.W))&&(n.Ap.K==n.Ai.K))&&(n.Ap.Cap==n.Ai.Cap)))<|
 cond (n.Ai.Ax==3) (
  Option.bind (A8h n.Sum) fun m=>
  some (((((m==0)&&(n.Sum.W==n.Ai.W))&&(n.Sum.K==n.Ai.K))&&(n.Sum.Cap==n.Ai.Cap))&&(n.Sum.Be==n.Ai.Be)))<|
 cond (n.Ai.Ax==4) (
  Option.bind (A8i n.Al) fun d=>
  some (((((d==0)&&(n.Al.Bd==n.Ai.Bd))&&(n.Al.W==n.Ai.W))&&(n.Al.K==n.Ai.K))&&(n.Al.Cap==n.Ai.Cap)))<|
 cond (n.Ai.Ax==5) (
  Option.bind (A8j n.Am) fun e=>
  some ((((e==0)&&(n.Am.W==n.Ai.W))&&(n.Am.K==n.Ai.K))&&(n.Am.Cap==n.Ai.Cap)))<|
 cond (n.Ai.Ax==6) (
  Option.bind (A8k n.Bb) fun f=>
  some ((f==0)&&(n.Bb.P==n.Ai.P)))<|
 cond (n.Ai.Ax==7) (
  Option.bind (A8l n.Aq) fun g=>
  some ((g==0)&&((n.Aq.Bc.length:Int)==n.Ai.W)))<|
 cond (n.Ai.Ax==8) (
  Option.bind (A8m n.Ad) fun h=>
  some ((((h==0)&&(n.Ad.Be==(n.Ai.Be==1)))&&(n.Ad.W==n.Ai.W))&&(n.Ad.Cap==n.Ai.Cap)))<|
 cond (n.Ai.Ax==9) (
  Option.bind (A5u n.Ak) fun a=>
  Option.bind (gd ((a==0)&&((n.Ak.Ah.length:Int)==n.Ai.Ah)) (D0 n.Ak.Ah 0)) fun b=>
  Option.bind (gd (((a==0)&&((n.Ak.Ah.length:Int)==n.Ai.Ah))&&(b.W==n.Ai.W)) (D0 n.Ak.Ah 0)) fun c=>
  some ((((a==0)&&((n.Ak.Ah.length:Int)==n.Ai.Ah))&&(b.W==n.Ai.W))&&(c.Cap==n.Ai.Cap)))<|
 cond (n.Ai.Ax==10) (
  Option.bind (A8o n.Af) fun i=>
  some (((i==0)&&(n.Af.K==n.Ai.K))&&(n.Af.Cap==n.Ai.Cap)))<|
 cond (n.Ai.Ax==11) (
  Option.bind (A8r n.Aa) fun j=>
  some ((((j==0)&&(n.Aa.W==n.Ai.W))&&(n.Aa.K==n.Ai.K))&&(n.Aa.Cap==n.Ai.Cap)))<|
 some false
def A8s (e:B3):Option Int:=
 let a:=(A0d e.Ai);
 Option.bind (gd (!(a !=0)) (B3R e)) fun b=>
 let c:=(O0 e);
 Option.bind (gd (!((a !=0)||(!b))) (A2z e c)) fun d=>
 cond (((a !=0)||(!b))||(!d)) (
  some 2)<|
 some 0
end
end Go.Win
