/- The functions of the program and of the statements, as functions on plain data: made by program out of the translated code. -/
import Derived.Test.YtoljnakoodalpaaGreatVc
set_option linter.unusedVariables false
namespace Go.Win
open Go.Vc Go.Dec
noncomputable section
structure B1 where
 V:Int
 Bf:Int
 Be:Int
 deriving Inhabited
def A5 (p:B1):List AV:= [.int .i64 p.V, .int .i64 p.Bf, .int .i64 p.Be]
def C2l (p:B1):Prop:=(E7 .i64) p.V/\(E7 .i64) p.Bf/\(E7 .i64) p.Be
def A5V (p:B1):Prop:=(E7 .i64) p.V/\(E7 .i64) p.Bf/\(E7 .i64) p.Be
structure D0 where
 N:Int
 Ac:(List B1)
 deriving Inhabited
def A3f (p:D0):List AV:= [.int .i64 p.N, .lst 3 false (List.map A5 p.Ac)]
def C2n (p:D0):Prop:=(E7 .i64) p.N/\(wfL C2l) p.Ac
def B3S (p:D0):Prop:=(E7 .i64) p.N/\(W2 A5V) p.Ac
structure B3 where
 T:Int
 Az:Int
 As:Int
 Aw:D0
 deriving Inhabited
def B5 (p:B3):List AV:= [.int .i64 p.T, .int .i64 p.Az, .int .i64 p.As, .int .i64 p.Aw.N, .lst 3 false (List.map A5 p.Aw.Ac)]
def C2i (p:B3):Prop:=(E7 .i64) p.T/\(E7 .i64) p.Az/\(E7 .i64) p.As/\C2n p.Aw
def A5T (p:B3):Prop:=(E7 .i64) p.T/\(E7 .i64) p.Az/\(E7 .i64) p.As/\B3S p.Aw
structure A3 where
 T:Int
 As:Int
 deriving Inhabited
def B0 (p:A3):List AV:= [.int .i64 p.T, .int .i64 p.As]
def B3T (p:A3):Prop:=(E7 .i64) p.T/\(E7 .i64) p.As
def A2J (p:A3):Prop:=(E7 .i64) p.T/\(E7 .i64) p.As
structure E9 where
 I:Int
 V:Int
 deriving Inhabited
def E2 (p:E9):List AV:= [.int .i64 p.I, .int .i64 p.V]
def C3q (p:E9):Prop:=(E7 .i64) p.I/\(E7 .i64) p.V
def A64 (p:E9):Prop:=(E7 .i64) p.I/\(E7 .i64) p.V
structure A9 where
 W:Int
 Cap:Int
 I:Int
 Ba:Int
 Au:(List E9)
 deriving Inhabited
def B2 (p:A9):List AV:= [.int .i64 p.W, .int .i64 p.Cap, .int .i64 p.I, .int .i64 p.Ba, .lst 2 false (List.map E2 p.Au)]
def C2j (p:A9):Prop:=(E7 .i64) p.W/\(E7 .i64) p.Cap/\(E7 .i64) p.I/\(E7 .i64) p.Ba/\(wfL C3q) p.Au
def A5U (p:A9):Prop:=(E7 .i64) p.W/\(E7 .i64) p.Cap/\(E7 .i64) p.I/\(E7 .i64) p.Ba/\(W2 A64) p.Au
structure E4 where
 Ax:Int
 Bd:Int
 W:Int
 K:Int
 Cap:Int
 P:Int
 Ah:Int
 Be:Int
 deriving Inhabited
def J4 (p:E4):List AV:= [.int .i64 p.Ax, .int .i64 p.Bd, .int .i64 p.W, .int .i64 p.K, .int .i64 p.Cap, .int .i64 p.P, .int .i64 p.Ah, .int .i64 p.Be]
def B9S (p:E4):Prop:=(E7 .i64) p.Ax/\(E7 .i64) p.Bd/\(E7 .i64) p.W/\(E7 .i64) p.K/\(E7 .i64) p.Cap/\(E7 .i64) p.P/\(E7 .i64) p.Ah/\(E7 .i64) p.Be
def B2D (p:E4):Prop:=(E7 .i64) p.Ax/\(E7 .i64) p.Bd/\(E7 .i64) p.W/\(E7 .i64) p.K/\(E7 .i64) p.Cap/\(E7 .i64) p.P/\(E7 .i64) p.Ah/\(E7 .i64) p.Be
structure D5 where
 W:Int
 K:Int
 Cap:Int
 Now:Int
 Ab:(List A3)
 deriving Inhabited
def H7 (p:D5):List AV:= [.int .i64 p.W, .int .i64 p.K, .int .i64 p.Cap, .int .i64 p.Now, .lst 2 false (List.map B0 p.Ab)]
def C2k (p:D5):Prop:=(E7 .i64) p.W/\(E7 .i64) p.K/\(E7 .i64) p.Cap/\(E7 .i64) p.Now/\(wfL B3T) p.Ab
def A8E (p:D5):Prop:=(E7 .i64) p.W/\(E7 .i64) p.K/\(E7 .i64) p.Cap/\(E7 .i64) p.Now/\(W2 A2J) p.Ab
structure B6 where
 T:Int
 V:Int
 deriving Inhabited
def C7 (p:B6):List AV:= [.int .i64 p.T, .int .i64 p.V]
def B6h (p:B6):Prop:=(E7 .i64) p.T/\(E7 .i64) p.V
def A4n (p:B6):Prop:=(E7 .i64) p.T/\(E7 .i64) p.V
structure B7 where
 Be:Bool
 W:Int
 Cap:Int
 Now:Int
 Ar:(List B6)
 deriving Inhabited
def F5 (p:B7):List AV:= [.sb p.Be, .int .i64 p.W, .int .i64 p.Cap, .int .i64 p.Now, .lst 2 false (List.map C7 p.Ar)]
def B8y (p:B7):Prop:=(fun _:Bool=>True) p.Be/\(E7 .i64) p.W/\(E7 .i64) p.Cap/\(E7 .i64) p.Now/\(wfL B6h) p.Ar
def A63 (p:B7):Prop:=(fun _:Bool=>True) p.Be/\(E7 .i64) p.W/\(E7 .i64) p.Cap/\(E7 .i64) p.Now/\(W2 A4n) p.Ar
structure E5 where
 Now:Int
 Bc:(List Int)
 deriving Inhabited
def A3e (p:E5):List AV:= [.int .i64 p.Now, .lst 1 false (List.map (eI .i64) p.Bc)]
def C2m (p:E5):Prop:=(E7 .i64) p.Now/\(wfL (E7 .i64)) p.Bc
def A8F (p:E5):Prop:=(E7 .i64) p.Now/\(W2 (E7 .i64)) p.Bc
structure A7 where
 Bg:Int
 T:Int
 N:Int
 S:Int
 Q:Int
 Bf:Int
 Be:Int
 deriving Inhabited
def A4 (p:A7):List AV:= [.int .i64 p.Bg, .int .i64 p.T, .int .i64 p.N, .int .i64 p.S, .int .i64 p.Q, .int .i64 p.Bf, .int .i64 p.Be]
def B6i (p:A7):Prop:=(E7 .i64) p.Bg/\(E7 .i64) p.T/\(E7 .i64) p.N/\(E7 .i64) p.S/\(E7 .i64) p.Q/\(E7 .i64) p.Bf/\(E7 .i64) p.Be
def A4o (p:A7):Prop:=(E7 .i64) p.Bg/\(E7 .i64) p.T/\(E7 .i64) p.N/\(E7 .i64) p.S/\(E7 .i64) p.Q/\(E7 .i64) p.Bf/\(E7 .i64) p.Be
structure C1 where
 Hi:Int
 Lo:Int
 deriving Inhabited
def F0 (p:C1):List AV:= [.int .u64 p.Hi, .int .u64 p.Lo]
def C3s (p:C1):Prop:=(E7 .u64) p.Hi/\(E7 .u64) p.Lo
def A4p (p:C1):Prop:=(E7 .u64) p.Hi/\(E7 .u64) p.Lo
structure D3 where
 P:Int
 Ay:Int
 Now:Int
 Ae:(List C1)
 deriving Inhabited
def H5 (p:D3):List AV:= [.int .i64 p.P, .int .i64 p.Ay, .int .i64 p.Now, .lst 2 false (List.map F0 p.Ae)]
def C3r (p:D3):Prop:=(E7 .i64) p.P/\(E7 .i64) p.Ay/\(E7 .i64) p.Now/\(wfL C3s) p.Ae
def B0v (p:D3):Prop:=(E7 .i64) p.P/\(E7 .i64) p.Ay/\(E7 .i64) p.Now/\(W2 A4p) p.Ae
structure B8 where
 W:Int
 K:Int
 Cap:Int
 Now:Int
 Ag:(List B3)
 deriving Inhabited
def F6 (p:B8):List AV:= [.int .i64 p.W, .int .i64 p.K, .int .i64 p.Cap, .int .i64 p.Now, .lst 5 false (List.map B5 p.Ag)]
def B7Q (p:B8):Prop:=(E7 .i64) p.W/\(E7 .i64) p.K/\(E7 .i64) p.Cap/\(E7 .i64) p.Now/\(wfL C2i) p.Ag
def A6c (p:B8):Prop:=(E7 .i64) p.W/\(E7 .i64) p.K/\(E7 .i64) p.Cap/\(E7 .i64) p.Now/\(W2 A5T) p.Ag
structure C8 where
 W:Int
 Cap:Int
 Now:Int
 Ar:(List B6)
 deriving Inhabited
def H4 (p:C8):List AV:= [.int .i64 p.W, .int .i64 p.Cap, .int .i64 p.Now, .lst 2 false (List.map C7 p.Ar)]
def B9T (p:C8):Prop:=(E7 .i64) p.W/\(E7 .i64) p.Cap/\(E7 .i64) p.Now/\(wfL B6h) p.Ar
def A7D (p:C8):Prop:=(E7 .i64) p.W/\(E7 .i64) p.Cap/\(E7 .i64) p.Now/\(W2 A4n) p.Ar
structure D6 where
 Ah:(List A9)
 deriving Inhabited
def A2f (p:D6):List AV:= [.lst 5 false (List.map B2 p.Ah)]
def B9U (p:D6):Prop:=(wfL C2j) p.Ah
def A7E (p:D6):Prop:=(W2 A5U) p.Ah
structure C3 where
 Bd:Int
 W:Int
 K:Int
 Cap:Int
 Now:Int
 Bg:Int
 Av:(List A7)
 deriving Inhabited
def G0 (p:C3):List AV:= [.int .i64 p.Bd, .int .i64 p.W, .int .i64 p.K, .int .i64 p.Cap, .int .i64 p.Now, .int .i64 p.Bg, .lst 7 false (List.map A4 p.Av)]
def B9V (p:C3):Prop:=(E7 .i64) p.Bd/\(E7 .i64) p.W/\(E7 .i64) p.K/\(E7 .i64) p.Cap/\(E7 .i64) p.Now/\(E7 .i64) p.Bg/\(wfL B6i) p.Av
def A7F (p:C3):Prop:=(E7 .i64) p.Bd/\(E7 .i64) p.W/\(E7 .i64) p.K/\(E7 .i64) p.Cap/\(E7 .i64) p.Now/\(E7 .i64) p.Bg/\(W2 A4o) p.Av
structure C4 where
 W:Int
 K:Int
 Cap:Int
 Now:Int
 Bg:Int
 Av:(List A7)
 deriving Inhabited
def G6 (p:C4):List AV:= [.int .i64 p.W, .int .i64 p.K, .int .i64 p.Cap, .int .i64 p.Now, .int .i64 p.Bg, .lst 7 false (List.map A4 p.Av)]
def B9W (p:C4):Prop:=(E7 .i64) p.W/\(E7 .i64) p.K/\(E7 .i64) p.Cap/\(E7 .i64) p.Now/\(E7 .i64) p.Bg/\(wfL B6i) p.Av
def A7G (p:C4):Prop:=(E7 .i64) p.W/\(E7 .i64) p.K/\(E7 .i64) p.Cap/\(E7 .i64) p.Now/\(E7 .i64) p.Bg/\(W2 A4o) p.Av
structure D9 where
 W:Int
 K:Int
 Cap:Int
 Be:Int
 Now:Int
 Ab:(List A3)
 deriving Inhabited
def I4 (p:D9):List AV:= [.int .i64 p.W, .int .i64 p.K, .int .i64 p.Cap, .int .i64 p.Be, .int .i64 p.Now, .lst 2 false (List.map B0 p.Ab)]
def C5B (p:D9):Prop:=(E7 .i64) p.W/\(E7 .i64) p.K/\(E7 .i64) p.Cap/\(E7 .i64) p.Be/\(E7 .i64) p.Now/\(wfL B3T) p.Ab
def B1Q (p:D9):Prop:=(E7 .i64) p.W/\(E7 .i64) p.K/\(E7 .i64) p.Cap/\(E7 .i64) p.Be/\(E7 .i64) p.Now/\(W2 A2J) p.Ab
structure D4 where
 V:Int
 G:Int
 D:Int
 deriving Inhabited
def D1 (p:D4):List AV:= [.int .i64 p.V, .int .i64 p.G, .int .i64 p.D]
def C2o (p:D4):Prop:=(E7 .i64) p.V/\(E7 .i64) p.G/\(E7 .i64) p.D
def A5W (p:D4):Prop:=(E7 .i64) p.V/\(E7 .i64) p.G/\(E7 .i64) p.D
structure A8 where
 K:Int
 Cap:Int
 N:Int
 Ao:(List D4)
 deriving Inhabited
def E0 (p:A8):List AV:= [.int .i64 p.K, .int .i64 p.Cap, .int .i64 p.N, .lst 3 false (List.map D1 p.Ao)]
def B8z (p:A8):Prop:=(E7 .i64) p.K/\(E7 .i64) p.Cap/\(E7 .i64) p.N/\(wfL C2o) p.Ao
def A65 (p:A8):Prop:=(E7 .i64) p.K/\(E7 .i64) p.Cap/\(E7 .i64) p.N/\(W2 A5W) p.Ao
structure C2 where
 Ai:E4
 Aj:C8
 Ap:D5
 Sum:D9
 Al:C3
 Am:C4
 Bb:D3
 Aq:E5
 Ad:B7
 Ak:D6
 Af:A8
 Aa:B8
 deriving Inhabited
def E3 (p:C2):List AV:= [.int .i64 p.Ai.Ax, .int .i64 p.Ai.Bd, .int .i64 p.Ai.W, .int .i64 p.Ai.K, .int .i64 p.Ai.Cap, .int .i64 p.Ai.P, .int .i64 p.Ai.Ah, .int .i64 p.Ai.Be, .int .i64 p.Aj.W, .int .i64 p.Aj.Cap, .int .i64 p.Aj.Now, .lst 2 false (List.map C7 p.Aj.Ar), .int .i64 p.Ap.W, .int .i64 p.Ap.K, .int .i64 p.Ap.Cap, .int .i64 p.Ap.Now, .lst 2 false (List.map B0 p.Ap.Ab), .int .i64 p.Sum.W, .int .i64 p.Sum.K, .int .i64 p.Sum.Cap, .int .i64 p.Sum.Be, .int .i64 p.Sum.Now, .lst 2 false (List.map B0 p.Sum.Ab), .int .i64 p.Al.Bd, .int .i64 p.Al.W, .int .i64 p.Al.K, .int .i64 p.Al.Cap, .int .i64 p.Al.Now, .int .i64 p.Al.Bg, .lst 7 false (List.map A4 p.Al.Av), .int .i64 p.Am.W, .int .i64 p.Am.K, .int .i64 p.Am.Cap, .int .i64 p.Am.Now, .int .i64 p.Am.Bg, .lst 7 false (List.map A4 p.Am.Av), .int .i64 p.Bb.P, .int .i64 p.Bb.Ay, .int .i64 p.Bb.Now, .lst 2 false (List.map F0 p.Bb.Ae), .int .i64 p.Aq.Now, .lst 1 false (List.map (eI .i64) p.Aq.Bc), .sb p.Ad.Be, .int .i64 p.Ad.W, .int .i64 p.Ad.Cap, .int .i64 p.Ad.Now, .lst 2 false (List.map C7 p.Ad.Ar), .lst 5 false (List.map B2 p.Ak.Ah), .int .i64 p.Af.K, .int .i64 p.Af.Cap, .int .i64 p.Af.N, .lst 3 false (List.map D1 p.Af.Ao), .int .i64 p.Aa.W, .int .i64 p.Aa.K, .int .i64 p.Aa.Cap, .int .i64 p.Aa.Now, .lst 5 false (List.map B5 p.Aa.Ag)]
def C8d (p:C2):Prop:=B9S p.Ai/\B9T p.Aj/\C2k p.Ap/\C5B p.Sum/\B9V p.Al/\B9W p.Am/\C3r p.Bb/\C2m p.Aq/\B8y p.Ad/\B9U p.Ak/\B8z p.Af/\B7Q p.Aa
def M8 (p:C2):Prop:=B2D p.Ai/\A7D p.Aj/\A8E p.Ap/\B1Q p.Sum/\A7F p.Al/\A7G p.Am/\B0v p.Bb/\A8F p.Aq/\A63 p.Ad/\A7E p.Ak/\A65 p.Af/\A6c p.Aa
structure I2 where
 draws_:(List Int)
 at_:Int
 beyond_:Int
 deriving Inhabited
def A2X (p:I2):List AV:= [.lst 1 false (List.map (eI .i64) p.draws_), .int .i64 p.at_, .int .i64 p.beyond_]
def C8e (p:I2):Prop:=(wfL (E7 .i64)) p.draws_/\(E7 .i64) p.at_/\(E7 .i64) p.beyond_
def C7Y (p:I2):Prop:=(W2 (E7 .i64)) p.draws_/\(E7 .i64) p.at_/\(E7 .i64) p.beyond_
def A7S (b a:Int):Option (Int×Bool):=
 cond ((a==0)||((b==(-9223372036854775808:Int))&&(a==(-1:Int)))) (
  some (0,false))<|
 ck (decide (a≠0))<|
 ck (decide (a≠0))<|
 cond (((Int.tmod b a) !=0)&&((decide (b<0))==(decide (a<0)))) (
  some ((A2 ((A2 (Int.tdiv b a))+1)),true))<|
 some ((A2 (Int.tdiv b a)),true)
def A1i (e d b a:Int):Option ((Int×Int)⊕Int):=
 cond (decide (a<=e)) (
  ck (decide (0<=(F9 a)))<|
  cond (decide ((A7o .i64 1 (F9 a))>(A2 (d+1)))) (
   Option.bind (A7S (A2 ((A7o .i64 1 (F9 a))-1)) d) fun c=>
   some (.inl ((A2 ((A2 (2*b))+c.1)),(A2 (a+1)))))<|
  some (.inl (b,(A2 (a+1)))))<|
 Option.map Sum.inr (some b)
def A8G (c d a b:Int):Option Int:=
 loop (fun (s:(Int×Int))=>A1i c d s.1 s.2) (a,b)
def A4q (a b:Int):Option Int:=
 cond ((((decide (a<0))||(decide (a>30)))||(decide (b<1)))||(decide (b>65536))) (
  some (-1:Int))<|
 A8G a b 0 0
def A0J (d:List B3) (b:List A3) (c:Int):Option (((List A3)×Int)⊕(List A3)):=
 cond (decide (c<(d.length:Int))) (
  Option.bind (D2 d c) fun a=>
  ck (decide ((b.length+ [(A3.mk a.T a.As)].length)*16<=140737488355328))<|
  some (.inl ((b++ [(A3.mk a.T a.As)]),(A2 (c+1)))))<|
 Option.map Sum.inr (some b)
def B0B (c:List B3) (a:List A3) (b:Int):Option (List A3):=
 loop (fun (s:((List A3)×Int))=>A0J c s.1 s.2) (a,b)
def A2b (a:List B3):Option (List A3):=
 B0B a ([]:List A3) 0
def A0l (a:Int):Bool:=
 ((decide (a>=0))&&(decide (a<=30)))
def B5z (e:List A3) (b a:Int):Option ((Int×Int)⊕Int):=
 cond (decide (a<(e.length:Int))) (
  Option.bind (D2 e a) fun c=>
  let d:=(A0l c.As);
  cond d (
   ck (decide (0<=(F9 c.As)))<|
   some (.inl ((A2 (b+(A7o .i64 1 (F9 c.As)))),(A2 (a+1)))))<|
  some (.inl (b,(A2 (a+1)))))<|
 Option.map Sum.inr (some b)
def B6m (c:List A3) (a b:Int):Option Int:=
 loop (fun (s:(Int×Int))=>B5z c s.1 s.2) (a,b)
def R2 (a:List A3):Option Int:=
 B6m a 0 0
def A2a (c:List B3):Option Int:=
 Option.bind (A2b c) fun a=>
 Option.bind (R2 a) fun b=>
 some b
def T9 (a:Int):Bool:=
 ((decide (a>=0))&&(decide (a<=16777216)))
def A1k (L w x y z A B C D E F a b c d e f g h i j k l m n o p q r s t u:Int) (G:A3) (v:Int):Option (Int⊕Bool):=
 cond (decide (v<=G.As)) (
  Option.bind (D2 [w,x,y,z,A,B,C,D,E,F,a,b,c,d,e,f,g,h,i,j,k,l,m,n,o,p,q,r,s,t,u] v) fun K=>
  Option.bind (D2 [w,x,y,z,A,B,C,D,E,F,a,b,c,d,e,f,g,h,i,j,k,l,m,n,o,p,q,r,s,t,u] v) fun H=>
  Option.bind (gd ((!(decide (H>(A2 (L+1)))))&&(decide (v<G.As))) (D2 [w,x,y,z,A,B,C,D,E,F,a,b,c,d,e,f,g,h,i,j,k,l,m,n,o,p,q,r,s,t,u] v)) fun J=>
  Option.bind (gd ((!(decide (H>(A2 (L+1)))))&&(decide (v<G.As))) (D2 [w,x,y,z,A,B,C,D,E,F,a,b,c,d,e,f,g,h,i,j,k,l,m,n,o,p,q,r,s,t,u] v)) fun I=>
  cond ((decide (H>(A2 (L+1))))||((decide (v<G.As))&&(decide (I<L)))) (
   some (.inr false))<|
  some (.inl (A2 (v+1))))<|
 Option.map Sum.inr (some true)
def A1X (I w x y z A B C D E F a b c d e f g h i j k l m n o p q r t u v:Int) (G:A3) (H:Int):Option Bool:=
 loop (fun (s:Int)=>A1k I w x y z A B C D E F a b c d e f g h i j k l m n o p q r t u v G s) H
def A48 (Q:List A3) (R H x y z A B C D E F G c d e f g h i j k l m n o p q r s t u v w:Int):Option ((Int×Int×Int×Int×Int×Int×Int×Int×Int×Int×Int×Int×Int×Int×Int×Int×Int×Int×Int×Int×Int×Int×Int×Int×Int×Int×Int×Int×Int×Int×Int×Int)⊕Bool):=
 cond (decide (H<(Q.length:Int))) (
  Option.bind (D2 Q H) fun a=>
  let L:=(T9 a.T);
  let M:=(A0l a.As);
  cond ((!L)||(!M)) (
   some (.inr false))<|
  Option.bind (gd (decide (H>0)) (D2 Q (A2 (H-1)))) fun I=>
  Option.bind (gd ((decide (H>0))&&(!(decide (I.T>a.T)))) (D2 Q (A2 (H-1)))) fun J=>
  cond ((decide (H>0))&&((decide (I.T>a.T))||(decide (J.As<a.As)))) (
   some (.inr false))<|
  Option.bind (D2 [x,y,z,A,B,C,D,E,F,G,c,d,e,f,g,h,i,j,k,l,m,n,o,p,q,r,s,t,u,v,w] a.As) fun N=>
  Option.bind (D2 [x,y,z,A,B,C,D,E,F,G,c,d,e,f,g,h,i,j,k,l,m,n,o,p,q,r,s,t,u,v,w] a.As) fun b=>
  Option.bind (D2 [x,y,z,A,B,C,D,E,F,G,c,d,e,f,g,h,i,j,k,l,m,n,o,p,q,r,s,t,u,v,w] a.As) fun O=>
  Option.bind (D2 [x,y,z,A,B,C,D,E,F,G,c,d,e,f,g,h,i,j,k,l,m,n,o,p,q,r,s,t,u,v,w] a.As) fun P=>
  some (.inl ((A2 (H+1)),(if (a.As).toNat=0 then (A2 (b+1)) else x),(if (a.As).toNat=1 then (A2 (b+1)) else y),(if (a.As).toNat=2 then (A2 (b+1)) else z),(if (a.As).toNat=3 then (A2 (b+1)) else A),(if (a.As).toNat=4 then (A2 (b+1)) else B),(if (a.As).toNat=5 then (A2 (b+1)) else C),(if (a.As).toNat=6 then (A2 (b+1)) else D),(if (a.As).toNat=7 then (A2 (b+1)) else E),(if (a.As).toNat=8 then (A2 (b+1)) else F),(if (a.As).toNat=9 then (A2 (b+1)) else G),(if (a.As).toNat=10 then (A2 (b+1)) else c),(if (a.As).toNat=11 then (A2 (b+1)) else d),(if (a.As).toNat=12 then (A2 (b+1)) else e),(if (a.As).toNat=13 then (A2 (b+1)) else f),(if (a.As).toNat=14 then (A2 (b+1)) else g),(if (a.As).toNat=15 then (A2 (b+1)) else h),(if (a.As).toNat=16 then (A2 (b+1)) else i),(if (a.As).toNat=17 then (A2 (b+1)) else j),(if (a.As).toNat=18 then (A2 (b+1)) else k),(if (a.As).toNat=19 then (A2 (b+1)) else l),(if (a.As).toNat=20 then (A2 (b+1)) else m),(if (a.As).toNat=21 then (A2 (b+1)) else n),(if (a.As).toNat=22 then (A2 (b+1)) else o),(if (a.As).toNat=23 then (A2 (b+1)) else p),(if (a.As).toNat=24 then (A2 (b+1)) else q),(if (a.As).toNat=25 then (A2 (b+1)) else r),(if (a.As).toNat=26 then (A2 (b+1)) else s),(if (a.As).toNat=27 then (A2 (b+1)) else t),(if (a.As).toNat=28 then (A2 (b+1)) else u),(if (a.As).toNat=29 then (A2 (b+1)) else v),(if (a.As).toNat=30 then (A2 (b+1)) else w))))<|
 Option.map Sum.inr (cond ((Q.length:Int)==(0:Int)) (
  some true)<|
 Option.bind (D2 Q 0) fun K=>
 A1X R x y z A B C D E F G c d e f g h i j k l m n o p q r s t u v w K 0)
def A9F (H:List A3) (I G w x y z A B C D E F a b c d e f g h i j k l m n o p q r t u v:Int):Option Bool:=
 loop (fun (s:(Int×Int×Int×Int×Int×Int×Int×Int×Int×Int×Int×Int×Int×Int×Int×Int×Int×Int×Int×Int×Int×Int×Int×Int×Int×Int×Int×Int×Int×Int×Int×Int))=>A48 H I s.1 s.2.1 s.2.2.1 s.2.2.2.1 s.2.2.2.2.1 s.2.2.2.2.2.1 s.2.2.2.2.2.2.1 s.2.2.2.2.2.2.2.1 s.2.2.2.2.2.2.2.2.1 s.2.2.2.2.2.2.2.2.2.1 s.2.2.2.2.2.2.2.2.2.2.1 s.2.2.2.2.2.2.2.2.2.2.2.1 s.2.2.2.2.2.2.2.2.2.2.2.2.1 s.2.2.2.2.2.2.2.2.2.2.2.2.2.1 s.2.2.2.2.2.2.2.2.2.2.2.2.2.2.1 s.2.2.2.2.2.2.2.2.2.2.2.2.2.2.2.1 s.2.2.2.2.2.2.2.2.2.2.2.2.2.2.2.2.1 s.2.2.2.2.2.2.2.2.2.2.2.2.2.2.2.2.2.1 s.2.2.2.2.2.2.2.2.2.2.2.2.2.2.2.2.2.2.1 s.2.2.2.2.2.2.2.2.2.2.2.2.2.2.2.2.2.2.2.1 s.2.2.2.2.2.2.2.2.2.2.2.2.2.2.2.2.2.2.2.2.1 s.2.2.2.2.2.2.2.2.2.2.2.2.2.2.2.2.2.2.2.2.2.1 s.2.2.2.2.2.2.2.2.2.2.2.2.2.2.2.2.2.2.2.2.2.2.1 s.2.2.2.2.2.2.2.2.2.2.2.2.2.2.2.2.2.2.2.2.2.2.2.1 s.2.2.2.2.2.2.2.2.2.2.2.2.2.2.2.2.2.2.2.2.2.2.2.2.1 s.2.2.2.2.2.2.2.2.2.2.2.2.2.2.2.2.2.2.2.2.2.2.2.2.2.1 s.2.2.2.2.2.2.2.2.2.2.2.2.2.2.2.2.2.2.2.2.2.2.2.2.2.2.1 s.2.2.2.2.2.2.2.2.2.2.2.2.2.2.2.2.2.2.2.2.2.2.2.2.2.2.2.1 s.2.2.2.2.2.2.2.2.2.2.2.2.2.2.2.2.2.2.2.2.2.2.2.2.2.2.2.2.1 s.2.2.2.2.2.2.2.2.2.2.2.2.2.2.2.2.2.2.2.2.2.2.2.2.2.2.2.2.2.1 s.2.2.2.2.2.2.2.2.2.2.2.2.2.2.2.2.2.2.2.2.2.2.2.2.2.2.2.2.2.2.1 s.2.2.2.2.2.2.2.2.2.2.2.2.2.2.2.2.2.2.2.2.2.2.2.2.2.2.2.2.2.2.2) (G,w,x,y,z,A,B,C,D,E,F,a,b,c,d,e,f,g,h,i,j,k,l,m,n,o,p,q,r,t,u,v)
def V5 (b:List A3) (a:Int):Option Bool:=
 cond ((decide (a<1))||(decide (a>128))) (
  some false)<|
 A9F b a 0 0 0 0 0 0 0 0 0 0 0 0 0 0 0 0 0 0 0 0 0 0 0 0 0 0 0 0 0 0 0 0
def A11 (f:D0) (a:Int):Option (Int⊕Int):=
 cond (decide (a<(f.Ac.length:Int))) (
  Option.bind (D2 f.Ac a) fun b=>
  cond (((decide (b.Bf<1))||(decide (b.Bf>b.Be)))||(decide (b.Be>f.N))) (
   some (.inr 2))<|
  cond (decide (a>0)) (
   Option.bind (D2 f.Ac (A2 (a-1))) fun c=>
   cond (((decide (c.V>b.V))||(decide (c.Bf>=b.Bf)))||(decide (c.Be>=b.Be))) (
    some (.inr 2))<|
   some (.inl (A2 (a+1))))<|
  some (.inl (A2 (a+1))))<|
 Option.map Sum.inr (Option.bind (gd (decide ((f.Ac.length:Int)>(0:Int))) (D2 f.Ac 0)) fun d=>
 Option.bind (gd ((decide ((f.Ac.length:Int)>(0:Int)))&&(!(d.Be !=1))) (D2 f.Ac (A2 ((f.Ac.length:Int)-(1:Int))))) fun e=>
 cond ((decide ((f.Ac.length:Int)>(0:Int)))&&((d.Be !=1)||(e.Bf !=f.N))) (
  some 2)<|
 some 0)
def B0f (b:D0) (a:Int):Option Int:=
 loop (fun (s:Int)=>A11 b s) a
def V8 (a:D0):Option Int:=
 cond (((decide (a.N<0))||(decide (a.N>1099511627776)))||(!(((a.Ac.length:Int)==(0:Int))==(a.N==0)))) (
  some 2)<|
 B0f a 0
def B0e (e:D0) (b a:Int):Option ((Int×Int)⊕Int):=
 cond (decide (a<(e.Ac.length:Int))) (
  Option.bind (D2 e.Ac a) fun d=>
  Option.bind (D2 e.Ac (A2 (a-1))) fun c=>
  some (.inl ((X0 b (A2 (d.Be-c.Bf))),(A2 (a+1)))))<|
 Option.map Sum.inr (some b)
def A7V (c:D0) (a b:Int):Option Int:=
 loop (fun (s:(Int×Int))=>B0e c s.1 s.2) (a,b)
def B3a (b:D0):Option Int:=
 Option.bind (V8 b) fun a=>
 cond ((a !=0)||((b.Ac.length:Int)==(0:Int))) (
  some 0)<|
 A7V b 1 1
def A2T (i:List B3) (h b:Int):Option (Int⊕Bool):=
 cond (decide (b<(i.length:Int))) (
  Option.bind (D2 i b) fun a=>
  Option.bind (V8 a.Aw) fun c=>
  ck (!(!(c !=0))||(decide (0<=(F9 a.As))))<|
  Option.bind (gd (!(((c !=0)||(a.Aw.N !=(A7o .i64 1 (F9 a.As))))||(decide ((a.Aw.Ac.length:Int)>(A2 (h+1)))))) (B3a a.Aw)) fun f=>
  Option.bind (gd (!(((c !=0)||(a.Aw.N !=(A7o .i64 1 (F9 a.As))))||(decide ((a.Aw.Ac.length:Int)>(A2 (h+1)))))) (A4q a.As h)) fun g=>
  cond ((((c !=0)||(a.Aw.N !=(A7o .i64 1 (F9 a.As))))||(decide ((a.Aw.Ac.length:Int)>(A2 (h+1)))))||(decide ((A2 (f-1))>g))) (
   some (.inr false))<|
  Option.bind (D2 a.Aw.Ac 0) fun e=>
  Option.bind (D2 a.Aw.Ac (A2 ((a.Aw.Ac.length:Int)-(1:Int)))) fun d=>
  cond ((((decide (e.V<(-4096:Int)))||(decide (d.V>4096)))||(decide (a.Az<e.V)))||(decide (a.Az>d.V))) (
   some (.inr false))<|
  some (.inl (A2 (b+1))))<|
 Option.map Sum.inr (some true)
def B0A (b:List B3) (c a:Int):Option Bool:=
 loop (fun (s:Int)=>A2T b c s) a
def A32 (d:List B3) (e c:Int):Option Bool:=
 Option.bind (gd (!((decide (c<1))||(decide (c>65536)))) (A2b d)) fun b=>
 Option.bind (gd (!((decide (c<1))||(decide (c>65536)))) (V5 b e)) fun a=>
 cond (((decide (c<1))||(decide (c>65536)))||(!a)) (
  some false)<|
 B0A d c 0
def A8o (a:Int):D0:=
 (D0.mk 1 [(B1.mk a 1 1)])
def A1x (c:B1) (d:List B1) (e f a:Int):Option B1:=
 cond (decide (e<(d.length:Int))) (
  Option.bind (D2 d e) fun b=>
  some (B1.mk c.V a (A2 (c.Be+(A2 (b.Be-1))))))<|
 some (B1.mk c.V a (A2 (c.Be+f)))
def A4a (b:B1) (d:List B1) (c e:Int):Option B1:=
 cond (decide (c>0)) (
  Option.bind (D2 d (A2 (c-1))) fun a=>
  A1x b d c e (A2 (b.Bf+a.Bf)))<|
 A1x b d c e b.Bf
def A1R (a:D0):Option D0:=
 ck (decide ((([]:List B1).length+a.Ac.length)*24<=140737488355328))<|
 some (D0.mk a.N (([]:List B1)++a.Ac))
def A4B (b:List B1) (c d:Int) (a:B1):Option ((Int×Int×(List B1))⊕(D0×Int)):=
 ck (decide ((b.length+ [a].length)*24<=140737488355328))<|
 some (.inl (c,d,(b++ [a])))
def A4C (j k:D0) (a b:Int) (c:List B1):Option ((Int×Int×(List B1))⊕(D0×Int)):=
 cond ((decide (a<(j.Ac.length:Int)))||(decide (b<(k.Ac.length:Int)))) (
  Option.bind (gd ((!(b==(k.Ac.length:Int)))&&(decide (a<(j.Ac.length:Int)))) (D2 j.Ac a)) fun d=>
  Option.bind (gd ((!(b==(k.Ac.length:Int)))&&(decide (a<(j.Ac.length:Int)))) (D2 k.Ac b)) fun e=>
  cond ((b==(k.Ac.length:Int))||((decide (a<(j.Ac.length:Int)))&&(decide (d.V<=e.V)))) (
   Option.bind (D2 j.Ac a) fun f=>
   Option.bind (A4a f k.Ac b k.N) fun g=>
   A4B c (A2 (a+1)) b g)<|
  Option.bind (D2 k.Ac b) fun h=>
  Option.bind (A4a h j.Ac a j.N) fun i=>
  A4B c a (A2 (b+1)) i)<|
 Option.map Sum.inr (some ((D0.mk (A2 (j.N+k.N)) c),0))
def A8t (d e:D0) (b c:Int) (a:List B1):Option (D0×Int):=
 loop (fun (s:(Int×Int×(List B1)))=>A4C d e s.1 s.2.1 s.2.2) (b,c,a)
def A4A (e f:D0):Option (D0×Int):=
 Option.bind (V8 e) fun a=>
 cond (a !=0) (
  some ((D0.mk 0 []),a))<|
 Option.bind (V8 f) fun b=>
 cond (b !=0) (
  some ((D0.mk 0 []),b))<|
 cond (decide (e.N>(A2 (1099511627776-f.N)))) (
  some ((D0.mk 0 []),5))<|
 cond (e.N==0) (
  Option.bind (A1R f) fun c=>
  some (c,0))<|
 cond (f.N==0) (
  Option.bind (A1R e) fun d=>
  some (d,0))<|
 A8t e f 0 0 ([]:List B1)
def A58 (a:B1) (b:Int):Int:=
 (X0 (A2 (b-a.Bf)) (A2 (a.Be-b)))
def A7t (f:List B1) (g a:Int):Option (Int⊕Int):=
 Option.bind (gd (decide ((A2 (a+1))<(f.length:Int))) (D2 f (A2 (a+1)))) fun e=>
 let b:=(A58 e g);
 Option.bind (gd (decide ((A2 (a+1))<(f.length:Int))) (D2 f a)) fun c=>
 let d:=(A58 c g);
 cond ((decide ((A2 (a+1))<(f.length:Int)))&&(decide (b<d))) (
  some (.inl (A2 (a+1))))<|
 Option.map Sum.inr (some a)
def B3I (b:List B1) (c a:Int):Option Int:=
 loop (fun (s:Int)=>A7t b c s) a
def A4F (a:List B1) (b c:Int):Option Int:=
 B3I a b c
def A4E (g:D0) (h e f c:Int) (a:List B1):Option ((Int×Int×Int×(List B1))⊕(D0×Int)):=
 cond (decide (c<=h)) (
  ck (decide (h≠0))<|
  Option.bind (A4F g.Ac (A2 (1+(A2 (Int.tdiv (A2 (c*(A2 (g.N-1)))) h)))) f) fun b=>
  cond (b !=e) (
   Option.bind (D2 g.Ac b) fun d=>
   ck (decide ((a.length+ [d].length)*24<=140737488355328))<|
   some (.inl (b,b,(A2 (c+1)),(a++ [d]))))<|
  some (.inl (e,b,(A2 (c+1)),a)))<|
 Option.map Sum.inr (some ((D0.mk g.N a),0))
def A8u (e:D0) (f c d b:Int) (a:List B1):Option (D0×Int):=
 loop (fun (s:(Int×Int×Int×(List B1)))=>A4E e f s.1 s.2.1 s.2.2.1 s.2.2.2) (c,d,b,a)
def A4D (c:D0) (d:Int):Option (D0×Int):=
 Option.bind (V8 c) fun a=>
 cond (a !=0) (
  some ((D0.mk 0 []),a))<|
 cond ((decide (d<1))||(decide (d>65536))) (
  some ((D0.mk 0 []),1))<|
 cond (decide ((c.Ac.length:Int)<=(A2 (d+1)))) (
  Option.bind (A1R c) fun b=>
  some (b,0))<|
 A8u c d (-1:Int) 0 0 ([]:List B1)
def A1W (o p:Int) (b:List B3) (f d a:Int):Option (Int⊕(((List B3)×Int×Int)⊕(List B3))):=
 Option.bind (gd (decide (a>0)) (D2 b (A2 (a-1)))) fun n=>
 Option.bind (gd (decide (a>0)) (D2 b (A2 (a-1)))) fun i=>
 cond ((decide (a>0))&&(i.As==d)) (
  some (.inl (A2 (a-1))))<|
 Option.map Sum.inr (cond (decide ((A2 (f-a))<(A2 (o+2)))) (
  some (.inr b))<|
 Option.bind (D2 b a) fun l=>
 Option.bind (D2 b a) fun g=>
 Option.bind (D2 b (A2 (a+1))) fun m=>
 Option.bind (D2 b (A2 (a+1))) fun c=>
 Option.bind (A4A g.Aw c.Aw) fun h=>
 Option.bind (A4D h.1 p) fun e=>
 Option.bind (D2 b a) fun j=>
 Option.bind (D2 b a) fun k=>
 ck (decide (0<=(A2 (a+1))/\(A2 (a+1))<=((b.set (a).toNat (B3.mk c.T c.Az (A2 (d+1)) e.1)).length:Int)))<|
 ck (decide (0<=(A2 (a+2))/\(A2 (a+2))<=((b.set (a).toNat (B3.mk c.T c.Az (A2 (d+1)) e.1)).length:Int)))<|
 ck (decide (0<((A2 (a+(1:Int)))).toNat/\((A2 (a+(1:Int)))).toNat+(((b.set (a).toNat (B3.mk c.T c.Az (A2 (d+1)) e.1)).drop ((A2 (a+(2:Int)))).toNat).take ((b.set (a).toNat (B3.mk c.T c.Az (A2 (d+1)) e.1)).length-((A2 (a+(2:Int)))).toNat)).length<=(b.set (a).toNat (B3.mk c.T c.Az (A2 (d+1)) e.1)).length))<|
 some (.inl (((b.set (a).toNat (B3.mk c.T c.Az (A2 (d+1)) e.1)).take ((A2 (a+(1:Int)))).toNat++(((b.set (a).toNat (B3.mk c.T c.Az (A2 (d+1)) e.1)).drop ((A2 (a+(2:Int)))).toNat).take ((b.set (a).toNat (B3.mk c.T c.Az (A2 (d+1)) e.1)).length-((A2 (a+(2:Int)))).toNat))),(A2 (a+1)),(A2 (d+1)))))
def A5Y (e f:Int) (a:List B3) (b c d:Int):Option (((List B3)×Int×Int)⊕(List B3)):=
 loop (fun (s:Int)=>A1W e f a b c s) d
def A1V (d e:Int) (b:List B3) (a c:Int):Option (((List B3)×Int×Int)⊕(List B3)):=
 A5Y d e b a c a
def A0I (d e:Int) (a:List B3) (b c:Int):Option (List B3):=
 loop (fun (s:((List B3)×Int×Int))=>A1V d e s.1 s.2.1 s.2.2) (a,b,c)
def A5z (e:List B3) (h i f g:Int):Option (List B3):=
 Option.bind (A32 e h i) fun a=>
 Option.bind (gd ((!(((!a)||(decide (f<0)))||(decide (f>16777216))))&&(decide ((e.length:Int)>(0:Int)))) (D2 e (A2 ((e.length:Int)-(1:Int))))) fun c=>
 Option.bind (gd (!((((((!a)||(decide (f<0)))||(decide (f>16777216)))||((decide ((e.length:Int)>(0:Int)))&&(decide (c.T>f))))||(decide (g<(-4096:Int))))||(decide (g>4096)))) (A2a e)) fun d=>
 cond (((((((!a)||(decide (f<0)))||(decide (f>16777216)))||((decide ((e.length:Int)>(0:Int)))&&(decide (c.T>f))))||(decide (g<(-4096:Int))))||(decide (g>4096)))||(decide (d>=1073741824))) (
  some [])<|
 ck (decide ((([]:List B3).length+e.length)*56<=140737488355328))<|
 let b:=(A8o g);
 ck (decide (((([]:List B3)++e).length+ [(B3.mk f g 0 b)].length)*56<=140737488355328))<|
 A0I h i ((([]:List B3)++e)++ [(B3.mk f g 0 b)]) (((([]:List B3)++e)++ [(B3.mk f g 0 b)]).length:Int) 0
def Z4 (k:Int) (b:List A3) (e d a:Int):Option (Int⊕(((List A3)×Int×Int)⊕(List A3))):=
 Option.bind (gd (decide (a>0)) (D2 b (A2 (a-1)))) fun j=>
 Option.bind (gd (decide (a>0)) (D2 b (A2 (a-1)))) fun f=>
 cond ((decide (a>0))&&(f.As==d)) (
  some (.inl (A2 (a-1))))<|
 Option.map Sum.inr (cond (decide ((A2 (e-a))<(A2 (k+2)))) (
  some (.inr b))<|
 Option.bind (D2 b (A2 (a+1))) fun i=>
 Option.bind (D2 b (A2 (a+1))) fun c=>
 Option.bind (D2 b a) fun g=>
 Option.bind (D2 b a) fun h=>
 ck (decide (0<=(A2 (a+1))/\(A2 (a+1))<=((b.set (a).toNat (A3.mk c.T (A2 (d+(1:Int))))).length:Int)))<|
 ck (decide (0<=(A2 (a+2))/\(A2 (a+2))<=((b.set (a).toNat (A3.mk c.T (A2 (d+(1:Int))))).length:Int)))<|
 ck (decide (0<((A2 (a+(1:Int)))).toNat/\((A2 (a+(1:Int)))).toNat+(((b.set (a).toNat (A3.mk c.T (A2 (d+(1:Int))))).drop ((A2 (a+(2:Int)))).toNat).take ((b.set (a).toNat (A3.mk c.T (A2 (d+(1:Int))))).length-((A2 (a+(2:Int)))).toNat)).length<=(b.set (a).toNat (A3.mk c.T (A2 (d+(1:Int))))).length))<|
 some (.inl (((b.set (a).toNat (A3.mk c.T (A2 (d+(1:Int))))).take ((A2 (a+(1:Int)))).toNat++(((b.set (a).toNat (A3.mk c.T (A2 (d+(1:Int))))).drop ((A2 (a+(2:Int)))).toNat).take ((b.set (a).toNat (A3.mk c.T (A2 (d+(1:Int))))).length-((A2 (a+(2:Int)))).toNat))),(A2 (a+1)),(A2 (d+1)))))
def A2U (e:Int) (a:List A3) (b c d:Int):Option (((List A3)×Int×Int)⊕(List A3)):=
 loop (fun (s:Int)=>Z4 e a b c s) d
def Z3 (d:Int) (b:List A3) (a c:Int):Option (((List A3)×Int×Int)⊕(List A3)):=
 A2U d b a c a
def T8 (d:Int) (a:List A3) (b c:Int):Option (List A3):=
 loop (fun (s:((List A3)×Int×Int))=>Z3 d s.1 s.2.1 s.2.2) (a,b,c)
def A0p (a:List A3) (c b:Int):Option (List A3):=
 ck (decide ((a.length+ [(A3.mk b 0)].length)*16<=140737488355328))<|
 T8 c (a++ [(A3.mk b 0)]) ((a++ [(A3.mk b 0)]).length:Int) 0
def A5j (c:List A3) (d:Int):Option Bool:=
 let a:=(T9 d);
 Option.bind (gd (a&&(!((c.length:Int)==(0:Int)))) (D2 c (A2 ((c.length:Int)-(1:Int))))) fun b=>
 some (a&&(((c.length:Int)==(0:Int))||(decide (b.T<=d))))
def A4r (e:List A3) (f g:Int):Option (List A3):=
 Option.bind (V5 e f) fun a=>
 Option.bind (gd (!(!a)) (A5j e g)) fun b=>
 Option.bind (gd (!((!a)||(!b))) (R2 e)) fun c=>
 cond (((!a)||(!b))||(decide (c>=1073741824))) (
  some [])<|
 ck (decide ((([]:List A3).length+e.length)*16<=140737488355328))<|
 Option.bind (A0p (([]:List A3)++e) f g) fun d=>
 some d
def X5 (d e a:Int) (b:List A3):Option ((Int×(List A3))⊕(List A3)):=
 cond (decide (a>0)) (
  Option.bind (A0p b d e) fun c=>
  some (.inl ((A2 (a-1)),c)))<|
 Option.map Sum.inr (some b)
def Z2 (c d a:Int) (b:List A3):Option (List A3):=
 loop (fun (s:(Int×(List A3)))=>X5 c d s.1 s.2) (a,b)
def A1j (e:List A3) (f g d:Int):Option (List A3):=
 Option.bind (V5 e f) fun a=>
 Option.bind (gd (!(!a)) (A5j e g)) fun b=>
 Option.bind (gd ((!((((!a)||(!b))||(decide (d<0)))||(decide (d>1024))))&&(decide (d>0))) (R2 e)) fun c=>
 cond (((((!a)||(!b))||(decide (d<0)))||(decide (d>1024)))||((decide (d>0))&&(decide (c>(A2 (1073741824-d)))))) (
  some [])<|
 ck (decide ((([]:List A3).length+e.length)*16<=140737488355328))<|
 Z2 f g d (([]:List A3)++e)
def A33 (f:A9) (a:Int):Option (Int⊕Int):=
 cond (decide (a<(f.Au.length:Int))) (
  Option.bind (D2 f.Au a) fun b=>
  cond (((((decide (b.V<(-4096:Int)))||(decide (b.V>4096)))||(decide (b.I<1)))||(decide (b.I>f.I)))||(decide (b.I<=(A2 (f.I-f.W))))) (
   some (.inr 2))<|
  Option.bind (gd (decide (a>0)) (D2 f.Au (A2 (a-1)))) fun c=>
  Option.bind (gd ((decide (a>0))&&(!(decide (b.I<=c.I)))) (D2 f.Au (A2 (a-1)))) fun d=>
  cond ((decide (a>0))&&((decide (b.I<=c.I))||(decide (b.I>(A2 (d.I+f.W)))))) (
   some (.inr 2))<|
  some (.inl (A2 (a+1))))<|
 Option.map Sum.inr (Option.bind (gd (!(decide (f.Ba<=f.I))) (D2 f.Au (A2 ((f.Au.length:Int)-(1:Int))))) fun e=>
 cond ((decide (f.Ba<=f.I))||(decide (f.Ba>(A2 (e.I+f.W))))) (
  some 2)<|
 some 0)
def A5a (b:A9) (a:Int):Option Int:=
 loop (fun (s:Int)=>A33 b s) a
def L2 (a:A9):Option Int:=
 cond (((((((decide (a.W<1))||(decide (a.W>1048576)))||(decide (a.Cap<1)))||(decide (a.Cap>64)))||(decide (a.I<0)))||(decide (a.I>1099511627776)))||(decide ((a.Au.length:Int)>a.Cap))) (
  some 2)<|
 cond (a.I==0) (
  cond ((decide ((a.Au.length:Int)>(0:Int)))||(a.Ba !=0)) (
   some 2)<|
  some 0)<|
 cond ((a.Au.length:Int)==(0:Int)) (
  some 2)<|
 A5a a 0
def B0Q (e:List Int) (d f:Int):Option (Int×Int×Int):=
 cond ((decide (f<1))||(decide (d<0))) (
  some (0,0,1))<|
 Option.bind (gd (!(decide (d>=(e.length:Int)))) (D2 e d)) fun a=>
 Option.bind (gd (!((decide (d>=(e.length:Int)))||(decide (a<0)))) (D2 e d)) fun b=>
 cond (((decide (d>=(e.length:Int)))||(decide (a<0)))||(decide (b>=f))) (
  some (0,0,8))<|
 Option.bind (D2 e d) fun c=>
 some (c,(A2 (d+1)),0)
def U9 (b:I2) (c:Int):Option (Int×Int×I2):=
 Option.bind (B0Q b.draws_ b.at_ c) fun a=>
 cond (a.2.2 !=0) (
  cond (decide (b.at_>=(b.draws_.length:Int))) (
   some (0,a.2.2,(I2.mk b.draws_ b.at_ c)))<|
  some (0,a.2.2,b))<|
 some (a.1,0,(I2.mk b.draws_ a.2.1 b.beyond_))
def A9V (d:A9) (c:List E9) (b:I2) (a:Int):Option (A9×Int×I2):=
 some ((A9.mk d.W d.Cap (A2 (d.I+1)) a c),0,b)
def S4 (e:A9) (f:Int) (c:List E9) (d:Bool) (a:I2):Option (A9×Int×I2):=
 cond d (
  cond ((c.length:Int)==e.Cap) (
   some ((A9.mk 0 0 0 0 []),9,a))<|
  ck (decide ((c.length+ [(E9.mk (A2 (e.I+1)) f)].length)*16<=140737488355328))<|
  Option.bind (U9 a e.W) fun b=>
  cond (b.2.1 !=0) (
   some ((A9.mk 0 0 0 0 []),b.2.1,b.2.2))<|
  A9V e (c++ [(E9.mk (A2 (e.I+1)) f)]) b.2.2 (A2 ((A2 ((A2 (e.I+(1:Int)))+(1:Int)))+b.1)))<|
 A9V e c a e.Ba
def A2M (d:A9) (f:Int) (e:I2):Option (A9×Int×I2):=
 cond ((decide (f<(-4096:Int)))||(decide (f>4096))) (
  some ((A9.mk 0 0 0 0 []),4,e))<|
 cond (decide (e.at_<0)) (
  some ((A9.mk 0 0 0 0 []),1,e))<|
 cond (d.I==1099511627776) (
  some ((A9.mk 0 0 0 0 []),5,e))<|
 ck (decide ((([]:List E9).length+d.Au.length)*16<=140737488355328))<|
 Option.bind (gd (decide (((([]:List E9)++d.Au).length:Int)>(0:Int))) (D2 (([]:List E9)++d.Au) 0)) fun c=>
 Option.bind (gd (decide (((([]:List E9)++d.Au).length:Int)>(0:Int))) (D2 (([]:List E9)++d.Au) 0)) fun b=>
 cond ((decide (((([]:List E9)++d.Au).length:Int)>(0:Int)))&&(b.I==(A2 ((A2 (d.I+1))-d.W)))) (
  ck (decide (0<=(1:Int)/\1<=((([]:List E9)++d.Au).length:Int)))<|
  S4 d f ((([]:List E9)++d.Au).drop ((1:Int)).toNat) (d.Ba==(A2 (d.I+1))) e)<|
 Option.bind (U9 e (A0P (A2 (d.I+1)) d.W)) fun a=>
 cond (a.2.1 !=0) (
  some ((A9.mk 0 0 0 0 []),a.2.1,a.2.2))<|
 cond (a.1==0) (
  S4 d f ([]:List E9) true a.2.2)<|
 S4 d f (([]:List E9)++d.Au) (d.Ba==(A2 (d.I+1))) a.2.2
def Y0 (c:A9) (d:Int) (e:List Int) (f:Int):Option (A9×Int×Int):=
 Option.bind (L2 c) fun b=>
 cond (b !=0) (
  some ((A9.mk 0 0 0 0 []),0,b))<|
 Option.bind (A2M c d (I2.mk e f 0)) fun a=>
 cond (a.2.1 !=0) (
  some ((A9.mk 0 0 0 0 []),0,a.2.1))<|
 some (a.1,a.2.2.at_,0)
def A1P (c:A9) (d:Int) (e:List Int) (f:Int):Option (Int×Bool):=
 Option.bind (L2 c) fun b=>
 cond (b !=0) (
  some (0,false))<|
 Option.bind (A2M c d (I2.mk e f 0)) fun a=>
 cond ((a.2.1 !=8)||(a.2.2.beyond_==0)) (
  some (0,false))<|
 some (a.2.2.beyond_,true)
def N8 (a b:Int):(A9×Int):=
 cond ((((decide (a<1))||(decide (a>1048576)))||(decide (b<1)))||(decide (b>64))) (
  ((A9.mk 0 0 0 0 []),1))<|
 ((A9.mk a b 0 0 []),0)
def A85 (a:Int):Bool:=
 ((decide (a>=0))&&(decide (a<=16777216)))
def B1y (c b:Int):Int:=
 let a:=(A85 c);
 cond (((!a)||(decide (b<1)))||(decide (b>1048576))) (
  (-1:Int))<|
 (X0 0 (A2 ((A2 (c-b))+1)))
def X6 (d e c:Int):Bool:=
 let a:=(B1y d e);
 let b:=(A85 c);
 ((((decide (a>=0))&&b)&&(decide (a<=c)))&&(decide (c<=d)))
def C5 (b a:Bool) (c:Int):(Bool×Int):=
 ((a&&b),0)
def E8 (b a:Bool) (c d:Int):(Bool×Int×Int):=
 ((a&&b),0,0)
def B4 (a b c:Int):Bool:=
 ((decide (a>=b))&&(decide (a<=c)))
def A01 (f:E4) (d e:Bool×Int) (c a:Int) (b:Bool):Int:=
 cond ((!b)||(!(f.Ax==f.Ax&&(c==0&&(a==0&&(d.2==0&&(e.2==0&&(f.P==0&&(f.Ah==0&&(f.Be==0&&true)))))))))) (
  1)<|
 0
def A1o (h:E4) (a:Int) (d:Bool):Int:=
 let e:=(B4 h.K 1 64);
 let c:=(C5 e d h.K);
 let f:=(B4 h.Cap 1 65536);
 let b:=(C5 f c.1 h.Cap);
 cond (decide ((1048576:Int)>(0:Int))) (
  let g:=(B4 h.W 1 1048576);
  A01 h c b a 0 (b.1&&g))<|
 A01 h c b a h.W b.1
def Z6 (d:E4) (c:Bool×Int) (a:Int) (b:Bool):Int:=
 cond ((!b)||(!(d.Ax==d.Ax&&(d.Bd==0&&(a==0&&(d.K==0&&(d.Cap==0&&(c.2==0&&(d.Ah==0&&(d.Be==0&&true)))))))))) (
  1)<|
 0
def Z7 (c:E4) (a:Int) (b:Bool):Int:=
 cond ((!b)||(!(c.Ax==c.Ax&&(c.Bd==0&&(a==0&&(c.K==0&&(c.Cap==0&&(c.P==0&&(c.Ah==0&&(c.Be==0&&true)))))))))) (
  1)<|
 0
def Z8 (d:E4) (c:Bool×Int×Int) (a:Int) (b:Bool):Int:=
 cond ((!b)||(!(d.Ax==d.Ax&&(d.Bd==0&&(a==0&&(d.K==0&&(c.2.2==0&&(d.P==0&&(c.2.1==0&&(d.Be==0&&true)))))))))) (
  1)<|
 0
def Z9 (d:E4) (c:Bool×Int×Int) (a:Int) (b:Bool):Int:=
 cond ((!b)||(!(d.Ax==d.Ax&&(d.Bd==0&&(a==0&&(c.2.1==0&&(c.2.2==0&&(d.P==0&&(d.Ah==0&&(d.Be==0&&true)))))))))) (
  1)<|
 0
def A0a (e:E4) (c d:Bool×Int) (a:Int) (b:Bool):Int:=
 cond ((!b)||(!(e.Ax==e.Ax&&(e.Bd==0&&(a==0&&(c.2==0&&(d.2==0&&(e.P==0&&(e.Ah==0&&((0:Int)==(0:Int)&&true)))))))))) (
  1)<|
 0
def A0b (d:E4) (c:Bool×Int) (a:Int) (b:Bool):Int:=
 cond ((!b)||(!(d.Ax==d.Ax&&(d.Bd==0&&(a==0&&(d.K==0&&(c.2==0&&(d.P==0&&(d.Ah==0&&((0:Int)==(0:Int)&&true)))))))))) (
  1)<|
 0
def A0c (d:E4) (c:Bool×Int) (a:Int) (b:Bool):Int:=
 cond ((!b)||(!(d.Ax==d.Ax&&(d.Bd==0&&(a==0&&(d.K==0&&(c.2==0&&(d.P==0&&(d.Ah==0&&(d.Be==0&&true)))))))))) (
  1)<|
 0
def S2 (f:E4) (d:Bool):Int:=
 cond d (
  A1o f f.Bd true)<|
 cond (f.Ax==8) (
  let e:=(B4 f.Be 0 1);
  let b:=(B4 f.Cap 1 65536);
  let a:=(C5 b e f.Cap);
  cond (decide ((1048576:Int)>(0:Int))) (
   let c:=(B4 f.W 1 1048576);
   A0b f a 0 (a.1&&c))<|
  A0b f a f.W a.1)<|
 cond (f.Ax==1) (
  let b:=(B4 f.Cap 1 65536);
  let a:=(C5 b true f.Cap);
  cond (decide ((1048576:Int)>(0:Int))) (
   let c:=(B4 f.W 1 1048576);
   A0c f a 0 (a.1&&c))<|
  A0c f a f.W a.1)<|
 1
def Z5 (q:E4):Int:=
 cond (q.Ax==6) (
  let h:=(B4 q.P 0 4);
  let d:=(C5 h true q.P);
  cond (decide ((0:Int)>(0:Int))) (
   let a:=(B4 q.W 1 0);
   Z6 q d 0 (d.1&&a))<|
  Z6 q d q.W d.1)<|
 cond (q.Ax==7) (
  cond (decide ((64:Int)>(0:Int))) (
   let a:=(B4 q.W 1 64);
   Z7 q 0 a)<|
  Z7 q q.W true)<|
 cond (q.Ax==9) (
  let i:=(B4 q.Ah 1 16);
  let j:=(B4 q.Cap 1 64);
  let b:=(E8 (i&&j) true q.Ah q.Cap);
  cond (decide ((1048576:Int)>(0:Int))) (
   let a:=(B4 q.W 1 1048576);
   Z8 q b 0 (b.1&&a))<|
  Z8 q b q.W b.1)<|
 cond (q.Ax==10) (
  let k:=(B4 q.K 1 64);
  let l:=(B4 q.Cap 2 65536);
  let c:=(E8 (k&&l) true q.K q.Cap);
  cond (decide ((0:Int)>(0:Int))) (
   let a:=(B4 q.W 1 0);
   Z9 q c 0 (c.1&&a))<|
  Z9 q c q.W c.1)<|
 cond (q.Ax==3) (
  let m:=(B4 q.Be 1 1024);
  let n:=(B4 q.K 1 64);
  let f:=(C5 n m q.K);
  let o:=(B4 q.Cap 1 65536);
  let e:=(C5 o f.1 q.Cap);
  cond (decide ((1048576:Int)>(0:Int))) (
   let a:=(B4 q.W 1 1048576);
   A0a q f e 0 (e.1&&a))<|
  A0a q f e q.W e.1)<|
 cond (q.Ax==4) (
  let p:=(B4 q.Bd 1 4);
  let g:=(C5 p true q.Bd);
  A1o q g.2 g.1)<|
 cond (q.Ax==2) (
  S2 q (q.Ax==2))<|
 cond (q.Ax==5) (
  S2 q (q.Ax==5))<|
 S2 q (q.Ax==11)
def A4u (a b c d:Int):Bool:=
 ((((((((decide (a>=1))&&(decide (a<=1048576)))&&(decide (b>=1)))&&(decide (b<=64)))&&(decide (c>=1)))&&(decide (c<=65536)))&&(decide (d>=0)))&&(decide (d<=16777216)))
def A1p (d:D5) (a:Int):Option (Int⊕Int):=
 cond (decide (a<(d.Ab.length:Int))) (
  Option.bind (D2 d.Ab a) fun b=>
  let c:=(X6 d.Now d.W b.T);
  cond (!c) (
   some (.inr 2))<|
  some (.inl (A2 (a+1))))<|
 Option.map Sum.inr (some 0)
def A8M (b:D5) (a:Int):Option Int:=
 loop (fun (s:Int)=>A1p b s) a
def A2c (d:D5):Option Int:=
 let a:=(A4u d.W d.K d.Cap d.Now);
 Option.bind (gd (!(!a)) (V5 d.Ab d.K)) fun b=>
 Option.bind (gd (!((!a)||(!b))) (R2 d.Ab)) fun c=>
 cond (((!a)||(!b))||(decide (c>d.Cap))) (
  some 2)<|
 A8M d 0
def B0P (d:D5):Option (D5×Int):=
 Option.bind (A2c d) fun a=>
 cond (a !=0) (
  some ((D5.mk 0 0 0 0 []),a))<|
 Option.bind (R2 d.Ab) fun b=>
 cond (b==d.Cap) (
  some ((D5.mk 0 0 0 0 []),5))<|
 Option.bind (A4r d.Ab d.K d.Now) fun c=>
 some ((D5.mk d.W d.K d.Cap d.Now c),0)
def A6f (b c d e:Int):(D5×Int):=
 let a:=(A4u b c d e);
 cond (!a) (
  ((D5.mk 0 0 0 0 []),1))<|
 ((D5.mk b c d e []),0)
def A86 (a:Int):Bool:=
 ((decide (a>=0))&&(decide (a<=16777216)))
def B7a (d:List B6) (e a:Int):Option (Int⊕Bool):=
 cond (decide (a<(d.length:Int))) (
  Option.bind (D2 d a) fun b=>
  Option.bind (gd ((!((decide (b.T<0))||(decide (b.T>e))))&&(decide (a>0))) (D2 d (A2 (a-1)))) fun c=>
  cond (((decide (b.T<0))||(decide (b.T>e)))||((decide (a>0))&&(decide (c.T>b.T)))) (
   some (.inr false))<|
  some (.inl (A2 (a+1))))<|
 Option.map Sum.inr (some true)
def B8e (b:List B6) (c a:Int):Option Bool:=
 loop (fun (s:Int)=>B7a b c s) a
def B1B (c:List B6) (b:Int):Option Bool:=
 let a:=(A86 b);
 cond (!a) (
  some false)<|
 B8e c b 0
def O1 (c:Bool) (a b:Int):Bool:=
 cond c (
  (decide (a>=b)))<|
 (decide (a<=b))
def A34 (a b c:Int):Bool:=
 ((((((decide (a>=1))&&(decide (a<=1048576)))&&(decide (b>=1)))&&(decide (b<=65536)))&&(decide (c>=0)))&&(decide (c<=16777216)))
def A0u (g:B7) (a:Int):Option (Int⊕Int):=
 cond (decide (a<(g.Ar.length:Int))) (
  Option.bind (D2 g.Ar a) fun b=>
  let f:=(X6 g.Now g.W b.T);
  cond (((!f)||(decide (b.V<(-4096:Int))))||(decide (b.V>4096))) (
   some (.inr 2))<|
  Option.bind (gd (decide (a>0)) (D2 g.Ar (A2 (a-1)))) fun c=>
  Option.bind (gd ((decide (a>0))&&(!(decide (c.T>=b.T)))) (D2 g.Ar (A2 (a-1)))) fun d=>
  let e:=(O1 g.Be b.V d.V);
  cond ((decide (a>0))&&((decide (c.T>=b.T))||e)) (
   some (.inr 2))<|
  some (.inl (A2 (a+1))))<|
 Option.map Sum.inr (some 0)
def A7c (b:B7) (a:Int):Option Int:=
 loop (fun (s:Int)=>A0u b s) a
def A0O (b:B7):Option Int:=
 let a:=(A34 b.W b.Cap b.Now);
 cond ((!a)||(decide ((b.Ar.length:Int)>b.Cap))) (
  some 2)<|
 A7c b 0
def A3Q (f:B7) (g:Int) (a:List B6):Option ((List B6)⊕(B7×Int)):=
 Option.bind (gd (decide ((a.length:Int)>(0:Int))) (D2 a (A2 ((a.length:Int)-(1:Int))))) fun c=>
 let d:=(O1 f.Be g c.V);
 cond ((decide ((a.length:Int)>(0:Int)))&&d) (
  ck (decide (0<=(A2 ((a.length:Int)-(1:Int)))/\(A2 ((a.length:Int)-(1:Int)))<=(a.length:Int)))<|
  some (.inl (a.take ((A2 ((a.length:Int)-(1:Int)))).toNat)))<|
 Option.map Sum.inr (ck (decide ((([]:List B6).length+a.length)*16<=140737488355328))<|
 Option.bind (gd (!(((([]:List B6)++a).length:Int)==(0:Int))) (D2 (([]:List B6)++a) (A2 (((([]:List B6)++a).length:Int)-(1:Int))))) fun e=>
 Option.bind (gd (!(((([]:List B6)++a).length:Int)==(0:Int))) (D2 (([]:List B6)++a) (A2 (((([]:List B6)++a).length:Int)-(1:Int))))) fun b=>
 cond ((((([]:List B6)++a).length:Int)==(0:Int))||(decide (b.T<f.Now))) (
  cond (((([]:List B6)++a).length:Int)==f.Cap) (
   some ((B7.mk false 0 0 0 []),5))<|
  ck (decide (((([]:List B6)++a).length+ [(B6.mk f.Now g)].length)*16<=140737488355328))<|
  some ((B7.mk f.Be f.W f.Cap f.Now ((([]:List B6)++a)++ [(B6.mk f.Now g)])),0))<|
 some ((B7.mk f.Be f.W f.Cap f.Now (([]:List B6)++a)),0))
def A4v (b:B7) (c:Int) (a:List B6):Option (B7×Int):=
 loop (fun (s:(List B6))=>A3Q b c s) a
def A7O (b:B7) (c:Int):Option (B7×Int):=
 Option.bind (A0O b) fun a=>
 cond (a !=0) (
  some ((B7.mk false 0 0 0 []),a))<|
 cond ((decide (c<(-4096:Int)))||(decide (c>4096))) (
  some ((B7.mk false 0 0 0 []),4))<|
 A4v b c b.Ar
def A3w (e:Bool) (b c d:Int):(B7×Int):=
 let a:=(A34 b c d);
 cond (!a) (
  ((B7.mk false 0 0 0 []),1))<|
 ((B7.mk e b c d []),0)
def A1q (c:E5) (a:Int):Option (Int⊕Int):=
 cond (decide (a<(c.Bc.length:Int))) (
  Option.bind (D2 c.Bc a) fun b=>
  cond (((decide (b<0))||(decide (b>1099511627776)))||((b !=0)&&(decide (a>c.Now)))) (
   some (.inr 2))<|
  some (.inl (A2 (a+1))))<|
 Option.map Sum.inr (some 0)
def A8N (b:E5) (a:Int):Option Int:=
 loop (fun (s:Int)=>A1q b s) a
def A2g (a:E5):Option Int:=
 cond ((((decide ((a.Bc.length:Int)<(1:Int)))||(decide ((a.Bc.length:Int)>(64:Int))))||(decide (a.Now<0)))||(decide (a.Now>16777216))) (
  some 2)<|
 A8N a 0
def B0V (g:E5) (h:Int):Option (E5×Int):=
 Option.bind (A2g g) fun a=>
 cond (a !=0) (
  some ((E5.mk 0 []),a))<|
 cond ((decide (h<0))||(decide (h>4096))) (
  some ((E5.mk 0 []),4))<|
 Option.bind (D2 g.Bc 0) fun b=>
 cond (decide (b>(A2 (1099511627776-h)))) (
  some ((E5.mk 0 []),6))<|
 ck (decide ((([]:List Int).length+g.Bc.length)*8<=140737488355328))<|
 Option.bind (D2 (([]:List Int)++g.Bc) 0) fun d=>
 Option.bind (D2 (([]:List Int)++g.Bc) 0) fun c=>
 Option.bind (D2 (([]:List Int)++g.Bc) 0) fun e=>
 Option.bind (D2 (([]:List Int)++g.Bc) 0) fun f=>
 some ((E5.mk g.Now ((([]:List Int)++g.Bc).set ((0:Int)).toNat (A2 (c+h)))),0)
def B0W (a b:Int):Option (E5×Int):=
 cond ((((decide (a<1))||(decide (a>64)))||(decide (b<0)))||(decide (b>16777216))) (
  some ((E5.mk 0 []),1))<|
 ck (decide (0<=a/\a<=a/\a*8<=140737488355328/\a<=140737488355328))<|
 some ((E5.mk b (List.replicate (a).toNat 0)),0)
def B02 (a:Int):Bool:=
 ((decide (a>=0))&&(decide (a<=16777216)))
def B6J (b c:Int):Option (D3×Int):=
 let a:=(B02 c);
 cond (((decide (b<0))||(decide (b>4)))||(!a)) (
  some ((D3.mk 0 0 0 []),1))<|
 ck (decide (0<=(A2 (b+1))/\(A2 (b+1))<=(A2 (b+1))/\(A2 (b+(1:Int)))*16<=140737488355328/\(A2 (b+(1:Int)))<=140737488355328))<|
 some ((D3.mk b c c (List.replicate ((A2 (b+(1:Int)))).toNat (C1.mk 0 0))),0)
def V7 (a b c d:Int):Bool:=
 ((((((((decide (a>=1))&&(decide (a<=1048576)))&&(decide (b>=1)))&&(decide (b<=64)))&&(decide (c>=1)))&&(decide (c<=65536)))&&(decide (d>=0)))&&(decide (d<=16777216)))
def A2n (b c d e:Int):(B8×Int):=
 let a:=(V7 b c d e);
 cond (!a) (
  ((B8.mk 0 0 0 0 []),1))<|
 ((B8.mk b c d e []),0)
def A5q (a b c:Int):Bool:=
 ((((((decide (a>=1))&&(decide (a<=1048576)))&&(decide (b>=1)))&&(decide (b<=65536)))&&(decide (c>=0)))&&(decide (c<=16777216)))
def A4G (b c d:Int):(C8×Int):=
 let a:=(A5q b c d);
 cond (!a) (
  ((C8.mk 0 0 0 []),1))<|
 ((C8.mk b c d []),0)
def A2H (d e f c:Int) (a:List A9):Option ((Int×(List A9))⊕(D6×Int)):=
 cond (decide (c<d)) (
  let b:=(N8 e f);
  cond (b.2 !=0) (
   some (.inr ((D6.mk []),b.2)))<|
  ck (decide ((a.length+ [b.1].length)*56<=140737488355328))<|
  some (.inl ((A2 (c+1)),(a++ [b.1]))))<|
 Option.map Sum.inr (some ((D6.mk a),0))
def A8B (c d e b:Int) (a:List A9):Option (D6×Int):=
 loop (fun (s:(Int×(List A9)))=>A2H c d e s.1 s.2) (b,a)
def A9n (a b c:Int):Option (D6×Int):=
 cond ((decide (a<1))||(decide (a>16))) (
  some ((D6.mk []),1))<|
 A8B a b c 0 ([]:List A9)
def A4w (a b c d:Int):Bool:=
 ((((((((decide (a>=1))&&(decide (a<=1048576)))&&(decide (b>=1)))&&(decide (b<=64)))&&(decide (c>=1)))&&(decide (c<=65536)))&&(decide (d>=0)))&&(decide (d<=16777216)))
def X8 (b c d e f:Int):Bool:=
 let a:=(A4w c d e f);
 (((decide (b>=1))&&(decide (b<=4)))&&a)
def A40 (b c d e f:Int):(C3×Int):=
 let a:=(X8 b c d e f);
 cond (!a) (
  ((C3.mk 0 0 0 0 0 0 []),1))<|
 ((C3.mk b c d e f 0 []),0)
def A41 (b c d e:Int):(C4×Int):=
 let a:=(A4w b c d e);
 cond (!a) (
  ((C4.mk 0 0 0 0 0 []),1))<|
 ((C4.mk b c d e 0 []),0)
def A7B (a b c d e:Int):Bool:=
 ((((((((((decide (a>=1))&&(decide (a<=1048576)))&&(decide (b>=1)))&&(decide (b<=64)))&&(decide (c>=1)))&&(decide (c<=65536)))&&(decide (d>=1)))&&(decide (d<=1024)))&&(decide (e>=0)))&&(decide (e<=16777216)))
def A9A (b c d e f:Int):(D9×Int):=
 let a:=(A7B b c d e f);
 cond (!a) (
  ((D9.mk 0 0 0 0 0 []),1))<|
 ((D9.mk b c d e f []),0)
def A3H (a b:Int):(A8×Int):=
 cond ((((decide (a<1))||(decide (a>64)))||(decide (b<2)))||(decide (b>65536))) (
  ((A8.mk 0 0 0 []),1))<|
 ((A8.mk a b 0 []),0)
def A8C (a:Int):Bool:=
 ((decide (a>=0))&&(decide (a<=16777216)))
def L8 (n:E4) (m:Int) (i:C8) (a:D5) (b:D9) (c:C3) (d:C4) (e:D3) (j:Int) (k:List Int) (f:B7) (l:List A9) (g:A8) (h:B8):Option (C2×Int):=
 cond (m !=0) (
  some ((C2.mk (E4.mk 0 0 0 0 0 0 0 0) (C8.mk 0 0 0 []) (D5.mk 0 0 0 0 []) (D9.mk 0 0 0 0 0 []) (C3.mk 0 0 0 0 0 0 []) (C4.mk 0 0 0 0 0 []) (D3.mk 0 0 0 []) (E5.mk 0 []) (B7.mk false 0 0 0 []) (D6.mk []) (A8.mk 0 0 0 []) (B8.mk 0 0 0 0 [])),m))<|
 some ((C2.mk n i a b c d e (E5.mk j k) f (D6.mk l) g h),0)
def A61 (n:E4) (o:Int):Option (C2×Int):=
 let l:=(Z5 n);
 cond (l !=0) (
  some ((C2.mk (E4.mk 0 0 0 0 0 0 0 0) (C8.mk 0 0 0 []) (D5.mk 0 0 0 0 []) (D9.mk 0 0 0 0 0 []) (C3.mk 0 0 0 0 0 0 []) (C4.mk 0 0 0 0 0 []) (D3.mk 0 0 0 []) (E5.mk 0 []) (B7.mk false 0 0 0 []) (D6.mk []) (A8.mk 0 0 0 []) (B8.mk 0 0 0 0 [])),l))<|
 let m:=(A8C o);
 cond (!m) (
  some ((C2.mk (E4.mk 0 0 0 0 0 0 0 0) (C8.mk 0 0 0 []) (D5.mk 0 0 0 0 []) (D9.mk 0 0 0 0 0 []) (C3.mk 0 0 0 0 0 0 []) (C4.mk 0 0 0 0 0 []) (D3.mk 0 0 0 []) (E5.mk 0 []) (B7.mk false 0 0 0 []) (D6.mk []) (A8.mk 0 0 0 []) (B8.mk 0 0 0 0 [])),1))<|
 cond (n.Ax==1) (
  let b:=(A4G n.W n.Cap o);
  L8 n b.2 b.1 (D5.mk 0 0 0 0 []) (D9.mk 0 0 0 0 0 []) (C3.mk 0 0 0 0 0 0 []) (C4.mk 0 0 0 0 0 []) (D3.mk 0 0 0 []) 0 ([]:List Int) (B7.mk false 0 0 0 []) ([]:List A9) (A8.mk 0 0 0 []) (B8.mk 0 0 0 0 []))<|
 cond (n.Ax==2) (
  let c:=(A6f n.W n.K n.Cap o);
  L8 n c.2 (C8.mk 0 0 0 []) c.1 (D9.mk 0 0 0 0 0 []) (C3.mk 0 0 0 0 0 0 []) (C4.mk 0 0 0 0 0 []) (D3.mk 0 0 0 []) 0 ([]:List Int) (B7.mk false 0 0 0 []) ([]:List A9) (A8.mk 0 0 0 []) (B8.mk 0 0 0 0 []))<|
 cond (n.Ax==3) (
  let d:=(A9A n.W n.K n.Cap n.Be o);
  L8 n d.2 (C8.mk 0 0 0 []) (D5.mk 0 0 0 0 []) d.1 (C3.mk 0 0 0 0 0 0 []) (C4.mk 0 0 0 0 0 []) (D3.mk 0 0 0 []) 0 ([]:List Int) (B7.mk false 0 0 0 []) ([]:List A9) (A8.mk 0 0 0 []) (B8.mk 0 0 0 0 []))<|
 cond (n.Ax==4) (
  let e:=(A40 n.Bd n.W n.K n.Cap o);
  L8 n e.2 (C8.mk 0 0 0 []) (D5.mk 0 0 0 0 []) (D9.mk 0 0 0 0 0 []) e.1 (C4.mk 0 0 0 0 0 []) (D3.mk 0 0 0 []) 0 ([]:List Int) (B7.mk false 0 0 0 []) ([]:List A9) (A8.mk 0 0 0 []) (B8.mk 0 0 0 0 []))<|
 cond (n.Ax==5) (
  let f:=(A41 n.W n.K n.Cap o);
  L8 n f.2 (C8.mk 0 0 0 []) (D5.mk 0 0 0 0 []) (D9.mk 0 0 0 0 0 []) (C3.mk 0 0 0 0 0 0 []) f.1 (D3.mk 0 0 0 []) 0 ([]:List Int) (B7.mk false 0 0 0 []) ([]:List A9) (A8.mk 0 0 0 []) (B8.mk 0 0 0 0 []))<|
 cond (n.Ax==6) (
  Option.bind (B6J n.P o) fun g=>
  L8 n g.2 (C8.mk 0 0 0 []) (D5.mk 0 0 0 0 []) (D9.mk 0 0 0 0 0 []) (C3.mk 0 0 0 0 0 0 []) (C4.mk 0 0 0 0 0 []) g.1 0 ([]:List Int) (B7.mk false 0 0 0 []) ([]:List A9) (A8.mk 0 0 0 []) (B8.mk 0 0 0 0 []))<|
 cond (n.Ax==7) (
  Option.bind (B0W n.W o) fun a=>
  L8 n a.2 (C8.mk 0 0 0 []) (D5.mk 0 0 0 0 []) (D9.mk 0 0 0 0 0 []) (C3.mk 0 0 0 0 0 0 []) (C4.mk 0 0 0 0 0 []) (D3.mk 0 0 0 []) a.1.Now a.1.Bc (B7.mk false 0 0 0 []) ([]:List A9) (A8.mk 0 0 0 []) (B8.mk 0 0 0 0 []))<|
 cond (n.Ax==8) (
  let h:=(A3w (n.Be==1) n.W n.Cap o);
  L8 n h.2 (C8.mk 0 0 0 []) (D5.mk 0 0 0 0 []) (D9.mk 0 0 0 0 0 []) (C3.mk 0 0 0 0 0 0 []) (C4.mk 0 0 0 0 0 []) (D3.mk 0 0 0 []) 0 ([]:List Int) h.1 ([]:List A9) (A8.mk 0 0 0 []) (B8.mk 0 0 0 0 []))<|
 cond (n.Ax==9) (
  Option.bind (A9n n.Ah n.W n.Cap) fun i=>
  L8 n i.2 (C8.mk 0 0 0 []) (D5.mk 0 0 0 0 []) (D9.mk 0 0 0 0 0 []) (C3.mk 0 0 0 0 0 0 []) (C4.mk 0 0 0 0 0 []) (D3.mk 0 0 0 []) 0 ([]:List Int) (B7.mk false 0 0 0 []) i.1.Ah (A8.mk 0 0 0 []) (B8.mk 0 0 0 0 []))<|
 cond (n.Ax==10) (
  let j:=(A3H n.K n.Cap);
  L8 n j.2 (C8.mk 0 0 0 []) (D5.mk 0 0 0 0 []) (D9.mk 0 0 0 0 0 []) (C3.mk 0 0 0 0 0 0 []) (C4.mk 0 0 0 0 0 []) (D3.mk 0 0 0 []) 0 ([]:List Int) (B7.mk false 0 0 0 []) ([]:List A9) j.1 (B8.mk 0 0 0 0 []))<|
 cond (n.Ax==11) (
  let k:=(A2n n.W n.K n.Cap o);
  L8 n k.2 (C8.mk 0 0 0 []) (D5.mk 0 0 0 0 []) (D9.mk 0 0 0 0 0 []) (C3.mk 0 0 0 0 0 0 []) (C4.mk 0 0 0 0 0 []) (D3.mk 0 0 0 []) 0 ([]:List Int) (B7.mk false 0 0 0 []) ([]:List A9) (A8.mk 0 0 0 []) k.1)<|
 L8 n 0 (C8.mk 0 0 0 []) (D5.mk 0 0 0 0 []) (D9.mk 0 0 0 0 0 []) (C3.mk 0 0 0 0 0 0 []) (C4.mk 0 0 0 0 0 []) (D3.mk 0 0 0 []) 0 ([]:List Int) (B7.mk false 0 0 0 []) ([]:List A9) (A8.mk 0 0 0 []) (B8.mk 0 0 0 0 [])
def A30 (a:C2):Bool:=
 cond ((a.Ai.Ax !=1)&&((((a.Aj.W !=0)||(a.Aj.Cap !=0))||(a.Aj.Now !=0))||(decide ((a.Aj.Ar.length:Int)>(0:Int))))) (
  false)<|
 cond ((a.Ai.Ax !=2)&&(((((a.Ap.W !=0)||(a.Ap.K !=0))||(a.Ap.Cap !=0))||(a.Ap.Now !=0))||(decide ((a.Ap.Ab.length:Int)>(0:Int))))) (
  false)<|
 cond ((a.Ai.Ax !=3)&&((((((a.Sum.W !=0)||(a.Sum.K !=0))||(a.Sum.Cap !=0))||(a.Sum.Be !=0))||(a.Sum.Now !=0))||(decide ((a.Sum.Ab.length:Int)>(0:Int))))) (
  false)<|
 cond ((a.Ai.Ax !=4)&&(((((((a.Al.Bd !=0)||(a.Al.W !=0))||(a.Al.K !=0))||(a.Al.Cap !=0))||(a.Al.Now !=0))||(a.Al.Bg !=0))||(decide ((a.Al.Av.length:Int)>(0:Int))))) (
  false)<|
 cond ((a.Ai.Ax !=5)&&((((((a.Am.W !=0)||(a.Am.K !=0))||(a.Am.Cap !=0))||(a.Am.Now !=0))||(a.Am.Bg !=0))||(decide ((a.Am.Av.length:Int)>(0:Int))))) (
  false)<|
 cond ((a.Ai.Ax !=6)&&((((a.Bb.P !=0)||(a.Bb.Ay !=0))||(a.Bb.Now !=0))||(decide ((a.Bb.Ae.length:Int)>(0:Int))))) (
  false)<|
 cond ((a.Ai.Ax !=7)&&((a.Aq.Now !=0)||(decide ((a.Aq.Bc.length:Int)>(0:Int))))) (
  false)<|
 cond ((a.Ai.Ax !=8)&&((((a.Ad.Be||(a.Ad.W !=0))||(a.Ad.Cap !=0))||(a.Ad.Now !=0))||(decide ((a.Ad.Ar.length:Int)>(0:Int))))) (
  false)<|
 cond ((a.Ai.Ax !=9)&&(decide ((a.Ak.Ah.length:Int)>(0:Int)))) (
  false)<|
 cond ((a.Ai.Ax !=10)&&((((a.Af.K !=0)||(a.Af.Cap !=0))||(a.Af.N !=0))||(decide ((a.Af.Ao.length:Int)>(0:Int))))) (
  false)<|
 ((a.Ai.Ax==11)||(((((a.Aa.W==0)&&(a.Aa.K==0))&&(a.Aa.Cap==0))&&(a.Aa.Now==0))&&((a.Aa.Ag.length:Int)==(0:Int))))
def U8 (a b:C1):Int:=
 cond ((decide (a.Hi<b.Hi))||((a.Hi==b.Hi)&&(decide (a.Lo<b.Lo)))) (
  (-1:Int))<|
 cond (a.Hi==b.Hi&&(a.Lo==b.Lo&&true)) (
  0)<|
 1
def A6d (c d:C1):Option (C1×Bool):=
 Option.bind (Q4 c.Lo d.Lo 0) fun a=>
 Option.bind (Q4 c.Hi d.Hi a.2) fun b=>
 cond (b.2 !=0) (
  some ((C1.mk 0 0),false))<|
 some ((C1.mk b.1 a.1),true)
def A1u (a b:Int):(Int×Int):=
 ((F9 ((F9 ((F9 ((B1D .u64 a 32)*(B1D .u64 b 32)))+(B1D .u64 (F9 ((F9 ((B1D .u64 a 32)*(B2W .u64 b 4294967295)))+(B1D .u64 (F9 ((B2W .u64 a 4294967295)*(B2W .u64 b 4294967295))) 32))) 32)))+(B1D .u64 (F9 ((B2W .u64 (F9 ((F9 ((B1D .u64 a 32)*(B2W .u64 b 4294967295)))+(B1D .u64 (F9 ((B2W .u64 a 4294967295)*(B2W .u64 b 4294967295))) 32))) 4294967295)+(F9 ((B2W .u64 a 4294967295)*(B1D .u64 b 32))))) 32))),(F9 (a*b)))
def S7 (b c:Int):C1:=
 let a:=(A1u b c);
 (C1.mk a.1 a.2)
def A5w (f a b c:Int):Option (C1×Bool):=
 let g:=(S7 a c);
 let d:=(S7 a b);
 cond (d.Hi !=0) (
  some ((C1.mk 0 0),false))<|
 Option.bind (A6d g (C1.mk d.Lo 0)) fun e=>
 some (e.1,e.2)
def A00 (a b:C1):Option (C1×Bool):=
 cond ((a.Hi !=0)&&(b.Hi !=0)) (
  some ((C1.mk 0 0),false))<|
 cond (a.Hi !=0) (
  A5w b.Hi b.Lo a.Hi a.Lo)<|
 A5w a.Hi a.Lo b.Hi b.Lo
def Q5 (a:Int):C1:=
 (C1.mk 0 a)
def A10 (j:D3) (f:C1) (a:Int):Option (Int⊕Int):=
 cond (decide (a<=j.P)) (
  Option.bind (D2 j.Ae (A2 (a-1))) fun g=>
  Option.bind (D2 j.Ae a) fun h=>
  let c:=(U8 g h);
  cond (decide (c>0)) (
   some (.inr 2))<|
  Option.bind (D2 j.Ae (A2 (a-1))) fun i=>
  Option.bind (A00 i f) fun b=>
  Option.bind (gd b.2 (D2 j.Ae a)) fun d=>
  let e:=(U8 d b.1);
  cond (b.2&&(decide (e>0))) (
   some (.inr 2))<|
  some (.inl (A2 (a+1))))<|
 Option.map Sum.inr (some 0)
def B0d (c:D3) (a:C1) (b:Int):Option Int:=
 loop (fun (s:Int)=>A10 c a s) b
def A3j (c:D3):Option Int:=
 let a:=(B02 c.Now);
 cond ((((((decide (c.P<0))||(decide (c.P>4)))||(!a))||(decide (c.Ay<0)))||(decide (c.Ay>c.Now)))||((c.Ae.length:Int) !=(A2 (c.P+1)))) (
  some 2)<|
 let b:=(Q5 (F9 (A2 ((A2 (c.Now-c.Ay))+1))));
 B0d c b 1
def B24 (b:Int):Option Int:=
 cond (decide (b<0)) (
  some 0)<|
 Option.bind (A1t (F9 b)) fun a=>
 some a
def A3k (c d:Int):Option Int:=
 let a:=(V7 1 c d 0);
 cond (!a) (
  some 0)<|
 Option.bind (B24 d) fun b=>
 some (A2 ((A2 (2*c))*(A2 (b+2))))
def A0e (d:B8) (a:Int):Option (Int⊕Int):=
 cond (decide (a<(d.Ag.length:Int))) (
  Option.bind (D2 d.Ag a) fun b=>
  let c:=(X6 d.Now d.W b.T);
  cond (!c) (
   some (.inr 2))<|
  some (.inl (A2 (a+1))))<|
 Option.map Sum.inr (some 0)
def A6H (b:B8) (a:Int):Option Int:=
 loop (fun (s:Int)=>A0e b s) a
def A0q (e:B8):Option Int:=
 let a:=(V7 e.W e.K e.Cap e.Now);
 Option.bind (gd (!(!a)) (A3k e.K e.Cap)) fun c=>
 Option.bind (gd (!(!a)) (A32 e.Ag (A2 (2*e.K)) c)) fun b=>
 Option.bind (gd (!((!a)||(!b))) (A2a e.Ag)) fun d=>
 cond (((!a)||(!b))||(decide (d>e.Cap))) (
  some 2)<|
 A6H e 0
def A6I (a:Int):Bool:=
 ((decide (a>=(-4096:Int)))&&(decide (a<=4096)))
def A3M (e:C8) (a:Int):Option (Int⊕Int):=
 cond (decide (a<(e.Ar.length:Int))) (
  Option.bind (D2 e.Ar a) fun b=>
  let d:=(X6 e.Now e.W b.T);
  let c:=(A6I b.V);
  cond ((!d)||(!c)) (
   some (.inr 2))<|
  some (.inl (A2 (a+1))))<|
 Option.map Sum.inr (some 0)
def A8h (b:C8) (a:Int):Option Int:=
 loop (fun (s:Int)=>A3M b s) a
def A0f (c:C8):Option Int:=
 let a:=(A5q c.W c.Cap c.Now);
 Option.bind (gd (!((!a)||(decide ((c.Ar.length:Int)>c.Cap)))) (B1B c.Ar c.Now)) fun b=>
 cond (((!a)||(decide ((c.Ar.length:Int)>c.Cap)))||(!b)) (
  some 2)<|
 A8h c 0
def N9 (e:D6) (a:Int):Option (Int⊕Int):=
 cond (decide (a<(e.Ah.length:Int))) (
  Option.bind (D2 e.Ah a) fun b=>
  Option.bind (D2 e.Ah 0) fun c=>
  Option.bind (L2 b) fun d=>
  cond ((((d !=0)||(b.W !=c.W))||(b.Cap !=c.Cap))||(b.I !=c.I)) (
   some (.inr 2))<|
  some (.inl (A2 (a+1))))<|
 Option.map Sum.inr (some 0)
def A1L (b:D6) (a:Int):Option Int:=
 loop (fun (s:Int)=>N9 b s) a
def N4 (a:D6):Option Int:=
 cond ((decide ((a.Ah.length:Int)<(1:Int)))||(decide ((a.Ah.length:Int)>(16:Int)))) (
  some 2)<|
 A1L a 0
def Q3 (a d e b c:Int):Bool:=
 (((((decide (b>=(A2 (a*d))))&&(decide (b<=(A2 (a*e)))))&&(decide (c>=0)))&&(decide (c<=(A2 ((A2 (a*(4096:Int)))*(4096:Int))))))&&(decide ((A2 (b*b))<=(A2 (a*c)))))
def A3R (h:List A7) (i k j l m d:Int):Option (Int⊕Bool):=
 cond (decide (d<(h.length:Int))) (
  Option.bind (D2 h d) fun a=>
  cond ((((((decide (a.Bg<1))||(decide (a.Bg>i)))||(a.N !=(A2 ((A2 (i-a.Bg))+1))))||(decide (a.N>k)))||(decide (a.T<0)))||(decide (a.T>j))) (
   some (.inr false))<|
  let g:=(Q3 a.N a.Bf a.Be a.S a.Q);
  cond ((((decide (a.Bf<m))||(decide (a.Be>4096)))||(decide (a.Bf>a.Be)))||(!g)) (
   some (.inr false))<|
  let e:=(X6 j l a.T);
  cond (((decide (d>0))||((h.length:Int)==(1:Int)))&&(!e)) (
   some (.inr false))<|
  cond (d==0) (
   some (.inl (A2 (d+1))))<|
  Option.bind (D2 h (A2 (d-1))) fun b=>
  let f:=(Q3 (A2 (b.N-a.N)) b.Bf b.Be (A2 (b.S-a.S)) (A2 (b.Q-a.Q)));
  cond (((((decide (b.Bg>=a.Bg))||(decide (b.T>a.T)))||(decide (b.Bf>a.Bf)))||(decide (b.Be<a.Be)))||(!f)) (
   some (.inr false))<|
  some (.inl (A2 (d+1))))<|
 Option.map Sum.inr (cond ((h.length:Int)==(0:Int)) (
  some true)<|
 Option.bind (D2 h (A2 ((h.length:Int)-(1:Int)))) fun c=>
 some ((((c.Bg==i)&&(c.Bf==c.S))&&(c.Be==c.S))&&(c.Q==(A2 (c.S*c.S)))))
def B2b (b:List A7) (c d e f g a:Int):Option Bool:=
 loop (fun (s:Int)=>A3R b c d e f g s) a
def A5o (b:List A7) (a c d e f:Int):Option Bool:=
 cond ((decide (a<0))||(decide (a>1099511627776))) (
  some false)<|
 B2b b a c d e f 0
def I7 (a:Int):Int:=
 cond ((a==2)||(a==3)) (
  0)<|
 (-4096:Int)
def B5n (a b:Int):(Int×Bool):=
 cond ((!((decide (a>=0))==(decide (b>=0))))&&(!((decide ((A2 (a-b))>=0))==(decide (a>=0))))) (
  (0,false))<|
 ((A2 (a-b)),true)
def A2R (b:A7) (c:Int):Int:=
 cond (c==1) (
  b.N)<|
 cond (c==2) (
  b.S)<|
 cond (c==3) (
  b.Q)<|
 cond (c==4) (
  let a:=(B5n b.Be b.Bf);
  a.1)<|
 0
def G7 (e f:A7) (c d:Int):Bool:=
 let a:=(A2R f c);
 let b:=(A2R e c);
 (decide ((A2 ((A2 (d+1))*a))>=(A2 (d*b))))
def A04 (h:C3) (a:Int):Option (Int⊕Int):=
 cond (decide (a<(h.Av.length:Int))) (
  Option.bind (D2 h.Av a) fun b=>
  Option.bind (gd (decide (a>=2)) (D2 h.Av (A2 (a-2)))) fun g=>
  let d:=(G7 g b h.Bd h.K);
  cond ((decide (a>=2))&&d) (
   some (.inr 2))<|
  Option.bind (gd (decide (a>=1)) (D2 h.Av (A2 (a-1)))) fun c=>
  Option.bind (gd ((decide (a>=1))&&(decide ((A2 (b.Bg-c.Bg))>1))) (D2 h.Av (A2 (a-1)))) fun e=>
  let f:=(G7 e b h.Bd h.K);
  cond (((decide (a>=1))&&(decide ((A2 (b.Bg-c.Bg))>1)))&&(!f)) (
   some (.inr 2))<|
  some (.inl (A2 (a+1))))<|
 Option.map Sum.inr (some 0)
def A8m (b:C3) (a:Int):Option Int:=
 loop (fun (s:Int)=>A04 b s) a
def A1M (d:C3):Option Int:=
 let a:=(X8 d.Bd d.W d.K d.Cap d.Now);
 let b:=(I7 d.Bd);
 Option.bind (gd (!(!a)) (A5o d.Av d.Bg d.Cap d.Now d.W b)) fun c=>
 cond ((!a)||(!c)) (
  some 2)<|
 A8m d 0
def A4j (a:A7):Bool:=
 cond ((((((decide (a.N<1))||(decide (a.N>65536)))||(decide (a.S<(A2 ((IntKind.i64.wrap (0-a.N))*4096)))))||(decide (a.S>(A2 (a.N*4096)))))||(decide (a.Q<0)))||(decide (a.Q>(A2 ((A2 (a.N*(4096:Int)))*(4096:Int)))))) (
  false)<|
 (decide ((A2 (a.S*a.S))<=(A2 (a.N*a.Q))))
def A0y (a:A7):Int:=
 (A2 ((A2 (a.N*a.Q))-(A2 (a.S*a.S))))
def A4i (m n:A7) (l:Int):Option Bool:=
 let c:=(A4j m);
 let d:=(A4j n);
 cond ((((!c)||(!d))||(decide (l<1)))||(decide (l>64))) (
  some false)<|
 cond (decide ((A2 ((A2 (6*l))*n.N))<(A2 ((A2 ((A2 (6*l))-1))*m.N)))) (
  some false)<|
 let e:=(A0y n);
 let f:=(S7 (F9 e) (F9 m.N));
 let g:=(Q5 (F9 (A2 (6*l))));
 Option.bind (A00 f g) fun a=>
 let h:=(A0y m);
 let i:=(S7 (F9 h) (F9 n.N));
 let j:=(Q5 (F9 (A2 ((A2 (6*l))-1))));
 Option.bind (A00 i j) fun b=>
 let k:=(U8 a.1 b.1);
 some (decide (k>=0))
def A05 (e:C4) (a:Int):Option (Int⊕Int):=
 cond (decide (a<(e.Av.length:Int))) (
  Option.bind (D2 e.Av (A2 (a-2))) fun c=>
  Option.bind (D2 e.Av a) fun d=>
  Option.bind (A4i c d e.K) fun b=>
  cond b (
   some (.inr 2))<|
  some (.inl (A2 (a+1))))<|
 Option.map Sum.inr (some 0)
def A8n (b:C4) (a:Int):Option Int:=
 loop (fun (s:Int)=>A05 b s) a
def A1N (c:C4):Option Int:=
 let a:=(A4w c.W c.K c.Cap c.Now);
 Option.bind (gd (!(!a)) (A5o c.Av c.Bg c.Cap c.Now c.W (-4096:Int))) fun b=>
 cond ((!a)||(!b)) (
  some 2)<|
 A8n c 2
def A3a (d:D9) (a:Int):Option (Int⊕Int):=
 cond (decide (a<(d.Ab.length:Int))) (
  Option.bind (D2 d.Ab a) fun b=>
  let c:=(X6 d.Now d.W b.T);
  cond (!c) (
   some (.inr 2))<|
  some (.inl (A2 (a+1))))<|
 Option.map Sum.inr (some 0)
def B1r (b:D9) (a:Int):Option Int:=
 loop (fun (s:Int)=>A3a b s) a
def A4k (d:D9):Option Int:=
 let a:=(A7B d.W d.K d.Cap d.Be d.Now);
 Option.bind (gd (!(!a)) (V5 d.Ab d.K)) fun b=>
 Option.bind (gd (!((!a)||(!b))) (R2 d.Ab)) fun c=>
 cond (((!a)||(!b))||(decide (c>d.Cap))) (
  some 2)<|
 B1r d 0
def A2I (b a:Int):Option Int:=
 ck (decide (a≠0))<|
 some (X0 1 (A2 (Int.tdiv b a)))
def A0z (h:A8) (d e b:Int):Option ((Int×Int)⊕Int):=
 cond (decide (b<(h.Ao.length:Int))) (
  Option.bind (D2 h.Ao b) fun a=>
  Option.bind (gd ((!((decide (a.V<(-4096:Int)))||(decide (a.V>4096))))&&(decide (b>0))) (D2 h.Ao (A2 (b-1)))) fun f=>
  cond (((decide (a.V<(-4096:Int)))||(decide (a.V>4096)))||((decide (b>0))&&(decide (f.V>a.V)))) (
   some (.inr 2))<|
  cond ((((decide (a.G<1))||(decide (a.D<0)))||(decide (a.G>d)))||(decide (a.D>(A2 (d-a.G))))) (
   some (.inr 2))<|
  some (.inl ((A2 (e+a.G)),(A2 (b+1)))))<|
 Option.map Sum.inr (Option.bind (D2 h.Ao 0) fun c=>
 Option.bind (D2 h.Ao (A2 ((h.Ao.length:Int)-(1:Int)))) fun g=>
 cond ((((e !=h.N)||(c.G !=1))||(c.D !=0))||(g.D !=0)) (
  some 2)<|
 some 0)
def A7f (d:A8) (b c a:Int):Option Int:=
 loop (fun (s:(Int×Int))=>A0z d b s.1 s.2) (c,a)
def A0W (b:A8):Option Int:=
 cond (((((((decide (b.K<1))||(decide (b.K>64)))||(decide (b.Cap<2)))||(decide (b.Cap>65536)))||(decide (b.N<0)))||(decide (b.N>1099511627776)))||(decide ((b.Ao.length:Int)>b.Cap))) (
  some 2)<|
 cond (b.N==0) (
  cond (decide ((b.Ao.length:Int)>(0:Int))) (
   some 2)<|
  some 0)<|
 cond ((b.Ao.length:Int)==(0:Int)) (
  some 2)<|
 Option.bind (A2I b.N b.K) fun a=>
 A7f b a 0 0
def A44 (n:C2):Option Bool:=
 cond (n.Ai.Ax==1) (
  Option.bind (A0f n.Aj) fun l=>
  some (((l==0)&&(n.Aj.W==n.Ai.W))&&(n.Aj.Cap==n.Ai.Cap)))<|
 cond (n.Ai.Ax==2) (
  Option.bind (A2c n.Ap) fun m=>
  some ((((m==0)&&(n.Ap.W==n.Ai.W))&&(n.Ap.K==n.Ai.K))&&(n.Ap.Cap==n.Ai.Cap)))<|
 cond (n.Ai.Ax==3) (
  Option.bind (A4k n.Sum) fun d=>
  some (((((d==0)&&(n.Sum.W==n.Ai.W))&&(n.Sum.K==n.Ai.K))&&(n.Sum.Cap==n.Ai.Cap))&&(n.Sum.Be==n.Ai.Be)))<|
 cond (n.Ai.Ax==4) (
  Option.bind (A1M n.Al) fun e=>
  some (((((e==0)&&(n.Al.W==n.Ai.W))&&(n.Al.K==n.Ai.K))&&(n.Al.Cap==n.Ai.Cap))&&(n.Al.Bd==n.Ai.Bd)))<|
 cond (n.Ai.Ax==5) (
  Option.bind (A1N n.Am) fun f=>
  some ((((f==0)&&(n.Am.W==n.Ai.W))&&(n.Am.K==n.Ai.K))&&(n.Am.Cap==n.Ai.Cap)))<|
 cond (n.Ai.Ax==6) (
  Option.bind (A3j n.Bb) fun g=>
  some ((g==0)&&(n.Bb.P==n.Ai.P)))<|
 cond (n.Ai.Ax==7) (
  Option.bind (A2g n.Aq) fun h=>
  some ((h==0)&&((n.Aq.Bc.length:Int)==n.Ai.W)))<|
 cond (n.Ai.Ax==8) (
  Option.bind (A0O n.Ad) fun i=>
  some ((((i==0)&&(n.Ad.W==n.Ai.W))&&(n.Ad.Cap==n.Ai.Cap))&&(n.Ad.Be==(n.Ai.Be==1))))<|
 cond (n.Ai.Ax==9) (
  Option.bind (N4 n.Ak) fun a=>
  Option.bind (gd ((a==0)&&((n.Ak.Ah.length:Int)==n.Ai.Ah)) (D2 n.Ak.Ah 0)) fun b=>
  Option.bind (gd (((a==0)&&((n.Ak.Ah.length:Int)==n.Ai.Ah))&&(b.W==n.Ai.W)) (D2 n.Ak.Ah 0)) fun c=>
  some ((((a==0)&&((n.Ak.Ah.length:Int)==n.Ai.Ah))&&(b.W==n.Ai.W))&&(c.Cap==n.Ai.Cap)))<|
 cond (n.Ai.Ax==10) (
  Option.bind (A0W n.Af) fun j=>
  some (((j==0)&&(n.Af.K==n.Ai.K))&&(n.Af.Cap==n.Ai.Cap)))<|
 Option.bind (A0q n.Aa) fun k=>
 some ((((k==0)&&(n.Aa.W==n.Ai.W))&&(n.Aa.K==n.Ai.K))&&(n.Aa.Cap==n.Ai.Cap))
def V4 (d:C2):Option Int:=
 let a:=(Z5 d.Ai);
 Option.bind (gd (!(a !=0)) (A44 d)) fun c=>
 let b:=(A30 d);
 cond (((a !=0)||(!c))||(!b)) (
  some 2)<|
 some 0
def B3d (d:C2) (b a:Int):Option ((Int×Int)⊕Int):=
 cond (decide (a<(d.Aa.Ag.length:Int))) (
  Option.bind (D2 d.Aa.Ag a) fun c=>
  some (.inl ((A2 (b+(c.Aw.Ac.length:Int))),(A2 (a+1)))))<|
 Option.map Sum.inr (some b)
def A3O (c:C2) (b a:Int):Option Int:=
 loop (fun (s:(Int×Int))=>B3d c s.1 s.2) (b,a)
def B3c (d:C2) (b a:Int):Option ((Int×Int)⊕Int):=
 cond (decide (a<(d.Ak.Ah.length:Int))) (
  Option.bind (D2 d.Ak.Ah a) fun c=>
  some (.inl ((A2 (b+(c.Au.length:Int))),(A2 (a+1)))))<|
 Option.map Sum.inr (A3O d b 0)
def A3N (c:C2) (b a:Int):Option Int:=
 loop (fun (s:(Int×Int))=>B3c c s.1 s.2) (b,a)
def A3b (b:C2):Option Int:=
 Option.bind (V4 b) fun a=>
 cond (a !=0) (
  some 0)<|
 A3N b (A2 ((A2 ((A2 ((A2 ((A2 ((A2 ((A2 ((A2 ((b.Aj.Ar.length:Int)+(b.Ap.Ab.length:Int)))+(b.Sum.Ab.length:Int)))+(b.Al.Av.length:Int)))+(b.Am.Av.length:Int)))+(b.Bb.Ae.length:Int)))+(b.Aq.Bc.length:Int)))+(b.Ad.Ar.length:Int)))+(b.Af.Ao.length:Int))) 0
def A5n:Option Bool:=
 Option.bind (A61 (E4.mk 6 0 0 0 0 2 0 0) 0) fun a=>
 Option.bind (gd (a.2==0) (A3b a.1)) fun b=>
 some ((a.2==0)&&(b==3))
def A5E (d:C2) (b a:Int):Option ((Int×Int)⊕Bool):=
 cond (decide (a<(d.Aa.Ag.length:Int))) (
  Option.bind (D2 d.Aa.Ag a) fun c=>
  some (.inl ((A2 (b+(c.Aw.Ac.length:Int))),(A2 (a+1)))))<|
 Option.map Sum.inr (some (decide (b<=200)))
def A6B (c:C2) (b a:Int):Option Bool:=
 loop (fun (s:(Int×Int))=>A5E c s.1 s.2) (b,a)
def A5D (d:C2) (b a:Int):Option ((Int×Int)⊕Bool):=
 cond (decide (a<(d.Ak.Ah.length:Int))) (
  Option.bind (D2 d.Ak.Ah a) fun c=>
  some (.inl ((A2 (b+(c.Au.length:Int))),(A2 (a+1)))))<|
 Option.map Sum.inr (A6B d b 0)
def B4x (c:C2) (b a:Int):Option Bool:=
 loop (fun (s:(Int×Int))=>A5D c s.1 s.2) (b,a)
def B0Y (a:C2):Option Bool:=
 B4x a (A2 ((A2 ((A2 ((A2 ((A2 ((A2 ((A2 ((A2 ((A2 ((A2 ((a.Aj.Ar.length:Int)+(a.Ap.Ab.length:Int)))+(a.Sum.Ab.length:Int)))+(a.Al.Av.length:Int)))+(a.Am.Av.length:Int)))+(a.Bb.Ae.length:Int)))+(a.Aq.Bc.length:Int)))+(a.Ad.Ar.length:Int)))+(a.Af.Ao.length:Int)))+(a.Aa.Ag.length:Int)))+(a.Ak.Ah.length:Int))) 0
def F4 (a:Int):Bool:=
 ((decide (a>=0))&&(decide (a<=16777216)))
def M6 (a:Int):Bool:=
 ((decide (a>=1))&&(decide (a<=1048576)))
def F7 (d f e:Int):Bool:=
 let a:=(F4 d);
 let b:=(M6 f);
 let c:=(F4 e);
 ((((a&&b)&&c)&&(decide (e>(A2 (d-f)))))&&(decide (e<=d)))
def A6L (d:List B6) (e a:Int):Option (Int⊕Bool):=
 cond (decide (a<(d.length:Int))) (
  Option.bind (D2 d a) fun b=>
  Option.bind (gd ((!((decide (b.T<0))||(decide (b.T>e))))&&(decide (a>0))) (D2 d (A2 (a-1)))) fun c=>
  cond (((decide (b.T<0))||(decide (b.T>e)))||((decide (a>0))&&(decide (c.T>b.T)))) (
   some (.inr false))<|
  some (.inl (A2 (a+1))))<|
 Option.map Sum.inr (some true)
def A7u (b:List B6) (c a:Int):Option Bool:=
 loop (fun (s:Int)=>A6L b c s) a
def A5r (c:List B6) (b:Int):Option Bool:=
 let a:=(F4 b);
 cond (!a) (
  some false)<|
 A7u c b 0
def H6 (d c e:Int):Bool:=
 let b:=(M6 d);
 let a:=(F4 e);
 (((b&&(decide (c>=1)))&&(decide (c<=65536)))&&a)
def D8 (a:Int):Bool:=
 ((decide (a>=(-4096:Int)))&&(decide (a<=4096)))
def Y5 (e:C8) (a:Int):Option (Int⊕Int):=
 cond (decide (a<(e.Ar.length:Int))) (
  Option.bind (D2 e.Ar a) fun b=>
  let d:=(F7 e.Now e.W b.T);
  let c:=(D8 b.V);
  cond ((!d)||(!c)) (
   some (.inr 2))<|
  some (.inl (A2 (a+1))))<|
 Option.map Sum.inr (some 0)
def A12 (b:C8) (a:Int):Option Int:=
 loop (fun (s:Int)=>Y5 b s) a
def R5 (c:C8):Option Int:=
 let a:=(H6 c.W c.Cap c.Now);
 Option.bind (gd (!((!a)||(decide ((c.Ar.length:Int)>c.Cap)))) (A5r c.Ar c.Now)) fun b=>
 cond (((!a)||(decide ((c.Ar.length:Int)>c.Cap)))||(!b)) (
  some 2)<|
 A12 c 0
def B05 (c:C8) (d:Int):Option (C8×Int):=
 Option.bind (R5 c) fun a=>
 cond (a !=0) (
  some ((C8.mk 0 0 0 []),a))<|
 let b:=(D8 d);
 cond (!b) (
  some ((C8.mk 0 0 0 []),4))<|
 cond ((c.Ar.length:Int)==c.Cap) (
  some ((C8.mk 0 0 0 []),5))<|
 ck (decide ((([]:List B6).length+c.Ar.length)*16<=140737488355328))<|
 ck (decide (((([]:List B6)++c.Ar).length+ [(B6.mk c.Now d)].length)*16<=140737488355328))<|
 some ((C8.mk c.W c.Cap c.Now ((([]:List B6)++c.Ar)++ [(B6.mk c.Now d)])),0)
def A3T (d:List A3) (c a:Int):Option ((Int×Int)⊕Int):=
 cond (decide (a<(d.length:Int))) (
  Option.bind (D2 d a) fun b=>
  cond ((decide (b.As>=0))&&(decide (b.As<=30))) (
   ck (decide (0<=(F9 b.As)))<|
   some (.inl ((A2 (c+(A7o .i64 1 (F9 b.As)))),(A2 (a+1)))))<|
  some (.inl (c,(A2 (a+1)))))<|
 Option.map Sum.inr (some c)
def B2g (c:List A3) (a b:Int):Option Int:=
 loop (fun (s:(Int×Int))=>A3T c s.1 s.2) (a,b)
def S6 (a:List A3):Option Int:=
 B2g a 0 0
def A4J (a:Int):Bool:=
 ((decide (a>=1))&&(decide (a<=128)))
def A3U (f:List A3) (g:Int) (b:List Int) (a:Int):Option (Int⊕Bool):=
 cond (decide (a<(b.length:Int))) (
  Option.bind (D2 b a) fun e=>
  Option.bind (D2 b a) fun c=>
  Option.bind (gd (decide ((f.length:Int)>(0:Int))) (D2 f 0)) fun d=>
  cond ((decide ((f.length:Int)>(0:Int)))&&(((decide (a<d.As))&&(decide (c<g)))||(decide (c>(A2 (g+1)))))) (
   some (.inr false))<|
  some (.inl (A2 (a+1))))<|
 Option.map Sum.inr (some true)
def A4K (c:List A3) (d:Int) (b:List Int) (a:Int):Option Bool:=
 loop (fun (s:Int)=>A3U c d b s) a
def A6N (k:List A3) (l:Int) (c:List Int) (b:Int):Option (((List Int)×Int)⊕Bool):=
 cond (decide (b<(k.length:Int))) (
  Option.bind (D2 k b) fun a=>
  let d:=(F4 a.T);
  Option.bind (gd ((!(((!d)||(decide (a.As<0)))||(decide (a.As>30))))&&(decide (b>0))) (D2 k (A2 (b-1)))) fun e=>
  Option.bind (gd (((!(((!d)||(decide (a.As<0)))||(decide (a.As>30))))&&(decide (b>0)))&&(!(decide (e.T>a.T)))) (D2 k (A2 (b-1)))) fun f=>
  cond ((((!d)||(decide (a.As<0)))||(decide (a.As>30)))||((decide (b>0))&&((decide (e.T>a.T))||(decide (f.As<a.As))))) (
   some (.inr false))<|
  Option.bind (D2 c a.As) fun h=>
  Option.bind (D2 c a.As) fun g=>
  Option.bind (D2 c a.As) fun i=>
  Option.bind (D2 c a.As) fun j=>
  some (.inl ((c.set (a.As).toNat (A2 (g+1))),(A2 (b+1)))))<|
 Option.map Sum.inr (A4K k l c 0)
def B2h (c:List A3) (d:Int) (b:List Int) (a:Int):Option Bool:=
 loop (fun (s:((List Int)×Int))=>A6N c d s.1 s.2) (b,a)
def A1S (c:List A3) (b:Int):Option Bool:=
 let a:=(A4J b);
 cond (!a) (
  some false)<|
 ck (decide (0<=(31:Int)/\(31:Int)<=(31:Int)/\(31:Int)*8<=140737488355328/\(31:Int)<=140737488355328))<|
 B2h c b (List.replicate ((31:Int)).toNat 0) 0
def A6O (b:List A3):Option Int:=
 cond ((b.length:Int)==(0:Int)) (
  some 0)<|
 Option.bind (D2 b (A2 ((b.length:Int)-(1:Int)))) fun a=>
 some a.T
def A5J (j:Int) (b:List A3) (e a d c:Int):Option ((Int×Int×Int)⊕(((List A3)×Int)⊕(List A3))):=
 cond (decide (c<(b.length:Int))) (
  Option.bind (D2 b c) fun i=>
  Option.bind (D2 b c) fun g=>
  cond (g.As==e) (
   cond (decide (a<0)) (
    some (.inl (c,(A2 (d+1)),(A2 (c+1)))))<|
   some (.inl (a,(A2 (d+1)),(A2 (c+1)))))<|
  some (.inl (a,d,(A2 (c+1)))))<|
 Option.map Sum.inr (cond (decide (d<=(A2 (j+1)))) (
  some (.inr b))<|
 Option.bind (D2 b (A2 (a+1))) fun h=>
 Option.bind (D2 b (A2 (a+1))) fun f=>
 ck (decide (0<=a/\a<=(b.length:Int)))<|
 ck (decide ((([]:List A3).length+(b.take (a).toNat).length)*16<=140737488355328))<|
 ck (decide (((([]:List A3)++(b.take (a).toNat)).length+ [(A3.mk f.T (A2 (e+1)))].length)*16<=140737488355328))<|
 ck (decide (0<=(A2 (a+2))/\(A2 (a+2))<=(b.length:Int)))<|
 ck (decide ((((([]:List A3)++(b.take (a).toNat))++ [(A3.mk f.T (A2 (e+1)))]).length+(b.drop ((A2 (a+(2:Int)))).toNat).length)*16<=140737488355328))<|
 some (.inl ((((([]:List A3)++(b.take (a).toNat))++ [(A3.mk f.T (A2 (e+1)))])++(b.drop ((A2 (a+(2:Int)))).toNat)),(A2 (e+1)))))
def B0h (f:Int) (c:List A3) (d e a b:Int):Option (((List A3)×Int)⊕(List A3)):=
 loop (fun (s:(Int×Int×Int))=>A5J f c d s.1 s.2.1 s.2.2) (e,a,b)
def A5I (c:Int) (a:List A3) (b:Int):Option (((List A3)×Int)⊕(List A3)):=
 cond (decide (b<=30)) (
  B0h c a b (-1:Int) 0 0)<|
 Option.map Sum.inr (some a)
def A4c (c:Int) (a:List A3) (b:Int):Option (List A3):=
 loop (fun (s:((List A3)×Int))=>A5I c s.1 s.2) (a,b)
def A8k (a:List A3) (c b:Int):Option (List A3):=
 ck (decide ((([]:List A3).length+a.length)*16<=140737488355328))<|
 ck (decide (((([]:List A3)++a).length+ [(A3.mk b 0)].length)*16<=140737488355328))<|
 A4c c ((([]:List A3)++a)++ [(A3.mk b 0)]) 0
def A6M (f:List A3) (h g:Int):Option (List A3):=
 Option.bind (A1S f h) fun a=>
 let b:=(F4 g);
 Option.bind (gd (!((!a)||(!b))) (A6O f)) fun c=>
 Option.bind (gd (!(((!a)||(!b))||(decide (g<c)))) (S6 f)) fun d=>
 cond ((((!a)||(!b))||(decide (g<c)))||(decide (d>=1073741824))) (
  some [])<|
 Option.bind (A8k f h g) fun e=>
 some e
def H9 (a:Int):Bool:=
 ((decide (a>=1))&&(decide (a<=64)))
def A4L (d:List A3) (e f a:Int):Option (Int⊕Bool):=
 cond (decide (a<(d.length:Int))) (
  Option.bind (D2 d a) fun b=>
  let c:=(F7 f e b.T);
  cond (!c) (
   some (.inr false))<|
  some (.inl (A2 (a+1))))<|
 Option.map Sum.inr (some true)
def B3J (b:List A3) (c d a:Int):Option Bool:=
 loop (fun (s:Int)=>A4L b c d s) a
def A6P (e:List A3) (f g h i:Int):Option Bool:=
 let a:=(H6 f h i);
 let b:=(H9 g);
 Option.bind (gd (!((!a)||(!b))) (A1S e g)) fun c=>
 Option.bind (gd (!(((!a)||(!b))||(!c))) (S6 e)) fun d=>
 cond ((((!a)||(!b))||(!c))||(decide (d>h))) (
  some false)<|
 B3J e f i 0
def A2p (b:D5):Option Int:=
 Option.bind (A6P b.Ab b.W b.K b.Cap b.Now) fun a=>
 cond (!a) (
  some 2)<|
 some 0
def B06 (d:D5):Option (D5×Int):=
 Option.bind (A2p d) fun a=>
 cond (a !=0) (
  some ((D5.mk 0 0 0 0 []),a))<|
 Option.bind (S6 d.Ab) fun b=>
 cond (b==d.Cap) (
  some ((D5.mk 0 0 0 0 []),5))<|
 Option.bind (A6M d.Ab d.K d.Now) fun c=>
 some ((D5.mk d.W d.K d.Cap d.Now c),0)
def A0w (d e:Int) (a:List A3) (b:Int):Option (((List A3)×Int)⊕(List A3)):=
 cond (decide (b>0)) (
  Option.bind (A8k a d e) fun c=>
  some (.inl (c,(A2 (b-1)))))<|
 Option.map Sum.inr (some a)
def A03 (c d:Int) (a:List A3) (b:Int):Option (List A3):=
 loop (fun (s:((List A3)×Int))=>A0w c d s.1 s.2) (a,b)
def A22 (f:List A3) (h g e:Int):Option (List A3):=
 Option.bind (A1S f h) fun b=>
 let a:=(F4 g);
 Option.bind (gd (!((((!b)||(decide (e<0)))||(decide (e>1024)))||(!a))) (A6O f)) fun c=>
 Option.bind (gd ((!(((((!b)||(decide (e<0)))||(decide (e>1024)))||(!a))||(decide (g<c))))&&(decide (e>0))) (S6 f)) fun d=>
 cond ((((((!b)||(decide (e<0)))||(decide (e>1024)))||(!a))||(decide (g<c)))||((decide (e>0))&&(decide ((A2 (d+e))>1073741824)))) (
  some [])<|
 A03 h g f e
def A0S (a:Int):Bool:=
 ((decide (a>=1))&&(decide (a<=1024)))
def A2q (c:D9):Option Int:=
 Option.bind (A6P c.Ab c.W c.K c.Cap c.Now) fun a=>
 let b:=(A0S c.Be);
 cond ((!a)||(!b)) (
  some 2)<|
 some 0
def B07 (d:D9) (e:Int):Option (D9×Int):=
 Option.bind (A2q d) fun a=>
 cond (a !=0) (
  some ((D9.mk 0 0 0 0 0 []),a))<|
 cond ((decide (e<0))||(decide (e>d.Be))) (
  some ((D9.mk 0 0 0 0 0 []),4))<|
 Option.bind (S6 d.Ab) fun b=>
 cond (decide ((A2 (b+e))>d.Cap)) (
  some ((D9.mk 0 0 0 0 0 []),5))<|
 Option.bind (A22 d.Ab d.K d.Now e) fun c=>
 some ((D9.mk d.W d.K d.Cap d.Be d.Now c),0)
def A8U (e:List A7) (f g d:Int) (b:List A7) (c:Int):Option (((List A7)×Int)⊕(List A7)):=
 cond (decide (c<(e.length:Int))) (
  Option.bind (D2 e c) fun a=>
  ck (decide ((b.length+ [(A7.mk a.Bg a.T (A2 (a.N+1)) (A2 (a.S+d)) (A2 (a.Q+(A2 (d*d)))) (A0P a.Bf d) (X0 a.Be d))].length)*56<=140737488355328))<|
  some (.inl ((b++ [(A7.mk a.Bg a.T (A2 (a.N+1)) (A2 (a.S+d)) (A2 (a.Q+(A2 (d*d)))) (A0P a.Bf d) (X0 a.Be d))]),(A2 (c+1)))))<|
 Option.map Sum.inr (ck (decide ((b.length+ [(A7.mk f g 1 d (A2 (d*d)) d d)].length)*56<=140737488355328))<|
 some (b++ [(A7.mk f g 1 d (A2 (d*d)) d d)]))
def B6L (c:List A7) (d e f:Int) (b:List A7) (a:Int):Option (List A7):=
 loop (fun (s:((List A7)×Int))=>A8U c d e f s.1 s.2) (b,a)
def A5L (a:List A7) (b c d:Int):Option (List A7):=
 B6L a b c d ([]:List A7) 0
def B04 (b a:Int):(Int×Bool):=
 cond (((decide (a<0))&&(decide (b>(A2 (9223372036854775807+a)))))||((decide (a>0))&&(decide (b<(A2 ((-9223372036854775808:Int)+a)))))) (
  (0,false))<|
 ((A2 (b-a)),true)
def B1J:Int:=
 0
def Q2 (b:A7) (c:Int):Int:=
 cond (c==1) (
  b.N)<|
 cond (c==2) (
  b.S)<|
 cond (c==3) (
  b.Q)<|
 cond (c==4) (
  let a:=(B04 b.Be b.Bf);
  cond a.2 (
   a.1)<|
  B1J)<|
 B1J
def A24 (a b c d e:Int):Bool:=
 (((((decide ((A2 (a*d))<=b))&&(decide (b<=(A2 (a*e)))))&&(decide (c>=0)))&&(decide (c<=(A2 ((A2 (a*(4096:Int)))*(4096:Int))))))&&(decide ((A2 (b*b))<=(A2 (a*c)))))
def P8 (b c:Int):Bool:=
 let a:=(D8 c);
 (a&&(((decide (c>=0))||(b==1))||(b==4)))
def A3V (l:List A7) (o q p n m b:Int):Option (Int⊕Bool):=
 cond (decide (b<(l.length:Int))) (
  Option.bind (D2 l b) fun a=>
  Option.bind (gd ((!((((decide (a.Bg<1))||(decide (a.Bg>m)))||(a.N !=(A2 ((A2 (m-a.Bg))+1))))||(decide (a.N>p))))&&(decide (b>0))) (D2 l (A2 (b-1)))) fun g=>
  cond (((((decide (a.Bg<1))||(decide (a.Bg>m)))||(a.N !=(A2 ((A2 (m-a.Bg))+1))))||(decide (a.N>p)))||((decide (b>0))&&(decide (g.Bg>=a.Bg)))) (
   some (.inr false))<|
  let d:=(F4 a.T);
  Option.bind (gd ((!((!d)||(decide (a.T>n))))&&(decide (b>0))) (D2 l (A2 (b-1)))) fun h=>
  let i:=(F7 n q a.T);
  cond ((((!d)||(decide (a.T>n)))||((decide (b>0))&&(decide (h.T>a.T))))||(((decide (b>0))||((l.length:Int)==(1:Int)))&&(!i))) (
   some (.inr false))<|
  let j:=(P8 o a.Bf);
  let k:=(P8 o a.Be);
  let e:=(A24 a.N a.S a.Q a.Bf a.Be);
  cond ((((((((!j)||(!k))||(decide (a.Bf>a.Be)))||(decide (a.S<(A2 ((IntKind.i64.wrap (0-a.N))*4096)))))||(decide (a.S>(A2 (a.N*4096)))))||(decide (a.Q<0)))||(decide (a.Q>(A2 ((A2 (a.N*(4096:Int)))*(4096:Int))))))||(!e)) (
   some (.inr false))<|
  cond ((b==(A2 ((l.length:Int)-(1:Int))))&&((((a.Bg !=m)||(a.Bf !=a.S))||(a.Be !=a.S))||(a.Q !=(A2 (a.S*a.S))))) (
   some (.inr false))<|
  cond (decide (b>0)) (
   Option.bind (D2 l (A2 (b-1))) fun c=>
   let f:=(A24 (A2 (c.N-a.N)) (A2 (c.S-a.S)) (A2 (c.Q-a.Q)) c.Bf c.Be);
   cond (((decide (a.Bf<c.Bf))||(decide (a.Be>c.Be)))||(!f)) (
    some (.inr false))<|
   some (.inl (A2 (b+1))))<|
  some (.inl (A2 (b+1))))<|
 Option.map Sum.inr (some true)
def B2k (b:List A7) (c d e f g a:Int):Option Bool:=
 loop (fun (s:Int)=>A3V b c d e f g s) a
def A5s (b:List A7) (c d e f a:Int):Option Bool:=
 cond ((decide (a<0))||(decide (a>1099511627776))) (
  some false)<|
 B2k b c d e f a 0
def P5 (a:Int):Bool:=
 ((decide (a>=1))&&(decide (a<=4)))
def A1z (j:C3) (a:Int):Option (Int⊕Int):=
 cond (decide (a<(j.Av.length:Int))) (
  Option.bind (D2 j.Av a) fun b=>
  let i:=(Q2 b j.Bd);
  Option.bind (gd (decide (a>1)) (D2 j.Av (A2 (a-2)))) fun d=>
  let e:=(Q2 d j.Bd);
  cond ((decide (a>1))&&(decide ((A2 ((A2 (j.K+1))*i))>=(A2 (j.K*e))))) (
   some (.inr 2))<|
  Option.bind (gd (decide (a>0)) (D2 j.Av (A2 (a-1)))) fun c=>
  let f:=(Q2 b j.Bd);
  Option.bind (gd ((decide (a>0))&&(decide (b.Bg>(A2 (c.Bg+1))))) (D2 j.Av (A2 (a-1)))) fun g=>
  let h:=(Q2 g j.Bd);
  cond (((decide (a>0))&&(decide (b.Bg>(A2 (c.Bg+1)))))&&(decide ((A2 ((A2 (j.K+1))*f))<(A2 (j.K*h))))) (
   some (.inr 2))<|
  some (.inl (A2 (a+1))))<|
 Option.map Sum.inr (some 0)
def A8V (b:C3) (a:Int):Option Int:=
 loop (fun (s:Int)=>A1z b s) a
def A2r (e:C3):Option Int:=
 let c:=(P5 e.Bd);
 let a:=(H6 e.W e.Cap e.Now);
 let b:=(H9 e.K);
 Option.bind (gd (!(((!c)||(!a))||(!b))) (A5s e.Av e.Bd e.W e.Cap e.Now e.Bg)) fun d=>
 cond ((((!c)||(!a))||(!b))||(!d)) (
  some 2)<|
 A8V e 0
def A3n (i:C3) (a:List A7) (b c d:Int):Option ((Int×Int)⊕(((List A7)×Int)⊕(C3×Int))):=
 cond (decide (d<(a.length:Int))) (
  Option.bind (D2 a d) fun g=>
  let h:=(Q2 g i.Bd);
  Option.bind (D2 a b) fun e=>
  let f:=(Q2 e i.Bd);
  cond (decide ((A2 ((A2 (i.K+1))*h))>=(A2 (i.K*f)))) (
   some (.inl (d,(A2 (d+1)))))<|
  some (.inl (c,(A2 (d+1)))))<|
 Option.map Sum.inr (cond (decide (c>b)) (
  ck (decide (0<=(A2 (b+1))/\(A2 (b+1))<=(a.length:Int)))<|
  ck (decide ((([]:List A7).length+(a.take ((A2 (b+(1:Int)))).toNat).length)*56<=140737488355328))<|
  ck (decide (0<=c/\c<=(a.length:Int)))<|
  ck (decide (((([]:List A7)++(a.take ((A2 (b+(1:Int)))).toNat)).length+(a.drop (c).toNat).length)*56<=140737488355328))<|
  some (.inl (((([]:List A7)++(a.take ((A2 (b+(1:Int)))).toNat))++(a.drop (c).toNat)),(A2 (b+1)))))<|
 some (.inl (a,(A2 (b+1)))))
def B4O (e:C3) (c:List A7) (d a b:Int):Option (((List A7)×Int)⊕(C3×Int)):=
 loop (fun (s:(Int×Int))=>A3n e c d s.1 s.2) (a,b)
def A5K (c:C3) (b:List A7) (a:Int):Option (((List A7)×Int)⊕(C3×Int)):=
 cond (decide (a<(b.length:Int))) (
  B4O c b a a (A2 (a+1)))<|
 Option.map Sum.inr (some ((C3.mk c.Bd c.W c.K c.Cap c.Now (A2 (c.Bg+1)) b),0))
def B0i (c:C3) (a:List A7) (b:Int):Option (C3×Int):=
 loop (fun (s:((List A7)×Int))=>A5K c s.1 s.2) (a,b)
def B08 (e:C3) (f:Int):Option (C3×Int):=
 Option.bind (A2r e) fun a=>
 cond (a !=0) (
  some ((C3.mk 0 0 0 0 0 0 []),a))<|
 let b:=(P8 e.Bd f);
 cond (!b) (
  some ((C3.mk 0 0 0 0 0 0 []),4))<|
 Option.bind (gd (decide ((e.Av.length:Int)>(0:Int))) (D2 e.Av 0)) fun c=>
 cond (((decide ((e.Av.length:Int)>(0:Int)))&&(c.N==e.Cap))||(e.Bg==1099511627776)) (
  some ((C3.mk 0 0 0 0 0 0 []),5))<|
 Option.bind (A5L e.Av (A2 (e.Bg+1)) e.Now f) fun d=>
 B0i e d 0
def S9 (a b:C1):Int:=
 cond ((decide (a.Hi<b.Hi))||((a.Hi==b.Hi)&&(decide (a.Lo<b.Lo)))) (
  (-1:Int))<|
 cond (a.Hi==b.Hi&&(a.Lo==b.Lo&&true)) (
  0)<|
 1
def L5 (b c:Int):C1:=
 let a:=(A1u b c);
 (C1.mk a.1 a.2)
def Y6 (a:A7):Bool:=
 (((((((decide (a.N>=1))&&(decide (a.N<=65536)))&&(decide (a.S>=(A2 ((IntKind.i64.wrap (0-a.N))*4096)))))&&(decide (a.S<=(A2 (a.N*4096)))))&&(decide (a.Q>=0)))&&(decide (a.Q<=(A2 ((A2 (a.N*(4096:Int)))*(4096:Int))))))&&(decide ((A2 (a.S*a.S))<=(A2 (a.N*a.Q)))))
def A5t (g h:A7) (i:Int):Bool:=
 let d:=(Y6 g);
 let e:=(Y6 h);
 let a:=(H9 i);
 cond ((((!d)||(!e))||(!a))||(decide ((A2 ((A2 (6*i))*h.N))<(A2 ((A2 ((A2 (6*i))-1))*g.N))))) (
  false)<|
 let f:=(L5 (F9 (A2 ((A2 (h.N*h.Q))-(A2 (h.S*h.S))))) (F9 (A2 ((A2 (6*i))*g.N))));
 let b:=(L5 (F9 (A2 ((A2 (g.N*g.Q))-(A2 (g.S*g.S))))) (F9 (A2 ((A2 ((A2 (6*i))-1))*h.N))));
 let c:=(S9 f b);
 (decide (c>=0))
def A1A (e:C4) (a:Int):Option (Int⊕Int):=
 cond (decide (a<(e.Av.length:Int))) (
  Option.bind (D2 e.Av (A2 (a-2))) fun c=>
  Option.bind (D2 e.Av a) fun d=>
  let b:=(A5t c d e.K);
  cond b (
   some (.inr 2))<|
  some (.inl (A2 (a+1))))<|
 Option.map Sum.inr (some 0)
def A8W (b:C4) (a:Int):Option Int:=
 loop (fun (s:Int)=>A1A b s) a
def A2s (d:C4):Option Int:=
 let b:=(H6 d.W d.Cap d.Now);
 let a:=(H9 d.K);
 Option.bind (gd (!((!b)||(!a))) (A5s d.Av 4 d.W d.Cap d.Now d.Bg)) fun c=>
 cond (((!b)||(!a))||(!c)) (
  some 2)<|
 A8W d 2
def A3o (h:C4) (a:List A7) (b d c:Int):Option ((Int×Int)⊕(((List A7)×Int)⊕(C4×Int))):=
 cond (decide (c<(a.length:Int))) (
  Option.bind (D2 a b) fun f=>
  Option.bind (D2 a c) fun g=>
  let e:=(A5t f g h.K);
  cond e (
   some (.inl (c,(A2 (c+1)))))<|
  some (.inl (d,(A2 (c+1)))))<|
 Option.map Sum.inr (cond (decide (d>b)) (
  ck (decide (0<=(A2 (b+1))/\(A2 (b+1))<=(a.length:Int)))<|
  ck (decide ((([]:List A7).length+(a.take ((A2 (b+(1:Int)))).toNat).length)*56<=140737488355328))<|
  ck (decide (0<=d/\d<=(a.length:Int)))<|
  ck (decide (((([]:List A7)++(a.take ((A2 (b+(1:Int)))).toNat)).length+(a.drop (d).toNat).length)*56<=140737488355328))<|
  some (.inl (((([]:List A7)++(a.take ((A2 (b+(1:Int)))).toNat))++(a.drop (d).toNat)),(A2 (b+1)))))<|
 some (.inl (a,(A2 (b+1)))))
def B4Q (e:C4) (b:List A7) (c d a:Int):Option (((List A7)×Int)⊕(C4×Int)):=
 loop (fun (s:(Int×Int))=>A3o e b c s.1 s.2) (d,a)
def A5M (c:C4) (b:List A7) (a:Int):Option (((List A7)×Int)⊕(C4×Int)):=
 cond (decide (a<(b.length:Int))) (
  B4Q c b a a (A2 (a+1)))<|
 Option.map Sum.inr (some ((C4.mk c.W c.K c.Cap c.Now (A2 (c.Bg+1)) b),0))
def B0j (c:C4) (a:List A7) (b:Int):Option (C4×Int):=
 loop (fun (s:((List A7)×Int))=>A5M c s.1 s.2) (a,b)
def B09 (e:C4) (f:Int):Option (C4×Int):=
 Option.bind (A2s e) fun a=>
 cond (a !=0) (
  some ((C4.mk 0 0 0 0 0 []),a))<|
 let b:=(D8 f);
 cond (!b) (
  some ((C4.mk 0 0 0 0 0 []),4))<|
 Option.bind (gd (decide ((e.Av.length:Int)>(0:Int))) (D2 e.Av 0)) fun c=>
 cond (((decide ((e.Av.length:Int)>(0:Int)))&&(c.N==e.Cap))||(e.Bg==1099511627776)) (
  some ((C4.mk 0 0 0 0 0 []),5))<|
 Option.bind (A5L e.Av (A2 (e.Bg+1)) e.Now f) fun d=>
 B0j e d 0
def A8i (c d:C1):Option (C1×Bool):=
 Option.bind (Q4 c.Lo d.Lo 0) fun a=>
 Option.bind (Q4 c.Hi d.Hi a.2) fun b=>
 cond (b.2 !=0) (
  some ((C1.mk 0 0),false))<|
 some ((C1.mk b.1 a.1),true)
def A2P (e f:C1):Option (C1×Bool):=
 cond ((e.Hi !=0)&&(f.Hi !=0)) (
  some ((C1.mk 0 0),false))<|
 let b:=(L5 e.Hi f.Lo);
 let c:=(L5 e.Lo f.Hi);
 cond ((b.Hi !=0)||(c.Hi !=0)) (
  some ((C1.mk 0 0),false))<|
 let d:=(L5 e.Lo f.Lo);
 Option.bind (A8i d (C1.mk (F9 (b.Lo+c.Lo)) 0)) fun a=>
 some (a.1,a.2)
def K3 (a:Int):C1:=
 (C1.mk 0 a)
def A3m (g h:Int) (d:Bool) (e a b:Int):Option ((Bool×Int×Int×Int)⊕(C1×Bool)):=
 cond ((decide (e<h))&&d) (
  let f:=(K3 g);
  Option.bind (A2P (C1.mk a b) f) fun c=>
  some (.inl (c.2,(A2 (e+1)),c.1.Hi,c.1.Lo)))<|
 Option.map Sum.inr (some ((C1.mk a b),d))
def A6J (e f:Int) (c:Bool) (d a b:Int):Option (C1×Bool):=
 loop (fun (s:(Bool×Int×Int×Int))=>A3m e f s.1 s.2.1 s.2.2.1 s.2.2.2) (c,d,a,b)
def A8j (c d:Int):Option (C1×Bool):=
 cond (decide (d<0)) (
  some ((C1.mk 0 0),false))<|
 cond ((d==0)||(c==1)) (
  let b:=(K3 1);
  some (b,true))<|
 cond (c==0) (
  some ((C1.mk 0 0),true))<|
 let a:=(K3 1);
 A6J c d true 0 a.Hi a.Lo
def A1B (j:D3) (a:Int):Option (Int⊕Int):=
 cond (decide (a<=j.P)) (
  Option.bind (D2 j.Ae (A2 (a-1))) fun g=>
  let d:=(K3 (F9 (A2 ((A2 (j.Now-j.Ay))+1))));
  Option.bind (A2P g d) fun b=>
  Option.bind (D2 j.Ae a) fun h=>
  Option.bind (D2 j.Ae (A2 (a-1))) fun i=>
  let c:=(S9 h i);
  Option.bind (gd ((!(decide (c<0)))&&b.2) (D2 j.Ae a)) fun e=>
  let f:=(S9 e b.1);
  cond ((decide (c<0))||(b.2&&(decide (f>0)))) (
   some (.inr 2))<|
  some (.inl (A2 (a+1))))<|
 Option.map Sum.inr (some 0)
def A8X (b:D3) (a:Int):Option Int:=
 loop (fun (s:Int)=>A1B b s) a
def A2t (b:D3):Option Int:=
 let a:=(F4 b.Now);
 cond ((((((decide (b.P<0))||(decide (b.P>4)))||(!a))||(decide (b.Ay<0)))||(decide (b.Ay>b.Now)))||((b.Ae.length:Int) !=(A2 (b.P+1)))) (
  some 2)<|
 A8X b 1
def X1 (f g b:List C1) (a:Int):Option (((List C1)×Int)⊕((List C1)×Bool)):=
 cond (decide (a<(f.length:Int))) (
  Option.bind (D2 f a) fun d=>
  Option.bind (D2 g a) fun e=>
  Option.bind (A8i d e) fun c=>
  cond (!c.2) (
   some (.inr ([],false)))<|
  ck (decide ((b.length+ [c.1].length)*16<=140737488355328))<|
  some (.inl ((b++ [c.1]),(A2 (a+1)))))<|
 Option.map Sum.inr (some (b,true))
def B3K (c d b:List C1) (a:Int):Option ((List C1)×Bool):=
 loop (fun (s:((List C1)×Int))=>X1 c d s.1 s.2) (b,a)
def A6Q (a b:List C1):Option ((List C1)×Bool):=
 B3K a b ([]:List C1) 0
def A1d (g:D3) (h:Int) (b:List C1) (a:Int):Option (((List C1)×Int)⊕(D3×Int)):=
 cond (decide (a<(g.Ae.length:Int))) (
  Option.bind (A8j (F9 (A2 ((A2 (g.Now-g.Ay))+1))) a) fun e=>
  let f:=(K3 (F9 h));
  Option.bind (A2P f e.1) fun c=>
  ck (decide ((b.length+ [c.1].length)*16<=140737488355328))<|
  some (.inl ((b++ [c.1]),(A2 (a+1)))))<|
 Option.map Sum.inr (Option.bind (A6Q g.Ae b) fun d=>
 cond (!d.2) (
  some ((D3.mk 0 0 0 []),6))<|
 some ((D3.mk g.P g.Ay g.Now d.1),0))
def B0k (c:D3) (d:Int) (b:List C1) (a:Int):Option (D3×Int):=
 loop (fun (s:((List C1)×Int))=>A1d c d s.1 s.2) (b,a)
def B1a (d:D3) (c:Int):Option (D3×Int):=
 Option.bind (A2t d) fun a=>
 cond (a !=0) (
  some ((D3.mk 0 0 0 []),a))<|
 let b:=(D8 c);
 cond ((decide (c<0))||(!b)) (
  some ((D3.mk 0 0 0 []),4))<|
 B0k d c ([]:List C1) 0
def A1C (c:E5) (a:Int):Option (Int⊕Int):=
 cond (decide (a<(c.Bc.length:Int))) (
  Option.bind (D2 c.Bc a) fun b=>
  cond (((decide (b<0))||(decide (b>1099511627776)))||((decide (a>c.Now))&&(b !=0))) (
   some (.inr 2))<|
  some (.inl (A2 (a+1))))<|
 Option.map Sum.inr (some 0)
def A8Y (b:E5) (a:Int):Option Int:=
 loop (fun (s:Int)=>A1C b s) a
def A2u (b:E5):Option Int:=
 let a:=(F4 b.Now);
 cond (((decide ((b.Bc.length:Int)<(1:Int)))||(decide ((b.Bc.length:Int)>(64:Int))))||(!a)) (
  some 2)<|
 A8Y b 0
def B1c (h:E5) (i:Int):Option (E5×Int):=
 Option.bind (A2u h) fun a=>
 cond (a !=0) (
  some ((E5.mk 0 []),a))<|
 let b:=(D8 i);
 cond ((decide (i<0))||(!b)) (
  some ((E5.mk 0 []),4))<|
 Option.bind (D2 h.Bc 0) fun c=>
 cond (decide ((A2 (c+i))>1099511627776)) (
  some ((E5.mk 0 []),6))<|
 ck (decide ((([]:List Int).length+h.Bc.length)*8<=140737488355328))<|
 Option.bind (D2 (([]:List Int)++h.Bc) 0) fun e=>
 Option.bind (D2 (([]:List Int)++h.Bc) 0) fun d=>
 Option.bind (D2 (([]:List Int)++h.Bc) 0) fun f=>
 Option.bind (D2 (([]:List Int)++h.Bc) 0) fun g=>
 some ((E5.mk h.Now ((([]:List Int)++h.Bc).set ((0:Int)).toNat (A2 (d+i)))),0)
def A0T (a:Bool) (b c:Int):Bool:=
 ((a&&(decide (b>c)))||((!a)&&(decide (b<c))))
def A1D (c:B6) (b:List B6) (d a:Int):Option (Int⊕(((List B6)×Int)⊕(List B6))):=
 Option.bind (gd (decide (a>0)) (D2 b (A2 (a-1)))) fun f=>
 Option.bind (gd (decide (a>0)) (D2 b (A2 (a-1)))) fun e=>
 cond ((decide (a>0))&&(decide (e.T>c.T))) (
  some (.inl (A2 (a-1))))<|
 Option.map Sum.inr (ck (decide (0<=a/\a<=(b.length:Int)))<|
 ck (decide ((([]:List B6).length+(b.take (a).toNat).length)*16<=140737488355328))<|
 ck (decide (((([]:List B6)++(b.take (a).toNat)).length+ [c].length)*16<=140737488355328))<|
 ck (decide (0<=a/\a<=(b.length:Int)))<|
 ck (decide ((((([]:List B6)++(b.take (a).toNat))++ [c]).length+(b.drop (a).toNat).length)*16<=140737488355328))<|
 some (.inl ((((([]:List B6)++(b.take (a).toNat))++ [c])++(b.drop (a).toNat)),(A2 (d+1)))))
def B2p (c:B6) (d:List B6) (b a:Int):Option (((List B6)×Int)⊕(List B6)):=
 loop (fun (s:Int)=>A1D c d b s) a
def A2w (h:List B6) (i:Bool) (c:B6) (e:List B6) (b:Int) (f:Bool) (a:Int):Option ((Bool×Int)⊕(((List B6)×Int)⊕(List B6))):=
 cond (decide (a<(h.length:Int))) (
  Option.bind (D2 h a) fun d=>
  let g:=(A0T i c.V d.V);
  cond ((((b !=a)&&(decide (d.T>=c.T)))&&(!g))&&((!(c.T==d.T&&(c.V==d.V&&true)))||(decide (a<b)))) (
   some (.inl (false,(A2 (a+1)))))<|
  some (.inl (f,(A2 (a+1)))))<|
 Option.map Sum.inr (cond (!f) (
  some (.inl (e,(A2 (b+1)))))<|
 B2p c e b (e.length:Int))
def B3M (f:List B6) (g:Bool) (c:B6) (d:List B6) (a:Int) (e:Bool) (b:Int):Option (((List B6)×Int)⊕(List B6)):=
 loop (fun (s:(Bool×Int))=>A2w f g c d a s.1 s.2) (e,b)
def A2v (d:List B6) (e:Bool) (b:List B6) (a:Int):Option (((List B6)×Int)⊕(List B6)):=
 cond (decide (a<(d.length:Int))) (
  Option.bind (D2 d a) fun c=>
  B3M d e c b a true 0)<|
 Option.map Sum.inr (some b)
def B3L (c:List B6) (d:Bool) (b:List B6) (a:Int):Option (List B6):=
 loop (fun (s:((List B6)×Int))=>A2v c d s.1 s.2) (b,a)
def A9g (a:List B6) (b:Bool):Option (List B6):=
 B3L a b ([]:List B6) 0
def A1E (h:B7) (a:Int):Option (Int⊕Int):=
 cond (decide (a<(h.Ar.length:Int))) (
  Option.bind (D2 h.Ar a) fun b=>
  let d:=(F7 h.Now h.W b.T);
  let c:=(D8 b.V);
  Option.bind (gd ((!((!d)||(!c)))&&(decide (a>0))) (D2 h.Ar (A2 (a-1)))) fun e=>
  Option.bind (gd (((!((!d)||(!c)))&&(decide (a>0)))&&(!(decide (e.T>=b.T)))) (D2 h.Ar (A2 (a-1)))) fun f=>
  let g:=(A0T h.Be f.V b.V);
  cond (((!d)||(!c))||((decide (a>0))&&((decide (e.T>=b.T))||(!g)))) (
   some (.inr 2))<|
  some (.inl (A2 (a+1))))<|
 Option.map Sum.inr (some 0)
def A8Z (b:B7) (a:Int):Option Int:=
 loop (fun (s:Int)=>A1E b s) a
def A2x (b:B7):Option Int:=
 let a:=(H6 b.W b.Cap b.Now);
 cond ((!a)||(decide ((b.Ar.length:Int)>b.Cap))) (
  some 2)<|
 A8Z b 0
def B1d (d:B7) (e:Int):Option (B7×Int):=
 Option.bind (A2x d) fun b=>
 cond (b !=0) (
  some ((B7.mk false 0 0 0 []),b))<|
 let c:=(D8 e);
 cond (!c) (
  some ((B7.mk false 0 0 0 []),4))<|
 ck (decide ((([]:List B6).length+d.Ar.length)*16<=140737488355328))<|
 ck (decide (((([]:List B6)++d.Ar).length+ [(B6.mk d.Now e)].length)*16<=140737488355328))<|
 Option.bind (A9g ((([]:List B6)++d.Ar)++ [(B6.mk d.Now e)]) d.Be) fun a=>
 cond (decide ((a.length:Int)>d.Cap)) (
  some ((B7.mk false 0 0 0 []),5))<|
 some ((B7.mk d.Be d.W d.Cap d.Now a),0)
def A4e (g:A9) (a:Int):Option (Int⊕Int):=
 cond (decide (a<(g.Au.length:Int))) (
  Option.bind (D2 g.Au a) fun b=>
  let c:=(D8 b.V);
  Option.bind (gd ((!((!c)||(decide (b.I>g.I))))&&(decide (a>0))) (D2 g.Au (A2 (a-1)))) fun d=>
  Option.bind (gd (((!((!c)||(decide (b.I>g.I))))&&(decide (a>0)))&&(!(decide (b.I<=d.I)))) (D2 g.Au (A2 (a-1)))) fun e=>
  cond (((!c)||(decide (b.I>g.I)))||((decide (a>0))&&((decide (b.I<=d.I))||(decide (b.I>(A2 (e.I+g.W))))))) (
   some (.inr 2))<|
  some (.inl (A2 (a+1))))<|
 Option.map Sum.inr (Option.bind (gd (!(decide (g.Ba<=g.I))) (D2 g.Au (A2 ((g.Au.length:Int)-(1:Int))))) fun f=>
 cond ((decide (g.Ba<=g.I))||(decide (g.Ba>(A2 (f.I+g.W))))) (
  some 2)<|
 some 0)
def A5f (b:A9) (a:Int):Option Int:=
 loop (fun (s:Int)=>A4e b s) a
def A0F (d:A9):Option Int:=
 let c:=(M6 d.W);
 cond ((((((!c)||(decide (d.Cap<1)))||(decide (d.Cap>64)))||(decide (d.I<0)))||(decide (d.I>1099511627776)))||(decide ((d.Au.length:Int)>d.Cap))) (
  some 2)<|
 cond (d.I==0) (
  cond (((d.Au.length:Int) !=(0:Int))||(d.Ba !=0)) (
   some 2)<|
  some 0)<|
 Option.bind (gd (!((d.Au.length:Int)==(0:Int))) (D2 d.Au 0)) fun a=>
 Option.bind (gd (!(((d.Au.length:Int)==(0:Int))||(decide (a.I<=(A2 (d.I-d.W)))))) (D2 d.Au 0)) fun b=>
 cond ((((d.Au.length:Int)==(0:Int))||(decide (a.I<=(A2 (d.I-d.W)))))||(decide (b.I<1))) (
  some 2)<|
 A5f d 0
def A6K (e:List Int) (d f:Int):Option (Int×Int×Int):=
 cond ((decide (f<1))||(decide (d<0))) (
  some (0,0,1))<|
 Option.bind (gd (!(decide (d>=(e.length:Int)))) (D2 e d)) fun a=>
 Option.bind (gd (!((decide (d>=(e.length:Int)))||(decide (a<0)))) (D2 e d)) fun b=>
 cond (((decide (d>=(e.length:Int)))||(decide (a<0)))||(decide (b>=f))) (
  some (0,0,8))<|
 Option.bind (D2 e d) fun c=>
 some (c,(A2 (d+1)),0)
def A8x (d:A9) (c:Int) (b:List E9) (a:Int):Option (A9×Int×Int×Int):=
 some ((A9.mk d.W d.Cap (A2 (d.I+1)) a b),c,0,0)
def V9 (e:A9) (f:Int) (g:List Int) (c:Int) (a:List E9) (d:Bool):Option (A9×Int×Int×Int):=
 cond d (
  ck (decide ((a.length+ [(E9.mk (A2 (e.I+1)) f)].length)*16<=140737488355328))<|
  cond (decide (((a++ [(E9.mk (A2 (e.I+1)) f)]).length:Int)>e.Cap)) (
   some ((A9.mk 0 0 0 0 []),0,0,9))<|
  Option.bind (A6K g c e.W) fun b=>
  cond (b.2.2 !=0) (
   some ((A9.mk 0 0 0 0 []),c,e.W,b.2.2))<|
  A8x e b.2.1 (a++ [(E9.mk (A2 (e.I+1)) f)]) (A2 ((A2 ((A2 (e.I+(1:Int)))+(1:Int)))+b.1)))<|
 A8x e c a e.Ba
def A6R (e:A9) (f:Int) (g:List Int) (h:Int):Option (A9×Int×Int×Int):=
 let c:=(D8 f);
 cond (!c) (
  some ((A9.mk 0 0 0 0 []),0,0,4))<|
 cond (decide (h<0)) (
  some ((A9.mk 0 0 0 0 []),0,0,1))<|
 cond (e.I==1099511627776) (
  some ((A9.mk 0 0 0 0 []),0,0,5))<|
 ck (decide ((([]:List E9).length+e.Au.length)*16<=140737488355328))<|
 Option.bind (gd (decide (((([]:List E9)++e.Au).length:Int)>(0:Int))) (D2 (([]:List E9)++e.Au) 0)) fun d=>
 Option.bind (gd (decide (((([]:List E9)++e.Au).length:Int)>(0:Int))) (D2 (([]:List E9)++e.Au) 0)) fun b=>
 cond ((decide (((([]:List E9)++e.Au).length:Int)>(0:Int)))&&(b.I==(A2 ((A2 (e.I+1))-e.W)))) (
  ck (decide (0<=(1:Int)/\1<=((([]:List E9)++e.Au).length:Int)))<|
  V9 e f g h ((([]:List E9)++e.Au).drop ((1:Int)).toNat) ((decide (e.I>0))&&(e.Ba==(A2 (e.I+1)))))<|
 Option.bind (A6K g h (A0P (A2 (e.I+1)) e.W)) fun a=>
 cond (a.2.2 !=0) (
  some ((A9.mk 0 0 0 0 []),h,(A0P (A2 (e.I+1)) e.W),a.2.2))<|
 cond (a.1==0) (
  V9 e f g a.2.1 ([]:List E9) true)<|
 V9 e f g a.2.1 (([]:List E9)++e.Au) ((decide (e.I>0))&&(e.Ba==(A2 (e.I+1))))
def A6l (c:A9) (d:Int) (e:List Int) (f:Int):Option (A9×Int×Int):=
 Option.bind (A0F c) fun b=>
 cond (b !=0) (
  some ((A9.mk 0 0 0 0 []),0,b))<|
 Option.bind (A6R c d e f) fun a=>
 cond (a.2.2.2 !=0) (
  some ((A9.mk 0 0 0 0 []),0,a.2.2.2))<|
 some (a.1,a.2.1,0)
def A4f (e:D6) (a:Int):Option (Int⊕Int):=
 cond (decide (a<(e.Ah.length:Int))) (
  Option.bind (D2 e.Ah a) fun b=>
  Option.bind (D2 e.Ah 0) fun c=>
  Option.bind (A0F b) fun d=>
  cond ((((d !=0)||(b.W !=c.W))||(b.Cap !=c.Cap))||(b.I !=c.I)) (
   some (.inr 2))<|
  some (.inl (A2 (a+1))))<|
 Option.map Sum.inr (some 0)
def A80 (b:D6) (a:Int):Option Int:=
 loop (fun (s:Int)=>A4f b s) a
def X2 (a:D6):Option Int:=
 cond ((decide ((a.Ah.length:Int)<(1:Int)))||(decide ((a.Ah.length:Int)>(16:Int)))) (
  some 2)<|
 A80 a 0
def A5N (f:D6) (h:Int) (g:List Int) (d c:Int) (a:List A9):Option ((Int×Int×(List A9))⊕(D6×Int)):=
 cond (decide (c<(f.Ah.length:Int))) (
  Option.bind (D2 f.Ah c) fun e=>
  Option.bind (A6l e h g d) fun b=>
  cond (b.2.2 !=0) (
   some (.inr ((D6.mk []),b.2.2)))<|
  ck (decide ((a.length+ [b.1].length)*56<=140737488355328))<|
  some (.inl (b.2.1,(A2 (c+1)),(a++ [b.1]))))<|
 Option.map Sum.inr (cond (decide (d<(g.length:Int))) (
  some ((D6.mk []),8))<|
 some ((D6.mk a),0))
def B0l (d:D6) (e:Int) (f:List Int) (b c:Int) (a:List A9):Option (D6×Int):=
 loop (fun (s:(Int×Int×(List A9)))=>A5N d e f s.1 s.2.1 s.2.2) (b,c,a)
def B1e (c:D6) (d:Int) (e:List Int):Option (D6×Int):=
 Option.bind (X2 c) fun a=>
 cond (a !=0) (
  some ((D6.mk []),a))<|
 let b:=(D8 d);
 cond (!b) (
  some ((D6.mk []),4))<|
 B0l c d e 0 0 ([]:List A9)
def A9z (a:A8):Option Int:=
 ck (decide (a.K≠0))<|
 some (X0 1 (A2 (Int.tdiv a.N a.K)))
def Y8 (c b:Int):(A8×Int):=
 let a:=(H9 c);
 cond (((!a)||(decide (b<2)))||(decide (b>65536))) (
  ((A8.mk 0 0 0 []),1))<|
 ((A8.mk c b 0 []),0)
def A1F (g:A8) (c b:Int):Option ((Int×Int)⊕Int):=
 cond (decide (b<(g.Ao.length:Int))) (
  Option.bind (D2 g.Ao b) fun a=>
  let d:=(D8 a.V);
  Option.bind (gd (!(((((!d)||(decide (a.G<1)))||(decide (a.G>g.N)))||(decide (a.D<0)))||(decide (a.D>g.N)))) (A9z g)) fun e=>
  Option.bind (gd ((!((((((!d)||(decide (a.G<1)))||(decide (a.G>g.N)))||(decide (a.D<0)))||(decide (a.D>g.N)))||(decide ((A2 (a.G+a.D))>e))))&&(decide (b>0))) (D2 g.Ao (A2 (b-1)))) fun f=>
  cond (((((((((!d)||(decide (a.G<1)))||(decide (a.G>g.N)))||(decide (a.D<0)))||(decide (a.D>g.N)))||(decide ((A2 (a.G+a.D))>e)))||((decide (b>0))&&(decide (f.V>a.V))))||((b==0)&&((a.G !=1)||(a.D !=0))))||((b==(A2 ((g.Ao.length:Int)-(1:Int))))&&(a.D !=0))) (
   some (.inr 2))<|
  cond (decide ((A2 (c+a.G))>g.N)) (
   some (.inr 2))<|
  some (.inl ((A2 (c+a.G)),(A2 (b+1)))))<|
 Option.map Sum.inr (cond (c !=g.N) (
  some 2)<|
 some 0)
def A81 (c:A8) (b a:Int):Option Int:=
 loop (fun (s:(Int×Int))=>A1F c s.1 s.2) (b,a)
def A2z (b:A8):Option Int:=
 let a:=(Y8 b.K b.Cap);
 cond (((((a.2 !=0)||(decide (b.N<0)))||(decide (b.N>1099511627776)))||(decide ((b.Ao.length:Int)>b.Cap)))||(!(((b.Ao.length:Int)==(0:Int))==(b.N==0)))) (
  some 2)<|
 A81 b 0 0
def A2A (p:A8) (b:List D4) (a:Int):Option (((List D4)×Int)⊕A8):=
 cond (decide (a>=1)) (
  Option.bind (D2 b a) fun m=>
  Option.bind (D2 b a) fun i=>
  Option.bind (D2 b (A2 (a+1))) fun n=>
  Option.bind (D2 b (A2 (a+1))) fun f=>
  Option.bind (D2 b (A2 (a+1))) fun j=>
  Option.bind (D2 b (A2 (a+1))) fun g=>
  Option.bind (A9z p) fun h=>
  cond (decide ((A2 ((A2 (i.G+f.G))+g.D))<=h)) (
   Option.bind (D2 b (A2 (a+1))) fun o=>
   Option.bind (D2 b (A2 (a+1))) fun e=>
   Option.bind (D2 b a) fun k=>
   Option.bind (D2 b a) fun d=>
   Option.bind (D2 b (A2 (a+1))) fun l=>
   Option.bind (D2 b (A2 (a+1))) fun c=>
   ck (decide (0<=a/\a=a/\a<=((b.set ((A2 (a+(1:Int)))).toNat (D4.mk c.V (A2 (e.G+d.G)) c.D)).length:Int)))<|
   ck (decide (0<=(A2 (a+1))/\(A2 (a+1))<=((b.set ((A2 (a+(1:Int)))).toNat (D4.mk c.V (A2 (e.G+d.G)) c.D)).length:Int)))<|
   ck (decide (((b.set ((A2 (a+(1:Int)))).toNat (D4.mk c.V (A2 (e.G+d.G)) c.D)).drop ((A2 (a+(1:Int)))).toNat)≠ []/\(((b.set ((A2 (a+(1:Int)))).toNat (D4.mk c.V (A2 (e.G+d.G)) c.D)).take (a).toNat).length+((b.set ((A2 (a+(1:Int)))).toNat (D4.mk c.V (A2 (e.G+d.G)) c.D)).drop ((A2 (a+(1:Int)))).toNat).length)*24<=140737488355328))<|
   some (.inl ((((b.set ((A2 (a+(1:Int)))).toNat (D4.mk c.V (A2 (e.G+d.G)) c.D)).take (a).toNat)++((b.set ((A2 (a+(1:Int)))).toNat (D4.mk c.V (A2 (e.G+d.G)) c.D)).drop ((A2 (a+(1:Int)))).toNat)),(A2 (a-1)))))<|
  some (.inl (b,(A2 (a-1)))))<|
 Option.map Sum.inr (some (A8.mk p.K p.Cap p.N b))
def A1e (c:A8) (a:List D4) (b:Int):Option A8:=
 loop (fun (s:((List D4)×Int))=>A2A c s.1 s.2) (a,b)
def A9i (a:A8):Option A8:=
 ck (decide ((([]:List D4).length+a.Ao.length)*24<=140737488355328))<|
 A1e a (([]:List D4)++a.Ao) (A2 (((([]:List D4)++a.Ao).length:Int)-(2:Int)))
def A4g (a:A8):Option (A8×Int):=
 cond (decide ((a.Ao.length:Int)>a.Cap)) (
  some ((A8.mk 0 0 0 []),5))<|
 some (a,0)
def B4X (b:A8):Option (A8×Int):=
 cond (decide ((b.Ao.length:Int)>b.Cap)) (
  Option.bind (A9i b) fun a=>
  A4g a)<|
 A4g b
def S1 (d:A8) (e a b:Int):Option (A8×Int):=
 ck (decide (0<=a/\a<=(d.Ao.length:Int)))<|
 ck (decide ((([]:List D4).length+(d.Ao.take (a).toNat).length)*24<=140737488355328))<|
 ck (decide (((([]:List D4)++(d.Ao.take (a).toNat)).length+ [(D4.mk e 1 b)].length)*24<=140737488355328))<|
 ck (decide (0<=a/\a<=(d.Ao.length:Int)))<|
 ck (decide ((((([]:List D4)++(d.Ao.take (a).toNat))++ [(D4.mk e 1 b)]).length+(d.Ao.drop (a).toNat).length)*24<=140737488355328))<|
 Option.bind (B4X (A8.mk d.K d.Cap (A2 (d.N+1)) (((([]:List D4)++(d.Ao.take (a).toNat))++ [(D4.mk e 1 b)])++(d.Ao.drop (a).toNat)))) fun c=>
 some (c.1,c.2)
def A0U (e:A8) (f a:Int):Option (Int⊕(A8×Int)):=
 Option.bind (gd (decide (a>0)) (D2 e.Ao (A2 (a-1)))) fun d=>
 cond ((decide (a>0))&&(decide (d.V>f))) (
  some (.inl (A2 (a-1))))<|
 Option.map Sum.inr (cond ((decide (a>0))&&(decide (a<(e.Ao.length:Int)))) (
  Option.bind (D2 e.Ao a) fun b=>
  Option.bind (D2 e.Ao a) fun c=>
  S1 e f a (A2 ((A2 (b.G+c.D))-1)))<|
 S1 e f a 0)
def A6U (b:A8) (c a:Int):Option (A8×Int):=
 loop (fun (s:Int)=>A0U b c s) a
def A6T (c:A8) (d:Int):Option (A8×Int):=
 Option.bind (A2z c) fun a=>
 cond (a !=0) (
  some ((A8.mk 0 0 0 []),a))<|
 let b:=(D8 d);
 cond (!b) (
  some ((A8.mk 0 0 0 []),4))<|
 cond (c.N==1099511627776) (
  some ((A8.mk 0 0 0 []),5))<|
 A6U c d (c.Ao.length:Int)
def A1G (d:D0) (a:Int):Option (Int⊕Int):=
 cond (decide (a<(d.Ac.length:Int))) (
  Option.bind (D2 d.Ac a) fun b=>
  cond (((((decide (b.Bf<1))||(decide (b.Bf>b.Be)))||(decide (b.Be>d.N)))||((a==0)&&(b.Be !=1)))||((a==(A2 ((d.Ac.length:Int)-(1:Int))))&&(b.Bf !=d.N))) (
   some (.inr 2))<|
  cond (decide (a>0)) (
   Option.bind (D2 d.Ac (A2 (a-1))) fun c=>
   cond (((decide (c.V>b.V))||(decide (c.Bf>=b.Bf)))||(decide (c.Be>=b.Be))) (
    some (.inr 2))<|
   some (.inl (A2 (a+1))))<|
  some (.inl (A2 (a+1))))<|
 Option.map Sum.inr (some 0)
def A82 (b:D0) (a:Int):Option Int:=
 loop (fun (s:Int)=>A1G b s) a
def T5 (a:D0):Option Int:=
 cond (((decide (a.N<0))||(decide (a.N>1099511627776)))||(!(((a.Ac.length:Int)==(0:Int))==(a.N==0)))) (
  some 2)<|
 A82 a 0
def A1H (h:D0) (i:Bool) (a:B1) (e:Int) (f:List B1) (g c b:Int):Option ((Int×Int)⊕(((List B1)×Int)⊕(List B1))):=
 cond (decide (b>=0)) (
  Option.bind (D2 h.Ac b) fun d=>
  cond ((decide (d.V>a.V))||(i&&(d.V==a.V))) (
   some (.inl ((A2 (d.Be-1)),(A2 (b-1)))))<|
  some (.inl (c,(A2 (b-1)))))<|
 Option.map Sum.inr (ck (decide ((f.length+ [(B1.mk a.V (A2 (a.Bf+e)) (A2 (a.Be+c)))].length)*24<=140737488355328))<|
 some (.inl ((f++ [(B1.mk a.V (A2 (a.Bf+e)) (A2 (a.Be+c)))]),(A2 (g+1)))))
def A5g (g:D0) (h:Bool) (e:B1) (c:Int) (f:List B1) (d a b:Int):Option (((List B1)×Int)⊕(List B1)):=
 loop (fun (s:(Int×Int))=>A1H g h e c f d s.1 s.2) (a,b)
def A14 (g:D0) (h:Bool) (b:B1) (f:List B1) (e d a:Int):Option ((Int×Int)⊕(((List B1)×Int)⊕(List B1))):=
 cond (decide (a<(g.Ac.length:Int))) (
  Option.bind (D2 g.Ac a) fun c=>
  cond ((decide (c.V<b.V))||((!h)&&(c.V==b.V))) (
   some (.inl (c.Bf,(A2 (a+1)))))<|
  some (.inl (d,(A2 (a+1)))))<|
 Option.map Sum.inr (A5g g h b d f e g.N (A2 ((g.Ac.length:Int)-(1:Int))))
def A59 (f:D0) (g:Bool) (d:B1) (e:List B1) (a b c:Int):Option (((List B1)×Int)⊕(List B1)):=
 loop (fun (s:(Int×Int))=>A14 f g d e a s.1 s.2) (b,c)
def A13 (d e:D0) (f:Bool) (b:List B1) (a:Int):Option (((List B1)×Int)⊕(List B1)):=
 cond (decide (a<(d.Ac.length:Int))) (
  Option.bind (D2 d.Ac a) fun c=>
  A59 e f c b a 0 0)<|
 Option.map Sum.inr (some b)
def B0n (c d:D0) (e:Bool) (b:List B1) (a:Int):Option (List B1):=
 loop (fun (s:((List B1)×Int))=>A13 c d e s.1 s.2) (b,a)
def A3p (a b:D0) (c:Bool):Option (List B1):=
 B0n a b c ([]:List B1) 0
def A3W (h i:D0) (c b a:List B1):Option (((List B1)×(List B1)×(List B1))⊕(D0×Int)):=
 cond (decide ((A2 ((c.length:Int)+(b.length:Int)))>(0:Int))) (
  Option.bind (gd ((!((b.length:Int)==(0:Int)))&&(decide ((c.length:Int)>(0:Int)))) (D2 c 0)) fun g=>
  Option.bind (gd ((!((b.length:Int)==(0:Int)))&&(decide ((c.length:Int)>(0:Int)))) (D2 b 0)) fun f=>
  cond (((b.length:Int)==(0:Int))||((decide ((c.length:Int)>(0:Int)))&&(decide (g.V<=f.V)))) (
   Option.bind (D2 c 0) fun d=>
   ck (decide ((a.length+ [d].length)*24<=140737488355328))<|
   ck (decide (0<=(1:Int)/\1<=(c.length:Int)))<|
   some (.inl ((c.drop ((1:Int)).toNat),b,(a++ [d]))))<|
  Option.bind (D2 b 0) fun e=>
  ck (decide ((a.length+ [e].length)*24<=140737488355328))<|
  ck (decide (0<=(1:Int)/\1<=(b.length:Int)))<|
  some (.inl (c,(b.drop ((1:Int)).toNat),(a++ [e]))))<|
 Option.map Sum.inr (some ((D0.mk (A2 (h.N+i.N)) a),0))
def A7x (d e:D0) (c b a:List B1):Option (D0×Int):=
 loop (fun (s:((List B1)×(List B1)×(List B1)))=>A3W d e s.1 s.2.1 s.2.2) (c,b,a)
def A3E (e f:D0):Option (D0×Int):=
 Option.bind (T5 e) fun a=>
 cond (a !=0) (
  some ((D0.mk 0 []),a))<|
 Option.bind (T5 f) fun b=>
 cond (b !=0) (
  some ((D0.mk 0 []),b))<|
 cond (decide ((A2 (e.N+f.N))>1099511627776)) (
  some ((D0.mk 0 []),5))<|
 Option.bind (A3p e f true) fun c=>
 Option.bind (A3p f e false) fun d=>
 A7x e f c d ([]:List B1)
def A8y (f:List B1) (g b a:Int):Option ((Int×Int)⊕Int):=
 cond (decide (a<(f.length:Int))) (
  Option.bind (D2 f a) fun c=>
  Option.bind (D2 f b) fun d=>
  Option.bind (D2 f b) fun e=>
  cond (decide ((X0 (A2 (g-c.Bf)) (A2 (c.Be-g)))<(X0 (A2 (g-d.Bf)) (A2 (e.Be-g))))) (
   some (.inl (a,(A2 (a+1)))))<|
  some (.inl (b,(A2 (a+1)))))<|
 Option.map Sum.inr (some b)
def B4W (c:List B1) (d b a:Int):Option Int:=
 loop (fun (s:(Int×Int))=>A8y c d s.1 s.2) (b,a)
def A8l (a:List B1) (b:Int):Option Int:=
 B4W a b 0 0
def A3X (f:D0) (g e c:Int) (a:List B1):Option ((Int×Int×(List B1))⊕(D0×Int)):=
 cond (decide (c<=g)) (
  ck (decide (g≠0))<|
  Option.bind (A8l f.Ac (A2 (1+(A2 (Int.tdiv (A2 (c*(A2 (f.N-1)))) g))))) fun b=>
  cond (decide (b>e)) (
   Option.bind (D2 f.Ac b) fun d=>
   ck (decide ((a.length+ [d].length)*24<=140737488355328))<|
   some (.inl (b,(A2 (c+1)),(a++ [d]))))<|
  some (.inl (e,(A2 (c+1)),a)))<|
 Option.map Sum.inr (some ((D0.mk f.N a),0))
def A7y (d:D0) (e b c:Int) (a:List B1):Option (D0×Int):=
 loop (fun (s:(Int×Int×(List B1)))=>A3X d e s.1 s.2.1 s.2.2) (b,c,a)
def A3F (b:D0) (c:Int):Option (D0×Int):=
 Option.bind (T5 b) fun a=>
 cond (a !=0) (
  some ((D0.mk 0 []),a))<|
 cond ((decide (c<1))||(decide (c>65536))) (
  some ((D0.mk 0 []),1))<|
 cond (decide ((b.Ac.length:Int)<=(A2 (c+1)))) (
  some (b,0))<|
 A7y b c (-1:Int) 0 ([]:List B1)
def B1g (d:List B3) (b:List A3) (c:Int):Option (((List A3)×Int)⊕(List A3)):=
 cond (decide (c<(d.length:Int))) (
  Option.bind (D2 d c) fun a=>
  ck (decide ((b.length+ [(A3.mk a.T a.As)].length)*16<=140737488355328))<|
  some (.inl ((b++ [(A3.mk a.T a.As)]),(A2 (c+1)))))<|
 Option.map Sum.inr (some b)
def B8r (c:List B3) (a:List A3) (b:Int):Option (List A3):=
 loop (fun (s:((List A3)×Int))=>B1g c s.1 s.2) (a,b)
def A7Y (a:List B3):Option (List A3):=
 B8r a ([]:List A3) 0
def A3G (c:List B3):Option Int:=
 Option.bind (A7Y c) fun a=>
 Option.bind (S6 a) fun b=>
 some b
def B9O (e:D0) (b a:Int):Option ((Int×Int)⊕Int):=
 cond (decide (a<(e.Ac.length:Int))) (
  Option.bind (D2 e.Ac a) fun d=>
  Option.bind (D2 e.Ac (A2 (a-1))) fun c=>
  some (.inl ((X0 b (A2 (d.Be-c.Bf))),(A2 (a+1)))))<|
 Option.map Sum.inr (some b)
def B4Y (c:D0) (a b:Int):Option Int:=
 loop (fun (s:(Int×Int))=>B9O c s.1 s.2) (a,b)
def B1f (b:D0):Option Int:=
 Option.bind (T5 b) fun a=>
 cond ((a !=0)||(b.N==0)) (
  some 0)<|
 B4Y b 1 1
def A15 (d c b a:Int):Option ((Int×Int)⊕Int):=
 cond (decide (a<=d)) (
  ck (decide (0<=(F9 a)))<|
  cond (decide ((A7o .i64 1 (F9 a))>(A2 (c+1)))) (
   ck (decide (c≠0))<|
   some (.inl ((A2 ((A2 (2*b))+(A2 (Int.tdiv (A2 ((A2 ((A2 ((A7o .i64 1 (F9 a))-1))+c))-1)) c)))),(A2 (a+1)))))<|
  some (.inl (b,(A2 (a+1)))))<|
 Option.map Sum.inr (some b)
def B0o (c d a b:Int):Option Int:=
 loop (fun (s:(Int×Int))=>A15 c d s.1 s.2) (a,b)
def A5Q (a b:Int):Option Int:=
 cond ((((decide (a<0))||(decide (a>30)))||(decide (b<1)))||(decide (b>65536))) (
  some (-1:Int))<|
 B0o a b 0 0
def A3Y (j:List B3) (k c:Int):Option (Int⊕Bool):=
 cond (decide (c<(j.length:Int))) (
  Option.bind (D2 j c) fun a=>
  Option.bind (T5 a.Aw) fun g=>
  ck (!(!(g !=0))||(decide (0<=(F9 a.As))))<|
  cond (((g !=0)||(a.Aw.N !=(A7o .i64 1 (F9 a.As))))||(decide ((a.Aw.Ac.length:Int)>(A2 (k+1))))) (
   some (.inr false))<|
  Option.bind (D2 a.Aw.Ac 0) fun d=>
  Option.bind (D2 a.Aw.Ac (A2 ((a.Aw.Ac.length:Int)-(1:Int)))) fun b=>
  let e:=(D8 d.V);
  let f:=(D8 b.V);
  Option.bind (gd (!((((!e)||(!f))||(decide (a.Az<d.V)))||(decide (a.Az>b.V)))) (B1f a.Aw)) fun h=>
  Option.bind (gd (!((((!e)||(!f))||(decide (a.Az<d.V)))||(decide (a.Az>b.V)))) (A5Q a.As k)) fun i=>
  cond (((((!e)||(!f))||(decide (a.Az<d.V)))||(decide (a.Az>b.V)))||(decide ((A2 (h-1))>i))) (
   some (.inr false))<|
  some (.inl (A2 (c+1))))<|
 Option.map Sum.inr (some true)
def B2s (b:List B3) (c a:Int):Option Bool:=
 loop (fun (s:Int)=>A3Y b c s) a
def A5v (d:List B3) (e c:Int):Option Bool:=
 Option.bind (gd (!((decide (c<1))||(decide (c>65536)))) (A7Y d)) fun b=>
 Option.bind (gd (!((decide (c<1))||(decide (c>65536)))) (A1S b e)) fun a=>
 cond (((decide (c<1))||(decide (c>65536)))||(!a)) (
  some false)<|
 B2s d c 0
def B9g (a:Int):D0:=
 (D0.mk 1 [(B1.mk a 1 1)])
def A26 (n o:Int) (b:List B3) (e a f c:Int):Option ((Int×Int×Int)⊕(((List B3)×Int)⊕(List B3))):=
 cond (decide (c<(b.length:Int))) (
  Option.bind (D2 b c) fun k=>
  Option.bind (D2 b c) fun h=>
  cond (h.As==e) (
   cond (decide (a<0)) (
    some (.inl (c,(A2 (f+1)),(A2 (c+1)))))<|
   some (.inl (a,(A2 (f+1)),(A2 (c+1)))))<|
  some (.inl (a,f,(A2 (c+1)))))<|
 Option.map Sum.inr (cond (decide (f<=(A2 (n+1)))) (
  some (.inr b))<|
 Option.bind (D2 b a) fun l=>
 Option.bind (D2 b a) fun i=>
 Option.bind (D2 b (A2 (a+1))) fun m=>
 Option.bind (D2 b (A2 (a+1))) fun d=>
 Option.bind (A3E i.Aw d.Aw) fun j=>
 Option.bind (A3F j.1 o) fun g=>
 ck (decide (0<=a/\a<=(b.length:Int)))<|
 ck (decide ((([]:List B3).length+(b.take (a).toNat).length)*56<=140737488355328))<|
 ck (decide (((([]:List B3)++(b.take (a).toNat)).length+ [(B3.mk d.T d.Az (A2 (e+1)) g.1)].length)*56<=140737488355328))<|
 ck (decide (0<=(A2 (a+2))/\(A2 (a+2))<=(b.length:Int)))<|
 ck (decide ((((([]:List B3)++(b.take (a).toNat))++ [(B3.mk d.T d.Az (A2 (e+1)) g.1)]).length+(b.drop ((A2 (a+(2:Int)))).toNat).length)*56<=140737488355328))<|
 some (.inl ((((([]:List B3)++(b.take (a).toNat))++ [(B3.mk d.T d.Az (A2 (e+1)) g.1)])++(b.drop ((A2 (a+(2:Int)))).toNat)),(A2 (e+1)))))
def A6W (f g:Int) (a:List B3) (b c d e:Int):Option (((List B3)×Int)⊕(List B3)):=
 loop (fun (s:(Int×Int×Int))=>A26 f g a b s.1 s.2.1 s.2.2) (c,d,e)
def A25 (c d:Int) (a:List B3) (b:Int):Option (((List B3)×Int)⊕(List B3)):=
 cond (decide (b<=30)) (
  A6W c d a b (-1:Int) 0 0)<|
 Option.map Sum.inr (some a)
def A1I (c d:Int) (a:List B3) (b:Int):Option (List B3):=
 loop (fun (s:((List B3)×Int))=>A25 c d s.1 s.2) (a,b)
def A6V (g:List B3) (j k h i:Int):Option (List B3):=
 Option.bind (A5v g j k) fun a=>
 let b:=(F4 h);
 Option.bind (gd ((!((!a)||(!b)))&&(decide ((g.length:Int)>(0:Int)))) (D2 g (A2 ((g.length:Int)-(1:Int))))) fun c=>
 let d:=(D8 i);
 Option.bind (gd (!((((!a)||(!b))||((decide ((g.length:Int)>(0:Int)))&&(decide (h<c.T))))||(!d))) (A3G g)) fun f=>
 cond (((((!a)||(!b))||((decide ((g.length:Int)>(0:Int)))&&(decide (h<c.T))))||(!d))||(decide (f>=1073741824))) (
  some [])<|
 ck (decide ((([]:List B3).length+g.length)*56<=140737488355328))<|
 let e:=(B9g i);
 ck (decide (((([]:List B3)++g).length+ [(B3.mk h i 0 e)].length)*56<=140737488355328))<|
 A1I j k ((([]:List B3)++g)++ [(B3.mk h i 0 e)]) 0
def A4H (a b:Int):Option ((Int×Int)⊕Int):=
 cond (decide (a>0)) (
  some (.inl ((A2 (Int.tdiv a 2)),(A2 (b+1)))))<|
 Option.map Sum.inr (some b)
def A5H (a b:Int):Option Int:=
 loop (fun (s:(Int×Int))=>A4H s.1 s.2) (a,b)
def A9f (a:Int):Option Int:=
 A5H a 0
def A27 (d c:Int):Option Int:=
 let a:=(H9 d);
 cond (((!a)||(decide (c<1)))||(decide (c>65536))) (
  some 0)<|
 Option.bind (A9f c) fun b=>
 some (A2 ((A2 (2*d))*(A2 (b+2))))
def A1J (d:B8) (a:Int):Option (Int⊕Int):=
 cond (decide (a<(d.Ag.length:Int))) (
  Option.bind (D2 d.Ag a) fun b=>
  let c:=(F7 d.Now d.W b.T);
  cond (!c) (
   some (.inr 2))<|
  some (.inl (A2 (a+1))))<|
 Option.map Sum.inr (some 0)
def A83 (b:B8) (a:Int):Option Int:=
 loop (fun (s:Int)=>A1J b s) a
def A2C (f:B8):Option Int:=
 let b:=(H6 f.W f.Cap f.Now);
 let a:=(H9 f.K);
 Option.bind (gd (!((!b)||(!a))) (A27 f.K f.Cap)) fun d=>
 Option.bind (gd (!((!b)||(!a))) (A5v f.Ag (A2 (2*f.K)) d)) fun c=>
 Option.bind (gd (!(((!b)||(!a))||(!c))) (A3G f.Ag)) fun e=>
 cond ((((!b)||(!a))||(!c))||(decide (e>f.Cap))) (
  some 2)<|
 A83 f 0
def B1h (f:B8) (g:Int):Option (B8×Int):=
 Option.bind (A2C f) fun a=>
 cond (a !=0) (
  some ((B8.mk 0 0 0 0 []),a))<|
 let c:=(D8 g);
 cond (!c) (
  some ((B8.mk 0 0 0 0 []),4))<|
 Option.bind (A3G f.Ag) fun d=>
 cond (d==f.Cap) (
  some ((B8.mk 0 0 0 0 []),5))<|
 Option.bind (A27 f.K f.Cap) fun e=>
 Option.bind (A6V f.Ag (A2 (2*f.K)) e f.Now g) fun b=>
 some ((B8.mk f.W f.K f.Cap f.Now b),0)
def N2 (h:E4) (a b c d e f g:Int):E4:=
 (E4.mk h.Ax a b c d e f g)
def A2D (b:E4) (a:Bool):E4:=
 cond a (
  N2 b 0 b.W b.K b.Cap 0 0 0)<|
 cond (b.Ax==3) (
  N2 b 0 b.W b.K b.Cap 0 0 b.Be)<|
 cond (b.Ax==4) (
  N2 b b.Bd b.W b.K b.Cap 0 0 0)<|
 cond (b.Ax==6) (
  N2 b 0 0 0 0 b.P 0 0)<|
 cond (b.Ax==7) (
  N2 b 0 b.W 0 0 0 0 0)<|
 cond (b.Ax==8) (
  N2 b 0 b.W 0 b.Cap 0 0 b.Be)<|
 cond (b.Ax==9) (
  N2 b 0 b.W 0 b.Cap 0 b.Ah 0)<|
 cond (b.Ax==10) (
  N2 b 0 0 b.K b.Cap 0 0 0)<|
 N2 b 0 0 0 0 0 0 0
def B1K (a:E4):E4:=
 cond (a.Ax==1) (
  N2 a 0 a.W 0 a.Cap 0 0 0)<|
 cond (a.Ax==2) (
  A2D a (a.Ax==2))<|
 cond (a.Ax==5) (
  A2D a (a.Ax==5))<|
 A2D a (a.Ax==11)
def A0h (h:E4) (a b:Bool):Bool:=
 cond b (
  let g:=(H9 h.K);
  (a&&g))<|
 cond (h.Ax==3) (
  let c:=(H9 h.K);
  (((a&&c)&&(decide (h.Be>=1)))&&(decide (h.Be<=1024))))<|
 cond (h.Ax==4) (
  let d:=(H9 h.K);
  let e:=(P5 h.Bd);
  ((a&&d)&&e))<|
 cond (h.Ax==6) (
  ((decide (h.P>=0))&&(decide (h.P<=4))))<|
 cond (h.Ax==7) (
  ((decide (h.W>=1))&&(decide (h.W<=64))))<|
 cond (h.Ax==8) (
  (a&&((h.Be==0)||(h.Be==1))))<|
 cond (h.Ax==9) (
  ((((((decide (h.Ah>=1))&&(decide (h.Ah<=16)))&&(decide (h.W>=1)))&&(decide (h.W<=1048576)))&&(decide (h.Cap>=1)))&&(decide (h.Cap<=64))))<|
 cond (h.Ax==10) (
  let f:=(H9 h.K);
  ((f&&(decide (h.Cap>=2)))&&(decide (h.Cap<=65536))))<|
 false
def A6X (b:E4):Bool:=
 let a:=(H6 b.W b.Cap 0);
 cond (b.Ax==1) (
  a)<|
 cond (b.Ax==2) (
  A0h b a (b.Ax==2))<|
 cond (b.Ax==5) (
  A0h b a (b.Ax==5))<|
 A0h b a (b.Ax==11)
def A0G (c:E4):Int:=
 let a:=(B1K c);
 let b:=(A6X c);
 cond ((!(c.Ax==a.Ax&&(c.Bd==a.Bd&&(c.W==a.W&&(c.K==a.K&&(c.Cap==a.Cap&&(c.P==a.P&&(c.Ah==a.Ah&&(c.Be==a.Be&&true)))))))))||(!b)) (
  1)<|
 0
def L7 (m:C2) (i:C8) (a:D5) (b:D9) (c:C3) (d:C4) (e:D3) (j:Int) (k:List Int) (f:B7) (l:List A9) (g:A8) (h:B8):C2:=
 (C2.mk m.Ai i a b c d e (E5.mk j k) f (D6.mk l) g h)
def L9 (a:C2):C2:=
 cond (a.Ai.Ax==1) (
  L7 a a.Aj (D5.mk 0 0 0 0 []) (D9.mk 0 0 0 0 0 []) (C3.mk 0 0 0 0 0 0 []) (C4.mk 0 0 0 0 0 []) (D3.mk 0 0 0 []) 0 ([]:List Int) (B7.mk false 0 0 0 []) ([]:List A9) (A8.mk 0 0 0 []) (B8.mk 0 0 0 0 []))<|
 cond (a.Ai.Ax==2) (
  L7 a (C8.mk 0 0 0 []) a.Ap (D9.mk 0 0 0 0 0 []) (C3.mk 0 0 0 0 0 0 []) (C4.mk 0 0 0 0 0 []) (D3.mk 0 0 0 []) 0 ([]:List Int) (B7.mk false 0 0 0 []) ([]:List A9) (A8.mk 0 0 0 []) (B8.mk 0 0 0 0 []))<|
 cond (a.Ai.Ax==3) (
  L7 a (C8.mk 0 0 0 []) (D5.mk 0 0 0 0 []) a.Sum (C3.mk 0 0 0 0 0 0 []) (C4.mk 0 0 0 0 0 []) (D3.mk 0 0 0 []) 0 ([]:List Int) (B7.mk false 0 0 0 []) ([]:List A9) (A8.mk 0 0 0 []) (B8.mk 0 0 0 0 []))<|
 cond (a.Ai.Ax==4) (
  L7 a (C8.mk 0 0 0 []) (D5.mk 0 0 0 0 []) (D9.mk 0 0 0 0 0 []) a.Al (C4.mk 0 0 0 0 0 []) (D3.mk 0 0 0 []) 0 ([]:List Int) (B7.mk false 0 0 0 []) ([]:List A9) (A8.mk 0 0 0 []) (B8.mk 0 0 0 0 []))<|
 cond (a.Ai.Ax==5) (
  L7 a (C8.mk 0 0 0 []) (D5.mk 0 0 0 0 []) (D9.mk 0 0 0 0 0 []) (C3.mk 0 0 0 0 0 0 []) a.Am (D3.mk 0 0 0 []) 0 ([]:List Int) (B7.mk false 0 0 0 []) ([]:List A9) (A8.mk 0 0 0 []) (B8.mk 0 0 0 0 []))<|
 cond (a.Ai.Ax==6) (
  L7 a (C8.mk 0 0 0 []) (D5.mk 0 0 0 0 []) (D9.mk 0 0 0 0 0 []) (C3.mk 0 0 0 0 0 0 []) (C4.mk 0 0 0 0 0 []) a.Bb 0 ([]:List Int) (B7.mk false 0 0 0 []) ([]:List A9) (A8.mk 0 0 0 []) (B8.mk 0 0 0 0 []))<|
 cond (a.Ai.Ax==7) (
  L7 a (C8.mk 0 0 0 []) (D5.mk 0 0 0 0 []) (D9.mk 0 0 0 0 0 []) (C3.mk 0 0 0 0 0 0 []) (C4.mk 0 0 0 0 0 []) (D3.mk 0 0 0 []) a.Aq.Now a.Aq.Bc (B7.mk false 0 0 0 []) ([]:List A9) (A8.mk 0 0 0 []) (B8.mk 0 0 0 0 []))<|
 cond (a.Ai.Ax==8) (
  L7 a (C8.mk 0 0 0 []) (D5.mk 0 0 0 0 []) (D9.mk 0 0 0 0 0 []) (C3.mk 0 0 0 0 0 0 []) (C4.mk 0 0 0 0 0 []) (D3.mk 0 0 0 []) 0 ([]:List Int) a.Ad ([]:List A9) (A8.mk 0 0 0 []) (B8.mk 0 0 0 0 []))<|
 cond (a.Ai.Ax==9) (
  L7 a (C8.mk 0 0 0 []) (D5.mk 0 0 0 0 []) (D9.mk 0 0 0 0 0 []) (C3.mk 0 0 0 0 0 0 []) (C4.mk 0 0 0 0 0 []) (D3.mk 0 0 0 []) 0 ([]:List Int) (B7.mk false 0 0 0 []) a.Ak.Ah (A8.mk 0 0 0 []) (B8.mk 0 0 0 0 []))<|
 cond (a.Ai.Ax==10) (
  L7 a (C8.mk 0 0 0 []) (D5.mk 0 0 0 0 []) (D9.mk 0 0 0 0 0 []) (C3.mk 0 0 0 0 0 0 []) (C4.mk 0 0 0 0 0 []) (D3.mk 0 0 0 []) 0 ([]:List Int) (B7.mk false 0 0 0 []) ([]:List A9) a.Af (B8.mk 0 0 0 0 []))<|
 cond (a.Ai.Ax==11) (
  L7 a (C8.mk 0 0 0 []) (D5.mk 0 0 0 0 []) (D9.mk 0 0 0 0 0 []) (C3.mk 0 0 0 0 0 0 []) (C4.mk 0 0 0 0 0 []) (D3.mk 0 0 0 []) 0 ([]:List Int) (B7.mk false 0 0 0 []) ([]:List A9) (A8.mk 0 0 0 []) a.Aa)<|
 L7 a (C8.mk 0 0 0 []) (D5.mk 0 0 0 0 []) (D9.mk 0 0 0 0 0 []) (C3.mk 0 0 0 0 0 0 []) (C4.mk 0 0 0 0 0 []) (D3.mk 0 0 0 []) 0 ([]:List Int) (B7.mk false 0 0 0 []) ([]:List A9) (A8.mk 0 0 0 []) (B8.mk 0 0 0 0 [])
def A02 (d e:List B6) (a:Int):Option (Int⊕Bool):=
 cond (decide (a<(d.length:Int))) (
  Option.bind (D2 d a) fun b=>
  Option.bind (D2 e a) fun c=>
  cond (!(b.T==c.T&&(b.V==c.V&&true))) (
   some (.inr false))<|
  some (.inl (A2 (a+1))))<|
 Option.map Sum.inr (some true)
def A1y (b c:List B6) (a:Int):Option Bool:=
 loop (fun (s:Int)=>A02 b c s) a
def U6 (a b:List B6):Option Bool:=
 cond ((a.length:Int) !=(b.length:Int)) (
  some false)<|
 A1y a b 0
def A4I (b c:C8):Option Bool:=
 Option.bind (gd (((b.W==c.W)&&(b.Cap==c.Cap))&&(b.Now==c.Now)) (U6 b.Ar c.Ar)) fun a=>
 some ((((b.W==c.W)&&(b.Cap==c.Cap))&&(b.Now==c.Now))&&a)
def A2o (d e:List A3) (a:Int):Option (Int⊕Bool):=
 cond (decide (a<(d.length:Int))) (
  Option.bind (D2 d a) fun b=>
  Option.bind (D2 e a) fun c=>
  cond (!(b.T==c.T&&(b.As==c.As&&true))) (
   some (.inr false))<|
  some (.inl (A2 (a+1))))<|
 Option.map Sum.inr (some true)
def A8v (b c:List A3) (a:Int):Option Bool:=
 loop (fun (s:Int)=>A2o b c s) a
def A23 (a b:List A3):Option Bool:=
 cond ((a.length:Int) !=(b.length:Int)) (
  some false)<|
 A8v a b 0
def A4M (b c:D5):Option Bool:=
 Option.bind (gd ((((b.W==c.W)&&(b.K==c.K))&&(b.Cap==c.Cap))&&(b.Now==c.Now)) (A23 b.Ab c.Ab)) fun a=>
 some (((((b.W==c.W)&&(b.K==c.K))&&(b.Cap==c.Cap))&&(b.Now==c.Now))&&a)
def A4N (b c:D9):Option Bool:=
 Option.bind (gd (((((b.W==c.W)&&(b.K==c.K))&&(b.Cap==c.Cap))&&(b.Be==c.Be))&&(b.Now==c.Now)) (A23 b.Ab c.Ab)) fun a=>
 some ((((((b.W==c.W)&&(b.K==c.K))&&(b.Cap==c.Cap))&&(b.Be==c.Be))&&(b.Now==c.Now))&&a)
def W5 (d e:List A7) (c:Int):Option (Int⊕Bool):=
 cond (decide (c<(d.length:Int))) (
  Option.bind (D2 d c) fun a=>
  Option.bind (D2 e c) fun b=>
  cond (!(a.Bg==b.Bg&&(a.T==b.T&&(a.N==b.N&&(a.S==b.S&&(a.Q==b.Q&&(a.Bf==b.Bf&&(a.Be==b.Be&&true)))))))) (
   some (.inr false))<|
  some (.inl (A2 (c+1))))<|
 Option.map Sum.inr (some true)
def A4d (b c:List A7) (a:Int):Option Bool:=
 loop (fun (s:Int)=>W5 b c s) a
def U7 (a b:List A7):Option Bool:=
 cond ((a.length:Int) !=(b.length:Int)) (
  some false)<|
 A4d a b 0
def A4O (b c:C3):Option Bool:=
 Option.bind (gd ((((((b.Bd==c.Bd)&&(b.W==c.W))&&(b.K==c.K))&&(b.Cap==c.Cap))&&(b.Now==c.Now))&&(b.Bg==c.Bg)) (U7 b.Av c.Av)) fun a=>
 some (((((((b.Bd==c.Bd)&&(b.W==c.W))&&(b.K==c.K))&&(b.Cap==c.Cap))&&(b.Now==c.Now))&&(b.Bg==c.Bg))&&a)
def A4P (b c:C4):Option Bool:=
 Option.bind (gd (((((b.W==c.W)&&(b.K==c.K))&&(b.Cap==c.Cap))&&(b.Now==c.Now))&&(b.Bg==c.Bg)) (U7 b.Av c.Av)) fun a=>
 some ((((((b.W==c.W)&&(b.K==c.K))&&(b.Cap==c.Cap))&&(b.Now==c.Now))&&(b.Bg==c.Bg))&&a)
def Y7 (d e:List C1) (a:Int):Option (Int⊕Bool):=
 cond (decide (a<(d.length:Int))) (
  Option.bind (D2 d a) fun b=>
  Option.bind (D2 e a) fun c=>
  cond (!(b.Hi==c.Hi&&(b.Lo==c.Lo&&true))) (
   some (.inr false))<|
  some (.inl (A2 (a+1))))<|
 Option.map Sum.inr (some true)
def A5e (b c:List C1) (a:Int):Option Bool:=
 loop (fun (s:Int)=>Y7 b c s) a
def A0E (a b:List C1):Option Bool:=
 cond ((a.length:Int) !=(b.length:Int)) (
  some false)<|
 A5e a b 0
def A4Q (b c:D3):Option Bool:=
 Option.bind (gd (((b.P==c.P)&&(b.Ay==c.Ay))&&(b.Now==c.Now)) (A0E b.Ae c.Ae)) fun a=>
 some ((((b.P==c.P)&&(b.Ay==c.Ay))&&(b.Now==c.Now))&&a)
def A0g (d e:List Int) (a:Int):Option (Int⊕Bool):=
 cond (decide (a<(d.length:Int))) (
  Option.bind (D2 d a) fun b=>
  Option.bind (D2 e a) fun c=>
  cond (b !=c) (
   some (.inr false))<|
  some (.inl (A2 (a+1))))<|
 Option.map Sum.inr (some true)
def A0v (b c:List Int) (a:Int):Option Bool:=
 loop (fun (s:Int)=>A0g b c s) a
def V2 (a b:List Int):Option Bool:=
 cond ((a.length:Int) !=(b.length:Int)) (
  some false)<|
 A0v a b 0
def A4R (b c:E5):Option Bool:=
 Option.bind (gd (b.Now==c.Now) (V2 b.Bc c.Bc)) fun a=>
 some ((b.Now==c.Now)&&a)
def A4S (b c:B7):Option Bool:=
 Option.bind (gd ((((b.Be==c.Be)&&(b.W==c.W))&&(b.Cap==c.Cap))&&(b.Now==c.Now)) (U6 b.Ar c.Ar)) fun a=>
 some (((((b.Be==c.Be)&&(b.W==c.W))&&(b.Cap==c.Cap))&&(b.Now==c.Now))&&a)
def A7v (d e:A9) (a:Int):Option (Int⊕Bool):=
 cond (decide (a<(d.Au.length:Int))) (
  Option.bind (D2 d.Au a) fun b=>
  Option.bind (D2 e.Au a) fun c=>
  cond (!(b.I==c.I&&(b.V==c.V&&true))) (
   some (.inr false))<|
  some (.inl (A2 (a+1))))<|
 Option.map Sum.inr (some true)
def A8w (b c:A9) (a:Int):Option Bool:=
 loop (fun (s:Int)=>A7v b c s) a
def A9h (a b:A9):Option Bool:=
 cond (((((a.W !=b.W)||(a.Cap !=b.Cap))||(a.I !=b.I))||(a.Ba !=b.Ba))||((a.Au.length:Int) !=(b.Au.length:Int))) (
  some false)<|
 A8w a b 0
def A4U (e f:D6) (a:Int):Option (Int⊕Bool):=
 cond (decide (a<(e.Ah.length:Int))) (
  Option.bind (D2 e.Ah a) fun c=>
  Option.bind (D2 f.Ah a) fun d=>
  Option.bind (A9h c d) fun b=>
  cond (!b) (
   some (.inr false))<|
  some (.inl (A2 (a+1))))<|
 Option.map Sum.inr (some true)
def A5P (b c:D6) (a:Int):Option Bool:=
 loop (fun (s:Int)=>A4U b c s) a
def A4T (a b:D6):Option Bool:=
 cond ((a.Ah.length:Int) !=(b.Ah.length:Int)) (
  some false)<|
 A5P a b 0
def A2y (d e:A8) (a:Int):Option (Int⊕Bool):=
 cond (decide (a<(d.Ao.length:Int))) (
  Option.bind (D2 d.Ao a) fun b=>
  Option.bind (D2 e.Ao a) fun c=>
  cond (!(b.V==c.V&&(b.G==c.G&&(b.D==c.D&&true)))) (
   some (.inr false))<|
  some (.inl (A2 (a+1))))<|
 Option.map Sum.inr (some true)
def A8z (b c:A8) (a:Int):Option Bool:=
 loop (fun (s:Int)=>A2y b c s) a
def A4V (a b:A8):Option Bool:=
 cond ((((a.K !=b.K)||(a.Cap !=b.Cap))||(a.N !=b.N))||((a.Ao.length:Int) !=(b.Ao.length:Int))) (
  some false)<|
 A8z a b 0
def A4W (d e:D0) (a:Int):Option (Int⊕Bool):=
 cond (decide (a<(d.Ac.length:Int))) (
  Option.bind (D2 d.Ac a) fun b=>
  Option.bind (D2 e.Ac a) fun c=>
  cond (!(b.V==c.V&&(b.Bf==c.Bf&&(b.Be==c.Be&&true)))) (
   some (.inr false))<|
  some (.inl (A2 (a+1))))<|
 Option.map Sum.inr (some true)
def B3N (b c:D0) (a:Int):Option Bool:=
 loop (fun (s:Int)=>A4W b c s) a
def A9j (a b:D0):Option Bool:=
 cond ((a.N !=b.N)||((a.Ac.length:Int) !=(b.Ac.length:Int))) (
  some false)<|
 B3N a b 0
def A2B (k l:List B3) (a:Int):Option (Int⊕Bool):=
 cond (decide (a<(k.length:Int))) (
  Option.bind (D2 k a) fun b=>
  Option.bind (D2 l a) fun c=>
  Option.bind (gd (!(b.T !=c.T)) (D2 k a)) fun d=>
  Option.bind (gd (!(b.T !=c.T)) (D2 l a)) fun e=>
  Option.bind (gd (!((b.T !=c.T)||(d.Az !=e.Az))) (D2 k a)) fun f=>
  Option.bind (gd (!((b.T !=c.T)||(d.Az !=e.Az))) (D2 l a)) fun g=>
  Option.bind (gd (!(((b.T !=c.T)||(d.Az !=e.Az))||(f.As !=g.As))) (D2 k a)) fun h=>
  Option.bind (gd (!(((b.T !=c.T)||(d.Az !=e.Az))||(f.As !=g.As))) (D2 l a)) fun i=>
  Option.bind (gd (!(((b.T !=c.T)||(d.Az !=e.Az))||(f.As !=g.As))) (A9j h.Aw i.Aw)) fun j=>
  cond ((((b.T !=c.T)||(d.Az !=e.Az))||(f.As !=g.As))||(!j)) (
   some (.inr false))<|
  some (.inl (A2 (a+1))))<|
 Option.map Sum.inr (some true)
def A8A (b c:List B3) (a:Int):Option Bool:=
 loop (fun (s:Int)=>A2B b c s) a
def A4X (a b:List B3):Option Bool:=
 cond ((a.length:Int) !=(b.length:Int)) (
  some false)<|
 A8A a b 0
def A4Y (b c:B8):Option Bool:=
 Option.bind (gd ((((b.W==c.W)&&(b.K==c.K))&&(b.Cap==c.Cap))&&(b.Now==c.Now)) (A4X b.Ag c.Ag)) fun a=>
 some (((((b.W==c.W)&&(b.K==c.K))&&(b.Cap==c.Cap))&&(b.Now==c.Now))&&a)
def A28 (l m:C2):Option Bool:=
 Option.bind (gd (l.Ai.Ax==m.Ai.Ax&&(l.Ai.Bd==m.Ai.Bd&&(l.Ai.W==m.Ai.W&&(l.Ai.K==m.Ai.K&&(l.Ai.Cap==m.Ai.Cap&&(l.Ai.P==m.Ai.P&&(l.Ai.Ah==m.Ai.Ah&&(l.Ai.Be==m.Ai.Be&&true)))))))) (A4I l.Aj m.Aj)) fun a=>
 Option.bind (gd ((l.Ai.Ax==m.Ai.Ax&&(l.Ai.Bd==m.Ai.Bd&&(l.Ai.W==m.Ai.W&&(l.Ai.K==m.Ai.K&&(l.Ai.Cap==m.Ai.Cap&&(l.Ai.P==m.Ai.P&&(l.Ai.Ah==m.Ai.Ah&&(l.Ai.Be==m.Ai.Be&&true))))))))&&a) (A4M l.Ap m.Ap)) fun b=>
 Option.bind (gd (((l.Ai.Ax==m.Ai.Ax&&(l.Ai.Bd==m.Ai.Bd&&(l.Ai.W==m.Ai.W&&(l.Ai.K==m.Ai.K&&(l.Ai.Cap==m.Ai.Cap&&(l.Ai.P==m.Ai.P&&(l.Ai.Ah==m.Ai.Ah&&(l.Ai.Be==m.Ai.Be&&true))))))))&&a)&&b) (A4N l.Sum m.Sum)) fun c=>
 Option.bind (gd ((((l.Ai.Ax==m.Ai.Ax&&(l.Ai.Bd==m.Ai.Bd&&(l.Ai.W==m.Ai.W&&(l.Ai.K==m.Ai.K&&(l.Ai.Cap==m.Ai.Cap&&(l.Ai.P==m.Ai.P&&(l.Ai.Ah==m.Ai.Ah&&(l.Ai.Be==m.Ai.Be&&true))))))))&&a)&&b)&&c) (A4O l.Al m.Al)) fun d=>
 Option.bind (gd (((((l.Ai.Ax==m.Ai.Ax&&(l.Ai.Bd==m.Ai.Bd&&(l.Ai.W==m.Ai.W&&(l.Ai.K==m.Ai.K&&(l.Ai.Cap==m.Ai.Cap&&(l.Ai.P==m.Ai.P&&(l.Ai.Ah==m.Ai.Ah&&(l.Ai.Be==m.Ai.Be&&true))))))))&&a)&&b)&&c)&&d) (A4P l.Am m.Am)) fun e=>
 Option.bind (gd ((((((l.Ai.Ax==m.Ai.Ax&&(l.Ai.Bd==m.Ai.Bd&&(l.Ai.W==m.Ai.W&&(l.Ai.K==m.Ai.K&&(l.Ai.Cap==m.Ai.Cap&&(l.Ai.P==m.Ai.P&&(l.Ai.Ah==m.Ai.Ah&&(l.Ai.Be==m.Ai.Be&&true))))))))&&a)&&b)&&c)&&d)&&e) (A4Q l.Bb m.Bb)) fun f=>
 Option.bind (gd (((((((l.Ai.Ax==m.Ai.Ax&&(l.Ai.Bd==m.Ai.Bd&&(l.Ai.W==m.Ai.W&&(l.Ai.K==m.Ai.K&&(l.Ai.Cap==m.Ai.Cap&&(l.Ai.P==m.Ai.P&&(l.Ai.Ah==m.Ai.Ah&&(l.Ai.Be==m.Ai.Be&&true))))))))&&a)&&b)&&c)&&d)&&e)&&f) (A4R l.Aq m.Aq)) fun g=>
 Option.bind (gd ((((((((l.Ai.Ax==m.Ai.Ax&&(l.Ai.Bd==m.Ai.Bd&&(l.Ai.W==m.Ai.W&&(l.Ai.K==m.Ai.K&&(l.Ai.Cap==m.Ai.Cap&&(l.Ai.P==m.Ai.P&&(l.Ai.Ah==m.Ai.Ah&&(l.Ai.Be==m.Ai.Be&&true))))))))&&a)&&b)&&c)&&d)&&e)&&f)&&g) (A4S l.Ad m.Ad)) fun h=>
 Option.bind (gd (((((((((l.Ai.Ax==m.Ai.Ax&&(l.Ai.Bd==m.Ai.Bd&&(l.Ai.W==m.Ai.W&&(l.Ai.K==m.Ai.K&&(l.Ai.Cap==m.Ai.Cap&&(l.Ai.P==m.Ai.P&&(l.Ai.Ah==m.Ai.Ah&&(l.Ai.Be==m.Ai.Be&&true))))))))&&a)&&b)&&c)&&d)&&e)&&f)&&g)&&h) (A4T l.Ak m.Ak)) fun i=>
 Option.bind (gd ((((((((((l.Ai.Ax==m.Ai.Ax&&(l.Ai.Bd==m.Ai.Bd&&(l.Ai.W==m.Ai.W&&(l.Ai.K==m.Ai.K&&(l.Ai.Cap==m.Ai.Cap&&(l.Ai.P==m.Ai.P&&(l.Ai.Ah==m.Ai.Ah&&(l.Ai.Be==m.Ai.Be&&true))))))))&&a)&&b)&&c)&&d)&&e)&&f)&&g)&&h)&&i) (A4V l.Af m.Af)) fun j=>
 Option.bind (gd (((((((((((l.Ai.Ax==m.Ai.Ax&&(l.Ai.Bd==m.Ai.Bd&&(l.Ai.W==m.Ai.W&&(l.Ai.K==m.Ai.K&&(l.Ai.Cap==m.Ai.Cap&&(l.Ai.P==m.Ai.P&&(l.Ai.Ah==m.Ai.Ah&&(l.Ai.Be==m.Ai.Be&&true))))))))&&a)&&b)&&c)&&d)&&e)&&f)&&g)&&h)&&i)&&j) (A4Y l.Aa m.Aa)) fun k=>
 some ((((((((((((l.Ai.Ax==m.Ai.Ax&&(l.Ai.Bd==m.Ai.Bd&&(l.Ai.W==m.Ai.W&&(l.Ai.K==m.Ai.K&&(l.Ai.Cap==m.Ai.Cap&&(l.Ai.P==m.Ai.P&&(l.Ai.Ah==m.Ai.Ah&&(l.Ai.Be==m.Ai.Be&&true))))))))&&a)&&b)&&c)&&d)&&e)&&f)&&g)&&h)&&i)&&j)&&k)
def A9k (n:C2):Option Bool:=
 cond (n.Ai.Ax==1) (
  Option.bind (R5 n.Aj) fun k=>
  some (((k==0)&&(n.Aj.W==n.Ai.W))&&(n.Aj.Cap==n.Ai.Cap)))<|
 cond (n.Ai.Ax==2) (
  Option.bind (A2p n.Ap) fun l=>
  some ((((l==0)&&(n.Ap.W==n.Ai.W))&&(n.Ap.K==n.Ai.K))&&(n.Ap.Cap==n.Ai.Cap)))<|
 cond (n.Ai.Ax==3) (
  Option.bind (A2q n.Sum) fun m=>
  some (((((m==0)&&(n.Sum.W==n.Ai.W))&&(n.Sum.K==n.Ai.K))&&(n.Sum.Cap==n.Ai.Cap))&&(n.Sum.Be==n.Ai.Be)))<|
 cond (n.Ai.Ax==4) (
  Option.bind (A2r n.Al) fun d=>
  some (((((d==0)&&(n.Al.Bd==n.Ai.Bd))&&(n.Al.W==n.Ai.W))&&(n.Al.K==n.Ai.K))&&(n.Al.Cap==n.Ai.Cap)))<|
 cond (n.Ai.Ax==5) (
  Option.bind (A2s n.Am) fun e=>
  some ((((e==0)&&(n.Am.W==n.Ai.W))&&(n.Am.K==n.Ai.K))&&(n.Am.Cap==n.Ai.Cap)))<|
 cond (n.Ai.Ax==6) (
  Option.bind (A2t n.Bb) fun f=>
  some ((f==0)&&(n.Bb.P==n.Ai.P)))<|
 cond (n.Ai.Ax==7) (
  Option.bind (A2u n.Aq) fun g=>
  some ((g==0)&&((n.Aq.Bc.length:Int)==n.Ai.W)))<|
 cond (n.Ai.Ax==8) (
  Option.bind (A2x n.Ad) fun h=>
  some ((((h==0)&&(n.Ad.Be==(n.Ai.Be==1)))&&(n.Ad.W==n.Ai.W))&&(n.Ad.Cap==n.Ai.Cap)))<|
 cond (n.Ai.Ax==9) (
  Option.bind (X2 n.Ak) fun a=>
  Option.bind (gd ((a==0)&&((n.Ak.Ah.length:Int)==n.Ai.Ah)) (D2 n.Ak.Ah 0)) fun b=>
  Option.bind (gd (((a==0)&&((n.Ak.Ah.length:Int)==n.Ai.Ah))&&(b.W==n.Ai.W)) (D2 n.Ak.Ah 0)) fun c=>
  some ((((a==0)&&((n.Ak.Ah.length:Int)==n.Ai.Ah))&&(b.W==n.Ai.W))&&(c.Cap==n.Ai.Cap)))<|
 cond (n.Ai.Ax==10) (
  Option.bind (A2z n.Af) fun i=>
  some (((i==0)&&(n.Af.K==n.Ai.K))&&(n.Af.Cap==n.Ai.Cap)))<|
 cond (n.Ai.Ax==11) (
  Option.bind (A2C n.Aa) fun j=>
  some ((((j==0)&&(n.Aa.W==n.Ai.W))&&(n.Aa.K==n.Ai.K))&&(n.Aa.Cap==n.Ai.Cap)))<|
 some false
def A2E (e:C2):Option Int:=
 let a:=(A0G e.Ai);
 Option.bind (gd (!(a !=0)) (A9k e)) fun b=>
 let c:=(L9 e);
 Option.bind (gd (!((a !=0)||(!b))) (A28 e c)) fun d=>
 cond (((a !=0)||(!b))||(!d)) (
  some 2)<|
 some 0
def A3q (n:C2) (i:C8) (a:D5) (b:D9) (c:C3) (d:C4) (e:D3) (j:Int) (k:List Int) (f:B7) (l:List A9) (g:A8) (h:B8) (m:Int):Option (C2×Int):=
 cond (m !=0) (
  some ((C2.mk (E4.mk 0 0 0 0 0 0 0 0) (C8.mk 0 0 0 []) (D5.mk 0 0 0 0 []) (D9.mk 0 0 0 0 0 []) (C3.mk 0 0 0 0 0 0 []) (C4.mk 0 0 0 0 0 []) (D3.mk 0 0 0 []) (E5.mk 0 []) (B7.mk false 0 0 0 []) (D6.mk []) (A8.mk 0 0 0 []) (B8.mk 0 0 0 0 [])),m))<|
 some ((C2.mk n.Ai i a b c d e (E5.mk j k) f (D6.mk l) g h),0)
def M7 (n:C2) (o:List Int) (m:Int) (i:C8) (a:D5) (b:D9) (c:C3) (d:C4) (e:D3) (j:Int) (k:List Int) (f:B7) (l:List A9) (g:A8) (h:B8):Option (C2×Int):=
 cond (((m==0)&&(n.Ai.Ax !=9))&&(decide ((o.length:Int)>(0:Int)))) (
  A3q n i a b c d e j k f l g h 8)<|
 A3q n i a b c d e j k f l g h m
def B1i (n:C2) (p:Int) (o:List Int):Option (C2×Int):=
 Option.bind (A2E n) fun k=>
 cond (k !=0) (
  some ((C2.mk (E4.mk 0 0 0 0 0 0 0 0) (C8.mk 0 0 0 []) (D5.mk 0 0 0 0 []) (D9.mk 0 0 0 0 0 []) (C3.mk 0 0 0 0 0 0 []) (C4.mk 0 0 0 0 0 []) (D3.mk 0 0 0 []) (E5.mk 0 []) (B7.mk false 0 0 0 []) (D6.mk []) (A8.mk 0 0 0 []) (B8.mk 0 0 0 0 [])),k))<|
 cond (n.Ai.Ax==1) (
  Option.bind (B05 n.Aj p) fun l=>
  M7 n o l.2 l.1 n.Ap n.Sum n.Al n.Am n.Bb n.Aq.Now n.Aq.Bc n.Ad n.Ak.Ah n.Af n.Aa)<|
 cond (n.Ai.Ax==2) (
  let m:=(D8 p);
  cond (!m) (
   some ((C2.mk (E4.mk 0 0 0 0 0 0 0 0) (C8.mk 0 0 0 []) (D5.mk 0 0 0 0 []) (D9.mk 0 0 0 0 0 []) (C3.mk 0 0 0 0 0 0 []) (C4.mk 0 0 0 0 0 []) (D3.mk 0 0 0 []) (E5.mk 0 []) (B7.mk false 0 0 0 []) (D6.mk []) (A8.mk 0 0 0 []) (B8.mk 0 0 0 0 [])),4))<|
  Option.bind (B06 n.Ap) fun b=>
  M7 n o b.2 n.Aj b.1 n.Sum n.Al n.Am n.Bb n.Aq.Now n.Aq.Bc n.Ad n.Ak.Ah n.Af n.Aa)<|
 cond (n.Ai.Ax==3) (
  Option.bind (B07 n.Sum p) fun c=>
  M7 n o c.2 n.Aj n.Ap c.1 n.Al n.Am n.Bb n.Aq.Now n.Aq.Bc n.Ad n.Ak.Ah n.Af n.Aa)<|
 cond (n.Ai.Ax==4) (
  Option.bind (B08 n.Al p) fun d=>
  M7 n o d.2 n.Aj n.Ap n.Sum d.1 n.Am n.Bb n.Aq.Now n.Aq.Bc n.Ad n.Ak.Ah n.Af n.Aa)<|
 cond (n.Ai.Ax==5) (
  Option.bind (B09 n.Am p) fun e=>
  M7 n o e.2 n.Aj n.Ap n.Sum n.Al e.1 n.Bb n.Aq.Now n.Aq.Bc n.Ad n.Ak.Ah n.Af n.Aa)<|
 cond (n.Ai.Ax==6) (
  Option.bind (B1a n.Bb p) fun f=>
  M7 n o f.2 n.Aj n.Ap n.Sum n.Al n.Am f.1 n.Aq.Now n.Aq.Bc n.Ad n.Ak.Ah n.Af n.Aa)<|
 cond (n.Ai.Ax==7) (
  Option.bind (B1c n.Aq p) fun a=>
  M7 n o a.2 n.Aj n.Ap n.Sum n.Al n.Am n.Bb a.1.Now a.1.Bc n.Ad n.Ak.Ah n.Af n.Aa)<|
 cond (n.Ai.Ax==8) (
  Option.bind (B1d n.Ad p) fun g=>
  M7 n o g.2 n.Aj n.Ap n.Sum n.Al n.Am n.Bb n.Aq.Now n.Aq.Bc g.1 n.Ak.Ah n.Af n.Aa)<|
 cond (n.Ai.Ax==9) (
  Option.bind (B1e n.Ak p o) fun h=>
  M7 n o h.2 n.Aj n.Ap n.Sum n.Al n.Am n.Bb n.Aq.Now n.Aq.Bc n.Ad h.1.Ah n.Af n.Aa)<|
 cond (n.Ai.Ax==10) (
  Option.bind (A6T n.Af p) fun i=>
  M7 n o i.2 n.Aj n.Ap n.Sum n.Al n.Am n.Bb n.Aq.Now n.Aq.Bc n.Ad n.Ak.Ah i.1 n.Aa)<|
 cond (n.Ai.Ax==11) (
  Option.bind (B1h n.Aa p) fun j=>
  M7 n o j.2 n.Aj n.Ap n.Sum n.Al n.Am n.Bb n.Aq.Now n.Aq.Bc n.Ad n.Ak.Ah n.Af j.1)<|
 M7 n o 0 n.Aj n.Ap n.Sum n.Al n.Am n.Bb n.Aq.Now n.Aq.Bc n.Ad n.Ak.Ah n.Af n.Aa
def A5u (c:A9) (e:Int) (d:List Int) (f:Int):Option (Int×Bool):=
 Option.bind (A0F c) fun b=>
 cond (b !=0) (
  some (0,false))<|
 Option.bind (A6R c e d f) fun a=>
 cond ((a.2.2.2 !=8)||(decide (a.2.1<(d.length:Int)))) (
  some (0,false))<|
 some (a.2.2.1,true)
def A6S (f:D6) (g:Int) (h:List Int) (c a:Int):Option ((Int×Int)⊕(Int×Bool)):=
 cond (decide (a<(f.Ah.length:Int))) (
  Option.bind (D2 f.Ah a) fun d=>
  Option.bind (A5u d g h c) fun e=>
  cond e.2 (
   some (.inr (e.1,true)))<|
  Option.bind (A6l d g h c) fun b=>
  cond (b.2.2 !=0) (
   some (.inr (0,false)))<|
  some (.inl (b.2.1,(A2 (a+1)))))<|
 Option.map Sum.inr (some (0,false))
def A7w (c:D6) (d:Int) (e:List Int) (b a:Int):Option (Int×Bool):=
 loop (fun (s:(Int×Int))=>A6S c d e s.1 s.2) (b,a)
def A7X (c:D6) (d:Int) (e:List Int):Option (Int×Bool):=
 Option.bind (X2 c) fun a=>
 let b:=(D8 d);
 cond ((a !=0)||(!b)) (
  some (0,false))<|
 A7w c d e 0 0
def A7Z (c:C2) (d:Int) (e:List Int):Option (Int×Bool):=
 Option.bind (A2E c) fun b=>
 cond ((b !=0)||(c.Ai.Ax !=9)) (
  some (0,false))<|
 Option.bind (A7X c.Ak d e) fun a=>
 some (a.1,a.2)
def A66 (f d a b:Int):Option ((Int×Int×Int)⊕(C1×Bool)):=
 cond (decide (d>0)) (
  let e:=(Q5 f);
  Option.bind (A00 (C1.mk a b) e) fun c=>
  cond (!c.2) (
   some (.inr ((C1.mk 0 0),false)))<|
  some (.inl ((A2 (d-1)),c.1.Hi,c.1.Lo)))<|
 Option.map Sum.inr (some ((C1.mk a b),true))
def A71 (d c a b:Int):Option (C1×Bool):=
 loop (fun (s:(Int×Int×Int))=>A66 d s.1 s.2.1 s.2.2) (c,a,b)
def B0w (c d:Int):Option (C1×Bool):=
 cond (decide (d<0)) (
  some ((C1.mk 0 0),false))<|
 cond (decide (c<=1)) (
  cond ((c==0)&&(decide (d>0))) (
   some ((C1.mk 0 0),true))<|
  let b:=(Q5 1);
  some (b,true))<|
 let a:=(Q5 1);
 A71 c d a.Hi a.Lo
def A2m (j:D3) (k:Int) (b:List C1) (a:Int):Option (((List C1)×Int)⊕(D3×Int)):=
 cond (decide (a<((List.replicate ((j.Ae.length:Int)).toNat (C1.mk 0 (0:Int))).length:Int))) (
  Option.bind (B0w (F9 (A2 ((A2 (j.Now-j.Ay))+1))) a) fun d=>
  let e:=(Q5 (F9 k));
  Option.bind (A00 d.1 e) fun f=>
  Option.bind (D2 j.Ae a) fun g=>
  Option.bind (A6d g f.1) fun c=>
  cond (!c.2) (
   some (.inr ((D3.mk 0 0 0 []),6)))<|
  Option.bind (D2 b a) fun h=>
  Option.bind (D2 b a) fun i=>
  some (.inl ((b.set (a).toNat c.1),(A2 (a+1)))))<|
 Option.map Sum.inr (some ((D3.mk j.P j.Ay j.Now b),0))
def B1G (c:D3) (d:Int) (b:List C1) (a:Int):Option (D3×Int):=
 loop (fun (s:((List C1)×Int))=>A2m c d s.1 s.2) (b,a)
def B26 (b:D3) (c:Int):Option (D3×Int):=
 Option.bind (A3j b) fun a=>
 cond (a !=0) (
  some ((D3.mk 0 0 0 []),a))<|
 cond ((decide (c<0))||(decide (c>4096))) (
  some ((D3.mk 0 0 0 []),4))<|
 ck (decide (0<=(b.Ae.length:Int)/\(b.Ae.length:Int)<=(b.Ae.length:Int)/\(b.Ae.length:Int)*16<=140737488355328/\(b.Ae.length:Int)<=140737488355328))<|
 B1G b c (List.replicate ((b.Ae.length:Int)).toNat (C1.mk 0 0)) 0
def A6G (e:B8) (f:Int):Option (B8×Int):=
 Option.bind (A0q e) fun a=>
 cond (a !=0) (
  some ((B8.mk 0 0 0 0 []),a))<|
 cond ((decide (f<(-4096:Int)))||(decide (f>4096))) (
  some ((B8.mk 0 0 0 0 []),4))<|
 Option.bind (A2a e.Ag) fun c=>
 cond (c==e.Cap) (
  some ((B8.mk 0 0 0 0 []),5))<|
 Option.bind (A3k e.K e.Cap) fun d=>
 Option.bind (A5z e.Ag (A2 (2*e.K)) d e.Now f) fun b=>
 some ((B8.mk e.W e.K e.Cap e.Now b),0)
def A9e (c:C8) (d:Int):Option (C8×Int):=
 Option.bind (A0f c) fun a=>
 cond (a !=0) (
  some ((C8.mk 0 0 0 []),a))<|
 let b:=(A6I d);
 cond (!b) (
  some ((C8.mk 0 0 0 []),4))<|
 cond ((c.Ar.length:Int)==c.Cap) (
  some ((C8.mk 0 0 0 []),5))<|
 ck (decide (0<=(c.Ar.length:Int)/\(c.Ar.length:Int)=(c.Ar.length:Int)/\(c.Ar.length:Int)<=(c.Ar.length:Int)))<|
 ck (decide ([(B6.mk c.Now d)]≠ []/\((c.Ar.take ((c.Ar.length:Int)).toNat).length+ [(B6.mk c.Now d)].length)*16<=140737488355328))<|
 some ((C8.mk c.W c.Cap c.Now ((c.Ar.take ((c.Ar.length:Int)).toNat)++ [(B6.mk c.Now d)])),0)
def X3 (f:D6) (h:Int) (g:List Int) (d c:Int) (a:List A9):Option ((Int×Int×(List A9))⊕(D6×Int)):=
 cond (decide (c<(f.Ah.length:Int))) (
  Option.bind (D2 f.Ah c) fun e=>
  Option.bind (Y0 e h g d) fun b=>
  cond (b.2.2 !=0) (
   some (.inr ((D6.mk []),b.2.2)))<|
  ck (decide ((a.length+ [b.1].length)*56<=140737488355328))<|
  some (.inl (b.2.1,(A2 (c+1)),(a++ [b.1]))))<|
 Option.map Sum.inr (cond (decide (d<(g.length:Int))) (
  some ((D6.mk []),8))<|
 some ((D6.mk a),0))
def A3r (d:D6) (e:Int) (f:List Int) (b c:Int) (a:List A9):Option (D6×Int):=
 loop (fun (s:(Int×Int×(List A9)))=>X3 d e f s.1 s.2.1 s.2.2) (b,c,a)
def A4Z (b:D6) (c:Int) (d:List Int):Option (D6×Int):=
 Option.bind (N4 b) fun a=>
 cond (a !=0) (
  some ((D6.mk []),a))<|
 A3r b c d 0 0 ([]:List A9)
def A3h (e:List A7) (f g d:Int) (b:List A7) (c:Int):Option (((List A7)×Int)⊕(List A7)):=
 cond (decide (c<(e.length:Int))) (
  Option.bind (D2 e c) fun a=>
  ck (decide ((b.length+ [(A7.mk a.Bg a.T (A2 (a.N+1)) (A2 (a.S+d)) (A2 (a.Q+(A2 (d*d)))) (A0P a.Bf d) (X0 a.Be d))].length)*56<=140737488355328))<|
  some (.inl ((b++ [(A7.mk a.Bg a.T (A2 (a.N+1)) (A2 (a.S+d)) (A2 (a.Q+(A2 (d*d)))) (A0P a.Bf d) (X0 a.Be d))]),(A2 (c+1)))))<|
 Option.map Sum.inr (ck (decide ((b.length+ [(A7.mk f g 1 d (A2 (d*d)) d d)].length)*56<=140737488355328))<|
 some (b++ [(A7.mk f g 1 d (A2 (d*d)) d d)]))
def B4B (c:List A7) (d e f:Int) (b:List A7) (a:Int):Option (List A7):=
 loop (fun (s:((List A7)×Int))=>A3h c d e f s.1 s.2) (b,a)
def A6i (a:List A7) (b c d:Int):Option (List A7):=
 B4B a b c d ([]:List A7) 0
def A6Y (i j:A7) (b d c e f g:Int) (h:List A7):Bool:=
 let a:=(G7 i j b c);
 a
def A1r (o:List A7) (h i j k l m:Int) (n:List A7) (c:A7) (d:List A7) (b a:Int):Option (Int⊕(((List A7)×Int)⊕(List A7))):=
 cond (decide (a>b)) (
  Option.bind (D2 o b) fun e=>
  Option.bind (D2 o a) fun f=>
  let g:=(A6Y e f h i j k l m n);
  cond g (
   Option.map Sum.inr (some (.inl ((d++ [c]),a))))<|
  some (.inl (A2 (a-1))))<|
 Option.map Sum.inr (some (.inl ((d++ [c]),(A2 (b+1)))))
def A8Q (l:List A7) (e f g h i j:Int) (k:List A7) (a:A7) (b:List A7) (c d:Int):Option (((List A7)×Int)⊕(List A7)):=
 loop (fun (s:Int)=>A1r l e f g h i j k a b c s) d
def Y1 (d:List A7) (e f g h i j:Int) (k a:List A7) (b:Int):Option (((List A7)×Int)⊕(List A7)):=
 cond (decide (b<(d.length:Int))) (
  Option.bind (D2 d b) fun c=>
  ck (decide ((a.length+ [c].length)*56<=140737488355328))<|
  A8Q d e f g h i j k c a b (A2 ((d.length:Int)-(1:Int))))<|
 Option.map Sum.inr (some a)
def A8P (j:List A7) (c d e f g h:Int) (i a:List A7) (b:Int):Option (List A7):=
 loop (fun (s:((List A7)×Int))=>Y1 j c d e f g h i s.1 s.2) (a,b)
def A4x (h:List A7) (a b c d e f:Int) (g:List A7):Option (List A7):=
 A8P h a b c d e f g ([]:List A7) 0
def A9o (f:C3) (g:Int):Option (C3×Int):=
 Option.bind (A1M (C3.mk f.Bd f.W f.K f.Cap f.Now f.Bg f.Av)) fun a=>
 cond (a !=0) (
  some ((C3.mk 0 0 0 0 0 0 []),a))<|
 let b:=(I7 f.Bd);
 cond ((decide (g<b))||(decide (g>4096))) (
  some ((C3.mk 0 0 0 0 0 0 []),4))<|
 Option.bind (gd (decide ((f.Av.length:Int)>(0:Int))) (D2 f.Av 0)) fun c=>
 cond (((decide ((f.Av.length:Int)>(0:Int)))&&(c.N==f.Cap))||(f.Bg==1099511627776)) (
  some ((C3.mk 0 0 0 0 0 0 []),5))<|
 Option.bind (A6i f.Av (A2 (f.Bg+1)) f.Now g) fun d=>
 Option.bind (A4x d f.Bd f.W f.K f.Cap f.Now (A2 (f.Bg+1)) f.Av) fun e=>
 some ((C3.mk f.Bd f.W f.K f.Cap f.Now (A2 (f.Bg+1)) e),0)
def A6Z (h i:A7) (c b d e f:Int) (g:List A7):Option Bool:=
 Option.bind (A4i h i b) fun a=>
 some a
def A1s (n:List A7) (h i j k l:Int) (m:List A7) (c:A7) (d:List A7) (b a:Int):Option (Int⊕(((List A7)×Int)⊕(List A7))):=
 cond (decide (a>b)) (
  Option.bind (D2 n b) fun e=>
  Option.bind (D2 n a) fun f=>
  Option.bind (A6Z e f h i j k l m) fun g=>
  cond g (
   Option.map Sum.inr (some (.inl ((d++ [c]),a))))<|
  some (.inl (A2 (a-1))))<|
 Option.map Sum.inr (some (.inl ((d++ [c]),(A2 (b+1)))))
def A8S (k:List A7) (e f g h i:Int) (j:List A7) (a:A7) (b:List A7) (c d:Int):Option (((List A7)×Int)⊕(List A7)):=
 loop (fun (s:Int)=>A1s k e f g h i j a b c s) d
def Y2 (d:List A7) (e f g h i:Int) (j a:List A7) (b:Int):Option (((List A7)×Int)⊕(List A7)):=
 cond (decide (b<(d.length:Int))) (
  Option.bind (D2 d b) fun c=>
  ck (decide ((a.length+ [c].length)*56<=140737488355328))<|
  A8S d e f g h i j c a b (A2 ((d.length:Int)-(1:Int))))<|
 Option.map Sum.inr (some a)
def A8R (i:List A7) (c d e f g:Int) (h a:List A7) (b:Int):Option (List A7):=
 loop (fun (s:((List A7)×Int))=>Y2 i c d e f g h s.1 s.2) (a,b)
def A4y (g:List A7) (a b c d e:Int) (f:List A7):Option (List A7):=
 A8R g a b c d e f ([]:List A7) 0
def A9q (e:C4) (f:Int):Option (C4×Int):=
 Option.bind (A1N (C4.mk e.W e.K e.Cap e.Now e.Bg e.Av)) fun a=>
 cond (a !=0) (
  some ((C4.mk 0 0 0 0 0 []),a))<|
 cond ((decide (f<(-4096:Int)))||(decide (f>4096))) (
  some ((C4.mk 0 0 0 0 0 []),4))<|
 Option.bind (gd (decide ((e.Av.length:Int)>(0:Int))) (D2 e.Av 0)) fun b=>
 cond (((decide ((e.Av.length:Int)>(0:Int)))&&(b.N==e.Cap))||(e.Bg==1099511627776)) (
  some ((C4.mk 0 0 0 0 0 []),5))<|
 Option.bind (A6i e.Av (A2 (e.Bg+1)) e.Now f) fun c=>
 Option.bind (A4y c e.W e.K e.Cap e.Now (A2 (e.Bg+1)) e.Av) fun d=>
 some ((C4.mk e.W e.K e.Cap e.Now (A2 (e.Bg+1)) d),0)
def B5q (d:D9) (e:Int):Option (D9×Int):=
 Option.bind (A4k d) fun a=>
 cond (a !=0) (
  some ((D9.mk 0 0 0 0 0 []),a))<|
 cond ((decide (e<0))||(decide (e>d.Be))) (
  some ((D9.mk 0 0 0 0 0 []),4))<|
 Option.bind (R2 d.Ab) fun b=>
 cond (decide (b>(A2 (d.Cap-e)))) (
  some ((D9.mk 0 0 0 0 0 []),5))<|
 Option.bind (A1j d.Ab d.K d.Now e) fun c=>
 some ((D9.mk d.W d.K d.Cap d.Be d.Now c),0)
def O7 (m:Int) (c:List D4) (a:Int):Option (((List D4)×Int)⊕(List D4)):=
 cond (decide (a>=1)) (
  Option.bind (D2 c (A2 (a+1))) fun i=>
  Option.bind (D2 c (A2 (a+1))) fun f=>
  Option.bind (D2 c a) fun j=>
  Option.bind (D2 c a) fun g=>
  cond (decide ((A2 ((A2 (g.G+f.G))+f.D))<=m)) (
   Option.bind (D2 c (A2 (a+1))) fun k=>
   Option.bind (D2 c (A2 (a+1))) fun e=>
   Option.bind (D2 c a) fun l=>
   Option.bind (D2 c a) fun d=>
   Option.bind (D2 c (A2 (a+1))) fun h=>
   Option.bind (D2 c (A2 (a+1))) fun b=>
   ck (decide (0<=a/\a<=((c.set ((A2 (a+(1:Int)))).toNat (D4.mk b.V (A2 (e.G+d.G)) b.D)).length:Int)))<|
   ck (decide (0<=(A2 (a+1))/\(A2 (a+1))<=((c.set ((A2 (a+(1:Int)))).toNat (D4.mk b.V (A2 (e.G+d.G)) b.D)).length:Int)))<|
   ck (decide (0<(a).toNat/\(a).toNat+(((c.set ((A2 (a+(1:Int)))).toNat (D4.mk b.V (A2 (e.G+d.G)) b.D)).drop ((A2 (a+(1:Int)))).toNat).take ((c.set ((A2 (a+(1:Int)))).toNat (D4.mk b.V (A2 (e.G+d.G)) b.D)).length-((A2 (a+(1:Int)))).toNat)).length<=(c.set ((A2 (a+(1:Int)))).toNat (D4.mk b.V (A2 (e.G+d.G)) b.D)).length))<|
   some (.inl (((c.set ((A2 (a+(1:Int)))).toNat (D4.mk b.V (A2 (e.G+d.G)) b.D)).take (a).toNat++(((c.set ((A2 (a+(1:Int)))).toNat (D4.mk b.V (A2 (e.G+d.G)) b.D)).drop ((A2 (a+(1:Int)))).toNat).take ((c.set ((A2 (a+(1:Int)))).toNat (D4.mk b.V (A2 (e.G+d.G)) b.D)).length-((A2 (a+(1:Int)))).toNat))),(A2 (a-1)))))<|
  some (.inl (c,(A2 (a-1)))))<|
 Option.map Sum.inr (some c)
def P9 (c:Int) (a:List D4) (b:Int):Option (List D4):=
 loop (fun (s:((List D4)×Int))=>O7 c s.1 s.2) (a,b)
def W6 (a:List D4) (b:Int):Option (List D4):=
 P9 b a (A2 ((a.length:Int)-(2:Int)))
def A0r (b:A8) (a:List D4):Option (A8×Int):=
 cond (decide ((a.length:Int)>b.Cap)) (
  some ((A8.mk 0 0 0 []),5))<|
 some ((A8.mk b.K b.Cap (A2 (b.N+1)) a),0)
def V3 (e:A8) (f a b:Int):Option (A8×Int):=
 ck (decide (0<=a/\a<=(e.Ao.length:Int)))<|
 ck (decide ((([]:List D4).length+(e.Ao.take (a).toNat).length)*24<=140737488355328))<|
 ck (decide (((([]:List D4)++(e.Ao.take (a).toNat)).length+ [(D4.mk f 1 b)].length)*24<=140737488355328))<|
 ck (decide (0<=a/\a<=(e.Ao.length:Int)))<|
 ck (decide ((((([]:List D4)++(e.Ao.take (a).toNat))++ [(D4.mk f 1 b)]).length+(e.Ao.drop (a).toNat).length)*24<=140737488355328))<|
 cond (decide (((((([]:List D4)++(e.Ao.take (a).toNat))++ [(D4.mk f 1 b)])++(e.Ao.drop (a).toNat)).length:Int)>e.Cap)) (
  Option.bind (A2I (A2 (e.N+1)) e.K) fun c=>
  Option.bind (W6 (((([]:List D4)++(e.Ao.take (a).toNat))++ [(D4.mk f 1 b)])++(e.Ao.drop (a).toNat)) c) fun d=>
  A0r e d)<|
 A0r e (((([]:List D4)++(e.Ao.take (a).toNat))++ [(D4.mk f 1 b)])++(e.Ao.drop (a).toNat))
def Y9 (e:A8) (f a:Int):Option (Int⊕(A8×Int)):=
 Option.bind (gd (decide (a<(e.Ao.length:Int))) (D2 e.Ao a)) fun d=>
 cond ((decide (a<(e.Ao.length:Int)))&&(decide (d.V<=f))) (
  some (.inl (A2 (a+1))))<|
 Option.map Sum.inr (cond ((decide (a>0))&&(decide (a<(e.Ao.length:Int)))) (
  Option.bind (D2 e.Ao a) fun b=>
  Option.bind (D2 e.Ao a) fun c=>
  V3 e f a (A2 ((A2 (b.G+c.D))-1)))<|
 V3 e f a 0)
def A5h (b:A8) (c a:Int):Option (A8×Int):=
 loop (fun (s:Int)=>Y9 b c s) a
def A42 (b:A8) (c:Int):Option (A8×Int):=
 Option.bind (A0W b) fun a=>
 cond (a !=0) (
  some ((A8.mk 0 0 0 []),a))<|
 cond ((decide (c<(-4096:Int)))||(decide (c>4096))) (
  some ((A8.mk 0 0 0 []),4))<|
 cond (b.N==1099511627776) (
  some ((A8.mk 0 0 0 []),5))<|
 A5h b c 0
def A0X (n:C2) (i:C8) (a:D5) (b:D9) (c:C3) (d:C4) (e:D3) (j:Int) (k:List Int) (f:B7) (l:List A9) (g:A8) (h:B8) (m:Int):Option (C2×Int):=
 cond (m !=0) (
  some ((C2.mk (E4.mk 0 0 0 0 0 0 0 0) (C8.mk 0 0 0 []) (D5.mk 0 0 0 0 []) (D9.mk 0 0 0 0 0 []) (C3.mk 0 0 0 0 0 0 []) (C4.mk 0 0 0 0 0 []) (D3.mk 0 0 0 []) (E5.mk 0 []) (B7.mk false 0 0 0 []) (D6.mk []) (A8.mk 0 0 0 []) (B8.mk 0 0 0 0 [])),m))<|
 some ((C2.mk n.Ai i a b c d e (E5.mk j k) f (D6.mk l) g h),0)
def K4 (n:C2) (o:List Int) (m:Int) (i:C8) (a:D5) (b:D9) (c:C3) (d:C4) (e:D3) (j:Int) (k:List Int) (f:B7) (l:List A9) (g:A8) (h:B8):Option (C2×Int):=
 cond (((m==0)&&(n.Ai.Ax !=9))&&(decide ((o.length:Int)>(0:Int)))) (
  A0X n i a b c d e j k f l g h 8)<|
 A0X n i a b c d e j k f l g h m
def A60 (m:C2) (o:Int) (n:List Int):Option (C2×Int):=
 Option.bind (V4 m) fun b=>
 cond (b !=0) (
  some ((C2.mk (E4.mk 0 0 0 0 0 0 0 0) (C8.mk 0 0 0 []) (D5.mk 0 0 0 0 []) (D9.mk 0 0 0 0 0 []) (C3.mk 0 0 0 0 0 0 []) (C4.mk 0 0 0 0 0 []) (D3.mk 0 0 0 []) (E5.mk 0 []) (B7.mk false 0 0 0 []) (D6.mk []) (A8.mk 0 0 0 []) (B8.mk 0 0 0 0 [])),b))<|
 cond (m.Ai.Ax==1) (
  Option.bind (A9e m.Aj o) fun l=>
  K4 m n l.2 l.1 m.Ap m.Sum m.Al m.Am m.Bb m.Aq.Now m.Aq.Bc m.Ad m.Ak.Ah m.Af m.Aa)<|
 cond (m.Ai.Ax==2) (
  cond ((decide (o<(-4096:Int)))||(decide (o>4096))) (
   some ((C2.mk (E4.mk 0 0 0 0 0 0 0 0) (C8.mk 0 0 0 []) (D5.mk 0 0 0 0 []) (D9.mk 0 0 0 0 0 []) (C3.mk 0 0 0 0 0 0 []) (C4.mk 0 0 0 0 0 []) (D3.mk 0 0 0 []) (E5.mk 0 []) (B7.mk false 0 0 0 []) (D6.mk []) (A8.mk 0 0 0 []) (B8.mk 0 0 0 0 [])),4))<|
  Option.bind (B0P m.Ap) fun c=>
  K4 m n c.2 m.Aj c.1 m.Sum m.Al m.Am m.Bb m.Aq.Now m.Aq.Bc m.Ad m.Ak.Ah m.Af m.Aa)<|
 cond (m.Ai.Ax==3) (
  Option.bind (B5q m.Sum o) fun d=>
  K4 m n d.2 m.Aj m.Ap d.1 m.Al m.Am m.Bb m.Aq.Now m.Aq.Bc m.Ad m.Ak.Ah m.Af m.Aa)<|
 cond (m.Ai.Ax==4) (
  Option.bind (A9o m.Al o) fun e=>
  K4 m n e.2 m.Aj m.Ap m.Sum e.1 m.Am m.Bb m.Aq.Now m.Aq.Bc m.Ad m.Ak.Ah m.Af m.Aa)<|
 cond (m.Ai.Ax==5) (
  Option.bind (A9q m.Am o) fun f=>
  K4 m n f.2 m.Aj m.Ap m.Sum m.Al f.1 m.Bb m.Aq.Now m.Aq.Bc m.Ad m.Ak.Ah m.Af m.Aa)<|
 cond (m.Ai.Ax==6) (
  Option.bind (B26 m.Bb o) fun g=>
  K4 m n g.2 m.Aj m.Ap m.Sum m.Al m.Am g.1 m.Aq.Now m.Aq.Bc m.Ad m.Ak.Ah m.Af m.Aa)<|
 cond (m.Ai.Ax==7) (
  Option.bind (B0V m.Aq o) fun a=>
  K4 m n a.2 m.Aj m.Ap m.Sum m.Al m.Am m.Bb a.1.Now a.1.Bc m.Ad m.Ak.Ah m.Af m.Aa)<|
 cond (m.Ai.Ax==8) (
  Option.bind (A7O m.Ad o) fun h=>
  K4 m n h.2 m.Aj m.Ap m.Sum m.Al m.Am m.Bb m.Aq.Now m.Aq.Bc h.1 m.Ak.Ah m.Af m.Aa)<|
 cond (m.Ai.Ax==9) (
  Option.bind (A4Z m.Ak o n) fun i=>
  K4 m n i.2 m.Aj m.Ap m.Sum m.Al m.Am m.Bb m.Aq.Now m.Aq.Bc m.Ad i.1.Ah m.Af m.Aa)<|
 cond (m.Ai.Ax==10) (
  Option.bind (A42 m.Af o) fun j=>
  K4 m n j.2 m.Aj m.Ap m.Sum m.Al m.Am m.Bb m.Aq.Now m.Aq.Bc m.Ad m.Ak.Ah j.1 m.Aa)<|
 cond (m.Ai.Ax==11) (
  Option.bind (A6G m.Aa o) fun k=>
  K4 m n k.2 m.Aj m.Ap m.Sum m.Al m.Am m.Bb m.Aq.Now m.Aq.Bc m.Ad m.Ak.Ah m.Af k.1)<|
 K4 m n b m.Aj m.Ap m.Sum m.Al m.Am m.Bb m.Aq.Now m.Aq.Bc m.Ad m.Ak.Ah m.Af m.Aa
def X4 (f:D6) (g:Int) (h:List Int) (c a:Int):Option ((Int×Int)⊕(Int×Bool)):=
 cond (decide (a<(f.Ah.length:Int))) (
  Option.bind (D2 f.Ah a) fun d=>
  Option.bind (A1P d g h c) fun e=>
  cond e.2 (
   some (.inr (e.1,true)))<|
  Option.bind (Y0 d g h c) fun b=>
  cond (b.2.2 !=0) (
   some (.inr (0,false)))<|
  some (.inl (b.2.1,(A2 (a+1)))))<|
 Option.map Sum.inr (some (0,false))
def A1K (c:D6) (d:Int) (e:List Int) (b a:Int):Option (Int×Bool):=
 loop (fun (s:(Int×Int))=>X4 c d e s.1 s.2) (b,a)
def A2G (b:D6) (c:Int) (d:List Int):Option (Int×Bool):=
 Option.bind (N4 b) fun a=>
 cond (a !=0) (
  some (0,false))<|
 A1K b c d 0 0
def A43 (c:C2) (d:Int) (e:List Int):Option (Int×Bool):=
 Option.bind (gd (!(c.Ai.Ax !=9)) (V4 c)) fun b=>
 cond ((c.Ai.Ax !=9)||(b !=0)) (
  some (0,false))<|
 Option.bind (A2G c.Ak d e) fun a=>
 some (a.1,a.2)
def A5c (i:C2) (k:Int) (j:List Int):Option Bool:=
 Option.bind (B0Y i) fun g=>
 cond ((!g)||(decide ((j.length:Int)>(100:Int)))) (
  Option.bind A5n fun h=>
  some h)<|
 Option.bind (A60 i k j) fun c=>
 Option.bind (B1i i k j) fun d=>
 Option.bind (A43 i k j) fun a=>
 Option.bind (A7Z i k j) fun b=>
 Option.bind (A28 c.1 d.1) fun e=>
 Option.bind (gd (((e&&(c.2==d.2))&&(a.1==b.1))&&(a.2==b.2)) A5n) fun f=>
 some ((((e&&(c.2==d.2))&&(a.1==b.1))&&(a.2==b.2))&&f)
def B4L (b c d:Int):(C8×Int):=
 let a:=(H6 b c d);
 cond (!a) (
  ((C8.mk 0 0 0 []),1))<|
 ((C8.mk b c d []),0)
def B4M (c d e f:Int):(D5×Int):=
 let a:=(H6 c e f);
 let b:=(H9 d);
 cond ((!a)||(!b)) (
  ((D5.mk 0 0 0 0 []),1))<|
 ((D5.mk c d e f []),0)
def B4N (d e f g h:Int):(D9×Int):=
 let b:=(H6 d f h);
 let c:=(H9 e);
 let a:=(A0S g);
 cond (((!b)||(!c))||(!a)) (
  ((D9.mk 0 0 0 0 0 []),1))<|
 ((D9.mk d e f g h []),0)
def B4P (d e f g h:Int):(C3×Int):=
 let b:=(P5 d);
 let c:=(H6 e g h);
 let a:=(H9 f);
 cond (((!b)||(!c))||(!a)) (
  ((C3.mk 0 0 0 0 0 0 []),1))<|
 ((C3.mk d e f g h 0 []),0)
def B4R (c d e f:Int):(C4×Int):=
 let a:=(H6 c e f);
 let b:=(H9 d);
 cond ((!a)||(!b)) (
  ((C4.mk 0 0 0 0 0 []),1))<|
 ((C4.mk c d e f 0 []),0)
def B1b (b c:Int):Option (D3×Int):=
 let a:=(F4 c);
 cond (((decide (b<0))||(decide (b>4)))||(!a)) (
  some ((D3.mk 0 0 0 []),1))<|
 ck (decide (0<=(A2 (b+1))/\(A2 (b+1))<=(A2 (b+1))/\(A2 (b+(1:Int)))*16<=140737488355328/\(A2 (b+(1:Int)))<=140737488355328))<|
 some ((D3.mk b c c (List.replicate ((A2 (b+(1:Int)))).toNat (C1.mk 0 0))),0)
def B4T (b c:Int):Option (E5×Int):=
 let a:=(F4 c);
 cond (((decide (b<1))||(decide (b>64)))||(!a)) (
  some ((E5.mk 0 []),1))<|
 ck (decide (0<=b/\b<=b/\b*8<=140737488355328/\b<=140737488355328))<|
 some ((E5.mk c (List.replicate (b).toNat 0)),0)
def B4U (e:Bool) (b c d:Int):(B7×Int):=
 let a:=(H6 b c d);
 cond (!a) (
  ((B7.mk false 0 0 0 []),1))<|
 ((B7.mk e b c d []),0)
def T4 (c b:Int):(A9×Int):=
 let a:=(M6 c);
 cond (((!a)||(decide (b<1)))||(decide (b>64))) (
  ((A9.mk 0 0 0 0 []),1))<|
 ((A9.mk c b 0 0 []),0)
def A5O (d e c:Int) (a:List A9):Option ((Int×(List A9))⊕(D6×Int)):=
 cond (decide (c>0)) (
  let b:=(T4 d e);
  cond (b.2 !=0) (
   some (.inr ((D6.mk []),b.2)))<|
  ck (decide ((a.length+ [b.1].length)*56<=140737488355328))<|
  some (.inl ((A2 (c-1)),(a++ [b.1]))))<|
 Option.map Sum.inr (some ((D6.mk a),0))
def B0m (c d b:Int) (a:List A9):Option (D6×Int):=
 loop (fun (s:(Int×(List A9)))=>A5O c d s.1 s.2) (b,a)
def B4V (a b c:Int):Option (D6×Int):=
 cond ((decide (a<1))||(decide (a>16))) (
  some ((D6.mk []),1))<|
 B0m b c a ([]:List A9)
def B4Z (c d e f:Int):(B8×Int):=
 let a:=(H6 c e f);
 let b:=(H9 d);
 cond ((!a)||(!b)) (
  ((B8.mk 0 0 0 0 []),1))<|
 ((B8.mk c d e f []),0)
def P6 (X:E4) (V W a:Int) (b:List B6) (c d e f:Int) (g:List A3) (h i j k l:Int) (m:List A3) (n o p q r s:Int) (t:List A7) (u v w x y:Int) (z:List A7) (A B C:Int) (D:List C1) (E:Int) (F:List Int) (G:Bool) (H I J:Int) (K:List B6) (L:List A9) (M N O:Int) (P:List D4) (Q R S T:Int) (U:List B3):Option (C2×Int):=
 some ((C2.mk X (C8.mk V W a b) (D5.mk c d e f g) (D9.mk h i j k l m) (C3.mk n o p q r s t) (C4.mk u v w x y z) (D3.mk A B C D) (E5.mk E F) (B7.mk G H I J K) (D6.mk L) (A8.mk M N O P) (B8.mk Q R S T U)),0)
def B9h (n:E4) (o:Int):Option (C2×Int):=
 let k:=(A0G n);
 cond (k !=0) (
  some ((C2.mk (E4.mk 0 0 0 0 0 0 0 0) (C8.mk 0 0 0 []) (D5.mk 0 0 0 0 []) (D9.mk 0 0 0 0 0 []) (C3.mk 0 0 0 0 0 0 []) (C4.mk 0 0 0 0 0 []) (D3.mk 0 0 0 []) (E5.mk 0 []) (B7.mk false 0 0 0 []) (D6.mk []) (A8.mk 0 0 0 []) (B8.mk 0 0 0 0 [])),k))<|
 let m:=(F4 o);
 cond (!m) (
  some ((C2.mk (E4.mk 0 0 0 0 0 0 0 0) (C8.mk 0 0 0 []) (D5.mk 0 0 0 0 []) (D9.mk 0 0 0 0 0 []) (C3.mk 0 0 0 0 0 0 []) (C4.mk 0 0 0 0 0 []) (D3.mk 0 0 0 []) (E5.mk 0 []) (B7.mk false 0 0 0 []) (D6.mk []) (A8.mk 0 0 0 []) (B8.mk 0 0 0 0 [])),1))<|
 cond (n.Ax==1) (
  let i:=(B4L n.W n.Cap o);
  P6 n i.1.W i.1.Cap i.1.Now i.1.Ar 0 0 0 0 ([]:List A3) 0 0 0 0 0 ([]:List A3) 0 0 0 0 0 0 ([]:List A7) 0 0 0 0 0 ([]:List A7) 0 0 0 ([]:List C1) 0 ([]:List Int) false 0 0 0 ([]:List B6) ([]:List A9) 0 0 0 ([]:List D4) 0 0 0 0 [])<|
 cond (n.Ax==2) (
  let d:=(B4M n.W n.K n.Cap o);
  P6 n 0 0 0 ([]:List B6) d.1.W d.1.K d.1.Cap d.1.Now d.1.Ab 0 0 0 0 0 ([]:List A3) 0 0 0 0 0 0 ([]:List A7) 0 0 0 0 0 ([]:List A7) 0 0 0 ([]:List C1) 0 ([]:List Int) false 0 0 0 ([]:List B6) ([]:List A9) 0 0 0 ([]:List D4) 0 0 0 0 [])<|
 cond (n.Ax==3) (
  let b:=(B4N n.W n.K n.Cap n.Be o);
  P6 n 0 0 0 ([]:List B6) 0 0 0 0 ([]:List A3) b.1.W b.1.K b.1.Cap b.1.Be b.1.Now b.1.Ab 0 0 0 0 0 0 ([]:List A7) 0 0 0 0 0 ([]:List A7) 0 0 0 ([]:List C1) 0 ([]:List Int) false 0 0 0 ([]:List B6) ([]:List A9) 0 0 0 ([]:List D4) 0 0 0 0 [])<|
 cond (n.Ax==4) (
  let a:=(B4P n.Bd n.W n.K n.Cap o);
  P6 n 0 0 0 ([]:List B6) 0 0 0 0 ([]:List A3) 0 0 0 0 0 ([]:List A3) a.1.Bd a.1.W a.1.K a.1.Cap a.1.Now a.1.Bg a.1.Av 0 0 0 0 0 ([]:List A7) 0 0 0 ([]:List C1) 0 ([]:List Int) false 0 0 0 ([]:List B6) ([]:List A9) 0 0 0 ([]:List D4) 0 0 0 0 [])<|
 cond (n.Ax==5) (
  let c:=(B4R n.W n.K n.Cap o);
  P6 n 0 0 0 ([]:List B6) 0 0 0 0 ([]:List A3) 0 0 0 0 0 ([]:List A3) 0 0 0 0 0 0 ([]:List A7) c.1.W c.1.K c.1.Cap c.1.Now c.1.Bg c.1.Av 0 0 0 ([]:List C1) 0 ([]:List Int) false 0 0 0 ([]:List B6) ([]:List A9) 0 0 0 ([]:List D4) 0 0 0 0 [])<|
 cond (n.Ax==6) (
  Option.bind (B1b n.P o) fun g=>
  P6 n 0 0 0 ([]:List B6) 0 0 0 0 ([]:List A3) 0 0 0 0 0 ([]:List A3) 0 0 0 0 0 0 ([]:List A7) 0 0 0 0 0 ([]:List A7) g.1.P g.1.Ay g.1.Now g.1.Ae 0 ([]:List Int) false 0 0 0 ([]:List B6) ([]:List A9) 0 0 0 ([]:List D4) 0 0 0 0 [])<|
 cond (n.Ax==7) (
  Option.bind (B4T n.W o) fun j=>
  P6 n 0 0 0 ([]:List B6) 0 0 0 0 ([]:List A3) 0 0 0 0 0 ([]:List A3) 0 0 0 0 0 0 ([]:List A7) 0 0 0 0 0 ([]:List A7) 0 0 0 ([]:List C1) j.1.Now j.1.Bc false 0 0 0 ([]:List B6) ([]:List A9) 0 0 0 ([]:List D4) 0 0 0 0 [])<|
 cond (n.Ax==8) (
  let e:=(B4U (n.Be==1) n.W n.Cap o);
  P6 n 0 0 0 ([]:List B6) 0 0 0 0 ([]:List A3) 0 0 0 0 0 ([]:List A3) 0 0 0 0 0 0 ([]:List A7) 0 0 0 0 0 ([]:List A7) 0 0 0 ([]:List C1) 0 ([]:List Int) e.1.Be e.1.W e.1.Cap e.1.Now e.1.Ar ([]:List A9) 0 0 0 ([]:List D4) 0 0 0 0 [])<|
 cond (n.Ax==9) (
  Option.bind (B4V n.Ah n.W n.Cap) fun l=>
  P6 n 0 0 0 ([]:List B6) 0 0 0 0 ([]:List A3) 0 0 0 0 0 ([]:List A3) 0 0 0 0 0 0 ([]:List A7) 0 0 0 0 0 ([]:List A7) 0 0 0 ([]:List C1) 0 ([]:List Int) false 0 0 0 ([]:List B6) l.1.Ah 0 0 0 ([]:List D4) 0 0 0 0 [])<|
 cond (n.Ax==10) (
  let h:=(Y8 n.K n.Cap);
  P6 n 0 0 0 ([]:List B6) 0 0 0 0 ([]:List A3) 0 0 0 0 0 ([]:List A3) 0 0 0 0 0 0 ([]:List A7) 0 0 0 0 0 ([]:List A7) 0 0 0 ([]:List C1) 0 ([]:List Int) false 0 0 0 ([]:List B6) ([]:List A9) h.1.K h.1.Cap h.1.N h.1.Ao 0 0 0 0 [])<|
 cond (n.Ax==11) (
  let f:=(B4Z n.W n.K n.Cap o);
  P6 n 0 0 0 ([]:List B6) 0 0 0 0 ([]:List A3) 0 0 0 0 0 ([]:List A3) 0 0 0 0 0 0 ([]:List A7) 0 0 0 0 0 ([]:List A7) 0 0 0 ([]:List C1) 0 ([]:List Int) false 0 0 0 ([]:List B6) ([]:List A9) 0 0 0 ([]:List D4) f.1.W f.1.K f.1.Cap f.1.Now f.1.Ag)<|
 P6 n 0 0 0 ([]:List B6) 0 0 0 0 ([]:List A3) 0 0 0 0 0 ([]:List A3) 0 0 0 0 0 0 ([]:List A7) 0 0 0 0 0 ([]:List A7) 0 0 0 ([]:List C1) 0 ([]:List Int) false 0 0 0 ([]:List B6) ([]:List A9) 0 0 0 ([]:List D4) 0 0 0 0 ([]:List B3)
end
end Go.Win
