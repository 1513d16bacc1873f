/- The functions of the program and of the statements, as functions on plain data: made by program out of the translated code. -/
import Derived.Test.YtoljnakoodalpaaGreatVc
set_option linter.unusedVariables false
namespace Go.Win
open Go.Vc Go.Dec
noncomputable section
structure A4 where
 Bl:Int
 Bh:Int
 deriving Inhabited
def D2M (p:A4):List AV:= [.int .i64 p.Bl, .int .i64 p.Bh]
def B13 (p:A4):Prop:=(E3 .i64) p.Bl/\(E3 .i64) p.Bh
def A93 (p:A4):Prop:=(E3 .i64) p.Bl/\(E3 .i64) p.Bh
structure B4 where
 Lo:A4
 Bi:A4
 Hi:A4
 deriving Inhabited
def H9 (p:B4):List AV:= [.int .i64 p.Lo.Bl, .int .i64 p.Lo.Bh, .int .i64 p.Bi.Bl, .int .i64 p.Bi.Bh, .int .i64 p.Hi.Bl, .int .i64 p.Hi.Bh]
def C2j (p:B4):Prop:=B13 p.Lo/\B13 p.Bi/\B13 p.Hi
def C0W (p:B4):Prop:=A93 p.Lo/\A93 p.Bi/\A93 p.Hi
structure A1 where
 Hi:Int
 Lo:Int
 deriving Inhabited
def F6 (p:A1):List AV:= [.int .u64 p.Hi, .int .u64 p.Lo]
def B3v (p:A1):Prop:=(E3 .u64) p.Hi/\(E3 .u64) p.Lo
def A1P (p:A1):Prop:=(E3 .u64) p.Hi/\(E3 .u64) p.Lo
structure C1 where
 Bl:A1
 Bh:A1
 deriving Inhabited
def A3H (p:C1):List AV:= [.int .u64 p.Bl.Hi, .int .u64 p.Bl.Lo, .int .u64 p.Bh.Hi, .int .u64 p.Bh.Lo]
def B93 (p:C1):Prop:=B3v p.Bl/\B3v p.Bh
def B8E (p:C1):Prop:=A1P p.Bl/\A1P p.Bh
structure C5 where
 Ai:B4
 Ar:(List Int)
 Aa:C1
 deriving Inhabited
def Q0 (p:C5):List AV:= [.int .i64 p.Ai.Lo.Bl, .int .i64 p.Ai.Lo.Bh, .int .i64 p.Ai.Bi.Bl, .int .i64 p.Ai.Bi.Bh, .int .i64 p.Ai.Hi.Bl, .int .i64 p.Ai.Hi.Bh, .lst 1 false (List.map (eI .i64) p.Ar), .int .u64 p.Aa.Bl.Hi, .int .u64 p.Aa.Bl.Lo, .int .u64 p.Aa.Bh.Hi, .int .u64 p.Aa.Bh.Lo]
def D2N (p:C5):Prop:=C2j p.Ai/\(wfL (E3 .i64)) p.Ar/\B93 p.Aa
def D2H (p:C5):Prop:=C0W p.Ai/\(A0J (E3 .i64)) p.Ar/\B8E p.Aa
structure A6 where
 V:Int
 Bk:Int
 Bj:Int
 deriving Inhabited
def A3 (p:A6):List AV:= [.int .i64 p.V, .int .i64 p.Bk, .int .i64 p.Bj]
def C4V (p:A6):Prop:=(E3 .i64) p.V/\(E3 .i64) p.Bk/\(E3 .i64) p.Bj
def A6Q (p:A6):Prop:=(E3 .i64) p.V/\(E3 .i64) p.Bk/\(E3 .i64) p.Bj
structure B6 where
 N:Int
 Ad:(List A6)
 deriving Inhabited
def A31 (p:B6):List AV:= [.int .i64 p.N, .lst 3 false (List.map A3 p.Ad)]
def C4X (p:B6):Prop:=(E3 .i64) p.N/\(wfL C4V) p.Ad
def B5J (p:B6):Prop:=(E3 .i64) p.N/\(A0J A6Q) p.Ad
structure D5 where
 T:Int
 Bc:Int
 Aw:Int
 Az:B6
 deriving Inhabited
def B1 (p:D5):List AV:= [.int .i64 p.T, .int .i64 p.Bc, .int .i64 p.Aw, .int .i64 p.Az.N, .lst 3 false (List.map A3 p.Az.Ad)]
def C4S (p:D5):Prop:=(E3 .i64) p.T/\(E3 .i64) p.Bc/\(E3 .i64) p.Aw/\C4X p.Az
def A6O (p:D5):Prop:=(E3 .i64) p.T/\(E3 .i64) p.Bc/\(E3 .i64) p.Aw/\B5J p.Az
structure B7 where
 T:Int
 Aw:Int
 deriving Inhabited
def C6 (p:B7):List AV:= [.int .i64 p.T, .int .i64 p.Aw]
def B5K (p:B7):Prop:=(E3 .i64) p.T/\(E3 .i64) p.Aw
def A3x (p:B7):Prop:=(E3 .i64) p.T/\(E3 .i64) p.Aw
structure A8p where
 I:Int
 V:Int
 deriving Inhabited
def F4 (p:A8p):List AV:= [.int .i64 p.I, .int .i64 p.V]
def C6j (p:A8p):Prop:=(E3 .i64) p.I/\(E3 .i64) p.V
def A8b (p:A8p):Prop:=(E3 .i64) p.I/\(E3 .i64) p.V
structure D0 where
 W:Int
 Cap:Int
 I:Int
 Bd:Int
 Ax:(List A8p)
 deriving Inhabited
def C3 (p:D0):List AV:= [.int .i64 p.W, .int .i64 p.Cap, .int .i64 p.I, .int .i64 p.Bd, .lst 2 false (List.map F4 p.Ax)]
def C4T (p:D0):Prop:=(E3 .i64) p.W/\(E3 .i64) p.Cap/\(E3 .i64) p.I/\(E3 .i64) p.Bd/\(wfL C6j) p.Ax
def A6P (p:D0):Prop:=(E3 .i64) p.W/\(E3 .i64) p.Cap/\(E3 .i64) p.I/\(E3 .i64) p.Bd/\(A0J A8b) p.Ax
structure E5 where
 Ba:Int
 Bg:Int
 W:Int
 K:Int
 Cap:Int
 P:Int
 Aj:Int
 Bj:Int
 deriving Inhabited
def N0 (p:E5):List AV:= [.int .i64 p.Ba, .int .i64 p.Bg, .int .i64 p.W, .int .i64 p.K, .int .i64 p.Cap, .int .i64 p.P, .int .i64 p.Aj, .int .i64 p.Bj]
def C2k (p:E5):Prop:=(E3 .i64) p.Ba/\(E3 .i64) p.Bg/\(E3 .i64) p.W/\(E3 .i64) p.K/\(E3 .i64) p.Cap/\(E3 .i64) p.P/\(E3 .i64) p.Aj/\(E3 .i64) p.Bj
def B4m (p:E5):Prop:=(E3 .i64) p.Ba/\(E3 .i64) p.Bg/\(E3 .i64) p.W/\(E3 .i64) p.K/\(E3 .i64) p.Cap/\(E3 .i64) p.P/\(E3 .i64) p.Aj/\(E3 .i64) p.Bj
structure D6 where
 W:Int
 K:Int
 Cap:Int
 Now:Int
 Ac:(List B7)
 deriving Inhabited
def M9 (p:D6):List AV:= [.int .i64 p.W, .int .i64 p.K, .int .i64 p.Cap, .int .i64 p.Now, .lst 2 false (List.map C6 p.Ac)]
def C4U (p:D6):Prop:=(E3 .i64) p.W/\(E3 .i64) p.K/\(E3 .i64) p.Cap/\(E3 .i64) p.Now/\(wfL B5K) p.Ac
def A90 (p:D6):Prop:=(E3 .i64) p.W/\(E3 .i64) p.K/\(E3 .i64) p.Cap/\(E3 .i64) p.Now/\(A0J A3x) p.Ac
structure B3 where
 T:Int
 V:Int
 deriving Inhabited
def A8 (p:B3):List AV:= [.int .i64 p.T, .int .i64 p.V]
def B7Y (p:B3):Prop:=(E3 .i64) p.T/\(E3 .i64) p.V
def A44 (p:B3):Prop:=(E3 .i64) p.T/\(E3 .i64) p.V
structure C8 where
 Bj:Bool
 W:Int
 Cap:Int
 Now:Int
 Av:(List B3)
 deriving Inhabited
def I7 (p:C8):List AV:= [.sb p.Bj, .int .i64 p.W, .int .i64 p.Cap, .int .i64 p.Now, .lst 2 false (List.map A8 p.Av)]
def C0X (p:C8):Prop:=(fun _:Bool=>True) p.Bj/\(E3 .i64) p.W/\(E3 .i64) p.Cap/\(E3 .i64) p.Now/\(wfL B7Y) p.Av
def A8a (p:C8):Prop:=(fun _:Bool=>True) p.Bj/\(E3 .i64) p.W/\(E3 .i64) p.Cap/\(E3 .i64) p.Now/\(A0J A44) p.Av
structure G2 where
 Now:Int
 Bf:(List Int)
 deriving Inhabited
def A30 (p:G2):List AV:= [.int .i64 p.Now, .lst 1 false (List.map (eI .i64) p.Bf)]
def C4W (p:G2):Prop:=(E3 .i64) p.Now/\(wfL (E3 .i64)) p.Bf
def A91 (p:G2):Prop:=(E3 .i64) p.Now/\(A0J (E3 .i64)) p.Bf
structure D7 where
 Bm:Int
 T:Int
 N:Int
 S:Int
 Q:Int
 Bk:Int
 Bj:Int
 deriving Inhabited
def A9 (p:D7):List AV:= [.int .i64 p.Bm, .int .i64 p.T, .int .i64 p.N, .int .i64 p.S, .int .i64 p.Q, .int .i64 p.Bk, .int .i64 p.Bj]
def B7Z (p:D7):Prop:=(E3 .i64) p.Bm/\(E3 .i64) p.T/\(E3 .i64) p.N/\(E3 .i64) p.S/\(E3 .i64) p.Q/\(E3 .i64) p.Bk/\(E3 .i64) p.Bj
def A45 (p:D7):Prop:=(E3 .i64) p.Bm/\(E3 .i64) p.T/\(E3 .i64) p.N/\(E3 .i64) p.S/\(E3 .i64) p.Q/\(E3 .i64) p.Bk/\(E3 .i64) p.Bj
structure D8 where
 P:Int
 Bb:Int
 Now:Int
 Af:(List A1)
 deriving Inhabited
def M6 (p:D8):List AV:= [.int .i64 p.P, .int .i64 p.Bb, .int .i64 p.Now, .lst 2 false (List.map F6 p.Af)]
def C6k (p:D8):Prop:=(E3 .i64) p.P/\(E3 .i64) p.Bb/\(E3 .i64) p.Now/\(wfL B3v) p.Af
def B12 (p:D8):Prop:=(E3 .i64) p.P/\(E3 .i64) p.Bb/\(E3 .i64) p.Now/\(A0J A1P) p.Af
structure C4 where
 W:Int
 K:Int
 Cap:Int
 Now:Int
 Ah:(List D5)
 deriving Inhabited
def H0 (p:C4):List AV:= [.int .i64 p.W, .int .i64 p.K, .int .i64 p.Cap, .int .i64 p.Now, .lst 5 false (List.map B1 p.Ah)]
def B94 (p:C4):Prop:=(E3 .i64) p.W/\(E3 .i64) p.K/\(E3 .i64) p.Cap/\(E3 .i64) p.Now/\(wfL C4S) p.Ah
def A7a (p:C4):Prop:=(E3 .i64) p.W/\(E3 .i64) p.K/\(E3 .i64) p.Cap/\(E3 .i64) p.Now/\(A0J A6O) p.Ah
structure Q2 where
 Op:Int
 A:Int
 B:Int
 deriving Inhabited
def B5t (p:Q2):List AV:= [.int .i64 p.Op, .int .i64 p.A, .int .i64 p.B]
def D3Q (p:Q2):Prop:=(E3 .i64) p.Op/\(E3 .i64) p.A/\(E3 .i64) p.B
def A92 (p:Q2):Prop:=(E3 .i64) p.Op/\(E3 .i64) p.A/\(E3 .i64) p.B
structure C9 where
 W:Int
 Cap:Int
 Now:Int
 Av:(List B3)
 deriving Inhabited
def L8 (p:C9):List AV:= [.int .i64 p.W, .int .i64 p.Cap, .int .i64 p.Now, .lst 2 false (List.map A8 p.Av)]
def C2l (p:C9):Prop:=(E3 .i64) p.W/\(E3 .i64) p.Cap/\(E3 .i64) p.Now/\(wfL B7Y) p.Av
def A8O (p:C9):Prop:=(E3 .i64) p.W/\(E3 .i64) p.Cap/\(E3 .i64) p.Now/\(A0J A44) p.Av
structure E4 where
 Aj:(List D0)
 deriving Inhabited
def A24 (p:E4):List AV:= [.lst 5 false (List.map C3 p.Aj)]
def C2m (p:E4):Prop:=(wfL C4T) p.Aj
def A8P (p:E4):Prop:=(A0J A6P) p.Aj
structure D2 where
 Bg:Int
 W:Int
 K:Int
 Cap:Int
 Now:Int
 Bm:Int
 Ay:(List D7)
 deriving Inhabited
def I0 (p:D2):List AV:= [.int .i64 p.Bg, .int .i64 p.W, .int .i64 p.K, .int .i64 p.Cap, .int .i64 p.Now, .int .i64 p.Bm, .lst 7 false (List.map A9 p.Ay)]
def C2n (p:D2):Prop:=(E3 .i64) p.Bg/\(E3 .i64) p.W/\(E3 .i64) p.K/\(E3 .i64) p.Cap/\(E3 .i64) p.Now/\(E3 .i64) p.Bm/\(wfL B7Z) p.Ay
def A8Q (p:D2):Prop:=(E3 .i64) p.Bg/\(E3 .i64) p.W/\(E3 .i64) p.K/\(E3 .i64) p.Cap/\(E3 .i64) p.Now/\(E3 .i64) p.Bm/\(A0J A45) p.Ay
structure D3 where
 W:Int
 K:Int
 Cap:Int
 Now:Int
 Bm:Int
 Ay:(List D7)
 deriving Inhabited
def J2 (p:D3):List AV:= [.int .i64 p.W, .int .i64 p.K, .int .i64 p.Cap, .int .i64 p.Now, .int .i64 p.Bm, .lst 7 false (List.map A9 p.Ay)]
def C2o (p:D3):Prop:=(E3 .i64) p.W/\(E3 .i64) p.K/\(E3 .i64) p.Cap/\(E3 .i64) p.Now/\(E3 .i64) p.Bm/\(wfL B7Z) p.Ay
def A8R (p:D3):Prop:=(E3 .i64) p.W/\(E3 .i64) p.K/\(E3 .i64) p.Cap/\(E3 .i64) p.Now/\(E3 .i64) p.Bm/\(A0J A45) p.Ay
structure E2 where
 W:Int
 K:Int
 Cap:Int
 Bj:Int
 Now:Int
 Ac:(List B7)
 deriving Inhabited
def O2 (p:E2):List AV:= [.int .i64 p.W, .int .i64 p.K, .int .i64 p.Cap, .int .i64 p.Bj, .int .i64 p.Now, .lst 2 false (List.map C6 p.Ac)]
def C8H (p:E2):Prop:=(E3 .i64) p.W/\(E3 .i64) p.K/\(E3 .i64) p.Cap/\(E3 .i64) p.Bj/\(E3 .i64) p.Now/\(wfL B5K) p.Ac
def B3u (p:E2):Prop:=(E3 .i64) p.W/\(E3 .i64) p.K/\(E3 .i64) p.Cap/\(E3 .i64) p.Bj/\(E3 .i64) p.Now/\(A0J A3x) p.Ac
structure M3 where
 V:Int
 G:Int
 D:Int
 deriving Inhabited
def E7 (p:M3):List AV:= [.int .i64 p.V, .int .i64 p.G, .int .i64 p.D]
def C4Y (p:M3):Prop:=(E3 .i64) p.V/\(E3 .i64) p.G/\(E3 .i64) p.D
def A6R (p:M3):Prop:=(E3 .i64) p.V/\(E3 .i64) p.G/\(E3 .i64) p.D
structure B5 where
 K:Int
 Cap:Int
 N:Int
 Aq:(List M3)
 deriving Inhabited
def F7 (p:B5):List AV:= [.int .i64 p.K, .int .i64 p.Cap, .int .i64 p.N, .lst 3 false (List.map E7 p.Aq)]
def C0Y (p:B5):Prop:=(E3 .i64) p.K/\(E3 .i64) p.Cap/\(E3 .i64) p.N/\(wfL C4Y) p.Aq
def A8c (p:B5):Prop:=(E3 .i64) p.K/\(E3 .i64) p.Cap/\(E3 .i64) p.N/\(A0J A6R) p.Aq
structure C7 where
 Ak:E5
 Al:C9
 As:D6
 Sum:E2
 Ao:D2
 Ap:D3
 Be:D8
 Au:G2
 Ae:C8
 Am:E4
 Ag:B5
 Ab:C4
 deriving Inhabited
def F0 (p:C7):List AV:= [.int .i64 p.Ak.Ba, .int .i64 p.Ak.Bg, .int .i64 p.Ak.W, .int .i64 p.Ak.K, .int .i64 p.Ak.Cap, .int .i64 p.Ak.P, .int .i64 p.Ak.Aj, .int .i64 p.Ak.Bj, .int .i64 p.Al.W, .int .i64 p.Al.Cap, .int .i64 p.Al.Now, .lst 2 false (List.map A8 p.Al.Av), .int .i64 p.As.W, .int .i64 p.As.K, .int .i64 p.As.Cap, .int .i64 p.As.Now, .lst 2 false (List.map C6 p.As.Ac), .int .i64 p.Sum.W, .int .i64 p.Sum.K, .int .i64 p.Sum.Cap, .int .i64 p.Sum.Bj, .int .i64 p.Sum.Now, .lst 2 false (List.map C6 p.Sum.Ac), .int .i64 p.Ao.Bg, .int .i64 p.Ao.W, .int .i64 p.Ao.K, .int .i64 p.Ao.Cap, .int .i64 p.Ao.Now, .int .i64 p.Ao.Bm, .lst 7 false (List.map A9 p.Ao.Ay), .int .i64 p.Ap.W, .int .i64 p.Ap.K, .int .i64 p.Ap.Cap, .int .i64 p.Ap.Now, .int .i64 p.Ap.Bm, .lst 7 false (List.map A9 p.Ap.Ay), .int .i64 p.Be.P, .int .i64 p.Be.Bb, .int .i64 p.Be.Now, .lst 2 false (List.map F6 p.Be.Af), .int .i64 p.Au.Now, .lst 1 false (List.map (eI .i64) p.Au.Bf), .sb p.Ae.Bj, .int .i64 p.Ae.W, .int .i64 p.Ae.Cap, .int .i64 p.Ae.Now, .lst 2 false (List.map A8 p.Ae.Av), .lst 5 false (List.map C3 p.Am.Aj), .int .i64 p.Ag.K, .int .i64 p.Ag.Cap, .int .i64 p.Ag.N, .lst 3 false (List.map E7 p.Ag.Aq), .int .i64 p.Ab.W, .int .i64 p.Ab.K, .int .i64 p.Ab.Cap, .int .i64 p.Ab.Now, .lst 5 false (List.map B1 p.Ab.Ah)]
def D1A (p:C7):Prop:=C2k p.Ak/\C2l p.Al/\C4U p.As/\C8H p.Sum/\C2n p.Ao/\C2o p.Ap/\C6k p.Be/\C4W p.Au/\C0X p.Ae/\C2m p.Am/\C0Y p.Ag/\B94 p.Ab
def Q9 (p:C7):Prop:=B4m p.Ak/\A8O p.Al/\A90 p.As/\B3u p.Sum/\A8Q p.Ao/\A8R p.Ap/\B12 p.Be/\A91 p.Au/\A8a p.Ae/\A8P p.Am/\A8c p.Ag/\A7a p.Ab
structure H6 where
 e0:Int
 e1:Int
 e2:Int
 e3:Int
 deriving Inhabited
def X8 (p:H6):List AV:= [.int .u64 p.e0, .int .u64 p.e1, .int .u64 p.e2, .int .u64 p.e3]
def D2O (p:H6):Prop:=(E3 .u64) p.e0/\(E3 .u64) p.e1/\(E3 .u64) p.e2/\(E3 .u64) p.e3
def D2I (p:H6):Prop:=(E3 .u64) p.e0/\(E3 .u64) p.e1/\(E3 .u64) p.e2/\(E3 .u64) p.e3
def A87 (b a:Int):Option (Int×Bool):=
 cond ((a==0)||((b==(-9223372036854775808:Int))&&(a==(-1:Int)))) (
  some (0,false))<|
 ck (decide (a≠0))<|
 ck (decide (a≠0))<|
 cond (((Int.tmod b a) !=0)&&((decide (b<0))==(decide (a<0)))) (
  some ((A2 ((A2 (Int.tdiv b a))+1)),true))<|
 some ((A2 (Int.tdiv b a)),true)
def A17 (e d b a:Int):Option ((Int×Int)⊕Int):=
 cond (decide (a<=e)) (
  ck (decide (0<=(A7 a)))<|
  cond (decide ((D9 .i64 1 (A7 a))>(A2 (d+1)))) (
   Option.bind (A87 (A2 ((D9 .i64 1 (A7 a))-1)) d) fun c=>
   some (.inl ((A2 ((A2 (2*b))+c.1)),(A2 (a+1)))))<|
  some (.inl (b,(A2 (a+1)))))<|
 Option.map Sum.inr (some b)
def A94 (c d a b:Int):Option Int:=
 loop (fun (s:(Int×Int))=>A17 c d s.1 s.2) (a,b)
def A48 (a b:Int):Option Int:=
 cond ((((decide (a<0))||(decide (a>30)))||(decide (b<1)))||(decide (b>65536))) (
  some (-1:Int))<|
 A94 a b 0 0
def A6r (a:Int):B6:=
 (B6.mk 1 [(A6.mk a 1 1)])
def A2P (f:B6) (a:Int):Option (Int⊕Int):=
 cond (decide (a<(f.Ad.length:Int))) (
  Option.bind (D1 f.Ad a) fun b=>
  cond (((decide (b.Bk<1))||(decide (b.Bk>b.Bj)))||(decide (b.Bj>f.N))) (
   some (.inr 2))<|
  cond (decide (a>0)) (
   Option.bind (D1 f.Ad (A2 (a-1))) fun c=>
   cond (((decide (c.V>b.V))||(decide (c.Bk>=b.Bk)))||(decide (c.Bj>=b.Bj))) (
    some (.inr 2))<|
   some (.inl (A2 (a+1))))<|
  some (.inl (A2 (a+1))))<|
 Option.map Sum.inr (Option.bind (gd (decide ((f.Ad.length:Int)>(0:Int))) (D1 f.Ad 0)) fun d=>
 Option.bind (gd ((decide ((f.Ad.length:Int)>(0:Int)))&&(!(d.Bj !=1))) (D1 f.Ad (A2 ((f.Ad.length:Int)-(1:Int))))) fun e=>
 cond ((decide ((f.Ad.length:Int)>(0:Int)))&&((d.Bj !=1)||(e.Bk !=f.N))) (
  some 2)<|
 some 0)
def B1M (b:B6) (a:Int):Option Int:=
 loop (fun (s:Int)=>A2P b s) a
def T6 (a:B6):Option Int:=
 cond (((decide (a.N<0))||(decide (a.N>1099511627776)))||(!(((a.Ad.length:Int)==(0:Int))==(a.N==0)))) (
  some 2)<|
 B1M a 0
def A2m (c:A6) (d:List A6) (e f a:Int):Option A6:=
 cond (decide (e<(d.length:Int))) (
  Option.bind (D1 d e) fun b=>
  some (A6.mk c.V a (A2 (c.Bj+(A2 (b.Bj-1))))))<|
 some (A6.mk c.V a (A2 (c.Bj+f)))
def A4T (b:A6) (d:List A6) (c e:Int):Option A6:=
 cond (decide (c>0)) (
  Option.bind (D1 d (A2 (c-1))) fun a=>
  A2m b d c e (A2 (b.Bk+a.Bk)))<|
 A2m b d c e b.Bk
def A6g (a:B6):Option B6:=
 ck (decide ((([]:List A6).length+a.Ad.length)*24<=140737488355328))<|
 some (B6.mk a.N (([]:List A6)++a.Ad))
def A5k (b:List A6) (c d:Int) (a:A6):Option ((Int×Int×(List A6))⊕(B6×Int)):=
 ck (decide ((b.length+ [a].length)*24<=140737488355328))<|
 some (.inl (c,d,(b++ [a])))
def A5l (j k:B6) (a b:Int) (c:List A6):Option ((Int×Int×(List A6))⊕(B6×Int)):=
 cond ((decide (a<(j.Ad.length:Int)))||(decide (b<(k.Ad.length:Int)))) (
  Option.bind (gd ((!(b==(k.Ad.length:Int)))&&(decide (a<(j.Ad.length:Int)))) (D1 j.Ad a)) fun d=>
  Option.bind (gd ((!(b==(k.Ad.length:Int)))&&(decide (a<(j.Ad.length:Int)))) (D1 k.Ad b)) fun e=>
  cond ((b==(k.Ad.length:Int))||((decide (a<(j.Ad.length:Int)))&&(decide (d.V<=e.V)))) (
   Option.bind (D1 j.Ad a) fun f=>
   Option.bind (A4T f k.Ad b k.N) fun g=>
   A5k c (A2 (a+1)) b g)<|
  Option.bind (D1 k.Ad b) fun h=>
  Option.bind (A4T h j.Ad a j.N) fun i=>
  A5k c a (A2 (b+1)) i)<|
 Option.map Sum.inr (some ((B6.mk (A2 (j.N+k.N)) c),0))
def A9N (d e:B6) (b c:Int) (a:List A6):Option (B6×Int):=
 loop (fun (s:(Int×Int×(List A6)))=>A5l d e s.1 s.2.1 s.2.2) (b,c,a)
def A7Q (e f:B6):Option (B6×Int):=
 Option.bind (T6 e) fun a=>
 cond (a !=0) (
  some ((B6.mk 0 []),a))<|
 Option.bind (T6 f) fun b=>
 cond (b !=0) (
  some ((B6.mk 0 []),b))<|
 cond (decide (e.N>(A2 (1099511627776-f.N)))) (
  some ((B6.mk 0 []),5))<|
 cond (e.N==0) (
  Option.bind (A6g f) fun c=>
  some (c,0))<|
 cond (f.N==0) (
  Option.bind (A6g e) fun d=>
  some (d,0))<|
 A9N e f 0 0 ([]:List A6)
def A7r (f:List D5) (d a:Int) (b:List A6):Option ((Int×Int×(List A6))⊕(B6×Int)):=
 cond (decide (d<((f.drop ((1:Int)).toNat).length:Int))) (
  Option.bind (D1 (f.drop ((1:Int)).toNat) d) fun e=>
  Option.bind (A7Q (B6.mk a b) e.Az) fun c=>
  cond (c.2 !=0) (
   some (.inr ((B6.mk 0 []),c.2)))<|
  some (.inl ((A2 (d+1)),c.1.N,c.1.Ad)))<|
 Option.map Sum.inr (some ((B6.mk a b),0))
def A49 (d:List D5) (c a:Int) (b:List A6):Option (B6×Int):=
 loop (fun (s:(Int×Int×(List A6)))=>A7r d s.1 s.2.1 s.2.2) (c,a,b)
def A2X (c:List D5) (a:Int) (b:List A6):Option (B6×Int):=
 ck (decide (0<=(1:Int)/\1<=(c.length:Int)))<|
 A49 c 0 a b
def A18 (h:List D5) (a:Int):Option (Int⊕(B6×Int)):=
 cond (decide (a<(h.length:Int))) (
  Option.bind (D1 h a) fun b=>
  Option.bind (T6 b.Az) fun f=>
  cond (((f !=0)||(decide (b.Aw<0)))||(decide (b.Aw>30))) (
   some (.inr ((B6.mk 0 []),2)))<|
  some (.inl (A2 (a+1))))<|
 Option.map Sum.inr (cond ((h.length:Int)==(0:Int)) (
  some ((B6.mk 0 []),0))<|
 Option.bind (D1 h 0) fun g=>
 let d:=(A6r g.Bc);
 Option.bind (D1 h 0) fun e=>
 cond (e.Aw==0) (
  Option.bind (D1 h 0) fun c=>
  A2X h c.Az.N c.Az.Ad)<|
 A2X h d.N d.Ad)
def B3y (b:List D5) (a:Int):Option (B6×Int):=
 loop (fun (s:Int)=>A18 b s) a
def A39 (a:List D5):Option (B6×Int):=
 B3y a 0
def A63 (a:A6) (b:Int):Int:=
 (P3 (A2 (b-a.Bk)) (A2 (a.Bj-b)))
def A8C (f:List A6) (g a:Int):Option (Int⊕Int):=
 Option.bind (gd (decide ((A2 (a+1))<(f.length:Int))) (D1 f (A2 (a+1)))) fun e=>
 let b:=(A63 e g);
 Option.bind (gd (decide ((A2 (a+1))<(f.length:Int))) (D1 f a)) fun c=>
 let d:=(A63 c g);
 cond ((decide ((A2 (a+1))<(f.length:Int)))&&(decide (b<d))) (
  some (.inl (A2 (a+1))))<|
 Option.map Sum.inr (some a)
def B5A (b:List A6) (c a:Int):Option Int:=
 loop (fun (s:Int)=>A8C b c s) a
def A5m (a:List A6) (b c:Int):Option Int:=
 B5A a b c
def A7l (c:A1):Option Int:=
 cond (c.Hi !=0) (
  Option.bind (W2 c.Hi) fun a=>
  some (A2 (64+a)))<|
 Option.bind (W2 c.Lo) fun b=>
 some b
def S3 (a b:A1):Int:=
 cond ((decide (a.Hi<b.Hi))||((a.Hi==b.Hi)&&(decide (a.Lo<b.Lo)))) (
  (-1:Int))<|
 cond (a.Hi==b.Hi&&(a.Lo==b.Lo&&true)) (
  0)<|
 1
def B8F (b:A1) (a:Int):Option Int:=
 cond (decide (a>=64)) (
  ck (decide (0<=(A7 (A2 (a-64)))))<|
  some (S9 .u64 (F8 .u64 b.Hi (A7 (A2 (a-64)))) 1))<|
 ck (decide (0<=(A7 a)))<|
 some (S9 .u64 (F8 .u64 b.Lo (A7 a)) 1)
def A1r (a:A1):Bool:=
 ((a.Hi==0)&&(a.Lo==0))
def B14 (k j:A1) (e d b c a:Int):Option ((Int×Int×Int×Int×Int)⊕(A1×A1×Bool)):=
 cond (decide (e>=0)) (
  Option.bind (B8F k e) fun f=>
  let h:=(S3 (A1.mk (R3 .u64 (D9 .u64 c 1) (F8 .u64 a 63)) (R3 .u64 (D9 .u64 a 1) f)) j);
  cond (((F8 .u64 c (63:Int))==(1:Int))||(decide (h>=0))) (
   Option.bind (K4 (R3 .u64 (D9 .u64 a 1) f) j.Lo 0) fun g=>
   Option.bind (K4 (R3 .u64 (D9 .u64 c 1) (F8 .u64 a 63)) j.Hi g.2) fun i=>
   some (.inl ((A2 (e-1)),(R3 .u64 (D9 .u64 d 1) (F8 .u64 b 63)),(R3 .u64 (D9 .u64 b 1) 1),i.1,g.1)))<|
  some (.inl ((A2 (e-1)),(R3 .u64 (D9 .u64 d 1) (F8 .u64 b 63)),(D9 .u64 b 1),(R3 .u64 (D9 .u64 c 1) (F8 .u64 a 63)),(R3 .u64 (D9 .u64 a 1) f))))<|
 Option.map Sum.inr (some ((A1.mk d b),(A1.mk c a),true))
def B70 (f g:A1) (e a b c d:Int):Option (A1×A1×Bool):=
 loop (fun (s:(Int×Int×Int×Int×Int))=>B14 f g s.1 s.2.1 s.2.2.1 s.2.2.2.1 s.2.2.2.2) (e,a,b,c,d)
def A2I (c d:A1):Option (A1×A1×Bool):=
 let a:=(A1r d);
 cond a (
  some ((A1.mk 0 0),(A1.mk 0 0),false))<|
 Option.bind (A7l c) fun b=>
 B70 c d (A2 (b-1)) 0 0 0 0
def H7 (a:Int):A1:=
 (A1.mk 0 a)
def Q4 (a b:Int):(Int×Int):=
 ((A7 ((A7 ((A7 ((F8 .u64 a 32)*(F8 .u64 b 32)))+(F8 .u64 (A7 ((A7 ((F8 .u64 a 32)*(S9 .u64 b 4294967295)))+(F8 .u64 (A7 ((S9 .u64 a 4294967295)*(S9 .u64 b 4294967295))) 32))) 32)))+(F8 .u64 (A7 ((S9 .u64 (A7 ((A7 ((F8 .u64 a 32)*(S9 .u64 b 4294967295)))+(F8 .u64 (A7 ((S9 .u64 a 4294967295)*(S9 .u64 b 4294967295))) 32))) 4294967295)+(A7 ((S9 .u64 a 4294967295)*(F8 .u64 b 32))))) 32))),(A7 (a*b)))
def M7 (b c:Int):A1:=
 let a:=(Q4 b c);
 (A1.mk a.1 a.2)
def A1J (d:B6) (a:Int):Option (Int×Int):=
 Option.bind (A5m d.Ad (P3 1 (A2 a)) 0) fun b=>
 Option.bind (D1 d.Ad b) fun c=>
 some (c.V,0)
def A11 (e:B6) (f g:Int):Option (Int×Int):=
 Option.bind (T6 e) fun b=>
 cond (b !=0) (
  some (0,b))<|
 cond (((decide (g<1))||(decide (f<0)))||(decide (f>g))) (
  some (0,1))<|
 cond (e.N==0) (
  some (0,7))<|
 let c:=(M7 (A7 f) (A7 e.N));
 let d:=(H7 (A7 g));
 Option.bind (A2I c d) fun a=>
 cond (!(a.2.1.Hi==0&&(a.2.1.Lo==0&&true))) (
  A1J e (A7 (a.1.Lo+1)))<|
 A1J e a.1.Lo
def A7q (c:List D5) (d e:Int):Option (Int×Int):=
 Option.bind (A39 c) fun a=>
 cond (a.2 !=0) (
  some (0,a.2))<|
 Option.bind (A11 a.1 d e) fun b=>
 some (b.1,b.2)
def X1 (a:Int):Int:=
 cond (decide (a<0)) (
  (IntKind.u64.wrap (0-(A7 a))))<|
 (A7 a)
def B16 (c d a b:Int):Option ((Int×Int×Int×Int)⊕A1):=
 let f:=(A1r (A1.mk a b));
 cond (!f) (
  Option.bind (A2I (A1.mk c d) (A1.mk a b)) fun e=>
  some (.inl (a,b,e.2.1.Hi,e.2.1.Lo)))<|
 Option.map Sum.inr (some (A1.mk c d))
def B71 (a b c d:Int):Option A1:=
 loop (fun (s:(Int×Int×Int×Int))=>B16 s.1 s.2.1 s.2.2.1 s.2.2.2) (a,b,c,d)
def B15 (a b:A1):Option A1:=
 B71 a.Hi a.Lo b.Hi b.Lo
def A9c (f:A4):Option Bool:=
 let d:=(X1 f.Bl);
 let e:=(H7 d);
 let c:=(H7 (A7 f.Bh));
 Option.bind (gd (decide (f.Bh>=1)) (B15 e c)) fun a=>
 let b:=(H7 1);
 some ((decide (f.Bh>=1))&&(a.Hi==b.Hi&&(a.Lo==b.Lo&&true)))
def Q3 (b:A4):Option B4:=
 Option.bind (A9c b) fun a=>
 cond (!a) (
  some (B4.mk (A4.mk 0 0) (A4.mk 0 0) (A4.mk 0 0)))<|
 some (B4.mk b b b)
def Q8 (a:Int):A4:=
 (A4.mk a 1)
def L4 (d e:Int):(B4×Bool):=
 cond (decide (d>e)) (
  ((B4.mk (A4.mk 0 0) (A4.mk 0 0) (A4.mk 0 0)),false))<|
 let a:=(Q8 d);
 let b:=(Q8 (A2 ((S9 .i64 d e)+(F8 .i64 (C7Y .i64 d e) 1))));
 let c:=(Q8 e);
 ((B4.mk a b c),true)
def B1K (b c:Int):Option (B4×Int):=
 let a:=(L4 b c);
 some (a.1,0)
def A9O (d:B6) (e c a:Int):Option ((Int×Int)⊕(B4×Int)):=
 cond (decide (a<(d.Ad.length:Int))) (
  Option.bind (D1 d.Ad a) fun b=>
  cond (decide (b.V>e)) (
   Option.map Sum.inr (B1K c (A2 (b.Bj-1))))<|
  some (.inl (b.Bk,(A2 (a+1)))))<|
 Option.map Sum.inr (B1K c d.N)
def B1L (c:B6) (d b a:Int):Option (B4×Int):=
 loop (fun (s:(Int×Int))=>A9O c d s.1 s.2) (b,a)
def B2B (b:B6) (c:Int):Option (B4×Int):=
 Option.bind (T6 b) fun a=>
 cond (a !=0) (
  some ((B4.mk (A4.mk 0 0) (A4.mk 0 0) (A4.mk 0 0)),a))<|
 B1L b c 0 0
def B3a (g:List D5) (h:Int):Option (B4×Int):=
 Option.bind (A39 g) fun b=>
 cond (b.2 !=0) (
  some ((B4.mk (A4.mk 0 0) (A4.mk 0 0) (A4.mk 0 0)),b.2))<|
 cond ((g.length:Int)==(0:Int)) (
  let e:=(Q8 0);
  Option.bind (Q3 e) fun f=>
  some (f,0))<|
 Option.bind (B2B b.1 h) fun a=>
 cond (a.2 !=0) (
  some ((B4.mk (A4.mk 0 0) (A4.mk 0 0) (A4.mk 0 0)),a.2))<|
 Option.bind (D1 g 0) fun c=>
 ck (decide (0<=(A7 c.Aw)))<|
 let d:=(L4 a.1.Lo.Bl (A2 ((A2 (a.1.Hi.Bl+(D9 .i64 1 (A7 c.Aw))))-1)));
 some (d.1,0)
def A1z (d:List D5) (b:List B7) (c:Int):Option (((List B7)×Int)⊕(List B7)):=
 cond (decide (c<(d.length:Int))) (
  Option.bind (D1 d c) fun a=>
  ck (decide ((b.length+ [(B7.mk a.T a.Aw)].length)*16<=140737488355328))<|
  some (.inl ((b++ [(B7.mk a.T a.Aw)]),(A2 (c+1)))))<|
 Option.map Sum.inr (some b)
def B2b (c:List D5) (a:List B7) (b:Int):Option (List B7):=
 loop (fun (s:((List B7)×Int))=>A1z c s.1 s.2) (a,b)
def A2Y (a:List D5):Option (List B7):=
 B2b a ([]:List B7) 0
def V4 (a:Int):Bool:=
 ((decide (a>=0))&&(decide (a<=30)))
def B7l (e:List B7) (b a:Int):Option ((Int×Int)⊕Int):=
 cond (decide (a<(e.length:Int))) (
  Option.bind (D1 e a) fun c=>
  let d:=(V4 c.Aw);
  cond d (
   ck (decide (0<=(A7 c.Aw)))<|
   some (.inl ((A2 (b+(D9 .i64 1 (A7 c.Aw)))),(A2 (a+1)))))<|
  some (.inl (b,(A2 (a+1)))))<|
 Option.map Sum.inr (some b)
def B74 (c:List B7) (a b:Int):Option Int:=
 loop (fun (s:(Int×Int))=>B7l c s.1 s.2) (a,b)
def A01 (a:List B7):Option Int:=
 B74 a 0 0
def A7s (c:List D5):Option Int:=
 Option.bind (A2Y c) fun a=>
 Option.bind (A01 a) fun b=>
 some b
def A2Z (a:Int):Bool:=
 ((decide (a>=0))&&(decide (a<=16777216)))
def A19 (L w x y z A B C D E F a b c d e f g h i j k l m n o p q r s t u:Int) (G:B7) (v:Int):Option (Int⊕Bool):=
 cond (decide (v<=G.Aw)) (
  Option.bind (D1 [w,x,y,z,A,B,C,D,E,F,a,b,c,d,e,f,g,h,i,j,k,l,m,n,o,p,q,r,s,t,u] v) fun K=>
  Option.bind (D1 [w,x,y,z,A,B,C,D,E,F,a,b,c,d,e,f,g,h,i,j,k,l,m,n,o,p,q,r,s,t,u] v) fun H=>
  Option.bind (gd ((!(decide (H>(A2 (L+1)))))&&(decide (v<G.Aw))) (D1 [w,x,y,z,A,B,C,D,E,F,a,b,c,d,e,f,g,h,i,j,k,l,m,n,o,p,q,r,s,t,u] v)) fun J=>
  Option.bind (gd ((!(decide (H>(A2 (L+1)))))&&(decide (v<G.Aw))) (D1 [w,x,y,z,A,B,C,D,E,F,a,b,c,d,e,f,g,h,i,j,k,l,m,n,o,p,q,r,s,t,u] v)) fun I=>
  cond ((decide (H>(A2 (L+1))))||((decide (v<G.Aw))&&(decide (I<L)))) (
   some (.inr false))<|
  some (.inl (A2 (v+1))))<|
 Option.map Sum.inr (some true)
def A2K (I w x y z A B C D E F a b c d e f g h i j k l m n o p q r t u v:Int) (G:B7) (H:Int):Option Bool:=
 loop (fun (s:Int)=>A19 I w x y z A B C D E F a b c d e f g h i j k l m n o p q r t u v G s) H
def A5V (Q:List B7) (R H x y z A B C D E F G c d e f g h i j k l m n o p q r s t u v w:Int):Option ((Int×Int×Int×Int×Int×Int×Int×Int×Int×Int×Int×Int×Int×Int×Int×Int×Int×Int×Int×Int×Int×Int×Int×Int×Int×Int×Int×Int×Int×Int×Int×Int)⊕Bool):=
 cond (decide (H<(Q.length:Int))) (
  Option.bind (D1 Q H) fun a=>
  let L:=(A2Z a.T);
  let M:=(V4 a.Aw);
  cond ((!L)||(!M)) (
   some (.inr false))<|
  Option.bind (gd (decide (H>0)) (D1 Q (A2 (H-1)))) fun I=>
  Option.bind (gd ((decide (H>0))&&(!(decide (I.T>a.T)))) (D1 Q (A2 (H-1)))) fun J=>
  cond ((decide (H>0))&&((decide (I.T>a.T))||(decide (J.Aw<a.Aw)))) (
   some (.inr false))<|
  Option.bind (D1 [x,y,z,A,B,C,D,E,F,G,c,d,e,f,g,h,i,j,k,l,m,n,o,p,q,r,s,t,u,v,w] a.Aw) fun N=>
  Option.bind (D1 [x,y,z,A,B,C,D,E,F,G,c,d,e,f,g,h,i,j,k,l,m,n,o,p,q,r,s,t,u,v,w] a.Aw) fun b=>
  Option.bind (D1 [x,y,z,A,B,C,D,E,F,G,c,d,e,f,g,h,i,j,k,l,m,n,o,p,q,r,s,t,u,v,w] a.Aw) fun O=>
  Option.bind (D1 [x,y,z,A,B,C,D,E,F,G,c,d,e,f,g,h,i,j,k,l,m,n,o,p,q,r,s,t,u,v,w] a.Aw) fun P=>
  some (.inl ((A2 (H+1)),(if (a.Aw).toNat=0 then (A2 (b+1)) else x),(if (a.Aw).toNat=1 then (A2 (b+1)) else y),(if (a.Aw).toNat=2 then (A2 (b+1)) else z),(if (a.Aw).toNat=3 then (A2 (b+1)) else A),(if (a.Aw).toNat=4 then (A2 (b+1)) else B),(if (a.Aw).toNat=5 then (A2 (b+1)) else C),(if (a.Aw).toNat=6 then (A2 (b+1)) else D),(if (a.Aw).toNat=7 then (A2 (b+1)) else E),(if (a.Aw).toNat=8 then (A2 (b+1)) else F),(if (a.Aw).toNat=9 then (A2 (b+1)) else G),(if (a.Aw).toNat=10 then (A2 (b+1)) else c),(if (a.Aw).toNat=11 then (A2 (b+1)) else d),(if (a.Aw).toNat=12 then (A2 (b+1)) else e),(if (a.Aw).toNat=13 then (A2 (b+1)) else f),(if (a.Aw).toNat=14 then (A2 (b+1)) else g),(if (a.Aw).toNat=15 then (A2 (b+1)) else h),(if (a.Aw).toNat=16 then (A2 (b+1)) else i),(if (a.Aw).toNat=17 then (A2 (b+1)) else j),(if (a.Aw).toNat=18 then (A2 (b+1)) else k),(if (a.Aw).toNat=19 then (A2 (b+1)) else l),(if (a.Aw).toNat=20 then (A2 (b+1)) else m),(if (a.Aw).toNat=21 then (A2 (b+1)) else n),(if (a.Aw).toNat=22 then (A2 (b+1)) else o),(if (a.Aw).toNat=23 then (A2 (b+1)) else p),(if (a.Aw).toNat=24 then (A2 (b+1)) else q),(if (a.Aw).toNat=25 then (A2 (b+1)) else r),(if (a.Aw).toNat=26 then (A2 (b+1)) else s),(if (a.Aw).toNat=27 then (A2 (b+1)) else t),(if (a.Aw).toNat=28 then (A2 (b+1)) else u),(if (a.Aw).toNat=29 then (A2 (b+1)) else v),(if (a.Aw).toNat=30 then (A2 (b+1)) else w))))<|
 Option.map Sum.inr (cond ((Q.length:Int)==(0:Int)) (
  some true)<|
 Option.bind (D1 Q 0) fun K=>
 A2K R x y z A B C D E F G c d e f g h i j k l m n o p q r s t u v w K 0)
def B07 (H:List B7) (I G w x y z A B C D E F a b c d e f g h i j k l m n o p q r t u v:Int):Option Bool:=
 loop (fun (s:(Int×Int×Int×Int×Int×Int×Int×Int×Int×Int×Int×Int×Int×Int×Int×Int×Int×Int×Int×Int×Int×Int×Int×Int×Int×Int×Int×Int×Int×Int×Int×Int))=>A5V H I s.1 s.2.1 s.2.2.1 s.2.2.2.1 s.2.2.2.2.1 s.2.2.2.2.2.1 s.2.2.2.2.2.2.1 s.2.2.2.2.2.2.2.1 s.2.2.2.2.2.2.2.2.1 s.2.2.2.2.2.2.2.2.2.1 s.2.2.2.2.2.2.2.2.2.2.1 s.2.2.2.2.2.2.2.2.2.2.2.1 s.2.2.2.2.2.2.2.2.2.2.2.2.1 s.2.2.2.2.2.2.2.2.2.2.2.2.2.1 s.2.2.2.2.2.2.2.2.2.2.2.2.2.2.1 s.2.2.2.2.2.2.2.2.2.2.2.2.2.2.2.1 s.2.2.2.2.2.2.2.2.2.2.2.2.2.2.2.2.1 s.2.2.2.2.2.2.2.2.2.2.2.2.2.2.2.2.2.1 s.2.2.2.2.2.2.2.2.2.2.2.2.2.2.2.2.2.2.1 s.2.2.2.2.2.2.2.2.2.2.2.2.2.2.2.2.2.2.2.1 s.2.2.2.2.2.2.2.2.2.2.2.2.2.2.2.2.2.2.2.2.1 s.2.2.2.2.2.2.2.2.2.2.2.2.2.2.2.2.2.2.2.2.2.1 s.2.2.2.2.2.2.2.2.2.2.2.2.2.2.2.2.2.2.2.2.2.2.1 s.2.2.2.2.2.2.2.2.2.2.2.2.2.2.2.2.2.2.2.2.2.2.2.1 s.2.2.2.2.2.2.2.2.2.2.2.2.2.2.2.2.2.2.2.2.2.2.2.2.1 s.2.2.2.2.2.2.2.2.2.2.2.2.2.2.2.2.2.2.2.2.2.2.2.2.2.1 s.2.2.2.2.2.2.2.2.2.2.2.2.2.2.2.2.2.2.2.2.2.2.2.2.2.2.1 s.2.2.2.2.2.2.2.2.2.2.2.2.2.2.2.2.2.2.2.2.2.2.2.2.2.2.2.1 s.2.2.2.2.2.2.2.2.2.2.2.2.2.2.2.2.2.2.2.2.2.2.2.2.2.2.2.2.1 s.2.2.2.2.2.2.2.2.2.2.2.2.2.2.2.2.2.2.2.2.2.2.2.2.2.2.2.2.2.1 s.2.2.2.2.2.2.2.2.2.2.2.2.2.2.2.2.2.2.2.2.2.2.2.2.2.2.2.2.2.2.1 s.2.2.2.2.2.2.2.2.2.2.2.2.2.2.2.2.2.2.2.2.2.2.2.2.2.2.2.2.2.2.2) (G,w,x,y,z,A,B,C,D,E,F,a,b,c,d,e,f,g,h,i,j,k,l,m,n,o,p,q,r,t,u,v)
def A1Y (b:List B7) (a:Int):Option Bool:=
 cond ((decide (a<1))||(decide (a>128))) (
  some false)<|
 B07 b a 0 0 0 0 0 0 0 0 0 0 0 0 0 0 0 0 0 0 0 0 0 0 0 0 0 0 0 0 0 0 0 0
def B1J (e:B6) (b a:Int):Option ((Int×Int)⊕Int):=
 cond (decide (a<(e.Ad.length:Int))) (
  Option.bind (D1 e.Ad a) fun d=>
  Option.bind (D1 e.Ad (A2 (a-1))) fun c=>
  some (.inl ((P3 b (A2 (d.Bj-c.Bk))),(A2 (a+1)))))<|
 Option.map Sum.inr (some b)
def A9b (c:B6) (a b:Int):Option Int:=
 loop (fun (s:(Int×Int))=>B1J c s.1 s.2) (a,b)
def B4S (b:B6):Option Int:=
 Option.bind (T6 b) fun a=>
 cond ((a !=0)||((b.Ad.length:Int)==(0:Int))) (
  some 0)<|
 A9b b 1 1
def A3E (i:List D5) (h b:Int):Option (Int⊕Bool):=
 cond (decide (b<(i.length:Int))) (
  Option.bind (D1 i b) fun a=>
  Option.bind (T6 a.Az) fun c=>
  ck (!(!(c !=0))||(decide (0<=(A7 a.Aw))))<|
  Option.bind (gd (!(((c !=0)||(a.Az.N !=(D9 .i64 1 (A7 a.Aw))))||(decide ((a.Az.Ad.length:Int)>(A2 (h+1)))))) (B4S a.Az)) fun f=>
  Option.bind (gd (!(((c !=0)||(a.Az.N !=(D9 .i64 1 (A7 a.Aw))))||(decide ((a.Az.Ad.length:Int)>(A2 (h+1)))))) (A48 a.Aw h)) fun g=>
  cond ((((c !=0)||(a.Az.N !=(D9 .i64 1 (A7 a.Aw))))||(decide ((a.Az.Ad.length:Int)>(A2 (h+1)))))||(decide ((A2 (f-1))>g))) (
   some (.inr false))<|
  Option.bind (D1 a.Az.Ad 0) fun e=>
  Option.bind (D1 a.Az.Ad (A2 ((a.Az.Ad.length:Int)-(1:Int)))) fun d=>
  cond ((((decide (e.V<(-4096:Int)))||(decide (d.V>4096)))||(decide (a.Bc<e.V)))||(decide (a.Bc>d.V))) (
   some (.inr false))<|
  some (.inl (A2 (b+1))))<|
 Option.map Sum.inr (some true)
def B2a (b:List D5) (c a:Int):Option Bool:=
 loop (fun (s:Int)=>A3E b c s) a
def A7t (d:List D5) (e c:Int):Option Bool:=
 Option.bind (gd (!((decide (c<1))||(decide (c>65536)))) (A2Y d)) fun b=>
 Option.bind (gd (!((decide (c<1))||(decide (c>65536)))) (A1Y b e)) fun a=>
 cond (((decide (c<1))||(decide (c>65536)))||(!a)) (
  some false)<|
 B2a d c 0
def A3F (a b:Int):Option B4:=
 let c:=(L4 (A2 ((A2 (a-b))+1)) a);
 some c.1
def A3W (g:List B7):Option B4:=
 cond ((g.length:Int)==(0:Int)) (
  let c:=(Q8 0);
  Option.bind (Q3 c) fun d=>
  some d)<|
 Option.bind (A01 g) fun a=>
 Option.bind (D1 g 0) fun e=>
 let f:=(V4 e.Aw);
 cond f (
  Option.bind (D1 g 0) fun b=>
  ck (decide (0<=(A7 b.Aw)))<|
  A3F a (D9 .i64 1 (A7 b.Aw)))<|
 A3F a 0
def A4L (f:D0) (a:Int):Option (Int⊕Int):=
 cond (decide (a<(f.Ax.length:Int))) (
  Option.bind (D1 f.Ax a) fun b=>
  cond (((((decide (b.V<(-4096:Int)))||(decide (b.V>4096)))||(decide (b.I<1)))||(decide (b.I>f.I)))||(decide (b.I<=(A2 (f.I-f.W))))) (
   some (.inr 2))<|
  Option.bind (gd (decide (a>0)) (D1 f.Ax (A2 (a-1)))) fun c=>
  Option.bind (gd ((decide (a>0))&&(!(decide (b.I<=c.I)))) (D1 f.Ax (A2 (a-1)))) fun d=>
  cond ((decide (a>0))&&((decide (b.I<=c.I))||(decide (b.I>(A2 (d.I+f.W)))))) (
   some (.inr 2))<|
  some (.inl (A2 (a+1))))<|
 Option.map Sum.inr (Option.bind (gd (!(decide (f.Bd<=f.I))) (D1 f.Ax (A2 ((f.Ax.length:Int)-(1:Int))))) fun e=>
 cond ((decide (f.Bd<=f.I))||(decide (f.Bd>(A2 (e.I+f.W))))) (
  some 2)<|
 some 0)
def A5W (b:D0) (a:Int):Option Int:=
 loop (fun (s:Int)=>A4L b s) a
def P9 (a:D0):Option Int:=
 cond (((((((decide (a.W<1))||(decide (a.W>1048576)))||(decide (a.Cap<1)))||(decide (a.Cap>64)))||(decide (a.I<0)))||(decide (a.I>1099511627776)))||(decide ((a.Ax.length:Int)>a.Cap))) (
  some 2)<|
 cond (a.I==0) (
  cond ((decide ((a.Ax.length:Int)>(0:Int)))||(a.Bd !=0)) (
   some 2)<|
  some 0)<|
 cond ((a.Ax.length:Int)==(0:Int)) (
  some 2)<|
 A5W a 0
def A7c (c:D0):Option (Int×Int):=
 Option.bind (P9 c) fun a=>
 cond (a !=0) (
  some (0,a))<|
 cond ((c.Ax.length:Int)==(0:Int)) (
  some (0,7))<|
 Option.bind (D1 c.Ax 0) fun b=>
 some (b.V,0)
def R2 (a b:Int):(D0×Int):=
 cond ((((decide (a<1))||(decide (a>1048576)))||(decide (b<1)))||(decide (b>64))) (
  ((D0.mk 0 0 0 0 []),1))<|
 ((D0.mk a b 0 0 []),0)
def B0u (a:Int):Bool:=
 ((decide (a>=0))&&(decide (a<=16777216)))
def B3b (c b:Int):Int:=
 let a:=(B0u c);
 cond (((!a)||(decide (b<1)))||(decide (b>1048576))) (
  (-1:Int))<|
 (P3 0 (A2 ((A2 (c-b))+1)))
def W8 (d e c:Int):Bool:=
 let a:=(B3b d e);
 let b:=(B0u c);
 ((((decide (a>=0))&&b)&&(decide (a<=c)))&&(decide (c<=d)))
def B8 (b a:Bool) (c:Int):(Bool×Int):=
 ((a&&b),0)
def E8 (b a:Bool) (c d:Int):(Bool×Int×Int):=
 ((a&&b),0,0)
def B0 (a b c:Int):Bool:=
 ((decide (a>=b))&&(decide (a<=c)))
def A1Q (f:E5) (d e:Bool×Int) (c a:Int) (b:Bool):Int:=
 cond ((!b)||(!(f.Ba==f.Ba&&(c==0&&(a==0&&(d.2==0&&(e.2==0&&(f.P==0&&(f.Aj==0&&(f.Bj==0&&true)))))))))) (
  1)<|
 0
def A2e (h:E5) (a:Int) (d:Bool):Int:=
 let e:=(B0 h.K 1 64);
 let c:=(B8 e d h.K);
 let f:=(B0 h.Cap 1 65536);
 let b:=(B8 f c.1 h.Cap);
 cond (decide ((1048576:Int)>(0:Int))) (
  let g:=(B0 h.W 1 1048576);
  A1Q h c b a 0 (b.1&&g))<|
 A1Q h c b a h.W b.1
def A0M (d:E5) (c:Bool×Int) (a:Int) (b:Bool):Int:=
 cond ((!b)||(!(d.Ba==d.Ba&&(d.Bg==0&&(a==0&&(d.K==0&&(d.Cap==0&&(c.2==0&&(d.Aj==0&&(d.Bj==0&&true)))))))))) (
  1)<|
 0
def A0N (c:E5) (a:Int) (b:Bool):Int:=
 cond ((!b)||(!(c.Ba==c.Ba&&(c.Bg==0&&(a==0&&(c.K==0&&(c.Cap==0&&(c.P==0&&(c.Aj==0&&(c.Bj==0&&true)))))))))) (
  1)<|
 0
def A0O (d:E5) (c:Bool×Int×Int) (a:Int) (b:Bool):Int:=
 cond ((!b)||(!(d.Ba==d.Ba&&(d.Bg==0&&(a==0&&(d.K==0&&(c.2.2==0&&(d.P==0&&(c.2.1==0&&(d.Bj==0&&true)))))))))) (
  1)<|
 0
def A0P (d:E5) (c:Bool×Int×Int) (a:Int) (b:Bool):Int:=
 cond ((!b)||(!(d.Ba==d.Ba&&(d.Bg==0&&(a==0&&(c.2.1==0&&(c.2.2==0&&(d.P==0&&(d.Aj==0&&(d.Bj==0&&true)))))))))) (
  1)<|
 0
def A0Q (e:E5) (c d:Bool×Int) (a:Int) (b:Bool):Int:=
 cond ((!b)||(!(e.Ba==e.Ba&&(e.Bg==0&&(a==0&&(c.2==0&&(d.2==0&&(e.P==0&&(e.Aj==0&&((0:Int)==(0:Int)&&true)))))))))) (
  1)<|
 0
def A0R (d:E5) (c:Bool×Int) (a:Int) (b:Bool):Int:=
 cond ((!b)||(!(d.Ba==d.Ba&&(d.Bg==0&&(a==0&&(d.K==0&&(c.2==0&&(d.P==0&&(d.Aj==0&&((0:Int)==(0:Int)&&true)))))))))) (
  1)<|
 0
def A0S (d:E5) (c:Bool×Int) (a:Int) (b:Bool):Int:=
 cond ((!b)||(!(d.Ba==d.Ba&&(d.Bg==0&&(a==0&&(d.K==0&&(c.2==0&&(d.P==0&&(d.Aj==0&&(d.Bj==0&&true)))))))))) (
  1)<|
 0
def W5 (f:E5) (d:Bool):Int:=
 cond d (
  A2e f f.Bg true)<|
 cond (f.Ba==8) (
  let e:=(B0 f.Bj 0 1);
  let b:=(B0 f.Cap 1 65536);
  let a:=(B8 b e f.Cap);
  cond (decide ((1048576:Int)>(0:Int))) (
   let c:=(B0 f.W 1 1048576);
   A0R f a 0 (a.1&&c))<|
  A0R f a f.W a.1)<|
 cond (f.Ba==1) (
  let b:=(B0 f.Cap 1 65536);
  let a:=(B8 b true f.Cap);
  cond (decide ((1048576:Int)>(0:Int))) (
   let c:=(B0 f.W 1 1048576);
   A0S f a 0 (a.1&&c))<|
  A0S f a f.W a.1)<|
 1
def Y7 (q:E5):Int:=
 cond (q.Ba==6) (
  let h:=(B0 q.P 0 4);
  let d:=(B8 h true q.P);
  cond (decide ((0:Int)>(0:Int))) (
   let a:=(B0 q.W 1 0);
   A0M q d 0 (d.1&&a))<|
  A0M q d q.W d.1)<|
 cond (q.Ba==7) (
  cond (decide ((64:Int)>(0:Int))) (
   let a:=(B0 q.W 1 64);
   A0N q 0 a)<|
  A0N q q.W true)<|
 cond (q.Ba==9) (
  let i:=(B0 q.Aj 1 16);
  let j:=(B0 q.Cap 1 64);
  let b:=(E8 (i&&j) true q.Aj q.Cap);
  cond (decide ((1048576:Int)>(0:Int))) (
   let a:=(B0 q.W 1 1048576);
   A0O q b 0 (b.1&&a))<|
  A0O q b q.W b.1)<|
 cond (q.Ba==10) (
  let k:=(B0 q.K 1 64);
  let l:=(B0 q.Cap 2 65536);
  let c:=(E8 (k&&l) true q.K q.Cap);
  cond (decide ((0:Int)>(0:Int))) (
   let a:=(B0 q.W 1 0);
   A0P q c 0 (c.1&&a))<|
  A0P q c q.W c.1)<|
 cond (q.Ba==3) (
  let m:=(B0 q.Bj 1 1024);
  let n:=(B0 q.K 1 64);
  let f:=(B8 n m q.K);
  let o:=(B0 q.Cap 1 65536);
  let e:=(B8 o f.1 q.Cap);
  cond (decide ((1048576:Int)>(0:Int))) (
   let a:=(B0 q.W 1 1048576);
   A0Q q f e 0 (e.1&&a))<|
  A0Q q f e q.W e.1)<|
 cond (q.Ba==4) (
  let p:=(B0 q.Bg 1 4);
  let g:=(B8 p true q.Bg);
  A2e q g.2 g.1)<|
 cond (q.Ba==2) (
  W5 q (q.Ba==2))<|
 cond (q.Ba==5) (
  W5 q (q.Ba==5))<|
 W5 q (q.Ba==11)
def A2M (c:E5) (b:Int) (a:Bool):Bool:=
 cond a (
  (b==9))<|
 cond (c.Ba==8) (
  (b==6))<|
 cond (c.Ba==9) (
  (b==10))<|
 ((b==7)||(b==8))
def A5c (b:E5) (c:Int):Bool:=
 let a:=(Y7 b);
 cond (a !=0) (
  false)<|
 cond (b.Ba==1) (
  ((decide (c>=1))&&(decide (c<=8))))<|
 cond (b.Ba==2) (
  (c==1))<|
 cond (b.Ba==3) (
  (c==2))<|
 cond (b.Ba==4) (
  ((A2 (c-1))==(A2 (b.Bg-1))))<|
 cond (b.Ba==5) (
  (c==5))<|
 cond (b.Ba==6) (
  A2M b c (b.Ba==6))<|
 A2M b c (b.Ba==7)
def A5d (a b c d:Int):Bool:=
 ((((((((decide (a>=1))&&(decide (a<=1048576)))&&(decide (b>=1)))&&(decide (b<=64)))&&(decide (c>=1)))&&(decide (c<=65536)))&&(decide (d>=0)))&&(decide (d<=16777216)))
def A2f (d:D6) (a:Int):Option (Int⊕Int):=
 cond (decide (a<(d.Ac.length:Int))) (
  Option.bind (D1 d.Ac a) fun b=>
  let c:=(W8 d.Now d.W b.T);
  cond (!c) (
   some (.inr 2))<|
  some (.inl (A2 (a+1))))<|
 Option.map Sum.inr (some 0)
def B0d (b:D6) (a:Int):Option Int:=
 loop (fun (s:Int)=>A2f b s) a
def A21 (d:D6):Option Int:=
 let a:=(A5d d.W d.K d.Cap d.Now);
 Option.bind (gd (!(!a)) (A1Y d.Ac d.K)) fun b=>
 Option.bind (gd (!((!a)||(!b))) (A01 d.Ac)) fun c=>
 cond (((!a)||(!b))||(decide (c>d.Cap))) (
  some 2)<|
 B0d d 0
def B2m (c:D6):Option (B4×Int):=
 Option.bind (A21 c) fun a=>
 cond (a !=0) (
  some ((B4.mk (A4.mk 0 0) (A4.mk 0 0) (A4.mk 0 0)),a))<|
 Option.bind (A3W c.Ac) fun b=>
 some (b,0)
def A7d (b c d e:Int):(D6×Int):=
 let a:=(A5d b c d e);
 cond (!a) (
  ((D6.mk 0 0 0 0 []),1))<|
 ((D6.mk b c d e []),0)
def A7A (d:List B3) (e b a:Int):Option ((Int×Int)⊕Int):=
 cond (decide (a<(d.length:Int))) (
  Option.bind (D1 d a) fun c=>
  cond (decide (c.V<e)) (
   some (.inl ((A2 (b+1)),(A2 (a+1)))))<|
  some (.inl (b,(A2 (a+1)))))<|
 Option.map Sum.inr (some b)
def B3L (c:List B3) (d b a:Int):Option Int:=
 loop (fun (s:(Int×Int))=>A7A c d s.1 s.2) (b,a)
def B3e (a:List B3) (b:Int):Option Int:=
 B3L a b 0 0
def A82 (a:List B3):Int:=
 (a.length:Int)
def A4M (d:List B3) (b a:Int):Option ((Int×Int)⊕(Int×Bool)):=
 cond (decide (a<(d.length:Int))) (
  Option.bind (D1 d a) fun c=>
  some (.inl ((P3 b c.V),(A2 (a+1)))))<|
 Option.map Sum.inr (some (b,true))
def A2N (c:List B3) (b a:Int):Option (Int×Bool):=
 loop (fun (s:(Int×Int))=>A4M c s.1 s.2) (b,a)
def A5e (b:List B3):Option (Int×Bool):=
 cond ((b.length:Int)==(0:Int)) (
  some (0,false))<|
 Option.bind (D1 b 0) fun a=>
 A2N b a.V 0
def A7B (d:List B3) (b a:Int):Option ((Int×Int)⊕(Int×Bool)):=
 cond (decide (a<(d.length:Int))) (
  Option.bind (D1 d a) fun c=>
  some (.inl ((D0E b c.V),(A2 (a+1)))))<|
 Option.map Sum.inr (some (b,true))
def A5f (c:List B3) (b a:Int):Option (Int×Bool):=
 loop (fun (s:(Int×Int))=>A7B c s.1 s.2) (b,a)
def A83 (b:List B3):Option (Int×Bool):=
 cond ((b.length:Int)==(0:Int)) (
  some (0,false))<|
 Option.bind (D1 b 0) fun a=>
 A5f b a.V 0
def A2g (g:List B3) (a:Int) (b:List Int) (c:Int):Option (((List Int)×Int)⊕(Int×Bool)):=
 cond (decide (c<(g.length:Int))) (
  Option.bind (D1 g c) fun d=>
  ck (decide ((b.length+ [d.V].length)*8<=140737488355328))<|
  some (.inl ((b++ [d.V]),(A2 (c+1)))))<|
 Option.map Sum.inr (ck (decide (b.length<4611686018427387904))<|
 Option.bind (D1 (P7 b) (A2 ((P3 (A2 a) (1:Int))-(1:Int)))) fun f=>
 Option.bind (D1 (P7 b) (A2 ((P3 (A2 a) (1:Int))-(1:Int)))) fun e=>
 some (e,true))
def B0e (d:List B3) (a:Int) (b:List Int) (c:Int):Option (Int×Bool):=
 loop (fun (s:((List Int)×Int))=>A2g d a s.1 s.2) (b,c)
def A07 (b:List B3) (a:Int):Option (Int×Bool):=
 B0e b a ([]:List Int) 0
def A5g (d:List B3) (e f:Int):Option (Int×Bool):=
 cond (((((d.length:Int)==(0:Int))||(decide (f<1)))||(decide (e<0)))||(decide (e>f))) (
  some (0,false))<|
 let b:=(M7 (A7 e) (A7 (d.length:Int)));
 let c:=(H7 (A7 f));
 Option.bind (A2I b c) fun a=>
 cond (!(a.2.1.Hi==0&&(a.2.1.Lo==0&&true))) (
  A07 d (A7 (a.1.Lo+1)))<|
 A07 d a.1.Lo
def A8v (d:List B3) (e b a:Int):Option ((Int×Int)⊕Int):=
 cond (decide (a<(d.length:Int))) (
  Option.bind (D1 d a) fun c=>
  cond (decide (c.V<=e)) (
   some (.inl ((A2 (b+1)),(A2 (a+1)))))<|
  some (.inl (b,(A2 (a+1)))))<|
 Option.map Sum.inr (some b)
def B5u (c:List B3) (d b a:Int):Option Int:=
 loop (fun (s:(Int×Int))=>A8v c d s.1 s.2) (b,a)
def A7C (a:List B3) (b:Int):Option Int:=
 B5u a b 0 0
def A4S (b:Int):Option Int:=
 Option.bind (W2 b) fun a=>
 some (A2 (64-a))
def A0A (f d e a b c:Int):Option (Int×Int):=
 ck (decide (0<=(A7 a)))<|
 some ((A7 ((A7 (b*4294967296))+c)),(F8 .u64 (A7 ((A7 ((A7 ((A7 ((A7 ((A7 ((R3 .u64 (D9 .u64 f (A7 a)) (F8 .u64 d (A7 (64-(A7 a)))))*4294967296))+(F8 .u64 (D9 .u64 d (A7 a)) 32)))-(A7 (b*(D9 .u64 e (A7 a))))))*4294967296))+(S9 .u64 (D9 .u64 d (A7 a)) 4294967295)))-(A7 (c*(D9 .u64 e (A7 a)))))) (A7 a)))
def A1f (g f e b d c a:Int):Option ((Int×Int)⊕(Int×Int)):=
 cond ((decide (a>=4294967296))||(decide ((A7 (a*(S9 .u64 (D9 .u64 e (A7 b)) 4294967295)))>(A7 ((A7 (4294967296*c))+(S9 .u64 (D9 .u64 f (A7 b)) 4294967295)))))) (
  cond (decide ((A7 (c+(F8 .u64 (D9 .u64 e (A7 b)) (32:Int))))>=(4294967296:Int))) (
   Option.map Sum.inr (A0A g f e b d (A7 (a-1))))<|
  some (.inl ((A7 (c+(F8 .u64 (D9 .u64 e (A7 b)) 32))),(A7 (a-1)))))<|
 Option.map Sum.inr (A0A g f e b d a)
def A4s (e f g d c a b:Int):Option (Int×Int):=
 loop (fun (s:(Int×Int))=>A1f e f g d c s.1 s.2) (a,b)
def A0z (e d c a b:Int):Option (Int×Int):=
 ck (decide ((F8 .u64 (D9 .u64 c (A7 a)) (32:Int))≠0))<|
 A4s e d c a b (A7 ((A7 ((A7 ((A7 ((R3 .u64 (D9 .u64 e (A7 a)) (F8 .u64 d (A7 (64-(A7 a)))))*4294967296))+(F8 .u64 (D9 .u64 d (A7 a)) 32)))-(A7 (b*(D9 .u64 c (A7 a))))))-(A7 ((A7 (Int.tdiv (A7 ((A7 ((A7 ((R3 .u64 (D9 .u64 e (A7 a)) (F8 .u64 d (A7 (64-(A7 a)))))*4294967296))+(F8 .u64 (D9 .u64 d (A7 a)) 32)))-(A7 (b*(D9 .u64 c (A7 a)))))) (F8 .u64 (D9 .u64 c (A7 a)) 32)))*(F8 .u64 (D9 .u64 c (A7 a)) 32))))) (A7 (Int.tdiv (A7 ((A7 ((A7 ((R3 .u64 (D9 .u64 e (A7 a)) (F8 .u64 d (A7 (64-(A7 a)))))*4294967296))+(F8 .u64 (D9 .u64 d (A7 a)) 32)))-(A7 (b*(D9 .u64 c (A7 a)))))) (F8 .u64 (D9 .u64 c (A7 a)) 32)))
def A1R (f e d b a c:Int):Option ((Int×Int)⊕(Int×Int)):=
 cond ((decide (a>=4294967296))||(decide ((A7 (a*(S9 .u64 (D9 .u64 d (A7 b)) 4294967295)))>(A7 ((A7 (4294967296*c))+(F8 .u64 (D9 .u64 e (A7 b)) 32)))))) (
  cond (decide ((A7 (c+(F8 .u64 (D9 .u64 d (A7 b)) (32:Int))))>=(4294967296:Int))) (
   Option.map Sum.inr (A0z f e d b (A7 (a-1))))<|
  some (.inl ((A7 (a-1)),(A7 (c+(F8 .u64 (D9 .u64 d (A7 b)) 32))))))<|
 Option.map Sum.inr (A0z f e d b a)
def A4R (d e f c a b:Int):Option (Int×Int):=
 loop (fun (s:(Int×Int))=>A1R d e f c s.1 s.2) (a,b)
def A0U (c d b:Int):Option (Int×Int):=
 cond (b==0) (
  none)<|
 cond (decide (b<=c)) (
  none)<|
 cond (c==0) (
  ck (decide (b≠0))<|
  ck (decide (b≠0))<|
  some ((A7 (Int.tdiv d b)),(Int.tmod d b)))<|
 Option.bind (A4S b) fun a=>
 ck (decide (0<=(A7 a)))<|
 ck (decide (0<=(A7 a)))<|
 ck (decide (0<=(A7 (64-(A7 a)))))<|
 ck (decide (0<=(A7 a)))<|
 ck (decide ((F8 .u64 (D9 .u64 b (A7 a)) (32:Int))≠0))<|
 A4R c d b a (A7 (Int.tdiv (R3 .u64 (D9 .u64 c (A7 a)) (F8 .u64 d (A7 (64-(A7 a))))) (F8 .u64 (D9 .u64 b (A7 a)) 32))) (A7 ((R3 .u64 (D9 .u64 c (A7 a)) (F8 .u64 d (A7 (64-(A7 a)))))-(A7 ((A7 (Int.tdiv (R3 .u64 (D9 .u64 c (A7 a)) (F8 .u64 d (A7 (64-(A7 a))))) (F8 .u64 (D9 .u64 b (A7 a)) 32)))*(F8 .u64 (D9 .u64 b (A7 a)) 32)))))
def Y8 (l g e a b c d:Int):Option ((Int×Int×Int×Int×Int×Int)⊕(H6×Int)):=
 cond (decide (e>=0)) (
  Option.bind (D1 [a,b,c,d] e) fun k=>
  Option.bind (D1 [a,b,c,d] e) fun h=>
  Option.bind (A0U g h l) fun f=>
  Option.bind (D1 [a,b,c,d] e) fun i=>
  Option.bind (D1 [a,b,c,d] e) fun j=>
  some (.inl (f.2,(A2 (e-1)),(if (e).toNat=0 then f.1 else a),(if (e).toNat=1 then f.1 else b),(if (e).toNat=2 then f.1 else c),(if (e).toNat=3 then f.1 else d))))<|
 Option.map Sum.inr (some ((H6.mk a b c d),g))
def B7E (g e f a b c d:Int):Option (H6×Int):=
 loop (fun (s:(Int×Int×Int×Int×Int×Int))=>Y8 g s.1 s.2.1 s.2.2.1 s.2.2.2.1 s.2.2.2.2.1 s.2.2.2.2.2) (e,f,a,b,c,d)
def B1v (a:H6) (b:Int):Option (H6×Int):=
 B7E b 0 3 a.e0 a.e1 a.e2 a.e3
def U4 (n:H6) (g e a b c d:Int):Option ((Int×Int×Int×Int×Int×Int)⊕H6):=
 cond (decide (e<4)) (
  Option.bind (D1 [a,b,c,d] e) fun l=>
  Option.bind (D1 [a,b,c,d] e) fun h=>
  Option.bind (D1 [n.e0,n.e1,n.e2,n.e3] e) fun m=>
  Option.bind (D1 [n.e0,n.e1,n.e2,n.e3] e) fun i=>
  Option.bind (K4 h i g) fun f=>
  Option.bind (D1 [a,b,c,d] e) fun j=>
  Option.bind (D1 [a,b,c,d] e) fun k=>
  some (.inl (f.2,(A2 (e+1)),(if (e).toNat=0 then f.1 else a),(if (e).toNat=1 then f.1 else b),(if (e).toNat=2 then f.1 else c),(if (e).toNat=3 then f.1 else d))))<|
 Option.map Sum.inr (some (H6.mk a b c d))
def B3M (g:H6) (e f a b c d:Int):Option H6:=
 loop (fun (s:(Int×Int×Int×Int×Int×Int))=>U4 g s.1 s.2.1 s.2.2.1 s.2.2.2.1 s.2.2.2.2.1 s.2.2.2.2.2) (e,f,a,b,c,d)
def A6a (a b:H6):Option H6:=
 B3M b 0 0 a.e0 a.e1 a.e2 a.e3
def Y9 (h g a b c d e:Int):Option ((Int×Int×Int×Int×Int×Int×Int)⊕H6):=
 cond (decide (a<4)) (
  Option.bind (D1 [b,c,d,e] a) fun l=>
  Option.bind (D1 [b,c,d,e] a) fun i=>
  Option.bind (N2 i h g) fun f=>
  Option.bind (D1 [b,c,d,e] a) fun j=>
  Option.bind (D1 [b,c,d,e] a) fun k=>
  some (.inl (0,f.2,(A2 (a+1)),(if (a).toNat=0 then f.1 else b),(if (a).toNat=1 then f.1 else c),(if (a).toNat=2 then f.1 else d),(if (a).toNat=3 then f.1 else e))))<|
 Option.map Sum.inr (some (H6.mk b c d e))
def A4q (g e f a b c d:Int):Option H6:=
 loop (fun (s:(Int×Int×Int×Int×Int×Int×Int))=>Y9 s.1 s.2.1 s.2.2.1 s.2.2.2.1 s.2.2.2.2.1 s.2.2.2.2.2.1 s.2.2.2.2.2.2) (g,e,f,a,b,c,d)
def I8 (g:H6) (i j h:Int):Option H6:=
 let b:=(Q4 i j);
 Option.bind (D1 [g.e0,g.e1,g.e2,g.e3] h) fun f=>
 Option.bind (D1 [g.e0,g.e1,g.e2,g.e3] h) fun c=>
 Option.bind (N2 c b.2 0) fun a=>
 Option.bind (D1 [g.e0,g.e1,g.e2,g.e3] h) fun d=>
 Option.bind (D1 [g.e0,g.e1,g.e2,g.e3] h) fun e=>
 A4q b.1 a.2 (A2 (h+1)) (if (h).toNat=0 then a.1 else g.e0) (if (h).toNat=1 then a.1 else g.e1) (if (h).toNat=2 then a.1 else g.e2) (if (h).toNat=3 then a.1 else g.e3)
def S8 (a:Int):Int:=
 cond (decide (a<0)) (
  (IntKind.u64.wrap (0-(A7 a))))<|
 (A7 a)
def A46 (c d:A1):Option (A1×Bool):=
 Option.bind (N2 c.Lo d.Lo 0) fun a=>
 Option.bind (N2 c.Hi d.Hi a.2) fun b=>
 cond (b.2 !=0) (
  some ((A1.mk 0 0),false))<|
 some ((A1.mk b.1 a.1),true)
def A8S (c d:A1):Option (A1×Bool):=
 Option.bind (K4 c.Lo d.Lo 0) fun a=>
 Option.bind (K4 c.Hi d.Hi a.2) fun b=>
 cond (b.2 !=0) (
  some ((A1.mk 0 0),false))<|
 some ((A1.mk b.1 a.1),true)
def A7F (p:List B3) (e a b c d:Int):Option ((Int×Int×Int×Int×Int)⊕(Bool×A1)):=
 cond (decide (e<(p.length:Int))) (
  Option.bind (D1 p e) fun f=>
  cond (decide (f.V<0)) (
   let k:=(S8 f.V);
   let l:=(H7 k);
   Option.bind (A46 (A1.mk c d) l) fun g=>
   some (.inl ((A2 (e+1)),a,b,g.1.Hi,g.1.Lo)))<|
  let m:=(S8 f.V);
  let n:=(H7 m);
  Option.bind (A46 (A1.mk a b) n) fun h=>
  some (.inl ((A2 (e+1)),h.1.Hi,h.1.Lo,c,d)))<|
 Option.map Sum.inr (let o:=(S3 (A1.mk a b) (A1.mk c d));
 cond (decide (o>=0)) (
  Option.bind (A8S (A1.mk a b) (A1.mk c d)) fun i=>
  some (false,i.1))<|
 Option.bind (A8S (A1.mk c d) (A1.mk a b)) fun j=>
 some (true,j.1))
def B3N (f:List B3) (e a b c d:Int):Option (Bool×A1):=
 loop (fun (s:(Int×Int×Int×Int×Int))=>A7F f s.1 s.2.1 s.2.2.1 s.2.2.2.1 s.2.2.2.2) (e,a,b,c,d)
def A4b (a:List B3):Option (Bool×A1):=
 B3N a 0 0 0 0 0
def B3j (b a:Int):Option ((Int×Int)⊕Int):=
 cond (a !=0) (
  ck (decide (a≠0))<|
  some (.inl (a,(Int.tmod b a))))<|
 Option.map Sum.inr (some b)
def B9B (a b:Int):Option Int:=
 loop (fun (s:(Int×Int))=>B3j s.1 s.2) (a,b)
def B67 (a b:Int):Option Int:=
 cond ((decide (a<0))||(decide (b<0))) (
  some 0)<|
 B9B a b
def S7 (v:List B3) (d e f g b h i j k:Int):Option ((Int×Int×Int×Int×Int)⊕(A4×Bool)):=
 cond (decide (b<3)) (
  Option.bind (D1 [d,e,f,g] b) fun u=>
  Option.bind (D1 [d,e,f,g] b) fun o=>
  Option.bind (I8 (H6.mk h i j k) o (A7 (v.length:Int)) b) fun l=>
  some (.inl ((A2 (b+1)),l.e0,l.e1,l.e2,l.e3)))<|
 Option.map Sum.inr (Option.bind (A4b v) fun a=>
 Option.bind (I8 (H6.mk 0 0 0 0) a.2.Lo a.2.Lo 0) fun p=>
 Option.bind (I8 p a.2.Lo a.2.Hi 1) fun q=>
 Option.bind (I8 q a.2.Lo a.2.Hi 1) fun r=>
 Option.bind (I8 r a.2.Hi a.2.Hi 2) fun s=>
 Option.bind (A6a (H6.mk h i j k) s) fun n=>
 Option.bind (B1v n (A7 (v.length:Int))) fun t=>
 Option.bind (B67 (A2 (A7 (v.length:Int))) (A2 t.2)) fun m=>
 Option.bind (B1v n (A7 m)) fun c=>
 cond (((R3 .u64 (R3 .u64 c.1.e1 c.1.e2) c.1.e3) !=0)||(decide (c.1.e0>=9223372036854775808))) (
  some ((A4.mk 0 0),false))<|
 ck (decide ((A7 m)≠0))<|
 some ((A4.mk (A2 c.1.e0) (A2 (A7 (Int.tdiv (A7 (v.length:Int)) (A7 m))))),true))
def A7E (j:List B3) (a b c d i e f g h:Int):Option (A4×Bool):=
 loop (fun (s:(Int×Int×Int×Int×Int))=>S7 j a b c d s.1 s.2.1 s.2.2.1 s.2.2.2.1 s.2.2.2.2) (i,e,f,g,h)
def A6Z (j:List B3) (e a b c d:Int):Option ((Int×Int×Int×Int×Int)⊕(A4×Bool)):=
 cond (decide (e<(j.length:Int))) (
  Option.bind (D1 j e) fun g=>
  let h:=(S8 g.V);
  let i:=(S8 g.V);
  Option.bind (I8 (H6.mk a b c d) h i 0) fun f=>
  some (.inl ((A2 (e+1)),f.e0,f.e1,f.e2,f.e3)))<|
 Option.map Sum.inr (A7E j a b c d 0 0 0 0 0)
def B2q (f:List B3) (e a b c d:Int):Option (A4×Bool):=
 loop (fun (s:(Int×Int×Int×Int×Int))=>A6Z f s.1 s.2.1 s.2.2.1 s.2.2.2.1 s.2.2.2.2) (e,a,b,c,d)
def A7D (a:List B3):Option (A4×Bool):=
 cond ((A7 (a.length:Int))==(0:Int)) (
  some ((A4.mk 0 1),true))<|
 B2q a 0 0 0 0 0
def B66 (a b:Int):(Int×Bool):=
 cond (((decide (a>=0))==(decide (b>=0)))&&(!((decide ((A2 (a+b))>=0))==(decide (a>=0))))) (
  (0,false))<|
 ((A2 (a+b)),true)
def Z1 (a:Int):Int:=
 cond (decide (a<0)) (
  (IntKind.u64.wrap (0-(A7 a))))<|
 (A7 a)
def B0y (c d:Int) (a:Int×Int) (b:Int):(Int×Bool):=
 cond ((a.1 !=0)||(decide (a.2>b))) (
  (0,false))<|
 cond (!((decide (c<0))==(decide (d<0)))) (
  ((A2 (IntKind.u64.wrap (0-a.2))),true))<|
 ((A2 a.2),true)
def B3Y (d e:Int):(Int×Bool):=
 let b:=(Z1 d);
 let c:=(Z1 e);
 let a:=(Q4 b c);
 cond (!((decide (d<0))==(decide (e<0)))) (
  B0y d e a (A7 ((9223372036854775807:Int)+(1:Int))))<|
 B0y d e a 9223372036854775807
def A5Y (f:List B3) (b a:Int):Option ((Int×Int)⊕(Int×Bool)):=
 cond (decide (a<(f.length:Int))) (
  Option.bind (D1 f a) fun c=>
  let d:=(B3Y c.V c.V);
  cond (!d.2) (
   some (.inr (0,false)))<|
  let e:=(B66 b d.1);
  cond (!e.2) (
   some (.inr (0,false)))<|
  some (.inl (e.1,(A2 (a+1)))))<|
 Option.map Sum.inr (some (b,true))
def B1u (c:List B3) (b a:Int):Option (Int×Bool):=
 loop (fun (s:(Int×Int))=>A5Y c s.1 s.2) (b,a)
def A6w (a:List B3):Option (Int×Bool):=
 B1u a 0 0
def B2r (b:List B3):Option (Int×Bool):=
 Option.bind (A4b b) fun a=>
 cond (((a.2.Hi !=0)||(decide (a.2.Lo>9223372036854775808)))||((a.2.Lo==9223372036854775808)&&(!a.1))) (
  some (0,false))<|
 cond a.1 (
  some ((A2 (IntKind.u64.wrap (0-a.2.Lo))),true))<|
 some ((A2 a.2.Lo),true)
def B0v (a:Int):Bool:=
 ((decide (a>=0))&&(decide (a<=16777216)))
def B9j (d:List B3) (e a:Int):Option (Int⊕Bool):=
 cond (decide (a<(d.length:Int))) (
  Option.bind (D1 d a) fun b=>
  Option.bind (gd ((!((decide (b.T<0))||(decide (b.T>e))))&&(decide (a>0))) (D1 d (A2 (a-1)))) fun c=>
  cond (((decide (b.T<0))||(decide (b.T>e)))||((decide (a>0))&&(decide (c.T>b.T)))) (
   some (.inr false))<|
  some (.inl (A2 (a+1))))<|
 Option.map Sum.inr (some true)
def C0y (b:List B3) (c a:Int):Option Bool:=
 loop (fun (s:Int)=>B9j b c s) a
def B3f (c:List B3) (b:Int):Option Bool:=
 let a:=(B0v b);
 cond (!a) (
  some false)<|
 C0y c b 0
def W9 (c:Bool) (a b:Int):Bool:=
 cond c (
  (decide (a>=b)))<|
 (decide (a<=b))
def A4N (a b c:Int):Bool:=
 ((((((decide (a>=1))&&(decide (a<=1048576)))&&(decide (b>=1)))&&(decide (b<=65536)))&&(decide (c>=0)))&&(decide (c<=16777216)))
def A1e (g:C8) (a:Int):Option (Int⊕Int):=
 cond (decide (a<(g.Av.length:Int))) (
  Option.bind (D1 g.Av a) fun b=>
  let f:=(W8 g.Now g.W b.T);
  cond (((!f)||(decide (b.V<(-4096:Int))))||(decide (b.V>4096))) (
   some (.inr 2))<|
  Option.bind (gd (decide (a>0)) (D1 g.Av (A2 (a-1)))) fun c=>
  Option.bind (gd ((decide (a>0))&&(!(decide (c.T>=b.T)))) (D1 g.Av (A2 (a-1)))) fun d=>
  let e:=(W9 g.Bj b.V d.V);
  cond ((decide (a>0))&&((decide (c.T>=b.T))||e)) (
   some (.inr 2))<|
  some (.inl (A2 (a+1))))<|
 Option.map Sum.inr (some 0)
def A8i (b:C8) (a:Int):Option Int:=
 loop (fun (s:Int)=>A1e b s) a
def A1E (b:C8):Option Int:=
 let a:=(A4N b.W b.Cap b.Now);
 cond ((!a)||(decide ((b.Av.length:Int)>b.Cap))) (
  some 2)<|
 A8i b 0
def A84 (c:C8):Option (Int×Int):=
 Option.bind (A1E c) fun a=>
 cond (a !=0) (
  some (0,a))<|
 cond ((c.Av.length:Int)==(0:Int)) (
  some (0,7))<|
 Option.bind (D1 c.Av 0) fun b=>
 some (b.V,0)
def A4c (e:Bool) (b c d:Int):(C8×Int):=
 let a:=(A4N b c d);
 cond (!a) (
  ((C8.mk false 0 0 0 []),1))<|
 ((C8.mk e b c d []),0)
def A2h (c:G2) (a:Int):Option (Int⊕Int):=
 cond (decide (a<(c.Bf.length:Int))) (
  Option.bind (D1 c.Bf a) fun b=>
  cond (((decide (b<0))||(decide (b>1099511627776)))||((b !=0)&&(decide (a>c.Now)))) (
   some (.inr 2))<|
  some (.inl (A2 (a+1))))<|
 Option.map Sum.inr (some 0)
def B0f (b:G2) (a:Int):Option Int:=
 loop (fun (s:Int)=>A2h b s) a
def A25 (a:G2):Option Int:=
 cond ((((decide ((a.Bf.length:Int)<(1:Int)))||(decide ((a.Bf.length:Int)>(64:Int))))||(decide (a.Now<0)))||(decide (a.Now>16777216))) (
  some 2)<|
 B0f a 0
def A7m (d:A1) (c:Int):Option (A1×Bool):=
 cond (decide (c<0)) (
  some ((A1.mk 0 0),false))<|
 let a:=(A1r d);
 cond a (
  some (d,true))<|
 Option.bind (A7l d) fun b=>
 cond (decide (c>(A2 (128-b)))) (
  some ((A1.mk 0 0),false))<|
 cond (decide (c>=64)) (
  ck (decide (0<=(A7 (A2 (c-64)))))<|
  some ((A1.mk (D9 .u64 d.Lo (A7 (A2 (c-64)))) 0),true))<|
 ck (decide (0<=(A7 c)))<|
 ck (decide (0<=(A7 (A2 (64-c)))))<|
 ck (decide (0<=(A7 c)))<|
 some ((A1.mk (R3 .u64 (D9 .u64 d.Hi (A7 c)) (F8 .u64 d.Lo (A7 (A2 (64-c))))) (D9 .u64 d.Lo (A7 c))),true)
def A6x (j:G2) (c a b:Int):Option ((Int×Int×Int)⊕(C1×Int)):=
 cond (decide (c<(j.Bf.length:Int))) (
  Option.bind (D1 j.Bf c) fun g=>
  Option.bind (A7m (A1.mk a b) 1) fun h=>
  let i:=(H7 (A7 g));
  Option.bind (A46 h.1 i) fun d=>
  some (.inl ((A2 (c+1)),d.1.Hi,d.1.Lo)))<|
 Option.map Sum.inr (let e:=(H7 1);
 Option.bind (A7m e (A2 ((j.Bf.length:Int)-(1:Int)))) fun f=>
 some ((C1.mk (A1.mk a b) f.1),0))
def B6d (d:G2) (c a b:Int):Option (C1×Int):=
 loop (fun (s:(Int×Int×Int))=>A6x d s.1 s.2.1 s.2.2) (c,a,b)
def B2u (b:G2):Option (C1×Int):=
 Option.bind (A25 b) fun a=>
 cond (a !=0) (
  some ((C1.mk (A1.mk 0 0) (A1.mk 0 0)),a))<|
 B6d b 0 0 0
def B2v (a b:Int):Option (G2×Int):=
 cond ((((decide (a<1))||(decide (a>64)))||(decide (b<0)))||(decide (b>16777216))) (
  some ((G2.mk 0 []),1))<|
 ck (decide (0<=a/\a<=a/\a*8<=140737488355328/\a<=140737488355328))<|
 some ((G2.mk b (List.replicate (a).toNat 0)),0)
def B2A (a:Int):Bool:=
 ((decide (a>=0))&&(decide (a<=16777216)))
def B8x (b c:Int):Option (D8×Int):=
 let a:=(B2A c);
 cond (((decide (b<0))||(decide (b>4)))||(!a)) (
  some ((D8.mk 0 0 0 []),1))<|
 ck (decide (0<=(A2 (b+1))/\(A2 (b+1))<=(A2 (b+1))/\(A2 (b+(1:Int)))*16<=140737488355328/\(A2 (b+(1:Int)))<=140737488355328))<|
 some ((D8.mk b c c (List.replicate ((A2 (b+(1:Int)))).toNat (A1.mk 0 0))),0)
def A0g (a b c d:Int):Bool:=
 ((((((((decide (a>=1))&&(decide (a<=1048576)))&&(decide (b>=1)))&&(decide (b<=64)))&&(decide (c>=1)))&&(decide (c<=65536)))&&(decide (d>=0)))&&(decide (d<=16777216)))
def A3b (b c d e:Int):(C4×Int):=
 let a:=(A0g b c d e);
 cond (!a) (
  ((C4.mk 0 0 0 0 []),1))<|
 ((C4.mk b c d e []),0)
def A6h (a b c:Int):Bool:=
 ((((((decide (a>=1))&&(decide (a<=1048576)))&&(decide (b>=1)))&&(decide (b<=65536)))&&(decide (c>=0)))&&(decide (c<=16777216)))
def A5o (b c d:Int):(C9×Int):=
 let a:=(A6h b c d);
 cond (!a) (
  ((C9.mk 0 0 0 []),1))<|
 ((C9.mk b c d []),0)
def A3u (d e f c:Int) (a:List D0):Option ((Int×(List D0))⊕(E4×Int)):=
 cond (decide (c<d)) (
  let b:=(R2 e f);
  cond (b.2 !=0) (
   some (.inr ((E4.mk []),b.2)))<|
  ck (decide ((a.length+ [b.1].length)*56<=140737488355328))<|
  some (.inl ((A2 (c+1)),(a++ [b.1]))))<|
 Option.map Sum.inr (some ((E4.mk a),0))
def A9Y (c d e b:Int) (a:List D0):Option (E4×Int):=
 loop (fun (s:(Int×(List D0)))=>A3u c d e s.1 s.2) (b,a)
def B0Q (a b c:Int):Option (E4×Int):=
 cond ((decide (a<1))||(decide (a>16))) (
  some ((E4.mk []),1))<|
 A9Y a b c 0 ([]:List D0)
def A5h (a b c d:Int):Bool:=
 ((((((((decide (a>=1))&&(decide (a<=1048576)))&&(decide (b>=1)))&&(decide (b<=64)))&&(decide (c>=1)))&&(decide (c<=65536)))&&(decide (d>=0)))&&(decide (d<=16777216)))
def A0w (b c d e f:Int):Bool:=
 let a:=(A5h c d e f);
 (((decide (b>=1))&&(decide (b<=4)))&&a)
def A5Q (b c d e f:Int):(D2×Int):=
 let a:=(A0w b c d e f);
 cond (!a) (
  ((D2.mk 0 0 0 0 0 0 []),1))<|
 ((D2.mk b c d e f 0 []),0)
def A5R (b c d e:Int):(D3×Int):=
 let a:=(A5h b c d e);
 cond (!a) (
  ((D3.mk 0 0 0 0 0 []),1))<|
 ((D3.mk b c d e 0 []),0)
def A8L (a b c d e:Int):Bool:=
 ((((((((((decide (a>=1))&&(decide (a<=1048576)))&&(decide (b>=1)))&&(decide (b<=64)))&&(decide (c>=1)))&&(decide (c<=65536)))&&(decide (d>=1)))&&(decide (d<=1024)))&&(decide (e>=0)))&&(decide (e<=16777216)))
def B02 (b c d e f:Int):(E2×Int):=
 let a:=(A8L b c d e f);
 cond (!a) (
  ((E2.mk 0 0 0 0 0 []),1))<|
 ((E2.mk b c d e f []),0)
def A4m (a b:Int):(B5×Int):=
 cond ((((decide (a<1))||(decide (a>64)))||(decide (b<2)))||(decide (b>65536))) (
  ((B5.mk 0 0 0 []),1))<|
 ((B5.mk a b 0 []),0)
def A9Z (a:Int):Bool:=
 ((decide (a>=0))&&(decide (a<=16777216)))
def N5 (n:E5) (m:Int) (i:C9) (a:D6) (b:E2) (c:D2) (d:D3) (e:D8) (j:Int) (k:List Int) (f:C8) (l:List D0) (g:B5) (h:C4):Option (C7×Int):=
 cond (m !=0) (
  some ((C7.mk (E5.mk 0 0 0 0 0 0 0 0) (C9.mk 0 0 0 []) (D6.mk 0 0 0 0 []) (E2.mk 0 0 0 0 0 []) (D2.mk 0 0 0 0 0 0 []) (D3.mk 0 0 0 0 0 []) (D8.mk 0 0 0 []) (G2.mk 0 []) (C8.mk false 0 0 0 []) (E4.mk []) (B5.mk 0 0 0 []) (C4.mk 0 0 0 0 [])),m))<|
 some ((C7.mk n i a b c d e (G2.mk j k) f (E4.mk l) g h),0)
def A78 (n:E5) (o:Int):Option (C7×Int):=
 let l:=(Y7 n);
 cond (l !=0) (
  some ((C7.mk (E5.mk 0 0 0 0 0 0 0 0) (C9.mk 0 0 0 []) (D6.mk 0 0 0 0 []) (E2.mk 0 0 0 0 0 []) (D2.mk 0 0 0 0 0 0 []) (D3.mk 0 0 0 0 0 []) (D8.mk 0 0 0 []) (G2.mk 0 []) (C8.mk false 0 0 0 []) (E4.mk []) (B5.mk 0 0 0 []) (C4.mk 0 0 0 0 [])),l))<|
 let m:=(A9Z o);
 cond (!m) (
  some ((C7.mk (E5.mk 0 0 0 0 0 0 0 0) (C9.mk 0 0 0 []) (D6.mk 0 0 0 0 []) (E2.mk 0 0 0 0 0 []) (D2.mk 0 0 0 0 0 0 []) (D3.mk 0 0 0 0 0 []) (D8.mk 0 0 0 []) (G2.mk 0 []) (C8.mk false 0 0 0 []) (E4.mk []) (B5.mk 0 0 0 []) (C4.mk 0 0 0 0 [])),1))<|
 cond (n.Ba==1) (
  let b:=(A5o n.W n.Cap o);
  N5 n b.2 b.1 (D6.mk 0 0 0 0 []) (E2.mk 0 0 0 0 0 []) (D2.mk 0 0 0 0 0 0 []) (D3.mk 0 0 0 0 0 []) (D8.mk 0 0 0 []) 0 ([]:List Int) (C8.mk false 0 0 0 []) ([]:List D0) (B5.mk 0 0 0 []) (C4.mk 0 0 0 0 []))<|
 cond (n.Ba==2) (
  let c:=(A7d n.W n.K n.Cap o);
  N5 n c.2 (C9.mk 0 0 0 []) c.1 (E2.mk 0 0 0 0 0 []) (D2.mk 0 0 0 0 0 0 []) (D3.mk 0 0 0 0 0 []) (D8.mk 0 0 0 []) 0 ([]:List Int) (C8.mk false 0 0 0 []) ([]:List D0) (B5.mk 0 0 0 []) (C4.mk 0 0 0 0 []))<|
 cond (n.Ba==3) (
  let d:=(B02 n.W n.K n.Cap n.Bj o);
  N5 n d.2 (C9.mk 0 0 0 []) (D6.mk 0 0 0 0 []) d.1 (D2.mk 0 0 0 0 0 0 []) (D3.mk 0 0 0 0 0 []) (D8.mk 0 0 0 []) 0 ([]:List Int) (C8.mk false 0 0 0 []) ([]:List D0) (B5.mk 0 0 0 []) (C4.mk 0 0 0 0 []))<|
 cond (n.Ba==4) (
  let e:=(A5Q n.Bg n.W n.K n.Cap o);
  N5 n e.2 (C9.mk 0 0 0 []) (D6.mk 0 0 0 0 []) (E2.mk 0 0 0 0 0 []) e.1 (D3.mk 0 0 0 0 0 []) (D8.mk 0 0 0 []) 0 ([]:List Int) (C8.mk false 0 0 0 []) ([]:List D0) (B5.mk 0 0 0 []) (C4.mk 0 0 0 0 []))<|
 cond (n.Ba==5) (
  let f:=(A5R n.W n.K n.Cap o);
  N5 n f.2 (C9.mk 0 0 0 []) (D6.mk 0 0 0 0 []) (E2.mk 0 0 0 0 0 []) (D2.mk 0 0 0 0 0 0 []) f.1 (D8.mk 0 0 0 []) 0 ([]:List Int) (C8.mk false 0 0 0 []) ([]:List D0) (B5.mk 0 0 0 []) (C4.mk 0 0 0 0 []))<|
 cond (n.Ba==6) (
  Option.bind (B8x n.P o) fun g=>
  N5 n g.2 (C9.mk 0 0 0 []) (D6.mk 0 0 0 0 []) (E2.mk 0 0 0 0 0 []) (D2.mk 0 0 0 0 0 0 []) (D3.mk 0 0 0 0 0 []) g.1 0 ([]:List Int) (C8.mk false 0 0 0 []) ([]:List D0) (B5.mk 0 0 0 []) (C4.mk 0 0 0 0 []))<|
 cond (n.Ba==7) (
  Option.bind (B2v n.W o) fun a=>
  N5 n a.2 (C9.mk 0 0 0 []) (D6.mk 0 0 0 0 []) (E2.mk 0 0 0 0 0 []) (D2.mk 0 0 0 0 0 0 []) (D3.mk 0 0 0 0 0 []) (D8.mk 0 0 0 []) a.1.Now a.1.Bf (C8.mk false 0 0 0 []) ([]:List D0) (B5.mk 0 0 0 []) (C4.mk 0 0 0 0 []))<|
 cond (n.Ba==8) (
  let h:=(A4c (n.Bj==1) n.W n.Cap o);
  N5 n h.2 (C9.mk 0 0 0 []) (D6.mk 0 0 0 0 []) (E2.mk 0 0 0 0 0 []) (D2.mk 0 0 0 0 0 0 []) (D3.mk 0 0 0 0 0 []) (D8.mk 0 0 0 []) 0 ([]:List Int) h.1 ([]:List D0) (B5.mk 0 0 0 []) (C4.mk 0 0 0 0 []))<|
 cond (n.Ba==9) (
  Option.bind (B0Q n.Aj n.W n.Cap) fun i=>
  N5 n i.2 (C9.mk 0 0 0 []) (D6.mk 0 0 0 0 []) (E2.mk 0 0 0 0 0 []) (D2.mk 0 0 0 0 0 0 []) (D3.mk 0 0 0 0 0 []) (D8.mk 0 0 0 []) 0 ([]:List Int) (C8.mk false 0 0 0 []) i.1.Aj (B5.mk 0 0 0 []) (C4.mk 0 0 0 0 []))<|
 cond (n.Ba==10) (
  let j:=(A4m n.K n.Cap);
  N5 n j.2 (C9.mk 0 0 0 []) (D6.mk 0 0 0 0 []) (E2.mk 0 0 0 0 0 []) (D2.mk 0 0 0 0 0 0 []) (D3.mk 0 0 0 0 0 []) (D8.mk 0 0 0 []) 0 ([]:List Int) (C8.mk false 0 0 0 []) ([]:List D0) j.1 (C4.mk 0 0 0 0 []))<|
 cond (n.Ba==11) (
  let k:=(A3b n.W n.K n.Cap o);
  N5 n k.2 (C9.mk 0 0 0 []) (D6.mk 0 0 0 0 []) (E2.mk 0 0 0 0 0 []) (D2.mk 0 0 0 0 0 0 []) (D3.mk 0 0 0 0 0 []) (D8.mk 0 0 0 []) 0 ([]:List Int) (C8.mk false 0 0 0 []) ([]:List D0) (B5.mk 0 0 0 []) k.1)<|
 N5 n 0 (C9.mk 0 0 0 []) (D6.mk 0 0 0 0 []) (E2.mk 0 0 0 0 0 []) (D2.mk 0 0 0 0 0 0 []) (D3.mk 0 0 0 0 0 []) (D8.mk 0 0 0 []) 0 ([]:List Int) (C8.mk false 0 0 0 []) ([]:List D0) (B5.mk 0 0 0 []) (C4.mk 0 0 0 0 [])
def A4G (a:C7):Bool:=
 cond ((a.Ak.Ba !=1)&&((((a.Al.W !=0)||(a.Al.Cap !=0))||(a.Al.Now !=0))||(decide ((a.Al.Av.length:Int)>(0:Int))))) (
  false)<|
 cond ((a.Ak.Ba !=2)&&(((((a.As.W !=0)||(a.As.K !=0))||(a.As.Cap !=0))||(a.As.Now !=0))||(decide ((a.As.Ac.length:Int)>(0:Int))))) (
  false)<|
 cond ((a.Ak.Ba !=3)&&((((((a.Sum.W !=0)||(a.Sum.K !=0))||(a.Sum.Cap !=0))||(a.Sum.Bj !=0))||(a.Sum.Now !=0))||(decide ((a.Sum.Ac.length:Int)>(0:Int))))) (
  false)<|
 cond ((a.Ak.Ba !=4)&&(((((((a.Ao.Bg !=0)||(a.Ao.W !=0))||(a.Ao.K !=0))||(a.Ao.Cap !=0))||(a.Ao.Now !=0))||(a.Ao.Bm !=0))||(decide ((a.Ao.Ay.length:Int)>(0:Int))))) (
  false)<|
 cond ((a.Ak.Ba !=5)&&((((((a.Ap.W !=0)||(a.Ap.K !=0))||(a.Ap.Cap !=0))||(a.Ap.Now !=0))||(a.Ap.Bm !=0))||(decide ((a.Ap.Ay.length:Int)>(0:Int))))) (
  false)<|
 cond ((a.Ak.Ba !=6)&&((((a.Be.P !=0)||(a.Be.Bb !=0))||(a.Be.Now !=0))||(decide ((a.Be.Af.length:Int)>(0:Int))))) (
  false)<|
 cond ((a.Ak.Ba !=7)&&((a.Au.Now !=0)||(decide ((a.Au.Bf.length:Int)>(0:Int))))) (
  false)<|
 cond ((a.Ak.Ba !=8)&&((((a.Ae.Bj||(a.Ae.W !=0))||(a.Ae.Cap !=0))||(a.Ae.Now !=0))||(decide ((a.Ae.Av.length:Int)>(0:Int))))) (
  false)<|
 cond ((a.Ak.Ba !=9)&&(decide ((a.Am.Aj.length:Int)>(0:Int)))) (
  false)<|
 cond ((a.Ak.Ba !=10)&&((((a.Ag.K !=0)||(a.Ag.Cap !=0))||(a.Ag.N !=0))||(decide ((a.Ag.Aq.length:Int)>(0:Int))))) (
  false)<|
 ((a.Ak.Ba==11)||(((((a.Ab.W==0)&&(a.Ab.K==0))&&(a.Ab.Cap==0))&&(a.Ab.Now==0))&&((a.Ab.Ah.length:Int)==(0:Int))))
def A6p (f a b c:Int):Option (A1×Bool):=
 let g:=(M7 a c);
 let d:=(M7 a b);
 cond (d.Hi !=0) (
  some ((A1.mk 0 0),false))<|
 Option.bind (A46 g (A1.mk d.Lo 0)) fun e=>
 some (e.1,e.2)
def A3T (a b:A1):Option (A1×Bool):=
 cond ((a.Hi !=0)&&(b.Hi !=0)) (
  some ((A1.mk 0 0),false))<|
 cond (a.Hi !=0) (
  A6p b.Hi b.Lo a.Hi a.Lo)<|
 A6p a.Hi a.Lo b.Hi b.Lo
def A2O (j:D8) (f:A1) (a:Int):Option (Int⊕Int):=
 cond (decide (a<=j.P)) (
  Option.bind (D1 j.Af (A2 (a-1))) fun g=>
  Option.bind (D1 j.Af a) fun h=>
  let c:=(S3 g h);
  cond (decide (c>0)) (
   some (.inr 2))<|
  Option.bind (D1 j.Af (A2 (a-1))) fun i=>
  Option.bind (A3T i f) fun b=>
  Option.bind (gd b.2 (D1 j.Af a)) fun d=>
  let e:=(S3 d b.1);
  cond (b.2&&(decide (e>0))) (
   some (.inr 2))<|
  some (.inl (A2 (a+1))))<|
 Option.map Sum.inr (some 0)
def B1I (c:D8) (a:A1) (b:Int):Option Int:=
 loop (fun (s:Int)=>A2O c a s) b
def A34 (c:D8):Option Int:=
 let a:=(B2A c.Now);
 cond ((((((decide (c.P<0))||(decide (c.P>4)))||(!a))||(decide (c.Bb<0)))||(decide (c.Bb>c.Now)))||((c.Af.length:Int) !=(A2 (c.P+1)))) (
  some 2)<|
 let b:=(H7 (A7 (A2 ((A2 (c.Now-c.Bb))+1))));
 B1I c b 1
def B4L (b:Int):Option Int:=
 cond (decide (b<0)) (
  some 0)<|
 Option.bind (W2 (A7 b)) fun a=>
 some a
def A6D (c d:Int):Option Int:=
 let a:=(A0g 1 c d 0);
 cond (!a) (
  some 0)<|
 Option.bind (B4L d) fun b=>
 some (A2 ((A2 (2*c))*(A2 (b+2))))
def A0W (d:C4) (a:Int):Option (Int⊕Int):=
 cond (decide (a<(d.Ah.length:Int))) (
  Option.bind (D1 d.Ah a) fun b=>
  let c:=(W8 d.Now d.W b.T);
  cond (!c) (
   some (.inr 2))<|
  some (.inl (A2 (a+1))))<|
 Option.map Sum.inr (some 0)
def A7P (b:C4) (a:Int):Option Int:=
 loop (fun (s:Int)=>A0W b s) a
def A0b (e:C4):Option Int:=
 let a:=(A0g e.W e.K e.Cap e.Now);
 Option.bind (gd (!(!a)) (A6D e.K e.Cap)) fun c=>
 Option.bind (gd (!(!a)) (A7t e.Ah (A2 (2*e.K)) c)) fun b=>
 Option.bind (gd (!((!a)||(!b))) (A7s e.Ah)) fun d=>
 cond (((!a)||(!b))||(decide (d>e.Cap))) (
  some 2)<|
 A7P e 0
def B1O (a:Int):Bool:=
 ((decide (a>=(-4096:Int)))&&(decide (a<=4096)))
def A4t (e:C9) (a:Int):Option (Int⊕Int):=
 cond (decide (a<(e.Av.length:Int))) (
  Option.bind (D1 e.Av a) fun b=>
  let d:=(W8 e.Now e.W b.T);
  let c:=(B1O b.V);
  cond ((!d)||(!c)) (
   some (.inr 2))<|
  some (.inl (A2 (a+1))))<|
 Option.map Sum.inr (some 0)
def A9s (b:C9) (a:Int):Option Int:=
 loop (fun (s:Int)=>A4t b s) a
def A0X (c:C9):Option Int:=
 let a:=(A6h c.W c.Cap c.Now);
 Option.bind (gd (!((!a)||(decide ((c.Av.length:Int)>c.Cap)))) (B3f c.Av c.Now)) fun b=>
 cond (((!a)||(decide ((c.Av.length:Int)>c.Cap)))||(!b)) (
  some 2)<|
 A9s c 0
def R4 (e:E4) (a:Int):Option (Int⊕Int):=
 cond (decide (a<(e.Aj.length:Int))) (
  Option.bind (D1 e.Aj a) fun b=>
  Option.bind (D1 e.Aj 0) fun c=>
  Option.bind (P9 b) fun d=>
  cond ((((d !=0)||(b.W !=c.W))||(b.Cap !=c.Cap))||(b.I !=c.I)) (
   some (.inr 2))<|
  some (.inl (A2 (a+1))))<|
 Option.map Sum.inr (some 0)
def A2x (b:E4) (a:Int):Option Int:=
 loop (fun (s:Int)=>R4 b s) a
def S5 (a:E4):Option Int:=
 cond ((decide ((a.Aj.length:Int)<(1:Int)))||(decide ((a.Aj.length:Int)>(16:Int)))) (
  some 2)<|
 A2x a 0
def U6 (a d e b c:Int):Bool:=
 (((((decide (b>=(A2 (a*d))))&&(decide (b<=(A2 (a*e)))))&&(decide (c>=0)))&&(decide (c<=(A2 ((A2 (a*(4096:Int)))*(4096:Int))))))&&(decide ((A2 (b*b))<=(A2 (a*c)))))
def A4y (h:List D7) (i k j l m d:Int):Option (Int⊕Bool):=
 cond (decide (d<(h.length:Int))) (
  Option.bind (D1 h d) fun a=>
  cond ((((((decide (a.Bm<1))||(decide (a.Bm>i)))||(a.N !=(A2 ((A2 (i-a.Bm))+1))))||(decide (a.N>k)))||(decide (a.T<0)))||(decide (a.T>j))) (
   some (.inr false))<|
  let g:=(U6 a.N a.Bk a.Bj a.S a.Q);
  cond ((((decide (a.Bk<m))||(decide (a.Bj>4096)))||(decide (a.Bk>a.Bj)))||(!g)) (
   some (.inr false))<|
  let e:=(W8 j l a.T);
  cond (((decide (d>0))||((h.length:Int)==(1:Int)))&&(!e)) (
   some (.inr false))<|
  cond (d==0) (
   some (.inl (A2 (d+1))))<|
  Option.bind (D1 h (A2 (d-1))) fun b=>
  let f:=(U6 (A2 (b.N-a.N)) b.Bk b.Bj (A2 (b.S-a.S)) (A2 (b.Q-a.Q)));
  cond (((((decide (b.Bm>=a.Bm))||(decide (b.T>a.T)))||(decide (b.Bk>a.Bk)))||(decide (b.Bj<a.Bj)))||(!f)) (
   some (.inr false))<|
  some (.inl (A2 (d+1))))<|
 Option.map Sum.inr (cond ((h.length:Int)==(0:Int)) (
  some true)<|
 Option.bind (D1 h (A2 ((h.length:Int)-(1:Int)))) fun c=>
 some ((((c.Bm==i)&&(c.Bk==c.S))&&(c.Bj==c.S))&&(c.Q==(A2 (c.S*c.S)))))
def B3X (b:List D7) (c d e f g a:Int):Option Bool:=
 loop (fun (s:Int)=>A4y b c d e f g s) a
def A6f (b:List D7) (a c d e f:Int):Option Bool:=
 cond ((decide (a<0))||(decide (a>1099511627776))) (
  some false)<|
 B3X b a c d e f 0
def L7 (a:Int):Int:=
 cond ((a==2)||(a==3)) (
  0)<|
 (-4096:Int)
def B68 (a b:Int):(Int×Bool):=
 cond ((!((decide (a>=0))==(decide (b>=0))))&&(!((decide ((A2 (a-b))>=0))==(decide (a>=0))))) (
  (0,false))<|
 ((A2 (a-b)),true)
def P0 (b:D7) (c:Int):Int:=
 cond (c==1) (
  b.N)<|
 cond (c==2) (
  b.S)<|
 cond (c==3) (
  b.Q)<|
 cond (c==4) (
  let a:=(B68 b.Bj b.Bk);
  a.1)<|
 0
def J8 (e f:D7) (c d:Int):Bool:=
 let a:=(P0 f c);
 let b:=(P0 e c);
 (decide ((A2 ((A2 (d+1))*a))>=(A2 (d*b))))
def A1T (h:D2) (a:Int):Option (Int⊕Int):=
 cond (decide (a<(h.Ay.length:Int))) (
  Option.bind (D1 h.Ay a) fun b=>
  Option.bind (gd (decide (a>=2)) (D1 h.Ay (A2 (a-2)))) fun g=>
  let d:=(J8 g b h.Bg h.K);
  cond ((decide (a>=2))&&d) (
   some (.inr 2))<|
  Option.bind (gd (decide (a>=1)) (D1 h.Ay (A2 (a-1)))) fun c=>
  Option.bind (gd ((decide (a>=1))&&(decide ((A2 (b.Bm-c.Bm))>1))) (D1 h.Ay (A2 (a-1)))) fun e=>
  let f:=(J8 e b h.Bg h.K);
  cond (((decide (a>=1))&&(decide ((A2 (b.Bm-c.Bm))>1)))&&(!f)) (
   some (.inr 2))<|
  some (.inl (A2 (a+1))))<|
 Option.map Sum.inr (some 0)
def A9v (b:D2) (a:Int):Option Int:=
 loop (fun (s:Int)=>A1T b s) a
def A2y (d:D2):Option Int:=
 let a:=(A0w d.Bg d.W d.K d.Cap d.Now);
 let b:=(L7 d.Bg);
 Option.bind (gd (!(!a)) (A6f d.Ay d.Bm d.Cap d.Now d.W b)) fun c=>
 cond ((!a)||(!c)) (
  some 2)<|
 A9v d 0
def A3w (a:D7):Bool:=
 cond ((((((decide (a.N<1))||(decide (a.N>65536)))||(decide (a.S<(A2 ((IntKind.i64.wrap (0-a.N))*4096)))))||(decide (a.S>(A2 (a.N*4096)))))||(decide (a.Q<0)))||(decide (a.Q>(A2 ((A2 (a.N*(4096:Int)))*(4096:Int)))))) (
  false)<|
 (decide ((A2 (a.S*a.S))<=(A2 (a.N*a.Q))))
def Z7 (a:D7):Int:=
 (A2 ((A2 (a.N*a.Q))-(A2 (a.S*a.S))))
def A72 (m n:D7) (l:Int):Option Bool:=
 let c:=(A3w m);
 let d:=(A3w n);
 cond ((((!c)||(!d))||(decide (l<1)))||(decide (l>64))) (
  some false)<|
 cond (decide ((A2 ((A2 (6*l))*n.N))<(A2 ((A2 ((A2 (6*l))-1))*m.N)))) (
  some false)<|
 let e:=(Z7 n);
 let f:=(M7 (A7 e) (A7 m.N));
 let g:=(H7 (A7 (A2 (6*l))));
 Option.bind (A3T f g) fun a=>
 let h:=(Z7 m);
 let i:=(M7 (A7 h) (A7 n.N));
 let j:=(H7 (A7 (A2 ((A2 (6*l))-1))));
 Option.bind (A3T i j) fun b=>
 let k:=(S3 a.1 b.1);
 some (decide (k>=0))
def A1U (e:D3) (a:Int):Option (Int⊕Int):=
 cond (decide (a<(e.Ay.length:Int))) (
  Option.bind (D1 e.Ay (A2 (a-2))) fun c=>
  Option.bind (D1 e.Ay a) fun d=>
  Option.bind (A72 c d e.K) fun b=>
  cond b (
   some (.inr 2))<|
  some (.inl (A2 (a+1))))<|
 Option.map Sum.inr (some 0)
def A9x (b:D3) (a:Int):Option Int:=
 loop (fun (s:Int)=>A1U b s) a
def A2z (c:D3):Option Int:=
 let a:=(A5h c.W c.K c.Cap c.Now);
 Option.bind (gd (!(!a)) (A6f c.Ay c.Bm c.Cap c.Now c.W (-4096:Int))) fun b=>
 cond ((!a)||(!b)) (
  some 2)<|
 A9x c 2
def A3P (d:E2) (a:Int):Option (Int⊕Int):=
 cond (decide (a<(d.Ac.length:Int))) (
  Option.bind (D1 d.Ac a) fun b=>
  let c:=(W8 d.Now d.W b.T);
  cond (!c) (
   some (.inr 2))<|
  some (.inl (A2 (a+1))))<|
 Option.map Sum.inr (some 0)
def B23 (b:E2) (a:Int):Option Int:=
 loop (fun (s:Int)=>A3P b s) a
def A42 (d:E2):Option Int:=
 let a:=(A8L d.W d.K d.Cap d.Bj d.Now);
 Option.bind (gd (!(!a)) (A1Y d.Ac d.K)) fun b=>
 Option.bind (gd (!((!a)||(!b))) (A01 d.Ac)) fun c=>
 cond (((!a)||(!b))||(decide (c>d.Cap))) (
  some 2)<|
 B23 d 0
def A76 (b a:Int):Option Int:=
 ck (decide (a≠0))<|
 some (P3 1 (A2 (Int.tdiv b a)))
def A1i (h:B5) (d e b:Int):Option ((Int×Int)⊕Int):=
 cond (decide (b<(h.Aq.length:Int))) (
  Option.bind (D1 h.Aq b) fun a=>
  Option.bind (gd ((!((decide (a.V<(-4096:Int)))||(decide (a.V>4096))))&&(decide (b>0))) (D1 h.Aq (A2 (b-1)))) fun f=>
  cond (((decide (a.V<(-4096:Int)))||(decide (a.V>4096)))||((decide (b>0))&&(decide (f.V>a.V)))) (
   some (.inr 2))<|
  cond ((((decide (a.G<1))||(decide (a.D<0)))||(decide (a.G>d)))||(decide (a.D>(A2 (d-a.G))))) (
   some (.inr 2))<|
  some (.inl ((A2 (e+a.G)),(A2 (b+1)))))<|
 Option.map Sum.inr (Option.bind (D1 h.Aq 0) fun c=>
 Option.bind (D1 h.Aq (A2 ((h.Aq.length:Int)-(1:Int)))) fun g=>
 cond ((((e !=h.N)||(c.G !=1))||(c.D !=0))||(g.D !=0)) (
  some 2)<|
 some 0)
def A8l (d:B5) (b c a:Int):Option Int:=
 loop (fun (s:(Int×Int))=>A1i d b s.1 s.2) (c,a)
def A0t (b:B5):Option Int:=
 cond (((((((decide (b.K<1))||(decide (b.K>64)))||(decide (b.Cap<2)))||(decide (b.Cap>65536)))||(decide (b.N<0)))||(decide (b.N>1099511627776)))||(decide ((b.Aq.length:Int)>b.Cap))) (
  some 2)<|
 cond (b.N==0) (
  cond (decide ((b.Aq.length:Int)>(0:Int))) (
   some 2)<|
  some 0)<|
 cond ((b.Aq.length:Int)==(0:Int)) (
  some 2)<|
 Option.bind (A76 b.N b.K) fun a=>
 A8l b a 0 0
def A5T (n:C7):Option Bool:=
 cond (n.Ak.Ba==1) (
  Option.bind (A0X n.Al) fun l=>
  some (((l==0)&&(n.Al.W==n.Ak.W))&&(n.Al.Cap==n.Ak.Cap)))<|
 cond (n.Ak.Ba==2) (
  Option.bind (A21 n.As) fun m=>
  some ((((m==0)&&(n.As.W==n.Ak.W))&&(n.As.K==n.Ak.K))&&(n.As.Cap==n.Ak.Cap)))<|
 cond (n.Ak.Ba==3) (
  Option.bind (A42 n.Sum) fun d=>
  some (((((d==0)&&(n.Sum.W==n.Ak.W))&&(n.Sum.K==n.Ak.K))&&(n.Sum.Cap==n.Ak.Cap))&&(n.Sum.Bj==n.Ak.Bj)))<|
 cond (n.Ak.Ba==4) (
  Option.bind (A2y n.Ao) fun e=>
  some (((((e==0)&&(n.Ao.W==n.Ak.W))&&(n.Ao.K==n.Ak.K))&&(n.Ao.Cap==n.Ak.Cap))&&(n.Ao.Bg==n.Ak.Bg)))<|
 cond (n.Ak.Ba==5) (
  Option.bind (A2z n.Ap) fun f=>
  some ((((f==0)&&(n.Ap.W==n.Ak.W))&&(n.Ap.K==n.Ak.K))&&(n.Ap.Cap==n.Ak.Cap)))<|
 cond (n.Ak.Ba==6) (
  Option.bind (A34 n.Be) fun g=>
  some ((g==0)&&(n.Be.P==n.Ak.P)))<|
 cond (n.Ak.Ba==7) (
  Option.bind (A25 n.Au) fun h=>
  some ((h==0)&&((n.Au.Bf.length:Int)==n.Ak.W)))<|
 cond (n.Ak.Ba==8) (
  Option.bind (A1E n.Ae) fun i=>
  some ((((i==0)&&(n.Ae.W==n.Ak.W))&&(n.Ae.Cap==n.Ak.Cap))&&(n.Ae.Bj==(n.Ak.Bj==1))))<|
 cond (n.Ak.Ba==9) (
  Option.bind (S5 n.Am) fun a=>
  Option.bind (gd ((a==0)&&((n.Am.Aj.length:Int)==n.Ak.Aj)) (D1 n.Am.Aj 0)) fun b=>
  Option.bind (gd (((a==0)&&((n.Am.Aj.length:Int)==n.Ak.Aj))&&(b.W==n.Ak.W)) (D1 n.Am.Aj 0)) fun c=>
  some ((((a==0)&&((n.Am.Aj.length:Int)==n.Ak.Aj))&&(b.W==n.Ak.W))&&(c.Cap==n.Ak.Cap)))<|
 cond (n.Ak.Ba==10) (
  Option.bind (A0t n.Ag) fun j=>
  some (((j==0)&&(n.Ag.K==n.Ak.K))&&(n.Ag.Cap==n.Ak.Cap)))<|
 Option.bind (A0b n.Ab) fun k=>
 some ((((k==0)&&(n.Ab.W==n.Ak.W))&&(n.Ab.K==n.Ak.K))&&(n.Ab.Cap==n.Ak.Cap))
def A1c (d:C7):Option Int:=
 let a:=(Y7 d.Ak);
 Option.bind (gd (!(a !=0)) (A5T d)) fun c=>
 let b:=(A4G d);
 cond (((a !=0)||(!c))||(!b)) (
  some 2)<|
 some 0
def B41 (d:C7) (b a:Int):Option ((Int×Int)⊕Int):=
 cond (decide (a<(d.Ab.Ah.length:Int))) (
  Option.bind (D1 d.Ab.Ah a) fun c=>
  some (.inl ((A2 (b+(c.Az.Ad.length:Int))),(A2 (a+1)))))<|
 Option.map Sum.inr (some b)
def A4w (c:C7) (b a:Int):Option Int:=
 loop (fun (s:(Int×Int))=>B41 c s.1 s.2) (b,a)
def B40 (d:C7) (b a:Int):Option ((Int×Int)⊕Int):=
 cond (decide (a<(d.Am.Aj.length:Int))) (
  Option.bind (D1 d.Am.Aj a) fun c=>
  some (.inl ((A2 (b+(c.Ax.length:Int))),(A2 (a+1)))))<|
 Option.map Sum.inr (A4w d b 0)
def A4v (c:C7) (b a:Int):Option Int:=
 loop (fun (s:(Int×Int))=>B40 c s.1 s.2) (b,a)
def A3R (b:C7):Option Int:=
 Option.bind (A1c b) fun a=>
 cond (a !=0) (
  some 0)<|
 A4v b (A2 ((A2 ((A2 ((A2 ((A2 ((A2 ((A2 ((A2 ((b.Al.Av.length:Int)+(b.As.Ac.length:Int)))+(b.Sum.Ac.length:Int)))+(b.Ao.Ay.length:Int)))+(b.Ap.Ay.length:Int)))+(b.Be.Af.length:Int)))+(b.Au.Bf.length:Int)))+(b.Ae.Av.length:Int)))+(b.Ag.Aq.length:Int))) 0
def A6e:Option Bool:=
 Option.bind (A78 (E5.mk 6 0 0 0 0 2 0 0) 0) fun a=>
 Option.bind (gd (a.2==0) (A3R a.1)) fun b=>
 some ((a.2==0)&&(b==3))
def A6z (d:C7) (b a:Int):Option ((Int×Int)⊕Bool):=
 cond (decide (a<(d.Ab.Ah.length:Int))) (
  Option.bind (D1 d.Ab.Ah a) fun c=>
  some (.inl ((A2 (b+(c.Az.Ad.length:Int))),(A2 (a+1)))))<|
 Option.map Sum.inr (some (decide (b<=200)))
def A7J (c:C7) (b a:Int):Option Bool:=
 loop (fun (s:(Int×Int))=>A6z c s.1 s.2) (b,a)
def A6y (d:C7) (b a:Int):Option ((Int×Int)⊕Bool):=
 cond (decide (a<(d.Am.Aj.length:Int))) (
  Option.bind (D1 d.Am.Aj a) fun c=>
  some (.inl ((A2 (b+(c.Ax.length:Int))),(A2 (a+1)))))<|
 Option.map Sum.inr (A7J d b 0)
def B6k (c:C7) (b a:Int):Option Bool:=
 loop (fun (s:(Int×Int))=>A6y c s.1 s.2) (b,a)
def B2x (a:C7):Option Bool:=
 B6k a (A2 ((A2 ((A2 ((A2 ((A2 ((A2 ((A2 ((A2 ((A2 ((A2 ((a.Al.Av.length:Int)+(a.As.Ac.length:Int)))+(a.Sum.Ac.length:Int)))+(a.Ao.Ay.length:Int)))+(a.Ap.Ay.length:Int)))+(a.Be.Af.length:Int)))+(a.Au.Bf.length:Int)))+(a.Ae.Av.length:Int)))+(a.Ag.Aq.length:Int)))+(a.Ab.Ah.length:Int)))+(a.Am.Aj.length:Int))) 0
def S1 (d e:List Int) (a:Int):Option (Int⊕Bool):=
 cond (decide (a<(d.length:Int))) (
  Option.bind (D1 d a) fun b=>
  Option.bind (D1 e a) fun c=>
  cond (b !=c) (
   some (.inr false))<|
  some (.inl (A2 (a+1))))<|
 Option.map Sum.inr (some true)
def Z5 (b c:List Int) (a:Int):Option Bool:=
 loop (fun (s:Int)=>S1 b c s) a
def R6 (a b:List Int):Option Bool:=
 cond ((a.length:Int) !=(b.length:Int)) (
  some false)<|
 Z5 a b 0
def A3L (b c:C5):Option Bool:=
 Option.bind (gd (b.Ai.Lo.Bl==c.Ai.Lo.Bl&&(b.Ai.Lo.Bh==c.Ai.Lo.Bh&&(b.Ai.Bi.Bl==c.Ai.Bi.Bl&&(b.Ai.Bi.Bh==c.Ai.Bi.Bh&&(b.Ai.Hi.Bl==c.Ai.Hi.Bl&&(b.Ai.Hi.Bh==c.Ai.Hi.Bh&&true)))))) (R6 b.Ar c.Ar)) fun a=>
 some (((b.Ai.Lo.Bl==c.Ai.Lo.Bl&&(b.Ai.Lo.Bh==c.Ai.Lo.Bh&&(b.Ai.Bi.Bl==c.Ai.Bi.Bl&&(b.Ai.Bi.Bh==c.Ai.Bi.Bh&&(b.Ai.Hi.Bl==c.Ai.Hi.Bl&&(b.Ai.Hi.Bh==c.Ai.Hi.Bh&&true))))))&&a)&&(b.Aa.Bl.Hi==c.Aa.Bl.Hi&&(b.Aa.Bl.Lo==c.Aa.Bl.Lo&&(b.Aa.Bh.Hi==c.Aa.Bh.Hi&&(b.Aa.Bh.Lo==c.Aa.Bh.Lo&&true)))))
def G6 (a:Int):Int:=
 cond (decide (a<0)) (
  (A7 ((A7 (IntKind.i64.wrap (0-(A2 (a+(1:Int))))))+(1:Int))))<|
 (A7 a)
def O5 (a b:A1):Int:=
 cond ((decide (a.Hi<b.Hi))||((a.Hi==b.Hi)&&(decide (a.Lo<b.Lo)))) (
  (-1:Int))<|
 cond (a.Hi==b.Hi&&(a.Lo==b.Lo&&true)) (
  0)<|
 1
def B2D (b:A1) (a:Int):Option Int:=
 cond (decide (a>=64)) (
  ck (decide (0<=(A7 (A2 (a-64)))))<|
  some (S9 .u64 (F8 .u64 b.Hi (A7 (A2 (a-64)))) 1))<|
 ck (decide (0<=(A7 a)))<|
 some (S9 .u64 (F8 .u64 b.Lo (A7 a)) 1)
def K5 (a:A1) (b:Int):(A1×Int):=
 ((A1.mk (R3 .u64 (D9 .u64 a.Hi 1) (F8 .u64 a.Lo 63)) (R3 .u64 (D9 .u64 a.Lo 1) b)),(F8 .u64 a.Hi 63))
def A4V (g a b f c d:Int):Option ((Int×Int×Int×Int×Int)⊕(A1×A1×Bool)):=
 let e:=(K5 (A1.mk a b) f);
 some (.inl ((A2 (g-1)),e.1.Hi,e.1.Lo,c,d))
def A9Q (l k:A1) (f a b d e:Int):Option ((Int×Int×Int×Int×Int)⊕(A1×A1×Bool)):=
 cond (decide (f>=0)) (
  Option.bind (B2D l f) fun j=>
  let c:=(K5 (A1.mk d e) j);
  let h:=(O5 c.1 k);
  cond ((c.2 !=0)||(decide (h>=0))) (
   Option.bind (K4 c.1.Lo k.Lo 0) fun g=>
   Option.bind (K4 c.1.Hi k.Hi g.2) fun i=>
   A4V f a b 1 i.1 g.1)<|
  A4V f a b 0 c.1.Hi c.1.Lo)<|
 Option.map Sum.inr (some ((A1.mk a b),(A1.mk d e),true))
def B6s (f g:A1) (e a b c d:Int):Option (A1×A1×Bool):=
 loop (fun (s:(Int×Int×Int×Int×Int))=>A9Q f g s.1 s.2.1 s.2.2.1 s.2.2.2.1 s.2.2.2.2) (e,a,b,c,d)
def A3A (b a:A1):Option (A1×A1×Bool):=
 cond (a.Hi==0&&(a.Lo==0&&true)) (
  some ((A1.mk 0 0),(A1.mk 0 0),false))<|
 B6s b a 127 0 0 0 0
def A9R (c d a b:Int):Option ((Int×Int×Int×Int)⊕A1):=
 cond (!(a==0&&(b==0&&true))) (
  Option.bind (A3A (A1.mk c d) (A1.mk a b)) fun e=>
  some (.inl (a,b,e.2.1.Hi,e.2.1.Lo)))<|
 Option.map Sum.inr (some (A1.mk c d))
def B6t (a b c d:Int):Option A1:=
 loop (fun (s:(Int×Int×Int×Int))=>A9R s.1 s.2.1 s.2.2.1 s.2.2.2) (a,b,c,d)
def A9t (a b:A1):Option A1:=
 B6t a.Hi a.Lo b.Hi b.Lo
def F1 (a:Int):A1:=
 (A1.mk 0 a)
def A6i (f:A4):Option Bool:=
 let d:=(G6 f.Bl);
 let e:=(F1 d);
 let c:=(F1 (A7 f.Bh));
 Option.bind (gd (decide (f.Bh>=1)) (A9t e c)) fun a=>
 let b:=(F1 1);
 some ((decide (f.Bh>=1))&&(a.Hi==b.Hi&&(a.Lo==b.Lo&&true)))
def A1m (b:A4):Option B4:=
 Option.bind (A6i b) fun a=>
 cond (!a) (
  some (B4.mk (A4.mk 0 0) (A4.mk 0 0) (A4.mk 0 0)))<|
 some (B4.mk b b b)
def U7 (a b:Int):Bool:=
 (((decide (b>=1))&&(decide (a>=0)))&&(decide (a<=b)))
def A08 (d:List B3) (e:Bool) (b a:Int):Option ((Int×Int)⊕(Int×Bool)):=
 cond (decide (a<(d.length:Int))) (
  Option.bind (D1 d a) fun c=>
  cond ((e&&(decide (c.V>b)))||((!e)&&(decide (c.V<b)))) (
   some (.inl (c.V,(A2 (a+1)))))<|
  some (.inl (b,(A2 (a+1)))))<|
 Option.map Sum.inr (some (b,true))
def X5 (c:List B3) (d:Bool) (b a:Int):Option (Int×Bool):=
 loop (fun (s:(Int×Int))=>A08 c d s.1 s.2) (b,a)
def A03 (b:List B3) (c:Bool):Option (Int×Bool):=
 cond ((b.length:Int)==(0:Int)) (
  some (0,false))<|
 Option.bind (D1 b 0) fun a=>
 X5 b c a.V 0
def B9M (d:List B3) (e b a:Int):Option ((Int×Int)⊕Int):=
 cond (decide (a<(d.length:Int))) (
  Option.bind (D1 d a) fun c=>
  cond (decide (c.V<e)) (
   some (.inl ((A2 (b+1)),(A2 (a+1)))))<|
  some (.inl (b,(A2 (a+1)))))<|
 Option.map Sum.inr (some b)
def C0N (c:List B3) (d b a:Int):Option Int:=
 loop (fun (s:(Int×Int))=>B9M c d s.1 s.2) (b,a)
def B3m (a:List B3) (b:Int):Option Int:=
 C0N a b 0 0
def C0O (d:List B3) (e b a:Int):Option ((Int×Int)⊕Int):=
 cond (decide (a<(d.length:Int))) (
  Option.bind (D1 d a) fun c=>
  cond (decide (c.V<=e)) (
   some (.inl ((A2 (b+1)),(A2 (a+1)))))<|
  some (.inl (b,(A2 (a+1)))))<|
 Option.map Sum.inr (some b)
def C2c (c:List B3) (d b a:Int):Option Int:=
 loop (fun (s:(Int×Int))=>C0O c d s.1 s.2) (b,a)
def B0G (a:List B3) (b:Int):Option Int:=
 C2c a b 0 0
def H5 (b c:Int):A1:=
 let a:=(Q4 b c);
 (A1.mk a.1 a.2)
def A0D (d e f:Int):Option Int:=
 let b:=(H5 (A7 d) (A7 f));
 let c:=(F1 (A7 e));
 Option.bind (A3A b c) fun a=>
 cond (!(a.2.1.Hi==0&&(a.2.1.Lo==0&&true))) (
  some (P3 1 (A2 ((A2 a.1.Lo)+1))))<|
 some (P3 1 (A2 a.1.Lo))
def A4W (f:List B3) (b a:Int):Option (Int⊕(Int×Bool)):=
 cond (decide (a<(f.length:Int))) (
  Option.bind (D1 f a) fun c=>
  Option.bind (B3m f c.V) fun d=>
  Option.bind (gd (decide (d<b)) (B0G f c.V)) fun e=>
  cond ((decide (d<b))&&(decide (e>=b))) (
   some (.inr (c.V,true)))<|
  some (.inl (A2 (a+1))))<|
 Option.map Sum.inr (some (0,false))
def A52 (c:List B3) (b a:Int):Option (Int×Bool):=
 loop (fun (s:Int)=>A4W c b s) a
def A3d (c:List B3) (d e:Int):Option (Int×Bool):=
 let a:=(U7 d e);
 cond (((c.length:Int)==(0:Int))||(!a)) (
  some (0,false))<|
 Option.bind (A0D d e (c.length:Int)) fun b=>
 A52 c b 0
def A9u (d e:A1):Option (A1×Bool):=
 let b:=(O5 d e);
 cond (decide (b<0)) (
  some ((A1.mk 0 0),false))<|
 Option.bind (K4 d.Lo e.Lo 0) fun a=>
 Option.bind (K4 d.Hi e.Hi a.2) fun c=>
 some ((A1.mk c.1 a.1),true)
def A4X (c d:A1):Option (Int×Bool):=
 Option.bind (A9u c d) fun b=>
 cond b.2 (
  some ((A2 (S9 .u64 b.1.Lo 9223372036854775807)),((b.1.Hi==0)&&(decide (b.1.Lo<9223372036854775808)))))<|
 Option.bind (A9u d c) fun a=>
 cond ((a.1.Hi==0)&&(a.1.Lo==9223372036854775808)) (
  some ((-9223372036854775808:Int),true))<|
 some ((IntKind.i64.wrap (0-(A2 (S9 .u64 a.1.Lo 9223372036854775807)))),((a.1.Hi==0)&&(decide (a.1.Lo<9223372036854775808))))
def A7j (c d:A1):Option (A1×Bool):=
 Option.bind (N2 c.Lo d.Lo 0) fun a=>
 Option.bind (N2 c.Hi d.Hi a.2) fun b=>
 cond (b.2 !=0) (
  some ((A1.mk 0 0),false))<|
 some ((A1.mk b.1 a.1),true)
def A3e (g:Bool) (e:Int) (f:Bool) (a b c d:Int):Option ((Bool×Int×Int×Int×Int×Int)⊕(A1×A1×Bool)):=
 some (.inl ((g&&f),(A2 (e+1)),a,b,c,d))
def A7V (k:List A1) (l:List Bool) (f:Bool) (e a b c d:Int):Option ((Bool×Int×Int×Int×Int×Int)⊕(A1×A1×Bool)):=
 cond (decide (e<(k.length:Int))) (
  Option.bind (D1 k e) fun i=>
  Option.bind (D1 l e) fun j=>
  cond j (
   Option.bind (A7j (A1.mk c d) i) fun g=>
   A3e f e g.2 a b g.1.Hi g.1.Lo)<|
  Option.bind (A7j (A1.mk a b) i) fun h=>
  A3e f e h.2 h.1.Hi h.1.Lo c d)<|
 Option.map Sum.inr (some ((A1.mk a b),(A1.mk c d),f))
def B30 (g:List A1) (h:List Bool) (f:Bool) (e a b c d:Int):Option (A1×A1×Bool):=
 loop (fun (s:(Bool×Int×Int×Int×Int×Int))=>A7V g h s.1 s.2.1 s.2.2.1 s.2.2.2.1 s.2.2.2.2.1 s.2.2.2.2.2) (f,e,a,b,c,d)
def A6k (a:List A1) (b:List Bool):Option (A1×A1×Bool):=
 B30 a b true 0 0 0 0 0
def A2Q (h:List B3) (a:List A1) (b:Int):Option (((List A1)×Int)⊕(A1×Bool)):=
 cond (decide (b<(h.length:Int))) (
  Option.bind (D1 h b) fun c=>
  let f:=(G6 c.V);
  let g:=(G6 c.V);
  let d:=(H5 f g);
  ck (decide ((a.length+ [d].length)*16<=140737488355328))<|
  some (.inl ((a++ [d]),(A2 (b+1)))))<|
 Option.map Sum.inr (ck (decide (0<=(a.length:Int)/\(a.length:Int)<=(a.length:Int)/\(a.length:Int)*1<=140737488355328/\(a.length:Int)<=140737488355328))<|
 Option.bind (A6k a (List.replicate ((a.length:Int)).toNat false)) fun e=>
 some (e.1,e.2.2))
def B1P (c:List B3) (b:List A1) (a:Int):Option (A1×Bool):=
 loop (fun (s:((List A1)×Int))=>A2Q c s.1 s.2) (b,a)
def A6H (a:List B3):Option (A1×Bool):=
 B1P a ([]:List A1) 0
def A6F (c:List B3):Option (Int×Bool):=
 Option.bind (A6H c) fun a=>
 Option.bind (A4X a.1 (A1.mk 0 0)) fun b=>
 cond ((!a.2)||(!b.2)) (
  some (0,false))<|
 some (b.1,true)
def A6G (i:List B3) (b:List A1) (c:List Bool) (a:Int):Option (((List A1)×(List Bool)×Int)⊕(Int×Bool)):=
 cond (decide (a<(i.length:Int))) (
  Option.bind (D1 i a) fun d=>
  let h:=(G6 d.V);
  let e:=(F1 h);
  ck (decide ((b.length+ [e].length)*16<=140737488355328))<|
  ck (decide ((c.length+ [(decide (d.V<0))].length)*1<=140737488355328))<|
  some (.inl ((b++ [e]),(c++ [(decide (d.V<0))]),(A2 (a+1)))))<|
 Option.map Sum.inr (Option.bind (A6k b c) fun f=>
 Option.bind (A4X f.1 f.2.1) fun g=>
 cond (!g.2) (
  some (0,false))<|
 some (g.1,true))
def B6u (d:List B3) (b:List A1) (c:List Bool) (a:Int):Option (Int×Bool):=
 loop (fun (s:((List A1)×(List Bool)×Int))=>A6G d s.1 s.2.1 s.2.2) (b,c,a)
def B2E (a:List B3):Option (Int×Bool):=
 B6u a ([]:List A1) ([]:List Bool) 0
def A2G (a:Int):A4:=
 (A4.mk a 1)
def P4 (c:Int):Option B4:=
 let a:=(A2G c);
 Option.bind (A1m a) fun b=>
 some b
def G3 (a:Int):Bool:=
 ((decide (a>=0))&&(decide (a<=16777216)))
def S0 (a:Int):Bool:=
 ((decide (a>=1))&&(decide (a<=1048576)))
def F3 (d f e:Int):Bool:=
 let a:=(G3 d);
 let b:=(S0 f);
 let c:=(G3 e);
 ((((a&&b)&&c)&&(decide (e>(A2 (d-f)))))&&(decide (e<=d)))
def A7U (d:List B3) (e a:Int):Option (Int⊕Bool):=
 cond (decide (a<(d.length:Int))) (
  Option.bind (D1 d a) fun b=>
  Option.bind (gd ((!((decide (b.T<0))||(decide (b.T>e))))&&(decide (a>0))) (D1 d (A2 (a-1)))) fun c=>
  cond (((decide (b.T<0))||(decide (b.T>e)))||((decide (a>0))&&(decide (c.T>b.T)))) (
   some (.inr false))<|
  some (.inl (A2 (a+1))))<|
 Option.map Sum.inr (some true)
def A8E (b:List B3) (c a:Int):Option Bool:=
 loop (fun (s:Int)=>A7U b c s) a
def A6j (c:List B3) (b:Int):Option Bool:=
 let a:=(G3 b);
 cond (!a) (
  some false)<|
 A8E c b 0
def I1 (d c e:Int):Bool:=
 let b:=(S0 d);
 let a:=(G3 e);
 (((b&&(decide (c>=1)))&&(decide (c<=65536)))&&a)
def H8 (a:Int):Bool:=
 ((decide (a>=(-4096:Int)))&&(decide (a<=4096)))
def A0E (e:C9) (a:Int):Option (Int⊕Int):=
 cond (decide (a<(e.Av.length:Int))) (
  Option.bind (D1 e.Av a) fun b=>
  let d:=(F3 e.Now e.W b.T);
  let c:=(H8 b.V);
  cond ((!d)||(!c)) (
   some (.inr 2))<|
  some (.inl (A2 (a+1))))<|
 Option.map Sum.inr (some 0)
def A2R (b:C9) (a:Int):Option Int:=
 loop (fun (s:Int)=>A0E b s) a
def V7 (c:C9):Option Int:=
 let a:=(I1 c.W c.Cap c.Now);
 Option.bind (gd (!((!a)||(decide ((c.Av.length:Int)>c.Cap)))) (A6j c.Av c.Now)) fun b=>
 cond (((!a)||(decide ((c.Av.length:Int)>c.Cap)))||(!b)) (
  some 2)<|
 A2R c 0
def A9S (d:Bool) (e f:A1):Option (A4×Bool):=
 Option.bind (A9t e f) fun c=>
 Option.bind (A3A e c) fun a=>
 Option.bind (A3A f c) fun b=>
 cond (((((a.1.Hi !=0)||(b.1.Hi !=0))||(decide (b.1.Lo>=9223372036854775808)))||(decide (a.1.Lo>9223372036854775808)))||((a.1.Lo==9223372036854775808)&&(!d))) (
  some ((A4.mk 0 0),false))<|
 cond (!d) (
  some ((A4.mk (A2 a.1.Lo) (A2 b.1.Lo)),true))<|
 cond (a.1.Lo==9223372036854775808) (
  some ((A4.mk (-9223372036854775808:Int) (A2 b.1.Lo)),true))<|
 some ((A4.mk (IntKind.i64.wrap (0-(A2 a.1.Lo))) (A2 b.1.Lo)),true)
def A7S (f g:Int):Option (A4×Bool):=
 cond (g==0) (
  some ((A4.mk 0 0),false))<|
 let b:=(G6 f);
 let c:=(F1 b);
 let d:=(G6 g);
 let e:=(F1 d);
 Option.bind (A9S ((!((decide (f<0))==(decide (g<0))))&&(f !=0)) c e) fun a=>
 some (a.1,a.2)
def A7W (b c d:Int):Option A4:=
 Option.bind (A7S (A2 ((A2 (b*d))-(A2 (c*c)))) (P3 b 1)) fun a=>
 some a.1
def B2F (q:C9) (p:Q2):Option (C5×Int):=
 Option.bind (V7 q) fun b=>
 cond (b !=0) (
  some ((C5.mk (B4.mk (A4.mk 0 0) (A4.mk 0 0) (A4.mk 0 0)) ([]:List Int) (C1.mk (A1.mk 0 0) (A1.mk 0 0))),b))<|
 Option.bind (A03 q.Av false) fun c=>
 Option.bind (A03 q.Av true) fun d=>
 Option.bind (B2E q.Av) fun e=>
 Option.bind (A6F q.Av) fun f=>
 cond (p.Op==1) (
  Option.bind (P4 (q.Av.length:Int)) fun g=>
  some ((C5.mk g ([]:List Int) (C1.mk (A1.mk 0 0) (A1.mk 0 0))),0))<|
 cond (p.Op==2) (
  Option.bind (P4 e.1) fun h=>
  some ((C5.mk h ([]:List Int) (C1.mk (A1.mk 0 0) (A1.mk 0 0))),0))<|
 cond (p.Op==3) (
  Option.bind (P4 f.1) fun i=>
  some ((C5.mk i ([]:List Int) (C1.mk (A1.mk 0 0) (A1.mk 0 0))),0))<|
 cond (p.Op==4) (
  Option.bind (P4 (A2 (d.1-c.1))) fun j=>
  some ((C5.mk j ([]:List Int) (C1.mk (A1.mk 0 0) (A1.mk 0 0))),0))<|
 cond (p.Op==5) (
  Option.bind (A7W (q.Av.length:Int) e.1 f.1) fun k=>
  Option.bind (A1m k) fun l=>
  some ((C5.mk l ([]:List Int) (C1.mk (A1.mk 0 0) (A1.mk 0 0))),0))<|
 cond (p.Op==6) (
  cond ((q.Av.length:Int)==(0:Int)) (
   some ((C5.mk (B4.mk (A4.mk 0 0) (A4.mk 0 0) (A4.mk 0 0)) ([]:List Int) (C1.mk (A1.mk 0 0) (A1.mk 0 0))),7))<|
  some ((C5.mk (B4.mk (A4.mk 0 0) (A4.mk 0 0) (A4.mk 0 0)) [c.1,d.1] (C1.mk (A1.mk 0 0) (A1.mk 0 0))),0))<|
 cond (p.Op==7) (
  Option.bind (B0G q.Av p.A) fun m=>
  Option.bind (P4 m) fun n=>
  some ((C5.mk n ([]:List Int) (C1.mk (A1.mk 0 0) (A1.mk 0 0))),0))<|
 cond (p.Op==8) (
  let o:=(U7 p.A p.B);
  cond (!o) (
   some ((C5.mk (B4.mk (A4.mk 0 0) (A4.mk 0 0) (A4.mk 0 0)) ([]:List Int) (C1.mk (A1.mk 0 0) (A1.mk 0 0))),1))<|
  Option.bind (A3d q.Av p.A p.B) fun a=>
  cond (!a.2) (
   some ((C5.mk (B4.mk (A4.mk 0 0) (A4.mk 0 0) (A4.mk 0 0)) ([]:List Int) (C1.mk (A1.mk 0 0) (A1.mk 0 0))),7))<|
  some ((C5.mk (B4.mk (A4.mk 0 0) (A4.mk 0 0) (A4.mk 0 0)) [a.1] (C1.mk (A1.mk 0 0) (A1.mk 0 0))),0))<|
 some ((C5.mk (B4.mk (A4.mk 0 0) (A4.mk 0 0) (A4.mk 0 0)) ([]:List Int) (C1.mk (A1.mk 0 0) (A1.mk 0 0))),12)
def A3c (b a:Int):Option (Int×Bool):=
 cond ((a==0)||((b==(-9223372036854775808:Int))&&(a==(-1:Int)))) (
  some (0,false))<|
 ck (decide (a≠0))<|
 ck (decide (a≠0))<|
 cond (((Int.tmod b a) !=0)&&(!((decide (b<0))==(decide (a<0))))) (
  some ((A2 ((A2 (Int.tdiv b a))-1)),true))<|
 some ((A2 (Int.tdiv b a)),true)
def A7T (c d:Int):Option Int:=
 Option.bind (A3c c 2) fun a=>
 Option.bind (A3c d 2) fun b=>
 some (A2 ((A2 (a.1+b.1))+(A2 (Int.tdiv (A2 ((A2 ((A2 (c-(A2 (2*a.1))))+d))-(A2 (2*b.1)))) 2))))
def Y3 (e f:Int):Option (B4×Bool):=
 cond (decide (e>f)) (
  some ((B4.mk (A4.mk 0 0) (A4.mk 0 0) (A4.mk 0 0)),false))<|
 let a:=(A2G e);
 Option.bind (A7T e f) fun b=>
 let c:=(A2G b);
 let d:=(A2G f);
 some ((B4.mk a c d),true)
def A4A (d:List B7) (c a:Int):Option ((Int×Int)⊕Int):=
 cond (decide (a<(d.length:Int))) (
  Option.bind (D1 d a) fun b=>
  cond ((decide (b.Aw>=0))&&(decide (b.Aw<=30))) (
   ck (decide (0<=(A7 b.Aw)))<|
   some (.inl ((A2 (c+(D9 .i64 1 (A7 b.Aw)))),(A2 (a+1)))))<|
  some (.inl (c,(A2 (a+1)))))<|
 Option.map Sum.inr (some c)
def B33 (c:List B7) (a b:Int):Option Int:=
 loop (fun (s:(Int×Int))=>A4A c s.1 s.2) (a,b)
def A1n (a:List B7):Option Int:=
 B33 a 0 0
def A6l (e:List B7):Option B4:=
 cond ((e.length:Int)==(0:Int)) (
  Option.bind (P4 0) fun d=>
  some d)<|
 Option.bind (A1n e) fun a=>
 Option.bind (D1 e 0) fun b=>
 ck (decide (0<=(A7 b.Aw)))<|
 Option.bind (Y3 (A2 ((A2 (a-(D9 .i64 1 (A7 b.Aw))))+1)) a) fun c=>
 some c.1
def A5s (a:Int):Bool:=
 ((decide (a>=1))&&(decide (a<=128)))
def A4B (f:List B7) (g:Int) (b:List Int) (a:Int):Option (Int⊕Bool):=
 cond (decide (a<(b.length:Int))) (
  Option.bind (D1 b a) fun e=>
  Option.bind (D1 b a) fun c=>
  Option.bind (gd (decide ((f.length:Int)>(0:Int))) (D1 f 0)) fun d=>
  cond ((decide ((f.length:Int)>(0:Int)))&&(((decide (a<d.Aw))&&(decide (c<g)))||(decide (c>(A2 (g+1)))))) (
   some (.inr false))<|
  some (.inl (A2 (a+1))))<|
 Option.map Sum.inr (some true)
def A5t (c:List B7) (d:Int) (b:List Int) (a:Int):Option Bool:=
 loop (fun (s:Int)=>A4B c d b s) a
def A7X (k:List B7) (l:Int) (c:List Int) (b:Int):Option (((List Int)×Int)⊕Bool):=
 cond (decide (b<(k.length:Int))) (
  Option.bind (D1 k b) fun a=>
  let d:=(G3 a.T);
  Option.bind (gd ((!(((!d)||(decide (a.Aw<0)))||(decide (a.Aw>30))))&&(decide (b>0))) (D1 k (A2 (b-1)))) fun e=>
  Option.bind (gd (((!(((!d)||(decide (a.Aw<0)))||(decide (a.Aw>30))))&&(decide (b>0)))&&(!(decide (e.T>a.T)))) (D1 k (A2 (b-1)))) fun f=>
  cond ((((!d)||(decide (a.Aw<0)))||(decide (a.Aw>30)))||((decide (b>0))&&((decide (e.T>a.T))||(decide (f.Aw<a.Aw))))) (
   some (.inr false))<|
  Option.bind (D1 c a.Aw) fun h=>
  Option.bind (D1 c a.Aw) fun g=>
  Option.bind (D1 c a.Aw) fun i=>
  Option.bind (D1 c a.Aw) fun j=>
  some (.inl ((c.set (a.Aw).toNat (A2 (g+1))),(A2 (b+1)))))<|
 Option.map Sum.inr (A5t k l c 0)
def B34 (c:List B7) (d:Int) (b:List Int) (a:Int):Option Bool:=
 loop (fun (s:((List Int)×Int))=>A7X c d s.1 s.2) (b,a)
def A6m (c:List B7) (b:Int):Option Bool:=
 let a:=(A5s b);
 cond (!a) (
  some false)<|
 ck (decide (0<=(31:Int)/\(31:Int)<=(31:Int)/\(31:Int)*8<=140737488355328/\(31:Int)<=140737488355328))<|
 B34 c b (List.replicate ((31:Int)).toNat 0) 0
def I6 (a:Int):Bool:=
 ((decide (a>=1))&&(decide (a<=64)))
def A5u (d:List B7) (e f a:Int):Option (Int⊕Bool):=
 cond (decide (a<(d.length:Int))) (
  Option.bind (D1 d a) fun b=>
  let c:=(F3 f e b.T);
  cond (!c) (
   some (.inr false))<|
  some (.inl (A2 (a+1))))<|
 Option.map Sum.inr (some true)
def B5C (b:List B7) (c d a:Int):Option Bool:=
 loop (fun (s:Int)=>A5u b c d s) a
def A7Y (e:List B7) (f g h i:Int):Option Bool:=
 let a:=(I1 f h i);
 let b:=(I6 g);
 Option.bind (gd (!((!a)||(!b))) (A6m e g)) fun c=>
 Option.bind (gd (!(((!a)||(!b))||(!c))) (A1n e)) fun d=>
 cond ((((!a)||(!b))||(!c))||(decide (d>h))) (
  some false)<|
 B5C e f i 0
def A3g (b:D6):Option Int:=
 Option.bind (A7Y b.Ac b.W b.K b.Cap b.Now) fun a=>
 cond (!a) (
  some 2)<|
 some 0
def B2G (c:D6):Option (B4×Int):=
 Option.bind (A3g c) fun a=>
 cond (a !=0) (
  some ((B4.mk (A4.mk 0 0) (A4.mk 0 0) (A4.mk 0 0)),a))<|
 Option.bind (A6l c.Ac) fun b=>
 some (b,0)
def A1K (a:Int):Bool:=
 ((decide (a>=1))&&(decide (a<=1024)))
def A3h (c:E2):Option Int:=
 Option.bind (A7Y c.Ac c.W c.K c.Cap c.Now) fun a=>
 let b:=(A1K c.Bj);
 cond ((!a)||(!b)) (
  some 2)<|
 some 0
def B2H (c:E2):Option (B4×Int):=
 Option.bind (A3h c) fun a=>
 cond (a !=0) (
  some ((B4.mk (A4.mk 0 0) (A4.mk 0 0) (A4.mk 0 0)),a))<|
 Option.bind (A6l c.Ac) fun b=>
 some (b,0)
def A7i (b a:Int):(Int×Bool):=
 cond (((decide (a<0))&&(decide (b>(A2 (9223372036854775807+a)))))||((decide (a>0))&&(decide (b<(A2 ((-9223372036854775808:Int)+a)))))) (
  (0,false))<|
 ((A2 (b-a)),true)
def B3n:Int:=
 0
def N7 (b:D7) (c:Int):Int:=
 cond (c==1) (
  b.N)<|
 cond (c==2) (
  b.S)<|
 cond (c==3) (
  b.Q)<|
 cond (c==4) (
  let a:=(A7i b.Bj b.Bk);
  cond a.2 (
   a.1)<|
  B3n)<|
 B3n
def A3N (a b c d e:Int):Bool:=
 (((((decide ((A2 (a*d))<=b))&&(decide (b<=(A2 (a*e)))))&&(decide (c>=0)))&&(decide (c<=(A2 ((A2 (a*(4096:Int)))*(4096:Int))))))&&(decide ((A2 (b*b))<=(A2 (a*c)))))
def A0v (b c:Int):Bool:=
 let a:=(H8 c);
 (a&&(((decide (c>=0))||(b==1))||(b==4)))
def A4C (l:List D7) (o q p n m b:Int):Option (Int⊕Bool):=
 cond (decide (b<(l.length:Int))) (
  Option.bind (D1 l b) fun a=>
  Option.bind (gd ((!((((decide (a.Bm<1))||(decide (a.Bm>m)))||(a.N !=(A2 ((A2 (m-a.Bm))+1))))||(decide (a.N>p))))&&(decide (b>0))) (D1 l (A2 (b-1)))) fun g=>
  cond (((((decide (a.Bm<1))||(decide (a.Bm>m)))||(a.N !=(A2 ((A2 (m-a.Bm))+1))))||(decide (a.N>p)))||((decide (b>0))&&(decide (g.Bm>=a.Bm)))) (
   some (.inr false))<|
  let d:=(G3 a.T);
  Option.bind (gd ((!((!d)||(decide (a.T>n))))&&(decide (b>0))) (D1 l (A2 (b-1)))) fun h=>
  let i:=(F3 n q a.T);
  cond ((((!d)||(decide (a.T>n)))||((decide (b>0))&&(decide (h.T>a.T))))||(((decide (b>0))||((l.length:Int)==(1:Int)))&&(!i))) (
   some (.inr false))<|
  let j:=(A0v o a.Bk);
  let k:=(A0v o a.Bj);
  let e:=(A3N a.N a.S a.Q a.Bk a.Bj);
  cond ((((((((!j)||(!k))||(decide (a.Bk>a.Bj)))||(decide (a.S<(A2 ((IntKind.i64.wrap (0-a.N))*4096)))))||(decide (a.S>(A2 (a.N*4096)))))||(decide (a.Q<0)))||(decide (a.Q>(A2 ((A2 (a.N*(4096:Int)))*(4096:Int))))))||(!e)) (
   some (.inr false))<|
  cond ((b==(A2 ((l.length:Int)-(1:Int))))&&((((a.Bm !=m)||(a.Bk !=a.S))||(a.Bj !=a.S))||(a.Q !=(A2 (a.S*a.S))))) (
   some (.inr false))<|
  cond (decide (b>0)) (
   Option.bind (D1 l (A2 (b-1))) fun c=>
   let f:=(A3N (A2 (c.N-a.N)) (A2 (c.S-a.S)) (A2 (c.Q-a.Q)) c.Bk c.Bj);
   cond (((decide (a.Bk<c.Bk))||(decide (a.Bj>c.Bj)))||(!f)) (
    some (.inr false))<|
   some (.inl (A2 (b+1))))<|
  some (.inl (A2 (b+1))))<|
 Option.map Sum.inr (some true)
def B37 (b:List D7) (c d e f g a:Int):Option Bool:=
 loop (fun (s:Int)=>A4C b c d e f g s) a
def A6n (b:List D7) (c d e f a:Int):Option Bool:=
 cond ((decide (a<0))||(decide (a>1099511627776))) (
  some false)<|
 B37 b c d e f a 0
def T7 (a:Int):Bool:=
 ((decide (a>=1))&&(decide (a<=4)))
def A2o (j:D2) (a:Int):Option (Int⊕Int):=
 cond (decide (a<(j.Ay.length:Int))) (
  Option.bind (D1 j.Ay a) fun b=>
  let i:=(N7 b j.Bg);
  Option.bind (gd (decide (a>1)) (D1 j.Ay (A2 (a-2)))) fun d=>
  let e:=(N7 d j.Bg);
  cond ((decide (a>1))&&(decide ((A2 ((A2 (j.K+1))*i))>=(A2 (j.K*e))))) (
   some (.inr 2))<|
  Option.bind (gd (decide (a>0)) (D1 j.Ay (A2 (a-1)))) fun c=>
  let f:=(N7 b j.Bg);
  Option.bind (gd ((decide (a>0))&&(decide (b.Bm>(A2 (c.Bm+1))))) (D1 j.Ay (A2 (a-1)))) fun g=>
  let h:=(N7 g j.Bg);
  cond (((decide (a>0))&&(decide (b.Bm>(A2 (c.Bm+1)))))&&(decide ((A2 ((A2 (j.K+1))*f))<(A2 (j.K*h))))) (
   some (.inr 2))<|
  some (.inl (A2 (a+1))))<|
 Option.map Sum.inr (some 0)
def B0h (b:D2) (a:Int):Option Int:=
 loop (fun (s:Int)=>A2o b s) a
def A3i (e:D2):Option Int:=
 let c:=(T7 e.Bg);
 let a:=(I1 e.W e.Cap e.Now);
 let b:=(I6 e.K);
 Option.bind (gd (!(((!c)||(!a))||(!b))) (A6n e.Ay e.Bg e.W e.Cap e.Now e.Bm)) fun d=>
 cond ((((!c)||(!a))||(!b))||(!d)) (
  some 2)<|
 B0h e 0
def B2I (m:D2):Option (B4×Int):=
 Option.bind (A3i m) fun c=>
 cond (c !=0) (
  some ((B4.mk (A4.mk 0 0) (A4.mk 0 0) (A4.mk 0 0)),c))<|
 cond ((m.Ay.length:Int)==(0:Int)) (
  Option.bind (P4 0) fun i=>
  some (i,0))<|
 Option.bind (D1 m.Ay 0) fun a=>
 let j:=(F3 m.Now m.W a.T);
 cond j (
  let k:=(N7 a m.Bg);
  Option.bind (P4 k) fun l=>
  some (l,0))<|
 Option.bind (D1 m.Ay 1) fun b=>
 cond (b.Bm==(A2 (a.Bm+1))) (
  let d:=(N7 b m.Bg);
  Option.bind (P4 d) fun e=>
  some (e,0))<|
 let f:=(N7 b m.Bg);
 let g:=(N7 a m.Bg);
 Option.bind (Y3 f g) fun h=>
 some (h.1,0)
def Y0 (a:D7):Bool:=
 (((((((decide (a.N>=1))&&(decide (a.N<=65536)))&&(decide (a.S>=(A2 ((IntKind.i64.wrap (0-a.N))*4096)))))&&(decide (a.S<=(A2 (a.N*4096)))))&&(decide (a.Q>=0)))&&(decide (a.Q<=(A2 ((A2 (a.N*(4096:Int)))*(4096:Int))))))&&(decide ((A2 (a.S*a.S))<=(A2 (a.N*a.Q)))))
def B1Q (c:D7):Option (A4×Bool):=
 let b:=(Y0 c);
 cond (!b) (
  some ((A4.mk 0 0),false))<|
 Option.bind (A7S (A2 ((A2 (c.N*c.Q))-(A2 (c.S*c.S)))) c.N) fun a=>
 some (a.1,a.2)
def A9d (g h:D7) (i:Int):Bool:=
 let d:=(Y0 g);
 let e:=(Y0 h);
 let a:=(I6 i);
 cond ((((!d)||(!e))||(!a))||(decide ((A2 ((A2 (6*i))*h.N))<(A2 ((A2 ((A2 (6*i))-1))*g.N))))) (
  false)<|
 let f:=(H5 (A7 (A2 ((A2 (h.N*h.Q))-(A2 (h.S*h.S))))) (A7 (A2 ((A2 (6*i))*g.N))));
 let b:=(H5 (A7 (A2 ((A2 (g.N*g.Q))-(A2 (g.S*g.S))))) (A7 (A2 ((A2 ((A2 (6*i))-1))*h.N))));
 let c:=(O5 f b);
 (decide (c>=0))
def A2p (e:D3) (a:Int):Option (Int⊕Int):=
 cond (decide (a<(e.Ay.length:Int))) (
  Option.bind (D1 e.Ay (A2 (a-2))) fun c=>
  Option.bind (D1 e.Ay a) fun d=>
  let b:=(A9d c d e.K);
  cond b (
   some (.inr 2))<|
  some (.inl (A2 (a+1))))<|
 Option.map Sum.inr (some 0)
def B0i (b:D3) (a:Int):Option Int:=
 loop (fun (s:Int)=>A2p b s) a
def A3j (d:D3):Option Int:=
 let b:=(I1 d.W d.Cap d.Now);
 let a:=(I6 d.K);
 Option.bind (gd (!((!b)||(!a))) (A6n d.Ay 4 d.W d.Cap d.Now d.Bm)) fun c=>
 cond (((!b)||(!a))||(!c)) (
  some 2)<|
 B0i d 2
def B2J (m:D3):Option (B4×Int):=
 Option.bind (A3j m) fun b=>
 cond (b !=0) (
  some ((B4.mk (A4.mk 0 0) (A4.mk 0 0) (A4.mk 0 0)),b))<|
 cond ((m.Ay.length:Int)==(0:Int)) (
  Option.bind (P4 0) fun g=>
  some (g,0))<|
 Option.bind (D1 m.Ay 0) fun h=>
 Option.bind (B1Q h) fun c=>
 Option.bind (D1 m.Ay 0) fun i=>
 let j:=(F3 m.Now m.W i.T);
 cond j (
  Option.bind (A1m c.1) fun k=>
  some (k,0))<|
 Option.bind (D1 m.Ay 1) fun l=>
 Option.bind (B1Q l) fun a=>
 Option.bind (D1 m.Ay 1) fun d=>
 Option.bind (D1 m.Ay 0) fun e=>
 cond (d.Bm==(A2 (e.Bm+1))) (
  Option.bind (A1m a.1) fun f=>
  some (f,0))<|
 some ((B4.mk a.1 a.1 c.1),0)
def A7k (e f:A1):Option (A1×Bool):=
 cond ((e.Hi !=0)&&(f.Hi !=0)) (
  some ((A1.mk 0 0),false))<|
 let b:=(H5 e.Hi f.Lo);
 let c:=(H5 e.Lo f.Hi);
 cond ((b.Hi !=0)||(c.Hi !=0)) (
  some ((A1.mk 0 0),false))<|
 let d:=(H5 e.Lo f.Lo);
 Option.bind (A7j d (A1.mk (A7 (b.Lo+c.Lo)) 0)) fun a=>
 some (a.1,a.2)
def A35 (g h:Int) (d:Bool) (e a b:Int):Option ((Bool×Int×Int×Int)⊕(A1×Bool)):=
 cond ((decide (e<h))&&d) (
  let f:=(F1 g);
  Option.bind (A7k (A1.mk a b) f) fun c=>
  some (.inl (c.2,(A2 (e+1)),c.1.Hi,c.1.Lo)))<|
 Option.map Sum.inr (some ((A1.mk a b),d))
def A7R (e f:Int) (c:Bool) (d a b:Int):Option (A1×Bool):=
 loop (fun (s:(Bool×Int×Int×Int))=>A35 e f s.1 s.2.1 s.2.2.1 s.2.2.2) (c,d,a,b)
def B2C (c d:Int):Option (A1×Bool):=
 cond (decide (d<0)) (
  some ((A1.mk 0 0),false))<|
 cond ((d==0)||(c==1)) (
  let b:=(F1 1);
  some (b,true))<|
 cond (c==0) (
  some ((A1.mk 0 0),true))<|
 let a:=(F1 1);
 A7R c d true 0 a.Hi a.Lo
def A2q (j:D8) (a:Int):Option (Int⊕Int):=
 cond (decide (a<=j.P)) (
  Option.bind (D1 j.Af (A2 (a-1))) fun g=>
  let d:=(F1 (A7 (A2 ((A2 (j.Now-j.Bb))+1))));
  Option.bind (A7k g d) fun b=>
  Option.bind (D1 j.Af a) fun h=>
  Option.bind (D1 j.Af (A2 (a-1))) fun i=>
  let c:=(O5 h i);
  Option.bind (gd ((!(decide (c<0)))&&b.2) (D1 j.Af a)) fun e=>
  let f:=(O5 e b.1);
  cond ((decide (c<0))||(b.2&&(decide (f>0)))) (
   some (.inr 2))<|
  some (.inl (A2 (a+1))))<|
 Option.map Sum.inr (some 0)
def B0j (b:D8) (a:Int):Option Int:=
 loop (fun (s:Int)=>A2q b s) a
def A3k (b:D8):Option Int:=
 let a:=(G3 b.Now);
 cond ((((((decide (b.P<0))||(decide (b.P>4)))||(!a))||(decide (b.Bb<0)))||(decide (b.Bb>b.Now)))||((b.Af.length:Int) !=(A2 (b.P+1)))) (
  some 2)<|
 B0j b 1
def B2K (d:D8):Option (C1×Int):=
 Option.bind (A3k d) fun a=>
 cond (a !=0) (
  some ((C1.mk (A1.mk 0 0) (A1.mk 0 0)),a))<|
 Option.bind (B2C (A7 (A2 ((A2 (d.Now-d.Bb))+1))) d.P) fun b=>
 Option.bind (D1 d.Af d.P) fun c=>
 some ((C1.mk c b.1),0)
def A8D (e d a b:Int):Option ((Int×Int×Int)⊕(A1×Bool)):=
 cond (decide (d<e)) (
  let c:=(K5 (A1.mk a b) 0);
  cond (c.2 !=0) (
   some (.inr ((A1.mk 0 0),false)))<|
  some (.inl ((A2 (d+1)),c.1.Hi,c.1.Lo)))<|
 Option.map Sum.inr (some ((A1.mk a b),true))
def B5B (d c a b:Int):Option (A1×Bool):=
 loop (fun (s:(Int×Int×Int))=>A8D d s.1 s.2.1 s.2.2) (c,a,b)
def A5q (a:A1) (b:Int):Option (A1×Bool):=
 cond (decide (b<0)) (
  some ((A1.mk 0 0),false))<|
 cond (a.Hi==0&&(a.Lo==0&&true)) (
  some (a,true))<|
 B5B b 0 a.Hi a.Lo
def A2r (c:G2) (a:Int):Option (Int⊕Int):=
 cond (decide (a<(c.Bf.length:Int))) (
  Option.bind (D1 c.Bf a) fun b=>
  cond (((decide (b<0))||(decide (b>1099511627776)))||((decide (a>c.Now))&&(b !=0))) (
   some (.inr 2))<|
  some (.inl (A2 (a+1))))<|
 Option.map Sum.inr (some 0)
def B0k (b:G2) (a:Int):Option Int:=
 loop (fun (s:Int)=>A2r b s) a
def A3l (b:G2):Option Int:=
 let a:=(G3 b.Now);
 cond (((decide ((b.Bf.length:Int)<(1:Int)))||(decide ((b.Bf.length:Int)>(64:Int))))||(!a)) (
  some 2)<|
 B0k b 0
def A6I (i:G2) (g:A1×Bool) (c a b:Int):Option ((Int×Int×Int)⊕(C1×Int)):=
 cond (decide (c<(i.Bf.length:Int))) (
  Option.bind (D1 i.Bf c) fun h=>
  let e:=(F1 (A7 h));
  Option.bind (A5q e (A2 ((A2 ((i.Bf.length:Int)-(1:Int)))-c))) fun f=>
  Option.bind (A7j (A1.mk a b) f.1) fun d=>
  some (.inl ((A2 (c+1)),d.1.Hi,d.1.Lo)))<|
 Option.map Sum.inr (some ((C1.mk (A1.mk a b) g.1),0))
def B6B (e:G2) (d:A1×Bool) (c a b:Int):Option (C1×Int):=
 loop (fun (s:(Int×Int×Int))=>A6I e d s.1 s.2.1 s.2.2) (c,a,b)
def B2M (d:G2):Option (C1×Int):=
 Option.bind (A3l d) fun a=>
 cond (a !=0) (
  some ((C1.mk (A1.mk 0 0) (A1.mk 0 0)),a))<|
 let b:=(F1 1);
 Option.bind (A5q b (A2 ((d.Bf.length:Int)-(1:Int)))) fun c=>
 B6B d c 0 0 0
def A7Z (a:Bool) (b c:Int):Bool:=
 ((a&&(decide (b>c)))||((!a)&&(decide (b<c))))
def A2s (h:C8) (a:Int):Option (Int⊕Int):=
 cond (decide (a<(h.Av.length:Int))) (
  Option.bind (D1 h.Av a) fun b=>
  let d:=(F3 h.Now h.W b.T);
  let c:=(H8 b.V);
  Option.bind (gd ((!((!d)||(!c)))&&(decide (a>0))) (D1 h.Av (A2 (a-1)))) fun e=>
  Option.bind (gd (((!((!d)||(!c)))&&(decide (a>0)))&&(!(decide (e.T>=b.T)))) (D1 h.Av (A2 (a-1)))) fun f=>
  let g:=(A7Z h.Bj f.V b.V);
  cond (((!d)||(!c))||((decide (a>0))&&((decide (e.T>=b.T))||(!g)))) (
   some (.inr 2))<|
  some (.inl (A2 (a+1))))<|
 Option.map Sum.inr (some 0)
def B0l (b:C8) (a:Int):Option Int:=
 loop (fun (s:Int)=>A2s b s) a
def A3m (b:C8):Option Int:=
 let a:=(I1 b.W b.Cap b.Now);
 cond ((!a)||(decide ((b.Av.length:Int)>b.Cap))) (
  some 2)<|
 B0l b 0
def B2N (c:C8):Option (Int×Int):=
 Option.bind (A3m c) fun a=>
 cond (a !=0) (
  some (0,a))<|
 cond ((c.Av.length:Int)==(0:Int)) (
  some (0,7))<|
 Option.bind (D1 c.Av 0) fun b=>
 some (b.V,0)
def A4Z (g:D0) (a:Int):Option (Int⊕Int):=
 cond (decide (a<(g.Ax.length:Int))) (
  Option.bind (D1 g.Ax a) fun b=>
  let c:=(H8 b.V);
  Option.bind (gd ((!((!c)||(decide (b.I>g.I))))&&(decide (a>0))) (D1 g.Ax (A2 (a-1)))) fun d=>
  Option.bind (gd (((!((!c)||(decide (b.I>g.I))))&&(decide (a>0)))&&(!(decide (b.I<=d.I)))) (D1 g.Ax (A2 (a-1)))) fun e=>
  cond (((!c)||(decide (b.I>g.I)))||((decide (a>0))&&((decide (b.I<=d.I))||(decide (b.I>(A2 (e.I+g.W))))))) (
   some (.inr 2))<|
  some (.inl (A2 (a+1))))<|
 Option.map Sum.inr (Option.bind (gd (!(decide (g.Bd<=g.I))) (D1 g.Ax (A2 ((g.Ax.length:Int)-(1:Int))))) fun f=>
 cond ((decide (g.Bd<=g.I))||(decide (g.Bd>(A2 (f.I+g.W))))) (
  some 2)<|
 some 0)
def A54 (b:D0) (a:Int):Option Int:=
 loop (fun (s:Int)=>A4Z b s) a
def A3n (d:D0):Option Int:=
 let c:=(S0 d.W);
 cond ((((((!c)||(decide (d.Cap<1)))||(decide (d.Cap>64)))||(decide (d.I<0)))||(decide (d.I>1099511627776)))||(decide ((d.Ax.length:Int)>d.Cap))) (
  some 2)<|
 cond (d.I==0) (
  cond (((d.Ax.length:Int) !=(0:Int))||(d.Bd !=0)) (
   some 2)<|
  some 0)<|
 Option.bind (gd (!((d.Ax.length:Int)==(0:Int))) (D1 d.Ax 0)) fun a=>
 Option.bind (gd (!(((d.Ax.length:Int)==(0:Int))||(decide (a.I<=(A2 (d.I-d.W)))))) (D1 d.Ax 0)) fun b=>
 cond ((((d.Ax.length:Int)==(0:Int))||(decide (a.I<=(A2 (d.I-d.W)))))||(decide (b.I<1))) (
  some 2)<|
 A54 d 0
def B2O (c:D0):Option (Int×Int):=
 Option.bind (A3n c) fun a=>
 cond (a !=0) (
  some (0,a))<|
 cond ((c.Ax.length:Int)==(0:Int)) (
  some (0,7))<|
 Option.bind (D1 c.Ax 0) fun b=>
 some (b.V,0)
def A40 (e:E4) (a:Int):Option (Int⊕Int):=
 cond (decide (a<(e.Aj.length:Int))) (
  Option.bind (D1 e.Aj a) fun b=>
  Option.bind (D1 e.Aj 0) fun c=>
  Option.bind (A3n b) fun d=>
  cond ((((d !=0)||(b.W !=c.W))||(b.Cap !=c.Cap))||(b.I !=c.I)) (
   some (.inr 2))<|
  some (.inl (A2 (a+1))))<|
 Option.map Sum.inr (some 0)
def B0m (b:E4) (a:Int):Option Int:=
 loop (fun (s:Int)=>A40 b s) a
def A1u (a:E4):Option Int:=
 cond ((decide ((a.Aj.length:Int)<(1:Int)))||(decide ((a.Aj.length:Int)>(16:Int)))) (
  some 2)<|
 B0m a 0
def A6J (e:E4) (c:List Int) (a:Int):Option (((List Int)×Int)⊕((List Int)×Int)):=
 cond (decide (a<(e.Aj.length:Int))) (
  Option.bind (D1 e.Aj a) fun d=>
  Option.bind (B2O d) fun b=>
  cond (b.2 !=0) (
   some (.inr ([],b.2)))<|
  ck (decide ((c.length+ [b.1].length)*8<=140737488355328))<|
  some (.inl ((c++ [b.1]),(A2 (a+1)))))<|
 Option.map Sum.inr (some (c,0))
def B6E (c:E4) (b:List Int) (a:Int):Option ((List Int)×Int):=
 loop (fun (s:((List Int)×Int))=>A6J c s.1 s.2) (b,a)
def B2P (b:E4):Option ((List Int)×Int):=
 Option.bind (A1u b) fun a=>
 cond (a !=0) (
  some ([],a))<|
 B6E b ([]:List Int) 0
def C0P (a:B5):Option Int:=
 ck (decide (a.K≠0))<|
 some (P3 1 (A2 (Int.tdiv a.N a.K)))
def A0G (c b:Int):(B5×Int):=
 let a:=(I6 c);
 cond (((!a)||(decide (b<2)))||(decide (b>65536))) (
  ((B5.mk 0 0 0 []),1))<|
 ((B5.mk c b 0 []),0)
def A2t (g:B5) (c b:Int):Option ((Int×Int)⊕Int):=
 cond (decide (b<(g.Aq.length:Int))) (
  Option.bind (D1 g.Aq b) fun a=>
  let d:=(H8 a.V);
  Option.bind (gd (!(((((!d)||(decide (a.G<1)))||(decide (a.G>g.N)))||(decide (a.D<0)))||(decide (a.D>g.N)))) (C0P g)) fun e=>
  Option.bind (gd ((!((((((!d)||(decide (a.G<1)))||(decide (a.G>g.N)))||(decide (a.D<0)))||(decide (a.D>g.N)))||(decide ((A2 (a.G+a.D))>e))))&&(decide (b>0))) (D1 g.Aq (A2 (b-1)))) fun f=>
  cond (((((((((!d)||(decide (a.G<1)))||(decide (a.G>g.N)))||(decide (a.D<0)))||(decide (a.D>g.N)))||(decide ((A2 (a.G+a.D))>e)))||((decide (b>0))&&(decide (f.V>a.V))))||((b==0)&&((a.G !=1)||(a.D !=0))))||((b==(A2 ((g.Aq.length:Int)-(1:Int))))&&(a.D !=0))) (
   some (.inr 2))<|
  cond (decide ((A2 (c+a.G))>g.N)) (
   some (.inr 2))<|
  some (.inl ((A2 (c+a.G)),(A2 (b+1)))))<|
 Option.map Sum.inr (cond (c !=g.N) (
  some 2)<|
 some 0)
def B0n (c:B5) (b a:Int):Option Int:=
 loop (fun (s:(Int×Int))=>A2t c s.1 s.2) (b,a)
def A3p (b:B5):Option Int:=
 let a:=(A0G b.K b.Cap);
 cond (((((a.2 !=0)||(decide (b.N<0)))||(decide (b.N>1099511627776)))||(decide ((b.Aq.length:Int)>b.Cap)))||(!(((b.Aq.length:Int)==(0:Int))==(b.N==0)))) (
  some 2)<|
 B0n b 0 0
def A1b (e:B5) (d:List A6) (b c:Int):Option (((List A6)×Int×Int)⊕((List A6)×Int)):=
 cond (decide (c<(e.Aq.length:Int))) (
  Option.bind (D1 e.Aq c) fun a=>
  ck (decide ((d.length+ [(A6.mk a.V (A2 (b+a.G)) (A2 ((A2 (b+a.G))+a.D)))].length)*24<=140737488355328))<|
  some (.inl ((d++ [(A6.mk a.V (A2 (b+a.G)) (A2 ((A2 (b+a.G))+a.D)))]),(A2 (b+a.G)),(A2 (c+1)))))<|
 Option.map Sum.inr (some (d,0))
def B1S (d:B5) (b:List A6) (c a:Int):Option ((List A6)×Int):=
 loop (fun (s:((List A6)×Int×Int))=>A1b d s.1 s.2.1 s.2.2) (b,c,a)
def X2 (b:B5):Option ((List A6)×Int):=
 Option.bind (A3p b) fun a=>
 cond (a !=0) (
  some ([],a))<|
 B1S b ([]:List A6) 0 0
def A12 (f:List A6) (g b a:Int):Option ((Int×Int)⊕Int):=
 cond (decide (a<(f.length:Int))) (
  Option.bind (D1 f a) fun c=>
  Option.bind (D1 f b) fun d=>
  Option.bind (D1 f b) fun e=>
  cond (decide ((P3 (A2 (g-c.Bk)) (A2 (c.Bj-g)))<(P3 (A2 (g-d.Bk)) (A2 (e.Bj-g))))) (
   some (.inl (a,(A2 (a+1)))))<|
  some (.inl (b,(A2 (a+1)))))<|
 Option.map Sum.inr (some b)
def B1T (c:List A6) (d b a:Int):Option Int:=
 loop (fun (s:(Int×Int))=>A12 c d s.1 s.2) (b,a)
def A3B (a:List A6) (b:Int):Option Int:=
 B1T a b 0 0
def A5E (f:B5) (g h:Int):Option (Int×Int):=
 Option.bind (X2 f) fun a=>
 cond (a.2 !=0) (
  some (0,a.2))<|
 let b:=(U7 g h);
 cond (!b) (
  some (0,1))<|
 cond (f.N==0) (
  some (0,7))<|
 Option.bind (A0D g h f.N) fun c=>
 Option.bind (A3B a.1 c) fun d=>
 Option.bind (D1 a.1 d) fun e=>
 some (e.V,0)
def A1a (f:List A6) (g e b a:Int):Option ((Int×Int)⊕(Int×Int)):=
 cond (decide (a>=0)) (
  Option.bind (D1 f a) fun c=>
  cond (decide (c.V>g)) (
   Option.bind (D1 f a) fun d=>
   some (.inl ((A2 (d.Bj-1)),(A2 (a-1)))))<|
  some (.inl (b,(A2 (a-1)))))<|
 Option.map Sum.inr (some (e,b))
def A1L (d:List A6) (e b c a:Int):Option (Int×Int):=
 loop (fun (s:(Int×Int))=>A1a d e b s.1 s.2) (c,a)
def A09 (d:List A6) (f e b a:Int):Option ((Int×Int)⊕(Int×Int)):=
 cond (decide (a<(d.length:Int))) (
  Option.bind (D1 d a) fun c=>
  cond (decide (c.V<=e)) (
   some (.inl (c.Bk,(A2 (a+1)))))<|
  some (.inl (b,(A2 (a+1)))))<|
 Option.map Sum.inr (A1L d e b f (A2 ((d.length:Int)-(1:Int))))
def A64 (c:List A6) (d e b a:Int):Option (Int×Int):=
 loop (fun (s:(Int×Int))=>A09 c d e s.1 s.2) (b,a)
def A04 (a:List A6) (b c:Int):Option (Int×Int):=
 A64 a b c 0 0
def B0I (d:B5) (e:Int):Option (B4×Int):=
 Option.bind (X2 d) fun a=>
 cond (a.2 !=0) (
  some ((B4.mk (A4.mk 0 0) (A4.mk 0 0) (A4.mk 0 0)),a.2))<|
 Option.bind (A04 a.1 d.N e) fun b=>
 Option.bind (Y3 b.1 b.2) fun c=>
 some (c.1,0)
def A2u (d:B6) (a:Int):Option (Int⊕Int):=
 cond (decide (a<(d.Ad.length:Int))) (
  Option.bind (D1 d.Ad a) fun b=>
  cond (((((decide (b.Bk<1))||(decide (b.Bk>b.Bj)))||(decide (b.Bj>d.N)))||((a==0)&&(b.Bj !=1)))||((a==(A2 ((d.Ad.length:Int)-(1:Int))))&&(b.Bk !=d.N))) (
   some (.inr 2))<|
  cond (decide (a>0)) (
   Option.bind (D1 d.Ad (A2 (a-1))) fun c=>
   cond (((decide (c.V>b.V))||(decide (c.Bk>=b.Bk)))||(decide (c.Bj>=b.Bj))) (
    some (.inr 2))<|
   some (.inl (A2 (a+1))))<|
  some (.inl (A2 (a+1))))<|
 Option.map Sum.inr (some 0)
def B0o (b:B6) (a:Int):Option Int:=
 loop (fun (s:Int)=>A2u b s) a
def S2 (a:B6):Option Int:=
 cond (((decide (a.N<0))||(decide (a.N>1099511627776)))||(!(((a.Ad.length:Int)==(0:Int))==(a.N==0)))) (
  some 2)<|
 B0o a 0
def B0J (d:B6) (e:Int):Option (B4×Int):=
 Option.bind (S2 d) fun a=>
 cond (a !=0) (
  some ((B4.mk (A4.mk 0 0) (A4.mk 0 0) (A4.mk 0 0)),a))<|
 Option.bind (A04 d.Ad d.N e) fun b=>
 Option.bind (Y3 b.1 b.2) fun c=>
 some (c.1,0)
def A2v (h:B6) (i:Bool) (a:A6) (e:Int) (f:List A6) (g c b:Int):Option ((Int×Int)⊕(((List A6)×Int)⊕(List A6))):=
 cond (decide (b>=0)) (
  Option.bind (D1 h.Ad b) fun d=>
  cond ((decide (d.V>a.V))||(i&&(d.V==a.V))) (
   some (.inl ((A2 (d.Bj-1)),(A2 (b-1)))))<|
  some (.inl (c,(A2 (b-1)))))<|
 Option.map Sum.inr (ck (decide ((f.length+ [(A6.mk a.V (A2 (a.Bk+e)) (A2 (a.Bj+c)))].length)*24<=140737488355328))<|
 some (.inl ((f++ [(A6.mk a.V (A2 (a.Bk+e)) (A2 (a.Bj+c)))]),(A2 (g+1)))))
def A55 (g:B6) (h:Bool) (e:A6) (c:Int) (f:List A6) (d a b:Int):Option (((List A6)×Int)⊕(List A6)):=
 loop (fun (s:(Int×Int))=>A2v g h e c f d s.1 s.2) (a,b)
def A2T (g:B6) (h:Bool) (b:A6) (f:List A6) (e d a:Int):Option ((Int×Int)⊕(((List A6)×Int)⊕(List A6))):=
 cond (decide (a<(g.Ad.length:Int))) (
  Option.bind (D1 g.Ad a) fun c=>
  cond ((decide (c.V<b.V))||((!h)&&(c.V==b.V))) (
   some (.inl (c.Bk,(A2 (a+1)))))<|
  some (.inl (d,(A2 (a+1)))))<|
 Option.map Sum.inr (A55 g h b d f e g.N (A2 ((g.Ad.length:Int)-(1:Int))))
def A65 (f:B6) (g:Bool) (d:A6) (e:List A6) (a b c:Int):Option (((List A6)×Int)⊕(List A6)):=
 loop (fun (s:(Int×Int))=>A2T f g d e a s.1 s.2) (b,c)
def A2S (d e:B6) (f:Bool) (b:List A6) (a:Int):Option (((List A6)×Int)⊕(List A6)):=
 cond (decide (a<(d.Ad.length:Int))) (
  Option.bind (D1 d.Ad a) fun c=>
  A65 e f c b a 0 0)<|
 Option.map Sum.inr (some b)
def B1U (c d:B6) (e:Bool) (b:List A6) (a:Int):Option (List A6):=
 loop (fun (s:((List A6)×Int))=>A2S c d e s.1 s.2) (b,a)
def A36 (a b:B6) (c:Bool):Option (List A6):=
 B1U a b c ([]:List A6) 0
def A4D (h i:B6) (c b a:List A6):Option (((List A6)×(List A6)×(List A6))⊕(B6×Int)):=
 cond (decide ((A2 ((c.length:Int)+(b.length:Int)))>(0:Int))) (
  Option.bind (gd ((!((b.length:Int)==(0:Int)))&&(decide ((c.length:Int)>(0:Int)))) (D1 c 0)) fun g=>
  Option.bind (gd ((!((b.length:Int)==(0:Int)))&&(decide ((c.length:Int)>(0:Int)))) (D1 b 0)) fun f=>
  cond (((b.length:Int)==(0:Int))||((decide ((c.length:Int)>(0:Int)))&&(decide (g.V<=f.V)))) (
   Option.bind (D1 c 0) fun d=>
   ck (decide ((a.length+ [d].length)*24<=140737488355328))<|
   ck (decide (0<=(1:Int)/\1<=(c.length:Int)))<|
   some (.inl ((c.drop ((1:Int)).toNat),b,(a++ [d]))))<|
  Option.bind (D1 b 0) fun e=>
  ck (decide ((a.length+ [e].length)*24<=140737488355328))<|
  ck (decide (0<=(1:Int)/\1<=(b.length:Int)))<|
  some (.inl (c,(b.drop ((1:Int)).toNat),(a++ [e]))))<|
 Option.map Sum.inr (some ((B6.mk (A2 (h.N+i.N)) a),0))
def A8G (d e:B6) (c b a:List A6):Option (B6×Int):=
 loop (fun (s:((List A6)×(List A6)×(List A6)))=>A4D d e s.1 s.2.1 s.2.2) (c,b,a)
def A4l (e f:B6):Option (B6×Int):=
 Option.bind (S2 e) fun a=>
 cond (a !=0) (
  some ((B6.mk 0 []),a))<|
 Option.bind (S2 f) fun b=>
 cond (b !=0) (
  some ((B6.mk 0 []),b))<|
 cond (decide ((A2 (e.N+f.N))>1099511627776)) (
  some ((B6.mk 0 []),5))<|
 Option.bind (A36 e f true) fun c=>
 Option.bind (A36 f e false) fun d=>
 A8G e f c d ([]:List A6)
def B2S (a:Int):B6:=
 (B6.mk 1 [(A6.mk a 1 1)])
def A1v (f d:Int) (e:List A6) (b:Int) (c:List A6):Option ((Int×Int×(List A6))⊕(B6×Int)):=
 Option.bind (A4l (B6.mk d e) (B6.mk b c)) fun a=>
 cond (a.2 !=0) (
  some (.inr ((B6.mk 0 []),a.2)))<|
 some (.inl ((A2 (f+1)),a.1.N,a.1.Ad))
def A5K (f:List D5) (c a:Int) (b:List A6):Option ((Int×Int×(List A6))⊕(B6×Int)):=
 cond (decide (c<(f.length:Int))) (
  Option.bind (D1 f c) fun d=>
  cond ((c==0)&&(decide (d.Aw>0))) (
   let e:=(B2S d.Bc);
   A1v c a b e.N e.Ad)<|
  A1v c a b d.Az.N d.Az.Ad)<|
 Option.map Sum.inr (some ((B6.mk a b),0))
def A13 (d:List D5) (c a:Int) (b:List A6):Option (B6×Int):=
 loop (fun (s:(Int×Int×(List A6)))=>A5K d s.1 s.2.1 s.2.2) (c,a,b)
def A1w (d:List D5) (a:Int):Option (Int⊕(B6×Int)):=
 cond (decide (a<(d.length:Int))) (
  Option.bind (D1 d a) fun b=>
  Option.bind (S2 b.Az) fun c=>
  cond (((c !=0)||(decide (b.Aw<0)))||(decide (b.Aw>30))) (
   some (.inr ((B6.mk 0 []),2)))<|
  some (.inl (A2 (a+1))))<|
 Option.map Sum.inr (A13 d 0 0 [])
def B5E (b:List D5) (a:Int):Option (B6×Int):=
 loop (fun (s:Int)=>A1w b s) a
def A5J (a:List D5):Option (B6×Int):=
 B5E a 0
def B4U (f:List D5) (g:Int):Option (B4×Int):=
 Option.bind (A5J f) fun b=>
 cond (b.2 !=0) (
  some ((B4.mk (A4.mk 0 0) (A4.mk 0 0) (A4.mk 0 0)),b.2))<|
 cond ((f.length:Int)==(0:Int)) (
  Option.bind (P4 0) fun e=>
  some (e,0))<|
 Option.bind (B0J b.1 g) fun a=>
 cond (a.2 !=0) (
  some ((B4.mk (A4.mk 0 0) (A4.mk 0 0) (A4.mk 0 0)),a.2))<|
 Option.bind (D1 f 0) fun c=>
 ck (decide (0<=(A7 c.Aw)))<|
 Option.bind (Y3 a.1.Lo.Bl (A2 ((A2 (a.1.Hi.Bl+(D9 .i64 1 (A7 c.Aw))))-1))) fun d=>
 some (d.1,0)
def B2R (d:List D5) (b:List B7) (c:Int):Option (((List B7)×Int)⊕(List B7)):=
 cond (decide (c<(d.length:Int))) (
  Option.bind (D1 d c) fun a=>
  ck (decide ((b.length+ [(B7.mk a.T a.Aw)].length)*16<=140737488355328))<|
  some (.inl ((b++ [(B7.mk a.T a.Aw)]),(A2 (c+1)))))<|
 Option.map Sum.inr (some b)
def C0Q (c:List D5) (a:List B7) (b:Int):Option (List B7):=
 loop (fun (s:((List B7)×Int))=>B2R c s.1 s.2) (a,b)
def A9e (a:List D5):Option (List B7):=
 C0Q a ([]:List B7) 0
def A9f (c:List D5):Option Int:=
 Option.bind (A9e c) fun a=>
 Option.bind (A1n a) fun b=>
 some b
def C2d (e:B6) (b a:Int):Option ((Int×Int)⊕Int):=
 cond (decide (a<(e.Ad.length:Int))) (
  Option.bind (D1 e.Ad a) fun d=>
  Option.bind (D1 e.Ad (A2 (a-1))) fun c=>
  some (.inl ((P3 b (A2 (d.Bj-c.Bk))),(A2 (a+1)))))<|
 Option.map Sum.inr (some b)
def B6G (c:B6) (a b:Int):Option Int:=
 loop (fun (s:(Int×Int))=>C2d c s.1 s.2) (a,b)
def B2Q (b:B6):Option Int:=
 Option.bind (S2 b) fun a=>
 cond ((a !=0)||(b.N==0)) (
  some 0)<|
 B6G b 1 1
def A2U (d c b a:Int):Option ((Int×Int)⊕Int):=
 cond (decide (a<=d)) (
  ck (decide (0<=(A7 a)))<|
  cond (decide ((D9 .i64 1 (A7 a))>(A2 (c+1)))) (
   ck (decide (c≠0))<|
   some (.inl ((A2 ((A2 (2*b))+(A2 (Int.tdiv (A2 ((A2 ((A2 ((D9 .i64 1 (A7 a))-1))+c))-1)) c)))),(A2 (a+1)))))<|
  some (.inl (b,(A2 (a+1)))))<|
 Option.map Sum.inr (some b)
def B1V (c d a b:Int):Option Int:=
 loop (fun (s:(Int×Int))=>A2U c d s.1 s.2) (a,b)
def A6M (a b:Int):Option Int:=
 cond ((((decide (a<0))||(decide (a>30)))||(decide (b<1)))||(decide (b>65536))) (
  some (-1:Int))<|
 B1V a b 0 0
def A4E (j:List D5) (k c:Int):Option (Int⊕Bool):=
 cond (decide (c<(j.length:Int))) (
  Option.bind (D1 j c) fun a=>
  Option.bind (S2 a.Az) fun g=>
  ck (!(!(g !=0))||(decide (0<=(A7 a.Aw))))<|
  cond (((g !=0)||(a.Az.N !=(D9 .i64 1 (A7 a.Aw))))||(decide ((a.Az.Ad.length:Int)>(A2 (k+1))))) (
   some (.inr false))<|
  Option.bind (D1 a.Az.Ad 0) fun d=>
  Option.bind (D1 a.Az.Ad (A2 ((a.Az.Ad.length:Int)-(1:Int)))) fun b=>
  let e:=(H8 d.V);
  let f:=(H8 b.V);
  Option.bind (gd (!((((!e)||(!f))||(decide (a.Bc<d.V)))||(decide (a.Bc>b.V)))) (B2Q a.Az)) fun h=>
  Option.bind (gd (!((((!e)||(!f))||(decide (a.Bc<d.V)))||(decide (a.Bc>b.V)))) (A6M a.Aw k)) fun i=>
  cond (((((!e)||(!f))||(decide (a.Bc<d.V)))||(decide (a.Bc>b.V)))||(decide ((A2 (h-1))>i))) (
   some (.inr false))<|
  some (.inl (A2 (c+1))))<|
 Option.map Sum.inr (some true)
def B4d (b:List D5) (c a:Int):Option Bool:=
 loop (fun (s:Int)=>A4E b c s) a
def A9g (d:List D5) (e c:Int):Option Bool:=
 Option.bind (gd (!((decide (c<1))||(decide (c>65536)))) (A9e d)) fun b=>
 Option.bind (gd (!((decide (c<1))||(decide (c>65536)))) (A6m b e)) fun a=>
 cond (((decide (c<1))||(decide (c>65536)))||(!a)) (
  some false)<|
 B4d d c 0
def A5p (a b:Int):Option ((Int×Int)⊕Int):=
 cond (decide (a>0)) (
  some (.inl ((A2 (Int.tdiv a 2)),(A2 (b+1)))))<|
 Option.map Sum.inr (some b)
def A6E (a b:Int):Option Int:=
 loop (fun (s:(Int×Int))=>A5p s.1 s.2) (a,b)
def B0F (a:Int):Option Int:=
 A6E a 0
def A5M (d c:Int):Option Int:=
 let a:=(I6 d);
 cond (((!a)||(decide (c<1)))||(decide (c>65536))) (
  some 0)<|
 Option.bind (B0F c) fun b=>
 some (A2 ((A2 (2*d))*(A2 (b+2))))
def A2w (d:C4) (a:Int):Option (Int⊕Int):=
 cond (decide (a<(d.Ah.length:Int))) (
  Option.bind (D1 d.Ah a) fun b=>
  let c:=(F3 d.Now d.W b.T);
  cond (!c) (
   some (.inr 2))<|
  some (.inl (A2 (a+1))))<|
 Option.map Sum.inr (some 0)
def B0p (b:C4) (a:Int):Option Int:=
 loop (fun (s:Int)=>A2w b s) a
def A1x (f:C4):Option Int:=
 let b:=(I1 f.W f.Cap f.Now);
 let a:=(I6 f.K);
 Option.bind (gd (!((!b)||(!a))) (A5M f.K f.Cap)) fun d=>
 Option.bind (gd (!((!b)||(!a))) (A9g f.Ah (A2 (2*f.K)) d)) fun c=>
 Option.bind (gd (!(((!b)||(!a))||(!c))) (A9f f.Ah)) fun e=>
 cond ((((!b)||(!a))||(!c))||(decide (e>f.Cap))) (
  some 2)<|
 B0p f 0
def B0L (c:C4) (d:Int):Option (B4×Int):=
 Option.bind (A1x c) fun a=>
 cond (a !=0) (
  some ((B4.mk (A4.mk 0 0) (A4.mk 0 0) (A4.mk 0 0)),a))<|
 Option.bind (B4U c.Ah d) fun b=>
 some (b.1,b.2)
def B4T (d:B6) (e:Int):Option (Int×Int):=
 Option.bind (S2 d) fun a=>
 cond (a !=0) (
  some (0,a))<|
 cond ((decide (e<1))||(decide (e>d.N))) (
  some (0,1))<|
 Option.bind (A3B d.Ad e) fun b=>
 Option.bind (D1 d.Ad b) fun c=>
 some (c.V,0)
def A3q (e:B6) (f g:Int):Option (Int×Int):=
 Option.bind (S2 e) fun a=>
 cond (a !=0) (
  some (0,a))<|
 let c:=(U7 f g);
 cond (!c) (
  some (0,1))<|
 cond (e.N==0) (
  some (0,7))<|
 Option.bind (A0D f g e.N) fun d=>
 Option.bind (B4T e d) fun b=>
 some (b.1,b.2)
def A8H (c:List D5) (d e:Int):Option (Int×Int):=
 Option.bind (A5J c) fun a=>
 cond (a.2 !=0) (
  some (0,a.2))<|
 Option.bind (A3q a.1 d e) fun b=>
 some (b.1,b.2)
def A9h (d:C4) (e f:Int):Option (Int×Int):=
 Option.bind (A1x d) fun a=>
 cond (a !=0) (
  some (0,a))<|
 let c:=(U7 e f);
 cond (!c) (
  some (0,1))<|
 cond ((d.Ah.length:Int)==(0:Int)) (
  some (0,7))<|
 Option.bind (A8H d.Ah e f) fun b=>
 some (b.1,b.2)
def Q1 (h:E5) (a b c d e f g:Int):E5:=
 (E5.mk h.Ba a b c d e f g)
def A3s (b:E5) (a:Bool):E5:=
 cond a (
  Q1 b 0 b.W b.K b.Cap 0 0 0)<|
 cond (b.Ba==3) (
  Q1 b 0 b.W b.K b.Cap 0 0 b.Bj)<|
 cond (b.Ba==4) (
  Q1 b b.Bg b.W b.K b.Cap 0 0 0)<|
 cond (b.Ba==6) (
  Q1 b 0 0 0 0 b.P 0 0)<|
 cond (b.Ba==7) (
  Q1 b 0 b.W 0 0 0 0 0)<|
 cond (b.Ba==8) (
  Q1 b 0 b.W 0 b.Cap 0 0 b.Bj)<|
 cond (b.Ba==9) (
  Q1 b 0 b.W 0 b.Cap 0 b.Aj 0)<|
 cond (b.Ba==10) (
  Q1 b 0 0 b.K b.Cap 0 0 0)<|
 Q1 b 0 0 0 0 0 0 0
def B3o (a:E5):E5:=
 cond (a.Ba==1) (
  Q1 a 0 a.W 0 a.Cap 0 0 0)<|
 cond (a.Ba==2) (
  A3s a (a.Ba==2))<|
 cond (a.Ba==5) (
  A3s a (a.Ba==5))<|
 A3s a (a.Ba==11)
def A0Y (h:E5) (a b:Bool):Bool:=
 cond b (
  let g:=(I6 h.K);
  (a&&g))<|
 cond (h.Ba==3) (
  let c:=(I6 h.K);
  (((a&&c)&&(decide (h.Bj>=1)))&&(decide (h.Bj<=1024))))<|
 cond (h.Ba==4) (
  let d:=(I6 h.K);
  let e:=(T7 h.Bg);
  ((a&&d)&&e))<|
 cond (h.Ba==6) (
  ((decide (h.P>=0))&&(decide (h.P<=4))))<|
 cond (h.Ba==7) (
  ((decide (h.W>=1))&&(decide (h.W<=64))))<|
 cond (h.Ba==8) (
  (a&&((h.Bj==0)||(h.Bj==1))))<|
 cond (h.Ba==9) (
  ((((((decide (h.Aj>=1))&&(decide (h.Aj<=16)))&&(decide (h.W>=1)))&&(decide (h.W<=1048576)))&&(decide (h.Cap>=1)))&&(decide (h.Cap<=64))))<|
 cond (h.Ba==10) (
  let f:=(I6 h.K);
  ((f&&(decide (h.Cap>=2)))&&(decide (h.Cap<=65536))))<|
 false
def A70 (b:E5):Bool:=
 let a:=(I1 b.W b.Cap 0);
 cond (b.Ba==1) (
  a)<|
 cond (b.Ba==2) (
  A0Y b a (b.Ba==2))<|
 cond (b.Ba==5) (
  A0Y b a (b.Ba==5))<|
 A0Y b a (b.Ba==11)
def A0s (c:E5):Int:=
 let a:=(B3o c);
 let b:=(A70 c);
 cond ((!(c.Ba==a.Ba&&(c.Bg==a.Bg&&(c.W==a.W&&(c.K==a.K&&(c.Cap==a.Cap&&(c.P==a.P&&(c.Aj==a.Aj&&(c.Bj==a.Bj&&true)))))))))||(!b)) (
  1)<|
 0
def A3O (c:E5) (b:Int) (a:Bool):Bool:=
 cond a (
  (b==9))<|
 cond (c.Ba==8) (
  (b==6))<|
 cond (c.Ba==9) (
  (b==10))<|
 ((b==7)||(b==8))
def A37 (b:E5) (c:Int):Bool:=
 let a:=(A0s b);
 cond (a !=0) (
  false)<|
 cond (b.Ba==1) (
  ((decide (c>=1))&&(decide (c<=8))))<|
 cond (b.Ba==2) (
  (c==1))<|
 cond (b.Ba==3) (
  (c==2))<|
 cond (b.Ba==4) (
  (c==b.Bg))<|
 cond (b.Ba==5) (
  (c==5))<|
 cond (b.Ba==6) (
  A3O b c (b.Ba==6))<|
 A3O b c (b.Ba==7)
def N3 (m:C7) (i:C9) (a:D6) (b:E2) (c:D2) (d:D3) (e:D8) (j:Int) (k:List Int) (f:C8) (l:List D0) (g:B5) (h:C4):C7:=
 (C7.mk m.Ak i a b c d e (G2.mk j k) f (E4.mk l) g h)
def N6 (a:C7):C7:=
 cond (a.Ak.Ba==1) (
  N3 a a.Al (D6.mk 0 0 0 0 []) (E2.mk 0 0 0 0 0 []) (D2.mk 0 0 0 0 0 0 []) (D3.mk 0 0 0 0 0 []) (D8.mk 0 0 0 []) 0 ([]:List Int) (C8.mk false 0 0 0 []) ([]:List D0) (B5.mk 0 0 0 []) (C4.mk 0 0 0 0 []))<|
 cond (a.Ak.Ba==2) (
  N3 a (C9.mk 0 0 0 []) a.As (E2.mk 0 0 0 0 0 []) (D2.mk 0 0 0 0 0 0 []) (D3.mk 0 0 0 0 0 []) (D8.mk 0 0 0 []) 0 ([]:List Int) (C8.mk false 0 0 0 []) ([]:List D0) (B5.mk 0 0 0 []) (C4.mk 0 0 0 0 []))<|
 cond (a.Ak.Ba==3) (
  N3 a (C9.mk 0 0 0 []) (D6.mk 0 0 0 0 []) a.Sum (D2.mk 0 0 0 0 0 0 []) (D3.mk 0 0 0 0 0 []) (D8.mk 0 0 0 []) 0 ([]:List Int) (C8.mk false 0 0 0 []) ([]:List D0) (B5.mk 0 0 0 []) (C4.mk 0 0 0 0 []))<|
 cond (a.Ak.Ba==4) (
  N3 a (C9.mk 0 0 0 []) (D6.mk 0 0 0 0 []) (E2.mk 0 0 0 0 0 []) a.Ao (D3.mk 0 0 0 0 0 []) (D8.mk 0 0 0 []) 0 ([]:List Int) (C8.mk false 0 0 0 []) ([]:List D0) (B5.mk 0 0 0 []) (C4.mk 0 0 0 0 []))<|
 cond (a.Ak.Ba==5) (
  N3 a (C9.mk 0 0 0 []) (D6.mk 0 0 0 0 []) (E2.mk 0 0 0 0 0 []) (D2.mk 0 0 0 0 0 0 []) a.Ap (D8.mk 0 0 0 []) 0 ([]:List Int) (C8.mk false 0 0 0 []) ([]:List D0) (B5.mk 0 0 0 []) (C4.mk 0 0 0 0 []))<|
 cond (a.Ak.Ba==6) (
  N3 a (C9.mk 0 0 0 []) (D6.mk 0 0 0 0 []) (E2.mk 0 0 0 0 0 []) (D2.mk 0 0 0 0 0 0 []) (D3.mk 0 0 0 0 0 []) a.Be 0 ([]:List Int) (C8.mk false 0 0 0 []) ([]:List D0) (B5.mk 0 0 0 []) (C4.mk 0 0 0 0 []))<|
 cond (a.Ak.Ba==7) (
  N3 a (C9.mk 0 0 0 []) (D6.mk 0 0 0 0 []) (E2.mk 0 0 0 0 0 []) (D2.mk 0 0 0 0 0 0 []) (D3.mk 0 0 0 0 0 []) (D8.mk 0 0 0 []) a.Au.Now a.Au.Bf (C8.mk false 0 0 0 []) ([]:List D0) (B5.mk 0 0 0 []) (C4.mk 0 0 0 0 []))<|
 cond (a.Ak.Ba==8) (
  N3 a (C9.mk 0 0 0 []) (D6.mk 0 0 0 0 []) (E2.mk 0 0 0 0 0 []) (D2.mk 0 0 0 0 0 0 []) (D3.mk 0 0 0 0 0 []) (D8.mk 0 0 0 []) 0 ([]:List Int) a.Ae ([]:List D0) (B5.mk 0 0 0 []) (C4.mk 0 0 0 0 []))<|
 cond (a.Ak.Ba==9) (
  N3 a (C9.mk 0 0 0 []) (D6.mk 0 0 0 0 []) (E2.mk 0 0 0 0 0 []) (D2.mk 0 0 0 0 0 0 []) (D3.mk 0 0 0 0 0 []) (D8.mk 0 0 0 []) 0 ([]:List Int) (C8.mk false 0 0 0 []) a.Am.Aj (B5.mk 0 0 0 []) (C4.mk 0 0 0 0 []))<|
 cond (a.Ak.Ba==10) (
  N3 a (C9.mk 0 0 0 []) (D6.mk 0 0 0 0 []) (E2.mk 0 0 0 0 0 []) (D2.mk 0 0 0 0 0 0 []) (D3.mk 0 0 0 0 0 []) (D8.mk 0 0 0 []) 0 ([]:List Int) (C8.mk false 0 0 0 []) ([]:List D0) a.Ag (C4.mk 0 0 0 0 []))<|
 cond (a.Ak.Ba==11) (
  N3 a (C9.mk 0 0 0 []) (D6.mk 0 0 0 0 []) (E2.mk 0 0 0 0 0 []) (D2.mk 0 0 0 0 0 0 []) (D3.mk 0 0 0 0 0 []) (D8.mk 0 0 0 []) 0 ([]:List Int) (C8.mk false 0 0 0 []) ([]:List D0) (B5.mk 0 0 0 []) a.Ab)<|
 N3 a (C9.mk 0 0 0 []) (D6.mk 0 0 0 0 []) (E2.mk 0 0 0 0 0 []) (D2.mk 0 0 0 0 0 0 []) (D3.mk 0 0 0 0 0 []) (D8.mk 0 0 0 []) 0 ([]:List Int) (C8.mk false 0 0 0 []) ([]:List D0) (B5.mk 0 0 0 []) (C4.mk 0 0 0 0 [])
def A1S (d e:List B3) (a:Int):Option (Int⊕Bool):=
 cond (decide (a<(d.length:Int))) (
  Option.bind (D1 d a) fun b=>
  Option.bind (D1 e a) fun c=>
  cond (!(b.T==c.T&&(b.V==c.V&&true))) (
   some (.inr false))<|
  some (.inl (A2 (a+1))))<|
 Option.map Sum.inr (some true)
def A2n (b c:List B3) (a:Int):Option Bool:=
 loop (fun (s:Int)=>A1S b c s) a
def Z4 (a b:List B3):Option Bool:=
 cond ((a.length:Int) !=(b.length:Int)) (
  some false)<|
 A2n a b 0
def A5r (b c:C9):Option Bool:=
 Option.bind (gd (((b.W==c.W)&&(b.Cap==c.Cap))&&(b.Now==c.Now)) (Z4 b.Av c.Av)) fun a=>
 some ((((b.W==c.W)&&(b.Cap==c.Cap))&&(b.Now==c.Now))&&a)
def A3f (d e:List B7) (a:Int):Option (Int⊕Bool):=
 cond (decide (a<(d.length:Int))) (
  Option.bind (D1 d a) fun b=>
  Option.bind (D1 e a) fun c=>
  cond (!(b.T==c.T&&(b.Aw==c.Aw&&true))) (
   some (.inr false))<|
  some (.inl (A2 (a+1))))<|
 Option.map Sum.inr (some true)
def A9T (b c:List B7) (a:Int):Option Bool:=
 loop (fun (s:Int)=>A3f b c s) a
def A3M (a b:List B7):Option Bool:=
 cond ((a.length:Int) !=(b.length:Int)) (
  some false)<|
 A9T a b 0
def A5v (b c:D6):Option Bool:=
 Option.bind (gd ((((b.W==c.W)&&(b.K==c.K))&&(b.Cap==c.Cap))&&(b.Now==c.Now)) (A3M b.Ac c.Ac)) fun a=>
 some (((((b.W==c.W)&&(b.K==c.K))&&(b.Cap==c.Cap))&&(b.Now==c.Now))&&a)
def A5w (b c:E2):Option Bool:=
 Option.bind (gd (((((b.W==c.W)&&(b.K==c.K))&&(b.Cap==c.Cap))&&(b.Bj==c.Bj))&&(b.Now==c.Now)) (A3M b.Ac c.Ac)) fun a=>
 some ((((((b.W==c.W)&&(b.K==c.K))&&(b.Cap==c.Cap))&&(b.Bj==c.Bj))&&(b.Now==c.Now))&&a)
def A0l (d e:List D7) (c:Int):Option (Int⊕Bool):=
 cond (decide (c<(d.length:Int))) (
  Option.bind (D1 d c) fun a=>
  Option.bind (D1 e c) fun b=>
  cond (!(a.Bm==b.Bm&&(a.T==b.T&&(a.N==b.N&&(a.S==b.S&&(a.Q==b.Q&&(a.Bk==b.Bk&&(a.Bj==b.Bj&&true)))))))) (
   some (.inr false))<|
  some (.inl (A2 (c+1))))<|
 Option.map Sum.inr (some true)
def A4Y (b c:List D7) (a:Int):Option Bool:=
 loop (fun (s:Int)=>A0l b c s) a
def Z6 (a b:List D7):Option Bool:=
 cond ((a.length:Int) !=(b.length:Int)) (
  some false)<|
 A4Y a b 0
def A5x (b c:D2):Option Bool:=
 Option.bind (gd ((((((b.Bg==c.Bg)&&(b.W==c.W))&&(b.K==c.K))&&(b.Cap==c.Cap))&&(b.Now==c.Now))&&(b.Bm==c.Bm)) (Z6 b.Ay c.Ay)) fun a=>
 some (((((((b.Bg==c.Bg)&&(b.W==c.W))&&(b.K==c.K))&&(b.Cap==c.Cap))&&(b.Now==c.Now))&&(b.Bm==c.Bm))&&a)
def A5y (b c:D3):Option Bool:=
 Option.bind (gd (((((b.W==c.W)&&(b.K==c.K))&&(b.Cap==c.Cap))&&(b.Now==c.Now))&&(b.Bm==c.Bm)) (Z6 b.Ay c.Ay)) fun a=>
 some ((((((b.W==c.W)&&(b.K==c.K))&&(b.Cap==c.Cap))&&(b.Now==c.Now))&&(b.Bm==c.Bm))&&a)
def A0F (d e:List A1) (a:Int):Option (Int⊕Bool):=
 cond (decide (a<(d.length:Int))) (
  Option.bind (D1 d a) fun b=>
  Option.bind (D1 e a) fun c=>
  cond (!(b.Hi==c.Hi&&(b.Lo==c.Lo&&true))) (
   some (.inr false))<|
  some (.inl (A2 (a+1))))<|
 Option.map Sum.inr (some true)
def A53 (b c:List A1) (a:Int):Option Bool:=
 loop (fun (s:Int)=>A0F b c s) a
def A1t (a b:List A1):Option Bool:=
 cond ((a.length:Int) !=(b.length:Int)) (
  some false)<|
 A53 a b 0
def A5z (b c:D8):Option Bool:=
 Option.bind (gd (((b.P==c.P)&&(b.Bb==c.Bb))&&(b.Now==c.Now)) (A1t b.Af c.Af)) fun a=>
 some ((((b.P==c.P)&&(b.Bb==c.Bb))&&(b.Now==c.Now))&&a)
def A5A (b c:G2):Option Bool:=
 Option.bind (gd (b.Now==c.Now) (R6 b.Bf c.Bf)) fun a=>
 some ((b.Now==c.Now)&&a)
def A5B (b c:C8):Option Bool:=
 Option.bind (gd ((((b.Bj==c.Bj)&&(b.W==c.W))&&(b.Cap==c.Cap))&&(b.Now==c.Now)) (Z4 b.Av c.Av)) fun a=>
 some (((((b.Bj==c.Bj)&&(b.W==c.W))&&(b.Cap==c.Cap))&&(b.Now==c.Now))&&a)
def A8F (d e:D0) (a:Int):Option (Int⊕Bool):=
 cond (decide (a<(d.Ax.length:Int))) (
  Option.bind (D1 d.Ax a) fun b=>
  Option.bind (D1 e.Ax a) fun c=>
  cond (!(b.I==c.I&&(b.V==c.V&&true))) (
   some (.inr false))<|
  some (.inl (A2 (a+1))))<|
 Option.map Sum.inr (some true)
def A9U (b c:D0) (a:Int):Option Bool:=
 loop (fun (s:Int)=>A8F b c s) a
def B0H (a b:D0):Option Bool:=
 cond (((((a.W !=b.W)||(a.Cap !=b.Cap))||(a.I !=b.I))||(a.Bd !=b.Bd))||((a.Ax.length:Int) !=(b.Ax.length:Int))) (
  some false)<|
 A9U a b 0
def A5D (e f:E4) (a:Int):Option (Int⊕Bool):=
 cond (decide (a<(e.Aj.length:Int))) (
  Option.bind (D1 e.Aj a) fun c=>
  Option.bind (D1 f.Aj a) fun d=>
  Option.bind (B0H c d) fun b=>
  cond (!b) (
   some (.inr false))<|
  some (.inl (A2 (a+1))))<|
 Option.map Sum.inr (some true)
def A6L (b c:E4) (a:Int):Option Bool:=
 loop (fun (s:Int)=>A5D b c s) a
def A5C (a b:E4):Option Bool:=
 cond ((a.Aj.length:Int) !=(b.Aj.length:Int)) (
  some false)<|
 A6L a b 0
def A3o (d e:B5) (a:Int):Option (Int⊕Bool):=
 cond (decide (a<(d.Aq.length:Int))) (
  Option.bind (D1 d.Aq a) fun b=>
  Option.bind (D1 e.Aq a) fun c=>
  cond (!(b.V==c.V&&(b.G==c.G&&(b.D==c.D&&true)))) (
   some (.inr false))<|
  some (.inl (A2 (a+1))))<|
 Option.map Sum.inr (some true)
def A9V (b c:B5) (a:Int):Option Bool:=
 loop (fun (s:Int)=>A3o b c s) a
def A5F (a b:B5):Option Bool:=
 cond ((((a.K !=b.K)||(a.Cap !=b.Cap))||(a.N !=b.N))||((a.Aq.length:Int) !=(b.Aq.length:Int))) (
  some false)<|
 A9V a b 0
def A5H (d e:B6) (a:Int):Option (Int⊕Bool):=
 cond (decide (a<(d.Ad.length:Int))) (
  Option.bind (D1 d.Ad a) fun b=>
  Option.bind (D1 e.Ad a) fun c=>
  cond (!(b.V==c.V&&(b.Bk==c.Bk&&(b.Bj==c.Bj&&true)))) (
   some (.inr false))<|
  some (.inl (A2 (a+1))))<|
 Option.map Sum.inr (some true)
def B5D (b c:B6) (a:Int):Option Bool:=
 loop (fun (s:Int)=>A5H b c s) a
def B0K (a b:B6):Option Bool:=
 cond ((a.N !=b.N)||((a.Ad.length:Int) !=(b.Ad.length:Int))) (
  some false)<|
 B5D a b 0
def A3r (k l:List D5) (a:Int):Option (Int⊕Bool):=
 cond (decide (a<(k.length:Int))) (
  Option.bind (D1 k a) fun b=>
  Option.bind (D1 l a) fun c=>
  Option.bind (gd (!(b.T !=c.T)) (D1 k a)) fun d=>
  Option.bind (gd (!(b.T !=c.T)) (D1 l a)) fun e=>
  Option.bind (gd (!((b.T !=c.T)||(d.Bc !=e.Bc))) (D1 k a)) fun f=>
  Option.bind (gd (!((b.T !=c.T)||(d.Bc !=e.Bc))) (D1 l a)) fun g=>
  Option.bind (gd (!(((b.T !=c.T)||(d.Bc !=e.Bc))||(f.Aw !=g.Aw))) (D1 k a)) fun h=>
  Option.bind (gd (!(((b.T !=c.T)||(d.Bc !=e.Bc))||(f.Aw !=g.Aw))) (D1 l a)) fun i=>
  Option.bind (gd (!(((b.T !=c.T)||(d.Bc !=e.Bc))||(f.Aw !=g.Aw))) (B0K h.Az i.Az)) fun j=>
  cond ((((b.T !=c.T)||(d.Bc !=e.Bc))||(f.Aw !=g.Aw))||(!j)) (
   some (.inr false))<|
  some (.inl (A2 (a+1))))<|
 Option.map Sum.inr (some true)
def A9W (b c:List D5) (a:Int):Option Bool:=
 loop (fun (s:Int)=>A3r b c s) a
def A5I (a b:List D5):Option Bool:=
 cond ((a.length:Int) !=(b.length:Int)) (
  some false)<|
 A9W a b 0
def A5L (b c:C4):Option Bool:=
 Option.bind (gd ((((b.W==c.W)&&(b.K==c.K))&&(b.Cap==c.Cap))&&(b.Now==c.Now)) (A5I b.Ah c.Ah)) fun a=>
 some (((((b.W==c.W)&&(b.K==c.K))&&(b.Cap==c.Cap))&&(b.Now==c.Now))&&a)
def B0M (l m:C7):Option Bool:=
 Option.bind (gd (l.Ak.Ba==m.Ak.Ba&&(l.Ak.Bg==m.Ak.Bg&&(l.Ak.W==m.Ak.W&&(l.Ak.K==m.Ak.K&&(l.Ak.Cap==m.Ak.Cap&&(l.Ak.P==m.Ak.P&&(l.Ak.Aj==m.Ak.Aj&&(l.Ak.Bj==m.Ak.Bj&&true)))))))) (A5r l.Al m.Al)) fun a=>
 Option.bind (gd ((l.Ak.Ba==m.Ak.Ba&&(l.Ak.Bg==m.Ak.Bg&&(l.Ak.W==m.Ak.W&&(l.Ak.K==m.Ak.K&&(l.Ak.Cap==m.Ak.Cap&&(l.Ak.P==m.Ak.P&&(l.Ak.Aj==m.Ak.Aj&&(l.Ak.Bj==m.Ak.Bj&&true))))))))&&a) (A5v l.As m.As)) fun b=>
 Option.bind (gd (((l.Ak.Ba==m.Ak.Ba&&(l.Ak.Bg==m.Ak.Bg&&(l.Ak.W==m.Ak.W&&(l.Ak.K==m.Ak.K&&(l.Ak.Cap==m.Ak.Cap&&(l.Ak.P==m.Ak.P&&(l.Ak.Aj==m.Ak.Aj&&(l.Ak.Bj==m.Ak.Bj&&true))))))))&&a)&&b) (A5w l.Sum m.Sum)) fun c=>
 Option.bind (gd ((((l.Ak.Ba==m.Ak.Ba&&(l.Ak.Bg==m.Ak.Bg&&(l.Ak.W==m.Ak.W&&(l.Ak.K==m.Ak.K&&(l.Ak.Cap==m.Ak.Cap&&(l.Ak.P==m.Ak.P&&(l.Ak.Aj==m.Ak.Aj&&(l.Ak.Bj==m.Ak.Bj&&true))))))))&&a)&&b)&&c) (A5x l.Ao m.Ao)) fun d=>
 Option.bind (gd (((((l.Ak.Ba==m.Ak.Ba&&(l.Ak.Bg==m.Ak.Bg&&(l.Ak.W==m.Ak.W&&(l.Ak.K==m.Ak.K&&(l.Ak.Cap==m.Ak.Cap&&(l.Ak.P==m.Ak.P&&(l.Ak.Aj==m.Ak.Aj&&(l.Ak.Bj==m.Ak.Bj&&true))))))))&&a)&&b)&&c)&&d) (A5y l.Ap m.Ap)) fun e=>
 Option.bind (gd ((((((l.Ak.Ba==m.Ak.Ba&&(l.Ak.Bg==m.Ak.Bg&&(l.Ak.W==m.Ak.W&&(l.Ak.K==m.Ak.K&&(l.Ak.Cap==m.Ak.Cap&&(l.Ak.P==m.Ak.P&&(l.Ak.Aj==m.Ak.Aj&&(l.Ak.Bj==m.Ak.Bj&&true))))))))&&a)&&b)&&c)&&d)&&e) (A5z l.Be m.Be)) fun f=>
 Option.bind (gd (((((((l.Ak.Ba==m.Ak.Ba&&(l.Ak.Bg==m.Ak.Bg&&(l.Ak.W==m.Ak.W&&(l.Ak.K==m.Ak.K&&(l.Ak.Cap==m.Ak.Cap&&(l.Ak.P==m.Ak.P&&(l.Ak.Aj==m.Ak.Aj&&(l.Ak.Bj==m.Ak.Bj&&true))))))))&&a)&&b)&&c)&&d)&&e)&&f) (A5A l.Au m.Au)) fun g=>
 Option.bind (gd ((((((((l.Ak.Ba==m.Ak.Ba&&(l.Ak.Bg==m.Ak.Bg&&(l.Ak.W==m.Ak.W&&(l.Ak.K==m.Ak.K&&(l.Ak.Cap==m.Ak.Cap&&(l.Ak.P==m.Ak.P&&(l.Ak.Aj==m.Ak.Aj&&(l.Ak.Bj==m.Ak.Bj&&true))))))))&&a)&&b)&&c)&&d)&&e)&&f)&&g) (A5B l.Ae m.Ae)) fun h=>
 Option.bind (gd (((((((((l.Ak.Ba==m.Ak.Ba&&(l.Ak.Bg==m.Ak.Bg&&(l.Ak.W==m.Ak.W&&(l.Ak.K==m.Ak.K&&(l.Ak.Cap==m.Ak.Cap&&(l.Ak.P==m.Ak.P&&(l.Ak.Aj==m.Ak.Aj&&(l.Ak.Bj==m.Ak.Bj&&true))))))))&&a)&&b)&&c)&&d)&&e)&&f)&&g)&&h) (A5C l.Am m.Am)) fun i=>
 Option.bind (gd ((((((((((l.Ak.Ba==m.Ak.Ba&&(l.Ak.Bg==m.Ak.Bg&&(l.Ak.W==m.Ak.W&&(l.Ak.K==m.Ak.K&&(l.Ak.Cap==m.Ak.Cap&&(l.Ak.P==m.Ak.P&&(l.Ak.Aj==m.Ak.Aj&&(l.Ak.Bj==m.Ak.Bj&&true))))))))&&a)&&b)&&c)&&d)&&e)&&f)&&g)&&h)&&i) (A5F l.Ag m.Ag)) fun j=>
 Option.bind (gd (((((((((((l.Ak.Ba==m.Ak.Ba&&(l.Ak.Bg==m.Ak.Bg&&(l.Ak.W==m.Ak.W&&(l.Ak.K==m.Ak.K&&(l.Ak.Cap==m.Ak.Cap&&(l.Ak.P==m.Ak.P&&(l.Ak.Aj==m.Ak.Aj&&(l.Ak.Bj==m.Ak.Bj&&true))))))))&&a)&&b)&&c)&&d)&&e)&&f)&&g)&&h)&&i)&&j) (A5L l.Ab m.Ab)) fun k=>
 some ((((((((((((l.Ak.Ba==m.Ak.Ba&&(l.Ak.Bg==m.Ak.Bg&&(l.Ak.W==m.Ak.W&&(l.Ak.K==m.Ak.K&&(l.Ak.Cap==m.Ak.Cap&&(l.Ak.P==m.Ak.P&&(l.Ak.Aj==m.Ak.Aj&&(l.Ak.Bj==m.Ak.Bj&&true))))))))&&a)&&b)&&c)&&d)&&e)&&f)&&g)&&h)&&i)&&j)&&k)
def B0N (n:C7):Option Bool:=
 cond (n.Ak.Ba==1) (
  Option.bind (V7 n.Al) fun k=>
  some (((k==0)&&(n.Al.W==n.Ak.W))&&(n.Al.Cap==n.Ak.Cap)))<|
 cond (n.Ak.Ba==2) (
  Option.bind (A3g n.As) fun l=>
  some ((((l==0)&&(n.As.W==n.Ak.W))&&(n.As.K==n.Ak.K))&&(n.As.Cap==n.Ak.Cap)))<|
 cond (n.Ak.Ba==3) (
  Option.bind (A3h n.Sum) fun m=>
  some (((((m==0)&&(n.Sum.W==n.Ak.W))&&(n.Sum.K==n.Ak.K))&&(n.Sum.Cap==n.Ak.Cap))&&(n.Sum.Bj==n.Ak.Bj)))<|
 cond (n.Ak.Ba==4) (
  Option.bind (A3i n.Ao) fun d=>
  some (((((d==0)&&(n.Ao.Bg==n.Ak.Bg))&&(n.Ao.W==n.Ak.W))&&(n.Ao.K==n.Ak.K))&&(n.Ao.Cap==n.Ak.Cap)))<|
 cond (n.Ak.Ba==5) (
  Option.bind (A3j n.Ap) fun e=>
  some ((((e==0)&&(n.Ap.W==n.Ak.W))&&(n.Ap.K==n.Ak.K))&&(n.Ap.Cap==n.Ak.Cap)))<|
 cond (n.Ak.Ba==6) (
  Option.bind (A3k n.Be) fun f=>
  some ((f==0)&&(n.Be.P==n.Ak.P)))<|
 cond (n.Ak.Ba==7) (
  Option.bind (A3l n.Au) fun g=>
  some ((g==0)&&((n.Au.Bf.length:Int)==n.Ak.W)))<|
 cond (n.Ak.Ba==8) (
  Option.bind (A3m n.Ae) fun h=>
  some ((((h==0)&&(n.Ae.Bj==(n.Ak.Bj==1)))&&(n.Ae.W==n.Ak.W))&&(n.Ae.Cap==n.Ak.Cap)))<|
 cond (n.Ak.Ba==9) (
  Option.bind (A1u n.Am) fun a=>
  Option.bind (gd ((a==0)&&((n.Am.Aj.length:Int)==n.Ak.Aj)) (D1 n.Am.Aj 0)) fun b=>
  Option.bind (gd (((a==0)&&((n.Am.Aj.length:Int)==n.Ak.Aj))&&(b.W==n.Ak.W)) (D1 n.Am.Aj 0)) fun c=>
  some ((((a==0)&&((n.Am.Aj.length:Int)==n.Ak.Aj))&&(b.W==n.Ak.W))&&(c.Cap==n.Ak.Cap)))<|
 cond (n.Ak.Ba==10) (
  Option.bind (A3p n.Ag) fun i=>
  some (((i==0)&&(n.Ag.K==n.Ak.K))&&(n.Ag.Cap==n.Ak.Cap)))<|
 cond (n.Ak.Ba==11) (
  Option.bind (A1x n.Ab) fun j=>
  some ((((j==0)&&(n.Ab.W==n.Ak.W))&&(n.Ab.K==n.Ak.K))&&(n.Ab.Cap==n.Ak.Cap)))<|
 some false
def A5N (e:C7):Option Int:=
 let a:=(A0s e.Ak);
 Option.bind (gd (!(a !=0)) (B0N e)) fun b=>
 let c:=(N6 e);
 Option.bind (gd (!((a !=0)||(!b))) (B0M e c)) fun d=>
 cond (((a !=0)||(!b))||(!d)) (
  some 2)<|
 some 0
def K6 (b:Int) (d:Bool) (c:Int) (a:C5):Option (C5×Int):=
 cond (b !=0) (
  some ((C5.mk (B4.mk (A4.mk 0 0) (A4.mk 0 0) (A4.mk 0 0)) ([]:List Int) (C1.mk (A1.mk 0 0) (A1.mk 0 0))),b))<|
 cond d (
  some ((C5.mk a.Ai [c] a.Aa),0))<|
 some (a,0)
def B2T (p:C7) (q:Q2):Option (C5×Int):=
 Option.bind (A5N p) fun n=>
 cond (n !=0) (
  some ((C5.mk (B4.mk (A4.mk 0 0) (A4.mk 0 0) (A4.mk 0 0)) ([]:List Int) (C1.mk (A1.mk 0 0) (A1.mk 0 0))),n))<|
 let o:=(A37 p.Ak q.Op);
 cond (!o) (
  some ((C5.mk (B4.mk (A4.mk 0 0) (A4.mk 0 0) (A4.mk 0 0)) ([]:List Int) (C1.mk (A1.mk 0 0) (A1.mk 0 0))),12))<|
 cond (p.Ak.Ba==1) (
  Option.bind (B2F p.Al q) fun a=>
  K6 a.2 false 0 a.1)<|
 cond (p.Ak.Ba==2) (
  Option.bind (B2G p.As) fun b=>
  K6 b.2 false 0 (C5.mk b.1 ([]:List Int) (C1.mk (A1.mk 0 0) (A1.mk 0 0))))<|
 cond (p.Ak.Ba==3) (
  Option.bind (B2H p.Sum) fun c=>
  K6 c.2 false 0 (C5.mk c.1 ([]:List Int) (C1.mk (A1.mk 0 0) (A1.mk 0 0))))<|
 cond (p.Ak.Ba==4) (
  Option.bind (B2I p.Ao) fun d=>
  K6 d.2 false 0 (C5.mk d.1 ([]:List Int) (C1.mk (A1.mk 0 0) (A1.mk 0 0))))<|
 cond (p.Ak.Ba==5) (
  Option.bind (B2J p.Ap) fun e=>
  K6 e.2 false 0 (C5.mk e.1 ([]:List Int) (C1.mk (A1.mk 0 0) (A1.mk 0 0))))<|
 cond (p.Ak.Ba==6) (
  Option.bind (B2K p.Be) fun f=>
  K6 f.2 false 0 (C5.mk (B4.mk (A4.mk 0 0) (A4.mk 0 0) (A4.mk 0 0)) ([]:List Int) f.1))<|
 cond (p.Ak.Ba==7) (
  Option.bind (B2M p.Au) fun g=>
  K6 g.2 false 0 (C5.mk (B4.mk (A4.mk 0 0) (A4.mk 0 0) (A4.mk 0 0)) ([]:List Int) g.1))<|
 cond (p.Ak.Ba==8) (
  Option.bind (B2N p.Ae) fun h=>
  K6 h.2 true h.1 (C5.mk (B4.mk (A4.mk 0 0) (A4.mk 0 0) (A4.mk 0 0)) ([]:List Int) (C1.mk (A1.mk 0 0) (A1.mk 0 0))))<|
 cond (p.Ak.Ba==9) (
  Option.bind (B2P p.Am) fun i=>
  K6 i.2 false 0 (C5.mk (B4.mk (A4.mk 0 0) (A4.mk 0 0) (A4.mk 0 0)) i.1 (C1.mk (A1.mk 0 0) (A1.mk 0 0))))<|
 cond (p.Ak.Ba==10) (
  cond (q.Op==7) (
   Option.bind (B0I p.Ag q.A) fun j=>
   K6 j.2 false 0 (C5.mk j.1 ([]:List Int) (C1.mk (A1.mk 0 0) (A1.mk 0 0))))<|
  Option.bind (A5E p.Ag q.A q.B) fun k=>
  K6 k.2 true k.1 (C5.mk (B4.mk (A4.mk 0 0) (A4.mk 0 0) (A4.mk 0 0)) ([]:List Int) (C1.mk (A1.mk 0 0) (A1.mk 0 0))))<|
 cond (p.Ak.Ba==11) (
  cond (q.Op==7) (
   Option.bind (B0L p.Ab q.A) fun l=>
   K6 l.2 false 0 (C5.mk l.1 ([]:List Int) (C1.mk (A1.mk 0 0) (A1.mk 0 0))))<|
  Option.bind (A9h p.Ab q.A q.B) fun m=>
  K6 m.2 true m.1 (C5.mk (B4.mk (A4.mk 0 0) (A4.mk 0 0) (A4.mk 0 0)) ([]:List Int) (C1.mk (A1.mk 0 0) (A1.mk 0 0))))<|
 K6 0 false 0 (C5.mk (B4.mk (A4.mk 0 0) (A4.mk 0 0) (A4.mk 0 0)) ([]:List Int) (C1.mk (A1.mk 0 0) (A1.mk 0 0)))
def A8d (f d a b:Int):Option ((Int×Int×Int)⊕(A1×Bool)):=
 cond (decide (d>0)) (
  let e:=(H7 f);
  Option.bind (A3T (A1.mk a b) e) fun c=>
  cond (!c.2) (
   some (.inr ((A1.mk 0 0),false)))<|
  some (.inl ((A2 (d-1)),c.1.Hi,c.1.Lo)))<|
 Option.map Sum.inr (some ((A1.mk a b),true))
def A9j (d c a b:Int):Option (A1×Bool):=
 loop (fun (s:(Int×Int×Int))=>A8d d s.1 s.2.1 s.2.2) (c,a,b)
def B43 (c d:Int):Option (A1×Bool):=
 cond (decide (d<0)) (
  some ((A1.mk 0 0),false))<|
 cond (decide (c<=1)) (
  cond ((c==0)&&(decide (d>0))) (
   some ((A1.mk 0 0),true))<|
  let b:=(H7 1);
  some (b,true))<|
 let a:=(H7 1);
 A9j c d a.Hi a.Lo
def B4N (d:D8):Option (C1×Int):=
 Option.bind (A34 d) fun a=>
 cond (a !=0) (
  some ((C1.mk (A1.mk 0 0) (A1.mk 0 0)),a))<|
 Option.bind (B43 (A7 (A2 ((A2 (d.Now-d.Bb))+1))) d.P) fun b=>
 Option.bind (D1 d.Af d.P) fun c=>
 some ((C1.mk c b.1),0)
def A6C (c:C4) (d:Int):Option (B4×Int):=
 Option.bind (A0b c) fun a=>
 cond (a !=0) (
  some ((B4.mk (A4.mk 0 0) (A4.mk 0 0) (A4.mk 0 0)),a))<|
 Option.bind (B3a c.Ah d) fun b=>
 some (b.1,b.2)
def A5j (c:C4) (d e:Int):Option (Int×Int):=
 Option.bind (A0b c) fun a=>
 cond (a !=0) (
  some (0,a))<|
 Option.bind (A7q c.Ah d e) fun b=>
 some (b.1,b.2)
def V5 (a:Int):Option (C5×Int):=
 let b:=(Q8 a);
 Option.bind (Q3 b) fun c=>
 some ((C5.mk c ([]:List Int) (C1.mk (A1.mk 0 0) (A1.mk 0 0))),0)
def A5n (l:C9) (k:Q2):Option (C5×Int):=
 Option.bind (A0X l) fun b=>
 cond (b !=0) (
  some ((C5.mk (B4.mk (A4.mk 0 0) (A4.mk 0 0) (A4.mk 0 0)) ([]:List Int) (C1.mk (A1.mk 0 0) (A1.mk 0 0))),b))<|
 Option.bind (A83 l.Av) fun c=>
 Option.bind (A5e l.Av) fun d=>
 cond (k.Op==1) (
  let e:=(A82 l.Av);
  V5 e)<|
 cond (k.Op==2) (
  Option.bind (B2r l.Av) fun f=>
  V5 f.1)<|
 cond (k.Op==3) (
  Option.bind (A6w l.Av) fun g=>
  V5 g.1)<|
 cond (k.Op==4) (
  V5 (A2 (d.1-c.1)))<|
 cond (k.Op==5) (
  Option.bind (A7D l.Av) fun h=>
  Option.bind (Q3 h.1) fun i=>
  some ((C5.mk i ([]:List Int) (C1.mk (A1.mk 0 0) (A1.mk 0 0))),0))<|
 cond (k.Op==6) (
  cond ((l.Av.length:Int)==(0:Int)) (
   some ((C5.mk (B4.mk (A4.mk 0 0) (A4.mk 0 0) (A4.mk 0 0)) ([]:List Int) (C1.mk (A1.mk 0 0) (A1.mk 0 0))),7))<|
  some ((C5.mk (B4.mk (A4.mk 0 0) (A4.mk 0 0) (A4.mk 0 0)) [c.1,d.1] (C1.mk (A1.mk 0 0) (A1.mk 0 0))),0))<|
 cond (k.Op==7) (
  Option.bind (A7C l.Av k.A) fun j=>
  V5 j)<|
 cond (k.Op==8) (
  cond (((decide (k.B<1))||(decide (k.A<0)))||(decide (k.A>k.B))) (
   some ((C5.mk (B4.mk (A4.mk 0 0) (A4.mk 0 0) (A4.mk 0 0)) ([]:List Int) (C1.mk (A1.mk 0 0) (A1.mk 0 0))),1))<|
  Option.bind (A5g l.Av k.A k.B) fun a=>
  cond (!a.2) (
   some ((C5.mk (B4.mk (A4.mk 0 0) (A4.mk 0 0) (A4.mk 0 0)) ([]:List Int) (C1.mk (A1.mk 0 0) (A1.mk 0 0))),7))<|
  some ((C5.mk (B4.mk (A4.mk 0 0) (A4.mk 0 0) (A4.mk 0 0)) [a.1] (C1.mk (A1.mk 0 0) (A1.mk 0 0))),0))<|
 some ((C5.mk (B4.mk (A4.mk 0 0) (A4.mk 0 0) (A4.mk 0 0)) ([]:List Int) (C1.mk (A1.mk 0 0) (A1.mk 0 0))),12)
def A1y (e:E4) (c:List Int) (a:Int):Option (((List Int)×Int)⊕((List Int)×Int)):=
 cond (decide (a<(e.Aj.length:Int))) (
  Option.bind (D1 e.Aj a) fun d=>
  Option.bind (A7c d) fun b=>
  cond (b.2 !=0) (
   some (.inr ([],b.2)))<|
  ck (decide ((c.length+ [b.1].length)*8<=140737488355328))<|
  some (.inl ((c++ [b.1]),(A2 (a+1)))))<|
 Option.map Sum.inr (some (c,0))
def A9X (c:E4) (b:List Int) (a:Int):Option ((List Int)×Int):=
 loop (fun (s:((List Int)×Int))=>A1y c s.1 s.2) (b,a)
def A5P (b:E4):Option ((List Int)×Int):=
 Option.bind (S5 b) fun a=>
 cond (a !=0) (
  some ([],a))<|
 A9X b ([]:List Int) 0
def B0R (p:D2):Option (B4×Int):=
 Option.bind (A2y p) fun c=>
 cond (c !=0) (
  some ((B4.mk (A4.mk 0 0) (A4.mk 0 0) (A4.mk 0 0)),c))<|
 cond ((p.Ay.length:Int)==(0:Int)) (
  let j:=(Q8 0);
  Option.bind (Q3 j) fun k=>
  some (k,0))<|
 Option.bind (D1 p.Ay 0) fun a=>
 let l:=(W8 p.Now p.W a.T);
 cond l (
  let m:=(P0 a p.Bg);
  let n:=(Q8 m);
  Option.bind (Q3 n) fun o=>
  some (o,0))<|
 Option.bind (D1 p.Ay 1) fun b=>
 cond (b.Bm==(A2 (a.Bm+1))) (
  let d:=(P0 b p.Bg);
  let e:=(Q8 d);
  Option.bind (Q3 e) fun f=>
  some (f,0))<|
 let g:=(P0 b p.Bg);
 let h:=(P0 a p.Bg);
 let i:=(L4 g h);
 some (i.1,0)
def A9P (d:Bool) (e f:A1):Option (A4×Bool):=
 Option.bind (B15 e f) fun c=>
 Option.bind (A2I e c) fun a=>
 Option.bind (A2I f c) fun b=>
 cond (((((a.1.Hi !=0)||(b.1.Hi !=0))||(decide (b.1.Lo>=9223372036854775808)))||(decide (a.1.Lo>9223372036854775808)))||((a.1.Lo==9223372036854775808)&&(!d))) (
  some ((A4.mk 0 0),false))<|
 cond d (
  some ((A4.mk (A2 (IntKind.u64.wrap (0-a.1.Lo))) (A2 b.1.Lo)),true))<|
 some ((A4.mk (A2 a.1.Lo) (A2 b.1.Lo)),true)
def B0E (g f:Int):Option (A4×Bool):=
 cond (f==0) (
  some ((A4.mk 0 0),false))<|
 let c:=(X1 g);
 let d:=(H7 c);
 let e:=(X1 f);
 let b:=(H7 e);
 Option.bind (A9P (!((decide (g<0))==(decide (f<0)))) d b) fun a=>
 some (a.1,a.2)
def A9w (d:D7):Option (A4×Bool):=
 let b:=(A3w d);
 cond (!b) (
  some ((A4.mk 0 0),false))<|
 let c:=(Z7 d);
 Option.bind (B0E c d.N) fun a=>
 some (a.1,a.2)
def B0T (k:D3):Option (B4×Int):=
 Option.bind (A2z k) fun d=>
 cond (d !=0) (
  some ((B4.mk (A4.mk 0 0) (A4.mk 0 0) (A4.mk 0 0)),d))<|
 cond ((k.Ay.length:Int)==(0:Int)) (
  let g:=(Q8 0);
  Option.bind (Q3 g) fun h=>
  some (h,0))<|
 Option.bind (D1 k.Ay 0) fun b=>
 Option.bind (A9w b) fun e=>
 let i:=(W8 k.Now k.W b.T);
 cond i (
  Option.bind (Q3 e.1) fun j=>
  some (j,0))<|
 Option.bind (D1 k.Ay 1) fun c=>
 Option.bind (A9w c) fun a=>
 cond (c.Bm==(A2 (b.Bm+1))) (
  Option.bind (Q3 a.1) fun f=>
  some (f,0))<|
 some ((B4.mk a.1 a.1 e.1),0)
def B7d (c:E2):Option (B4×Int):=
 Option.bind (A42 c) fun a=>
 cond (a !=0) (
  some ((B4.mk (A4.mk 0 0) (A4.mk 0 0) (A4.mk 0 0)),a))<|
 Option.bind (A3W c.Ac) fun b=>
 some (b,0)
def A0m (e:B5) (d:List A6) (b c:Int):Option (((List A6)×Int×Int)⊕(List A6)):=
 cond (decide (c<(e.Aq.length:Int))) (
  Option.bind (D1 e.Aq c) fun a=>
  ck (decide ((d.length+ [(A6.mk a.V (A2 (b+a.G)) (A2 ((A2 (b+a.G))+a.D)))].length)*24<=140737488355328))<|
  some (.inl ((d++ [(A6.mk a.V (A2 (b+a.G)) (A2 ((A2 (b+a.G))+a.D)))]),(A2 (b+a.G)),(A2 (c+1)))))<|
 Option.map Sum.inr (some d)
def A9B (d:B5) (b:List A6) (c a:Int):Option (List A6):=
 loop (fun (s:((List A6)×Int×Int))=>A0m d s.1 s.2.1 s.2.2) (b,c,a)
def A2A (a:B5):Option (List A6):=
 A9B a ([]:List A6) 0 0
def A5S (d e f:Int):Option Int:=
 let b:=(M7 (A7 e) (A7 d));
 let c:=(H7 (A7 f));
 Option.bind (A2I b c) fun a=>
 cond (!(a.2.1.Hi==0&&(a.2.1.Lo==0&&true))) (
  some (P3 1 (A2 (A7 (a.1.Lo+1)))))<|
 some (P3 1 (A2 a.1.Lo))
def A1h (c:Int) (e:List A6) (d f b:Int):Option ((Int×Int×Int)⊕(Int×Int)):=
 cond (decide (b<(e.length:Int))) (
  Option.bind (D1 e b) fun a=>
  cond ((decide (d<0))||(decide ((P3 (A2 (c-a.Bk)) (A2 (a.Bj-c)))<d))) (
   some (.inl ((P3 (A2 (c-a.Bk)) (A2 (a.Bj-c))),a.V,(A2 (b+1)))))<|
  some (.inl (d,f,(A2 (b+1)))))<|
 Option.map Sum.inr (some (f,0))
def A4u (e:Int) (a:List A6) (b c d:Int):Option (Int×Int):=
 loop (fun (s:(Int×Int×Int))=>A1h e a s.1 s.2.1 s.2.2) (b,c,d)
def A3Q (d:B5) (e f:Int):Option (Int×Int):=
 Option.bind (A0t d) fun a=>
 cond (a !=0) (
  some (0,a))<|
 cond (((decide (f<1))||(decide (e<0)))||(decide (e>f))) (
  some (0,1))<|
 cond (d.N==0) (
  some (0,7))<|
 Option.bind (A5S d.N e f) fun c=>
 Option.bind (A2A d) fun b=>
 A4u c b (-1:Int) 0 0
def A74 (b c:Int):Option (B4×Int):=
 let a:=(L4 b c);
 some (a.1,0)
def A68 (e:B5) (f:Int) (c:List A6) (d a:Int):Option ((Int×Int)⊕(B4×Int)):=
 cond (decide (a<(c.length:Int))) (
  Option.bind (D1 c a) fun b=>
  cond (decide (b.V>f)) (
   Option.map Sum.inr (A74 d (A2 (b.Bj-1))))<|
  some (.inl (b.Bk,(A2 (a+1)))))<|
 Option.map Sum.inr (A74 d e.N)
def A75 (d:B5) (e:Int) (b:List A6) (c a:Int):Option (B4×Int):=
 loop (fun (s:(Int×Int))=>A68 d e b s.1 s.2) (c,a)
def A73 (c:B5) (d:Int):Option (B4×Int):=
 Option.bind (A0t c) fun a=>
 cond (a !=0) (
  some ((B4.mk (A4.mk 0 0) (A4.mk 0 0) (A4.mk 0 0)),a))<|
 Option.bind (A2A c) fun b=>
 A75 c d b 0 0
def M8 (b c:Int) (d:Bool) (a:C5):Option (C5×Int):=
 cond (b !=0) (
  some ((C5.mk (B4.mk (A4.mk 0 0) (A4.mk 0 0) (A4.mk 0 0)) ([]:List Int) (C1.mk (A1.mk 0 0) (A1.mk 0 0))),b))<|
 cond d (
  some ((C5.mk a.Ai [c] a.Aa),0))<|
 some (a,0)
def A77 (p:C7) (q:Q2):Option (C5×Int):=
 Option.bind (A1c p) fun c=>
 cond (c !=0) (
  some ((C5.mk (B4.mk (A4.mk 0 0) (A4.mk 0 0) (A4.mk 0 0)) ([]:List Int) (C1.mk (A1.mk 0 0) (A1.mk 0 0))),c))<|
 let o:=(A5c p.Ak q.Op);
 cond (!o) (
  some ((C5.mk (B4.mk (A4.mk 0 0) (A4.mk 0 0) (A4.mk 0 0)) ([]:List Int) (C1.mk (A1.mk 0 0) (A1.mk 0 0))),12))<|
 cond (p.Ak.Ba==1) (
  Option.bind (A5n p.Al q) fun d=>
  some (d.1,d.2))<|
 cond (p.Ak.Ba==2) (
  Option.bind (B2m p.As) fun e=>
  M8 e.2 0 false (C5.mk e.1 ([]:List Int) (C1.mk (A1.mk 0 0) (A1.mk 0 0))))<|
 cond (p.Ak.Ba==3) (
  Option.bind (B7d p.Sum) fun f=>
  M8 f.2 0 false (C5.mk f.1 ([]:List Int) (C1.mk (A1.mk 0 0) (A1.mk 0 0))))<|
 cond (p.Ak.Ba==4) (
  Option.bind (B0R p.Ao) fun g=>
  M8 g.2 0 false (C5.mk g.1 ([]:List Int) (C1.mk (A1.mk 0 0) (A1.mk 0 0))))<|
 cond (p.Ak.Ba==5) (
  Option.bind (B0T p.Ap) fun h=>
  M8 h.2 0 false (C5.mk h.1 ([]:List Int) (C1.mk (A1.mk 0 0) (A1.mk 0 0))))<|
 cond (p.Ak.Ba==6) (
  Option.bind (B4N p.Be) fun i=>
  M8 i.2 0 false (C5.mk (B4.mk (A4.mk 0 0) (A4.mk 0 0) (A4.mk 0 0)) ([]:List Int) i.1))<|
 cond (p.Ak.Ba==7) (
  Option.bind (B2u p.Au) fun j=>
  M8 j.2 0 false (C5.mk (B4.mk (A4.mk 0 0) (A4.mk 0 0) (A4.mk 0 0)) ([]:List Int) j.1))<|
 cond (p.Ak.Ba==8) (
  Option.bind (A84 p.Ae) fun k=>
  M8 k.2 k.1 true (C5.mk (B4.mk (A4.mk 0 0) (A4.mk 0 0) (A4.mk 0 0)) ([]:List Int) (C1.mk (A1.mk 0 0) (A1.mk 0 0))))<|
 cond (p.Ak.Ba==9) (
  Option.bind (A5P p.Am) fun l=>
  M8 l.2 0 false (C5.mk (B4.mk (A4.mk 0 0) (A4.mk 0 0) (A4.mk 0 0)) l.1 (C1.mk (A1.mk 0 0) (A1.mk 0 0))))<|
 cond (p.Ak.Ba==10) (
  cond (q.Op==7) (
   Option.bind (A73 p.Ag q.A) fun a=>
   cond (a.2 !=0) (
    some ((C5.mk (B4.mk (A4.mk 0 0) (A4.mk 0 0) (A4.mk 0 0)) ([]:List Int) (C1.mk (A1.mk 0 0) (A1.mk 0 0))),a.2))<|
   some ((C5.mk a.1 ([]:List Int) (C1.mk (A1.mk 0 0) (A1.mk 0 0))),0))<|
  Option.bind (A3Q p.Ag q.A q.B) fun m=>
  M8 m.2 m.1 true (C5.mk (B4.mk (A4.mk 0 0) (A4.mk 0 0) (A4.mk 0 0)) ([]:List Int) (C1.mk (A1.mk 0 0) (A1.mk 0 0))))<|
 cond (p.Ak.Ba==11) (
  cond (q.Op==7) (
   Option.bind (A6C p.Ab q.A) fun b=>
   cond (b.2 !=0) (
    some ((C5.mk (B4.mk (A4.mk 0 0) (A4.mk 0 0) (A4.mk 0 0)) ([]:List Int) (C1.mk (A1.mk 0 0) (A1.mk 0 0))),b.2))<|
   some ((C5.mk b.1 ([]:List Int) (C1.mk (A1.mk 0 0) (A1.mk 0 0))),0))<|
  Option.bind (A5j p.Ab q.A q.B) fun n=>
  M8 n.2 n.1 true (C5.mk (B4.mk (A4.mk 0 0) (A4.mk 0 0) (A4.mk 0 0)) ([]:List Int) (C1.mk (A1.mk 0 0) (A1.mk 0 0))))<|
 M8 c 0 false (C5.mk (B4.mk (A4.mk 0 0) (A4.mk 0 0) (A4.mk 0 0)) ([]:List Int) (C1.mk (A1.mk 0 0) (A1.mk 0 0)))
def A5Z (g:C7) (h:Q2):Option Bool:=
 Option.bind (B2x g) fun d=>
 cond (!d) (
  Option.bind A6e fun e=>
  some e)<|
 Option.bind (A77 g h) fun a=>
 Option.bind (B2T g h) fun b=>
 Option.bind (A3L a.1 b.1) fun c=>
 Option.bind (gd (c&&(a.2==b.2)) A6e) fun f=>
 some ((c&&(a.2==b.2))&&f)
def B6v (b c d:Int):(C9×Int):=
 let a:=(I1 b c d);
 cond (!a) (
  ((C9.mk 0 0 0 []),1))<|
 ((C9.mk b c d []),0)
def B6w (c d e f:Int):(D6×Int):=
 let a:=(I1 c e f);
 let b:=(I6 d);
 cond ((!a)||(!b)) (
  ((D6.mk 0 0 0 0 []),1))<|
 ((D6.mk c d e f []),0)
def B6x (d e f g h:Int):(E2×Int):=
 let b:=(I1 d f h);
 let c:=(I6 e);
 let a:=(A1K g);
 cond (((!b)||(!c))||(!a)) (
  ((E2.mk 0 0 0 0 0 []),1))<|
 ((E2.mk d e f g h []),0)
def B6y (d e f g h:Int):(D2×Int):=
 let b:=(T7 d);
 let c:=(I1 e g h);
 let a:=(I6 f);
 cond (((!b)||(!c))||(!a)) (
  ((D2.mk 0 0 0 0 0 0 []),1))<|
 ((D2.mk d e f g h 0 []),0)
def B6z (c d e f:Int):(D3×Int):=
 let a:=(I1 c e f);
 let b:=(I6 d);
 cond ((!a)||(!b)) (
  ((D3.mk 0 0 0 0 0 []),1))<|
 ((D3.mk c d e f 0 []),0)
def B2L (b c:Int):Option (D8×Int):=
 let a:=(G3 c);
 cond (((decide (b<0))||(decide (b>4)))||(!a)) (
  some ((D8.mk 0 0 0 []),1))<|
 ck (decide (0<=(A2 (b+1))/\(A2 (b+1))<=(A2 (b+1))/\(A2 (b+(1:Int)))*16<=140737488355328/\(A2 (b+(1:Int)))<=140737488355328))<|
 some ((D8.mk b c c (List.replicate ((A2 (b+(1:Int)))).toNat (A1.mk 0 0))),0)
def B6C (b c:Int):Option (G2×Int):=
 let a:=(G3 c);
 cond (((decide (b<1))||(decide (b>64)))||(!a)) (
  some ((G2.mk 0 []),1))<|
 ck (decide (0<=b/\b<=b/\b*8<=140737488355328/\b<=140737488355328))<|
 some ((G2.mk c (List.replicate (b).toNat 0)),0)
def B6D (e:Bool) (b c d:Int):(C8×Int):=
 let a:=(I1 b c d);
 cond (!a) (
  ((C8.mk false 0 0 0 []),1))<|
 ((C8.mk e b c d []),0)
def Y1 (c b:Int):(D0×Int):=
 let a:=(S0 c);
 cond (((!a)||(decide (b<1)))||(decide (b>64))) (
  ((D0.mk 0 0 0 0 []),1))<|
 ((D0.mk c b 0 0 []),0)
def A6K (d e c:Int) (a:List D0):Option ((Int×(List D0))⊕(E4×Int)):=
 cond (decide (c>0)) (
  let b:=(Y1 d e);
  cond (b.2 !=0) (
   some (.inr ((E4.mk []),b.2)))<|
  ck (decide ((a.length+ [b.1].length)*56<=140737488355328))<|
  some (.inl ((A2 (c-1)),(a++ [b.1]))))<|
 Option.map Sum.inr (some ((E4.mk a),0))
def B1R (c d b:Int) (a:List D0):Option (E4×Int):=
 loop (fun (s:(Int×(List D0)))=>A6K c d s.1 s.2) (b,a)
def B6F (a b c:Int):Option (E4×Int):=
 cond ((decide (a<1))||(decide (a>16))) (
  some ((E4.mk []),1))<|
 B1R b c a ([]:List D0)
def B6H (c d e f:Int):(C4×Int):=
 let a:=(I1 c e f);
 let b:=(I6 d);
 cond ((!a)||(!b)) (
  ((C4.mk 0 0 0 0 []),1))<|
 ((C4.mk c d e f []),0)
def T8 (X:E5) (V W a:Int) (b:List B3) (c d e f:Int) (g:List B7) (h i j k l:Int) (m:List B7) (n o p q r s:Int) (t:List D7) (u v w x y:Int) (z:List D7) (A B C:Int) (D:List A1) (E:Int) (F:List Int) (G:Bool) (H I J:Int) (K:List B3) (L:List D0) (M N O:Int) (P:List M3) (Q R S T:Int) (U:List D5):Option (C7×Int):=
 some ((C7.mk X (C9.mk V W a b) (D6.mk c d e f g) (E2.mk h i j k l m) (D2.mk n o p q r s t) (D3.mk u v w x y z) (D8.mk A B C D) (G2.mk E F) (C8.mk G H I J K) (E4.mk L) (B5.mk M N O P) (C4.mk Q R S T U)),0)
def C1C (n:E5) (o:Int):Option (C7×Int):=
 let k:=(A0s n);
 cond (k !=0) (
  some ((C7.mk (E5.mk 0 0 0 0 0 0 0 0) (C9.mk 0 0 0 []) (D6.mk 0 0 0 0 []) (E2.mk 0 0 0 0 0 []) (D2.mk 0 0 0 0 0 0 []) (D3.mk 0 0 0 0 0 []) (D8.mk 0 0 0 []) (G2.mk 0 []) (C8.mk false 0 0 0 []) (E4.mk []) (B5.mk 0 0 0 []) (C4.mk 0 0 0 0 [])),k))<|
 let m:=(G3 o);
 cond (!m) (
  some ((C7.mk (E5.mk 0 0 0 0 0 0 0 0) (C9.mk 0 0 0 []) (D6.mk 0 0 0 0 []) (E2.mk 0 0 0 0 0 []) (D2.mk 0 0 0 0 0 0 []) (D3.mk 0 0 0 0 0 []) (D8.mk 0 0 0 []) (G2.mk 0 []) (C8.mk false 0 0 0 []) (E4.mk []) (B5.mk 0 0 0 []) (C4.mk 0 0 0 0 [])),1))<|
 cond (n.Ba==1) (
  let i:=(B6v n.W n.Cap o);
  T8 n i.1.W i.1.Cap i.1.Now i.1.Av 0 0 0 0 ([]:List B7) 0 0 0 0 0 ([]:List B7) 0 0 0 0 0 0 ([]:List D7) 0 0 0 0 0 ([]:List D7) 0 0 0 ([]:List A1) 0 ([]:List Int) false 0 0 0 ([]:List B3) ([]:List D0) 0 0 0 ([]:List M3) 0 0 0 0 [])<|
 cond (n.Ba==2) (
  let d:=(B6w n.W n.K n.Cap o);
  T8 n 0 0 0 ([]:List B3) d.1.W d.1.K d.1.Cap d.1.Now d.1.Ac 0 0 0 0 0 ([]:List B7) 0 0 0 0 0 0 ([]:List D7) 0 0 0 0 0 ([]:List D7) 0 0 0 ([]:List A1) 0 ([]:List Int) false 0 0 0 ([]:List B3) ([]:List D0) 0 0 0 ([]:List M3) 0 0 0 0 [])<|
 cond (n.Ba==3) (
  let b:=(B6x n.W n.K n.Cap n.Bj o);
  T8 n 0 0 0 ([]:List B3) 0 0 0 0 ([]:List B7) b.1.W b.1.K b.1.Cap b.1.Bj b.1.Now b.1.Ac 0 0 0 0 0 0 ([]:List D7) 0 0 0 0 0 ([]:List D7) 0 0 0 ([]:List A1) 0 ([]:List Int) false 0 0 0 ([]:List B3) ([]:List D0) 0 0 0 ([]:List M3) 0 0 0 0 [])<|
 cond (n.Ba==4) (
  let a:=(B6y n.Bg n.W n.K n.Cap o);
  T8 n 0 0 0 ([]:List B3) 0 0 0 0 ([]:List B7) 0 0 0 0 0 ([]:List B7) a.1.Bg a.1.W a.1.K a.1.Cap a.1.Now a.1.Bm a.1.Ay 0 0 0 0 0 ([]:List D7) 0 0 0 ([]:List A1) 0 ([]:List Int) false 0 0 0 ([]:List B3) ([]:List D0) 0 0 0 ([]:List M3) 0 0 0 0 [])<|
 cond (n.Ba==5) (
  let c:=(B6z n.W n.K n.Cap o);
  T8 n 0 0 0 ([]:List B3) 0 0 0 0 ([]:List B7) 0 0 0 0 0 ([]:List B7) 0 0 0 0 0 0 ([]:List D7) c.1.W c.1.K c.1.Cap c.1.Now c.1.Bm c.1.Ay 0 0 0 ([]:List A1) 0 ([]:List Int) false 0 0 0 ([]:List B3) ([]:List D0) 0 0 0 ([]:List M3) 0 0 0 0 [])<|
 cond (n.Ba==6) (
  Option.bind (B2L n.P o) fun g=>
  T8 n 0 0 0 ([]:List B3) 0 0 0 0 ([]:List B7) 0 0 0 0 0 ([]:List B7) 0 0 0 0 0 0 ([]:List D7) 0 0 0 0 0 ([]:List D7) g.1.P g.1.Bb g.1.Now g.1.Af 0 ([]:List Int) false 0 0 0 ([]:List B3) ([]:List D0) 0 0 0 ([]:List M3) 0 0 0 0 [])<|
 cond (n.Ba==7) (
  Option.bind (B6C n.W o) fun j=>
  T8 n 0 0 0 ([]:List B3) 0 0 0 0 ([]:List B7) 0 0 0 0 0 ([]:List B7) 0 0 0 0 0 0 ([]:List D7) 0 0 0 0 0 ([]:List D7) 0 0 0 ([]:List A1) j.1.Now j.1.Bf false 0 0 0 ([]:List B3) ([]:List D0) 0 0 0 ([]:List M3) 0 0 0 0 [])<|
 cond (n.Ba==8) (
  let e:=(B6D (n.Bj==1) n.W n.Cap o);
  T8 n 0 0 0 ([]:List B3) 0 0 0 0 ([]:List B7) 0 0 0 0 0 ([]:List B7) 0 0 0 0 0 0 ([]:List D7) 0 0 0 0 0 ([]:List D7) 0 0 0 ([]:List A1) 0 ([]:List Int) e.1.Bj e.1.W e.1.Cap e.1.Now e.1.Av ([]:List D0) 0 0 0 ([]:List M3) 0 0 0 0 [])<|
 cond (n.Ba==9) (
  Option.bind (B6F n.Aj n.W n.Cap) fun l=>
  T8 n 0 0 0 ([]:List B3) 0 0 0 0 ([]:List B7) 0 0 0 0 0 ([]:List B7) 0 0 0 0 0 0 ([]:List D7) 0 0 0 0 0 ([]:List D7) 0 0 0 ([]:List A1) 0 ([]:List Int) false 0 0 0 ([]:List B3) l.1.Aj 0 0 0 ([]:List M3) 0 0 0 0 [])<|
 cond (n.Ba==10) (
  let h:=(A0G n.K n.Cap);
  T8 n 0 0 0 ([]:List B3) 0 0 0 0 ([]:List B7) 0 0 0 0 0 ([]:List B7) 0 0 0 0 0 0 ([]:List D7) 0 0 0 0 0 ([]:List D7) 0 0 0 ([]:List A1) 0 ([]:List Int) false 0 0 0 ([]:List B3) ([]:List D0) h.1.K h.1.Cap h.1.N h.1.Aq 0 0 0 0 [])<|
 cond (n.Ba==11) (
  let f:=(B6H n.W n.K n.Cap o);
  T8 n 0 0 0 ([]:List B3) 0 0 0 0 ([]:List B7) 0 0 0 0 0 ([]:List B7) 0 0 0 0 0 0 ([]:List D7) 0 0 0 0 0 ([]:List D7) 0 0 0 ([]:List A1) 0 ([]:List Int) false 0 0 0 ([]:List B3) ([]:List D0) 0 0 0 ([]:List M3) f.1.W f.1.K f.1.Cap f.1.Now f.1.Ah)<|
 T8 n 0 0 0 ([]:List B3) 0 0 0 0 ([]:List B7) 0 0 0 0 0 ([]:List B7) 0 0 0 0 0 0 ([]:List D7) 0 0 0 0 0 ([]:List D7) 0 0 0 ([]:List A1) 0 ([]:List Int) false 0 0 0 ([]:List B3) ([]:List D0) 0 0 0 ([]:List M3) 0 0 0 0 ([]:List D5)
end
end Go.Win
