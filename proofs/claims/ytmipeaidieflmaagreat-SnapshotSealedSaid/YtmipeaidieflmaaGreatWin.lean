/- The functions of the program and of the statements, as functions on plain data: made by program out of the translated code. -/
import Derived.Test.YtmipeaidieflmaaGreatVc
set_option linter.unusedVariables false
namespace Go.Win
open Go.Vc Go.Dec
noncomputable section
structure F6 where
 V:Int
 Bk:Int
 Bj:Int
 deriving Inhabited
def C9 (p:F6):List AV:= [.int .i64 p.V, .int .i64 p.Bk, .int .i64 p.Bj]
def C4c (p:F6):Prop:=(E0 .i64) p.V/\(E0 .i64) p.Bk/\(E0 .i64) p.Bj
def P7 (p:F6):Prop:=(E0 .i64) p.V/\(E0 .i64) p.Bk/\(E0 .i64) p.Bj
structure H5 where
 N:Int
 Ad:(List F6)
 deriving Inhabited
def A2q (p:H5):List AV:= [.int .i64 p.N, .lst 3 false (List.map C9 p.Ad)]
def C4e (p:H5):Prop:=(E0 .i64) p.N/\(wfL C4c) p.Ad
def A7f (p:H5):Prop:=(E0 .i64) p.N/\(L8 P7) p.Ad
structure D1 where
 T:Int
 Bd:Int
 Aw:Int
 Ba:H5
 deriving Inhabited
def B7 (p:D1):List AV:= [.int .i64 p.T, .int .i64 p.Bd, .int .i64 p.Aw, .int .i64 p.Ba.N, .lst 3 false (List.map C9 p.Ba.Ad)]
def C39 (p:D1):Prop:=(E0 .i64) p.T/\(E0 .i64) p.Bd/\(E0 .i64) p.Aw/\C4e p.Ba
def R1 (p:D1):Prop:=(E0 .i64) p.T/\(E0 .i64) p.Bd/\(E0 .i64) p.Aw/\A7f p.Ba
structure A9 where
 T:Int
 Aw:Int
 deriving Inhabited
def B4 (p:A9):List AV:= [.int .i64 p.T, .int .i64 p.Aw]
def B5q (p:A9):Prop:=(E0 .i64) p.T/\(E0 .i64) p.Aw
def O8 (p:A9):Prop:=(E0 .i64) p.T/\(E0 .i64) p.Aw
structure H4 where
 I:Int
 V:Int
 deriving Inhabited
def D9 (p:H4):List AV:= [.int .i64 p.I, .int .i64 p.V]
def C44 (p:H4):Prop:=(E0 .i64) p.I/\(E0 .i64) p.V
def R8 (p:H4):Prop:=(E0 .i64) p.I/\(E0 .i64) p.V
structure C8 where
 W:Int
 Cap:Int
 I:Int
 Be:Int
 Ay:(List H4)
 deriving Inhabited
def B5 (p:C8):List AV:= [.int .i64 p.W, .int .i64 p.Cap, .int .i64 p.I, .int .i64 p.Be, .lst 2 false (List.map D9 p.Ay)]
def C4a (p:C8):Prop:=(E0 .i64) p.W/\(E0 .i64) p.Cap/\(E0 .i64) p.I/\(E0 .i64) p.Be/\(wfL C44) p.Ay
def R2 (p:C8):Prop:=(E0 .i64) p.W/\(E0 .i64) p.Cap/\(E0 .i64) p.I/\(E0 .i64) p.Be/\(L8 R8) p.Ay
structure E1 where
 Bb:Int
 Bh:Int
 W:Int
 K:Int
 Cap:Int
 P:Int
 Aj:Int
 Bj:Int
 deriving Inhabited
def J4 (p:E1):List AV:= [.int .i64 p.Bb, .int .i64 p.Bh, .int .i64 p.W, .int .i64 p.K, .int .i64 p.Cap, .int .i64 p.P, .int .i64 p.Aj, .int .i64 p.Bj]
def C12 (p:E1):Prop:=(E0 .i64) p.Bb/\(E0 .i64) p.Bh/\(E0 .i64) p.W/\(E0 .i64) p.K/\(E0 .i64) p.Cap/\(E0 .i64) p.P/\(E0 .i64) p.Aj/\(E0 .i64) p.Bj
def A0y (p:E1):Prop:=(E0 .i64) p.Bb/\(E0 .i64) p.Bh/\(E0 .i64) p.W/\(E0 .i64) p.K/\(E0 .i64) p.Cap/\(E0 .i64) p.P/\(E0 .i64) p.Aj/\(E0 .i64) p.Bj
structure G1 where
 W:Int
 K:Int
 Cap:Int
 Now:Int
 Ac:(List A9)
 deriving Inhabited
def N6 (p:G1):List AV:= [.int .i64 p.W, .int .i64 p.K, .int .i64 p.Cap, .int .i64 p.Now, .lst 2 false (List.map B4 p.Ac)]
def C4b (p:G1):Prop:=(E0 .i64) p.W/\(E0 .i64) p.K/\(E0 .i64) p.Cap/\(E0 .i64) p.Now/\(wfL B5q) p.Ac
def A4y (p:G1):Prop:=(E0 .i64) p.W/\(E0 .i64) p.K/\(E0 .i64) p.Cap/\(E0 .i64) p.Now/\(L8 O8) p.Ac
structure D7 where
 T:Int
 V:Int
 deriving Inhabited
def C6 (p:D7):List AV:= [.int .i64 p.T, .int .i64 p.V]
def B7Q (p:D7):Prop:=(E0 .i64) p.T/\(E0 .i64) p.V
def R7 (p:D7):Prop:=(E0 .i64) p.T/\(E0 .i64) p.V
structure E5 where
 Bj:Bool
 W:Int
 Cap:Int
 Now:Int
 Av:(List D7)
 deriving Inhabited
def J8 (p:E5):List AV:= [.sb p.Bj, .int .i64 p.W, .int .i64 p.Cap, .int .i64 p.Now, .lst 2 false (List.map C6 p.Av)]
def C0N (p:E5):Prop:=(fun _:Bool=>True) p.Bj/\(E0 .i64) p.W/\(E0 .i64) p.Cap/\(E0 .i64) p.Now/\(wfL B7Q) p.Av
def A20 (p:E5):Prop:=(fun _:Bool=>True) p.Bj/\(E0 .i64) p.W/\(E0 .i64) p.Cap/\(E0 .i64) p.Now/\(L8 R7) p.Av
structure J7 where
 Now:Int
 Bg:(List Int)
 deriving Inhabited
def A2p (p:J7):List AV:= [.int .i64 p.Now, .lst 1 false (List.map (eI .i64) p.Bg)]
def C4d (p:J7):Prop:=(E0 .i64) p.Now/\(wfL (E0 .i64)) p.Bg
def A4z (p:J7):Prop:=(E0 .i64) p.Now/\(L8 (E0 .i64)) p.Bg
structure C7 where
 Hi:Int
 Lo:Int
 deriving Inhabited
def E7 (p:C7):List AV:= [.int .u64 p.Hi, .int .u64 p.Lo]
def C46 (p:C7):Prop:=(E0 .u64) p.Hi/\(E0 .u64) p.Lo
def S0 (p:C7):Prop:=(E0 .u64) p.Hi/\(E0 .u64) p.Lo
structure G2 where
 P:Int
 Bc:Int
 Now:Int
 Af:(List C7)
 deriving Inhabited
def N5 (p:G2):List AV:= [.int .i64 p.P, .int .i64 p.Bc, .int .i64 p.Now, .lst 2 false (List.map E7 p.Af)]
def C45 (p:G2):Prop:=(E0 .i64) p.P/\(E0 .i64) p.Bc/\(E0 .i64) p.Now/\(wfL C46) p.Af
def A5I (p:G2):Prop:=(E0 .i64) p.P/\(E0 .i64) p.Bc/\(E0 .i64) p.Now/\(L8 S0) p.Af
structure E2 where
 W:Int
 K:Int
 Cap:Int
 Now:Int
 Ai:(List D1)
 deriving Inhabited
def I6 (p:E2):List AV:= [.int .i64 p.W, .int .i64 p.K, .int .i64 p.Cap, .int .i64 p.Now, .lst 5 false (List.map B7 p.Ai)]
def B9J (p:E2):Prop:=(E0 .i64) p.W/\(E0 .i64) p.K/\(E0 .i64) p.Cap/\(E0 .i64) p.Now/\(wfL C39) p.Ai
def A1X (p:E2):Prop:=(E0 .i64) p.W/\(E0 .i64) p.K/\(E0 .i64) p.Cap/\(E0 .i64) p.Now/\(L8 R1) p.Ai
structure E9 where
 W:Int
 Cap:Int
 Now:Int
 Av:(List D7)
 deriving Inhabited
def M9 (p:E9):List AV:= [.int .i64 p.W, .int .i64 p.Cap, .int .i64 p.Now, .lst 2 false (List.map C6 p.Av)]
def C13 (p:E9):Prop:=(E0 .i64) p.W/\(E0 .i64) p.Cap/\(E0 .i64) p.Now/\(wfL B7Q) p.Av
def A3T (p:E9):Prop:=(E0 .i64) p.W/\(E0 .i64) p.Cap/\(E0 .i64) p.Now/\(L8 R7) p.Av
structure I2 where
 Aj:(List C8)
 deriving Inhabited
def A1F (p:I2):List AV:= [.lst 5 false (List.map B5 p.Aj)]
def C15 (p:I2):Prop:=(wfL C4a) p.Aj
def A3U (p:I2):Prop:=(L8 R2) p.Aj
structure D0 where
 Bl:Int
 T:Int
 N:Int
 S:Int
 Q:Int
 Bk:Int
 Bj:Int
 deriving Inhabited
def A5 (p:D0):List AV:= [.int .i64 p.Bl, .int .i64 p.T, .int .i64 p.N, .int .i64 p.S, .int .i64 p.Q, .int .i64 p.Bk, .int .i64 p.Bj]
def B7R (p:D0):Prop:=(E0 .i64) p.Bl/\(E0 .i64) p.T/\(E0 .i64) p.N/\(E0 .i64) p.S/\(E0 .i64) p.Q/\(E0 .i64) p.Bk/\(E0 .i64) p.Bj
def R9 (p:D0):Prop:=(E0 .i64) p.Bl/\(E0 .i64) p.T/\(E0 .i64) p.N/\(E0 .i64) p.S/\(E0 .i64) p.Q/\(E0 .i64) p.Bk/\(E0 .i64) p.Bj
structure F0 where
 Bh:Int
 W:Int
 K:Int
 Cap:Int
 Now:Int
 Bl:Int
 Az:(List D0)
 deriving Inhabited
def J1 (p:F0):List AV:= [.int .i64 p.Bh, .int .i64 p.W, .int .i64 p.K, .int .i64 p.Cap, .int .i64 p.Now, .int .i64 p.Bl, .lst 7 false (List.map A5 p.Az)]
def C16 (p:F0):Prop:=(E0 .i64) p.Bh/\(E0 .i64) p.W/\(E0 .i64) p.K/\(E0 .i64) p.Cap/\(E0 .i64) p.Now/\(E0 .i64) p.Bl/\(wfL B7R) p.Az
def A3V (p:F0):Prop:=(E0 .i64) p.Bh/\(E0 .i64) p.W/\(E0 .i64) p.K/\(E0 .i64) p.Cap/\(E0 .i64) p.Now/\(E0 .i64) p.Bl/\(L8 R9) p.Az
structure F1 where
 W:Int
 K:Int
 Cap:Int
 Now:Int
 Bl:Int
 Az:(List D0)
 deriving Inhabited
def K2 (p:F1):List AV:= [.int .i64 p.W, .int .i64 p.K, .int .i64 p.Cap, .int .i64 p.Now, .int .i64 p.Bl, .lst 7 false (List.map A5 p.Az)]
def C17 (p:F1):Prop:=(E0 .i64) p.W/\(E0 .i64) p.K/\(E0 .i64) p.Cap/\(E0 .i64) p.Now/\(E0 .i64) p.Bl/\(wfL B7R) p.Az
def A3W (p:F1):Prop:=(E0 .i64) p.W/\(E0 .i64) p.K/\(E0 .i64) p.Cap/\(E0 .i64) p.Now/\(E0 .i64) p.Bl/\(L8 R9) p.Az
structure I0 where
 W:Int
 K:Int
 Cap:Int
 Bj:Int
 Now:Int
 Ac:(List A9)
 deriving Inhabited
def O6 (p:I0):List AV:= [.int .i64 p.W, .int .i64 p.K, .int .i64 p.Cap, .int .i64 p.Bj, .int .i64 p.Now, .lst 2 false (List.map B4 p.Ac)]
def C6T (p:I0):Prop:=(E0 .i64) p.W/\(E0 .i64) p.K/\(E0 .i64) p.Cap/\(E0 .i64) p.Bj/\(E0 .i64) p.Now/\(wfL B5q) p.Ac
def A6X (p:I0):Prop:=(E0 .i64) p.W/\(E0 .i64) p.K/\(E0 .i64) p.Cap/\(E0 .i64) p.Bj/\(E0 .i64) p.Now/\(L8 O8) p.Ac
structure E3 where
 V:Int
 G:Int
 D:Int
 deriving Inhabited
def D6 (p:E3):List AV:= [.int .i64 p.V, .int .i64 p.G, .int .i64 p.D]
def C4f (p:E3):Prop:=(E0 .i64) p.V/\(E0 .i64) p.G/\(E0 .i64) p.D
def R3 (p:E3):Prop:=(E0 .i64) p.V/\(E0 .i64) p.G/\(E0 .i64) p.D
structure D8 where
 K:Int
 Cap:Int
 N:Int
 Aq:(List E3)
 deriving Inhabited
def H7 (p:D8):List AV:= [.int .i64 p.K, .int .i64 p.Cap, .int .i64 p.N, .lst 3 false (List.map D6 p.Aq)]
def C0O (p:D8):Prop:=(E0 .i64) p.K/\(E0 .i64) p.Cap/\(E0 .i64) p.N/\(wfL C4f) p.Aq
def A21 (p:D8):Prop:=(E0 .i64) p.K/\(E0 .i64) p.Cap/\(E0 .i64) p.N/\(L8 R3) p.Aq
structure B0 where
 Ak:E1
 Al:E9
 Ar:G1
 Sum:I0
 Ao:F0
 Ap:F1
 Bf:G2
 Au:J7
 Ae:E5
 Am:I2
 Ah:D8
 Aa:E2
 deriving Inhabited
def G3 (p:B0):List AV:= [.int .i64 p.Ak.Bb, .int .i64 p.Ak.Bh, .int .i64 p.Ak.W, .int .i64 p.Ak.K, .int .i64 p.Ak.Cap, .int .i64 p.Ak.P, .int .i64 p.Ak.Aj, .int .i64 p.Ak.Bj, .int .i64 p.Al.W, .int .i64 p.Al.Cap, .int .i64 p.Al.Now, .lst 2 false (List.map C6 p.Al.Av), .int .i64 p.Ar.W, .int .i64 p.Ar.K, .int .i64 p.Ar.Cap, .int .i64 p.Ar.Now, .lst 2 false (List.map B4 p.Ar.Ac), .int .i64 p.Sum.W, .int .i64 p.Sum.K, .int .i64 p.Sum.Cap, .int .i64 p.Sum.Bj, .int .i64 p.Sum.Now, .lst 2 false (List.map B4 p.Sum.Ac), .int .i64 p.Ao.Bh, .int .i64 p.Ao.W, .int .i64 p.Ao.K, .int .i64 p.Ao.Cap, .int .i64 p.Ao.Now, .int .i64 p.Ao.Bl, .lst 7 false (List.map A5 p.Ao.Az), .int .i64 p.Ap.W, .int .i64 p.Ap.K, .int .i64 p.Ap.Cap, .int .i64 p.Ap.Now, .int .i64 p.Ap.Bl, .lst 7 false (List.map A5 p.Ap.Az), .int .i64 p.Bf.P, .int .i64 p.Bf.Bc, .int .i64 p.Bf.Now, .lst 2 false (List.map E7 p.Bf.Af), .int .i64 p.Au.Now, .lst 1 false (List.map (eI .i64) p.Au.Bg), .sb p.Ae.Bj, .int .i64 p.Ae.W, .int .i64 p.Ae.Cap, .int .i64 p.Ae.Now, .lst 2 false (List.map C6 p.Ae.Av), .lst 5 false (List.map B5 p.Am.Aj), .int .i64 p.Ah.K, .int .i64 p.Ah.Cap, .int .i64 p.Ah.N, .lst 3 false (List.map D6 p.Ah.Aq), .int .i64 p.Aa.W, .int .i64 p.Aa.K, .int .i64 p.Aa.Cap, .int .i64 p.Aa.Now, .lst 5 false (List.map B7 p.Aa.Ai)]
def B9K (p:B0):Prop:=C12 p.Ak/\C13 p.Al/\C4b p.Ar/\C6T p.Sum/\C16 p.Ao/\C17 p.Ap/\C45 p.Bf/\C4d p.Au/\C0N p.Ae/\C15 p.Am/\C0O p.Ah/\B9J p.Aa
def L2 (p:B0):Prop:=A0y p.Ak/\A3T p.Al/\A4y p.Ar/\A6X p.Sum/\A3V p.Ao/\A3W p.Ap/\A5I p.Bf/\A4z p.Au/\A20 p.Ae/\A3U p.Am/\A21 p.Ah/\A1X p.Aa
structure C4 where
 ID:Int
 Ab:B0
 deriving Inhabited
def A8 (p:C4):List AV:= [.int .i64 p.ID, .int .i64 p.Ab.Ak.Bb, .int .i64 p.Ab.Ak.Bh, .int .i64 p.Ab.Ak.W, .int .i64 p.Ab.Ak.K, .int .i64 p.Ab.Ak.Cap, .int .i64 p.Ab.Ak.P, .int .i64 p.Ab.Ak.Aj, .int .i64 p.Ab.Ak.Bj, .int .i64 p.Ab.Al.W, .int .i64 p.Ab.Al.Cap, .int .i64 p.Ab.Al.Now, .lst 2 false (List.map C6 p.Ab.Al.Av), .int .i64 p.Ab.Ar.W, .int .i64 p.Ab.Ar.K, .int .i64 p.Ab.Ar.Cap, .int .i64 p.Ab.Ar.Now, .lst 2 false (List.map B4 p.Ab.Ar.Ac), .int .i64 p.Ab.Sum.W, .int .i64 p.Ab.Sum.K, .int .i64 p.Ab.Sum.Cap, .int .i64 p.Ab.Sum.Bj, .int .i64 p.Ab.Sum.Now, .lst 2 false (List.map B4 p.Ab.Sum.Ac), .int .i64 p.Ab.Ao.Bh, .int .i64 p.Ab.Ao.W, .int .i64 p.Ab.Ao.K, .int .i64 p.Ab.Ao.Cap, .int .i64 p.Ab.Ao.Now, .int .i64 p.Ab.Ao.Bl, .lst 7 false (List.map A5 p.Ab.Ao.Az), .int .i64 p.Ab.Ap.W, .int .i64 p.Ab.Ap.K, .int .i64 p.Ab.Ap.Cap, .int .i64 p.Ab.Ap.Now, .int .i64 p.Ab.Ap.Bl, .lst 7 false (List.map A5 p.Ab.Ap.Az), .int .i64 p.Ab.Bf.P, .int .i64 p.Ab.Bf.Bc, .int .i64 p.Ab.Bf.Now, .lst 2 false (List.map E7 p.Ab.Bf.Af), .int .i64 p.Ab.Au.Now, .lst 1 false (List.map (eI .i64) p.Ab.Au.Bg), .sb p.Ab.Ae.Bj, .int .i64 p.Ab.Ae.W, .int .i64 p.Ab.Ae.Cap, .int .i64 p.Ab.Ae.Now, .lst 2 false (List.map C6 p.Ab.Ae.Av), .lst 5 false (List.map B5 p.Ab.Am.Aj), .int .i64 p.Ab.Ah.K, .int .i64 p.Ab.Ah.Cap, .int .i64 p.Ab.Ah.N, .lst 3 false (List.map D6 p.Ab.Ah.Aq), .int .i64 p.Ab.Aa.W, .int .i64 p.Ab.Aa.K, .int .i64 p.Ab.Aa.Cap, .int .i64 p.Ab.Aa.Now, .lst 5 false (List.map B7 p.Ab.Aa.Ai)]
def C14 (p:C4):Prop:=(E0 .i64) p.ID/\B9K p.Ab
def M4 (p:C4):Prop:=(E0 .i64) p.ID/\L2 p.Ab
structure B9 where
 Now:Int
 Ax:Int
 Ag:(List C4)
 deriving Inhabited
def V2 (p:B9):List AV:= [.int .i64 p.Now, .int .i64 p.Ax, .lst 58 false (List.map A8 p.Ag)]
def D0C (p:B9):Prop:=(E0 .i64) p.Now/\(E0 .i64) p.Ax/\(wfL C14) p.Ag
def G7 (p:B9):Prop:=(E0 .i64) p.Now/\(E0 .i64) p.Ax/\(L8 M4) p.Ag
structure A6 where
 L:(List Int)
 At:Int
 Bi:Bool
 deriving Inhabited
def A7m (p:A6):List AV:= [.lst 1 false (List.map (eI .i64) p.L), .int .i64 p.At, .sb p.Bi]
def C9J (p:A6):Prop:=(wfL (E0 .i64)) p.L/\(E0 .i64) p.At/\(fun _:Bool=>True) p.Bi
def C9q (p:A6):Prop:=(L8 (E0 .i64)) p.L/\(E0 .i64) p.At/\(fun _:Bool=>True) p.Bi
def A86 (b a:Int):Option (Int×Bool):=
 cond ((a==0)||((b==(-9223372036854775808:Int))&&(a==(-1:Int)))) (
  some (0,false))<|
 ck (decide (a≠0))<|
 ck (decide (a≠0))<|
 cond (((Int.tmod b a) !=0)&&((decide (b<0))==(decide (a<0)))) (
  some ((A3 ((A3 (Int.tdiv b a))+1)),true))<|
 some ((A3 (Int.tdiv b a)),true)
def A2A (e d b a:Int):Option ((Int×Int)⊕Int):=
 cond (decide (a<=e)) (
  ck (decide (0<=(F3 a)))<|
  cond (decide ((R5 .i64 1 (F3 a))>(A3 (d+1)))) (
   Option.bind (A86 (A3 ((R5 .i64 1 (F3 a))-1)) d) fun c=>
   some (.inl ((A3 ((A3 (2*b))+c.1)),(A3 (a+1)))))<|
  some (.inl (b,(A3 (a+1)))))<|
 Option.map Sum.inr (some b)
def B0a (c d a b:Int):Option Int:=
 loop (fun (s:(Int×Int))=>A2A c d s.1 s.2) (a,b)
def A5L (a b:Int):Option Int:=
 cond ((((decide (a<0))||(decide (a>30)))||(decide (b<1)))||(decide (b>65536))) (
  some (-1:Int))<|
 B0a a b 0 0
def A1M (d:List D1) (b:List A9) (c:Int):Option (((List A9)×Int)⊕(List A9)):=
 cond (decide (c<(d.length:Int))) (
  Option.bind (E4 d c) fun a=>
  ck (decide ((b.length+ [(A9.mk a.T a.Aw)].length)*16<=140737488355328))<|
  some (.inl ((b++ [(A9.mk a.T a.Aw)]),(A3 (c+1)))))<|
 Option.map Sum.inr (some b)
def B2p (c:List D1) (a:List A9) (b:Int):Option (List A9):=
 loop (fun (s:((List A9)×Int))=>A1M c s.1 s.2) (a,b)
def A3w (a:List D1):Option (List A9):=
 B2p a ([]:List A9) 0
def A08 (a:Int):Bool:=
 ((decide (a>=0))&&(decide (a<=30)))
def B64 (e:List A9) (b a:Int):Option ((Int×Int)⊕Int):=
 cond (decide (a<(e.length:Int))) (
  Option.bind (E4 e a) fun c=>
  let d:=(A08 c.Aw);
  cond d (
   ck (decide (0<=(F3 c.Aw)))<|
   some (.inl ((A3 (b+(R5 .i64 1 (F3 c.Aw)))),(A3 (a+1)))))<|
  some (.inl (b,(A3 (a+1)))))<|
 Option.map Sum.inr (some b)
def B7U (c:List A9) (a b:Int):Option Int:=
 loop (fun (s:(Int×Int))=>B64 c s.1 s.2) (a,b)
def A4q (a:List A9):Option Int:=
 B7U a 0 0
def A7K (c:List D1):Option Int:=
 Option.bind (A3w c) fun a=>
 Option.bind (A4q a) fun b=>
 some b
def A3x (a:Int):Bool:=
 ((decide (a>=0))&&(decide (a<=16777216)))
def A2B (L w x y z A B C D E F a b c d e f g h i j k l m n o p q r s t u:Int) (G:A9) (v:Int):Option (Int⊕Bool):=
 cond (decide (v<=G.Aw)) (
  Option.bind (E4 [w,x,y,z,A,B,C,D,E,F,a,b,c,d,e,f,g,h,i,j,k,l,m,n,o,p,q,r,s,t,u] v) fun K=>
  Option.bind (E4 [w,x,y,z,A,B,C,D,E,F,a,b,c,d,e,f,g,h,i,j,k,l,m,n,o,p,q,r,s,t,u] v) fun H=>
  Option.bind (gd ((!(decide (H>(A3 (L+1)))))&&(decide (v<G.Aw))) (E4 [w,x,y,z,A,B,C,D,E,F,a,b,c,d,e,f,g,h,i,j,k,l,m,n,o,p,q,r,s,t,u] v)) fun J=>
  Option.bind (gd ((!(decide (H>(A3 (L+1)))))&&(decide (v<G.Aw))) (E4 [w,x,y,z,A,B,C,D,E,F,a,b,c,d,e,f,g,h,i,j,k,l,m,n,o,p,q,r,s,t,u] v)) fun I=>
  cond ((decide (H>(A3 (L+1))))||((decide (v<G.Aw))&&(decide (I<L)))) (
   some (.inr false))<|
  some (.inl (A3 (v+1))))<|
 Option.map Sum.inr (some true)
def A3c (I w x y z A B C D E F a b c d e f g h i j k l m n o p q r t u v:Int) (G:A9) (H:Int):Option Bool:=
 loop (fun (s:Int)=>A2B I w x y z A B C D E F a b c d e f g h i j k l m n o p q r t u v G s) H
def A6t (Q:List A9) (R H x y z A B C D E F G c d e f g h i j k l m n o p q r s t u v w:Int):Option ((Int×Int×Int×Int×Int×Int×Int×Int×Int×Int×Int×Int×Int×Int×Int×Int×Int×Int×Int×Int×Int×Int×Int×Int×Int×Int×Int×Int×Int×Int×Int×Int)⊕Bool):=
 cond (decide (H<(Q.length:Int))) (
  Option.bind (E4 Q H) fun a=>
  let L:=(A3x a.T);
  let M:=(A08 a.Aw);
  cond ((!L)||(!M)) (
   some (.inr false))<|
  Option.bind (gd (decide (H>0)) (E4 Q (A3 (H-1)))) fun I=>
  Option.bind (gd ((decide (H>0))&&(!(decide (I.T>a.T)))) (E4 Q (A3 (H-1)))) fun J=>
  cond ((decide (H>0))&&((decide (I.T>a.T))||(decide (J.Aw<a.Aw)))) (
   some (.inr false))<|
  Option.bind (E4 [x,y,z,A,B,C,D,E,F,G,c,d,e,f,g,h,i,j,k,l,m,n,o,p,q,r,s,t,u,v,w] a.Aw) fun N=>
  Option.bind (E4 [x,y,z,A,B,C,D,E,F,G,c,d,e,f,g,h,i,j,k,l,m,n,o,p,q,r,s,t,u,v,w] a.Aw) fun b=>
  Option.bind (E4 [x,y,z,A,B,C,D,E,F,G,c,d,e,f,g,h,i,j,k,l,m,n,o,p,q,r,s,t,u,v,w] a.Aw) fun O=>
  Option.bind (E4 [x,y,z,A,B,C,D,E,F,G,c,d,e,f,g,h,i,j,k,l,m,n,o,p,q,r,s,t,u,v,w] a.Aw) fun P=>
  some (.inl ((A3 (H+1)),(if (a.Aw).toNat=0 then (A3 (b+1)) else x),(if (a.Aw).toNat=1 then (A3 (b+1)) else y),(if (a.Aw).toNat=2 then (A3 (b+1)) else z),(if (a.Aw).toNat=3 then (A3 (b+1)) else A),(if (a.Aw).toNat=4 then (A3 (b+1)) else B),(if (a.Aw).toNat=5 then (A3 (b+1)) else C),(if (a.Aw).toNat=6 then (A3 (b+1)) else D),(if (a.Aw).toNat=7 then (A3 (b+1)) else E),(if (a.Aw).toNat=8 then (A3 (b+1)) else F),(if (a.Aw).toNat=9 then (A3 (b+1)) else G),(if (a.Aw).toNat=10 then (A3 (b+1)) else c),(if (a.Aw).toNat=11 then (A3 (b+1)) else d),(if (a.Aw).toNat=12 then (A3 (b+1)) else e),(if (a.Aw).toNat=13 then (A3 (b+1)) else f),(if (a.Aw).toNat=14 then (A3 (b+1)) else g),(if (a.Aw).toNat=15 then (A3 (b+1)) else h),(if (a.Aw).toNat=16 then (A3 (b+1)) else i),(if (a.Aw).toNat=17 then (A3 (b+1)) else j),(if (a.Aw).toNat=18 then (A3 (b+1)) else k),(if (a.Aw).toNat=19 then (A3 (b+1)) else l),(if (a.Aw).toNat=20 then (A3 (b+1)) else m),(if (a.Aw).toNat=21 then (A3 (b+1)) else n),(if (a.Aw).toNat=22 then (A3 (b+1)) else o),(if (a.Aw).toNat=23 then (A3 (b+1)) else p),(if (a.Aw).toNat=24 then (A3 (b+1)) else q),(if (a.Aw).toNat=25 then (A3 (b+1)) else r),(if (a.Aw).toNat=26 then (A3 (b+1)) else s),(if (a.Aw).toNat=27 then (A3 (b+1)) else t),(if (a.Aw).toNat=28 then (A3 (b+1)) else u),(if (a.Aw).toNat=29 then (A3 (b+1)) else v),(if (a.Aw).toNat=30 then (A3 (b+1)) else w))))<|
 Option.map Sum.inr (cond ((Q.length:Int)==(0:Int)) (
  some true)<|
 Option.bind (E4 Q 0) fun K=>
 A3c R x y z A B C D E F G c d e f g h i j k l m n o p q r s t u v w K 0)
def B1k (H:List A9) (I G w x y z A B C D E F a b c d e f g h i j k l m n o p q r t u v:Int):Option Bool:=
 loop (fun (s:(Int×Int×Int×Int×Int×Int×Int×Int×Int×Int×Int×Int×Int×Int×Int×Int×Int×Int×Int×Int×Int×Int×Int×Int×Int×Int×Int×Int×Int×Int×Int×Int))=>A6t H I s.1 s.2.1 s.2.2.1 s.2.2.2.1 s.2.2.2.2.1 s.2.2.2.2.2.1 s.2.2.2.2.2.2.1 s.2.2.2.2.2.2.2.1 s.2.2.2.2.2.2.2.2.1 s.2.2.2.2.2.2.2.2.2.1 s.2.2.2.2.2.2.2.2.2.2.1 s.2.2.2.2.2.2.2.2.2.2.2.1 s.2.2.2.2.2.2.2.2.2.2.2.2.1 s.2.2.2.2.2.2.2.2.2.2.2.2.2.1 s.2.2.2.2.2.2.2.2.2.2.2.2.2.2.1 s.2.2.2.2.2.2.2.2.2.2.2.2.2.2.2.1 s.2.2.2.2.2.2.2.2.2.2.2.2.2.2.2.2.1 s.2.2.2.2.2.2.2.2.2.2.2.2.2.2.2.2.2.1 s.2.2.2.2.2.2.2.2.2.2.2.2.2.2.2.2.2.2.1 s.2.2.2.2.2.2.2.2.2.2.2.2.2.2.2.2.2.2.2.1 s.2.2.2.2.2.2.2.2.2.2.2.2.2.2.2.2.2.2.2.2.1 s.2.2.2.2.2.2.2.2.2.2.2.2.2.2.2.2.2.2.2.2.2.1 s.2.2.2.2.2.2.2.2.2.2.2.2.2.2.2.2.2.2.2.2.2.2.1 s.2.2.2.2.2.2.2.2.2.2.2.2.2.2.2.2.2.2.2.2.2.2.2.1 s.2.2.2.2.2.2.2.2.2.2.2.2.2.2.2.2.2.2.2.2.2.2.2.2.1 s.2.2.2.2.2.2.2.2.2.2.2.2.2.2.2.2.2.2.2.2.2.2.2.2.2.1 s.2.2.2.2.2.2.2.2.2.2.2.2.2.2.2.2.2.2.2.2.2.2.2.2.2.2.1 s.2.2.2.2.2.2.2.2.2.2.2.2.2.2.2.2.2.2.2.2.2.2.2.2.2.2.2.1 s.2.2.2.2.2.2.2.2.2.2.2.2.2.2.2.2.2.2.2.2.2.2.2.2.2.2.2.2.1 s.2.2.2.2.2.2.2.2.2.2.2.2.2.2.2.2.2.2.2.2.2.2.2.2.2.2.2.2.2.1 s.2.2.2.2.2.2.2.2.2.2.2.2.2.2.2.2.2.2.2.2.2.2.2.2.2.2.2.2.2.2.1 s.2.2.2.2.2.2.2.2.2.2.2.2.2.2.2.2.2.2.2.2.2.2.2.2.2.2.2.2.2.2.2) (G,w,x,y,z,A,B,C,D,E,F,a,b,c,d,e,f,g,h,i,j,k,l,m,n,o,p,q,r,t,u,v)
def A2n (b:List A9) (a:Int):Option Bool:=
 cond ((decide (a<1))||(decide (a>128))) (
  some false)<|
 B1k b a 0 0 0 0 0 0 0 0 0 0 0 0 0 0 0 0 0 0 0 0 0 0 0 0 0 0 0 0 0 0 0 0
def A3g (f:H5) (a:Int):Option (Int⊕Int):=
 cond (decide (a<(f.Ad.length:Int))) (
  Option.bind (E4 f.Ad a) fun b=>
  cond (((decide (b.Bk<1))||(decide (b.Bk>b.Bj)))||(decide (b.Bj>f.N))) (
   some (.inr 2))<|
  cond (decide (a>0)) (
   Option.bind (E4 f.Ad (A3 (a-1))) fun c=>
   cond (((decide (c.V>b.V))||(decide (c.Bk>=b.Bk)))||(decide (c.Bj>=b.Bj))) (
    some (.inr 2))<|
   some (.inl (A3 (a+1))))<|
  some (.inl (A3 (a+1))))<|
 Option.map Sum.inr (Option.bind (gd (decide ((f.Ad.length:Int)>(0:Int))) (E4 f.Ad 0)) fun d=>
 Option.bind (gd ((decide ((f.Ad.length:Int)>(0:Int)))&&(!(d.Bj !=1))) (E4 f.Ad (A3 ((f.Ad.length:Int)-(1:Int))))) fun e=>
 cond ((decide ((f.Ad.length:Int)>(0:Int)))&&((d.Bj !=1)||(e.Bk !=f.N))) (
  some 2)<|
 some 0)
def B1T (b:H5) (a:Int):Option Int:=
 loop (fun (s:Int)=>A3g b s) a
def A4v (a:H5):Option Int:=
 cond (((decide (a.N<0))||(decide (a.N>1099511627776)))||(!(((a.Ad.length:Int)==(0:Int))==(a.N==0)))) (
  some 2)<|
 B1T a 0
def B1S (e:H5) (b a:Int):Option ((Int×Int)⊕Int):=
 cond (decide (a<(e.Ad.length:Int))) (
  Option.bind (E4 e.Ad a) fun d=>
  Option.bind (E4 e.Ad (A3 (a-1))) fun c=>
  some (.inl ((B8m b (A3 (d.Bj-c.Bk))),(A3 (a+1)))))<|
 Option.map Sum.inr (some b)
def A9a (c:H5) (a b:Int):Option Int:=
 loop (fun (s:(Int×Int))=>B1S c s.1 s.2) (a,b)
def B4N (b:H5):Option Int:=
 Option.bind (A4v b) fun a=>
 cond ((a !=0)||((b.Ad.length:Int)==(0:Int))) (
  some 0)<|
 A9a b 1 1
def A35 (i:List D1) (h b:Int):Option (Int⊕Bool):=
 cond (decide (b<(i.length:Int))) (
  Option.bind (E4 i b) fun a=>
  Option.bind (A4v a.Ba) fun c=>
  ck (!(!(c !=0))||(decide (0<=(F3 a.Aw))))<|
  Option.bind (gd (!(((c !=0)||(a.Ba.N !=(R5 .i64 1 (F3 a.Aw))))||(decide ((a.Ba.Ad.length:Int)>(A3 (h+1)))))) (B4N a.Ba)) fun f=>
  Option.bind (gd (!(((c !=0)||(a.Ba.N !=(R5 .i64 1 (F3 a.Aw))))||(decide ((a.Ba.Ad.length:Int)>(A3 (h+1)))))) (A5L a.Aw h)) fun g=>
  cond ((((c !=0)||(a.Ba.N !=(R5 .i64 1 (F3 a.Aw))))||(decide ((a.Ba.Ad.length:Int)>(A3 (h+1)))))||(decide ((A3 (f-1))>g))) (
   some (.inr false))<|
  Option.bind (E4 a.Ba.Ad 0) fun e=>
  Option.bind (E4 a.Ba.Ad (A3 ((a.Ba.Ad.length:Int)-(1:Int)))) fun d=>
  cond ((((decide (e.V<(-4096:Int)))||(decide (d.V>4096)))||(decide (a.Bd<e.V)))||(decide (a.Bd>d.V))) (
   some (.inr false))<|
  some (.inl (A3 (b+1))))<|
 Option.map Sum.inr (some true)
def B2o (b:List D1) (c a:Int):Option Bool:=
 loop (fun (s:Int)=>A35 b c s) a
def A7L (d:List D1) (e c:Int):Option Bool:=
 Option.bind (gd (!((decide (c<1))||(decide (c>65536)))) (A3w d)) fun b=>
 Option.bind (gd (!((decide (c<1))||(decide (c>65536)))) (A2n b e)) fun a=>
 cond (((decide (c<1))||(decide (c>65536)))||(!a)) (
  some false)<|
 B2o d c 0
def A5q (f:C8) (a:Int):Option (Int⊕Int):=
 cond (decide (a<(f.Ay.length:Int))) (
  Option.bind (E4 f.Ay a) fun b=>
  cond (((((decide (b.V<(-4096:Int)))||(decide (b.V>4096)))||(decide (b.I<1)))||(decide (b.I>f.I)))||(decide (b.I<=(A3 (f.I-f.W))))) (
   some (.inr 2))<|
  Option.bind (gd (decide (a>0)) (E4 f.Ay (A3 (a-1)))) fun c=>
  Option.bind (gd ((decide (a>0))&&(!(decide (b.I<=c.I)))) (E4 f.Ay (A3 (a-1)))) fun d=>
  cond ((decide (a>0))&&((decide (b.I<=c.I))||(decide (b.I>(A3 (d.I+f.W)))))) (
   some (.inr 2))<|
  some (.inl (A3 (a+1))))<|
 Option.map Sum.inr (Option.bind (gd (!(decide (f.Be<=f.I))) (E4 f.Ay (A3 ((f.Ay.length:Int)-(1:Int))))) fun e=>
 cond ((decide (f.Be<=f.I))||(decide (f.Be>(A3 (e.I+f.W))))) (
  some 2)<|
 some 0)
def A6w (b:C8) (a:Int):Option Int:=
 loop (fun (s:Int)=>A5q b s) a
def V1 (a:C8):Option Int:=
 cond (((((((decide (a.W<1))||(decide (a.W>1048576)))||(decide (a.Cap<1)))||(decide (a.Cap>64)))||(decide (a.I<0)))||(decide (a.I>1099511627776)))||(decide ((a.Ay.length:Int)>a.Cap))) (
  some 2)<|
 cond (a.I==0) (
  cond ((decide ((a.Ay.length:Int)>(0:Int)))||(a.Be !=0)) (
   some 2)<|
  some 0)<|
 cond ((a.Ay.length:Int)==(0:Int)) (
  some 2)<|
 A6w a 0
def B0G (a:Int):Bool:=
 ((decide (a>=0))&&(decide (a<=16777216)))
def B2W (c b:Int):Int:=
 let a:=(B0G c);
 cond (((!a)||(decide (b<1)))||(decide (b>1048576))) (
  (-1:Int))<|
 (B8m 0 (A3 ((A3 (c-b))+1)))
def A0z (d e c:Int):Bool:=
 let a:=(B2W d e);
 let b:=(B0G c);
 ((((decide (a>=0))&&b)&&(decide (a<=c)))&&(decide (c<=d)))
def C1U (e:List Int) (a c b:Int):Option ((Int×Int×Int)⊕Int):=
 cond (decide (b<(e.length:Int))) (
  Option.bind (E4 e b) fun d=>
  some (.inl ((Int.tmod (A3 (a+(A3 d))) 65521),(Int.tmod (A3 (c+(Int.tmod (A3 (a+(A3 d))) 65521))) 65521),(A3 (b+1)))))<|
 Option.map Sum.inr (some (A3 ((A3 (65536*c))+a)))
def C2Y (d:List Int) (a b c:Int):Option Int:=
 loop (fun (s:(Int×Int×Int))=>C1U d s.1 s.2.1 s.2.2) (a,b,c)
def B2v (a:List Int):Option Int:=
 C2Y a 1 0 0
def C2 (b a:Bool) (c:Int):(Bool×Int):=
 ((a&&b),0)
def F8 (b a:Bool) (c d:Int):(Bool×Int×Int):=
 ((a&&b),0,0)
def B3 (a b c:Int):Bool:=
 ((decide (a>=b))&&(decide (a<=c)))
def A1Z (f:E1) (d e:Bool×Int) (c a:Int) (b:Bool):Int:=
 cond ((!b)||(!(f.Bb==f.Bb&&(c==0&&(a==0&&(d.2==0&&(e.2==0&&(f.P==0&&(f.Aj==0&&(f.Bj==0&&true)))))))))) (
  1)<|
 0
def A2E (h:E1) (a:Int) (d:Bool):Int:=
 let e:=(B3 h.K 1 64);
 let c:=(C2 e d h.K);
 let f:=(B3 h.Cap 1 65536);
 let b:=(C2 f c.1 h.Cap);
 cond (decide ((1048576:Int)>(0:Int))) (
  let g:=(B3 h.W 1 1048576);
  A1Z h c b a 0 (b.1&&g))<|
 A1Z h c b a h.W b.1
def A0R (d:E1) (c:Bool×Int) (a:Int) (b:Bool):Int:=
 cond ((!b)||(!(d.Bb==d.Bb&&(d.Bh==0&&(a==0&&(d.K==0&&(d.Cap==0&&(c.2==0&&(d.Aj==0&&(d.Bj==0&&true)))))))))) (
  1)<|
 0
def A0S (c:E1) (a:Int) (b:Bool):Int:=
 cond ((!b)||(!(c.Bb==c.Bb&&(c.Bh==0&&(a==0&&(c.K==0&&(c.Cap==0&&(c.P==0&&(c.Aj==0&&(c.Bj==0&&true)))))))))) (
  1)<|
 0
def A0T (d:E1) (c:Bool×Int×Int) (a:Int) (b:Bool):Int:=
 cond ((!b)||(!(d.Bb==d.Bb&&(d.Bh==0&&(a==0&&(d.K==0&&(c.2.2==0&&(d.P==0&&(c.2.1==0&&(d.Bj==0&&true)))))))))) (
  1)<|
 0
def A0U (d:E1) (c:Bool×Int×Int) (a:Int) (b:Bool):Int:=
 cond ((!b)||(!(d.Bb==d.Bb&&(d.Bh==0&&(a==0&&(c.2.1==0&&(c.2.2==0&&(d.P==0&&(d.Aj==0&&(d.Bj==0&&true)))))))))) (
  1)<|
 0
def A0V (e:E1) (c d:Bool×Int) (a:Int) (b:Bool):Int:=
 cond ((!b)||(!(e.Bb==e.Bb&&(e.Bh==0&&(a==0&&(c.2==0&&(d.2==0&&(e.P==0&&(e.Aj==0&&((0:Int)==(0:Int)&&true)))))))))) (
  1)<|
 0
def A0W (d:E1) (c:Bool×Int) (a:Int) (b:Bool):Int:=
 cond ((!b)||(!(d.Bb==d.Bb&&(d.Bh==0&&(a==0&&(d.K==0&&(c.2==0&&(d.P==0&&(d.Aj==0&&((0:Int)==(0:Int)&&true)))))))))) (
  1)<|
 0
def A0X (d:E1) (c:Bool×Int) (a:Int) (b:Bool):Int:=
 cond ((!b)||(!(d.Bb==d.Bb&&(d.Bh==0&&(a==0&&(d.K==0&&(c.2==0&&(d.P==0&&(d.Aj==0&&(d.Bj==0&&true)))))))))) (
  1)<|
 0
def W9 (f:E1) (d:Bool):Int:=
 cond d (
  A2E f f.Bh true)<|
 cond (f.Bb==8) (
  let e:=(B3 f.Bj 0 1);
  let b:=(B3 f.Cap 1 65536);
  let a:=(C2 b e f.Cap);
  cond (decide ((1048576:Int)>(0:Int))) (
   let c:=(B3 f.W 1 1048576);
   A0W f a 0 (a.1&&c))<|
  A0W f a f.W a.1)<|
 cond (f.Bb==1) (
  let b:=(B3 f.Cap 1 65536);
  let a:=(C2 b true f.Cap);
  cond (decide ((1048576:Int)>(0:Int))) (
   let c:=(B3 f.W 1 1048576);
   A0X f a 0 (a.1&&c))<|
  A0X f a f.W a.1)<|
 1
def A2D (q:E1):Int:=
 cond (q.Bb==6) (
  let h:=(B3 q.P 0 4);
  let d:=(C2 h true q.P);
  cond (decide ((0:Int)>(0:Int))) (
   let a:=(B3 q.W 1 0);
   A0R q d 0 (d.1&&a))<|
  A0R q d q.W d.1)<|
 cond (q.Bb==7) (
  cond (decide ((64:Int)>(0:Int))) (
   let a:=(B3 q.W 1 64);
   A0S q 0 a)<|
  A0S q q.W true)<|
 cond (q.Bb==9) (
  let i:=(B3 q.Aj 1 16);
  let j:=(B3 q.Cap 1 64);
  let b:=(F8 (i&&j) true q.Aj q.Cap);
  cond (decide ((1048576:Int)>(0:Int))) (
   let a:=(B3 q.W 1 1048576);
   A0T q b 0 (b.1&&a))<|
  A0T q b q.W b.1)<|
 cond (q.Bb==10) (
  let k:=(B3 q.K 1 64);
  let l:=(B3 q.Cap 2 65536);
  let c:=(F8 (k&&l) true q.K q.Cap);
  cond (decide ((0:Int)>(0:Int))) (
   let a:=(B3 q.W 1 0);
   A0U q c 0 (c.1&&a))<|
  A0U q c q.W c.1)<|
 cond (q.Bb==3) (
  let m:=(B3 q.Bj 1 1024);
  let n:=(B3 q.K 1 64);
  let f:=(C2 n m q.K);
  let o:=(B3 q.Cap 1 65536);
  let e:=(C2 o f.1 q.Cap);
  cond (decide ((1048576:Int)>(0:Int))) (
   let a:=(B3 q.W 1 1048576);
   A0V q f e 0 (e.1&&a))<|
  A0V q f e q.W e.1)<|
 cond (q.Bb==4) (
  let p:=(B3 q.Bh 1 4);
  let g:=(C2 p true q.Bh);
  A2E q g.2 g.1)<|
 cond (q.Bb==2) (
  W9 q (q.Bb==2))<|
 cond (q.Bb==5) (
  W9 q (q.Bb==5))<|
 W9 q (q.Bb==11)
def A7T (a b c d:Int):Bool:=
 ((((((((decide (a>=1))&&(decide (a<=1048576)))&&(decide (b>=1)))&&(decide (b<=64)))&&(decide (c>=1)))&&(decide (c<=65536)))&&(decide (d>=0)))&&(decide (d<=16777216)))
def A2F (d:G1) (a:Int):Option (Int⊕Int):=
 cond (decide (a<(d.Ac.length:Int))) (
  Option.bind (E4 d.Ac a) fun b=>
  let c:=(A0z d.Now d.W b.T);
  cond (!c) (
   some (.inr 2))<|
  some (.inl (A3 (a+1))))<|
 Option.map Sum.inr (some 0)
def B0d (b:G1) (a:Int):Option Int:=
 loop (fun (s:Int)=>A2F b s) a
def A5N (d:G1):Option Int:=
 let a:=(A7T d.W d.K d.Cap d.Now);
 Option.bind (gd (!(!a)) (A2n d.Ac d.K)) fun b=>
 Option.bind (gd (!((!a)||(!b))) (A4q d.Ac)) fun c=>
 cond (((!a)||(!b))||(decide (c>d.Cap))) (
  some 2)<|
 B0d d 0
def B0I (a:Int):Bool:=
 ((decide (a>=0))&&(decide (a<=16777216)))
def B86 (d:List D7) (e a:Int):Option (Int⊕Bool):=
 cond (decide (a<(d.length:Int))) (
  Option.bind (E4 d a) fun b=>
  Option.bind (gd ((!((decide (b.T<0))||(decide (b.T>e))))&&(decide (a>0))) (E4 d (A3 (a-1)))) fun c=>
  cond (((decide (b.T<0))||(decide (b.T>e)))||((decide (a>0))&&(decide (c.T>b.T)))) (
   some (.inr false))<|
  some (.inl (A3 (a+1))))<|
 Option.map Sum.inr (some true)
def C0c (b:List D7) (c a:Int):Option Bool:=
 loop (fun (s:Int)=>B86 b c s) a
def B2Z (c:List D7) (b:Int):Option Bool:=
 let a:=(B0I b);
 cond (!a) (
  some false)<|
 C0c c b 0
def X4 (c:Bool) (a b:Int):Bool:=
 cond c (
  (decide (a>=b)))<|
 (decide (a<=b))
def A7V (a b c:Int):Bool:=
 ((((((decide (a>=1))&&(decide (a<=1048576)))&&(decide (b>=1)))&&(decide (b<=65536)))&&(decide (c>=0)))&&(decide (c<=16777216)))
def A1s (g:E5) (a:Int):Option (Int⊕Int):=
 cond (decide (a<(g.Av.length:Int))) (
  Option.bind (E4 g.Av a) fun b=>
  let f:=(A0z g.Now g.W b.T);
  cond (((!f)||(decide (b.V<(-4096:Int))))||(decide (b.V>4096))) (
   some (.inr 2))<|
  Option.bind (gd (decide (a>0)) (E4 g.Av (A3 (a-1)))) fun c=>
  Option.bind (gd ((decide (a>0))&&(!(decide (c.T>=b.T)))) (E4 g.Av (A3 (a-1)))) fun d=>
  let e:=(X4 g.Bj b.V d.V);
  cond ((decide (a>0))&&((decide (c.T>=b.T))||e)) (
   some (.inr 2))<|
  some (.inl (A3 (a+1))))<|
 Option.map Sum.inr (some 0)
def A8z (b:E5) (a:Int):Option Int:=
 loop (fun (s:Int)=>A1s b s) a
def A38 (b:E5):Option Int:=
 let a:=(A7V b.W b.Cap b.Now);
 cond ((!a)||(decide ((b.Av.length:Int)>b.Cap))) (
  some 2)<|
 A8z b 0
def A2G (c:J7) (a:Int):Option (Int⊕Int):=
 cond (decide (a<(c.Bg.length:Int))) (
  Option.bind (E4 c.Bg a) fun b=>
  cond (((decide (b<0))||(decide (b>1099511627776)))||((b !=0)&&(decide (a>c.Now)))) (
   some (.inr 2))<|
  some (.inl (A3 (a+1))))<|
 Option.map Sum.inr (some 0)
def B0e (b:J7) (a:Int):Option Int:=
 loop (fun (s:Int)=>A2G b s) a
def A5P (a:J7):Option Int:=
 cond ((((decide ((a.Bg.length:Int)<(1:Int)))||(decide ((a.Bg.length:Int)>(64:Int))))||(decide (a.Now<0)))||(decide (a.Now>16777216))) (
  some 2)<|
 B0e a 0
def A7p (a:Int) (b:List Int):Option ((Int×(List Int))⊕(List Int)):=
 cond (decide (a>=128)) (
  ck (decide ((b.length+ [(ior .u8 (IntKind.u8.wrap (V9 .u64 a 127)) 128)].length)*1<=140737488355328))<|
  some (.inl ((A0E .u64 a 7),(b++ [(ior .u8 (IntKind.u8.wrap (V9 .u64 a 127)) 128)]))))<|
 Option.map Sum.inr (ck (decide ((b.length+ [(IntKind.u8.wrap a)].length)*1<=140737488355328))<|
 some (b++ [(IntKind.u8.wrap a)]))
def A8d (a:Int) (b:List Int):Option (List Int):=
 loop (fun (s:(Int×(List Int)))=>A7p s.1 s.2) (a,b)
def A5b (b:List Int) (a:Int):Option (List Int):=
 ck (decide ((([]:List Int).length+b.length)*1<=140737488355328))<|
 A8d a (([]:List Int)++b)
def A5z (b:List Int) (a:Int):Option (List Int):=
 cond (decide (a<0)) (
  A5b b (B1K .u64 (R5 .u64 (F3 a) 1)))<|
 A5b b (R5 .u64 (F3 a) 1)
def A4x (e:List Int) (a c b:Int):Option ((Int×Int×Int)⊕Int):=
 cond (decide (b<(e.length:Int))) (
  Option.bind (E4 e b) fun d=>
  some (.inl ((Int.tmod (A3 (a+(A3 d))) 65521),(Int.tmod (A3 (c+(Int.tmod (A3 (a+(A3 d))) 65521))) 65521),(A3 (b+1)))))<|
 Option.map Sum.inr (some (A3 ((A3 (65536*c))+a)))
def B1Y (d:List Int) (a b c:Int):Option Int:=
 loop (fun (s:(Int×Int×Int))=>A4x d s.1 s.2.1 s.2.2) (a,b,c)
def Q8 (a:List Int):Option Int:=
 B1Y a 1 0 0
def A5c (e a:List Int) (b:Int):Option (((List Int)×Int)⊕(List Int)):=
 cond (decide (b<(e.length:Int))) (
  Option.bind (E4 e b) fun d=>
  Option.bind (A5z ([]:List Int) d) fun c=>
  ck (decide ((a.length+c.length)*1<=140737488355328))<|
  some (.inl ((a++c),(A3 (b+1)))))<|
 Option.map Sum.inr (some a)
def B3W (c a:List Int) (b:Int):Option (List Int):=
 loop (fun (s:((List Int)×Int))=>A5c c s.1 s.2) (a,b)
def A9i (a:List Int):Option (List Int):=
 B3W a ([]:List Int) 0
def V0 (d:List Int):Option (List Int):=
 Option.bind (A9i d) fun a=>
 Option.bind (Q8 a) fun b=>
 Option.bind (A5z a b) fun c=>
 some c
def A5k (a:B0):Bool:=
 cond ((a.Ak.Bb !=1)&&((((a.Al.W !=0)||(a.Al.Cap !=0))||(a.Al.Now !=0))||(decide ((a.Al.Av.length:Int)>(0:Int))))) (
  false)<|
 cond ((a.Ak.Bb !=2)&&(((((a.Ar.W !=0)||(a.Ar.K !=0))||(a.Ar.Cap !=0))||(a.Ar.Now !=0))||(decide ((a.Ar.Ac.length:Int)>(0:Int))))) (
  false)<|
 cond ((a.Ak.Bb !=3)&&((((((a.Sum.W !=0)||(a.Sum.K !=0))||(a.Sum.Cap !=0))||(a.Sum.Bj !=0))||(a.Sum.Now !=0))||(decide ((a.Sum.Ac.length:Int)>(0:Int))))) (
  false)<|
 cond ((a.Ak.Bb !=4)&&(((((((a.Ao.Bh !=0)||(a.Ao.W !=0))||(a.Ao.K !=0))||(a.Ao.Cap !=0))||(a.Ao.Now !=0))||(a.Ao.Bl !=0))||(decide ((a.Ao.Az.length:Int)>(0:Int))))) (
  false)<|
 cond ((a.Ak.Bb !=5)&&((((((a.Ap.W !=0)||(a.Ap.K !=0))||(a.Ap.Cap !=0))||(a.Ap.Now !=0))||(a.Ap.Bl !=0))||(decide ((a.Ap.Az.length:Int)>(0:Int))))) (
  false)<|
 cond ((a.Ak.Bb !=6)&&((((a.Bf.P !=0)||(a.Bf.Bc !=0))||(a.Bf.Now !=0))||(decide ((a.Bf.Af.length:Int)>(0:Int))))) (
  false)<|
 cond ((a.Ak.Bb !=7)&&((a.Au.Now !=0)||(decide ((a.Au.Bg.length:Int)>(0:Int))))) (
  false)<|
 cond ((a.Ak.Bb !=8)&&((((a.Ae.Bj||(a.Ae.W !=0))||(a.Ae.Cap !=0))||(a.Ae.Now !=0))||(decide ((a.Ae.Av.length:Int)>(0:Int))))) (
  false)<|
 cond ((a.Ak.Bb !=9)&&(decide ((a.Am.Aj.length:Int)>(0:Int)))) (
  false)<|
 cond ((a.Ak.Bb !=10)&&((((a.Ah.K !=0)||(a.Ah.Cap !=0))||(a.Ah.N !=0))||(decide ((a.Ah.Aq.length:Int)>(0:Int))))) (
  false)<|
 ((a.Ak.Bb==11)||(((((a.Aa.W==0)&&(a.Aa.K==0))&&(a.Aa.Cap==0))&&(a.Aa.Now==0))&&((a.Aa.Ai.length:Int)==(0:Int))))
def B6v (a:Int):Bool:=
 ((decide (a>=0))&&(decide (a<=16777216)))
def A0d (a b:C7):Int:=
 cond ((decide (a.Hi<b.Hi))||((a.Hi==b.Hi)&&(decide (a.Lo<b.Lo)))) (
  (-1:Int))<|
 cond (a.Hi==b.Hi&&(a.Lo==b.Lo&&true)) (
  0)<|
 1
def B2b (c d:C7):Option (C7×Bool):=
 Option.bind (T9 c.Lo d.Lo 0) fun a=>
 Option.bind (T9 c.Hi d.Hi a.2) fun b=>
 cond (b.2 !=0) (
  some ((C7.mk 0 0),false))<|
 some ((C7.mk b.1 a.1),true)
def A2I (a b:Int):(Int×Int):=
 ((F3 ((F3 ((F3 ((A0E .u64 a 32)*(A0E .u64 b 32)))+(A0E .u64 (F3 ((F3 ((A0E .u64 a 32)*(V9 .u64 b 4294967295)))+(A0E .u64 (F3 ((V9 .u64 a 4294967295)*(V9 .u64 b 4294967295))) 32))) 32)))+(A0E .u64 (F3 ((V9 .u64 (F3 ((F3 ((A0E .u64 a 32)*(V9 .u64 b 4294967295)))+(A0E .u64 (F3 ((V9 .u64 a 4294967295)*(V9 .u64 b 4294967295))) 32))) 4294967295)+(F3 ((V9 .u64 a 4294967295)*(A0E .u64 b 32))))) 32))),(F3 (a*b)))
def X2 (b c:Int):C7:=
 let a:=(A2I b c);
 (C7.mk a.1 a.2)
def A6Y (f a b c:Int):Option (C7×Bool):=
 let g:=(X2 a c);
 let d:=(X2 a b);
 cond (d.Hi !=0) (
  some ((C7.mk 0 0),false))<|
 Option.bind (B2b g (C7.mk d.Lo 0)) fun e=>
 some (e.1,e.2)
def A5J (a b:C7):Option (C7×Bool):=
 cond ((a.Hi !=0)&&(b.Hi !=0)) (
  some ((C7.mk 0 0),false))<|
 cond (a.Hi !=0) (
  A6Y b.Hi b.Lo a.Hi a.Lo)<|
 A6Y a.Hi a.Lo b.Hi b.Lo
def A1K (a:Int):C7:=
 (C7.mk 0 a)
def A3e (j:G2) (f:C7) (a:Int):Option (Int⊕Int):=
 cond (decide (a<=j.P)) (
  Option.bind (E4 j.Af (A3 (a-1))) fun g=>
  Option.bind (E4 j.Af a) fun h=>
  let c:=(A0d g h);
  cond (decide (c>0)) (
   some (.inr 2))<|
  Option.bind (E4 j.Af (A3 (a-1))) fun i=>
  Option.bind (A5J i f) fun b=>
  Option.bind (gd b.2 (E4 j.Af a)) fun d=>
  let e:=(A0d d b.1);
  cond (b.2&&(decide (e>0))) (
   some (.inr 2))<|
  some (.inl (A3 (a+1))))<|
 Option.map Sum.inr (some 0)
def B1R (c:G2) (a:C7) (b:Int):Option Int:=
 loop (fun (s:Int)=>A3e c a s) b
def A67 (c:G2):Option Int:=
 let a:=(B6v c.Now);
 cond ((((((decide (c.P<0))||(decide (c.P>4)))||(!a))||(decide (c.Bc<0)))||(decide (c.Bc>c.Now)))||((c.Af.length:Int) !=(A3 (c.P+1)))) (
  some 2)<|
 let b:=(A1K (F3 (A3 ((A3 (c.Now-c.Bc))+1))));
 B1R c b 1
def B4H (b:Int):Option Int:=
 cond (decide (b<0)) (
  some 0)<|
 Option.bind (A2H (F3 b)) fun a=>
 some a
def A1c (a b c d:Int):Bool:=
 ((((((((decide (a>=1))&&(decide (a<=1048576)))&&(decide (b>=1)))&&(decide (b<=64)))&&(decide (c>=1)))&&(decide (c<=65536)))&&(decide (d>=0)))&&(decide (d<=16777216)))
def A69 (c d:Int):Option Int:=
 let a:=(A1c 1 c d 0);
 cond (!a) (
  some 0)<|
 Option.bind (B4H d) fun b=>
 some (A3 ((A3 (2*c))*(A3 (b+2))))
def A02 (d:E2) (a:Int):Option (Int⊕Int):=
 cond (decide (a<(d.Ai.length:Int))) (
  Option.bind (E4 d.Ai a) fun b=>
  let c:=(A0z d.Now d.W b.T);
  cond (!c) (
   some (.inr 2))<|
  some (.inl (A3 (a+1))))<|
 Option.map Sum.inr (some 0)
def A74 (b:E2) (a:Int):Option Int:=
 loop (fun (s:Int)=>A02 b s) a
def A3f (e:E2):Option Int:=
 let a:=(A1c e.W e.K e.Cap e.Now);
 Option.bind (gd (!(!a)) (A69 e.K e.Cap)) fun c=>
 Option.bind (gd (!(!a)) (A7L e.Ai (A3 (2*e.K)) c)) fun b=>
 Option.bind (gd (!((!a)||(!b))) (A7K e.Ai)) fun d=>
 cond (((!a)||(!b))||(decide (d>e.Cap))) (
  some 2)<|
 A74 e 0
def A9c (a b c:Int):Bool:=
 ((((((decide (a>=1))&&(decide (a<=1048576)))&&(decide (b>=1)))&&(decide (b<=65536)))&&(decide (c>=0)))&&(decide (c<=16777216)))
def B1V (a:Int):Bool:=
 ((decide (a>=(-4096:Int)))&&(decide (a<=4096)))
def A4M (e:E9) (a:Int):Option (Int⊕Int):=
 cond (decide (a<(e.Av.length:Int))) (
  Option.bind (E4 e.Av a) fun b=>
  let d:=(A0z e.Now e.W b.T);
  let c:=(B1V b.V);
  cond ((!d)||(!c)) (
   some (.inr 2))<|
  some (.inl (A3 (a+1))))<|
 Option.map Sum.inr (some 0)
def A9t (b:E9) (a:Int):Option Int:=
 loop (fun (s:Int)=>A4M b s) a
def A2J (c:E9):Option Int:=
 let a:=(A9c c.W c.Cap c.Now);
 Option.bind (gd (!((!a)||(decide ((c.Av.length:Int)>c.Cap)))) (B2Z c.Av c.Now)) fun b=>
 cond (((!a)||(decide ((c.Av.length:Int)>c.Cap)))||(!b)) (
  some 2)<|
 A9t c 0
def A0r (e:I2) (a:Int):Option (Int⊕Int):=
 cond (decide (a<(e.Aj.length:Int))) (
  Option.bind (E4 e.Aj a) fun b=>
  Option.bind (E4 e.Aj 0) fun c=>
  Option.bind (V1 b) fun d=>
  cond ((((d !=0)||(b.W !=c.W))||(b.Cap !=c.Cap))||(b.I !=c.I)) (
   some (.inr 2))<|
  some (.inl (A3 (a+1))))<|
 Option.map Sum.inr (some 0)
def A5B (b:I2) (a:Int):Option Int:=
 loop (fun (s:Int)=>A0r b s) a
def W4 (a:I2):Option Int:=
 cond ((decide ((a.Aj.length:Int)<(1:Int)))||(decide ((a.Aj.length:Int)>(16:Int)))) (
  some 2)<|
 A5B a 0
def T8 (a d e b c:Int):Bool:=
 (((((decide (b>=(A3 (a*d))))&&(decide (b<=(A3 (a*e)))))&&(decide (c>=0)))&&(decide (c<=(A3 ((A3 (a*(4096:Int)))*(4096:Int))))))&&(decide ((A3 (b*b))<=(A3 (a*c)))))
def A46 (h:List D0) (i k j l m d:Int):Option (Int⊕Bool):=
 cond (decide (d<(h.length:Int))) (
  Option.bind (E4 h d) fun a=>
  cond ((((((decide (a.Bl<1))||(decide (a.Bl>i)))||(a.N !=(A3 ((A3 (i-a.Bl))+1))))||(decide (a.N>k)))||(decide (a.T<0)))||(decide (a.T>j))) (
   some (.inr false))<|
  let g:=(T8 a.N a.Bk a.Bj a.S a.Q);
  cond ((((decide (a.Bk<m))||(decide (a.Bj>4096)))||(decide (a.Bk>a.Bj)))||(!g)) (
   some (.inr false))<|
  let e:=(A0z j l a.T);
  cond (((decide (d>0))||((h.length:Int)==(1:Int)))&&(!e)) (
   some (.inr false))<|
  cond (d==0) (
   some (.inl (A3 (d+1))))<|
  Option.bind (E4 h (A3 (d-1))) fun b=>
  let f:=(T8 (A3 (b.N-a.N)) b.Bk b.Bj (A3 (b.S-a.S)) (A3 (b.Q-a.Q)));
  cond (((((decide (b.Bl>=a.Bl))||(decide (b.T>a.T)))||(decide (b.Bk>a.Bk)))||(decide (b.Bj<a.Bj)))||(!f)) (
   some (.inr false))<|
  some (.inl (A3 (d+1))))<|
 Option.map Sum.inr (cond ((h.length:Int)==(0:Int)) (
  some true)<|
 Option.bind (E4 h (A3 ((h.length:Int)-(1:Int)))) fun c=>
 some ((((c.Bl==i)&&(c.Bk==c.S))&&(c.Bj==c.S))&&(c.Q==(A3 (c.S*c.S)))))
def B3L (b:List D0) (c d e f g a:Int):Option Bool:=
 loop (fun (s:Int)=>A46 b c d e f g s) a
def A6N (b:List D0) (a c d e f:Int):Option Bool:=
 cond ((decide (a<0))||(decide (a>1099511627776))) (
  some false)<|
 B3L b a c d e f 0
def A70 (a b c d:Int):Bool:=
 ((((((((decide (a>=1))&&(decide (a<=1048576)))&&(decide (b>=1)))&&(decide (b<=64)))&&(decide (c>=1)))&&(decide (c<=65536)))&&(decide (d>=0)))&&(decide (d<=16777216)))
def A4J (b c d e f:Int):Bool:=
 let a:=(A70 c d e f);
 (((decide (b>=1))&&(decide (b<=4)))&&a)
def M8 (a:Int):Int:=
 cond ((a==2)||(a==3)) (
  0)<|
 (-4096:Int)
def B6W (a b:Int):(Int×Bool):=
 cond ((!((decide (a>=0))==(decide (b>=0))))&&(!((decide ((A3 (a-b))>=0))==(decide (a>=0))))) (
  (0,false))<|
 ((A3 (a-b)),true)
def A7E (b:D0) (c:Int):Int:=
 cond (c==1) (
  b.N)<|
 cond (c==2) (
  b.S)<|
 cond (c==3) (
  b.Q)<|
 cond (c==4) (
  let a:=(B6W b.Bj b.Bk);
  a.1)<|
 0
def L5 (e f:D0) (c d:Int):Bool:=
 let a:=(A7E f c);
 let b:=(A7E e c);
 (decide ((A3 ((A3 (d+1))*a))>=(A3 (d*b))))
def A13 (h:F0) (a:Int):Option (Int⊕Int):=
 cond (decide (a<(h.Az.length:Int))) (
  Option.bind (E4 h.Az a) fun b=>
  Option.bind (gd (decide (a>=2)) (E4 h.Az (A3 (a-2)))) fun g=>
  let d:=(L5 g b h.Bh h.K);
  cond ((decide (a>=2))&&d) (
   some (.inr 2))<|
  Option.bind (gd (decide (a>=1)) (E4 h.Az (A3 (a-1)))) fun c=>
  Option.bind (gd ((decide (a>=1))&&(decide ((A3 (b.Bl-c.Bl))>1))) (E4 h.Az (A3 (a-1)))) fun e=>
  let f:=(L5 e b h.Bh h.K);
  cond (((decide (a>=1))&&(decide ((A3 (b.Bl-c.Bl))>1)))&&(!f)) (
   some (.inr 2))<|
  some (.inl (A3 (a+1))))<|
 Option.map Sum.inr (some 0)
def A9v (b:F0) (a:Int):Option Int:=
 loop (fun (s:Int)=>A13 b s) a
def A5i (d:F0):Option Int:=
 let a:=(A4J d.Bh d.W d.K d.Cap d.Now);
 let b:=(M8 d.Bh);
 Option.bind (gd (!(!a)) (A6N d.Az d.Bl d.Cap d.Now d.W b)) fun c=>
 cond ((!a)||(!c)) (
  some 2)<|
 A9v d 0
def A5C (a:D0):Bool:=
 cond ((((((decide (a.N<1))||(decide (a.N>65536)))||(decide (a.S<(A3 ((IntKind.i64.wrap (0-a.N))*4096)))))||(decide (a.S>(A3 (a.N*4096)))))||(decide (a.Q<0)))||(decide (a.Q>(A3 ((A3 (a.N*(4096:Int)))*(4096:Int)))))) (
  false)<|
 (decide ((A3 (a.S*a.S))<=(A3 (a.N*a.Q))))
def A1z (a:D0):Int:=
 (A3 ((A3 (a.N*a.Q))-(A3 (a.S*a.S))))
def A8j (m n:D0) (l:Int):Option Bool:=
 let c:=(A5C m);
 let d:=(A5C n);
 cond ((((!c)||(!d))||(decide (l<1)))||(decide (l>64))) (
  some false)<|
 cond (decide ((A3 ((A3 (6*l))*n.N))<(A3 ((A3 ((A3 (6*l))-1))*m.N)))) (
  some false)<|
 let e:=(A1z n);
 let f:=(X2 (F3 e) (F3 m.N));
 let g:=(A1K (F3 (A3 (6*l))));
 Option.bind (A5J f g) fun a=>
 let h:=(A1z m);
 let i:=(X2 (F3 h) (F3 n.N));
 let j:=(A1K (F3 (A3 ((A3 (6*l))-1))));
 Option.bind (A5J i j) fun b=>
 let k:=(A0d a.1 b.1);
 some (decide (k>=0))
def A15 (e:F1) (a:Int):Option (Int⊕Int):=
 cond (decide (a<(e.Az.length:Int))) (
  Option.bind (E4 e.Az (A3 (a-2))) fun c=>
  Option.bind (E4 e.Az a) fun d=>
  Option.bind (A8j c d e.K) fun b=>
  cond b (
   some (.inr 2))<|
  some (.inl (A3 (a+1))))<|
 Option.map Sum.inr (some 0)
def A9w (b:F1) (a:Int):Option Int:=
 loop (fun (s:Int)=>A15 b s) a
def A5j (c:F1):Option Int:=
 let a:=(A70 c.W c.K c.Cap c.Now);
 Option.bind (gd (!(!a)) (A6N c.Az c.Bl c.Cap c.Now c.W (-4096:Int))) fun b=>
 cond ((!a)||(!b)) (
  some 2)<|
 A9w c 2
def B13 (a b c d e:Int):Bool:=
 ((((((((((decide (a>=1))&&(decide (a<=1048576)))&&(decide (b>=1)))&&(decide (b<=64)))&&(decide (c>=1)))&&(decide (c<=65536)))&&(decide (d>=1)))&&(decide (d<=1024)))&&(decide (e>=0)))&&(decide (e<=16777216)))
def A4k (d:I0) (a:Int):Option (Int⊕Int):=
 cond (decide (a<(d.Ac.length:Int))) (
  Option.bind (E4 d.Ac a) fun b=>
  let c:=(A0z d.Now d.W b.T);
  cond (!c) (
   some (.inr 2))<|
  some (.inl (A3 (a+1))))<|
 Option.map Sum.inr (some 0)
def B2O (b:I0) (a:Int):Option Int:=
 loop (fun (s:Int)=>A4k b s) a
def A8k (d:I0):Option Int:=
 let a:=(B13 d.W d.K d.Cap d.Bj d.Now);
 Option.bind (gd (!(!a)) (A2n d.Ac d.K)) fun b=>
 Option.bind (gd (!((!a)||(!b))) (A4q d.Ac)) fun c=>
 cond (((!a)||(!b))||(decide (c>d.Cap))) (
  some 2)<|
 B2O d 0
def A8l (b a:Int):Option Int:=
 ck (decide (a≠0))<|
 some (B8m 1 (A3 (Int.tdiv b a)))
def A1A (h:D8) (d e b:Int):Option ((Int×Int)⊕Int):=
 cond (decide (b<(h.Aq.length:Int))) (
  Option.bind (E4 h.Aq b) fun a=>
  Option.bind (gd ((!((decide (a.V<(-4096:Int)))||(decide (a.V>4096))))&&(decide (b>0))) (E4 h.Aq (A3 (b-1)))) fun f=>
  cond (((decide (a.V<(-4096:Int)))||(decide (a.V>4096)))||((decide (b>0))&&(decide (f.V>a.V)))) (
   some (.inr 2))<|
  cond ((((decide (a.G<1))||(decide (a.D<0)))||(decide (a.G>d)))||(decide (a.D>(A3 (d-a.G))))) (
   some (.inr 2))<|
  some (.inl ((A3 (e+a.G)),(A3 (b+1)))))<|
 Option.map Sum.inr (Option.bind (E4 h.Aq 0) fun c=>
 Option.bind (E4 h.Aq (A3 ((h.Aq.length:Int)-(1:Int)))) fun g=>
 cond ((((e !=h.N)||(c.G !=1))||(c.D !=0))||(g.D !=0)) (
  some 2)<|
 some 0)
def A8E (d:D8) (b c a:Int):Option Int:=
 loop (fun (s:(Int×Int))=>A1A d b s.1 s.2) (c,a)
def A4l (b:D8):Option Int:=
 cond (((((((decide (b.K<1))||(decide (b.K>64)))||(decide (b.Cap<2)))||(decide (b.Cap>65536)))||(decide (b.N<0)))||(decide (b.N>1099511627776)))||(decide ((b.Aq.length:Int)>b.Cap))) (
  some 2)<|
 cond (b.N==0) (
  cond (decide ((b.Aq.length:Int)>(0:Int))) (
   some 2)<|
  some 0)<|
 cond ((b.Aq.length:Int)==(0:Int)) (
  some 2)<|
 Option.bind (A8l b.N b.K) fun a=>
 A8E b a 0 0
def A6r (n:B0):Option Bool:=
 cond (n.Ak.Bb==1) (
  Option.bind (A2J n.Al) fun l=>
  some (((l==0)&&(n.Al.W==n.Ak.W))&&(n.Al.Cap==n.Ak.Cap)))<|
 cond (n.Ak.Bb==2) (
  Option.bind (A5N n.Ar) fun m=>
  some ((((m==0)&&(n.Ar.W==n.Ak.W))&&(n.Ar.K==n.Ak.K))&&(n.Ar.Cap==n.Ak.Cap)))<|
 cond (n.Ak.Bb==3) (
  Option.bind (A8k n.Sum) fun d=>
  some (((((d==0)&&(n.Sum.W==n.Ak.W))&&(n.Sum.K==n.Ak.K))&&(n.Sum.Cap==n.Ak.Cap))&&(n.Sum.Bj==n.Ak.Bj)))<|
 cond (n.Ak.Bb==4) (
  Option.bind (A5i n.Ao) fun e=>
  some (((((e==0)&&(n.Ao.W==n.Ak.W))&&(n.Ao.K==n.Ak.K))&&(n.Ao.Cap==n.Ak.Cap))&&(n.Ao.Bh==n.Ak.Bh)))<|
 cond (n.Ak.Bb==5) (
  Option.bind (A5j n.Ap) fun f=>
  some ((((f==0)&&(n.Ap.W==n.Ak.W))&&(n.Ap.K==n.Ak.K))&&(n.Ap.Cap==n.Ak.Cap)))<|
 cond (n.Ak.Bb==6) (
  Option.bind (A67 n.Bf) fun g=>
  some ((g==0)&&(n.Bf.P==n.Ak.P)))<|
 cond (n.Ak.Bb==7) (
  Option.bind (A5P n.Au) fun h=>
  some ((h==0)&&((n.Au.Bg.length:Int)==n.Ak.W)))<|
 cond (n.Ak.Bb==8) (
  Option.bind (A38 n.Ae) fun i=>
  some ((((i==0)&&(n.Ae.W==n.Ak.W))&&(n.Ae.Cap==n.Ak.Cap))&&(n.Ae.Bj==(n.Ak.Bj==1))))<|
 cond (n.Ak.Bb==9) (
  Option.bind (W4 n.Am) fun a=>
  Option.bind (gd ((a==0)&&((n.Am.Aj.length:Int)==n.Ak.Aj)) (E4 n.Am.Aj 0)) fun b=>
  Option.bind (gd (((a==0)&&((n.Am.Aj.length:Int)==n.Ak.Aj))&&(b.W==n.Ak.W)) (E4 n.Am.Aj 0)) fun c=>
  some ((((a==0)&&((n.Am.Aj.length:Int)==n.Ak.Aj))&&(b.W==n.Ak.W))&&(c.Cap==n.Ak.Cap)))<|
 cond (n.Ak.Bb==10) (
  Option.bind (A4l n.Ah) fun j=>
  some (((j==0)&&(n.Ah.K==n.Ak.K))&&(n.Ah.Cap==n.Ak.Cap)))<|
 Option.bind (A3f n.Aa) fun k=>
 some ((((k==0)&&(n.Aa.W==n.Ak.W))&&(n.Aa.K==n.Ak.K))&&(n.Aa.Cap==n.Ak.Cap))
def A1p (d:B0):Option Int:=
 let a:=(A2D d.Ak);
 Option.bind (gd (!(a !=0)) (A6r d)) fun c=>
 let b:=(A5k d);
 cond (((a !=0)||(!c))||(!b)) (
  some 2)<|
 some 0
def A5A (e:List C4) (a:Int):Option (Int⊕Bool):=
 cond (decide (a<(e.length:Int))) (
  Option.bind (E4 e a) fun b=>
  Option.bind (gd ((!((decide (b.ID<0))||(decide (b.ID>1048576))))&&(decide (a>0))) (E4 e (A3 (a-1)))) fun c=>
  Option.bind (gd (!(((decide (b.ID<0))||(decide (b.ID>1048576)))||((decide (a>0))&&(decide (c.ID>=b.ID))))) (A1p b.Ab)) fun d=>
  cond ((((decide (b.ID<0))||(decide (b.ID>1048576)))||((decide (a>0))&&(decide (c.ID>=b.ID))))||(d !=0)) (
   some (.inr false))<|
  some (.inl (A3 (a+1))))<|
 Option.map Sum.inr (some true)
def B0t (b:List C4) (a:Int):Option Bool:=
 loop (fun (s:Int)=>A5A b s) a
def A6p (b:List C4) (a:Int):Option Bool:=
 cond (((decide (a<1))||(decide (a>64)))||(decide ((b.length:Int)>a))) (
  some false)<|
 B0t b 0
def A6q (a:B0):(Int×Bool):=
 cond (a.Ak.Bb==1) (
  (a.Al.Now,true))<|
 cond (a.Ak.Bb==2) (
  (a.Ar.Now,true))<|
 cond (a.Ak.Bb==3) (
  (a.Sum.Now,true))<|
 cond (a.Ak.Bb==4) (
  (a.Ao.Now,true))<|
 cond (a.Ak.Bb==5) (
  (a.Ap.Now,true))<|
 cond (a.Ak.Bb==6) (
  (a.Bf.Now,true))<|
 cond (a.Ak.Bb==7) (
  (a.Au.Now,true))<|
 cond (a.Ak.Bb==8) (
  (a.Ae.Now,true))<|
 cond (a.Ak.Bb==11) (
  (a.Aa.Now,true))<|
 (0,false)
def B34 (d:B9) (a:Int):Option (Int⊕Int):=
 cond (decide (a<(d.Ag.length:Int))) (
  Option.bind (E4 d.Ag a) fun c=>
  let b:=(A6q c.Ab);
  cond (b.2&&(b.1 !=d.Now)) (
   some (.inr 2))<|
  some (.inl (A3 (a+1))))<|
 Option.map Sum.inr (some 0)
def A8i (b:B9) (a:Int):Option Int:=
 loop (fun (s:Int)=>B34 b s) a
def A0f (b:B9):Option Int:=
 Option.bind (gd (!((decide (b.Now<0))||(decide (b.Now>16777216)))) (A6p b.Ag b.Ax)) fun a=>
 cond (((decide (b.Now<0))||(decide (b.Now>16777216)))||(!a)) (
  some 2)<|
 A8i b 0
def A2X (b:List Int) (a:Int):Option (((List Int)×Int)⊕(List Int)):=
 cond (decide (a>=128)) (
  ck (decide ((b.length+ [(ior .u8 (IntKind.u8.wrap a) 128)].length)*1<=140737488355328))<|
  some (.inl ((b++ [(ior .u8 (IntKind.u8.wrap a) 128)]),(A0E .u64 a 7))))<|
 Option.map Sum.inr (ck (decide ((b.length+ [(IntKind.u8.wrap a)].length)*1<=140737488355328))<|
 some (b++ [(IntKind.u8.wrap a)]))
def A6F (a:List Int) (b:Int):Option (List Int):=
 loop (fun (s:((List Int)×Int))=>A2X s.1 s.2) (a,b)
def A3n (b:List Int) (a:Int):Option (List Int):=
 A6F b a
def A1J (b:List Int) (a:Int):Option (List Int):=
 cond (decide (a<0)) (
  A3n b (B1K .u64 (R5 .u64 (F3 a) 1)))<|
 A3n b (R5 .u64 (F3 a) 1)
def D4 (b:List Int) (c:Int) (d:Bool) (e:Int):Option (List Int):=
 Option.bind (A1J b e) fun a=>
 some a
def G0 (b:List Int) (c:Int) (d:Bool) (e:Int):Option (List Int):=
 Option.bind (D4 b c d e) fun a=>
 some a
def A3R (f:A9) (e:List Int) (c:Int) (d:Bool):Option (List Int):=
 Option.bind (D4 e c d f.T) fun a=>
 Option.bind (G0 a c d f.Aw) fun b=>
 some b
def I8 (f g:Int) (b:List Int) (c:Int) (d:Bool) (e:Int):Option (List Int):=
 Option.bind (D4 b c d e) fun a=>
 some a
def A8V (e:Int) (f:Bool) (g:List A9) (b:Int) (a:List Int):Option ((Int×(List Int))⊕(List Int)):=
 cond (decide (b<(g.length:Int))) (
  Option.bind (E4 g b) fun c=>
  Option.bind (A3R c a e f) fun d=>
  some (.inl ((A3 (b+1)),d)))<|
 Option.map Sum.inr (some a)
def A9z (c:Int) (d:Bool) (e:List A9) (b:Int) (a:List Int):Option (List Int):=
 loop (fun (s:(Int×(List Int)))=>A8V c d e s.1 s.2) (b,a)
def A5F (c:List Int) (b:Int) (d:Bool) (e:List A9):Option (List Int):=
 Option.bind (I8 0 (A3 ((c.length:Int)-b)) c b d (e.length:Int)) fun a=>
 A9z b d e 0 a
def A14 (b:List Int) (c:Int) (d:Bool) (e:List A9):Option (List Int):=
 Option.bind (A5F b c d e) fun a=>
 some a
def A4S (f:D7) (e:List Int) (c:Int) (d:Bool):Option (List Int):=
 Option.bind (D4 e c d f.T) fun a=>
 Option.bind (D4 a c d f.V) fun b=>
 some b
def A94 (e:Int) (f:Bool) (g:List D7) (b:Int) (a:List Int):Option ((Int×(List Int))⊕(List Int)):=
 cond (decide (b<(g.length:Int))) (
  Option.bind (E4 g b) fun c=>
  Option.bind (A4S c a e f) fun d=>
  some (.inl ((A3 (b+1)),d)))<|
 Option.map Sum.inr (some a)
def B00 (c:Int) (d:Bool) (e:List D7) (b:Int) (a:List Int):Option (List Int):=
 loop (fun (s:(Int×(List Int)))=>A94 c d e s.1 s.2) (b,a)
def A6T (c:List Int) (b:Int) (d:Bool) (e:List D7):Option (List Int):=
 Option.bind (I8 0 (A3 ((c.length:Int)-b)) c b d (e.length:Int)) fun a=>
 B00 b d e 0 a
def A3k (b:List Int) (c:Int) (d:Bool) (e:List D7):Option (List Int):=
 Option.bind (A6T b c d e) fun a=>
 some a
def A4U (j:D0) (k:List Int) (h:Int) (i:Bool):Option (List Int):=
 Option.bind (D4 k h i j.Bl) fun a=>
 Option.bind (D4 a h i j.T) fun b=>
 Option.bind (D4 b h i j.N) fun c=>
 Option.bind (D4 c h i j.S) fun d=>
 Option.bind (D4 d h i j.Q) fun e=>
 Option.bind (D4 e h i j.Bk) fun f=>
 Option.bind (D4 f h i j.Bj) fun g=>
 some g
def A96 (e:Int) (f:Bool) (g:List D0) (b:Int) (a:List Int):Option ((Int×(List Int))⊕(List Int)):=
 cond (decide (b<(g.length:Int))) (
  Option.bind (E4 g b) fun c=>
  Option.bind (A4U c a e f) fun d=>
  some (.inl ((A3 (b+1)),d)))<|
 Option.map Sum.inr (some a)
def B04 (c:Int) (d:Bool) (e:List D0) (b:Int) (a:List Int):Option (List Int):=
 loop (fun (s:(Int×(List Int)))=>A96 c d e s.1 s.2) (b,a)
def A6V (c:List Int) (b:Int) (d:Bool) (e:List D0):Option (List Int):=
 Option.bind (I8 0 (A3 ((c.length:Int)-b)) c b d (e.length:Int)) fun a=>
 B04 b d e 0 a
def A3l (b:List Int) (c:Int) (d:Bool) (e:List D0):Option (List Int):=
 Option.bind (A6V b c d e) fun a=>
 some a
def A4O (f:F6) (g:List Int) (d:Int) (e:Bool):Option (List Int):=
 Option.bind (D4 g d e f.V) fun a=>
 Option.bind (D4 a d e f.Bk) fun b=>
 Option.bind (D4 b d e f.Bj) fun c=>
 some c
def A9C (e:Int) (f:Bool) (g:List F6) (b:Int) (a:List Int):Option ((Int×(List Int))⊕(List Int)):=
 cond (decide (b<(g.length:Int))) (
  Option.bind (E4 g b) fun c=>
  Option.bind (A4O c a e f) fun d=>
  some (.inl ((A3 (b+1)),d)))<|
 Option.map Sum.inr (some a)
def A92 (c:Int) (d:Bool) (e:List F6) (b:Int) (a:List Int):Option (List Int):=
 loop (fun (s:(Int×(List Int)))=>A9C c d e s.1 s.2) (b,a)
def A2i (c:List Int) (b:Int) (d:Bool) (e:List F6):Option (List Int):=
 Option.bind (I8 0 (A3 ((c.length:Int)-b)) c b d (e.length:Int)) fun a=>
 A92 b d e 0 a
def B0u (i:List Int) (f:Int) (g:Bool) (h:D1):Option (List Int):=
 Option.bind (D4 i f g h.T) fun a=>
 Option.bind (D4 a f g h.Bd) fun b=>
 Option.bind (G0 b f g h.Aw) fun c=>
 Option.bind (D4 c f g h.Ba.N) fun d=>
 Option.bind (A2i d f g h.Ba.Ad) fun e=>
 some e
def A40 (b:D1) (c:List Int) (d:Int) (e:Bool):Option (List Int):=
 Option.bind (B0u c d e (D1.mk b.T b.Bd b.Aw b.Ba)) fun a=>
 some a
def A9y (e:Int) (f:Bool) (g:List D1) (b:Int) (a:List Int):Option ((Int×(List Int))⊕(List Int)):=
 cond (decide (b<(g.length:Int))) (
  Option.bind (E4 g b) fun c=>
  Option.bind (A40 c a e f) fun d=>
  some (.inl ((A3 (b+1)),d)))<|
 Option.map Sum.inr (some a)
def A9Y (c:Int) (d:Bool) (e:List D1) (b:Int) (a:List Int):Option (List Int):=
 loop (fun (s:(Int×(List Int)))=>A9y c d e s.1 s.2) (b,a)
def A2e (c:List Int) (b:Int) (d:Bool) (e:List D1):Option (List Int):=
 Option.bind (I8 0 (A3 ((c.length:Int)-b)) c b d (e.length:Int)) fun a=>
 A9Y b d e 0 a
def A4Q (f:H4) (e:List Int) (c:Int) (d:Bool):Option (List Int):=
 Option.bind (D4 e c d f.I) fun a=>
 Option.bind (D4 a c d f.V) fun b=>
 some b
def A95 (e:Int) (f:Bool) (g:List H4) (b:Int) (a:List Int):Option ((Int×(List Int))⊕(List Int)):=
 cond (decide (b<(g.length:Int))) (
  Option.bind (E4 g b) fun c=>
  Option.bind (A4Q c a e f) fun d=>
  some (.inl ((A3 (b+1)),d)))<|
 Option.map Sum.inr (some a)
def B02 (c:Int) (d:Bool) (e:List H4) (b:Int) (a:List Int):Option (List Int):=
 loop (fun (s:(Int×(List Int)))=>A95 c d e s.1 s.2) (b,a)
def A27 (c:List Int) (b:Int) (d:Bool) (e:List H4):Option (List Int):=
 Option.bind (I8 0 (A3 ((c.length:Int)-b)) c b d (e.length:Int)) fun a=>
 B02 b d e 0 a
def B0v (i:List Int) (f:Int) (g:Bool) (h:C8):Option (List Int):=
 Option.bind (D4 i f g h.W) fun a=>
 Option.bind (G0 a f g h.Cap) fun b=>
 Option.bind (D4 b f g h.I) fun c=>
 Option.bind (D4 c f g h.Be) fun d=>
 Option.bind (A27 d f g h.Ay) fun e=>
 some e
def A4W (b:C8) (c:List Int) (d:Int) (e:Bool):Option (List Int):=
 Option.bind (B0v c d e (C8.mk b.W b.Cap b.I b.Be b.Ay)) fun a=>
 some a
def A9B (e:Int) (f:Bool) (g:List C8) (b:Int) (a:List Int):Option ((Int×(List Int))⊕(List Int)):=
 cond (decide (b<(g.length:Int))) (
  Option.bind (E4 g b) fun c=>
  Option.bind (A4W c a e f) fun d=>
  some (.inl ((A3 (b+1)),d)))<|
 Option.map Sum.inr (some a)
def A90 (c:Int) (d:Bool) (e:List C8) (b:Int) (a:List Int):Option (List Int):=
 loop (fun (s:(Int×(List Int)))=>A9B c d e s.1 s.2) (b,a)
def A2g (c:List Int) (b:Int) (d:Bool) (e:List C8):Option (List Int):=
 Option.bind (I8 0 (A3 ((c.length:Int)-b)) c b d (e.length:Int)) fun a=>
 A90 b d e 0 a
def A4Y (f:E3) (g:List Int) (d:Int) (e:Bool):Option (List Int):=
 Option.bind (D4 g d e f.V) fun a=>
 Option.bind (D4 a d e f.G) fun b=>
 Option.bind (D4 b d e f.D) fun c=>
 some c
def A9D (e:Int) (f:Bool) (g:List E3) (b:Int) (a:List Int):Option ((Int×(List Int))⊕(List Int)):=
 cond (decide (b<(g.length:Int))) (
  Option.bind (E4 g b) fun c=>
  Option.bind (A4Y c a e f) fun d=>
  some (.inl ((A3 (b+1)),d)))<|
 Option.map Sum.inr (some a)
def A97 (c:Int) (d:Bool) (e:List E3) (b:Int) (a:List Int):Option (List Int):=
 loop (fun (s:(Int×(List Int)))=>A9D c d e s.1 s.2) (b,a)
def A2j (c:List Int) (b:Int) (d:Bool) (e:List E3):Option (List Int):=
 Option.bind (I8 0 (A3 ((c.length:Int)-b)) c b d (e.length:Int)) fun a=>
 A97 b d e 0 a
def A3r (b:List Int) (c:Int) (d:Bool) (e:Int):Option (Int×(List Int)):=
 Option.bind (D4 b c d (A3 e)) fun a=>
 some ((F3 (A3 e)),a)
def A0h (e:List Int) (c:Int) (d:Bool) (f:C7):Option (C7×(List Int)):=
 Option.bind (A3r e c d f.Hi) fun a=>
 Option.bind (A3r a.2 c d f.Lo) fun b=>
 some ((C7.mk a.1 b.1),b.2)
def A1f (e:Int) (f:Bool) (g:List C7) (b:Int) (a:List Int):Option ((Int×(List Int))⊕(List Int)):=
 cond (decide (b<(g.length:Int))) (
  Option.bind (E4 g b) fun c=>
  Option.bind (A0h a e f c) fun d=>
  some (.inl ((A3 (b+1)),d.2)))<|
 Option.map Sum.inr (some a)
def B06 (c:Int) (d:Bool) (e:List C7) (b:Int) (a:List Int):Option (List Int):=
 loop (fun (s:(Int×(List Int)))=>A1f c d e s.1 s.2) (b,a)
def A28 (c:List Int) (b:Int) (d:Bool) (e:List C7):Option (List Int):=
 Option.bind (I8 0 (A3 ((c.length:Int)-b)) c b d (e.length:Int)) fun a=>
 B06 b d e 0 a
def A4m (c:List Int) (d:Int) (e:Bool) (a:Int):Option (Bool×(List Int)):=
 Option.bind (I8 0 1 c d e a) fun b=>
 some ((a==1),b)
def A6G (a:List Int) (b:Int) (c d:Bool):Option (Bool×(List Int)):=
 cond d (
  A4m a b c 1)<|
 A4m a b c 0
def B2n (e:Int) (f:Bool) (g:List Int) (b:Int) (a:List Int):Option ((Int×(List Int))⊕(List Int)):=
 cond (decide (b<(g.length:Int))) (
  Option.bind (E4 g b) fun c=>
  Option.bind (D4 a e f c) fun d=>
  some (.inl ((A3 (b+1)),d)))<|
 Option.map Sum.inr (some a)
def B26 (c:Int) (d:Bool) (e:List Int) (b:Int) (a:List Int):Option (List Int):=
 loop (fun (s:(Int×(List Int)))=>B2n c d e s.1 s.2) (b,a)
def A8F (c:List Int) (b:Int) (d:Bool) (e:List Int):Option (List Int):=
 Option.bind (I8 0 (A3 ((c.length:Int)-b)) c b d (e.length:Int)) fun a=>
 B26 b d e 0 a
def A6H (b:List Int) (c:Int) (d:Bool) (e:List Int):Option (List Int):=
 Option.bind (A8F b c d e) fun a=>
 some a
def A1o (b0_0:List Int) (b0_1:Int) (b0_3:Bool) (b1:B0):Option (Bool×B0×(List Int)):=
 cond (b1.Ak.Bb==1) (
  Option.bind (D4 b0_0 b0_1 b0_3 b1.Al.W) fun X=>
  Option.bind (G0 X b0_1 b0_3 b1.Al.Cap) fun Y=>
  Option.bind (D4 Y b0_1 b0_3 b1.Al.Now) fun Z=>
  Option.bind (A3k Z b0_1 b0_3 b1.Al.Av) fun a0=>
  some (b0_3,(B0.mk b1.Ak b1.Al b1.Ar b1.Sum b1.Ao b1.Ap b1.Bf b1.Au b1.Ae b1.Am b1.Ah b1.Aa),a0))<|
 cond (b1.Ak.Bb==2) (
  Option.bind (D4 b0_0 b0_1 b0_3 b1.Ar.W) fun b=>
  Option.bind (G0 b b0_1 b0_3 b1.Ar.K) fun c=>
  Option.bind (G0 c b0_1 b0_3 b1.Ar.Cap) fun d=>
  Option.bind (D4 d b0_1 b0_3 b1.Ar.Now) fun e=>
  Option.bind (A14 e b0_1 b0_3 b1.Ar.Ac) fun f=>
  some (b0_3,(B0.mk b1.Ak b1.Al b1.Ar b1.Sum b1.Ao b1.Ap b1.Bf b1.Au b1.Ae b1.Am b1.Ah b1.Aa),f))<|
 cond (b1.Ak.Bb==3) (
  Option.bind (D4 b0_0 b0_1 b0_3 b1.Sum.W) fun g=>
  Option.bind (G0 g b0_1 b0_3 b1.Sum.K) fun h=>
  Option.bind (G0 h b0_1 b0_3 b1.Sum.Cap) fun i=>
  Option.bind (G0 i b0_1 b0_3 b1.Sum.Bj) fun j=>
  Option.bind (D4 j b0_1 b0_3 b1.Sum.Now) fun k=>
  Option.bind (A14 k b0_1 b0_3 b1.Sum.Ac) fun l=>
  some (b0_3,(B0.mk b1.Ak b1.Al b1.Ar b1.Sum b1.Ao b1.Ap b1.Bf b1.Au b1.Ae b1.Am b1.Ah b1.Aa),l))<|
 cond (b1.Ak.Bb==4) (
  Option.bind (G0 b0_0 b0_1 b0_3 b1.Ao.Bh) fun m=>
  Option.bind (D4 m b0_1 b0_3 b1.Ao.W) fun n=>
  Option.bind (G0 n b0_1 b0_3 b1.Ao.K) fun o=>
  Option.bind (G0 o b0_1 b0_3 b1.Ao.Cap) fun p=>
  Option.bind (D4 p b0_1 b0_3 b1.Ao.Now) fun q=>
  Option.bind (D4 q b0_1 b0_3 b1.Ao.Bl) fun r=>
  Option.bind (A3l r b0_1 b0_3 b1.Ao.Az) fun s=>
  some (b0_3,(B0.mk b1.Ak b1.Al b1.Ar b1.Sum b1.Ao b1.Ap b1.Bf b1.Au b1.Ae b1.Am b1.Ah b1.Aa),s))<|
 cond (b1.Ak.Bb==5) (
  Option.bind (D4 b0_0 b0_1 b0_3 b1.Ap.W) fun t=>
  Option.bind (G0 t b0_1 b0_3 b1.Ap.K) fun u=>
  Option.bind (G0 u b0_1 b0_3 b1.Ap.Cap) fun v=>
  Option.bind (D4 v b0_1 b0_3 b1.Ap.Now) fun w=>
  Option.bind (D4 w b0_1 b0_3 b1.Ap.Bl) fun x=>
  Option.bind (A3l x b0_1 b0_3 b1.Ap.Az) fun y=>
  some (b0_3,(B0.mk b1.Ak b1.Al b1.Ar b1.Sum b1.Ao b1.Ap b1.Bf b1.Au b1.Ae b1.Am b1.Ah b1.Aa),y))<|
 cond (b1.Ak.Bb==6) (
  Option.bind (G0 b0_0 b0_1 b0_3 b1.Bf.P) fun z=>
  Option.bind (D4 z b0_1 b0_3 b1.Bf.Bc) fun A=>
  Option.bind (D4 A b0_1 b0_3 b1.Bf.Now) fun B=>
  Option.bind (A28 B b0_1 b0_3 b1.Bf.Af) fun C=>
  some (b0_3,(B0.mk b1.Ak b1.Al b1.Ar b1.Sum b1.Ao b1.Ap b1.Bf b1.Au b1.Ae b1.Am b1.Ah b1.Aa),C))<|
 cond (b1.Ak.Bb==7) (
  Option.bind (D4 b0_0 b0_1 b0_3 b1.Au.Now) fun D=>
  Option.bind (A6H D b0_1 b0_3 b1.Au.Bg) fun E=>
  some (b0_3,(B0.mk b1.Ak b1.Al b1.Ar b1.Sum b1.Ao b1.Ap b1.Bf b1.Au b1.Ae b1.Am b1.Ah b1.Aa),E))<|
 cond (b1.Ak.Bb==8) (
  Option.bind (A6G b0_0 b0_1 b0_3 b1.Ae.Bj) fun a=>
  Option.bind (D4 a.2 b0_1 b0_3 b1.Ae.W) fun F=>
  Option.bind (G0 F b0_1 b0_3 b1.Ae.Cap) fun G=>
  Option.bind (D4 G b0_1 b0_3 b1.Ae.Now) fun H=>
  Option.bind (A3k H b0_1 b0_3 b1.Ae.Av) fun I=>
  some (b0_3,(B0.mk b1.Ak b1.Al b1.Ar b1.Sum b1.Ao b1.Ap b1.Bf b1.Au (E5.mk a.1 b1.Ae.W b1.Ae.Cap b1.Ae.Now b1.Ae.Av) b1.Am b1.Ah b1.Aa),I))<|
 cond (b1.Ak.Bb==9) (
  Option.bind (A2g b0_0 b0_1 b0_3 b1.Am.Aj) fun J=>
  some (b0_3,(B0.mk b1.Ak b1.Al b1.Ar b1.Sum b1.Ao b1.Ap b1.Bf b1.Au b1.Ae b1.Am b1.Ah b1.Aa),J))<|
 cond (b1.Ak.Bb==10) (
  Option.bind (G0 b0_0 b0_1 b0_3 b1.Ah.K) fun L=>
  Option.bind (G0 L b0_1 b0_3 b1.Ah.Cap) fun M=>
  Option.bind (D4 M b0_1 b0_3 b1.Ah.N) fun O=>
  Option.bind (A2j O b0_1 b0_3 b1.Ah.Aq) fun Q=>
  some (b0_3,(B0.mk b1.Ak b1.Al b1.Ar b1.Sum b1.Ao b1.Ap b1.Bf b1.Au b1.Ae b1.Am b1.Ah b1.Aa),Q))<|
 cond (b1.Ak.Bb==11) (
  Option.bind (D4 b0_0 b0_1 b0_3 b1.Aa.W) fun R=>
  Option.bind (G0 R b0_1 b0_3 b1.Aa.K) fun S=>
  Option.bind (G0 S b0_1 b0_3 b1.Aa.Cap) fun T=>
  Option.bind (D4 T b0_1 b0_3 b1.Aa.Now) fun U=>
  Option.bind (A2e U b0_1 b0_3 b1.Aa.Ai) fun V=>
  some (b0_3,(B0.mk b1.Ak b1.Al b1.Ar b1.Sum b1.Ao b1.Ap b1.Bf b1.Au b1.Ae b1.Am b1.Ah b1.Aa),V))<|
 some (true,(B0.mk b1.Ak b1.Al b1.Ar b1.Sum b1.Ao b1.Ap b1.Bf b1.Au b1.Ae b1.Am b1.Ah b1.Aa),b0_0)
def A16 (l:List Int) (i:Int) (j:Bool) (k:E1):Option (List Int):=
 Option.bind (G0 l i j k.Bb) fun a=>
 Option.bind (G0 a i j k.Bh) fun b=>
 Option.bind (D4 b i j k.W) fun c=>
 Option.bind (G0 c i j k.K) fun d=>
 Option.bind (G0 d i j k.Cap) fun e=>
 Option.bind (G0 e i j k.P) fun f=>
 Option.bind (G0 f i j k.Aj) fun g=>
 Option.bind (D4 g i j k.Bj) fun h=>
 some h
def Q5 (b:List Int) (c d:Int):Option (List Int):=
 Option.bind (A1J b d) fun a=>
 some a
def Z0 (b:List Int) (c d:Int):Option (List Int):=
 Option.bind (Q5 b c d) fun a=>
 some a
def X1 (e f:Int) (b:List Int) (c d:Int):Option (List Int):=
 Option.bind (Q5 b c d) fun a=>
 some a
def A9x (b:List Int) (a:Int):Option (((List Int)×Int)⊕(List Int)):=
 cond (decide (a>=128)) (
  ck (decide ((b.length+ [(ior .u8 (IntKind.u8.wrap a) 128)].length)*1<=140737488355328))<|
  some (.inl ((b++ [(ior .u8 (IntKind.u8.wrap a) 128)]),(A0E .u64 a 7))))<|
 Option.map Sum.inr (ck (decide ((b.length+ [(IntKind.u8.wrap a)].length)*1<=140737488355328))<|
 some (b++ [(IntKind.u8.wrap a)]))
def B7e (a:List Int) (b:Int):Option (List Int):=
 loop (fun (s:((List Int)×Int))=>A9x s.1 s.2) (a,b)
def A6E (a:Int):Option (List Int):=
 B7e ([]:List Int) a
def B35 (a:Int):Option (List Int):=
 cond (decide (a<0)) (
  A6E (B1K .u64 (R5 .u64 (F3 a) 1)))<|
 A6E (R5 .u64 (F3 a) 1)
def B15 (b c:Int):Option (List Int):=
 Option.bind (B35 c) fun a=>
 some a
def A18 (d e b c:Int):Option (List Int):=
 Option.bind (B15 b c) fun a=>
 some a
def A05 (l:Int) (m:B9) (c:List C4) (a:Int) (d:List Int) (b:Bool):Option (((List C4)×Int×(List Int)×Bool)⊕(Bool×B9×(List Int))):=
 cond ((decide (a<(c.length:Int)))&&(!b)) (
  Option.bind (E4 c a) fun h=>
  Option.bind (E4 c a) fun i=>
  Option.bind (D4 d l b i.ID) fun g=>
  Option.bind (E4 (c.set (a).toNat i) a) fun j=>
  Option.bind (A16 g l b j.Ab.Ak) fun f=>
  cond (!b) (
   Option.bind (E4 ((c.set (a).toNat i).set (a).toNat j) a) fun k=>
   Option.bind (A1o f l b k.Ab) fun e=>
   some (.inl ((((c.set (a).toNat i).set (a).toNat j).set (a).toNat (C4.mk k.ID e.2.1)),(A3 (a+1)),e.2.2,e.1)))<|
  some (.inl (((c.set (a).toNat i).set (a).toNat j),(A3 (a+1)),f,b)))<|
 Option.map Sum.inr (some (b,(B9.mk m.Now m.Ax c),d))
def V5 (e:Int) (f:B9) (c:List C4) (d:Int) (a:List Int) (b:Bool):Option (Bool×B9×(List Int)):=
 loop (fun (s:((List C4)×Int×(List Int)×Bool))=>A05 e f s.1 s.2.1 s.2.2.1 s.2.2.2) (c,d,a,b)
def A0g (f:Int) (e:B9):Option (Bool×B9×(List Int)):=
 Option.bind (A18 1 1 f 1) fun a=>
 Option.bind (Q5 a f e.Now) fun b=>
 Option.bind (Z0 b f e.Ax) fun c=>
 Option.bind (X1 0 64 c f (e.Ag.length:Int)) fun d=>
 ck (decide (0<=(e.Ag.length:Int)/\(e.Ag.length:Int)<=(e.Ag.length:Int)/\(e.Ag.length:Int)*640<=140737488355328/\(e.Ag.length:Int)<=140737488355328))<|
 V5 f e (laid (List.replicate ((e.Ag.length:Int)).toNat (C4.mk 0 (B0.mk (E1.mk 0 0 0 0 0 0 0 0) (E9.mk 0 0 0 []) (G1.mk 0 0 0 0 []) (I0.mk 0 0 0 0 0 []) (F0.mk 0 0 0 0 0 0 []) (F1.mk 0 0 0 0 0 []) (G2.mk 0 0 0 []) (J7.mk 0 []) (E5.mk false 0 0 0 []) (I2.mk []) (D8.mk 0 0 0 []) (E2.mk 0 0 0 0 [])))) 0 (e.Ag.take (List.replicate ((e.Ag.length:Int)).toNat (C4.mk 0 (B0.mk (E1.mk 0 0 0 0 0 0 0 0) (E9.mk 0 0 0 []) (G1.mk 0 0 0 0 []) (I0.mk 0 0 0 0 0 []) (F0.mk 0 0 0 0 0 0 []) (F1.mk 0 0 0 0 0 []) (G2.mk 0 0 0 []) (J7.mk 0 []) (E5.mk false 0 0 0 []) (I2.mk []) (D8.mk 0 0 0 []) (E2.mk 0 0 0 0 [])))).length)) 0 d false
def S4 (e:B9):Option ((List Int)×Int):=
 Option.bind (A0f e) fun a=>
 cond (a !=0) (
  some ([],a))<|
 Option.bind (A0g 0 e) fun b=>
 Option.bind (B2v b.2.2) fun d=>
 Option.bind (A1J b.2.2 d) fun c=>
 cond (decide ((c.length:Int)>(1048576:Int))) (
  some ([],5))<|
 some (c,0)
def Q4:Option Bool:=
 Option.bind (S4 (B9.mk 0 1 [])) fun a=>
 Option.bind (gd (a.2==0) (V0 [1,0,1,0])) fun b=>
 Option.bind (gd (a.2==0) (Q0 a.1 b)) fun c=>
 some ((a.2==0)&&c)
def A3E (c:C4) (d b a:Int):Option ((Int×Int)⊕((Int×Int)⊕Bool)):=
 cond (decide (a<(c.Ab.Am.Aj.length:Int))) (
  Option.bind (E4 c.Ab.Am.Aj a) fun e=>
  some (.inl ((A3 (b+(e.Ay.length:Int))),(A3 (a+1)))))<|
 Option.map Sum.inr (some (.inl (b,(A3 (d+1)))))
def B5f (d:C4) (b c a:Int):Option ((Int×Int)⊕Bool):=
 loop (fun (s:(Int×Int))=>A3E d b s.1 s.2) (c,a)
def A4s (b:C4) (d c a:Int):Option ((Int×Int)⊕((Int×Int)⊕Bool)):=
 cond (decide (a<(b.Ab.Aa.Ai.length:Int))) (
  Option.bind (E4 b.Ab.Aa.Ai a) fun e=>
  some (.inl ((A3 (c+(e.Ba.Ad.length:Int))),(A3 (a+1)))))<|
 Option.map Sum.inr (B5f b d c 0)
def B1M (c:C4) (a d b:Int):Option ((Int×Int)⊕Bool):=
 loop (fun (s:(Int×Int))=>A4s c a s.1 s.2) (d,b)
def A64 (d:B9) (c b:Int):Option ((Int×Int)⊕Bool):=
 cond (decide (b<(d.Ag.length:Int))) (
  Option.bind (E4 d.Ag b) fun a=>
  B1M a b (A3 ((A3 ((A3 ((A3 ((A3 ((A3 ((A3 ((A3 ((A3 ((A3 ((A3 (c+(a.Ab.Al.Av.length:Int)))+(a.Ab.Ar.Ac.length:Int)))+(a.Ab.Sum.Ac.length:Int)))+(a.Ab.Ao.Az.length:Int)))+(a.Ab.Ap.Az.length:Int)))+(a.Ab.Bf.Af.length:Int)))+(a.Ab.Au.Bg.length:Int)))+(a.Ab.Ae.Av.length:Int)))+(a.Ab.Ah.Aq.length:Int)))+(a.Ab.Aa.Ai.length:Int)))+(a.Ab.Am.Aj.length:Int))) 0)<|
 Option.map Sum.inr (some ((decide ((d.Ag.length:Int)<=(70:Int)))&&(decide (c<=400))))
def B6i (c:B9) (b a:Int):Option Bool:=
 loop (fun (s:(Int×Int))=>A64 c s.1 s.2) (b,a)
def A7A (a:B9):Option Bool:=
 B6i a 0 0
def B4E (b a:Int):Option Int:=
 ck (decide (a≠0))<|
 cond (decide ((Int.tmod b a)<0)) (
  some (A3 ((Int.tmod b a)+a)))<|
 some (Int.tmod b a)
def A8P (b c:Int):Option Int:=
 Option.bind (B4E b c) fun a=>
 some a
def A0L (a:E1):(List Int):=
 [a.Bb,a.Bh,a.W,a.K,a.Cap,a.P,a.Aj,a.Bj]
def A8e (a:List Int):Option (List Int):=
 ck (decide (([(a.length:Int)].length+a.length)*8<=140737488355328))<|
 some ([(a.length:Int)]++a)
def A1w (d:List A9) (c:List Int) (a:Int):Option (((List Int)×Int)⊕(List Int)):=
 cond (decide (a<(d.length:Int))) (
  Option.bind (E4 d a) fun b=>
  ck (decide ((c.length+ [b.T,b.Aw].length)*8<=140737488355328))<|
  some (.inl ((c++ [b.T,b.Aw]),(A3 (a+1)))))<|
 Option.map Sum.inr (some c)
def A8D (c:List A9) (b:List Int) (a:Int):Option (List Int):=
 loop (fun (s:((List Int)×Int))=>A1w c s.1 s.2) (b,a)
def Y2 (a:List A9):Option (List Int):=
 A8D a [(a.length:Int)] 0
def Q1 (a:Bool):Int:=
 cond a (
  1)<|
 0
def A5d (d:List D7) (c:List Int) (a:Int):Option (((List Int)×Int)⊕(List Int)):=
 cond (decide (a<(d.length:Int))) (
  Option.bind (E4 d a) fun b=>
  ck (decide ((c.length+ [b.T,b.V].length)*8<=140737488355328))<|
  some (.inl ((c++ [b.T,b.V]),(A3 (a+1)))))<|
 Option.map Sum.inr (some c)
def B3X (c:List D7) (b:List Int) (a:Int):Option (List Int):=
 loop (fun (s:((List Int)×Int))=>A5d c s.1 s.2) (b,a)
def A26 (a:List D7):Option (List Int):=
 B3X a [(a.length:Int)] 0
def A2U (d:List D0) (c:List Int) (b:Int):Option (((List Int)×Int)⊕(List Int)):=
 cond (decide (b<(d.length:Int))) (
  Option.bind (E4 d b) fun a=>
  ck (decide ((c.length+ [a.Bl,a.T,a.N,a.S,a.Q,a.Bk,a.Bj].length)*8<=140737488355328))<|
  some (.inl ((c++ [a.Bl,a.T,a.N,a.S,a.Q,a.Bk,a.Bj]),(A3 (b+1)))))<|
 Option.map Sum.inr (some c)
def B0s (c:List D0) (b:List Int) (a:Int):Option (List Int):=
 loop (fun (s:((List Int)×Int))=>A2U c s.1 s.2) (b,a)
def A0x (a:List D0):Option (List Int):=
 B0s a [(a.length:Int)] 0
def A5h (d:B0) (c:List Int) (b:Int):Option (((List Int)×Int)⊕(List Int)):=
 cond (decide (b<(d.Bf.Af.length:Int))) (
  Option.bind (E4 d.Bf.Af b) fun a=>
  ck (decide ((c.length+ [(A3 a.Hi),(A3 a.Lo)].length)*8<=140737488355328))<|
  some (.inl ((c++ [(A3 a.Hi),(A3 a.Lo)]),(A3 (b+1)))))<|
 Option.map Sum.inr (some c)
def A6o (c:B0) (b:List Int) (a:Int):Option (List Int):=
 loop (fun (s:((List Int)×Int))=>A5h c s.1 s.2) (b,a)
def A1T (d:C8) (e:Int) (c:List Int) (a:Int):Option (((List Int)×Int)⊕(((List Int)×Int)⊕(List Int))):=
 cond (decide (a<(d.Ay.length:Int))) (
  Option.bind (E4 d.Ay a) fun b=>
  ck (decide ((c.length+ [b.I,b.V].length)*8<=140737488355328))<|
  some (.inl ((c++ [b.I,b.V]),(A3 (a+1)))))<|
 Option.map Sum.inr (some (.inl (c,(A3 (e+1)))))
def A8g (d:C8) (a:Int) (c:List Int) (b:Int):Option (((List Int)×Int)⊕(List Int)):=
 loop (fun (s:((List Int)×Int))=>A1T d a s.1 s.2) (c,b)
def A4g (d:B0) (c:List Int) (b:Int):Option (((List Int)×Int)⊕(List Int)):=
 cond (decide (b<(d.Am.Aj.length:Int))) (
  Option.bind (E4 d.Am.Aj b) fun a=>
  ck (decide ((c.length+ [a.W,a.Cap,a.I,a.Be,(a.Ay.length:Int)].length)*8<=140737488355328))<|
  A8g a b (c++ [a.W,a.Cap,a.I,a.Be,(a.Ay.length:Int)]) 0)<|
 Option.map Sum.inr (some c)
def A5e (c:B0) (b:List Int) (a:Int):Option (List Int):=
 loop (fun (s:((List Int)×Int))=>A4g c s.1 s.2) (b,a)
def A4h (d:B0) (c:List Int) (b:Int):Option (((List Int)×Int)⊕(List Int)):=
 cond (decide (b<(d.Ah.Aq.length:Int))) (
  Option.bind (E4 d.Ah.Aq b) fun a=>
  ck (decide ((c.length+ [a.V,a.G,a.D].length)*8<=140737488355328))<|
  some (.inl ((c++ [a.V,a.G,a.D]),(A3 (b+1)))))<|
 Option.map Sum.inr (some c)
def A5f (c:B0) (b:List Int) (a:Int):Option (List Int):=
 loop (fun (s:((List Int)×Int))=>A4h c s.1 s.2) (b,a)
def A1U (d:D1) (e:Int) (c:List Int) (b:Int):Option (((List Int)×Int)⊕(((List Int)×Int)⊕(List Int))):=
 cond (decide (b<(d.Ba.Ad.length:Int))) (
  Option.bind (E4 d.Ba.Ad b) fun a=>
  ck (decide ((c.length+ [a.V,a.Bk,a.Bj].length)*8<=140737488355328))<|
  some (.inl ((c++ [a.V,a.Bk,a.Bj]),(A3 (b+1)))))<|
 Option.map Sum.inr (some (.inl (c,(A3 (e+1)))))
def A8h (d:D1) (a:Int) (c:List Int) (b:Int):Option (((List Int)×Int)⊕(List Int)):=
 loop (fun (s:((List Int)×Int))=>A1U d a s.1 s.2) (c,b)
def A4i (d:B0) (c:List Int) (b:Int):Option (((List Int)×Int)⊕(List Int)):=
 cond (decide (b<(d.Aa.Ai.length:Int))) (
  Option.bind (E4 d.Aa.Ai b) fun a=>
  ck (decide ((c.length+ [a.T,a.Bd,a.Aw,a.Ba.N,(a.Ba.Ad.length:Int)].length)*8<=140737488355328))<|
  A8h a b (c++ [a.T,a.Bd,a.Aw,a.Ba.N,(a.Ba.Ad.length:Int)]) 0)<|
 Option.map Sum.inr (some c)
def A5g (c:B0) (b:List Int) (a:Int):Option (List Int):=
 loop (fun (s:((List Int)×Int))=>A4i c s.1 s.2) (b,a)
def A6S (i:B0):Option (List Int):=
 cond (i.Ak.Bb==1) (
  Option.bind (A26 i.Al.Av) fun h=>
  ck (decide (([i.Al.W,i.Al.Cap,i.Al.Now].length+h.length)*8<=140737488355328))<|
  some ([i.Al.W,i.Al.Cap,i.Al.Now]++h))<|
 cond (i.Ak.Bb==2) (
  Option.bind (Y2 i.Ar.Ac) fun e=>
  ck (decide (([i.Ar.W,i.Ar.K,i.Ar.Cap,i.Ar.Now].length+e.length)*8<=140737488355328))<|
  some ([i.Ar.W,i.Ar.K,i.Ar.Cap,i.Ar.Now]++e))<|
 cond (i.Ak.Bb==3) (
  Option.bind (Y2 i.Sum.Ac) fun a=>
  ck (decide (([i.Sum.W,i.Sum.K,i.Sum.Cap,i.Sum.Bj,i.Sum.Now].length+a.length)*8<=140737488355328))<|
  some ([i.Sum.W,i.Sum.K,i.Sum.Cap,i.Sum.Bj,i.Sum.Now]++a))<|
 cond (i.Ak.Bb==4) (
  Option.bind (A0x i.Ao.Az) fun b=>
  ck (decide (([i.Ao.Bh,i.Ao.W,i.Ao.K,i.Ao.Cap,i.Ao.Now,i.Ao.Bl].length+b.length)*8<=140737488355328))<|
  some ([i.Ao.Bh,i.Ao.W,i.Ao.K,i.Ao.Cap,i.Ao.Now,i.Ao.Bl]++b))<|
 cond (i.Ak.Bb==5) (
  Option.bind (A0x i.Ap.Az) fun c=>
  ck (decide (([i.Ap.W,i.Ap.K,i.Ap.Cap,i.Ap.Now,i.Ap.Bl].length+c.length)*8<=140737488355328))<|
  some ([i.Ap.W,i.Ap.K,i.Ap.Cap,i.Ap.Now,i.Ap.Bl]++c))<|
 cond (i.Ak.Bb==6) (
  A6o i [i.Bf.P,i.Bf.Bc,i.Bf.Now,(i.Bf.Af.length:Int)] 0)<|
 cond (i.Ak.Bb==7) (
  Option.bind (A8e i.Au.Bg) fun f=>
  ck (decide (([i.Au.Now].length+f.length)*8<=140737488355328))<|
  some ([i.Au.Now]++f))<|
 cond (i.Ak.Bb==8) (
  let g:=(Q1 i.Ae.Bj);
  Option.bind (A26 i.Ae.Av) fun d=>
  ck (decide (([g,i.Ae.W,i.Ae.Cap,i.Ae.Now].length+d.length)*8<=140737488355328))<|
  some ([g,i.Ae.W,i.Ae.Cap,i.Ae.Now]++d))<|
 cond (i.Ak.Bb==9) (
  A5e i [(i.Am.Aj.length:Int)] 0)<|
 cond (i.Ak.Bb==10) (
  A5f i [i.Ah.K,i.Ah.Cap,i.Ah.N,(i.Ah.Aq.length:Int)] 0)<|
 A5g i [i.Aa.W,i.Aa.K,i.Aa.Cap,i.Aa.Now,(i.Aa.Ai.length:Int)] 0
def B7d (f:B9) (b:List Int) (c:Int):Option (((List Int)×Int)⊕(List Int)):=
 cond (decide (c<(f.Ag.length:Int))) (
  Option.bind (E4 f.Ag c) fun a=>
  ck (decide ((b.length+ [a.ID].length)*8<=140737488355328))<|
  let d:=(A0L a.Ab.Ak);
  ck (decide (((b++ [a.ID]).length+d.length)*8<=140737488355328))<|
  Option.bind (A6S a.Ab) fun e=>
  ck (decide ((((b++ [a.ID])++d).length+e.length)*8<=140737488355328))<|
  some (.inl ((((b++ [a.ID])++d)++e),(A3 (c+1)))))<|
 Option.map Sum.inr (some b)
def B8u (c:B9) (b:List Int) (a:Int):Option (List Int):=
 loop (fun (s:((List Int)×Int))=>B7d c s.1 s.2) (b,a)
def A9X (a:B9):Option (List Int):=
 B8u a [1,a.Now,a.Ax,(a.Ag.length:Int)] 0
def A4 (b:A6):Option (Int×A6):=
 cond (decide (b.At>=(b.L.length:Int))) (
  some (0,(A6.mk b.L b.At true)))<|
 Option.bind (E4 b.L (A3 ((A3 (b.At+(1:Int)))-(1:Int)))) fun a=>
 some (a,(A6.mk b.L (A3 (b.At+1)) b.Bi))
def A4N (i:A6):Option (E1×A6):=
 Option.bind (A4 i) fun a=>
 Option.bind (A4 a.2) fun b=>
 Option.bind (A4 b.2) fun c=>
 Option.bind (A4 c.2) fun d=>
 Option.bind (A4 d.2) fun e=>
 Option.bind (A4 e.2) fun f=>
 Option.bind (A4 f.2) fun g=>
 Option.bind (A4 g.2) fun h=>
 some ((E1.mk a.1 b.1 c.1 d.1 e.1 f.1 g.1 h.1),h.2)
def A1I (e:List Int) (d c a:Int):Option ((Int×Int)⊕(Int×Int×Bool)):=
 cond ((decide (a<10))&&(decide ((A3 (d+a))<(e.length:Int)))) (
  Option.bind (E4 e (A3 (d+a))) fun b=>
  cond ((a==9)&&(decide (b>1))) (
   some (.inr (0,0,false)))<|
  ck (decide (0<=(F3 (A3 (7*a)))))<|
  cond (decide (b>=128)) (
   some (.inl ((ior .u64 c (R5 .u64 (F3 (V9 .u8 b 127)) (F3 (A3 (7*a))))),(A3 (a+1)))))<|
  cond ((b==0)&&(decide (a>0))) (
   some (.inr (0,0,false)))<|
  cond ((V9 .u64 (ior .u64 c (R5 .u64 (F3 (V9 .u8 b 127)) (F3 (A3 (7*a))))) (1:Int))==(1:Int)) (
   some (.inr ((A3 ((IntKind.i64.wrap (0-(A3 (A0E .u64 (ior .u64 c (R5 .u64 (F3 (V9 .u8 b 127)) (F3 (A3 (7*a))))) (1:Int)))))-(1:Int))),(A3 ((A3 (d+a))+1)),true)))<|
  some (.inr ((A3 (A0E .u64 (ior .u64 c (R5 .u64 (F3 (V9 .u8 b 127)) (F3 (A3 (7*a))))) 1)),(A3 ((A3 (d+a))+1)),true)))<|
 Option.map Sum.inr (some (0,0,false))
def A9W (c:List Int) (d a b:Int):Option (Int×Int×Bool):=
 loop (fun (s:(Int×Int))=>A1I c d s.1 s.2) (a,b)
def B0V (b:List Int) (a:Int):Option (Int×Int×Bool):=
 cond ((decide (a<0))||(decide (a>(b.length:Int)))) (
  some (0,0,false))<|
 A9W b a 0 0
def A6A (d b:List Int) (c:Int):Option (((List Int)×Int)⊕((List Int)×Int)):=
 cond (decide (c<(d.length:Int))) (
  Option.bind (B0V d c) fun a=>
  cond (!a.2.2) (
   some (.inr ([],13)))<|
  ck (decide ((b.length+ [a.1].length)*8<=140737488355328))<|
  some (.inl ((b++ [a.1]),a.2.1)))<|
 Option.map Sum.inr (some (b,0))
def B1X (c a:List Int) (b:Int):Option ((List Int)×Int):=
 loop (fun (s:((List Int)×Int))=>A6A c s.1 s.2) (a,b)
def A7d (a:List Int):Option ((List Int)×Int):=
 B1X a ([]:List Int) 0
def J9 (a:Int):Bool:=
 ((decide (a>=0))&&(decide (a<=16777216)))
def A2T (a:B0):(Int×Bool):=
 cond (a.Ak.Bb==1) (
  (a.Al.Now,true))<|
 cond (a.Ak.Bb==2) (
  (a.Ar.Now,true))<|
 cond (a.Ak.Bb==3) (
  (a.Sum.Now,true))<|
 cond (a.Ak.Bb==4) (
  (a.Ao.Now,true))<|
 cond (a.Ak.Bb==5) (
  (a.Ap.Now,true))<|
 cond (a.Ak.Bb==6) (
  (a.Bf.Now,true))<|
 cond (a.Ak.Bb==7) (
  (a.Au.Now,true))<|
 cond (a.Ak.Bb==8) (
  (a.Ae.Now,true))<|
 cond (a.Ak.Bb==11) (
  (a.Aa.Now,true))<|
 (0,false)
def P6 (h:E1) (a b c d e f g:Int):E1:=
 (E1.mk h.Bb a b c d e f g)
def A3M (b:E1) (a:Bool):E1:=
 cond a (
  P6 b 0 b.W b.K b.Cap 0 0 0)<|
 cond (b.Bb==3) (
  P6 b 0 b.W b.K b.Cap 0 0 b.Bj)<|
 cond (b.Bb==4) (
  P6 b b.Bh b.W b.K b.Cap 0 0 0)<|
 cond (b.Bb==6) (
  P6 b 0 0 0 0 b.P 0 0)<|
 cond (b.Bb==7) (
  P6 b 0 b.W 0 0 0 0 0)<|
 cond (b.Bb==8) (
  P6 b 0 b.W 0 b.Cap 0 0 b.Bj)<|
 cond (b.Bb==9) (
  P6 b 0 b.W 0 b.Cap 0 b.Aj 0)<|
 cond (b.Bb==10) (
  P6 b 0 0 b.K b.Cap 0 0 0)<|
 P6 b 0 0 0 0 0 0 0
def B23 (a:E1):E1:=
 cond (a.Bb==1) (
  P6 a 0 a.W 0 a.Cap 0 0 0)<|
 cond (a.Bb==2) (
  A3M a (a.Bb==2))<|
 cond (a.Bb==5) (
  A3M a (a.Bb==5))<|
 A3M a (a.Bb==11)
def Z9 (a:Int):Bool:=
 ((decide (a>=1))&&(decide (a<=1048576)))
def M2 (d c e:Int):Bool:=
 let b:=(Z9 d);
 let a:=(J9 e);
 (((b&&(decide (c>=1)))&&(decide (c<=65536)))&&a)
def L6 (a:Int):Bool:=
 ((decide (a>=1))&&(decide (a<=64)))
def A0a (a:Int):Bool:=
 ((decide (a>=1))&&(decide (a<=4)))
def A04 (h:E1) (a b:Bool):Bool:=
 cond b (
  let g:=(L6 h.K);
  (a&&g))<|
 cond (h.Bb==3) (
  let c:=(L6 h.K);
  (((a&&c)&&(decide (h.Bj>=1)))&&(decide (h.Bj<=1024))))<|
 cond (h.Bb==4) (
  let d:=(L6 h.K);
  let e:=(A0a h.Bh);
  ((a&&d)&&e))<|
 cond (h.Bb==6) (
  ((decide (h.P>=0))&&(decide (h.P<=4))))<|
 cond (h.Bb==7) (
  ((decide (h.W>=1))&&(decide (h.W<=64))))<|
 cond (h.Bb==8) (
  (a&&((h.Bj==0)||(h.Bj==1))))<|
 cond (h.Bb==9) (
  ((((((decide (h.Aj>=1))&&(decide (h.Aj<=16)))&&(decide (h.W>=1)))&&(decide (h.W<=1048576)))&&(decide (h.Cap>=1)))&&(decide (h.Cap<=64))))<|
 cond (h.Bb==10) (
  let f:=(L6 h.K);
  ((f&&(decide (h.Cap>=2)))&&(decide (h.Cap<=65536))))<|
 false
def A8b (b:E1):Bool:=
 let a:=(M2 b.W b.Cap 0);
 cond (b.Bb==1) (
  a)<|
 cond (b.Bb==2) (
  A04 b a (b.Bb==2))<|
 cond (b.Bb==5) (
  A04 b a (b.Bb==5))<|
 A04 b a (b.Bb==11)
def A3N (c:E1):Int:=
 let a:=(B23 c);
 let b:=(A8b c);
 cond ((!(c.Bb==a.Bb&&(c.Bh==a.Bh&&(c.W==a.W&&(c.K==a.K&&(c.Cap==a.Cap&&(c.P==a.P&&(c.Aj==a.Aj&&(c.Bj==a.Bj&&true)))))))))||(!b)) (
  1)<|
 0
def N9 (m:B0) (i:E9) (a:G1) (b:I0) (c:F0) (d:F1) (e:G2) (j:Int) (k:List Int) (f:E5) (l:List C8) (g:D8) (h:E2):B0:=
 (B0.mk m.Ak i a b c d e (J7.mk j k) f (I2.mk l) g h)
def O1 (a:B0):B0:=
 cond (a.Ak.Bb==1) (
  N9 a a.Al (G1.mk 0 0 0 0 []) (I0.mk 0 0 0 0 0 []) (F0.mk 0 0 0 0 0 0 []) (F1.mk 0 0 0 0 0 []) (G2.mk 0 0 0 []) 0 ([]:List Int) (E5.mk false 0 0 0 []) ([]:List C8) (D8.mk 0 0 0 []) (E2.mk 0 0 0 0 []))<|
 cond (a.Ak.Bb==2) (
  N9 a (E9.mk 0 0 0 []) a.Ar (I0.mk 0 0 0 0 0 []) (F0.mk 0 0 0 0 0 0 []) (F1.mk 0 0 0 0 0 []) (G2.mk 0 0 0 []) 0 ([]:List Int) (E5.mk false 0 0 0 []) ([]:List C8) (D8.mk 0 0 0 []) (E2.mk 0 0 0 0 []))<|
 cond (a.Ak.Bb==3) (
  N9 a (E9.mk 0 0 0 []) (G1.mk 0 0 0 0 []) a.Sum (F0.mk 0 0 0 0 0 0 []) (F1.mk 0 0 0 0 0 []) (G2.mk 0 0 0 []) 0 ([]:List Int) (E5.mk false 0 0 0 []) ([]:List C8) (D8.mk 0 0 0 []) (E2.mk 0 0 0 0 []))<|
 cond (a.Ak.Bb==4) (
  N9 a (E9.mk 0 0 0 []) (G1.mk 0 0 0 0 []) (I0.mk 0 0 0 0 0 []) a.Ao (F1.mk 0 0 0 0 0 []) (G2.mk 0 0 0 []) 0 ([]:List Int) (E5.mk false 0 0 0 []) ([]:List C8) (D8.mk 0 0 0 []) (E2.mk 0 0 0 0 []))<|
 cond (a.Ak.Bb==5) (
  N9 a (E9.mk 0 0 0 []) (G1.mk 0 0 0 0 []) (I0.mk 0 0 0 0 0 []) (F0.mk 0 0 0 0 0 0 []) a.Ap (G2.mk 0 0 0 []) 0 ([]:List Int) (E5.mk false 0 0 0 []) ([]:List C8) (D8.mk 0 0 0 []) (E2.mk 0 0 0 0 []))<|
 cond (a.Ak.Bb==6) (
  N9 a (E9.mk 0 0 0 []) (G1.mk 0 0 0 0 []) (I0.mk 0 0 0 0 0 []) (F0.mk 0 0 0 0 0 0 []) (F1.mk 0 0 0 0 0 []) a.Bf 0 ([]:List Int) (E5.mk false 0 0 0 []) ([]:List C8) (D8.mk 0 0 0 []) (E2.mk 0 0 0 0 []))<|
 cond (a.Ak.Bb==7) (
  N9 a (E9.mk 0 0 0 []) (G1.mk 0 0 0 0 []) (I0.mk 0 0 0 0 0 []) (F0.mk 0 0 0 0 0 0 []) (F1.mk 0 0 0 0 0 []) (G2.mk 0 0 0 []) a.Au.Now a.Au.Bg (E5.mk false 0 0 0 []) ([]:List C8) (D8.mk 0 0 0 []) (E2.mk 0 0 0 0 []))<|
 cond (a.Ak.Bb==8) (
  N9 a (E9.mk 0 0 0 []) (G1.mk 0 0 0 0 []) (I0.mk 0 0 0 0 0 []) (F0.mk 0 0 0 0 0 0 []) (F1.mk 0 0 0 0 0 []) (G2.mk 0 0 0 []) 0 ([]:List Int) a.Ae ([]:List C8) (D8.mk 0 0 0 []) (E2.mk 0 0 0 0 []))<|
 cond (a.Ak.Bb==9) (
  N9 a (E9.mk 0 0 0 []) (G1.mk 0 0 0 0 []) (I0.mk 0 0 0 0 0 []) (F0.mk 0 0 0 0 0 0 []) (F1.mk 0 0 0 0 0 []) (G2.mk 0 0 0 []) 0 ([]:List Int) (E5.mk false 0 0 0 []) a.Am.Aj (D8.mk 0 0 0 []) (E2.mk 0 0 0 0 []))<|
 cond (a.Ak.Bb==10) (
  N9 a (E9.mk 0 0 0 []) (G1.mk 0 0 0 0 []) (I0.mk 0 0 0 0 0 []) (F0.mk 0 0 0 0 0 0 []) (F1.mk 0 0 0 0 0 []) (G2.mk 0 0 0 []) 0 ([]:List Int) (E5.mk false 0 0 0 []) ([]:List C8) a.Ah (E2.mk 0 0 0 0 []))<|
 cond (a.Ak.Bb==11) (
  N9 a (E9.mk 0 0 0 []) (G1.mk 0 0 0 0 []) (I0.mk 0 0 0 0 0 []) (F0.mk 0 0 0 0 0 0 []) (F1.mk 0 0 0 0 0 []) (G2.mk 0 0 0 []) 0 ([]:List Int) (E5.mk false 0 0 0 []) ([]:List C8) (D8.mk 0 0 0 []) a.Aa)<|
 N9 a (E9.mk 0 0 0 []) (G1.mk 0 0 0 0 []) (I0.mk 0 0 0 0 0 []) (F0.mk 0 0 0 0 0 0 []) (F1.mk 0 0 0 0 0 []) (G2.mk 0 0 0 []) 0 ([]:List Int) (E5.mk false 0 0 0 []) ([]:List C8) (D8.mk 0 0 0 []) (E2.mk 0 0 0 0 [])
def A11 (d e:List D7) (a:Int):Option (Int⊕Bool):=
 cond (decide (a<(d.length:Int))) (
  Option.bind (E4 d a) fun b=>
  Option.bind (E4 e a) fun c=>
  cond (!(b.T==c.T&&(b.V==c.V&&true))) (
   some (.inr false))<|
  some (.inl (A3 (a+1))))<|
 Option.map Sum.inr (some true)
def A2K (b c:List D7) (a:Int):Option Bool:=
 loop (fun (s:Int)=>A11 b c s) a
def Z8 (a b:List D7):Option Bool:=
 cond ((a.length:Int) !=(b.length:Int)) (
  some false)<|
 A2K a b 0
def A5U (b c:E9):Option Bool:=
 Option.bind (gd (((b.W==c.W)&&(b.Cap==c.Cap))&&(b.Now==c.Now)) (Z8 b.Av c.Av)) fun a=>
 some ((((b.W==c.W)&&(b.Cap==c.Cap))&&(b.Now==c.Now))&&a)
def A3H (d e:List A9) (a:Int):Option (Int⊕Bool):=
 cond (decide (a<(d.length:Int))) (
  Option.bind (E4 d a) fun b=>
  Option.bind (E4 e a) fun c=>
  cond (!(b.T==c.T&&(b.Aw==c.Aw&&true))) (
   some (.inr false))<|
  some (.inl (A3 (a+1))))<|
 Option.map Sum.inr (some true)
def A9S (b c:List A9) (a:Int):Option Bool:=
 loop (fun (s:Int)=>A3H b c s) a
def A4d (a b:List A9):Option Bool:=
 cond ((a.length:Int) !=(b.length:Int)) (
  some false)<|
 A9S a b 0
def A5Y (b c:G1):Option Bool:=
 Option.bind (gd ((((b.W==c.W)&&(b.K==c.K))&&(b.Cap==c.Cap))&&(b.Now==c.Now)) (A4d b.Ac c.Ac)) fun a=>
 some (((((b.W==c.W)&&(b.K==c.K))&&(b.Cap==c.Cap))&&(b.Now==c.Now))&&a)
def A50 (b c:I0):Option Bool:=
 Option.bind (gd (((((b.W==c.W)&&(b.K==c.K))&&(b.Cap==c.Cap))&&(b.Bj==c.Bj))&&(b.Now==c.Now)) (A4d b.Ac c.Ac)) fun a=>
 some ((((((b.W==c.W)&&(b.K==c.K))&&(b.Cap==c.Cap))&&(b.Bj==c.Bj))&&(b.Now==c.Now))&&a)
def A0q (d e:List D0) (c:Int):Option (Int⊕Bool):=
 cond (decide (c<(d.length:Int))) (
  Option.bind (E4 d c) fun a=>
  Option.bind (E4 e c) fun b=>
  cond (!(a.Bl==b.Bl&&(a.T==b.T&&(a.N==b.N&&(a.S==b.S&&(a.Q==b.Q&&(a.Bk==b.Bk&&(a.Bj==b.Bj&&true)))))))) (
   some (.inr false))<|
  some (.inl (A3 (c+1))))<|
 Option.map Sum.inr (some true)
def A5w (b c:List D0) (a:Int):Option Bool:=
 loop (fun (s:Int)=>A0q b c s) a
def A0b (a b:List D0):Option Bool:=
 cond ((a.length:Int) !=(b.length:Int)) (
  some false)<|
 A5w a b 0
def A52 (b c:F0):Option Bool:=
 Option.bind (gd ((((((b.Bh==c.Bh)&&(b.W==c.W))&&(b.K==c.K))&&(b.Cap==c.Cap))&&(b.Now==c.Now))&&(b.Bl==c.Bl)) (A0b b.Az c.Az)) fun a=>
 some (((((((b.Bh==c.Bh)&&(b.W==c.W))&&(b.K==c.K))&&(b.Cap==c.Cap))&&(b.Now==c.Now))&&(b.Bl==c.Bl))&&a)
def A54 (b c:F1):Option Bool:=
 Option.bind (gd (((((b.W==c.W)&&(b.K==c.K))&&(b.Cap==c.Cap))&&(b.Now==c.Now))&&(b.Bl==c.Bl)) (A0b b.Az c.Az)) fun a=>
 some ((((((b.W==c.W)&&(b.K==c.K))&&(b.Cap==c.Cap))&&(b.Now==c.Now))&&(b.Bl==c.Bl))&&a)
def A0K (d e:List C7) (a:Int):Option (Int⊕Bool):=
 cond (decide (a<(d.length:Int))) (
  Option.bind (E4 d a) fun b=>
  Option.bind (E4 e a) fun c=>
  cond (!(b.Hi==c.Hi&&(b.Lo==c.Lo&&true))) (
   some (.inr false))<|
  some (.inl (A3 (a+1))))<|
 Option.map Sum.inr (some true)
def A6x (b c:List C7) (a:Int):Option Bool:=
 loop (fun (s:Int)=>A0K b c s) a
def A1H (a b:List C7):Option Bool:=
 cond ((a.length:Int) !=(b.length:Int)) (
  some false)<|
 A6x a b 0
def A56 (b c:G2):Option Bool:=
 Option.bind (gd (((b.P==c.P)&&(b.Bc==c.Bc))&&(b.Now==c.Now)) (A1H b.Af c.Af)) fun a=>
 some ((((b.P==c.P)&&(b.Bc==c.Bc))&&(b.Now==c.Now))&&a)
def A03 (d e:List Int) (a:Int):Option (Int⊕Bool):=
 cond (decide (a<(d.length:Int))) (
  Option.bind (E4 d a) fun b=>
  Option.bind (E4 e a) fun c=>
  cond (b !=c) (
   some (.inr false))<|
  some (.inl (A3 (a+1))))<|
 Option.map Sum.inr (some true)
def A1t (b c:List Int) (a:Int):Option Bool:=
 loop (fun (s:Int)=>A03 b c s) a
def W2 (a b:List Int):Option Bool:=
 cond ((a.length:Int) !=(b.length:Int)) (
  some false)<|
 A1t a b 0
def A58 (b c:J7):Option Bool:=
 Option.bind (gd (b.Now==c.Now) (W2 b.Bg c.Bg)) fun a=>
 some ((b.Now==c.Now)&&a)
def A6a (b c:E5):Option Bool:=
 Option.bind (gd ((((b.Bj==c.Bj)&&(b.W==c.W))&&(b.Cap==c.Cap))&&(b.Now==c.Now)) (Z8 b.Av c.Av)) fun a=>
 some (((((b.Bj==c.Bj)&&(b.W==c.W))&&(b.Cap==c.Cap))&&(b.Now==c.Now))&&a)
def A8T (d e:C8) (a:Int):Option (Int⊕Bool):=
 cond (decide (a<(d.Ay.length:Int))) (
  Option.bind (E4 d.Ay a) fun b=>
  Option.bind (E4 e.Ay a) fun c=>
  cond (!(b.I==c.I&&(b.V==c.V&&true))) (
   some (.inr false))<|
  some (.inl (A3 (a+1))))<|
 Option.map Sum.inr (some true)
def A9T (b c:C8) (a:Int):Option Bool:=
 loop (fun (s:Int)=>A8T b c s) a
def B0R (a b:C8):Option Bool:=
 cond (((((a.W !=b.W)||(a.Cap !=b.Cap))||(a.I !=b.I))||(a.Be !=b.Be))||((a.Ay.length:Int) !=(b.Ay.length:Int))) (
  some false)<|
 A9T a b 0
def A6e (e f:I2) (a:Int):Option (Int⊕Bool):=
 cond (decide (a<(e.Aj.length:Int))) (
  Option.bind (E4 e.Aj a) fun c=>
  Option.bind (E4 f.Aj a) fun d=>
  Option.bind (B0R c d) fun b=>
  cond (!b) (
   some (.inr false))<|
  some (.inl (A3 (a+1))))<|
 Option.map Sum.inr (some true)
def A7b (b c:I2) (a:Int):Option Bool:=
 loop (fun (s:Int)=>A6e b c s) a
def A6d (a b:I2):Option Bool:=
 cond ((a.Aj.length:Int) !=(b.Aj.length:Int)) (
  some false)<|
 A7b a b 0
def A3J (d e:D8) (a:Int):Option (Int⊕Bool):=
 cond (decide (a<(d.Aq.length:Int))) (
  Option.bind (E4 d.Aq a) fun b=>
  Option.bind (E4 e.Aq a) fun c=>
  cond (!(b.V==c.V&&(b.G==c.G&&(b.D==c.D&&true)))) (
   some (.inr false))<|
  some (.inl (A3 (a+1))))<|
 Option.map Sum.inr (some true)
def A9U (b c:D8) (a:Int):Option Bool:=
 loop (fun (s:Int)=>A3J b c s) a
def A6f (a b:D8):Option Bool:=
 cond ((((a.K !=b.K)||(a.Cap !=b.Cap))||(a.N !=b.N))||((a.Aq.length:Int) !=(b.Aq.length:Int))) (
  some false)<|
 A9U a b 0
def A6h (d e:H5) (a:Int):Option (Int⊕Bool):=
 cond (decide (a<(d.Ad.length:Int))) (
  Option.bind (E4 d.Ad a) fun b=>
  Option.bind (E4 e.Ad a) fun c=>
  cond (!(b.V==c.V&&(b.Bk==c.Bk&&(b.Bj==c.Bj&&true)))) (
   some (.inr false))<|
  some (.inl (A3 (a+1))))<|
 Option.map Sum.inr (some true)
def B5j (b c:H5) (a:Int):Option Bool:=
 loop (fun (s:Int)=>A6h b c s) a
def B0S (a b:H5):Option Bool:=
 cond ((a.N !=b.N)||((a.Ad.length:Int) !=(b.Ad.length:Int))) (
  some false)<|
 B5j a b 0
def A3L (k l:List D1) (a:Int):Option (Int⊕Bool):=
 cond (decide (a<(k.length:Int))) (
  Option.bind (E4 k a) fun b=>
  Option.bind (E4 l a) fun c=>
  Option.bind (gd (!(b.T !=c.T)) (E4 k a)) fun d=>
  Option.bind (gd (!(b.T !=c.T)) (E4 l a)) fun e=>
  Option.bind (gd (!((b.T !=c.T)||(d.Bd !=e.Bd))) (E4 k a)) fun f=>
  Option.bind (gd (!((b.T !=c.T)||(d.Bd !=e.Bd))) (E4 l a)) fun g=>
  Option.bind (gd (!(((b.T !=c.T)||(d.Bd !=e.Bd))||(f.Aw !=g.Aw))) (E4 k a)) fun h=>
  Option.bind (gd (!(((b.T !=c.T)||(d.Bd !=e.Bd))||(f.Aw !=g.Aw))) (E4 l a)) fun i=>
  Option.bind (gd (!(((b.T !=c.T)||(d.Bd !=e.Bd))||(f.Aw !=g.Aw))) (B0S h.Ba i.Ba)) fun j=>
  cond ((((b.T !=c.T)||(d.Bd !=e.Bd))||(f.Aw !=g.Aw))||(!j)) (
   some (.inr false))<|
  some (.inl (A3 (a+1))))<|
 Option.map Sum.inr (some true)
def A9V (b c:List D1) (a:Int):Option Bool:=
 loop (fun (s:Int)=>A3L b c s) a
def A6i (a b:List D1):Option Bool:=
 cond ((a.length:Int) !=(b.length:Int)) (
  some false)<|
 A9V a b 0
def A6j (b c:E2):Option Bool:=
 Option.bind (gd ((((b.W==c.W)&&(b.K==c.K))&&(b.Cap==c.Cap))&&(b.Now==c.Now)) (A6i b.Ai c.Ai)) fun a=>
 some (((((b.W==c.W)&&(b.K==c.K))&&(b.Cap==c.Cap))&&(b.Now==c.Now))&&a)
def A4f (l m:B0):Option Bool:=
 Option.bind (gd (l.Ak.Bb==m.Ak.Bb&&(l.Ak.Bh==m.Ak.Bh&&(l.Ak.W==m.Ak.W&&(l.Ak.K==m.Ak.K&&(l.Ak.Cap==m.Ak.Cap&&(l.Ak.P==m.Ak.P&&(l.Ak.Aj==m.Ak.Aj&&(l.Ak.Bj==m.Ak.Bj&&true)))))))) (A5U l.Al m.Al)) fun a=>
 Option.bind (gd ((l.Ak.Bb==m.Ak.Bb&&(l.Ak.Bh==m.Ak.Bh&&(l.Ak.W==m.Ak.W&&(l.Ak.K==m.Ak.K&&(l.Ak.Cap==m.Ak.Cap&&(l.Ak.P==m.Ak.P&&(l.Ak.Aj==m.Ak.Aj&&(l.Ak.Bj==m.Ak.Bj&&true))))))))&&a) (A5Y l.Ar m.Ar)) fun b=>
 Option.bind (gd (((l.Ak.Bb==m.Ak.Bb&&(l.Ak.Bh==m.Ak.Bh&&(l.Ak.W==m.Ak.W&&(l.Ak.K==m.Ak.K&&(l.Ak.Cap==m.Ak.Cap&&(l.Ak.P==m.Ak.P&&(l.Ak.Aj==m.Ak.Aj&&(l.Ak.Bj==m.Ak.Bj&&true))))))))&&a)&&b) (A50 l.Sum m.Sum)) fun c=>
 Option.bind (gd ((((l.Ak.Bb==m.Ak.Bb&&(l.Ak.Bh==m.Ak.Bh&&(l.Ak.W==m.Ak.W&&(l.Ak.K==m.Ak.K&&(l.Ak.Cap==m.Ak.Cap&&(l.Ak.P==m.Ak.P&&(l.Ak.Aj==m.Ak.Aj&&(l.Ak.Bj==m.Ak.Bj&&true))))))))&&a)&&b)&&c) (A52 l.Ao m.Ao)) fun d=>
 Option.bind (gd (((((l.Ak.Bb==m.Ak.Bb&&(l.Ak.Bh==m.Ak.Bh&&(l.Ak.W==m.Ak.W&&(l.Ak.K==m.Ak.K&&(l.Ak.Cap==m.Ak.Cap&&(l.Ak.P==m.Ak.P&&(l.Ak.Aj==m.Ak.Aj&&(l.Ak.Bj==m.Ak.Bj&&true))))))))&&a)&&b)&&c)&&d) (A54 l.Ap m.Ap)) fun e=>
 Option.bind (gd ((((((l.Ak.Bb==m.Ak.Bb&&(l.Ak.Bh==m.Ak.Bh&&(l.Ak.W==m.Ak.W&&(l.Ak.K==m.Ak.K&&(l.Ak.Cap==m.Ak.Cap&&(l.Ak.P==m.Ak.P&&(l.Ak.Aj==m.Ak.Aj&&(l.Ak.Bj==m.Ak.Bj&&true))))))))&&a)&&b)&&c)&&d)&&e) (A56 l.Bf m.Bf)) fun f=>
 Option.bind (gd (((((((l.Ak.Bb==m.Ak.Bb&&(l.Ak.Bh==m.Ak.Bh&&(l.Ak.W==m.Ak.W&&(l.Ak.K==m.Ak.K&&(l.Ak.Cap==m.Ak.Cap&&(l.Ak.P==m.Ak.P&&(l.Ak.Aj==m.Ak.Aj&&(l.Ak.Bj==m.Ak.Bj&&true))))))))&&a)&&b)&&c)&&d)&&e)&&f) (A58 l.Au m.Au)) fun g=>
 Option.bind (gd ((((((((l.Ak.Bb==m.Ak.Bb&&(l.Ak.Bh==m.Ak.Bh&&(l.Ak.W==m.Ak.W&&(l.Ak.K==m.Ak.K&&(l.Ak.Cap==m.Ak.Cap&&(l.Ak.P==m.Ak.P&&(l.Ak.Aj==m.Ak.Aj&&(l.Ak.Bj==m.Ak.Bj&&true))))))))&&a)&&b)&&c)&&d)&&e)&&f)&&g) (A6a l.Ae m.Ae)) fun h=>
 Option.bind (gd (((((((((l.Ak.Bb==m.Ak.Bb&&(l.Ak.Bh==m.Ak.Bh&&(l.Ak.W==m.Ak.W&&(l.Ak.K==m.Ak.K&&(l.Ak.Cap==m.Ak.Cap&&(l.Ak.P==m.Ak.P&&(l.Ak.Aj==m.Ak.Aj&&(l.Ak.Bj==m.Ak.Bj&&true))))))))&&a)&&b)&&c)&&d)&&e)&&f)&&g)&&h) (A6d l.Am m.Am)) fun i=>
 Option.bind (gd ((((((((((l.Ak.Bb==m.Ak.Bb&&(l.Ak.Bh==m.Ak.Bh&&(l.Ak.W==m.Ak.W&&(l.Ak.K==m.Ak.K&&(l.Ak.Cap==m.Ak.Cap&&(l.Ak.P==m.Ak.P&&(l.Ak.Aj==m.Ak.Aj&&(l.Ak.Bj==m.Ak.Bj&&true))))))))&&a)&&b)&&c)&&d)&&e)&&f)&&g)&&h)&&i) (A6f l.Ah m.Ah)) fun j=>
 Option.bind (gd (((((((((((l.Ak.Bb==m.Ak.Bb&&(l.Ak.Bh==m.Ak.Bh&&(l.Ak.W==m.Ak.W&&(l.Ak.K==m.Ak.K&&(l.Ak.Cap==m.Ak.Cap&&(l.Ak.P==m.Ak.P&&(l.Ak.Aj==m.Ak.Aj&&(l.Ak.Bj==m.Ak.Bj&&true))))))))&&a)&&b)&&c)&&d)&&e)&&f)&&g)&&h)&&i)&&j) (A6j l.Aa m.Aa)) fun k=>
 some ((((((((((((l.Ak.Bb==m.Ak.Bb&&(l.Ak.Bh==m.Ak.Bh&&(l.Ak.W==m.Ak.W&&(l.Ak.K==m.Ak.K&&(l.Ak.Cap==m.Ak.Cap&&(l.Ak.P==m.Ak.P&&(l.Ak.Aj==m.Ak.Aj&&(l.Ak.Bj==m.Ak.Bj&&true))))))))&&a)&&b)&&c)&&d)&&e)&&f)&&g)&&h)&&i)&&j)&&k)
def G9 (d f e:Int):Bool:=
 let a:=(J9 d);
 let b:=(Z9 f);
 let c:=(J9 e);
 ((((a&&b)&&c)&&(decide (e>(A3 (d-f)))))&&(decide (e<=d)))
def A75 (d:List D7) (e a:Int):Option (Int⊕Bool):=
 cond (decide (a<(d.length:Int))) (
  Option.bind (E4 d a) fun b=>
  Option.bind (gd ((!((decide (b.T<0))||(decide (b.T>e))))&&(decide (a>0))) (E4 d (A3 (a-1)))) fun c=>
  cond (((decide (b.T<0))||(decide (b.T>e)))||((decide (a>0))&&(decide (c.T>b.T)))) (
   some (.inr false))<|
  some (.inl (A3 (a+1))))<|
 Option.map Sum.inr (some true)
def A8S (b:List D7) (c a:Int):Option Bool:=
 loop (fun (s:Int)=>A75 b c s) a
def A6O (c:List D7) (b:Int):Option Bool:=
 let a:=(J9 b);
 cond (!a) (
  some false)<|
 A8S c b 0
def J6 (a:Int):Bool:=
 ((decide (a>=(-4096:Int)))&&(decide (a<=4096)))
def A0I (e:E9) (a:Int):Option (Int⊕Int):=
 cond (decide (a<(e.Av.length:Int))) (
  Option.bind (E4 e.Av a) fun b=>
  let d:=(G9 e.Now e.W b.T);
  let c:=(J6 b.V);
  cond ((!d)||(!c)) (
   some (.inr 2))<|
  some (.inl (A3 (a+1))))<|
 Option.map Sum.inr (some 0)
def A3h (b:E9) (a:Int):Option Int:=
 loop (fun (s:Int)=>A0I b s) a
def Y6 (c:E9):Option Int:=
 let a:=(M2 c.W c.Cap c.Now);
 Option.bind (gd (!((!a)||(decide ((c.Av.length:Int)>c.Cap)))) (A6O c.Av c.Now)) fun b=>
 cond (((!a)||(decide ((c.Av.length:Int)>c.Cap)))||(!b)) (
  some 2)<|
 A3h c 0
def A47 (d:List A9) (c a:Int):Option ((Int×Int)⊕Int):=
 cond (decide (a<(d.length:Int))) (
  Option.bind (E4 d a) fun b=>
  cond ((decide (b.Aw>=0))&&(decide (b.Aw<=30))) (
   ck (decide (0<=(F3 b.Aw)))<|
   some (.inl ((A3 (c+(R5 .i64 1 (F3 b.Aw)))),(A3 (a+1)))))<|
  some (.inl (c,(A3 (a+1)))))<|
 Option.map Sum.inr (some c)
def B3R (c:List A9) (a b:Int):Option Int:=
 loop (fun (s:(Int×Int))=>A47 c s.1 s.2) (a,b)
def A4H (a:List A9):Option Int:=
 B3R a 0 0
def A5V (a:Int):Bool:=
 ((decide (a>=1))&&(decide (a<=128)))
def A48 (f:List A9) (g:Int) (b:List Int) (a:Int):Option (Int⊕Bool):=
 cond (decide (a<(b.length:Int))) (
  Option.bind (E4 b a) fun e=>
  Option.bind (E4 b a) fun c=>
  Option.bind (gd (decide ((f.length:Int)>(0:Int))) (E4 f 0)) fun d=>
  cond ((decide ((f.length:Int)>(0:Int)))&&(((decide (a<d.Aw))&&(decide (c<g)))||(decide (c>(A3 (g+1)))))) (
   some (.inr false))<|
  some (.inl (A3 (a+1))))<|
 Option.map Sum.inr (some true)
def A5W (c:List A9) (d:Int) (b:List Int) (a:Int):Option Bool:=
 loop (fun (s:Int)=>A48 c d b s) a
def A76 (k:List A9) (l:Int) (c:List Int) (b:Int):Option (((List Int)×Int)⊕Bool):=
 cond (decide (b<(k.length:Int))) (
  Option.bind (E4 k b) fun a=>
  let d:=(J9 a.T);
  Option.bind (gd ((!(((!d)||(decide (a.Aw<0)))||(decide (a.Aw>30))))&&(decide (b>0))) (E4 k (A3 (b-1)))) fun e=>
  Option.bind (gd (((!(((!d)||(decide (a.Aw<0)))||(decide (a.Aw>30))))&&(decide (b>0)))&&(!(decide (e.T>a.T)))) (E4 k (A3 (b-1)))) fun f=>
  cond ((((!d)||(decide (a.Aw<0)))||(decide (a.Aw>30)))||((decide (b>0))&&((decide (e.T>a.T))||(decide (f.Aw<a.Aw))))) (
   some (.inr false))<|
  Option.bind (E4 c a.Aw) fun h=>
  Option.bind (E4 c a.Aw) fun g=>
  Option.bind (E4 c a.Aw) fun i=>
  Option.bind (E4 c a.Aw) fun j=>
  some (.inl ((c.set (a.Aw).toNat (A3 (g+1))),(A3 (b+1)))))<|
 Option.map Sum.inr (A5W k l c 0)
def B3S (c:List A9) (d:Int) (b:List Int) (a:Int):Option Bool:=
 loop (fun (s:((List Int)×Int))=>A76 c d s.1 s.2) (b,a)
def A6P (c:List A9) (b:Int):Option Bool:=
 let a:=(A5V b);
 cond (!a) (
  some false)<|
 ck (decide (0<=(31:Int)/\(31:Int)<=(31:Int)/\(31:Int)*8<=140737488355328/\(31:Int)<=140737488355328))<|
 B3S c b (List.replicate ((31:Int)).toNat 0) 0
def A5X (d:List A9) (e f a:Int):Option (Int⊕Bool):=
 cond (decide (a<(d.length:Int))) (
  Option.bind (E4 d a) fun b=>
  let c:=(G9 f e b.T);
  cond (!c) (
   some (.inr false))<|
  some (.inl (A3 (a+1))))<|
 Option.map Sum.inr (some true)
def B5i (b:List A9) (c d a:Int):Option Bool:=
 loop (fun (s:Int)=>A5X b c d s) a
def A77 (e:List A9) (f g h i:Int):Option Bool:=
 let a:=(M2 f h i);
 let b:=(L6 g);
 Option.bind (gd (!((!a)||(!b))) (A6P e g)) fun c=>
 Option.bind (gd (!(((!a)||(!b))||(!c))) (A4H e)) fun d=>
 cond ((((!a)||(!b))||(!c))||(decide (d>h))) (
  some false)<|
 B5i e f i 0
def A5Z (b:G1):Option Int:=
 Option.bind (A77 b.Ac b.W b.K b.Cap b.Now) fun a=>
 cond (!a) (
  some 2)<|
 some 0
def A78 (a:Int):Bool:=
 ((decide (a>=1))&&(decide (a<=1024)))
def A51 (c:I0):Option Int:=
 Option.bind (A77 c.Ac c.W c.K c.Cap c.Now) fun a=>
 let b:=(A78 c.Bj);
 cond ((!a)||(!b)) (
  some 2)<|
 some 0
def A4e (a b c d e:Int):Bool:=
 (((((decide ((A3 (a*d))<=b))&&(decide (b<=(A3 (a*e)))))&&(decide (c>=0)))&&(decide (c<=(A3 ((A3 (a*(4096:Int)))*(4096:Int))))))&&(decide ((A3 (b*b))<=(A3 (a*c)))))
def A0B (b c:Int):Bool:=
 let a:=(J6 c);
 (a&&(((decide (c>=0))||(b==1))||(b==4)))
def A49 (l:List D0) (o q p n m b:Int):Option (Int⊕Bool):=
 cond (decide (b<(l.length:Int))) (
  Option.bind (E4 l b) fun a=>
  Option.bind (gd ((!((((decide (a.Bl<1))||(decide (a.Bl>m)))||(a.N !=(A3 ((A3 (m-a.Bl))+1))))||(decide (a.N>p))))&&(decide (b>0))) (E4 l (A3 (b-1)))) fun g=>
  cond (((((decide (a.Bl<1))||(decide (a.Bl>m)))||(a.N !=(A3 ((A3 (m-a.Bl))+1))))||(decide (a.N>p)))||((decide (b>0))&&(decide (g.Bl>=a.Bl)))) (
   some (.inr false))<|
  let d:=(J9 a.T);
  Option.bind (gd ((!((!d)||(decide (a.T>n))))&&(decide (b>0))) (E4 l (A3 (b-1)))) fun h=>
  let i:=(G9 n q a.T);
  cond ((((!d)||(decide (a.T>n)))||((decide (b>0))&&(decide (h.T>a.T))))||(((decide (b>0))||((l.length:Int)==(1:Int)))&&(!i))) (
   some (.inr false))<|
  let j:=(A0B o a.Bk);
  let k:=(A0B o a.Bj);
  let e:=(A4e a.N a.S a.Q a.Bk a.Bj);
  cond ((((((((!j)||(!k))||(decide (a.Bk>a.Bj)))||(decide (a.S<(A3 ((IntKind.i64.wrap (0-a.N))*4096)))))||(decide (a.S>(A3 (a.N*4096)))))||(decide (a.Q<0)))||(decide (a.Q>(A3 ((A3 (a.N*(4096:Int)))*(4096:Int))))))||(!e)) (
   some (.inr false))<|
  cond ((b==(A3 ((l.length:Int)-(1:Int))))&&((((a.Bl !=m)||(a.Bk !=a.S))||(a.Bj !=a.S))||(a.Q !=(A3 (a.S*a.S))))) (
   some (.inr false))<|
  cond (decide (b>0)) (
   Option.bind (E4 l (A3 (b-1))) fun c=>
   let f:=(A4e (A3 (c.N-a.N)) (A3 (c.S-a.S)) (A3 (c.Q-a.Q)) c.Bk c.Bj);
   cond (((decide (a.Bk<c.Bk))||(decide (a.Bj>c.Bj)))||(!f)) (
    some (.inr false))<|
   some (.inl (A3 (b+1))))<|
  some (.inl (A3 (b+1))))<|
 Option.map Sum.inr (some true)
def B3T (b:List D0) (c d e f g a:Int):Option Bool:=
 loop (fun (s:Int)=>A49 b c d e f g s) a
def A6R (b:List D0) (c d e f a:Int):Option Bool:=
 cond ((decide (a<0))||(decide (a>1099511627776))) (
  some false)<|
 B3T b c d e f a 0
def B2D (b a:Int):(Int×Bool):=
 cond (((decide (a<0))&&(decide (b>(A3 (9223372036854775807+a)))))||((decide (a>0))&&(decide (b<(A3 ((-9223372036854775808:Int)+a)))))) (
  (0,false))<|
 ((A3 (b-a)),true)
def B22:Int:=
 0
def W3 (b:D0) (c:Int):Int:=
 cond (c==1) (
  b.N)<|
 cond (c==2) (
  b.S)<|
 cond (c==3) (
  b.Q)<|
 cond (c==4) (
  let a:=(B2D b.Bj b.Bk);
  cond a.2 (
   a.1)<|
  B22)<|
 B22
def A2L (j:F0) (a:Int):Option (Int⊕Int):=
 cond (decide (a<(j.Az.length:Int))) (
  Option.bind (E4 j.Az a) fun b=>
  let i:=(W3 b j.Bh);
  Option.bind (gd (decide (a>1)) (E4 j.Az (A3 (a-2)))) fun d=>
  let e:=(W3 d j.Bh);
  cond ((decide (a>1))&&(decide ((A3 ((A3 (j.K+1))*i))>=(A3 (j.K*e))))) (
   some (.inr 2))<|
  Option.bind (gd (decide (a>0)) (E4 j.Az (A3 (a-1)))) fun c=>
  let f:=(W3 b j.Bh);
  Option.bind (gd ((decide (a>0))&&(decide (b.Bl>(A3 (c.Bl+1))))) (E4 j.Az (A3 (a-1)))) fun g=>
  let h:=(W3 g j.Bh);
  cond (((decide (a>0))&&(decide (b.Bl>(A3 (c.Bl+1)))))&&(decide ((A3 ((A3 (j.K+1))*f))<(A3 (j.K*h))))) (
   some (.inr 2))<|
  some (.inl (A3 (a+1))))<|
 Option.map Sum.inr (some 0)
def B0j (b:F0) (a:Int):Option Int:=
 loop (fun (s:Int)=>A2L b s) a
def A53 (e:F0):Option Int:=
 let c:=(A0a e.Bh);
 let a:=(M2 e.W e.Cap e.Now);
 let b:=(L6 e.K);
 Option.bind (gd (!(((!c)||(!a))||(!b))) (A6R e.Az e.Bh e.W e.Cap e.Now e.Bl)) fun d=>
 cond ((((!c)||(!a))||(!b))||(!d)) (
  some 2)<|
 B0j e 0
def X6 (a b:C7):Int:=
 cond ((decide (a.Hi<b.Hi))||((a.Hi==b.Hi)&&(decide (a.Lo<b.Lo)))) (
  (-1:Int))<|
 cond (a.Hi==b.Hi&&(a.Lo==b.Lo&&true)) (
  0)<|
 1
def N7 (b c:Int):C7:=
 let a:=(A2I b c);
 (C7.mk a.1 a.2)
def A0J (a:D0):Bool:=
 (((((((decide (a.N>=1))&&(decide (a.N<=65536)))&&(decide (a.S>=(A3 ((IntKind.i64.wrap (0-a.N))*4096)))))&&(decide (a.S<=(A3 (a.N*4096)))))&&(decide (a.Q>=0)))&&(decide (a.Q<=(A3 ((A3 (a.N*(4096:Int)))*(4096:Int))))))&&(decide ((A3 (a.S*a.S))<=(A3 (a.N*a.Q)))))
def A9d (g h:D0) (i:Int):Bool:=
 let d:=(A0J g);
 let e:=(A0J h);
 let a:=(L6 i);
 cond ((((!d)||(!e))||(!a))||(decide ((A3 ((A3 (6*i))*h.N))<(A3 ((A3 ((A3 (6*i))-1))*g.N))))) (
  false)<|
 let f:=(N7 (F3 (A3 ((A3 (h.N*h.Q))-(A3 (h.S*h.S))))) (F3 (A3 ((A3 (6*i))*g.N))));
 let b:=(N7 (F3 (A3 ((A3 (g.N*g.Q))-(A3 (g.S*g.S))))) (F3 (A3 ((A3 ((A3 (6*i))-1))*h.N))));
 let c:=(X6 f b);
 (decide (c>=0))
def A2M (e:F1) (a:Int):Option (Int⊕Int):=
 cond (decide (a<(e.Az.length:Int))) (
  Option.bind (E4 e.Az (A3 (a-2))) fun c=>
  Option.bind (E4 e.Az a) fun d=>
  let b:=(A9d c d e.K);
  cond b (
   some (.inr 2))<|
  some (.inl (A3 (a+1))))<|
 Option.map Sum.inr (some 0)
def B0k (b:F1) (a:Int):Option Int:=
 loop (fun (s:Int)=>A2M b s) a
def A55 (d:F1):Option Int:=
 let b:=(M2 d.W d.Cap d.Now);
 let a:=(L6 d.K);
 Option.bind (gd (!((!b)||(!a))) (A6R d.Az 4 d.W d.Cap d.Now d.Bl)) fun c=>
 cond (((!b)||(!a))||(!c)) (
  some 2)<|
 B0k d 2
def B6x (c d:C7):Option (C7×Bool):=
 Option.bind (T9 c.Lo d.Lo 0) fun a=>
 Option.bind (T9 c.Hi d.Hi a.2) fun b=>
 cond (b.2 !=0) (
  some ((C7.mk 0 0),false))<|
 some ((C7.mk b.1 a.1),true)
def A9u (e f:C7):Option (C7×Bool):=
 cond ((e.Hi !=0)&&(f.Hi !=0)) (
  some ((C7.mk 0 0),false))<|
 let b:=(N7 e.Hi f.Lo);
 let c:=(N7 e.Lo f.Hi);
 cond ((b.Hi !=0)||(c.Hi !=0)) (
  some ((C7.mk 0 0),false))<|
 let d:=(N7 e.Lo f.Lo);
 Option.bind (B6x d (C7.mk (F3 (b.Lo+c.Lo)) 0)) fun a=>
 some (a.1,a.2)
def A25 (a:Int):C7:=
 (C7.mk 0 a)
def A2N (j:G2) (a:Int):Option (Int⊕Int):=
 cond (decide (a<=j.P)) (
  Option.bind (E4 j.Af (A3 (a-1))) fun g=>
  let d:=(A25 (F3 (A3 ((A3 (j.Now-j.Bc))+1))));
  Option.bind (A9u g d) fun b=>
  Option.bind (E4 j.Af a) fun h=>
  Option.bind (E4 j.Af (A3 (a-1))) fun i=>
  let c:=(X6 h i);
  Option.bind (gd ((!(decide (c<0)))&&b.2) (E4 j.Af a)) fun e=>
  let f:=(X6 e b.1);
  cond ((decide (c<0))||(b.2&&(decide (f>0)))) (
   some (.inr 2))<|
  some (.inl (A3 (a+1))))<|
 Option.map Sum.inr (some 0)
def B0l (b:G2) (a:Int):Option Int:=
 loop (fun (s:Int)=>A2N b s) a
def A57 (b:G2):Option Int:=
 let a:=(J9 b.Now);
 cond ((((((decide (b.P<0))||(decide (b.P>4)))||(!a))||(decide (b.Bc<0)))||(decide (b.Bc>b.Now)))||((b.Af.length:Int) !=(A3 (b.P+1)))) (
  some 2)<|
 B0l b 1
def A2O (c:J7) (a:Int):Option (Int⊕Int):=
 cond (decide (a<(c.Bg.length:Int))) (
  Option.bind (E4 c.Bg a) fun b=>
  cond (((decide (b<0))||(decide (b>1099511627776)))||((decide (a>c.Now))&&(b !=0))) (
   some (.inr 2))<|
  some (.inl (A3 (a+1))))<|
 Option.map Sum.inr (some 0)
def B0m (b:J7) (a:Int):Option Int:=
 loop (fun (s:Int)=>A2O b s) a
def A59 (b:J7):Option Int:=
 let a:=(J9 b.Now);
 cond (((decide ((b.Bg.length:Int)<(1:Int)))||(decide ((b.Bg.length:Int)>(64:Int))))||(!a)) (
  some 2)<|
 B0m b 0
def A79 (a:Bool) (b c:Int):Bool:=
 ((a&&(decide (b>c)))||((!a)&&(decide (b<c))))
def A2P (h:E5) (a:Int):Option (Int⊕Int):=
 cond (decide (a<(h.Av.length:Int))) (
  Option.bind (E4 h.Av a) fun b=>
  let d:=(G9 h.Now h.W b.T);
  let c:=(J6 b.V);
  Option.bind (gd ((!((!d)||(!c)))&&(decide (a>0))) (E4 h.Av (A3 (a-1)))) fun e=>
  Option.bind (gd (((!((!d)||(!c)))&&(decide (a>0)))&&(!(decide (e.T>=b.T)))) (E4 h.Av (A3 (a-1)))) fun f=>
  let g:=(A79 h.Bj f.V b.V);
  cond (((!d)||(!c))||((decide (a>0))&&((decide (e.T>=b.T))||(!g)))) (
   some (.inr 2))<|
  some (.inl (A3 (a+1))))<|
 Option.map Sum.inr (some 0)
def B0n (b:E5) (a:Int):Option Int:=
 loop (fun (s:Int)=>A2P b s) a
def A6b (b:E5):Option Int:=
 let a:=(M2 b.W b.Cap b.Now);
 cond ((!a)||(decide ((b.Av.length:Int)>b.Cap))) (
  some 2)<|
 B0n b 0
def A5x (g:C8) (a:Int):Option (Int⊕Int):=
 cond (decide (a<(g.Ay.length:Int))) (
  Option.bind (E4 g.Ay a) fun b=>
  let c:=(J6 b.V);
  Option.bind (gd ((!((!c)||(decide (b.I>g.I))))&&(decide (a>0))) (E4 g.Ay (A3 (a-1)))) fun d=>
  Option.bind (gd (((!((!c)||(decide (b.I>g.I))))&&(decide (a>0)))&&(!(decide (b.I<=d.I)))) (E4 g.Ay (A3 (a-1)))) fun e=>
  cond (((!c)||(decide (b.I>g.I)))||((decide (a>0))&&((decide (b.I<=d.I))||(decide (b.I>(A3 (e.I+g.W))))))) (
   some (.inr 2))<|
  some (.inl (A3 (a+1))))<|
 Option.map Sum.inr (Option.bind (gd (!(decide (g.Be<=g.I))) (E4 g.Ay (A3 ((g.Ay.length:Int)-(1:Int))))) fun f=>
 cond ((decide (g.Be<=g.I))||(decide (g.Be>(A3 (f.I+g.W))))) (
  some 2)<|
 some 0)
def A6y (b:C8) (a:Int):Option Int:=
 loop (fun (s:Int)=>A5x b s) a
def A6c (d:C8):Option Int:=
 let c:=(Z9 d.W);
 cond ((((((!c)||(decide (d.Cap<1)))||(decide (d.Cap>64)))||(decide (d.I<0)))||(decide (d.I>1099511627776)))||(decide ((d.Ay.length:Int)>d.Cap))) (
  some 2)<|
 cond (d.I==0) (
  cond (((d.Ay.length:Int) !=(0:Int))||(d.Be !=0)) (
   some 2)<|
  some 0)<|
 Option.bind (gd (!((d.Ay.length:Int)==(0:Int))) (E4 d.Ay 0)) fun a=>
 Option.bind (gd (!(((d.Ay.length:Int)==(0:Int))||(decide (a.I<=(A3 (d.I-d.W)))))) (E4 d.Ay 0)) fun b=>
 cond ((((d.Ay.length:Int)==(0:Int))||(decide (a.I<=(A3 (d.I-d.W)))))||(decide (b.I<1))) (
  some 2)<|
 A6y d 0
def A5y (e:I2) (a:Int):Option (Int⊕Int):=
 cond (decide (a<(e.Aj.length:Int))) (
  Option.bind (E4 e.Aj a) fun b=>
  Option.bind (E4 e.Aj 0) fun c=>
  Option.bind (A6c b) fun d=>
  cond ((((d !=0)||(b.W !=c.W))||(b.Cap !=c.Cap))||(b.I !=c.I)) (
   some (.inr 2))<|
  some (.inl (A3 (a+1))))<|
 Option.map Sum.inr (some 0)
def B0o (b:I2) (a:Int):Option Int:=
 loop (fun (s:Int)=>A5y b s) a
def A3I (a:I2):Option Int:=
 cond ((decide ((a.Aj.length:Int)<(1:Int)))||(decide ((a.Aj.length:Int)>(16:Int)))) (
  some 2)<|
 B0o a 0
def C0y (a:D8):Option Int:=
 ck (decide (a.K≠0))<|
 some (B8m 1 (A3 (Int.tdiv a.N a.K)))
def A32 (c b:Int):(D8×Int):=
 let a:=(L6 c);
 cond (((!a)||(decide (b<2)))||(decide (b>65536))) (
  ((D8.mk 0 0 0 []),1))<|
 ((D8.mk c b 0 []),0)
def A2Q (g:D8) (c b:Int):Option ((Int×Int)⊕Int):=
 cond (decide (b<(g.Aq.length:Int))) (
  Option.bind (E4 g.Aq b) fun a=>
  let d:=(J6 a.V);
  Option.bind (gd (!(((((!d)||(decide (a.G<1)))||(decide (a.G>g.N)))||(decide (a.D<0)))||(decide (a.D>g.N)))) (C0y g)) fun e=>
  Option.bind (gd ((!((((((!d)||(decide (a.G<1)))||(decide (a.G>g.N)))||(decide (a.D<0)))||(decide (a.D>g.N)))||(decide ((A3 (a.G+a.D))>e))))&&(decide (b>0))) (E4 g.Aq (A3 (b-1)))) fun f=>
  cond (((((((((!d)||(decide (a.G<1)))||(decide (a.G>g.N)))||(decide (a.D<0)))||(decide (a.D>g.N)))||(decide ((A3 (a.G+a.D))>e)))||((decide (b>0))&&(decide (f.V>a.V))))||((b==0)&&((a.G !=1)||(a.D !=0))))||((b==(A3 ((g.Aq.length:Int)-(1:Int))))&&(a.D !=0))) (
   some (.inr 2))<|
  cond (decide ((A3 (c+a.G))>g.N)) (
   some (.inr 2))<|
  some (.inl ((A3 (c+a.G)),(A3 (b+1)))))<|
 Option.map Sum.inr (cond (c !=g.N) (
  some 2)<|
 some 0)
def B0p (c:D8) (b a:Int):Option Int:=
 loop (fun (s:(Int×Int))=>A2Q c s.1 s.2) (b,a)
def A6g (b:D8):Option Int:=
 let a:=(A32 b.K b.Cap);
 cond (((((a.2 !=0)||(decide (b.N<0)))||(decide (b.N>1099511627776)))||(decide ((b.Aq.length:Int)>b.Cap)))||(!(((b.Aq.length:Int)==(0:Int))==(b.N==0)))) (
  some 2)<|
 B0p b 0 0
def B2F (d:List D1) (b:List A9) (c:Int):Option (((List A9)×Int)⊕(List A9)):=
 cond (decide (c<(d.length:Int))) (
  Option.bind (E4 d c) fun a=>
  ck (decide ((b.length+ [(A9.mk a.T a.Aw)].length)*16<=140737488355328))<|
  some (.inl ((b++ [(A9.mk a.T a.Aw)]),(A3 (c+1)))))<|
 Option.map Sum.inr (some b)
def C0A (c:List D1) (a:List A9) (b:Int):Option (List A9):=
 loop (fun (s:((List A9)×Int))=>B2F c s.1 s.2) (a,b)
def A9e (a:List D1):Option (List A9):=
 C0A a ([]:List A9) 0
def A9f (c:List D1):Option Int:=
 Option.bind (A9e c) fun a=>
 Option.bind (A4H a) fun b=>
 some b
def A2R (d:H5) (a:Int):Option (Int⊕Int):=
 cond (decide (a<(d.Ad.length:Int))) (
  Option.bind (E4 d.Ad a) fun b=>
  cond (((((decide (b.Bk<1))||(decide (b.Bk>b.Bj)))||(decide (b.Bj>d.N)))||((a==0)&&(b.Bj !=1)))||((a==(A3 ((d.Ad.length:Int)-(1:Int))))&&(b.Bk !=d.N))) (
   some (.inr 2))<|
  cond (decide (a>0)) (
   Option.bind (E4 d.Ad (A3 (a-1))) fun c=>
   cond (((decide (c.V>b.V))||(decide (c.Bk>=b.Bk)))||(decide (c.Bj>=b.Bj))) (
    some (.inr 2))<|
   some (.inl (A3 (a+1))))<|
  some (.inl (A3 (a+1))))<|
 Option.map Sum.inr (some 0)
def B0q (b:H5) (a:Int):Option Int:=
 loop (fun (s:Int)=>A2R b s) a
def A3K (a:H5):Option Int:=
 cond (((decide (a.N<0))||(decide (a.N>1099511627776)))||(!(((a.Ad.length:Int)==(0:Int))==(a.N==0)))) (
  some 2)<|
 B0q a 0
def C1X (e:H5) (b a:Int):Option ((Int×Int)⊕Int):=
 cond (decide (a<(e.Ad.length:Int))) (
  Option.bind (E4 e.Ad a) fun d=>
  Option.bind (E4 e.Ad (A3 (a-1))) fun c=>
  some (.inl ((B8m b (A3 (d.Bj-c.Bk))),(A3 (a+1)))))<|
 Option.map Sum.inr (some b)
def B6z (c:H5) (a b:Int):Option Int:=
 loop (fun (s:(Int×Int))=>C1X c s.1 s.2) (a,b)
def B2E (b:H5):Option Int:=
 Option.bind (A3K b) fun a=>
 cond ((a !=0)||(b.N==0)) (
  some 0)<|
 B6z b 1 1
def A3i (d c b a:Int):Option ((Int×Int)⊕Int):=
 cond (decide (a<=d)) (
  ck (decide (0<=(F3 a)))<|
  cond (decide ((R5 .i64 1 (F3 a))>(A3 (c+1)))) (
   ck (decide (c≠0))<|
   some (.inl ((A3 ((A3 (2*b))+(A3 (Int.tdiv (A3 ((A3 ((A3 ((R5 .i64 1 (F3 a))-1))+c))-1)) c)))),(A3 (a+1)))))<|
  some (.inl (b,(A3 (a+1)))))<|
 Option.map Sum.inr (some b)
def B1W (c d a b:Int):Option Int:=
 loop (fun (s:(Int×Int))=>A3i c d s.1 s.2) (a,b)
def A7c (a b:Int):Option Int:=
 cond ((((decide (a<0))||(decide (a>30)))||(decide (b<1)))||(decide (b>65536))) (
  some (-1:Int))<|
 B1W a b 0 0
def A5a (j:List D1) (k c:Int):Option (Int⊕Bool):=
 cond (decide (c<(j.length:Int))) (
  Option.bind (E4 j c) fun a=>
  Option.bind (A3K a.Ba) fun g=>
  ck (!(!(g !=0))||(decide (0<=(F3 a.Aw))))<|
  cond (((g !=0)||(a.Ba.N !=(R5 .i64 1 (F3 a.Aw))))||(decide ((a.Ba.Ad.length:Int)>(A3 (k+1))))) (
   some (.inr false))<|
  Option.bind (E4 a.Ba.Ad 0) fun d=>
  Option.bind (E4 a.Ba.Ad (A3 ((a.Ba.Ad.length:Int)-(1:Int)))) fun b=>
  let e:=(J6 d.V);
  let f:=(J6 b.V);
  Option.bind (gd (!((((!e)||(!f))||(decide (a.Bd<d.V)))||(decide (a.Bd>b.V)))) (B2E a.Ba)) fun h=>
  Option.bind (gd (!((((!e)||(!f))||(decide (a.Bd<d.V)))||(decide (a.Bd>b.V)))) (A7c a.Aw k)) fun i=>
  cond (((((!e)||(!f))||(decide (a.Bd<d.V)))||(decide (a.Bd>b.V)))||(decide ((A3 (h-1))>i))) (
   some (.inr false))<|
  some (.inl (A3 (c+1))))<|
 Option.map Sum.inr (some true)
def B3U (b:List D1) (c a:Int):Option Bool:=
 loop (fun (s:Int)=>A5a b c s) a
def A9g (d:List D1) (e c:Int):Option Bool:=
 Option.bind (gd (!((decide (c<1))||(decide (c>65536)))) (A9e d)) fun b=>
 Option.bind (gd (!((decide (c<1))||(decide (c>65536)))) (A6P b e)) fun a=>
 cond (((decide (c<1))||(decide (c>65536)))||(!a)) (
  some false)<|
 B3U d c 0
def A5T (a b:Int):Option ((Int×Int)⊕Int):=
 cond (decide (a>0)) (
  some (.inl ((A3 (Int.tdiv a 2)),(A3 (b+1)))))<|
 Option.map Sum.inr (some b)
def A7a (a b:Int):Option Int:=
 loop (fun (s:(Int×Int))=>A5T s.1 s.2) (a,b)
def B0Q (a:Int):Option Int:=
 A7a a 0
def A8a (d c:Int):Option Int:=
 let a:=(L6 d);
 cond (((!a)||(decide (c<1)))||(decide (c>65536))) (
  some 0)<|
 Option.bind (B0Q c) fun b=>
 some (A3 ((A3 (2*d))*(A3 (b+2))))
def A2S (d:E2) (a:Int):Option (Int⊕Int):=
 cond (decide (a<(d.Ai.length:Int))) (
  Option.bind (E4 d.Ai a) fun b=>
  let c:=(G9 d.Now d.W b.T);
  cond (!c) (
   some (.inr 2))<|
  some (.inl (A3 (a+1))))<|
 Option.map Sum.inr (some 0)
def B0r (b:E2) (a:Int):Option Int:=
 loop (fun (s:Int)=>A2S b s) a
def A6k (f:E2):Option Int:=
 let b:=(M2 f.W f.Cap f.Now);
 let a:=(L6 f.K);
 Option.bind (gd (!((!b)||(!a))) (A8a f.K f.Cap)) fun d=>
 Option.bind (gd (!((!b)||(!a))) (A9g f.Ai (A3 (2*f.K)) d)) fun c=>
 Option.bind (gd (!(((!b)||(!a))||(!c))) (A9f f.Ai)) fun e=>
 cond ((((!b)||(!a))||(!c))||(decide (e>f.Cap))) (
  some 2)<|
 B0r f 0
def B0T (n:B0):Option Bool:=
 cond (n.Ak.Bb==1) (
  Option.bind (Y6 n.Al) fun k=>
  some (((k==0)&&(n.Al.W==n.Ak.W))&&(n.Al.Cap==n.Ak.Cap)))<|
 cond (n.Ak.Bb==2) (
  Option.bind (A5Z n.Ar) fun l=>
  some ((((l==0)&&(n.Ar.W==n.Ak.W))&&(n.Ar.K==n.Ak.K))&&(n.Ar.Cap==n.Ak.Cap)))<|
 cond (n.Ak.Bb==3) (
  Option.bind (A51 n.Sum) fun m=>
  some (((((m==0)&&(n.Sum.W==n.Ak.W))&&(n.Sum.K==n.Ak.K))&&(n.Sum.Cap==n.Ak.Cap))&&(n.Sum.Bj==n.Ak.Bj)))<|
 cond (n.Ak.Bb==4) (
  Option.bind (A53 n.Ao) fun d=>
  some (((((d==0)&&(n.Ao.Bh==n.Ak.Bh))&&(n.Ao.W==n.Ak.W))&&(n.Ao.K==n.Ak.K))&&(n.Ao.Cap==n.Ak.Cap)))<|
 cond (n.Ak.Bb==5) (
  Option.bind (A55 n.Ap) fun e=>
  some ((((e==0)&&(n.Ap.W==n.Ak.W))&&(n.Ap.K==n.Ak.K))&&(n.Ap.Cap==n.Ak.Cap)))<|
 cond (n.Ak.Bb==6) (
  Option.bind (A57 n.Bf) fun f=>
  some ((f==0)&&(n.Bf.P==n.Ak.P)))<|
 cond (n.Ak.Bb==7) (
  Option.bind (A59 n.Au) fun g=>
  some ((g==0)&&((n.Au.Bg.length:Int)==n.Ak.W)))<|
 cond (n.Ak.Bb==8) (
  Option.bind (A6b n.Ae) fun h=>
  some ((((h==0)&&(n.Ae.Bj==(n.Ak.Bj==1)))&&(n.Ae.W==n.Ak.W))&&(n.Ae.Cap==n.Ak.Cap)))<|
 cond (n.Ak.Bb==9) (
  Option.bind (A3I n.Am) fun a=>
  Option.bind (gd ((a==0)&&((n.Am.Aj.length:Int)==n.Ak.Aj)) (E4 n.Am.Aj 0)) fun b=>
  Option.bind (gd (((a==0)&&((n.Am.Aj.length:Int)==n.Ak.Aj))&&(b.W==n.Ak.W)) (E4 n.Am.Aj 0)) fun c=>
  some ((((a==0)&&((n.Am.Aj.length:Int)==n.Ak.Aj))&&(b.W==n.Ak.W))&&(c.Cap==n.Ak.Cap)))<|
 cond (n.Ak.Bb==10) (
  Option.bind (A6g n.Ah) fun i=>
  some (((i==0)&&(n.Ah.K==n.Ak.K))&&(n.Ah.Cap==n.Ak.Cap)))<|
 cond (n.Ak.Bb==11) (
  Option.bind (A6k n.Aa) fun j=>
  some ((((j==0)&&(n.Aa.W==n.Ak.W))&&(n.Aa.K==n.Ak.K))&&(n.Aa.Cap==n.Ak.Cap)))<|
 some false
def A3O (e:B0):Option Int:=
 let a:=(A3N e.Ak);
 Option.bind (gd (!(a !=0)) (B0T e)) fun b=>
 let c:=(O1 e);
 Option.bind (gd (!((a !=0)||(!b))) (A4f e c)) fun d=>
 cond (((a !=0)||(!b))||(!d)) (
  some 2)<|
 some 0
def A8c (e:List C4) (a:Int):Option (Int⊕Bool):=
 cond (decide (a<(e.length:Int))) (
  Option.bind (E4 e a) fun b=>
  Option.bind (gd ((!((decide (b.ID<0))||(decide (b.ID>1048576))))&&(decide (a>0))) (E4 e (A3 (a-1)))) fun c=>
  Option.bind (gd (!(((decide (b.ID<0))||(decide (b.ID>1048576)))||((decide (a>0))&&(decide (c.ID>=b.ID))))) (A3O b.Ab)) fun d=>
  cond ((((decide (b.ID<0))||(decide (b.ID>1048576)))||((decide (a>0))&&(decide (c.ID>=b.ID))))||(d !=0)) (
   some (.inr false))<|
  some (.inl (A3 (a+1))))<|
 Option.map Sum.inr (some true)
def B3V (b:List C4) (a:Int):Option Bool:=
 loop (fun (s:Int)=>A8c b s) a
def A9h (b:List C4) (a:Int):Option Bool:=
 cond (((decide (a<1))||(decide (a>64)))||(decide ((b.length:Int)>a))) (
  some false)<|
 B3V b 0
def Y7 (d:B9) (a:Int):Option (Int⊕Int):=
 cond (decide (a<(d.Ag.length:Int))) (
  Option.bind (E4 d.Ag a) fun c=>
  let b:=(A2T c.Ab);
  cond (b.2&&(b.1 !=d.Now)) (
   some (.inr 2))<|
  some (.inl (A3 (a+1))))<|
 Option.map Sum.inr (some 0)
def A6B (b:B9) (a:Int):Option Int:=
 loop (fun (s:Int)=>Y7 b s) a
def V3 (c:B9):Option Int:=
 let a:=(J9 c.Now);
 Option.bind (gd (!(!a)) (A9h c.Ag c.Ax)) fun b=>
 cond ((!a)||(!b)) (
  some 2)<|
 A6B c 0
def I9 (b:A6):Option (Int×A6):=
 Option.bind (A4 b) fun a=>
 cond ((decide (a.1<0))||(decide (a.1>(A3 ((a.2.L.length:Int)-a.2.At))))) (
  some (0,(A6.mk a.2.L a.2.At true)))<|
 some (a.1,a.2)
def A0c (e:List Int) (f:Int) (b:List Int) (c:Int) (d:Bool):Option (((List Int)×Int×(List Int)×Int×Bool)⊕(A6×(List Int))):=
 cond (decide (f>0)) (
  Option.bind (A4 (A6.mk b c d)) fun a=>
  ck (decide ((e.length+ [a.1].length)*8<=140737488355328))<|
  some (.inl ((e++ [a.1]),(A3 (f-1)),a.2.L,a.2.At,a.2.Bi)))<|
 Option.map Sum.inr (some ((A6.mk b c d),e))
def A0l (d:List Int) (e:Int) (a:List Int) (b:Int) (c:Bool):Option (A6×(List Int)):=
 loop (fun (s:((List Int)×Int×(List Int)×Int×Bool))=>A0c s.1 s.2.1 s.2.2.1 s.2.2.2.1 s.2.2.2.2) (d,e,a,b,c)
def A1u (b:A6):Option (A6×(List Int)):=
 Option.bind (I9 b) fun a=>
 A0l ([]:List Int) a.1 a.2.L a.2.At a.2.Bi
def A6z (c:A6):Option (C7×A6):=
 Option.bind (A4 c) fun a=>
 Option.bind (A4 a.2) fun b=>
 some ((C7.mk (F3 a.1) (F3 b.1)),b.2)
def R6 (e:List A9) (g:Int) (c:List Int) (d:Int) (a:Bool):Option (((List A9)×Int×(List Int)×Int×Bool)⊕(A6×(List A9))):=
 cond ((decide (g>0))&&(!a)) (
  Option.bind (A4 (A6.mk c d a)) fun f=>
  Option.bind (A4 f.2) fun b=>
  ck (decide ((e.length+ [(A9.mk f.1 b.1)].length)*16<=140737488355328))<|
  some (.inl ((e++ [(A9.mk f.1 b.1)]),(A3 (g-1)),b.2.L,b.2.At,b.2.Bi)))<|
 Option.map Sum.inr (some ((A6.mk c d a),e))
def B2m (d:List A9) (e:Int) (a:List Int) (b:Int) (c:Bool):Option (A6×(List A9)):=
 loop (fun (s:((List A9)×Int×(List Int)×Int×Bool))=>R6 s.1 s.2.1 s.2.2.1 s.2.2.2.1 s.2.2.2.2) (d,e,a,b,c)
def A1x (b:A6):Option (A6×(List A9)):=
 Option.bind (I9 b) fun a=>
 B2m ([]:List A9) a.1 a.2.L a.2.At a.2.Bi
def S9 (e:List D7) (g:Int) (c:List Int) (d:Int) (a:Bool):Option (((List D7)×Int×(List Int)×Int×Bool)⊕(A6×(List D7))):=
 cond ((decide (g>0))&&(!a)) (
  Option.bind (A4 (A6.mk c d a)) fun f=>
  Option.bind (A4 f.2) fun b=>
  ck (decide ((e.length+ [(D7.mk f.1 b.1)].length)*16<=140737488355328))<|
  some (.inl ((e++ [(D7.mk f.1 b.1)]),(A3 (g-1)),b.2.L,b.2.At,b.2.Bi)))<|
 Option.map Sum.inr (some ((A6.mk c d a),e))
def B3Y (d:List D7) (e:Int) (a:List Int) (b:Int) (c:Bool):Option (A6×(List D7)):=
 loop (fun (s:((List D7)×Int×(List Int)×Int×Bool))=>S9 s.1 s.2.1 s.2.2.1 s.2.2.2.1 s.2.2.2.2) (d,e,a,b,c)
def A2V (b:A6):Option (A6×(List D7)):=
 Option.bind (I9 b) fun a=>
 B3Y ([]:List D7) a.1 a.2.L a.2.At a.2.Bi
def T0 (e:List D0) (l:Int) (c:List Int) (d:Int) (a:Bool):Option (((List D0)×Int×(List Int)×Int×Bool)⊕(A6×(List D0))):=
 cond ((decide (l>0))&&(!a)) (
  Option.bind (A4 (A6.mk c d a)) fun f=>
  Option.bind (A4 f.2) fun g=>
  Option.bind (A4 g.2) fun h=>
  Option.bind (A4 h.2) fun i=>
  Option.bind (A4 i.2) fun j=>
  Option.bind (A4 j.2) fun k=>
  Option.bind (A4 k.2) fun b=>
  ck (decide ((e.length+ [(D0.mk f.1 g.1 h.1 i.1 j.1 k.1 b.1)].length)*56<=140737488355328))<|
  some (.inl ((e++ [(D0.mk f.1 g.1 h.1 i.1 j.1 k.1 b.1)]),(A3 (l-1)),b.2.L,b.2.At,b.2.Bi)))<|
 Option.map Sum.inr (some ((A6.mk c d a),e))
def B3Z (d:List D0) (e:Int) (a:List Int) (b:Int) (c:Bool):Option (A6×(List D0)):=
 loop (fun (s:((List D0)×Int×(List Int)×Int×Bool))=>T0 s.1 s.2.1 s.2.2.1 s.2.2.2.1 s.2.2.2.2) (d,e,a,b,c)
def A2W (b:A6):Option (A6×(List D0)):=
 Option.bind (I9 b) fun a=>
 B3Z ([]:List D0) a.1 a.2.L a.2.At a.2.Bi
def U4 (h i j k:Int×A6) (m:Int) (d:List C8) (l:Int) (e:List Int) (f:Int) (c:Bool) (a:List H4):Option ((Int×(List Int)×Int×Bool×(List H4))⊕((Int×(List Int)×Int×Bool×(List C8))⊕(A6×(List C8)×Int×Int×Int×(List E3)×Int×Int×Int×Int×(List D1)))):=
 cond ((decide (l>0))&&(!c)) (
  Option.bind (A4 (A6.mk e f c)) fun g=>
  Option.bind (A4 g.2) fun b=>
  ck (decide ((a.length+ [(H4.mk g.1 b.1)].length)*16<=140737488355328))<|
  some (.inl ((A3 (l-1)),b.2.L,b.2.At,b.2.Bi,(a++ [(H4.mk g.1 b.1)]))))<|
 Option.map Sum.inr (ck (decide ((d.length+ [(C8.mk h.1 i.1 j.1 k.1 a)].length)*56<=140737488355328))<|
 some (.inl ((A3 (m-1)),e,f,c,(d++ [(C8.mk h.1 i.1 j.1 k.1 a)]))))
def B4P (f g h i:Int×A6) (j:Int) (b:List C8) (k:Int) (c:List Int) (d:Int) (e:Bool) (a:List H4):Option ((Int×(List Int)×Int×Bool×(List C8))⊕(A6×(List C8)×Int×Int×Int×(List E3)×Int×Int×Int×Int×(List D1))):=
 loop (fun (s:(Int×(List Int)×Int×Bool×(List H4)))=>U4 f g h i j b s.1 s.2.1 s.2.2.1 s.2.2.2.1 s.2.2.2.2) (k,c,d,e,a)
def U3 (k l m n o p q f:Int) (c:List Int) (d:Int) (a:Bool) (b:List C8):Option ((Int×(List Int)×Int×Bool×(List C8))⊕(A6×(List C8)×Int×Int×Int×(List E3)×Int×Int×Int×Int×(List D1))):=
 cond ((decide (f>0))&&(!a)) (
  Option.bind (A4 (A6.mk c d a)) fun g=>
  Option.bind (A4 g.2) fun h=>
  Option.bind (A4 h.2) fun i=>
  Option.bind (A4 i.2) fun j=>
  Option.bind (I9 j.2) fun e=>
  B4P g h i j f b e.1 e.2.L e.2.At e.2.Bi [])<|
 Option.map Sum.inr (some ((A6.mk c d a),b,k,l,m,[],n,o,p,q,[]))
def B4O (f g h i j k l e:Int) (b:List Int) (c:Int) (d:Bool) (a:List C8):Option (A6×(List C8)×Int×Int×Int×(List E3)×Int×Int×Int×Int×(List D1)):=
 loop (fun (s:(Int×(List Int)×Int×Bool×(List C8)))=>U3 f g h i j k l s.1 s.2.1 s.2.2.1 s.2.2.2.1 s.2.2.2.2) (e,b,c,d,a)
def T1 (l m n o:Int) (i j k:Int×A6) (h:Int) (d:List Int) (e:Int) (b:Bool) (a:List E3):Option ((Int×(List Int)×Int×Bool×(List E3))⊕(A6×(List C8)×Int×Int×Int×(List E3)×Int×Int×Int×Int×(List D1))):=
 cond ((decide (h>0))&&(!b)) (
  Option.bind (A4 (A6.mk d e b)) fun f=>
  Option.bind (A4 f.2) fun g=>
  Option.bind (A4 g.2) fun c=>
  ck (decide ((a.length+ [(E3.mk f.1 g.1 c.1)].length)*24<=140737488355328))<|
  some (.inl ((A3 (h-1)),c.2.L,c.2.At,c.2.Bi,(a++ [(E3.mk f.1 g.1 c.1)]))))<|
 Option.map Sum.inr (some ((A6.mk d e b),[],i.1,j.1,k.1,a,l,m,n,o,[]))
def A7C (i j k l:Int) (e f g:Int×A6) (h:Int) (b:List Int) (c:Int) (d:Bool) (a:List E3):Option (A6×(List C8)×Int×Int×Int×(List E3)×Int×Int×Int×Int×(List D1)):=
 loop (fun (s:(Int×(List Int)×Int×Bool×(List E3)))=>T1 i j k l e f g s.1 s.2.1 s.2.2.1 s.2.2.2.1 s.2.2.2.2) (h,b,c,d,a)
def T3 (j k l m:Int×A6) (n:Int) (d:List D1) (i:Int) (e:List Int) (f:Int) (b:Bool) (a:List F6):Option ((Int×(List Int)×Int×Bool×(List F6))⊕((Int×(List Int)×Int×Bool×(List D1))⊕(A6×(List C8)×Int×Int×Int×(List E3)×Int×Int×Int×Int×(List D1)))):=
 cond ((decide (i>0))&&(!b)) (
  Option.bind (A4 (A6.mk e f b)) fun g=>
  Option.bind (A4 g.2) fun h=>
  Option.bind (A4 h.2) fun c=>
  ck (decide ((a.length+ [(F6.mk g.1 h.1 c.1)].length)*24<=140737488355328))<|
  some (.inl ((A3 (i-1)),c.2.L,c.2.At,c.2.Bi,(a++ [(F6.mk g.1 h.1 c.1)]))))<|
 Option.map Sum.inr (ck (decide ((d.length+ [(D1.mk j.1 k.1 l.1 (H5.mk m.1 a))].length)*56<=140737488355328))<|
 some (.inl ((A3 (n-1)),e,f,b,(d++ [(D1.mk j.1 k.1 l.1 (H5.mk m.1 a))]))))
def B30 (h i j k:Int×A6) (f:Int) (b:List D1) (g:Int) (c:List Int) (d:Int) (e:Bool) (a:List F6):Option ((Int×(List Int)×Int×Bool×(List D1))⊕(A6×(List C8)×Int×Int×Int×(List E3)×Int×Int×Int×Int×(List D1))):=
 loop (fun (s:(Int×(List Int)×Int×Bool×(List F6)))=>T3 h i j k f b s.1 s.2.1 s.2.2.1 s.2.2.2.1 s.2.2.2.2) (g,c,d,e,a)
def T2 (o p q:Int) (k l m n:Int×A6) (f:Int) (d:List Int) (e:Int) (a:Bool) (b:List D1):Option ((Int×(List Int)×Int×Bool×(List D1))⊕(A6×(List C8)×Int×Int×Int×(List E3)×Int×Int×Int×Int×(List D1))):=
 cond ((decide (f>0))&&(!a)) (
  Option.bind (A4 (A6.mk d e a)) fun g=>
  Option.bind (A4 g.2) fun h=>
  Option.bind (A4 h.2) fun i=>
  Option.bind (A4 i.2) fun j=>
  Option.bind (I9 j.2) fun c=>
  B30 g h i j f b c.1 c.2.L c.2.At c.2.Bi [])<|
 Option.map Sum.inr (some ((A6.mk d e a),[],o,p,q,[],k.1,l.1,m.1,n.1,b))
def A7D (j k l:Int) (f g h i:Int×A6) (e:Int) (b:List Int) (c:Int) (d:Bool) (a:List D1):Option (A6×(List C8)×Int×Int×Int×(List E3)×Int×Int×Int×Int×(List D1)):=
 loop (fun (s:(Int×(List Int)×Int×Bool×(List D1)))=>T2 j k l f g h i s.1 s.2.1 s.2.2.1 s.2.2.2.1 s.2.2.2.2) (e,b,c,d,a)
def A1l (s:A6) (r W X Y Z aa ab ac ad ae t u v w x y z A B C D E F G H I J K M N O P Q R S T U V k l m n o p q:Int):Option (A6×(List C8)×Int×Int×Int×(List E3)×Int×Int×Int×Int×(List D1)):=
 cond (r==9) (
  Option.bind (I9 s) fun c=>
  B4O k l m n o p q c.1 c.2.L c.2.At c.2.Bi [])<|
 cond (r==10) (
  Option.bind (A4 s) fun d=>
  Option.bind (A4 d.2) fun e=>
  Option.bind (A4 e.2) fun f=>
  Option.bind (I9 f.2) fun a=>
  A7C n o p q d e f a.1 a.2.L a.2.At a.2.Bi [])<|
 cond (r==11) (
  Option.bind (A4 s) fun g=>
  Option.bind (A4 g.2) fun h=>
  Option.bind (A4 h.2) fun i=>
  Option.bind (A4 i.2) fun j=>
  Option.bind (I9 j.2) fun b=>
  A7D k l m g h i j b.1 b.2.L b.2.At b.2.Bi [])<|
 some ((A6.mk s.L s.At true),[],k,l,m,[],n,o,p,q,[])
def T4 (Q R j k l m n o p q r s t u v w x y z A B C D E F G H I J K M N O P:Int) (g h i:Int×A6) (f:Int) (d:List Int) (e:Int) (c:Bool) (a:List C7):Option ((Int×(List Int)×Int×Bool×(List C7))⊕(A6×Int×Int×Int×(List D7)×Int×Int×Int×Int×(List A9)×Int×Int×Int×Int×Int×(List A9)×Int×Int×Int×Int×Int×Int×(List D0)×Int×Int×Int×Int×Int×(List D0)×Int×Int×Int×(List C7)×Int×(List Int)×Bool×Int×Int×Int×(List D7)×(List C8)×Int×Int×Int×(List E3)×Int×Int×Int×Int×(List D1))):=
 cond ((decide (f>0))&&(!c)) (
  Option.bind (A6z (A6.mk d e c)) fun b=>
  ck (decide ((a.length+ [b.1].length)*16<=140737488355328))<|
  some (.inl ((A3 (f-1)),b.2.L,b.2.At,b.2.Bi,(a++ [b.1]))))<|
 Option.map Sum.inr (some ((A6.mk d e c),Q,R,j,[],k,l,m,n,[],o,p,q,r,s,[],t,u,v,w,x,y,[],z,A,B,C,D,[],g.1,h.1,i.1,a,E,[],false,F,G,H,[],[],I,J,K,[],M,N,O,P,[]))
def B31 (P Q i j k l m n o p q r t u v w x y z A B C D E F G H I J K L M N O:Int) (e f g:Int×A6) (h:Int) (b:List Int) (c:Int) (d:Bool) (a:List C7):Option (A6×Int×Int×Int×(List D7)×Int×Int×Int×Int×(List A9)×Int×Int×Int×Int×Int×(List A9)×Int×Int×Int×Int×Int×Int×(List D0)×Int×Int×Int×Int×Int×(List D0)×Int×Int×Int×(List C7)×Int×(List Int)×Bool×Int×Int×Int×(List D7)×(List C8)×Int×Int×Int×(List E3)×Int×Int×Int×Int×(List D1)):=
 loop (fun (s:(Int×(List Int)×Int×Bool×(List C7)))=>T4 P Q i j k l m n o p q r t u v w x y z A B C D E F G H I J K L M N O e f g s.1 s.2.1 s.2.2.1 s.2.2.2.1 s.2.2.2.2) (h,b,c,d,a)
def N3 (b0:A6) (az b1_1 b1_2 b1_3 b1_4 b1_5 b1_6 b1_7 aA aB P Q R S T U V W X Y Z aa ab ac ad ae af ag ah ai aj ak al am an ao ap aq ar as au av aw ax ay:Int):Option (A6×Int×Int×Int×(List D7)×Int×Int×Int×Int×(List A9)×Int×Int×Int×Int×Int×(List A9)×Int×Int×Int×Int×Int×Int×(List D0)×Int×Int×Int×Int×Int×(List D0)×Int×Int×Int×(List C7)×Int×(List Int)×Bool×Int×Int×Int×(List D7)×(List C8)×Int×Int×Int×(List E3)×Int×Int×Int×Int×(List D1)):=
 cond (az==1) (
  Option.bind (A4 b0) fun F=>
  Option.bind (A4 F.2) fun G=>
  Option.bind (A4 G.2) fun H=>
  Option.bind (A2V H.2) fun I=>
  some (I.1,F.1,G.1,H.1,I.2,Q,R,S,T,[],U,V,W,X,Y,[],Z,aa,ab,ac,ad,ae,[],af,ag,ah,ai,aj,[],ak,al,am,[],an,[],false,ao,ap,aq,[],[],ar,as,au,[],av,aw,ax,ay,[]))<|
 cond (az==2) (
  Option.bind (A4 b0) fun J=>
  Option.bind (A4 J.2) fun K=>
  Option.bind (A4 K.2) fun M=>
  Option.bind (A4 M.2) fun N=>
  Option.bind (A1x N.2) fun O=>
  some (O.1,aA,aB,P,[],J.1,K.1,M.1,N.1,O.2,U,V,W,X,Y,[],Z,aa,ab,ac,ad,ae,[],af,ag,ah,ai,aj,[],ak,al,am,[],an,[],false,ao,ap,aq,[],[],ar,as,au,[],av,aw,ax,ay,[]))<|
 cond (az==3) (
  Option.bind (A4 b0) fun d=>
  Option.bind (A4 d.2) fun e=>
  Option.bind (A4 e.2) fun f=>
  Option.bind (A4 f.2) fun g=>
  Option.bind (A4 g.2) fun h=>
  Option.bind (A1x h.2) fun i=>
  some (i.1,aA,aB,P,[],Q,R,S,T,[],d.1,e.1,f.1,g.1,h.1,i.2,Z,aa,ab,ac,ad,ae,[],af,ag,ah,ai,aj,[],ak,al,am,[],an,[],false,ao,ap,aq,[],[],ar,as,au,[],av,aw,ax,ay,[]))<|
 cond (az==4) (
  Option.bind (A4 b0) fun j=>
  Option.bind (A4 j.2) fun k=>
  Option.bind (A4 k.2) fun l=>
  Option.bind (A4 l.2) fun m=>
  Option.bind (A4 m.2) fun n=>
  Option.bind (A4 n.2) fun o=>
  Option.bind (A2W o.2) fun p=>
  some (p.1,aA,aB,P,[],Q,R,S,T,[],U,V,W,X,Y,[],j.1,k.1,l.1,m.1,n.1,o.1,p.2,af,ag,ah,ai,aj,[],ak,al,am,[],an,[],false,ao,ap,aq,[],[],ar,as,au,[],av,aw,ax,ay,[]))<|
 cond (az==5) (
  Option.bind (A4 b0) fun q=>
  Option.bind (A4 q.2) fun r=>
  Option.bind (A4 r.2) fun s=>
  Option.bind (A4 s.2) fun t=>
  Option.bind (A4 t.2) fun u=>
  Option.bind (A2W u.2) fun v=>
  some (v.1,aA,aB,P,[],Q,R,S,T,[],U,V,W,X,Y,[],Z,aa,ab,ac,ad,ae,[],q.1,r.1,s.1,t.1,u.1,v.2,ak,al,am,[],an,[],false,ao,ap,aq,[],[],ar,as,au,[],av,aw,ax,ay,[]))<|
 cond (az==6) (
  Option.bind (A4 b0) fun w=>
  Option.bind (A4 w.2) fun x=>
  Option.bind (A4 x.2) fun y=>
  Option.bind (I9 y.2) fun c=>
  B31 aA aB P Q R S T U V W X Y Z aa ab ac ad ae af ag ah ai aj an ao ap aq ar as au av aw ax ay w x y c.1 c.2.L c.2.At c.2.Bi [])<|
 cond (az==7) (
  Option.bind (A4 b0) fun z=>
  Option.bind (A1u z.2) fun A=>
  some (A.1,aA,aB,P,[],Q,R,S,T,[],U,V,W,X,Y,[],Z,aa,ab,ac,ad,ae,[],af,ag,ah,ai,aj,[],ak,al,am,[],z.1,A.2,false,ao,ap,aq,[],[],ar,as,au,[],av,aw,ax,ay,[]))<|
 cond (az==8) (
  Option.bind (A4 b0) fun b=>
  Option.bind (A4 (A6.mk b.2.L b.2.At ((b.2.Bi||(decide (b.1<0)))||(decide (b.1>1))))) fun B=>
  Option.bind (A4 B.2) fun C=>
  Option.bind (A4 C.2) fun D=>
  Option.bind (A2V D.2) fun E=>
  some (E.1,aA,aB,P,[],Q,R,S,T,[],U,V,W,X,Y,[],Z,aa,ab,ac,ad,ae,[],af,ag,ah,ai,aj,[],ak,al,am,[],an,[],(b.1==1),B.1,C.1,D.1,E.2,[],ar,as,au,[],av,aw,ax,ay,[]))<|
 Option.bind (A1l b0 az b1_1 b1_2 b1_3 b1_4 b1_5 b1_6 b1_7 aA aB P Q R S T U V W X Y Z aa ab ac ad ae af ag ah ai aj ak al am an ao ap aq ar as au av aw ax ay) fun a=>
 some (a.1,aA,aB,P,[],Q,R,S,T,[],U,V,W,X,Y,[],Z,aa,ab,ac,ad,ae,[],af,ag,ah,ai,aj,[],ak,al,am,[],an,[],false,ao,ap,aq,[],a.2.1,a.2.2.1,a.2.2.2.1,a.2.2.2.2.1,a.2.2.2.2.2.1,a.2.2.2.2.2.2.1,a.2.2.2.2.2.2.2.1,a.2.2.2.2.2.2.2.2.1,a.2.2.2.2.2.2.2.2.2.1,a.2.2.2.2.2.2.2.2.2.2)
def S6 (n:List Int) (j h:Int×A6) (k:Int) (c:List Int) (e:Int) (d:Bool) (f:List C4):Option ((Int×(List Int)×Int×Bool×(List C4))⊕(B9×Int)):=
 cond ((decide (k>0))&&(!d)) (
  Option.bind (A4 (A6.mk c e d)) fun g=>
  Option.bind (A4N g.2) fun b=>
  Option.bind (N3 b.2 b.1.Bb b.1.Bh b.1.W b.1.K b.1.Cap b.1.P b.1.Aj b.1.Bj 0 0 0 0 0 0 0 0 0 0 0 0 0 0 0 0 0 0 0 0 0 0 0 0 0 0 0 0 0 0 0 0 0 0 0 0 0) fun a=>
  ck (decide ((f.length+ [(C4.mk g.1 (B0.mk b.1 (E9.mk a.2.1 a.2.2.1 a.2.2.2.1 a.2.2.2.2.1) (G1.mk a.2.2.2.2.2.1 a.2.2.2.2.2.2.1 a.2.2.2.2.2.2.2.1 a.2.2.2.2.2.2.2.2.1 a.2.2.2.2.2.2.2.2.2.1) (I0.mk a.2.2.2.2.2.2.2.2.2.2.1 a.2.2.2.2.2.2.2.2.2.2.2.1 a.2.2.2.2.2.2.2.2.2.2.2.2.1 a.2.2.2.2.2.2.2.2.2.2.2.2.2.1 a.2.2.2.2.2.2.2.2.2.2.2.2.2.2.1 a.2.2.2.2.2.2.2.2.2.2.2.2.2.2.2.1) (F0.mk a.2.2.2.2.2.2.2.2.2.2.2.2.2.2.2.2.1 a.2.2.2.2.2.2.2.2.2.2.2.2.2.2.2.2.2.1 a.2.2.2.2.2.2.2.2.2.2.2.2.2.2.2.2.2.2.1 a.2.2.2.2.2.2.2.2.2.2.2.2.2.2.2.2.2.2.2.1 a.2.2.2.2.2.2.2.2.2.2.2.2.2.2.2.2.2.2.2.2.1 a.2.2.2.2.2.2.2.2.2.2.2.2.2.2.2.2.2.2.2.2.2.1 a.2.2.2.2.2.2.2.2.2.2.2.2.2.2.2.2.2.2.2.2.2.2.1) (F1.mk a.2.2.2.2.2.2.2.2.2.2.2.2.2.2.2.2.2.2.2.2.2.2.2.1 a.2.2.2.2.2.2.2.2.2.2.2.2.2.2.2.2.2.2.2.2.2.2.2.2.1 a.2.2.2.2.2.2.2.2.2.2.2.2.2.2.2.2.2.2.2.2.2.2.2.2.2.1 a.2.2.2.2.2.2.2.2.2.2.2.2.2.2.2.2.2.2.2.2.2.2.2.2.2.2.1 a.2.2.2.2.2.2.2.2.2.2.2.2.2.2.2.2.2.2.2.2.2.2.2.2.2.2.2.1 a.2.2.2.2.2.2.2.2.2.2.2.2.2.2.2.2.2.2.2.2.2.2.2.2.2.2.2.2.1) (G2.mk a.2.2.2.2.2.2.2.2.2.2.2.2.2.2.2.2.2.2.2.2.2.2.2.2.2.2.2.2.2.1 a.2.2.2.2.2.2.2.2.2.2.2.2.2.2.2.2.2.2.2.2.2.2.2.2.2.2.2.2.2.2.1 a.2.2.2.2.2.2.2.2.2.2.2.2.2.2.2.2.2.2.2.2.2.2.2.2.2.2.2.2.2.2.2.1 a.2.2.2.2.2.2.2.2.2.2.2.2.2.2.2.2.2.2.2.2.2.2.2.2.2.2.2.2.2.2.2.2.1) (J7.mk a.2.2.2.2.2.2.2.2.2.2.2.2.2.2.2.2.2.2.2.2.2.2.2.2.2.2.2.2.2.2.2.2.2.1 a.2.2.2.2.2.2.2.2.2.2.2.2.2.2.2.2.2.2.2.2.2.2.2.2.2.2.2.2.2.2.2.2.2.2.1) (E5.mk a.2.2.2.2.2.2.2.2.2.2.2.2.2.2.2.2.2.2.2.2.2.2.2.2.2.2.2.2.2.2.2.2.2.2.2.1 a.2.2.2.2.2.2.2.2.2.2.2.2.2.2.2.2.2.2.2.2.2.2.2.2.2.2.2.2.2.2.2.2.2.2.2.2.1 a.2.2.2.2.2.2.2.2.2.2.2.2.2.2.2.2.2.2.2.2.2.2.2.2.2.2.2.2.2.2.2.2.2.2.2.2.2.1 a.2.2.2.2.2.2.2.2.2.2.2.2.2.2.2.2.2.2.2.2.2.2.2.2.2.2.2.2.2.2.2.2.2.2.2.2.2.2.1 a.2.2.2.2.2.2.2.2.2.2.2.2.2.2.2.2.2.2.2.2.2.2.2.2.2.2.2.2.2.2.2.2.2.2.2.2.2.2.2.1) (I2.mk a.2.2.2.2.2.2.2.2.2.2.2.2.2.2.2.2.2.2.2.2.2.2.2.2.2.2.2.2.2.2.2.2.2.2.2.2.2.2.2.2.1) (D8.mk a.2.2.2.2.2.2.2.2.2.2.2.2.2.2.2.2.2.2.2.2.2.2.2.2.2.2.2.2.2.2.2.2.2.2.2.2.2.2.2.2.2.1 a.2.2.2.2.2.2.2.2.2.2.2.2.2.2.2.2.2.2.2.2.2.2.2.2.2.2.2.2.2.2.2.2.2.2.2.2.2.2.2.2.2.2.1 a.2.2.2.2.2.2.2.2.2.2.2.2.2.2.2.2.2.2.2.2.2.2.2.2.2.2.2.2.2.2.2.2.2.2.2.2.2.2.2.2.2.2.2.1 a.2.2.2.2.2.2.2.2.2.2.2.2.2.2.2.2.2.2.2.2.2.2.2.2.2.2.2.2.2.2.2.2.2.2.2.2.2.2.2.2.2.2.2.2.1) (E2.mk a.2.2.2.2.2.2.2.2.2.2.2.2.2.2.2.2.2.2.2.2.2.2.2.2.2.2.2.2.2.2.2.2.2.2.2.2.2.2.2.2.2.2.2.2.2.1 a.2.2.2.2.2.2.2.2.2.2.2.2.2.2.2.2.2.2.2.2.2.2.2.2.2.2.2.2.2.2.2.2.2.2.2.2.2.2.2.2.2.2.2.2.2.2.1 a.2.2.2.2.2.2.2.2.2.2.2.2.2.2.2.2.2.2.2.2.2.2.2.2.2.2.2.2.2.2.2.2.2.2.2.2.2.2.2.2.2.2.2.2.2.2.2.1 a.2.2.2.2.2.2.2.2.2.2.2.2.2.2.2.2.2.2.2.2.2.2.2.2.2.2.2.2.2.2.2.2.2.2.2.2.2.2.2.2.2.2.2.2.2.2.2.2.1 a.2.2.2.2.2.2.2.2.2.2.2.2.2.2.2.2.2.2.2.2.2.2.2.2.2.2.2.2.2.2.2.2.2.2.2.2.2.2.2.2.2.2.2.2.2.2.2.2.2)))].length)*640<=140737488355328))<|
  some (.inl ((A3 (k-1)),a.1.L,a.1.At,a.1.Bi,(f++ [(C4.mk g.1 (B0.mk b.1 (E9.mk a.2.1 a.2.2.1 a.2.2.2.1 a.2.2.2.2.1) (G1.mk a.2.2.2.2.2.1 a.2.2.2.2.2.2.1 a.2.2.2.2.2.2.2.1 a.2.2.2.2.2.2.2.2.1 a.2.2.2.2.2.2.2.2.2.1) (I0.mk a.2.2.2.2.2.2.2.2.2.2.1 a.2.2.2.2.2.2.2.2.2.2.2.1 a.2.2.2.2.2.2.2.2.2.2.2.2.1 a.2.2.2.2.2.2.2.2.2.2.2.2.2.1 a.2.2.2.2.2.2.2.2.2.2.2.2.2.2.1 a.2.2.2.2.2.2.2.2.2.2.2.2.2.2.2.1) (F0.mk a.2.2.2.2.2.2.2.2.2.2.2.2.2.2.2.2.1 a.2.2.2.2.2.2.2.2.2.2.2.2.2.2.2.2.2.1 a.2.2.2.2.2.2.2.2.2.2.2.2.2.2.2.2.2.2.1 a.2.2.2.2.2.2.2.2.2.2.2.2.2.2.2.2.2.2.2.1 a.2.2.2.2.2.2.2.2.2.2.2.2.2.2.2.2.2.2.2.2.1 a.2.2.2.2.2.2.2.2.2.2.2.2.2.2.2.2.2.2.2.2.2.1 a.2.2.2.2.2.2.2.2.2.2.2.2.2.2.2.2.2.2.2.2.2.2.1) (F1.mk a.2.2.2.2.2.2.2.2.2.2.2.2.2.2.2.2.2.2.2.2.2.2.2.1 a.2.2.2.2.2.2.2.2.2.2.2.2.2.2.2.2.2.2.2.2.2.2.2.2.1 a.2.2.2.2.2.2.2.2.2.2.2.2.2.2.2.2.2.2.2.2.2.2.2.2.2.1 a.2.2.2.2.2.2.2.2.2.2.2.2.2.2.2.2.2.2.2.2.2.2.2.2.2.2.1 a.2.2.2.2.2.2.2.2.2.2.2.2.2.2.2.2.2.2.2.2.2.2.2.2.2.2.2.1 a.2.2.2.2.2.2.2.2.2.2.2.2.2.2.2.2.2.2.2.2.2.2.2.2.2.2.2.2.1) (G2.mk a.2.2.2.2.2.2.2.2.2.2.2.2.2.2.2.2.2.2.2.2.2.2.2.2.2.2.2.2.2.1 a.2.2.2.2.2.2.2.2.2.2.2.2.2.2.2.2.2.2.2.2.2.2.2.2.2.2.2.2.2.2.1 a.2.2.2.2.2.2.2.2.2.2.2.2.2.2.2.2.2.2.2.2.2.2.2.2.2.2.2.2.2.2.2.1 a.2.2.2.2.2.2.2.2.2.2.2.2.2.2.2.2.2.2.2.2.2.2.2.2.2.2.2.2.2.2.2.2.1) (J7.mk a.2.2.2.2.2.2.2.2.2.2.2.2.2.2.2.2.2.2.2.2.2.2.2.2.2.2.2.2.2.2.2.2.2.1 a.2.2.2.2.2.2.2.2.2.2.2.2.2.2.2.2.2.2.2.2.2.2.2.2.2.2.2.2.2.2.2.2.2.2.1) (E5.mk a.2.2.2.2.2.2.2.2.2.2.2.2.2.2.2.2.2.2.2.2.2.2.2.2.2.2.2.2.2.2.2.2.2.2.2.1 a.2.2.2.2.2.2.2.2.2.2.2.2.2.2.2.2.2.2.2.2.2.2.2.2.2.2.2.2.2.2.2.2.2.2.2.2.1 a.2.2.2.2.2.2.2.2.2.2.2.2.2.2.2.2.2.2.2.2.2.2.2.2.2.2.2.2.2.2.2.2.2.2.2.2.2.1 a.2.2.2.2.2.2.2.2.2.2.2.2.2.2.2.2.2.2.2.2.2.2.2.2.2.2.2.2.2.2.2.2.2.2.2.2.2.2.1 a.2.2.2.2.2.2.2.2.2.2.2.2.2.2.2.2.2.2.2.2.2.2.2.2.2.2.2.2.2.2.2.2.2.2.2.2.2.2.2.1) (I2.mk a.2.2.2.2.2.2.2.2.2.2.2.2.2.2.2.2.2.2.2.2.2.2.2.2.2.2.2.2.2.2.2.2.2.2.2.2.2.2.2.2.1) (D8.mk a.2.2.2.2.2.2.2.2.2.2.2.2.2.2.2.2.2.2.2.2.2.2.2.2.2.2.2.2.2.2.2.2.2.2.2.2.2.2.2.2.2.1 a.2.2.2.2.2.2.2.2.2.2.2.2.2.2.2.2.2.2.2.2.2.2.2.2.2.2.2.2.2.2.2.2.2.2.2.2.2.2.2.2.2.2.1 a.2.2.2.2.2.2.2.2.2.2.2.2.2.2.2.2.2.2.2.2.2.2.2.2.2.2.2.2.2.2.2.2.2.2.2.2.2.2.2.2.2.2.2.1 a.2.2.2.2.2.2.2.2.2.2.2.2.2.2.2.2.2.2.2.2.2.2.2.2.2.2.2.2.2.2.2.2.2.2.2.2.2.2.2.2.2.2.2.2.1) (E2.mk a.2.2.2.2.2.2.2.2.2.2.2.2.2.2.2.2.2.2.2.2.2.2.2.2.2.2.2.2.2.2.2.2.2.2.2.2.2.2.2.2.2.2.2.2.2.1 a.2.2.2.2.2.2.2.2.2.2.2.2.2.2.2.2.2.2.2.2.2.2.2.2.2.2.2.2.2.2.2.2.2.2.2.2.2.2.2.2.2.2.2.2.2.2.1 a.2.2.2.2.2.2.2.2.2.2.2.2.2.2.2.2.2.2.2.2.2.2.2.2.2.2.2.2.2.2.2.2.2.2.2.2.2.2.2.2.2.2.2.2.2.2.2.1 a.2.2.2.2.2.2.2.2.2.2.2.2.2.2.2.2.2.2.2.2.2.2.2.2.2.2.2.2.2.2.2.2.2.2.2.2.2.2.2.2.2.2.2.2.2.2.2.2.1 a.2.2.2.2.2.2.2.2.2.2.2.2.2.2.2.2.2.2.2.2.2.2.2.2.2.2.2.2.2.2.2.2.2.2.2.2.2.2.2.2.2.2.2.2.2.2.2.2.2)))]))))<|
 Option.map Sum.inr (Option.bind (gd (!(d||(e !=(c.length:Int)))) (V0 c)) fun l=>
 Option.bind (gd (!(d||(e !=(c.length:Int)))) (Q0 l n)) fun m=>
 cond ((d||(e !=(c.length:Int)))||(!m)) (
  some ((B9.mk 0 0 []),13))<|
 Option.bind (V3 (B9.mk j.1 h.1 f)) fun i=>
 cond (i !=0) (
  some ((B9.mk 0 0 []),i))<|
 some ((B9.mk j.1 h.1 f),0))
def A8f (h:List Int) (f e:Int×A6) (g:Int) (a:List Int) (b:Int) (c:Bool) (d:List C4):Option (B9×Int):=
 loop (fun (s:(Int×(List Int)×Int×Bool×(List C4)))=>S6 h f e s.1 s.2.1 s.2.2.1 s.2.2.2.1 s.2.2.2.2) (g,a,b,c,d)
def A1S (f:List Int):Option (B9×Int):=
 cond (decide ((f.length:Int)>(1048576:Int))) (
  some ((B9.mk 0 0 []),13))<|
 Option.bind (A7d f) fun b=>
 cond ((b.2 !=0)||(decide ((b.1.length:Int)<(5:Int)))) (
  some ((B9.mk 0 0 []),13))<|
 ck (decide (0<=(A3 ((b.1.length:Int)-(1:Int)))/\(A3 ((b.1.length:Int)-(1:Int)))<=(b.1.length:Int)))<|
 Option.bind (A4 (A6.mk (b.1.take ((A3 ((b.1.length:Int)-(1:Int)))).toNat) 0 false)) fun d=>
 Option.bind (A4 d.2) fun e=>
 Option.bind (A4 e.2) fun c=>
 Option.bind (A4 c.2) fun a=>
 cond (((d.1 !=1)||(decide (a.1<0)))||(decide (a.1>64))) (
  some ((B9.mk 0 0 []),13))<|
 A8f f e c a.1 a.2.L a.2.At a.2.Bi ([]:List C4)
def B5k (d:List C4) (a:List Int) (b:Int):Option (((List Int)×Int)⊕(List Int)):=
 cond (decide (b<(d.length:Int))) (
  Option.bind (E4 d b) fun c=>
  ck (decide ((a.length+ [c.ID].length)*8<=140737488355328))<|
  some (.inl ((a++ [c.ID]),(A3 (b+1)))))<|
 Option.map Sum.inr (some a)
def C3H (c:List C4) (a:List Int) (b:Int):Option (List Int):=
 loop (fun (s:((List Int)×Int))=>B5k c s.1 s.2) (a,b)
def B2G (a:List C4):Option (List Int):=
 C3H a ([]:List Int) 0
def A6l (e f:List C4) (a:Int):Option (Int⊕Bool):=
 cond (decide (a<(e.length:Int))) (
  Option.bind (E4 e a) fun c=>
  Option.bind (E4 f a) fun d=>
  Option.bind (A4f c.Ab d.Ab) fun b=>
  cond (!b) (
   some (.inr false))<|
  some (.inl (A3 (a+1))))<|
 Option.map Sum.inr (some true)
def B5l (b c:List C4) (a:Int):Option Bool:=
 loop (fun (s:Int)=>A6l b c s) a
def B0U (d e:List C4):Option Bool:=
 Option.bind (B2G d) fun a=>
 Option.bind (B2G e) fun b=>
 Option.bind (W2 a b) fun c=>
 cond (!c) (
  some false)<|
 B5l d e 0
def A1v (b c:B9):Option Bool:=
 Option.bind (gd ((b.Now==c.Now)&&(b.Ax==c.Ax)) (B0U b.Ag c.Ag)) fun a=>
 some (((b.Now==c.Now)&&(b.Ax==c.Ax))&&a)
def A2v (e:List Int) (d c a:Int):Option ((Int×Int)⊕(Int×Int×Bool)):=
 cond ((decide (a<10))&&(decide ((A3 (d+a))<(e.length:Int)))) (
  Option.bind (E4 e (A3 (d+a))) fun b=>
  cond ((a==9)&&(decide (b>1))) (
   some (.inr (0,0,false)))<|
  ck (decide (0<=(F3 (A3 (7*a)))))<|
  cond (decide (b>=128)) (
   some (.inl ((ior .u64 c (R5 .u64 (F3 (V9 .u8 b 127)) (F3 (A3 (7*a))))),(A3 (a+1)))))<|
  cond ((b==0)&&(decide (a>0))) (
   some (.inr (0,0,false)))<|
  cond ((V9 .u64 (ior .u64 c (R5 .u64 (F3 (V9 .u8 b 127)) (F3 (A3 (7*a))))) (1:Int))==(1:Int)) (
   some (.inr ((B1K .i64 (A3 (A0E .u64 (ior .u64 c (R5 .u64 (F3 (V9 .u8 b 127)) (F3 (A3 (7*a))))) 1))),(A3 ((A3 (d+a))+1)),true)))<|
  some (.inr ((A3 (A0E .u64 (ior .u64 c (R5 .u64 (F3 (V9 .u8 b 127)) (F3 (A3 (7*a))))) 1)),(A3 ((A3 (d+a))+1)),true)))<|
 Option.map Sum.inr (some (0,0,false))
def B14 (c:List Int) (d a b:Int):Option (Int×Int×Bool):=
 loop (fun (s:(Int×Int))=>A2v c d s.1 s.2) (a,b)
def A7G (b:List Int) (a:Int):Option (Int×Int×Bool):=
 cond ((decide (a<0))||(decide (a>(b.length:Int)))) (
  some (0,0,false))<|
 B14 b a 0 0
def B6 (d:List Int) (b:Int) (c:Bool) (e:Int):Option (Int×Bool×Int):=
 cond c (
  some (b,c,e))<|
 Option.bind (A7G d b) fun a=>
 cond (!a.2.2) (
  some (b,true,e))<|
 some (a.2.1,c,a.1)
def E6 (b:List Int) (c:Int) (d:Bool) (e:Int):Option (Int×Bool×Int):=
 Option.bind (B6 b c d e) fun a=>
 some (a.1,a.2.1,a.2.2)
def A3S (f:A9) (c:List Int) (d:Int) (e:Bool):Option (A9×Int×Bool):=
 Option.bind (B6 c d e f.T) fun a=>
 Option.bind (E6 c a.1 a.2.1 f.Aw) fun b=>
 some ((A9.mk a.2.2 b.2.2),b.1,b.2.1)
def H9 (f g:Int) (b:List Int) (c:Int) (d:Bool) (e:Int):Option (Int×Bool×Int):=
 Option.bind (B6 b c d e) fun a=>
 cond ((decide (a.2.2<f))||(decide (a.2.2>g))) (
  some (a.1,true,a.2.2))<|
 some (a.1,a.2.1,a.2.2)
def V7 (f:List Int) (e:Int) (a:Bool) (b:List A9) (c:Int):Option ((Int×Bool×(List A9)×Int)⊕(Int×Bool×(List A9))):=
 cond ((decide (c>0))&&(!a)) (
  Option.bind (A3S (A9.mk 0 0) f e a) fun d=>
  ck (decide ((b.length+ [d.1].length)*16<=140737488355328))<|
  some (.inl (d.2.1,d.2.2,(b++ [d.1]),(A3 (c-1)))))<|
 Option.map Sum.inr (some (e,a,b))
def A9A (e:List Int) (b:Int) (c:Bool) (d:List A9) (a:Int):Option (Int×Bool×(List A9)):=
 loop (fun (s:(Int×Bool×(List A9)×Int))=>V7 e s.1 s.2.1 s.2.2.1 s.2.2.2) (b,c,d,a)
def A5G (b:List Int) (c:Int) (d:Bool) (e:List A9):Option (Int×Bool×(List A9)):=
 Option.bind (H9 0 (A3 ((b.length:Int)-c)) b c d (e.length:Int)) fun a=>
 A9A b a.1 a.2.1 ([]:List A9) a.2.2
def A0s (b:List Int) (c:Int) (d:Bool) (e:List A9):Option (Int×Bool×(List A9)):=
 Option.bind (A5G b c d e) fun a=>
 some (a.1,a.2.1,a.2.2)
def A4T (f:D7) (c:List Int) (d:Int) (e:Bool):Option (D7×Int×Bool):=
 Option.bind (B6 c d e f.T) fun a=>
 Option.bind (B6 c a.1 a.2.1 f.V) fun b=>
 some ((D7.mk a.2.2 b.2.2),b.1,b.2.1)
def X7 (f:List Int) (e:Int) (a:Bool) (b:List D7) (c:Int):Option ((Int×Bool×(List D7)×Int)⊕(Int×Bool×(List D7))):=
 cond ((decide (c>0))&&(!a)) (
  Option.bind (A4T (D7.mk 0 0) f e a) fun d=>
  ck (decide ((b.length+ [d.1].length)*16<=140737488355328))<|
  some (.inl (d.2.1,d.2.2,(b++ [d.1]),(A3 (c-1)))))<|
 Option.map Sum.inr (some (e,a,b))
def B01 (e:List Int) (b:Int) (c:Bool) (d:List D7) (a:Int):Option (Int×Bool×(List D7)):=
 loop (fun (s:(Int×Bool×(List D7)×Int))=>X7 e s.1 s.2.1 s.2.2.1 s.2.2.2) (b,c,d,a)
def A6U (b:List Int) (c:Int) (d:Bool) (e:List D7):Option (Int×Bool×(List D7)):=
 Option.bind (H9 0 (A3 ((b.length:Int)-c)) b c d (e.length:Int)) fun a=>
 B01 b a.1 a.2.1 ([]:List D7) a.2.2
def A1m (b:List Int) (c:Int) (d:Bool) (e:List D7):Option (Int×Bool×(List D7)):=
 Option.bind (A6U b c d e) fun a=>
 some (a.1,a.2.1,a.2.2)
def A4V (i:D0) (h:List Int) (j:Int) (k:Bool):Option (D0×Int×Bool):=
 Option.bind (B6 h j k i.Bl) fun a=>
 Option.bind (B6 h a.1 a.2.1 i.T) fun b=>
 Option.bind (B6 h b.1 b.2.1 i.N) fun c=>
 Option.bind (B6 h c.1 c.2.1 i.S) fun d=>
 Option.bind (B6 h d.1 d.2.1 i.Q) fun e=>
 Option.bind (B6 h e.1 e.2.1 i.Bk) fun f=>
 Option.bind (B6 h f.1 f.2.1 i.Bj) fun g=>
 some ((D0.mk a.2.2 b.2.2 c.2.2 d.2.2 e.2.2 f.2.2 g.2.2),g.1,g.2.1)
def X9 (f:List Int) (e:Int) (a:Bool) (b:List D0) (c:Int):Option ((Int×Bool×(List D0)×Int)⊕(Int×Bool×(List D0))):=
 cond ((decide (c>0))&&(!a)) (
  Option.bind (A4V (D0.mk 0 0 0 0 0 0 0) f e a) fun d=>
  ck (decide ((b.length+ [d.1].length)*56<=140737488355328))<|
  some (.inl (d.2.1,d.2.2,(b++ [d.1]),(A3 (c-1)))))<|
 Option.map Sum.inr (some (e,a,b))
def B05 (e:List Int) (b:Int) (c:Bool) (d:List D0) (a:Int):Option (Int×Bool×(List D0)):=
 loop (fun (s:(Int×Bool×(List D0)×Int))=>X9 e s.1 s.2.1 s.2.2.1 s.2.2.2) (b,c,d,a)
def A6W (b:List Int) (c:Int) (d:Bool) (e:List D0):Option (Int×Bool×(List D0)):=
 Option.bind (H9 0 (A3 ((b.length:Int)-c)) b c d (e.length:Int)) fun a=>
 B05 b a.1 a.2.1 ([]:List D0) a.2.2
def A1n (b:List Int) (c:Int) (d:Bool) (e:List D0):Option (Int×Bool×(List D0)):=
 Option.bind (A6W b c d e) fun a=>
 some (a.1,a.2.1,a.2.2)
def A4P (e:F6) (d:List Int) (f:Int) (g:Bool):Option (F6×Int×Bool):=
 Option.bind (B6 d f g e.V) fun a=>
 Option.bind (B6 d a.1 a.2.1 e.Bk) fun b=>
 Option.bind (B6 d b.1 b.2.1 e.Bj) fun c=>
 some ((F6.mk a.2.2 b.2.2 c.2.2),c.1,c.2.1)
def W7 (f:List Int) (e:Int) (a:Bool) (b:List F6) (c:Int):Option ((Int×Bool×(List F6)×Int)⊕(Int×Bool×(List F6))):=
 cond ((decide (c>0))&&(!a)) (
  Option.bind (A4P (F6.mk 0 0 0) f e a) fun d=>
  ck (decide ((b.length+ [d.1].length)*24<=140737488355328))<|
  some (.inl (d.2.1,d.2.2,(b++ [d.1]),(A3 (c-1)))))<|
 Option.map Sum.inr (some (e,a,b))
def A93 (e:List Int) (b:Int) (c:Bool) (d:List F6) (a:Int):Option (Int×Bool×(List F6)):=
 loop (fun (s:(Int×Bool×(List F6)×Int))=>W7 e s.1 s.2.1 s.2.2.1 s.2.2.2) (b,c,d,a)
def A0m (b:List Int) (c:Int) (d:Bool):Option (Int×Bool×(List F6)):=
 Option.bind (H9 0 (A3 ((b.length:Int)-c)) b c d 0) fun a=>
 A93 b a.1 a.2.1 ([]:List F6) a.2.2
def A6C (f:List Int) (g:Int) (h:Bool) (i j k l:Int):Option (Int×Bool×Int×Int×Int×Int×(List F6)):=
 Option.bind (B6 f g h i) fun a=>
 Option.bind (B6 f a.1 a.2.1 j) fun b=>
 Option.bind (E6 f b.1 b.2.1 k) fun c=>
 Option.bind (B6 f c.1 c.2.1 l) fun d=>
 Option.bind (A0m f d.1 d.2.1) fun e=>
 some (e.1,e.2.1,a.2.2,b.2.2,c.2.2,d.2.2,e.2.2)
def A41 (b c d e:Int) (f:List Int) (g:Int) (h:Bool):Option (Int×Int×Int×Int×Int×Bool×(List F6)):=
 Option.bind (A6C f g h b c d e) fun a=>
 some (a.2.2.1,a.2.2.2.1,a.2.2.2.2.1,a.2.2.2.2.2.1,a.1,a.2.1,a.2.2.2.2.2.2)
def W5 (f:List Int) (e:Int) (b:Bool) (c:List D1) (d:Int):Option ((Int×Bool×(List D1)×Int)⊕(Int×Bool×(List D1))):=
 cond ((decide (d>0))&&(!b)) (
  Option.bind (A41 0 0 0 0 f e b) fun a=>
  ck (decide ((c.length+ [(D1.mk a.1 a.2.1 a.2.2.1 (H5.mk a.2.2.2.1 a.2.2.2.2.2.2))].length)*56<=140737488355328))<|
  some (.inl (a.2.2.2.2.1,a.2.2.2.2.2.1,(c++ [(D1.mk a.1 a.2.1 a.2.2.1 (H5.mk a.2.2.2.1 a.2.2.2.2.2.2))]),(A3 (d-1)))))<|
 Option.map Sum.inr (some (e,b,c))
def A9Z (e:List Int) (b:Int) (c:Bool) (d:List D1) (a:Int):Option (Int×Bool×(List D1)):=
 loop (fun (s:(Int×Bool×(List D1)×Int))=>W5 e s.1 s.2.1 s.2.2.1 s.2.2.2) (b,c,d,a)
def A2f (b:List Int) (c:Int) (d:Bool) (e:List D1):Option (Int×Bool×(List D1)):=
 Option.bind (H9 0 (A3 ((b.length:Int)-c)) b c d (e.length:Int)) fun a=>
 A9Z b a.1 a.2.1 ([]:List D1) a.2.2
def A4R (f:H4) (c:List Int) (d:Int) (e:Bool):Option (H4×Int×Bool):=
 Option.bind (B6 c d e f.I) fun a=>
 Option.bind (B6 c a.1 a.2.1 f.V) fun b=>
 some ((H4.mk a.2.2 b.2.2),b.1,b.2.1)
def X8 (f:List Int) (e:Int) (a:Bool) (b:List H4) (c:Int):Option ((Int×Bool×(List H4)×Int)⊕(Int×Bool×(List H4))):=
 cond ((decide (c>0))&&(!a)) (
  Option.bind (A4R (H4.mk 0 0) f e a) fun d=>
  ck (decide ((b.length+ [d.1].length)*16<=140737488355328))<|
  some (.inl (d.2.1,d.2.2,(b++ [d.1]),(A3 (c-1)))))<|
 Option.map Sum.inr (some (e,a,b))
def B03 (e:List Int) (b:Int) (c:Bool) (d:List H4) (a:Int):Option (Int×Bool×(List H4)):=
 loop (fun (s:(Int×Bool×(List H4)×Int))=>X8 e s.1 s.2.1 s.2.2.1 s.2.2.2) (b,c,d,a)
def A0C (b:List Int) (c:Int) (d:Bool):Option (Int×Bool×(List H4)):=
 Option.bind (H9 0 (A3 ((b.length:Int)-c)) b c d 0) fun a=>
 B03 b a.1 a.2.1 ([]:List H4) a.2.2
def A6D (f:List Int) (g:Int) (h:Bool) (i j k l:Int):Option (Int×Bool×Int×Int×Int×Int×(List H4)):=
 Option.bind (B6 f g h i) fun a=>
 Option.bind (E6 f a.1 a.2.1 j) fun b=>
 Option.bind (B6 f b.1 b.2.1 k) fun c=>
 Option.bind (B6 f c.1 c.2.1 l) fun d=>
 Option.bind (A0C f d.1 d.2.1) fun e=>
 some (e.1,e.2.1,a.2.2,b.2.2,c.2.2,d.2.2,e.2.2)
def A4X (b c d e:Int) (f:List Int) (g:Int) (h:Bool):Option (Int×Int×Int×Int×Int×Bool×(List H4)):=
 Option.bind (A6D f g h b c d e) fun a=>
 some (a.2.2.1,a.2.2.2.1,a.2.2.2.2.1,a.2.2.2.2.2.1,a.1,a.2.1,a.2.2.2.2.2.2)
def W6 (f:List Int) (e:Int) (b:Bool) (c:List C8) (d:Int):Option ((Int×Bool×(List C8)×Int)⊕(Int×Bool×(List C8))):=
 cond ((decide (d>0))&&(!b)) (
  Option.bind (A4X 0 0 0 0 f e b) fun a=>
  ck (decide ((c.length+ [(C8.mk a.1 a.2.1 a.2.2.1 a.2.2.2.1 a.2.2.2.2.2.2)].length)*56<=140737488355328))<|
  some (.inl (a.2.2.2.2.1,a.2.2.2.2.2.1,(c++ [(C8.mk a.1 a.2.1 a.2.2.1 a.2.2.2.1 a.2.2.2.2.2.2)]),(A3 (d-1)))))<|
 Option.map Sum.inr (some (e,b,c))
def A91 (e:List Int) (b:Int) (c:Bool) (d:List C8) (a:Int):Option (Int×Bool×(List C8)):=
 loop (fun (s:(Int×Bool×(List C8)×Int))=>W6 e s.1 s.2.1 s.2.2.1 s.2.2.2) (b,c,d,a)
def A2h (b:List Int) (c:Int) (d:Bool) (e:List C8):Option (Int×Bool×(List C8)):=
 Option.bind (H9 0 (A3 ((b.length:Int)-c)) b c d (e.length:Int)) fun a=>
 A91 b a.1 a.2.1 ([]:List C8) a.2.2
def A4Z (e:E3) (d:List Int) (f:Int) (g:Bool):Option (E3×Int×Bool):=
 Option.bind (B6 d f g e.V) fun a=>
 Option.bind (B6 d a.1 a.2.1 e.G) fun b=>
 Option.bind (B6 d b.1 b.2.1 e.D) fun c=>
 some ((E3.mk a.2.2 b.2.2 c.2.2),c.1,c.2.1)
def W8 (f:List Int) (e:Int) (a:Bool) (b:List E3) (c:Int):Option ((Int×Bool×(List E3)×Int)⊕(Int×Bool×(List E3))):=
 cond ((decide (c>0))&&(!a)) (
  Option.bind (A4Z (E3.mk 0 0 0) f e a) fun d=>
  ck (decide ((b.length+ [d.1].length)*24<=140737488355328))<|
  some (.inl (d.2.1,d.2.2,(b++ [d.1]),(A3 (c-1)))))<|
 Option.map Sum.inr (some (e,a,b))
def A98 (e:List Int) (b:Int) (c:Bool) (d:List E3) (a:Int):Option (Int×Bool×(List E3)):=
 loop (fun (s:(Int×Bool×(List E3)×Int))=>W8 e s.1 s.2.1 s.2.2.1 s.2.2.2) (b,c,d,a)
def A2k (b:List Int) (c:Int) (d:Bool) (e:List E3):Option (Int×Bool×(List E3)):=
 Option.bind (H9 0 (A3 ((b.length:Int)-c)) b c d (e.length:Int)) fun a=>
 A98 b a.1 a.2.1 ([]:List E3) a.2.2
def A3q (b:List Int) (c:Int) (d:Bool) (e:Int):Option (Int×Bool×Int):=
 Option.bind (B6 b c d (A3 e)) fun a=>
 some (a.1,a.2.1,(F3 a.2.2))
def A3p (c:List Int) (d:Int) (e:Bool) (f:C7):Option (Int×Bool×C7):=
 Option.bind (A3q c d e f.Hi) fun a=>
 Option.bind (A3q c a.1 a.2.1 f.Lo) fun b=>
 some (b.1,b.2.1,(C7.mk a.2.2 b.2.2))
def A1g (f:List Int) (e:Int) (a:Bool) (b:List C7) (c:Int):Option ((Int×Bool×(List C7)×Int)⊕(Int×Bool×(List C7))):=
 cond ((decide (c>0))&&(!a)) (
  Option.bind (A3p f e a (C7.mk 0 0)) fun d=>
  ck (decide ((b.length+ [d.2.2].length)*16<=140737488355328))<|
  some (.inl (d.1,d.2.1,(b++ [d.2.2]),(A3 (c-1)))))<|
 Option.map Sum.inr (some (e,a,b))
def B07 (e:List Int) (b:Int) (c:Bool) (d:List C7) (a:Int):Option (Int×Bool×(List C7)):=
 loop (fun (s:(Int×Bool×(List C7)×Int))=>A1g e s.1 s.2.1 s.2.2.1 s.2.2.2) (b,c,d,a)
def A29 (b:List Int) (c:Int) (d:Bool) (e:List C7):Option (Int×Bool×(List C7)):=
 Option.bind (H9 0 (A3 ((b.length:Int)-c)) b c d (e.length:Int)) fun a=>
 B07 b a.1 a.2.1 ([]:List C7) a.2.2
def A4n (c:List Int) (d:Int) (e:Bool) (a:Int):Option (Int×Bool×Bool):=
 Option.bind (H9 0 1 c d e a) fun b=>
 some (b.1,b.2.1,(b.2.2==1))
def B0x (a:List Int) (b:Int) (c d:Bool):Option (Int×Bool×Bool):=
 cond d (
  A4n a b c 1)<|
 A4n a b c 0
def A2l (f:List Int) (e:Int) (a:Bool) (b:List Int) (c:Int):Option ((Int×Bool×(List Int)×Int)⊕(Int×Bool×(List Int))):=
 cond ((decide (c>0))&&(!a)) (
  Option.bind (B6 f e a 0) fun d=>
  ck (decide ((b.length+ [d.2.2].length)*8<=140737488355328))<|
  some (.inl (d.1,d.2.1,(b++ [d.2.2]),(A3 (c-1)))))<|
 Option.map Sum.inr (some (e,a,b))
def B27 (e:List Int) (b:Int) (c:Bool) (d:List Int) (a:Int):Option (Int×Bool×(List Int)):=
 loop (fun (s:(Int×Bool×(List Int)×Int))=>A2l e s.1 s.2.1 s.2.2.1 s.2.2.2) (b,c,d,a)
def A8G (b:List Int) (c:Int) (d:Bool) (e:List Int):Option (Int×Bool×(List Int)):=
 Option.bind (H9 0 (A3 ((b.length:Int)-c)) b c d (e.length:Int)) fun a=>
 B27 b a.1 a.2.1 ([]:List Int) a.2.2
def A3o (b:List Int) (c:Int) (d:Bool) (e:List Int):Option (Int×Bool×(List Int)):=
 Option.bind (A8G b c d e) fun a=>
 some (a.1,a.2.1,a.2.2)
def J0 (b0_0:List Int) (b0_1:Int) (b0_3:Bool) (b1:B0):Option (Int×Bool×B0):=
 cond (b1.Ak.Bb==1) (
  Option.bind (B6 b0_0 b0_1 b0_3 b1.Al.W) fun X=>
  Option.bind (E6 b0_0 X.1 X.2.1 b1.Al.Cap) fun Y=>
  Option.bind (B6 b0_0 Y.1 Y.2.1 b1.Al.Now) fun Z=>
  Option.bind (A1m b0_0 Z.1 Z.2.1 b1.Al.Av) fun a0=>
  some (a0.1,a0.2.1,(B0.mk b1.Ak (E9.mk X.2.2 Y.2.2 Z.2.2 a0.2.2) b1.Ar b1.Sum b1.Ao b1.Ap b1.Bf b1.Au b1.Ae b1.Am b1.Ah b1.Aa)))<|
 cond (b1.Ak.Bb==2) (
  Option.bind (B6 b0_0 b0_1 b0_3 b1.Ar.W) fun a=>
  Option.bind (E6 b0_0 a.1 a.2.1 b1.Ar.K) fun b=>
  Option.bind (E6 b0_0 b.1 b.2.1 b1.Ar.Cap) fun c=>
  Option.bind (B6 b0_0 c.1 c.2.1 b1.Ar.Now) fun d=>
  Option.bind (A0s b0_0 d.1 d.2.1 b1.Ar.Ac) fun e=>
  some (e.1,e.2.1,(B0.mk b1.Ak b1.Al (G1.mk a.2.2 b.2.2 c.2.2 d.2.2 e.2.2) b1.Sum b1.Ao b1.Ap b1.Bf b1.Au b1.Ae b1.Am b1.Ah b1.Aa)))<|
 cond (b1.Ak.Bb==3) (
  Option.bind (B6 b0_0 b0_1 b0_3 b1.Sum.W) fun f=>
  Option.bind (E6 b0_0 f.1 f.2.1 b1.Sum.K) fun g=>
  Option.bind (E6 b0_0 g.1 g.2.1 b1.Sum.Cap) fun h=>
  Option.bind (E6 b0_0 h.1 h.2.1 b1.Sum.Bj) fun i=>
  Option.bind (B6 b0_0 i.1 i.2.1 b1.Sum.Now) fun j=>
  Option.bind (A0s b0_0 j.1 j.2.1 b1.Sum.Ac) fun k=>
  some (k.1,k.2.1,(B0.mk b1.Ak b1.Al b1.Ar (I0.mk f.2.2 g.2.2 h.2.2 i.2.2 j.2.2 k.2.2) b1.Ao b1.Ap b1.Bf b1.Au b1.Ae b1.Am b1.Ah b1.Aa)))<|
 cond (b1.Ak.Bb==4) (
  Option.bind (E6 b0_0 b0_1 b0_3 b1.Ao.Bh) fun l=>
  Option.bind (B6 b0_0 l.1 l.2.1 b1.Ao.W) fun m=>
  Option.bind (E6 b0_0 m.1 m.2.1 b1.Ao.K) fun n=>
  Option.bind (E6 b0_0 n.1 n.2.1 b1.Ao.Cap) fun o=>
  Option.bind (B6 b0_0 o.1 o.2.1 b1.Ao.Now) fun p=>
  Option.bind (B6 b0_0 p.1 p.2.1 b1.Ao.Bl) fun q=>
  Option.bind (A1n b0_0 q.1 q.2.1 b1.Ao.Az) fun r=>
  some (r.1,r.2.1,(B0.mk b1.Ak b1.Al b1.Ar b1.Sum (F0.mk l.2.2 m.2.2 n.2.2 o.2.2 p.2.2 q.2.2 r.2.2) b1.Ap b1.Bf b1.Au b1.Ae b1.Am b1.Ah b1.Aa)))<|
 cond (b1.Ak.Bb==5) (
  Option.bind (B6 b0_0 b0_1 b0_3 b1.Ap.W) fun s=>
  Option.bind (E6 b0_0 s.1 s.2.1 b1.Ap.K) fun t=>
  Option.bind (E6 b0_0 t.1 t.2.1 b1.Ap.Cap) fun u=>
  Option.bind (B6 b0_0 u.1 u.2.1 b1.Ap.Now) fun v=>
  Option.bind (B6 b0_0 v.1 v.2.1 b1.Ap.Bl) fun w=>
  Option.bind (A1n b0_0 w.1 w.2.1 b1.Ap.Az) fun x=>
  some (x.1,x.2.1,(B0.mk b1.Ak b1.Al b1.Ar b1.Sum b1.Ao (F1.mk s.2.2 t.2.2 u.2.2 v.2.2 w.2.2 x.2.2) b1.Bf b1.Au b1.Ae b1.Am b1.Ah b1.Aa)))<|
 cond (b1.Ak.Bb==6) (
  Option.bind (E6 b0_0 b0_1 b0_3 b1.Bf.P) fun y=>
  Option.bind (B6 b0_0 y.1 y.2.1 b1.Bf.Bc) fun z=>
  Option.bind (B6 b0_0 z.1 z.2.1 b1.Bf.Now) fun A=>
  Option.bind (A29 b0_0 A.1 A.2.1 b1.Bf.Af) fun B=>
  some (B.1,B.2.1,(B0.mk b1.Ak b1.Al b1.Ar b1.Sum b1.Ao b1.Ap (G2.mk y.2.2 z.2.2 A.2.2 B.2.2) b1.Au b1.Ae b1.Am b1.Ah b1.Aa)))<|
 cond (b1.Ak.Bb==7) (
  Option.bind (B6 b0_0 b0_1 b0_3 b1.Au.Now) fun C=>
  Option.bind (A3o b0_0 C.1 C.2.1 b1.Au.Bg) fun D=>
  some (D.1,D.2.1,(B0.mk b1.Ak b1.Al b1.Ar b1.Sum b1.Ao b1.Ap b1.Bf (J7.mk C.2.2 D.2.2) b1.Ae b1.Am b1.Ah b1.Aa)))<|
 cond (b1.Ak.Bb==8) (
  Option.bind (B0x b0_0 b0_1 b0_3 b1.Ae.Bj) fun E=>
  Option.bind (B6 b0_0 E.1 E.2.1 b1.Ae.W) fun F=>
  Option.bind (E6 b0_0 F.1 F.2.1 b1.Ae.Cap) fun G=>
  Option.bind (B6 b0_0 G.1 G.2.1 b1.Ae.Now) fun H=>
  Option.bind (A1m b0_0 H.1 H.2.1 b1.Ae.Av) fun I=>
  some (I.1,I.2.1,(B0.mk b1.Ak b1.Al b1.Ar b1.Sum b1.Ao b1.Ap b1.Bf b1.Au (E5.mk E.2.2 F.2.2 G.2.2 H.2.2 I.2.2) b1.Am b1.Ah b1.Aa)))<|
 cond (b1.Ak.Bb==9) (
  Option.bind (A2h b0_0 b0_1 b0_3 b1.Am.Aj) fun J=>
  some (J.1,J.2.1,(B0.mk b1.Ak b1.Al b1.Ar b1.Sum b1.Ao b1.Ap b1.Bf b1.Au b1.Ae (I2.mk J.2.2) b1.Ah b1.Aa)))<|
 cond (b1.Ak.Bb==10) (
  Option.bind (E6 b0_0 b0_1 b0_3 b1.Ah.K) fun L=>
  Option.bind (E6 b0_0 L.1 L.2.1 b1.Ah.Cap) fun M=>
  Option.bind (B6 b0_0 M.1 M.2.1 b1.Ah.N) fun O=>
  Option.bind (A2k b0_0 O.1 O.2.1 b1.Ah.Aq) fun Q=>
  some (Q.1,Q.2.1,(B0.mk b1.Ak b1.Al b1.Ar b1.Sum b1.Ao b1.Ap b1.Bf b1.Au b1.Ae b1.Am (D8.mk L.2.2 M.2.2 O.2.2 Q.2.2) b1.Aa)))<|
 cond (b1.Ak.Bb==11) (
  Option.bind (B6 b0_0 b0_1 b0_3 b1.Aa.W) fun R=>
  Option.bind (E6 b0_0 R.1 R.2.1 b1.Aa.K) fun S=>
  Option.bind (E6 b0_0 S.1 S.2.1 b1.Aa.Cap) fun T=>
  Option.bind (B6 b0_0 T.1 T.2.1 b1.Aa.Now) fun U=>
  Option.bind (A2f b0_0 U.1 U.2.1 b1.Aa.Ai) fun V=>
  some (V.1,V.2.1,(B0.mk b1.Ak b1.Al b1.Ar b1.Sum b1.Ao b1.Ap b1.Bf b1.Au b1.Ae b1.Am b1.Ah (E2.mk R.2.2 S.2.2 T.2.2 U.2.2 V.2.2))))<|
 some (b0_1,true,(B0.mk b1.Ak b1.Al b1.Ar b1.Sum b1.Ao b1.Ap b1.Bf b1.Au b1.Ae b1.Am b1.Ah b1.Aa))
def A17 (i:List Int) (k:Int) (l:Bool) (j:E1):Option (Int×Bool×E1):=
 Option.bind (E6 i k l j.Bb) fun a=>
 Option.bind (E6 i a.1 a.2.1 j.Bh) fun b=>
 Option.bind (B6 i b.1 b.2.1 j.W) fun c=>
 Option.bind (E6 i c.1 c.2.1 j.K) fun d=>
 Option.bind (E6 i d.1 d.2.1 j.Cap) fun e=>
 Option.bind (E6 i e.1 e.2.1 j.P) fun f=>
 Option.bind (E6 i f.1 f.2.1 j.Aj) fun g=>
 Option.bind (B6 i g.1 g.2.1 j.Bj) fun h=>
 some (h.1,h.2.1,(E1.mk a.2.2 b.2.2 c.2.2 d.2.2 e.2.2 f.2.2 g.2.2 h.2.2))
def B16 (c:List Int) (b d:Int):Option (Int×Bool×Int):=
 Option.bind (A7G c b) fun a=>
 cond (!a.2.2) (
  some (b,true,d))<|
 some (a.2.1,false,a.1)
def A42 (e f:Int) (b:List Int) (c d:Int):Option (Int×Bool×Int):=
 Option.bind (B16 b c d) fun a=>
 cond ((decide (a.2.2<e))||(decide (a.2.2>f))) (
  some (a.1,true,a.2.2))<|
 some (a.1,a.2.1,a.2.2)
def Y9 (n:List Int) (h i:Int×Bool×Int) (c:List C4) (a f:Int) (e:Bool):Option (((List C4)×Int×Int×Bool)⊕(Int×Bool×Int×Int×(List C4))):=
 cond ((decide (a<(c.length:Int)))&&(!e)) (
  Option.bind (E4 c a) fun j=>
  Option.bind (E4 c a) fun l=>
  Option.bind (B6 n f e l.ID) fun d=>
  Option.bind (E4 (c.set (a).toNat (C4.mk d.2.2 l.Ab)) a) fun k=>
  Option.bind (A17 n d.1 d.2.1 k.Ab.Ak) fun b=>
  cond (!b.2.1) (
   Option.bind (E4 ((c.set (a).toNat (C4.mk d.2.2 l.Ab)).set (a).toNat (C4.mk k.ID (B0.mk b.2.2 k.Ab.Al k.Ab.Ar k.Ab.Sum k.Ab.Ao k.Ab.Ap k.Ab.Bf k.Ab.Au k.Ab.Ae k.Ab.Am k.Ab.Ah k.Ab.Aa))) a) fun m=>
   Option.bind (J0 n b.1 b.2.1 m.Ab) fun g=>
   some (.inl ((((c.set (a).toNat (C4.mk d.2.2 l.Ab)).set (a).toNat (C4.mk k.ID (B0.mk b.2.2 k.Ab.Al k.Ab.Ar k.Ab.Sum k.Ab.Ao k.Ab.Ap k.Ab.Bf k.Ab.Au k.Ab.Ae k.Ab.Am k.Ab.Ah k.Ab.Aa))).set (a).toNat (C4.mk m.ID g.2.2)),(A3 (a+1)),g.1,g.2.1)))<|
  some (.inl (((c.set (a).toNat (C4.mk d.2.2 l.Ab)).set (a).toNat (C4.mk k.ID (B0.mk b.2.2 k.Ab.Al k.Ab.Ar k.Ab.Sum k.Ab.Ao k.Ab.Ap k.Ab.Bf k.Ab.Au k.Ab.Ae k.Ab.Am k.Ab.Ah k.Ab.Aa))),(A3 (a+1)),b.1,b.2.1)))<|
 Option.map Sum.inr (some (f,e,h.2.2,i.2.2,c))
def N8 (g:List Int) (c d:Int×Bool×Int) (e:List C4) (f a:Int) (b:Bool):Option (Int×Bool×Int×Int×(List C4)):=
 loop (fun (s:((List C4)×Int×Int×Bool))=>Y9 g c d s.1 s.2.1 s.2.2.1 s.2.2.2) (e,f,a,b)
def A3m (e:List Int) (f g h:Int):Option (Int×Bool×Int×Int×(List C4)):=
 Option.bind (A42 1 1 e f 1) fun d=>
 Option.bind (B6 e d.1 d.2.1 g) fun b=>
 Option.bind (E6 e b.1 b.2.1 h) fun c=>
 Option.bind (H9 0 64 e c.1 c.2.1 0) fun a=>
 cond a.2.1 (
  some (a.1,a.2.1,b.2.2,c.2.2,[]))<|
 ck (decide (0<=a.2.2/\a.2.2<=a.2.2/\a.2.2*640<=140737488355328/\a.2.2<=140737488355328))<|
 N8 e b c (laid (List.replicate (a.2.2).toNat (C4.mk 0 (B0.mk (E1.mk 0 0 0 0 0 0 0 0) (E9.mk 0 0 0 []) (G1.mk 0 0 0 0 []) (I0.mk 0 0 0 0 0 []) (F0.mk 0 0 0 0 0 0 []) (F1.mk 0 0 0 0 0 []) (G2.mk 0 0 0 []) (J7.mk 0 []) (E5.mk false 0 0 0 []) (I2.mk []) (D8.mk 0 0 0 []) (E2.mk 0 0 0 0 [])))) 0 (([]:List C4).take (List.replicate (a.2.2).toNat (C4.mk 0 (B0.mk (E1.mk 0 0 0 0 0 0 0 0) (E9.mk 0 0 0 []) (G1.mk 0 0 0 0 []) (I0.mk 0 0 0 0 0 []) (F0.mk 0 0 0 0 0 0 []) (F1.mk 0 0 0 0 0 []) (G2.mk 0 0 0 []) (J7.mk 0 []) (E5.mk false 0 0 0 []) (I2.mk []) (D8.mk 0 0 0 []) (E2.mk 0 0 0 0 [])))).length)) 0 a.1 a.2.1
def S3 (e:List Int):Option (B9×Int):=
 cond (decide ((e.length:Int)>(1048576:Int))) (
  some ((B9.mk 0 0 []),13))<|
 Option.bind (A3m e 0 0 0) fun a=>
 cond a.2.1 (
  some ((B9.mk 0 0 []),13))<|
 Option.bind (A7G e a.1) fun b=>
 ck (!(!((!b.2.2)||(b.2.1 !=(e.length:Int))))||(decide (0<=a.1/\a.1<=(e.length:Int))))<|
 Option.bind (gd (!((!b.2.2)||(b.2.1 !=(e.length:Int)))) (B2v (e.take (a.1).toNat))) fun d=>
 cond (((!b.2.2)||(b.2.1 !=(e.length:Int)))||(b.1 !=d)) (
  some ((B9.mk 0 0 []),13))<|
 Option.bind (A0f (B9.mk a.2.2.1 a.2.2.2.1 a.2.2.2.2)) fun c=>
 cond (c !=0) (
  some ((B9.mk 0 0 []),c))<|
 some ((B9.mk a.2.2.1 a.2.2.2.1 a.2.2.2.2),0)
def A3A (n:B9) (o p:Int):Option Bool:=
 Option.bind (A7A n) fun g=>
 Option.bind (gd (!(!g)) (V3 n)) fun j=>
 cond ((!g)||(j !=0)) (
  Option.bind Q4 fun k=>
  some k)<|
 Option.bind (A9X n) fun b=>
 Option.bind (A8P o (b.length:Int)) fun d=>
 Option.bind (E4 b d) fun l=>
 Option.bind (E4 b d) fun m=>
 Option.bind (V0 (b.set (d).toNat p)) fun h=>
 Option.bind (S3 h) fun a=>
 Option.bind (A1S h) fun c=>
 Option.bind (A1v a.1 c.1) fun e=>
 Option.bind (gd ((e&&(a.2==c.2))&&(!(a.2 !=0))) (V3 a.1)) fun f=>
 Option.bind (gd ((e&&(a.2==c.2))&&((a.2 !=0)||(f==0))) Q4) fun i=>
 some (((e&&(a.2==c.2))&&((a.2 !=0)||(f==0)))&&i)
def A6n (f:B9) (b:List Int) (c:Int):Option (((List Int)×Int)⊕(List Int)):=
 cond (decide (c<(f.Ag.length:Int))) (
  Option.bind (E4 f.Ag c) fun a=>
  ck (decide ((b.length+ [a.ID].length)*8<=140737488355328))<|
  let d:=(A0L a.Ab.Ak);
  ck (decide (((b++ [a.ID]).length+d.length)*8<=140737488355328))<|
  Option.bind (A6S a.Ab) fun e=>
  ck (decide ((((b++ [a.ID])++d).length+e.length)*8<=140737488355328))<|
  some (.inl ((((b++ [a.ID])++d)++e),(A3 (c+1)))))<|
 Option.map Sum.inr (some b)
def B5m (c:B9) (b:List Int) (a:Int):Option (List Int):=
 loop (fun (s:((List Int)×Int))=>A6n c s.1 s.2) (b,a)
def A6m (a:B9):Option (List Int):=
 B5m a [1,a.Now,a.Ax,(a.Ag.length:Int)] 0
def P2 (f c:List Int):Option Bool:=
 Option.bind (S3 c) fun a=>
 Option.bind (Q0 f c) fun b=>
 Option.bind (gd ((!b)&&(a.2 !=0)) (A1v a.1 (B9.mk 0 0 []))) fun d=>
 Option.bind (gd (b||((a.2 !=0)&&d)) Q4) fun e=>
 some ((b||((a.2 !=0)&&d))&&e)
def A3B (j:B9) (l k m:Int):Option Bool:=
 Option.bind (A7A j) fun d=>
 Option.bind (gd (!(!d)) (V3 j)) fun e=>
 cond ((!d)||(e !=0)) (
  Option.bind Q4 fun f=>
  some f)<|
 Option.bind (A6m j) fun g=>
 Option.bind (V0 g) fun a=>
 Option.bind (A8P l (a.length:Int)) fun b=>
 ck (decide ((([]:List Int).length+a.length)*1<=140737488355328))<|
 Option.bind (A8P m 3) fun c=>
 cond (c==0) (
  Option.bind (E4 (([]:List Int)++a) b) fun h=>
  Option.bind (E4 (([]:List Int)++a) b) fun i=>
  P2 a ((([]:List Int)++a).set (b).toNat k))<|
 cond (c==1) (
  ck (decide (0<=b/\b<=((([]:List Int)++a).length:Int)))<|
  P2 a ((([]:List Int)++a).take (b).toNat))<|
 cond (c==2) (
  ck (decide (((([]:List Int)++a).length+ [k].length)*1<=140737488355328))<|
  P2 a ((([]:List Int)++a)++ [k]))<|
 P2 a (([]:List Int)++a)
def A3C (f:List Int):Option Bool:=
 cond (decide ((f.length:Int)>(3000:Int))) (
  Option.bind Q4 fun d=>
  some d)<|
 Option.bind (S3 f) fun a=>
 Option.bind (A1S f) fun b=>
 Option.bind (A1v a.1 b.1) fun c=>
 Option.bind (gd (c&&(a.2==b.2)) Q4) fun e=>
 some ((c&&(a.2==b.2))&&e)
def A3P (d:B9):Option ((List Int)×Int):=
 Option.bind (V3 d) fun a=>
 cond (a !=0) (
  some ([],a))<|
 Option.bind (A6m d) fun c=>
 Option.bind (V0 c) fun b=>
 cond (decide ((b.length:Int)>(1048576:Int))) (
  some ([],5))<|
 some (b,0)
def A3D (j:B9):Option Bool:=
 Option.bind (A7A j) fun f=>
 cond (!f) (
  Option.bind Q4 fun g=>
  some g)<|
 Option.bind (S4 j) fun a=>
 Option.bind (A3P j) fun d=>
 Option.bind (Q0 a.1 d.1) fun h=>
 cond ((!h)||(a.2 !=d.2)) (
  some false)<|
 cond (a.2 !=0) (
  Option.bind Q4 fun i=>
  some i)<|
 Option.bind (S3 a.1) fun b=>
 Option.bind (gd (b.2==0) (A1v b.1 j)) fun c=>
 Option.bind (gd ((b.2==0)&&c) Q4) fun e=>
 some (((b.2==0)&&c)&&e)
def A39 (k:List Int):Option Bool:=
 cond (decide ((k.length:Int)>(500:Int))) (
  Option.bind Q4 fun h=>
  some h)<|
 Option.bind (V0 k) fun e=>
 Option.bind (S3 e) fun a=>
 Option.bind (A1S e) fun f=>
 Option.bind (A1v a.1 f.1) fun i=>
 cond ((!i)||(a.2 !=f.2)) (
  some false)<|
 cond (a.2 !=0) (
  Option.bind (gd ((a.2==13)||(a.2==2)) Q4) fun j=>
  some (((a.2==13)||(a.2==2))&&j))<|
 Option.bind (S4 a.1) fun b=>
 Option.bind (A0f a.1) fun c=>
 Option.bind (gd ((c==0)&&(b.2==0)) (Q0 e b.1)) fun d=>
 Option.bind (gd (((c==0)&&(b.2==0))&&d) Q4) fun g=>
 some ((((c==0)&&(b.2==0))&&d)&&g)
def A4j (d:List C4) (a:List Int) (b:Int):Option (((List Int)×Int)⊕(List Int)):=
 cond (decide (b<(d.length:Int))) (
  Option.bind (E4 d b) fun c=>
  ck (decide ((a.length+ [c.ID].length)*8<=140737488355328))<|
  some (.inl ((a++ [c.ID]),(A3 (b+1)))))<|
 Option.map Sum.inr (some a)
def B2H (c:List C4) (a:List Int) (b:Int):Option (List Int):=
 loop (fun (s:((List Int)×Int))=>A4j c s.1 s.2) (a,b)
def B1Z (a:List C4):Option (List Int):=
 B2H a ([]:List Int) 0
end
end Go.Win
