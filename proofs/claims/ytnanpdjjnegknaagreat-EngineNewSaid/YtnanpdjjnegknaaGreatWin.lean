/- The functions of the program and of the statements, as functions on plain data: made by program out of the translated code. -/
import Derived.Test.YtnanpdjjnegknaaGreatVc
set_option linter.unusedVariables false
namespace Go.Win
open Go.Vc Go.Dec
noncomputable section
structure A5 where
 Bu:Int
 Bp:Int
 deriving Inhabited
def D0D (p:A5):List AV:= [.int .i64 p.Bu, .int .i64 p.Bp]
def B0V (p:A5):Prop:=(F1 .i64) p.Bu/\(F1 .i64) p.Bp
def A8J (p:A5):Prop:=(F1 .i64) p.Bu/\(F1 .i64) p.Bp
structure D2 where
 Lo:A5
 Bq:A5
 Hi:A5
 deriving Inhabited
def Q0 (p:D2):List AV:= [.int .i64 p.Lo.Bu, .int .i64 p.Lo.Bp, .int .i64 p.Bq.Bu, .int .i64 p.Bq.Bp, .int .i64 p.Hi.Bu, .int .i64 p.Hi.Bp]
def C2K (p:D2):Prop:=B0V p.Lo/\B0V p.Bq/\B0V p.Hi
def C09 (p:D2):Prop:=A8J p.Lo/\A8J p.Bq/\A8J p.Hi
structure A3 where
 Hi:Int
 Lo:Int
 deriving Inhabited
def H2 (p:A3):List AV:= [.int .u64 p.Hi, .int .u64 p.Lo]
def B17 (p:A3):Prop:=(F1 .u64) p.Hi/\(F1 .u64) p.Lo
def A6h (p:A3):Prop:=(F1 .u64) p.Hi/\(F1 .u64) p.Lo
structure D9 where
 Bu:A3
 Bp:A3
 deriving Inhabited
def B0l (p:D9):List AV:= [.int .u64 p.Bu.Hi, .int .u64 p.Bu.Lo, .int .u64 p.Bp.Hi, .int .u64 p.Bp.Lo]
def B98 (p:D9):Prop:=B17 p.Bu/\B17 p.Bp
def B8G (p:D9):Prop:=A6h p.Bu/\A6h p.Bp
structure E5 where
 Al:D2
 Aw:(List Int)
 Aa:D9
 deriving Inhabited
def Z5 (p:E5):List AV:= [.int .i64 p.Al.Lo.Bu, .int .i64 p.Al.Lo.Bp, .int .i64 p.Al.Bq.Bu, .int .i64 p.Al.Bq.Bp, .int .i64 p.Al.Hi.Bu, .int .i64 p.Al.Hi.Bp, .lst 1 false (List.map (eI .i64) p.Aw), .int .u64 p.Aa.Bu.Hi, .int .u64 p.Aa.Bu.Lo, .int .u64 p.Aa.Bp.Hi, .int .u64 p.Aa.Bp.Lo]
def C2J (p:E5):Prop:=C2K p.Al/\(wfL (F1 .i64)) p.Aw/\B98 p.Aa
def C08 (p:E5):Prop:=C09 p.Al/\(A1K (F1 .i64)) p.Aw/\B8G p.Aa
structure D7 where
 V:Int
 Bt:Int
 Bs:Int
 deriving Inhabited
def B3 (p:D7):List AV:= [.int .i64 p.V, .int .i64 p.Bt, .int .i64 p.Bs]
def C4Z (p:D7):Prop:=(F1 .i64) p.V/\(F1 .i64) p.Bt/\(F1 .i64) p.Bs
def C2E (p:D7):Prop:=(F1 .i64) p.V/\(F1 .i64) p.Bt/\(F1 .i64) p.Bs
structure E3 where
 N:Int
 Ae:(List D7)
 deriving Inhabited
def A5c (p:E3):List AV:= [.int .i64 p.N, .lst 3 false (List.map B3 p.Ae)]
def C42 (p:E3):Prop:=(F1 .i64) p.N/\(wfL C4Z) p.Ae
def C2G (p:E3):Prop:=(F1 .i64) p.N/\(A1K C2E) p.Ae
structure C4 where
 T:Int
 Bk:Int
 Bc:Int
 Bh:E3
 deriving Inhabited
def B2 (p:C4):List AV:= [.int .i64 p.T, .int .i64 p.Bk, .int .i64 p.Bc, .int .i64 p.Bh.N, .lst 3 false (List.map B3 p.Bh.Ae)]
def C4W (p:C4):Prop:=(F1 .i64) p.T/\(F1 .i64) p.Bk/\(F1 .i64) p.Bc/\C42 p.Bh
def C2C (p:C4):Prop:=(F1 .i64) p.T/\(F1 .i64) p.Bk/\(F1 .i64) p.Bc/\C2G p.Bh
structure A7 where
 T:Int
 Bc:Int
 deriving Inhabited
def C1 (p:A7):List AV:= [.int .i64 p.T, .int .i64 p.Bc]
def B4N (p:A7):Prop:=(F1 .i64) p.T/\(F1 .i64) p.Bc
def B3n (p:A7):Prop:=(F1 .i64) p.T/\(F1 .i64) p.Bc
structure H0 where
 I:Int
 V:Int
 deriving Inhabited
def G4 (p:H0):List AV:= [.int .i64 p.I, .int .i64 p.V]
def C58 (p:H0):Prop:=(F1 .i64) p.I/\(F1 .i64) p.V
def C4V (p:H0):Prop:=(F1 .i64) p.I/\(F1 .i64) p.V
structure B8 where
 W:Int
 Cap:Int
 I:Int
 Bl:Int
 Be:(List H0)
 deriving Inhabited
def C9 (p:B8):List AV:= [.int .i64 p.W, .int .i64 p.Cap, .int .i64 p.I, .int .i64 p.Bl, .lst 2 false (List.map G4 p.Be)]
def C4X (p:B8):Prop:=(F1 .i64) p.W/\(F1 .i64) p.Cap/\(F1 .i64) p.I/\(F1 .i64) p.Bl/\(wfL C58) p.Be
def C2D (p:B8):Prop:=(F1 .i64) p.W/\(F1 .i64) p.Cap/\(F1 .i64) p.I/\(F1 .i64) p.Bl/\(A1K C4V) p.Be
structure E9 where
 Bi:Int
 Bo:Int
 W:Int
 K:Int
 Cap:Int
 P:Int
 Am:Int
 Bs:Int
 deriving Inhabited
def K7 (p:E9):List AV:= [.int .i64 p.Bi, .int .i64 p.Bo, .int .i64 p.W, .int .i64 p.K, .int .i64 p.Cap, .int .i64 p.P, .int .i64 p.Am, .int .i64 p.Bs]
def B4O (p:E9):Prop:=(F1 .i64) p.Bi/\(F1 .i64) p.Bo/\(F1 .i64) p.W/\(F1 .i64) p.K/\(F1 .i64) p.Cap/\(F1 .i64) p.P/\(F1 .i64) p.Am/\(F1 .i64) p.Bs
def B3o (p:E9):Prop:=(F1 .i64) p.Bi/\(F1 .i64) p.Bo/\(F1 .i64) p.W/\(F1 .i64) p.K/\(F1 .i64) p.Cap/\(F1 .i64) p.P/\(F1 .i64) p.Am/\(F1 .i64) p.Bs
structure R9 where
 Op:Int
 A:Int
 B:Int
 deriving Inhabited
def D0C (p:R9):List AV:= [.int .i64 p.Op, .int .i64 p.A, .int .i64 p.B]
def C41 (p:R9):Prop:=(F1 .i64) p.Op/\(F1 .i64) p.A/\(F1 .i64) p.B
def C2F (p:R9):Prop:=(F1 .i64) p.Op/\(F1 .i64) p.A/\(F1 .i64) p.B
structure R5 where
 Op:Int
 ID:Int
 Ao:E9
 T:Int
 V:Int
 Az:(List Int)
 Bg:R9
 Ax:(List Int)
 deriving Inhabited
def W9 (p:R5):List AV:= [.int .i64 p.Op, .int .i64 p.ID, .int .i64 p.Ao.Bi, .int .i64 p.Ao.Bo, .int .i64 p.Ao.W, .int .i64 p.Ao.K, .int .i64 p.Ao.Cap, .int .i64 p.Ao.P, .int .i64 p.Ao.Am, .int .i64 p.Ao.Bs, .int .i64 p.T, .int .i64 p.V, .lst 1 false (List.map (eI .i64) p.Az), .int .i64 p.Bg.Op, .int .i64 p.Bg.A, .int .i64 p.Bg.B, .lst 1 false (List.map (eI .u8) p.Ax)]
def C1c (p:R5):Prop:=(F1 .i64) p.Op/\(F1 .i64) p.ID/\B4O p.Ao/\(F1 .i64) p.T/\(F1 .i64) p.V/\(wfL (F1 .i64)) p.Az/\C41 p.Bg/\(wfL (F1 .u8)) p.Ax
def B97 (p:R5):Prop:=(F1 .i64) p.Op/\(F1 .i64) p.ID/\B3o p.Ao/\(F1 .i64) p.T/\(F1 .i64) p.V/\(A1K (F1 .i64)) p.Az/\C2F p.Bg/\(A1K (F1 .u8)) p.Ax
structure D4 where
 W:Int
 K:Int
 Cap:Int
 Now:Int
 Ad:(List A7)
 deriving Inhabited
def J2 (p:D4):List AV:= [.int .i64 p.W, .int .i64 p.K, .int .i64 p.Cap, .int .i64 p.Now, .lst 2 false (List.map C1 p.Ad)]
def C4Y (p:D4):Prop:=(F1 .i64) p.W/\(F1 .i64) p.K/\(F1 .i64) p.Cap/\(F1 .i64) p.Now/\(wfL B4N) p.Ad
def B4L (p:D4):Prop:=(F1 .i64) p.W/\(F1 .i64) p.K/\(F1 .i64) p.Cap/\(F1 .i64) p.Now/\(A1K B3n) p.Ad
structure D0 where
 T:Int
 V:Int
 deriving Inhabited
def B5 (p:D0):List AV:= [.int .i64 p.T, .int .i64 p.V]
def B7X (p:D0):Prop:=(F1 .i64) p.T/\(F1 .i64) p.V
def B6x (p:D0):Prop:=(F1 .i64) p.T/\(F1 .i64) p.V
structure B9 where
 Bs:Bool
 W:Int
 Cap:Int
 Now:Int
 Bb:(List D0)
 deriving Inhabited
def H3 (p:B9):List AV:= [.sb p.Bs, .int .i64 p.W, .int .i64 p.Cap, .int .i64 p.Now, .lst 2 false (List.map B5 p.Bb)]
def C1d (p:B9):Prop:=(fun _:Bool=>True) p.Bs/\(F1 .i64) p.W/\(F1 .i64) p.Cap/\(F1 .i64) p.Now/\(wfL B7X) p.Bb
def B1C (p:B9):Prop:=(fun _:Bool=>True) p.Bs/\(F1 .i64) p.W/\(F1 .i64) p.Cap/\(F1 .i64) p.Now/\(A1K B6x) p.Bb
structure F6 where
 Now:Int
 Bn:(List Int)
 deriving Inhabited
def A5b (p:F6):List AV:= [.int .i64 p.Now, .lst 1 false (List.map (eI .i64) p.Bn)]
def C40 (p:F6):Prop:=(F1 .i64) p.Now/\(wfL (F1 .i64)) p.Bn
def B4M (p:F6):Prop:=(F1 .i64) p.Now/\(A1K (F1 .i64)) p.Bn
structure D5 where
 P:Int
 Bj:Int
 Now:Int
 Ag:(List A3)
 deriving Inhabited
def J7 (p:D5):List AV:= [.int .i64 p.P, .int .i64 p.Bj, .int .i64 p.Now, .lst 2 false (List.map H2 p.Ag)]
def C59 (p:D5):Prop:=(F1 .i64) p.P/\(F1 .i64) p.Bj/\(F1 .i64) p.Now/\(wfL B17) p.Ag
def B6z (p:D5):Prop:=(F1 .i64) p.P/\(F1 .i64) p.Bj/\(F1 .i64) p.Now/\(A1K A6h) p.Ag
structure B7 where
 W:Int
 K:Int
 Cap:Int
 Now:Int
 Ak:(List C4)
 deriving Inhabited
def G8 (p:B7):List AV:= [.int .i64 p.W, .int .i64 p.K, .int .i64 p.Cap, .int .i64 p.Now, .lst 5 false (List.map B2 p.Ak)]
def B99 (p:B7):Prop:=(F1 .i64) p.W/\(F1 .i64) p.K/\(F1 .i64) p.Cap/\(F1 .i64) p.Now/\(wfL C4W) p.Ak
def B0U (p:B7):Prop:=(F1 .i64) p.W/\(F1 .i64) p.K/\(F1 .i64) p.Cap/\(F1 .i64) p.Now/\(A1K C2C) p.Ak
structure C6 where
 W:Int
 Cap:Int
 Now:Int
 Bb:(List D0)
 deriving Inhabited
def J0 (p:C6):List AV:= [.int .i64 p.W, .int .i64 p.Cap, .int .i64 p.Now, .lst 2 false (List.map B5 p.Bb)]
def C2M (p:C6):Prop:=(F1 .i64) p.W/\(F1 .i64) p.Cap/\(F1 .i64) p.Now/\(wfL B7X) p.Bb
def B3p (p:C6):Prop:=(F1 .i64) p.W/\(F1 .i64) p.Cap/\(F1 .i64) p.Now/\(A1K B6x) p.Bb
structure F0 where
 Am:(List B8)
 deriving Inhabited
def A3T (p:F0):List AV:= [.lst 5 false (List.map C9 p.Am)]
def C2O (p:F0):Prop:=(wfL C4X) p.Am
def B3q (p:F0):Prop:=(A1K C2D) p.Am
structure B4 where
 Bv:Int
 T:Int
 N:Int
 S:Int
 Q:Int
 Bt:Int
 Bs:Int
 deriving Inhabited
def A6 (p:B4):List AV:= [.int .i64 p.Bv, .int .i64 p.T, .int .i64 p.N, .int .i64 p.S, .int .i64 p.Q, .int .i64 p.Bt, .int .i64 p.Bs]
def B7Y (p:B4):Prop:=(F1 .i64) p.Bv/\(F1 .i64) p.T/\(F1 .i64) p.N/\(F1 .i64) p.S/\(F1 .i64) p.Q/\(F1 .i64) p.Bt/\(F1 .i64) p.Bs
def B6y (p:B4):Prop:=(F1 .i64) p.Bv/\(F1 .i64) p.T/\(F1 .i64) p.N/\(F1 .i64) p.S/\(F1 .i64) p.Q/\(F1 .i64) p.Bt/\(F1 .i64) p.Bs
structure C7 where
 Bo:Int
 W:Int
 K:Int
 Cap:Int
 Now:Int
 Bv:Int
 Bf:(List B4)
 deriving Inhabited
def I2 (p:C7):List AV:= [.int .i64 p.Bo, .int .i64 p.W, .int .i64 p.K, .int .i64 p.Cap, .int .i64 p.Now, .int .i64 p.Bv, .lst 7 false (List.map A6 p.Bf)]
def C2P (p:C7):Prop:=(F1 .i64) p.Bo/\(F1 .i64) p.W/\(F1 .i64) p.K/\(F1 .i64) p.Cap/\(F1 .i64) p.Now/\(F1 .i64) p.Bv/\(wfL B7Y) p.Bf
def B3r (p:C7):Prop:=(F1 .i64) p.Bo/\(F1 .i64) p.W/\(F1 .i64) p.K/\(F1 .i64) p.Cap/\(F1 .i64) p.Now/\(F1 .i64) p.Bv/\(A1K B6y) p.Bf
structure C8 where
 W:Int
 K:Int
 Cap:Int
 Now:Int
 Bv:Int
 Bf:(List B4)
 deriving Inhabited
def I3 (p:C8):List AV:= [.int .i64 p.W, .int .i64 p.K, .int .i64 p.Cap, .int .i64 p.Now, .int .i64 p.Bv, .lst 7 false (List.map A6 p.Bf)]
def C2Q (p:C8):Prop:=(F1 .i64) p.W/\(F1 .i64) p.K/\(F1 .i64) p.Cap/\(F1 .i64) p.Now/\(F1 .i64) p.Bv/\(wfL B7Y) p.Bf
def B3s (p:C8):Prop:=(F1 .i64) p.W/\(F1 .i64) p.K/\(F1 .i64) p.Cap/\(F1 .i64) p.Now/\(F1 .i64) p.Bv/\(A1K B6y) p.Bf
structure E8 where
 W:Int
 K:Int
 Cap:Int
 Bs:Int
 Now:Int
 Ad:(List A7)
 deriving Inhabited
def K3 (p:E8):List AV:= [.int .i64 p.W, .int .i64 p.K, .int .i64 p.Cap, .int .i64 p.Bs, .int .i64 p.Now, .lst 2 false (List.map C1 p.Ad)]
def C7M (p:E8):Prop:=(F1 .i64) p.W/\(F1 .i64) p.K/\(F1 .i64) p.Cap/\(F1 .i64) p.Bs/\(F1 .i64) p.Now/\(wfL B4N) p.Ad
def B7W (p:E8):Prop:=(F1 .i64) p.W/\(F1 .i64) p.K/\(F1 .i64) p.Cap/\(F1 .i64) p.Bs/\(F1 .i64) p.Now/\(A1K B3n) p.Ad
structure E6 where
 V:Int
 G:Int
 D:Int
 deriving Inhabited
def E7 (p:E6):List AV:= [.int .i64 p.V, .int .i64 p.G, .int .i64 p.D]
def C44 (p:E6):Prop:=(F1 .i64) p.V/\(F1 .i64) p.G/\(F1 .i64) p.D
def C2I (p:E6):Prop:=(F1 .i64) p.V/\(F1 .i64) p.G/\(F1 .i64) p.D
structure B6 where
 K:Int
 Cap:Int
 N:Int
 Av:(List E6)
 deriving Inhabited
def G1 (p:B6):List AV:= [.int .i64 p.K, .int .i64 p.Cap, .int .i64 p.N, .lst 3 false (List.map E7 p.Av)]
def C1e (p:B6):Prop:=(F1 .i64) p.K/\(F1 .i64) p.Cap/\(F1 .i64) p.N/\(wfL C44) p.Av
def B1D (p:B6):Prop:=(F1 .i64) p.K/\(F1 .i64) p.Cap/\(F1 .i64) p.N/\(A1K C2I) p.Av
structure B0 where
 Ao:E9
 Aq:C6
 Ay:D4
 Sum:E8
 As:C7
 Au:C8
 Bm:D5
 Ba:F6
 Af:B9
 Ar:F0
 Ai:B6
 Ab:B7
 deriving Inhabited
def H1 (p:B0):List AV:= [.int .i64 p.Ao.Bi, .int .i64 p.Ao.Bo, .int .i64 p.Ao.W, .int .i64 p.Ao.K, .int .i64 p.Ao.Cap, .int .i64 p.Ao.P, .int .i64 p.Ao.Am, .int .i64 p.Ao.Bs, .int .i64 p.Aq.W, .int .i64 p.Aq.Cap, .int .i64 p.Aq.Now, .lst 2 false (List.map B5 p.Aq.Bb), .int .i64 p.Ay.W, .int .i64 p.Ay.K, .int .i64 p.Ay.Cap, .int .i64 p.Ay.Now, .lst 2 false (List.map C1 p.Ay.Ad), .int .i64 p.Sum.W, .int .i64 p.Sum.K, .int .i64 p.Sum.Cap, .int .i64 p.Sum.Bs, .int .i64 p.Sum.Now, .lst 2 false (List.map C1 p.Sum.Ad), .int .i64 p.As.Bo, .int .i64 p.As.W, .int .i64 p.As.K, .int .i64 p.As.Cap, .int .i64 p.As.Now, .int .i64 p.As.Bv, .lst 7 false (List.map A6 p.As.Bf), .int .i64 p.Au.W, .int .i64 p.Au.K, .int .i64 p.Au.Cap, .int .i64 p.Au.Now, .int .i64 p.Au.Bv, .lst 7 false (List.map A6 p.Au.Bf), .int .i64 p.Bm.P, .int .i64 p.Bm.Bj, .int .i64 p.Bm.Now, .lst 2 false (List.map H2 p.Bm.Ag), .int .i64 p.Ba.Now, .lst 1 false (List.map (eI .i64) p.Ba.Bn), .sb p.Af.Bs, .int .i64 p.Af.W, .int .i64 p.Af.Cap, .int .i64 p.Af.Now, .lst 2 false (List.map B5 p.Af.Bb), .lst 5 false (List.map C9 p.Ar.Am), .int .i64 p.Ai.K, .int .i64 p.Ai.Cap, .int .i64 p.Ai.N, .lst 3 false (List.map E7 p.Ai.Av), .int .i64 p.Ab.W, .int .i64 p.Ab.K, .int .i64 p.Ab.Cap, .int .i64 p.Ab.Now, .lst 5 false (List.map B2 p.Ab.Ak)]
def C0a (p:B0):Prop:=B4O p.Ao/\C2M p.Aq/\C4Y p.Ay/\C7M p.Sum/\C2P p.As/\C2Q p.Au/\C59 p.Bm/\C40 p.Ba/\C1d p.Af/\C2O p.Ar/\C1e p.Ai/\B99 p.Ab
def A2Q (p:B0):Prop:=B3o p.Ao/\B3p p.Aq/\B4L p.Ay/\B7W p.Sum/\B3r p.As/\B3s p.Au/\B6z p.Bm/\B4M p.Ba/\B1C p.Af/\B3q p.Ar/\B1D p.Ai/\B0U p.Ab
structure D1 where
 ID:Int
 Ac:B0
 deriving Inhabited
def A9 (p:D1):List AV:= [.int .i64 p.ID, .int .i64 p.Ac.Ao.Bi, .int .i64 p.Ac.Ao.Bo, .int .i64 p.Ac.Ao.W, .int .i64 p.Ac.Ao.K, .int .i64 p.Ac.Ao.Cap, .int .i64 p.Ac.Ao.P, .int .i64 p.Ac.Ao.Am, .int .i64 p.Ac.Ao.Bs, .int .i64 p.Ac.Aq.W, .int .i64 p.Ac.Aq.Cap, .int .i64 p.Ac.Aq.Now, .lst 2 false (List.map B5 p.Ac.Aq.Bb), .int .i64 p.Ac.Ay.W, .int .i64 p.Ac.Ay.K, .int .i64 p.Ac.Ay.Cap, .int .i64 p.Ac.Ay.Now, .lst 2 false (List.map C1 p.Ac.Ay.Ad), .int .i64 p.Ac.Sum.W, .int .i64 p.Ac.Sum.K, .int .i64 p.Ac.Sum.Cap, .int .i64 p.Ac.Sum.Bs, .int .i64 p.Ac.Sum.Now, .lst 2 false (List.map C1 p.Ac.Sum.Ad), .int .i64 p.Ac.As.Bo, .int .i64 p.Ac.As.W, .int .i64 p.Ac.As.K, .int .i64 p.Ac.As.Cap, .int .i64 p.Ac.As.Now, .int .i64 p.Ac.As.Bv, .lst 7 false (List.map A6 p.Ac.As.Bf), .int .i64 p.Ac.Au.W, .int .i64 p.Ac.Au.K, .int .i64 p.Ac.Au.Cap, .int .i64 p.Ac.Au.Now, .int .i64 p.Ac.Au.Bv, .lst 7 false (List.map A6 p.Ac.Au.Bf), .int .i64 p.Ac.Bm.P, .int .i64 p.Ac.Bm.Bj, .int .i64 p.Ac.Bm.Now, .lst 2 false (List.map H2 p.Ac.Bm.Ag), .int .i64 p.Ac.Ba.Now, .lst 1 false (List.map (eI .i64) p.Ac.Ba.Bn), .sb p.Ac.Af.Bs, .int .i64 p.Ac.Af.W, .int .i64 p.Ac.Af.Cap, .int .i64 p.Ac.Af.Now, .lst 2 false (List.map B5 p.Ac.Af.Bb), .lst 5 false (List.map C9 p.Ac.Ar.Am), .int .i64 p.Ac.Ai.K, .int .i64 p.Ac.Ai.Cap, .int .i64 p.Ac.Ai.N, .lst 3 false (List.map E7 p.Ac.Ai.Av), .int .i64 p.Ac.Ab.W, .int .i64 p.Ac.Ab.K, .int .i64 p.Ac.Ab.Cap, .int .i64 p.Ac.Ab.Now, .lst 5 false (List.map B2 p.Ac.Ab.Ak)]
def C2N (p:D1):Prop:=(F1 .i64) p.ID/\C0a p.Ac
def C1b (p:D1):Prop:=(F1 .i64) p.ID/\A2Q p.Ac
structure G7 where
 Now:Int
 Bd:Int
 Ah:(List D1)
 deriving Inhabited
def A3S (p:G7):List AV:= [.int .i64 p.Now, .int .i64 p.Bd, .lst 58 false (List.map A9 p.Ah)]
def C2L (p:G7):Prop:=(F1 .i64) p.Now/\(F1 .i64) p.Bd/\(wfL C2N) p.Ah
def C1a (p:G7):Prop:=(F1 .i64) p.Now/\(F1 .i64) p.Bd/\(A1K C1b) p.Ah
structure I9 where
 Code:Int
 Aj:E5
 Br:(List Int)
 Ax:(List Int)
 deriving Inhabited
def A2S (p:I9):List AV:= [.int .i64 p.Code, .int .i64 p.Aj.Al.Lo.Bu, .int .i64 p.Aj.Al.Lo.Bp, .int .i64 p.Aj.Al.Bq.Bu, .int .i64 p.Aj.Al.Bq.Bp, .int .i64 p.Aj.Al.Hi.Bu, .int .i64 p.Aj.Al.Hi.Bp, .lst 1 false (List.map (eI .i64) p.Aj.Aw), .int .u64 p.Aj.Aa.Bu.Hi, .int .u64 p.Aj.Aa.Bu.Lo, .int .u64 p.Aj.Aa.Bp.Hi, .int .u64 p.Aj.Aa.Bp.Lo, .lst 1 false (List.map (eI .i64) p.Br), .lst 1 false (List.map (eI .u8) p.Ax)]
def C43 (p:I9):Prop:=(F1 .i64) p.Code/\C2J p.Aj/\(wfL (F1 .i64)) p.Br/\(wfL (F1 .u8)) p.Ax
def C2H (p:I9):Prop:=(F1 .i64) p.Code/\C08 p.Aj/\(A1K (F1 .i64)) p.Br/\(A1K (F1 .u8)) p.Ax
structure K9 where
 draws_:(List Int)
 at_:Int
 beyond_:Int
 deriving Inhabited
def A2F (p:K9):List AV:= [.lst 1 false (List.map (eI .i64) p.draws_), .int .i64 p.at_, .int .i64 p.beyond_]
def C92 (p:K9):Prop:=(wfL (F1 .i64)) p.draws_/\(F1 .i64) p.at_/\(F1 .i64) p.beyond_
def C9L (p:K9):Prop:=(A1K (F1 .i64)) p.draws_/\(F1 .i64) p.at_/\(F1 .i64) p.beyond_
structure E4 where
 Ap:G7
 command_:R5
 reply_:I9
 deriving Inhabited
def I0 (p:E4):List AV:= [.int .i64 p.Ap.Now, .int .i64 p.Ap.Bd, .lst 58 false (List.map A9 p.Ap.Ah), .int .i64 p.command_.Op, .int .i64 p.command_.ID, .int .i64 p.command_.Ao.Bi, .int .i64 p.command_.Ao.Bo, .int .i64 p.command_.Ao.W, .int .i64 p.command_.Ao.K, .int .i64 p.command_.Ao.Cap, .int .i64 p.command_.Ao.P, .int .i64 p.command_.Ao.Am, .int .i64 p.command_.Ao.Bs, .int .i64 p.command_.T, .int .i64 p.command_.V, .lst 1 false (List.map (eI .i64) p.command_.Az), .int .i64 p.command_.Bg.Op, .int .i64 p.command_.Bg.A, .int .i64 p.command_.Bg.B, .lst 1 false (List.map (eI .u8) p.command_.Ax), .int .i64 p.reply_.Code, .int .i64 p.reply_.Aj.Al.Lo.Bu, .int .i64 p.reply_.Aj.Al.Lo.Bp, .int .i64 p.reply_.Aj.Al.Bq.Bu, .int .i64 p.reply_.Aj.Al.Bq.Bp, .int .i64 p.reply_.Aj.Al.Hi.Bu, .int .i64 p.reply_.Aj.Al.Hi.Bp, .lst 1 false (List.map (eI .i64) p.reply_.Aj.Aw), .int .u64 p.reply_.Aj.Aa.Bu.Hi, .int .u64 p.reply_.Aj.Aa.Bu.Lo, .int .u64 p.reply_.Aj.Aa.Bp.Hi, .int .u64 p.reply_.Aj.Aa.Bp.Lo, .lst 1 false (List.map (eI .i64) p.reply_.Br), .lst 1 false (List.map (eI .u8) p.reply_.Ax)]
def C93 (p:E4):Prop:=C2L p.Ap/\C1c p.command_/\C43 p.reply_
def C9M (p:E4):Prop:=C1a p.Ap/\B97 p.command_/\C2H p.reply_
structure I5 where
 e0:Int
 e1:Int
 e2:Int
 e3:Int
 deriving Inhabited
def W4 (p:I5):List AV:= [.int .u64 p.e0, .int .u64 p.e1, .int .u64 p.e2, .int .u64 p.e3]
def D0E (p:I5):Prop:=(F1 .u64) p.e0/\(F1 .u64) p.e1/\(F1 .u64) p.e2/\(F1 .u64) p.e3
def D0y (p:I5):Prop:=(F1 .u64) p.e0/\(F1 .u64) p.e1/\(F1 .u64) p.e2/\(F1 .u64) p.e3
def A7D (b a:Int):Option (Int×Bool):=
 cond ((a==0)||((b==(-9223372036854775808:Int))&&(a==(-1:Int)))) (
  some (0,false))<|
 ck (decide (a≠0))<|
 ck (decide (a≠0))<|
 cond (((Int.tmod b a) !=0)&&((decide (b<0))==(decide (a<0)))) (
  some ((A2 ((A2 (Int.tdiv b a))+1)),true))<|
 some ((A2 (Int.tdiv b a)),true)
def A1i (e d b a:Int):Option ((Int×Int)⊕Int):=
 cond (decide (a<=e)) (
  ck (decide (0<=(A8 a)))<|
  cond (decide ((F3 .i64 1 (A8 a))>(A2 (d+1)))) (
   Option.bind (A7D (A2 ((F3 .i64 1 (A8 a))-1)) d) fun c=>
   some (.inl ((A2 ((A2 (2*b))+c.1)),(A2 (a+1)))))<|
  some (.inl (b,(A2 (a+1)))))<|
 Option.map Sum.inr (some b)
def A8K (c d a b:Int):Option Int:=
 loop (fun (s:(Int×Int))=>A1i c d s.1 s.2) (a,b)
def A3L (a b:Int):Option Int:=
 cond ((((decide (a<0))||(decide (a>30)))||(decide (b<1)))||(decide (b>65536))) (
  some (-1:Int))<|
 A8K a b 0 0
def B6V (c:Int) (a:List C4):Option ((List C4)⊕(List C4)):=
 Option.bind (gd (decide ((a.length:Int)>(0:Int))) (D3 a 0)) fun b=>
 cond ((decide ((a.length:Int)>(0:Int)))&&(decide (b.T<c))) (
  ck (decide (0<=(1:Int)/\1<=(a.length:Int)))<|
  some (.inl (a.drop ((1:Int)).toNat)))<|
 Option.map Sum.inr (ck (decide ((([]:List C4).length+a.length)*56<=140737488355328))<|
 some (([]:List C4)++a))
def B71 (b:Int) (a:List C4):Option (List C4):=
 loop (fun (s:(List C4))=>B6V b s) a
def B4j (a:List C4) (b:Int):Option (List C4):=
 B71 b a
def A0S (d:List C4) (b:List A7) (c:Int):Option (((List A7)×Int)⊕(List A7)):=
 cond (decide (c<(d.length:Int))) (
  Option.bind (D3 d c) fun a=>
  ck (decide ((b.length+ [(A7.mk a.T a.Bc)].length)*16<=140737488355328))<|
  some (.inl ((b++ [(A7.mk a.T a.Bc)]),(A2 (c+1)))))<|
 Option.map Sum.inr (some b)
def B03 (c:List C4) (a:List A7) (b:Int):Option (List A7):=
 loop (fun (s:((List A7)×Int))=>A0S c s.1 s.2) (a,b)
def A14 (a:List C4):Option (List A7):=
 B03 a ([]:List A7) 0
def Y2 (a:Int):Bool:=
 ((decide (a>=0))&&(decide (a<=30)))
def B6Y (e:List A7) (b a:Int):Option ((Int×Int)⊕Int):=
 cond (decide (a<(e.length:Int))) (
  Option.bind (D3 e a) fun c=>
  let d:=(Y2 c.Bc);
  cond d (
   ck (decide (0<=(A8 c.Bc)))<|
   some (.inl ((A2 (b+(F3 .i64 1 (A8 c.Bc)))),(A2 (a+1)))))<|
  some (.inl (b,(A2 (a+1)))))<|
 Option.map Sum.inr (some b)
def B74 (c:List A7) (a b:Int):Option Int:=
 loop (fun (s:(Int×Int))=>B6Y c s.1 s.2) (a,b)
def T5 (a:List A7):Option Int:=
 B74 a 0 0
def A13 (c:List C4):Option Int:=
 Option.bind (A14 c) fun a=>
 Option.bind (T5 a) fun b=>
 some b
def A0T (a:Int):Bool:=
 ((decide (a>=0))&&(decide (a<=16777216)))
def A1j (L w x y z A B C D E F a b c d e f g h i j k l m n o p q r s t u:Int) (G:A7) (v:Int):Option (Int⊕Bool):=
 cond (decide (v<=G.Bc)) (
  Option.bind (D3 [w,x,y,z,A,B,C,D,E,F,a,b,c,d,e,f,g,h,i,j,k,l,m,n,o,p,q,r,s,t,u] v) fun K=>
  Option.bind (D3 [w,x,y,z,A,B,C,D,E,F,a,b,c,d,e,f,g,h,i,j,k,l,m,n,o,p,q,r,s,t,u] v) fun H=>
  Option.bind (gd ((!(decide (H>(A2 (L+1)))))&&(decide (v<G.Bc))) (D3 [w,x,y,z,A,B,C,D,E,F,a,b,c,d,e,f,g,h,i,j,k,l,m,n,o,p,q,r,s,t,u] v)) fun J=>
  Option.bind (gd ((!(decide (H>(A2 (L+1)))))&&(decide (v<G.Bc))) (D3 [w,x,y,z,A,B,C,D,E,F,a,b,c,d,e,f,g,h,i,j,k,l,m,n,o,p,q,r,s,t,u] v)) fun I=>
  cond ((decide (H>(A2 (L+1))))||((decide (v<G.Bc))&&(decide (I<L)))) (
   some (.inr false))<|
  some (.inl (A2 (v+1))))<|
 Option.map Sum.inr (some true)
def A1N (I w x y z A B C D E F a b c d e f g h i j k l m n o p q r t u v:Int) (G:A7) (H:Int):Option Bool:=
 loop (fun (s:Int)=>A1j I w x y z A B C D E F a b c d e f g h i j k l m n o p q r t u v G s) H
def A4z (Q:List A7) (R H x y z A B C D E F G c d e f g h i j k l m n o p q r s t u v w:Int):Option ((Int×Int×Int×Int×Int×Int×Int×Int×Int×Int×Int×Int×Int×Int×Int×Int×Int×Int×Int×Int×Int×Int×Int×Int×Int×Int×Int×Int×Int×Int×Int×Int)⊕Bool):=
 cond (decide (H<(Q.length:Int))) (
  Option.bind (D3 Q H) fun a=>
  let L:=(A0T a.T);
  let M:=(Y2 a.Bc);
  cond ((!L)||(!M)) (
   some (.inr false))<|
  Option.bind (gd (decide (H>0)) (D3 Q (A2 (H-1)))) fun I=>
  Option.bind (gd ((decide (H>0))&&(!(decide (I.T>a.T)))) (D3 Q (A2 (H-1)))) fun J=>
  cond ((decide (H>0))&&((decide (I.T>a.T))||(decide (J.Bc<a.Bc)))) (
   some (.inr false))<|
  Option.bind (D3 [x,y,z,A,B,C,D,E,F,G,c,d,e,f,g,h,i,j,k,l,m,n,o,p,q,r,s,t,u,v,w] a.Bc) fun N=>
  Option.bind (D3 [x,y,z,A,B,C,D,E,F,G,c,d,e,f,g,h,i,j,k,l,m,n,o,p,q,r,s,t,u,v,w] a.Bc) fun b=>
  Option.bind (D3 [x,y,z,A,B,C,D,E,F,G,c,d,e,f,g,h,i,j,k,l,m,n,o,p,q,r,s,t,u,v,w] a.Bc) fun O=>
  Option.bind (D3 [x,y,z,A,B,C,D,E,F,G,c,d,e,f,g,h,i,j,k,l,m,n,o,p,q,r,s,t,u,v,w] a.Bc) fun P=>
  some (.inl ((A2 (H+1)),(if (a.Bc).toNat=0 then (A2 (b+1)) else x),(if (a.Bc).toNat=1 then (A2 (b+1)) else y),(if (a.Bc).toNat=2 then (A2 (b+1)) else z),(if (a.Bc).toNat=3 then (A2 (b+1)) else A),(if (a.Bc).toNat=4 then (A2 (b+1)) else B),(if (a.Bc).toNat=5 then (A2 (b+1)) else C),(if (a.Bc).toNat=6 then (A2 (b+1)) else D),(if (a.Bc).toNat=7 then (A2 (b+1)) else E),(if (a.Bc).toNat=8 then (A2 (b+1)) else F),(if (a.Bc).toNat=9 then (A2 (b+1)) else G),(if (a.Bc).toNat=10 then (A2 (b+1)) else c),(if (a.Bc).toNat=11 then (A2 (b+1)) else d),(if (a.Bc).toNat=12 then (A2 (b+1)) else e),(if (a.Bc).toNat=13 then (A2 (b+1)) else f),(if (a.Bc).toNat=14 then (A2 (b+1)) else g),(if (a.Bc).toNat=15 then (A2 (b+1)) else h),(if (a.Bc).toNat=16 then (A2 (b+1)) else i),(if (a.Bc).toNat=17 then (A2 (b+1)) else j),(if (a.Bc).toNat=18 then (A2 (b+1)) else k),(if (a.Bc).toNat=19 then (A2 (b+1)) else l),(if (a.Bc).toNat=20 then (A2 (b+1)) else m),(if (a.Bc).toNat=21 then (A2 (b+1)) else n),(if (a.Bc).toNat=22 then (A2 (b+1)) else o),(if (a.Bc).toNat=23 then (A2 (b+1)) else p),(if (a.Bc).toNat=24 then (A2 (b+1)) else q),(if (a.Bc).toNat=25 then (A2 (b+1)) else r),(if (a.Bc).toNat=26 then (A2 (b+1)) else s),(if (a.Bc).toNat=27 then (A2 (b+1)) else t),(if (a.Bc).toNat=28 then (A2 (b+1)) else u),(if (a.Bc).toNat=29 then (A2 (b+1)) else v),(if (a.Bc).toNat=30 then (A2 (b+1)) else w))))<|
 Option.map Sum.inr (cond ((Q.length:Int)==(0:Int)) (
  some true)<|
 Option.bind (D3 Q 0) fun K=>
 A1N R x y z A B C D E F G c d e f g h i j k l m n o p q r s t u v w K 0)
def A94 (H:List A7) (I G w x y z A B C D E F a b c d e f g h i j k l m n o p q r t u v:Int):Option Bool:=
 loop (fun (s:(Int×Int×Int×Int×Int×Int×Int×Int×Int×Int×Int×Int×Int×Int×Int×Int×Int×Int×Int×Int×Int×Int×Int×Int×Int×Int×Int×Int×Int×Int×Int×Int))=>A4z H I s.1 s.2.1 s.2.2.1 s.2.2.2.1 s.2.2.2.2.1 s.2.2.2.2.2.1 s.2.2.2.2.2.2.1 s.2.2.2.2.2.2.2.1 s.2.2.2.2.2.2.2.2.1 s.2.2.2.2.2.2.2.2.2.1 s.2.2.2.2.2.2.2.2.2.2.1 s.2.2.2.2.2.2.2.2.2.2.2.1 s.2.2.2.2.2.2.2.2.2.2.2.2.1 s.2.2.2.2.2.2.2.2.2.2.2.2.2.1 s.2.2.2.2.2.2.2.2.2.2.2.2.2.2.1 s.2.2.2.2.2.2.2.2.2.2.2.2.2.2.2.1 s.2.2.2.2.2.2.2.2.2.2.2.2.2.2.2.2.1 s.2.2.2.2.2.2.2.2.2.2.2.2.2.2.2.2.2.1 s.2.2.2.2.2.2.2.2.2.2.2.2.2.2.2.2.2.2.1 s.2.2.2.2.2.2.2.2.2.2.2.2.2.2.2.2.2.2.2.1 s.2.2.2.2.2.2.2.2.2.2.2.2.2.2.2.2.2.2.2.2.1 s.2.2.2.2.2.2.2.2.2.2.2.2.2.2.2.2.2.2.2.2.2.1 s.2.2.2.2.2.2.2.2.2.2.2.2.2.2.2.2.2.2.2.2.2.2.1 s.2.2.2.2.2.2.2.2.2.2.2.2.2.2.2.2.2.2.2.2.2.2.2.1 s.2.2.2.2.2.2.2.2.2.2.2.2.2.2.2.2.2.2.2.2.2.2.2.2.1 s.2.2.2.2.2.2.2.2.2.2.2.2.2.2.2.2.2.2.2.2.2.2.2.2.2.1 s.2.2.2.2.2.2.2.2.2.2.2.2.2.2.2.2.2.2.2.2.2.2.2.2.2.2.1 s.2.2.2.2.2.2.2.2.2.2.2.2.2.2.2.2.2.2.2.2.2.2.2.2.2.2.2.1 s.2.2.2.2.2.2.2.2.2.2.2.2.2.2.2.2.2.2.2.2.2.2.2.2.2.2.2.2.1 s.2.2.2.2.2.2.2.2.2.2.2.2.2.2.2.2.2.2.2.2.2.2.2.2.2.2.2.2.2.1 s.2.2.2.2.2.2.2.2.2.2.2.2.2.2.2.2.2.2.2.2.2.2.2.2.2.2.2.2.2.2.1 s.2.2.2.2.2.2.2.2.2.2.2.2.2.2.2.2.2.2.2.2.2.2.2.2.2.2.2.2.2.2.2) (G,w,x,y,z,A,B,C,D,E,F,a,b,c,d,e,f,g,h,i,j,k,l,m,n,o,p,q,r,t,u,v)
def Y1 (b:List A7) (a:Int):Option Bool:=
 cond ((decide (a<1))||(decide (a>128))) (
  some false)<|
 A94 b a 0 0 0 0 0 0 0 0 0 0 0 0 0 0 0 0 0 0 0 0 0 0 0 0 0 0 0 0 0 0 0 0
def A1V (f:E3) (a:Int):Option (Int⊕Int):=
 cond (decide (a<(f.Ae.length:Int))) (
  Option.bind (D3 f.Ae a) fun b=>
  cond (((decide (b.Bt<1))||(decide (b.Bt>b.Bs)))||(decide (b.Bs>f.N))) (
   some (.inr 2))<|
  cond (decide (a>0)) (
   Option.bind (D3 f.Ae (A2 (a-1))) fun c=>
   cond (((decide (c.V>b.V))||(decide (c.Bt>=b.Bt)))||(decide (c.Bs>=b.Bs))) (
    some (.inr 2))<|
   some (.inl (A2 (a+1))))<|
  some (.inl (A2 (a+1))))<|
 Option.map Sum.inr (Option.bind (gd (decide ((f.Ae.length:Int)>(0:Int))) (D3 f.Ae 0)) fun d=>
 Option.bind (gd ((decide ((f.Ae.length:Int)>(0:Int)))&&(!(d.Bs !=1))) (D3 f.Ae (A2 ((f.Ae.length:Int)-(1:Int))))) fun e=>
 cond ((decide ((f.Ae.length:Int)>(0:Int)))&&((d.Bs !=1)||(e.Bt !=f.N))) (
  some 2)<|
 some 0)
def B0F (b:E3) (a:Int):Option Int:=
 loop (fun (s:Int)=>A1V b s) a
def R1 (a:E3):Option Int:=
 cond (((decide (a.N<0))||(decide (a.N>1099511627776)))||(!(((a.Ae.length:Int)==(0:Int))==(a.N==0)))) (
  some 2)<|
 B0F a 0
def B0D (e:E3) (b a:Int):Option ((Int×Int)⊕Int):=
 cond (decide (a<(e.Ae.length:Int))) (
  Option.bind (D3 e.Ae a) fun d=>
  Option.bind (D3 e.Ae (A2 (a-1))) fun c=>
  some (.inl ((A0U b (A2 (d.Bs-c.Bt))),(A2 (a+1)))))<|
 Option.map Sum.inr (some b)
def A7H (c:E3) (a b:Int):Option Int:=
 loop (fun (s:(Int×Int))=>B0D c s.1 s.2) (a,b)
def B31 (b:E3):Option Int:=
 Option.bind (R1 b) fun a=>
 cond ((a !=0)||((b.Ae.length:Int)==(0:Int))) (
  some 0)<|
 A7H b 1 1
def A2A (i:List C4) (h b:Int):Option (Int⊕Bool):=
 cond (decide (b<(i.length:Int))) (
  Option.bind (D3 i b) fun a=>
  Option.bind (R1 a.Bh) fun c=>
  ck (!(!(c !=0))||(decide (0<=(A8 a.Bc))))<|
  Option.bind (gd (!(((c !=0)||(a.Bh.N !=(F3 .i64 1 (A8 a.Bc))))||(decide ((a.Bh.Ae.length:Int)>(A2 (h+1)))))) (B31 a.Bh)) fun f=>
  Option.bind (gd (!(((c !=0)||(a.Bh.N !=(F3 .i64 1 (A8 a.Bc))))||(decide ((a.Bh.Ae.length:Int)>(A2 (h+1)))))) (A3L a.Bc h)) fun g=>
  cond ((((c !=0)||(a.Bh.N !=(F3 .i64 1 (A8 a.Bc))))||(decide ((a.Bh.Ae.length:Int)>(A2 (h+1)))))||(decide ((A2 (f-1))>g))) (
   some (.inr false))<|
  Option.bind (D3 a.Bh.Ae 0) fun e=>
  Option.bind (D3 a.Bh.Ae (A2 ((a.Bh.Ae.length:Int)-(1:Int)))) fun d=>
  cond ((((decide (e.V<(-4096:Int)))||(decide (d.V>4096)))||(decide (a.Bk<e.V)))||(decide (a.Bk>d.V))) (
   some (.inr false))<|
  some (.inl (A2 (b+1))))<|
 Option.map Sum.inr (some true)
def B02 (b:List C4) (c a:Int):Option Bool:=
 loop (fun (s:Int)=>A2A b c s) a
def A3p (d:List C4) (e c:Int):Option Bool:=
 Option.bind (gd (!((decide (c<1))||(decide (c>65536)))) (A14 d)) fun b=>
 Option.bind (gd (!((decide (c<1))||(decide (c>65536)))) (Y1 b e)) fun a=>
 cond (((decide (c<1))||(decide (c>65536)))||(!a)) (
  some false)<|
 B02 d c 0
def A09 (a:Int):E3:=
 (E3.mk 1 [(D7.mk a 1 1)])
def A57 (c:D7) (d:List D7) (e f a:Int):Option D7:=
 cond (decide (e<(d.length:Int))) (
  Option.bind (D3 d e) fun b=>
  some (D7.mk c.V a (A2 (c.Bs+(A2 (b.Bs-1))))))<|
 some (D7.mk c.V a (A2 (c.Bs+f)))
def B0G (b:D7) (d:List D7) (c e:Int):Option D7:=
 cond (decide (c>0)) (
  Option.bind (D3 d (A2 (c-1))) fun a=>
  A57 b d c e (A2 (b.Bt+a.Bt)))<|
 A57 b d c e b.Bt
def A7I (a:E3):Option E3:=
 ck (decide ((([]:List D7).length+a.Ae.length)*24<=140737488355328))<|
 some (E3.mk a.N (([]:List D7)++a.Ae))
def A7a (b:List D7) (c d:Int) (a:D7):Option ((Int×Int×(List D7))⊕(E3×Int)):=
 ck (decide ((b.length+ [a].length)*24<=140737488355328))<|
 some (.inl (c,d,(b++ [a])))
def B20 (j k:E3) (a b:Int) (c:List D7):Option ((Int×Int×(List D7))⊕(E3×Int)):=
 cond ((decide (a<(j.Ae.length:Int)))||(decide (b<(k.Ae.length:Int)))) (
  Option.bind (gd ((!(b==(k.Ae.length:Int)))&&(decide (a<(j.Ae.length:Int)))) (D3 j.Ae a)) fun d=>
  Option.bind (gd ((!(b==(k.Ae.length:Int)))&&(decide (a<(j.Ae.length:Int)))) (D3 k.Ae b)) fun e=>
  cond ((b==(k.Ae.length:Int))||((decide (a<(j.Ae.length:Int)))&&(decide (d.V<=e.V)))) (
   Option.bind (D3 j.Ae a) fun f=>
   Option.bind (B0G f k.Ae b k.N) fun g=>
   A7a c (A2 (a+1)) b g)<|
  Option.bind (D3 k.Ae b) fun h=>
  Option.bind (B0G h j.Ae a j.N) fun i=>
  A7a c a (A2 (b+1)) i)<|
 Option.map Sum.inr (some ((E3.mk (A2 (j.N+k.N)) c),0))
def C2q (d e:E3) (b c:Int) (a:List D7):Option (E3×Int):=
 loop (fun (s:(Int×Int×(List D7)))=>B20 d e s.1 s.2.1 s.2.2) (b,c,a)
def B32 (e f:E3):Option (E3×Int):=
 Option.bind (R1 e) fun a=>
 cond (a !=0) (
  some ((E3.mk 0 []),a))<|
 Option.bind (R1 f) fun b=>
 cond (b !=0) (
  some ((E3.mk 0 []),b))<|
 cond (decide (e.N>(A2 (1099511627776-f.N)))) (
  some ((E3.mk 0 []),5))<|
 cond (e.N==0) (
  Option.bind (A7I f) fun c=>
  some (c,0))<|
 cond (f.N==0) (
  Option.bind (A7I e) fun d=>
  some (d,0))<|
 C2q e f 0 0 ([]:List D7)
def B0H (a:D7) (b:Int):Int:=
 (A0U (A2 (b-a.Bt)) (A2 (a.Bs-b)))
def C0Q (f:List D7) (g a:Int):Option (Int⊕Int):=
 Option.bind (gd (decide ((A2 (a+1))<(f.length:Int))) (D3 f (A2 (a+1)))) fun e=>
 let b:=(B0H e g);
 Option.bind (gd (decide ((A2 (a+1))<(f.length:Int))) (D3 f a)) fun c=>
 let d:=(B0H c g);
 cond ((decide ((A2 (a+1))<(f.length:Int)))&&(decide (b<d))) (
  some (.inl (A2 (a+1))))<|
 Option.map Sum.inr (some a)
def C2t (b:List D7) (c a:Int):Option Int:=
 loop (fun (s:Int)=>C0Q b c s) a
def B33 (a:List D7) (b c:Int):Option Int:=
 C2t a b c
def B21 (g:E3) (h e f c:Int) (a:List D7):Option ((Int×Int×Int×(List D7))⊕(E3×Int)):=
 cond (decide (c<=h)) (
  ck (decide (h≠0))<|
  Option.bind (B33 g.Ae (A2 (1+(A2 (Int.tdiv (A2 (c*(A2 (g.N-1)))) h)))) f) fun b=>
  cond (b !=e) (
   Option.bind (D3 g.Ae b) fun d=>
   ck (decide ((a.length+ [d].length)*24<=140737488355328))<|
   some (.inl (b,b,(A2 (c+1)),(a++ [d]))))<|
  some (.inl (e,b,(A2 (c+1)),a)))<|
 Option.map Sum.inr (some ((E3.mk g.N a),0))
def C2r (e:E3) (f c d b:Int) (a:List D7):Option (E3×Int):=
 loop (fun (s:(Int×Int×Int×(List D7)))=>B21 e f s.1 s.2.1 s.2.2.1 s.2.2.2) (c,d,b,a)
def B9J (c:E3) (d:Int):Option (E3×Int):=
 Option.bind (R1 c) fun a=>
 cond (a !=0) (
  some ((E3.mk 0 []),a))<|
 cond ((decide (d<1))||(decide (d>65536))) (
  some ((E3.mk 0 []),1))<|
 cond (decide ((c.Ae.length:Int)<=(A2 (d+1)))) (
  Option.bind (A7I c) fun b=>
  some (b,0))<|
 C2r c d (-1:Int) 0 0 ([]:List D7)
def A8L (o p:Int) (b:List C4) (f d a:Int):Option (Int⊕(((List C4)×Int×Int)⊕(List C4))):=
 Option.bind (gd (decide (a>0)) (D3 b (A2 (a-1)))) fun n=>
 Option.bind (gd (decide (a>0)) (D3 b (A2 (a-1)))) fun i=>
 cond ((decide (a>0))&&(i.Bc==d)) (
  some (.inl (A2 (a-1))))<|
 Option.map Sum.inr (cond (decide ((A2 (f-a))<(A2 (o+2)))) (
  some (.inr b))<|
 Option.bind (D3 b a) fun l=>
 Option.bind (D3 b a) fun g=>
 Option.bind (D3 b (A2 (a+1))) fun m=>
 Option.bind (D3 b (A2 (a+1))) fun c=>
 Option.bind (B32 g.Bh c.Bh) fun h=>
 Option.bind (B9J h.1 p) fun e=>
 Option.bind (D3 b a) fun j=>
 Option.bind (D3 b a) fun k=>
 ck (decide (0<=(A2 (a+1))/\(A2 (a+1))<=((b.set (a).toNat (C4.mk c.T c.Bk (A2 (d+1)) e.1)).length:Int)))<|
 ck (decide (0<=(A2 (a+2))/\(A2 (a+2))<=((b.set (a).toNat (C4.mk c.T c.Bk (A2 (d+1)) e.1)).length:Int)))<|
 ck (decide (0<((A2 (a+(1:Int)))).toNat/\((A2 (a+(1:Int)))).toNat+(((b.set (a).toNat (C4.mk c.T c.Bk (A2 (d+1)) e.1)).drop ((A2 (a+(2:Int)))).toNat).take ((b.set (a).toNat (C4.mk c.T c.Bk (A2 (d+1)) e.1)).length-((A2 (a+(2:Int)))).toNat)).length<=(b.set (a).toNat (C4.mk c.T c.Bk (A2 (d+1)) e.1)).length))<|
 some (.inl (((b.set (a).toNat (C4.mk c.T c.Bk (A2 (d+1)) e.1)).take ((A2 (a+(1:Int)))).toNat++(((b.set (a).toNat (C4.mk c.T c.Bk (A2 (d+1)) e.1)).drop ((A2 (a+(2:Int)))).toNat).take ((b.set (a).toNat (C4.mk c.T c.Bk (A2 (d+1)) e.1)).length-((A2 (a+(2:Int)))).toNat))),(A2 (a+1)),(A2 (d+1)))))
def B73 (e f:Int) (a:List C4) (b c d:Int):Option (((List C4)×Int×Int)⊕(List C4)):=
 loop (fun (s:Int)=>A8L e f a b c s) d
def B6W (d e:Int) (b:List C4) (a c:Int):Option (((List C4)×Int×Int)⊕(List C4)):=
 B73 d e b a c a
def B72 (d e:Int) (a:List C4) (b c:Int):Option (List C4):=
 loop (fun (s:((List C4)×Int×Int))=>B6W d e s.1 s.2.1 s.2.2) (a,b,c)
def B4k (e:List C4) (h i f g:Int):Option (List C4):=
 Option.bind (A3p e h i) fun a=>
 Option.bind (gd ((!(((!a)||(decide (f<0)))||(decide (f>16777216))))&&(decide ((e.length:Int)>(0:Int)))) (D3 e (A2 ((e.length:Int)-(1:Int))))) fun c=>
 Option.bind (gd (!((((((!a)||(decide (f<0)))||(decide (f>16777216)))||((decide ((e.length:Int)>(0:Int)))&&(decide (c.T>f))))||(decide (g<(-4096:Int))))||(decide (g>4096)))) (A13 e)) fun d=>
 cond (((((((!a)||(decide (f<0)))||(decide (f>16777216)))||((decide ((e.length:Int)>(0:Int)))&&(decide (c.T>f))))||(decide (g<(-4096:Int))))||(decide (g>4096)))||(decide (d>=1073741824))) (
  some [])<|
 ck (decide ((([]:List C4).length+e.length)*56<=140737488355328))<|
 let b:=(A09 g);
 ck (decide (((([]:List C4)++e).length+ [(C4.mk f g 0 b)].length)*56<=140737488355328))<|
 B72 h i ((([]:List C4)++e)++ [(C4.mk f g 0 b)]) (((([]:List C4)++e)++ [(C4.mk f g 0 b)]).length:Int) 0
def B8V (f:List C4) (d a:Int) (b:List D7):Option ((Int×Int×(List D7))⊕(E3×Int)):=
 cond (decide (d<((f.drop ((1:Int)).toNat).length:Int))) (
  Option.bind (D3 (f.drop ((1:Int)).toNat) d) fun e=>
  Option.bind (B32 (E3.mk a b) e.Bh) fun c=>
  cond (c.2 !=0) (
   some (.inr ((E3.mk 0 []),c.2)))<|
  some (.inl ((A2 (d+1)),c.1.N,c.1.Ae)))<|
 Option.map Sum.inr (some ((E3.mk a b),0))
def C0j (d:List C4) (c a:Int) (b:List D7):Option (E3×Int):=
 loop (fun (s:(Int×Int×(List D7)))=>B8V d s.1 s.2.1 s.2.2) (c,a,b)
def A6Y (c:List C4) (a:Int) (b:List D7):Option (E3×Int):=
 ck (decide (0<=(1:Int)/\1<=(c.length:Int)))<|
 C0j c 0 a b
def B8U (h:List C4) (a:Int):Option (Int⊕(E3×Int)):=
 cond (decide (a<(h.length:Int))) (
  Option.bind (D3 h a) fun b=>
  Option.bind (R1 b.Bh) fun f=>
  cond (((f !=0)||(decide (b.Bc<0)))||(decide (b.Bc>30))) (
   some (.inr ((E3.mk 0 []),2)))<|
  some (.inl (A2 (a+1))))<|
 Option.map Sum.inr (cond ((h.length:Int)==(0:Int)) (
  some ((E3.mk 0 []),0))<|
 Option.bind (D3 h 0) fun g=>
 let d:=(A09 g.Bk);
 Option.bind (D3 h 0) fun e=>
 cond (e.Bc==0) (
  Option.bind (D3 h 0) fun c=>
  A6Y h c.Bh.N c.Bh.Ae)<|
 A6Y h d.N d.Ae)
def C0i (b:List C4) (a:Int):Option (E3×Int):=
 loop (fun (s:Int)=>B8U b s) a
def B1J (a:List C4):Option (E3×Int):=
 C0i a 0
def B6A (c:A3):Option Int:=
 cond (c.Hi !=0) (
  Option.bind (U7 c.Hi) fun a=>
  some (A2 (64+a)))<|
 Option.bind (U7 c.Lo) fun b=>
 some b
def R4 (a b:A3):Int:=
 cond ((decide (a.Hi<b.Hi))||((a.Hi==b.Hi)&&(decide (a.Lo<b.Lo)))) (
  (-1:Int))<|
 cond (a.Hi==b.Hi&&(a.Lo==b.Lo&&true)) (
  0)<|
 1
def C49 (b:A3) (a:Int):Option Int:=
 cond (decide (a>=64)) (
  ck (decide (0<=(A8 (A2 (a-64)))))<|
  some (S5 .u64 (G9 .u64 b.Hi (A8 (A2 (a-64)))) 1))<|
 ck (decide (0<=(A8 a)))<|
 some (S5 .u64 (G9 .u64 b.Lo (A8 a)) 1)
def B1E (a:A3):Bool:=
 ((a.Hi==0)&&(a.Lo==0))
def C45 (k j:A3) (e d b c a:Int):Option ((Int×Int×Int×Int×Int)⊕(A3×A3×Bool)):=
 cond (decide (e>=0)) (
  Option.bind (C49 k e) fun f=>
  let h:=(R4 (A3.mk (P0 .u64 (F3 .u64 c 1) (G9 .u64 a 63)) (P0 .u64 (F3 .u64 a 1) f)) j);
  cond (((G9 .u64 c (63:Int))==(1:Int))||(decide (h>=0))) (
   Option.bind (U8 (P0 .u64 (F3 .u64 a 1) f) j.Lo 0) fun g=>
   Option.bind (U8 (P0 .u64 (F3 .u64 c 1) (G9 .u64 a 63)) j.Hi g.2) fun i=>
   some (.inl ((A2 (e-1)),(P0 .u64 (F3 .u64 d 1) (G9 .u64 b 63)),(P0 .u64 (F3 .u64 b 1) 1),i.1,g.1)))<|
  some (.inl ((A2 (e-1)),(P0 .u64 (F3 .u64 d 1) (G9 .u64 b 63)),(F3 .u64 b 1),(P0 .u64 (F3 .u64 c 1) (G9 .u64 a 63)),(P0 .u64 (F3 .u64 a 1) f))))<|
 Option.map Sum.inr (some ((A3.mk d b),(A3.mk c a),true))
def C6a (f g:A3) (e a b c d:Int):Option (A3×A3×Bool):=
 loop (fun (s:(Int×Int×Int×Int×Int))=>C45 f g s.1 s.2.1 s.2.2.1 s.2.2.2.1 s.2.2.2.2) (e,a,b,c,d)
def A5z (c d:A3):Option (A3×A3×Bool):=
 let a:=(B1E d);
 cond a (
  some ((A3.mk 0 0),(A3.mk 0 0),false))<|
 Option.bind (B6A c) fun b=>
 C6a c d (A2 (b-1)) 0 0 0 0
def J6 (a:Int):A3:=
 (A3.mk 0 a)
def P3 (a b:Int):(Int×Int):=
 ((A8 ((A8 ((A8 ((G9 .u64 a 32)*(G9 .u64 b 32)))+(G9 .u64 (A8 ((A8 ((G9 .u64 a 32)*(S5 .u64 b 4294967295)))+(G9 .u64 (A8 ((S5 .u64 a 4294967295)*(S5 .u64 b 4294967295))) 32))) 32)))+(G9 .u64 (A8 ((S5 .u64 (A8 ((A8 ((G9 .u64 a 32)*(S5 .u64 b 4294967295)))+(G9 .u64 (A8 ((S5 .u64 a 4294967295)*(S5 .u64 b 4294967295))) 32))) 4294967295)+(A8 ((S5 .u64 a 4294967295)*(G9 .u64 b 32))))) 32))),(A8 (a*b)))
def N1 (b c:Int):A3:=
 let a:=(P3 b c);
 (A3.mk a.1 a.2)
def A5v (d:E3) (a:Int):Option (Int×Int):=
 Option.bind (B33 d.Ae (A0U 1 (A2 a)) 0) fun b=>
 Option.bind (D3 d.Ae b) fun c=>
 some (c.V,0)
def B4C (e:E3) (f g:Int):Option (Int×Int):=
 Option.bind (R1 e) fun b=>
 cond (b !=0) (
  some (0,b))<|
 cond (((decide (g<1))||(decide (f<0)))||(decide (f>g))) (
  some (0,1))<|
 cond (e.N==0) (
  some (0,7))<|
 let c:=(N1 (A8 f) (A8 e.N));
 let d:=(J6 (A8 g));
 Option.bind (A5z c d) fun a=>
 cond (!(a.2.1.Hi==0&&(a.2.1.Lo==0&&true))) (
  A5v e (A8 (a.1.Lo+1)))<|
 A5v e a.1.Lo
def B01 (c:List C4) (d e:Int):Option (Int×Int):=
 Option.bind (B1J c) fun a=>
 cond (a.2 !=0) (
  some (0,a.2))<|
 Option.bind (B4C a.1 d e) fun b=>
 some (b.1,b.2)
def A0a (a:Int):Int:=
 cond (decide (a<0)) (
  (IntKind.u64.wrap (0-(A8 a))))<|
 (A8 a)
def C46 (c d a b:Int):Option ((Int×Int×Int×Int)⊕A3):=
 let f:=(B1E (A3.mk a b));
 cond (!f) (
  Option.bind (A5z (A3.mk c d) (A3.mk a b)) fun e=>
  some (.inl (a,b,e.2.1.Hi,e.2.1.Lo)))<|
 Option.map Sum.inr (some (A3.mk c d))
def C6b (a b c d:Int):Option A3:=
 loop (fun (s:(Int×Int×Int×Int))=>C46 s.1 s.2.1 s.2.2.1 s.2.2.2) (a,b,c,d)
def B8H (a b:A3):Option A3:=
 C6b a.Hi a.Lo b.Hi b.Lo
def B7O (f:A5):Option Bool:=
 let d:=(A0a f.Bu);
 let e:=(J6 d);
 let c:=(J6 (A8 f.Bp));
 Option.bind (gd (decide (f.Bp>=1)) (B8H e c)) fun a=>
 let b:=(J6 1);
 some ((decide (f.Bp>=1))&&(a.Hi==b.Hi&&(a.Lo==b.Lo&&true)))
def T2 (b:A5):Option D2:=
 Option.bind (B7O b) fun a=>
 cond (!a) (
  some (D2.mk (A5.mk 0 0) (A5.mk 0 0) (A5.mk 0 0)))<|
 some (D2.mk b b b)
def S6 (a:Int):A5:=
 (A5.mk a 1)
def A15 (d e:Int):(D2×Bool):=
 cond (decide (d>e)) (
  ((D2.mk (A5.mk 0 0) (A5.mk 0 0) (A5.mk 0 0)),false))<|
 let a:=(S6 d);
 let b:=(S6 (A2 ((S5 .i64 d e)+(G9 .i64 (D0R .i64 d e) 1))));
 let c:=(S6 e);
 ((D2.mk a b c),true)
def B0E (b c:Int):Option (D2×Int):=
 let a:=(A15 b c);
 some (a.1,0)
def C2s (d:E3) (e c a:Int):Option ((Int×Int)⊕(D2×Int)):=
 cond (decide (a<(d.Ae.length:Int))) (
  Option.bind (D3 d.Ae a) fun b=>
  cond (decide (b.V>e)) (
   Option.map Sum.inr (B0E c (A2 (b.Bs-1))))<|
  some (.inl (b.Bt,(A2 (a+1)))))<|
 Option.map Sum.inr (B0E c d.N)
def C4w (c:E3) (d b a:Int):Option (D2×Int):=
 loop (fun (s:(Int×Int))=>C2s c d s.1 s.2) (b,a)
def C1T (b:E3) (c:Int):Option (D2×Int):=
 Option.bind (R1 b) fun a=>
 cond (a !=0) (
  some ((D2.mk (A5.mk 0 0) (A5.mk 0 0) (A5.mk 0 0)),a))<|
 C4w b c 0 0
def B7o (g:List C4) (h:Int):Option (D2×Int):=
 Option.bind (B1J g) fun b=>
 cond (b.2 !=0) (
  some ((D2.mk (A5.mk 0 0) (A5.mk 0 0) (A5.mk 0 0)),b.2))<|
 cond ((g.length:Int)==(0:Int)) (
  let e:=(S6 0);
  Option.bind (T2 e) fun f=>
  some (f,0))<|
 Option.bind (C1T b.1 h) fun a=>
 cond (a.2 !=0) (
  some ((D2.mk (A5.mk 0 0) (A5.mk 0 0) (A5.mk 0 0)),a.2))<|
 Option.bind (D3 g 0) fun c=>
 ck (decide (0<=(A8 c.Bc)))<|
 let d:=(A15 a.1.Lo.Bu (A2 ((A2 (a.1.Hi.Bu+(F3 .i64 1 (A8 c.Bc))))-1)));
 some (d.1,0)
def B5j (c:Int) (a:List A7):Option ((List A7)⊕(List A7)):=
 Option.bind (gd (decide ((a.length:Int)>(0:Int))) (D3 a 0)) fun b=>
 cond ((decide ((a.length:Int)>(0:Int)))&&(decide (b.T<c))) (
  ck (decide (0<=(1:Int)/\1<=(a.length:Int)))<|
  some (.inl (a.drop ((1:Int)).toNat)))<|
 Option.map Sum.inr (ck (decide ((([]:List A7).length+a.length)*16<=140737488355328))<|
 some (([]:List A7)++a))
def B6X (b:Int) (a:List A7):Option (List A7):=
 loop (fun (s:(List A7))=>B5j b s) a
def A60 (a:List A7) (b:Int):Option (List A7):=
 B6X b a
def A5A (k:Int) (b:List A7) (e d a:Int):Option (Int⊕(((List A7)×Int×Int)⊕(List A7))):=
 Option.bind (gd (decide (a>0)) (D3 b (A2 (a-1)))) fun j=>
 Option.bind (gd (decide (a>0)) (D3 b (A2 (a-1)))) fun f=>
 cond ((decide (a>0))&&(f.Bc==d)) (
  some (.inl (A2 (a-1))))<|
 Option.map Sum.inr (cond (decide ((A2 (e-a))<(A2 (k+2)))) (
  some (.inr b))<|
 Option.bind (D3 b (A2 (a+1))) fun i=>
 Option.bind (D3 b (A2 (a+1))) fun c=>
 Option.bind (D3 b a) fun g=>
 Option.bind (D3 b a) fun h=>
 ck (decide (0<=(A2 (a+1))/\(A2 (a+1))<=((b.set (a).toNat (A7.mk c.T (A2 (d+(1:Int))))).length:Int)))<|
 ck (decide (0<=(A2 (a+2))/\(A2 (a+2))<=((b.set (a).toNat (A7.mk c.T (A2 (d+(1:Int))))).length:Int)))<|
 ck (decide (0<((A2 (a+(1:Int)))).toNat/\((A2 (a+(1:Int)))).toNat+(((b.set (a).toNat (A7.mk c.T (A2 (d+(1:Int))))).drop ((A2 (a+(2:Int)))).toNat).take ((b.set (a).toNat (A7.mk c.T (A2 (d+(1:Int))))).length-((A2 (a+(2:Int)))).toNat)).length<=(b.set (a).toNat (A7.mk c.T (A2 (d+(1:Int))))).length))<|
 some (.inl (((b.set (a).toNat (A7.mk c.T (A2 (d+(1:Int))))).take ((A2 (a+(1:Int)))).toNat++(((b.set (a).toNat (A7.mk c.T (A2 (d+(1:Int))))).drop ((A2 (a+(2:Int)))).toNat).take ((b.set (a).toNat (A7.mk c.T (A2 (d+(1:Int))))).length-((A2 (a+(2:Int)))).toNat))),(A2 (a+1)),(A2 (d+1)))))
def B3A (e:Int) (a:List A7) (b c d:Int):Option (((List A7)×Int×Int)⊕(List A7)):=
 loop (fun (s:Int)=>A5A e a b c s) d
def B2c (d:Int) (b:List A7) (a c:Int):Option (((List A7)×Int×Int)⊕(List A7)):=
 B3A d b a c a
def B3z (d:Int) (a:List A7) (b c:Int):Option (List A7):=
 loop (fun (s:((List A7)×Int×Int))=>B2c d s.1 s.2.1 s.2.2) (a,b,c)
def A4A (a:List A7) (c b:Int):Option (List A7):=
 ck (decide ((a.length+ [(A7.mk b 0)].length)*16<=140737488355328))<|
 B3z c (a++ [(A7.mk b 0)]) ((a++ [(A7.mk b 0)]).length:Int) 0
def B1L (c:List A7) (d:Int):Option Bool:=
 let a:=(A0T d);
 Option.bind (gd (a&&(!((c.length:Int)==(0:Int)))) (D3 c (A2 ((c.length:Int)-(1:Int))))) fun b=>
 some (a&&(((c.length:Int)==(0:Int))||(decide (b.T<=d))))
def B2a (e:List A7) (f g:Int):Option (List A7):=
 Option.bind (Y1 e f) fun a=>
 Option.bind (gd (!(!a)) (B1L e g)) fun b=>
 Option.bind (gd (!((!a)||(!b))) (T5 e)) fun c=>
 cond (((!a)||(!b))||(decide (c>=1073741824))) (
  some [])<|
 ck (decide ((([]:List A7).length+e.length)*16<=140737488355328))<|
 Option.bind (A4A (([]:List A7)++e) f g) fun d=>
 some d
def B1K (d e a:Int) (b:List A7):Option ((Int×(List A7))⊕(List A7)):=
 cond (decide (a>0)) (
  Option.bind (A4A b d e) fun c=>
  some (.inl ((A2 (a-1)),c)))<|
 Option.map Sum.inr (some b)
def B2b (c d a:Int) (b:List A7):Option (List A7):=
 loop (fun (s:(Int×(List A7)))=>B1K c d s.1 s.2) (a,b)
def A7O (e:List A7) (f g d:Int):Option (List A7):=
 Option.bind (Y1 e f) fun a=>
 Option.bind (gd (!(!a)) (B1L e g)) fun b=>
 Option.bind (gd ((!((((!a)||(!b))||(decide (d<0)))||(decide (d>1024))))&&(decide (d>0))) (T5 e)) fun c=>
 cond (((((!a)||(!b))||(decide (d<0)))||(decide (d>1024)))||((decide (d>0))&&(decide (c>(A2 (1073741824-d)))))) (
  some [])<|
 ck (decide ((([]:List A7).length+e.length)*16<=140737488355328))<|
 B2b f g d (([]:List A7)++e)
def A5m (a b:Int):Option D2:=
 let c:=(A15 (A2 ((A2 (a-b))+1)) a);
 some c.1
def A8d (g:List A7):Option D2:=
 cond ((g.length:Int)==(0:Int)) (
  let c:=(S6 0);
  Option.bind (T2 c) fun d=>
  some d)<|
 Option.bind (T5 g) fun a=>
 Option.bind (D3 g 0) fun e=>
 let f:=(Y2 e.Bc);
 cond f (
  Option.bind (D3 g 0) fun b=>
  ck (decide (0<=(A8 b.Bc)))<|
  A5m a (F3 .i64 1 (A8 b.Bc)))<|
 A5m a 0
def A3s (f:B8) (a:Int):Option (Int⊕Int):=
 cond (decide (a<(f.Be.length:Int))) (
  Option.bind (D3 f.Be a) fun b=>
  cond (((((decide (b.V<(-4096:Int)))||(decide (b.V>4096)))||(decide (b.I<1)))||(decide (b.I>f.I)))||(decide (b.I<=(A2 (f.I-f.W))))) (
   some (.inr 2))<|
  Option.bind (gd (decide (a>0)) (D3 f.Be (A2 (a-1)))) fun c=>
  Option.bind (gd ((decide (a>0))&&(!(decide (b.I<=c.I)))) (D3 f.Be (A2 (a-1)))) fun d=>
  cond ((decide (a>0))&&((decide (b.I<=c.I))||(decide (b.I>(A2 (d.I+f.W)))))) (
   some (.inr 2))<|
  some (.inl (A2 (a+1))))<|
 Option.map Sum.inr (Option.bind (gd (!(decide (f.Bl<=f.I))) (D3 f.Be (A2 ((f.Be.length:Int)-(1:Int))))) fun e=>
 cond ((decide (f.Bl<=f.I))||(decide (f.Bl>(A2 (e.I+f.W))))) (
  some 2)<|
 some 0)
def A4C (b:B8) (a:Int):Option Int:=
 loop (fun (s:Int)=>A3s b s) a
def N8 (a:B8):Option Int:=
 cond (((((((decide (a.W<1))||(decide (a.W>1048576)))||(decide (a.Cap<1)))||(decide (a.Cap>64)))||(decide (a.I<0)))||(decide (a.I>1099511627776)))||(decide ((a.Be.length:Int)>a.Cap))) (
  some 2)<|
 cond (a.I==0) (
  cond ((decide ((a.Be.length:Int)>(0:Int)))||(a.Bl !=0)) (
   some 2)<|
  some 0)<|
 cond ((a.Be.length:Int)==(0:Int)) (
  some 2)<|
 A4C a 0
def C1u (e:List Int) (d f:Int):Option (Int×Int×Int):=
 cond ((decide (f<1))||(decide (d<0))) (
  some (0,0,1))<|
 Option.bind (gd (!(decide (d>=(e.length:Int)))) (D3 e d)) fun a=>
 Option.bind (gd (!((decide (d>=(e.length:Int)))||(decide (a<0)))) (D3 e d)) fun b=>
 cond (((decide (d>=(e.length:Int)))||(decide (a<0)))||(decide (b>=f))) (
  some (0,0,8))<|
 Option.bind (D3 e d) fun c=>
 some (c,(A2 (d+1)),0)
def A4D (b:K9) (c:Int):Option (Int×Int×K9):=
 Option.bind (C1u b.draws_ b.at_ c) fun a=>
 cond (a.2.2 !=0) (
  cond (decide (b.at_>=(b.draws_.length:Int))) (
   some (0,a.2.2,(K9.mk b.draws_ b.at_ c)))<|
  some (0,a.2.2,b))<|
 some (a.1,0,(K9.mk b.draws_ a.2.1 b.beyond_))
def B0i (d:B8) (c:List H0) (b:K9) (a:Int):Option (B8×Int×K9):=
 some ((B8.mk d.W d.Cap (A2 (d.I+1)) a c),0,b)
def A5T (e:B8) (f:Int) (c:List H0) (d:Bool) (a:K9):Option (B8×Int×K9):=
 cond d (
  cond ((c.length:Int)==e.Cap) (
   some ((B8.mk 0 0 0 0 []),9,a))<|
  ck (decide ((c.length+ [(H0.mk (A2 (e.I+1)) f)].length)*16<=140737488355328))<|
  Option.bind (A4D a e.W) fun b=>
  cond (b.2.1 !=0) (
   some ((B8.mk 0 0 0 0 []),b.2.1,b.2.2))<|
  B0i e (c++ [(H0.mk (A2 (e.I+1)) f)]) b.2.2 (A2 ((A2 ((A2 (e.I+(1:Int)))+(1:Int)))+b.1)))<|
 B0i e c a e.Bl
def C1q (d:B8) (f:Int) (e:K9):Option (B8×Int×K9):=
 cond ((decide (f<(-4096:Int)))||(decide (f>4096))) (
  some ((B8.mk 0 0 0 0 []),4,e))<|
 cond (decide (e.at_<0)) (
  some ((B8.mk 0 0 0 0 []),1,e))<|
 cond (d.I==1099511627776) (
  some ((B8.mk 0 0 0 0 []),5,e))<|
 ck (decide ((([]:List H0).length+d.Be.length)*16<=140737488355328))<|
 Option.bind (gd (decide (((([]:List H0)++d.Be).length:Int)>(0:Int))) (D3 (([]:List H0)++d.Be) 0)) fun c=>
 Option.bind (gd (decide (((([]:List H0)++d.Be).length:Int)>(0:Int))) (D3 (([]:List H0)++d.Be) 0)) fun b=>
 cond ((decide (((([]:List H0)++d.Be).length:Int)>(0:Int)))&&(b.I==(A2 ((A2 (d.I+1))-d.W)))) (
  ck (decide (0<=(1:Int)/\1<=((([]:List H0)++d.Be).length:Int)))<|
  A5T d f ((([]:List H0)++d.Be).drop ((1:Int)).toNat) (d.Bl==(A2 (d.I+1))) e)<|
 Option.bind (A4D e (A2b (A2 (d.I+1)) d.W)) fun a=>
 cond (a.2.1 !=0) (
  some ((B8.mk 0 0 0 0 []),a.2.1,a.2.2))<|
 cond (a.1==0) (
  A5T d f ([]:List H0) true a.2.2)<|
 A5T d f (([]:List H0)++d.Be) (d.Bl==(A2 (d.I+1))) a.2.2
def C1o (c:B8) (d:Int) (e:List Int) (f:Int):Option (B8×Int×Int):=
 Option.bind (N8 c) fun b=>
 cond (b !=0) (
  some ((B8.mk 0 0 0 0 []),0,b))<|
 Option.bind (C1q c d (K9.mk e f 0)) fun a=>
 cond (a.2.1 !=0) (
  some ((B8.mk 0 0 0 0 []),0,a.2.1))<|
 some (a.1,a.2.2.at_,0)
def C1p (c:B8):Option (Int×Int):=
 Option.bind (N8 c) fun a=>
 cond (a !=0) (
  some (0,a))<|
 cond ((c.Be.length:Int)==(0:Int)) (
  some (0,7))<|
 Option.bind (D3 c.Be 0) fun b=>
 some (b.V,0)
def P7 (a b:Int):(B8×Int):=
 cond ((((decide (a<1))||(decide (a>1048576)))||(decide (b<1)))||(decide (b>64))) (
  ((B8.mk 0 0 0 0 []),1))<|
 ((B8.mk a b 0 0 []),0)
def A5U (a:Int):Bool:=
 ((decide (a>=0))&&(decide (a<=16777216)))
def T6 (c b:Int):(Int×Int):=
 let a:=(A5U c);
 cond (!a) (
  (0,1))<|
 cond ((decide (b<c))||(decide (b>16777216))) (
  (0,3))<|
 (b,0)
def Z8 (c b:Int):Int:=
 let a:=(A5U c);
 cond (((!a)||(decide (b<1)))||(decide (b>1048576))) (
  (-1:Int))<|
 (A0U 0 (A2 ((A2 (c-b))+1)))
def N5 (d e c:Int):Bool:=
 let a:=(Z8 d e);
 let b:=(A5U c);
 ((((decide (a>=0))&&b)&&(decide (a<=c)))&&(decide (c<=d)))
def C2j (e:List Int) (a c b:Int):Option ((Int×Int×Int)⊕Int):=
 cond (decide (b<(e.length:Int))) (
  Option.bind (D3 e b) fun d=>
  some (.inl ((Int.tmod (A2 (a+(A2 d))) 65521),(Int.tmod (A2 (c+(Int.tmod (A2 (a+(A2 d))) 65521))) 65521),(A2 (b+1)))))<|
 Option.map Sum.inr (some (A2 ((A2 (65536*c))+a)))
def C3O (d:List Int) (a b c:Int):Option Int:=
 loop (fun (s:(Int×Int×Int))=>C2j d s.1 s.2.1 s.2.2) (a,b,c)
def B5y (a:List Int):Option Int:=
 C3O a 1 0 0
def C2 (b a:Bool) (c:Int):(Bool×Int):=
 ((a&&b),0)
def F9 (b a:Bool) (c d:Int):(Bool×Int×Int):=
 ((a&&b),0,0)
def B1 (a b c:Int):Bool:=
 ((decide (a>=b))&&(decide (a<=c)))
def A01 (f:E9) (d e:Bool×Int) (c a:Int) (b:Bool):Int:=
 cond ((!b)||(!(f.Bi==f.Bi&&(c==0&&(a==0&&(d.2==0&&(e.2==0&&(f.P==0&&(f.Am==0&&(f.Bs==0&&true)))))))))) (
  1)<|
 0
def A1r (h:E9) (a:Int) (d:Bool):Int:=
 let e:=(B1 h.K 1 64);
 let c:=(C2 e d h.K);
 let f:=(B1 h.Cap 1 65536);
 let b:=(C2 f c.1 h.Cap);
 cond (decide ((1048576:Int)>(0:Int))) (
  let g:=(B1 h.W 1 1048576);
  A01 h c b a 0 (b.1&&g))<|
 A01 h c b a h.W b.1
def A0l (d:E9) (c:Bool×Int) (a:Int) (b:Bool):Int:=
 cond ((!b)||(!(d.Bi==d.Bi&&(d.Bo==0&&(a==0&&(d.K==0&&(d.Cap==0&&(c.2==0&&(d.Am==0&&(d.Bs==0&&true)))))))))) (
  1)<|
 0
def A0m (c:E9) (a:Int) (b:Bool):Int:=
 cond ((!b)||(!(c.Bi==c.Bi&&(c.Bo==0&&(a==0&&(c.K==0&&(c.Cap==0&&(c.P==0&&(c.Am==0&&(c.Bs==0&&true)))))))))) (
  1)<|
 0
def A0n (d:E9) (c:Bool×Int×Int) (a:Int) (b:Bool):Int:=
 cond ((!b)||(!(d.Bi==d.Bi&&(d.Bo==0&&(a==0&&(d.K==0&&(c.2.2==0&&(d.P==0&&(c.2.1==0&&(d.Bs==0&&true)))))))))) (
  1)<|
 0
def A0o (d:E9) (c:Bool×Int×Int) (a:Int) (b:Bool):Int:=
 cond ((!b)||(!(d.Bi==d.Bi&&(d.Bo==0&&(a==0&&(c.2.1==0&&(c.2.2==0&&(d.P==0&&(d.Am==0&&(d.Bs==0&&true)))))))))) (
  1)<|
 0
def A0p (e:E9) (c d:Bool×Int) (a:Int) (b:Bool):Int:=
 cond ((!b)||(!(e.Bi==e.Bi&&(e.Bo==0&&(a==0&&(c.2==0&&(d.2==0&&(e.P==0&&(e.Am==0&&((0:Int)==(0:Int)&&true)))))))))) (
  1)<|
 0
def A0q (d:E9) (c:Bool×Int) (a:Int) (b:Bool):Int:=
 cond ((!b)||(!(d.Bi==d.Bi&&(d.Bo==0&&(a==0&&(d.K==0&&(c.2==0&&(d.P==0&&(d.Am==0&&((0:Int)==(0:Int)&&true)))))))))) (
  1)<|
 0
def A0r (d:E9) (c:Bool×Int) (a:Int) (b:Bool):Int:=
 cond ((!b)||(!(d.Bi==d.Bi&&(d.Bo==0&&(a==0&&(d.K==0&&(c.2==0&&(d.P==0&&(d.Am==0&&(d.Bs==0&&true)))))))))) (
  1)<|
 0
def V0 (f:E9) (d:Bool):Int:=
 cond d (
  A1r f f.Bo true)<|
 cond (f.Bi==8) (
  let e:=(B1 f.Bs 0 1);
  let b:=(B1 f.Cap 1 65536);
  let a:=(C2 b e f.Cap);
  cond (decide ((1048576:Int)>(0:Int))) (
   let c:=(B1 f.W 1 1048576);
   A0q f a 0 (a.1&&c))<|
  A0q f a f.W a.1)<|
 cond (f.Bi==1) (
  let b:=(B1 f.Cap 1 65536);
  let a:=(C2 b true f.Cap);
  cond (decide ((1048576:Int)>(0:Int))) (
   let c:=(B1 f.W 1 1048576);
   A0r f a 0 (a.1&&c))<|
  A0r f a f.W a.1)<|
 1
def U5 (q:E9):Int:=
 cond (q.Bi==6) (
  let h:=(B1 q.P 0 4);
  let d:=(C2 h true q.P);
  cond (decide ((0:Int)>(0:Int))) (
   let a:=(B1 q.W 1 0);
   A0l q d 0 (d.1&&a))<|
  A0l q d q.W d.1)<|
 cond (q.Bi==7) (
  cond (decide ((64:Int)>(0:Int))) (
   let a:=(B1 q.W 1 64);
   A0m q 0 a)<|
  A0m q q.W true)<|
 cond (q.Bi==9) (
  let i:=(B1 q.Am 1 16);
  let j:=(B1 q.Cap 1 64);
  let b:=(F9 (i&&j) true q.Am q.Cap);
  cond (decide ((1048576:Int)>(0:Int))) (
   let a:=(B1 q.W 1 1048576);
   A0n q b 0 (b.1&&a))<|
  A0n q b q.W b.1)<|
 cond (q.Bi==10) (
  let k:=(B1 q.K 1 64);
  let l:=(B1 q.Cap 2 65536);
  let c:=(F9 (k&&l) true q.K q.Cap);
  cond (decide ((0:Int)>(0:Int))) (
   let a:=(B1 q.W 1 0);
   A0o q c 0 (c.1&&a))<|
  A0o q c q.W c.1)<|
 cond (q.Bi==3) (
  let m:=(B1 q.Bs 1 1024);
  let n:=(B1 q.K 1 64);
  let f:=(C2 n m q.K);
  let o:=(B1 q.Cap 1 65536);
  let e:=(C2 o f.1 q.Cap);
  cond (decide ((1048576:Int)>(0:Int))) (
   let a:=(B1 q.W 1 1048576);
   A0p q f e 0 (e.1&&a))<|
  A0p q f e q.W e.1)<|
 cond (q.Bi==4) (
  let p:=(B1 q.Bo 1 4);
  let g:=(C2 p true q.Bo);
  A1r q g.2 g.1)<|
 cond (q.Bi==2) (
  V0 q (q.Bi==2))<|
 cond (q.Bi==5) (
  V0 q (q.Bi==5))<|
 V0 q (q.Bi==11)
def A4E (c:E9) (b:Int) (a:Bool):Bool:=
 cond a (
  (b==9))<|
 cond (c.Bi==8) (
  (b==6))<|
 cond (c.Bi==9) (
  (b==10))<|
 ((b==7)||(b==8))
def B2K (b:E9) (c:Int):Bool:=
 let a:=(U5 b);
 cond (a !=0) (
  false)<|
 cond (b.Bi==1) (
  ((decide (c>=1))&&(decide (c<=8))))<|
 cond (b.Bi==2) (
  (c==1))<|
 cond (b.Bi==3) (
  (c==2))<|
 cond (b.Bi==4) (
  ((A2 (c-1))==(A2 (b.Bo-1))))<|
 cond (b.Bi==5) (
  (c==5))<|
 cond (b.Bi==6) (
  A4E b c (b.Bi==6))<|
 A4E b c (b.Bi==7)
def A3R (a b c d:Int):Bool:=
 ((((((((decide (a>=1))&&(decide (a<=1048576)))&&(decide (b>=1)))&&(decide (b<=64)))&&(decide (c>=1)))&&(decide (c<=65536)))&&(decide (d>=0)))&&(decide (d<=16777216)))
def A1s (d:D4) (a:Int):Option (Int⊕Int):=
 cond (decide (a<(d.Ad.length:Int))) (
  Option.bind (D3 d.Ad a) fun b=>
  let c:=(N5 d.Now d.W b.T);
  cond (!c) (
   some (.inr 2))<|
  some (.inl (A2 (a+1))))<|
 Option.map Sum.inr (some 0)
def A8P (b:D4) (a:Int):Option Int:=
 loop (fun (s:Int)=>A1s b s) a
def Z4 (d:D4):Option Int:=
 let a:=(A3R d.W d.K d.Cap d.Now);
 Option.bind (gd (!(!a)) (Y1 d.Ad d.K)) fun b=>
 Option.bind (gd (!((!a)||(!b))) (T5 d.Ad)) fun c=>
 cond (((!a)||(!b))||(decide (c>d.Cap))) (
  some 2)<|
 A8P d 0
def C1s (d:D4):Option (D4×Int):=
 Option.bind (Z4 d) fun a=>
 cond (a !=0) (
  some ((D4.mk 0 0 0 0 []),a))<|
 Option.bind (T5 d.Ad) fun b=>
 cond (b==d.Cap) (
  some ((D4.mk 0 0 0 0 []),5))<|
 Option.bind (B2a d.Ad d.K d.Now) fun c=>
 some ((D4.mk d.W d.K d.Cap d.Now c),0)
def B4u (e:D4) (f:Int):Option (D4×Int):=
 Option.bind (Z4 e) fun a=>
 cond (a !=0) (
  some ((D4.mk 0 0 0 0 []),a))<|
 let b:=(T6 e.Now f);
 cond (b.2 !=0) (
  some ((D4.mk 0 0 0 0 []),b.2))<|
 let c:=(Z8 f e.W);
 Option.bind (A60 e.Ad c) fun d=>
 some ((D4.mk e.W e.K e.Cap f d),0)
def C1t (c:D4):Option (D2×Int):=
 Option.bind (Z4 c) fun a=>
 cond (a !=0) (
  some ((D2.mk (A5.mk 0 0) (A5.mk 0 0) (A5.mk 0 0)),a))<|
 Option.bind (A8d c.Ad) fun b=>
 some (b,0)
def A5E (b c d e:Int):(D4×Int):=
 let a:=(A3R b c d e);
 cond (!a) (
  ((D4.mk 0 0 0 0 []),1))<|
 ((D4.mk b c d e []),0)
def A71 (d:Int) (b:List D1) (c:Int):Option Bool:=
 Option.bind (D3 b d) fun a=>
 some (decide (a.ID>=c))
def B6l (d:List D1) (e a b:Int):Option ((Int×Int)⊕Int):=
 cond (decide (a<b)) (
  Option.bind (A71 (A2 (G9 .u64 (A8 (A2 (a+b))) 1)) d e) fun c=>
  cond (!c) (
   some (.inl ((A2 ((A2 (G9 .u64 (A8 (A2 (a+b))) (1:Int)))+(1:Int))),b)))<|
  some (.inl (a,(A2 (G9 .u64 (A8 (A2 (a+b))) 1)))))<|
 Option.map Sum.inr (some a)
def A9e (c:List D1) (d a b:Int):Option Int:=
 loop (fun (s:(Int×Int))=>B6l c d s.1 s.2) (a,b)
def A4l (c:Int) (a:List D1) (b:Int):Option Int:=
 A9e a b 0 c
def A0z (c:List D1) (d:Int):Option (Int×Bool):=
 Option.bind (A4l (c.length:Int) c d) fun a=>
 Option.bind (gd (decide (a<(c.length:Int))) (D3 c a)) fun b=>
 some (a,((decide (a<(c.length:Int)))&&(b.ID==d)))
def A4F (c:E4):Option (B0×Bool):=
 Option.bind (A0z c.Ap.Ah c.command_.ID) fun a=>
 cond (!a.2) (
  some ((B0.mk (E9.mk 0 0 0 0 0 0 0 0) (C6.mk 0 0 0 []) (D4.mk 0 0 0 0 []) (E8.mk 0 0 0 0 0 []) (C7.mk 0 0 0 0 0 0 []) (C8.mk 0 0 0 0 0 []) (D5.mk 0 0 0 []) (F6.mk 0 []) (B9.mk false 0 0 0 []) (F0.mk []) (B6.mk 0 0 0 []) (B7.mk 0 0 0 0 [])),false))<|
 Option.bind (D3 c.Ap.Ah a.1) fun b=>
 some (b.Ac,true)
def A3n (a:B0):Bool:=
 cond ((a.Ao.Bi !=1)&&((((a.Aq.W !=0)||(a.Aq.Cap !=0))||(a.Aq.Now !=0))||(decide ((a.Aq.Bb.length:Int)>(0:Int))))) (
  false)<|
 cond ((a.Ao.Bi !=2)&&(((((a.Ay.W !=0)||(a.Ay.K !=0))||(a.Ay.Cap !=0))||(a.Ay.Now !=0))||(decide ((a.Ay.Ad.length:Int)>(0:Int))))) (
  false)<|
 cond ((a.Ao.Bi !=3)&&((((((a.Sum.W !=0)||(a.Sum.K !=0))||(a.Sum.Cap !=0))||(a.Sum.Bs !=0))||(a.Sum.Now !=0))||(decide ((a.Sum.Ad.length:Int)>(0:Int))))) (
  false)<|
 cond ((a.Ao.Bi !=4)&&(((((((a.As.Bo !=0)||(a.As.W !=0))||(a.As.K !=0))||(a.As.Cap !=0))||(a.As.Now !=0))||(a.As.Bv !=0))||(decide ((a.As.Bf.length:Int)>(0:Int))))) (
  false)<|
 cond ((a.Ao.Bi !=5)&&((((((a.Au.W !=0)||(a.Au.K !=0))||(a.Au.Cap !=0))||(a.Au.Now !=0))||(a.Au.Bv !=0))||(decide ((a.Au.Bf.length:Int)>(0:Int))))) (
  false)<|
 cond ((a.Ao.Bi !=6)&&((((a.Bm.P !=0)||(a.Bm.Bj !=0))||(a.Bm.Now !=0))||(decide ((a.Bm.Ag.length:Int)>(0:Int))))) (
  false)<|
 cond ((a.Ao.Bi !=7)&&((a.Ba.Now !=0)||(decide ((a.Ba.Bn.length:Int)>(0:Int))))) (
  false)<|
 cond ((a.Ao.Bi !=8)&&((((a.Af.Bs||(a.Af.W !=0))||(a.Af.Cap !=0))||(a.Af.Now !=0))||(decide ((a.Af.Bb.length:Int)>(0:Int))))) (
  false)<|
 cond ((a.Ao.Bi !=9)&&(decide ((a.Ar.Am.length:Int)>(0:Int)))) (
  false)<|
 cond ((a.Ao.Bi !=10)&&((((a.Ai.K !=0)||(a.Ai.Cap !=0))||(a.Ai.N !=0))||(decide ((a.Ai.Av.length:Int)>(0:Int))))) (
  false)<|
 ((a.Ao.Bi==11)||(((((a.Ab.W==0)&&(a.Ab.K==0))&&(a.Ab.Cap==0))&&(a.Ab.Now==0))&&((a.Ab.Ak.length:Int)==(0:Int))))
def Q8 (c:Bool) (a b:Int):Bool:=
 cond c (
  (decide (a>=b)))<|
 (decide (a<=b))
def A3t (a b c:Int):Bool:=
 ((((((decide (a>=1))&&(decide (a<=1048576)))&&(decide (b>=1)))&&(decide (b<=65536)))&&(decide (c>=0)))&&(decide (c<=16777216)))
def A0F (g:B9) (a:Int):Option (Int⊕Int):=
 cond (decide (a<(g.Bb.length:Int))) (
  Option.bind (D3 g.Bb a) fun b=>
  let f:=(N5 g.Now g.W b.T);
  cond (((!f)||(decide (b.V<(-4096:Int))))||(decide (b.V>4096))) (
   some (.inr 2))<|
  Option.bind (gd (decide (a>0)) (D3 g.Bb (A2 (a-1)))) fun c=>
  Option.bind (gd ((decide (a>0))&&(!(decide (c.T>=b.T)))) (D3 g.Bb (A2 (a-1)))) fun d=>
  let e:=(Q8 g.Bs b.V d.V);
  cond ((decide (a>0))&&((decide (c.T>=b.T))||e)) (
   some (.inr 2))<|
  some (.inl (A2 (a+1))))<|
 Option.map Sum.inr (some 0)
def A6u (b:B9) (a:Int):Option Int:=
 loop (fun (s:Int)=>A0F b s) a
def V9 (b:B9):Option Int:=
 let a:=(A3t b.W b.Cap b.Now);
 cond ((!a)||(decide ((b.Bb.length:Int)>b.Cap))) (
  some 2)<|
 A6u b 0
def A1u (c:F6) (a:Int):Option (Int⊕Int):=
 cond (decide (a<(c.Bn.length:Int))) (
  Option.bind (D3 c.Bn a) fun b=>
  cond (((decide (b<0))||(decide (b>1099511627776)))||((b !=0)&&(decide (a>c.Now)))) (
   some (.inr 2))<|
  some (.inl (A2 (a+1))))<|
 Option.map Sum.inr (some 0)
def A8U (b:F6) (a:Int):Option Int:=
 loop (fun (s:Int)=>A1u b s) a
def Z6 (a:F6):Option Int:=
 cond ((((decide ((a.Bn.length:Int)<(1:Int)))||(decide ((a.Bn.length:Int)>(64:Int))))||(decide (a.Now<0)))||(decide (a.Now>16777216))) (
  some 2)<|
 A8U a 0
def B1k (a:Int):Bool:=
 ((decide (a>=0))&&(decide (a<=16777216)))
def A2R (c d:A3):Option (A3×Bool):=
 Option.bind (P2 c.Lo d.Lo 0) fun a=>
 Option.bind (P2 c.Hi d.Hi a.2) fun b=>
 cond (b.2 !=0) (
  some ((A3.mk 0 0),false))<|
 some ((A3.mk b.1 a.1),true)
def A48 (f a b c:Int):Option (A3×Bool):=
 let g:=(N1 a c);
 let d:=(N1 a b);
 cond (d.Hi !=0) (
  some ((A3.mk 0 0),false))<|
 Option.bind (A2R g (A3.mk d.Lo 0)) fun e=>
 some (e.1,e.2)
def A1L (a b:A3):Option (A3×Bool):=
 cond ((a.Hi !=0)&&(b.Hi !=0)) (
  some ((A3.mk 0 0),false))<|
 cond (a.Hi !=0) (
  A48 b.Hi b.Lo a.Hi a.Lo)<|
 A48 a.Hi a.Lo b.Hi b.Lo
def A1U (j:D5) (f:A3) (a:Int):Option (Int⊕Int):=
 cond (decide (a<=j.P)) (
  Option.bind (D3 j.Ag (A2 (a-1))) fun g=>
  Option.bind (D3 j.Ag a) fun h=>
  let c:=(R4 g h);
  cond (decide (c>0)) (
   some (.inr 2))<|
  Option.bind (D3 j.Ag (A2 (a-1))) fun i=>
  Option.bind (A1L i f) fun b=>
  Option.bind (gd b.2 (D3 j.Ag a)) fun d=>
  let e:=(R4 d b.1);
  cond (b.2&&(decide (e>0))) (
   some (.inr 2))<|
  some (.inl (A2 (a+1))))<|
 Option.map Sum.inr (some 0)
def B0B (c:D5) (a:A3) (b:Int):Option Int:=
 loop (fun (s:Int)=>A1U c a s) b
def A0y (c:D5):Option Int:=
 let a:=(B1k c.Now);
 cond ((((((decide (c.P<0))||(decide (c.P>4)))||(!a))||(decide (c.Bj<0)))||(decide (c.Bj>c.Now)))||((c.Ag.length:Int) !=(A2 (c.P+1)))) (
  some 2)<|
 let b:=(J6 (A8 (A2 ((A2 (c.Now-c.Bj))+1))));
 B0B c b 1
def B3V (b:Int):Option Int:=
 cond (decide (b<0)) (
  some 0)<|
 Option.bind (U7 (A8 b)) fun a=>
 some a
def Y4 (a b c d:Int):Bool:=
 ((((((((decide (a>=1))&&(decide (a<=1048576)))&&(decide (b>=1)))&&(decide (b<=64)))&&(decide (c>=1)))&&(decide (c<=65536)))&&(decide (d>=0)))&&(decide (d<=16777216)))
def A2U (c d:Int):Option Int:=
 let a:=(Y4 1 c d 0);
 cond (!a) (
  some 0)<|
 Option.bind (B3V d) fun b=>
 some (A2 ((A2 (2*c))*(A2 (b+2))))
def A0t (d:B7) (a:Int):Option (Int⊕Int):=
 cond (decide (a<(d.Ak.length:Int))) (
  Option.bind (D3 d.Ak a) fun b=>
  let c:=(N5 d.Now d.W b.T);
  cond (!c) (
   some (.inr 2))<|
  some (.inl (A2 (a+1))))<|
 Option.map Sum.inr (some 0)
def A56 (b:B7) (a:Int):Option Int:=
 loop (fun (s:Int)=>A0t b s) a
def S0 (e:B7):Option Int:=
 let a:=(Y4 e.W e.K e.Cap e.Now);
 Option.bind (gd (!(!a)) (A2U e.K e.Cap)) fun c=>
 Option.bind (gd (!(!a)) (A3p e.Ak (A2 (2*e.K)) c)) fun b=>
 Option.bind (gd (!((!a)||(!b))) (A13 e.Ak)) fun d=>
 cond (((!a)||(!b))||(decide (d>e.Cap))) (
  some 2)<|
 A56 e 0
def A9t (a:Int):Bool:=
 ((decide (a>=0))&&(decide (a<=16777216)))
def B9j (d:List D0) (e a:Int):Option (Int⊕Bool):=
 cond (decide (a<(d.length:Int))) (
  Option.bind (D3 d a) fun b=>
  Option.bind (gd ((!((decide (b.T<0))||(decide (b.T>e))))&&(decide (a>0))) (D3 d (A2 (a-1)))) fun c=>
  cond (((decide (b.T<0))||(decide (b.T>e)))||((decide (a>0))&&(decide (c.T>b.T)))) (
   some (.inr false))<|
  some (.inl (A2 (a+1))))<|
 Option.map Sum.inr (some true)
def C0A (b:List D0) (c a:Int):Option Bool:=
 loop (fun (s:Int)=>B9j b c s) a
def A7z (c:List D0) (b:Int):Option Bool:=
 let a:=(A9t b);
 cond (!a) (
  some false)<|
 C0A c b 0
def A4X (a b c:Int):Bool:=
 ((((((decide (a>=1))&&(decide (a<=1048576)))&&(decide (b>=1)))&&(decide (b<=65536)))&&(decide (c>=0)))&&(decide (c<=16777216)))
def A58 (a:Int):Bool:=
 ((decide (a>=(-4096:Int)))&&(decide (a<=4096)))
def A3b (e:C6) (a:Int):Option (Int⊕Int):=
 cond (decide (a<(e.Bb.length:Int))) (
  Option.bind (D3 e.Bb a) fun b=>
  let d:=(N5 e.Now e.W b.T);
  let c:=(A58 b.V);
  cond ((!d)||(!c)) (
   some (.inr 2))<|
  some (.inl (A2 (a+1))))<|
 Option.map Sum.inr (some 0)
def A7Z (b:C6) (a:Int):Option Int:=
 loop (fun (s:Int)=>A3b b s) a
def U9 (c:C6):Option Int:=
 let a:=(A4X c.W c.Cap c.Now);
 Option.bind (gd (!((!a)||(decide ((c.Bb.length:Int)>c.Cap)))) (A7z c.Bb c.Now)) fun b=>
 cond (((!a)||(decide ((c.Bb.length:Int)>c.Cap)))||(!b)) (
  some 2)<|
 A7Z c 0
def P8 (e:F0) (a:Int):Option (Int⊕Int):=
 cond (decide (a<(e.Am.length:Int))) (
  Option.bind (D3 e.Am a) fun b=>
  Option.bind (D3 e.Am 0) fun c=>
  Option.bind (N8 b) fun d=>
  cond ((((d !=0)||(b.W !=c.W))||(b.Cap !=c.Cap))||(b.I !=c.I)) (
   some (.inr 2))<|
  some (.inl (A2 (a+1))))<|
 Option.map Sum.inr (some 0)
def A1G (b:F0) (a:Int):Option Int:=
 loop (fun (s:Int)=>P8 b s) a
def P4 (a:F0):Option Int:=
 cond ((decide ((a.Am.length:Int)<(1:Int)))||(decide ((a.Am.length:Int)>(16:Int)))) (
  some 2)<|
 A1G a 0
def S7 (a d e b c:Int):Bool:=
 (((((decide (b>=(A2 (a*d))))&&(decide (b<=(A2 (a*e)))))&&(decide (c>=0)))&&(decide (c<=(A2 ((A2 (a*(4096:Int)))*(4096:Int))))))&&(decide ((A2 (b*b))<=(A2 (a*c)))))
def A3h (h:List B4) (i k j l m d:Int):Option (Int⊕Bool):=
 cond (decide (d<(h.length:Int))) (
  Option.bind (D3 h d) fun a=>
  cond ((((((decide (a.Bv<1))||(decide (a.Bv>i)))||(a.N !=(A2 ((A2 (i-a.Bv))+1))))||(decide (a.N>k)))||(decide (a.T<0)))||(decide (a.T>j))) (
   some (.inr false))<|
  let g:=(S7 a.N a.Bt a.Bs a.S a.Q);
  cond ((((decide (a.Bt<m))||(decide (a.Bs>4096)))||(decide (a.Bt>a.Bs)))||(!g)) (
   some (.inr false))<|
  let e:=(N5 j l a.T);
  cond (((decide (d>0))||((h.length:Int)==(1:Int)))&&(!e)) (
   some (.inr false))<|
  cond (d==0) (
   some (.inl (A2 (d+1))))<|
  Option.bind (D3 h (A2 (d-1))) fun b=>
  let f:=(S7 (A2 (b.N-a.N)) b.Bt b.Bs (A2 (b.S-a.S)) (A2 (b.Q-a.Q)));
  cond (((((decide (b.Bv>=a.Bv))||(decide (b.T>a.T)))||(decide (b.Bt>a.Bt)))||(decide (b.Bs<a.Bs)))||(!f)) (
   some (.inr false))<|
  some (.inl (A2 (d+1))))<|
 Option.map Sum.inr (cond ((h.length:Int)==(0:Int)) (
  some true)<|
 Option.bind (D3 h (A2 ((h.length:Int)-(1:Int)))) fun c=>
 some ((((c.Bv==i)&&(c.Bt==c.S))&&(c.Bs==c.S))&&(c.Q==(A2 (c.S*c.S)))))
def B2W (b:List B4) (c d e f g a:Int):Option Bool:=
 loop (fun (s:Int)=>A3h b c d e f g s) a
def A4W (b:List B4) (a c d e f:Int):Option Bool:=
 cond ((decide (a<0))||(decide (a>1099511627776))) (
  some false)<|
 B2W b a c d e f 0
def A3V (a b c d:Int):Bool:=
 ((((((((decide (a>=1))&&(decide (a<=1048576)))&&(decide (b>=1)))&&(decide (b<=64)))&&(decide (c>=1)))&&(decide (c<=65536)))&&(decide (d>=0)))&&(decide (d<=16777216)))
def A0b (b c d e f:Int):Bool:=
 let a:=(A3V c d e f);
 (((decide (b>=1))&&(decide (b<=4)))&&a)
def L6 (a:Int):Int:=
 cond ((a==2)||(a==3)) (
  0)<|
 (-4096:Int)
def B6M (a b:Int):(Int×Bool):=
 cond ((!((decide (a>=0))==(decide (b>=0))))&&(!((decide ((A2 (a-b))>=0))==(decide (a>=0))))) (
  (0,false))<|
 ((A2 (a-b)),true)
def S1 (b:B4) (c:Int):Int:=
 cond (c==1) (
  b.N)<|
 cond (c==2) (
  b.S)<|
 cond (c==3) (
  b.Q)<|
 cond (c==4) (
  let a:=(B6M b.Bs b.Bt);
  a.1)<|
 0
def K4 (e f:B4) (c d:Int):Bool:=
 let a:=(S1 f c);
 let b:=(S1 e c);
 (decide ((A2 ((A2 (d+1))*a))>=(A2 (d*b))))
def A04 (h:C7) (a:Int):Option (Int⊕Int):=
 cond (decide (a<(h.Bf.length:Int))) (
  Option.bind (D3 h.Bf a) fun b=>
  Option.bind (gd (decide (a>=2)) (D3 h.Bf (A2 (a-2)))) fun g=>
  let d:=(K4 g b h.Bo h.K);
  cond ((decide (a>=2))&&d) (
   some (.inr 2))<|
  Option.bind (gd (decide (a>=1)) (D3 h.Bf (A2 (a-1)))) fun c=>
  Option.bind (gd ((decide (a>=1))&&(decide ((A2 (b.Bv-c.Bv))>1))) (D3 h.Bf (A2 (a-1)))) fun e=>
  let f:=(K4 e b h.Bo h.K);
  cond (((decide (a>=1))&&(decide ((A2 (b.Bv-c.Bv))>1)))&&(!f)) (
   some (.inr 2))<|
  some (.inl (A2 (a+1))))<|
 Option.map Sum.inr (some 0)
def A72 (b:C7) (a:Int):Option Int:=
 loop (fun (s:Int)=>A04 b s) a
def X6 (d:C7):Option Int:=
 let a:=(A0b d.Bo d.W d.K d.Cap d.Now);
 let b:=(L6 d.Bo);
 Option.bind (gd (!(!a)) (A4W d.Bf d.Bv d.Cap d.Now d.W b)) fun c=>
 cond ((!a)||(!c)) (
  some 2)<|
 A72 d 0
def A2p (a:B4):Bool:=
 cond ((((((decide (a.N<1))||(decide (a.N>65536)))||(decide (a.S<(A2 ((IntKind.i64.wrap (0-a.N))*4096)))))||(decide (a.S>(A2 (a.N*4096)))))||(decide (a.Q<0)))||(decide (a.Q>(A2 ((A2 (a.N*(4096:Int)))*(4096:Int)))))) (
  false)<|
 (decide ((A2 (a.S*a.S))<=(A2 (a.N*a.Q))))
def X9 (a:B4):Int:=
 (A2 ((A2 (a.N*a.Q))-(A2 (a.S*a.S))))
def A3F (m n:B4) (l:Int):Option Bool:=
 let c:=(A2p m);
 let d:=(A2p n);
 cond ((((!c)||(!d))||(decide (l<1)))||(decide (l>64))) (
  some false)<|
 cond (decide ((A2 ((A2 (6*l))*n.N))<(A2 ((A2 ((A2 (6*l))-1))*m.N)))) (
  some false)<|
 let e:=(X9 n);
 let f:=(N1 (A8 e) (A8 m.N));
 let g:=(J6 (A8 (A2 (6*l))));
 Option.bind (A1L f g) fun a=>
 let h:=(X9 m);
 let i:=(N1 (A8 h) (A8 n.N));
 let j:=(J6 (A8 (A2 ((A2 (6*l))-1))));
 Option.bind (A1L i j) fun b=>
 let k:=(R4 a.1 b.1);
 some (decide (k>=0))
def A05 (e:C8) (a:Int):Option (Int⊕Int):=
 cond (decide (a<(e.Bf.length:Int))) (
  Option.bind (D3 e.Bf (A2 (a-2))) fun c=>
  Option.bind (D3 e.Bf a) fun d=>
  Option.bind (A3F c d e.K) fun b=>
  cond b (
   some (.inr 2))<|
  some (.inl (A2 (a+1))))<|
 Option.map Sum.inr (some 0)
def A73 (b:C8) (a:Int):Option Int:=
 loop (fun (s:Int)=>A05 b s) a
def X8 (c:C8):Option Int:=
 let a:=(A3V c.W c.K c.Cap c.Now);
 Option.bind (gd (!(!a)) (A4W c.Bf c.Bv c.Cap c.Now c.W (-4096:Int))) fun b=>
 cond ((!a)||(!b)) (
  some 2)<|
 A73 c 2
def A7q (a b c d e:Int):Bool:=
 ((((((((((decide (a>=1))&&(decide (a<=1048576)))&&(decide (b>=1)))&&(decide (b<=64)))&&(decide (c>=1)))&&(decide (c<=65536)))&&(decide (d>=1)))&&(decide (d<=1024)))&&(decide (e>=0)))&&(decide (e<=16777216)))
def A2L (d:E8) (a:Int):Option (Int⊕Int):=
 cond (decide (a<(d.Ad.length:Int))) (
  Option.bind (D3 d.Ad a) fun b=>
  let c:=(N5 d.Now d.W b.T);
  cond (!c) (
   some (.inr 2))<|
  some (.inl (A2 (a+1))))<|
 Option.map Sum.inr (some 0)
def B1A (b:E8) (a:Int):Option Int:=
 loop (fun (s:Int)=>A2L b s) a
def A00 (d:E8):Option Int:=
 let a:=(A7q d.W d.K d.Cap d.Bs d.Now);
 Option.bind (gd (!(!a)) (Y1 d.Ad d.K)) fun b=>
 Option.bind (gd (!((!a)||(!b))) (T5 d.Ad)) fun c=>
 cond (((!a)||(!b))||(decide (c>d.Cap))) (
  some 2)<|
 B1A d 0
def A3G (b a:Int):Option Int:=
 ck (decide (a≠0))<|
 some (A0U 1 (A2 (Int.tdiv b a)))
def A0I (h:B6) (d e b:Int):Option ((Int×Int)⊕Int):=
 cond (decide (b<(h.Av.length:Int))) (
  Option.bind (D3 h.Av b) fun a=>
  Option.bind (gd ((!((decide (a.V<(-4096:Int)))||(decide (a.V>4096))))&&(decide (b>0))) (D3 h.Av (A2 (b-1)))) fun f=>
  cond (((decide (a.V<(-4096:Int)))||(decide (a.V>4096)))||((decide (b>0))&&(decide (f.V>a.V)))) (
   some (.inr 2))<|
  cond ((((decide (a.G<1))||(decide (a.D<0)))||(decide (a.G>d)))||(decide (a.D>(A2 (d-a.G))))) (
   some (.inr 2))<|
  some (.inl ((A2 (e+a.G)),(A2 (b+1)))))<|
 Option.map Sum.inr (Option.bind (D3 h.Av 0) fun c=>
 Option.bind (D3 h.Av (A2 ((h.Av.length:Int)-(1:Int)))) fun g=>
 cond ((((e !=h.N)||(c.G !=1))||(c.D !=0))||(g.D !=0)) (
  some 2)<|
 some 0)
def A6M (d:B6) (b c a:Int):Option Int:=
 loop (fun (s:(Int×Int))=>A0I d b s.1 s.2) (c,a)
def W1 (b:B6):Option Int:=
 cond (((((((decide (b.K<1))||(decide (b.K>64)))||(decide (b.Cap<2)))||(decide (b.Cap>65536)))||(decide (b.N<0)))||(decide (b.N>1099511627776)))||(decide ((b.Av.length:Int)>b.Cap))) (
  some 2)<|
 cond (b.N==0) (
  cond (decide ((b.Av.length:Int)>(0:Int))) (
   some 2)<|
  some 0)<|
 cond ((b.Av.length:Int)==(0:Int)) (
  some 2)<|
 Option.bind (A3G b.N b.K) fun a=>
 A6M b a 0 0
def A4n (n:B0):Option Bool:=
 cond (n.Ao.Bi==1) (
  Option.bind (U9 n.Aq) fun l=>
  some (((l==0)&&(n.Aq.W==n.Ao.W))&&(n.Aq.Cap==n.Ao.Cap)))<|
 cond (n.Ao.Bi==2) (
  Option.bind (Z4 n.Ay) fun m=>
  some ((((m==0)&&(n.Ay.W==n.Ao.W))&&(n.Ay.K==n.Ao.K))&&(n.Ay.Cap==n.Ao.Cap)))<|
 cond (n.Ao.Bi==3) (
  Option.bind (A00 n.Sum) fun d=>
  some (((((d==0)&&(n.Sum.W==n.Ao.W))&&(n.Sum.K==n.Ao.K))&&(n.Sum.Cap==n.Ao.Cap))&&(n.Sum.Bs==n.Ao.Bs)))<|
 cond (n.Ao.Bi==4) (
  Option.bind (X6 n.As) fun e=>
  some (((((e==0)&&(n.As.W==n.Ao.W))&&(n.As.K==n.Ao.K))&&(n.As.Cap==n.Ao.Cap))&&(n.As.Bo==n.Ao.Bo)))<|
 cond (n.Ao.Bi==5) (
  Option.bind (X8 n.Au) fun f=>
  some ((((f==0)&&(n.Au.W==n.Ao.W))&&(n.Au.K==n.Ao.K))&&(n.Au.Cap==n.Ao.Cap)))<|
 cond (n.Ao.Bi==6) (
  Option.bind (A0y n.Bm) fun g=>
  some ((g==0)&&(n.Bm.P==n.Ao.P)))<|
 cond (n.Ao.Bi==7) (
  Option.bind (Z6 n.Ba) fun h=>
  some ((h==0)&&((n.Ba.Bn.length:Int)==n.Ao.W)))<|
 cond (n.Ao.Bi==8) (
  Option.bind (V9 n.Af) fun i=>
  some ((((i==0)&&(n.Af.W==n.Ao.W))&&(n.Af.Cap==n.Ao.Cap))&&(n.Af.Bs==(n.Ao.Bs==1))))<|
 cond (n.Ao.Bi==9) (
  Option.bind (P4 n.Ar) fun a=>
  Option.bind (gd ((a==0)&&((n.Ar.Am.length:Int)==n.Ao.Am)) (D3 n.Ar.Am 0)) fun b=>
  Option.bind (gd (((a==0)&&((n.Ar.Am.length:Int)==n.Ao.Am))&&(b.W==n.Ao.W)) (D3 n.Ar.Am 0)) fun c=>
  some ((((a==0)&&((n.Ar.Am.length:Int)==n.Ao.Am))&&(b.W==n.Ao.W))&&(c.Cap==n.Ao.Cap)))<|
 cond (n.Ao.Bi==10) (
  Option.bind (W1 n.Ai) fun j=>
  some (((j==0)&&(n.Ai.K==n.Ao.K))&&(n.Ai.Cap==n.Ao.Cap)))<|
 Option.bind (S0 n.Ab) fun k=>
 some ((((k==0)&&(n.Ab.W==n.Ao.W))&&(n.Ab.K==n.Ao.K))&&(n.Ab.Cap==n.Ao.Cap))
def K6 (d:B0):Option Int:=
 let a:=(U5 d.Ao);
 Option.bind (gd (!(a !=0)) (A4n d)) fun c=>
 let b:=(A3n d);
 cond (((a !=0)||(!c))||(!b)) (
  some 2)<|
 some 0
def A3E (e:List D1) (a:Int):Option (Int⊕Bool):=
 cond (decide (a<(e.length:Int))) (
  Option.bind (D3 e a) fun b=>
  Option.bind (gd ((!((decide (b.ID<0))||(decide (b.ID>1048576))))&&(decide (a>0))) (D3 e (A2 (a-1)))) fun c=>
  Option.bind (gd (!(((decide (b.ID<0))||(decide (b.ID>1048576)))||((decide (a>0))&&(decide (c.ID>=b.ID))))) (K6 b.Ac)) fun d=>
  cond ((((decide (b.ID<0))||(decide (b.ID>1048576)))||((decide (a>0))&&(decide (c.ID>=b.ID))))||(d !=0)) (
   some (.inr false))<|
  some (.inl (A2 (a+1))))<|
 Option.map Sum.inr (some true)
def A0D (b:List D1) (a:Int):Option Bool:=
 loop (fun (s:Int)=>A3E b s) a
def Q3 (b:List D1) (a:Int):Option Bool:=
 cond (((decide (a<1))||(decide (a>64)))||(decide ((b.length:Int)>a))) (
  some false)<|
 A0D b 0
def B0M (f:List D1) (g:D1):Option ((List D1)×Int):=
 Option.bind (Q3 f 64) fun b=>
 Option.bind (gd (!(!b)) (K6 g.Ac)) fun c=>
 cond ((!b)||(c !=0)) (
  some ([],2))<|
 Option.bind (A0z f g.ID) fun a=>
 cond (!a.2) (
  some ([],11))<|
 ck (decide ((([]:List D1).length+f.length)*640<=140737488355328))<|
 Option.bind (D3 (([]:List D1)++f) a.1) fun d=>
 Option.bind (D3 (([]:List D1)++f) a.1) fun e=>
 some (((([]:List D1)++f).set (a.1).toNat g),0)
def B9n (f:B9) (g:Int) (a:List D0):Option ((List D0)⊕(B9×Int)):=
 Option.bind (gd (decide ((a.length:Int)>(0:Int))) (D3 a (A2 ((a.length:Int)-(1:Int))))) fun c=>
 let d:=(Q8 f.Bs g c.V);
 cond ((decide ((a.length:Int)>(0:Int)))&&d) (
  ck (decide (0<=(A2 ((a.length:Int)-(1:Int)))/\(A2 ((a.length:Int)-(1:Int)))<=(a.length:Int)))<|
  some (.inl (a.take ((A2 ((a.length:Int)-(1:Int)))).toNat)))<|
 Option.map Sum.inr (ck (decide ((([]:List D0).length+a.length)*16<=140737488355328))<|
 Option.bind (gd (!(((([]:List D0)++a).length:Int)==(0:Int))) (D3 (([]:List D0)++a) (A2 (((([]:List D0)++a).length:Int)-(1:Int))))) fun e=>
 Option.bind (gd (!(((([]:List D0)++a).length:Int)==(0:Int))) (D3 (([]:List D0)++a) (A2 (((([]:List D0)++a).length:Int)-(1:Int))))) fun b=>
 cond ((((([]:List D0)++a).length:Int)==(0:Int))||(decide (b.T<f.Now))) (
  cond (((([]:List D0)++a).length:Int)==f.Cap) (
   some ((B9.mk false 0 0 0 []),5))<|
  ck (decide (((([]:List D0)++a).length+ [(D0.mk f.Now g)].length)*16<=140737488355328))<|
  some ((B9.mk f.Bs f.W f.Cap f.Now ((([]:List D0)++a)++ [(D0.mk f.Now g)])),0))<|
 some ((B9.mk f.Bs f.W f.Cap f.Now (([]:List D0)++a)),0))
def C0D (b:B9) (c:Int) (a:List D0):Option (B9×Int):=
 loop (fun (s:(List D0))=>B9n b c s) a
def B7B (b:B9) (c:Int):Option (B9×Int):=
 Option.bind (V9 b) fun a=>
 cond (a !=0) (
  some ((B9.mk false 0 0 0 []),a))<|
 cond ((decide (c<(-4096:Int)))||(decide (c>4096))) (
  some ((B9.mk false 0 0 0 []),4))<|
 C0D b c b.Bb
def C1E (g:F6) (h:Int):Option (F6×Int):=
 Option.bind (Z6 g) fun a=>
 cond (a !=0) (
  some ((F6.mk 0 []),a))<|
 cond ((decide (h<0))||(decide (h>4096))) (
  some ((F6.mk 0 []),4))<|
 Option.bind (D3 g.Bn 0) fun b=>
 cond (decide (b>(A2 (1099511627776-h)))) (
  some ((F6.mk 0 []),6))<|
 ck (decide ((([]:List Int).length+g.Bn.length)*8<=140737488355328))<|
 Option.bind (D3 (([]:List Int)++g.Bn) 0) fun d=>
 Option.bind (D3 (([]:List Int)++g.Bn) 0) fun c=>
 Option.bind (D3 (([]:List Int)++g.Bn) 0) fun e=>
 Option.bind (D3 (([]:List Int)++g.Bn) 0) fun f=>
 some ((F6.mk g.Now ((([]:List Int)++g.Bn).set ((0:Int)).toNat (A2 (c+h)))),0)
def C47 (f d a b:Int):Option ((Int×Int×Int)⊕(A3×Bool)):=
 cond (decide (d>0)) (
  let e:=(J6 f);
  Option.bind (A1L (A3.mk a b) e) fun c=>
  cond (!c.2) (
   some (.inr ((A3.mk 0 0),false)))<|
  some (.inl ((A2 (d-1)),c.1.Hi,c.1.Lo)))<|
 Option.map Sum.inr (some ((A3.mk a b),true))
def C6c (d c a b:Int):Option (A3×Bool):=
 loop (fun (s:(Int×Int×Int))=>C47 d s.1 s.2.1 s.2.2) (c,a,b)
def B8I (c d:Int):Option (A3×Bool):=
 cond (decide (d<0)) (
  some ((A3.mk 0 0),false))<|
 cond (decide (c<=1)) (
  cond ((c==0)&&(decide (d>0))) (
   some ((A3.mk 0 0),true))<|
  let b:=(J6 1);
  some (b,true))<|
 let a:=(J6 1);
 C6c c d a.Hi a.Lo
def C4t (j:D5) (k:Int) (b:List A3) (a:Int):Option (((List A3)×Int)⊕(D5×Int)):=
 cond (decide (a<((List.replicate ((j.Ag.length:Int)).toNat (A3.mk 0 (0:Int))).length:Int))) (
  Option.bind (B8I (A8 (A2 ((A2 (j.Now-j.Bj))+1))) a) fun d=>
  let e:=(J6 (A8 k));
  Option.bind (A1L d.1 e) fun f=>
  Option.bind (D3 j.Ag a) fun g=>
  Option.bind (A2R g f.1) fun c=>
  cond (!c.2) (
   some (.inr ((D5.mk 0 0 0 []),6)))<|
  Option.bind (D3 b a) fun h=>
  Option.bind (D3 b a) fun i=>
  some (.inl ((b.set (a).toNat c.1),(A2 (a+1)))))<|
 Option.map Sum.inr (some ((D5.mk j.P j.Bj j.Now b),0))
def C5N (c:D5) (d:Int) (b:List A3) (a:Int):Option (D5×Int):=
 loop (fun (s:((List A3)×Int))=>C4t c d s.1 s.2) (b,a)
def C4s (b:D5) (c:Int):Option (D5×Int):=
 Option.bind (A0y b) fun a=>
 cond (a !=0) (
  some ((D5.mk 0 0 0 []),a))<|
 cond ((decide (c<0))||(decide (c>4096))) (
  some ((D5.mk 0 0 0 []),4))<|
 ck (decide (0<=(b.Ag.length:Int)/\(b.Ag.length:Int)<=(b.Ag.length:Int)/\(b.Ag.length:Int)*16<=140737488355328/\(b.Ag.length:Int)<=140737488355328))<|
 C5N b c (List.replicate ((b.Ag.length:Int)).toNat (A3.mk 0 0)) 0
def B52 (e:B7) (f:Int):Option (B7×Int):=
 Option.bind (S0 e) fun a=>
 cond (a !=0) (
  some ((B7.mk 0 0 0 0 []),a))<|
 cond ((decide (f<(-4096:Int)))||(decide (f>4096))) (
  some ((B7.mk 0 0 0 0 []),4))<|
 Option.bind (A13 e.Ak) fun c=>
 cond (c==e.Cap) (
  some ((B7.mk 0 0 0 0 []),5))<|
 Option.bind (A2U e.K e.Cap) fun d=>
 Option.bind (B4k e.Ak (A2 (2*e.K)) d e.Now f) fun b=>
 some ((B7.mk e.W e.K e.Cap e.Now b),0)
def B9M (c:C6) (d:Int):Option (C6×Int):=
 Option.bind (U9 c) fun a=>
 cond (a !=0) (
  some ((C6.mk 0 0 0 []),a))<|
 let b:=(A58 d);
 cond (!b) (
  some ((C6.mk 0 0 0 []),4))<|
 cond ((c.Bb.length:Int)==c.Cap) (
  some ((C6.mk 0 0 0 []),5))<|
 ck (decide (0<=(c.Bb.length:Int)/\(c.Bb.length:Int)=(c.Bb.length:Int)/\(c.Bb.length:Int)<=(c.Bb.length:Int)))<|
 ck (decide ([(D0.mk c.Now d)]≠ []/\((c.Bb.take ((c.Bb.length:Int)).toNat).length+ [(D0.mk c.Now d)].length)*16<=140737488355328))<|
 some ((C6.mk c.W c.Cap c.Now ((c.Bb.take ((c.Bb.length:Int)).toNat)++ [(D0.mk c.Now d)])),0)
def B3c (f:F0) (h:Int) (g:List Int) (d c:Int) (a:List B8):Option ((Int×Int×(List B8))⊕(F0×Int)):=
 cond (decide (c<(f.Am.length:Int))) (
  Option.bind (D3 f.Am c) fun e=>
  Option.bind (C1o e h g d) fun b=>
  cond (b.2.2 !=0) (
   some (.inr ((F0.mk []),b.2.2)))<|
  ck (decide ((a.length+ [b.1].length)*56<=140737488355328))<|
  some (.inl (b.2.1,(A2 (c+1)),(a++ [b.1]))))<|
 Option.map Sum.inr (cond (decide (d<(g.length:Int))) (
  some ((F0.mk []),8))<|
 some ((F0.mk a),0))
def C2x (d:F0) (e:Int) (f:List Int) (b c:Int) (a:List B8):Option (F0×Int):=
 loop (fun (s:(Int×Int×(List B8)))=>B3c d e f s.1 s.2.1 s.2.2) (b,c,a)
def B9T (b:F0) (c:Int) (d:List Int):Option (F0×Int):=
 Option.bind (P4 b) fun a=>
 cond (a !=0) (
  some ((F0.mk []),a))<|
 C2x b c d 0 0 ([]:List B8)
def B4z (e:List B4) (f g d:Int) (b:List B4) (c:Int):Option (((List B4)×Int)⊕(List B4)):=
 cond (decide (c<(e.length:Int))) (
  Option.bind (D3 e c) fun a=>
  ck (decide ((b.length+ [(B4.mk a.Bv a.T (A2 (a.N+1)) (A2 (a.S+d)) (A2 (a.Q+(A2 (d*d)))) (A2b a.Bt d) (A0U a.Bs d))].length)*56<=140737488355328))<|
  some (.inl ((b++ [(B4.mk a.Bv a.T (A2 (a.N+1)) (A2 (a.S+d)) (A2 (a.Q+(A2 (d*d)))) (A2b a.Bt d) (A0U a.Bs d))]),(A2 (c+1)))))<|
 Option.map Sum.inr (ck (decide ((b.length+ [(B4.mk f g 1 d (A2 (d*d)) d d)].length)*56<=140737488355328))<|
 some (b++ [(B4.mk f g 1 d (A2 (d*d)) d d)]))
def C4d (c:List B4) (d e f:Int) (b:List B4) (a:Int):Option (List B4):=
 loop (fun (s:((List B4)×Int))=>B4z c d e f s.1 s.2) (b,a)
def B5V (a:List B4) (b c d:Int):Option (List B4):=
 C4d a b c d ([]:List B4) 0
def B1u (i j:B4) (b d c e f g:Int) (h:List B4):Bool:=
 let a:=(K4 i j b c);
 a
def A7V (o:List B4) (h i j k l m:Int) (n:List B4) (c:B4) (d:List B4) (b a:Int):Option (Int⊕(((List B4)×Int)⊕(List B4))):=
 cond (decide (a>b)) (
  Option.bind (D3 o b) fun e=>
  Option.bind (D3 o a) fun f=>
  let g:=(B1u e f h i j k l m n);
  cond g (
   Option.map Sum.inr (some (.inl ((d++ [c]),a))))<|
  some (.inl (A2 (a-1))))<|
 Option.map Sum.inr (some (.inl ((d++ [c]),(A2 (b+1)))))
def B7f (l:List B4) (e f g h i j:Int) (k:List B4) (a:B4) (b:List B4) (c d:Int):Option (((List B4)×Int)⊕(List B4)):=
 loop (fun (s:Int)=>A7V l e f g h i j k a b c s) d
def A7U (d:List B4) (e f g h i j:Int) (k a:List B4) (b:Int):Option (((List B4)×Int)⊕(List B4)):=
 cond (decide (b<(d.length:Int))) (
  Option.bind (D3 d b) fun c=>
  ck (decide ((a.length+ [c].length)*56<=140737488355328))<|
  B7f d e f g h i j k c a b (A2 ((d.length:Int)-(1:Int))))<|
 Option.map Sum.inr (some a)
def B7e (j:List B4) (c d e f g h:Int) (i a:List B4) (b:Int):Option (List B4):=
 loop (fun (s:((List B4)×Int))=>A7U j c d e f g h i s.1 s.2) (a,b)
def B2U (h:List B4) (a b c d e f:Int) (g:List B4):Option (List B4):=
 B7e h a b c d e f g ([]:List B4) 0
def B9V (f:C7) (g:Int):Option (C7×Int):=
 Option.bind (X6 (C7.mk f.Bo f.W f.K f.Cap f.Now f.Bv f.Bf)) fun a=>
 cond (a !=0) (
  some ((C7.mk 0 0 0 0 0 0 []),a))<|
 let b:=(L6 f.Bo);
 cond ((decide (g<b))||(decide (g>4096))) (
  some ((C7.mk 0 0 0 0 0 0 []),4))<|
 Option.bind (gd (decide ((f.Bf.length:Int)>(0:Int))) (D3 f.Bf 0)) fun c=>
 cond (((decide ((f.Bf.length:Int)>(0:Int)))&&(c.N==f.Cap))||(f.Bv==1099511627776)) (
  some ((C7.mk 0 0 0 0 0 0 []),5))<|
 Option.bind (B5V f.Bf (A2 (f.Bv+1)) f.Now g) fun d=>
 Option.bind (B2U d f.Bo f.W f.K f.Cap f.Now (A2 (f.Bv+1)) f.Bf) fun e=>
 some ((C7.mk f.Bo f.W f.K f.Cap f.Now (A2 (f.Bv+1)) e),0)
def B1x (h i:B4) (c b d e f:Int) (g:List B4):Option Bool:=
 Option.bind (A3F h i b) fun a=>
 some a
def A7X (n:List B4) (h i j k l:Int) (m:List B4) (c:B4) (d:List B4) (b a:Int):Option (Int⊕(((List B4)×Int)⊕(List B4))):=
 cond (decide (a>b)) (
  Option.bind (D3 n b) fun e=>
  Option.bind (D3 n a) fun f=>
  Option.bind (B1x e f h i j k l m) fun g=>
  cond g (
   Option.map Sum.inr (some (.inl ((d++ [c]),a))))<|
  some (.inl (A2 (a-1))))<|
 Option.map Sum.inr (some (.inl ((d++ [c]),(A2 (b+1)))))
def B7h (k:List B4) (e f g h i:Int) (j:List B4) (a:B4) (b:List B4) (c d:Int):Option (((List B4)×Int)⊕(List B4)):=
 loop (fun (s:Int)=>A7X k e f g h i j a b c s) d
def A7W (d:List B4) (e f g h i:Int) (j a:List B4) (b:Int):Option (((List B4)×Int)⊕(List B4)):=
 cond (decide (b<(d.length:Int))) (
  Option.bind (D3 d b) fun c=>
  ck (decide ((a.length+ [c].length)*56<=140737488355328))<|
  B7h d e f g h i j c a b (A2 ((d.length:Int)-(1:Int))))<|
 Option.map Sum.inr (some a)
def B7g (i:List B4) (c d e f g:Int) (h a:List B4) (b:Int):Option (List B4):=
 loop (fun (s:((List B4)×Int))=>A7W i c d e f g h s.1 s.2) (a,b)
def B2V (g:List B4) (a b c d e:Int) (f:List B4):Option (List B4):=
 B7g g a b c d e f ([]:List B4) 0
def B90 (e:C8) (f:Int):Option (C8×Int):=
 Option.bind (X8 (C8.mk e.W e.K e.Cap e.Now e.Bv e.Bf)) fun a=>
 cond (a !=0) (
  some ((C8.mk 0 0 0 0 0 []),a))<|
 cond ((decide (f<(-4096:Int)))||(decide (f>4096))) (
  some ((C8.mk 0 0 0 0 0 []),4))<|
 Option.bind (gd (decide ((e.Bf.length:Int)>(0:Int))) (D3 e.Bf 0)) fun b=>
 cond (((decide ((e.Bf.length:Int)>(0:Int)))&&(b.N==e.Cap))||(e.Bv==1099511627776)) (
  some ((C8.mk 0 0 0 0 0 []),5))<|
 Option.bind (B5V e.Bf (A2 (e.Bv+1)) e.Now f) fun c=>
 Option.bind (B2V c e.W e.K e.Cap e.Now (A2 (e.Bv+1)) e.Bf) fun d=>
 some ((C8.mk e.W e.K e.Cap e.Now (A2 (e.Bv+1)) d),0)
def C6y (d:E8) (e:Int):Option (E8×Int):=
 Option.bind (A00 d) fun a=>
 cond (a !=0) (
  some ((E8.mk 0 0 0 0 0 []),a))<|
 cond ((decide (e<0))||(decide (e>d.Bs))) (
  some ((E8.mk 0 0 0 0 0 []),4))<|
 Option.bind (T5 d.Ad) fun b=>
 cond (decide (b>(A2 (d.Cap-e)))) (
  some ((E8.mk 0 0 0 0 0 []),5))<|
 Option.bind (A7O d.Ad d.K d.Now e) fun c=>
 some ((E8.mk d.W d.K d.Cap d.Bs d.Now c),0)
def A4p (m:Int) (c:List E6) (a:Int):Option (((List E6)×Int)⊕(List E6)):=
 cond (decide (a>=1)) (
  Option.bind (D3 c (A2 (a+1))) fun i=>
  Option.bind (D3 c (A2 (a+1))) fun f=>
  Option.bind (D3 c a) fun j=>
  Option.bind (D3 c a) fun g=>
  cond (decide ((A2 ((A2 (g.G+f.G))+f.D))<=m)) (
   Option.bind (D3 c (A2 (a+1))) fun k=>
   Option.bind (D3 c (A2 (a+1))) fun e=>
   Option.bind (D3 c a) fun l=>
   Option.bind (D3 c a) fun d=>
   Option.bind (D3 c (A2 (a+1))) fun h=>
   Option.bind (D3 c (A2 (a+1))) fun b=>
   ck (decide (0<=a/\a<=((c.set ((A2 (a+(1:Int)))).toNat (E6.mk b.V (A2 (e.G+d.G)) b.D)).length:Int)))<|
   ck (decide (0<=(A2 (a+1))/\(A2 (a+1))<=((c.set ((A2 (a+(1:Int)))).toNat (E6.mk b.V (A2 (e.G+d.G)) b.D)).length:Int)))<|
   ck (decide (0<(a).toNat/\(a).toNat+(((c.set ((A2 (a+(1:Int)))).toNat (E6.mk b.V (A2 (e.G+d.G)) b.D)).drop ((A2 (a+(1:Int)))).toNat).take ((c.set ((A2 (a+(1:Int)))).toNat (E6.mk b.V (A2 (e.G+d.G)) b.D)).length-((A2 (a+(1:Int)))).toNat)).length<=(c.set ((A2 (a+(1:Int)))).toNat (E6.mk b.V (A2 (e.G+d.G)) b.D)).length))<|
   some (.inl (((c.set ((A2 (a+(1:Int)))).toNat (E6.mk b.V (A2 (e.G+d.G)) b.D)).take (a).toNat++(((c.set ((A2 (a+(1:Int)))).toNat (E6.mk b.V (A2 (e.G+d.G)) b.D)).drop ((A2 (a+(1:Int)))).toNat).take ((c.set ((A2 (a+(1:Int)))).toNat (E6.mk b.V (A2 (e.G+d.G)) b.D)).length-((A2 (a+(1:Int)))).toNat))),(A2 (a-1)))))<|
  some (.inl (c,(A2 (a-1)))))<|
 Option.map Sum.inr (some c)
def B12 (c:Int) (a:List E6) (b:Int):Option (List E6):=
 loop (fun (s:((List E6)×Int))=>A4p c s.1 s.2) (a,b)
def A6N (a:List E6) (b:Int):Option (List E6):=
 B12 b a (A2 ((a.length:Int)-(2:Int)))
def A4P (b:B6) (a:List E6):Option (B6×Int):=
 cond (decide ((a.length:Int)>b.Cap)) (
  some ((B6.mk 0 0 0 []),5))<|
 some ((B6.mk b.K b.Cap (A2 (b.N+1)) a),0)
def A4O (e:B6) (f a b:Int):Option (B6×Int):=
 ck (decide (0<=a/\a<=(e.Av.length:Int)))<|
 ck (decide ((([]:List E6).length+(e.Av.take (a).toNat).length)*24<=140737488355328))<|
 ck (decide (((([]:List E6)++(e.Av.take (a).toNat)).length+ [(E6.mk f 1 b)].length)*24<=140737488355328))<|
 ck (decide (0<=a/\a<=(e.Av.length:Int)))<|
 ck (decide ((((([]:List E6)++(e.Av.take (a).toNat))++ [(E6.mk f 1 b)]).length+(e.Av.drop (a).toNat).length)*24<=140737488355328))<|
 cond (decide (((((([]:List E6)++(e.Av.take (a).toNat))++ [(E6.mk f 1 b)])++(e.Av.drop (a).toNat)).length:Int)>e.Cap)) (
  Option.bind (A3G (A2 (e.N+1)) e.K) fun c=>
  Option.bind (A6N (((([]:List E6)++(e.Av.take (a).toNat))++ [(E6.mk f 1 b)])++(e.Av.drop (a).toNat)) c) fun d=>
  A4P e d)<|
 A4P e (((([]:List E6)++(e.Av.take (a).toNat))++ [(E6.mk f 1 b)])++(e.Av.drop (a).toNat))
def B6n (e:B6) (f a:Int):Option (Int⊕(B6×Int)):=
 Option.bind (gd (decide (a<(e.Av.length:Int))) (D3 e.Av a)) fun d=>
 cond ((decide (a<(e.Av.length:Int)))&&(decide (d.V<=f))) (
  some (.inl (A2 (a+1))))<|
 Option.map Sum.inr (cond ((decide (a>0))&&(decide (a<(e.Av.length:Int)))) (
  Option.bind (D3 e.Av a) fun b=>
  Option.bind (D3 e.Av a) fun c=>
  A4O e f a (A2 ((A2 (b.G+c.D))-1)))<|
 A4O e f a 0)
def B7j (b:B6) (c a:Int):Option (B6×Int):=
 loop (fun (s:Int)=>B6n b c s) a
def B3i (b:B6) (c:Int):Option (B6×Int):=
 Option.bind (W1 b) fun a=>
 cond (a !=0) (
  some ((B6.mk 0 0 0 []),a))<|
 cond ((decide (c<(-4096:Int)))||(decide (c>4096))) (
  some ((B6.mk 0 0 0 []),4))<|
 cond (b.N==1099511627776) (
  some ((B6.mk 0 0 0 []),5))<|
 B7j b c 0
def A5x (n:B0) (i:C6) (a:D4) (b:E8) (c:C7) (d:C8) (e:D5) (j:Int) (k:List Int) (f:B9) (l:List B8) (g:B6) (h:B7) (m:Int):Option (B0×Int):=
 cond (m !=0) (
  some ((B0.mk (E9.mk 0 0 0 0 0 0 0 0) (C6.mk 0 0 0 []) (D4.mk 0 0 0 0 []) (E8.mk 0 0 0 0 0 []) (C7.mk 0 0 0 0 0 0 []) (C8.mk 0 0 0 0 0 []) (D5.mk 0 0 0 []) (F6.mk 0 []) (B9.mk false 0 0 0 []) (F0.mk []) (B6.mk 0 0 0 []) (B7.mk 0 0 0 0 [])),m))<|
 some ((B0.mk n.Ao i a b c d e (F6.mk j k) f (F0.mk l) g h),0)
def M7 (n:B0) (o:List Int) (m:Int) (i:C6) (a:D4) (b:E8) (c:C7) (d:C8) (e:D5) (j:Int) (k:List Int) (f:B9) (l:List B8) (g:B6) (h:B7):Option (B0×Int):=
 cond (((m==0)&&(n.Ao.Bi !=9))&&(decide ((o.length:Int)>(0:Int)))) (
  A5x n i a b c d e j k f l g h 8)<|
 A5x n i a b c d e j k f l g h m
def B6q (m:B0) (o:Int) (n:List Int):Option (B0×Int):=
 Option.bind (K6 m) fun b=>
 cond (b !=0) (
  some ((B0.mk (E9.mk 0 0 0 0 0 0 0 0) (C6.mk 0 0 0 []) (D4.mk 0 0 0 0 []) (E8.mk 0 0 0 0 0 []) (C7.mk 0 0 0 0 0 0 []) (C8.mk 0 0 0 0 0 []) (D5.mk 0 0 0 []) (F6.mk 0 []) (B9.mk false 0 0 0 []) (F0.mk []) (B6.mk 0 0 0 []) (B7.mk 0 0 0 0 [])),b))<|
 cond (m.Ao.Bi==1) (
  Option.bind (B9M m.Aq o) fun l=>
  M7 m n l.2 l.1 m.Ay m.Sum m.As m.Au m.Bm m.Ba.Now m.Ba.Bn m.Af m.Ar.Am m.Ai m.Ab)<|
 cond (m.Ao.Bi==2) (
  cond ((decide (o<(-4096:Int)))||(decide (o>4096))) (
   some ((B0.mk (E9.mk 0 0 0 0 0 0 0 0) (C6.mk 0 0 0 []) (D4.mk 0 0 0 0 []) (E8.mk 0 0 0 0 0 []) (C7.mk 0 0 0 0 0 0 []) (C8.mk 0 0 0 0 0 []) (D5.mk 0 0 0 []) (F6.mk 0 []) (B9.mk false 0 0 0 []) (F0.mk []) (B6.mk 0 0 0 []) (B7.mk 0 0 0 0 [])),4))<|
  Option.bind (C1s m.Ay) fun c=>
  M7 m n c.2 m.Aq c.1 m.Sum m.As m.Au m.Bm m.Ba.Now m.Ba.Bn m.Af m.Ar.Am m.Ai m.Ab)<|
 cond (m.Ao.Bi==3) (
  Option.bind (C6y m.Sum o) fun d=>
  M7 m n d.2 m.Aq m.Ay d.1 m.As m.Au m.Bm m.Ba.Now m.Ba.Bn m.Af m.Ar.Am m.Ai m.Ab)<|
 cond (m.Ao.Bi==4) (
  Option.bind (B9V m.As o) fun e=>
  M7 m n e.2 m.Aq m.Ay m.Sum e.1 m.Au m.Bm m.Ba.Now m.Ba.Bn m.Af m.Ar.Am m.Ai m.Ab)<|
 cond (m.Ao.Bi==5) (
  Option.bind (B90 m.Au o) fun f=>
  M7 m n f.2 m.Aq m.Ay m.Sum m.As f.1 m.Bm m.Ba.Now m.Ba.Bn m.Af m.Ar.Am m.Ai m.Ab)<|
 cond (m.Ao.Bi==6) (
  Option.bind (C4s m.Bm o) fun g=>
  M7 m n g.2 m.Aq m.Ay m.Sum m.As m.Au g.1 m.Ba.Now m.Ba.Bn m.Af m.Ar.Am m.Ai m.Ab)<|
 cond (m.Ao.Bi==7) (
  Option.bind (C1E m.Ba o) fun a=>
  M7 m n a.2 m.Aq m.Ay m.Sum m.As m.Au m.Bm a.1.Now a.1.Bn m.Af m.Ar.Am m.Ai m.Ab)<|
 cond (m.Ao.Bi==8) (
  Option.bind (B7B m.Af o) fun h=>
  M7 m n h.2 m.Aq m.Ay m.Sum m.As m.Au m.Bm m.Ba.Now m.Ba.Bn h.1 m.Ar.Am m.Ai m.Ab)<|
 cond (m.Ao.Bi==9) (
  Option.bind (B9T m.Ar o n) fun i=>
  M7 m n i.2 m.Aq m.Ay m.Sum m.As m.Au m.Bm m.Ba.Now m.Ba.Bn m.Af i.1.Am m.Ai m.Ab)<|
 cond (m.Ao.Bi==10) (
  Option.bind (B3i m.Ai o) fun j=>
  M7 m n j.2 m.Aq m.Ay m.Sum m.As m.Au m.Bm m.Ba.Now m.Ba.Bn m.Af m.Ar.Am j.1 m.Ab)<|
 cond (m.Ao.Bi==11) (
  Option.bind (B52 m.Ab o) fun k=>
  M7 m n k.2 m.Aq m.Ay m.Sum m.As m.Au m.Bm m.Ba.Now m.Ba.Bn m.Af m.Ar.Am m.Ai k.1)<|
 M7 m n b m.Aq m.Ay m.Sum m.As m.Au m.Bm m.Ba.Now m.Ba.Bn m.Af m.Ar.Am m.Ai m.Ab
def B0m (d:E4):Option (Int×E4):=
 Option.bind (A4F d) fun c=>
 cond (!c.2) (
  some (11,d))<|
 cond (d.command_.T !=d.Ap.Now) (
  some (3,d))<|
 Option.bind (B6q c.1 d.command_.V d.command_.Az) fun a=>
 cond (a.2 !=0) (
  some (a.2,d))<|
 Option.bind (B0M d.Ap.Ah (D1.mk d.command_.ID a.1)) fun b=>
 cond (b.2 !=0) (
  some (b.2,d))<|
 some (0,(E4.mk (G7.mk d.Ap.Now d.Ap.Bd b.1) d.command_ d.reply_))
def B7C (c:B9):Option (Int×Int):=
 Option.bind (V9 c) fun a=>
 cond (a !=0) (
  some (0,a))<|
 cond ((c.Bb.length:Int)==(0:Int)) (
  some (0,7))<|
 Option.bind (D3 c.Bb 0) fun b=>
 some (b.V,0)
def B6B (d:A3) (c:Int):Option (A3×Bool):=
 cond (decide (c<0)) (
  some ((A3.mk 0 0),false))<|
 let a:=(B1E d);
 cond a (
  some (d,true))<|
 Option.bind (B6A d) fun b=>
 cond (decide (c>(A2 (128-b)))) (
  some ((A3.mk 0 0),false))<|
 cond (decide (c>=64)) (
  ck (decide (0<=(A8 (A2 (c-64)))))<|
  some ((A3.mk (F3 .u64 d.Lo (A8 (A2 (c-64)))) 0),true))<|
 ck (decide (0<=(A8 c)))<|
 ck (decide (0<=(A8 (A2 (64-c)))))<|
 ck (decide (0<=(A8 c)))<|
 some ((A3.mk (P0 .u64 (F3 .u64 d.Hi (A8 c)) (G9 .u64 d.Lo (A8 (A2 (64-c))))) (F3 .u64 d.Lo (A8 c))),true)
def C2m (j:F6) (c a b:Int):Option ((Int×Int×Int)⊕(D9×Int)):=
 cond (decide (c<(j.Bn.length:Int))) (
  Option.bind (D3 j.Bn c) fun g=>
  Option.bind (B6B (A3.mk a b) 1) fun h=>
  let i:=(J6 (A8 g));
  Option.bind (A2R h.1 i) fun d=>
  some (.inl ((A2 (c+1)),d.1.Hi,d.1.Lo)))<|
 Option.map Sum.inr (let e:=(J6 1);
 Option.bind (B6B e (A2 ((j.Bn.length:Int)-(1:Int)))) fun f=>
 some ((D9.mk (A3.mk a b) f.1),0))
def C3Z (d:F6) (c a b:Int):Option (D9×Int):=
 loop (fun (s:(Int×Int×Int))=>C2m d s.1 s.2.1 s.2.2) (c,a,b)
def C1F (b:F6):Option (D9×Int):=
 Option.bind (Z6 b) fun a=>
 cond (a !=0) (
  some ((D9.mk (A3.mk 0 0) (A3.mk 0 0)),a))<|
 C3Z b 0 0 0
def C4u (d:D5):Option (D9×Int):=
 Option.bind (A0y d) fun a=>
 cond (a !=0) (
  some ((D9.mk (A3.mk 0 0) (A3.mk 0 0)),a))<|
 Option.bind (B8I (A8 (A2 ((A2 (d.Now-d.Bj))+1))) d.P) fun b=>
 Option.bind (D3 d.Ag d.P) fun c=>
 some ((D9.mk c b.1),0)
def B4B (c:B7) (d:Int):Option (D2×Int):=
 Option.bind (S0 c) fun a=>
 cond (a !=0) (
  some ((D2.mk (A5.mk 0 0) (A5.mk 0 0) (A5.mk 0 0)),a))<|
 Option.bind (B7o c.Ak d) fun b=>
 some (b.1,b.2)
def B2Z (c:B7) (d e:Int):Option (Int×Int):=
 Option.bind (S0 c) fun a=>
 cond (a !=0) (
  some (0,a))<|
 Option.bind (B01 c.Ak d e) fun b=>
 some (b.1,b.2)
def B1Q (a:List D0):Int:=
 (a.length:Int)
def B5D (d:List D0) (b a:Int):Option ((Int×Int)⊕(Int×Bool)):=
 cond (decide (a<(d.length:Int))) (
  Option.bind (D3 d a) fun c=>
  some (.inl ((A0U b c.V),(A2 (a+1)))))<|
 Option.map Sum.inr (some (b,true))
def B7a (c:List D0) (b a:Int):Option (Int×Bool):=
 loop (fun (s:(Int×Int))=>B5D c s.1 s.2) (b,a)
def B2M (b:List D0):Option (Int×Bool):=
 cond ((b.length:Int)==(0:Int)) (
  some (0,false))<|
 Option.bind (D3 b 0) fun a=>
 B7a b a.V 0
def B9e (d:List D0) (b a:Int):Option ((Int×Int)⊕(Int×Bool)):=
 cond (decide (a<(d.length:Int))) (
  Option.bind (D3 d a) fun c=>
  some (.inl ((A2b b c.V),(A2 (a+1)))))<|
 Option.map Sum.inr (some (b,true))
def C0y (c:List D0) (b a:Int):Option (Int×Bool):=
 loop (fun (s:(Int×Int))=>B9e c s.1 s.2) (b,a)
def B7z (b:List D0):Option (Int×Bool):=
 cond ((b.length:Int)==(0:Int)) (
  some (0,false))<|
 Option.bind (D3 b 0) fun a=>
 C0y b a.V 0
def A7Q (g:List D0) (a:Int) (b:List Int) (c:Int):Option (((List Int)×Int)⊕(Int×Bool)):=
 cond (decide (c<(g.length:Int))) (
  Option.bind (D3 g c) fun d=>
  ck (decide ((b.length+ [d.V].length)*8<=140737488355328))<|
  some (.inl ((b++ [d.V]),(A2 (c+1)))))<|
 Option.map Sum.inr (ck (decide (b.length<4611686018427387904))<|
 Option.bind (D3 (A1Z b) (A2 ((A0U (A2 a) (1:Int))-(1:Int)))) fun f=>
 Option.bind (D3 (A1Z b) (A2 ((A0U (A2 a) (1:Int))-(1:Int)))) fun e=>
 some (e,true))
def B7b (d:List D0) (a:Int) (b:List Int) (c:Int):Option (Int×Bool):=
 loop (fun (s:((List Int)×Int))=>A7Q d a s.1 s.2) (b,c)
def A4G (b:List D0) (a:Int):Option (Int×Bool):=
 B7b b a ([]:List Int) 0
def B2O (d:List D0) (e f:Int):Option (Int×Bool):=
 cond (((((d.length:Int)==(0:Int))||(decide (f<1)))||(decide (e<0)))||(decide (e>f))) (
  some (0,false))<|
 let b:=(N1 (A8 e) (A8 (d.length:Int)));
 let c:=(J6 (A8 f));
 Option.bind (A5z b c) fun a=>
 cond (!(a.2.1.Hi==0&&(a.2.1.Lo==0&&true))) (
  A4G d (A8 (a.1.Lo+1)))<|
 A4G d a.1.Lo
def C0z (d:List D0) (e b a:Int):Option ((Int×Int)⊕Int):=
 cond (decide (a<(d.length:Int))) (
  Option.bind (D3 d a) fun c=>
  cond (decide (c.V<=e)) (
   some (.inl ((A2 (b+1)),(A2 (a+1)))))<|
  some (.inl (b,(A2 (a+1)))))<|
 Option.map Sum.inr (some b)
def C2l (c:List D0) (d b a:Int):Option Int:=
 loop (fun (s:(Int×Int))=>C0z c d s.1 s.2) (b,a)
def B9g (a:List D0) (b:Int):Option Int:=
 C2l a b 0 0
def A3x (b:Int):Option Int:=
 Option.bind (U7 b) fun a=>
 some (A2 (64-a))
def A0e (f d e a b c:Int):Option (Int×Int):=
 ck (decide (0<=(A8 a)))<|
 some ((A8 ((A8 (b*4294967296))+c)),(G9 .u64 (A8 ((A8 ((A8 ((A8 ((A8 ((A8 ((P0 .u64 (F3 .u64 f (A8 a)) (G9 .u64 d (A8 (64-(A8 a)))))*4294967296))+(G9 .u64 (F3 .u64 d (A8 a)) 32)))-(A8 (b*(F3 .u64 e (A8 a))))))*4294967296))+(S5 .u64 (F3 .u64 d (A8 a)) 4294967295)))-(A8 (c*(F3 .u64 e (A8 a)))))) (A8 a)))
def A0G (g f e b d c a:Int):Option ((Int×Int)⊕(Int×Int)):=
 cond ((decide (a>=4294967296))||(decide ((A8 (a*(S5 .u64 (F3 .u64 e (A8 b)) 4294967295)))>(A8 ((A8 (4294967296*c))+(S5 .u64 (F3 .u64 f (A8 b)) 4294967295)))))) (
  cond (decide ((A8 (c+(G9 .u64 (F3 .u64 e (A8 b)) (32:Int))))>=(4294967296:Int))) (
   Option.map Sum.inr (A0e g f e b d (A8 (a-1))))<|
  some (.inl ((A8 (c+(G9 .u64 (F3 .u64 e (A8 b)) 32))),(A8 (a-1)))))<|
 Option.map Sum.inr (A0e g f e b d a)
def A3a (e f g d c a b:Int):Option (Int×Int):=
 loop (fun (s:(Int×Int))=>A0G e f g d c s.1 s.2) (a,b)
def A0d (e d c a b:Int):Option (Int×Int):=
 ck (decide ((G9 .u64 (F3 .u64 c (A8 a)) (32:Int))≠0))<|
 A3a e d c a b (A8 ((A8 ((A8 ((A8 ((P0 .u64 (F3 .u64 e (A8 a)) (G9 .u64 d (A8 (64-(A8 a)))))*4294967296))+(G9 .u64 (F3 .u64 d (A8 a)) 32)))-(A8 (b*(F3 .u64 c (A8 a))))))-(A8 ((A8 (Int.tdiv (A8 ((A8 ((A8 ((P0 .u64 (F3 .u64 e (A8 a)) (G9 .u64 d (A8 (64-(A8 a)))))*4294967296))+(G9 .u64 (F3 .u64 d (A8 a)) 32)))-(A8 (b*(F3 .u64 c (A8 a)))))) (G9 .u64 (F3 .u64 c (A8 a)) 32)))*(G9 .u64 (F3 .u64 c (A8 a)) 32))))) (A8 (Int.tdiv (A8 ((A8 ((A8 ((P0 .u64 (F3 .u64 e (A8 a)) (G9 .u64 d (A8 (64-(A8 a)))))*4294967296))+(G9 .u64 (F3 .u64 d (A8 a)) 32)))-(A8 (b*(F3 .u64 c (A8 a)))))) (G9 .u64 (F3 .u64 c (A8 a)) 32)))
def A02 (f e d b a c:Int):Option ((Int×Int)⊕(Int×Int)):=
 cond ((decide (a>=4294967296))||(decide ((A8 (a*(S5 .u64 (F3 .u64 d (A8 b)) 4294967295)))>(A8 ((A8 (4294967296*c))+(G9 .u64 (F3 .u64 e (A8 b)) 32)))))) (
  cond (decide ((A8 (c+(G9 .u64 (F3 .u64 d (A8 b)) (32:Int))))>=(4294967296:Int))) (
   Option.map Sum.inr (A0d f e d b (A8 (a-1))))<|
  some (.inl ((A8 (a-1)),(A8 (c+(G9 .u64 (F3 .u64 d (A8 b)) 32))))))<|
 Option.map Sum.inr (A0d f e d b a)
def A3w (d e f c a b:Int):Option (Int×Int):=
 loop (fun (s:(Int×Int))=>A02 d e f c s.1 s.2) (a,b)
def A52 (c d b:Int):Option (Int×Int):=
 cond (b==0) (
  none)<|
 cond (decide (b<=c)) (
  none)<|
 cond (c==0) (
  ck (decide (b≠0))<|
  ck (decide (b≠0))<|
  some ((A8 (Int.tdiv d b)),(Int.tmod d b)))<|
 Option.bind (A3x b) fun a=>
 ck (decide (0<=(A8 a)))<|
 ck (decide (0<=(A8 a)))<|
 ck (decide (0<=(A8 (64-(A8 a)))))<|
 ck (decide (0<=(A8 a)))<|
 ck (decide ((G9 .u64 (F3 .u64 b (A8 a)) (32:Int))≠0))<|
 A3w c d b a (A8 (Int.tdiv (P0 .u64 (F3 .u64 c (A8 a)) (G9 .u64 d (A8 (64-(A8 a))))) (G9 .u64 (F3 .u64 b (A8 a)) 32))) (A8 ((P0 .u64 (F3 .u64 c (A8 a)) (G9 .u64 d (A8 (64-(A8 a)))))-(A8 ((A8 (Int.tdiv (P0 .u64 (F3 .u64 c (A8 a)) (G9 .u64 d (A8 (64-(A8 a))))) (G9 .u64 (F3 .u64 b (A8 a)) 32)))*(G9 .u64 (F3 .u64 b (A8 a)) 32)))))
def C3S (l g e a b c d:Int):Option ((Int×Int×Int×Int×Int×Int)⊕(I5×Int)):=
 cond (decide (e>=0)) (
  Option.bind (D3 [a,b,c,d] e) fun k=>
  Option.bind (D3 [a,b,c,d] e) fun h=>
  Option.bind (A52 g h l) fun f=>
  Option.bind (D3 [a,b,c,d] e) fun i=>
  Option.bind (D3 [a,b,c,d] e) fun j=>
  some (.inl (f.2,(A2 (e-1)),(if (e).toNat=0 then f.1 else a),(if (e).toNat=1 then f.1 else b),(if (e).toNat=2 then f.1 else c),(if (e).toNat=3 then f.1 else d))))<|
 Option.map Sum.inr (some ((I5.mk a b c d),g))
def C5z (g e f a b c d:Int):Option (I5×Int):=
 loop (fun (s:(Int×Int×Int×Int×Int×Int))=>C3S g s.1 s.2.1 s.2.2.1 s.2.2.2.1 s.2.2.2.2.1 s.2.2.2.2.2) (e,f,a,b,c,d)
def B8q (a:I5) (b:Int):Option (I5×Int):=
 C5z b 0 3 a.e0 a.e1 a.e2 a.e3
def B9k (n:I5) (g e a b c d:Int):Option ((Int×Int×Int×Int×Int×Int)⊕I5):=
 cond (decide (e<4)) (
  Option.bind (D3 [a,b,c,d] e) fun l=>
  Option.bind (D3 [a,b,c,d] e) fun h=>
  Option.bind (D3 [n.e0,n.e1,n.e2,n.e3] e) fun m=>
  Option.bind (D3 [n.e0,n.e1,n.e2,n.e3] e) fun i=>
  Option.bind (U8 h i g) fun f=>
  Option.bind (D3 [a,b,c,d] e) fun j=>
  Option.bind (D3 [a,b,c,d] e) fun k=>
  some (.inl (f.2,(A2 (e+1)),(if (e).toNat=0 then f.1 else a),(if (e).toNat=1 then f.1 else b),(if (e).toNat=2 then f.1 else c),(if (e).toNat=3 then f.1 else d))))<|
 Option.map Sum.inr (some (I5.mk a b c d))
def C0B (g:I5) (e f a b c d:Int):Option I5:=
 loop (fun (s:(Int×Int×Int×Int×Int×Int))=>B9k g s.1 s.2.1 s.2.2.1 s.2.2.2.1 s.2.2.2.2.1 s.2.2.2.2.2) (e,f,a,b,c,d)
def B7A (a b:I5):Option I5:=
 C0B b 0 0 a.e0 a.e1 a.e2 a.e3
def B3H (h g a b c d e:Int):Option ((Int×Int×Int×Int×Int×Int×Int)⊕I5):=
 cond (decide (a<4)) (
  Option.bind (D3 [b,c,d,e] a) fun l=>
  Option.bind (D3 [b,c,d,e] a) fun i=>
  Option.bind (P2 i h g) fun f=>
  Option.bind (D3 [b,c,d,e] a) fun j=>
  Option.bind (D3 [b,c,d,e] a) fun k=>
  some (.inl (0,f.2,(A2 (a+1)),(if (a).toNat=0 then f.1 else b),(if (a).toNat=1 then f.1 else c),(if (a).toNat=2 then f.1 else d),(if (a).toNat=3 then f.1 else e))))<|
 Option.map Sum.inr (some (I5.mk b c d e))
def B48 (g e f a b c d:Int):Option I5:=
 loop (fun (s:(Int×Int×Int×Int×Int×Int×Int))=>B3H s.1 s.2.1 s.2.2.1 s.2.2.2.1 s.2.2.2.2.1 s.2.2.2.2.2.1 s.2.2.2.2.2.2) (g,e,f,a,b,c,d)
def V8 (g:I5) (i j h:Int):Option I5:=
 let b:=(P3 i j);
 Option.bind (D3 [g.e0,g.e1,g.e2,g.e3] h) fun f=>
 Option.bind (D3 [g.e0,g.e1,g.e2,g.e3] h) fun c=>
 Option.bind (P2 c b.2 0) fun a=>
 Option.bind (D3 [g.e0,g.e1,g.e2,g.e3] h) fun d=>
 Option.bind (D3 [g.e0,g.e1,g.e2,g.e3] h) fun e=>
 B48 b.1 a.2 (A2 (h+1)) (if (h).toNat=0 then a.1 else g.e0) (if (h).toNat=1 then a.1 else g.e1) (if (h).toNat=2 then a.1 else g.e2) (if (h).toNat=3 then a.1 else g.e3)
def X0 (a:Int):Int:=
 cond (decide (a<0)) (
  (IntKind.u64.wrap (0-(A8 a))))<|
 (A8 a)
def B8J (c d:A3):Option (A3×Bool):=
 Option.bind (U8 c.Lo d.Lo 0) fun a=>
 Option.bind (U8 c.Hi d.Hi a.2) fun b=>
 cond (b.2 !=0) (
  some ((A3.mk 0 0),false))<|
 some ((A3.mk b.1 a.1),true)
def B9l (p:List D0) (e a b c d:Int):Option ((Int×Int×Int×Int×Int)⊕(Bool×A3)):=
 cond (decide (e<(p.length:Int))) (
  Option.bind (D3 p e) fun f=>
  cond (decide (f.V<0)) (
   let k:=(X0 f.V);
   let l:=(J6 k);
   Option.bind (A2R (A3.mk c d) l) fun g=>
   some (.inl ((A2 (e+1)),a,b,g.1.Hi,g.1.Lo)))<|
  let m:=(X0 f.V);
  let n:=(J6 m);
  Option.bind (A2R (A3.mk a b) n) fun h=>
  some (.inl ((A2 (e+1)),h.1.Hi,h.1.Lo,c,d)))<|
 Option.map Sum.inr (let o:=(R4 (A3.mk a b) (A3.mk c d));
 cond (decide (o>=0)) (
  Option.bind (B8J (A3.mk a b) (A3.mk c d)) fun i=>
  some (false,i.1))<|
 Option.bind (B8J (A3.mk c d) (A3.mk a b)) fun j=>
 some (true,j.1))
def C0C (f:List D0) (e a b c d:Int):Option (Bool×A3):=
 loop (fun (s:(Int×Int×Int×Int×Int))=>B9l f s.1 s.2.1 s.2.2.1 s.2.2.2.1 s.2.2.2.2) (e,a,b,c,d)
def B1R (a:List D0):Option (Bool×A3):=
 C0C a 0 0 0 0 0
def C5F (b a:Int):Option ((Int×Int)⊕Int):=
 cond (a !=0) (
  ck (decide (a≠0))<|
  some (.inl (a,(Int.tmod b a))))<|
 Option.map Sum.inr (some b)
def C7n (a b:Int):Option Int:=
 loop (fun (s:(Int×Int))=>C5F s.1 s.2) (a,b)
def C6q (a b:Int):Option Int:=
 cond ((decide (a<0))||(decide (b<0))) (
  some 0)<|
 C7n a b
def B8o (v:List D0) (d e f g b h i j k:Int):Option ((Int×Int×Int×Int×Int)⊕(A5×Bool)):=
 cond (decide (b<3)) (
  Option.bind (D3 [d,e,f,g] b) fun u=>
  Option.bind (D3 [d,e,f,g] b) fun o=>
  Option.bind (V8 (I5.mk h i j k) o (A8 (v.length:Int)) b) fun l=>
  some (.inl ((A2 (b+1)),l.e0,l.e1,l.e2,l.e3)))<|
 Option.map Sum.inr (Option.bind (B1R v) fun a=>
 Option.bind (V8 (I5.mk 0 0 0 0) a.2.Lo a.2.Lo 0) fun p=>
 Option.bind (V8 p a.2.Lo a.2.Hi 1) fun q=>
 Option.bind (V8 q a.2.Lo a.2.Hi 1) fun r=>
 Option.bind (V8 r a.2.Hi a.2.Hi 2) fun s=>
 Option.bind (B7A (I5.mk h i j k) s) fun n=>
 Option.bind (B8q n (A8 (v.length:Int))) fun t=>
 Option.bind (C6q (A2 (A8 (v.length:Int))) (A2 t.2)) fun m=>
 Option.bind (B8q n (A8 m)) fun c=>
 cond (((P0 .u64 (P0 .u64 c.1.e1 c.1.e2) c.1.e3) !=0)||(decide (c.1.e0>=9223372036854775808))) (
  some ((A5.mk 0 0),false))<|
 ck (decide ((A8 m)≠0))<|
 some ((A5.mk (A2 c.1.e0) (A2 (A8 (Int.tdiv (A8 (v.length:Int)) (A8 m))))),true))
def B9i (j:List D0) (a b c d i e f g h:Int):Option (A5×Bool):=
 loop (fun (s:(Int×Int×Int×Int×Int))=>B8o j a b c d s.1 s.2.1 s.2.2.1 s.2.2.2.1 s.2.2.2.2) (i,e,f,g,h)
def B8n (j:List D0) (e a b c d:Int):Option ((Int×Int×Int×Int×Int)⊕(A5×Bool)):=
 cond (decide (e<(j.length:Int))) (
  Option.bind (D3 j e) fun g=>
  let h:=(X0 g.V);
  let i:=(X0 g.V);
  Option.bind (V8 (I5.mk a b c d) h i 0) fun f=>
  some (.inl ((A2 (e+1)),f.e0,f.e1,f.e2,f.e3)))<|
 Option.map Sum.inr (B9i j a b c d 0 0 0 0 0)
def B9h (f:List D0) (e a b c d:Int):Option (A5×Bool):=
 loop (fun (s:(Int×Int×Int×Int×Int))=>B8n f s.1 s.2.1 s.2.2.1 s.2.2.2.1 s.2.2.2.2) (e,a,b,c,d)
def B5E (a:List D0):Option (A5×Bool):=
 cond ((A8 (a.length:Int))==(0:Int)) (
  some ((A5.mk 0 1),true))<|
 B9h a 0 0 0 0 0
def C6p (a b:Int):(Int×Bool):=
 cond (((decide (a>=0))==(decide (b>=0)))&&(!((decide ((A2 (a+b))>=0))==(decide (a>=0))))) (
  (0,false))<|
 ((A2 (a+b)),true)
def A0W (a:Int):Int:=
 cond (decide (a<0)) (
  (IntKind.u64.wrap (0-(A8 a))))<|
 (A8 a)
def B3W (c d:Int) (a:Int×Int) (b:Int):(Int×Bool):=
 cond ((a.1 !=0)||(decide (a.2>b))) (
  (0,false))<|
 cond (!((decide (c<0))==(decide (d<0)))) (
  ((A2 (IntKind.u64.wrap (0-a.2))),true))<|
 ((A2 a.2),true)
def C0L (d e:Int):(Int×Bool):=
 let b:=(A0W d);
 let c:=(A0W e);
 let a:=(P3 b c);
 cond (!((decide (d<0))==(decide (e<0)))) (
  B3W d e a (A8 ((9223372036854775807:Int)+(1:Int))))<|
 B3W d e a 9223372036854775807
def B7c (f:List D0) (b a:Int):Option ((Int×Int)⊕(Int×Bool)):=
 cond (decide (a<(f.length:Int))) (
  Option.bind (D3 f a) fun c=>
  let d:=(C0L c.V c.V);
  cond (!d.2) (
   some (.inr (0,false)))<|
  let e:=(C6p b d.1);
  cond (!e.2) (
   some (.inr (0,false)))<|
  some (.inl (e.1,(A2 (a+1)))))<|
 Option.map Sum.inr (some (b,true))
def B8p (c:List D0) (b a:Int):Option (Int×Bool):=
 loop (fun (s:(Int×Int))=>B7c c s.1 s.2) (b,a)
def B4w (a:List D0):Option (Int×Bool):=
 B8p a 0 0
def C1y (b:List D0):Option (Int×Bool):=
 Option.bind (B1R b) fun a=>
 cond (((a.2.Hi !=0)||(decide (a.2.Lo>9223372036854775808)))||((a.2.Lo==9223372036854775808)&&(!a.1))) (
  some (0,false))<|
 cond a.1 (
  some ((A2 (IntKind.u64.wrap (0-a.2.Lo))),true))<|
 some ((A2 a.2.Lo),true)
def A1d (a:Int):Option (E5×Int):=
 let b:=(S6 a);
 Option.bind (T2 b) fun c=>
 some ((E5.mk c ([]:List Int) (D9.mk (A3.mk 0 0) (A3.mk 0 0))),0)
def B9N (l:C6) (k:R9):Option (E5×Int):=
 Option.bind (U9 l) fun b=>
 cond (b !=0) (
  some ((E5.mk (D2.mk (A5.mk 0 0) (A5.mk 0 0) (A5.mk 0 0)) ([]:List Int) (D9.mk (A3.mk 0 0) (A3.mk 0 0))),b))<|
 Option.bind (B7z l.Bb) fun c=>
 Option.bind (B2M l.Bb) fun d=>
 cond (k.Op==1) (
  let e:=(B1Q l.Bb);
  A1d e)<|
 cond (k.Op==2) (
  Option.bind (C1y l.Bb) fun f=>
  A1d f.1)<|
 cond (k.Op==3) (
  Option.bind (B4w l.Bb) fun g=>
  A1d g.1)<|
 cond (k.Op==4) (
  A1d (A2 (d.1-c.1)))<|
 cond (k.Op==5) (
  Option.bind (B5E l.Bb) fun h=>
  Option.bind (T2 h.1) fun i=>
  some ((E5.mk i ([]:List Int) (D9.mk (A3.mk 0 0) (A3.mk 0 0))),0))<|
 cond (k.Op==6) (
  cond ((l.Bb.length:Int)==(0:Int)) (
   some ((E5.mk (D2.mk (A5.mk 0 0) (A5.mk 0 0) (A5.mk 0 0)) ([]:List Int) (D9.mk (A3.mk 0 0) (A3.mk 0 0))),7))<|
  some ((E5.mk (D2.mk (A5.mk 0 0) (A5.mk 0 0) (A5.mk 0 0)) [c.1,d.1] (D9.mk (A3.mk 0 0) (A3.mk 0 0))),0))<|
 cond (k.Op==7) (
  Option.bind (B9g l.Bb k.A) fun j=>
  A1d j)<|
 cond (k.Op==8) (
  cond (((decide (k.B<1))||(decide (k.A<0)))||(decide (k.A>k.B))) (
   some ((E5.mk (D2.mk (A5.mk 0 0) (A5.mk 0 0) (A5.mk 0 0)) ([]:List Int) (D9.mk (A3.mk 0 0) (A3.mk 0 0))),1))<|
  Option.bind (B2O l.Bb k.A k.B) fun a=>
  cond (!a.2) (
   some ((E5.mk (D2.mk (A5.mk 0 0) (A5.mk 0 0) (A5.mk 0 0)) ([]:List Int) (D9.mk (A3.mk 0 0) (A3.mk 0 0))),7))<|
  some ((E5.mk (D2.mk (A5.mk 0 0) (A5.mk 0 0) (A5.mk 0 0)) [a.1] (D9.mk (A3.mk 0 0) (A3.mk 0 0))),0))<|
 some ((E5.mk (D2.mk (A5.mk 0 0) (A5.mk 0 0) (A5.mk 0 0)) ([]:List Int) (D9.mk (A3.mk 0 0) (A3.mk 0 0))),12)
def B3d (e:F0) (c:List Int) (a:Int):Option (((List Int)×Int)⊕((List Int)×Int)):=
 cond (decide (a<(e.Am.length:Int))) (
  Option.bind (D3 e.Am a) fun d=>
  Option.bind (C1p d) fun b=>
  cond (b.2 !=0) (
   some (.inr ([],b.2)))<|
  ck (decide ((c.length+ [b.1].length)*8<=140737488355328))<|
  some (.inl ((c++ [b.1]),(A2 (a+1)))))<|
 Option.map Sum.inr (some (c,0))
def C2y (c:F0) (b:List Int) (a:Int):Option ((List Int)×Int):=
 loop (fun (s:((List Int)×Int))=>B3d c s.1 s.2) (b,a)
def B9U (b:F0):Option ((List Int)×Int):=
 Option.bind (P4 b) fun a=>
 cond (a !=0) (
  some ([],a))<|
 C2y b ([]:List Int) 0
def B9W (p:C7):Option (D2×Int):=
 Option.bind (X6 p) fun c=>
 cond (c !=0) (
  some ((D2.mk (A5.mk 0 0) (A5.mk 0 0) (A5.mk 0 0)),c))<|
 cond ((p.Bf.length:Int)==(0:Int)) (
  let j:=(S6 0);
  Option.bind (T2 j) fun k=>
  some (k,0))<|
 Option.bind (D3 p.Bf 0) fun a=>
 let l:=(N5 p.Now p.W a.T);
 cond l (
  let m:=(S1 a p.Bo);
  let n:=(S6 m);
  Option.bind (T2 n) fun o=>
  some (o,0))<|
 Option.bind (D3 p.Bf 1) fun b=>
 cond (b.Bv==(A2 (a.Bv+1))) (
  let d:=(S1 b p.Bo);
  let e:=(S6 d);
  Option.bind (T2 e) fun f=>
  some (f,0))<|
 let g:=(S1 b p.Bo);
 let h:=(S1 a p.Bo);
 let i:=(A15 g h);
 some (i.1,0)
def B4E (d:Bool) (e f:A3):Option (A5×Bool):=
 Option.bind (B8H e f) fun c=>
 Option.bind (A5z e c) fun a=>
 Option.bind (A5z f c) fun b=>
 cond (((((a.1.Hi !=0)||(b.1.Hi !=0))||(decide (b.1.Lo>=9223372036854775808)))||(decide (a.1.Lo>9223372036854775808)))||((a.1.Lo==9223372036854775808)&&(!d))) (
  some ((A5.mk 0 0),false))<|
 cond d (
  some ((A5.mk (A2 (IntKind.u64.wrap (0-a.1.Lo))) (A2 b.1.Lo)),true))<|
 some ((A5.mk (A2 a.1.Lo) (A2 b.1.Lo)),true)
def B9K (g f:Int):Option (A5×Bool):=
 cond (f==0) (
  some ((A5.mk 0 0),false))<|
 let c:=(A0a g);
 let d:=(J6 c);
 let e:=(A0a f);
 let b:=(J6 e);
 Option.bind (B4E (!((decide (g<0))==(decide (f<0)))) d b) fun a=>
 some (a.1,a.2)
def B6m (d:B4):Option (A5×Bool):=
 let b:=(A2p d);
 cond (!b) (
  some ((A5.mk 0 0),false))<|
 let c:=(X9 d);
 Option.bind (B9K c d.N) fun a=>
 some (a.1,a.2)
def B91 (k:C8):Option (D2×Int):=
 Option.bind (X8 k) fun d=>
 cond (d !=0) (
  some ((D2.mk (A5.mk 0 0) (A5.mk 0 0) (A5.mk 0 0)),d))<|
 cond ((k.Bf.length:Int)==(0:Int)) (
  let g:=(S6 0);
  Option.bind (T2 g) fun h=>
  some (h,0))<|
 Option.bind (D3 k.Bf 0) fun b=>
 Option.bind (B6m b) fun e=>
 let i:=(N5 k.Now k.W b.T);
 cond i (
  Option.bind (T2 e.1) fun j=>
  some (j,0))<|
 Option.bind (D3 k.Bf 1) fun c=>
 Option.bind (B6m c) fun a=>
 cond (c.Bv==(A2 (b.Bv+1))) (
  Option.bind (T2 a.1) fun f=>
  some (f,0))<|
 some ((D2.mk a.1 a.1 e.1),0)
def C6z (c:E8):Option (D2×Int):=
 Option.bind (A00 c) fun a=>
 cond (a !=0) (
  some ((D2.mk (A5.mk 0 0) (A5.mk 0 0) (A5.mk 0 0)),a))<|
 Option.bind (A8d c.Ad) fun b=>
 some (b,0)
def A6O (e:B6) (d:List D7) (b c:Int):Option (((List D7)×Int×Int)⊕(List D7)):=
 cond (decide (c<(e.Av.length:Int))) (
  Option.bind (D3 e.Av c) fun a=>
  ck (decide ((d.length+ [(D7.mk a.V (A2 (b+a.G)) (A2 ((A2 (b+a.G))+a.D)))].length)*24<=140737488355328))<|
  some (.inl ((d++ [(D7.mk a.V (A2 (b+a.G)) (A2 ((A2 (b+a.G))+a.D)))]),(A2 (b+a.G)),(A2 (c+1)))))<|
 Option.map Sum.inr (some d)
def B6p (d:B6) (b:List D7) (c a:Int):Option (List D7):=
 loop (fun (s:((List D7)×Int×Int))=>A6O d s.1 s.2.1 s.2.2) (b,c,a)
def A6f (a:B6):Option (List D7):=
 B6p a ([]:List D7) 0 0
def B3j (d e f:Int):Option Int:=
 let b:=(N1 (A8 e) (A8 d));
 let c:=(J6 (A8 f));
 Option.bind (A5z b c) fun a=>
 cond (!(a.2.1.Hi==0&&(a.2.1.Lo==0&&true))) (
  some (A0U 1 (A2 (A8 (a.1.Lo+1)))))<|
 some (A0U 1 (A2 a.1.Lo))
def B38 (c:Int) (e:List D7) (d f b:Int):Option ((Int×Int×Int)⊕(Int×Int)):=
 cond (decide (b<(e.length:Int))) (
  Option.bind (D3 e b) fun a=>
  cond ((decide (d<0))||(decide ((A0U (A2 (c-a.Bt)) (A2 (a.Bs-c)))<d))) (
   some (.inl ((A0U (A2 (c-a.Bt)) (A2 (a.Bs-c))),a.V,(A2 (b+1)))))<|
  some (.inl (d,f,(A2 (b+1)))))<|
 Option.map Sum.inr (some (f,0))
def B5a (e:Int) (a:List D7) (b c d:Int):Option (Int×Int):=
 loop (fun (s:(Int×Int×Int))=>B38 e a s.1 s.2.1 s.2.2) (b,c,d)
def B0P (d:B6) (e f:Int):Option (Int×Int):=
 Option.bind (W1 d) fun a=>
 cond (a !=0) (
  some (0,a))<|
 cond (((decide (f<1))||(decide (e<0)))||(decide (e>f))) (
  some (0,1))<|
 cond (d.N==0) (
  some (0,7))<|
 Option.bind (B3j d.N e f) fun c=>
 Option.bind (A6f d) fun b=>
 B5a c b (-1:Int) 0 0
def A6e (b c:Int):Option (D2×Int):=
 let a:=(A15 b c);
 some (a.1,0)
def B8D (e:B6) (f:Int) (c:List D7) (d a:Int):Option ((Int×Int)⊕(D2×Int)):=
 cond (decide (a<(c.length:Int))) (
  Option.bind (D3 c a) fun b=>
  cond (decide (b.V>f)) (
   Option.map Sum.inr (A6e d (A2 (b.Bs-1))))<|
  some (.inl (b.Bt,(A2 (a+1)))))<|
 Option.map Sum.inr (A6e d e.N)
def B93 (d:B6) (e:Int) (b:List D7) (c a:Int):Option (D2×Int):=
 loop (fun (s:(Int×Int))=>B8D d e b s.1 s.2) (c,a)
def B6o (c:B6) (d:Int):Option (D2×Int):=
 Option.bind (W1 c) fun a=>
 cond (a !=0) (
  some ((D2.mk (A5.mk 0 0) (A5.mk 0 0) (A5.mk 0 0)),a))<|
 Option.bind (A6f c) fun b=>
 B93 c d b 0 0
def O1 (b c:Int) (d:Bool) (a:E5):Option (E5×Int):=
 cond (b !=0) (
  some ((E5.mk (D2.mk (A5.mk 0 0) (A5.mk 0 0) (A5.mk 0 0)) ([]:List Int) (D9.mk (A3.mk 0 0) (A3.mk 0 0))),b))<|
 cond d (
  some ((E5.mk a.Al [c] a.Aa),0))<|
 some (a,0)
def B6r (p:B0) (q:R9):Option (E5×Int):=
 Option.bind (K6 p) fun c=>
 cond (c !=0) (
  some ((E5.mk (D2.mk (A5.mk 0 0) (A5.mk 0 0) (A5.mk 0 0)) ([]:List Int) (D9.mk (A3.mk 0 0) (A3.mk 0 0))),c))<|
 let o:=(B2K p.Ao q.Op);
 cond (!o) (
  some ((E5.mk (D2.mk (A5.mk 0 0) (A5.mk 0 0) (A5.mk 0 0)) ([]:List Int) (D9.mk (A3.mk 0 0) (A3.mk 0 0))),12))<|
 cond (p.Ao.Bi==1) (
  Option.bind (B9N p.Aq q) fun d=>
  some (d.1,d.2))<|
 cond (p.Ao.Bi==2) (
  Option.bind (C1t p.Ay) fun e=>
  O1 e.2 0 false (E5.mk e.1 ([]:List Int) (D9.mk (A3.mk 0 0) (A3.mk 0 0))))<|
 cond (p.Ao.Bi==3) (
  Option.bind (C6z p.Sum) fun f=>
  O1 f.2 0 false (E5.mk f.1 ([]:List Int) (D9.mk (A3.mk 0 0) (A3.mk 0 0))))<|
 cond (p.Ao.Bi==4) (
  Option.bind (B9W p.As) fun g=>
  O1 g.2 0 false (E5.mk g.1 ([]:List Int) (D9.mk (A3.mk 0 0) (A3.mk 0 0))))<|
 cond (p.Ao.Bi==5) (
  Option.bind (B91 p.Au) fun h=>
  O1 h.2 0 false (E5.mk h.1 ([]:List Int) (D9.mk (A3.mk 0 0) (A3.mk 0 0))))<|
 cond (p.Ao.Bi==6) (
  Option.bind (C4u p.Bm) fun i=>
  O1 i.2 0 false (E5.mk (D2.mk (A5.mk 0 0) (A5.mk 0 0) (A5.mk 0 0)) ([]:List Int) i.1))<|
 cond (p.Ao.Bi==7) (
  Option.bind (C1F p.Ba) fun j=>
  O1 j.2 0 false (E5.mk (D2.mk (A5.mk 0 0) (A5.mk 0 0) (A5.mk 0 0)) ([]:List Int) j.1))<|
 cond (p.Ao.Bi==8) (
  Option.bind (B7C p.Af) fun k=>
  O1 k.2 k.1 true (E5.mk (D2.mk (A5.mk 0 0) (A5.mk 0 0) (A5.mk 0 0)) ([]:List Int) (D9.mk (A3.mk 0 0) (A3.mk 0 0))))<|
 cond (p.Ao.Bi==9) (
  Option.bind (B9U p.Ar) fun l=>
  O1 l.2 0 false (E5.mk (D2.mk (A5.mk 0 0) (A5.mk 0 0) (A5.mk 0 0)) l.1 (D9.mk (A3.mk 0 0) (A3.mk 0 0))))<|
 cond (p.Ao.Bi==10) (
  cond (q.Op==7) (
   Option.bind (B6o p.Ai q.A) fun a=>
   cond (a.2 !=0) (
    some ((E5.mk (D2.mk (A5.mk 0 0) (A5.mk 0 0) (A5.mk 0 0)) ([]:List Int) (D9.mk (A3.mk 0 0) (A3.mk 0 0))),a.2))<|
   some ((E5.mk a.1 ([]:List Int) (D9.mk (A3.mk 0 0) (A3.mk 0 0))),0))<|
  Option.bind (B0P p.Ai q.A q.B) fun m=>
  O1 m.2 m.1 true (E5.mk (D2.mk (A5.mk 0 0) (A5.mk 0 0) (A5.mk 0 0)) ([]:List Int) (D9.mk (A3.mk 0 0) (A3.mk 0 0))))<|
 cond (p.Ao.Bi==11) (
  cond (q.Op==7) (
   Option.bind (B4B p.Ab q.A) fun b=>
   cond (b.2 !=0) (
    some ((E5.mk (D2.mk (A5.mk 0 0) (A5.mk 0 0) (A5.mk 0 0)) ([]:List Int) (D9.mk (A3.mk 0 0) (A3.mk 0 0))),b.2))<|
   some ((E5.mk b.1 ([]:List Int) (D9.mk (A3.mk 0 0) (A3.mk 0 0))),0))<|
  Option.bind (B2Z p.Ab q.A q.B) fun n=>
  O1 n.2 n.1 true (E5.mk (D2.mk (A5.mk 0 0) (A5.mk 0 0) (A5.mk 0 0)) ([]:List Int) (D9.mk (A3.mk 0 0) (A3.mk 0 0))))<|
 O1 c 0 false (E5.mk (D2.mk (A5.mk 0 0) (A5.mk 0 0) (A5.mk 0 0)) ([]:List Int) (D9.mk (A3.mk 0 0) (A3.mk 0 0)))
def B0n (c:E4):Option (Int×E4):=
 Option.bind (A4F c) fun a=>
 cond (!a.2) (
  some (11,c))<|
 Option.bind (B6r a.1 c.command_.Bg) fun b=>
 some (b.2,(E4.mk c.Ap c.command_ (I9.mk c.reply_.Code b.1 c.reply_.Br c.reply_.Ax)))
def A3m (d:List D1) (f:Int) (e:D1):Option ((List D1)×Int):=
 Option.bind (Q3 d f) fun b=>
 Option.bind (gd (!(!b)) (K6 e.Ac)) fun c=>
 cond ((!b)||(c !=0)) (
  some ([],2))<|
 cond ((decide (e.ID<0))||(decide (e.ID>1048576))) (
  some ([],1))<|
 Option.bind (A0z d e.ID) fun a=>
 cond a.2 (
  some ([],10))<|
 cond ((d.length:Int)==f) (
  some ([],5))<|
 ck (decide (0<=a.1/\a.1<=(d.length:Int)))<|
 ck (decide ((([]:List D1).length+(d.take (a.1).toNat).length)*640<=140737488355328))<|
 ck (decide (((([]:List D1)++(d.take (a.1).toNat)).length+ [e].length)*640<=140737488355328))<|
 ck (decide (0<=a.1/\a.1<=(d.length:Int)))<|
 ck (decide ((((([]:List D1)++(d.take (a.1).toNat))++ [e]).length+(d.drop (a.1).toNat).length)*640<=140737488355328))<|
 some ((((([]:List D1)++(d.take (a.1).toNat))++ [e])++(d.drop (a.1).toNat)),0)
def A21 (e:Bool) (b c d:Int):(B9×Int):=
 let a:=(A3t b c d);
 cond (!a) (
  ((B9.mk false 0 0 0 []),1))<|
 ((B9.mk e b c d []),0)
def B1g (a b:Int):Option (F6×Int):=
 cond ((((decide (a<1))||(decide (a>64)))||(decide (b<0)))||(decide (b>16777216))) (
  some ((F6.mk 0 []),1))<|
 ck (decide (0<=a/\a<=a/\a*8<=140737488355328/\a<=140737488355328))<|
 some ((F6.mk b (List.replicate (a).toNat 0)),0)
def B8A (b c:Int):Option (D5×Int):=
 let a:=(B1k c);
 cond (((decide (b<0))||(decide (b>4)))||(!a)) (
  some ((D5.mk 0 0 0 []),1))<|
 ck (decide (0<=(A2 (b+1))/\(A2 (b+1))<=(A2 (b+1))/\(A2 (b+(1:Int)))*16<=140737488355328/\(A2 (b+(1:Int)))<=140737488355328))<|
 some ((D5.mk b c c (List.replicate ((A2 (b+(1:Int)))).toNat (A3.mk 0 0))),0)
def A2f (b c d e:Int):(B7×Int):=
 let a:=(Y4 b c d e);
 cond (!a) (
  ((B7.mk 0 0 0 0 []),1))<|
 ((B7.mk b c d e []),0)
def A3Y (b c d:Int):(C6×Int):=
 let a:=(A4X b c d);
 cond (!a) (
  ((C6.mk 0 0 0 []),1))<|
 ((C6.mk b c d []),0)
def A2m (d e f c:Int) (a:List B8):Option ((Int×(List B8))⊕(F0×Int)):=
 cond (decide (c<d)) (
  let b:=(P7 e f);
  cond (b.2 !=0) (
   some (.inr ((F0.mk []),b.2)))<|
  ck (decide ((a.length+ [b.1].length)*56<=140737488355328))<|
  some (.inl ((A2 (c+1)),(a++ [b.1]))))<|
 Option.map Sum.inr (some ((F0.mk a),0))
def A8w (c d e b:Int) (a:List B8):Option (F0×Int):=
 loop (fun (s:(Int×(List B8)))=>A2m c d e s.1 s.2) (b,a)
def A9I (a b c:Int):Option (F0×Int):=
 cond ((decide (a<1))||(decide (a>16))) (
  some ((F0.mk []),1))<|
 A8w a b c 0 ([]:List B8)
def A4k (b c d e f:Int):(C7×Int):=
 let a:=(A0b b c d e f);
 cond (!a) (
  ((C7.mk 0 0 0 0 0 0 []),1))<|
 ((C7.mk b c d e f 0 []),0)
def A4m (b c d e:Int):(C8×Int):=
 let a:=(A3V b c d e);
 cond (!a) (
  ((C8.mk 0 0 0 0 0 []),1))<|
 ((C8.mk b c d e 0 []),0)
def A90 (b c d e f:Int):(E8×Int):=
 let a:=(A7q b c d e f);
 cond (!a) (
  ((E8.mk 0 0 0 0 0 []),1))<|
 ((E8.mk b c d e f []),0)
def A27 (a b:Int):(B6×Int):=
 cond ((((decide (a<1))||(decide (a>64)))||(decide (b<2)))||(decide (b>65536))) (
  ((B6.mk 0 0 0 []),1))<|
 ((B6.mk a b 0 []),0)
def A5j (a:Int):Bool:=
 ((decide (a>=0))&&(decide (a<=16777216)))
def M8 (n:E9) (m:Int) (i:C6) (a:D4) (b:E8) (c:C7) (d:C8) (e:D5) (j:Int) (k:List Int) (f:B9) (l:List B8) (g:B6) (h:B7):Option (B0×Int):=
 cond (m !=0) (
  some ((B0.mk (E9.mk 0 0 0 0 0 0 0 0) (C6.mk 0 0 0 []) (D4.mk 0 0 0 0 []) (E8.mk 0 0 0 0 0 []) (C7.mk 0 0 0 0 0 0 []) (C8.mk 0 0 0 0 0 []) (D5.mk 0 0 0 []) (F6.mk 0 []) (B9.mk false 0 0 0 []) (F0.mk []) (B6.mk 0 0 0 []) (B7.mk 0 0 0 0 [])),m))<|
 some ((B0.mk n i a b c d e (F6.mk j k) f (F0.mk l) g h),0)
def A3H (n:E9) (o:Int):Option (B0×Int):=
 let l:=(U5 n);
 cond (l !=0) (
  some ((B0.mk (E9.mk 0 0 0 0 0 0 0 0) (C6.mk 0 0 0 []) (D4.mk 0 0 0 0 []) (E8.mk 0 0 0 0 0 []) (C7.mk 0 0 0 0 0 0 []) (C8.mk 0 0 0 0 0 []) (D5.mk 0 0 0 []) (F6.mk 0 []) (B9.mk false 0 0 0 []) (F0.mk []) (B6.mk 0 0 0 []) (B7.mk 0 0 0 0 [])),l))<|
 let m:=(A5j o);
 cond (!m) (
  some ((B0.mk (E9.mk 0 0 0 0 0 0 0 0) (C6.mk 0 0 0 []) (D4.mk 0 0 0 0 []) (E8.mk 0 0 0 0 0 []) (C7.mk 0 0 0 0 0 0 []) (C8.mk 0 0 0 0 0 []) (D5.mk 0 0 0 []) (F6.mk 0 []) (B9.mk false 0 0 0 []) (F0.mk []) (B6.mk 0 0 0 []) (B7.mk 0 0 0 0 [])),1))<|
 cond (n.Bi==1) (
  let b:=(A3Y n.W n.Cap o);
  M8 n b.2 b.1 (D4.mk 0 0 0 0 []) (E8.mk 0 0 0 0 0 []) (C7.mk 0 0 0 0 0 0 []) (C8.mk 0 0 0 0 0 []) (D5.mk 0 0 0 []) 0 ([]:List Int) (B9.mk false 0 0 0 []) ([]:List B8) (B6.mk 0 0 0 []) (B7.mk 0 0 0 0 []))<|
 cond (n.Bi==2) (
  let c:=(A5E n.W n.K n.Cap o);
  M8 n c.2 (C6.mk 0 0 0 []) c.1 (E8.mk 0 0 0 0 0 []) (C7.mk 0 0 0 0 0 0 []) (C8.mk 0 0 0 0 0 []) (D5.mk 0 0 0 []) 0 ([]:List Int) (B9.mk false 0 0 0 []) ([]:List B8) (B6.mk 0 0 0 []) (B7.mk 0 0 0 0 []))<|
 cond (n.Bi==3) (
  let d:=(A90 n.W n.K n.Cap n.Bs o);
  M8 n d.2 (C6.mk 0 0 0 []) (D4.mk 0 0 0 0 []) d.1 (C7.mk 0 0 0 0 0 0 []) (C8.mk 0 0 0 0 0 []) (D5.mk 0 0 0 []) 0 ([]:List Int) (B9.mk false 0 0 0 []) ([]:List B8) (B6.mk 0 0 0 []) (B7.mk 0 0 0 0 []))<|
 cond (n.Bi==4) (
  let e:=(A4k n.Bo n.W n.K n.Cap o);
  M8 n e.2 (C6.mk 0 0 0 []) (D4.mk 0 0 0 0 []) (E8.mk 0 0 0 0 0 []) e.1 (C8.mk 0 0 0 0 0 []) (D5.mk 0 0 0 []) 0 ([]:List Int) (B9.mk false 0 0 0 []) ([]:List B8) (B6.mk 0 0 0 []) (B7.mk 0 0 0 0 []))<|
 cond (n.Bi==5) (
  let f:=(A4m n.W n.K n.Cap o);
  M8 n f.2 (C6.mk 0 0 0 []) (D4.mk 0 0 0 0 []) (E8.mk 0 0 0 0 0 []) (C7.mk 0 0 0 0 0 0 []) f.1 (D5.mk 0 0 0 []) 0 ([]:List Int) (B9.mk false 0 0 0 []) ([]:List B8) (B6.mk 0 0 0 []) (B7.mk 0 0 0 0 []))<|
 cond (n.Bi==6) (
  Option.bind (B8A n.P o) fun g=>
  M8 n g.2 (C6.mk 0 0 0 []) (D4.mk 0 0 0 0 []) (E8.mk 0 0 0 0 0 []) (C7.mk 0 0 0 0 0 0 []) (C8.mk 0 0 0 0 0 []) g.1 0 ([]:List Int) (B9.mk false 0 0 0 []) ([]:List B8) (B6.mk 0 0 0 []) (B7.mk 0 0 0 0 []))<|
 cond (n.Bi==7) (
  Option.bind (B1g n.W o) fun a=>
  M8 n a.2 (C6.mk 0 0 0 []) (D4.mk 0 0 0 0 []) (E8.mk 0 0 0 0 0 []) (C7.mk 0 0 0 0 0 0 []) (C8.mk 0 0 0 0 0 []) (D5.mk 0 0 0 []) a.1.Now a.1.Bn (B9.mk false 0 0 0 []) ([]:List B8) (B6.mk 0 0 0 []) (B7.mk 0 0 0 0 []))<|
 cond (n.Bi==8) (
  let h:=(A21 (n.Bs==1) n.W n.Cap o);
  M8 n h.2 (C6.mk 0 0 0 []) (D4.mk 0 0 0 0 []) (E8.mk 0 0 0 0 0 []) (C7.mk 0 0 0 0 0 0 []) (C8.mk 0 0 0 0 0 []) (D5.mk 0 0 0 []) 0 ([]:List Int) h.1 ([]:List B8) (B6.mk 0 0 0 []) (B7.mk 0 0 0 0 []))<|
 cond (n.Bi==9) (
  Option.bind (A9I n.Am n.W n.Cap) fun i=>
  M8 n i.2 (C6.mk 0 0 0 []) (D4.mk 0 0 0 0 []) (E8.mk 0 0 0 0 0 []) (C7.mk 0 0 0 0 0 0 []) (C8.mk 0 0 0 0 0 []) (D5.mk 0 0 0 []) 0 ([]:List Int) (B9.mk false 0 0 0 []) i.1.Am (B6.mk 0 0 0 []) (B7.mk 0 0 0 0 []))<|
 cond (n.Bi==10) (
  let j:=(A27 n.K n.Cap);
  M8 n j.2 (C6.mk 0 0 0 []) (D4.mk 0 0 0 0 []) (E8.mk 0 0 0 0 0 []) (C7.mk 0 0 0 0 0 0 []) (C8.mk 0 0 0 0 0 []) (D5.mk 0 0 0 []) 0 ([]:List Int) (B9.mk false 0 0 0 []) ([]:List B8) j.1 (B7.mk 0 0 0 0 []))<|
 cond (n.Bi==11) (
  let k:=(A2f n.W n.K n.Cap o);
  M8 n k.2 (C6.mk 0 0 0 []) (D4.mk 0 0 0 0 []) (E8.mk 0 0 0 0 0 []) (C7.mk 0 0 0 0 0 0 []) (C8.mk 0 0 0 0 0 []) (D5.mk 0 0 0 []) 0 ([]:List Int) (B9.mk false 0 0 0 []) ([]:List B8) (B6.mk 0 0 0 []) k.1)<|
 M8 n 0 (C6.mk 0 0 0 []) (D4.mk 0 0 0 0 []) (E8.mk 0 0 0 0 0 []) (C7.mk 0 0 0 0 0 0 []) (C8.mk 0 0 0 0 0 []) (D5.mk 0 0 0 []) 0 ([]:List Int) (B9.mk false 0 0 0 []) ([]:List B8) (B6.mk 0 0 0 []) (B7.mk 0 0 0 0 [])
def Y8 (d:E4):Option (Int×E4):=
 cond ((decide (d.command_.ID<0))||(decide (d.command_.ID>1048576))) (
  some (1,d))<|
 Option.bind (A3H d.command_.Ao d.Ap.Now) fun b=>
 cond (b.2 !=0) (
  let c:=(U5 d.command_.Ao);
  some (c,d))<|
 Option.bind (A3m d.Ap.Ah d.Ap.Bd (D1.mk d.command_.ID b.1)) fun a=>
 cond (a.2 !=0) (
  some (a.2,d))<|
 some (0,(E4.mk (G7.mk d.Ap.Now d.Ap.Bd a.1) d.command_ d.reply_))
def B1p (c:List D1) (d:Int):Option ((List D1)×Int):=
 Option.bind (Q3 c 64) fun b=>
 cond (!b) (
  some ([],2))<|
 Option.bind (A0z c d) fun a=>
 cond (!a.2) (
  some ([],11))<|
 ck (decide (0<=a.1/\a.1<=(c.length:Int)))<|
 ck (decide ((([]:List D1).length+(c.take (a.1).toNat).length)*640<=140737488355328))<|
 ck (decide (0<=(A2 (a.1+1))/\(A2 (a.1+1))<=(c.length:Int)))<|
 ck (decide (((([]:List D1)++(c.take (a.1).toNat)).length+(c.drop ((A2 (a.1+(1:Int)))).toNat).length)*640<=140737488355328))<|
 some (((([]:List D1)++(c.take (a.1).toNat))++(c.drop ((A2 (a.1+(1:Int)))).toNat)),0)
def A8Q (b:E4):Option (Int×E4):=
 Option.bind (B1p b.Ap.Ah b.command_.ID) fun a=>
 cond (a.2 !=0) (
  some (a.2,b))<|
 some (0,(E4.mk (G7.mk b.Ap.Now b.Ap.Bd a.1) b.command_ b.reply_))
def A2K (d:List D1) (a:List Int) (b:Int):Option (((List Int)×Int)⊕(List Int)):=
 cond (decide (b<(d.length:Int))) (
  Option.bind (D3 d b) fun c=>
  ck (decide ((a.length+ [c.ID].length)*8<=140737488355328))<|
  some (.inl ((a++ [c.ID]),(A2 (b+1)))))<|
 Option.map Sum.inr (some a)
def B1o (c:List D1) (a:List Int) (b:Int):Option (List Int):=
 loop (fun (s:((List Int)×Int))=>A2K c s.1 s.2) (a,b)
def A3D (a:List D1):Option (List Int):=
 B1o a ([]:List Int) 0
def A1T (b:E4):Option (Int×E4):=
 Option.bind (A3D b.Ap.Ah) fun a=>
 some (0,(E4.mk b.Ap b.command_ (I9.mk b.reply_.Code b.reply_.Aj a b.reply_.Ax)))
def A2o (a:B0):(Int×Bool):=
 cond (a.Ao.Bi==1) (
  (a.Aq.Now,true))<|
 cond (a.Ao.Bi==2) (
  (a.Ay.Now,true))<|
 cond (a.Ao.Bi==3) (
  (a.Sum.Now,true))<|
 cond (a.Ao.Bi==4) (
  (a.As.Now,true))<|
 cond (a.Ao.Bi==5) (
  (a.Au.Now,true))<|
 cond (a.Ao.Bi==6) (
  (a.Bm.Now,true))<|
 cond (a.Ao.Bi==7) (
  (a.Ba.Now,true))<|
 cond (a.Ao.Bi==8) (
  (a.Af.Now,true))<|
 cond (a.Ao.Bi==11) (
  (a.Ab.Now,true))<|
 (0,false)
def A2n (d:G7) (a:Int):Option (Int⊕Int):=
 cond (decide (a<(d.Ah.length:Int))) (
  Option.bind (D3 d.Ah a) fun c=>
  let b:=(A2o c.Ac);
  cond (b.2&&(b.1 !=d.Now)) (
   some (.inr 2))<|
  some (.inl (A2 (a+1))))<|
 Option.map Sum.inr (some 0)
def X7 (b:G7) (a:Int):Option Int:=
 loop (fun (s:Int)=>A2n b s) a
def S2 (b:G7):Option Int:=
 Option.bind (gd (!((decide (b.Now<0))||(decide (b.Now>16777216)))) (Q3 b.Ah b.Bd)) fun a=>
 cond (((decide (b.Now<0))||(decide (b.Now>16777216)))||(!a)) (
  some 2)<|
 X7 b 0
def C2A (e:List Int) (d c a:Int):Option ((Int×Int)⊕(Int×Int×Bool)):=
 cond ((decide (a<10))&&(decide ((A2 (d+a))<(e.length:Int)))) (
  Option.bind (D3 e (A2 (d+a))) fun b=>
  cond ((a==9)&&(decide (b>1))) (
   some (.inr (0,0,false)))<|
  ck (decide (0<=(A8 (A2 (7*a)))))<|
  cond (decide (b>=128)) (
   some (.inl ((P0 .u64 c (F3 .u64 (A8 (S5 .u8 b 127)) (A8 (A2 (7*a))))),(A2 (a+1)))))<|
  cond ((b==0)&&(decide (a>0))) (
   some (.inr (0,0,false)))<|
  cond ((S5 .u64 (P0 .u64 c (F3 .u64 (A8 (S5 .u8 b 127)) (A8 (A2 (7*a))))) (1:Int))==(1:Int)) (
   some (.inr ((C34 .i64 (A2 (G9 .u64 (P0 .u64 c (F3 .u64 (A8 (S5 .u8 b 127)) (A8 (A2 (7*a))))) 1))),(A2 ((A2 (d+a))+1)),true)))<|
  some (.inr ((A2 (G9 .u64 (P0 .u64 c (F3 .u64 (A8 (S5 .u8 b 127)) (A8 (A2 (7*a))))) 1)),(A2 ((A2 (d+a))+1)),true)))<|
 Option.map Sum.inr (some (0,0,false))
def C4M (c:List Int) (d a b:Int):Option (Int×Int×Bool):=
 loop (fun (s:(Int×Int))=>C2A c d s.1 s.2) (a,b)
def B1B (b:List Int) (a:Int):Option (Int×Int×Bool):=
 cond ((decide (a<0))||(decide (a>(b.length:Int)))) (
  some (0,0,false))<|
 C4M b a 0 0
def E1 (d:List Int) (b:Int) (c:Bool) (e:Int):Option (Int×Bool×Int):=
 cond c (
  some (b,c,e))<|
 Option.bind (B1B d b) fun a=>
 cond (!a.2.2) (
  some (b,true,e))<|
 some (a.2.1,c,a.1)
def G0 (b:List Int) (c:Int) (d:Bool) (e:Int):Option (Int×Bool×Int):=
 Option.bind (E1 b c d e) fun a=>
 some (a.1,a.2.1,a.2.2)
def A5K (f:A7) (c:List Int) (d:Int) (e:Bool):Option (A7×Int×Bool):=
 Option.bind (E1 c d e f.T) fun a=>
 Option.bind (G0 c a.1 a.2.1 f.Bc) fun b=>
 some ((A7.mk a.2.2 b.2.2),b.1,b.2.1)
def K8 (f g:Int) (b:List Int) (c:Int) (d:Bool) (e:Int):Option (Int×Bool×Int):=
 Option.bind (E1 b c d e) fun a=>
 cond ((decide (a.2.2<f))||(decide (a.2.2>g))) (
  some (a.1,true,a.2.2))<|
 some (a.1,a.2.1,a.2.2)
def A2q (f:List Int) (e:Int) (a:Bool) (b:List A7) (c:Int):Option ((Int×Bool×(List A7)×Int)⊕(Int×Bool×(List A7))):=
 cond ((decide (c>0))&&(!a)) (
  Option.bind (A5K (A7.mk 0 0) f e a) fun d=>
  ck (decide ((b.length+ [d.1].length)*16<=140737488355328))<|
  some (.inl (d.2.1,d.2.2,(b++ [d.1]),(A2 (c-1)))))<|
 Option.map Sum.inr (some (e,a,b))
def A78 (e:List Int) (b:Int) (c:Bool) (d:List A7) (a:Int):Option (Int×Bool×(List A7)):=
 loop (fun (s:(Int×Bool×(List A7)×Int))=>A2q e s.1 s.2.1 s.2.2.1 s.2.2.2) (b,c,d,a)
def A3J (b:List Int) (c:Int) (d:Bool) (e:List A7):Option (Int×Bool×(List A7)):=
 Option.bind (K8 0 (A2 ((b.length:Int)-c)) b c d (e.length:Int)) fun a=>
 A78 b a.1 a.2.1 ([]:List A7) a.2.2
def A3d (b:List Int) (c:Int) (d:Bool) (e:List A7):Option (Int×Bool×(List A7)):=
 Option.bind (A3J b c d e) fun a=>
 some (a.1,a.2.1,a.2.2)
def A6D (f:D0) (c:List Int) (d:Int) (e:Bool):Option (D0×Int×Bool):=
 Option.bind (E1 c d e f.T) fun a=>
 Option.bind (E1 c a.1 a.2.1 f.V) fun b=>
 some ((D0.mk a.2.2 b.2.2),b.1,b.2.1)
def A2V (f:List Int) (e:Int) (a:Bool) (b:List D0) (c:Int):Option ((Int×Bool×(List D0)×Int)⊕(Int×Bool×(List D0))):=
 cond ((decide (c>0))&&(!a)) (
  Option.bind (A6D (D0.mk 0 0) f e a) fun d=>
  ck (decide ((b.length+ [d.1].length)*16<=140737488355328))<|
  some (.inl (d.2.1,d.2.2,(b++ [d.1]),(A2 (c-1)))))<|
 Option.map Sum.inr (some (e,a,b))
def A9L (e:List Int) (b:Int) (c:Bool) (d:List D0) (a:Int):Option (Int×Bool×(List D0)):=
 loop (fun (s:(Int×Bool×(List D0)×Int))=>A2V e s.1 s.2.1 s.2.2.1 s.2.2.2) (b,c,d,a)
def A41 (b:List Int) (c:Int) (d:Bool) (e:List D0):Option (Int×Bool×(List D0)):=
 Option.bind (K8 0 (A2 ((b.length:Int)-c)) b c d (e.length:Int)) fun a=>
 A9L b a.1 a.2.1 ([]:List D0) a.2.2
def A4L (b:List Int) (c:Int) (d:Bool) (e:List D0):Option (Int×Bool×(List D0)):=
 Option.bind (A41 b c d e) fun a=>
 some (a.1,a.2.1,a.2.2)
def A6F (i:B4) (h:List Int) (j:Int) (k:Bool):Option (B4×Int×Bool):=
 Option.bind (E1 h j k i.Bv) fun a=>
 Option.bind (E1 h a.1 a.2.1 i.T) fun b=>
 Option.bind (E1 h b.1 b.2.1 i.N) fun c=>
 Option.bind (E1 h c.1 c.2.1 i.S) fun d=>
 Option.bind (E1 h d.1 d.2.1 i.Q) fun e=>
 Option.bind (E1 h e.1 e.2.1 i.Bt) fun f=>
 Option.bind (E1 h f.1 f.2.1 i.Bs) fun g=>
 some ((B4.mk a.2.2 b.2.2 c.2.2 d.2.2 e.2.2 f.2.2 g.2.2),g.1,g.2.1)
def A2X (f:List Int) (e:Int) (a:Bool) (b:List B4) (c:Int):Option ((Int×Bool×(List B4)×Int)⊕(Int×Bool×(List B4))):=
 cond ((decide (c>0))&&(!a)) (
  Option.bind (A6F (B4.mk 0 0 0 0 0 0 0) f e a) fun d=>
  ck (decide ((b.length+ [d.1].length)*56<=140737488355328))<|
  some (.inl (d.2.1,d.2.2,(b++ [d.1]),(A2 (c-1)))))<|
 Option.map Sum.inr (some (e,a,b))
def A9P (e:List Int) (b:Int) (c:Bool) (d:List B4) (a:Int):Option (Int×Bool×(List B4)):=
 loop (fun (s:(Int×Bool×(List B4)×Int))=>A2X e s.1 s.2.1 s.2.2.1 s.2.2.2) (b,c,d,a)
def A45 (b:List Int) (c:Int) (d:Bool) (e:List B4):Option (Int×Bool×(List B4)):=
 Option.bind (K8 0 (A2 ((b.length:Int)-c)) b c d (e.length:Int)) fun a=>
 A9P b a.1 a.2.1 ([]:List B4) a.2.2
def A4N (b:List Int) (c:Int) (d:Bool) (e:List B4):Option (Int×Bool×(List B4)):=
 Option.bind (A45 b c d e) fun a=>
 some (a.1,a.2.1,a.2.2)
def A6z (e:D7) (d:List Int) (f:Int) (g:Bool):Option (D7×Int×Bool):=
 Option.bind (E1 d f g e.V) fun a=>
 Option.bind (E1 d a.1 a.2.1 e.Bt) fun b=>
 Option.bind (E1 d b.1 b.2.1 e.Bs) fun c=>
 some ((D7.mk a.2.2 b.2.2 c.2.2),c.1,c.2.1)
def A2x (f:List Int) (e:Int) (a:Bool) (b:List D7) (c:Int):Option ((Int×Bool×(List D7)×Int)⊕(Int×Bool×(List D7))):=
 cond ((decide (c>0))&&(!a)) (
  Option.bind (A6z (D7.mk 0 0 0) f e a) fun d=>
  ck (decide ((b.length+ [d.1].length)*24<=140737488355328))<|
  some (.inl (d.2.1,d.2.2,(b++ [d.1]),(A2 (c-1)))))<|
 Option.map Sum.inr (some (e,a,b))
def A8C (e:List Int) (b:Int) (c:Bool) (d:List D7) (a:Int):Option (Int×Bool×(List D7)):=
 loop (fun (s:(Int×Bool×(List D7)×Int))=>A2x e s.1 s.2.1 s.2.2.1 s.2.2.2) (b,c,d,a)
def A4v (b:List Int) (c:Int) (d:Bool):Option (Int×Bool×(List D7)):=
 Option.bind (K8 0 (A2 ((b.length:Int)-c)) b c d 0) fun a=>
 A8C b a.1 a.2.1 ([]:List D7) a.2.2
def A87 (f:List Int) (g:Int) (h:Bool) (i j k l:Int):Option (Int×Bool×Int×Int×Int×Int×(List D7)):=
 Option.bind (E1 f g h i) fun a=>
 Option.bind (E1 f a.1 a.2.1 j) fun b=>
 Option.bind (G0 f b.1 b.2.1 k) fun c=>
 Option.bind (E1 f c.1 c.2.1 l) fun d=>
 Option.bind (A4v f d.1 d.2.1) fun e=>
 some (e.1,e.2.1,a.2.2,b.2.2,c.2.2,d.2.2,e.2.2)
def A6L (b c d e:Int) (f:List Int) (g:Int) (h:Bool):Option (Int×Int×Int×Int×Int×Bool×(List D7)):=
 Option.bind (A87 f g h b c d e) fun a=>
 some (a.2.2.1,a.2.2.2.1,a.2.2.2.2.1,a.2.2.2.2.2.1,a.1,a.2.1,a.2.2.2.2.2.2)
def A2v (f:List Int) (e:Int) (b:Bool) (c:List C4) (d:Int):Option ((Int×Bool×(List C4)×Int)⊕(Int×Bool×(List C4))):=
 cond ((decide (d>0))&&(!b)) (
  Option.bind (A6L 0 0 0 0 f e b) fun a=>
  ck (decide ((c.length+ [(C4.mk a.1 a.2.1 a.2.2.1 (E3.mk a.2.2.2.1 a.2.2.2.2.2.2))].length)*56<=140737488355328))<|
  some (.inl (a.2.2.2.2.1,a.2.2.2.2.2.1,(c++ [(C4.mk a.1 a.2.1 a.2.2.1 (E3.mk a.2.2.2.1 a.2.2.2.2.2.2))]),(A2 (d-1)))))<|
 Option.map Sum.inr (some (e,b,c))
def A8y (e:List Int) (b:Int) (c:Bool) (d:List C4) (a:Int):Option (Int×Bool×(List C4)):=
 loop (fun (s:(Int×Bool×(List C4)×Int))=>A2v e s.1 s.2.1 s.2.2.1 s.2.2.2) (b,c,d,a)
def A4r (b:List Int) (c:Int) (d:Bool) (e:List C4):Option (Int×Bool×(List C4)):=
 Option.bind (K8 0 (A2 ((b.length:Int)-c)) b c d (e.length:Int)) fun a=>
 A8y b a.1 a.2.1 ([]:List C4) a.2.2
def A6B (f:H0) (c:List Int) (d:Int) (e:Bool):Option (H0×Int×Bool):=
 Option.bind (E1 c d e f.I) fun a=>
 Option.bind (E1 c a.1 a.2.1 f.V) fun b=>
 some ((H0.mk a.2.2 b.2.2),b.1,b.2.1)
def A2W (f:List Int) (e:Int) (a:Bool) (b:List H0) (c:Int):Option ((Int×Bool×(List H0)×Int)⊕(Int×Bool×(List H0))):=
 cond ((decide (c>0))&&(!a)) (
  Option.bind (A6B (H0.mk 0 0) f e a) fun d=>
  ck (decide ((b.length+ [d.1].length)*16<=140737488355328))<|
  some (.inl (d.2.1,d.2.2,(b++ [d.1]),(A2 (c-1)))))<|
 Option.map Sum.inr (some (e,a,b))
def A9N (e:List Int) (b:Int) (c:Bool) (d:List H0) (a:Int):Option (Int×Bool×(List H0)):=
 loop (fun (s:(Int×Bool×(List H0)×Int))=>A2W e s.1 s.2.1 s.2.2.1 s.2.2.2) (b,c,d,a)
def A43 (b:List Int) (c:Int) (d:Bool):Option (Int×Bool×(List H0)):=
 Option.bind (K8 0 (A2 ((b.length:Int)-c)) b c d 0) fun a=>
 A9N b a.1 a.2.1 ([]:List H0) a.2.2
def A89 (f:List Int) (g:Int) (h:Bool) (i j k l:Int):Option (Int×Bool×Int×Int×Int×Int×(List H0)):=
 Option.bind (E1 f g h i) fun a=>
 Option.bind (G0 f a.1 a.2.1 j) fun b=>
 Option.bind (E1 f b.1 b.2.1 k) fun c=>
 Option.bind (E1 f c.1 c.2.1 l) fun d=>
 Option.bind (A43 f d.1 d.2.1) fun e=>
 some (e.1,e.2.1,a.2.2,b.2.2,c.2.2,d.2.2,e.2.2)
def A6H (b c d e:Int) (f:List Int) (g:Int) (h:Bool):Option (Int×Int×Int×Int×Int×Bool×(List H0)):=
 Option.bind (A89 f g h b c d e) fun a=>
 some (a.2.2.1,a.2.2.2.1,a.2.2.2.2.1,a.2.2.2.2.2.1,a.1,a.2.1,a.2.2.2.2.2.2)
def A2w (f:List Int) (e:Int) (b:Bool) (c:List B8) (d:Int):Option ((Int×Bool×(List B8)×Int)⊕(Int×Bool×(List B8))):=
 cond ((decide (d>0))&&(!b)) (
  Option.bind (A6H 0 0 0 0 f e b) fun a=>
  ck (decide ((c.length+ [(B8.mk a.1 a.2.1 a.2.2.1 a.2.2.2.1 a.2.2.2.2.2.2)].length)*56<=140737488355328))<|
  some (.inl (a.2.2.2.2.1,a.2.2.2.2.2.1,(c++ [(B8.mk a.1 a.2.1 a.2.2.1 a.2.2.2.1 a.2.2.2.2.2.2)]),(A2 (d-1)))))<|
 Option.map Sum.inr (some (e,b,c))
def A8A (e:List Int) (b:Int) (c:Bool) (d:List B8) (a:Int):Option (Int×Bool×(List B8)):=
 loop (fun (s:(Int×Bool×(List B8)×Int))=>A2w e s.1 s.2.1 s.2.2.1 s.2.2.2) (b,c,d,a)
def A4t (b:List Int) (c:Int) (d:Bool) (e:List B8):Option (Int×Bool×(List B8)):=
 Option.bind (K8 0 (A2 ((b.length:Int)-c)) b c d (e.length:Int)) fun a=>
 A8A b a.1 a.2.1 ([]:List B8) a.2.2
def A6J (e:E6) (d:List Int) (f:Int) (g:Bool):Option (E6×Int×Bool):=
 Option.bind (E1 d f g e.V) fun a=>
 Option.bind (E1 d a.1 a.2.1 e.G) fun b=>
 Option.bind (E1 d b.1 b.2.1 e.D) fun c=>
 some ((E6.mk a.2.2 b.2.2 c.2.2),c.1,c.2.1)
def A2y (f:List Int) (e:Int) (a:Bool) (b:List E6) (c:Int):Option ((Int×Bool×(List E6)×Int)⊕(Int×Bool×(List E6))):=
 cond ((decide (c>0))&&(!a)) (
  Option.bind (A6J (E6.mk 0 0 0) f e a) fun d=>
  ck (decide ((b.length+ [d.1].length)*24<=140737488355328))<|
  some (.inl (d.2.1,d.2.2,(b++ [d.1]),(A2 (c-1)))))<|
 Option.map Sum.inr (some (e,a,b))
def A8H (e:List Int) (b:Int) (c:Bool) (d:List E6) (a:Int):Option (Int×Bool×(List E6)):=
 loop (fun (s:(Int×Bool×(List E6)×Int))=>A2y e s.1 s.2.1 s.2.2.1 s.2.2.2) (b,c,d,a)
def A4x (b:List Int) (c:Int) (d:Bool) (e:List E6):Option (Int×Bool×(List E6)):=
 Option.bind (K8 0 (A2 ((b.length:Int)-c)) b c d (e.length:Int)) fun a=>
 A8H b a.1 a.2.1 ([]:List E6) a.2.2
def A4S (b:List Int) (c:Int) (d:Bool) (e:Int):Option (Int×Bool×Int):=
 Option.bind (E1 b c d (A2 e)) fun a=>
 some (a.1,a.2.1,(A8 a.2.2))
def A9j (c:List Int) (d:Int) (e:Bool) (f:A3):Option (Int×Bool×A3):=
 Option.bind (A4S c d e f.Hi) fun a=>
 Option.bind (A4S c a.1 a.2.1 f.Lo) fun b=>
 some (b.1,b.2.1,(A3.mk a.2.2 b.2.2))
def A2Y (f:List Int) (e:Int) (a:Bool) (b:List A3) (c:Int):Option ((Int×Bool×(List A3)×Int)⊕(Int×Bool×(List A3))):=
 cond ((decide (c>0))&&(!a)) (
  Option.bind (A9j f e a (A3.mk 0 0)) fun d=>
  ck (decide ((b.length+ [d.2.2].length)*16<=140737488355328))<|
  some (.inl (d.1,d.2.1,(b++ [d.2.2]),(A2 (c-1)))))<|
 Option.map Sum.inr (some (e,a,b))
def A9R (e:List Int) (b:Int) (c:Bool) (d:List A3) (a:Int):Option (Int×Bool×(List A3)):=
 loop (fun (s:(Int×Bool×(List A3)×Int))=>A2Y e s.1 s.2.1 s.2.2.1 s.2.2.2) (b,c,d,a)
def A47 (b:List Int) (c:Int) (d:Bool) (e:List A3):Option (Int×Bool×(List A3)):=
 Option.bind (K8 0 (A2 ((b.length:Int)-c)) b c d (e.length:Int)) fun a=>
 A9R b a.1 a.2.1 ([]:List A3) a.2.2
def A2N (c:List Int) (d:Int) (e:Bool) (a:Int):Option (Int×Bool×Bool):=
 Option.bind (K8 0 1 c d e a) fun b=>
 some (b.1,b.2.1,(b.2.2==1))
def A9g (a:List Int) (b:Int) (c d:Bool):Option (Int×Bool×Bool):=
 cond d (
  A2N a b c 1)<|
 A2N a b c 0
def A4y (f:List Int) (e:Int) (a:Bool) (b:List Int) (c:Int):Option ((Int×Bool×(List Int)×Int)⊕(Int×Bool×(List Int))):=
 cond ((decide (c>0))&&(!a)) (
  Option.bind (E1 f e a 0) fun d=>
  ck (decide ((b.length+ [d.2.2].length)*8<=140737488355328))<|
  some (.inl (d.1,d.2.1,(b++ [d.2.2]),(A2 (c-1)))))<|
 Option.map Sum.inr (some (e,a,b))
def B14 (e:List Int) (b:Int) (c:Bool) (d:List Int) (a:Int):Option (Int×Bool×(List Int)):=
 loop (fun (s:(Int×Bool×(List Int)×Int))=>A4y e s.1 s.2.1 s.2.2.1 s.2.2.2) (b,c,d,a)
def A6Q (b:List Int) (c:Int) (d:Bool) (e:List Int):Option (Int×Bool×(List Int)):=
 Option.bind (K8 0 (A2 ((b.length:Int)-c)) b c d (e.length:Int)) fun a=>
 B14 b a.1 a.2.1 ([]:List Int) a.2.2
def A9i (b:List Int) (c:Int) (d:Bool) (e:List Int):Option (Int×Bool×(List Int)):=
 Option.bind (A6Q b c d e) fun a=>
 some (a.1,a.2.1,a.2.2)
def A9b (b0_0:List Int) (b0_1:Int) (b0_3:Bool) (b1:B0):Option (Int×Bool×B0):=
 cond (b1.Ao.Bi==1) (
  Option.bind (E1 b0_0 b0_1 b0_3 b1.Aq.W) fun X=>
  Option.bind (G0 b0_0 X.1 X.2.1 b1.Aq.Cap) fun Y=>
  Option.bind (E1 b0_0 Y.1 Y.2.1 b1.Aq.Now) fun Z=>
  Option.bind (A4L b0_0 Z.1 Z.2.1 b1.Aq.Bb) fun a0=>
  some (a0.1,a0.2.1,(B0.mk b1.Ao (C6.mk X.2.2 Y.2.2 Z.2.2 a0.2.2) b1.Ay b1.Sum b1.As b1.Au b1.Bm b1.Ba b1.Af b1.Ar b1.Ai b1.Ab)))<|
 cond (b1.Ao.Bi==2) (
  Option.bind (E1 b0_0 b0_1 b0_3 b1.Ay.W) fun a=>
  Option.bind (G0 b0_0 a.1 a.2.1 b1.Ay.K) fun b=>
  Option.bind (G0 b0_0 b.1 b.2.1 b1.Ay.Cap) fun c=>
  Option.bind (E1 b0_0 c.1 c.2.1 b1.Ay.Now) fun d=>
  Option.bind (A3d b0_0 d.1 d.2.1 b1.Ay.Ad) fun e=>
  some (e.1,e.2.1,(B0.mk b1.Ao b1.Aq (D4.mk a.2.2 b.2.2 c.2.2 d.2.2 e.2.2) b1.Sum b1.As b1.Au b1.Bm b1.Ba b1.Af b1.Ar b1.Ai b1.Ab)))<|
 cond (b1.Ao.Bi==3) (
  Option.bind (E1 b0_0 b0_1 b0_3 b1.Sum.W) fun f=>
  Option.bind (G0 b0_0 f.1 f.2.1 b1.Sum.K) fun g=>
  Option.bind (G0 b0_0 g.1 g.2.1 b1.Sum.Cap) fun h=>
  Option.bind (G0 b0_0 h.1 h.2.1 b1.Sum.Bs) fun i=>
  Option.bind (E1 b0_0 i.1 i.2.1 b1.Sum.Now) fun j=>
  Option.bind (A3d b0_0 j.1 j.2.1 b1.Sum.Ad) fun k=>
  some (k.1,k.2.1,(B0.mk b1.Ao b1.Aq b1.Ay (E8.mk f.2.2 g.2.2 h.2.2 i.2.2 j.2.2 k.2.2) b1.As b1.Au b1.Bm b1.Ba b1.Af b1.Ar b1.Ai b1.Ab)))<|
 cond (b1.Ao.Bi==4) (
  Option.bind (G0 b0_0 b0_1 b0_3 b1.As.Bo) fun l=>
  Option.bind (E1 b0_0 l.1 l.2.1 b1.As.W) fun m=>
  Option.bind (G0 b0_0 m.1 m.2.1 b1.As.K) fun n=>
  Option.bind (G0 b0_0 n.1 n.2.1 b1.As.Cap) fun o=>
  Option.bind (E1 b0_0 o.1 o.2.1 b1.As.Now) fun p=>
  Option.bind (E1 b0_0 p.1 p.2.1 b1.As.Bv) fun q=>
  Option.bind (A4N b0_0 q.1 q.2.1 b1.As.Bf) fun r=>
  some (r.1,r.2.1,(B0.mk b1.Ao b1.Aq b1.Ay b1.Sum (C7.mk l.2.2 m.2.2 n.2.2 o.2.2 p.2.2 q.2.2 r.2.2) b1.Au b1.Bm b1.Ba b1.Af b1.Ar b1.Ai b1.Ab)))<|
 cond (b1.Ao.Bi==5) (
  Option.bind (E1 b0_0 b0_1 b0_3 b1.Au.W) fun s=>
  Option.bind (G0 b0_0 s.1 s.2.1 b1.Au.K) fun t=>
  Option.bind (G0 b0_0 t.1 t.2.1 b1.Au.Cap) fun u=>
  Option.bind (E1 b0_0 u.1 u.2.1 b1.Au.Now) fun v=>
  Option.bind (E1 b0_0 v.1 v.2.1 b1.Au.Bv) fun w=>
  Option.bind (A4N b0_0 w.1 w.2.1 b1.Au.Bf) fun x=>
  some (x.1,x.2.1,(B0.mk b1.Ao b1.Aq b1.Ay b1.Sum b1.As (C8.mk s.2.2 t.2.2 u.2.2 v.2.2 w.2.2 x.2.2) b1.Bm b1.Ba b1.Af b1.Ar b1.Ai b1.Ab)))<|
 cond (b1.Ao.Bi==6) (
  Option.bind (G0 b0_0 b0_1 b0_3 b1.Bm.P) fun y=>
  Option.bind (E1 b0_0 y.1 y.2.1 b1.Bm.Bj) fun z=>
  Option.bind (E1 b0_0 z.1 z.2.1 b1.Bm.Now) fun A=>
  Option.bind (A47 b0_0 A.1 A.2.1 b1.Bm.Ag) fun B=>
  some (B.1,B.2.1,(B0.mk b1.Ao b1.Aq b1.Ay b1.Sum b1.As b1.Au (D5.mk y.2.2 z.2.2 A.2.2 B.2.2) b1.Ba b1.Af b1.Ar b1.Ai b1.Ab)))<|
 cond (b1.Ao.Bi==7) (
  Option.bind (E1 b0_0 b0_1 b0_3 b1.Ba.Now) fun C=>
  Option.bind (A9i b0_0 C.1 C.2.1 b1.Ba.Bn) fun D=>
  some (D.1,D.2.1,(B0.mk b1.Ao b1.Aq b1.Ay b1.Sum b1.As b1.Au b1.Bm (F6.mk C.2.2 D.2.2) b1.Af b1.Ar b1.Ai b1.Ab)))<|
 cond (b1.Ao.Bi==8) (
  Option.bind (A9g b0_0 b0_1 b0_3 b1.Af.Bs) fun E=>
  Option.bind (E1 b0_0 E.1 E.2.1 b1.Af.W) fun F=>
  Option.bind (G0 b0_0 F.1 F.2.1 b1.Af.Cap) fun G=>
  Option.bind (E1 b0_0 G.1 G.2.1 b1.Af.Now) fun H=>
  Option.bind (A4L b0_0 H.1 H.2.1 b1.Af.Bb) fun I=>
  some (I.1,I.2.1,(B0.mk b1.Ao b1.Aq b1.Ay b1.Sum b1.As b1.Au b1.Bm b1.Ba (B9.mk E.2.2 F.2.2 G.2.2 H.2.2 I.2.2) b1.Ar b1.Ai b1.Ab)))<|
 cond (b1.Ao.Bi==9) (
  Option.bind (A4t b0_0 b0_1 b0_3 b1.Ar.Am) fun J=>
  some (J.1,J.2.1,(B0.mk b1.Ao b1.Aq b1.Ay b1.Sum b1.As b1.Au b1.Bm b1.Ba b1.Af (F0.mk J.2.2) b1.Ai b1.Ab)))<|
 cond (b1.Ao.Bi==10) (
  Option.bind (G0 b0_0 b0_1 b0_3 b1.Ai.K) fun L=>
  Option.bind (G0 b0_0 L.1 L.2.1 b1.Ai.Cap) fun M=>
  Option.bind (E1 b0_0 M.1 M.2.1 b1.Ai.N) fun O=>
  Option.bind (A4x b0_0 O.1 O.2.1 b1.Ai.Av) fun Q=>
  some (Q.1,Q.2.1,(B0.mk b1.Ao b1.Aq b1.Ay b1.Sum b1.As b1.Au b1.Bm b1.Ba b1.Af b1.Ar (B6.mk L.2.2 M.2.2 O.2.2 Q.2.2) b1.Ab)))<|
 cond (b1.Ao.Bi==11) (
  Option.bind (E1 b0_0 b0_1 b0_3 b1.Ab.W) fun R=>
  Option.bind (G0 b0_0 R.1 R.2.1 b1.Ab.K) fun S=>
  Option.bind (G0 b0_0 S.1 S.2.1 b1.Ab.Cap) fun T=>
  Option.bind (E1 b0_0 T.1 T.2.1 b1.Ab.Now) fun U=>
  Option.bind (A4r b0_0 U.1 U.2.1 b1.Ab.Ak) fun V=>
  some (V.1,V.2.1,(B0.mk b1.Ao b1.Aq b1.Ay b1.Sum b1.As b1.Au b1.Bm b1.Ba b1.Af b1.Ar b1.Ai (B7.mk R.2.2 S.2.2 T.2.2 U.2.2 V.2.2))))<|
 some (b0_1,true,(B0.mk b1.Ao b1.Aq b1.Ay b1.Sum b1.As b1.Au b1.Bm b1.Ba b1.Af b1.Ar b1.Ai b1.Ab))
def A6S (i:List Int) (k:Int) (l:Bool) (j:E9):Option (Int×Bool×E9):=
 Option.bind (G0 i k l j.Bi) fun a=>
 Option.bind (G0 i a.1 a.2.1 j.Bo) fun b=>
 Option.bind (E1 i b.1 b.2.1 j.W) fun c=>
 Option.bind (G0 i c.1 c.2.1 j.K) fun d=>
 Option.bind (G0 i d.1 d.2.1 j.Cap) fun e=>
 Option.bind (G0 i e.1 e.2.1 j.P) fun f=>
 Option.bind (G0 i f.1 f.2.1 j.Am) fun g=>
 Option.bind (E1 i g.1 g.2.1 j.Bs) fun h=>
 some (h.1,h.2.1,(E9.mk a.2.2 b.2.2 c.2.2 d.2.2 e.2.2 f.2.2 g.2.2 h.2.2))
def B0S (c:List Int) (b d:Int):Option (Int×Bool×Int):=
 Option.bind (B1B c b) fun a=>
 cond (!a.2.2) (
  some (b,true,d))<|
 some (a.2.1,false,a.1)
def A6V (e f:Int) (b:List Int) (c d:Int):Option (Int×Bool×Int):=
 Option.bind (B0S b c d) fun a=>
 cond ((decide (a.2.2<e))||(decide (a.2.2>f))) (
  some (a.1,true,a.2.2))<|
 some (a.1,a.2.1,a.2.2)
def B3g (n:List Int) (h i:Int×Bool×Int) (c:List D1) (a f:Int) (e:Bool):Option (((List D1)×Int×Int×Bool)⊕(Int×Bool×Int×Int×(List D1))):=
 cond ((decide (a<(c.length:Int)))&&(!e)) (
  Option.bind (D3 c a) fun j=>
  Option.bind (D3 c a) fun l=>
  Option.bind (E1 n f e l.ID) fun d=>
  Option.bind (D3 (c.set (a).toNat (D1.mk d.2.2 l.Ac)) a) fun k=>
  Option.bind (A6S n d.1 d.2.1 k.Ac.Ao) fun b=>
  cond (!b.2.1) (
   Option.bind (D3 ((c.set (a).toNat (D1.mk d.2.2 l.Ac)).set (a).toNat (D1.mk k.ID (B0.mk b.2.2 k.Ac.Aq k.Ac.Ay k.Ac.Sum k.Ac.As k.Ac.Au k.Ac.Bm k.Ac.Ba k.Ac.Af k.Ac.Ar k.Ac.Ai k.Ac.Ab))) a) fun m=>
   Option.bind (A9b n b.1 b.2.1 m.Ac) fun g=>
   some (.inl ((((c.set (a).toNat (D1.mk d.2.2 l.Ac)).set (a).toNat (D1.mk k.ID (B0.mk b.2.2 k.Ac.Aq k.Ac.Ay k.Ac.Sum k.Ac.As k.Ac.Au k.Ac.Bm k.Ac.Ba k.Ac.Af k.Ac.Ar k.Ac.Ai k.Ac.Ab))).set (a).toNat (D1.mk m.ID g.2.2)),(A2 (a+1)),g.1,g.2.1)))<|
  some (.inl (((c.set (a).toNat (D1.mk d.2.2 l.Ac)).set (a).toNat (D1.mk k.ID (B0.mk b.2.2 k.Ac.Aq k.Ac.Ay k.Ac.Sum k.Ac.As k.Ac.Au k.Ac.Bm k.Ac.Ba k.Ac.Af k.Ac.Ar k.Ac.Ai k.Ac.Ab))),(A2 (a+1)),b.1,b.2.1)))<|
 Option.map Sum.inr (some (f,e,h.2.2,i.2.2,c))
def B37 (g:List Int) (c d:Int×Bool×Int) (e:List D1) (f a:Int) (b:Bool):Option (Int×Bool×Int×Int×(List D1)):=
 loop (fun (s:((List D1)×Int×Int×Bool))=>B3g g c d s.1 s.2.1 s.2.2.1 s.2.2.2) (e,f,a,b)
def A9d (e:List Int) (f g h:Int):Option (Int×Bool×Int×Int×(List D1)):=
 Option.bind (A6V 1 1 e f 1) fun d=>
 Option.bind (E1 e d.1 d.2.1 g) fun b=>
 Option.bind (G0 e b.1 b.2.1 h) fun c=>
 Option.bind (K8 0 64 e c.1 c.2.1 0) fun a=>
 cond a.2.1 (
  some (a.1,a.2.1,b.2.2,c.2.2,[]))<|
 ck (decide (0<=a.2.2/\a.2.2<=a.2.2/\a.2.2*640<=140737488355328/\a.2.2<=140737488355328))<|
 B37 e b c (laid (List.replicate (a.2.2).toNat (D1.mk 0 (B0.mk (E9.mk 0 0 0 0 0 0 0 0) (C6.mk 0 0 0 []) (D4.mk 0 0 0 0 []) (E8.mk 0 0 0 0 0 []) (C7.mk 0 0 0 0 0 0 []) (C8.mk 0 0 0 0 0 []) (D5.mk 0 0 0 []) (F6.mk 0 []) (B9.mk false 0 0 0 []) (F0.mk []) (B6.mk 0 0 0 []) (B7.mk 0 0 0 0 [])))) 0 (([]:List D1).take (List.replicate (a.2.2).toNat (D1.mk 0 (B0.mk (E9.mk 0 0 0 0 0 0 0 0) (C6.mk 0 0 0 []) (D4.mk 0 0 0 0 []) (E8.mk 0 0 0 0 0 []) (C7.mk 0 0 0 0 0 0 []) (C8.mk 0 0 0 0 0 []) (D5.mk 0 0 0 []) (F6.mk 0 []) (B9.mk false 0 0 0 []) (F0.mk []) (B6.mk 0 0 0 []) (B7.mk 0 0 0 0 [])))).length)) 0 a.1 a.2.1
def B1v (e:List Int):Option (G7×Int):=
 cond (decide ((e.length:Int)>(1048576:Int))) (
  some ((G7.mk 0 0 []),13))<|
 Option.bind (A9d e 0 0 0) fun a=>
 cond a.2.1 (
  some ((G7.mk 0 0 []),13))<|
 Option.bind (B1B e a.1) fun b=>
 ck (!(!((!b.2.2)||(b.2.1 !=(e.length:Int))))||(decide (0<=a.1/\a.1<=(e.length:Int))))<|
 Option.bind (gd (!((!b.2.2)||(b.2.1 !=(e.length:Int)))) (B5y (e.take (a.1).toNat))) fun d=>
 cond (((!b.2.2)||(b.2.1 !=(e.length:Int)))||(b.1 !=d)) (
  some ((G7.mk 0 0 []),13))<|
 Option.bind (S2 (G7.mk a.2.2.1 a.2.2.2.1 a.2.2.2.2)) fun c=>
 cond (c !=0) (
  some ((G7.mk 0 0 []),c))<|
 some ((G7.mk a.2.2.1 a.2.2.2.1 a.2.2.2.2),0)
def A8R (b:E4):Option (Int×E4):=
 Option.bind (B1v b.command_.Ax) fun a=>
 cond (a.2==0) (
  some (a.2,(E4.mk a.1 b.command_ b.reply_)))<|
 some (a.2,b)
def A75 (b:List Int) (a:Int):Option (((List Int)×Int)⊕(List Int)):=
 cond (decide (a>=128)) (
  ck (decide ((b.length+ [(P0 .u8 (IntKind.u8.wrap a) 128)].length)*1<=140737488355328))<|
  some (.inl ((b++ [(P0 .u8 (IntKind.u8.wrap a) 128)]),(G9 .u64 a 7))))<|
 Option.map Sum.inr (ck (decide ((b.length+ [(IntKind.u8.wrap a)].length)*1<=140737488355328))<|
 some (b++ [(IntKind.u8.wrap a)]))
def B7m (a:List Int) (b:Int):Option (List Int):=
 loop (fun (s:((List Int)×Int))=>A75 s.1 s.2) (a,b)
def A4R (b:List Int) (a:Int):Option (List Int):=
 B7m b a
def A4o (b:List Int) (a:Int):Option (List Int):=
 cond (decide (a<0)) (
  A4R b (C34 .u64 (F3 .u64 (A8 a) 1)))<|
 A4R b (F3 .u64 (A8 a) 1)
def E2 (b:List Int) (c:Int) (d:Bool) (e:Int):Option (List Int):=
 Option.bind (A4o b e) fun a=>
 some a
def G5 (b:List Int) (c:Int) (d:Bool) (e:Int):Option (List Int):=
 Option.bind (E2 b c d e) fun a=>
 some a
def A5J (f:A7) (e:List Int) (c:Int) (d:Bool):Option (List Int):=
 Option.bind (E2 e c d f.T) fun a=>
 Option.bind (G5 a c d f.Bc) fun b=>
 some b
def L9 (f g:Int) (b:List Int) (c:Int) (d:Bool) (e:Int):Option (List Int):=
 Option.bind (E2 b c d e) fun a=>
 some a
def A7r (e:Int) (f:Bool) (g:List A7) (b:Int) (a:List Int):Option ((Int×(List Int))⊕(List Int)):=
 cond (decide (b<(g.length:Int))) (
  Option.bind (D3 g b) fun c=>
  Option.bind (A5J c a e f) fun d=>
  some (.inl ((A2 (b+1)),d)))<|
 Option.map Sum.inr (some a)
def A77 (c:Int) (d:Bool) (e:List A7) (b:Int) (a:List Int):Option (List Int):=
 loop (fun (s:(Int×(List Int)))=>A7r c d e s.1 s.2) (b,a)
def A3I (c:List Int) (b:Int) (d:Bool) (e:List A7):Option (List Int):=
 Option.bind (L9 0 (A2 ((c.length:Int)-b)) c b d (e.length:Int)) fun a=>
 A77 b d e 0 a
def A3c (b:List Int) (c:Int) (d:Bool) (e:List A7):Option (List Int):=
 Option.bind (A3I b c d e) fun a=>
 some a
def A6C (f:D0) (e:List Int) (c:Int) (d:Bool):Option (List Int):=
 Option.bind (E2 e c d f.T) fun a=>
 Option.bind (E2 a c d f.V) fun b=>
 some b
def A8D (e:Int) (f:Bool) (g:List D0) (b:Int) (a:List Int):Option ((Int×(List Int))⊕(List Int)):=
 cond (decide (b<(g.length:Int))) (
  Option.bind (D3 g b) fun c=>
  Option.bind (A6C c a e f) fun d=>
  some (.inl ((A2 (b+1)),d)))<|
 Option.map Sum.inr (some a)
def A9K (c:Int) (d:Bool) (e:List D0) (b:Int) (a:List Int):Option (List Int):=
 loop (fun (s:(Int×(List Int)))=>A8D c d e s.1 s.2) (b,a)
def A40 (c:List Int) (b:Int) (d:Bool) (e:List D0):Option (List Int):=
 Option.bind (L9 0 (A2 ((c.length:Int)-b)) c b d (e.length:Int)) fun a=>
 A9K b d e 0 a
def A4K (b:List Int) (c:Int) (d:Bool) (e:List D0):Option (List Int):=
 Option.bind (A40 b c d e) fun a=>
 some a
def A6E (j:B4) (k:List Int) (h:Int) (i:Bool):Option (List Int):=
 Option.bind (E2 k h i j.Bv) fun a=>
 Option.bind (E2 a h i j.T) fun b=>
 Option.bind (E2 b h i j.N) fun c=>
 Option.bind (E2 c h i j.S) fun d=>
 Option.bind (E2 d h i j.Q) fun e=>
 Option.bind (E2 e h i j.Bt) fun f=>
 Option.bind (E2 f h i j.Bs) fun g=>
 some g
def A8F (e:Int) (f:Bool) (g:List B4) (b:Int) (a:List Int):Option ((Int×(List Int))⊕(List Int)):=
 cond (decide (b<(g.length:Int))) (
  Option.bind (D3 g b) fun c=>
  Option.bind (A6E c a e f) fun d=>
  some (.inl ((A2 (b+1)),d)))<|
 Option.map Sum.inr (some a)
def A9O (c:Int) (d:Bool) (e:List B4) (b:Int) (a:List Int):Option (List Int):=
 loop (fun (s:(Int×(List Int)))=>A8F c d e s.1 s.2) (b,a)
def A44 (c:List Int) (b:Int) (d:Bool) (e:List B4):Option (List Int):=
 Option.bind (L9 0 (A2 ((c.length:Int)-b)) c b d (e.length:Int)) fun a=>
 A9O b d e 0 a
def A4M (b:List Int) (c:Int) (d:Bool) (e:List B4):Option (List Int):=
 Option.bind (A44 b c d e) fun a=>
 some a
def A6y (f:D7) (g:List Int) (d:Int) (e:Bool):Option (List Int):=
 Option.bind (E2 g d e f.V) fun a=>
 Option.bind (E2 a d e f.Bt) fun b=>
 Option.bind (E2 b d e f.Bs) fun c=>
 some c
def A8a (e:Int) (f:Bool) (g:List D7) (b:Int) (a:List Int):Option ((Int×(List Int))⊕(List Int)):=
 cond (decide (b<(g.length:Int))) (
  Option.bind (D3 g b) fun c=>
  Option.bind (A6y c a e f) fun d=>
  some (.inl ((A2 (b+1)),d)))<|
 Option.map Sum.inr (some a)
def A8B (c:Int) (d:Bool) (e:List D7) (b:Int) (a:List Int):Option (List Int):=
 loop (fun (s:(Int×(List Int)))=>A8a c d e s.1 s.2) (b,a)
def A4u (c:List Int) (b:Int) (d:Bool) (e:List D7):Option (List Int):=
 Option.bind (L9 0 (A2 ((c.length:Int)-b)) c b d (e.length:Int)) fun a=>
 A8B b d e 0 a
def A86 (i:List Int) (f:Int) (g:Bool) (h:C4):Option (List Int):=
 Option.bind (E2 i f g h.T) fun a=>
 Option.bind (E2 a f g h.Bk) fun b=>
 Option.bind (G5 b f g h.Bc) fun c=>
 Option.bind (E2 c f g h.Bh.N) fun d=>
 Option.bind (A4u d f g h.Bh.Ae) fun e=>
 some e
def A6K (b:C4) (c:List Int) (d:Int) (e:Bool):Option (List Int):=
 Option.bind (A86 c d e (C4.mk b.T b.Bk b.Bc b.Bh)) fun a=>
 some a
def A76 (e:Int) (f:Bool) (g:List C4) (b:Int) (a:List Int):Option ((Int×(List Int))⊕(List Int)):=
 cond (decide (b<(g.length:Int))) (
  Option.bind (D3 g b) fun c=>
  Option.bind (A6K c a e f) fun d=>
  some (.inl ((A2 (b+1)),d)))<|
 Option.map Sum.inr (some a)
def A8x (c:Int) (d:Bool) (e:List C4) (b:Int) (a:List Int):Option (List Int):=
 loop (fun (s:(Int×(List Int)))=>A76 c d e s.1 s.2) (b,a)
def A4q (c:List Int) (b:Int) (d:Bool) (e:List C4):Option (List Int):=
 Option.bind (L9 0 (A2 ((c.length:Int)-b)) c b d (e.length:Int)) fun a=>
 A8x b d e 0 a
def A6A (f:H0) (e:List Int) (c:Int) (d:Bool):Option (List Int):=
 Option.bind (E2 e c d f.I) fun a=>
 Option.bind (E2 a c d f.V) fun b=>
 some b
def A8E (e:Int) (f:Bool) (g:List H0) (b:Int) (a:List Int):Option ((Int×(List Int))⊕(List Int)):=
 cond (decide (b<(g.length:Int))) (
  Option.bind (D3 g b) fun c=>
  Option.bind (A6A c a e f) fun d=>
  some (.inl ((A2 (b+1)),d)))<|
 Option.map Sum.inr (some a)
def A9M (c:Int) (d:Bool) (e:List H0) (b:Int) (a:List Int):Option (List Int):=
 loop (fun (s:(Int×(List Int)))=>A8E c d e s.1 s.2) (b,a)
def A42 (c:List Int) (b:Int) (d:Bool) (e:List H0):Option (List Int):=
 Option.bind (L9 0 (A2 ((c.length:Int)-b)) c b d (e.length:Int)) fun a=>
 A9M b d e 0 a
def A88 (i:List Int) (f:Int) (g:Bool) (h:B8):Option (List Int):=
 Option.bind (E2 i f g h.W) fun a=>
 Option.bind (G5 a f g h.Cap) fun b=>
 Option.bind (E2 b f g h.I) fun c=>
 Option.bind (E2 c f g h.Bl) fun d=>
 Option.bind (A42 d f g h.Be) fun e=>
 some e
def A6G (b:B8) (c:List Int) (d:Int) (e:Bool):Option (List Int):=
 Option.bind (A88 c d e (B8.mk b.W b.Cap b.I b.Bl b.Be)) fun a=>
 some a
def A79 (e:Int) (f:Bool) (g:List B8) (b:Int) (a:List Int):Option ((Int×(List Int))⊕(List Int)):=
 cond (decide (b<(g.length:Int))) (
  Option.bind (D3 g b) fun c=>
  Option.bind (A6G c a e f) fun d=>
  some (.inl ((A2 (b+1)),d)))<|
 Option.map Sum.inr (some a)
def A8z (c:Int) (d:Bool) (e:List B8) (b:Int) (a:List Int):Option (List Int):=
 loop (fun (s:(Int×(List Int)))=>A79 c d e s.1 s.2) (b,a)
def A4s (c:List Int) (b:Int) (d:Bool) (e:List B8):Option (List Int):=
 Option.bind (L9 0 (A2 ((c.length:Int)-b)) c b d (e.length:Int)) fun a=>
 A8z b d e 0 a
def A6I (f:E6) (g:List Int) (d:Int) (e:Bool):Option (List Int):=
 Option.bind (E2 g d e f.V) fun a=>
 Option.bind (E2 a d e f.G) fun b=>
 Option.bind (E2 b d e f.D) fun c=>
 some c
def A8b (e:Int) (f:Bool) (g:List E6) (b:Int) (a:List Int):Option ((Int×(List Int))⊕(List Int)):=
 cond (decide (b<(g.length:Int))) (
  Option.bind (D3 g b) fun c=>
  Option.bind (A6I c a e f) fun d=>
  some (.inl ((A2 (b+1)),d)))<|
 Option.map Sum.inr (some a)
def A8G (c:Int) (d:Bool) (e:List E6) (b:Int) (a:List Int):Option (List Int):=
 loop (fun (s:(Int×(List Int)))=>A8b c d e s.1 s.2) (b,a)
def A4w (c:List Int) (b:Int) (d:Bool) (e:List E6):Option (List Int):=
 Option.bind (L9 0 (A2 ((c.length:Int)-b)) c b d (e.length:Int)) fun a=>
 A8G b d e 0 a
def A4T (b:List Int) (c:Int) (d:Bool) (e:Int):Option (Int×(List Int)):=
 Option.bind (E2 b c d (A2 e)) fun a=>
 some ((A8 (A2 e)),a)
def A9k (e:List Int) (c:Int) (d:Bool) (f:A3):Option (A3×(List Int)):=
 Option.bind (A4T e c d f.Hi) fun a=>
 Option.bind (A4T a.2 c d f.Lo) fun b=>
 some ((A3.mk a.1 b.1),b.2)
def A8I (e:Int) (f:Bool) (g:List A3) (b:Int) (a:List Int):Option ((Int×(List Int))⊕(List Int)):=
 cond (decide (b<(g.length:Int))) (
  Option.bind (D3 g b) fun c=>
  Option.bind (A9k a e f c) fun d=>
  some (.inl ((A2 (b+1)),d.2)))<|
 Option.map Sum.inr (some a)
def A9Q (c:Int) (d:Bool) (e:List A3) (b:Int) (a:List Int):Option (List Int):=
 loop (fun (s:(Int×(List Int)))=>A8I c d e s.1 s.2) (b,a)
def A46 (c:List Int) (b:Int) (d:Bool) (e:List A3):Option (List Int):=
 Option.bind (L9 0 (A2 ((c.length:Int)-b)) c b d (e.length:Int)) fun a=>
 A9Q b d e 0 a
def A2M (c:List Int) (d:Int) (e:Bool) (a:Int):Option (Bool×(List Int)):=
 Option.bind (L9 0 1 c d e a) fun b=>
 some ((a==1),b)
def A9f (a:List Int) (b:Int) (c d:Bool):Option (Bool×(List Int)):=
 cond d (
  A2M a b c 1)<|
 A2M a b c 0
def B0Z (e:Int) (f:Bool) (g:List Int) (b:Int) (a:List Int):Option ((Int×(List Int))⊕(List Int)):=
 cond (decide (b<(g.length:Int))) (
  Option.bind (D3 g b) fun c=>
  Option.bind (E2 a e f c) fun d=>
  some (.inl ((A2 (b+1)),d)))<|
 Option.map Sum.inr (some a)
def B13 (c:Int) (d:Bool) (e:List Int) (b:Int) (a:List Int):Option (List Int):=
 loop (fun (s:(Int×(List Int)))=>B0Z c d e s.1 s.2) (b,a)
def A6P (c:List Int) (b:Int) (d:Bool) (e:List Int):Option (List Int):=
 Option.bind (L9 0 (A2 ((c.length:Int)-b)) c b d (e.length:Int)) fun a=>
 B13 b d e 0 a
def A9h (b:List Int) (c:Int) (d:Bool) (e:List Int):Option (List Int):=
 Option.bind (A6P b c d e) fun a=>
 some a
def A9a (b0_0:List Int) (b0_1:Int) (b0_3:Bool) (b1:B0):Option (Bool×B0×(List Int)):=
 cond (b1.Ao.Bi==1) (
  Option.bind (E2 b0_0 b0_1 b0_3 b1.Aq.W) fun X=>
  Option.bind (G5 X b0_1 b0_3 b1.Aq.Cap) fun Y=>
  Option.bind (E2 Y b0_1 b0_3 b1.Aq.Now) fun Z=>
  Option.bind (A4K Z b0_1 b0_3 b1.Aq.Bb) fun a0=>
  some (b0_3,(B0.mk b1.Ao b1.Aq b1.Ay b1.Sum b1.As b1.Au b1.Bm b1.Ba b1.Af b1.Ar b1.Ai b1.Ab),a0))<|
 cond (b1.Ao.Bi==2) (
  Option.bind (E2 b0_0 b0_1 b0_3 b1.Ay.W) fun b=>
  Option.bind (G5 b b0_1 b0_3 b1.Ay.K) fun c=>
  Option.bind (G5 c b0_1 b0_3 b1.Ay.Cap) fun d=>
  Option.bind (E2 d b0_1 b0_3 b1.Ay.Now) fun e=>
  Option.bind (A3c e b0_1 b0_3 b1.Ay.Ad) fun f=>
  some (b0_3,(B0.mk b1.Ao b1.Aq b1.Ay b1.Sum b1.As b1.Au b1.Bm b1.Ba b1.Af b1.Ar b1.Ai b1.Ab),f))<|
 cond (b1.Ao.Bi==3) (
  Option.bind (E2 b0_0 b0_1 b0_3 b1.Sum.W) fun g=>
  Option.bind (G5 g b0_1 b0_3 b1.Sum.K) fun h=>
  Option.bind (G5 h b0_1 b0_3 b1.Sum.Cap) fun i=>
  Option.bind (G5 i b0_1 b0_3 b1.Sum.Bs) fun j=>
  Option.bind (E2 j b0_1 b0_3 b1.Sum.Now) fun k=>
  Option.bind (A3c k b0_1 b0_3 b1.Sum.Ad) fun l=>
  some (b0_3,(B0.mk b1.Ao b1.Aq b1.Ay b1.Sum b1.As b1.Au b1.Bm b1.Ba b1.Af b1.Ar b1.Ai b1.Ab),l))<|
 cond (b1.Ao.Bi==4) (
  Option.bind (G5 b0_0 b0_1 b0_3 b1.As.Bo) fun m=>
  Option.bind (E2 m b0_1 b0_3 b1.As.W) fun n=>
  Option.bind (G5 n b0_1 b0_3 b1.As.K) fun o=>
  Option.bind (G5 o b0_1 b0_3 b1.As.Cap) fun p=>
  Option.bind (E2 p b0_1 b0_3 b1.As.Now) fun q=>
  Option.bind (E2 q b0_1 b0_3 b1.As.Bv) fun r=>
  Option.bind (A4M r b0_1 b0_3 b1.As.Bf) fun s=>
  some (b0_3,(B0.mk b1.Ao b1.Aq b1.Ay b1.Sum b1.As b1.Au b1.Bm b1.Ba b1.Af b1.Ar b1.Ai b1.Ab),s))<|
 cond (b1.Ao.Bi==5) (
  Option.bind (E2 b0_0 b0_1 b0_3 b1.Au.W) fun t=>
  Option.bind (G5 t b0_1 b0_3 b1.Au.K) fun u=>
  Option.bind (G5 u b0_1 b0_3 b1.Au.Cap) fun v=>
  Option.bind (E2 v b0_1 b0_3 b1.Au.Now) fun w=>
  Option.bind (E2 w b0_1 b0_3 b1.Au.Bv) fun x=>
  Option.bind (A4M x b0_1 b0_3 b1.Au.Bf) fun y=>
  some (b0_3,(B0.mk b1.Ao b1.Aq b1.Ay b1.Sum b1.As b1.Au b1.Bm b1.Ba b1.Af b1.Ar b1.Ai b1.Ab),y))<|
 cond (b1.Ao.Bi==6) (
  Option.bind (G5 b0_0 b0_1 b0_3 b1.Bm.P) fun z=>
  Option.bind (E2 z b0_1 b0_3 b1.Bm.Bj) fun A=>
  Option.bind (E2 A b0_1 b0_3 b1.Bm.Now) fun B=>
  Option.bind (A46 B b0_1 b0_3 b1.Bm.Ag) fun C=>
  some (b0_3,(B0.mk b1.Ao b1.Aq b1.Ay b1.Sum b1.As b1.Au b1.Bm b1.Ba b1.Af b1.Ar b1.Ai b1.Ab),C))<|
 cond (b1.Ao.Bi==7) (
  Option.bind (E2 b0_0 b0_1 b0_3 b1.Ba.Now) fun D=>
  Option.bind (A9h D b0_1 b0_3 b1.Ba.Bn) fun E=>
  some (b0_3,(B0.mk b1.Ao b1.Aq b1.Ay b1.Sum b1.As b1.Au b1.Bm b1.Ba b1.Af b1.Ar b1.Ai b1.Ab),E))<|
 cond (b1.Ao.Bi==8) (
  Option.bind (A9f b0_0 b0_1 b0_3 b1.Af.Bs) fun a=>
  Option.bind (E2 a.2 b0_1 b0_3 b1.Af.W) fun F=>
  Option.bind (G5 F b0_1 b0_3 b1.Af.Cap) fun G=>
  Option.bind (E2 G b0_1 b0_3 b1.Af.Now) fun H=>
  Option.bind (A4K H b0_1 b0_3 b1.Af.Bb) fun I=>
  some (b0_3,(B0.mk b1.Ao b1.Aq b1.Ay b1.Sum b1.As b1.Au b1.Bm b1.Ba (B9.mk a.1 b1.Af.W b1.Af.Cap b1.Af.Now b1.Af.Bb) b1.Ar b1.Ai b1.Ab),I))<|
 cond (b1.Ao.Bi==9) (
  Option.bind (A4s b0_0 b0_1 b0_3 b1.Ar.Am) fun J=>
  some (b0_3,(B0.mk b1.Ao b1.Aq b1.Ay b1.Sum b1.As b1.Au b1.Bm b1.Ba b1.Af b1.Ar b1.Ai b1.Ab),J))<|
 cond (b1.Ao.Bi==10) (
  Option.bind (G5 b0_0 b0_1 b0_3 b1.Ai.K) fun L=>
  Option.bind (G5 L b0_1 b0_3 b1.Ai.Cap) fun M=>
  Option.bind (E2 M b0_1 b0_3 b1.Ai.N) fun O=>
  Option.bind (A4w O b0_1 b0_3 b1.Ai.Av) fun Q=>
  some (b0_3,(B0.mk b1.Ao b1.Aq b1.Ay b1.Sum b1.As b1.Au b1.Bm b1.Ba b1.Af b1.Ar b1.Ai b1.Ab),Q))<|
 cond (b1.Ao.Bi==11) (
  Option.bind (E2 b0_0 b0_1 b0_3 b1.Ab.W) fun R=>
  Option.bind (G5 R b0_1 b0_3 b1.Ab.K) fun S=>
  Option.bind (G5 S b0_1 b0_3 b1.Ab.Cap) fun T=>
  Option.bind (E2 T b0_1 b0_3 b1.Ab.Now) fun U=>
  Option.bind (A4q U b0_1 b0_3 b1.Ab.Ak) fun V=>
  some (b0_3,(B0.mk b1.Ao b1.Aq b1.Ay b1.Sum b1.As b1.Au b1.Bm b1.Ba b1.Af b1.Ar b1.Ai b1.Ab),V))<|
 some (true,(B0.mk b1.Ao b1.Aq b1.Ay b1.Sum b1.As b1.Au b1.Bm b1.Ba b1.Af b1.Ar b1.Ai b1.Ab),b0_0)
def A6R (l:List Int) (i:Int) (j:Bool) (k:E9):Option (List Int):=
 Option.bind (G5 l i j k.Bi) fun a=>
 Option.bind (G5 a i j k.Bo) fun b=>
 Option.bind (E2 b i j k.W) fun c=>
 Option.bind (G5 c i j k.K) fun d=>
 Option.bind (G5 d i j k.Cap) fun e=>
 Option.bind (G5 e i j k.P) fun f=>
 Option.bind (G5 f i j k.Am) fun g=>
 Option.bind (E2 g i j k.Bs) fun h=>
 some h
def A2O (b:List Int) (c d:Int):Option (List Int):=
 Option.bind (A4o b d) fun a=>
 some a
def A8c (b:List Int) (c d:Int):Option (List Int):=
 Option.bind (A2O b c d) fun a=>
 some a
def A6T (e f:Int) (b:List Int) (c d:Int):Option (List Int):=
 Option.bind (A2O b c d) fun a=>
 some a
def A74 (b:List Int) (a:Int):Option (((List Int)×Int)⊕(List Int)):=
 cond (decide (a>=128)) (
  ck (decide ((b.length+ [(P0 .u8 (IntKind.u8.wrap a) 128)].length)*1<=140737488355328))<|
  some (.inl ((b++ [(P0 .u8 (IntKind.u8.wrap a) 128)]),(G9 .u64 a 7))))<|
 Option.map Sum.inr (ck (decide ((b.length+ [(IntKind.u8.wrap a)].length)*1<=140737488355328))<|
 some (b++ [(IntKind.u8.wrap a)]))
def B7l (a:List Int) (b:Int):Option (List Int):=
 loop (fun (s:((List Int)×Int))=>A74 s.1 s.2) (a,b)
def A4Q (a:Int):Option (List Int):=
 B7l ([]:List Int) a
def B3k (a:Int):Option (List Int):=
 cond (decide (a<0)) (
  A4Q (C34 .u64 (F3 .u64 (A8 a) 1)))<|
 A4Q (F3 .u64 (A8 a) 1)
def B0R (b c:Int):Option (List Int):=
 Option.bind (B3k c) fun a=>
 some a
def A6U (d e b c:Int):Option (List Int):=
 Option.bind (B0R b c) fun a=>
 some a
def B3f (l:Int) (m:G7) (c:List D1) (a:Int) (d:List Int) (b:Bool):Option (((List D1)×Int×(List Int)×Bool)⊕(Bool×G7×(List Int))):=
 cond ((decide (a<(c.length:Int)))&&(!b)) (
  Option.bind (D3 c a) fun h=>
  Option.bind (D3 c a) fun i=>
  Option.bind (E2 d l b i.ID) fun g=>
  Option.bind (D3 (c.set (a).toNat i) a) fun j=>
  Option.bind (A6R g l b j.Ac.Ao) fun f=>
  cond (!b) (
   Option.bind (D3 ((c.set (a).toNat i).set (a).toNat j) a) fun k=>
   Option.bind (A9a f l b k.Ac) fun e=>
   some (.inl ((((c.set (a).toNat i).set (a).toNat j).set (a).toNat (D1.mk k.ID e.2.1)),(A2 (a+1)),e.2.2,e.1)))<|
  some (.inl (((c.set (a).toNat i).set (a).toNat j),(A2 (a+1)),f,b)))<|
 Option.map Sum.inr (some (b,(G7.mk m.Now m.Bd c),d))
def B36 (e:Int) (f:G7) (c:List D1) (d:Int) (a:List Int) (b:Bool):Option (Bool×G7×(List Int)):=
 loop (fun (s:((List D1)×Int×(List Int)×Bool))=>B3f e f s.1 s.2.1 s.2.2.1 s.2.2.2) (c,d,a,b)
def A9c (f:Int) (e:G7):Option (Bool×G7×(List Int)):=
 Option.bind (A6U 1 1 f 1) fun a=>
 Option.bind (A2O a f e.Now) fun b=>
 Option.bind (A8c b f e.Bd) fun c=>
 Option.bind (A6T 0 64 c f (e.Ah.length:Int)) fun d=>
 ck (decide (0<=(e.Ah.length:Int)/\(e.Ah.length:Int)<=(e.Ah.length:Int)/\(e.Ah.length:Int)*640<=140737488355328/\(e.Ah.length:Int)<=140737488355328))<|
 B36 f e (laid (List.replicate ((e.Ah.length:Int)).toNat (D1.mk 0 (B0.mk (E9.mk 0 0 0 0 0 0 0 0) (C6.mk 0 0 0 []) (D4.mk 0 0 0 0 []) (E8.mk 0 0 0 0 0 []) (C7.mk 0 0 0 0 0 0 []) (C8.mk 0 0 0 0 0 []) (D5.mk 0 0 0 []) (F6.mk 0 []) (B9.mk false 0 0 0 []) (F0.mk []) (B6.mk 0 0 0 []) (B7.mk 0 0 0 0 [])))) 0 (e.Ah.take (List.replicate ((e.Ah.length:Int)).toNat (D1.mk 0 (B0.mk (E9.mk 0 0 0 0 0 0 0 0) (C6.mk 0 0 0 []) (D4.mk 0 0 0 0 []) (E8.mk 0 0 0 0 0 []) (C7.mk 0 0 0 0 0 0 []) (C8.mk 0 0 0 0 0 []) (D5.mk 0 0 0 []) (F6.mk 0 []) (B9.mk false 0 0 0 []) (F0.mk []) (B6.mk 0 0 0 []) (B7.mk 0 0 0 0 [])))).length)) 0 d false
def B1w (e:G7):Option ((List Int)×Int):=
 Option.bind (S2 e) fun a=>
 cond (a !=0) (
  some ([],a))<|
 Option.bind (A9c 0 e) fun b=>
 Option.bind (B5y b.2.2) fun d=>
 Option.bind (A4o b.2.2 d) fun c=>
 cond (decide ((c.length:Int)>(1048576:Int))) (
  some ([],5))<|
 some (c,0)
def A8S (b:E4):Option (Int×E4):=
 Option.bind (B1w b.Ap) fun a=>
 some (a.2,(E4.mk b.Ap b.command_ (I9.mk b.reply_.Code b.reply_.Aj b.reply_.Br a.1)))
def B49 (d:B9) (e:Int) (a:List D0):Option ((List D0)⊕(B9×Int)):=
 Option.bind (gd (decide ((a.length:Int)>(0:Int))) (D3 a 0)) fun c=>
 let b:=(N5 e d.W c.T);
 cond ((decide ((a.length:Int)>(0:Int)))&&(!b)) (
  ck (decide (0<=(1:Int)/\1<=(a.length:Int)))<|
  some (.inl (a.drop ((1:Int)).toNat)))<|
 Option.map Sum.inr (ck (decide ((([]:List D0).length+a.length)*16<=140737488355328))<|
 some ((B9.mk d.Bs d.W d.Cap e (([]:List D0)++a)),0))
def B5H (b:B9) (c:Int) (a:List D0):Option (B9×Int):=
 loop (fun (s:(List D0))=>B49 b c s) a
def B1e (c:B9) (d:Int):Option (B9×Int):=
 Option.bind (V9 c) fun a=>
 cond (a !=0) (
  some ((B9.mk false 0 0 0 []),a))<|
 let b:=(T6 c.Now d);
 cond (b.2 !=0) (
  some ((B9.mk false 0 0 0 []),b.2))<|
 B5H c d c.Bb
def B4y (c:F6) (d:Int):Option (F6×Int):=
 Option.bind (Z6 c) fun a=>
 cond (a !=0) (
  some ((F6.mk 0 []),a))<|
 let b:=(T6 c.Now d);
 cond (b.2 !=0) (
  some ((F6.mk 0 []),b.2))<|
 ck (decide ((([]:List Int).length+c.Bn.length)*8<=140737488355328))<|
 ck (decide (0<=(A2b (A2 (d-c.Now)) ((([]:List Int)++c.Bn).length:Int))/\(A2b (A2 (d-c.Now)) ((([]:List Int)++c.Bn).length:Int))<=((([]:List Int)++c.Bn).length:Int)))<|
 ck (decide (0<=(A2b (A2 (d-c.Now)) ((([]:List Int)++c.Bn).length:Int))/\(A2b (A2 (d-c.Now)) ((([]:List Int)++c.Bn).length:Int))<=((laid (([]:List Int)++c.Bn) ((A2b (A2 (d-c.Now)) ((([]:List Int)++c.Bn).length:Int))).toNat (c.Bn.take ((([]:List Int)++c.Bn).length-((A2b (A2 (d-c.Now)) ((([]:List Int)++c.Bn).length:Int))).toNat))).length:Int)))<|
 some ((F6.mk d (laid (laid (([]:List Int)++c.Bn) ((A2b (A2 (d-c.Now)) ((([]:List Int)++c.Bn).length:Int))).toNat (c.Bn.take ((([]:List Int)++c.Bn).length-((A2b (A2 (d-c.Now)) ((([]:List Int)++c.Bn).length:Int))).toNat))) 0 (List.replicate ((A2b (A2 (d-c.Now)) ((([]:List Int)++c.Bn).length:Int))).toNat 0))),0)
def B51 (c:D5) (d:Int):Option (D5×Int):=
 Option.bind (A0y c) fun a=>
 cond (a !=0) (
  some ((D5.mk 0 0 0 []),a))<|
 let b:=(T6 c.Now d);
 cond (b.2 !=0) (
  some ((D5.mk 0 0 0 []),b.2))<|
 ck (decide ((([]:List A3).length+c.Ag.length)*16<=140737488355328))<|
 some ((D5.mk c.P c.Bj d (([]:List A3)++c.Ag)),0)
def B0C (e:B7) (f:Int):Option (B7×Int):=
 Option.bind (S0 e) fun a=>
 cond (a !=0) (
  some ((B7.mk 0 0 0 0 []),a))<|
 let b:=(T6 e.Now f);
 cond (b.2 !=0) (
  some ((B7.mk 0 0 0 0 []),b.2))<|
 let c:=(Z8 f e.W);
 Option.bind (B4j e.Ak c) fun d=>
 some ((B7.mk e.W e.K e.Cap f d),0)
def B2N (e:List D0) (f g:Int) (b:List D0) (a:Int):Option (((List D0)×Int)⊕(List D0)):=
 cond (decide (a<(e.length:Int))) (
  Option.bind (D3 e a) fun c=>
  let d:=(N5 f g c.T);
  cond d (
   ck (decide ((b.length+ [c].length)*16<=140737488355328))<|
   some (.inl ((b++ [c]),(A2 (a+1)))))<|
  some (.inl (b,(A2 (a+1)))))<|
 Option.map Sum.inr (some b)
def C2k (c:List D0) (d e:Int) (b:List D0) (a:Int):Option (List D0):=
 loop (fun (s:((List D0)×Int))=>B2N c d e s.1 s.2) (b,a)
def B9f (b:List D0) (c d:Int):Option (List D0):=
 Option.bind (A7z b c) fun a=>
 cond (!a) (
  some [])<|
 C2k b c d ([]:List D0) 0
def B22 (d:C6) (e:Int):Option (C6×Int):=
 Option.bind (U9 d) fun a=>
 cond (a !=0) (
  some ((C6.mk 0 0 0 []),a))<|
 let b:=(T6 d.Now e);
 cond (b.2 !=0) (
  some ((C6.mk 0 0 0 []),b.2))<|
 Option.bind (B9f d.Bb e d.W) fun c=>
 some ((C6.mk d.W d.Cap e c),0)
def B7d (f g:Int) (a:List B4):Option ((List B4)⊕(List B4)):=
 Option.bind (gd (decide ((a.length:Int)>(1:Int))) (D3 a 1)) fun d=>
 let b:=(N5 f g d.T);
 cond ((decide ((a.length:Int)>(1:Int)))&&(!b)) (
  ck (decide (0<=(1:Int)/\1<=(a.length:Int)))<|
  some (.inl (a.drop ((1:Int)).toNat)))<|
 Option.map Sum.inr (Option.bind (gd ((a.length:Int)==(1:Int)) (D3 a 0)) fun e=>
 let c:=(N5 f g e.T);
 cond (((a.length:Int)==(1:Int))&&(!c)) (
  some [])<|
 ck (decide ((([]:List B4).length+a.length)*56<=140737488355328))<|
 some (([]:List B4)++a))
def B8x (b c:Int) (a:List B4):Option (List B4):=
 loop (fun (s:(List B4))=>B7d b c s) a
def A8o (a:List B4) (b c:Int):Option (List B4):=
 B8x b c a
def B3e (d:C7) (e:Int):Option (C7×Int):=
 Option.bind (X6 d) fun a=>
 cond (a !=0) (
  some ((C7.mk 0 0 0 0 0 0 []),a))<|
 let b:=(T6 d.Now e);
 cond (b.2 !=0) (
  some ((C7.mk 0 0 0 0 0 0 []),b.2))<|
 Option.bind (A8o d.Bf e d.W) fun c=>
 some ((C7.mk d.Bo d.W d.K d.Cap e d.Bv c),0)
def B3h (d:C8) (e:Int):Option (C8×Int):=
 Option.bind (X8 d) fun a=>
 cond (a !=0) (
  some ((C8.mk 0 0 0 0 0 []),a))<|
 let b:=(T6 d.Now e);
 cond (b.2 !=0) (
  some ((C8.mk 0 0 0 0 0 []),b.2))<|
 Option.bind (A8o d.Bf e d.W) fun c=>
 some ((C8.mk d.W d.K d.Cap e d.Bv c),0)
def B7V (e:E8) (f:Int):Option (E8×Int):=
 Option.bind (A00 e) fun a=>
 cond (a !=0) (
  some ((E8.mk 0 0 0 0 0 []),a))<|
 let b:=(T6 e.Now f);
 cond (b.2 !=0) (
  some ((E8.mk 0 0 0 0 0 []),b.2))<|
 let c:=(Z8 f e.W);
 Option.bind (A60 e.Ad c) fun d=>
 some ((E8.mk e.W e.K e.Cap e.Bs f d),0)
def L8 (l:B0) (k:Int) (h:C6) (a:D4) (b:E8) (c:C7) (d:C8) (e:D5) (i:Int) (j:List Int) (f:B9) (g:B7):Option (B0×Int):=
 cond (k !=0) (
  some ((B0.mk (E9.mk 0 0 0 0 0 0 0 0) (C6.mk 0 0 0 []) (D4.mk 0 0 0 0 []) (E8.mk 0 0 0 0 0 []) (C7.mk 0 0 0 0 0 0 []) (C8.mk 0 0 0 0 0 []) (D5.mk 0 0 0 []) (F6.mk 0 []) (B9.mk false 0 0 0 []) (F0.mk []) (B6.mk 0 0 0 []) (B7.mk 0 0 0 0 [])),k))<|
 some ((B0.mk l.Ao h a b c d e (F6.mk i j) f l.Ar l.Ai g),0)
def B0Q (l:B0) (m:Int):Option (B0×Int):=
 Option.bind (K6 l) fun b=>
 cond (b !=0) (
  some ((B0.mk (E9.mk 0 0 0 0 0 0 0 0) (C6.mk 0 0 0 []) (D4.mk 0 0 0 0 []) (E8.mk 0 0 0 0 0 []) (C7.mk 0 0 0 0 0 0 []) (C8.mk 0 0 0 0 0 []) (D5.mk 0 0 0 []) (F6.mk 0 []) (B9.mk false 0 0 0 []) (F0.mk []) (B6.mk 0 0 0 []) (B7.mk 0 0 0 0 [])),b))<|
 cond (l.Ao.Bi==1) (
  Option.bind (B22 l.Aq m) fun j=>
  L8 l j.2 j.1 l.Ay l.Sum l.As l.Au l.Bm l.Ba.Now l.Ba.Bn l.Af l.Ab)<|
 cond (l.Ao.Bi==2) (
  Option.bind (B4u l.Ay m) fun c=>
  L8 l c.2 l.Aq c.1 l.Sum l.As l.Au l.Bm l.Ba.Now l.Ba.Bn l.Af l.Ab)<|
 cond (l.Ao.Bi==3) (
  Option.bind (B7V l.Sum m) fun d=>
  L8 l d.2 l.Aq l.Ay d.1 l.As l.Au l.Bm l.Ba.Now l.Ba.Bn l.Af l.Ab)<|
 cond (l.Ao.Bi==4) (
  Option.bind (B3e l.As m) fun e=>
  L8 l e.2 l.Aq l.Ay l.Sum e.1 l.Au l.Bm l.Ba.Now l.Ba.Bn l.Af l.Ab)<|
 cond (l.Ao.Bi==5) (
  Option.bind (B3h l.Au m) fun f=>
  L8 l f.2 l.Aq l.Ay l.Sum l.As f.1 l.Bm l.Ba.Now l.Ba.Bn l.Af l.Ab)<|
 cond (l.Ao.Bi==6) (
  Option.bind (B51 l.Bm m) fun g=>
  L8 l g.2 l.Aq l.Ay l.Sum l.As l.Au g.1 l.Ba.Now l.Ba.Bn l.Af l.Ab)<|
 cond (l.Ao.Bi==7) (
  Option.bind (B4y l.Ba m) fun a=>
  L8 l a.2 l.Aq l.Ay l.Sum l.As l.Au l.Bm a.1.Now a.1.Bn l.Af l.Ab)<|
 cond (l.Ao.Bi==8) (
  Option.bind (B1e l.Af m) fun h=>
  L8 l h.2 l.Aq l.Ay l.Sum l.As l.Au l.Bm l.Ba.Now l.Ba.Bn h.1 l.Ab)<|
 cond (l.Ao.Bi==11) (
  Option.bind (B0C l.Ab m) fun i=>
  L8 l i.2 l.Aq l.Ay l.Sum l.As l.Au l.Bm l.Ba.Now l.Ba.Bn l.Af i.1)<|
 let k:=(A5j m);
 cond (!k) (
  L8 l 3 l.Aq l.Ay l.Sum l.As l.Au l.Bm l.Ba.Now l.Ba.Bn l.Af l.Ab)<|
 L8 l b l.Aq l.Ay l.Sum l.As l.Au l.Bm l.Ba.Now l.Ba.Bn l.Af l.Ab
def B2L (h:E4) (b:List D1) (a:Int):Option (((List D1)×Int)⊕(Int×E4)):=
 cond (decide (a<((([]:List D1)++h.Ap.Ah).length:Int))) (
  Option.bind (D3 b a) fun g=>
  Option.bind (D3 b a) fun e=>
  Option.bind (B0Q e.Ac h.command_.T) fun c=>
  cond (c.2 !=0) (
   some (.inr (c.2,h)))<|
  Option.bind (D3 b a) fun f=>
  Option.bind (D3 b a) fun d=>
  some (.inl ((b.set (a).toNat (D1.mk d.ID c.1)),(A2 (a+1)))))<|
 Option.map Sum.inr (some (0,(E4.mk (G7.mk h.command_.T h.Ap.Bd b) h.command_ h.reply_)))
def B3G (c:E4) (b:List D1) (a:Int):Option (Int×E4):=
 loop (fun (s:((List D1)×Int))=>B2L c s.1 s.2) (b,a)
def A8T (a:E4):Option (Int×E4):=
 cond ((decide (a.command_.T<a.Ap.Now))||(decide (a.command_.T>16777216))) (
  some (3,a))<|
 ck (decide ((([]:List D1).length+a.Ap.Ah.length)*640<=140737488355328))<|
 B3G a (([]:List D1)++a.Ap.Ah) 0
def U6 (g:Int) (a:E9) (c d:Int) (e:List Int) (b:R9) (f:List Int):Bool:=
 (((((((g==0)&&(a.Bi==0&&(a.Bo==0&&(a.W==0&&(a.K==0&&(a.Cap==0&&(a.P==0&&(a.Am==0&&(a.Bs==0&&true)))))))))&&(c==0))&&(d==0))&&((e.length:Int)==(0:Int)))&&(b.Op==0&&(b.A==0&&(b.B==0&&true))))&&((f.length:Int)==(0:Int)))
def A5W (b:R5) (a:Bool):Bool:=
 cond a (
  U6 b.ID b.Ao b.T b.V b.Az b.Bg b.Ax)<|
 cond (b.Op==8) (
  U6 b.ID b.Ao b.T b.V b.Az b.Bg [])<|
 false
def B5C (a:R5):Bool:=
 cond (a.Op==1) (
  U6 0 (E9.mk 0 0 0 0 0 0 0 0) a.T a.V a.Az a.Bg a.Ax)<|
 cond (a.Op==2) (
  U6 0 a.Ao a.T a.V a.Az a.Bg a.Ax)<|
 cond (a.Op==3) (
  U6 a.ID a.Ao 0 a.V a.Az a.Bg a.Ax)<|
 cond (a.Op==4) (
  U6 0 a.Ao 0 0 ([]:List Int) a.Bg a.Ax)<|
 cond (a.Op==5) (
  U6 0 a.Ao a.T a.V a.Az (R9.mk 0 0 0) a.Ax)<|
 cond (a.Op==6) (
  A5W a (a.Op==6))<|
 A5W a (a.Op==7)
def V3 (d:G7) (e:R5):Option (G7×I9):=
 Option.bind (S2 d) fun b=>
 cond (b !=0) (
  some (d,(I9.mk b (E5.mk (D2.mk (A5.mk 0 0) (A5.mk 0 0) (A5.mk 0 0)) ([]:List Int) (D9.mk (A3.mk 0 0) (A3.mk 0 0))) ([]:List Int) [])))<|
 let c:=(B5C e);
 cond (!c) (
  some (d,(I9.mk 1 (E5.mk (D2.mk (A5.mk 0 0) (A5.mk 0 0) (A5.mk 0 0)) ([]:List Int) (D9.mk (A3.mk 0 0) (A3.mk 0 0))) ([]:List Int) [])))<|
 cond (e.Op==1) (
  Option.bind (Y8 (E4.mk d e (I9.mk 0 (E5.mk (D2.mk (A5.mk 0 0) (A5.mk 0 0) (A5.mk 0 0)) ([]:List Int) (D9.mk (A3.mk 0 0) (A3.mk 0 0))) ([]:List Int) []))) fun a=>
  cond (a.1 !=0) (
   some (d,(I9.mk a.1 (E5.mk (D2.mk (A5.mk 0 0) (A5.mk 0 0) (A5.mk 0 0)) ([]:List Int) (D9.mk (A3.mk 0 0) (A3.mk 0 0))) ([]:List Int) [])))<|
  some (a.2.Ap,a.2.reply_))<|
 cond (e.Op==2) (
  Option.bind (A8Q (E4.mk d e (I9.mk 0 (E5.mk (D2.mk (A5.mk 0 0) (A5.mk 0 0) (A5.mk 0 0)) ([]:List Int) (D9.mk (A3.mk 0 0) (A3.mk 0 0))) ([]:List Int) []))) fun a=>
  cond (a.1 !=0) (
   some (d,(I9.mk a.1 (E5.mk (D2.mk (A5.mk 0 0) (A5.mk 0 0) (A5.mk 0 0)) ([]:List Int) (D9.mk (A3.mk 0 0) (A3.mk 0 0))) ([]:List Int) [])))<|
  some (a.2.Ap,a.2.reply_))<|
 cond (e.Op==3) (
  Option.bind (A8T (E4.mk d e (I9.mk 0 (E5.mk (D2.mk (A5.mk 0 0) (A5.mk 0 0) (A5.mk 0 0)) ([]:List Int) (D9.mk (A3.mk 0 0) (A3.mk 0 0))) ([]:List Int) []))) fun a=>
  cond (a.1 !=0) (
   some (d,(I9.mk a.1 (E5.mk (D2.mk (A5.mk 0 0) (A5.mk 0 0) (A5.mk 0 0)) ([]:List Int) (D9.mk (A3.mk 0 0) (A3.mk 0 0))) ([]:List Int) [])))<|
  some (a.2.Ap,a.2.reply_))<|
 cond (e.Op==4) (
  Option.bind (B0m (E4.mk d e (I9.mk 0 (E5.mk (D2.mk (A5.mk 0 0) (A5.mk 0 0) (A5.mk 0 0)) ([]:List Int) (D9.mk (A3.mk 0 0) (A3.mk 0 0))) ([]:List Int) []))) fun a=>
  cond (a.1 !=0) (
   some (d,(I9.mk a.1 (E5.mk (D2.mk (A5.mk 0 0) (A5.mk 0 0) (A5.mk 0 0)) ([]:List Int) (D9.mk (A3.mk 0 0) (A3.mk 0 0))) ([]:List Int) [])))<|
  some (a.2.Ap,a.2.reply_))<|
 cond (e.Op==5) (
  Option.bind (B0n (E4.mk d e (I9.mk 0 (E5.mk (D2.mk (A5.mk 0 0) (A5.mk 0 0) (A5.mk 0 0)) ([]:List Int) (D9.mk (A3.mk 0 0) (A3.mk 0 0))) ([]:List Int) []))) fun a=>
  cond (a.1 !=0) (
   some (d,(I9.mk a.1 (E5.mk (D2.mk (A5.mk 0 0) (A5.mk 0 0) (A5.mk 0 0)) ([]:List Int) (D9.mk (A3.mk 0 0) (A3.mk 0 0))) ([]:List Int) [])))<|
  some (a.2.Ap,a.2.reply_))<|
 cond (e.Op==6) (
  Option.bind (A1T (E4.mk d e (I9.mk 0 (E5.mk (D2.mk (A5.mk 0 0) (A5.mk 0 0) (A5.mk 0 0)) ([]:List Int) (D9.mk (A3.mk 0 0) (A3.mk 0 0))) ([]:List Int) []))) fun a=>
  cond (a.1 !=0) (
   some (d,(I9.mk a.1 (E5.mk (D2.mk (A5.mk 0 0) (A5.mk 0 0) (A5.mk 0 0)) ([]:List Int) (D9.mk (A3.mk 0 0) (A3.mk 0 0))) ([]:List Int) [])))<|
  some (a.2.Ap,a.2.reply_))<|
 cond (e.Op==7) (
  Option.bind (A8S (E4.mk d e (I9.mk 0 (E5.mk (D2.mk (A5.mk 0 0) (A5.mk 0 0) (A5.mk 0 0)) ([]:List Int) (D9.mk (A3.mk 0 0) (A3.mk 0 0))) ([]:List Int) []))) fun a=>
  cond (a.1 !=0) (
   some (d,(I9.mk a.1 (E5.mk (D2.mk (A5.mk 0 0) (A5.mk 0 0) (A5.mk 0 0)) ([]:List Int) (D9.mk (A3.mk 0 0) (A3.mk 0 0))) ([]:List Int) [])))<|
  some (a.2.Ap,a.2.reply_))<|
 cond (e.Op==8) (
  Option.bind (A8R (E4.mk d e (I9.mk 0 (E5.mk (D2.mk (A5.mk 0 0) (A5.mk 0 0) (A5.mk 0 0)) ([]:List Int) (D9.mk (A3.mk 0 0) (A3.mk 0 0))) ([]:List Int) []))) fun a=>
  cond (a.1 !=0) (
   some (d,(I9.mk a.1 (E5.mk (D2.mk (A5.mk 0 0) (A5.mk 0 0) (A5.mk 0 0)) ([]:List Int) (D9.mk (A3.mk 0 0) (A3.mk 0 0))) ([]:List Int) [])))<|
  some (a.2.Ap,a.2.reply_))<|
 none
def A3U (a:Int):(G7×Int):=
 cond ((decide (a<1))||(decide (a>64))) (
  ((G7.mk 0 0 []),1))<|
 ((G7.mk 0 a []),0)
def A7C:Option Bool:=
 let a:=(A3U 1);
 Option.bind (V3 a.1 (R5.mk 1 7 (E9.mk 6 0 0 0 0 0 0 0) 0 0 ([]:List Int) (R9.mk 0 0 0) [])) fun b=>
 Option.bind (V3 b.1 (R5.mk 6 0 (E9.mk 0 0 0 0 0 0 0 0) 0 0 ([]:List Int) (R9.mk 0 0 0) [])) fun c=>
 Option.bind (gd (((a.2==0)&&(b.2.Code==0))&&((c.2.Br.length:Int)==(1:Int))) (D3 c.2.Br 0)) fun d=>
 some ((((a.2==0)&&(b.2.Code==0))&&((c.2.Br.length:Int)==(1:Int)))&&(d==7))
def A0u (d e:List Int) (a:Int):Option (Int⊕Bool):=
 cond (decide (a<(d.length:Int))) (
  Option.bind (D3 d a) fun b=>
  Option.bind (D3 e a) fun c=>
  cond (b !=c) (
   some (.inr false))<|
  some (.inl (A2 (a+1))))<|
 Option.map Sum.inr (some true)
def T8 (b c:List Int) (a:Int):Option Bool:=
 loop (fun (s:Int)=>A0u b c s) a
def P9 (a b:List Int):Option Bool:=
 cond ((a.length:Int) !=(b.length:Int)) (
  some false)<|
 T8 a b 0
def A03 (d e:List D0) (a:Int):Option (Int⊕Bool):=
 cond (decide (a<(d.length:Int))) (
  Option.bind (D3 d a) fun b=>
  Option.bind (D3 e a) fun c=>
  cond (!(b.T==c.T&&(b.V==c.V&&true))) (
   some (.inr false))<|
  some (.inl (A2 (a+1))))<|
 Option.map Sum.inr (some true)
def A1w (b c:List D0) (a:Int):Option Bool:=
 loop (fun (s:Int)=>A03 b c s) a
def X4 (a b:List D0):Option Bool:=
 cond ((a.length:Int) !=(b.length:Int)) (
  some false)<|
 A1w a b 0
def A30 (b c:C6):Option Bool:=
 Option.bind (gd (((b.W==c.W)&&(b.Cap==c.Cap))&&(b.Now==c.Now)) (X4 b.Bb c.Bb)) fun a=>
 some ((((b.W==c.W)&&(b.Cap==c.Cap))&&(b.Now==c.Now))&&a)
def A2g (d e:List A7) (a:Int):Option (Int⊕Bool):=
 cond (decide (a<(d.length:Int))) (
  Option.bind (D3 d a) fun b=>
  Option.bind (D3 e a) fun c=>
  cond (!(b.T==c.T&&(b.Bc==c.Bc&&true))) (
   some (.inr false))<|
  some (.inl (A2 (a+1))))<|
 Option.map Sum.inr (some true)
def A8q (b c:List A7) (a:Int):Option Bool:=
 loop (fun (s:Int)=>A2g b c s) a
def A2J (a b:List A7):Option Bool:=
 cond ((a.length:Int) !=(b.length:Int)) (
  some false)<|
 A8q a b 0
def A33 (b c:D4):Option Bool:=
 Option.bind (gd ((((b.W==c.W)&&(b.K==c.K))&&(b.Cap==c.Cap))&&(b.Now==c.Now)) (A2J b.Ad c.Ad)) fun a=>
 some (((((b.W==c.W)&&(b.K==c.K))&&(b.Cap==c.Cap))&&(b.Now==c.Now))&&a)
def A34 (b c:E8):Option Bool:=
 Option.bind (gd (((((b.W==c.W)&&(b.K==c.K))&&(b.Cap==c.Cap))&&(b.Bs==c.Bs))&&(b.Now==c.Now)) (A2J b.Ad c.Ad)) fun a=>
 some ((((((b.W==c.W)&&(b.K==c.K))&&(b.Cap==c.Cap))&&(b.Bs==c.Bs))&&(b.Now==c.Now))&&a)
def Y9 (d e:List B4) (c:Int):Option (Int⊕Bool):=
 cond (decide (c<(d.length:Int))) (
  Option.bind (D3 d c) fun a=>
  Option.bind (D3 e c) fun b=>
  cond (!(a.Bv==b.Bv&&(a.T==b.T&&(a.N==b.N&&(a.S==b.S&&(a.Q==b.Q&&(a.Bt==b.Bt&&(a.Bs==b.Bs&&true)))))))) (
   some (.inr false))<|
  some (.inl (A2 (c+1))))<|
 Option.map Sum.inr (some true)
def A3A (b c:List B4) (a:Int):Option Bool:=
 loop (fun (s:Int)=>Y9 b c s) a
def X5 (a b:List B4):Option Bool:=
 cond ((a.length:Int) !=(b.length:Int)) (
  some false)<|
 A3A a b 0
def A36 (b c:C7):Option Bool:=
 Option.bind (gd ((((((b.Bo==c.Bo)&&(b.W==c.W))&&(b.K==c.K))&&(b.Cap==c.Cap))&&(b.Now==c.Now))&&(b.Bv==c.Bv)) (X5 b.Bf c.Bf)) fun a=>
 some (((((((b.Bo==c.Bo)&&(b.W==c.W))&&(b.K==c.K))&&(b.Cap==c.Cap))&&(b.Now==c.Now))&&(b.Bv==c.Bv))&&a)
def A37 (b c:C8):Option Bool:=
 Option.bind (gd (((((b.W==c.W)&&(b.K==c.K))&&(b.Cap==c.Cap))&&(b.Now==c.Now))&&(b.Bv==c.Bv)) (X5 b.Bf c.Bf)) fun a=>
 some ((((((b.W==c.W)&&(b.K==c.K))&&(b.Cap==c.Cap))&&(b.Now==c.Now))&&(b.Bv==c.Bv))&&a)
def A0i (d e:List A3) (a:Int):Option (Int⊕Bool):=
 cond (decide (a<(d.length:Int))) (
  Option.bind (D3 d a) fun b=>
  Option.bind (D3 e a) fun c=>
  cond (!(b.Hi==c.Hi&&(b.Lo==c.Lo&&true))) (
   some (.inr false))<|
  some (.inl (A2 (a+1))))<|
 Option.map Sum.inr (some true)
def A4I (b c:List A3) (a:Int):Option Bool:=
 loop (fun (s:Int)=>A0i b c s) a
def A0R (a b:List A3):Option Bool:=
 cond ((a.length:Int) !=(b.length:Int)) (
  some false)<|
 A4I a b 0
def A38 (b c:D5):Option Bool:=
 Option.bind (gd (((b.P==c.P)&&(b.Bj==c.Bj))&&(b.Now==c.Now)) (A0R b.Ag c.Ag)) fun a=>
 some ((((b.P==c.P)&&(b.Bj==c.Bj))&&(b.Now==c.Now))&&a)
def A39 (b c:F6):Option Bool:=
 Option.bind (gd (b.Now==c.Now) (P9 b.Bn c.Bn)) fun a=>
 some ((b.Now==c.Now)&&a)
def A4a (b c:B9):Option Bool:=
 Option.bind (gd ((((b.Bs==c.Bs)&&(b.W==c.W))&&(b.Cap==c.Cap))&&(b.Now==c.Now)) (X4 b.Bb c.Bb)) fun a=>
 some (((((b.Bs==c.Bs)&&(b.W==c.W))&&(b.Cap==c.Cap))&&(b.Now==c.Now))&&a)
def A7j (d e:B8) (a:Int):Option (Int⊕Bool):=
 cond (decide (a<(d.Be.length:Int))) (
  Option.bind (D3 d.Be a) fun b=>
  Option.bind (D3 e.Be a) fun c=>
  cond (!(b.I==c.I&&(b.V==c.V&&true))) (
   some (.inr false))<|
  some (.inl (A2 (a+1))))<|
 Option.map Sum.inr (some true)
def A8r (b c:B8) (a:Int):Option Bool:=
 loop (fun (s:Int)=>A7j b c s) a
def A9C (a b:B8):Option Bool:=
 cond (((((a.W !=b.W)||(a.Cap !=b.Cap))||(a.I !=b.I))||(a.Bl !=b.Bl))||((a.Be.length:Int) !=(b.Be.length:Int))) (
  some false)<|
 A8r a b 0
def A4c (e f:F0) (a:Int):Option (Int⊕Bool):=
 cond (decide (a<(e.Am.length:Int))) (
  Option.bind (D3 e.Am a) fun c=>
  Option.bind (D3 f.Am a) fun d=>
  Option.bind (A9C c d) fun b=>
  cond (!b) (
   some (.inr false))<|
  some (.inl (A2 (a+1))))<|
 Option.map Sum.inr (some true)
def A5i (b c:F0) (a:Int):Option Bool:=
 loop (fun (s:Int)=>A4c b c s) a
def A4b (a b:F0):Option Bool:=
 cond ((a.Am.length:Int) !=(b.Am.length:Int)) (
  some false)<|
 A5i a b 0
def A2i (d e:B6) (a:Int):Option (Int⊕Bool):=
 cond (decide (a<(d.Av.length:Int))) (
  Option.bind (D3 d.Av a) fun b=>
  Option.bind (D3 e.Av a) fun c=>
  cond (!(b.V==c.V&&(b.G==c.G&&(b.D==c.D&&true)))) (
   some (.inr false))<|
  some (.inl (A2 (a+1))))<|
 Option.map Sum.inr (some true)
def A8s (b c:B6) (a:Int):Option Bool:=
 loop (fun (s:Int)=>A2i b c s) a
def A4e (a b:B6):Option Bool:=
 cond ((((a.K !=b.K)||(a.Cap !=b.Cap))||(a.N !=b.N))||((a.Av.length:Int) !=(b.Av.length:Int))) (
  some false)<|
 A8s a b 0
def A4f (d e:E3) (a:Int):Option (Int⊕Bool):=
 cond (decide (a<(d.Ae.length:Int))) (
  Option.bind (D3 d.Ae a) fun b=>
  Option.bind (D3 e.Ae a) fun c=>
  cond (!(b.V==c.V&&(b.Bt==c.Bt&&(b.Bs==c.Bs&&true)))) (
   some (.inr false))<|
  some (.inl (A2 (a+1))))<|
 Option.map Sum.inr (some true)
def B4G (b c:E3) (a:Int):Option Bool:=
 loop (fun (s:Int)=>A4f b c s) a
def A9D (a b:E3):Option Bool:=
 cond ((a.N !=b.N)||((a.Ae.length:Int) !=(b.Ae.length:Int))) (
  some false)<|
 B4G a b 0
def A2j (k l:List C4) (a:Int):Option (Int⊕Bool):=
 cond (decide (a<(k.length:Int))) (
  Option.bind (D3 k a) fun b=>
  Option.bind (D3 l a) fun c=>
  Option.bind (gd (!(b.T !=c.T)) (D3 k a)) fun d=>
  Option.bind (gd (!(b.T !=c.T)) (D3 l a)) fun e=>
  Option.bind (gd (!((b.T !=c.T)||(d.Bk !=e.Bk))) (D3 k a)) fun f=>
  Option.bind (gd (!((b.T !=c.T)||(d.Bk !=e.Bk))) (D3 l a)) fun g=>
  Option.bind (gd (!(((b.T !=c.T)||(d.Bk !=e.Bk))||(f.Bc !=g.Bc))) (D3 k a)) fun h=>
  Option.bind (gd (!(((b.T !=c.T)||(d.Bk !=e.Bk))||(f.Bc !=g.Bc))) (D3 l a)) fun i=>
  Option.bind (gd (!(((b.T !=c.T)||(d.Bk !=e.Bk))||(f.Bc !=g.Bc))) (A9D h.Bh i.Bh)) fun j=>
  cond ((((b.T !=c.T)||(d.Bk !=e.Bk))||(f.Bc !=g.Bc))||(!j)) (
   some (.inr false))<|
  some (.inl (A2 (a+1))))<|
 Option.map Sum.inr (some true)
def A8u (b c:List C4) (a:Int):Option Bool:=
 loop (fun (s:Int)=>A2j b c s) a
def A4h (a b:List C4):Option Bool:=
 cond ((a.length:Int) !=(b.length:Int)) (
  some false)<|
 A8u a b 0
def A4i (b c:B7):Option Bool:=
 Option.bind (gd ((((b.W==c.W)&&(b.K==c.K))&&(b.Cap==c.Cap))&&(b.Now==c.Now)) (A4h b.Ak c.Ak)) fun a=>
 some (((((b.W==c.W)&&(b.K==c.K))&&(b.Cap==c.Cap))&&(b.Now==c.Now))&&a)
def A6d (l m:B0):Option Bool:=
 Option.bind (gd (l.Ao.Bi==m.Ao.Bi&&(l.Ao.Bo==m.Ao.Bo&&(l.Ao.W==m.Ao.W&&(l.Ao.K==m.Ao.K&&(l.Ao.Cap==m.Ao.Cap&&(l.Ao.P==m.Ao.P&&(l.Ao.Am==m.Ao.Am&&(l.Ao.Bs==m.Ao.Bs&&true)))))))) (A30 l.Aq m.Aq)) fun a=>
 Option.bind (gd ((l.Ao.Bi==m.Ao.Bi&&(l.Ao.Bo==m.Ao.Bo&&(l.Ao.W==m.Ao.W&&(l.Ao.K==m.Ao.K&&(l.Ao.Cap==m.Ao.Cap&&(l.Ao.P==m.Ao.P&&(l.Ao.Am==m.Ao.Am&&(l.Ao.Bs==m.Ao.Bs&&true))))))))&&a) (A33 l.Ay m.Ay)) fun b=>
 Option.bind (gd (((l.Ao.Bi==m.Ao.Bi&&(l.Ao.Bo==m.Ao.Bo&&(l.Ao.W==m.Ao.W&&(l.Ao.K==m.Ao.K&&(l.Ao.Cap==m.Ao.Cap&&(l.Ao.P==m.Ao.P&&(l.Ao.Am==m.Ao.Am&&(l.Ao.Bs==m.Ao.Bs&&true))))))))&&a)&&b) (A34 l.Sum m.Sum)) fun c=>
 Option.bind (gd ((((l.Ao.Bi==m.Ao.Bi&&(l.Ao.Bo==m.Ao.Bo&&(l.Ao.W==m.Ao.W&&(l.Ao.K==m.Ao.K&&(l.Ao.Cap==m.Ao.Cap&&(l.Ao.P==m.Ao.P&&(l.Ao.Am==m.Ao.Am&&(l.Ao.Bs==m.Ao.Bs&&true))))))))&&a)&&b)&&c) (A36 l.As m.As)) fun d=>
 Option.bind (gd (((((l.Ao.Bi==m.Ao.Bi&&(l.Ao.Bo==m.Ao.Bo&&(l.Ao.W==m.Ao.W&&(l.Ao.K==m.Ao.K&&(l.Ao.Cap==m.Ao.Cap&&(l.Ao.P==m.Ao.P&&(l.Ao.Am==m.Ao.Am&&(l.Ao.Bs==m.Ao.Bs&&true))))))))&&a)&&b)&&c)&&d) (A37 l.Au m.Au)) fun e=>
 Option.bind (gd ((((((l.Ao.Bi==m.Ao.Bi&&(l.Ao.Bo==m.Ao.Bo&&(l.Ao.W==m.Ao.W&&(l.Ao.K==m.Ao.K&&(l.Ao.Cap==m.Ao.Cap&&(l.Ao.P==m.Ao.P&&(l.Ao.Am==m.Ao.Am&&(l.Ao.Bs==m.Ao.Bs&&true))))))))&&a)&&b)&&c)&&d)&&e) (A38 l.Bm m.Bm)) fun f=>
 Option.bind (gd (((((((l.Ao.Bi==m.Ao.Bi&&(l.Ao.Bo==m.Ao.Bo&&(l.Ao.W==m.Ao.W&&(l.Ao.K==m.Ao.K&&(l.Ao.Cap==m.Ao.Cap&&(l.Ao.P==m.Ao.P&&(l.Ao.Am==m.Ao.Am&&(l.Ao.Bs==m.Ao.Bs&&true))))))))&&a)&&b)&&c)&&d)&&e)&&f) (A39 l.Ba m.Ba)) fun g=>
 Option.bind (gd ((((((((l.Ao.Bi==m.Ao.Bi&&(l.Ao.Bo==m.Ao.Bo&&(l.Ao.W==m.Ao.W&&(l.Ao.K==m.Ao.K&&(l.Ao.Cap==m.Ao.Cap&&(l.Ao.P==m.Ao.P&&(l.Ao.Am==m.Ao.Am&&(l.Ao.Bs==m.Ao.Bs&&true))))))))&&a)&&b)&&c)&&d)&&e)&&f)&&g) (A4a l.Af m.Af)) fun h=>
 Option.bind (gd (((((((((l.Ao.Bi==m.Ao.Bi&&(l.Ao.Bo==m.Ao.Bo&&(l.Ao.W==m.Ao.W&&(l.Ao.K==m.Ao.K&&(l.Ao.Cap==m.Ao.Cap&&(l.Ao.P==m.Ao.P&&(l.Ao.Am==m.Ao.Am&&(l.Ao.Bs==m.Ao.Bs&&true))))))))&&a)&&b)&&c)&&d)&&e)&&f)&&g)&&h) (A4b l.Ar m.Ar)) fun i=>
 Option.bind (gd ((((((((((l.Ao.Bi==m.Ao.Bi&&(l.Ao.Bo==m.Ao.Bo&&(l.Ao.W==m.Ao.W&&(l.Ao.K==m.Ao.K&&(l.Ao.Cap==m.Ao.Cap&&(l.Ao.P==m.Ao.P&&(l.Ao.Am==m.Ao.Am&&(l.Ao.Bs==m.Ao.Bs&&true))))))))&&a)&&b)&&c)&&d)&&e)&&f)&&g)&&h)&&i) (A4e l.Ai m.Ai)) fun j=>
 Option.bind (gd (((((((((((l.Ao.Bi==m.Ao.Bi&&(l.Ao.Bo==m.Ao.Bo&&(l.Ao.W==m.Ao.W&&(l.Ao.K==m.Ao.K&&(l.Ao.Cap==m.Ao.Cap&&(l.Ao.P==m.Ao.P&&(l.Ao.Am==m.Ao.Am&&(l.Ao.Bs==m.Ao.Bs&&true))))))))&&a)&&b)&&c)&&d)&&e)&&f)&&g)&&h)&&i)&&j) (A4i l.Ab m.Ab)) fun k=>
 some ((((((((((((l.Ao.Bi==m.Ao.Bi&&(l.Ao.Bo==m.Ao.Bo&&(l.Ao.W==m.Ao.W&&(l.Ao.K==m.Ao.K&&(l.Ao.Cap==m.Ao.Cap&&(l.Ao.P==m.Ao.P&&(l.Ao.Am==m.Ao.Am&&(l.Ao.Bs==m.Ao.Bs&&true))))))))&&a)&&b)&&c)&&d)&&e)&&f)&&g)&&h)&&i)&&j)&&k)
def B4H (d:List D1) (a:List Int) (b:Int):Option (((List Int)×Int)⊕(List Int)):=
 cond (decide (b<(d.length:Int))) (
  Option.bind (D3 d b) fun c=>
  ck (decide ((a.length+ [c.ID].length)*8<=140737488355328))<|
  some (.inl ((a++ [c.ID]),(A2 (b+1)))))<|
 Option.map Sum.inr (some a)
def B6h (c:List D1) (a:List Int) (b:Int):Option (List Int):=
 loop (fun (s:((List Int)×Int))=>B4H c s.1 s.2) (a,b)
def A70 (a:List D1):Option (List Int):=
 B6h a ([]:List Int) 0
def C02 (e f:List D1) (a:Int):Option (Int⊕Bool):=
 cond (decide (a<(e.length:Int))) (
  Option.bind (D3 e a) fun c=>
  Option.bind (D3 f a) fun d=>
  Option.bind (A6d c.Ac d.Ac) fun b=>
  cond (!b) (
   some (.inr false))<|
  some (.inl (A2 (a+1))))<|
 Option.map Sum.inr (some true)
def A8v (b c:List D1) (a:Int):Option Bool:=
 loop (fun (s:Int)=>C02 b c s) a
def A9E (d e:List D1):Option Bool:=
 Option.bind (A70 d) fun a=>
 Option.bind (A70 e) fun b=>
 Option.bind (P9 a b) fun c=>
 cond (!c) (
  some false)<|
 A8v d e 0
def A9F (b c:G7):Option Bool:=
 Option.bind (gd ((b.Now==c.Now)&&(b.Bd==c.Bd)) (A9E b.Ah c.Ah)) fun a=>
 some (((b.Now==c.Now)&&(b.Bd==c.Bd))&&a)
def B1n (a:Int):(G7×Int):=
 cond ((decide (a<1))||(decide (a>64))) (
  ((G7.mk 0 0 []),1))<|
 ((G7.mk 0 a []),0)
def A50 (e:Int):Option Bool:=
 let a:=(A3U e);
 let b:=(B1n e);
 Option.bind (A9F a.1 b.1) fun c=>
 Option.bind (gd (c&&(a.2==b.2)) A7C) fun d=>
 some ((c&&(a.2==b.2))&&d)
def A3Z (a b:Int):Option ((Int×Int)⊕Int):=
 cond (decide (a>0)) (
  some (.inl ((A2 (Int.tdiv a 2)),(A2 (b+1)))))<|
 Option.map Sum.inr (some b)
def A5g (a b:Int):Option Int:=
 loop (fun (s:(Int×Int))=>A3Z s.1 s.2) (a,b)
def B34 (a:Int):Option Int:=
 A5g a 0
def B53 (b a:Int):(Int×Bool):=
 cond (((decide (a<0))&&(decide (b>(A2 (9223372036854775807+a)))))||((decide (a>0))&&(decide (b<(A2 ((-9223372036854775808:Int)+a)))))) (
  (0,false))<|
 ((A2 (b-a)),true)
def C1W (c d:A3):Option (A3×Bool):=
 Option.bind (P2 c.Lo d.Lo 0) fun a=>
 Option.bind (P2 c.Hi d.Hi a.2) fun b=>
 cond (b.2 !=0) (
  some ((A3.mk 0 0),false))<|
 some ((A3.mk b.1 a.1),true)
def A1e (a b:A3):Int:=
 cond ((decide (a.Hi<b.Hi))||((a.Hi==b.Hi)&&(decide (a.Lo<b.Lo)))) (
  (-1:Int))<|
 cond (a.Hi==b.Hi&&(a.Lo==b.Lo&&true)) (
  0)<|
 1
def T7 (b c:Int):A3:=
 let a:=(P3 b c);
 (A3.mk a.1 a.2)
def B1l (e f:A3):Option (A3×Bool):=
 cond ((e.Hi !=0)&&(f.Hi !=0)) (
  some ((A3.mk 0 0),false))<|
 let b:=(T7 e.Hi f.Lo);
 let c:=(T7 e.Lo f.Hi);
 cond ((b.Hi !=0)||(c.Hi !=0)) (
  some ((A3.mk 0 0),false))<|
 let d:=(T7 e.Lo f.Lo);
 Option.bind (C1W d (A3.mk (A8 (b.Lo+c.Lo)) 0)) fun a=>
 some (a.1,a.2)
def A3z (a:Int):A3:=
 (A3.mk 0 a)
def I1 (a:Int):Bool:=
 ((decide (a>=0))&&(decide (a<=16777216)))
def R2 (a:Int):Bool:=
 ((decide (a>=1))&&(decide (a<=1048576)))
def H6 (d f e:Int):Bool:=
 let a:=(I1 d);
 let b:=(R2 f);
 let c:=(I1 e);
 ((((a&&b)&&c)&&(decide (e>(A2 (d-f)))))&&(decide (e<=d)))
def A59 (d:List D0) (e a:Int):Option (Int⊕Bool):=
 cond (decide (a<(d.length:Int))) (
  Option.bind (D3 d a) fun b=>
  Option.bind (gd ((!((decide (b.T<0))||(decide (b.T>e))))&&(decide (a>0))) (D3 d (A2 (a-1)))) fun c=>
  cond (((decide (b.T<0))||(decide (b.T>e)))||((decide (a>0))&&(decide (c.T>b.T)))) (
   some (.inr false))<|
  some (.inl (A2 (a+1))))<|
 Option.map Sum.inr (some true)
def A7b (b:List D0) (c a:Int):Option Bool:=
 loop (fun (s:Int)=>A59 b c s) a
def A7J (c:List D0) (b:Int):Option Bool:=
 let a:=(I1 b);
 cond (!a) (
  some false)<|
 A7b c b 0
def J4 (d c e:Int):Bool:=
 let b:=(R2 d);
 let a:=(I1 e);
 (((b&&(decide (c>=1)))&&(decide (c<=65536)))&&a)
def B54 (b c d:Int):(C6×Int):=
 let a:=(J4 b c d);
 cond (!a) (
  ((C6.mk 0 0 0 []),1))<|
 ((C6.mk b c d []),0)
def J9 (a:Int):Bool:=
 ((decide (a>=(-4096:Int)))&&(decide (a<=4096)))
def A0h (e:C6) (a:Int):Option (Int⊕Int):=
 cond (decide (a<(e.Bb.length:Int))) (
  Option.bind (D3 e.Bb a) fun b=>
  let d:=(H6 e.Now e.W b.T);
  let c:=(J9 b.V);
  cond ((!d)||(!c)) (
   some (.inr 2))<|
  some (.inl (A2 (a+1))))<|
 Option.map Sum.inr (some 0)
def A1W (b:C6) (a:Int):Option Int:=
 loop (fun (s:Int)=>A0h b s) a
def Z7 (c:C6):Option Int:=
 let a:=(J4 c.W c.Cap c.Now);
 Option.bind (gd (!((!a)||(decide ((c.Bb.length:Int)>c.Cap)))) (A7J c.Bb c.Now)) fun b=>
 cond (((!a)||(decide ((c.Bb.length:Int)>c.Cap)))||(!b)) (
  some 2)<|
 A1W c 0
def A6a (a:Int):Bool:=
 ((decide (a>=1))&&(decide (a<=128)))
def A3i (d:List A7) (c a:Int):Option ((Int×Int)⊕Int):=
 cond (decide (a<(d.length:Int))) (
  Option.bind (D3 d a) fun b=>
  cond ((decide (b.Bc>=0))&&(decide (b.Bc<=30))) (
   ck (decide (0<=(A8 b.Bc)))<|
   some (.inl ((A2 (c+(F3 .i64 1 (A8 b.Bc)))),(A2 (a+1)))))<|
  some (.inl (c,(A2 (a+1)))))<|
 Option.map Sum.inr (some c)
def B25 (c:List A7) (a b:Int):Option Int:=
 loop (fun (s:(Int×Int))=>A3i c s.1 s.2) (a,b)
def A4Y (a:List A7):Option Int:=
 B25 a 0 0
def A3j (f:List A7) (g:Int) (b:List Int) (a:Int):Option (Int⊕Bool):=
 cond (decide (a<(b.length:Int))) (
  Option.bind (D3 b a) fun e=>
  Option.bind (D3 b a) fun c=>
  Option.bind (gd (decide ((f.length:Int)>(0:Int))) (D3 f 0)) fun d=>
  cond ((decide ((f.length:Int)>(0:Int)))&&(((decide (a<d.Bc))&&(decide (c<g)))||(decide (c>(A2 (g+1)))))) (
   some (.inr false))<|
  some (.inl (A2 (a+1))))<|
 Option.map Sum.inr (some true)
def A31 (c:List A7) (d:Int) (b:List Int) (a:Int):Option Bool:=
 loop (fun (s:Int)=>A3j c d b s) a
def A6b (k:List A7) (l:Int) (c:List Int) (b:Int):Option (((List Int)×Int)⊕Bool):=
 cond (decide (b<(k.length:Int))) (
  Option.bind (D3 k b) fun a=>
  let d:=(I1 a.T);
  Option.bind (gd ((!(((!d)||(decide (a.Bc<0)))||(decide (a.Bc>30))))&&(decide (b>0))) (D3 k (A2 (b-1)))) fun e=>
  Option.bind (gd (((!(((!d)||(decide (a.Bc<0)))||(decide (a.Bc>30))))&&(decide (b>0)))&&(!(decide (e.T>a.T)))) (D3 k (A2 (b-1)))) fun f=>
  cond ((((!d)||(decide (a.Bc<0)))||(decide (a.Bc>30)))||((decide (b>0))&&((decide (e.T>a.T))||(decide (f.Bc<a.Bc))))) (
   some (.inr false))<|
  Option.bind (D3 c a.Bc) fun h=>
  Option.bind (D3 c a.Bc) fun g=>
  Option.bind (D3 c a.Bc) fun i=>
  Option.bind (D3 c a.Bc) fun j=>
  some (.inl ((c.set (a.Bc).toNat (A2 (g+1))),(A2 (b+1)))))<|
 Option.map Sum.inr (A31 k l c 0)
def B26 (c:List A7) (d:Int) (b:List Int) (a:Int):Option Bool:=
 loop (fun (s:((List Int)×Int))=>A6b c d s.1 s.2) (b,a)
def A7K (c:List A7) (b:Int):Option Bool:=
 let a:=(A6a b);
 cond (!a) (
  some false)<|
 ck (decide (0<=(31:Int)/\(31:Int)<=(31:Int)/\(31:Int)*8<=140737488355328/\(31:Int)<=140737488355328))<|
 B26 c b (List.replicate ((31:Int)).toNat 0) 0
def J3 (a:Int):Bool:=
 ((decide (a>=1))&&(decide (a<=64)))
def A32 (d:List A7) (e f a:Int):Option (Int⊕Bool):=
 cond (decide (a<(d.length:Int))) (
  Option.bind (D3 d a) fun b=>
  let c:=(H6 f e b.T);
  cond (!c) (
   some (.inr false))<|
  some (.inl (A2 (a+1))))<|
 Option.map Sum.inr (some true)
def B4F (b:List A7) (c d a:Int):Option Bool:=
 loop (fun (s:Int)=>A32 b c d s) a
def A9B (e:List A7) (f g h i:Int):Option Bool:=
 let a:=(J4 f h i);
 let b:=(J3 g);
 Option.bind (gd (!((!a)||(!b))) (A7K e g)) fun c=>
 Option.bind (gd (!(((!a)||(!b))||(!c))) (A4Y e)) fun d=>
 cond ((((!a)||(!b))||(!c))||(decide (d>h))) (
  some false)<|
 B4F e f i 0
def B55 (c d e f:Int):(D4×Int):=
 let a:=(J4 c e f);
 let b:=(J3 d);
 cond ((!a)||(!b)) (
  ((D4.mk 0 0 0 0 []),1))<|
 ((D4.mk c d e f []),0)
def A7c (b:D4):Option Int:=
 Option.bind (A9B b.Ad b.W b.K b.Cap b.Now) fun a=>
 cond (!a) (
  some 2)<|
 some 0
def A2h (a:Int):Bool:=
 ((decide (a>=1))&&(decide (a<=1024)))
def B56 (d e f g h:Int):(E8×Int):=
 let b:=(J4 d f h);
 let c:=(J3 e);
 let a:=(A2h g);
 cond (((!b)||(!c))||(!a)) (
  ((E8.mk 0 0 0 0 0 []),1))<|
 ((E8.mk d e f g h []),0)
def A7d (c:E8):Option Int:=
 Option.bind (A9B c.Ad c.W c.K c.Cap c.Now) fun a=>
 let b:=(A2h c.Bs);
 cond ((!a)||(!b)) (
  some 2)<|
 some 0
def A35 (a b c d e:Int):Bool:=
 (((((decide ((A2 (a*d))<=b))&&(decide (b<=(A2 (a*e)))))&&(decide (c>=0)))&&(decide (c<=(A2 ((A2 (a*(4096:Int)))*(4096:Int))))))&&(decide ((A2 (b*b))<=(A2 (a*c)))))
def A0M (b c:Int):Bool:=
 let a:=(J9 c);
 (a&&(((decide (c>=0))||(b==1))||(b==4)))
def A3k (l:List B4) (o q p n m b:Int):Option (Int⊕Bool):=
 cond (decide (b<(l.length:Int))) (
  Option.bind (D3 l b) fun a=>
  Option.bind (gd ((!((((decide (a.Bv<1))||(decide (a.Bv>m)))||(a.N !=(A2 ((A2 (m-a.Bv))+1))))||(decide (a.N>p))))&&(decide (b>0))) (D3 l (A2 (b-1)))) fun g=>
  cond (((((decide (a.Bv<1))||(decide (a.Bv>m)))||(a.N !=(A2 ((A2 (m-a.Bv))+1))))||(decide (a.N>p)))||((decide (b>0))&&(decide (g.Bv>=a.Bv)))) (
   some (.inr false))<|
  let d:=(I1 a.T);
  Option.bind (gd ((!((!d)||(decide (a.T>n))))&&(decide (b>0))) (D3 l (A2 (b-1)))) fun h=>
  let i:=(H6 n q a.T);
  cond ((((!d)||(decide (a.T>n)))||((decide (b>0))&&(decide (h.T>a.T))))||(((decide (b>0))||((l.length:Int)==(1:Int)))&&(!i))) (
   some (.inr false))<|
  let j:=(A0M o a.Bt);
  let k:=(A0M o a.Bs);
  let e:=(A35 a.N a.S a.Q a.Bt a.Bs);
  cond ((((((((!j)||(!k))||(decide (a.Bt>a.Bs)))||(decide (a.S<(A2 ((IntKind.i64.wrap (0-a.N))*4096)))))||(decide (a.S>(A2 (a.N*4096)))))||(decide (a.Q<0)))||(decide (a.Q>(A2 ((A2 (a.N*(4096:Int)))*(4096:Int))))))||(!e)) (
   some (.inr false))<|
  cond ((b==(A2 ((l.length:Int)-(1:Int))))&&((((a.Bv !=m)||(a.Bt !=a.S))||(a.Bs !=a.S))||(a.Q !=(A2 (a.S*a.S))))) (
   some (.inr false))<|
  cond (decide (b>0)) (
   Option.bind (D3 l (A2 (b-1))) fun c=>
   let f:=(A35 (A2 (c.N-a.N)) (A2 (c.S-a.S)) (A2 (c.Q-a.Q)) c.Bt c.Bs);
   cond (((decide (a.Bt<c.Bt))||(decide (a.Bs>c.Bs)))||(!f)) (
    some (.inr false))<|
   some (.inl (A2 (b+1))))<|
  some (.inl (A2 (b+1))))<|
 Option.map Sum.inr (some true)
def B27 (b:List B4) (c d e f g a:Int):Option Bool:=
 loop (fun (s:Int)=>A3k b c d e f g s) a
def A7L (b:List B4) (c d e f a:Int):Option Bool:=
 cond ((decide (a<0))||(decide (a>1099511627776))) (
  some false)<|
 B27 b c d e f a 0
def T4 (a:Int):Bool:=
 ((decide (a>=1))&&(decide (a<=4)))
def B57 (d e f g h:Int):(C7×Int):=
 let b:=(T4 d);
 let c:=(J4 e g h);
 let a:=(J3 f);
 cond (((!b)||(!c))||(!a)) (
  ((C7.mk 0 0 0 0 0 0 []),1))<|
 ((C7.mk d e f g h 0 []),0)
def B7Q:Int:=
 0
def A0Y (b:B4) (c:Int):Int:=
 cond (c==1) (
  b.N)<|
 cond (c==2) (
  b.S)<|
 cond (c==3) (
  b.Q)<|
 cond (c==4) (
  let a:=(B53 b.Bs b.Bt);
  cond a.2 (
   a.1)<|
  B7Q)<|
 B7Q
def A1x (j:C7) (a:Int):Option (Int⊕Int):=
 cond (decide (a<(j.Bf.length:Int))) (
  Option.bind (D3 j.Bf a) fun b=>
  let i:=(A0Y b j.Bo);
  Option.bind (gd (decide (a>1)) (D3 j.Bf (A2 (a-2)))) fun d=>
  let e:=(A0Y d j.Bo);
  cond ((decide (a>1))&&(decide ((A2 ((A2 (j.K+1))*i))>=(A2 (j.K*e))))) (
   some (.inr 2))<|
  Option.bind (gd (decide (a>0)) (D3 j.Bf (A2 (a-1)))) fun c=>
  let f:=(A0Y b j.Bo);
  Option.bind (gd ((decide (a>0))&&(decide (b.Bv>(A2 (c.Bv+1))))) (D3 j.Bf (A2 (a-1)))) fun g=>
  let h:=(A0Y g j.Bo);
  cond (((decide (a>0))&&(decide (b.Bv>(A2 (c.Bv+1)))))&&(decide ((A2 ((A2 (j.K+1))*f))<(A2 (j.K*h))))) (
   some (.inr 2))<|
  some (.inl (A2 (a+1))))<|
 Option.map Sum.inr (some 0)
def A8X (b:C7) (a:Int):Option Int:=
 loop (fun (s:Int)=>A1x b s) a
def A7e (e:C7):Option Int:=
 let c:=(T4 e.Bo);
 let a:=(J4 e.W e.Cap e.Now);
 let b:=(J3 e.K);
 Option.bind (gd (!(((!c)||(!a))||(!b))) (A7L e.Bf e.Bo e.W e.Cap e.Now e.Bv)) fun d=>
 cond ((((!c)||(!a))||(!b))||(!d)) (
  some 2)<|
 A8X e 0
def A0N (a:B4):Bool:=
 (((((((decide (a.N>=1))&&(decide (a.N<=65536)))&&(decide (a.S>=(A2 ((IntKind.i64.wrap (0-a.N))*4096)))))&&(decide (a.S<=(A2 (a.N*4096)))))&&(decide (a.Q>=0)))&&(decide (a.Q<=(A2 ((A2 (a.N*(4096:Int)))*(4096:Int))))))&&(decide ((A2 (a.S*a.S))<=(A2 (a.N*a.Q)))))
def B1W (g h:B4) (i:Int):Bool:=
 let d:=(A0N g);
 let e:=(A0N h);
 let a:=(J3 i);
 cond ((((!d)||(!e))||(!a))||(decide ((A2 ((A2 (6*i))*h.N))<(A2 ((A2 ((A2 (6*i))-1))*g.N))))) (
  false)<|
 let f:=(T7 (A8 (A2 ((A2 (h.N*h.Q))-(A2 (h.S*h.S))))) (A8 (A2 ((A2 (6*i))*g.N))));
 let b:=(T7 (A8 (A2 ((A2 (g.N*g.Q))-(A2 (g.S*g.S))))) (A8 (A2 ((A2 ((A2 (6*i))-1))*h.N))));
 let c:=(A1e f b);
 (decide (c>=0))
def B58 (c d e f:Int):(C8×Int):=
 let a:=(J4 c e f);
 let b:=(J3 d);
 cond ((!a)||(!b)) (
  ((C8.mk 0 0 0 0 0 []),1))<|
 ((C8.mk c d e f 0 []),0)
def A1y (e:C8) (a:Int):Option (Int⊕Int):=
 cond (decide (a<(e.Bf.length:Int))) (
  Option.bind (D3 e.Bf (A2 (a-2))) fun c=>
  Option.bind (D3 e.Bf a) fun d=>
  let b:=(B1W c d e.K);
  cond b (
   some (.inr 2))<|
  some (.inl (A2 (a+1))))<|
 Option.map Sum.inr (some 0)
def A8Y (b:C8) (a:Int):Option Int:=
 loop (fun (s:Int)=>A1y b s) a
def A7f (d:C8):Option Int:=
 let b:=(J4 d.W d.Cap d.Now);
 let a:=(J3 d.K);
 Option.bind (gd (!((!b)||(!a))) (A7L d.Bf 4 d.W d.Cap d.Now d.Bv)) fun c=>
 cond (((!b)||(!a))||(!c)) (
  some 2)<|
 A8Y d 2
def B1m (b c:Int):Option (D5×Int):=
 let a:=(I1 c);
 cond (((decide (b<0))||(decide (b>4)))||(!a)) (
  some ((D5.mk 0 0 0 []),1))<|
 ck (decide (0<=(A2 (b+1))/\(A2 (b+1))<=(A2 (b+1))/\(A2 (b+(1:Int)))*16<=140737488355328/\(A2 (b+(1:Int)))<=140737488355328))<|
 some ((D5.mk b c c (List.replicate ((A2 (b+(1:Int)))).toNat (A3.mk 0 0))),0)
def A1z (j:D5) (a:Int):Option (Int⊕Int):=
 cond (decide (a<=j.P)) (
  Option.bind (D3 j.Ag (A2 (a-1))) fun g=>
  let d:=(A3z (A8 (A2 ((A2 (j.Now-j.Bj))+1))));
  Option.bind (B1l g d) fun b=>
  Option.bind (D3 j.Ag a) fun h=>
  Option.bind (D3 j.Ag (A2 (a-1))) fun i=>
  let c:=(A1e h i);
  Option.bind (gd ((!(decide (c<0)))&&b.2) (D3 j.Ag a)) fun e=>
  let f:=(A1e e b.1);
  cond ((decide (c<0))||(b.2&&(decide (f>0)))) (
   some (.inr 2))<|
  some (.inl (A2 (a+1))))<|
 Option.map Sum.inr (some 0)
def A8Z (b:D5) (a:Int):Option Int:=
 loop (fun (s:Int)=>A1z b s) a
def A7g (b:D5):Option Int:=
 let a:=(I1 b.Now);
 cond ((((((decide (b.P<0))||(decide (b.P>4)))||(!a))||(decide (b.Bj<0)))||(decide (b.Bj>b.Now)))||((b.Ag.length:Int) !=(A2 (b.P+1)))) (
  some 2)<|
 A8Z b 1
def B6a (b c:Int):Option (F6×Int):=
 let a:=(I1 c);
 cond (((decide (b<1))||(decide (b>64)))||(!a)) (
  some ((F6.mk 0 []),1))<|
 ck (decide (0<=b/\b<=b/\b*8<=140737488355328/\b<=140737488355328))<|
 some ((F6.mk c (List.replicate (b).toNat 0)),0)
def A1A (c:F6) (a:Int):Option (Int⊕Int):=
 cond (decide (a<(c.Bn.length:Int))) (
  Option.bind (D3 c.Bn a) fun b=>
  cond (((decide (b<0))||(decide (b>1099511627776)))||((decide (a>c.Now))&&(b !=0))) (
   some (.inr 2))<|
  some (.inl (A2 (a+1))))<|
 Option.map Sum.inr (some 0)
def A80 (b:F6) (a:Int):Option Int:=
 loop (fun (s:Int)=>A1A b s) a
def A7h (b:F6):Option Int:=
 let a:=(I1 b.Now);
 cond (((decide ((b.Bn.length:Int)<(1:Int)))||(decide ((b.Bn.length:Int)>(64:Int))))||(!a)) (
  some 2)<|
 A80 b 0
def B6b (e:Bool) (b c d:Int):(B9×Int):=
 let a:=(J4 b c d);
 cond (!a) (
  ((B9.mk false 0 0 0 []),1))<|
 ((B9.mk e b c d []),0)
def B6c (a:Bool) (b c:Int):Bool:=
 ((a&&(decide (b>c)))||((!a)&&(decide (b<c))))
def A1B (h:B9) (a:Int):Option (Int⊕Int):=
 cond (decide (a<(h.Bb.length:Int))) (
  Option.bind (D3 h.Bb a) fun b=>
  let d:=(H6 h.Now h.W b.T);
  let c:=(J9 b.V);
  Option.bind (gd ((!((!d)||(!c)))&&(decide (a>0))) (D3 h.Bb (A2 (a-1)))) fun e=>
  Option.bind (gd (((!((!d)||(!c)))&&(decide (a>0)))&&(!(decide (e.T>=b.T)))) (D3 h.Bb (A2 (a-1)))) fun f=>
  let g:=(B6c h.Bs f.V b.V);
  cond (((!d)||(!c))||((decide (a>0))&&((decide (e.T>=b.T))||(!g)))) (
   some (.inr 2))<|
  some (.inl (A2 (a+1))))<|
 Option.map Sum.inr (some 0)
def A81 (b:B9) (a:Int):Option Int:=
 loop (fun (s:Int)=>A1B b s) a
def A7i (b:B9):Option Int:=
 let a:=(J4 b.W b.Cap b.Now);
 cond ((!a)||(decide ((b.Bb.length:Int)>b.Cap))) (
  some 2)<|
 A81 b 0
def W5 (c b:Int):(B8×Int):=
 let a:=(R2 c);
 cond (((!a)||(decide (b<1)))||(decide (b>64))) (
  ((B8.mk 0 0 0 0 []),1))<|
 ((B8.mk c b 0 0 []),0)
def A3B (g:B8) (a:Int):Option (Int⊕Int):=
 cond (decide (a<(g.Be.length:Int))) (
  Option.bind (D3 g.Be a) fun b=>
  let c:=(J9 b.V);
  Option.bind (gd ((!((!c)||(decide (b.I>g.I))))&&(decide (a>0))) (D3 g.Be (A2 (a-1)))) fun d=>
  Option.bind (gd (((!((!c)||(decide (b.I>g.I))))&&(decide (a>0)))&&(!(decide (b.I<=d.I)))) (D3 g.Be (A2 (a-1)))) fun e=>
  cond (((!c)||(decide (b.I>g.I)))||((decide (a>0))&&((decide (b.I<=d.I))||(decide (b.I>(A2 (e.I+g.W))))))) (
   some (.inr 2))<|
  some (.inl (A2 (a+1))))<|
 Option.map Sum.inr (Option.bind (gd (!(decide (g.Bl<=g.I))) (D3 g.Be (A2 ((g.Be.length:Int)-(1:Int))))) fun f=>
 cond ((decide (g.Bl<=g.I))||(decide (g.Bl>(A2 (f.I+g.W))))) (
  some 2)<|
 some 0)
def A4J (b:B8) (a:Int):Option Int:=
 loop (fun (s:Int)=>A3B b s) a
def A7k (d:B8):Option Int:=
 let c:=(R2 d.W);
 cond ((((((!c)||(decide (d.Cap<1)))||(decide (d.Cap>64)))||(decide (d.I<0)))||(decide (d.I>1099511627776)))||(decide ((d.Be.length:Int)>d.Cap))) (
  some 2)<|
 cond (d.I==0) (
  cond (((d.Be.length:Int) !=(0:Int))||(d.Bl !=0)) (
   some 2)<|
  some 0)<|
 Option.bind (gd (!((d.Be.length:Int)==(0:Int))) (D3 d.Be 0)) fun a=>
 Option.bind (gd (!(((d.Be.length:Int)==(0:Int))||(decide (a.I<=(A2 (d.I-d.W)))))) (D3 d.Be 0)) fun b=>
 cond ((((d.Be.length:Int)==(0:Int))||(decide (a.I<=(A2 (d.I-d.W)))))||(decide (b.I<1))) (
  some 2)<|
 A4J d 0
def A5h (d e c:Int) (a:List B8):Option ((Int×(List B8))⊕(F0×Int)):=
 cond (decide (c>0)) (
  let b:=(W5 d e);
  cond (b.2 !=0) (
   some (.inr ((F0.mk []),b.2)))<|
  ck (decide ((a.length+ [b.1].length)*56<=140737488355328))<|
  some (.inl ((A2 (c-1)),(a++ [b.1]))))<|
 Option.map Sum.inr (some ((F0.mk a),0))
def B0J (c d b:Int) (a:List B8):Option (F0×Int):=
 loop (fun (s:(Int×(List B8)))=>A5h c d s.1 s.2) (b,a)
def B6d (a b c:Int):Option (F0×Int):=
 cond ((decide (a<1))||(decide (a>16))) (
  some ((F0.mk []),1))<|
 B0J b c a ([]:List B8)
def A3C (e:F0) (a:Int):Option (Int⊕Int):=
 cond (decide (a<(e.Am.length:Int))) (
  Option.bind (D3 e.Am a) fun b=>
  Option.bind (D3 e.Am 0) fun c=>
  Option.bind (A7k b) fun d=>
  cond ((((d !=0)||(b.W !=c.W))||(b.Cap !=c.Cap))||(b.I !=c.I)) (
   some (.inr 2))<|
  some (.inl (A2 (a+1))))<|
 Option.map Sum.inr (some 0)
def A82 (b:F0) (a:Int):Option Int:=
 loop (fun (s:Int)=>A3C b s) a
def A4d (a:F0):Option Int:=
 cond ((decide ((a.Am.length:Int)<(1:Int)))||(decide ((a.Am.length:Int)>(16:Int)))) (
  some 2)<|
 A82 a 0
def C6v (a:B6):Option Int:=
 ck (decide (a.K≠0))<|
 some (A0U 1 (A2 (Int.tdiv a.N a.K)))
def A0O (c b:Int):(B6×Int):=
 let a:=(J3 c);
 cond (((!a)||(decide (b<2)))||(decide (b>65536))) (
  ((B6.mk 0 0 0 []),1))<|
 ((B6.mk c b 0 []),0)
def A1C (g:B6) (c b:Int):Option ((Int×Int)⊕Int):=
 cond (decide (b<(g.Av.length:Int))) (
  Option.bind (D3 g.Av b) fun a=>
  let d:=(J9 a.V);
  Option.bind (gd (!(((((!d)||(decide (a.G<1)))||(decide (a.G>g.N)))||(decide (a.D<0)))||(decide (a.D>g.N)))) (C6v g)) fun e=>
  Option.bind (gd ((!((((((!d)||(decide (a.G<1)))||(decide (a.G>g.N)))||(decide (a.D<0)))||(decide (a.D>g.N)))||(decide ((A2 (a.G+a.D))>e))))&&(decide (b>0))) (D3 g.Av (A2 (b-1)))) fun f=>
  cond (((((((((!d)||(decide (a.G<1)))||(decide (a.G>g.N)))||(decide (a.D<0)))||(decide (a.D>g.N)))||(decide ((A2 (a.G+a.D))>e)))||((decide (b>0))&&(decide (f.V>a.V))))||((b==0)&&((a.G !=1)||(a.D !=0))))||((b==(A2 ((g.Av.length:Int)-(1:Int))))&&(a.D !=0))) (
   some (.inr 2))<|
  cond (decide ((A2 (c+a.G))>g.N)) (
   some (.inr 2))<|
  some (.inl ((A2 (c+a.G)),(A2 (b+1)))))<|
 Option.map Sum.inr (cond (c !=g.N) (
  some 2)<|
 some 0)
def A83 (c:B6) (b a:Int):Option Int:=
 loop (fun (s:(Int×Int))=>A1C c s.1 s.2) (b,a)
def A7l (b:B6):Option Int:=
 let a:=(A0O b.K b.Cap);
 cond (((((a.2 !=0)||(decide (b.N<0)))||(decide (b.N>1099511627776)))||(decide ((b.Av.length:Int)>b.Cap)))||(!(((b.Av.length:Int)==(0:Int))==(b.N==0)))) (
  some 2)<|
 A83 b 0 0
def A1D (d:E3) (a:Int):Option (Int⊕Int):=
 cond (decide (a<(d.Ae.length:Int))) (
  Option.bind (D3 d.Ae a) fun b=>
  cond (((((decide (b.Bt<1))||(decide (b.Bt>b.Bs)))||(decide (b.Bs>d.N)))||((a==0)&&(b.Bs !=1)))||((a==(A2 ((d.Ae.length:Int)-(1:Int))))&&(b.Bt !=d.N))) (
   some (.inr 2))<|
  cond (decide (a>0)) (
   Option.bind (D3 d.Ae (A2 (a-1))) fun c=>
   cond (((decide (c.V>b.V))||(decide (c.Bt>=b.Bt)))||(decide (c.Bs>=b.Bs))) (
    some (.inr 2))<|
   some (.inl (A2 (a+1))))<|
  some (.inl (A2 (a+1))))<|
 Option.map Sum.inr (some 0)
def A84 (b:E3) (a:Int):Option Int:=
 loop (fun (s:Int)=>A1D b s) a
def A4g (a:E3):Option Int:=
 cond (((decide (a.N<0))||(decide (a.N>1099511627776)))||(!(((a.Ae.length:Int)==(0:Int))==(a.N==0)))) (
  some 2)<|
 A84 a 0
def C2u (e:E3) (b a:Int):Option ((Int×Int)⊕Int):=
 cond (decide (a<(e.Ae.length:Int))) (
  Option.bind (D3 e.Ae a) fun d=>
  Option.bind (D3 e.Ae (A2 (a-1))) fun c=>
  some (.inl ((A0U b (A2 (d.Bs-c.Bt))),(A2 (a+1)))))<|
 Option.map Sum.inr (some b)
def B6f (c:E3) (a b:Int):Option Int:=
 loop (fun (s:(Int×Int))=>C2u c s.1 s.2) (a,b)
def B6e (b:E3):Option Int:=
 Option.bind (A4g b) fun a=>
 cond ((a !=0)||(b.N==0)) (
  some 0)<|
 B6f b 1 1
def A1X (d c b a:Int):Option ((Int×Int)⊕Int):=
 cond (decide (a<=d)) (
  ck (decide (0<=(A8 a)))<|
  cond (decide ((F3 .i64 1 (A8 a))>(A2 (c+1)))) (
   ck (decide (c≠0))<|
   some (.inl ((A2 ((A2 (2*b))+(A2 (Int.tdiv (A2 ((A2 ((A2 ((F3 .i64 1 (A8 a))-1))+c))-1)) c)))),(A2 (a+1)))))<|
  some (.inl (b,(A2 (a+1)))))<|
 Option.map Sum.inr (some b)
def B0K (c d a b:Int):Option Int:=
 loop (fun (s:(Int×Int))=>A1X c d s.1 s.2) (a,b)
def A8t (a b:Int):Option Int:=
 cond ((((decide (a<0))||(decide (a>30)))||(decide (b<1)))||(decide (b>65536))) (
  some (-1:Int))<|
 B0K a b 0 0
def B9P (d:List C4) (b:List A7) (c:Int):Option (((List A7)×Int)⊕(List A7)):=
 cond (decide (c<(d.length:Int))) (
  Option.bind (D3 d c) fun a=>
  ck (decide ((b.length+ [(A7.mk a.T a.Bc)].length)*16<=140737488355328))<|
  some (.inl ((b++ [(A7.mk a.T a.Bc)]),(A2 (c+1)))))<|
 Option.map Sum.inr (some b)
def C0Z (c:List C4) (a:List A7) (b:Int):Option (List A7):=
 loop (fun (s:((List A7)×Int))=>B9P c s.1 s.2) (a,b)
def B1X (a:List C4):Option (List A7):=
 C0Z a ([]:List A7) 0
def B1Y (c:List C4):Option Int:=
 Option.bind (B1X c) fun a=>
 Option.bind (A4Y a) fun b=>
 some b
def A3l (j:List C4) (k c:Int):Option (Int⊕Bool):=
 cond (decide (c<(j.length:Int))) (
  Option.bind (D3 j c) fun a=>
  Option.bind (A4g a.Bh) fun g=>
  ck (!(!(g !=0))||(decide (0<=(A8 a.Bc))))<|
  cond (((g !=0)||(a.Bh.N !=(F3 .i64 1 (A8 a.Bc))))||(decide ((a.Bh.Ae.length:Int)>(A2 (k+1))))) (
   some (.inr false))<|
  Option.bind (D3 a.Bh.Ae 0) fun d=>
  Option.bind (D3 a.Bh.Ae (A2 ((a.Bh.Ae.length:Int)-(1:Int)))) fun b=>
  let e:=(J9 d.V);
  let f:=(J9 b.V);
  Option.bind (gd (!((((!e)||(!f))||(decide (a.Bk<d.V)))||(decide (a.Bk>b.V)))) (B6e a.Bh)) fun h=>
  Option.bind (gd (!((((!e)||(!f))||(decide (a.Bk<d.V)))||(decide (a.Bk>b.V)))) (A8t a.Bc k)) fun i=>
  cond (((((!e)||(!f))||(decide (a.Bk<d.V)))||(decide (a.Bk>b.V)))||(decide ((A2 (h-1))>i))) (
   some (.inr false))<|
  some (.inl (A2 (c+1))))<|
 Option.map Sum.inr (some true)
def B28 (b:List C4) (c a:Int):Option Bool:=
 loop (fun (s:Int)=>A3l b c s) a
def B1Z (d:List C4) (e c:Int):Option Bool:=
 Option.bind (gd (!((decide (c<1))||(decide (c>65536)))) (B1X d)) fun b=>
 Option.bind (gd (!((decide (c<1))||(decide (c>65536)))) (A7K b e)) fun a=>
 cond (((decide (c<1))||(decide (c>65536)))||(!a)) (
  some false)<|
 B28 d c 0
def B6g (c d e f:Int):(B7×Int):=
 let a:=(J4 c e f);
 let b:=(J3 d);
 cond ((!a)||(!b)) (
  ((B7.mk 0 0 0 0 []),1))<|
 ((B7.mk c d e f []),0)
def A6c (d c:Int):Option Int:=
 let a:=(J3 d);
 cond (((!a)||(decide (c<1)))||(decide (c>65536))) (
  some 0)<|
 Option.bind (B34 c) fun b=>
 some (A2 ((A2 (2*d))*(A2 (b+2))))
def A1E (d:B7) (a:Int):Option (Int⊕Int):=
 cond (decide (a<(d.Ak.length:Int))) (
  Option.bind (D3 d.Ak a) fun b=>
  let c:=(H6 d.Now d.W b.T);
  cond (!c) (
   some (.inr 2))<|
  some (.inl (A2 (a+1))))<|
 Option.map Sum.inr (some 0)
def A85 (b:B7) (a:Int):Option Int:=
 loop (fun (s:Int)=>A1E b s) a
def A7m (f:B7):Option Int:=
 let b:=(J4 f.W f.Cap f.Now);
 let a:=(J3 f.K);
 Option.bind (gd (!((!b)||(!a))) (A6c f.K f.Cap)) fun d=>
 Option.bind (gd (!((!b)||(!a))) (B1Z f.Ak (A2 (2*f.K)) d)) fun c=>
 Option.bind (gd (!(((!b)||(!a))||(!c))) (B1Y f.Ak)) fun e=>
 cond ((((!b)||(!a))||(!c))||(decide (e>f.Cap))) (
  some 2)<|
 A85 f 0
def Q2 (h:E9) (a b c d e f g:Int):E9:=
 (E9.mk h.Bi a b c d e f g)
def A4j (b:E9) (a:Bool):E9:=
 cond a (
  Q2 b 0 b.W b.K b.Cap 0 0 0)<|
 cond (b.Bi==3) (
  Q2 b 0 b.W b.K b.Cap 0 0 b.Bs)<|
 cond (b.Bi==4) (
  Q2 b b.Bo b.W b.K b.Cap 0 0 0)<|
 cond (b.Bi==6) (
  Q2 b 0 0 0 0 b.P 0 0)<|
 cond (b.Bi==7) (
  Q2 b 0 b.W 0 0 0 0 0)<|
 cond (b.Bi==8) (
  Q2 b 0 b.W 0 b.Cap 0 0 b.Bs)<|
 cond (b.Bi==9) (
  Q2 b 0 b.W 0 b.Cap 0 b.Am 0)<|
 cond (b.Bi==10) (
  Q2 b 0 0 b.K b.Cap 0 0 0)<|
 Q2 b 0 0 0 0 0 0 0
def B7S (a:E9):E9:=
 cond (a.Bi==1) (
  Q2 a 0 a.W 0 a.Cap 0 0 0)<|
 cond (a.Bi==2) (
  A4j a (a.Bi==2))<|
 cond (a.Bi==5) (
  A4j a (a.Bi==5))<|
 A4j a (a.Bi==11)
def A1F (h:E9) (a b:Bool):Bool:=
 cond b (
  let g:=(J3 h.K);
  (a&&g))<|
 cond (h.Bi==3) (
  let c:=(J3 h.K);
  (((a&&c)&&(decide (h.Bs>=1)))&&(decide (h.Bs<=1024))))<|
 cond (h.Bi==4) (
  let d:=(J3 h.K);
  let e:=(T4 h.Bo);
  ((a&&d)&&e))<|
 cond (h.Bi==6) (
  ((decide (h.P>=0))&&(decide (h.P<=4))))<|
 cond (h.Bi==7) (
  ((decide (h.W>=1))&&(decide (h.W<=64))))<|
 cond (h.Bi==8) (
  (a&&((h.Bs==0)||(h.Bs==1))))<|
 cond (h.Bi==9) (
  ((((((decide (h.Am>=1))&&(decide (h.Am<=16)))&&(decide (h.W>=1)))&&(decide (h.W<=1048576)))&&(decide (h.Cap>=1)))&&(decide (h.Cap<=64))))<|
 cond (h.Bi==10) (
  let f:=(J3 h.K);
  ((f&&(decide (h.Cap>=2)))&&(decide (h.Cap<=65536))))<|
 false
def B0L (b:E9):Bool:=
 let a:=(J4 b.W b.Cap 0);
 cond (b.Bi==1) (
  a)<|
 cond (b.Bi==2) (
  A1F b a (b.Bi==2))<|
 cond (b.Bi==5) (
  A1F b a (b.Bi==5))<|
 A1F b a (b.Bi==11)
def A2k (c:E9):Int:=
 let a:=(B7S c);
 let b:=(B0L c);
 cond ((!(c.Bi==a.Bi&&(c.Bo==a.Bo&&(c.W==a.W&&(c.K==a.K&&(c.Cap==a.Cap&&(c.P==a.P&&(c.Am==a.Am&&(c.Bs==a.Bs&&true)))))))))||(!b)) (
  1)<|
 0
def O0 (m:B0) (i:C6) (a:D4) (b:E8) (c:C7) (d:C8) (e:D5) (j:Int) (k:List Int) (f:B9) (l:List B8) (g:B6) (h:B7):B0:=
 (B0.mk m.Ao i a b c d e (F6.mk j k) f (F0.mk l) g h)
def O5 (a:B0):B0:=
 cond (a.Ao.Bi==1) (
  O0 a a.Aq (D4.mk 0 0 0 0 []) (E8.mk 0 0 0 0 0 []) (C7.mk 0 0 0 0 0 0 []) (C8.mk 0 0 0 0 0 []) (D5.mk 0 0 0 []) 0 ([]:List Int) (B9.mk false 0 0 0 []) ([]:List B8) (B6.mk 0 0 0 []) (B7.mk 0 0 0 0 []))<|
 cond (a.Ao.Bi==2) (
  O0 a (C6.mk 0 0 0 []) a.Ay (E8.mk 0 0 0 0 0 []) (C7.mk 0 0 0 0 0 0 []) (C8.mk 0 0 0 0 0 []) (D5.mk 0 0 0 []) 0 ([]:List Int) (B9.mk false 0 0 0 []) ([]:List B8) (B6.mk 0 0 0 []) (B7.mk 0 0 0 0 []))<|
 cond (a.Ao.Bi==3) (
  O0 a (C6.mk 0 0 0 []) (D4.mk 0 0 0 0 []) a.Sum (C7.mk 0 0 0 0 0 0 []) (C8.mk 0 0 0 0 0 []) (D5.mk 0 0 0 []) 0 ([]:List Int) (B9.mk false 0 0 0 []) ([]:List B8) (B6.mk 0 0 0 []) (B7.mk 0 0 0 0 []))<|
 cond (a.Ao.Bi==4) (
  O0 a (C6.mk 0 0 0 []) (D4.mk 0 0 0 0 []) (E8.mk 0 0 0 0 0 []) a.As (C8.mk 0 0 0 0 0 []) (D5.mk 0 0 0 []) 0 ([]:List Int) (B9.mk false 0 0 0 []) ([]:List B8) (B6.mk 0 0 0 []) (B7.mk 0 0 0 0 []))<|
 cond (a.Ao.Bi==5) (
  O0 a (C6.mk 0 0 0 []) (D4.mk 0 0 0 0 []) (E8.mk 0 0 0 0 0 []) (C7.mk 0 0 0 0 0 0 []) a.Au (D5.mk 0 0 0 []) 0 ([]:List Int) (B9.mk false 0 0 0 []) ([]:List B8) (B6.mk 0 0 0 []) (B7.mk 0 0 0 0 []))<|
 cond (a.Ao.Bi==6) (
  O0 a (C6.mk 0 0 0 []) (D4.mk 0 0 0 0 []) (E8.mk 0 0 0 0 0 []) (C7.mk 0 0 0 0 0 0 []) (C8.mk 0 0 0 0 0 []) a.Bm 0 ([]:List Int) (B9.mk false 0 0 0 []) ([]:List B8) (B6.mk 0 0 0 []) (B7.mk 0 0 0 0 []))<|
 cond (a.Ao.Bi==7) (
  O0 a (C6.mk 0 0 0 []) (D4.mk 0 0 0 0 []) (E8.mk 0 0 0 0 0 []) (C7.mk 0 0 0 0 0 0 []) (C8.mk 0 0 0 0 0 []) (D5.mk 0 0 0 []) a.Ba.Now a.Ba.Bn (B9.mk false 0 0 0 []) ([]:List B8) (B6.mk 0 0 0 []) (B7.mk 0 0 0 0 []))<|
 cond (a.Ao.Bi==8) (
  O0 a (C6.mk 0 0 0 []) (D4.mk 0 0 0 0 []) (E8.mk 0 0 0 0 0 []) (C7.mk 0 0 0 0 0 0 []) (C8.mk 0 0 0 0 0 []) (D5.mk 0 0 0 []) 0 ([]:List Int) a.Af ([]:List B8) (B6.mk 0 0 0 []) (B7.mk 0 0 0 0 []))<|
 cond (a.Ao.Bi==9) (
  O0 a (C6.mk 0 0 0 []) (D4.mk 0 0 0 0 []) (E8.mk 0 0 0 0 0 []) (C7.mk 0 0 0 0 0 0 []) (C8.mk 0 0 0 0 0 []) (D5.mk 0 0 0 []) 0 ([]:List Int) (B9.mk false 0 0 0 []) a.Ar.Am (B6.mk 0 0 0 []) (B7.mk 0 0 0 0 []))<|
 cond (a.Ao.Bi==10) (
  O0 a (C6.mk 0 0 0 []) (D4.mk 0 0 0 0 []) (E8.mk 0 0 0 0 0 []) (C7.mk 0 0 0 0 0 0 []) (C8.mk 0 0 0 0 0 []) (D5.mk 0 0 0 []) 0 ([]:List Int) (B9.mk false 0 0 0 []) ([]:List B8) a.Ai (B7.mk 0 0 0 0 []))<|
 cond (a.Ao.Bi==11) (
  O0 a (C6.mk 0 0 0 []) (D4.mk 0 0 0 0 []) (E8.mk 0 0 0 0 0 []) (C7.mk 0 0 0 0 0 0 []) (C8.mk 0 0 0 0 0 []) (D5.mk 0 0 0 []) 0 ([]:List Int) (B9.mk false 0 0 0 []) ([]:List B8) (B6.mk 0 0 0 []) a.Ab)<|
 O0 a (C6.mk 0 0 0 []) (D4.mk 0 0 0 0 []) (E8.mk 0 0 0 0 0 []) (C7.mk 0 0 0 0 0 0 []) (C8.mk 0 0 0 0 0 []) (D5.mk 0 0 0 []) 0 ([]:List Int) (B9.mk false 0 0 0 []) ([]:List B8) (B6.mk 0 0 0 []) (B7.mk 0 0 0 0 [])
def R3 (m:E9) (i:C6) (a:D4) (b:E8) (c:C7) (d:C8) (e:D5) (j:Int) (k:List Int) (f:B9) (l:List B8) (g:B6) (h:B7):Option (B0×Int):=
 some ((B0.mk m i a b c d e (F6.mk j k) f (F0.mk l) g h),0)
def C1X (n:E9) (o:Int):Option (B0×Int):=
 let b:=(A2k n);
 cond (b !=0) (
  some ((B0.mk (E9.mk 0 0 0 0 0 0 0 0) (C6.mk 0 0 0 []) (D4.mk 0 0 0 0 []) (E8.mk 0 0 0 0 0 []) (C7.mk 0 0 0 0 0 0 []) (C8.mk 0 0 0 0 0 []) (D5.mk 0 0 0 []) (F6.mk 0 []) (B9.mk false 0 0 0 []) (F0.mk []) (B6.mk 0 0 0 []) (B7.mk 0 0 0 0 [])),b))<|
 let l:=(I1 o);
 cond (!l) (
  some ((B0.mk (E9.mk 0 0 0 0 0 0 0 0) (C6.mk 0 0 0 []) (D4.mk 0 0 0 0 []) (E8.mk 0 0 0 0 0 []) (C7.mk 0 0 0 0 0 0 []) (C8.mk 0 0 0 0 0 []) (D5.mk 0 0 0 []) (F6.mk 0 []) (B9.mk false 0 0 0 []) (F0.mk []) (B6.mk 0 0 0 []) (B7.mk 0 0 0 0 [])),1))<|
 cond (n.Bi==1) (
  let m:=(B54 n.W n.Cap o);
  R3 n m.1 (D4.mk 0 0 0 0 []) (E8.mk 0 0 0 0 0 []) (C7.mk 0 0 0 0 0 0 []) (C8.mk 0 0 0 0 0 []) (D5.mk 0 0 0 []) 0 ([]:List Int) (B9.mk false 0 0 0 []) ([]:List B8) (B6.mk 0 0 0 []) (B7.mk 0 0 0 0 []))<|
 cond (n.Bi==2) (
  let c:=(B55 n.W n.K n.Cap o);
  R3 n (C6.mk 0 0 0 []) c.1 (E8.mk 0 0 0 0 0 []) (C7.mk 0 0 0 0 0 0 []) (C8.mk 0 0 0 0 0 []) (D5.mk 0 0 0 []) 0 ([]:List Int) (B9.mk false 0 0 0 []) ([]:List B8) (B6.mk 0 0 0 []) (B7.mk 0 0 0 0 []))<|
 cond (n.Bi==3) (
  let d:=(B56 n.W n.K n.Cap n.Bs o);
  R3 n (C6.mk 0 0 0 []) (D4.mk 0 0 0 0 []) d.1 (C7.mk 0 0 0 0 0 0 []) (C8.mk 0 0 0 0 0 []) (D5.mk 0 0 0 []) 0 ([]:List Int) (B9.mk false 0 0 0 []) ([]:List B8) (B6.mk 0 0 0 []) (B7.mk 0 0 0 0 []))<|
 cond (n.Bi==4) (
  let e:=(B57 n.Bo n.W n.K n.Cap o);
  R3 n (C6.mk 0 0 0 []) (D4.mk 0 0 0 0 []) (E8.mk 0 0 0 0 0 []) e.1 (C8.mk 0 0 0 0 0 []) (D5.mk 0 0 0 []) 0 ([]:List Int) (B9.mk false 0 0 0 []) ([]:List B8) (B6.mk 0 0 0 []) (B7.mk 0 0 0 0 []))<|
 cond (n.Bi==5) (
  let f:=(B58 n.W n.K n.Cap o);
  R3 n (C6.mk 0 0 0 []) (D4.mk 0 0 0 0 []) (E8.mk 0 0 0 0 0 []) (C7.mk 0 0 0 0 0 0 []) f.1 (D5.mk 0 0 0 []) 0 ([]:List Int) (B9.mk false 0 0 0 []) ([]:List B8) (B6.mk 0 0 0 []) (B7.mk 0 0 0 0 []))<|
 cond (n.Bi==6) (
  Option.bind (B1m n.P o) fun g=>
  R3 n (C6.mk 0 0 0 []) (D4.mk 0 0 0 0 []) (E8.mk 0 0 0 0 0 []) (C7.mk 0 0 0 0 0 0 []) (C8.mk 0 0 0 0 0 []) g.1 0 ([]:List Int) (B9.mk false 0 0 0 []) ([]:List B8) (B6.mk 0 0 0 []) (B7.mk 0 0 0 0 []))<|
 cond (n.Bi==7) (
  Option.bind (B6a n.W o) fun a=>
  R3 n (C6.mk 0 0 0 []) (D4.mk 0 0 0 0 []) (E8.mk 0 0 0 0 0 []) (C7.mk 0 0 0 0 0 0 []) (C8.mk 0 0 0 0 0 []) (D5.mk 0 0 0 []) a.1.Now a.1.Bn (B9.mk false 0 0 0 []) ([]:List B8) (B6.mk 0 0 0 []) (B7.mk 0 0 0 0 []))<|
 cond (n.Bi==8) (
  let h:=(B6b (n.Bs==1) n.W n.Cap o);
  R3 n (C6.mk 0 0 0 []) (D4.mk 0 0 0 0 []) (E8.mk 0 0 0 0 0 []) (C7.mk 0 0 0 0 0 0 []) (C8.mk 0 0 0 0 0 []) (D5.mk 0 0 0 []) 0 ([]:List Int) h.1 ([]:List B8) (B6.mk 0 0 0 []) (B7.mk 0 0 0 0 []))<|
 cond (n.Bi==9) (
  Option.bind (B6d n.Am n.W n.Cap) fun i=>
  R3 n (C6.mk 0 0 0 []) (D4.mk 0 0 0 0 []) (E8.mk 0 0 0 0 0 []) (C7.mk 0 0 0 0 0 0 []) (C8.mk 0 0 0 0 0 []) (D5.mk 0 0 0 []) 0 ([]:List Int) (B9.mk false 0 0 0 []) i.1.Am (B6.mk 0 0 0 []) (B7.mk 0 0 0 0 []))<|
 cond (n.Bi==10) (
  let j:=(A0O n.K n.Cap);
  R3 n (C6.mk 0 0 0 []) (D4.mk 0 0 0 0 []) (E8.mk 0 0 0 0 0 []) (C7.mk 0 0 0 0 0 0 []) (C8.mk 0 0 0 0 0 []) (D5.mk 0 0 0 []) 0 ([]:List Int) (B9.mk false 0 0 0 []) ([]:List B8) j.1 (B7.mk 0 0 0 0 []))<|
 cond (n.Bi==11) (
  let k:=(B6g n.W n.K n.Cap o);
  R3 n (C6.mk 0 0 0 []) (D4.mk 0 0 0 0 []) (E8.mk 0 0 0 0 0 []) (C7.mk 0 0 0 0 0 0 []) (C8.mk 0 0 0 0 0 []) (D5.mk 0 0 0 []) 0 ([]:List Int) (B9.mk false 0 0 0 []) ([]:List B8) (B6.mk 0 0 0 []) k.1)<|
 R3 n (C6.mk 0 0 0 []) (D4.mk 0 0 0 0 []) (E8.mk 0 0 0 0 0 []) (C7.mk 0 0 0 0 0 0 []) (C8.mk 0 0 0 0 0 []) (D5.mk 0 0 0 []) 0 ([]:List Int) (B9.mk false 0 0 0 []) ([]:List B8) (B6.mk 0 0 0 []) (B7.mk 0 0 0 0 [])
def B35 (n:B0):Option Bool:=
 cond (n.Ao.Bi==1) (
  Option.bind (Z7 n.Aq) fun k=>
  some (((k==0)&&(n.Aq.W==n.Ao.W))&&(n.Aq.Cap==n.Ao.Cap)))<|
 cond (n.Ao.Bi==2) (
  Option.bind (A7c n.Ay) fun l=>
  some ((((l==0)&&(n.Ay.W==n.Ao.W))&&(n.Ay.K==n.Ao.K))&&(n.Ay.Cap==n.Ao.Cap)))<|
 cond (n.Ao.Bi==3) (
  Option.bind (A7d n.Sum) fun m=>
  some (((((m==0)&&(n.Sum.W==n.Ao.W))&&(n.Sum.K==n.Ao.K))&&(n.Sum.Cap==n.Ao.Cap))&&(n.Sum.Bs==n.Ao.Bs)))<|
 cond (n.Ao.Bi==4) (
  Option.bind (A7e n.As) fun d=>
  some (((((d==0)&&(n.As.Bo==n.Ao.Bo))&&(n.As.W==n.Ao.W))&&(n.As.K==n.Ao.K))&&(n.As.Cap==n.Ao.Cap)))<|
 cond (n.Ao.Bi==5) (
  Option.bind (A7f n.Au) fun e=>
  some ((((e==0)&&(n.Au.W==n.Ao.W))&&(n.Au.K==n.Ao.K))&&(n.Au.Cap==n.Ao.Cap)))<|
 cond (n.Ao.Bi==6) (
  Option.bind (A7g n.Bm) fun f=>
  some ((f==0)&&(n.Bm.P==n.Ao.P)))<|
 cond (n.Ao.Bi==7) (
  Option.bind (A7h n.Ba) fun g=>
  some ((g==0)&&((n.Ba.Bn.length:Int)==n.Ao.W)))<|
 cond (n.Ao.Bi==8) (
  Option.bind (A7i n.Af) fun h=>
  some ((((h==0)&&(n.Af.Bs==(n.Ao.Bs==1)))&&(n.Af.W==n.Ao.W))&&(n.Af.Cap==n.Ao.Cap)))<|
 cond (n.Ao.Bi==9) (
  Option.bind (A4d n.Ar) fun a=>
  Option.bind (gd ((a==0)&&((n.Ar.Am.length:Int)==n.Ao.Am)) (D3 n.Ar.Am 0)) fun b=>
  Option.bind (gd (((a==0)&&((n.Ar.Am.length:Int)==n.Ao.Am))&&(b.W==n.Ao.W)) (D3 n.Ar.Am 0)) fun c=>
  some ((((a==0)&&((n.Ar.Am.length:Int)==n.Ao.Am))&&(b.W==n.Ao.W))&&(c.Cap==n.Ao.Cap)))<|
 cond (n.Ao.Bi==10) (
  Option.bind (A7l n.Ai) fun i=>
  some (((i==0)&&(n.Ai.K==n.Ao.K))&&(n.Ai.Cap==n.Ao.Cap)))<|
 cond (n.Ao.Bi==11) (
  Option.bind (A7m n.Ab) fun j=>
  some ((((j==0)&&(n.Ab.W==n.Ao.W))&&(n.Ab.K==n.Ao.K))&&(n.Ab.Cap==n.Ao.Cap)))<|
 some false
def A7n (e:B0):Option Int:=
 let a:=(A2k e.Ao);
 Option.bind (gd (!(a !=0)) (B35 e)) fun b=>
 let c:=(O5 e);
 Option.bind (gd (!((a !=0)||(!b))) (A6d e c)) fun d=>
 cond (((a !=0)||(!b))||(!d)) (
  some 2)<|
 some 0
end
end Go.Win
