/- The functions of the program and of the statements, as functions on plain data: made by program out of the translated code. -/
import Derived.Test.YtkakobhohikfkaaGreatVc
set_option linter.unusedVariables false
namespace Go.Win
open Go.Vc Go.Dec
noncomputable section
structure A5 where
 Bu:Int
 Bp:Int
 deriving Inhabited
def D2n (p:A5):List AV:= [.int .i64 p.Bu, .int .i64 p.Bp]
def B2I (p:A5):Prop:=(E2 .i64) p.Bu/\(E2 .i64) p.Bp
def B0M (p:A5):Prop:=(E2 .i64) p.Bu/\(E2 .i64) p.Bp
structure C5 where
 Lo:A5
 Bq:A5
 Hi:A5
 deriving Inhabited
def Q1 (p:C5):List AV:= [.int .i64 p.Lo.Bu, .int .i64 p.Lo.Bp, .int .i64 p.Bq.Bu, .int .i64 p.Bq.Bp, .int .i64 p.Hi.Bu, .int .i64 p.Hi.Bp]
def C2C (p:C5):Prop:=B2I p.Lo/\B2I p.Bq/\B2I p.Hi
def C1f (p:C5):Prop:=B0M p.Lo/\B0M p.Bq/\B0M p.Hi
structure A2 where
 Hi:Int
 Lo:Int
 deriving Inhabited
def P0 (p:A2):List AV:= [.int .u64 p.Hi, .int .u64 p.Lo]
def B32 (p:A2):Prop:=(E2 .u64) p.Hi/\(E2 .u64) p.Lo
def A8y (p:A2):Prop:=(E2 .u64) p.Hi/\(E2 .u64) p.Lo
structure D8 where
 Bu:A2
 Bp:A2
 deriving Inhabited
def B15 (p:D8):List AV:= [.int .u64 p.Bu.Hi, .int .u64 p.Bu.Lo, .int .u64 p.Bp.Hi, .int .u64 p.Bp.Lo]
def B99 (p:D8):Prop:=B32 p.Bu/\B32 p.Bp
def B8V (p:D8):Prop:=A8y p.Bu/\A8y p.Bp
structure E3 where
 Al:C5
 Aw:(List Int)
 Aa:D8
 deriving Inhabited
def A1I (p:E3):List AV:= [.int .i64 p.Al.Lo.Bu, .int .i64 p.Al.Lo.Bp, .int .i64 p.Al.Bq.Bu, .int .i64 p.Al.Bq.Bp, .int .i64 p.Al.Hi.Bu, .int .i64 p.Al.Hi.Bp, .lst 1 false (List.map (eI .i64) p.Aw), .int .u64 p.Aa.Bu.Hi, .int .u64 p.Aa.Bu.Lo, .int .u64 p.Aa.Bp.Hi, .int .u64 p.Aa.Bp.Lo]
def C2B (p:E3):Prop:=C2C p.Al/\(wfL (E2 .i64)) p.Aw/\B99 p.Aa
def C1e (p:E3):Prop:=C1f p.Al/\(A2l (E2 .i64)) p.Aw/\B8V p.Aa
structure B4 where
 V:Int
 Bt:Int
 Bs:Int
 deriving Inhabited
def D5 (p:B4):List AV:= [.int .i64 p.V, .int .i64 p.Bt, .int .i64 p.Bs]
def C4y (p:B4):Prop:=(E2 .i64) p.V/\(E2 .i64) p.Bt/\(E2 .i64) p.Bs
def C2x (p:B4):Prop:=(E2 .i64) p.V/\(E2 .i64) p.Bt/\(E2 .i64) p.Bs
structure D0 where
 N:Int
 Ae:(List B4)
 deriving Inhabited
def A6O (p:D0):List AV:= [.int .i64 p.N, .lst 3 false (List.map D5 p.Ae)]
def C4A (p:D0):Prop:=(E2 .i64) p.N/\(wfL C4y) p.Ae
def C2y (p:D0):Prop:=(E2 .i64) p.N/\(A2l C2x) p.Ae
structure B2 where
 T:Int
 Bk:Int
 Bc:Int
 Bh:D0
 deriving Inhabited
def C6 (p:B2):List AV:= [.int .i64 p.T, .int .i64 p.Bk, .int .i64 p.Bc, .int .i64 p.Bh.N, .lst 3 false (List.map D5 p.Bh.Ae)]
def C4v (p:B2):Prop:=(E2 .i64) p.T/\(E2 .i64) p.Bk/\(E2 .i64) p.Bc/\C4A p.Bh
def C2v (p:B2):Prop:=(E2 .i64) p.T/\(E2 .i64) p.Bk/\(E2 .i64) p.Bc/\C2y p.Bh
structure A3 where
 T:Int
 Bc:Int
 deriving Inhabited
def D7 (p:A3):List AV:= [.int .i64 p.T, .int .i64 p.Bc]
def B5Z (p:A3):Prop:=(E2 .i64) p.T/\(E2 .i64) p.Bc
def B4C (p:A3):Prop:=(E2 .i64) p.T/\(E2 .i64) p.Bc
structure G4 where
 I:Int
 V:Int
 deriving Inhabited
def M5 (p:G4):List AV:= [.int .i64 p.I, .int .i64 p.V]
def C5r (p:G4):Prop:=(E2 .i64) p.I/\(E2 .i64) p.V
def C4u (p:G4):Prop:=(E2 .i64) p.I/\(E2 .i64) p.V
structure B7 where
 W:Int
 Cap:Int
 I:Int
 Bl:Int
 Be:(List G4)
 deriving Inhabited
def F4 (p:B7):List AV:= [.int .i64 p.W, .int .i64 p.Cap, .int .i64 p.I, .int .i64 p.Bl, .lst 2 false (List.map M5 p.Be)]
def C4w (p:B7):Prop:=(E2 .i64) p.W/\(E2 .i64) p.Cap/\(E2 .i64) p.I/\(E2 .i64) p.Bl/\(wfL C5r) p.Be
def C2w (p:B7):Prop:=(E2 .i64) p.W/\(E2 .i64) p.Cap/\(E2 .i64) p.I/\(E2 .i64) p.Bl/\(A2l C4u) p.Be
structure B5 where
 Bi:Int
 Bo:Int
 W:Int
 K:Int
 Cap:Int
 P:Int
 Am:Int
 Bs:Int
 deriving Inhabited
def H6 (p:B5):List AV:= [.int .i64 p.Bi, .int .i64 p.Bo, .int .i64 p.W, .int .i64 p.K, .int .i64 p.Cap, .int .i64 p.P, .int .i64 p.Am, .int .i64 p.Bs]
def B0N (p:B5):Prop:=(E2 .i64) p.Bi/\(E2 .i64) p.Bo/\(E2 .i64) p.W/\(E2 .i64) p.K/\(E2 .i64) p.Cap/\(E2 .i64) p.P/\(E2 .i64) p.Am/\(E2 .i64) p.Bs
def B4D (p:B5):Prop:=(E2 .i64) p.Bi/\(E2 .i64) p.Bo/\(E2 .i64) p.W/\(E2 .i64) p.K/\(E2 .i64) p.Cap/\(E2 .i64) p.P/\(E2 .i64) p.Am/\(E2 .i64) p.Bs
structure I4 where
 Op:Int
 A:Int
 B:Int
 deriving Inhabited
def C2c (p:I4):List AV:= [.int .i64 p.Op, .int .i64 p.A, .int .i64 p.B]
def B7g (p:I4):Prop:=(E2 .i64) p.Op/\(E2 .i64) p.A/\(E2 .i64) p.B
def T0 (p:I4):Prop:=(E2 .i64) p.Op/\(E2 .i64) p.A/\(E2 .i64) p.B
structure E9 where
 Op:Int
 ID:Int
 Ao:B5
 T:Int
 V:Int
 Az:(List Int)
 Bg:I4
 Ax:(List Int)
 deriving Inhabited
def G7 (p:E9):List AV:= [.int .i64 p.Op, .int .i64 p.ID, .int .i64 p.Ao.Bi, .int .i64 p.Ao.Bo, .int .i64 p.Ao.W, .int .i64 p.Ao.K, .int .i64 p.Ao.Cap, .int .i64 p.Ao.P, .int .i64 p.Ao.Am, .int .i64 p.Ao.Bs, .int .i64 p.T, .int .i64 p.V, .lst 1 false (List.map (eI .i64) p.Az), .int .i64 p.Bg.Op, .int .i64 p.Bg.A, .int .i64 p.Bg.B, .lst 1 false (List.map (eI .u8) p.Ax)]
def A1K (p:E9):Prop:=(E2 .i64) p.Op/\(E2 .i64) p.ID/\B0N p.Ao/\(E2 .i64) p.T/\(E2 .i64) p.V/\(wfL (E2 .i64)) p.Az/\B7g p.Bg/\(wfL (E2 .u8)) p.Ax
def B98 (p:E9):Prop:=(E2 .i64) p.Op/\(E2 .i64) p.ID/\B4D p.Ao/\(E2 .i64) p.T/\(E2 .i64) p.V/\(A2l (E2 .i64)) p.Az/\T0 p.Bg/\(A2l (E2 .u8)) p.Ax
structure E1 where
 W:Int
 K:Int
 Cap:Int
 Now:Int
 Ad:(List A3)
 deriving Inhabited
def N7 (p:E1):List AV:= [.int .i64 p.W, .int .i64 p.K, .int .i64 p.Cap, .int .i64 p.Now, .lst 2 false (List.map D7 p.Ad)]
def C4x (p:E1):Prop:=(E2 .i64) p.W/\(E2 .i64) p.K/\(E2 .i64) p.Cap/\(E2 .i64) p.Now/\(wfL B5Z) p.Ad
def B5X (p:E1):Prop:=(E2 .i64) p.W/\(E2 .i64) p.K/\(E2 .i64) p.Cap/\(E2 .i64) p.Now/\(A2l B4C) p.Ad
structure A8 where
 T:Int
 V:Int
 deriving Inhabited
def E6 (p:A8):List AV:= [.int .i64 p.T, .int .i64 p.V]
def B8o (p:A8):Prop:=(E2 .i64) p.T/\(E2 .i64) p.V
def B7d (p:A8):Prop:=(E2 .i64) p.T/\(E2 .i64) p.V
structure B8 where
 Bs:Bool
 W:Int
 Cap:Int
 Now:Int
 Bb:(List A8)
 deriving Inhabited
def I9 (p:B8):List AV:= [.sb p.Bs, .int .i64 p.W, .int .i64 p.Cap, .int .i64 p.Now, .lst 2 false (List.map E6 p.Bb)]
def C1i (p:B8):Prop:=(fun _:Bool=>True) p.Bs/\(E2 .i64) p.W/\(E2 .i64) p.Cap/\(E2 .i64) p.Now/\(wfL B8o) p.Bb
def B3B (p:B8):Prop:=(fun _:Bool=>True) p.Bs/\(E2 .i64) p.W/\(E2 .i64) p.Cap/\(E2 .i64) p.Now/\(A2l B7d) p.Bb
structure F1 where
 Now:Int
 Bn:(List Int)
 deriving Inhabited
def A6N (p:F1):List AV:= [.int .i64 p.Now, .lst 1 false (List.map (eI .i64) p.Bn)]
def C4z (p:F1):Prop:=(E2 .i64) p.Now/\(wfL (E2 .i64)) p.Bn
def B5Y (p:F1):Prop:=(E2 .i64) p.Now/\(A2l (E2 .i64)) p.Bn
structure E0 where
 P:Int
 Bj:Int
 Now:Int
 Ag:(List A2)
 deriving Inhabited
def O9 (p:E0):List AV:= [.int .i64 p.P, .int .i64 p.Bj, .int .i64 p.Now, .lst 2 false (List.map P0 p.Ag)]
def C5s (p:E0):Prop:=(E2 .i64) p.P/\(E2 .i64) p.Bj/\(E2 .i64) p.Now/\(wfL B32) p.Ag
def B7f (p:E0):Prop:=(E2 .i64) p.P/\(E2 .i64) p.Bj/\(E2 .i64) p.Now/\(A2l A8y) p.Ag
structure C3 where
 W:Int
 K:Int
 Cap:Int
 Now:Int
 Ak:(List B2)
 deriving Inhabited
def H9 (p:C3):List AV:= [.int .i64 p.W, .int .i64 p.K, .int .i64 p.Cap, .int .i64 p.Now, .lst 5 false (List.map C6 p.Ak)]
def C0a (p:C3):Prop:=(E2 .i64) p.W/\(E2 .i64) p.K/\(E2 .i64) p.Cap/\(E2 .i64) p.Now/\(wfL C4v) p.Ak
def B2H (p:C3):Prop:=(E2 .i64) p.W/\(E2 .i64) p.K/\(E2 .i64) p.Cap/\(E2 .i64) p.Now/\(A2l C2v) p.Ak
structure C8 where
 W:Int
 Cap:Int
 Now:Int
 Bb:(List A8)
 deriving Inhabited
def N0 (p:C8):List AV:= [.int .i64 p.W, .int .i64 p.Cap, .int .i64 p.Now, .lst 2 false (List.map E6 p.Bb)]
def C2E (p:C8):Prop:=(E2 .i64) p.W/\(E2 .i64) p.Cap/\(E2 .i64) p.Now/\(wfL B8o) p.Bb
def B4E (p:C8):Prop:=(E2 .i64) p.W/\(E2 .i64) p.Cap/\(E2 .i64) p.Now/\(A2l B7d) p.Bb
structure E4 where
 Am:(List B7)
 deriving Inhabited
def A5p (p:E4):List AV:= [.lst 5 false (List.map F4 p.Am)]
def C2G (p:E4):Prop:=(wfL C4w) p.Am
def B4F (p:E4):Prop:=(A2l C2w) p.Am
structure A6 where
 Bv:Int
 T:Int
 N:Int
 S:Int
 Q:Int
 Bt:Int
 Bs:Int
 deriving Inhabited
def C4 (p:A6):List AV:= [.int .i64 p.Bv, .int .i64 p.T, .int .i64 p.N, .int .i64 p.S, .int .i64 p.Q, .int .i64 p.Bt, .int .i64 p.Bs]
def B8p (p:A6):Prop:=(E2 .i64) p.Bv/\(E2 .i64) p.T/\(E2 .i64) p.N/\(E2 .i64) p.S/\(E2 .i64) p.Q/\(E2 .i64) p.Bt/\(E2 .i64) p.Bs
def B7e (p:A6):Prop:=(E2 .i64) p.Bv/\(E2 .i64) p.T/\(E2 .i64) p.N/\(E2 .i64) p.S/\(E2 .i64) p.Q/\(E2 .i64) p.Bt/\(E2 .i64) p.Bs
structure C9 where
 Bo:Int
 W:Int
 K:Int
 Cap:Int
 Now:Int
 Bv:Int
 Bf:(List A6)
 deriving Inhabited
def L3 (p:C9):List AV:= [.int .i64 p.Bo, .int .i64 p.W, .int .i64 p.K, .int .i64 p.Cap, .int .i64 p.Now, .int .i64 p.Bv, .lst 7 false (List.map C4 p.Bf)]
def C2H (p:C9):Prop:=(E2 .i64) p.Bo/\(E2 .i64) p.W/\(E2 .i64) p.K/\(E2 .i64) p.Cap/\(E2 .i64) p.Now/\(E2 .i64) p.Bv/\(wfL B8p) p.Bf
def B4G (p:C9):Prop:=(E2 .i64) p.Bo/\(E2 .i64) p.W/\(E2 .i64) p.K/\(E2 .i64) p.Cap/\(E2 .i64) p.Now/\(E2 .i64) p.Bv/\(A2l B7e) p.Bf
structure D1 where
 W:Int
 K:Int
 Cap:Int
 Now:Int
 Bv:Int
 Bf:(List A6)
 deriving Inhabited
def K3 (p:D1):List AV:= [.int .i64 p.W, .int .i64 p.K, .int .i64 p.Cap, .int .i64 p.Now, .int .i64 p.Bv, .lst 7 false (List.map C4 p.Bf)]
def C2I (p:D1):Prop:=(E2 .i64) p.W/\(E2 .i64) p.K/\(E2 .i64) p.Cap/\(E2 .i64) p.Now/\(E2 .i64) p.Bv/\(wfL B8p) p.Bf
def B4H (p:D1):Prop:=(E2 .i64) p.W/\(E2 .i64) p.K/\(E2 .i64) p.Cap/\(E2 .i64) p.Now/\(E2 .i64) p.Bv/\(A2l B7e) p.Bf
structure F0 where
 W:Int
 K:Int
 Cap:Int
 Bs:Int
 Now:Int
 Ad:(List A3)
 deriving Inhabited
def P6 (p:F0):List AV:= [.int .i64 p.W, .int .i64 p.K, .int .i64 p.Cap, .int .i64 p.Bs, .int .i64 p.Now, .lst 2 false (List.map D7 p.Ad)]
def C7E (p:F0):Prop:=(E2 .i64) p.W/\(E2 .i64) p.K/\(E2 .i64) p.Cap/\(E2 .i64) p.Bs/\(E2 .i64) p.Now/\(wfL B5Z) p.Ad
def B8n (p:F0):Prop:=(E2 .i64) p.W/\(E2 .i64) p.K/\(E2 .i64) p.Cap/\(E2 .i64) p.Bs/\(E2 .i64) p.Now/\(A2l B4C) p.Ad
structure D9 where
 V:Int
 G:Int
 D:Int
 deriving Inhabited
def G0 (p:D9):List AV:= [.int .i64 p.V, .int .i64 p.G, .int .i64 p.D]
def C4C (p:D9):Prop:=(E2 .i64) p.V/\(E2 .i64) p.G/\(E2 .i64) p.D
def C2A (p:D9):Prop:=(E2 .i64) p.V/\(E2 .i64) p.G/\(E2 .i64) p.D
structure B9 where
 K:Int
 Cap:Int
 N:Int
 Av:(List D9)
 deriving Inhabited
def H8 (p:B9):List AV:= [.int .i64 p.K, .int .i64 p.Cap, .int .i64 p.N, .lst 3 false (List.map G0 p.Av)]
def C1j (p:B9):Prop:=(E2 .i64) p.K/\(E2 .i64) p.Cap/\(E2 .i64) p.N/\(wfL C4C) p.Av
def B3C (p:B9):Prop:=(E2 .i64) p.K/\(E2 .i64) p.Cap/\(E2 .i64) p.N/\(A2l C2A) p.Av
structure A7 where
 Ao:B5
 Aq:C8
 Ay:E1
 Sum:F0
 As:C9
 Au:D1
 Bm:E0
 Ba:F1
 Af:B8
 Ar:E4
 Ai:B9
 Ab:C3
 deriving Inhabited
def F9 (p:A7):List AV:= [.int .i64 p.Ao.Bi, .int .i64 p.Ao.Bo, .int .i64 p.Ao.W, .int .i64 p.Ao.K, .int .i64 p.Ao.Cap, .int .i64 p.Ao.P, .int .i64 p.Ao.Am, .int .i64 p.Ao.Bs, .int .i64 p.Aq.W, .int .i64 p.Aq.Cap, .int .i64 p.Aq.Now, .lst 2 false (List.map E6 p.Aq.Bb), .int .i64 p.Ay.W, .int .i64 p.Ay.K, .int .i64 p.Ay.Cap, .int .i64 p.Ay.Now, .lst 2 false (List.map D7 p.Ay.Ad), .int .i64 p.Sum.W, .int .i64 p.Sum.K, .int .i64 p.Sum.Cap, .int .i64 p.Sum.Bs, .int .i64 p.Sum.Now, .lst 2 false (List.map D7 p.Sum.Ad), .int .i64 p.As.Bo, .int .i64 p.As.W, .int .i64 p.As.K, .int .i64 p.As.Cap, .int .i64 p.As.Now, .int .i64 p.As.Bv, .lst 7 false (List.map C4 p.As.Bf), .int .i64 p.Au.W, .int .i64 p.Au.K, .int .i64 p.Au.Cap, .int .i64 p.Au.Now, .int .i64 p.Au.Bv, .lst 7 false (List.map C4 p.Au.Bf), .int .i64 p.Bm.P, .int .i64 p.Bm.Bj, .int .i64 p.Bm.Now, .lst 2 false (List.map P0 p.Bm.Ag), .int .i64 p.Ba.Now, .lst 1 false (List.map (eI .i64) p.Ba.Bn), .sb p.Af.Bs, .int .i64 p.Af.W, .int .i64 p.Af.Cap, .int .i64 p.Af.Now, .lst 2 false (List.map E6 p.Af.Bb), .lst 5 false (List.map F4 p.Ar.Am), .int .i64 p.Ai.K, .int .i64 p.Ai.Cap, .int .i64 p.Ai.N, .lst 3 false (List.map G0 p.Ai.Av), .int .i64 p.Ab.W, .int .i64 p.Ab.K, .int .i64 p.Ab.Cap, .int .i64 p.Ab.Now, .lst 5 false (List.map C6 p.Ab.Ak)]
def C0b (p:A7):Prop:=B0N p.Ao/\C2E p.Aq/\C4x p.Ay/\C7E p.Sum/\C2H p.As/\C2I p.Au/\C5s p.Bm/\C4z p.Ba/\C1i p.Af/\C2G p.Ar/\C1j p.Ai/\C0a p.Ab
def A7m (p:A7):Prop:=B4D p.Ao/\B4E p.Aq/\B5X p.Ay/\B8n p.Sum/\B4G p.As/\B4H p.Au/\B7f p.Bm/\B5Y p.Ba/\B3B p.Af/\B4F p.Ar/\B3C p.Ai/\B2H p.Ab
structure B0 where
 ID:Int
 Ac:A7
 deriving Inhabited
def C7 (p:B0):List AV:= [.int .i64 p.ID, .int .i64 p.Ac.Ao.Bi, .int .i64 p.Ac.Ao.Bo, .int .i64 p.Ac.Ao.W, .int .i64 p.Ac.Ao.K, .int .i64 p.Ac.Ao.Cap, .int .i64 p.Ac.Ao.P, .int .i64 p.Ac.Ao.Am, .int .i64 p.Ac.Ao.Bs, .int .i64 p.Ac.Aq.W, .int .i64 p.Ac.Aq.Cap, .int .i64 p.Ac.Aq.Now, .lst 2 false (List.map E6 p.Ac.Aq.Bb), .int .i64 p.Ac.Ay.W, .int .i64 p.Ac.Ay.K, .int .i64 p.Ac.Ay.Cap, .int .i64 p.Ac.Ay.Now, .lst 2 false (List.map D7 p.Ac.Ay.Ad), .int .i64 p.Ac.Sum.W, .int .i64 p.Ac.Sum.K, .int .i64 p.Ac.Sum.Cap, .int .i64 p.Ac.Sum.Bs, .int .i64 p.Ac.Sum.Now, .lst 2 false (List.map D7 p.Ac.Sum.Ad), .int .i64 p.Ac.As.Bo, .int .i64 p.Ac.As.W, .int .i64 p.Ac.As.K, .int .i64 p.Ac.As.Cap, .int .i64 p.Ac.As.Now, .int .i64 p.Ac.As.Bv, .lst 7 false (List.map C4 p.Ac.As.Bf), .int .i64 p.Ac.Au.W, .int .i64 p.Ac.Au.K, .int .i64 p.Ac.Au.Cap, .int .i64 p.Ac.Au.Now, .int .i64 p.Ac.Au.Bv, .lst 7 false (List.map C4 p.Ac.Au.Bf), .int .i64 p.Ac.Bm.P, .int .i64 p.Ac.Bm.Bj, .int .i64 p.Ac.Bm.Now, .lst 2 false (List.map P0 p.Ac.Bm.Ag), .int .i64 p.Ac.Ba.Now, .lst 1 false (List.map (eI .i64) p.Ac.Ba.Bn), .sb p.Ac.Af.Bs, .int .i64 p.Ac.Af.W, .int .i64 p.Ac.Af.Cap, .int .i64 p.Ac.Af.Now, .lst 2 false (List.map E6 p.Ac.Af.Bb), .lst 5 false (List.map F4 p.Ac.Ar.Am), .int .i64 p.Ac.Ai.K, .int .i64 p.Ac.Ai.Cap, .int .i64 p.Ac.Ai.N, .lst 3 false (List.map G0 p.Ac.Ai.Av), .int .i64 p.Ac.Ab.W, .int .i64 p.Ac.Ab.K, .int .i64 p.Ac.Ab.Cap, .int .i64 p.Ac.Ab.Now, .lst 5 false (List.map C6 p.Ac.Ab.Ak)]
def C2F (p:B0):Prop:=(E2 .i64) p.ID/\C0b p.Ac
def C1h (p:B0):Prop:=(E2 .i64) p.ID/\A7m p.Ac
structure D4 where
 Now:Int
 Bd:Int
 Ah:(List B0)
 deriving Inhabited
def A5o (p:D4):List AV:= [.int .i64 p.Now, .int .i64 p.Bd, .lst 58 false (List.map C7 p.Ah)]
def C2D (p:D4):Prop:=(E2 .i64) p.Now/\(E2 .i64) p.Bd/\(wfL C2F) p.Ah
def C1g (p:D4):Prop:=(E2 .i64) p.Now/\(E2 .i64) p.Bd/\(A2l C1h) p.Ah
structure G9 where
 Code:Int
 Aj:E3
 Br:(List Int)
 Ax:(List Int)
 deriving Inhabited
def A36 (p:G9):List AV:= [.int .i64 p.Code, .int .i64 p.Aj.Al.Lo.Bu, .int .i64 p.Aj.Al.Lo.Bp, .int .i64 p.Aj.Al.Bq.Bu, .int .i64 p.Aj.Al.Bq.Bp, .int .i64 p.Aj.Al.Hi.Bu, .int .i64 p.Aj.Al.Hi.Bp, .lst 1 false (List.map (eI .i64) p.Aj.Aw), .int .u64 p.Aj.Aa.Bu.Hi, .int .u64 p.Aj.Aa.Bu.Lo, .int .u64 p.Aj.Aa.Bp.Hi, .int .u64 p.Aj.Aa.Bp.Lo, .lst 1 false (List.map (eI .i64) p.Br), .lst 1 false (List.map (eI .u8) p.Ax)]
def C4B (p:G9):Prop:=(E2 .i64) p.Code/\C2B p.Aj/\(wfL (E2 .i64)) p.Br/\(wfL (E2 .u8)) p.Ax
def C2z (p:G9):Prop:=(E2 .i64) p.Code/\C1e p.Aj/\(A2l (E2 .i64)) p.Br/\(A2l (E2 .u8)) p.Ax
structure J3 where
 draws_:(List Int)
 at_:Int
 beyond_:Int
 deriving Inhabited
def A3J (p:J3):List AV:= [.lst 1 false (List.map (eI .i64) p.draws_), .int .i64 p.at_, .int .i64 p.beyond_]
def D1e (p:J3):Prop:=(wfL (E2 .i64)) p.draws_/\(E2 .i64) p.at_/\(E2 .i64) p.beyond_
def D0T (p:J3):Prop:=(A2l (E2 .i64)) p.draws_/\(E2 .i64) p.at_/\(E2 .i64) p.beyond_
structure D6 where
 Ap:D4
 command_:E9
 reply_:G9
 deriving Inhabited
def H4 (p:D6):List AV:= [.int .i64 p.Ap.Now, .int .i64 p.Ap.Bd, .lst 58 false (List.map C7 p.Ap.Ah), .int .i64 p.command_.Op, .int .i64 p.command_.ID, .int .i64 p.command_.Ao.Bi, .int .i64 p.command_.Ao.Bo, .int .i64 p.command_.Ao.W, .int .i64 p.command_.Ao.K, .int .i64 p.command_.Ao.Cap, .int .i64 p.command_.Ao.P, .int .i64 p.command_.Ao.Am, .int .i64 p.command_.Ao.Bs, .int .i64 p.command_.T, .int .i64 p.command_.V, .lst 1 false (List.map (eI .i64) p.command_.Az), .int .i64 p.command_.Bg.Op, .int .i64 p.command_.Bg.A, .int .i64 p.command_.Bg.B, .lst 1 false (List.map (eI .u8) p.command_.Ax), .int .i64 p.reply_.Code, .int .i64 p.reply_.Aj.Al.Lo.Bu, .int .i64 p.reply_.Aj.Al.Lo.Bp, .int .i64 p.reply_.Aj.Al.Bq.Bu, .int .i64 p.reply_.Aj.Al.Bq.Bp, .int .i64 p.reply_.Aj.Al.Hi.Bu, .int .i64 p.reply_.Aj.Al.Hi.Bp, .lst 1 false (List.map (eI .i64) p.reply_.Aj.Aw), .int .u64 p.reply_.Aj.Aa.Bu.Hi, .int .u64 p.reply_.Aj.Aa.Bu.Lo, .int .u64 p.reply_.Aj.Aa.Bp.Hi, .int .u64 p.reply_.Aj.Aa.Bp.Lo, .lst 1 false (List.map (eI .i64) p.reply_.Br), .lst 1 false (List.map (eI .u8) p.reply_.Ax)]
def D1f (p:D6):Prop:=C2D p.Ap/\A1K p.command_/\C4B p.reply_
def D0U (p:D6):Prop:=C1g p.Ap/\B98 p.command_/\C2z p.reply_
structure H3 where
 e0:Int
 e1:Int
 e2:Int
 e3:Int
 deriving Inhabited
def X3 (p:H3):List AV:= [.int .u64 p.e0, .int .u64 p.e1, .int .u64 p.e2, .int .u64 p.e3]
def D2q (p:H3):Prop:=(E2 .u64) p.e0/\(E2 .u64) p.e1/\(E2 .u64) p.e2/\(E2 .u64) p.e3
def D2j (p:H3):Prop:=(E2 .u64) p.e0/\(E2 .u64) p.e1/\(E2 .u64) p.e2/\(E2 .u64) p.e3
structure V9 where
 L:(List Int)
 At:Int
 deriving Inhabited
def A6P (p:V9):List AV:= [.lst 1 false (List.map (eI .i64) p.L), .int .i64 p.At]
def D3A (p:V9):Prop:=(wfL (E2 .i64)) p.L/\(E2 .i64) p.At
def D2p (p:V9):Prop:=(A2l (E2 .i64)) p.L/\(E2 .i64) p.At
def A9C (b a:Int):Option (Int×Bool):=
 cond ((a==0)||((b==(-9223372036854775808:Int))&&(a==(-1:Int)))) (
  some (0,false))<|
 ck (decide (a≠0))<|
 ck (decide (a≠0))<|
 cond (((Int.tmod b a) !=0)&&((decide (b<0))==(decide (a<0)))) (
  some ((A1 ((A1 (Int.tdiv b a))+1)),true))<|
 some ((A1 (Int.tdiv b a)),true)
def A2t (e d b a:Int):Option ((Int×Int)⊕Int):=
 cond (decide (a<=e)) (
  ck (decide (0<=(A4 a)))<|
  cond (decide ((E7 .i64 1 (A4 a))>(A1 (d+1)))) (
   Option.bind (A9C (A1 ((E7 .i64 1 (A4 a))-1)) d) fun c=>
   some (.inl ((A1 ((A1 (2*b))+c.1)),(A1 (a+1)))))<|
  some (.inl (b,(A1 (a+1)))))<|
 Option.map Sum.inr (some b)
def B0O (c d a b:Int):Option Int:=
 loop (fun (s:(Int×Int))=>A2t c d s.1 s.2) (a,b)
def A5i (a b:Int):Option Int:=
 cond ((((decide (a<0))||(decide (a>30)))||(decide (b<1)))||(decide (b>65536))) (
  some (-1:Int))<|
 B0O a b 0 0
def A1j (c:Int) (a:List B2):Option ((List B2)⊕(List B2)):=
 Option.bind (gd (decide ((a.length:Int)>(0:Int))) (C1 a 0)) fun b=>
 cond ((decide ((a.length:Int)>(0:Int)))&&(decide (b.T<c))) (
  ck (decide (0<=(1:Int)/\1<=(a.length:Int)))<|
  some (.inl (a.drop ((1:Int)).toNat)))<|
 Option.map Sum.inr (ck (decide ((([]:List B2).length+a.length)*56<=140737488355328))<|
 some (([]:List B2)++a))
def A61 (b:Int) (a:List B2):Option (List B2):=
 loop (fun (s:(List B2))=>A1j b s) a
def A2m (a:List B2) (b:Int):Option (List B2):=
 A61 b a
def A3F (d:List B2) (b:List A3) (c:Int):Option (((List A3)×Int)⊕(List A3)):=
 cond (decide (c<(d.length:Int))) (
  Option.bind (C1 d c) fun a=>
  ck (decide ((b.length+ [(A3.mk a.T a.Bc)].length)*16<=140737488355328))<|
  some (.inl ((b++ [(A3.mk a.T a.Bc)]),(A1 (c+1)))))<|
 Option.map Sum.inr (some b)
def B2Y (c:List B2) (a:List A3) (b:Int):Option (List A3):=
 loop (fun (s:((List A3)×Int))=>A3F c s.1 s.2) (a,b)
def A4O (a:List B2):Option (List A3):=
 B2Y a ([]:List A3) 0
def A0a (a:Int):Bool:=
 ((decide (a>=0))&&(decide (a<=30)))
def B7F (e:List A3) (b a:Int):Option ((Int×Int)⊕Int):=
 cond (decide (a<(e.length:Int))) (
  Option.bind (C1 e a) fun c=>
  let d:=(A0a c.Bc);
  cond d (
   ck (decide (0<=(A4 c.Bc)))<|
   some (.inl ((A1 (b+(E7 .i64 1 (A4 c.Bc)))),(A1 (a+1)))))<|
  some (.inl (b,(A1 (a+1)))))<|
 Option.map Sum.inr (some b)
def A65 (c:List A3) (a b:Int):Option Int:=
 loop (fun (s:(Int×Int))=>B7F c s.1 s.2) (a,b)
def K8 (a:List A3):Option Int:=
 A65 a 0 0
def A1L (c:List B2):Option Int:=
 Option.bind (A4O c) fun a=>
 Option.bind (K8 a) fun b=>
 some b
def A1M (a:Int):Bool:=
 ((decide (a>=0))&&(decide (a<=16777216)))
def A2u (L w x y z A B C D E F a b c d e f g h i j k l m n o p q r s t u:Int) (G:A3) (v:Int):Option (Int⊕Bool):=
 cond (decide (v<=G.Bc)) (
  Option.bind (C1 [w,x,y,z,A,B,C,D,E,F,a,b,c,d,e,f,g,h,i,j,k,l,m,n,o,p,q,r,s,t,u] v) fun K=>
  Option.bind (C1 [w,x,y,z,A,B,C,D,E,F,a,b,c,d,e,f,g,h,i,j,k,l,m,n,o,p,q,r,s,t,u] v) fun H=>
  Option.bind (gd ((!(decide (H>(A1 (L+1)))))&&(decide (v<G.Bc))) (C1 [w,x,y,z,A,B,C,D,E,F,a,b,c,d,e,f,g,h,i,j,k,l,m,n,o,p,q,r,s,t,u] v)) fun J=>
  Option.bind (gd ((!(decide (H>(A1 (L+1)))))&&(decide (v<G.Bc))) (C1 [w,x,y,z,A,B,C,D,E,F,a,b,c,d,e,f,g,h,i,j,k,l,m,n,o,p,q,r,s,t,u] v)) fun I=>
  cond ((decide (H>(A1 (L+1))))||((decide (v<G.Bc))&&(decide (I<L)))) (
   some (.inr false))<|
  some (.inl (A1 (v+1))))<|
 Option.map Sum.inr (some true)
def A2T (I w x y z A B C D E F a b c d e f g h i j k l m n o p q r t u v:Int) (G:A3) (H:Int):Option Bool:=
 loop (fun (s:Int)=>A2u I w x y z A B C D E F a b c d e f g h i j k l m n o p q r t u v G s) H
def A51 (Q:List A3) (R H x y z A B C D E F G c d e f g h i j k l m n o p q r s t u v w:Int):Option ((Int×Int×Int×Int×Int×Int×Int×Int×Int×Int×Int×Int×Int×Int×Int×Int×Int×Int×Int×Int×Int×Int×Int×Int×Int×Int×Int×Int×Int×Int×Int×Int)⊕Bool):=
 cond (decide (H<(Q.length:Int))) (
  Option.bind (C1 Q H) fun a=>
  let L:=(A1M a.T);
  let M:=(A0a a.Bc);
  cond ((!L)||(!M)) (
   some (.inr false))<|
  Option.bind (gd (decide (H>0)) (C1 Q (A1 (H-1)))) fun I=>
  Option.bind (gd ((decide (H>0))&&(!(decide (I.T>a.T)))) (C1 Q (A1 (H-1)))) fun J=>
  cond ((decide (H>0))&&((decide (I.T>a.T))||(decide (J.Bc<a.Bc)))) (
   some (.inr false))<|
  Option.bind (C1 [x,y,z,A,B,C,D,E,F,G,c,d,e,f,g,h,i,j,k,l,m,n,o,p,q,r,s,t,u,v,w] a.Bc) fun N=>
  Option.bind (C1 [x,y,z,A,B,C,D,E,F,G,c,d,e,f,g,h,i,j,k,l,m,n,o,p,q,r,s,t,u,v,w] a.Bc) fun b=>
  Option.bind (C1 [x,y,z,A,B,C,D,E,F,G,c,d,e,f,g,h,i,j,k,l,m,n,o,p,q,r,s,t,u,v,w] a.Bc) fun O=>
  Option.bind (C1 [x,y,z,A,B,C,D,E,F,G,c,d,e,f,g,h,i,j,k,l,m,n,o,p,q,r,s,t,u,v,w] a.Bc) fun P=>
  some (.inl ((A1 (H+1)),(if (a.Bc).toNat=0 then (A1 (b+1)) else x),(if (a.Bc).toNat=1 then (A1 (b+1)) else y),(if (a.Bc).toNat=2 then (A1 (b+1)) else z),(if (a.Bc).toNat=3 then (A1 (b+1)) else A),(if (a.Bc).toNat=4 then (A1 (b+1)) else B),(if (a.Bc).toNat=5 then (A1 (b+1)) else C),(if (a.Bc).toNat=6 then (A1 (b+1)) else D),(if (a.Bc).toNat=7 then (A1 (b+1)) else E),(if (a.Bc).toNat=8 then (A1 (b+1)) else F),(if (a.Bc).toNat=9 then (A1 (b+1)) else G),(if (a.Bc).toNat=10 then (A1 (b+1)) else c),(if (a.Bc).toNat=11 then (A1 (b+1)) else d),(if (a.Bc).toNat=12 then (A1 (b+1)) else e),(if (a.Bc).toNat=13 then (A1 (b+1)) else f),(if (a.Bc).toNat=14 then (A1 (b+1)) else g),(if (a.Bc).toNat=15 then (A1 (b+1)) else h),(if (a.Bc).toNat=16 then (A1 (b+1)) else i),(if (a.Bc).toNat=17 then (A1 (b+1)) else j),(if (a.Bc).toNat=18 then (A1 (b+1)) else k),(if (a.Bc).toNat=19 then (A1 (b+1)) else l),(if (a.Bc).toNat=20 then (A1 (b+1)) else m),(if (a.Bc).toNat=21 then (A1 (b+1)) else n),(if (a.Bc).toNat=22 then (A1 (b+1)) else o),(if (a.Bc).toNat=23 then (A1 (b+1)) else p),(if (a.Bc).toNat=24 then (A1 (b+1)) else q),(if (a.Bc).toNat=25 then (A1 (b+1)) else r),(if (a.Bc).toNat=26 then (A1 (b+1)) else s),(if (a.Bc).toNat=27 then (A1 (b+1)) else t),(if (a.Bc).toNat=28 then (A1 (b+1)) else u),(if (a.Bc).toNat=29 then (A1 (b+1)) else v),(if (a.Bc).toNat=30 then (A1 (b+1)) else w))))<|
 Option.map Sum.inr (cond ((Q.length:Int)==(0:Int)) (
  some true)<|
 Option.bind (C1 Q 0) fun K=>
 A2T R x y z A B C D E F G c d e f g h i j k l m n o p q r s t u v w K 0)
def A66 (H:List A3) (I G w x y z A B C D E F a b c d e f g h i j k l m n o p q r t u v:Int):Option Bool:=
 loop (fun (s:(Int×Int×Int×Int×Int×Int×Int×Int×Int×Int×Int×Int×Int×Int×Int×Int×Int×Int×Int×Int×Int×Int×Int×Int×Int×Int×Int×Int×Int×Int×Int×Int))=>A51 H I s.1 s.2.1 s.2.2.1 s.2.2.2.1 s.2.2.2.2.1 s.2.2.2.2.2.1 s.2.2.2.2.2.2.1 s.2.2.2.2.2.2.2.1 s.2.2.2.2.2.2.2.2.1 s.2.2.2.2.2.2.2.2.2.1 s.2.2.2.2.2.2.2.2.2.2.1 s.2.2.2.2.2.2.2.2.2.2.2.1 s.2.2.2.2.2.2.2.2.2.2.2.2.1 s.2.2.2.2.2.2.2.2.2.2.2.2.2.1 s.2.2.2.2.2.2.2.2.2.2.2.2.2.2.1 s.2.2.2.2.2.2.2.2.2.2.2.2.2.2.2.1 s.2.2.2.2.2.2.2.2.2.2.2.2.2.2.2.2.1 s.2.2.2.2.2.2.2.2.2.2.2.2.2.2.2.2.2.1 s.2.2.2.2.2.2.2.2.2.2.2.2.2.2.2.2.2.2.1 s.2.2.2.2.2.2.2.2.2.2.2.2.2.2.2.2.2.2.2.1 s.2.2.2.2.2.2.2.2.2.2.2.2.2.2.2.2.2.2.2.2.1 s.2.2.2.2.2.2.2.2.2.2.2.2.2.2.2.2.2.2.2.2.2.1 s.2.2.2.2.2.2.2.2.2.2.2.2.2.2.2.2.2.2.2.2.2.2.1 s.2.2.2.2.2.2.2.2.2.2.2.2.2.2.2.2.2.2.2.2.2.2.2.1 s.2.2.2.2.2.2.2.2.2.2.2.2.2.2.2.2.2.2.2.2.2.2.2.2.1 s.2.2.2.2.2.2.2.2.2.2.2.2.2.2.2.2.2.2.2.2.2.2.2.2.2.1 s.2.2.2.2.2.2.2.2.2.2.2.2.2.2.2.2.2.2.2.2.2.2.2.2.2.2.1 s.2.2.2.2.2.2.2.2.2.2.2.2.2.2.2.2.2.2.2.2.2.2.2.2.2.2.2.1 s.2.2.2.2.2.2.2.2.2.2.2.2.2.2.2.2.2.2.2.2.2.2.2.2.2.2.2.2.1 s.2.2.2.2.2.2.2.2.2.2.2.2.2.2.2.2.2.2.2.2.2.2.2.2.2.2.2.2.2.1 s.2.2.2.2.2.2.2.2.2.2.2.2.2.2.2.2.2.2.2.2.2.2.2.2.2.2.2.2.2.2.1 s.2.2.2.2.2.2.2.2.2.2.2.2.2.2.2.2.2.2.2.2.2.2.2.2.2.2.2.2.2.2.2) (G,w,x,y,z,A,B,C,D,E,F,a,b,c,d,e,f,g,h,i,j,k,l,m,n,o,p,q,r,t,u,v)
def S6 (b:List A3) (a:Int):Option Bool:=
 cond ((decide (a<1))||(decide (a>128))) (
  some false)<|
 A66 b a 0 0 0 0 0 0 0 0 0 0 0 0 0 0 0 0 0 0 0 0 0 0 0 0 0 0 0 0 0 0 0 0
def A2X (f:D0) (a:Int):Option (Int⊕Int):=
 cond (decide (a<(f.Ae.length:Int))) (
  Option.bind (C1 f.Ae a) fun b=>
  cond (((decide (b.Bt<1))||(decide (b.Bt>b.Bs)))||(decide (b.Bs>f.N))) (
   some (.inr 2))<|
  cond (decide (a>0)) (
   Option.bind (C1 f.Ae (A1 (a-1))) fun c=>
   cond (((decide (c.V>b.V))||(decide (c.Bt>=b.Bt)))||(decide (c.Bs>=b.Bs))) (
    some (.inr 2))<|
   some (.inl (A1 (a+1))))<|
  some (.inl (A1 (a+1))))<|
 Option.map Sum.inr (Option.bind (gd (decide ((f.Ae.length:Int)>(0:Int))) (C1 f.Ae 0)) fun d=>
 Option.bind (gd ((decide ((f.Ae.length:Int)>(0:Int)))&&(!(d.Bs !=1))) (C1 f.Ae (A1 ((f.Ae.length:Int)-(1:Int))))) fun e=>
 cond ((decide ((f.Ae.length:Int)>(0:Int)))&&((d.Bs !=1)||(e.Bt !=f.N))) (
  some 2)<|
 some 0)
def B2t (b:D0) (a:Int):Option Int:=
 loop (fun (s:Int)=>A2X b s) a
def R4 (a:D0):Option Int:=
 cond (((decide (a.N<0))||(decide (a.N>1099511627776)))||(!(((a.Ae.length:Int)==(0:Int))==(a.N==0)))) (
  some 2)<|
 B2t a 0
def B2q (e:D0) (b a:Int):Option ((Int×Int)⊕Int):=
 cond (decide (a<(e.Ae.length:Int))) (
  Option.bind (C1 e.Ae a) fun d=>
  Option.bind (C1 e.Ae (A1 (a-1))) fun c=>
  some (.inl ((X8 b (A1 (d.Bs-c.Bt))),(A1 (a+1)))))<|
 Option.map Sum.inr (some b)
def B3T (c:D0) (a b:Int):Option Int:=
 loop (fun (s:(Int×Int))=>B2q c s.1 s.2) (a,b)
def B5e (b:D0):Option Int:=
 Option.bind (R4 b) fun a=>
 cond ((a !=0)||((b.Ae.length:Int)==(0:Int))) (
  some 0)<|
 B3T b 1 1
def A3E (i:List B2) (h b:Int):Option (Int⊕Bool):=
 cond (decide (b<(i.length:Int))) (
  Option.bind (C1 i b) fun a=>
  Option.bind (R4 a.Bh) fun c=>
  ck (!(!(c !=0))||(decide (0<=(A4 a.Bc))))<|
  Option.bind (gd (!(((c !=0)||(a.Bh.N !=(E7 .i64 1 (A4 a.Bc))))||(decide ((a.Bh.Ae.length:Int)>(A1 (h+1)))))) (B5e a.Bh)) fun f=>
  Option.bind (gd (!(((c !=0)||(a.Bh.N !=(E7 .i64 1 (A4 a.Bc))))||(decide ((a.Bh.Ae.length:Int)>(A1 (h+1)))))) (A5i a.Bc h)) fun g=>
  cond ((((c !=0)||(a.Bh.N !=(E7 .i64 1 (A4 a.Bc))))||(decide ((a.Bh.Ae.length:Int)>(A1 (h+1)))))||(decide ((A1 (f-1))>g))) (
   some (.inr false))<|
  Option.bind (C1 a.Bh.Ae 0) fun e=>
  Option.bind (C1 a.Bh.Ae (A1 ((a.Bh.Ae.length:Int)-(1:Int)))) fun d=>
  cond ((((decide (e.V<(-4096:Int)))||(decide (d.V>4096)))||(decide (a.Bk<e.V)))||(decide (a.Bk>d.V))) (
   some (.inr false))<|
  some (.inl (A1 (b+1))))<|
 Option.map Sum.inr (some true)
def B2X (b:List B2) (c a:Int):Option Bool:=
 loop (fun (s:Int)=>A3E b c s) a
def A27 (d:List B2) (e c:Int):Option Bool:=
 Option.bind (gd (!((decide (c<1))||(decide (c>65536)))) (A4O d)) fun b=>
 Option.bind (gd (!((decide (c<1))||(decide (c>65536)))) (S6 b e)) fun a=>
 cond (((decide (c<1))||(decide (c>65536)))||(!a)) (
  some false)<|
 B2X d c 0
def Z9 (a:Int):D0:=
 (D0.mk 1 [(B4.mk a 1 1)])
def A4B (c:B4) (d:List B4) (e f a:Int):Option B4:=
 cond (decide (e<(d.length:Int))) (
  Option.bind (C1 d e) fun b=>
  some (B4.mk c.V a (A1 (c.Bs+(A1 (b.Bs-1))))))<|
 some (B4.mk c.V a (A1 (c.Bs+f)))
def A44 (b:B4) (d:List B4) (c e:Int):Option B4:=
 cond (decide (c>0)) (
  Option.bind (C1 d (A1 (c-1))) fun a=>
  A4B b d c e (A1 (b.Bt+a.Bt)))<|
 A4B b d c e b.Bt
def A2Q (a:D0):Option D0:=
 ck (decide ((([]:List B4).length+a.Ae.length)*24<=140737488355328))<|
 some (D0.mk a.N (([]:List B4)++a.Ae))
def A5C (b:List B4) (c d:Int) (a:B4):Option ((Int×Int×(List B4))⊕(D0×Int)):=
 ck (decide ((b.length+ [a].length)*24<=140737488355328))<|
 some (.inl (c,d,(b++ [a])))
def A5D (j k:D0) (a b:Int) (c:List B4):Option ((Int×Int×(List B4))⊕(D0×Int)):=
 cond ((decide (a<(j.Ae.length:Int)))||(decide (b<(k.Ae.length:Int)))) (
  Option.bind (gd ((!(b==(k.Ae.length:Int)))&&(decide (a<(j.Ae.length:Int)))) (C1 j.Ae a)) fun d=>
  Option.bind (gd ((!(b==(k.Ae.length:Int)))&&(decide (a<(j.Ae.length:Int)))) (C1 k.Ae b)) fun e=>
  cond ((b==(k.Ae.length:Int))||((decide (a<(j.Ae.length:Int)))&&(decide (d.V<=e.V)))) (
   Option.bind (C1 j.Ae a) fun f=>
   Option.bind (A44 f k.Ae b k.N) fun g=>
   A5C c (A1 (a+1)) b g)<|
  Option.bind (C1 k.Ae b) fun h=>
  Option.bind (A44 h j.Ae a j.N) fun i=>
  A5C c a (A1 (b+1)) i)<|
 Option.map Sum.inr (some ((D0.mk (A1 (j.N+k.N)) c),0))
def B0w (d e:D0) (b c:Int) (a:List B4):Option (D0×Int):=
 loop (fun (s:(Int×Int×(List B4)))=>A5D d e s.1 s.2.1 s.2.2) (b,c,a)
def A5B (e f:D0):Option (D0×Int):=
 Option.bind (R4 e) fun a=>
 cond (a !=0) (
  some ((D0.mk 0 []),a))<|
 Option.bind (R4 f) fun b=>
 cond (b !=0) (
  some ((D0.mk 0 []),b))<|
 cond (decide (e.N>(A1 (1099511627776-f.N)))) (
  some ((D0.mk 0 []),5))<|
 cond (e.N==0) (
  Option.bind (A2Q f) fun c=>
  some (c,0))<|
 cond (f.N==0) (
  Option.bind (A2Q e) fun d=>
  some (d,0))<|
 B0w e f 0 0 ([]:List B4)
def B2u (a:B4) (b:Int):Int:=
 (X8 (A1 (b-a.Bt)) (A1 (a.Bs-b)))
def A9d (f:List B4) (g a:Int):Option (Int⊕Int):=
 Option.bind (gd (decide ((A1 (a+1))<(f.length:Int))) (C1 f (A1 (a+1)))) fun e=>
 let b:=(B2u e g);
 Option.bind (gd (decide ((A1 (a+1))<(f.length:Int))) (C1 f a)) fun c=>
 let d:=(B2u c g);
 cond ((decide ((A1 (a+1))<(f.length:Int)))&&(decide (b<d))) (
  some (.inl (A1 (a+1))))<|
 Option.map Sum.inr (some a)
def B5Q (b:List B4) (c a:Int):Option Int:=
 loop (fun (s:Int)=>A9d b c s) a
def A1x (a:List B4) (b c:Int):Option Int:=
 B5Q a b c
def A9c (g:D0) (h e f c:Int) (a:List B4):Option ((Int×Int×Int×(List B4))⊕(D0×Int)):=
 cond (decide (c<=h)) (
  ck (decide (h≠0))<|
  Option.bind (A1x g.Ae (A1 (1+(A1 (Int.tdiv (A1 (c*(A1 (g.N-1)))) h)))) f) fun b=>
  cond (b !=e) (
   Option.bind (C1 g.Ae b) fun d=>
   ck (decide ((a.length+ [d].length)*24<=140737488355328))<|
   some (.inl (b,b,(A1 (c+1)),(a++ [d]))))<|
  some (.inl (e,b,(A1 (c+1)),a)))<|
 Option.map Sum.inr (some ((D0.mk g.N a),0))
def B0x (e:D0) (f c d b:Int) (a:List B4):Option (D0×Int):=
 loop (fun (s:(Int×Int×Int×(List B4)))=>A9c e f s.1 s.2.1 s.2.2.1 s.2.2.2) (c,d,b,a)
def A8g (c:D0) (d:Int):Option (D0×Int):=
 Option.bind (R4 c) fun a=>
 cond (a !=0) (
  some ((D0.mk 0 []),a))<|
 cond ((decide (d<1))||(decide (d>65536))) (
  some ((D0.mk 0 []),1))<|
 cond (decide ((c.Ae.length:Int)<=(A1 (d+1)))) (
  Option.bind (A2Q c) fun b=>
  some (b,0))<|
 B0x c d (-1:Int) 0 0 ([]:List B4)
def A5Z (o p:Int) (b:List B2) (f d a:Int):Option (Int⊕(((List B2)×Int×Int)⊕(List B2))):=
 Option.bind (gd (decide (a>0)) (C1 b (A1 (a-1)))) fun n=>
 Option.bind (gd (decide (a>0)) (C1 b (A1 (a-1)))) fun i=>
 cond ((decide (a>0))&&(i.Bc==d)) (
  some (.inl (A1 (a-1))))<|
 Option.map Sum.inr (cond (decide ((A1 (f-a))<(A1 (o+2)))) (
  some (.inr b))<|
 Option.bind (C1 b a) fun l=>
 Option.bind (C1 b a) fun g=>
 Option.bind (C1 b (A1 (a+1))) fun m=>
 Option.bind (C1 b (A1 (a+1))) fun c=>
 Option.bind (A5B g.Bh c.Bh) fun h=>
 Option.bind (A8g h.1 p) fun e=>
 Option.bind (C1 b a) fun j=>
 Option.bind (C1 b a) fun k=>
 ck (decide (0<=(A1 (a+1))/\(A1 (a+1))<=((b.set (a).toNat (B2.mk c.T c.Bk (A1 (d+1)) e.1)).length:Int)))<|
 ck (decide (0<=(A1 (a+2))/\(A1 (a+2))<=((b.set (a).toNat (B2.mk c.T c.Bk (A1 (d+1)) e.1)).length:Int)))<|
 ck (decide (0<((A1 (a+(1:Int)))).toNat/\((A1 (a+(1:Int)))).toNat+(((b.set (a).toNat (B2.mk c.T c.Bk (A1 (d+1)) e.1)).drop ((A1 (a+(2:Int)))).toNat).take ((b.set (a).toNat (B2.mk c.T c.Bk (A1 (d+1)) e.1)).length-((A1 (a+(2:Int)))).toNat)).length<=(b.set (a).toNat (B2.mk c.T c.Bk (A1 (d+1)) e.1)).length))<|
 some (.inl (((b.set (a).toNat (B2.mk c.T c.Bk (A1 (d+1)) e.1)).take ((A1 (a+(1:Int)))).toNat++(((b.set (a).toNat (B2.mk c.T c.Bk (A1 (d+1)) e.1)).drop ((A1 (a+(2:Int)))).toNat).take ((b.set (a).toNat (B2.mk c.T c.Bk (A1 (d+1)) e.1)).length-((A1 (a+(2:Int)))).toNat))),(A1 (a+1)),(A1 (d+1)))))
def A63 (e f:Int) (a:List B2) (b c d:Int):Option (((List B2)×Int×Int)⊕(List B2)):=
 loop (fun (s:Int)=>A5Z e f a b c s) d
def B0P (d e:Int) (b:List B2) (a c:Int):Option (((List B2)×Int×Int)⊕(List B2)):=
 A63 d e b a c a
def A62 (d e:Int) (a:List B2) (b c:Int):Option (List B2):=
 loop (fun (s:((List B2)×Int×Int))=>B0P d e s.1 s.2.1 s.2.2) (a,b,c)
def B0n (e:List B2) (h i f g:Int):Option (List B2):=
 Option.bind (A27 e h i) fun a=>
 Option.bind (gd ((!(((!a)||(decide (f<0)))||(decide (f>16777216))))&&(decide ((e.length:Int)>(0:Int)))) (C1 e (A1 ((e.length:Int)-(1:Int))))) fun c=>
 Option.bind (gd (!((((((!a)||(decide (f<0)))||(decide (f>16777216)))||((decide ((e.length:Int)>(0:Int)))&&(decide (c.T>f))))||(decide (g<(-4096:Int))))||(decide (g>4096)))) (A1L e)) fun d=>
 cond (((((((!a)||(decide (f<0)))||(decide (f>16777216)))||((decide ((e.length:Int)>(0:Int)))&&(decide (c.T>f))))||(decide (g<(-4096:Int))))||(decide (g>4096)))||(decide (d>=1073741824))) (
  some [])<|
 ck (decide ((([]:List B2).length+e.length)*56<=140737488355328))<|
 let b:=(Z9 g);
 ck (decide (((([]:List B2)++e).length+ [(B2.mk f g 0 b)].length)*56<=140737488355328))<|
 A62 h i ((([]:List B2)++e)++ [(B2.mk f g 0 b)]) (((([]:List B2)++e)++ [(B2.mk f g 0 b)]).length:Int) 0
def B2W (f:List B2) (d a:Int) (b:List B4):Option ((Int×Int×(List B4))⊕(D0×Int)):=
 cond (decide (d<((f.drop ((1:Int)).toNat).length:Int))) (
  Option.bind (C1 (f.drop ((1:Int)).toNat) d) fun e=>
  Option.bind (A5B (D0.mk a b) e.Bh) fun c=>
  cond (c.2 !=0) (
   some (.inr ((D0.mk 0 []),c.2)))<|
  some (.inl ((A1 (d+1)),c.1.N,c.1.Ae)))<|
 Option.map Sum.inr (some ((D0.mk a b),0))
def B37 (d:List B2) (c a:Int) (b:List B4):Option (D0×Int):=
 loop (fun (s:(Int×Int×(List B4)))=>B2W d s.1 s.2.1 s.2.2) (c,a,b)
def A1E (c:List B2) (a:Int) (b:List B4):Option (D0×Int):=
 ck (decide (0<=(1:Int)/\1<=(c.length:Int)))<|
 B37 c 0 a b
def B2V (h:List B2) (a:Int):Option (Int⊕(D0×Int)):=
 cond (decide (a<(h.length:Int))) (
  Option.bind (C1 h a) fun b=>
  Option.bind (R4 b.Bh) fun f=>
  cond (((f !=0)||(decide (b.Bc<0)))||(decide (b.Bc>30))) (
   some (.inr ((D0.mk 0 []),2)))<|
  some (.inl (A1 (a+1))))<|
 Option.map Sum.inr (cond ((h.length:Int)==(0:Int)) (
  some ((D0.mk 0 []),0))<|
 Option.bind (C1 h 0) fun g=>
 let d:=(Z9 g.Bk);
 Option.bind (C1 h 0) fun e=>
 cond (e.Bc==0) (
  Option.bind (C1 h 0) fun c=>
  A1E h c.Bh.N c.Bh.Ae)<|
 A1E h d.N d.Ae)
def B36 (b:List B2) (a:Int):Option (D0×Int):=
 loop (fun (s:Int)=>B2V b s) a
def A2N (a:List B2):Option (D0×Int):=
 B36 a 0
def A7G (c:A2):Option Int:=
 cond (c.Hi !=0) (
  Option.bind (W1 c.Hi) fun a=>
  some (A1 (64+a)))<|
 Option.bind (W1 c.Lo) fun b=>
 some b
def R1 (a b:A2):Int:=
 cond ((decide (a.Hi<b.Hi))||((a.Hi==b.Hi)&&(decide (a.Lo<b.Lo)))) (
  (-1:Int))<|
 cond (a.Hi==b.Hi&&(a.Lo==b.Lo&&true)) (
  0)<|
 1
def B8W (b:A2) (a:Int):Option Int:=
 cond (decide (a>=64)) (
  ck (decide (0<=(A4 (A1 (a-64)))))<|
  some (S2 .u64 (F8 .u64 b.Hi (A4 (A1 (a-64)))) 1))<|
 ck (decide (0<=(A4 a)))<|
 some (S2 .u64 (F8 .u64 b.Lo (A4 a)) 1)
def N9 (a:A2):Bool:=
 ((a.Hi==0)&&(a.Lo==0))
def B2J (k j:A2) (e d b c a:Int):Option ((Int×Int×Int×Int×Int)⊕(A2×A2×Bool)):=
 cond (decide (e>=0)) (
  Option.bind (B8W k e) fun f=>
  let h:=(R1 (A2.mk (Q6 .u64 (E7 .u64 c 1) (F8 .u64 a 63)) (Q6 .u64 (E7 .u64 a 1) f)) j);
  cond (((F8 .u64 c (63:Int))==(1:Int))||(decide (h>=0))) (
   Option.bind (O6 (Q6 .u64 (E7 .u64 a 1) f) j.Lo 0) fun g=>
   Option.bind (O6 (Q6 .u64 (E7 .u64 c 1) (F8 .u64 a 63)) j.Hi g.2) fun i=>
   some (.inl ((A1 (e-1)),(Q6 .u64 (E7 .u64 d 1) (F8 .u64 b 63)),(Q6 .u64 (E7 .u64 b 1) 1),i.1,g.1)))<|
  some (.inl ((A1 (e-1)),(Q6 .u64 (E7 .u64 d 1) (F8 .u64 b 63)),(E7 .u64 b 1),(Q6 .u64 (E7 .u64 c 1) (F8 .u64 a 63)),(Q6 .u64 (E7 .u64 a 1) f))))<|
 Option.map Sum.inr (some ((A2.mk d b),(A2.mk c a),true))
def B8q (f g:A2) (e a b c d:Int):Option (A2×A2×Bool):=
 loop (fun (s:(Int×Int×Int×Int×Int))=>B2J f g s.1 s.2.1 s.2.2.1 s.2.2.2.1 s.2.2.2.2) (e,a,b,c,d)
def A1Y (c d:A2):Option (A2×A2×Bool):=
 let a:=(N9 d);
 cond a (
  some ((A2.mk 0 0),(A2.mk 0 0),false))<|
 Option.bind (A7G c) fun b=>
 B8q c d (A1 (b-1)) 0 0 0 0
def J8 (a:Int):A2:=
 (A2.mk 0 a)
def Q7 (a b:Int):(Int×Int):=
 ((A4 ((A4 ((A4 ((F8 .u64 a 32)*(F8 .u64 b 32)))+(F8 .u64 (A4 ((A4 ((F8 .u64 a 32)*(S2 .u64 b 4294967295)))+(F8 .u64 (A4 ((S2 .u64 a 4294967295)*(S2 .u64 b 4294967295))) 32))) 32)))+(F8 .u64 (A4 ((S2 .u64 (A4 ((A4 ((F8 .u64 a 32)*(S2 .u64 b 4294967295)))+(F8 .u64 (A4 ((S2 .u64 a 4294967295)*(S2 .u64 b 4294967295))) 32))) 4294967295)+(A4 ((S2 .u64 a 4294967295)*(F8 .u64 b 32))))) 32))),(A4 (a*b)))
def P3 (b c:Int):A2:=
 let a:=(Q7 b c);
 (A2.mk a.1 a.2)
def A3S (d:D0) (a:Int):Option (Int×Int):=
 Option.bind (A1x d.Ae (X8 1 (A1 a)) 0) fun b=>
 Option.bind (C1 d.Ae b) fun c=>
 some (c.V,0)
def A4a (e:D0) (f g:Int):Option (Int×Int):=
 Option.bind (R4 e) fun b=>
 cond (b !=0) (
  some (0,b))<|
 cond (((decide (g<1))||(decide (f<0)))||(decide (f>g))) (
  some (0,1))<|
 cond (e.N==0) (
  some (0,7))<|
 let c:=(P3 (A4 f) (A4 e.N));
 let d:=(J8 (A4 g));
 Option.bind (A1Y c d) fun a=>
 cond (!(a.2.1.Hi==0&&(a.2.1.Lo==0&&true))) (
  A3S e (A4 (a.1.Lo+1)))<|
 A3S e a.1.Lo
def A7I (c:List B2) (d e:Int):Option (Int×Int):=
 Option.bind (A2N c) fun a=>
 cond (a.2 !=0) (
  some (0,a.2))<|
 Option.bind (A4a a.1 d e) fun b=>
 some (b.1,b.2)
def A0D (a:Int):Int:=
 cond (decide (a<0)) (
  (IntKind.u64.wrap (0-(A4 a))))<|
 (A4 a)
def B2K (c d a b:Int):Option ((Int×Int×Int×Int)⊕A2):=
 let f:=(N9 (A2.mk a b));
 cond (!f) (
  Option.bind (A1Y (A2.mk c d) (A2.mk a b)) fun e=>
  some (.inl (a,b,e.2.1.Hi,e.2.1.Lo)))<|
 Option.map Sum.inr (some (A2.mk c d))
def B8r (a b c d:Int):Option A2:=
 loop (fun (s:(Int×Int×Int×Int))=>B2K s.1 s.2.1 s.2.2.1 s.2.2.2) (a,b,c,d)
def A5h (a b:A2):Option A2:=
 B8r a.Hi a.Lo b.Hi b.Lo
def Y0 (f:A5):Option Bool:=
 let d:=(A0D f.Bu);
 let e:=(J8 d);
 let c:=(J8 (A4 f.Bp));
 Option.bind (gd (decide (f.Bp>=1)) (A5h e c)) fun a=>
 let b:=(J8 1);
 some ((decide (f.Bp>=1))&&(a.Hi==b.Hi&&(a.Lo==b.Lo&&true)))
def Q4 (b:A5):Option C5:=
 Option.bind (Y0 b) fun a=>
 cond (!a) (
  some (C5.mk (A5.mk 0 0) (A5.mk 0 0) (A5.mk 0 0)))<|
 some (C5.mk b b b)
def A0w (a:Int):A5:=
 (A5.mk a 1)
def A28 (d e:Int):(C5×Bool):=
 cond (decide (d>e)) (
  ((C5.mk (A5.mk 0 0) (A5.mk 0 0) (A5.mk 0 0)),false))<|
 let a:=(A0w d);
 let b:=(A0w (A1 ((S2 .i64 d e)+(F8 .i64 (D2V .i64 d e) 1))));
 let c:=(A0w e);
 ((C5.mk a b c),true)
def B2r (b c:Int):Option (C5×Int):=
 let a:=(A28 b c);
 some (a.1,0)
def B5P (d:D0) (e c a:Int):Option ((Int×Int)⊕(C5×Int)):=
 cond (decide (a<(d.Ae.length:Int))) (
  Option.bind (C1 d.Ae a) fun b=>
  cond (decide (b.V>e)) (
   Option.map Sum.inr (B2r c (A1 (b.Bs-1))))<|
  some (.inl (b.Bt,(A1 (a+1)))))<|
 Option.map Sum.inr (B2r c d.N)
def B2s (c:D0) (d b a:Int):Option (C5×Int):=
 loop (fun (s:(Int×Int))=>B5P c d s.1 s.2) (b,a)
def B3l (b:D0) (c:Int):Option (C5×Int):=
 Option.bind (R4 b) fun a=>
 cond (a !=0) (
  some ((C5.mk (A5.mk 0 0) (A5.mk 0 0) (A5.mk 0 0)),a))<|
 B2s b c 0 0
def B3G (g:List B2) (h:Int):Option (C5×Int):=
 Option.bind (A2N g) fun b=>
 cond (b.2 !=0) (
  some ((C5.mk (A5.mk 0 0) (A5.mk 0 0) (A5.mk 0 0)),b.2))<|
 cond ((g.length:Int)==(0:Int)) (
  let e:=(A0w 0);
  Option.bind (Q4 e) fun f=>
  some (f,0))<|
 Option.bind (B3l b.1 h) fun a=>
 cond (a.2 !=0) (
  some ((C5.mk (A5.mk 0 0) (A5.mk 0 0) (A5.mk 0 0)),a.2))<|
 Option.bind (C1 g 0) fun c=>
 ck (decide (0<=(A4 c.Bc)))<|
 let d:=(A28 a.1.Lo.Bu (A1 ((A1 (a.1.Hi.Bu+(E7 .i64 1 (A4 c.Bc))))-1)));
 some (d.1,0)
def B0m (a:Int):Int:=
 cond (decide (a<0)) (
  (IntKind.u64.wrap (0-(A4 a))))<|
 (A4 a)
def G1 (d e:Int):(Bool×A2):=
 let a:=(B0m d);
 let b:=(B0m e);
 let c:=(P3 a b);
 ((!((decide (d<0))==(decide (e<0)))),c)
def C0c (g h i j:Int):Int:=
 let a:=(G1 g h);
 let b:=(G1 i j);
 let c:=(N9 a.2);
 let d:=(N9 b.2);
 cond ((a.1&&(!c))&&(!(b.1&&(!d)))) (
  (-1:Int))<|
 cond ((b.1&&(!d))&&(!(a.1&&(!c)))) (
  1)<|
 cond (a.1&&(!c)) (
  let f:=(R1 b.2 a.2);
  f)<|
 let e:=(R1 a.2 b.2);
 e
def A4b (d e:A5):Option Int:=
 Option.bind (Y0 d) fun a=>
 Option.bind (gd (!(!a)) (Y0 e)) fun b=>
 cond ((!a)||(!b)) (
  some 0)<|
 let c:=(C0c d.Bu e.Bp e.Bu d.Bp);
 some c
def A4P (f:C5):Option Bool:=
 Option.bind (Y0 f.Lo) fun a=>
 Option.bind (gd a (Y0 f.Bq)) fun b=>
 Option.bind (gd (a&&b) (Y0 f.Hi)) fun c=>
 Option.bind (gd ((a&&b)&&c) (A4b f.Lo f.Bq)) fun d=>
 Option.bind (gd (((a&&b)&&c)&&(decide (d<=0))) (A4b f.Bq f.Hi)) fun e=>
 some ((((a&&b)&&c)&&(decide (d<=0)))&&(decide (e<=0)))
def A0L (c:Int) (a:List A3):Option ((List A3)⊕(List A3)):=
 Option.bind (gd (decide ((a.length:Int)>(0:Int))) (C1 a 0)) fun b=>
 cond ((decide ((a.length:Int)>(0:Int)))&&(decide (b.T<c))) (
  ck (decide (0<=(1:Int)/\1<=(a.length:Int)))<|
  some (.inl (a.drop ((1:Int)).toNat)))<|
 Option.map Sum.inr (ck (decide ((([]:List A3).length+a.length)*16<=140737488355328))<|
 some (([]:List A3)++a))
def A50 (b:Int) (a:List A3):Option (List A3):=
 loop (fun (s:(List A3))=>A0L b s) a
def A0r (a:List A3) (b:Int):Option (List A3):=
 A50 b a
def A3b (k:Int) (b:List A3) (e d a:Int):Option (Int⊕(((List A3)×Int×Int)⊕(List A3))):=
 Option.bind (gd (decide (a>0)) (C1 b (A1 (a-1)))) fun j=>
 Option.bind (gd (decide (a>0)) (C1 b (A1 (a-1)))) fun f=>
 cond ((decide (a>0))&&(f.Bc==d)) (
  some (.inl (A1 (a-1))))<|
 Option.map Sum.inr (cond (decide ((A1 (e-a))<(A1 (k+2)))) (
  some (.inr b))<|
 Option.bind (C1 b (A1 (a+1))) fun i=>
 Option.bind (C1 b (A1 (a+1))) fun c=>
 Option.bind (C1 b a) fun g=>
 Option.bind (C1 b a) fun h=>
 ck (decide (0<=(A1 (a+1))/\(A1 (a+1))<=((b.set (a).toNat (A3.mk c.T (A1 (d+(1:Int))))).length:Int)))<|
 ck (decide (0<=(A1 (a+2))/\(A1 (a+2))<=((b.set (a).toNat (A3.mk c.T (A1 (d+(1:Int))))).length:Int)))<|
 ck (decide (0<((A1 (a+(1:Int)))).toNat/\((A1 (a+(1:Int)))).toNat+(((b.set (a).toNat (A3.mk c.T (A1 (d+(1:Int))))).drop ((A1 (a+(2:Int)))).toNat).take ((b.set (a).toNat (A3.mk c.T (A1 (d+(1:Int))))).length-((A1 (a+(2:Int)))).toNat)).length<=(b.set (a).toNat (A3.mk c.T (A1 (d+(1:Int))))).length))<|
 some (.inl (((b.set (a).toNat (A3.mk c.T (A1 (d+(1:Int))))).take ((A1 (a+(1:Int)))).toNat++(((b.set (a).toNat (A3.mk c.T (A1 (d+(1:Int))))).drop ((A1 (a+(2:Int)))).toNat).take ((b.set (a).toNat (A3.mk c.T (A1 (d+(1:Int))))).length-((A1 (a+(2:Int)))).toNat))),(A1 (a+1)),(A1 (d+1)))))
def A1s (e:Int) (a:List A3) (b c d:Int):Option (((List A3)×Int×Int)⊕(List A3)):=
 loop (fun (s:Int)=>A3b e a b c s) d
def A3a (d:Int) (b:List A3) (a c:Int):Option (((List A3)×Int×Int)⊕(List A3)):=
 A1s d b a c a
def A3G (d:Int) (a:List A3) (b c:Int):Option (List A3):=
 loop (fun (s:((List A3)×Int×Int))=>A3a d s.1 s.2.1 s.2.2) (a,b,c)
def T1 (a:List A3) (c b:Int):Option (List A3):=
 ck (decide ((a.length+ [(A3.mk b 0)].length)*16<=140737488355328))<|
 A3G c (a++ [(A3.mk b 0)]) ((a++ [(A3.mk b 0)]).length:Int) 0
def A2O (c:List A3) (d:Int):Option Bool:=
 let a:=(A1M d);
 Option.bind (gd (a&&(!((c.length:Int)==(0:Int)))) (C1 c (A1 ((c.length:Int)-(1:Int))))) fun b=>
 some (a&&(((c.length:Int)==(0:Int))||(decide (b.T<=d))))
def A1F (e:List A3) (f g:Int):Option (List A3):=
 Option.bind (S6 e f) fun a=>
 Option.bind (gd (!(!a)) (A2O e g)) fun b=>
 Option.bind (gd (!((!a)||(!b))) (K8 e)) fun c=>
 cond (((!a)||(!b))||(decide (c>=1073741824))) (
  some [])<|
 ck (decide ((([]:List A3).length+e.length)*16<=140737488355328))<|
 Option.bind (T1 (([]:List A3)++e) f g) fun d=>
 some d
def A6q (d e a:Int) (b:List A3):Option ((Int×(List A3))⊕(List A3)):=
 cond (decide (a>0)) (
  Option.bind (T1 b d e) fun c=>
  some (.inl ((A1 (a-1)),c)))<|
 Option.map Sum.inr (some b)
def A29 (c d a:Int) (b:List A3):Option (List A3):=
 loop (fun (s:(Int×(List A3)))=>A6q c d s.1 s.2) (a,b)
def A4Q (e:List A3) (f g d:Int):Option (List A3):=
 Option.bind (S6 e f) fun a=>
 Option.bind (gd (!(!a)) (A2O e g)) fun b=>
 Option.bind (gd ((!((((!a)||(!b))||(decide (d<0)))||(decide (d>1024))))&&(decide (d>0))) (K8 e)) fun c=>
 cond (((((!a)||(!b))||(decide (d<0)))||(decide (d>1024)))||((decide (d>0))&&(decide (c>(A1 (1073741824-d)))))) (
  some [])<|
 ck (decide ((([]:List A3).length+e.length)*16<=140737488355328))<|
 A29 f g d (([]:List A3)++e)
def A64 (a b:Int):Option C5:=
 let c:=(A28 (A1 ((A1 (a-b))+1)) a);
 some c.1
def A1a (g:List A3):Option C5:=
 cond ((g.length:Int)==(0:Int)) (
  let c:=(A0w 0);
  Option.bind (Q4 c) fun d=>
  some d)<|
 Option.bind (K8 g) fun a=>
 Option.bind (C1 g 0) fun e=>
 let f:=(A0a e.Bc);
 cond f (
  Option.bind (C1 g 0) fun b=>
  ck (decide (0<=(A4 b.Bc)))<|
  A64 a (E7 .i64 1 (A4 b.Bc)))<|
 A64 a 0
def A4T (f:B7) (a:Int):Option (Int⊕Int):=
 cond (decide (a<(f.Be.length:Int))) (
  Option.bind (C1 f.Be a) fun b=>
  cond (((((decide (b.V<(-4096:Int)))||(decide (b.V>4096)))||(decide (b.I<1)))||(decide (b.I>f.I)))||(decide (b.I<=(A1 (f.I-f.W))))) (
   some (.inr 2))<|
  Option.bind (gd (decide (a>0)) (C1 f.Be (A1 (a-1)))) fun c=>
  Option.bind (gd ((decide (a>0))&&(!(decide (b.I<=c.I)))) (C1 f.Be (A1 (a-1)))) fun d=>
  cond ((decide (a>0))&&((decide (b.I<=c.I))||(decide (b.I>(A1 (d.I+f.W)))))) (
   some (.inr 2))<|
  some (.inl (A1 (a+1))))<|
 Option.map Sum.inr (Option.bind (gd (!(decide (f.Bl<=f.I))) (C1 f.Be (A1 ((f.Be.length:Int)-(1:Int))))) fun e=>
 cond ((decide (f.Bl<=f.I))||(decide (f.Bl>(A1 (e.I+f.W))))) (
  some 2)<|
 some 0)
def A52 (b:B7) (a:Int):Option Int:=
 loop (fun (s:Int)=>A4T b s) a
def P9 (a:B7):Option Int:=
 cond (((((((decide (a.W<1))||(decide (a.W>1048576)))||(decide (a.Cap<1)))||(decide (a.Cap>64)))||(decide (a.I<0)))||(decide (a.I>1099511627776)))||(decide ((a.Be.length:Int)>a.Cap))) (
  some 2)<|
 cond (a.I==0) (
  cond ((decide ((a.Be.length:Int)>(0:Int)))||(a.Bl !=0)) (
   some 2)<|
  some 0)<|
 cond ((a.Be.length:Int)==(0:Int)) (
  some 2)<|
 A52 a 0
def C1v (e:List Int) (d f:Int):Option (Int×Int×Int):=
 cond ((decide (f<1))||(decide (d<0))) (
  some (0,0,1))<|
 Option.bind (gd (!(decide (d>=(e.length:Int)))) (C1 e d)) fun a=>
 Option.bind (gd (!((decide (d>=(e.length:Int)))||(decide (a<0)))) (C1 e d)) fun b=>
 cond (((decide (d>=(e.length:Int)))||(decide (a<0)))||(decide (b>=f))) (
  some (0,0,8))<|
 Option.bind (C1 e d) fun c=>
 some (c,(A1 (d+1)),0)
def A53 (b:J3) (c:Int):Option (Int×Int×J3):=
 Option.bind (C1v b.draws_ b.at_ c) fun a=>
 cond (a.2.2 !=0) (
  cond (decide (b.at_>=(b.draws_.length:Int))) (
   some (0,a.2.2,(J3.mk b.draws_ b.at_ c)))<|
  some (0,a.2.2,b))<|
 some (a.1,0,(J3.mk b.draws_ a.2.1 b.beyond_))
def B11 (d:B7) (c:List G4) (b:J3) (a:Int):Option (B7×Int×J3):=
 some ((B7.mk d.W d.Cap (A1 (d.I+1)) a c),0,b)
def A3d (e:B7) (f:Int) (c:List G4) (d:Bool) (a:J3):Option (B7×Int×J3):=
 cond d (
  cond ((c.length:Int)==e.Cap) (
   some ((B7.mk 0 0 0 0 []),9,a))<|
  ck (decide ((c.length+ [(G4.mk (A1 (e.I+1)) f)].length)*16<=140737488355328))<|
  Option.bind (A53 a e.W) fun b=>
  cond (b.2.1 !=0) (
   some ((B7.mk 0 0 0 0 []),b.2.1,b.2.2))<|
  B11 e (c++ [(G4.mk (A1 (e.I+1)) f)]) b.2.2 (A1 ((A1 ((A1 (e.I+(1:Int)))+(1:Int)))+b.1)))<|
 B11 e c a e.Bl
def A9T (d:B7) (f:Int) (e:J3):Option (B7×Int×J3):=
 cond ((decide (f<(-4096:Int)))||(decide (f>4096))) (
  some ((B7.mk 0 0 0 0 []),4,e))<|
 cond (decide (e.at_<0)) (
  some ((B7.mk 0 0 0 0 []),1,e))<|
 cond (d.I==1099511627776) (
  some ((B7.mk 0 0 0 0 []),5,e))<|
 ck (decide ((([]:List G4).length+d.Be.length)*16<=140737488355328))<|
 Option.bind (gd (decide (((([]:List G4)++d.Be).length:Int)>(0:Int))) (C1 (([]:List G4)++d.Be) 0)) fun c=>
 Option.bind (gd (decide (((([]:List G4)++d.Be).length:Int)>(0:Int))) (C1 (([]:List G4)++d.Be) 0)) fun b=>
 cond ((decide (((([]:List G4)++d.Be).length:Int)>(0:Int)))&&(b.I==(A1 ((A1 (d.I+1))-d.W)))) (
  ck (decide (0<=(1:Int)/\1<=((([]:List G4)++d.Be).length:Int)))<|
  A3d d f ((([]:List G4)++d.Be).drop ((1:Int)).toNat) (d.Bl==(A1 (d.I+1))) e)<|
 Option.bind (A53 e (A0h (A1 (d.I+1)) d.W)) fun a=>
 cond (a.2.1 !=0) (
  some ((B7.mk 0 0 0 0 []),a.2.1,a.2.2))<|
 cond (a.1==0) (
  A3d d f ([]:List G4) true a.2.2)<|
 A3d d f (([]:List G4)++d.Be) (d.Bl==(A1 (d.I+1))) a.2.2
def A9S (c:B7) (d:Int) (e:List Int) (f:Int):Option (B7×Int×Int):=
 Option.bind (P9 c) fun b=>
 cond (b !=0) (
  some ((B7.mk 0 0 0 0 []),0,b))<|
 Option.bind (A9T c d (J3.mk e f 0)) fun a=>
 cond (a.2.1 !=0) (
  some ((B7.mk 0 0 0 0 []),0,a.2.1))<|
 some (a.1,a.2.2.at_,0)
def B25 (c:B7):Option (Int×Int):=
 Option.bind (P9 c) fun a=>
 cond (a !=0) (
  some (0,a))<|
 cond ((c.Be.length:Int)==(0:Int)) (
  some (0,7))<|
 Option.bind (C1 c.Be 0) fun b=>
 some (b.V,0)
def A9t (c:B7) (d:Int) (e:List Int) (f:Int):Option (Int×Bool):=
 Option.bind (P9 c) fun b=>
 cond (b !=0) (
  some (0,false))<|
 Option.bind (A9T c d (J3.mk e f 0)) fun a=>
 cond ((a.2.1 !=8)||(a.2.2.beyond_==0)) (
  some (0,false))<|
 some (a.2.2.beyond_,true)
def V6 (a b:Int):(B7×Int):=
 cond ((((decide (a<1))||(decide (a>1048576)))||(decide (b<1)))||(decide (b>64))) (
  ((B7.mk 0 0 0 0 []),1))<|
 ((B7.mk a b 0 0 []),0)
def A2v (a:Int):Bool:=
 ((decide (a>=0))&&(decide (a<=16777216)))
def Q0 (c b:Int):(Int×Int):=
 let a:=(A2v c);
 cond (!a) (
  (0,1))<|
 cond ((decide (b<c))||(decide (b>16777216))) (
  (0,3))<|
 (b,0)
def A1C (c b:Int):Int:=
 let a:=(A2v c);
 cond (((!a)||(decide (b<1)))||(decide (b>1048576))) (
  (-1:Int))<|
 (X8 0 (A1 ((A1 (c-b))+1)))
def P4 (d e c:Int):Bool:=
 let a:=(A1C d e);
 let b:=(A2v c);
 ((((decide (a>=0))&&b)&&(decide (a<=c)))&&(decide (c<=d)))
def B5H (e:List Int) (a c b:Int):Option ((Int×Int×Int)⊕Int):=
 cond (decide (b<(e.length:Int))) (
  Option.bind (C1 e b) fun d=>
  some (.inl ((Int.tmod (A1 (a+(A1 d))) 65521),(Int.tmod (A1 (c+(Int.tmod (A1 (a+(A1 d))) 65521))) 65521),(A1 (b+1)))))<|
 Option.map Sum.inr (some (A1 ((A1 (65536*c))+a)))
def B6j (d:List Int) (a b c:Int):Option Int:=
 loop (fun (s:(Int×Int×Int))=>B5H d s.1 s.2.1 s.2.2) (a,b,c)
def A7q (a:List Int):Option Int:=
 B6j a 1 0 0
def B3 (b a:Bool) (c:Int):(Bool×Int):=
 ((a&&b),0)
def F3 (b a:Bool) (c d:Int):(Bool×Int×Int):=
 ((a&&b),0,0)
def A9 (a b c:Int):Bool:=
 ((decide (a>=b))&&(decide (a<=c)))
def A10 (f:B5) (d e:Bool×Int) (c a:Int) (b:Bool):Int:=
 cond ((!b)||(!(f.Bi==f.Bi&&(c==0&&(a==0&&(d.2==0&&(e.2==0&&(f.P==0&&(f.Am==0&&(f.Bs==0&&true)))))))))) (
  1)<|
 0
def A2w (h:B5) (a:Int) (d:Bool):Int:=
 let e:=(A9 h.K 1 64);
 let c:=(B3 e d h.K);
 let f:=(A9 h.Cap 1 65536);
 let b:=(B3 f c.1 h.Cap);
 cond (decide ((1048576:Int)>(0:Int))) (
  let g:=(A9 h.W 1 1048576);
  A10 h c b a 0 (b.1&&g))<|
 A10 h c b a h.W b.1
def A0X (d:B5) (c:Bool×Int) (a:Int) (b:Bool):Int:=
 cond ((!b)||(!(d.Bi==d.Bi&&(d.Bo==0&&(a==0&&(d.K==0&&(d.Cap==0&&(c.2==0&&(d.Am==0&&(d.Bs==0&&true)))))))))) (
  1)<|
 0
def A0Y (c:B5) (a:Int) (b:Bool):Int:=
 cond ((!b)||(!(c.Bi==c.Bi&&(c.Bo==0&&(a==0&&(c.K==0&&(c.Cap==0&&(c.P==0&&(c.Am==0&&(c.Bs==0&&true)))))))))) (
  1)<|
 0
def A0Z (d:B5) (c:Bool×Int×Int) (a:Int) (b:Bool):Int:=
 cond ((!b)||(!(d.Bi==d.Bi&&(d.Bo==0&&(a==0&&(d.K==0&&(c.2.2==0&&(d.P==0&&(c.2.1==0&&(d.Bs==0&&true)))))))))) (
  1)<|
 0
def A00 (d:B5) (c:Bool×Int×Int) (a:Int) (b:Bool):Int:=
 cond ((!b)||(!(d.Bi==d.Bi&&(d.Bo==0&&(a==0&&(c.2.1==0&&(c.2.2==0&&(d.P==0&&(d.Am==0&&(d.Bs==0&&true)))))))))) (
  1)<|
 0
def A01 (e:B5) (c d:Bool×Int) (a:Int) (b:Bool):Int:=
 cond ((!b)||(!(e.Bi==e.Bi&&(e.Bo==0&&(a==0&&(c.2==0&&(d.2==0&&(e.P==0&&(e.Am==0&&((0:Int)==(0:Int)&&true)))))))))) (
  1)<|
 0
def A02 (d:B5) (c:Bool×Int) (a:Int) (b:Bool):Int:=
 cond ((!b)||(!(d.Bi==d.Bi&&(d.Bo==0&&(a==0&&(d.K==0&&(c.2==0&&(d.P==0&&(d.Am==0&&((0:Int)==(0:Int)&&true)))))))))) (
  1)<|
 0
def A03 (d:B5) (c:Bool×Int) (a:Int) (b:Bool):Int:=
 cond ((!b)||(!(d.Bi==d.Bi&&(d.Bo==0&&(a==0&&(d.K==0&&(c.2==0&&(d.P==0&&(d.Am==0&&(d.Bs==0&&true)))))))))) (
  1)<|
 0
def W3 (f:B5) (d:Bool):Int:=
 cond d (
  A2w f f.Bo true)<|
 cond (f.Bi==8) (
  let e:=(A9 f.Bs 0 1);
  let b:=(A9 f.Cap 1 65536);
  let a:=(B3 b e f.Cap);
  cond (decide ((1048576:Int)>(0:Int))) (
   let c:=(A9 f.W 1 1048576);
   A02 f a 0 (a.1&&c))<|
  A02 f a f.W a.1)<|
 cond (f.Bi==1) (
  let b:=(A9 f.Cap 1 65536);
  let a:=(B3 b true f.Cap);
  cond (decide ((1048576:Int)>(0:Int))) (
   let c:=(A9 f.W 1 1048576);
   A03 f a 0 (a.1&&c))<|
  A03 f a f.W a.1)<|
 1
def V7 (q:B5):Int:=
 cond (q.Bi==6) (
  let h:=(A9 q.P 0 4);
  let d:=(B3 h true q.P);
  cond (decide ((0:Int)>(0:Int))) (
   let a:=(A9 q.W 1 0);
   A0X q d 0 (d.1&&a))<|
  A0X q d q.W d.1)<|
 cond (q.Bi==7) (
  cond (decide ((64:Int)>(0:Int))) (
   let a:=(A9 q.W 1 64);
   A0Y q 0 a)<|
  A0Y q q.W true)<|
 cond (q.Bi==9) (
  let i:=(A9 q.Am 1 16);
  let j:=(A9 q.Cap 1 64);
  let b:=(F3 (i&&j) true q.Am q.Cap);
  cond (decide ((1048576:Int)>(0:Int))) (
   let a:=(A9 q.W 1 1048576);
   A0Z q b 0 (b.1&&a))<|
  A0Z q b q.W b.1)<|
 cond (q.Bi==10) (
  let k:=(A9 q.K 1 64);
  let l:=(A9 q.Cap 2 65536);
  let c:=(F3 (k&&l) true q.K q.Cap);
  cond (decide ((0:Int)>(0:Int))) (
   let a:=(A9 q.W 1 0);
   A00 q c 0 (c.1&&a))<|
  A00 q c q.W c.1)<|
 cond (q.Bi==3) (
  let m:=(A9 q.Bs 1 1024);
  let n:=(A9 q.K 1 64);
  let f:=(B3 n m q.K);
  let o:=(A9 q.Cap 1 65536);
  let e:=(B3 o f.1 q.Cap);
  cond (decide ((1048576:Int)>(0:Int))) (
   let a:=(A9 q.W 1 1048576);
   A01 q f e 0 (e.1&&a))<|
  A01 q f e q.W e.1)<|
 cond (q.Bi==4) (
  let p:=(A9 q.Bo 1 4);
  let g:=(B3 p true q.Bo);
  A2w q g.2 g.1)<|
 cond (q.Bi==2) (
  W3 q (q.Bi==2))<|
 cond (q.Bi==5) (
  W3 q (q.Bi==5))<|
 W3 q (q.Bi==11)
def A55 (c:B5) (b:Int) (a:Bool):Bool:=
 cond a (
  (b==9))<|
 cond (c.Bi==8) (
  (b==6))<|
 cond (c.Bi==9) (
  (b==10))<|
 ((b==7)||(b==8))
def A1G (b:B5) (c:Int):Bool:=
 let a:=(V7 b);
 cond (a !=0) (
  false)<|
 cond (b.Bi==1) (
  ((decide (c>=1))&&(decide (c<=8))))<|
 cond (b.Bi==2) (
  (c==1))<|
 cond (b.Bi==3) (
  (c==2))<|
 cond (b.Bi==4) (
  ((A1 (c-1))==(A1 (b.Bo-1))))<|
 cond (b.Bi==5) (
  (c==5))<|
 cond (b.Bi==6) (
  A55 b c (b.Bi==6))<|
 A55 b c (b.Bi==7)
def A5m (a b c d:Int):Bool:=
 ((((((((decide (a>=1))&&(decide (a<=1048576)))&&(decide (b>=1)))&&(decide (b<=64)))&&(decide (c>=1)))&&(decide (c<=65536)))&&(decide (d>=0)))&&(decide (d<=16777216)))
def A2z (d:E1) (a:Int):Option (Int⊕Int):=
 cond (decide (a<(d.Ad.length:Int))) (
  Option.bind (C1 d.Ad a) fun b=>
  let c:=(P4 d.Now d.W b.T);
  cond (!c) (
   some (.inr 2))<|
  some (.inl (A1 (a+1))))<|
 Option.map Sum.inr (some 0)
def B0T (b:E1) (a:Int):Option Int:=
 loop (fun (s:Int)=>A2z b s) a
def U9 (d:E1):Option Int:=
 let a:=(A5m d.W d.K d.Cap d.Now);
 Option.bind (gd (!(!a)) (S6 d.Ad d.K)) fun b=>
 Option.bind (gd (!((!a)||(!b))) (K8 d.Ad)) fun c=>
 cond (((!a)||(!b))||(decide (c>d.Cap))) (
  some 2)<|
 B0T d 0
def A2y (d:E1):Option (E1×Int):=
 Option.bind (U9 d) fun a=>
 cond (a !=0) (
  some ((E1.mk 0 0 0 0 []),a))<|
 Option.bind (K8 d.Ad) fun b=>
 cond (b==d.Cap) (
  some ((E1.mk 0 0 0 0 []),5))<|
 Option.bind (A1F d.Ad d.K d.Now) fun c=>
 some ((E1.mk d.W d.K d.Cap d.Now c),0)
def A6M (e:E1) (f:Int):Option (E1×Int):=
 Option.bind (U9 e) fun a=>
 cond (a !=0) (
  some ((E1.mk 0 0 0 0 []),a))<|
 let b:=(Q0 e.Now f);
 cond (b.2 !=0) (
  some ((E1.mk 0 0 0 0 []),b.2))<|
 let c:=(A1C f e.W);
 Option.bind (A0r e.Ad c) fun d=>
 some ((E1.mk e.W e.K e.Cap f d),0)
def A4U (c:E1):Option (C5×Int):=
 Option.bind (U9 c) fun a=>
 cond (a !=0) (
  some ((C5.mk (A5.mk 0 0) (A5.mk 0 0) (A5.mk 0 0)),a))<|
 Option.bind (A1a c.Ad) fun b=>
 some (b,0)
def B26 (b c d e:Int):(E1×Int):=
 let a:=(A5m b c d e);
 cond (!a) (
  ((E1.mk 0 0 0 0 []),1))<|
 ((E1.mk b c d e []),0)
def A48 (d:Int) (b:List B0) (c:Int):Option Bool:=
 Option.bind (C1 b d) fun a=>
 some (decide (a.ID>=c))
def X6 (d:List B0) (e a b:Int):Option ((Int×Int)⊕Int):=
 cond (decide (a<b)) (
  Option.bind (A48 (A1 (F8 .u64 (A4 (A1 (a+b))) 1)) d e) fun c=>
  cond (!c) (
   some (.inl ((A1 ((A1 (F8 .u64 (A4 (A1 (a+b))) (1:Int)))+(1:Int))),b)))<|
  some (.inl (a,(A1 (F8 .u64 (A4 (A1 (a+b))) 1)))))<|
 Option.map Sum.inr (some a)
def B05 (c:List B0) (d a b:Int):Option Int:=
 loop (fun (s:(Int×Int))=>X6 c d s.1 s.2) (a,b)
def A5L (c:Int) (a:List B0) (b:Int):Option Int:=
 B05 a b 0 c
def A0g (c:List B0) (d:Int):Option (Int×Bool):=
 Option.bind (A5L (c.length:Int) c d) fun a=>
 Option.bind (gd (decide (a<(c.length:Int))) (C1 c a)) fun b=>
 some (a,((decide (a<(c.length:Int)))&&(b.ID==d)))
def A1k (c:D6):Option (A7×Bool):=
 Option.bind (A0g c.Ap.Ah c.command_.ID) fun a=>
 cond (!a.2) (
  some ((A7.mk (B5.mk 0 0 0 0 0 0 0 0) (C8.mk 0 0 0 []) (E1.mk 0 0 0 0 []) (F0.mk 0 0 0 0 0 []) (C9.mk 0 0 0 0 0 0 []) (D1.mk 0 0 0 0 0 []) (E0.mk 0 0 0 []) (F1.mk 0 []) (B8.mk false 0 0 0 []) (E4.mk []) (B9.mk 0 0 0 []) (C3.mk 0 0 0 0 [])),false))<|
 Option.bind (C1 c.Ap.Ah a.1) fun b=>
 some (b.Ac,true)
def A4H (a:A7):Bool:=
 cond ((a.Ao.Bi !=1)&&((((a.Aq.W !=0)||(a.Aq.Cap !=0))||(a.Aq.Now !=0))||(decide ((a.Aq.Bb.length:Int)>(0:Int))))) (
  false)<|
 cond ((a.Ao.Bi !=2)&&(((((a.Ay.W !=0)||(a.Ay.K !=0))||(a.Ay.Cap !=0))||(a.Ay.Now !=0))||(decide ((a.Ay.Ad.length:Int)>(0:Int))))) (
  false)<|
 cond ((a.Ao.Bi !=3)&&((((((a.Sum.W !=0)||(a.Sum.K !=0))||(a.Sum.Cap !=0))||(a.Sum.Bs !=0))||(a.Sum.Now !=0))||(decide ((a.Sum.Ad.length:Int)>(0:Int))))) (
  false)<|
 cond ((a.Ao.Bi !=4)&&(((((((a.As.Bo !=0)||(a.As.W !=0))||(a.As.K !=0))||(a.As.Cap !=0))||(a.As.Now !=0))||(a.As.Bv !=0))||(decide ((a.As.Bf.length:Int)>(0:Int))))) (
  false)<|
 cond ((a.Ao.Bi !=5)&&((((((a.Au.W !=0)||(a.Au.K !=0))||(a.Au.Cap !=0))||(a.Au.Now !=0))||(a.Au.Bv !=0))||(decide ((a.Au.Bf.length:Int)>(0:Int))))) (
  false)<|
 cond ((a.Ao.Bi !=6)&&((((a.Bm.P !=0)||(a.Bm.Bj !=0))||(a.Bm.Now !=0))||(decide ((a.Bm.Ag.length:Int)>(0:Int))))) (
  false)<|
 cond ((a.Ao.Bi !=7)&&((a.Ba.Now !=0)||(decide ((a.Ba.Bn.length:Int)>(0:Int))))) (
  false)<|
 cond ((a.Ao.Bi !=8)&&((((a.Af.Bs||(a.Af.W !=0))||(a.Af.Cap !=0))||(a.Af.Now !=0))||(decide ((a.Af.Bb.length:Int)>(0:Int))))) (
  false)<|
 cond ((a.Ao.Bi !=9)&&(decide ((a.Ar.Am.length:Int)>(0:Int)))) (
  false)<|
 cond ((a.Ao.Bi !=10)&&((((a.Ai.K !=0)||(a.Ai.Cap !=0))||(a.Ai.N !=0))||(decide ((a.Ai.Av.length:Int)>(0:Int))))) (
  false)<|
 ((a.Ao.Bi==11)||(((((a.Ab.W==0)&&(a.Ab.K==0))&&(a.Ab.Cap==0))&&(a.Ab.Now==0))&&((a.Ab.Ak.length:Int)==(0:Int))))
def W6 (c:Bool) (a b:Int):Bool:=
 cond c (
  (decide (a>=b)))<|
 (decide (a<=b))
def A4V (a b c:Int):Bool:=
 ((((((decide (a>=1))&&(decide (a<=1048576)))&&(decide (b>=1)))&&(decide (b<=65536)))&&(decide (c>=0)))&&(decide (c<=16777216)))
def A1u (g:B8) (a:Int):Option (Int⊕Int):=
 cond (decide (a<(g.Bb.length:Int))) (
  Option.bind (C1 g.Bb a) fun b=>
  let f:=(P4 g.Now g.W b.T);
  cond (((!f)||(decide (b.V<(-4096:Int))))||(decide (b.V>4096))) (
   some (.inr 2))<|
  Option.bind (gd (decide (a>0)) (C1 g.Bb (A1 (a-1)))) fun c=>
  Option.bind (gd ((decide (a>0))&&(!(decide (c.T>=b.T)))) (C1 g.Bb (A1 (a-1)))) fun d=>
  let e:=(W6 g.Bs b.V d.V);
  cond ((decide (a>0))&&((decide (c.T>=b.T))||e)) (
   some (.inr 2))<|
  some (.inl (A1 (a+1))))<|
 Option.map Sum.inr (some 0)
def A8C (b:B8) (a:Int):Option Int:=
 loop (fun (s:Int)=>A1u b s) a
def X0 (b:B8):Option Int:=
 let a:=(A4V b.W b.Cap b.Now);
 cond ((!a)||(decide ((b.Bb.length:Int)>b.Cap))) (
  some 2)<|
 A8C b 0
def A2F (c:F1) (a:Int):Option (Int⊕Int):=
 cond (decide (a<(c.Bn.length:Int))) (
  Option.bind (C1 c.Bn a) fun b=>
  cond (((decide (b<0))||(decide (b>1099511627776)))||((b !=0)&&(decide (a>c.Now)))) (
   some (.inr 2))<|
  some (.inl (A1 (a+1))))<|
 Option.map Sum.inr (some 0)
def B0W (b:F1) (a:Int):Option Int:=
 loop (fun (s:Int)=>A2F b s) a
def A0t (a:F1):Option Int:=
 cond ((((decide ((a.Bn.length:Int)<(1:Int)))||(decide ((a.Bn.length:Int)>(64:Int))))||(decide (a.Now<0)))||(decide (a.Now>16777216))) (
  some 2)<|
 B0W a 0
def B3k (a:Int):Bool:=
 ((decide (a>=0))&&(decide (a<=16777216)))
def A32 (c d:A2):Option (A2×Bool):=
 Option.bind (N2 c.Lo d.Lo 0) fun a=>
 Option.bind (N2 c.Hi d.Hi a.2) fun b=>
 cond (b.2 !=0) (
  some ((A2.mk 0 0),false))<|
 some ((A2.mk b.1 a.1),true)
def A9N (f a b c:Int):Option (A2×Bool):=
 let g:=(P3 a c);
 let d:=(P3 a b);
 cond (d.Hi !=0) (
  some ((A2.mk 0 0),false))<|
 Option.bind (A32 g (A2.mk d.Lo 0)) fun e=>
 some (e.1,e.2)
def A1Z (a b:A2):Option (A2×Bool):=
 cond ((a.Hi !=0)&&(b.Hi !=0)) (
  some ((A2.mk 0 0),false))<|
 cond (a.Hi !=0) (
  A9N b.Hi b.Lo a.Hi a.Lo)<|
 A9N a.Hi a.Lo b.Hi b.Lo
def A2W (j:E0) (f:A2) (a:Int):Option (Int⊕Int):=
 cond (decide (a<=j.P)) (
  Option.bind (C1 j.Ag (A1 (a-1))) fun g=>
  Option.bind (C1 j.Ag a) fun h=>
  let c:=(R1 g h);
  cond (decide (c>0)) (
   some (.inr 2))<|
  Option.bind (C1 j.Ag (A1 (a-1))) fun i=>
  Option.bind (A1Z i f) fun b=>
  Option.bind (gd b.2 (C1 j.Ag a)) fun d=>
  let e:=(R1 d b.1);
  cond (b.2&&(decide (e>0))) (
   some (.inr 2))<|
  some (.inl (A1 (a+1))))<|
 Option.map Sum.inr (some 0)
def B2p (c:E0) (a:A2) (b:Int):Option Int:=
 loop (fun (s:Int)=>A2W c a s) b
def A1e (c:E0):Option Int:=
 let a:=(B3k c.Now);
 cond ((((((decide (c.P<0))||(decide (c.P>4)))||(!a))||(decide (c.Bj<0)))||(decide (c.Bj>c.Now)))||((c.Ag.length:Int) !=(A1 (c.P+1)))) (
  some 2)<|
 let b:=(J8 (A4 (A1 ((A1 (c.Now-c.Bj))+1))));
 B2p c b 1
def B47 (b:Int):Option Int:=
 cond (decide (b<0)) (
  some 0)<|
 Option.bind (W1 (A4 b)) fun a=>
 some a
def A0d (a b c d:Int):Bool:=
 ((((((((decide (a>=1))&&(decide (a<=1048576)))&&(decide (b>=1)))&&(decide (b<=64)))&&(decide (c>=1)))&&(decide (c<=65536)))&&(decide (d>=0)))&&(decide (d<=16777216)))
def A39 (c d:Int):Option Int:=
 let a:=(A0d 1 c d 0);
 cond (!a) (
  some 0)<|
 Option.bind (B47 d) fun b=>
 some (A1 ((A1 (2*c))*(A1 (b+2))))
def A06 (d:C3) (a:Int):Option (Int⊕Int):=
 cond (decide (a<(d.Ak.length:Int))) (
  Option.bind (C1 d.Ak a) fun b=>
  let c:=(P4 d.Now d.W b.T);
  cond (!c) (
   some (.inr 2))<|
  some (.inl (A1 (a+1))))<|
 Option.map Sum.inr (some 0)
def A8f (b:C3) (a:Int):Option Int:=
 loop (fun (s:Int)=>A06 b s) a
def T2 (e:C3):Option Int:=
 let a:=(A0d e.W e.K e.Cap e.Now);
 Option.bind (gd (!(!a)) (A39 e.K e.Cap)) fun c=>
 Option.bind (gd (!(!a)) (A27 e.Ak (A1 (2*e.K)) c)) fun b=>
 Option.bind (gd (!((!a)||(!b))) (A1L e.Ak)) fun d=>
 cond (((!a)||(!b))||(decide (d>e.Cap))) (
  some 2)<|
 A8f e 0
def A5r (a:Int):Bool:=
 ((decide (a>=0))&&(decide (a<=16777216)))
def B9h (d:List A8) (e a:Int):Option (Int⊕Bool):=
 cond (decide (a<(d.length:Int))) (
  Option.bind (C1 d a) fun b=>
  Option.bind (gd ((!((decide (b.T<0))||(decide (b.T>e))))&&(decide (a>0))) (C1 d (A1 (a-1)))) fun c=>
  cond (((decide (b.T<0))||(decide (b.T>e)))||((decide (a>0))&&(decide (c.T>b.T)))) (
   some (.inr false))<|
  some (.inl (A1 (a+1))))<|
 Option.map Sum.inr (some true)
def C0n (b:List A8) (c a:Int):Option Bool:=
 loop (fun (s:Int)=>B9h b c s) a
def A9w (c:List A8) (b:Int):Option Bool:=
 let a:=(A5r b);
 cond (!a) (
  some false)<|
 C0n c b 0
def A6x (a b c:Int):Bool:=
 ((((((decide (a>=1))&&(decide (a<=1048576)))&&(decide (b>=1)))&&(decide (b<=65536)))&&(decide (c>=0)))&&(decide (c<=16777216)))
def A8h (a:Int):Bool:=
 ((decide (a>=(-4096:Int)))&&(decide (a<=4096)))
def A4s (e:C8) (a:Int):Option (Int⊕Int):=
 cond (decide (a<(e.Bb.length:Int))) (
  Option.bind (C1 e.Bb a) fun b=>
  let d:=(P4 e.Now e.W b.T);
  let c:=(A8h b.V);
  cond ((!d)||(!c)) (
   some (.inr 2))<|
  some (.inl (A1 (a+1))))<|
 Option.map Sum.inr (some 0)
def A93 (b:C8) (a:Int):Option Int:=
 loop (fun (s:Int)=>A4s b s) a
def W2 (c:C8):Option Int:=
 let a:=(A6x c.W c.Cap c.Now);
 Option.bind (gd (!((!a)||(decide ((c.Bb.length:Int)>c.Cap)))) (A9w c.Bb c.Now)) fun b=>
 cond (((!a)||(decide ((c.Bb.length:Int)>c.Cap)))||(!b)) (
  some 2)<|
 A93 c 0
def T6 (e:E4) (a:Int):Option (Int⊕Int):=
 cond (decide (a<(e.Am.length:Int))) (
  Option.bind (C1 e.Am a) fun b=>
  Option.bind (C1 e.Am 0) fun c=>
  Option.bind (P9 b) fun d=>
  cond ((((d !=0)||(b.W !=c.W))||(b.Cap !=c.Cap))||(b.I !=c.I)) (
   some (.inr 2))<|
  some (.inl (A1 (a+1))))<|
 Option.map Sum.inr (some 0)
def A2K (b:E4) (a:Int):Option Int:=
 loop (fun (s:Int)=>T6 b s) a
def N4 (a:E4):Option Int:=
 cond ((decide ((a.Am.length:Int)<(1:Int)))||(decide ((a.Am.length:Int)>(16:Int)))) (
  some 2)<|
 A2K a 0
def Y6 (a d e b c:Int):Bool:=
 (((((decide (b>=(A1 (a*d))))&&(decide (b<=(A1 (a*e)))))&&(decide (c>=0)))&&(decide (c<=(A1 ((A1 (a*(4096:Int)))*(4096:Int))))))&&(decide ((A1 (b*b))<=(A1 (a*c)))))
def A4A (h:List A6) (i k j l m d:Int):Option (Int⊕Bool):=
 cond (decide (d<(h.length:Int))) (
  Option.bind (C1 h d) fun a=>
  cond ((((((decide (a.Bv<1))||(decide (a.Bv>i)))||(a.N !=(A1 ((A1 (i-a.Bv))+1))))||(decide (a.N>k)))||(decide (a.T<0)))||(decide (a.T>j))) (
   some (.inr false))<|
  let g:=(Y6 a.N a.Bt a.Bs a.S a.Q);
  cond ((((decide (a.Bt<m))||(decide (a.Bs>4096)))||(decide (a.Bt>a.Bs)))||(!g)) (
   some (.inr false))<|
  let e:=(P4 j l a.T);
  cond (((decide (d>0))||((h.length:Int)==(1:Int)))&&(!e)) (
   some (.inr false))<|
  cond (d==0) (
   some (.inl (A1 (d+1))))<|
  Option.bind (C1 h (A1 (d-1))) fun b=>
  let f:=(Y6 (A1 (b.N-a.N)) b.Bt b.Bs (A1 (b.S-a.S)) (A1 (b.Q-a.Q)));
  cond (((((decide (b.Bv>=a.Bv))||(decide (b.T>a.T)))||(decide (b.Bt>a.Bt)))||(decide (b.Bs<a.Bs)))||(!f)) (
   some (.inr false))<|
  some (.inl (A1 (d+1))))<|
 Option.map Sum.inr (cond ((h.length:Int)==(0:Int)) (
  some true)<|
 Option.bind (C1 h (A1 ((h.length:Int)-(1:Int)))) fun c=>
 some ((((c.Bv==i)&&(c.Bt==c.S))&&(c.Bs==c.S))&&(c.Q==(A1 (c.S*c.S)))))
def B4o (b:List A6) (c d e f g a:Int):Option Bool:=
 loop (fun (s:Int)=>A4A b c d e f g s) a
def A6v (b:List A6) (a c d e f:Int):Option Bool:=
 cond ((decide (a<0))||(decide (a>1099511627776))) (
  some false)<|
 B4o b a c d e f 0
def A5w (a b c d:Int):Bool:=
 ((((((((decide (a>=1))&&(decide (a<=1048576)))&&(decide (b>=1)))&&(decide (b<=64)))&&(decide (c>=1)))&&(decide (c<=65536)))&&(decide (d>=0)))&&(decide (d<=16777216)))
def A0E (b c d e f:Int):Bool:=
 let a:=(A5w c d e f);
 (((decide (b>=1))&&(decide (b<=4)))&&a)
def S8 (a:Int):Int:=
 cond ((a==2)||(a==3)) (
  0)<|
 (-4096:Int)
def B7w (a b:Int):(Int×Bool):=
 cond ((!((decide (a>=0))==(decide (b>=0))))&&(!((decide ((A1 (a-b))>=0))==(decide (a>=0))))) (
  (0,false))<|
 ((A1 (a-b)),true)
def T3 (b:A6) (c:Int):Int:=
 cond (c==1) (
  b.N)<|
 cond (c==2) (
  b.S)<|
 cond (c==3) (
  b.Q)<|
 cond (c==4) (
  let a:=(B7w b.Bs b.Bt);
  a.1)<|
 0
def M3 (e f:A6) (c d:Int):Bool:=
 let a:=(T3 f c);
 let b:=(T3 e c);
 (decide ((A1 ((A1 (d+1))*a))>=(A1 (d*b))))
def A14 (h:C9) (a:Int):Option (Int⊕Int):=
 cond (decide (a<(h.Bf.length:Int))) (
  Option.bind (C1 h.Bf a) fun b=>
  Option.bind (gd (decide (a>=2)) (C1 h.Bf (A1 (a-2)))) fun g=>
  let d:=(M3 g b h.Bo h.K);
  cond ((decide (a>=2))&&d) (
   some (.inr 2))<|
  Option.bind (gd (decide (a>=1)) (C1 h.Bf (A1 (a-1)))) fun c=>
  Option.bind (gd ((decide (a>=1))&&(decide ((A1 (b.Bv-c.Bv))>1))) (C1 h.Bf (A1 (a-1)))) fun e=>
  let f:=(M3 e b h.Bo h.K);
  cond (((decide (a>=1))&&(decide ((A1 (b.Bv-c.Bv))>1)))&&(!f)) (
   some (.inr 2))<|
  some (.inl (A1 (a+1))))<|
 Option.map Sum.inr (some 0)
def A95 (b:C9) (a:Int):Option Int:=
 loop (fun (s:Int)=>A14 b s) a
def Z2 (d:C9):Option Int:=
 let a:=(A0E d.Bo d.W d.K d.Cap d.Now);
 let b:=(S8 d.Bo);
 Option.bind (gd (!(!a)) (A6v d.Bf d.Bv d.Cap d.Now d.W b)) fun c=>
 cond ((!a)||(!c)) (
  some 2)<|
 A95 d 0
def A3s (a:A6):Bool:=
 cond ((((((decide (a.N<1))||(decide (a.N>65536)))||(decide (a.S<(A1 ((IntKind.i64.wrap (0-a.N))*4096)))))||(decide (a.S>(A1 (a.N*4096)))))||(decide (a.Q<0)))||(decide (a.Q>(A1 ((A1 (a.N*(4096:Int)))*(4096:Int)))))) (
  false)<|
 (decide ((A1 (a.S*a.S))<=(A1 (a.N*a.Q))))
def A5O (a:A6):Int:=
 (A1 ((A1 (a.N*a.Q))-(A1 (a.S*a.S))))
def A5d (m n:A6) (l:Int):Option Bool:=
 let c:=(A3s m);
 let d:=(A3s n);
 cond ((((!c)||(!d))||(decide (l<1)))||(decide (l>64))) (
  some false)<|
 cond (decide ((A1 ((A1 (6*l))*n.N))<(A1 ((A1 ((A1 (6*l))-1))*m.N)))) (
  some false)<|
 let e:=(A5O n);
 let f:=(P3 (A4 e) (A4 m.N));
 let g:=(J8 (A4 (A1 (6*l))));
 Option.bind (A1Z f g) fun a=>
 let h:=(A5O m);
 let i:=(P3 (A4 h) (A4 n.N));
 let j:=(J8 (A4 (A1 ((A1 (6*l))-1))));
 Option.bind (A1Z i j) fun b=>
 let k:=(R1 a.1 b.1);
 some (decide (k>=0))
def A2c (e:D1) (a:Int):Option (Int⊕Int):=
 cond (decide (a<(e.Bf.length:Int))) (
  Option.bind (C1 e.Bf (A1 (a-2))) fun c=>
  Option.bind (C1 e.Bf a) fun d=>
  Option.bind (A5d c d e.K) fun b=>
  cond b (
   some (.inr 2))<|
  some (.inl (A1 (a+1))))<|
 Option.map Sum.inr (some 0)
def A96 (b:D1) (a:Int):Option Int:=
 loop (fun (s:Int)=>A2c b s) a
def Z3 (c:D1):Option Int:=
 let a:=(A5w c.W c.K c.Cap c.Now);
 Option.bind (gd (!(!a)) (A6v c.Bf c.Bv c.Cap c.Now c.W (-4096:Int))) fun b=>
 cond ((!a)||(!b)) (
  some 2)<|
 A96 c 2
def A9i (a b c d e:Int):Bool:=
 ((((((((((decide (a>=1))&&(decide (a<=1048576)))&&(decide (b>=1)))&&(decide (b<=64)))&&(decide (c>=1)))&&(decide (c<=65536)))&&(decide (d>=1)))&&(decide (d<=1024)))&&(decide (e>=0)))&&(decide (e<=16777216)))
def A3X (d:F0) (a:Int):Option (Int⊕Int):=
 cond (decide (a<(d.Ad.length:Int))) (
  Option.bind (C1 d.Ad a) fun b=>
  let c:=(P4 d.Now d.W b.T);
  cond (!c) (
   some (.inr 2))<|
  some (.inl (A1 (a+1))))<|
 Option.map Sum.inr (some 0)
def B3x (b:F0) (a:Int):Option Int:=
 loop (fun (s:Int)=>A3X b s) a
def A1U (d:F0):Option Int:=
 let a:=(A9i d.W d.K d.Cap d.Bs d.Now);
 Option.bind (gd (!(!a)) (S6 d.Ad d.K)) fun b=>
 Option.bind (gd (!((!a)||(!b))) (K8 d.Ad)) fun c=>
 cond (((!a)||(!b))||(decide (c>d.Cap))) (
  some 2)<|
 B3x d 0
def A3t (b a:Int):Option Int:=
 ck (decide (a≠0))<|
 some (X8 1 (A1 (Int.tdiv b a)))
def A1z (h:B9) (d e b:Int):Option ((Int×Int)⊕Int):=
 cond (decide (b<(h.Av.length:Int))) (
  Option.bind (C1 h.Av b) fun a=>
  Option.bind (gd ((!((decide (a.V<(-4096:Int)))||(decide (a.V>4096))))&&(decide (b>0))) (C1 h.Av (A1 (b-1)))) fun f=>
  cond (((decide (a.V<(-4096:Int)))||(decide (a.V>4096)))||((decide (b>0))&&(decide (f.V>a.V)))) (
   some (.inr 2))<|
  cond ((((decide (a.G<1))||(decide (a.D<0)))||(decide (a.G>d)))||(decide (a.D>(A1 (d-a.G))))) (
   some (.inr 2))<|
  some (.inl ((A1 (e+a.G)),(A1 (b+1)))))<|
 Option.map Sum.inr (Option.bind (C1 h.Av 0) fun c=>
 Option.bind (C1 h.Av (A1 ((h.Av.length:Int)-(1:Int)))) fun g=>
 cond ((((e !=h.N)||(c.G !=1))||(c.D !=0))||(g.D !=0)) (
  some 2)<|
 some 0)
def A8L (d:B9) (b c a:Int):Option Int:=
 loop (fun (s:(Int×Int))=>A1z d b s.1 s.2) (c,a)
def X1 (b:B9):Option Int:=
 cond (((((((decide (b.K<1))||(decide (b.K>64)))||(decide (b.Cap<2)))||(decide (b.Cap>65536)))||(decide (b.N<0)))||(decide (b.N>1099511627776)))||(decide ((b.Av.length:Int)>b.Cap))) (
  some 2)<|
 cond (b.N==0) (
  cond (decide ((b.Av.length:Int)>(0:Int))) (
   some 2)<|
  some 0)<|
 cond ((b.Av.length:Int)==(0:Int)) (
  some 2)<|
 Option.bind (A3t b.N b.K) fun a=>
 A8L b a 0 0
def A5Q (n:A7):Option Bool:=
 cond (n.Ao.Bi==1) (
  Option.bind (W2 n.Aq) fun l=>
  some (((l==0)&&(n.Aq.W==n.Ao.W))&&(n.Aq.Cap==n.Ao.Cap)))<|
 cond (n.Ao.Bi==2) (
  Option.bind (U9 n.Ay) fun m=>
  some ((((m==0)&&(n.Ay.W==n.Ao.W))&&(n.Ay.K==n.Ao.K))&&(n.Ay.Cap==n.Ao.Cap)))<|
 cond (n.Ao.Bi==3) (
  Option.bind (A1U n.Sum) fun d=>
  some (((((d==0)&&(n.Sum.W==n.Ao.W))&&(n.Sum.K==n.Ao.K))&&(n.Sum.Cap==n.Ao.Cap))&&(n.Sum.Bs==n.Ao.Bs)))<|
 cond (n.Ao.Bi==4) (
  Option.bind (Z2 n.As) fun e=>
  some (((((e==0)&&(n.As.W==n.Ao.W))&&(n.As.K==n.Ao.K))&&(n.As.Cap==n.Ao.Cap))&&(n.As.Bo==n.Ao.Bo)))<|
 cond (n.Ao.Bi==5) (
  Option.bind (Z3 n.Au) fun f=>
  some ((((f==0)&&(n.Au.W==n.Ao.W))&&(n.Au.K==n.Ao.K))&&(n.Au.Cap==n.Ao.Cap)))<|
 cond (n.Ao.Bi==6) (
  Option.bind (A1e n.Bm) fun g=>
  some ((g==0)&&(n.Bm.P==n.Ao.P)))<|
 cond (n.Ao.Bi==7) (
  Option.bind (A0t n.Ba) fun h=>
  some ((h==0)&&((n.Ba.Bn.length:Int)==n.Ao.W)))<|
 cond (n.Ao.Bi==8) (
  Option.bind (X0 n.Af) fun i=>
  some ((((i==0)&&(n.Af.W==n.Ao.W))&&(n.Af.Cap==n.Ao.Cap))&&(n.Af.Bs==(n.Ao.Bs==1))))<|
 cond (n.Ao.Bi==9) (
  Option.bind (N4 n.Ar) fun a=>
  Option.bind (gd ((a==0)&&((n.Ar.Am.length:Int)==n.Ao.Am)) (C1 n.Ar.Am 0)) fun b=>
  Option.bind (gd (((a==0)&&((n.Ar.Am.length:Int)==n.Ao.Am))&&(b.W==n.Ao.W)) (C1 n.Ar.Am 0)) fun c=>
  some ((((a==0)&&((n.Ar.Am.length:Int)==n.Ao.Am))&&(b.W==n.Ao.W))&&(c.Cap==n.Ao.Cap)))<|
 cond (n.Ao.Bi==10) (
  Option.bind (X1 n.Ai) fun j=>
  some (((j==0)&&(n.Ai.K==n.Ao.K))&&(n.Ai.Cap==n.Ao.Cap)))<|
 Option.bind (T2 n.Ab) fun k=>
 some ((((k==0)&&(n.Ab.W==n.Ao.W))&&(n.Ab.K==n.Ao.K))&&(n.Ab.Cap==n.Ao.Cap))
def K1 (d:A7):Option Int:=
 let a:=(V7 d.Ao);
 Option.bind (gd (!(a !=0)) (A5Q d)) fun c=>
 let b:=(A4H d);
 cond (((a !=0)||(!c))||(!b)) (
  some 2)<|
 some 0
def A5a (e:List B0) (a:Int):Option (Int⊕Bool):=
 cond (decide (a<(e.length:Int))) (
  Option.bind (C1 e a) fun b=>
  Option.bind (gd ((!((decide (b.ID<0))||(decide (b.ID>1048576))))&&(decide (a>0))) (C1 e (A1 (a-1)))) fun c=>
  Option.bind (gd (!(((decide (b.ID<0))||(decide (b.ID>1048576)))||((decide (a>0))&&(decide (c.ID>=b.ID))))) (K1 b.Ac)) fun d=>
  cond ((((decide (b.ID<0))||(decide (b.ID>1048576)))||((decide (a>0))&&(decide (c.ID>=b.ID))))||(d !=0)) (
   some (.inr false))<|
  some (.inl (A1 (a+1))))<|
 Option.map Sum.inr (some true)
def B00 (b:List B0) (a:Int):Option Bool:=
 loop (fun (s:Int)=>A5a b s) a
def A0x (b:List B0) (a:Int):Option Bool:=
 cond (((decide (a<1))||(decide (a>64)))||(decide ((b.length:Int)>a))) (
  some false)<|
 B00 b 0
def A3U (f:List B0) (g:B0):Option ((List B0)×Int):=
 Option.bind (A0x f 64) fun b=>
 Option.bind (gd (!(!b)) (K1 g.Ac)) fun c=>
 cond ((!b)||(c !=0)) (
  some ([],2))<|
 Option.bind (A0g f g.ID) fun a=>
 cond (!a.2) (
  some ([],11))<|
 ck (decide ((([]:List B0).length+f.length)*640<=140737488355328))<|
 Option.bind (C1 (([]:List B0)++f) a.1) fun d=>
 Option.bind (C1 (([]:List B0)++f) a.1) fun e=>
 some (((([]:List B0)++f).set (a.1).toNat g),0)
def A7Z (f:B8) (g:Int) (a:List A8):Option ((List A8)⊕(B8×Int)):=
 Option.bind (gd (decide ((a.length:Int)>(0:Int))) (C1 a (A1 ((a.length:Int)-(1:Int))))) fun c=>
 let d:=(W6 f.Bs g c.V);
 cond ((decide ((a.length:Int)>(0:Int)))&&d) (
  ck (decide (0<=(A1 ((a.length:Int)-(1:Int)))/\(A1 ((a.length:Int)-(1:Int)))<=(a.length:Int)))<|
  some (.inl (a.take ((A1 ((a.length:Int)-(1:Int)))).toNat)))<|
 Option.map Sum.inr (ck (decide ((([]:List A8).length+a.length)*16<=140737488355328))<|
 Option.bind (gd (!(((([]:List A8)++a).length:Int)==(0:Int))) (C1 (([]:List A8)++a) (A1 (((([]:List A8)++a).length:Int)-(1:Int))))) fun e=>
 Option.bind (gd (!(((([]:List A8)++a).length:Int)==(0:Int))) (C1 (([]:List A8)++a) (A1 (((([]:List A8)++a).length:Int)-(1:Int))))) fun b=>
 cond ((((([]:List A8)++a).length:Int)==(0:Int))||(decide (b.T<f.Now))) (
  cond (((([]:List A8)++a).length:Int)==f.Cap) (
   some ((B8.mk false 0 0 0 []),5))<|
  ck (decide (((([]:List A8)++a).length+ [(A8.mk f.Now g)].length)*16<=140737488355328))<|
  some ((B8.mk f.Bs f.W f.Cap f.Now ((([]:List A8)++a)++ [(A8.mk f.Now g)])),0))<|
 some ((B8.mk f.Bs f.W f.Cap f.Now (([]:List A8)++a)),0))
def A3j (b:B8) (c:Int) (a:List A8):Option (B8×Int):=
 loop (fun (s:(List A8))=>A7Z b c s) a
def A4k (b:B8) (c:Int):Option (B8×Int):=
 Option.bind (X0 b) fun a=>
 cond (a !=0) (
  some ((B8.mk false 0 0 0 []),a))<|
 cond ((decide (c<(-4096:Int)))||(decide (c>4096))) (
  some ((B8.mk false 0 0 0 []),4))<|
 A3j b c b.Bb
def A7u (g:F1) (h:Int):Option (F1×Int):=
 Option.bind (A0t g) fun a=>
 cond (a !=0) (
  some ((F1.mk 0 []),a))<|
 cond ((decide (h<0))||(decide (h>4096))) (
  some ((F1.mk 0 []),4))<|
 Option.bind (C1 g.Bn 0) fun b=>
 cond (decide (b>(A1 (1099511627776-h)))) (
  some ((F1.mk 0 []),6))<|
 ck (decide ((([]:List Int).length+g.Bn.length)*8<=140737488355328))<|
 Option.bind (C1 (([]:List Int)++g.Bn) 0) fun d=>
 Option.bind (C1 (([]:List Int)++g.Bn) 0) fun c=>
 Option.bind (C1 (([]:List Int)++g.Bn) 0) fun e=>
 Option.bind (C1 (([]:List Int)++g.Bn) 0) fun f=>
 some ((F1.mk g.Now ((([]:List Int)++g.Bn).set ((0:Int)).toNat (A1 (c+h)))),0)
def A8z (f d a b:Int):Option ((Int×Int×Int)⊕(A2×Bool)):=
 cond (decide (d>0)) (
  let e:=(J8 f);
  Option.bind (A1Z (A2.mk a b) e) fun c=>
  cond (!c.2) (
   some (.inr ((A2.mk 0 0),false)))<|
  some (.inl ((A1 (d-1)),c.1.Hi,c.1.Lo)))<|
 Option.map Sum.inr (some ((A2.mk a b),true))
def A6H (d c a b:Int):Option (A2×Bool):=
 loop (fun (s:(Int×Int×Int))=>A8z d s.1 s.2.1 s.2.2) (c,a,b)
def B2L (c d:Int):Option (A2×Bool):=
 cond (decide (d<0)) (
  some ((A2.mk 0 0),false))<|
 cond (decide (c<=1)) (
  cond ((c==0)&&(decide (d>0))) (
   some ((A2.mk 0 0),true))<|
  let b:=(J8 1);
  some (b,true))<|
 let a:=(J8 1);
 A6H c d a.Hi a.Lo
def B2o (j:E0) (k:Int) (b:List A2) (a:Int):Option (((List A2)×Int)⊕(E0×Int)):=
 cond (decide (a<((List.replicate ((j.Ag.length:Int)).toNat (A2.mk 0 (0:Int))).length:Int))) (
  Option.bind (B2L (A4 (A1 ((A1 (j.Now-j.Bj))+1))) a) fun d=>
  let e:=(J8 (A4 k));
  Option.bind (A1Z d.1 e) fun f=>
  Option.bind (C1 j.Ag a) fun g=>
  Option.bind (A32 g f.1) fun c=>
  cond (!c.2) (
   some (.inr ((E0.mk 0 0 0 []),6)))<|
  Option.bind (C1 b a) fun h=>
  Option.bind (C1 b a) fun i=>
  some (.inl ((b.set (a).toNat c.1),(A1 (a+1)))))<|
 Option.map Sum.inr (some ((E0.mk j.P j.Bj j.Now b),0))
def A9F (c:E0) (d:Int) (b:List A2) (a:Int):Option (E0×Int):=
 loop (fun (s:((List A2)×Int))=>B2o c d s.1 s.2) (b,a)
def A9b (b:E0) (c:Int):Option (E0×Int):=
 Option.bind (A1e b) fun a=>
 cond (a !=0) (
  some ((E0.mk 0 0 0 []),a))<|
 cond ((decide (c<0))||(decide (c>4096))) (
  some ((E0.mk 0 0 0 []),4))<|
 ck (decide (0<=(b.Ag.length:Int)/\(b.Ag.length:Int)<=(b.Ag.length:Int)/\(b.Ag.length:Int)*16<=140737488355328/\(b.Ag.length:Int)<=140737488355328))<|
 A9F b c (List.replicate ((b.Ag.length:Int)).toNat (A2.mk 0 0)) 0
def A3p (e:C3) (f:Int):Option (C3×Int):=
 Option.bind (T2 e) fun a=>
 cond (a !=0) (
  some ((C3.mk 0 0 0 0 []),a))<|
 cond ((decide (f<(-4096:Int)))||(decide (f>4096))) (
  some ((C3.mk 0 0 0 0 []),4))<|
 Option.bind (A1L e.Ak) fun c=>
 cond (c==e.Cap) (
  some ((C3.mk 0 0 0 0 []),5))<|
 Option.bind (A39 e.K e.Cap) fun d=>
 Option.bind (B0n e.Ak (A1 (2*e.K)) d e.Now f) fun b=>
 some ((C3.mk e.W e.K e.Cap e.Now b),0)
def A5E (c:C8) (d:Int):Option (C8×Int):=
 Option.bind (W2 c) fun a=>
 cond (a !=0) (
  some ((C8.mk 0 0 0 []),a))<|
 let b:=(A8h d);
 cond (!b) (
  some ((C8.mk 0 0 0 []),4))<|
 cond ((c.Bb.length:Int)==c.Cap) (
  some ((C8.mk 0 0 0 []),5))<|
 ck (decide (0<=(c.Bb.length:Int)/\(c.Bb.length:Int)=(c.Bb.length:Int)/\(c.Bb.length:Int)<=(c.Bb.length:Int)))<|
 ck (decide ([(A8.mk c.Now d)]≠ []/\((c.Bb.take ((c.Bb.length:Int)).toNat).length+ [(A8.mk c.Now d)].length)*16<=140737488355328))<|
 some ((C8.mk c.W c.Cap c.Now ((c.Bb.take ((c.Bb.length:Int)).toNat)++ [(A8.mk c.Now d)])),0)
def A9f (f:E4) (h:Int) (g:List Int) (d c:Int) (a:List B7):Option ((Int×Int×(List B7))⊕(E4×Int)):=
 cond (decide (c<(f.Am.length:Int))) (
  Option.bind (C1 f.Am c) fun e=>
  Option.bind (A9S e h g d) fun b=>
  cond (b.2.2 !=0) (
   some (.inr ((E4.mk []),b.2.2)))<|
  ck (decide ((a.length+ [b.1].length)*56<=140737488355328))<|
  some (.inl (b.2.1,(A1 (c+1)),(a++ [b.1]))))<|
 Option.map Sum.inr (cond (decide (d<(g.length:Int))) (
  some ((E4.mk []),8))<|
 some ((E4.mk a),0))
def B5S (d:E4) (e:Int) (f:List Int) (b c:Int) (a:List B7):Option (E4×Int):=
 loop (fun (s:(Int×Int×(List B7)))=>A9f d e f s.1 s.2.1 s.2.2) (b,c,a)
def B1B (b:E4) (c:Int) (d:List Int):Option (E4×Int):=
 Option.bind (N4 b) fun a=>
 cond (a !=0) (
  some ((E4.mk []),a))<|
 B5S b c d 0 0 ([]:List B7)
def B5N (e:List A6) (f g d:Int) (b:List A6) (c:Int):Option (((List A6)×Int)⊕(List A6)):=
 cond (decide (c<(e.length:Int))) (
  Option.bind (C1 e c) fun a=>
  ck (decide ((b.length+ [(A6.mk a.Bv a.T (A1 (a.N+1)) (A1 (a.S+d)) (A1 (a.Q+(A1 (d*d)))) (A0h a.Bt d) (X8 a.Bs d))].length)*56<=140737488355328))<|
  some (.inl ((b++ [(A6.mk a.Bv a.T (A1 (a.N+1)) (A1 (a.S+d)) (A1 (a.Q+(A1 (d*d)))) (A0h a.Bt d) (X8 a.Bs d))]),(A1 (c+1)))))<|
 Option.map Sum.inr (ck (decide ((b.length+ [(A6.mk f g 1 d (A1 (d*d)) d d)].length)*56<=140737488355328))<|
 some (b++ [(A6.mk f g 1 d (A1 (d*d)) d d)]))
def B6E (c:List A6) (d e f:Int) (b:List A6) (a:Int):Option (List A6):=
 loop (fun (s:((List A6)×Int))=>B5N c d e f s.1 s.2) (b,a)
def A90 (a:List A6) (b c d:Int):Option (List A6):=
 B6E a b c d ([]:List A6) 0
def B3v (i j:A6) (b d c e f g:Int) (h:List A6):Bool:=
 let a:=(M3 i j b c);
 a
def A4Z (o:List A6) (h i j k l m:Int) (n:List A6) (c:A6) (d:List A6) (b a:Int):Option (Int⊕(((List A6)×Int)⊕(List A6))):=
 cond (decide (a>b)) (
  Option.bind (C1 o b) fun e=>
  Option.bind (C1 o a) fun f=>
  let g:=(B3v e f h i j k l m n);
  cond g (
   Option.map Sum.inr (some (.inl ((d++ [c]),a))))<|
  some (.inl (A1 (a-1))))<|
 Option.map Sum.inr (some (.inl ((d++ [c]),(A1 (b+1)))))
def A6a (l:List A6) (e f g h i j:Int) (k:List A6) (a:A6) (b:List A6) (c d:Int):Option (((List A6)×Int)⊕(List A6)):=
 loop (fun (s:Int)=>A4Z l e f g h i j k a b c s) d
def A4Y (d:List A6) (e f g h i j:Int) (k a:List A6) (b:Int):Option (((List A6)×Int)⊕(List A6)):=
 cond (decide (b<(d.length:Int))) (
  Option.bind (C1 d b) fun c=>
  ck (decide ((a.length+ [c].length)*56<=140737488355328))<|
  A6a d e f g h i j k c a b (A1 ((d.length:Int)-(1:Int))))<|
 Option.map Sum.inr (some a)
def B0Y (j:List A6) (c d e f g h:Int) (i a:List A6) (b:Int):Option (List A6):=
 loop (fun (s:((List A6)×Int))=>A4Y j c d e f g h i s.1 s.2) (a,b)
def A5x (h:List A6) (a b c d e f:Int) (g:List A6):Option (List A6):=
 B0Y h a b c d e f g ([]:List A6) 0
def A5J (f:C9) (g:Int):Option (C9×Int):=
 Option.bind (Z2 (C9.mk f.Bo f.W f.K f.Cap f.Now f.Bv f.Bf)) fun a=>
 cond (a !=0) (
  some ((C9.mk 0 0 0 0 0 0 []),a))<|
 let b:=(S8 f.Bo);
 cond ((decide (g<b))||(decide (g>4096))) (
  some ((C9.mk 0 0 0 0 0 0 []),4))<|
 Option.bind (gd (decide ((f.Bf.length:Int)>(0:Int))) (C1 f.Bf 0)) fun c=>
 cond (((decide ((f.Bf.length:Int)>(0:Int)))&&(c.N==f.Cap))||(f.Bv==1099511627776)) (
  some ((C9.mk 0 0 0 0 0 0 []),5))<|
 Option.bind (A90 f.Bf (A1 (f.Bv+1)) f.Now g) fun d=>
 Option.bind (A5x d f.Bo f.W f.K f.Cap f.Now (A1 (f.Bv+1)) f.Bf) fun e=>
 some ((C9.mk f.Bo f.W f.K f.Cap f.Now (A1 (f.Bv+1)) e),0)
def A8m (h i:A6) (c b d e f:Int) (g:List A6):Option Bool:=
 Option.bind (A5d h i b) fun a=>
 some a
def A41 (n:List A6) (h i j k l:Int) (m:List A6) (c:A6) (d:List A6) (b a:Int):Option (Int⊕(((List A6)×Int)⊕(List A6))):=
 cond (decide (a>b)) (
  Option.bind (C1 n b) fun e=>
  Option.bind (C1 n a) fun f=>
  Option.bind (A8m e f h i j k l m) fun g=>
  cond g (
   Option.map Sum.inr (some (.inl ((d++ [c]),a))))<|
  some (.inl (A1 (a-1))))<|
 Option.map Sum.inr (some (.inl ((d++ [c]),(A1 (b+1)))))
def A6b (k:List A6) (e f g h i:Int) (j:List A6) (a:A6) (b:List A6) (c d:Int):Option (((List A6)×Int)⊕(List A6)):=
 loop (fun (s:Int)=>A41 k e f g h i j a b c s) d
def A40 (d:List A6) (e f g h i:Int) (j a:List A6) (b:Int):Option (((List A6)×Int)⊕(List A6)):=
 cond (decide (b<(d.length:Int))) (
  Option.bind (C1 d b) fun c=>
  ck (decide ((a.length+ [c].length)*56<=140737488355328))<|
  A6b d e f g h i j c a b (A1 ((d.length:Int)-(1:Int))))<|
 Option.map Sum.inr (some a)
def B0Z (i:List A6) (c d e f g:Int) (h a:List A6) (b:Int):Option (List A6):=
 loop (fun (s:((List A6)×Int))=>A40 i c d e f g h s.1 s.2) (a,b)
def A5y (g:List A6) (a b c d e:Int) (f:List A6):Option (List A6):=
 B0Z g a b c d e f ([]:List A6) 0
def A5M (e:D1) (f:Int):Option (D1×Int):=
 Option.bind (Z3 (D1.mk e.W e.K e.Cap e.Now e.Bv e.Bf)) fun a=>
 cond (a !=0) (
  some ((D1.mk 0 0 0 0 0 []),a))<|
 cond ((decide (f<(-4096:Int)))||(decide (f>4096))) (
  some ((D1.mk 0 0 0 0 0 []),4))<|
 Option.bind (gd (decide ((e.Bf.length:Int)>(0:Int))) (C1 e.Bf 0)) fun b=>
 cond (((decide ((e.Bf.length:Int)>(0:Int)))&&(b.N==e.Cap))||(e.Bv==1099511627776)) (
  some ((D1.mk 0 0 0 0 0 []),5))<|
 Option.bind (A90 e.Bf (A1 (e.Bv+1)) e.Now f) fun c=>
 Option.bind (A5y c e.W e.K e.Cap e.Now (A1 (e.Bv+1)) e.Bf) fun d=>
 some ((D1.mk e.W e.K e.Cap e.Now (A1 (e.Bv+1)) d),0)
def B1W (d:F0) (e:Int):Option (F0×Int):=
 Option.bind (A1U d) fun a=>
 cond (a !=0) (
  some ((F0.mk 0 0 0 0 0 []),a))<|
 cond ((decide (e<0))||(decide (e>d.Bs))) (
  some ((F0.mk 0 0 0 0 0 []),4))<|
 Option.bind (K8 d.Ad) fun b=>
 cond (decide (b>(A1 (d.Cap-e)))) (
  some ((F0.mk 0 0 0 0 0 []),5))<|
 Option.bind (A4Q d.Ad d.K d.Now e) fun c=>
 some ((F0.mk d.W d.K d.Cap d.Bs d.Now c),0)
def A0j (m:Int) (c:List D9) (a:Int):Option (((List D9)×Int)⊕(List D9)):=
 cond (decide (a>=1)) (
  Option.bind (C1 c (A1 (a+1))) fun i=>
  Option.bind (C1 c (A1 (a+1))) fun f=>
  Option.bind (C1 c a) fun j=>
  Option.bind (C1 c a) fun g=>
  cond (decide ((A1 ((A1 (g.G+f.G))+f.D))<=m)) (
   Option.bind (C1 c (A1 (a+1))) fun k=>
   Option.bind (C1 c (A1 (a+1))) fun e=>
   Option.bind (C1 c a) fun l=>
   Option.bind (C1 c a) fun d=>
   Option.bind (C1 c (A1 (a+1))) fun h=>
   Option.bind (C1 c (A1 (a+1))) fun b=>
   ck (decide (0<=a/\a<=((c.set ((A1 (a+(1:Int)))).toNat (D9.mk b.V (A1 (e.G+d.G)) b.D)).length:Int)))<|
   ck (decide (0<=(A1 (a+1))/\(A1 (a+1))<=((c.set ((A1 (a+(1:Int)))).toNat (D9.mk b.V (A1 (e.G+d.G)) b.D)).length:Int)))<|
   ck (decide (0<(a).toNat/\(a).toNat+(((c.set ((A1 (a+(1:Int)))).toNat (D9.mk b.V (A1 (e.G+d.G)) b.D)).drop ((A1 (a+(1:Int)))).toNat).take ((c.set ((A1 (a+(1:Int)))).toNat (D9.mk b.V (A1 (e.G+d.G)) b.D)).length-((A1 (a+(1:Int)))).toNat)).length<=(c.set ((A1 (a+(1:Int)))).toNat (D9.mk b.V (A1 (e.G+d.G)) b.D)).length))<|
   some (.inl (((c.set ((A1 (a+(1:Int)))).toNat (D9.mk b.V (A1 (e.G+d.G)) b.D)).take (a).toNat++(((c.set ((A1 (a+(1:Int)))).toNat (D9.mk b.V (A1 (e.G+d.G)) b.D)).drop ((A1 (a+(1:Int)))).toNat).take ((c.set ((A1 (a+(1:Int)))).toNat (D9.mk b.V (A1 (e.G+d.G)) b.D)).length-((A1 (a+(1:Int)))).toNat))),(A1 (a-1)))))<|
  some (.inl (c,(A1 (a-1)))))<|
 Option.map Sum.inr (some c)
def A6B (c:Int) (a:List D9) (b:Int):Option (List D9):=
 loop (fun (s:((List D9)×Int))=>A0j c s.1 s.2) (a,b)
def A2d (a:List D9) (b:Int):Option (List D9):=
 A6B b a (A1 ((a.length:Int)-(2:Int)))
def A22 (b:B9) (a:List D9):Option (B9×Int):=
 cond (decide ((a.length:Int)>b.Cap)) (
  some ((B9.mk 0 0 0 []),5))<|
 some ((B9.mk b.K b.Cap (A1 (b.N+1)) a),0)
def A1q (e:B9) (f a b:Int):Option (B9×Int):=
 ck (decide (0<=a/\a<=(e.Av.length:Int)))<|
 ck (decide ((([]:List D9).length+(e.Av.take (a).toNat).length)*24<=140737488355328))<|
 ck (decide (((([]:List D9)++(e.Av.take (a).toNat)).length+ [(D9.mk f 1 b)].length)*24<=140737488355328))<|
 ck (decide (0<=a/\a<=(e.Av.length:Int)))<|
 ck (decide ((((([]:List D9)++(e.Av.take (a).toNat))++ [(D9.mk f 1 b)]).length+(e.Av.drop (a).toNat).length)*24<=140737488355328))<|
 cond (decide (((((([]:List D9)++(e.Av.take (a).toNat))++ [(D9.mk f 1 b)])++(e.Av.drop (a).toNat)).length:Int)>e.Cap)) (
  Option.bind (A3t (A1 (e.N+1)) e.K) fun c=>
  Option.bind (A2d (((([]:List D9)++(e.Av.take (a).toNat))++ [(D9.mk f 1 b)])++(e.Av.drop (a).toNat)) c) fun d=>
  A22 e d)<|
 A22 e (((([]:List D9)++(e.Av.take (a).toNat))++ [(D9.mk f 1 b)])++(e.Av.drop (a).toNat))
def A97 (e:B9) (f a:Int):Option (Int⊕(B9×Int)):=
 Option.bind (gd (decide (a<(e.Av.length:Int))) (C1 e.Av a)) fun d=>
 cond ((decide (a<(e.Av.length:Int)))&&(decide (d.V<=f))) (
  some (.inl (A1 (a+1))))<|
 Option.map Sum.inr (cond ((decide (a>0))&&(decide (a<(e.Av.length:Int)))) (
  Option.bind (C1 e.Av a) fun b=>
  Option.bind (C1 e.Av a) fun c=>
  A1q e f a (A1 ((A1 (b.G+c.D))-1)))<|
 A1q e f a 0)
def A6k (b:B9) (c a:Int):Option (B9×Int):=
 loop (fun (s:Int)=>A97 b c s) a
def A5P (b:B9) (c:Int):Option (B9×Int):=
 Option.bind (X1 b) fun a=>
 cond (a !=0) (
  some ((B9.mk 0 0 0 []),a))<|
 cond ((decide (c<(-4096:Int)))||(decide (c>4096))) (
  some ((B9.mk 0 0 0 []),4))<|
 cond (b.N==1099511627776) (
  some ((B9.mk 0 0 0 []),5))<|
 A6k b c 0
def A1V (n:A7) (i:C8) (a:E1) (b:F0) (c:C9) (d:D1) (e:E0) (j:Int) (k:List Int) (f:B8) (l:List B7) (g:B9) (h:C3) (m:Int):Option (A7×Int):=
 cond (m !=0) (
  some ((A7.mk (B5.mk 0 0 0 0 0 0 0 0) (C8.mk 0 0 0 []) (E1.mk 0 0 0 0 []) (F0.mk 0 0 0 0 0 []) (C9.mk 0 0 0 0 0 0 []) (D1.mk 0 0 0 0 0 []) (E0.mk 0 0 0 []) (F1.mk 0 []) (B8.mk false 0 0 0 []) (E4.mk []) (B9.mk 0 0 0 []) (C3.mk 0 0 0 0 [])),m))<|
 some ((A7.mk n.Ao i a b c d e (F1.mk j k) f (E4.mk l) g h),0)
def L2 (n:A7) (o:List Int) (m:Int) (i:C8) (a:E1) (b:F0) (c:C9) (d:D1) (e:E0) (j:Int) (k:List Int) (f:B8) (l:List B7) (g:B9) (h:C3):Option (A7×Int):=
 cond (((m==0)&&(n.Ao.Bi !=9))&&(decide ((o.length:Int)>(0:Int)))) (
  A1V n i a b c d e j k f l g h 8)<|
 A1V n i a b c d e j k f l g h m
def W5 (m:A7) (o:Int) (n:List Int):Option (A7×Int):=
 Option.bind (K1 m) fun b=>
 cond (b !=0) (
  some ((A7.mk (B5.mk 0 0 0 0 0 0 0 0) (C8.mk 0 0 0 []) (E1.mk 0 0 0 0 []) (F0.mk 0 0 0 0 0 []) (C9.mk 0 0 0 0 0 0 []) (D1.mk 0 0 0 0 0 []) (E0.mk 0 0 0 []) (F1.mk 0 []) (B8.mk false 0 0 0 []) (E4.mk []) (B9.mk 0 0 0 []) (C3.mk 0 0 0 0 [])),b))<|
 cond (m.Ao.Bi==1) (
  Option.bind (A5E m.Aq o) fun l=>
  L2 m n l.2 l.1 m.Ay m.Sum m.As m.Au m.Bm m.Ba.Now m.Ba.Bn m.Af m.Ar.Am m.Ai m.Ab)<|
 cond (m.Ao.Bi==2) (
  cond ((decide (o<(-4096:Int)))||(decide (o>4096))) (
   some ((A7.mk (B5.mk 0 0 0 0 0 0 0 0) (C8.mk 0 0 0 []) (E1.mk 0 0 0 0 []) (F0.mk 0 0 0 0 0 []) (C9.mk 0 0 0 0 0 0 []) (D1.mk 0 0 0 0 0 []) (E0.mk 0 0 0 []) (F1.mk 0 []) (B8.mk false 0 0 0 []) (E4.mk []) (B9.mk 0 0 0 []) (C3.mk 0 0 0 0 [])),4))<|
  Option.bind (A2y m.Ay) fun c=>
  L2 m n c.2 m.Aq c.1 m.Sum m.As m.Au m.Bm m.Ba.Now m.Ba.Bn m.Af m.Ar.Am m.Ai m.Ab)<|
 cond (m.Ao.Bi==3) (
  Option.bind (B1W m.Sum o) fun d=>
  L2 m n d.2 m.Aq m.Ay d.1 m.As m.Au m.Bm m.Ba.Now m.Ba.Bn m.Af m.Ar.Am m.Ai m.Ab)<|
 cond (m.Ao.Bi==4) (
  Option.bind (A5J m.As o) fun e=>
  L2 m n e.2 m.Aq m.Ay m.Sum e.1 m.Au m.Bm m.Ba.Now m.Ba.Bn m.Af m.Ar.Am m.Ai m.Ab)<|
 cond (m.Ao.Bi==5) (
  Option.bind (A5M m.Au o) fun f=>
  L2 m n f.2 m.Aq m.Ay m.Sum m.As f.1 m.Bm m.Ba.Now m.Ba.Bn m.Af m.Ar.Am m.Ai m.Ab)<|
 cond (m.Ao.Bi==6) (
  Option.bind (A9b m.Bm o) fun g=>
  L2 m n g.2 m.Aq m.Ay m.Sum m.As m.Au g.1 m.Ba.Now m.Ba.Bn m.Af m.Ar.Am m.Ai m.Ab)<|
 cond (m.Ao.Bi==7) (
  Option.bind (A7u m.Ba o) fun a=>
  L2 m n a.2 m.Aq m.Ay m.Sum m.As m.Au m.Bm a.1.Now a.1.Bn m.Af m.Ar.Am m.Ai m.Ab)<|
 cond (m.Ao.Bi==8) (
  Option.bind (A4k m.Af o) fun h=>
  L2 m n h.2 m.Aq m.Ay m.Sum m.As m.Au m.Bm m.Ba.Now m.Ba.Bn h.1 m.Ar.Am m.Ai m.Ab)<|
 cond (m.Ao.Bi==9) (
  Option.bind (B1B m.Ar o n) fun i=>
  L2 m n i.2 m.Aq m.Ay m.Sum m.As m.Au m.Bm m.Ba.Now m.Ba.Bn m.Af i.1.Am m.Ai m.Ab)<|
 cond (m.Ao.Bi==10) (
  Option.bind (A5P m.Ai o) fun j=>
  L2 m n j.2 m.Aq m.Ay m.Sum m.As m.Au m.Bm m.Ba.Now m.Ba.Bn m.Af m.Ar.Am j.1 m.Ab)<|
 cond (m.Ao.Bi==11) (
  Option.bind (A3p m.Ab o) fun k=>
  L2 m n k.2 m.Aq m.Ay m.Sum m.As m.Au m.Bm m.Ba.Now m.Ba.Bn m.Af m.Ar.Am m.Ai k.1)<|
 L2 m n b m.Aq m.Ay m.Sum m.As m.Au m.Bm m.Ba.Now m.Ba.Bn m.Af m.Ar.Am m.Ai m.Ab
def A3K (d:D6):Option (Int×D6):=
 Option.bind (A1k d) fun c=>
 cond (!c.2) (
  some (11,d))<|
 cond (d.command_.T !=d.Ap.Now) (
  some (3,d))<|
 Option.bind (W5 c.1 d.command_.V d.command_.Az) fun a=>
 cond (a.2 !=0) (
  some (a.2,d))<|
 Option.bind (A3U d.Ap.Ah (B0.mk d.command_.ID a.1)) fun b=>
 cond (b.2 !=0) (
  some (b.2,d))<|
 some (0,(D6.mk (D4.mk d.Ap.Now d.Ap.Bd b.1) d.command_ d.reply_))
def A9x (c:B8):Option (Int×Int):=
 Option.bind (X0 c) fun a=>
 cond (a !=0) (
  some (0,a))<|
 cond ((c.Bb.length:Int)==(0:Int)) (
  some (0,7))<|
 Option.bind (C1 c.Bb 0) fun b=>
 some (b.V,0)
def A3C (d:A2) (c:Int):Option (A2×Bool):=
 cond (decide (c<0)) (
  some ((A2.mk 0 0),false))<|
 let a:=(N9 d);
 cond a (
  some (d,true))<|
 Option.bind (A7G d) fun b=>
 cond (decide (c>(A1 (128-b)))) (
  some ((A2.mk 0 0),false))<|
 cond (decide (c>=64)) (
  ck (decide (0<=(A4 (A1 (c-64)))))<|
  some ((A2.mk (E7 .u64 d.Lo (A4 (A1 (c-64)))) 0),true))<|
 ck (decide (0<=(A4 c)))<|
 ck (decide (0<=(A4 (A1 (64-c)))))<|
 ck (decide (0<=(A4 c)))<|
 some ((A2.mk (Q6 .u64 (E7 .u64 d.Hi (A4 c)) (F8 .u64 d.Lo (A4 (A1 (64-c))))) (E7 .u64 d.Lo (A4 c))),true)
def B5M (j:F1) (c a b:Int):Option ((Int×Int×Int)⊕(D8×Int)):=
 cond (decide (c<(j.Bn.length:Int))) (
  Option.bind (C1 j.Bn c) fun g=>
  Option.bind (A3C (A2.mk a b) 1) fun h=>
  let i:=(J8 (A4 g));
  Option.bind (A32 h.1 i) fun d=>
  some (.inl ((A1 (c+1)),d.1.Hi,d.1.Lo)))<|
 Option.map Sum.inr (let e:=(J8 1);
 Option.bind (A3C e (A1 ((j.Bn.length:Int)-(1:Int)))) fun f=>
 some ((D8.mk (A2.mk a b) f.1),0))
def B2e (d:F1) (c a b:Int):Option (D8×Int):=
 loop (fun (s:(Int×Int×Int))=>B5M d s.1 s.2.1 s.2.2) (c,a,b)
def B3d (b:F1):Option (D8×Int):=
 Option.bind (A0t b) fun a=>
 cond (a !=0) (
  some ((D8.mk (A2.mk 0 0) (A2.mk 0 0)),a))<|
 B2e b 0 0 0
def B5b (d:E0):Option (D8×Int):=
 Option.bind (A1e d) fun a=>
 cond (a !=0) (
  some ((D8.mk (A2.mk 0 0) (A2.mk 0 0)),a))<|
 Option.bind (B2L (A4 (A1 ((A1 (d.Now-d.Bj))+1))) d.P) fun b=>
 Option.bind (C1 d.Ag d.P) fun c=>
 some ((D8.mk c b.1),0)
def A6W (c:C3) (d:Int):Option (C5×Int):=
 Option.bind (T2 c) fun a=>
 cond (a !=0) (
  some ((C5.mk (A5.mk 0 0) (A5.mk 0 0) (A5.mk 0 0)),a))<|
 Option.bind (B3G c.Ak d) fun b=>
 some (b.1,b.2)
def A5A (c:C3) (d e:Int):Option (Int×Int):=
 Option.bind (T2 c) fun a=>
 cond (a !=0) (
  some (0,a))<|
 Option.bind (A7I c.Ak d e) fun b=>
 some (b.1,b.2)
def B7Z (a:List A8):Int:=
 (a.length:Int)
def A9W (d:List A8) (b a:Int):Option ((Int×Int)⊕(Int×Bool)):=
 cond (decide (a<(d.length:Int))) (
  Option.bind (C1 d a) fun c=>
  some (.inl ((X8 b c.V),(A1 (a+1)))))<|
 Option.map Sum.inr (some (b,true))
def A57 (c:List A8) (b a:Int):Option (Int×Bool):=
 loop (fun (s:(Int×Int))=>A9W c s.1 s.2) (b,a)
def A3h (b:List A8):Option (Int×Bool):=
 cond ((b.length:Int)==(0:Int)) (
  some (0,false))<|
 Option.bind (C1 b 0) fun a=>
 A57 b a.V 0
def B28 (d:List A8) (b a:Int):Option ((Int×Int)⊕(Int×Bool)):=
 cond (decide (a<(d.length:Int))) (
  Option.bind (C1 d a) fun c=>
  some (.inl ((A0h b c.V),(A1 (a+1)))))<|
 Option.map Sum.inr (some (b,true))
def A86 (c:List A8) (b a:Int):Option (Int×Bool):=
 loop (fun (s:(Int×Int))=>B28 c s.1 s.2) (b,a)
def A6s (b:List A8):Option (Int×Bool):=
 cond ((b.length:Int)==(0:Int)) (
  some (0,false))<|
 Option.bind (C1 b 0) fun a=>
 A86 b a.V 0
def A2D (g:List A8) (a:Int) (b:List Int) (c:Int):Option (((List Int)×Int)⊕(Int×Bool)):=
 cond (decide (c<(g.length:Int))) (
  Option.bind (C1 g c) fun d=>
  ck (decide ((b.length+ [d.V].length)*8<=140737488355328))<|
  some (.inl ((b++ [d.V]),(A1 (c+1)))))<|
 Option.map Sum.inr (ck (decide (b.length<4611686018427387904))<|
 Option.bind (C1 (A08 b) (A1 ((X8 (A1 a) (1:Int))-(1:Int)))) fun f=>
 Option.bind (C1 (A08 b) (A1 ((X8 (A1 a) (1:Int))-(1:Int)))) fun e=>
 some (e,true))
def B0V (d:List A8) (a:Int) (b:List Int) (c:Int):Option (Int×Bool):=
 loop (fun (s:((List Int)×Int))=>A2D d a s.1 s.2) (b,c)
def Z7 (b:List A8) (a:Int):Option (Int×Bool):=
 B0V b a ([]:List Int) 0
def A3i (d:List A8) (e f:Int):Option (Int×Bool):=
 cond (((((d.length:Int)==(0:Int))||(decide (f<1)))||(decide (e<0)))||(decide (e>f))) (
  some (0,false))<|
 let b:=(P3 (A4 e) (A4 (d.length:Int)));
 let c:=(J8 (A4 f));
 Option.bind (A1Y b c) fun a=>
 cond (!(a.2.1.Hi==0&&(a.2.1.Lo==0&&true))) (
  Z7 d (A4 (a.1.Lo+1)))<|
 Z7 d a.1.Lo
def A87 (d:List A8) (e b a:Int):Option ((Int×Int)⊕Int):=
 cond (decide (a<(d.length:Int))) (
  Option.bind (C1 d a) fun c=>
  cond (decide (c.V<=e)) (
   some (.inl ((A1 (b+1)),(A1 (a+1)))))<|
  some (.inl (b,(A1 (a+1)))))<|
 Option.map Sum.inr (some b)
def B5K (c:List A8) (d b a:Int):Option Int:=
 loop (fun (s:(Int×Int))=>A87 c d s.1 s.2) (b,a)
def B1g (a:List A8) (b:Int):Option Int:=
 B5K a b 0 0
def A43 (b:Int):Option Int:=
 Option.bind (W1 b) fun a=>
 some (A1 (64-a))
def A0P (f d e a b c:Int):Option (Int×Int):=
 ck (decide (0<=(A4 a)))<|
 some ((A4 ((A4 (b*4294967296))+c)),(F8 .u64 (A4 ((A4 ((A4 ((A4 ((A4 ((A4 ((Q6 .u64 (E7 .u64 f (A4 a)) (F8 .u64 d (A4 (64-(A4 a)))))*4294967296))+(F8 .u64 (E7 .u64 d (A4 a)) 32)))-(A4 (b*(E7 .u64 e (A4 a))))))*4294967296))+(S2 .u64 (E7 .u64 d (A4 a)) 4294967295)))-(A4 (c*(E7 .u64 e (A4 a)))))) (A4 a)))
def A1v (g f e b d c a:Int):Option ((Int×Int)⊕(Int×Int)):=
 cond ((decide (a>=4294967296))||(decide ((A4 (a*(S2 .u64 (E7 .u64 e (A4 b)) 4294967295)))>(A4 ((A4 (4294967296*c))+(S2 .u64 (E7 .u64 f (A4 b)) 4294967295)))))) (
  cond (decide ((A4 (c+(F8 .u64 (E7 .u64 e (A4 b)) (32:Int))))>=(4294967296:Int))) (
   Option.map Sum.inr (A0P g f e b d (A4 (a-1))))<|
  some (.inl ((A4 (c+(F8 .u64 (E7 .u64 e (A4 b)) 32))),(A4 (a-1)))))<|
 Option.map Sum.inr (A0P g f e b d a)
def A4r (e f g d c a b:Int):Option (Int×Int):=
 loop (fun (s:(Int×Int))=>A1v e f g d c s.1 s.2) (a,b)
def A0O (e d c a b:Int):Option (Int×Int):=
 ck (decide ((F8 .u64 (E7 .u64 c (A4 a)) (32:Int))≠0))<|
 A4r e d c a b (A4 ((A4 ((A4 ((A4 ((Q6 .u64 (E7 .u64 e (A4 a)) (F8 .u64 d (A4 (64-(A4 a)))))*4294967296))+(F8 .u64 (E7 .u64 d (A4 a)) 32)))-(A4 (b*(E7 .u64 c (A4 a))))))-(A4 ((A4 (Int.tdiv (A4 ((A4 ((A4 ((Q6 .u64 (E7 .u64 e (A4 a)) (F8 .u64 d (A4 (64-(A4 a)))))*4294967296))+(F8 .u64 (E7 .u64 d (A4 a)) 32)))-(A4 (b*(E7 .u64 c (A4 a)))))) (F8 .u64 (E7 .u64 c (A4 a)) 32)))*(F8 .u64 (E7 .u64 c (A4 a)) 32))))) (A4 (Int.tdiv (A4 ((A4 ((A4 ((Q6 .u64 (E7 .u64 e (A4 a)) (F8 .u64 d (A4 (64-(A4 a)))))*4294967296))+(F8 .u64 (E7 .u64 d (A4 a)) 32)))-(A4 (b*(E7 .u64 c (A4 a)))))) (F8 .u64 (E7 .u64 c (A4 a)) 32)))
def A13 (f e d b a c:Int):Option ((Int×Int)⊕(Int×Int)):=
 cond ((decide (a>=4294967296))||(decide ((A4 (a*(S2 .u64 (E7 .u64 d (A4 b)) 4294967295)))>(A4 ((A4 (4294967296*c))+(F8 .u64 (E7 .u64 e (A4 b)) 32)))))) (
  cond (decide ((A4 (c+(F8 .u64 (E7 .u64 d (A4 b)) (32:Int))))>=(4294967296:Int))) (
   Option.map Sum.inr (A0O f e d b (A4 (a-1))))<|
  some (.inl ((A4 (a-1)),(A4 (c+(F8 .u64 (E7 .u64 d (A4 b)) 32))))))<|
 Option.map Sum.inr (A0O f e d b a)
def A42 (d e f c a b:Int):Option (Int×Int):=
 loop (fun (s:(Int×Int))=>A13 d e f c s.1 s.2) (a,b)
def A05 (c d b:Int):Option (Int×Int):=
 cond (b==0) (
  none)<|
 cond (decide (b<=c)) (
  none)<|
 cond (c==0) (
  ck (decide (b≠0))<|
  ck (decide (b≠0))<|
  some ((A4 (Int.tdiv d b)),(Int.tmod d b)))<|
 Option.bind (A43 b) fun a=>
 ck (decide (0<=(A4 a)))<|
 ck (decide (0<=(A4 a)))<|
 ck (decide (0<=(A4 (64-(A4 a)))))<|
 ck (decide (0<=(A4 a)))<|
 ck (decide ((F8 .u64 (E7 .u64 b (A4 a)) (32:Int))≠0))<|
 A42 c d b a (A4 (Int.tdiv (Q6 .u64 (E7 .u64 c (A4 a)) (F8 .u64 d (A4 (64-(A4 a))))) (F8 .u64 (E7 .u64 b (A4 a)) 32))) (A4 ((Q6 .u64 (E7 .u64 c (A4 a)) (F8 .u64 d (A4 (64-(A4 a)))))-(A4 ((A4 (Int.tdiv (Q6 .u64 (E7 .u64 c (A4 a)) (F8 .u64 d (A4 (64-(A4 a))))) (F8 .u64 (E7 .u64 b (A4 a)) 32)))*(F8 .u64 (E7 .u64 b (A4 a)) 32)))))
def Y2 (l g e a b c d:Int):Option ((Int×Int×Int×Int×Int×Int)⊕(H3×Int)):=
 cond (decide (e>=0)) (
  Option.bind (C1 [a,b,c,d] e) fun k=>
  Option.bind (C1 [a,b,c,d] e) fun h=>
  Option.bind (A05 g h l) fun f=>
  Option.bind (C1 [a,b,c,d] e) fun i=>
  Option.bind (C1 [a,b,c,d] e) fun j=>
  some (.inl (f.2,(A1 (e-1)),(if (e).toNat=0 then f.1 else a),(if (e).toNat=1 then f.1 else b),(if (e).toNat=2 then f.1 else c),(if (e).toNat=3 then f.1 else d))))<|
 Option.map Sum.inr (some ((H3.mk a b c d),g))
def B70 (g e f a b c d:Int):Option (H3×Int):=
 loop (fun (s:(Int×Int×Int×Int×Int×Int))=>Y2 g s.1 s.2.1 s.2.2.1 s.2.2.2.1 s.2.2.2.2.1 s.2.2.2.2.2) (e,f,a,b,c,d)
def B19 (a:H3) (b:Int):Option (H3×Int):=
 B70 b 0 3 a.e0 a.e1 a.e2 a.e3
def T8 (n:H3) (g e a b c d:Int):Option ((Int×Int×Int×Int×Int×Int)⊕H3):=
 cond (decide (e<4)) (
  Option.bind (C1 [a,b,c,d] e) fun l=>
  Option.bind (C1 [a,b,c,d] e) fun h=>
  Option.bind (C1 [n.e0,n.e1,n.e2,n.e3] e) fun m=>
  Option.bind (C1 [n.e0,n.e1,n.e2,n.e3] e) fun i=>
  Option.bind (O6 h i g) fun f=>
  Option.bind (C1 [a,b,c,d] e) fun j=>
  Option.bind (C1 [a,b,c,d] e) fun k=>
  some (.inl (f.2,(A1 (e+1)),(if (e).toNat=0 then f.1 else a),(if (e).toNat=1 then f.1 else b),(if (e).toNat=2 then f.1 else c),(if (e).toNat=3 then f.1 else d))))<|
 Option.map Sum.inr (some (H3.mk a b c d))
def B4f (g:H3) (e f a b c d:Int):Option H3:=
 loop (fun (s:(Int×Int×Int×Int×Int×Int))=>T8 g s.1 s.2.1 s.2.2.1 s.2.2.2.1 s.2.2.2.2.1 s.2.2.2.2.2) (e,f,a,b,c,d)
def A6t (a b:H3):Option H3:=
 B4f b 0 0 a.e0 a.e1 a.e2 a.e3
def Y3 (h g a b c d e:Int):Option ((Int×Int×Int×Int×Int×Int×Int)⊕H3):=
 cond (decide (a<4)) (
  Option.bind (C1 [b,c,d,e] a) fun l=>
  Option.bind (C1 [b,c,d,e] a) fun i=>
  Option.bind (N2 i h g) fun f=>
  Option.bind (C1 [b,c,d,e] a) fun j=>
  Option.bind (C1 [b,c,d,e] a) fun k=>
  some (.inl (0,f.2,(A1 (a+1)),(if (a).toNat=0 then f.1 else b),(if (a).toNat=1 then f.1 else c),(if (a).toNat=2 then f.1 else d),(if (a).toNat=3 then f.1 else e))))<|
 Option.map Sum.inr (some (H3.mk b c d e))
def A4q (g e f a b c d:Int):Option H3:=
 loop (fun (s:(Int×Int×Int×Int×Int×Int×Int))=>Y3 s.1 s.2.1 s.2.2.1 s.2.2.2.1 s.2.2.2.2.1 s.2.2.2.2.2.1 s.2.2.2.2.2.2) (g,e,f,a,b,c,d)
def I6 (g:H3) (i j h:Int):Option H3:=
 let b:=(Q7 i j);
 Option.bind (C1 [g.e0,g.e1,g.e2,g.e3] h) fun f=>
 Option.bind (C1 [g.e0,g.e1,g.e2,g.e3] h) fun c=>
 Option.bind (N2 c b.2 0) fun a=>
 Option.bind (C1 [g.e0,g.e1,g.e2,g.e3] h) fun d=>
 Option.bind (C1 [g.e0,g.e1,g.e2,g.e3] h) fun e=>
 A4q b.1 a.2 (A1 (h+1)) (if (h).toNat=0 then a.1 else g.e0) (if (h).toNat=1 then a.1 else g.e1) (if (h).toNat=2 then a.1 else g.e2) (if (h).toNat=3 then a.1 else g.e3)
def Y4 (a:Int):Int:=
 cond (decide (a<0)) (
  (IntKind.u64.wrap (0-(A4 a))))<|
 (A4 a)
def B2M (c d:A2):Option (A2×Bool):=
 Option.bind (O6 c.Lo d.Lo 0) fun a=>
 Option.bind (O6 c.Hi d.Hi a.2) fun b=>
 cond (b.2 !=0) (
  some ((A2.mk 0 0),false))<|
 some ((A2.mk b.1 a.1),true)
def A7Y (p:List A8) (e a b c d:Int):Option ((Int×Int×Int×Int×Int)⊕(Bool×A2)):=
 cond (decide (e<(p.length:Int))) (
  Option.bind (C1 p e) fun f=>
  cond (decide (f.V<0)) (
   let k:=(Y4 f.V);
   let l:=(J8 k);
   Option.bind (A32 (A2.mk c d) l) fun g=>
   some (.inl ((A1 (e+1)),a,b,g.1.Hi,g.1.Lo)))<|
  let m:=(Y4 f.V);
  let n:=(J8 m);
  Option.bind (A32 (A2.mk a b) n) fun h=>
  some (.inl ((A1 (e+1)),h.1.Hi,h.1.Lo,c,d)))<|
 Option.map Sum.inr (let o:=(R1 (A2.mk a b) (A2.mk c d));
 cond (decide (o>=0)) (
  Option.bind (B2M (A2.mk a b) (A2.mk c d)) fun i=>
  some (false,i.1))<|
 Option.bind (B2M (A2.mk c d) (A2.mk a b)) fun j=>
 some (true,j.1))
def B4g (f:List A8) (e a b c d:Int):Option (Bool×A2):=
 loop (fun (s:(Int×Int×Int×Int×Int))=>A7Y f s.1 s.2.1 s.2.2.1 s.2.2.2.1 s.2.2.2.2) (e,a,b,c,d)
def A4j (a:List A8):Option (Bool×A2):=
 B4g a 0 0 0 0 0
def B3P (b a:Int):Option ((Int×Int)⊕Int):=
 cond (a !=0) (
  ck (decide (a≠0))<|
  some (.inl (a,(Int.tmod b a))))<|
 Option.map Sum.inr (some b)
def B9y (a b:Int):Option Int:=
 loop (fun (s:(Int×Int))=>B3P s.1 s.2) (a,b)
def B7u (a b:Int):Option Int:=
 cond ((decide (a<0))||(decide (b<0))) (
  some 0)<|
 B9y a b
def S0 (v:List A8) (d e f g b h i j k:Int):Option ((Int×Int×Int×Int×Int)⊕(A5×Bool)):=
 cond (decide (b<3)) (
  Option.bind (C1 [d,e,f,g] b) fun u=>
  Option.bind (C1 [d,e,f,g] b) fun o=>
  Option.bind (I6 (H3.mk h i j k) o (A4 (v.length:Int)) b) fun l=>
  some (.inl ((A1 (b+1)),l.e0,l.e1,l.e2,l.e3)))<|
 Option.map Sum.inr (Option.bind (A4j v) fun a=>
 Option.bind (I6 (H3.mk 0 0 0 0) a.2.Lo a.2.Lo 0) fun p=>
 Option.bind (I6 p a.2.Lo a.2.Hi 1) fun q=>
 Option.bind (I6 q a.2.Lo a.2.Hi 1) fun r=>
 Option.bind (I6 r a.2.Hi a.2.Hi 2) fun s=>
 Option.bind (A6t (H3.mk h i j k) s) fun n=>
 Option.bind (B19 n (A4 (v.length:Int))) fun t=>
 Option.bind (B7u (A1 (A4 (v.length:Int))) (A1 t.2)) fun m=>
 Option.bind (B19 n (A4 m)) fun c=>
 cond (((Q6 .u64 (Q6 .u64 c.1.e1 c.1.e2) c.1.e3) !=0)||(decide (c.1.e0>=9223372036854775808))) (
  some ((A5.mk 0 0),false))<|
 ck (decide ((A4 m)≠0))<|
 some ((A5.mk (A1 c.1.e0) (A1 (A4 (Int.tdiv (A4 (v.length:Int)) (A4 m))))),true))
def A7X (j:List A8) (a b c d i e f g h:Int):Option (A5×Bool):=
 loop (fun (s:(Int×Int×Int×Int×Int))=>S0 j a b c d s.1 s.2.1 s.2.2.1 s.2.2.2.1 s.2.2.2.2) (i,e,f,g,h)
def A7d (j:List A8) (e a b c d:Int):Option ((Int×Int×Int×Int×Int)⊕(A5×Bool)):=
 cond (decide (e<(j.length:Int))) (
  Option.bind (C1 j e) fun g=>
  let h:=(Y4 g.V);
  let i:=(Y4 g.V);
  Option.bind (I6 (H3.mk a b c d) h i 0) fun f=>
  some (.inl ((A1 (e+1)),f.e0,f.e1,f.e2,f.e3)))<|
 Option.map Sum.inr (A7X j a b c d 0 0 0 0 0)
def B29 (f:List A8) (e a b c d:Int):Option (A5×Bool):=
 loop (fun (s:(Int×Int×Int×Int×Int))=>A7d f s.1 s.2.1 s.2.2.1 s.2.2.2.1 s.2.2.2.2) (e,a,b,c,d)
def A7W (a:List A8):Option (A5×Bool):=
 cond ((A4 (a.length:Int))==(0:Int)) (
  some ((A5.mk 0 1),true))<|
 B29 a 0 0 0 0 0
def B7t (a b:Int):(Int×Bool):=
 cond (((decide (a>=0))==(decide (b>=0)))&&(!((decide ((A1 (a+b))>=0))==(decide (a>=0))))) (
  (0,false))<|
 ((A1 (a+b)),true)
def Y8 (a:Int):Int:=
 cond (decide (a<0)) (
  (IntKind.u64.wrap (0-(A4 a))))<|
 (A4 a)
def B1n (c d:Int) (a:Int×Int) (b:Int):(Int×Bool):=
 cond ((a.1 !=0)||(decide (a.2>b))) (
  (0,false))<|
 cond (!((decide (c<0))==(decide (d<0)))) (
  ((A1 (IntKind.u64.wrap (0-a.2))),true))<|
 ((A1 a.2),true)
def B7v (d e:Int):(Int×Bool):=
 let b:=(Y8 d);
 let c:=(Y8 e);
 let a:=(Q7 b c);
 cond (!((decide (d<0))==(decide (e<0)))) (
  B1n d e a (A4 ((9223372036854775807:Int)+(1:Int))))<|
 B1n d e a 9223372036854775807
def A58 (f:List A8) (b a:Int):Option ((Int×Int)⊕(Int×Bool)):=
 cond (decide (a<(f.length:Int))) (
  Option.bind (C1 f a) fun c=>
  let d:=(B7v c.V c.V);
  cond (!d.2) (
   some (.inr (0,false)))<|
  let e:=(B7t b d.1);
  cond (!e.2) (
   some (.inr (0,false)))<|
  some (.inl (e.1,(A1 (a+1)))))<|
 Option.map Sum.inr (some (b,true))
def B18 (c:List A8) (b a:Int):Option (Int×Bool):=
 loop (fun (s:(Int×Int))=>A58 c s.1 s.2) (b,a)
def A6R (a:List A8):Option (Int×Bool):=
 B18 a 0 0
def B3a (b:List A8):Option (Int×Bool):=
 Option.bind (A4j b) fun a=>
 cond (((a.2.Hi !=0)||(decide (a.2.Lo>9223372036854775808)))||((a.2.Lo==9223372036854775808)&&(!a.1))) (
  some (0,false))<|
 cond a.1 (
  some ((A1 (IntKind.u64.wrap (0-a.2.Lo))),true))<|
 some ((A1 a.2.Lo),true)
def A1f (a:Int):Option (E3×Int):=
 let b:=(A0w a);
 Option.bind (Q4 b) fun c=>
 some ((E3.mk c ([]:List Int) (D8.mk (A2.mk 0 0) (A2.mk 0 0))),0)
def B1s (l:C8) (k:I4):Option (E3×Int):=
 Option.bind (W2 l) fun b=>
 cond (b !=0) (
  some ((E3.mk (C5.mk (A5.mk 0 0) (A5.mk 0 0) (A5.mk 0 0)) ([]:List Int) (D8.mk (A2.mk 0 0) (A2.mk 0 0))),b))<|
 Option.bind (A6s l.Bb) fun c=>
 Option.bind (A3h l.Bb) fun d=>
 cond (k.Op==1) (
  let e:=(B7Z l.Bb);
  A1f e)<|
 cond (k.Op==2) (
  Option.bind (B3a l.Bb) fun f=>
  A1f f.1)<|
 cond (k.Op==3) (
  Option.bind (A6R l.Bb) fun g=>
  A1f g.1)<|
 cond (k.Op==4) (
  A1f (A1 (d.1-c.1)))<|
 cond (k.Op==5) (
  Option.bind (A7W l.Bb) fun h=>
  Option.bind (Q4 h.1) fun i=>
  some ((E3.mk i ([]:List Int) (D8.mk (A2.mk 0 0) (A2.mk 0 0))),0))<|
 cond (k.Op==6) (
  cond ((l.Bb.length:Int)==(0:Int)) (
   some ((E3.mk (C5.mk (A5.mk 0 0) (A5.mk 0 0) (A5.mk 0 0)) ([]:List Int) (D8.mk (A2.mk 0 0) (A2.mk 0 0))),7))<|
  some ((E3.mk (C5.mk (A5.mk 0 0) (A5.mk 0 0) (A5.mk 0 0)) [c.1,d.1] (D8.mk (A2.mk 0 0) (A2.mk 0 0))),0))<|
 cond (k.Op==7) (
  Option.bind (B1g l.Bb k.A) fun j=>
  A1f j)<|
 cond (k.Op==8) (
  cond (((decide (k.B<1))||(decide (k.A<0)))||(decide (k.A>k.B))) (
   some ((E3.mk (C5.mk (A5.mk 0 0) (A5.mk 0 0) (A5.mk 0 0)) ([]:List Int) (D8.mk (A2.mk 0 0) (A2.mk 0 0))),1))<|
  Option.bind (A3i l.Bb k.A k.B) fun a=>
  cond (!a.2) (
   some ((E3.mk (C5.mk (A5.mk 0 0) (A5.mk 0 0) (A5.mk 0 0)) ([]:List Int) (D8.mk (A2.mk 0 0) (A2.mk 0 0))),7))<|
  some ((E3.mk (C5.mk (A5.mk 0 0) (A5.mk 0 0) (A5.mk 0 0)) [a.1] (D8.mk (A2.mk 0 0) (A2.mk 0 0))),0))<|
 some ((E3.mk (C5.mk (A5.mk 0 0) (A5.mk 0 0) (A5.mk 0 0)) ([]:List Int) (D8.mk (A2.mk 0 0) (A2.mk 0 0))),12)
def A9g (e:E4) (c:List Int) (a:Int):Option (((List Int)×Int)⊕((List Int)×Int)):=
 cond (decide (a<(e.Am.length:Int))) (
  Option.bind (C1 e.Am a) fun d=>
  Option.bind (B25 d) fun b=>
  cond (b.2 !=0) (
   some (.inr ([],b.2)))<|
  ck (decide ((c.length+ [b.1].length)*8<=140737488355328))<|
  some (.inl ((c++ [b.1]),(A1 (a+1)))))<|
 Option.map Sum.inr (some (c,0))
def B5T (c:E4) (b:List Int) (a:Int):Option ((List Int)×Int):=
 loop (fun (s:((List Int)×Int))=>A9g c s.1 s.2) (b,a)
def B1C (b:E4):Option ((List Int)×Int):=
 Option.bind (N4 b) fun a=>
 cond (a !=0) (
  some ([],a))<|
 B5T b ([]:List Int) 0
def B1E (p:C9):Option (C5×Int):=
 Option.bind (Z2 p) fun c=>
 cond (c !=0) (
  some ((C5.mk (A5.mk 0 0) (A5.mk 0 0) (A5.mk 0 0)),c))<|
 cond ((p.Bf.length:Int)==(0:Int)) (
  let j:=(A0w 0);
  Option.bind (Q4 j) fun k=>
  some (k,0))<|
 Option.bind (C1 p.Bf 0) fun a=>
 let l:=(P4 p.Now p.W a.T);
 cond l (
  let m:=(T3 a p.Bo);
  let n:=(A0w m);
  Option.bind (Q4 n) fun o=>
  some (o,0))<|
 Option.bind (C1 p.Bf 1) fun b=>
 cond (b.Bv==(A1 (a.Bv+1))) (
  let d:=(T3 b p.Bo);
  let e:=(A0w d);
  Option.bind (Q4 e) fun f=>
  some (f,0))<|
 let g:=(T3 b p.Bo);
 let h:=(T3 a p.Bo);
 let i:=(A28 g h);
 some (i.1,0)
def B0y (d:Bool) (e f:A2):Option (A5×Bool):=
 Option.bind (A5h e f) fun c=>
 Option.bind (A1Y e c) fun a=>
 Option.bind (A1Y f c) fun b=>
 cond (((((a.1.Hi !=0)||(b.1.Hi !=0))||(decide (b.1.Lo>=9223372036854775808)))||(decide (a.1.Lo>9223372036854775808)))||((a.1.Lo==9223372036854775808)&&(!d))) (
  some ((A5.mk 0 0),false))<|
 cond d (
  some ((A5.mk (A1 (IntKind.u64.wrap (0-a.1.Lo))) (A1 b.1.Lo)),true))<|
 some ((A5.mk (A1 a.1.Lo) (A1 b.1.Lo)),true)
def B1r (g f:Int):Option (A5×Bool):=
 cond (f==0) (
  some ((A5.mk 0 0),false))<|
 let c:=(A0D g);
 let d:=(J8 c);
 let e:=(A0D f);
 let b:=(J8 e);
 Option.bind (B0y (!((decide (g<0))==(decide (f<0)))) d b) fun a=>
 some (a.1,a.2)
def A7D (d:A6):Option (A5×Bool):=
 let b:=(A3s d);
 cond (!b) (
  some ((A5.mk 0 0),false))<|
 let c:=(A5O d);
 Option.bind (B1r c d.N) fun a=>
 some (a.1,a.2)
def B1H (k:D1):Option (C5×Int):=
 Option.bind (Z3 k) fun d=>
 cond (d !=0) (
  some ((C5.mk (A5.mk 0 0) (A5.mk 0 0) (A5.mk 0 0)),d))<|
 cond ((k.Bf.length:Int)==(0:Int)) (
  let g:=(A0w 0);
  Option.bind (Q4 g) fun h=>
  some (h,0))<|
 Option.bind (C1 k.Bf 0) fun b=>
 Option.bind (A7D b) fun e=>
 let i:=(P4 k.Now k.W b.T);
 cond i (
  Option.bind (Q4 e.1) fun j=>
  some (j,0))<|
 Option.bind (C1 k.Bf 1) fun c=>
 Option.bind (A7D c) fun a=>
 cond (c.Bv==(A1 (b.Bv+1))) (
  Option.bind (Q4 a.1) fun f=>
  some (f,0))<|
 some ((C5.mk a.1 a.1 e.1),0)
def B7A (c:F0):Option (C5×Int):=
 Option.bind (A1U c) fun a=>
 cond (a !=0) (
  some ((C5.mk (A5.mk 0 0) (A5.mk 0 0) (A5.mk 0 0)),a))<|
 Option.bind (A1a c.Ad) fun b=>
 some (b,0)
def A8M (e:B9) (d:List B4) (b c:Int):Option (((List B4)×Int×Int)⊕(List B4)):=
 cond (decide (c<(e.Av.length:Int))) (
  Option.bind (C1 e.Av c) fun a=>
  ck (decide ((d.length+ [(B4.mk a.V (A1 (b+a.G)) (A1 ((A1 (b+a.G))+a.D)))].length)*24<=140737488355328))<|
  some (.inl ((d++ [(B4.mk a.V (A1 (b+a.G)) (A1 ((A1 (b+a.G))+a.D)))]),(A1 (b+a.G)),(A1 (c+1)))))<|
 Option.map Sum.inr (some d)
def A98 (d:B9) (b:List B4) (c a:Int):Option (List B4):=
 loop (fun (s:((List B4)×Int×Int))=>A8M d s.1 s.2.1 s.2.2) (b,c,a)
def A2M (a:B9):Option (List B4):=
 A98 a ([]:List B4) 0 0
def A9j (d e f:Int):Option Int:=
 let b:=(P3 (A4 e) (A4 d));
 let c:=(J8 (A4 f));
 Option.bind (A1Y b c) fun a=>
 cond (!(a.2.1.Hi==0&&(a.2.1.Lo==0&&true))) (
  some (X8 1 (A1 (A4 (a.1.Lo+1)))))<|
 some (X8 1 (A1 a.1.Lo))
def A8o (c:Int) (e:List B4) (d f b:Int):Option ((Int×Int×Int)⊕(Int×Int)):=
 cond (decide (b<(e.length:Int))) (
  Option.bind (C1 e b) fun a=>
  cond ((decide (d<0))||(decide ((X8 (A1 (c-a.Bt)) (A1 (a.Bs-c)))<d))) (
   some (.inl ((X8 (A1 (c-a.Bt)) (A1 (a.Bs-c))),a.V,(A1 (b+1)))))<|
  some (.inl (d,f,(A1 (b+1)))))<|
 Option.map Sum.inr (some (f,0))
def A4v (e:Int) (a:List B4) (b c d:Int):Option (Int×Int):=
 loop (fun (s:(Int×Int×Int))=>A8o e a s.1 s.2.1 s.2.2) (b,c,d)
def A3Y (d:B9) (e f:Int):Option (Int×Int):=
 Option.bind (X1 d) fun a=>
 cond (a !=0) (
  some (0,a))<|
 cond (((decide (f<1))||(decide (e<0)))||(decide (e>f))) (
  some (0,1))<|
 cond (d.N==0) (
  some (0,7))<|
 Option.bind (A9j d.N e f) fun c=>
 Option.bind (A2M d) fun b=>
 A4v c b (-1:Int) 0 0
def A8q (b c:Int):Option (C5×Int):=
 let a:=(A28 b c);
 some (a.1,0)
def B2C (e:B9) (f:Int) (c:List B4) (d a:Int):Option ((Int×Int)⊕(C5×Int)):=
 cond (decide (a<(c.length:Int))) (
  Option.bind (C1 c a) fun b=>
  cond (decide (b.V>f)) (
   Option.map Sum.inr (A8q d (A1 (b.Bs-1))))<|
  some (.inl (b.Bt,(A1 (a+1)))))<|
 Option.map Sum.inr (A8q d e.N)
def A8r (d:B9) (e:Int) (b:List B4) (c a:Int):Option (C5×Int):=
 loop (fun (s:(Int×Int))=>B2C d e b s.1 s.2) (c,a)
def A8p (c:B9) (d:Int):Option (C5×Int):=
 Option.bind (X1 c) fun a=>
 cond (a !=0) (
  some ((C5.mk (A5.mk 0 0) (A5.mk 0 0) (A5.mk 0 0)),a))<|
 Option.bind (A2M c) fun b=>
 A8r c d b 0 0
def N5 (b c:Int) (d:Bool) (a:E3):Option (E3×Int):=
 cond (b !=0) (
  some ((E3.mk (C5.mk (A5.mk 0 0) (A5.mk 0 0) (A5.mk 0 0)) ([]:List Int) (D8.mk (A2.mk 0 0) (A2.mk 0 0))),b))<|
 cond d (
  some ((E3.mk a.Al [c] a.Aa),0))<|
 some (a,0)
def Z4 (p:A7) (q:I4):Option (E3×Int):=
 Option.bind (K1 p) fun c=>
 cond (c !=0) (
  some ((E3.mk (C5.mk (A5.mk 0 0) (A5.mk 0 0) (A5.mk 0 0)) ([]:List Int) (D8.mk (A2.mk 0 0) (A2.mk 0 0))),c))<|
 let o:=(A1G p.Ao q.Op);
 cond (!o) (
  some ((E3.mk (C5.mk (A5.mk 0 0) (A5.mk 0 0) (A5.mk 0 0)) ([]:List Int) (D8.mk (A2.mk 0 0) (A2.mk 0 0))),12))<|
 cond (p.Ao.Bi==1) (
  Option.bind (B1s p.Aq q) fun d=>
  some (d.1,d.2))<|
 cond (p.Ao.Bi==2) (
  Option.bind (A4U p.Ay) fun e=>
  N5 e.2 0 false (E3.mk e.1 ([]:List Int) (D8.mk (A2.mk 0 0) (A2.mk 0 0))))<|
 cond (p.Ao.Bi==3) (
  Option.bind (B7A p.Sum) fun f=>
  N5 f.2 0 false (E3.mk f.1 ([]:List Int) (D8.mk (A2.mk 0 0) (A2.mk 0 0))))<|
 cond (p.Ao.Bi==4) (
  Option.bind (B1E p.As) fun g=>
  N5 g.2 0 false (E3.mk g.1 ([]:List Int) (D8.mk (A2.mk 0 0) (A2.mk 0 0))))<|
 cond (p.Ao.Bi==5) (
  Option.bind (B1H p.Au) fun h=>
  N5 h.2 0 false (E3.mk h.1 ([]:List Int) (D8.mk (A2.mk 0 0) (A2.mk 0 0))))<|
 cond (p.Ao.Bi==6) (
  Option.bind (B5b p.Bm) fun i=>
  N5 i.2 0 false (E3.mk (C5.mk (A5.mk 0 0) (A5.mk 0 0) (A5.mk 0 0)) ([]:List Int) i.1))<|
 cond (p.Ao.Bi==7) (
  Option.bind (B3d p.Ba) fun j=>
  N5 j.2 0 false (E3.mk (C5.mk (A5.mk 0 0) (A5.mk 0 0) (A5.mk 0 0)) ([]:List Int) j.1))<|
 cond (p.Ao.Bi==8) (
  Option.bind (A9x p.Af) fun k=>
  N5 k.2 k.1 true (E3.mk (C5.mk (A5.mk 0 0) (A5.mk 0 0) (A5.mk 0 0)) ([]:List Int) (D8.mk (A2.mk 0 0) (A2.mk 0 0))))<|
 cond (p.Ao.Bi==9) (
  Option.bind (B1C p.Ar) fun l=>
  N5 l.2 0 false (E3.mk (C5.mk (A5.mk 0 0) (A5.mk 0 0) (A5.mk 0 0)) l.1 (D8.mk (A2.mk 0 0) (A2.mk 0 0))))<|
 cond (p.Ao.Bi==10) (
  cond (q.Op==7) (
   Option.bind (A8p p.Ai q.A) fun a=>
   cond (a.2 !=0) (
    some ((E3.mk (C5.mk (A5.mk 0 0) (A5.mk 0 0) (A5.mk 0 0)) ([]:List Int) (D8.mk (A2.mk 0 0) (A2.mk 0 0))),a.2))<|
   some ((E3.mk a.1 ([]:List Int) (D8.mk (A2.mk 0 0) (A2.mk 0 0))),0))<|
  Option.bind (A3Y p.Ai q.A q.B) fun m=>
  N5 m.2 m.1 true (E3.mk (C5.mk (A5.mk 0 0) (A5.mk 0 0) (A5.mk 0 0)) ([]:List Int) (D8.mk (A2.mk 0 0) (A2.mk 0 0))))<|
 cond (p.Ao.Bi==11) (
  cond (q.Op==7) (
   Option.bind (A6W p.Ab q.A) fun b=>
   cond (b.2 !=0) (
    some ((E3.mk (C5.mk (A5.mk 0 0) (A5.mk 0 0) (A5.mk 0 0)) ([]:List Int) (D8.mk (A2.mk 0 0) (A2.mk 0 0))),b.2))<|
   some ((E3.mk b.1 ([]:List Int) (D8.mk (A2.mk 0 0) (A2.mk 0 0))),0))<|
  Option.bind (A5A p.Ab q.A q.B) fun n=>
  N5 n.2 n.1 true (E3.mk (C5.mk (A5.mk 0 0) (A5.mk 0 0) (A5.mk 0 0)) ([]:List Int) (D8.mk (A2.mk 0 0) (A2.mk 0 0))))<|
 N5 c 0 false (E3.mk (C5.mk (A5.mk 0 0) (A5.mk 0 0) (A5.mk 0 0)) ([]:List Int) (D8.mk (A2.mk 0 0) (A2.mk 0 0)))
def A3L (c:D6):Option (Int×D6):=
 Option.bind (A1k c) fun a=>
 cond (!a.2) (
  some (11,c))<|
 Option.bind (Z4 a.1 c.command_.Bg) fun b=>
 some (b.2,(D6.mk c.Ap c.command_ (G9.mk c.reply_.Code b.1 c.reply_.Br c.reply_.Ax)))
def A4D (d:List B0) (f:Int) (e:B0):Option ((List B0)×Int):=
 Option.bind (A0x d f) fun b=>
 Option.bind (gd (!(!b)) (K1 e.Ac)) fun c=>
 cond ((!b)||(c !=0)) (
  some ([],2))<|
 cond ((decide (e.ID<0))||(decide (e.ID>1048576))) (
  some ([],1))<|
 Option.bind (A0g d e.ID) fun a=>
 cond a.2 (
  some ([],10))<|
 cond ((d.length:Int)==f) (
  some ([],5))<|
 ck (decide (0<=a.1/\a.1<=(d.length:Int)))<|
 ck (decide ((([]:List B0).length+(d.take (a.1).toNat).length)*640<=140737488355328))<|
 ck (decide (((([]:List B0)++(d.take (a.1).toNat)).length+ [e].length)*640<=140737488355328))<|
 ck (decide (0<=a.1/\a.1<=(d.length:Int)))<|
 ck (decide ((((([]:List B0)++(d.take (a.1).toNat))++ [e]).length+(d.drop (a.1).toNat).length)*640<=140737488355328))<|
 some ((((([]:List B0)++(d.take (a.1).toNat))++ [e])++(d.drop (a.1).toNat)),0)
def A9y (e:Bool) (b c d:Int):(B8×Int):=
 let a:=(A4V b c d);
 cond (!a) (
  ((B8.mk false 0 0 0 []),1))<|
 ((B8.mk e b c d []),0)
def B3e (a b:Int):Option (F1×Int):=
 cond ((((decide (a<1))||(decide (a>64)))||(decide (b<0)))||(decide (b>16777216))) (
  some ((F1.mk 0 []),1))<|
 ck (decide (0<=a/\a<=a/\a*8<=140737488355328/\a<=140737488355328))<|
 some ((F1.mk b (List.replicate (a).toNat 0)),0)
def B8L (b c:Int):Option (E0×Int):=
 let a:=(B3k c);
 cond (((decide (b<0))||(decide (b>4)))||(!a)) (
  some ((E0.mk 0 0 0 []),1))<|
 ck (decide (0<=(A1 (b+1))/\(A1 (b+1))<=(A1 (b+1))/\(A1 (b+(1:Int)))*16<=140737488355328/\(A1 (b+(1:Int)))<=140737488355328))<|
 some ((E0.mk b c c (List.replicate ((A1 (b+(1:Int)))).toNat (A2.mk 0 0))),0)
def A8e (b c d e:Int):(C3×Int):=
 let a:=(A0d b c d e);
 cond (!a) (
  ((C3.mk 0 0 0 0 []),1))<|
 ((C3.mk b c d e []),0)
def B1t (b c d:Int):(C8×Int):=
 let a:=(A6x b c d);
 cond (!a) (
  ((C8.mk 0 0 0 []),1))<|
 ((C8.mk b c d []),0)
def A5I (d e f c:Int) (a:List B7):Option ((Int×(List B7))⊕(E4×Int)):=
 cond (decide (c<d)) (
  let b:=(V6 e f);
  cond (b.2 !=0) (
   some (.inr ((E4.mk []),b.2)))<|
  ck (decide ((a.length+ [b.1].length)*56<=140737488355328))<|
  some (.inl ((A1 (c+1)),(a++ [b.1]))))<|
 Option.map Sum.inr (some ((E4.mk a),0))
def B0A (c d e b:Int) (a:List B7):Option (E4×Int):=
 loop (fun (s:(Int×(List B7)))=>A5I c d e s.1 s.2) (b,a)
def B1D (a b c:Int):Option (E4×Int):=
 cond ((decide (a<1))||(decide (a>16))) (
  some ((E4.mk []),1))<|
 B0A a b c 0 ([]:List B7)
def B1F (b c d e f:Int):(C9×Int):=
 let a:=(A0E b c d e f);
 cond (!a) (
  ((C9.mk 0 0 0 0 0 0 []),1))<|
 ((C9.mk b c d e f 0 []),0)
def B1I (b c d e:Int):(D1×Int):=
 let a:=(A5w b c d e);
 cond (!a) (
  ((D1.mk 0 0 0 0 0 []),1))<|
 ((D1.mk b c d e 0 []),0)
def B7B (b c d e f:Int):(F0×Int):=
 let a:=(A9i b c d e f);
 cond (!a) (
  ((F0.mk 0 0 0 0 0 []),1))<|
 ((F0.mk b c d e f []),0)
def A9J (a b:Int):(B9×Int):=
 cond ((((decide (a<1))||(decide (a>64)))||(decide (b<2)))||(decide (b>65536))) (
  ((B9.mk 0 0 0 []),1))<|
 ((B9.mk a b 0 []),0)
def W8 (a:Int):Bool:=
 ((decide (a>=0))&&(decide (a<=16777216)))
def O7 (n:B5) (m:Int) (i:C8) (a:E1) (b:F0) (c:C9) (d:D1) (e:E0) (j:Int) (k:List Int) (f:B8) (l:List B7) (g:B9) (h:C3):Option (A7×Int):=
 cond (m !=0) (
  some ((A7.mk (B5.mk 0 0 0 0 0 0 0 0) (C8.mk 0 0 0 []) (E1.mk 0 0 0 0 []) (F0.mk 0 0 0 0 0 []) (C9.mk 0 0 0 0 0 0 []) (D1.mk 0 0 0 0 0 []) (E0.mk 0 0 0 []) (F1.mk 0 []) (B8.mk false 0 0 0 []) (E4.mk []) (B9.mk 0 0 0 []) (C3.mk 0 0 0 0 [])),m))<|
 some ((A7.mk n i a b c d e (F1.mk j k) f (E4.mk l) g h),0)
def A1W (n:B5) (o:Int):Option (A7×Int):=
 let l:=(V7 n);
 cond (l !=0) (
  some ((A7.mk (B5.mk 0 0 0 0 0 0 0 0) (C8.mk 0 0 0 []) (E1.mk 0 0 0 0 []) (F0.mk 0 0 0 0 0 []) (C9.mk 0 0 0 0 0 0 []) (D1.mk 0 0 0 0 0 []) (E0.mk 0 0 0 []) (F1.mk 0 []) (B8.mk false 0 0 0 []) (E4.mk []) (B9.mk 0 0 0 []) (C3.mk 0 0 0 0 [])),l))<|
 let m:=(W8 o);
 cond (!m) (
  some ((A7.mk (B5.mk 0 0 0 0 0 0 0 0) (C8.mk 0 0 0 []) (E1.mk 0 0 0 0 []) (F0.mk 0 0 0 0 0 []) (C9.mk 0 0 0 0 0 0 []) (D1.mk 0 0 0 0 0 []) (E0.mk 0 0 0 []) (F1.mk 0 []) (B8.mk false 0 0 0 []) (E4.mk []) (B9.mk 0 0 0 []) (C3.mk 0 0 0 0 [])),1))<|
 cond (n.Bi==1) (
  let b:=(B1t n.W n.Cap o);
  O7 n b.2 b.1 (E1.mk 0 0 0 0 []) (F0.mk 0 0 0 0 0 []) (C9.mk 0 0 0 0 0 0 []) (D1.mk 0 0 0 0 0 []) (E0.mk 0 0 0 []) 0 ([]:List Int) (B8.mk false 0 0 0 []) ([]:List B7) (B9.mk 0 0 0 []) (C3.mk 0 0 0 0 []))<|
 cond (n.Bi==2) (
  let c:=(B26 n.W n.K n.Cap o);
  O7 n c.2 (C8.mk 0 0 0 []) c.1 (F0.mk 0 0 0 0 0 []) (C9.mk 0 0 0 0 0 0 []) (D1.mk 0 0 0 0 0 []) (E0.mk 0 0 0 []) 0 ([]:List Int) (B8.mk false 0 0 0 []) ([]:List B7) (B9.mk 0 0 0 []) (C3.mk 0 0 0 0 []))<|
 cond (n.Bi==3) (
  let d:=(B7B n.W n.K n.Cap n.Bs o);
  O7 n d.2 (C8.mk 0 0 0 []) (E1.mk 0 0 0 0 []) d.1 (C9.mk 0 0 0 0 0 0 []) (D1.mk 0 0 0 0 0 []) (E0.mk 0 0 0 []) 0 ([]:List Int) (B8.mk false 0 0 0 []) ([]:List B7) (B9.mk 0 0 0 []) (C3.mk 0 0 0 0 []))<|
 cond (n.Bi==4) (
  let e:=(B1F n.Bo n.W n.K n.Cap o);
  O7 n e.2 (C8.mk 0 0 0 []) (E1.mk 0 0 0 0 []) (F0.mk 0 0 0 0 0 []) e.1 (D1.mk 0 0 0 0 0 []) (E0.mk 0 0 0 []) 0 ([]:List Int) (B8.mk false 0 0 0 []) ([]:List B7) (B9.mk 0 0 0 []) (C3.mk 0 0 0 0 []))<|
 cond (n.Bi==5) (
  let f:=(B1I n.W n.K n.Cap o);
  O7 n f.2 (C8.mk 0 0 0 []) (E1.mk 0 0 0 0 []) (F0.mk 0 0 0 0 0 []) (C9.mk 0 0 0 0 0 0 []) f.1 (E0.mk 0 0 0 []) 0 ([]:List Int) (B8.mk false 0 0 0 []) ([]:List B7) (B9.mk 0 0 0 []) (C3.mk 0 0 0 0 []))<|
 cond (n.Bi==6) (
  Option.bind (B8L n.P o) fun g=>
  O7 n g.2 (C8.mk 0 0 0 []) (E1.mk 0 0 0 0 []) (F0.mk 0 0 0 0 0 []) (C9.mk 0 0 0 0 0 0 []) (D1.mk 0 0 0 0 0 []) g.1 0 ([]:List Int) (B8.mk false 0 0 0 []) ([]:List B7) (B9.mk 0 0 0 []) (C3.mk 0 0 0 0 []))<|
 cond (n.Bi==7) (
  Option.bind (B3e n.W o) fun a=>
  O7 n a.2 (C8.mk 0 0 0 []) (E1.mk 0 0 0 0 []) (F0.mk 0 0 0 0 0 []) (C9.mk 0 0 0 0 0 0 []) (D1.mk 0 0 0 0 0 []) (E0.mk 0 0 0 []) a.1.Now a.1.Bn (B8.mk false 0 0 0 []) ([]:List B7) (B9.mk 0 0 0 []) (C3.mk 0 0 0 0 []))<|
 cond (n.Bi==8) (
  let h:=(A9y (n.Bs==1) n.W n.Cap o);
  O7 n h.2 (C8.mk 0 0 0 []) (E1.mk 0 0 0 0 []) (F0.mk 0 0 0 0 0 []) (C9.mk 0 0 0 0 0 0 []) (D1.mk 0 0 0 0 0 []) (E0.mk 0 0 0 []) 0 ([]:List Int) h.1 ([]:List B7) (B9.mk 0 0 0 []) (C3.mk 0 0 0 0 []))<|
 cond (n.Bi==9) (
  Option.bind (B1D n.Am n.W n.Cap) fun i=>
  O7 n i.2 (C8.mk 0 0 0 []) (E1.mk 0 0 0 0 []) (F0.mk 0 0 0 0 0 []) (C9.mk 0 0 0 0 0 0 []) (D1.mk 0 0 0 0 0 []) (E0.mk 0 0 0 []) 0 ([]:List Int) (B8.mk false 0 0 0 []) i.1.Am (B9.mk 0 0 0 []) (C3.mk 0 0 0 0 []))<|
 cond (n.Bi==10) (
  let j:=(A9J n.K n.Cap);
  O7 n j.2 (C8.mk 0 0 0 []) (E1.mk 0 0 0 0 []) (F0.mk 0 0 0 0 0 []) (C9.mk 0 0 0 0 0 0 []) (D1.mk 0 0 0 0 0 []) (E0.mk 0 0 0 []) 0 ([]:List Int) (B8.mk false 0 0 0 []) ([]:List B7) j.1 (C3.mk 0 0 0 0 []))<|
 cond (n.Bi==11) (
  let k:=(A8e n.W n.K n.Cap o);
  O7 n k.2 (C8.mk 0 0 0 []) (E1.mk 0 0 0 0 []) (F0.mk 0 0 0 0 0 []) (C9.mk 0 0 0 0 0 0 []) (D1.mk 0 0 0 0 0 []) (E0.mk 0 0 0 []) 0 ([]:List Int) (B8.mk false 0 0 0 []) ([]:List B7) (B9.mk 0 0 0 []) k.1)<|
 O7 n 0 (C8.mk 0 0 0 []) (E1.mk 0 0 0 0 []) (F0.mk 0 0 0 0 0 []) (C9.mk 0 0 0 0 0 0 []) (D1.mk 0 0 0 0 0 []) (E0.mk 0 0 0 []) 0 ([]:List Int) (B8.mk false 0 0 0 []) ([]:List B7) (B9.mk 0 0 0 []) (C3.mk 0 0 0 0 [])
def A11 (d:D6):Option (Int×D6):=
 cond ((decide (d.command_.ID<0))||(decide (d.command_.ID>1048576))) (
  some (1,d))<|
 Option.bind (A1W d.command_.Ao d.Ap.Now) fun b=>
 cond (b.2 !=0) (
  let c:=(V7 d.command_.Ao);
  some (c,d))<|
 Option.bind (A4D d.Ap.Ah d.Ap.Bd (B0.mk d.command_.ID b.1)) fun a=>
 cond (a.2 !=0) (
  some (a.2,d))<|
 some (0,(D6.mk (D4.mk d.Ap.Now d.Ap.Bd a.1) d.command_ d.reply_))
def A4E (c:List B0) (d:Int):Option ((List B0)×Int):=
 Option.bind (A0x c 64) fun b=>
 cond (!b) (
  some ([],2))<|
 Option.bind (A0g c d) fun a=>
 cond (!a.2) (
  some ([],11))<|
 ck (decide (0<=a.1/\a.1<=(c.length:Int)))<|
 ck (decide ((([]:List B0).length+(c.take (a.1).toNat).length)*640<=140737488355328))<|
 ck (decide (0<=(A1 (a.1+1))/\(A1 (a.1+1))<=(c.length:Int)))<|
 ck (decide (((([]:List B0)++(c.take (a.1).toNat)).length+(c.drop ((A1 (a.1+(1:Int)))).toNat).length)*640<=140737488355328))<|
 some (((([]:List B0)++(c.take (a.1).toNat))++(c.drop ((A1 (a.1+(1:Int)))).toNat)),0)
def A2U (b:D6):Option (Int×D6):=
 Option.bind (A4E b.Ap.Ah b.command_.ID) fun a=>
 cond (a.2 !=0) (
  some (a.2,b))<|
 some (0,(D6.mk (D4.mk b.Ap.Now b.Ap.Bd a.1) b.command_ b.reply_))
def A3T (d:List B0) (a:List Int) (b:Int):Option (((List Int)×Int)⊕(List Int)):=
 cond (decide (b<(d.length:Int))) (
  Option.bind (C1 d b) fun c=>
  ck (decide ((a.length+ [c.ID].length)*8<=140737488355328))<|
  some (.inl ((a++ [c.ID]),(A1 (b+1)))))<|
 Option.map Sum.inr (some a)
def B3p (c:List B0) (a:List Int) (b:Int):Option (List Int):=
 loop (fun (s:((List Int)×Int))=>A3T c s.1 s.2) (a,b)
def A49 (a:List B0):Option (List Int):=
 B3p a ([]:List Int) 0
def A1l (b:D6):Option (Int×D6):=
 Option.bind (A49 b.Ap.Ah) fun a=>
 some (0,(D6.mk b.Ap b.command_ (G9.mk b.reply_.Code b.reply_.Aj a b.reply_.Ax)))
def B4z (a:A7):(Int×Bool):=
 cond (a.Ao.Bi==1) (
  (a.Aq.Now,true))<|
 cond (a.Ao.Bi==2) (
  (a.Ay.Now,true))<|
 cond (a.Ao.Bi==3) (
  (a.Sum.Now,true))<|
 cond (a.Ao.Bi==4) (
  (a.As.Now,true))<|
 cond (a.Ao.Bi==5) (
  (a.Au.Now,true))<|
 cond (a.Ao.Bi==6) (
  (a.Bm.Now,true))<|
 cond (a.Ao.Bi==7) (
  (a.Ba.Now,true))<|
 cond (a.Ao.Bi==8) (
  (a.Af.Now,true))<|
 cond (a.Ao.Bi==11) (
  (a.Ab.Now,true))<|
 (0,false)
def B4y (d:D4) (a:Int):Option (Int⊕Int):=
 cond (decide (a<(d.Ah.length:Int))) (
  Option.bind (C1 d.Ah a) fun c=>
  let b:=(B4z c.Ac);
  cond (b.2&&(b.1 !=d.Now)) (
   some (.inr 2))<|
  some (.inl (A1 (a+1))))<|
 Option.map Sum.inr (some 0)
def A8l (b:D4) (a:Int):Option Int:=
 loop (fun (s:Int)=>B4y b s) a
def V3 (b:D4):Option Int:=
 Option.bind (gd (!((decide (b.Now<0))||(decide (b.Now>16777216)))) (A0x b.Ah b.Bd)) fun a=>
 cond (((decide (b.Now<0))||(decide (b.Now>16777216)))||(!a)) (
  some 2)<|
 A8l b 0
def C2u (e:List Int) (d c a:Int):Option ((Int×Int)⊕(Int×Int×Bool)):=
 cond ((decide (a<10))&&(decide ((A1 (d+a))<(e.length:Int)))) (
  Option.bind (C1 e (A1 (d+a))) fun b=>
  cond ((a==9)&&(decide (b>1))) (
   some (.inr (0,0,false)))<|
  ck (decide (0<=(A4 (A1 (7*a)))))<|
  cond (decide (b>=128)) (
   some (.inl ((Q6 .u64 c (E7 .u64 (A4 (S2 .u8 b 127)) (A4 (A1 (7*a))))),(A1 (a+1)))))<|
  cond ((b==0)&&(decide (a>0))) (
   some (.inr (0,0,false)))<|
  cond ((S2 .u64 (Q6 .u64 c (E7 .u64 (A4 (S2 .u8 b 127)) (A4 (A1 (7*a))))) (1:Int))==(1:Int)) (
   some (.inr ((C0t .i64 (A1 (F8 .u64 (Q6 .u64 c (E7 .u64 (A4 (S2 .u8 b 127)) (A4 (A1 (7*a))))) 1))),(A1 ((A1 (d+a))+1)),true)))<|
  some (.inr ((A1 (F8 .u64 (Q6 .u64 c (E7 .u64 (A4 (S2 .u8 b 127)) (A4 (A1 (7*a))))) 1)),(A1 ((A1 (d+a))+1)),true)))<|
 Option.map Sum.inr (some (0,0,false))
def C4j (c:List Int) (d a b:Int):Option (Int×Int×Bool):=
 loop (fun (s:(Int×Int))=>C2u c d s.1 s.2) (a,b)
def B3y (b:List Int) (a:Int):Option (Int×Int×Bool):=
 cond ((decide (a<0))||(decide (a>(b.length:Int)))) (
  some (0,0,false))<|
 C4j b a 0 0
def D2 (d:List Int) (b:Int) (c:Bool) (e:Int):Option (Int×Bool×Int):=
 cond c (
  some (b,c,e))<|
 Option.bind (B3y d b) fun a=>
 cond (!a.2.2) (
  some (b,true,e))<|
 some (a.2.1,c,a.1)
def F5 (b:List Int) (c:Int) (d:Bool) (e:Int):Option (Int×Bool×Int):=
 Option.bind (D2 b c d e) fun a=>
 some (a.1,a.2.1,a.2.2)
def A7B (f:A3) (c:List Int) (d:Int) (e:Bool):Option (A3×Int×Bool):=
 Option.bind (D2 c d e f.T) fun a=>
 Option.bind (F5 c a.1 a.2.1 f.Bc) fun b=>
 some ((A3.mk a.2.2 b.2.2),b.1,b.2.1)
def J7 (f g:Int) (b:List Int) (c:Int) (d:Bool) (e:Int):Option (Int×Bool×Int):=
 Option.bind (D2 b c d e) fun a=>
 cond ((decide (a.2.2<f))||(decide (a.2.2>g))) (
  some (a.1,true,a.2.2))<|
 some (a.1,a.2.1,a.2.2)
def A9n (f:List Int) (e:Int) (a:Bool) (b:List A3) (c:Int):Option ((Int×Bool×(List A3)×Int)⊕(Int×Bool×(List A3))):=
 cond ((decide (c>0))&&(!a)) (
  Option.bind (A7B (A3.mk 0 0) f e a) fun d=>
  ck (decide ((b.length+ [d.1].length)*16<=140737488355328))<|
  some (.inl (d.2.1,d.2.2,(b++ [d.1]),(A1 (c-1)))))<|
 Option.map Sum.inr (some (e,a,b))
def B0c (e:List Int) (b:Int) (c:Bool) (d:List A3) (a:Int):Option (Int×Bool×(List A3)):=
 loop (fun (s:(Int×Bool×(List A3)×Int))=>A9n e s.1 s.2.1 s.2.2.1 s.2.2.2) (b,c,d,a)
def A5f (b:List Int) (c:Int) (d:Bool) (e:List A3):Option (Int×Bool×(List A3)):=
 Option.bind (J7 0 (A1 ((b.length:Int)-c)) b c d (e.length:Int)) fun a=>
 B0c b a.1 a.2.1 ([]:List A3) a.2.2
def A4u (b:List Int) (c:Int) (d:Bool) (e:List A3):Option (Int×Bool×(List A3)):=
 Option.bind (A5f b c d e) fun a=>
 some (a.1,a.2.1,a.2.2)
def A8G (f:A8) (c:List Int) (d:Int) (e:Bool):Option (A8×Int×Bool):=
 Option.bind (D2 c d e f.T) fun a=>
 Option.bind (D2 c a.1 a.2.1 f.V) fun b=>
 some ((A8.mk a.2.2 b.2.2),b.1,b.2.1)
def B0F (f:List Int) (e:Int) (a:Bool) (b:List A8) (c:Int):Option ((Int×Bool×(List A8)×Int)⊕(Int×Bool×(List A8))):=
 cond ((decide (c>0))&&(!a)) (
  Option.bind (A8G (A8.mk 0 0) f e a) fun d=>
  ck (decide ((b.length+ [d.1].length)*16<=140737488355328))<|
  some (.inl (d.2.1,d.2.2,(b++ [d.1]),(A1 (c-1)))))<|
 Option.map Sum.inr (some (e,a,b))
def B1K (e:List Int) (b:Int) (c:Bool) (d:List A8) (a:Int):Option (Int×Bool×(List A8)):=
 loop (fun (s:(Int×Bool×(List A8)×Int))=>B0F e s.1 s.2.1 s.2.2.1 s.2.2.2) (b,c,d,a)
def A6C (b:List Int) (c:Int) (d:Bool) (e:List A8):Option (Int×Bool×(List A8)):=
 Option.bind (J7 0 (A1 ((b.length:Int)-c)) b c d (e.length:Int)) fun a=>
 B1K b a.1 a.2.1 ([]:List A8) a.2.2
def A6h (b:List Int) (c:Int) (d:Bool) (e:List A8):Option (Int×Bool×(List A8)):=
 Option.bind (A6C b c d e) fun a=>
 some (a.1,a.2.1,a.2.2)
def A8H (i:A6) (h:List Int) (j:Int) (k:Bool):Option (A6×Int×Bool):=
 Option.bind (D2 h j k i.Bv) fun a=>
 Option.bind (D2 h a.1 a.2.1 i.T) fun b=>
 Option.bind (D2 h b.1 b.2.1 i.N) fun c=>
 Option.bind (D2 h c.1 c.2.1 i.S) fun d=>
 Option.bind (D2 h d.1 d.2.1 i.Q) fun e=>
 Option.bind (D2 h e.1 e.2.1 i.Bt) fun f=>
 Option.bind (D2 h f.1 f.2.1 i.Bs) fun g=>
 some ((A6.mk a.2.2 b.2.2 c.2.2 d.2.2 e.2.2 f.2.2 g.2.2),g.1,g.2.1)
def B0J (f:List Int) (e:Int) (a:Bool) (b:List A6) (c:Int):Option ((Int×Bool×(List A6)×Int)⊕(Int×Bool×(List A6))):=
 cond ((decide (c>0))&&(!a)) (
  Option.bind (A8H (A6.mk 0 0 0 0 0 0 0) f e a) fun d=>
  ck (decide ((b.length+ [d.1].length)*56<=140737488355328))<|
  some (.inl (d.2.1,d.2.2,(b++ [d.1]),(A1 (c-1)))))<|
 Option.map Sum.inr (some (e,a,b))
def B1M (e:List Int) (b:Int) (c:Bool) (d:List A6) (a:Int):Option (Int×Bool×(List A6)):=
 loop (fun (s:(Int×Bool×(List A6)×Int))=>B0J e s.1 s.2.1 s.2.2.1 s.2.2.2) (b,c,d,a)
def A6E (b:List Int) (c:Int) (d:Bool) (e:List A6):Option (Int×Bool×(List A6)):=
 Option.bind (J7 0 (A1 ((b.length:Int)-c)) b c d (e.length:Int)) fun a=>
 B1M b a.1 a.2.1 ([]:List A6) a.2.2
def A6j (b:List Int) (c:Int) (d:Bool) (e:List A6):Option (Int×Bool×(List A6)):=
 Option.bind (A6E b c d e) fun a=>
 some (a.1,a.2.1,a.2.2)
def A8E (e:B4) (d:List Int) (f:Int) (g:Bool):Option (B4×Int×Bool):=
 Option.bind (D2 d f g e.V) fun a=>
 Option.bind (D2 d a.1 a.2.1 e.Bt) fun b=>
 Option.bind (D2 d b.1 b.2.1 e.Bs) fun c=>
 some ((B4.mk a.2.2 b.2.2 c.2.2),c.1,c.2.1)
def B0g (f:List Int) (e:Int) (a:Bool) (b:List B4) (c:Int):Option ((Int×Bool×(List B4)×Int)⊕(Int×Bool×(List B4))):=
 cond ((decide (c>0))&&(!a)) (
  Option.bind (A8E (B4.mk 0 0 0) f e a) fun d=>
  ck (decide ((b.length+ [d.1].length)*24<=140737488355328))<|
  some (.inl (d.2.1,d.2.2,(b++ [d.1]),(A1 (c-1)))))<|
 Option.map Sum.inr (some (e,a,b))
def B0D (e:List Int) (b:Int) (c:Bool) (d:List B4) (a:Int):Option (Int×Bool×(List B4)):=
 loop (fun (s:(Int×Bool×(List B4)×Int))=>B0g e s.1 s.2.1 s.2.2.1 s.2.2.2) (b,c,d,a)
def A5W (b:List Int) (c:Int) (d:Bool):Option (Int×Bool×(List B4)):=
 Option.bind (J7 0 (A1 ((b.length:Int)-c)) b c d 0) fun a=>
 B0D b a.1 a.2.1 ([]:List B4) a.2.2
def B01 (f:List Int) (g:Int) (h:Bool) (i j k l:Int):Option (Int×Bool×Int×Int×Int×Int×(List B4)):=
 Option.bind (D2 f g h i) fun a=>
 Option.bind (D2 f a.1 a.2.1 j) fun b=>
 Option.bind (F5 f b.1 b.2.1 k) fun c=>
 Option.bind (D2 f c.1 c.2.1 l) fun d=>
 Option.bind (A5W f d.1 d.2.1) fun e=>
 some (e.1,e.2.1,a.2.2,b.2.2,c.2.2,d.2.2,e.2.2)
def A8K (b c d e:Int) (f:List Int) (g:Int) (h:Bool):Option (Int×Int×Int×Int×Int×Bool×(List B4)):=
 Option.bind (B01 f g h b c d e) fun a=>
 some (a.2.2.1,a.2.2.2.1,a.2.2.2.2.1,a.2.2.2.2.2.1,a.1,a.2.1,a.2.2.2.2.2.2)
def B0b (f:List Int) (e:Int) (b:Bool) (c:List B2) (d:Int):Option ((Int×Bool×(List B2)×Int)⊕(Int×Bool×(List B2))):=
 cond ((decide (d>0))&&(!b)) (
  Option.bind (A8K 0 0 0 0 f e b) fun a=>
  ck (decide ((c.length+ [(B2.mk a.1 a.2.1 a.2.2.1 (D0.mk a.2.2.2.1 a.2.2.2.2.2.2))].length)*56<=140737488355328))<|
  some (.inl (a.2.2.2.2.1,a.2.2.2.2.2.1,(c++ [(B2.mk a.1 a.2.1 a.2.2.1 (D0.mk a.2.2.2.1 a.2.2.2.2.2.2))]),(A1 (d-1)))))<|
 Option.map Sum.inr (some (e,b,c))
def B0B (e:List Int) (b:Int) (c:Bool) (d:List B2) (a:Int):Option (Int×Bool×(List B2)):=
 loop (fun (s:(Int×Bool×(List B2)×Int))=>B0b e s.1 s.2.1 s.2.2.1 s.2.2.2) (b,c,d,a)
def A5U (b:List Int) (c:Int) (d:Bool) (e:List B2):Option (Int×Bool×(List B2)):=
 Option.bind (J7 0 (A1 ((b.length:Int)-c)) b c d (e.length:Int)) fun a=>
 B0B b a.1 a.2.1 ([]:List B2) a.2.2
def A8F (f:G4) (c:List Int) (d:Int) (e:Bool):Option (G4×Int×Bool):=
 Option.bind (D2 c d e f.I) fun a=>
 Option.bind (D2 c a.1 a.2.1 f.V) fun b=>
 some ((G4.mk a.2.2 b.2.2),b.1,b.2.1)
def B0H (f:List Int) (e:Int) (a:Bool) (b:List G4) (c:Int):Option ((Int×Bool×(List G4)×Int)⊕(Int×Bool×(List G4))):=
 cond ((decide (c>0))&&(!a)) (
  Option.bind (A8F (G4.mk 0 0) f e a) fun d=>
  ck (decide ((b.length+ [d.1].length)*16<=140737488355328))<|
  some (.inl (d.2.1,d.2.2,(b++ [d.1]),(A1 (c-1)))))<|
 Option.map Sum.inr (some (e,a,b))
def B1L (e:List Int) (b:Int) (c:Bool) (d:List G4) (a:Int):Option (Int×Bool×(List G4)):=
 loop (fun (s:(Int×Bool×(List G4)×Int))=>B0H e s.1 s.2.1 s.2.2.1 s.2.2.2) (b,c,d,a)
def A6D (b:List Int) (c:Int) (d:Bool):Option (Int×Bool×(List G4)):=
 Option.bind (J7 0 (A1 ((b.length:Int)-c)) b c d 0) fun a=>
 B1L b a.1 a.2.1 ([]:List G4) a.2.2
def B02 (f:List Int) (g:Int) (h:Bool) (i j k l:Int):Option (Int×Bool×Int×Int×Int×Int×(List G4)):=
 Option.bind (D2 f g h i) fun a=>
 Option.bind (F5 f a.1 a.2.1 j) fun b=>
 Option.bind (D2 f b.1 b.2.1 k) fun c=>
 Option.bind (D2 f c.1 c.2.1 l) fun d=>
 Option.bind (A6D f d.1 d.2.1) fun e=>
 some (e.1,e.2.1,a.2.2,b.2.2,c.2.2,d.2.2,e.2.2)
def A8I (b c d e:Int) (f:List Int) (g:Int) (h:Bool):Option (Int×Int×Int×Int×Int×Bool×(List G4)):=
 Option.bind (B02 f g h b c d e) fun a=>
 some (a.2.2.1,a.2.2.2.1,a.2.2.2.2.1,a.2.2.2.2.2.1,a.1,a.2.1,a.2.2.2.2.2.2)
def B0e (f:List Int) (e:Int) (b:Bool) (c:List B7) (d:Int):Option ((Int×Bool×(List B7)×Int)⊕(Int×Bool×(List B7))):=
 cond ((decide (d>0))&&(!b)) (
  Option.bind (A8I 0 0 0 0 f e b) fun a=>
  ck (decide ((c.length+ [(B7.mk a.1 a.2.1 a.2.2.1 a.2.2.2.1 a.2.2.2.2.2.2)].length)*56<=140737488355328))<|
  some (.inl (a.2.2.2.2.1,a.2.2.2.2.2.1,(c++ [(B7.mk a.1 a.2.1 a.2.2.1 a.2.2.2.1 a.2.2.2.2.2.2)]),(A1 (d-1)))))<|
 Option.map Sum.inr (some (e,b,c))
def B0C (e:List Int) (b:Int) (c:Bool) (d:List B7) (a:Int):Option (Int×Bool×(List B7)):=
 loop (fun (s:(Int×Bool×(List B7)×Int))=>B0e e s.1 s.2.1 s.2.2.1 s.2.2.2) (b,c,d,a)
def A5V (b:List Int) (c:Int) (d:Bool) (e:List B7):Option (Int×Bool×(List B7)):=
 Option.bind (J7 0 (A1 ((b.length:Int)-c)) b c d (e.length:Int)) fun a=>
 B0C b a.1 a.2.1 ([]:List B7) a.2.2
def A8J (e:D9) (d:List Int) (f:Int) (g:Bool):Option (D9×Int×Bool):=
 Option.bind (D2 d f g e.V) fun a=>
 Option.bind (D2 d a.1 a.2.1 e.G) fun b=>
 Option.bind (D2 d b.1 b.2.1 e.D) fun c=>
 some ((D9.mk a.2.2 b.2.2 c.2.2),c.1,c.2.1)
def B0i (f:List Int) (e:Int) (a:Bool) (b:List D9) (c:Int):Option ((Int×Bool×(List D9)×Int)⊕(Int×Bool×(List D9))):=
 cond ((decide (c>0))&&(!a)) (
  Option.bind (A8J (D9.mk 0 0 0) f e a) fun d=>
  ck (decide ((b.length+ [d.1].length)*24<=140737488355328))<|
  some (.inl (d.2.1,d.2.2,(b++ [d.1]),(A1 (c-1)))))<|
 Option.map Sum.inr (some (e,a,b))
def B0K (e:List Int) (b:Int) (c:Bool) (d:List D9) (a:Int):Option (Int×Bool×(List D9)):=
 loop (fun (s:(Int×Bool×(List D9)×Int))=>B0i e s.1 s.2.1 s.2.2.1 s.2.2.2) (b,c,d,a)
def A5X (b:List Int) (c:Int) (d:Bool) (e:List D9):Option (Int×Bool×(List D9)):=
 Option.bind (J7 0 (A1 ((b.length:Int)-c)) b c d (e.length:Int)) fun a=>
 B0K b a.1 a.2.1 ([]:List D9) a.2.2
def A6n (b:List Int) (c:Int) (d:Bool) (e:Int):Option (Int×Bool×Int):=
 Option.bind (D2 b c d (A1 e)) fun a=>
 some (a.1,a.2.1,(A4 a.2.2))
def B1a (c:List Int) (d:Int) (e:Bool) (f:A2):Option (Int×Bool×A2):=
 Option.bind (A6n c d e f.Hi) fun a=>
 Option.bind (A6n c a.1 a.2.1 f.Lo) fun b=>
 some (b.1,b.2.1,(A2.mk a.2.2 b.2.2))
def B0L (f:List Int) (e:Int) (a:Bool) (b:List A2) (c:Int):Option ((Int×Bool×(List A2)×Int)⊕(Int×Bool×(List A2))):=
 cond ((decide (c>0))&&(!a)) (
  Option.bind (B1a f e a (A2.mk 0 0)) fun d=>
  ck (decide ((b.length+ [d.2.2].length)*16<=140737488355328))<|
  some (.inl (d.1,d.2.1,(b++ [d.2.2]),(A1 (c-1)))))<|
 Option.map Sum.inr (some (e,a,b))
def B1N (e:List Int) (b:Int) (c:Bool) (d:List A2) (a:Int):Option (Int×Bool×(List A2)):=
 loop (fun (s:(Int×Bool×(List A2)×Int))=>B0L e s.1 s.2.1 s.2.2.1 s.2.2.2) (b,c,d,a)
def A6F (b:List Int) (c:Int) (d:Bool) (e:List A2):Option (Int×Bool×(List A2)):=
 Option.bind (J7 0 (A1 ((b.length:Int)-c)) b c d (e.length:Int)) fun a=>
 B1N b a.1 a.2.1 ([]:List A2) a.2.2
def A8t (c:List Int) (d:Int) (e:Bool) (a:Int):Option (Int×Bool×Bool):=
 Option.bind (J7 0 1 c d e a) fun b=>
 some (b.1,b.2.1,(b.2.2==1))
def B07 (a:List Int) (b:Int) (c d:Bool):Option (Int×Bool×Bool):=
 cond d (
  A8t a b c 1)<|
 A8t a b c 0
def B2Q (f:List Int) (e:Int) (a:Bool) (b:List Int) (c:Int):Option ((Int×Bool×(List Int)×Int)⊕(Int×Bool×(List Int))):=
 cond ((decide (c>0))&&(!a)) (
  Option.bind (D2 f e a 0) fun d=>
  ck (decide ((b.length+ [d.2.2].length)*8<=140737488355328))<|
  some (.inl (d.1,d.2.1,(b++ [d.2.2]),(A1 (c-1)))))<|
 Option.map Sum.inr (some (e,a,b))
def B3Z (e:List Int) (b:Int) (c:Bool) (d:List Int) (a:Int):Option (Int×Bool×(List Int)):=
 loop (fun (s:(Int×Bool×(List Int)×Int))=>B2Q e s.1 s.2.1 s.2.2.1 s.2.2.2) (b,c,d,a)
def A8O (b:List Int) (c:Int) (d:Bool) (e:List Int):Option (Int×Bool×(List Int)):=
 Option.bind (J7 0 (A1 ((b.length:Int)-c)) b c d (e.length:Int)) fun a=>
 B3Z b a.1 a.2.1 ([]:List Int) a.2.2
def B09 (b:List Int) (c:Int) (d:Bool) (e:List Int):Option (Int×Bool×(List Int)):=
 Option.bind (A8O b c d e) fun a=>
 some (a.1,a.2.1,a.2.2)
def B03 (b0_0:List Int) (b0_1:Int) (b0_3:Bool) (b1:A7):Option (Int×Bool×A7):=
 cond (b1.Ao.Bi==1) (
  Option.bind (D2 b0_0 b0_1 b0_3 b1.Aq.W) fun X=>
  Option.bind (F5 b0_0 X.1 X.2.1 b1.Aq.Cap) fun Y=>
  Option.bind (D2 b0_0 Y.1 Y.2.1 b1.Aq.Now) fun Z=>
  Option.bind (A6h b0_0 Z.1 Z.2.1 b1.Aq.Bb) fun a0=>
  some (a0.1,a0.2.1,(A7.mk b1.Ao (C8.mk X.2.2 Y.2.2 Z.2.2 a0.2.2) b1.Ay b1.Sum b1.As b1.Au b1.Bm b1.Ba b1.Af b1.Ar b1.Ai b1.Ab)))<|
 cond (b1.Ao.Bi==2) (
  Option.bind (D2 b0_0 b0_1 b0_3 b1.Ay.W) fun a=>
  Option.bind (F5 b0_0 a.1 a.2.1 b1.Ay.K) fun b=>
  Option.bind (F5 b0_0 b.1 b.2.1 b1.Ay.Cap) fun c=>
  Option.bind (D2 b0_0 c.1 c.2.1 b1.Ay.Now) fun d=>
  Option.bind (A4u b0_0 d.1 d.2.1 b1.Ay.Ad) fun e=>
  some (e.1,e.2.1,(A7.mk b1.Ao b1.Aq (E1.mk a.2.2 b.2.2 c.2.2 d.2.2 e.2.2) b1.Sum b1.As b1.Au b1.Bm b1.Ba b1.Af b1.Ar b1.Ai b1.Ab)))<|
 cond (b1.Ao.Bi==3) (
  Option.bind (D2 b0_0 b0_1 b0_3 b1.Sum.W) fun f=>
  Option.bind (F5 b0_0 f.1 f.2.1 b1.Sum.K) fun g=>
  Option.bind (F5 b0_0 g.1 g.2.1 b1.Sum.Cap) fun h=>
  Option.bind (F5 b0_0 h.1 h.2.1 b1.Sum.Bs) fun i=>
  Option.bind (D2 b0_0 i.1 i.2.1 b1.Sum.Now) fun j=>
  Option.bind (A4u b0_0 j.1 j.2.1 b1.Sum.Ad) fun k=>
  some (k.1,k.2.1,(A7.mk b1.Ao b1.Aq b1.Ay (F0.mk f.2.2 g.2.2 h.2.2 i.2.2 j.2.2 k.2.2) b1.As b1.Au b1.Bm b1.Ba b1.Af b1.Ar b1.Ai b1.Ab)))<|
 cond (b1.Ao.Bi==4) (
  Option.bind (F5 b0_0 b0_1 b0_3 b1.As.Bo) fun l=>
  Option.bind (D2 b0_0 l.1 l.2.1 b1.As.W) fun m=>
  Option.bind (F5 b0_0 m.1 m.2.1 b1.As.K) fun n=>
  Option.bind (F5 b0_0 n.1 n.2.1 b1.As.Cap) fun o=>
  Option.bind (D2 b0_0 o.1 o.2.1 b1.As.Now) fun p=>
  Option.bind (D2 b0_0 p.1 p.2.1 b1.As.Bv) fun q=>
  Option.bind (A6j b0_0 q.1 q.2.1 b1.As.Bf) fun r=>
  some (r.1,r.2.1,(A7.mk b1.Ao b1.Aq b1.Ay b1.Sum (C9.mk l.2.2 m.2.2 n.2.2 o.2.2 p.2.2 q.2.2 r.2.2) b1.Au b1.Bm b1.Ba b1.Af b1.Ar b1.Ai b1.Ab)))<|
 cond (b1.Ao.Bi==5) (
  Option.bind (D2 b0_0 b0_1 b0_3 b1.Au.W) fun s=>
  Option.bind (F5 b0_0 s.1 s.2.1 b1.Au.K) fun t=>
  Option.bind (F5 b0_0 t.1 t.2.1 b1.Au.Cap) fun u=>
  Option.bind (D2 b0_0 u.1 u.2.1 b1.Au.Now) fun v=>
  Option.bind (D2 b0_0 v.1 v.2.1 b1.Au.Bv) fun w=>
  Option.bind (A6j b0_0 w.1 w.2.1 b1.Au.Bf) fun x=>
  some (x.1,x.2.1,(A7.mk b1.Ao b1.Aq b1.Ay b1.Sum b1.As (D1.mk s.2.2 t.2.2 u.2.2 v.2.2 w.2.2 x.2.2) b1.Bm b1.Ba b1.Af b1.Ar b1.Ai b1.Ab)))<|
 cond (b1.Ao.Bi==6) (
  Option.bind (F5 b0_0 b0_1 b0_3 b1.Bm.P) fun y=>
  Option.bind (D2 b0_0 y.1 y.2.1 b1.Bm.Bj) fun z=>
  Option.bind (D2 b0_0 z.1 z.2.1 b1.Bm.Now) fun A=>
  Option.bind (A6F b0_0 A.1 A.2.1 b1.Bm.Ag) fun B=>
  some (B.1,B.2.1,(A7.mk b1.Ao b1.Aq b1.Ay b1.Sum b1.As b1.Au (E0.mk y.2.2 z.2.2 A.2.2 B.2.2) b1.Ba b1.Af b1.Ar b1.Ai b1.Ab)))<|
 cond (b1.Ao.Bi==7) (
  Option.bind (D2 b0_0 b0_1 b0_3 b1.Ba.Now) fun C=>
  Option.bind (B09 b0_0 C.1 C.2.1 b1.Ba.Bn) fun D=>
  some (D.1,D.2.1,(A7.mk b1.Ao b1.Aq b1.Ay b1.Sum b1.As b1.Au b1.Bm (F1.mk C.2.2 D.2.2) b1.Af b1.Ar b1.Ai b1.Ab)))<|
 cond (b1.Ao.Bi==8) (
  Option.bind (B07 b0_0 b0_1 b0_3 b1.Af.Bs) fun E=>
  Option.bind (D2 b0_0 E.1 E.2.1 b1.Af.W) fun F=>
  Option.bind (F5 b0_0 F.1 F.2.1 b1.Af.Cap) fun G=>
  Option.bind (D2 b0_0 G.1 G.2.1 b1.Af.Now) fun H=>
  Option.bind (A6h b0_0 H.1 H.2.1 b1.Af.Bb) fun I=>
  some (I.1,I.2.1,(A7.mk b1.Ao b1.Aq b1.Ay b1.Sum b1.As b1.Au b1.Bm b1.Ba (B8.mk E.2.2 F.2.2 G.2.2 H.2.2 I.2.2) b1.Ar b1.Ai b1.Ab)))<|
 cond (b1.Ao.Bi==9) (
  Option.bind (A5V b0_0 b0_1 b0_3 b1.Ar.Am) fun J=>
  some (J.1,J.2.1,(A7.mk b1.Ao b1.Aq b1.Ay b1.Sum b1.As b1.Au b1.Bm b1.Ba b1.Af (E4.mk J.2.2) b1.Ai b1.Ab)))<|
 cond (b1.Ao.Bi==10) (
  Option.bind (F5 b0_0 b0_1 b0_3 b1.Ai.K) fun L=>
  Option.bind (F5 b0_0 L.1 L.2.1 b1.Ai.Cap) fun M=>
  Option.bind (D2 b0_0 M.1 M.2.1 b1.Ai.N) fun O=>
  Option.bind (A5X b0_0 O.1 O.2.1 b1.Ai.Av) fun Q=>
  some (Q.1,Q.2.1,(A7.mk b1.Ao b1.Aq b1.Ay b1.Sum b1.As b1.Au b1.Bm b1.Ba b1.Af b1.Ar (B9.mk L.2.2 M.2.2 O.2.2 Q.2.2) b1.Ab)))<|
 cond (b1.Ao.Bi==11) (
  Option.bind (D2 b0_0 b0_1 b0_3 b1.Ab.W) fun R=>
  Option.bind (F5 b0_0 R.1 R.2.1 b1.Ab.K) fun S=>
  Option.bind (F5 b0_0 S.1 S.2.1 b1.Ab.Cap) fun T=>
  Option.bind (D2 b0_0 T.1 T.2.1 b1.Ab.Now) fun U=>
  Option.bind (A5U b0_0 U.1 U.2.1 b1.Ab.Ak) fun V=>
  some (V.1,V.2.1,(A7.mk b1.Ao b1.Aq b1.Ay b1.Sum b1.As b1.Au b1.Bm b1.Ba b1.Af b1.Ar b1.Ai (C3.mk R.2.2 S.2.2 T.2.2 U.2.2 V.2.2))))<|
 some (b0_1,true,(A7.mk b1.Ao b1.Aq b1.Ay b1.Sum b1.As b1.Au b1.Bm b1.Ba b1.Af b1.Ar b1.Ai b1.Ab))
def A8P (i:List Int) (k:Int) (l:Bool) (j:B5):Option (Int×Bool×B5):=
 Option.bind (F5 i k l j.Bi) fun a=>
 Option.bind (F5 i a.1 a.2.1 j.Bo) fun b=>
 Option.bind (D2 i b.1 b.2.1 j.W) fun c=>
 Option.bind (F5 i c.1 c.2.1 j.K) fun d=>
 Option.bind (F5 i d.1 d.2.1 j.Cap) fun e=>
 Option.bind (F5 i e.1 e.2.1 j.P) fun f=>
 Option.bind (F5 i f.1 f.2.1 j.Am) fun g=>
 Option.bind (D2 i g.1 g.2.1 j.Bs) fun h=>
 some (h.1,h.2.1,(B5.mk a.2.2 b.2.2 c.2.2 d.2.2 e.2.2 f.2.2 g.2.2 h.2.2))
def B2E (c:List Int) (b d:Int):Option (Int×Bool×Int):=
 Option.bind (B3y c b) fun a=>
 cond (!a.2.2) (
  some (b,true,d))<|
 some (a.2.1,false,a.1)
def A8S (e f:Int) (b:List Int) (c d:Int):Option (Int×Bool×Int):=
 Option.bind (B2E b c d) fun a=>
 cond ((decide (a.2.2<e))||(decide (a.2.2>f))) (
  some (a.1,true,a.2.2))<|
 some (a.1,a.2.1,a.2.2)
def B4A (n:List Int) (h i:Int×Bool×Int) (c:List B0) (a f:Int) (e:Bool):Option (((List B0)×Int×Int×Bool)⊕(Int×Bool×Int×Int×(List B0))):=
 cond ((decide (a<(c.length:Int)))&&(!e)) (
  Option.bind (C1 c a) fun j=>
  Option.bind (C1 c a) fun l=>
  Option.bind (D2 n f e l.ID) fun d=>
  Option.bind (C1 (c.set (a).toNat (B0.mk d.2.2 l.Ac)) a) fun k=>
  Option.bind (A8P n d.1 d.2.1 k.Ac.Ao) fun b=>
  cond (!b.2.1) (
   Option.bind (C1 ((c.set (a).toNat (B0.mk d.2.2 l.Ac)).set (a).toNat (B0.mk k.ID (A7.mk b.2.2 k.Ac.Aq k.Ac.Ay k.Ac.Sum k.Ac.As k.Ac.Au k.Ac.Bm k.Ac.Ba k.Ac.Af k.Ac.Ar k.Ac.Ai k.Ac.Ab))) a) fun m=>
   Option.bind (B03 n b.1 b.2.1 m.Ac) fun g=>
   some (.inl ((((c.set (a).toNat (B0.mk d.2.2 l.Ac)).set (a).toNat (B0.mk k.ID (A7.mk b.2.2 k.Ac.Aq k.Ac.Ay k.Ac.Sum k.Ac.As k.Ac.Au k.Ac.Bm k.Ac.Ba k.Ac.Af k.Ac.Ar k.Ac.Ai k.Ac.Ab))).set (a).toNat (B0.mk m.ID g.2.2)),(A1 (a+1)),g.1,g.2.1)))<|
  some (.inl (((c.set (a).toNat (B0.mk d.2.2 l.Ac)).set (a).toNat (B0.mk k.ID (A7.mk b.2.2 k.Ac.Aq k.Ac.Ay k.Ac.Sum k.Ac.As k.Ac.Au k.Ac.Bm k.Ac.Ba k.Ac.Af k.Ac.Ar k.Ac.Ai k.Ac.Ab))),(A1 (a+1)),b.1,b.2.1)))<|
 Option.map Sum.inr (some (f,e,h.2.2,i.2.2,c))
def B5i (g:List Int) (c d:Int×Bool×Int) (e:List B0) (f a:Int) (b:Bool):Option (Int×Bool×Int×Int×(List B0)):=
 loop (fun (s:((List B0)×Int×Int×Bool))=>B4A g c d s.1 s.2.1 s.2.2.1 s.2.2.2) (e,f,a,b)
def B04 (e:List Int) (f g h:Int):Option (Int×Bool×Int×Int×(List B0)):=
 Option.bind (A8S 1 1 e f 1) fun d=>
 Option.bind (D2 e d.1 d.2.1 g) fun b=>
 Option.bind (F5 e b.1 b.2.1 h) fun c=>
 Option.bind (J7 0 64 e c.1 c.2.1 0) fun a=>
 cond a.2.1 (
  some (a.1,a.2.1,b.2.2,c.2.2,[]))<|
 ck (decide (0<=a.2.2/\a.2.2<=a.2.2/\a.2.2*640<=140737488355328/\a.2.2<=140737488355328))<|
 B5i e b c (laid (List.replicate (a.2.2).toNat (B0.mk 0 (A7.mk (B5.mk 0 0 0 0 0 0 0 0) (C8.mk 0 0 0 []) (E1.mk 0 0 0 0 []) (F0.mk 0 0 0 0 0 []) (C9.mk 0 0 0 0 0 0 []) (D1.mk 0 0 0 0 0 []) (E0.mk 0 0 0 []) (F1.mk 0 []) (B8.mk false 0 0 0 []) (E4.mk []) (B9.mk 0 0 0 []) (C3.mk 0 0 0 0 [])))) 0 (([]:List B0).take (List.replicate (a.2.2).toNat (B0.mk 0 (A7.mk (B5.mk 0 0 0 0 0 0 0 0) (C8.mk 0 0 0 []) (E1.mk 0 0 0 0 []) (F0.mk 0 0 0 0 0 []) (C9.mk 0 0 0 0 0 0 []) (D1.mk 0 0 0 0 0 []) (E0.mk 0 0 0 []) (F1.mk 0 []) (B8.mk false 0 0 0 []) (E4.mk []) (B9.mk 0 0 0 []) (C3.mk 0 0 0 0 [])))).length)) 0 a.1 a.2.1
def B3w (e:List Int):Option (D4×Int):=
 cond (decide ((e.length:Int)>(1048576:Int))) (
  some ((D4.mk 0 0 []),13))<|
 Option.bind (B04 e 0 0 0) fun a=>
 cond a.2.1 (
  some ((D4.mk 0 0 []),13))<|
 Option.bind (B3y e a.1) fun b=>
 ck (!(!((!b.2.2)||(b.2.1 !=(e.length:Int))))||(decide (0<=a.1/\a.1<=(e.length:Int))))<|
 Option.bind (gd (!((!b.2.2)||(b.2.1 !=(e.length:Int)))) (A7q (e.take (a.1).toNat))) fun d=>
 cond (((!b.2.2)||(b.2.1 !=(e.length:Int)))||(b.1 !=d)) (
  some ((D4.mk 0 0 []),13))<|
 Option.bind (V3 (D4.mk a.2.2.1 a.2.2.2.1 a.2.2.2.2)) fun c=>
 cond (c !=0) (
  some ((D4.mk 0 0 []),c))<|
 some ((D4.mk a.2.2.1 a.2.2.2.1 a.2.2.2.2),0)
def A56 (b:D6):Option (Int×D6):=
 Option.bind (B3w b.command_.Ax) fun a=>
 cond (a.2==0) (
  some (a.2,(D6.mk a.1 b.command_ b.reply_)))<|
 some (a.2,b)
def A5e (b:List Int) (a:Int):Option (((List Int)×Int)⊕(List Int)):=
 cond (decide (a>=128)) (
  ck (decide ((b.length+ [(Q6 .u8 (IntKind.u8.wrap a) 128)].length)*1<=140737488355328))<|
  some (.inl ((b++ [(Q6 .u8 (IntKind.u8.wrap a) 128)]),(F8 .u64 a 7))))<|
 Option.map Sum.inr (ck (decide ((b.length+ [(IntKind.u8.wrap a)].length)*1<=140737488355328))<|
 some (b++ [(IntKind.u8.wrap a)]))
def A6m (a:List Int) (b:Int):Option (List Int):=
 loop (fun (s:((List Int)×Int))=>A5e s.1 s.2) (a,b)
def A23 (b:List Int) (a:Int):Option (List Int):=
 A6m b a
def A0A (b:List Int) (a:Int):Option (List Int):=
 cond (decide (a<0)) (
  A23 b (C0t .u64 (E7 .u64 (A4 a) 1)))<|
 A23 b (E7 .u64 (A4 a) 1)
def D3 (b:List Int) (c:Int) (d:Bool) (e:Int):Option (List Int):=
 Option.bind (A0A b e) fun a=>
 some a
def F6 (b:List Int) (c:Int) (d:Bool) (e:Int):Option (List Int):=
 Option.bind (D3 b c d e) fun a=>
 some a
def A07 (f:A3) (e:List Int) (c:Int) (d:Bool):Option (List Int):=
 Option.bind (D3 e c d f.T) fun a=>
 Option.bind (F6 a c d f.Bc) fun b=>
 some b
def K9 (f g:Int) (b:List Int) (c:Int) (d:Bool) (e:Int):Option (List Int):=
 Option.bind (D3 b c d e) fun a=>
 some a
def A9m (e:Int) (f:Bool) (g:List A3) (b:Int) (a:List Int):Option ((Int×(List Int))⊕(List Int)):=
 cond (decide (b<(g.length:Int))) (
  Option.bind (C1 g b) fun c=>
  Option.bind (A07 c a e f) fun d=>
  some (.inl ((A1 (b+1)),d)))<|
 Option.map Sum.inr (some a)
def A3B (c:Int) (d:Bool) (e:List A3) (b:Int) (a:List Int):Option (List Int):=
 loop (fun (s:(Int×(List Int)))=>A9m c d e s.1 s.2) (b,a)
def Z5 (c:List Int) (b:Int) (d:Bool) (e:List A3):Option (List Int):=
 Option.bind (K9 0 (A1 ((c.length:Int)-b)) c b d (e.length:Int)) fun a=>
 A3B b d e 0 a
def A4t (b:List Int) (c:Int) (d:Bool) (e:List A3):Option (List Int):=
 Option.bind (Z5 b c d e) fun a=>
 some a
def A17 (f:A8) (e:List Int) (c:Int) (d:Bool):Option (List Int):=
 Option.bind (D3 e c d f.T) fun a=>
 Option.bind (D3 a c d f.V) fun b=>
 some b
def B0E (e:Int) (f:Bool) (g:List A8) (b:Int) (a:List Int):Option ((Int×(List Int))⊕(List Int)):=
 cond (decide (b<(g.length:Int))) (
  Option.bind (C1 g b) fun c=>
  Option.bind (A17 c a e f) fun d=>
  some (.inl ((A1 (b+1)),d)))<|
 Option.map Sum.inr (some a)
def A4I (c:Int) (d:Bool) (e:List A8) (b:Int) (a:List Int):Option (List Int):=
 loop (fun (s:(Int×(List Int)))=>B0E c d e s.1 s.2) (b,a)
def A0G (c:List Int) (b:Int) (d:Bool) (e:List A8):Option (List Int):=
 Option.bind (K9 0 (A1 ((c.length:Int)-b)) c b d (e.length:Int)) fun a=>
 A4I b d e 0 a
def A6g (b:List Int) (c:Int) (d:Bool) (e:List A8):Option (List Int):=
 Option.bind (A0G b c d e) fun a=>
 some a
def A18 (j:A6) (k:List Int) (h:Int) (i:Bool):Option (List Int):=
 Option.bind (D3 k h i j.Bv) fun a=>
 Option.bind (D3 a h i j.T) fun b=>
 Option.bind (D3 b h i j.N) fun c=>
 Option.bind (D3 c h i j.S) fun d=>
 Option.bind (D3 d h i j.Q) fun e=>
 Option.bind (D3 e h i j.Bt) fun f=>
 Option.bind (D3 f h i j.Bs) fun g=>
 some g
def B0I (e:Int) (f:Bool) (g:List A6) (b:Int) (a:List Int):Option ((Int×(List Int))⊕(List Int)):=
 cond (decide (b<(g.length:Int))) (
  Option.bind (C1 g b) fun c=>
  Option.bind (A18 c a e f) fun d=>
  some (.inl ((A1 (b+1)),d)))<|
 Option.map Sum.inr (some a)
def A4K (c:Int) (d:Bool) (e:List A6) (b:Int) (a:List Int):Option (List Int):=
 loop (fun (s:(Int×(List Int)))=>B0I c d e s.1 s.2) (b,a)
def A0I (c:List Int) (b:Int) (d:Bool) (e:List A6):Option (List Int):=
 Option.bind (K9 0 (A1 ((c.length:Int)-b)) c b d (e.length:Int)) fun a=>
 A4K b d e 0 a
def A6i (b:List Int) (c:Int) (d:Bool) (e:List A6):Option (List Int):=
 Option.bind (A0I b c d e) fun a=>
 some a
def A15 (f:B4) (g:List Int) (d:Int) (e:Bool):Option (List Int):=
 Option.bind (D3 g d e f.V) fun a=>
 Option.bind (D3 a d e f.Bt) fun b=>
 Option.bind (D3 b d e f.Bs) fun c=>
 some c
def B0f (e:Int) (f:Bool) (g:List B4) (b:Int) (a:List Int):Option ((Int×(List Int))⊕(List Int)):=
 cond (decide (b<(g.length:Int))) (
  Option.bind (C1 g b) fun c=>
  Option.bind (A15 c a e f) fun d=>
  some (.inl ((A1 (b+1)),d)))<|
 Option.map Sum.inr (some a)
def A4f (c:Int) (d:Bool) (e:List B4) (b:Int) (a:List Int):Option (List Int):=
 loop (fun (s:(Int×(List Int)))=>B0f c d e s.1 s.2) (b,a)
def A0m (c:List Int) (b:Int) (d:Bool) (e:List B4):Option (List Int):=
 Option.bind (K9 0 (A1 ((c.length:Int)-b)) c b d (e.length:Int)) fun a=>
 A4f b d e 0 a
def A6e (i:List Int) (f:Int) (g:Bool) (h:B2):Option (List Int):=
 Option.bind (D3 i f g h.T) fun a=>
 Option.bind (D3 a f g h.Bk) fun b=>
 Option.bind (F6 b f g h.Bc) fun c=>
 Option.bind (D3 c f g h.Bh.N) fun d=>
 Option.bind (A0m d f g h.Bh.Ae) fun e=>
 some e
def A2b (b:B2) (c:List Int) (d:Int) (e:Bool):Option (List Int):=
 Option.bind (A6e c d e (B2.mk b.T b.Bk b.Bc b.Bh)) fun a=>
 some a
def B0a (e:Int) (f:Bool) (g:List B2) (b:Int) (a:List Int):Option ((Int×(List Int))⊕(List Int)):=
 cond (decide (b<(g.length:Int))) (
  Option.bind (C1 g b) fun c=>
  Option.bind (A2b c a e f) fun d=>
  some (.inl ((A1 (b+1)),d)))<|
 Option.map Sum.inr (some a)
def A4d (c:Int) (d:Bool) (e:List B2) (b:Int) (a:List Int):Option (List Int):=
 loop (fun (s:(Int×(List Int)))=>B0a c d e s.1 s.2) (b,a)
def A0k (c:List Int) (b:Int) (d:Bool) (e:List B2):Option (List Int):=
 Option.bind (K9 0 (A1 ((c.length:Int)-b)) c b d (e.length:Int)) fun a=>
 A4d b d e 0 a
def A16 (f:G4) (e:List Int) (c:Int) (d:Bool):Option (List Int):=
 Option.bind (D3 e c d f.I) fun a=>
 Option.bind (D3 a c d f.V) fun b=>
 some b
def B0G (e:Int) (f:Bool) (g:List G4) (b:Int) (a:List Int):Option ((Int×(List Int))⊕(List Int)):=
 cond (decide (b<(g.length:Int))) (
  Option.bind (C1 g b) fun c=>
  Option.bind (A16 c a e f) fun d=>
  some (.inl ((A1 (b+1)),d)))<|
 Option.map Sum.inr (some a)
def A4J (c:Int) (d:Bool) (e:List G4) (b:Int) (a:List Int):Option (List Int):=
 loop (fun (s:(Int×(List Int)))=>B0G c d e s.1 s.2) (b,a)
def A0H (c:List Int) (b:Int) (d:Bool) (e:List G4):Option (List Int):=
 Option.bind (K9 0 (A1 ((c.length:Int)-b)) c b d (e.length:Int)) fun a=>
 A4J b d e 0 a
def A6f (i:List Int) (f:Int) (g:Bool) (h:B7):Option (List Int):=
 Option.bind (D3 i f g h.W) fun a=>
 Option.bind (F6 a f g h.Cap) fun b=>
 Option.bind (D3 b f g h.I) fun c=>
 Option.bind (D3 c f g h.Bl) fun d=>
 Option.bind (A0H d f g h.Be) fun e=>
 some e
def A19 (b:B7) (c:List Int) (d:Int) (e:Bool):Option (List Int):=
 Option.bind (A6f c d e (B7.mk b.W b.Cap b.I b.Bl b.Be)) fun a=>
 some a
def B0d (e:Int) (f:Bool) (g:List B7) (b:Int) (a:List Int):Option ((Int×(List Int))⊕(List Int)):=
 cond (decide (b<(g.length:Int))) (
  Option.bind (C1 g b) fun c=>
  Option.bind (A19 c a e f) fun d=>
  some (.inl ((A1 (b+1)),d)))<|
 Option.map Sum.inr (some a)
def A4e (c:Int) (d:Bool) (e:List B7) (b:Int) (a:List Int):Option (List Int):=
 loop (fun (s:(Int×(List Int)))=>B0d c d e s.1 s.2) (b,a)
def A0l (c:List Int) (b:Int) (d:Bool) (e:List B7):Option (List Int):=
 Option.bind (K9 0 (A1 ((c.length:Int)-b)) c b d (e.length:Int)) fun a=>
 A4e b d e 0 a
def A2a (f:D9) (g:List Int) (d:Int) (e:Bool):Option (List Int):=
 Option.bind (D3 g d e f.V) fun a=>
 Option.bind (D3 a d e f.G) fun b=>
 Option.bind (D3 b d e f.D) fun c=>
 some c
def B0h (e:Int) (f:Bool) (g:List D9) (b:Int) (a:List Int):Option ((Int×(List Int))⊕(List Int)):=
 cond (decide (b<(g.length:Int))) (
  Option.bind (C1 g b) fun c=>
  Option.bind (A2a c a e f) fun d=>
  some (.inl ((A1 (b+1)),d)))<|
 Option.map Sum.inr (some a)
def A4g (c:Int) (d:Bool) (e:List D9) (b:Int) (a:List Int):Option (List Int):=
 loop (fun (s:(Int×(List Int)))=>B0h c d e s.1 s.2) (b,a)
def A0n (c:List Int) (b:Int) (d:Bool) (e:List D9):Option (List Int):=
 Option.bind (K9 0 (A1 ((c.length:Int)-b)) c b d (e.length:Int)) fun a=>
 A4g b d e 0 a
def A25 (b:List Int) (c:Int) (d:Bool) (e:Int):Option (Int×(List Int)):=
 Option.bind (D3 b c d (A1 e)) fun a=>
 some ((A4 (A1 e)),a)
def A24 (e:List Int) (c:Int) (d:Bool) (f:A2):Option (A2×(List Int)):=
 Option.bind (A25 e c d f.Hi) fun a=>
 Option.bind (A25 a.2 c d f.Lo) fun b=>
 some ((A2.mk a.1 b.1),b.2)
def A1h (e:Int) (f:Bool) (g:List A2) (b:Int) (a:List Int):Option ((Int×(List Int))⊕(List Int)):=
 cond (decide (b<(g.length:Int))) (
  Option.bind (C1 g b) fun c=>
  Option.bind (A24 a e f c) fun d=>
  some (.inl ((A1 (b+1)),d.2)))<|
 Option.map Sum.inr (some a)
def A4L (c:Int) (d:Bool) (e:List A2) (b:Int) (a:List Int):Option (List Int):=
 loop (fun (s:(Int×(List Int)))=>A1h c d e s.1 s.2) (b,a)
def A0J (c:List Int) (b:Int) (d:Bool) (e:List A2):Option (List Int):=
 Option.bind (K9 0 (A1 ((c.length:Int)-b)) c b d (e.length:Int)) fun a=>
 A4L b d e 0 a
def A8s (c:List Int) (d:Int) (e:Bool) (a:Int):Option (Bool×(List Int)):=
 Option.bind (K9 0 1 c d e a) fun b=>
 some ((a==1),b)
def B06 (a:List Int) (b:Int) (c d:Bool):Option (Bool×(List Int)):=
 cond d (
  A8s a b c 1)<|
 A8s a b c 0
def B2P (e:Int) (f:Bool) (g:List Int) (b:Int) (a:List Int):Option ((Int×(List Int))⊕(List Int)):=
 cond (decide (b<(g.length:Int))) (
  Option.bind (C1 g b) fun c=>
  Option.bind (D3 a e f c) fun d=>
  some (.inl ((A1 (b+1)),d)))<|
 Option.map Sum.inr (some a)
def A6G (c:Int) (d:Bool) (e:List Int) (b:Int) (a:List Int):Option (List Int):=
 loop (fun (s:(Int×(List Int)))=>B2P c d e s.1 s.2) (b,a)
def A2f (c:List Int) (b:Int) (d:Bool) (e:List Int):Option (List Int):=
 Option.bind (K9 0 (A1 ((c.length:Int)-b)) c b d (e.length:Int)) fun a=>
 A6G b d e 0 a
def B08 (b:List Int) (c:Int) (d:Bool) (e:List Int):Option (List Int):=
 Option.bind (A2f b c d e) fun a=>
 some a
def A20 (b0_0:List Int) (b0_1:Int) (b0_3:Bool) (b1:A7):Option (Bool×A7×(List Int)):=
 cond (b1.Ao.Bi==1) (
  Option.bind (D3 b0_0 b0_1 b0_3 b1.Aq.W) fun X=>
  Option.bind (F6 X b0_1 b0_3 b1.Aq.Cap) fun Y=>
  Option.bind (D3 Y b0_1 b0_3 b1.Aq.Now) fun Z=>
  Option.bind (A6g Z b0_1 b0_3 b1.Aq.Bb) fun a0=>
  some (b0_3,(A7.mk b1.Ao b1.Aq b1.Ay b1.Sum b1.As b1.Au b1.Bm b1.Ba b1.Af b1.Ar b1.Ai b1.Ab),a0))<|
 cond (b1.Ao.Bi==2) (
  Option.bind (D3 b0_0 b0_1 b0_3 b1.Ay.W) fun b=>
  Option.bind (F6 b b0_1 b0_3 b1.Ay.K) fun c=>
  Option.bind (F6 c b0_1 b0_3 b1.Ay.Cap) fun d=>
  Option.bind (D3 d b0_1 b0_3 b1.Ay.Now) fun e=>
  Option.bind (A4t e b0_1 b0_3 b1.Ay.Ad) fun f=>
  some (b0_3,(A7.mk b1.Ao b1.Aq b1.Ay b1.Sum b1.As b1.Au b1.Bm b1.Ba b1.Af b1.Ar b1.Ai b1.Ab),f))<|
 cond (b1.Ao.Bi==3) (
  Option.bind (D3 b0_0 b0_1 b0_3 b1.Sum.W) fun g=>
  Option.bind (F6 g b0_1 b0_3 b1.Sum.K) fun h=>
  Option.bind (F6 h b0_1 b0_3 b1.Sum.Cap) fun i=>
  Option.bind (F6 i b0_1 b0_3 b1.Sum.Bs) fun j=>
  Option.bind (D3 j b0_1 b0_3 b1.Sum.Now) fun k=>
  Option.bind (A4t k b0_1 b0_3 b1.Sum.Ad) fun l=>
  some (b0_3,(A7.mk b1.Ao b1.Aq b1.Ay b1.Sum b1.As b1.Au b1.Bm b1.Ba b1.Af b1.Ar b1.Ai b1.Ab),l))<|
 cond (b1.Ao.Bi==4) (
  Option.bind (F6 b0_0 b0_1 b0_3 b1.As.Bo) fun m=>
  Option.bind (D3 m b0_1 b0_3 b1.As.W) fun n=>
  Option.bind (F6 n b0_1 b0_3 b1.As.K) fun o=>
  Option.bind (F6 o b0_1 b0_3 b1.As.Cap) fun p=>
  Option.bind (D3 p b0_1 b0_3 b1.As.Now) fun q=>
  Option.bind (D3 q b0_1 b0_3 b1.As.Bv) fun r=>
  Option.bind (A6i r b0_1 b0_3 b1.As.Bf) fun s=>
  some (b0_3,(A7.mk b1.Ao b1.Aq b1.Ay b1.Sum b1.As b1.Au b1.Bm b1.Ba b1.Af b1.Ar b1.Ai b1.Ab),s))<|
 cond (b1.Ao.Bi==5) (
  Option.bind (D3 b0_0 b0_1 b0_3 b1.Au.W) fun t=>
  Option.bind (F6 t b0_1 b0_3 b1.Au.K) fun u=>
  Option.bind (F6 u b0_1 b0_3 b1.Au.Cap) fun v=>
  Option.bind (D3 v b0_1 b0_3 b1.Au.Now) fun w=>
  Option.bind (D3 w b0_1 b0_3 b1.Au.Bv) fun x=>
  Option.bind (A6i x b0_1 b0_3 b1.Au.Bf) fun y=>
  some (b0_3,(A7.mk b1.Ao b1.Aq b1.Ay b1.Sum b1.As b1.Au b1.Bm b1.Ba b1.Af b1.Ar b1.Ai b1.Ab),y))<|
 cond (b1.Ao.Bi==6) (
  Option.bind (F6 b0_0 b0_1 b0_3 b1.Bm.P) fun z=>
  Option.bind (D3 z b0_1 b0_3 b1.Bm.Bj) fun A=>
  Option.bind (D3 A b0_1 b0_3 b1.Bm.Now) fun B=>
  Option.bind (A0J B b0_1 b0_3 b1.Bm.Ag) fun C=>
  some (b0_3,(A7.mk b1.Ao b1.Aq b1.Ay b1.Sum b1.As b1.Au b1.Bm b1.Ba b1.Af b1.Ar b1.Ai b1.Ab),C))<|
 cond (b1.Ao.Bi==7) (
  Option.bind (D3 b0_0 b0_1 b0_3 b1.Ba.Now) fun D=>
  Option.bind (B08 D b0_1 b0_3 b1.Ba.Bn) fun E=>
  some (b0_3,(A7.mk b1.Ao b1.Aq b1.Ay b1.Sum b1.As b1.Au b1.Bm b1.Ba b1.Af b1.Ar b1.Ai b1.Ab),E))<|
 cond (b1.Ao.Bi==8) (
  Option.bind (B06 b0_0 b0_1 b0_3 b1.Af.Bs) fun a=>
  Option.bind (D3 a.2 b0_1 b0_3 b1.Af.W) fun F=>
  Option.bind (F6 F b0_1 b0_3 b1.Af.Cap) fun G=>
  Option.bind (D3 G b0_1 b0_3 b1.Af.Now) fun H=>
  Option.bind (A6g H b0_1 b0_3 b1.Af.Bb) fun I=>
  some (b0_3,(A7.mk b1.Ao b1.Aq b1.Ay b1.Sum b1.As b1.Au b1.Bm b1.Ba (B8.mk a.1 b1.Af.W b1.Af.Cap b1.Af.Now b1.Af.Bb) b1.Ar b1.Ai b1.Ab),I))<|
 cond (b1.Ao.Bi==9) (
  Option.bind (A0l b0_0 b0_1 b0_3 b1.Ar.Am) fun J=>
  some (b0_3,(A7.mk b1.Ao b1.Aq b1.Ay b1.Sum b1.As b1.Au b1.Bm b1.Ba b1.Af b1.Ar b1.Ai b1.Ab),J))<|
 cond (b1.Ao.Bi==10) (
  Option.bind (F6 b0_0 b0_1 b0_3 b1.Ai.K) fun L=>
  Option.bind (F6 L b0_1 b0_3 b1.Ai.Cap) fun M=>
  Option.bind (D3 M b0_1 b0_3 b1.Ai.N) fun O=>
  Option.bind (A0n O b0_1 b0_3 b1.Ai.Av) fun Q=>
  some (b0_3,(A7.mk b1.Ao b1.Aq b1.Ay b1.Sum b1.As b1.Au b1.Bm b1.Ba b1.Af b1.Ar b1.Ai b1.Ab),Q))<|
 cond (b1.Ao.Bi==11) (
  Option.bind (D3 b0_0 b0_1 b0_3 b1.Ab.W) fun R=>
  Option.bind (F6 R b0_1 b0_3 b1.Ab.K) fun S=>
  Option.bind (F6 S b0_1 b0_3 b1.Ab.Cap) fun T=>
  Option.bind (D3 T b0_1 b0_3 b1.Ab.Now) fun U=>
  Option.bind (A0k U b0_1 b0_3 b1.Ab.Ak) fun V=>
  some (b0_3,(A7.mk b1.Ao b1.Aq b1.Ay b1.Sum b1.As b1.Au b1.Bm b1.Ba b1.Af b1.Ar b1.Ai b1.Ab),V))<|
 some (true,(A7.mk b1.Ao b1.Aq b1.Ay b1.Sum b1.As b1.Au b1.Bm b1.Ba b1.Af b1.Ar b1.Ai b1.Ab),b0_0)
def A2g (l:List Int) (i:Int) (j:Bool) (k:B5):Option (List Int):=
 Option.bind (F6 l i j k.Bi) fun a=>
 Option.bind (F6 a i j k.Bo) fun b=>
 Option.bind (D3 b i j k.W) fun c=>
 Option.bind (F6 c i j k.K) fun d=>
 Option.bind (F6 d i j k.Cap) fun e=>
 Option.bind (F6 e i j k.P) fun f=>
 Option.bind (F6 f i j k.Am) fun g=>
 Option.bind (D3 g i j k.Bs) fun h=>
 some h
def A30 (b:List Int) (c d:Int):Option (List Int):=
 Option.bind (A0A b d) fun a=>
 some a
def B0j (b:List Int) (c d:Int):Option (List Int):=
 Option.bind (A30 b c d) fun a=>
 some a
def A8Q (e f:Int) (b:List Int) (c d:Int):Option (List Int):=
 Option.bind (A30 b c d) fun a=>
 some a
def A99 (b:List Int) (a:Int):Option (((List Int)×Int)⊕(List Int)):=
 cond (decide (a>=128)) (
  ck (decide ((b.length+ [(Q6 .u8 (IntKind.u8.wrap a) 128)].length)*1<=140737488355328))<|
  some (.inl ((b++ [(Q6 .u8 (IntKind.u8.wrap a) 128)]),(F8 .u64 a 7))))<|
 Option.map Sum.inr (ck (decide ((b.length+ [(IntKind.u8.wrap a)].length)*1<=140737488355328))<|
 some (b++ [(IntKind.u8.wrap a)]))
def B7U (a:List Int) (b:Int):Option (List Int):=
 loop (fun (s:((List Int)×Int))=>A99 s.1 s.2) (a,b)
def A6l (a:Int):Option (List Int):=
 B7U ([]:List Int) a
def A9l (a:Int):Option (List Int):=
 cond (decide (a<0)) (
  A6l (C0t .u64 (E7 .u64 (A4 a) 1)))<|
 A6l (E7 .u64 (A4 a) 1)
def B2D (b c:Int):Option (List Int):=
 Option.bind (A9l c) fun a=>
 some a
def A8R (d e b c:Int):Option (List Int):=
 Option.bind (B2D b c) fun a=>
 some a
def A7C (l:Int) (m:D4) (c:List B0) (a:Int) (d:List Int) (b:Bool):Option (((List B0)×Int×(List Int)×Bool)⊕(Bool×D4×(List Int))):=
 cond ((decide (a<(c.length:Int)))&&(!b)) (
  Option.bind (C1 c a) fun h=>
  Option.bind (C1 c a) fun i=>
  Option.bind (D3 d l b i.ID) fun g=>
  Option.bind (C1 (c.set (a).toNat i) a) fun j=>
  Option.bind (A2g g l b j.Ac.Ao) fun f=>
  cond (!b) (
   Option.bind (C1 ((c.set (a).toNat i).set (a).toNat j) a) fun k=>
   Option.bind (A20 f l b k.Ac) fun e=>
   some (.inl ((((c.set (a).toNat i).set (a).toNat j).set (a).toNat (B0.mk k.ID e.2.1)),(A1 (a+1)),e.2.2,e.1)))<|
  some (.inl (((c.set (a).toNat i).set (a).toNat j),(A1 (a+1)),f,b)))<|
 Option.map Sum.inr (some (b,(D4.mk m.Now m.Bd c),d))
def A3V (e:Int) (f:D4) (c:List B0) (d:Int) (a:List Int) (b:Bool):Option (Bool×D4×(List Int)):=
 loop (fun (s:((List B0)×Int×(List Int)×Bool))=>A7C e f s.1 s.2.1 s.2.2.1 s.2.2.2) (c,d,a,b)
def A1p (f:Int) (e:D4):Option (Bool×D4×(List Int)):=
 Option.bind (A8R 1 1 f 1) fun a=>
 Option.bind (A30 a f e.Now) fun b=>
 Option.bind (B0j b f e.Bd) fun c=>
 Option.bind (A8Q 0 64 c f (e.Ah.length:Int)) fun d=>
 ck (decide (0<=(e.Ah.length:Int)/\(e.Ah.length:Int)<=(e.Ah.length:Int)/\(e.Ah.length:Int)*640<=140737488355328/\(e.Ah.length:Int)<=140737488355328))<|
 A3V f e (laid (List.replicate ((e.Ah.length:Int)).toNat (B0.mk 0 (A7.mk (B5.mk 0 0 0 0 0 0 0 0) (C8.mk 0 0 0 []) (E1.mk 0 0 0 0 []) (F0.mk 0 0 0 0 0 []) (C9.mk 0 0 0 0 0 0 []) (D1.mk 0 0 0 0 0 []) (E0.mk 0 0 0 []) (F1.mk 0 []) (B8.mk false 0 0 0 []) (E4.mk []) (B9.mk 0 0 0 []) (C3.mk 0 0 0 0 [])))) 0 (e.Ah.take (List.replicate ((e.Ah.length:Int)).toNat (B0.mk 0 (A7.mk (B5.mk 0 0 0 0 0 0 0 0) (C8.mk 0 0 0 []) (E1.mk 0 0 0 0 []) (F0.mk 0 0 0 0 0 []) (C9.mk 0 0 0 0 0 0 []) (D1.mk 0 0 0 0 0 []) (E0.mk 0 0 0 []) (F1.mk 0 []) (B8.mk false 0 0 0 []) (E4.mk []) (B9.mk 0 0 0 []) (C3.mk 0 0 0 0 [])))).length)) 0 d false
def A2L (e:D4):Option ((List Int)×Int):=
 Option.bind (V3 e) fun a=>
 cond (a !=0) (
  some ([],a))<|
 Option.bind (A1p 0 e) fun b=>
 Option.bind (A7q b.2.2) fun d=>
 Option.bind (A0A b.2.2 d) fun c=>
 cond (decide ((c.length:Int)>(1048576:Int))) (
  some ([],5))<|
 some (c,0)
def A1m (b:D6):Option (Int×D6):=
 Option.bind (A2L b.Ap) fun a=>
 some (a.2,(D6.mk b.Ap b.command_ (G9.mk b.reply_.Code b.reply_.Aj b.reply_.Br a.1)))
def A12 (d:B8) (e:Int) (a:List A8):Option ((List A8)⊕(B8×Int)):=
 Option.bind (gd (decide ((a.length:Int)>(0:Int))) (C1 a 0)) fun c=>
 let b:=(P4 e d.W c.T);
 cond ((decide ((a.length:Int)>(0:Int)))&&(!b)) (
  ck (decide (0<=(1:Int)/\1<=(a.length:Int)))<|
  some (.inl (a.drop ((1:Int)).toNat)))<|
 Option.map Sum.inr (ck (decide ((([]:List A8).length+a.length)*16<=140737488355328))<|
 some ((B8.mk d.Bs d.W d.Cap e (([]:List A8)++a)),0))
def A2E (b:B8) (c:Int) (a:List A8):Option (B8×Int):=
 loop (fun (s:(List A8))=>A12 b c s) a
def A4y (c:B8) (d:Int):Option (B8×Int):=
 Option.bind (X0 c) fun a=>
 cond (a !=0) (
  some ((B8.mk false 0 0 0 []),a))<|
 let b:=(Q0 c.Now d);
 cond (b.2 !=0) (
  some ((B8.mk false 0 0 0 []),b.2))<|
 A2E c d c.Bb
def A6S (c:F1) (d:Int):Option (F1×Int):=
 Option.bind (A0t c) fun a=>
 cond (a !=0) (
  some ((F1.mk 0 []),a))<|
 let b:=(Q0 c.Now d);
 cond (b.2 !=0) (
  some ((F1.mk 0 []),b.2))<|
 ck (decide ((([]:List Int).length+c.Bn.length)*8<=140737488355328))<|
 ck (decide (0<=(A0h (A1 (d-c.Now)) ((([]:List Int)++c.Bn).length:Int))/\(A0h (A1 (d-c.Now)) ((([]:List Int)++c.Bn).length:Int))<=((([]:List Int)++c.Bn).length:Int)))<|
 ck (decide (0<=(A0h (A1 (d-c.Now)) ((([]:List Int)++c.Bn).length:Int))/\(A0h (A1 (d-c.Now)) ((([]:List Int)++c.Bn).length:Int))<=((laid (([]:List Int)++c.Bn) ((A0h (A1 (d-c.Now)) ((([]:List Int)++c.Bn).length:Int))).toNat (c.Bn.take ((([]:List Int)++c.Bn).length-((A0h (A1 (d-c.Now)) ((([]:List Int)++c.Bn).length:Int))).toNat))).length:Int)))<|
 some ((F1.mk d (laid (laid (([]:List Int)++c.Bn) ((A0h (A1 (d-c.Now)) ((([]:List Int)++c.Bn).length:Int))).toNat (c.Bn.take ((([]:List Int)++c.Bn).length-((A0h (A1 (d-c.Now)) ((([]:List Int)++c.Bn).length:Int))).toNat))) 0 (List.replicate ((A0h (A1 (d-c.Now)) ((([]:List Int)++c.Bn).length:Int))).toNat 0))),0)
def A8b (c:E0) (d:Int):Option (E0×Int):=
 Option.bind (A1e c) fun a=>
 cond (a !=0) (
  some ((E0.mk 0 0 0 []),a))<|
 let b:=(Q0 c.Now d);
 cond (b.2 !=0) (
  some ((E0.mk 0 0 0 []),b.2))<|
 ck (decide ((([]:List A2).length+c.Ag.length)*16<=140737488355328))<|
 some ((E0.mk c.P c.Bj d (([]:List A2)++c.Ag)),0)
def A3R (e:C3) (f:Int):Option (C3×Int):=
 Option.bind (T2 e) fun a=>
 cond (a !=0) (
  some ((C3.mk 0 0 0 0 []),a))<|
 let b:=(Q0 e.Now f);
 cond (b.2 !=0) (
  some ((C3.mk 0 0 0 0 []),b.2))<|
 let c:=(A1C f e.W);
 Option.bind (A2m e.Ak c) fun d=>
 some ((C3.mk e.W e.K e.Cap f d),0)
def A5q (e:List A8) (f g:Int) (b:List A8) (a:Int):Option (((List A8)×Int)⊕(List A8)):=
 cond (decide (a<(e.length:Int))) (
  Option.bind (C1 e a) fun c=>
  let d:=(P4 f g c.T);
  cond d (
   ck (decide ((b.length+ [c].length)*16<=140737488355328))<|
   some (.inl ((b++ [c]),(A1 (a+1)))))<|
  some (.inl (b,(A1 (a+1)))))<|
 Option.map Sum.inr (some b)
def B0s (c:List A8) (d e:Int) (b:List A8) (a:Int):Option (List A8):=
 loop (fun (s:((List A8)×Int))=>A5q c d e s.1 s.2) (b,a)
def B1f (b:List A8) (c d:Int):Option (List A8):=
 Option.bind (A9w b c) fun a=>
 cond (!a) (
  some [])<|
 B0s b c d ([]:List A8) 0
def A5F (d:C8) (e:Int):Option (C8×Int):=
 Option.bind (W2 d) fun a=>
 cond (a !=0) (
  some ((C8.mk 0 0 0 []),a))<|
 let b:=(Q0 d.Now e);
 cond (b.2 !=0) (
  some ((C8.mk 0 0 0 []),b.2))<|
 Option.bind (B1f d.Bb e d.W) fun c=>
 some ((C8.mk d.W d.Cap e c),0)
def A1n (f g:Int) (a:List A6):Option ((List A6)⊕(List A6)):=
 Option.bind (gd (decide ((a.length:Int)>(1:Int))) (C1 a 1)) fun d=>
 let b:=(P4 f g d.T);
 cond ((decide ((a.length:Int)>(1:Int)))&&(!b)) (
  ck (decide (0<=(1:Int)/\1<=(a.length:Int)))<|
  some (.inl (a.drop ((1:Int)).toNat)))<|
 Option.map Sum.inr (Option.bind (gd ((a.length:Int)==(1:Int)) (C1 a 0)) fun e=>
 let c:=(P4 f g e.T);
 cond (((a.length:Int)==(1:Int))&&(!c)) (
  some [])<|
 ck (decide ((([]:List A6).length+a.length)*56<=140737488355328))<|
 some (([]:List A6)++a))
def A0u (b c:Int) (a:List A6):Option (List A6):=
 loop (fun (s:(List A6))=>A1n b c s) a
def A1d (a:List A6) (b c:Int):Option (List A6):=
 A0u b c a
def A5K (d:C9) (e:Int):Option (C9×Int):=
 Option.bind (Z2 d) fun a=>
 cond (a !=0) (
  some ((C9.mk 0 0 0 0 0 0 []),a))<|
 let b:=(Q0 d.Now e);
 cond (b.2 !=0) (
  some ((C9.mk 0 0 0 0 0 0 []),b.2))<|
 Option.bind (A1d d.Bf e d.W) fun c=>
 some ((C9.mk d.Bo d.W d.K d.Cap e d.Bv c),0)
def A5N (d:D1) (e:Int):Option (D1×Int):=
 Option.bind (Z3 d) fun a=>
 cond (a !=0) (
  some ((D1.mk 0 0 0 0 0 []),a))<|
 let b:=(Q0 d.Now e);
 cond (b.2 !=0) (
  some ((D1.mk 0 0 0 0 0 []),b.2))<|
 Option.bind (A1d d.Bf e d.W) fun c=>
 some ((D1.mk d.W d.K d.Cap e d.Bv c),0)
def A9I (e:F0) (f:Int):Option (F0×Int):=
 Option.bind (A1U e) fun a=>
 cond (a !=0) (
  some ((F0.mk 0 0 0 0 0 []),a))<|
 let b:=(Q0 e.Now f);
 cond (b.2 !=0) (
  some ((F0.mk 0 0 0 0 0 []),b.2))<|
 let c:=(A1C f e.W);
 Option.bind (A0r e.Ad c) fun d=>
 some ((F0.mk e.W e.K e.Cap e.Bs f d),0)
def L9 (l:A7) (k:Int) (h:C8) (a:E1) (b:F0) (c:C9) (d:D1) (e:E0) (i:Int) (j:List Int) (f:B8) (g:C3):Option (A7×Int):=
 cond (k !=0) (
  some ((A7.mk (B5.mk 0 0 0 0 0 0 0 0) (C8.mk 0 0 0 []) (E1.mk 0 0 0 0 []) (F0.mk 0 0 0 0 0 []) (C9.mk 0 0 0 0 0 0 []) (D1.mk 0 0 0 0 0 []) (E0.mk 0 0 0 []) (F1.mk 0 []) (B8.mk false 0 0 0 []) (E4.mk []) (B9.mk 0 0 0 []) (C3.mk 0 0 0 0 [])),k))<|
 some ((A7.mk l.Ao h a b c d e (F1.mk i j) f l.Ar l.Ai g),0)
def A0z (l:A7) (m:Int):Option (A7×Int):=
 Option.bind (K1 l) fun b=>
 cond (b !=0) (
  some ((A7.mk (B5.mk 0 0 0 0 0 0 0 0) (C8.mk 0 0 0 []) (E1.mk 0 0 0 0 []) (F0.mk 0 0 0 0 0 []) (C9.mk 0 0 0 0 0 0 []) (D1.mk 0 0 0 0 0 []) (E0.mk 0 0 0 []) (F1.mk 0 []) (B8.mk false 0 0 0 []) (E4.mk []) (B9.mk 0 0 0 []) (C3.mk 0 0 0 0 [])),b))<|
 cond (l.Ao.Bi==1) (
  Option.bind (A5F l.Aq m) fun j=>
  L9 l j.2 j.1 l.Ay l.Sum l.As l.Au l.Bm l.Ba.Now l.Ba.Bn l.Af l.Ab)<|
 cond (l.Ao.Bi==2) (
  Option.bind (A6M l.Ay m) fun c=>
  L9 l c.2 l.Aq c.1 l.Sum l.As l.Au l.Bm l.Ba.Now l.Ba.Bn l.Af l.Ab)<|
 cond (l.Ao.Bi==3) (
  Option.bind (A9I l.Sum m) fun d=>
  L9 l d.2 l.Aq l.Ay d.1 l.As l.Au l.Bm l.Ba.Now l.Ba.Bn l.Af l.Ab)<|
 cond (l.Ao.Bi==4) (
  Option.bind (A5K l.As m) fun e=>
  L9 l e.2 l.Aq l.Ay l.Sum e.1 l.Au l.Bm l.Ba.Now l.Ba.Bn l.Af l.Ab)<|
 cond (l.Ao.Bi==5) (
  Option.bind (A5N l.Au m) fun f=>
  L9 l f.2 l.Aq l.Ay l.Sum l.As f.1 l.Bm l.Ba.Now l.Ba.Bn l.Af l.Ab)<|
 cond (l.Ao.Bi==6) (
  Option.bind (A8b l.Bm m) fun g=>
  L9 l g.2 l.Aq l.Ay l.Sum l.As l.Au g.1 l.Ba.Now l.Ba.Bn l.Af l.Ab)<|
 cond (l.Ao.Bi==7) (
  Option.bind (A6S l.Ba m) fun a=>
  L9 l a.2 l.Aq l.Ay l.Sum l.As l.Au l.Bm a.1.Now a.1.Bn l.Af l.Ab)<|
 cond (l.Ao.Bi==8) (
  Option.bind (A4y l.Af m) fun h=>
  L9 l h.2 l.Aq l.Ay l.Sum l.As l.Au l.Bm l.Ba.Now l.Ba.Bn h.1 l.Ab)<|
 cond (l.Ao.Bi==11) (
  Option.bind (A3R l.Ab m) fun i=>
  L9 l i.2 l.Aq l.Ay l.Sum l.As l.Au l.Bm l.Ba.Now l.Ba.Bn l.Af i.1)<|
 let k:=(W8 m);
 cond (!k) (
  L9 l 3 l.Aq l.Ay l.Sum l.As l.Au l.Bm l.Ba.Now l.Ba.Bn l.Af l.Ab)<|
 L9 l b l.Aq l.Ay l.Sum l.As l.Au l.Bm l.Ba.Now l.Ba.Bn l.Af l.Ab
def A7s (h:D6) (b:List B0) (a:Int):Option (((List B0)×Int)⊕(Int×D6)):=
 cond (decide (a<((([]:List B0)++h.Ap.Ah).length:Int))) (
  Option.bind (C1 b a) fun g=>
  Option.bind (C1 b a) fun e=>
  Option.bind (A0z e.Ac h.command_.T) fun c=>
  cond (c.2 !=0) (
   some (.inr (c.2,h)))<|
  Option.bind (C1 b a) fun f=>
  Option.bind (C1 b a) fun d=>
  some (.inl ((b.set (a).toNat (B0.mk d.ID c.1)),(A1 (a+1)))))<|
 Option.map Sum.inr (some (0,(D6.mk (D4.mk h.command_.T h.Ap.Bd b) h.command_ h.reply_)))
def A7V (c:D6) (b:List B0) (a:Int):Option (Int×D6):=
 loop (fun (s:((List B0)×Int))=>A7s c s.1 s.2) (b,a)
def A2V (a:D6):Option (Int×D6):=
 cond ((decide (a.command_.T<a.Ap.Now))||(decide (a.command_.T>16777216))) (
  some (3,a))<|
 ck (decide ((([]:List B0).length+a.Ap.Ah.length)*640<=140737488355328))<|
 A7V a (([]:List B0)++a.Ap.Ah) 0
def V8 (g:Int) (a:B5) (c d:Int) (e:List Int) (b:I4) (f:List Int):Bool:=
 (((((((g==0)&&(a.Bi==0&&(a.Bo==0&&(a.W==0&&(a.K==0&&(a.Cap==0&&(a.P==0&&(a.Am==0&&(a.Bs==0&&true)))))))))&&(c==0))&&(d==0))&&((e.length:Int)==(0:Int)))&&(b.Op==0&&(b.A==0&&(b.B==0&&true))))&&((f.length:Int)==(0:Int)))
def A4x (b:E9) (a:Bool):Bool:=
 cond a (
  V8 b.ID b.Ao b.T b.V b.Az b.Bg b.Ax)<|
 cond (b.Op==8) (
  V8 b.ID b.Ao b.T b.V b.Az b.Bg [])<|
 false
def B16 (a:E9):Bool:=
 cond (a.Op==1) (
  V8 0 (B5.mk 0 0 0 0 0 0 0 0) a.T a.V a.Az a.Bg a.Ax)<|
 cond (a.Op==2) (
  V8 0 a.Ao a.T a.V a.Az a.Bg a.Ax)<|
 cond (a.Op==3) (
  V8 a.ID a.Ao 0 a.V a.Az a.Bg a.Ax)<|
 cond (a.Op==4) (
  V8 0 a.Ao 0 0 ([]:List Int) a.Bg a.Ax)<|
 cond (a.Op==5) (
  V8 0 a.Ao a.T a.V a.Az (I4.mk 0 0 0) a.Ax)<|
 cond (a.Op==6) (
  A4x a (a.Op==6))<|
 A4x a (a.Op==7)
def A0N (d:D4) (e:E9):Option (D4×G9):=
 Option.bind (V3 d) fun b=>
 cond (b !=0) (
  some (d,(G9.mk b (E3.mk (C5.mk (A5.mk 0 0) (A5.mk 0 0) (A5.mk 0 0)) ([]:List Int) (D8.mk (A2.mk 0 0) (A2.mk 0 0))) ([]:List Int) [])))<|
 let c:=(B16 e);
 cond (!c) (
  some (d,(G9.mk 1 (E3.mk (C5.mk (A5.mk 0 0) (A5.mk 0 0) (A5.mk 0 0)) ([]:List Int) (D8.mk (A2.mk 0 0) (A2.mk 0 0))) ([]:List Int) [])))<|
 cond (e.Op==1) (
  Option.bind (A11 (D6.mk d e (G9.mk 0 (E3.mk (C5.mk (A5.mk 0 0) (A5.mk 0 0) (A5.mk 0 0)) ([]:List Int) (D8.mk (A2.mk 0 0) (A2.mk 0 0))) ([]:List Int) []))) fun a=>
  cond (a.1 !=0) (
   some (d,(G9.mk a.1 (E3.mk (C5.mk (A5.mk 0 0) (A5.mk 0 0) (A5.mk 0 0)) ([]:List Int) (D8.mk (A2.mk 0 0) (A2.mk 0 0))) ([]:List Int) [])))<|
  some (a.2.Ap,a.2.reply_))<|
 cond (e.Op==2) (
  Option.bind (A2U (D6.mk d e (G9.mk 0 (E3.mk (C5.mk (A5.mk 0 0) (A5.mk 0 0) (A5.mk 0 0)) ([]:List Int) (D8.mk (A2.mk 0 0) (A2.mk 0 0))) ([]:List Int) []))) fun a=>
  cond (a.1 !=0) (
   some (d,(G9.mk a.1 (E3.mk (C5.mk (A5.mk 0 0) (A5.mk 0 0) (A5.mk 0 0)) ([]:List Int) (D8.mk (A2.mk 0 0) (A2.mk 0 0))) ([]:List Int) [])))<|
  some (a.2.Ap,a.2.reply_))<|
 cond (e.Op==3) (
  Option.bind (A2V (D6.mk d e (G9.mk 0 (E3.mk (C5.mk (A5.mk 0 0) (A5.mk 0 0) (A5.mk 0 0)) ([]:List Int) (D8.mk (A2.mk 0 0) (A2.mk 0 0))) ([]:List Int) []))) fun a=>
  cond (a.1 !=0) (
   some (d,(G9.mk a.1 (E3.mk (C5.mk (A5.mk 0 0) (A5.mk 0 0) (A5.mk 0 0)) ([]:List Int) (D8.mk (A2.mk 0 0) (A2.mk 0 0))) ([]:List Int) [])))<|
  some (a.2.Ap,a.2.reply_))<|
 cond (e.Op==4) (
  Option.bind (A3K (D6.mk d e (G9.mk 0 (E3.mk (C5.mk (A5.mk 0 0) (A5.mk 0 0) (A5.mk 0 0)) ([]:List Int) (D8.mk (A2.mk 0 0) (A2.mk 0 0))) ([]:List Int) []))) fun a=>
  cond (a.1 !=0) (
   some (d,(G9.mk a.1 (E3.mk (C5.mk (A5.mk 0 0) (A5.mk 0 0) (A5.mk 0 0)) ([]:List Int) (D8.mk (A2.mk 0 0) (A2.mk 0 0))) ([]:List Int) [])))<|
  some (a.2.Ap,a.2.reply_))<|
 cond (e.Op==5) (
  Option.bind (A3L (D6.mk d e (G9.mk 0 (E3.mk (C5.mk (A5.mk 0 0) (A5.mk 0 0) (A5.mk 0 0)) ([]:List Int) (D8.mk (A2.mk 0 0) (A2.mk 0 0))) ([]:List Int) []))) fun a=>
  cond (a.1 !=0) (
   some (d,(G9.mk a.1 (E3.mk (C5.mk (A5.mk 0 0) (A5.mk 0 0) (A5.mk 0 0)) ([]:List Int) (D8.mk (A2.mk 0 0) (A2.mk 0 0))) ([]:List Int) [])))<|
  some (a.2.Ap,a.2.reply_))<|
 cond (e.Op==6) (
  Option.bind (A1l (D6.mk d e (G9.mk 0 (E3.mk (C5.mk (A5.mk 0 0) (A5.mk 0 0) (A5.mk 0 0)) ([]:List Int) (D8.mk (A2.mk 0 0) (A2.mk 0 0))) ([]:List Int) []))) fun a=>
  cond (a.1 !=0) (
   some (d,(G9.mk a.1 (E3.mk (C5.mk (A5.mk 0 0) (A5.mk 0 0) (A5.mk 0 0)) ([]:List Int) (D8.mk (A2.mk 0 0) (A2.mk 0 0))) ([]:List Int) [])))<|
  some (a.2.Ap,a.2.reply_))<|
 cond (e.Op==7) (
  Option.bind (A1m (D6.mk d e (G9.mk 0 (E3.mk (C5.mk (A5.mk 0 0) (A5.mk 0 0) (A5.mk 0 0)) ([]:List Int) (D8.mk (A2.mk 0 0) (A2.mk 0 0))) ([]:List Int) []))) fun a=>
  cond (a.1 !=0) (
   some (d,(G9.mk a.1 (E3.mk (C5.mk (A5.mk 0 0) (A5.mk 0 0) (A5.mk 0 0)) ([]:List Int) (D8.mk (A2.mk 0 0) (A2.mk 0 0))) ([]:List Int) [])))<|
  some (a.2.Ap,a.2.reply_))<|
 cond (e.Op==8) (
  Option.bind (A56 (D6.mk d e (G9.mk 0 (E3.mk (C5.mk (A5.mk 0 0) (A5.mk 0 0) (A5.mk 0 0)) ([]:List Int) (D8.mk (A2.mk 0 0) (A2.mk 0 0))) ([]:List Int) []))) fun a=>
  cond (a.1 !=0) (
   some (d,(G9.mk a.1 (E3.mk (C5.mk (A5.mk 0 0) (A5.mk 0 0) (A5.mk 0 0)) ([]:List Int) (D8.mk (A2.mk 0 0) (A2.mk 0 0))) ([]:List Int) [])))<|
  some (a.2.Ap,a.2.reply_))<|
 none
def B2z (f:E4) (g:Int) (h:List Int) (c a:Int):Option ((Int×Int)⊕(Int×Bool)):=
 cond (decide (a<(f.Am.length:Int))) (
  Option.bind (C1 f.Am a) fun d=>
  Option.bind (A9t d g h c) fun e=>
  cond e.2 (
   some (.inr (e.1,true)))<|
  Option.bind (A9S d g h c) fun b=>
  cond (b.2.2 !=0) (
   some (.inr (0,false)))<|
  some (.inl (b.2.1,(A1 (a+1)))))<|
 Option.map Sum.inr (some (0,false))
def B3t (c:E4) (d:Int) (e:List Int) (b a:Int):Option (Int×Bool):=
 loop (fun (s:(Int×Int))=>B2z c d e s.1 s.2) (b,a)
def A5b (b:E4) (c:Int) (d:List Int):Option (Int×Bool):=
 Option.bind (N4 b) fun a=>
 cond (a !=0) (
  some (0,false))<|
 B3t b c d 0 0
def A9k (c:A7) (d:Int) (e:List Int):Option (Int×Bool):=
 Option.bind (gd (!(c.Ao.Bi !=9)) (K1 c)) fun b=>
 cond ((c.Ao.Bi !=9)||(b !=0)) (
  some (0,false))<|
 Option.bind (A5b c.Ar d e) fun a=>
 some (a.1,a.2)
def A7T (f:D4) (e:E9):Option (Int×Bool):=
 cond (e.Op !=4) (
  some (0,false))<|
 Option.bind (A0N f e) fun c=>
 cond (c.2.Code !=8) (
  some (0,false))<|
 Option.bind (A0g f.Ah e.ID) fun b=>
 cond (!b.2) (
  some (0,false))<|
 Option.bind (C1 f.Ah b.1) fun d=>
 Option.bind (A9k d.Ac e.V e.Az) fun a=>
 some (a.1,a.2)
def A7U (a:Int):(D4×Int):=
 cond ((decide (a<1))||(decide (a>64))) (
  ((D4.mk 0 0 []),1))<|
 ((D4.mk 0 a []),0)
def A1B (d:A7) (b a:Int):Option ((Int×Int)⊕Int):=
 cond (decide (a<(d.Ab.Ak.length:Int))) (
  Option.bind (C1 d.Ab.Ak a) fun c=>
  some (.inl ((A1 (b+(c.Bh.Ae.length:Int))),(A1 (a+1)))))<|
 Option.map Sum.inr (some b)
def A2e (c:A7) (b a:Int):Option Int:=
 loop (fun (s:(Int×Int))=>A1B c s.1 s.2) (b,a)
def A1A (d:A7) (b a:Int):Option ((Int×Int)⊕Int):=
 cond (decide (a<(d.Ar.Am.length:Int))) (
  Option.bind (C1 d.Ar.Am a) fun c=>
  some (.inl ((A1 (b+(c.Be.length:Int))),(A1 (a+1)))))<|
 Option.map Sum.inr (A2e d b 0)
def A8N (c:A7) (b a:Int):Option Int:=
 loop (fun (s:(Int×Int))=>A1A c s.1 s.2) (b,a)
def U7 (b:A7):Option Int:=
 Option.bind (K1 b) fun a=>
 cond (a !=0) (
  some 0)<|
 A8N b (A1 ((A1 ((A1 ((A1 ((A1 ((A1 ((A1 ((A1 ((b.Aq.Bb.length:Int)+(b.Ay.Ad.length:Int)))+(b.Sum.Ad.length:Int)))+(b.As.Bf.length:Int)))+(b.Au.Bf.length:Int)))+(b.Bm.Ag.length:Int)))+(b.Ba.Bn.length:Int)))+(b.Af.Bb.length:Int)))+(b.Ai.Av.length:Int))) 0
def A2C (e:D4) (b a:Int):Option ((Int×Int)⊕Int):=
 cond (decide (a<(e.Ah.length:Int))) (
  Option.bind (C1 e.Ah a) fun c=>
  Option.bind (U7 c.Ac) fun d=>
  some (.inl ((A1 (b+d)),(A1 (a+1)))))<|
 Option.map Sum.inr (some b)
def B0U (c:D4) (b a:Int):Option Int:=
 loop (fun (s:(Int×Int))=>A2C c s.1 s.2) (b,a)
def A3g (b:D4):Option Int:=
 Option.bind (V3 b) fun a=>
 cond (a !=0) (
  some 0)<|
 B0U b 0 0
def P2 (b a:Int):Option Int:=
 ck (decide (a≠0))<|
 cond (decide ((Int.tmod b a)<0)) (
  some (A1 ((Int.tmod b a)+a)))<|
 some (Int.tmod b a)
def T5 (b c:Int):Option Int:=
 Option.bind (P2 b c) fun a=>
 some a
def Q2 (h:B5) (a b c d e f g:Int):B5:=
 (B5.mk h.Bi a b c d e f g)
def A1J (b:B5) (a:Bool):B5:=
 cond a (
  Q2 b 0 b.W b.K b.Cap 0 0 0)<|
 cond (b.Bi==3) (
  Q2 b 0 b.W b.K b.Cap 0 0 b.Bs)<|
 cond (b.Bi==4) (
  Q2 b b.Bo b.W b.K b.Cap 0 0 0)<|
 cond (b.Bi==6) (
  Q2 b 0 0 0 0 b.P 0 0)<|
 cond (b.Bi==7) (
  Q2 b 0 b.W 0 0 0 0 0)<|
 cond (b.Bi==8) (
  Q2 b 0 b.W 0 b.Cap 0 0 b.Bs)<|
 cond (b.Bi==9) (
  Q2 b 0 b.W 0 b.Cap 0 b.Am 0)<|
 cond (b.Bi==10) (
  Q2 b 0 0 b.K b.Cap 0 0 0)<|
 Q2 b 0 0 0 0 0 0 0
def A2R (a:B5):B5:=
 cond (a.Bi==1) (
  Q2 a 0 a.W 0 a.Cap 0 0 0)<|
 cond (a.Bi==2) (
  A1J a (a.Bi==2))<|
 cond (a.Bi==5) (
  A1J a (a.Bi==5))<|
 A1J a (a.Bi==11)
def A73 (c d e f b g h a:Int):Option B5:=
 let i:=(A2R (B5.mk (A1 (1+c)) (A1 (1+d)) (A1 (1+e)) (A1 (1+f)) (A1 (2+b)) g (A1 (1+h)) a));
 some i
def B2i (i:B5):Option B5:=
 Option.bind (T5 i.Bi 11) fun a=>
 Option.bind (T5 i.Bo 4) fun c=>
 Option.bind (P2 i.W 20) fun d=>
 Option.bind (T5 i.K 3) fun e=>
 Option.bind (T5 i.Cap 30) fun b=>
 Option.bind (T5 i.P 5) fun f=>
 Option.bind (T5 i.Am 2) fun g=>
 Option.bind (P2 i.Bs 20) fun h=>
 cond ((A1 (1+a))==8) (
  A73 a c d e b f g (Int.tmod (A1 (1+h)) 2))<|
 A73 a c d e b f g (A1 (1+h))
def B3O (c:Int) (a:Bool):Option Int:=
 cond a (
  Option.bind (P2 (A1 (Int.tdiv c 8)) 3) fun b=>
  some (A1 (1+b)))<|
 some 0
def B45 (c d:Int):Option Int:=
 Option.bind (P2 c 8) fun a=>
 cond (a==0) (
  Option.bind (P2 (A1 (Int.tdiv c 8)) (A1 ((A1 (2*d))+2))) fun b=>
  some b)<|
 cond (a==1) (
  B3O c (a==1))<|
 B3O c (a==2)
def B1m (e:Int):Option Int:=
 Option.bind (P2 e 8) fun a=>
 cond (a==0) (
  Option.bind (P2 (A1 (Int.tdiv e 8)) 8193) fun b=>
  some (A1 (b-4096)))<|
 cond (a==1) (
  Option.bind (P2 (A1 (Int.tdiv e 8)) 2) fun c=>
  some (A1 (4096*(A1 ((A1 (2*c))-1)))))<|
 Option.bind (P2 (A1 (Int.tdiv e 8)) 13) fun d=>
 some (A1 (d-6))
def U4 (f g:Int) (b:B5) (c d:Int) (a:I4) (e:List Int):Option E9:=
 some (E9.mk f g b c d ([]:List Int) a e)
def B2h (e:E9) (f a c:Int) (b:Bool):Option E9:=
 cond b (
  U4 (A1 (1+a)) 0 (B5.mk 0 0 0 0 0 0 0 0) 0 0 (I4.mk 0 0 0) [])<|
 cond ((A1 (1+a))==8) (
  U4 (A1 (1+a)) 0 (B5.mk 0 0 0 0 0 0 0 0) 0 0 (I4.mk 0 0 0) e.Ax)<|
 Option.bind (B1m e.V) fun d=>
 U4 4 c (B5.mk 0 0 0 0 0 0 0 0) f d (I4.mk 0 0 0) ([]:List Int)
def D2o (h:E9) (i:Int):Option E9:=
 Option.bind (T5 h.Op 12) fun a=>
 Option.bind (P2 h.ID 5) fun b=>
 cond ((A1 (1+a))==1) (
  Option.bind (B2i h.Ao) fun f=>
  U4 (A1 (1+a)) b f 0 0 (I4.mk 0 0 0) [])<|
 cond ((A1 (1+a))==2) (
  U4 (A1 (1+a)) b (B5.mk 0 0 0 0 0 0 0 0) 0 0 (I4.mk 0 0 0) [])<|
 cond ((A1 (1+a))==3) (
  Option.bind (B45 h.T 15) fun g=>
  U4 (A1 (1+a)) 0 (B5.mk 0 0 0 0 0 0 0 0) (A1 (i+g)) 0 (I4.mk 0 0 0) [])<|
 cond ((A1 (1+a))==5) (
  Option.bind (T5 h.Bg.Op 11) fun d=>
  Option.bind (P2 h.Bg.A 9) fun e=>
  Option.bind (P2 h.Bg.B 9) fun c=>
  U4 (A1 (1+a)) b (B5.mk 0 0 0 0 0 0 0 0) 0 0 (I4.mk (A1 (1+d)) e c) [])<|
 cond ((A1 (1+a))==6) (
  B2h h i a b ((A1 (1+a))==6))<|
 B2h h i a b ((A1 (1+a))==7)
def B8H (a:List Int):V9:=
 (V9.mk a 0)
def A5v (c:V9) (d:Int):Option (Int×V9):=
 cond (decide (c.At>=(c.L.length:Int))) (
  some (0,c))<|
 Option.bind (C1 c.L (A1 ((A1 (c.At+(1:Int)))-(1:Int)))) fun b=>
 Option.bind (P2 b d) fun a=>
 some (a,(V9.mk c.L (A1 (c.At+1))))
def A7z (a:Int):Int:=
 cond (decide (a<0)) (
  (A4 ((A4 (IntKind.i64.wrap (0-(A1 (a+(1:Int))))))+(1:Int))))<|
 (A4 a)
def A5G (a b:Int):Option ((Int×Int)⊕Int):=
 cond (decide (a>0)) (
  some (.inl ((A1 (Int.tdiv a 2)),(A1 (b+1)))))<|
 Option.map Sum.inr (some b)
def A6X (a b:Int):Option Int:=
 loop (fun (s:(Int×Int))=>A5G s.1 s.2) (a,b)
def A2G (a:Int):Option Int:=
 A6X a 0
def A46 (b a:Int):(Int×Bool):=
 cond (((decide (a<0))&&(decide (b>(A1 (9223372036854775807+a)))))||((decide (a>0))&&(decide (b<(A1 ((-9223372036854775808:Int)+a)))))) (
  (0,false))<|
 ((A1 (b-a)),true)
def A4c (a b:A2):Int:=
 cond ((decide (a.Hi<b.Hi))||((a.Hi==b.Hi)&&(decide (a.Lo<b.Lo)))) (
  (-1:Int))<|
 cond (a.Hi==b.Hi&&(a.Lo==b.Lo&&true)) (
  0)<|
 1
def R6 (a:Int):A2:=
 (A2.mk 0 a)
def R5 (b c:Int):A2:=
 let a:=(Q7 b c);
 (A2.mk a.1 a.2)
def C1U (b:A2) (a:Int):Option Int:=
 cond (decide (a>=64)) (
  ck (decide (0<=(A4 (A1 (a-64)))))<|
  some (S2 .u64 (F8 .u64 b.Hi (A4 (A1 (a-64)))) 1))<|
 ck (decide (0<=(A4 a)))<|
 some (S2 .u64 (F8 .u64 b.Lo (A4 a)) 1)
def B2w (a:A2) (b:Int):(A2×Int):=
 ((A2.mk (Q6 .u64 (E7 .u64 a.Hi 1) (F8 .u64 a.Lo 63)) (Q6 .u64 (E7 .u64 a.Lo 1) b)),(F8 .u64 a.Hi 63))
def B1u (b a:Int):Int:=
 cond ((decide (a<b))||(decide (a>16777216))) (
  3)<|
 0
def G8 (a:Int):Bool:=
 ((decide (a>=0))&&(decide (a<=16777216)))
def M6 (a:Int):Bool:=
 ((decide (a>=1))&&(decide (a<=1048576)))
def O4 (c d:Int):Int:=
 let a:=(G8 c);
 let b:=(M6 d);
 cond ((!a)||(!b)) (
  (-1:Int))<|
 (X8 0 (A1 ((A1 (c-d))+1)))
def F7 (d f e:Int):Bool:=
 let a:=(G8 d);
 let b:=(M6 f);
 let c:=(G8 e);
 ((((a&&b)&&c)&&(decide (e>(A1 (d-f)))))&&(decide (e<=d)))
def A8i (d:List A8) (e a:Int):Option (Int⊕Bool):=
 cond (decide (a<(d.length:Int))) (
  Option.bind (C1 d a) fun b=>
  Option.bind (gd ((!((decide (b.T<0))||(decide (b.T>e))))&&(decide (a>0))) (C1 d (A1 (a-1)))) fun c=>
  cond (((decide (b.T<0))||(decide (b.T>e)))||((decide (a>0))&&(decide (c.T>b.T)))) (
   some (.inr false))<|
  some (.inl (A1 (a+1))))<|
 Option.map Sum.inr (some true)
def A9e (b:List A8) (c a:Int):Option Bool:=
 loop (fun (s:Int)=>A8i b c s) a
def A9G (c:List A8) (b:Int):Option Bool:=
 let a:=(G8 b);
 cond (!a) (
  some false)<|
 A9e c b 0
def M7 (d c e:Int):Bool:=
 let b:=(M6 d);
 let a:=(G8 e);
 (((b&&(decide (c>=1)))&&(decide (c<=65536)))&&a)
def M2 (a:Int):Bool:=
 ((decide (a>=(-4096:Int)))&&(decide (a<=4096)))
def A0S (e:C8) (a:Int):Option (Int⊕Int):=
 cond (decide (a<(e.Bb.length:Int))) (
  Option.bind (C1 e.Bb a) fun b=>
  let d:=(F7 e.Now e.W b.T);
  let c:=(M2 b.V);
  cond ((!d)||(!c)) (
   some (.inr 2))<|
  some (.inl (A1 (a+1))))<|
 Option.map Sum.inr (some 0)
def A2Y (b:C8) (a:Int):Option Int:=
 loop (fun (s:Int)=>A0S b s) a
def A3q (c:C8):Option Int:=
 let a:=(M7 c.W c.Cap c.Now);
 Option.bind (gd (!((!a)||(decide ((c.Bb.length:Int)>c.Cap)))) (A9G c.Bb c.Now)) fun b=>
 cond (((!a)||(decide ((c.Bb.length:Int)>c.Cap)))||(!b)) (
  some 2)<|
 A2Y c 0
def A8j (a:Int):Bool:=
 ((decide (a>=1))&&(decide (a<=128)))
def B1v (c d:Int):Option Int:=
 let a:=(A8j c);
 cond ((!a)||(decide (d<0))) (
  some 0)<|
 Option.bind (A2G d) fun b=>
 some (A1 ((A1 (c+1))*b))
def A4C (d:List A3) (c a:Int):Option ((Int×Int)⊕Int):=
 cond (decide (a<(d.length:Int))) (
  Option.bind (C1 d a) fun b=>
  cond ((decide (b.Bc>=0))&&(decide (b.Bc<=30))) (
   ck (decide (0<=(A4 b.Bc)))<|
   some (.inl ((A1 (c+(E7 .i64 1 (A4 b.Bc)))),(A1 (a+1)))))<|
  some (.inl (c,(A1 (a+1)))))<|
 Option.map Sum.inr (some c)
def B4u (c:List A3) (a b:Int):Option Int:=
 loop (fun (s:(Int×Int))=>A4C c s.1 s.2) (a,b)
def A6y (a:List A3):Option Int:=
 B4u a 0 0
def N3 (a:Int):Bool:=
 ((decide (a>=1))&&(decide (a<=64)))
def A1T (a:Int):Bool:=
 ((decide (a>=1))&&(decide (a<=4)))
def A1g (c b:Int):Option Int:=
 Option.bind (A2G b) fun a=>
 some (A1 ((A1 ((A1 (2*c))*a))+2))
def B1w (e c d:Int):Option Int:=
 let a:=(A1T e);
 let b:=(N3 c);
 cond ((((!a)||(!b))||(decide (d<1)))||(decide (d>65536))) (
  some 0)<|
 cond (e==2) (
  A1g c (A1 (d*4096)))<|
 cond (e==3) (
  A1g c (A1 ((A1 (d*(4096:Int)))*(4096:Int))))<|
 cond (e==4) (
  A1g c 8192)<|
 A1g c d
def B8h:Int:=
 0
def A47 (b:A6) (c:Int):Int:=
 cond (c==1) (
  b.N)<|
 cond (c==2) (
  b.S)<|
 cond (c==3) (
  b.Q)<|
 cond (c==4) (
  let a:=(A46 b.Bs b.Bt);
  cond a.2 (
   a.1)<|
  B8h)<|
 B8h
def A2H (a:A6):Bool:=
 (((((((decide (a.N>=1))&&(decide (a.N<=65536)))&&(decide (a.S>=(A1 ((IntKind.i64.wrap (0-a.N))*4096)))))&&(decide (a.S<=(A1 (a.N*4096)))))&&(decide (a.Q>=0)))&&(decide (a.Q<=(A1 ((A1 (a.N*(4096:Int)))*(4096:Int))))))&&(decide ((A1 (a.S*a.S))<=(A1 (a.N*a.Q)))))
def B1x (d c:Int):Option Int:=
 let a:=(N3 d);
 cond (((!a)||(decide (c<1)))||(decide (c>65536))) (
  some 0)<|
 Option.bind (A2G c) fun b=>
 some (A1 ((A1 ((A1 (12*d))*(A1 ((A1 (3*b))+(24:Int)))))+(4:Int)))
def C1V (b c:Int):Option (E0×Int):=
 let a:=(G8 c);
 cond (((decide (b<0))||(decide (b>4)))||(!a)) (
  some ((E0.mk 0 0 0 []),1))<|
 ck (decide (0<=(A1 (b+1))/\(A1 (b+1))<=(A1 (b+1))/\(A1 (b+(1:Int)))*16<=140737488355328/\(A1 (b+(1:Int)))<=140737488355328))<|
 some ((E0.mk b c c (List.replicate ((A1 (b+(1:Int)))).toNat (A2.mk 0 0))),0)
def A2I (d c:Int):Option Int:=
 let a:=(N3 d);
 cond (((!a)||(decide (c<1)))||(decide (c>65536))) (
  some 0)<|
 Option.bind (A2G c) fun b=>
 some (A1 ((A1 (2*d))*(A1 (b+2))))
def B1y (d e:Int):Option Int:=
 Option.bind (A2I d e) fun a=>
 cond (a==0) (
  some 0)<|
 Option.bind (A2G e) fun b=>
 Option.bind (A2I d e) fun c=>
 some (A1 ((A1 ((A1 ((A1 (2*d))+1))*b))*(A1 (c+1))))
def A2J (h:B5) (a b:Bool):Bool:=
 cond b (
  let g:=(N3 h.K);
  (a&&g))<|
 cond (h.Bi==3) (
  let c:=(N3 h.K);
  (((a&&c)&&(decide (h.Bs>=1)))&&(decide (h.Bs<=1024))))<|
 cond (h.Bi==4) (
  let d:=(N3 h.K);
  let e:=(A1T h.Bo);
  ((a&&d)&&e))<|
 cond (h.Bi==6) (
  ((decide (h.P>=0))&&(decide (h.P<=4))))<|
 cond (h.Bi==7) (
  ((decide (h.W>=1))&&(decide (h.W<=64))))<|
 cond (h.Bi==8) (
  (a&&((h.Bs==0)||(h.Bs==1))))<|
 cond (h.Bi==9) (
  ((((((decide (h.Am>=1))&&(decide (h.Am<=16)))&&(decide (h.W>=1)))&&(decide (h.W<=1048576)))&&(decide (h.Cap>=1)))&&(decide (h.Cap<=64))))<|
 cond (h.Bi==10) (
  let f:=(N3 h.K);
  ((f&&(decide (h.Cap>=2)))&&(decide (h.Cap<=65536))))<|
 false
def B2x (b:B5):Bool:=
 let a:=(M7 b.W b.Cap 0);
 cond (b.Bi==1) (
  a)<|
 cond (b.Bi==2) (
  A2J b a (b.Bi==2))<|
 cond (b.Bi==5) (
  A2J b a (b.Bi==5))<|
 A2J b a (b.Bi==11)
def A3r (c:B5):Int:=
 let a:=(A2R c);
 let b:=(B2x c);
 cond ((!(c.Bi==a.Bi&&(c.Bo==a.Bo&&(c.W==a.W&&(c.K==a.K&&(c.Cap==a.Cap&&(c.P==a.P&&(c.Am==a.Am&&(c.Bs==a.Bs&&true)))))))))||(!b)) (
  1)<|
 0
def A7j (f:B5) (c:Bool):Option Int:=
 cond c (
  Option.bind (B1v f.K f.Cap) fun d=>
  some d)<|
 cond (f.Bi==4) (
  Option.bind (B1w f.Bo f.K f.Cap) fun e=>
  some e)<|
 cond (f.Bi==5) (
  Option.bind (B1x f.K f.Cap) fun a=>
  some a)<|
 cond (f.Bi==6) (
  some (A1 (f.P+1)))<|
 cond (f.Bi==7) (
  some f.W)<|
 cond (f.Bi==8) (
  some (A0h f.W f.Cap))<|
 cond (f.Bi==9) (
  some (A1 (f.Am*f.Cap)))<|
 cond (f.Bi==11) (
  Option.bind (B1y f.K f.Cap) fun b=>
  some b)<|
 some f.Cap
def A0f (b:B5):Option Int:=
 let a:=(A3r b);
 cond (a !=0) (
  some 0)<|
 cond (b.Bi==2) (
  A7j b (b.Bi==2))<|
 A7j b (b.Bi==3)
def J6 (a:A7):(Int×Bool):=
 cond (a.Ao.Bi==1) (
  (a.Aq.Now,true))<|
 cond (a.Ao.Bi==2) (
  (a.Ay.Now,true))<|
 cond (a.Ao.Bi==3) (
  (a.Sum.Now,true))<|
 cond (a.Ao.Bi==4) (
  (a.As.Now,true))<|
 cond (a.Ao.Bi==5) (
  (a.Au.Now,true))<|
 cond (a.Ao.Bi==6) (
  (a.Bm.Now,true))<|
 cond (a.Ao.Bi==7) (
  (a.Ba.Now,true))<|
 cond (a.Ao.Bi==8) (
  (a.Af.Now,true))<|
 cond (a.Ao.Bi==11) (
  (a.Ab.Now,true))<|
 (0,false)
def Q3 (m:A7) (i:C8) (a:E1) (b:F0) (c:C9) (d:D1) (e:E0) (j:Int) (k:List Int) (f:B8) (l:List B7) (g:B9) (h:C3):A7:=
 (A7.mk m.Ao i a b c d e (F1.mk j k) f (E4.mk l) g h)
def C5j (a:A7):A7:=
 cond (a.Ao.Bi==1) (
  Q3 a a.Aq (E1.mk 0 0 0 0 []) (F0.mk 0 0 0 0 0 []) (C9.mk 0 0 0 0 0 0 []) (D1.mk 0 0 0 0 0 []) (E0.mk 0 0 0 []) 0 ([]:List Int) (B8.mk false 0 0 0 []) ([]:List B7) (B9.mk 0 0 0 []) (C3.mk 0 0 0 0 []))<|
 cond (a.Ao.Bi==2) (
  Q3 a (C8.mk 0 0 0 []) a.Ay (F0.mk 0 0 0 0 0 []) (C9.mk 0 0 0 0 0 0 []) (D1.mk 0 0 0 0 0 []) (E0.mk 0 0 0 []) 0 ([]:List Int) (B8.mk false 0 0 0 []) ([]:List B7) (B9.mk 0 0 0 []) (C3.mk 0 0 0 0 []))<|
 cond (a.Ao.Bi==3) (
  Q3 a (C8.mk 0 0 0 []) (E1.mk 0 0 0 0 []) a.Sum (C9.mk 0 0 0 0 0 0 []) (D1.mk 0 0 0 0 0 []) (E0.mk 0 0 0 []) 0 ([]:List Int) (B8.mk false 0 0 0 []) ([]:List B7) (B9.mk 0 0 0 []) (C3.mk 0 0 0 0 []))<|
 cond (a.Ao.Bi==4) (
  Q3 a (C8.mk 0 0 0 []) (E1.mk 0 0 0 0 []) (F0.mk 0 0 0 0 0 []) a.As (D1.mk 0 0 0 0 0 []) (E0.mk 0 0 0 []) 0 ([]:List Int) (B8.mk false 0 0 0 []) ([]:List B7) (B9.mk 0 0 0 []) (C3.mk 0 0 0 0 []))<|
 cond (a.Ao.Bi==5) (
  Q3 a (C8.mk 0 0 0 []) (E1.mk 0 0 0 0 []) (F0.mk 0 0 0 0 0 []) (C9.mk 0 0 0 0 0 0 []) a.Au (E0.mk 0 0 0 []) 0 ([]:List Int) (B8.mk false 0 0 0 []) ([]:List B7) (B9.mk 0 0 0 []) (C3.mk 0 0 0 0 []))<|
 cond (a.Ao.Bi==6) (
  Q3 a (C8.mk 0 0 0 []) (E1.mk 0 0 0 0 []) (F0.mk 0 0 0 0 0 []) (C9.mk 0 0 0 0 0 0 []) (D1.mk 0 0 0 0 0 []) a.Bm 0 ([]:List Int) (B8.mk false 0 0 0 []) ([]:List B7) (B9.mk 0 0 0 []) (C3.mk 0 0 0 0 []))<|
 cond (a.Ao.Bi==7) (
  Q3 a (C8.mk 0 0 0 []) (E1.mk 0 0 0 0 []) (F0.mk 0 0 0 0 0 []) (C9.mk 0 0 0 0 0 0 []) (D1.mk 0 0 0 0 0 []) (E0.mk 0 0 0 []) a.Ba.Now a.Ba.Bn (B8.mk false 0 0 0 []) ([]:List B7) (B9.mk 0 0 0 []) (C3.mk 0 0 0 0 []))<|
 cond (a.Ao.Bi==8) (
  Q3 a (C8.mk 0 0 0 []) (E1.mk 0 0 0 0 []) (F0.mk 0 0 0 0 0 []) (C9.mk 0 0 0 0 0 0 []) (D1.mk 0 0 0 0 0 []) (E0.mk 0 0 0 []) 0 ([]:List Int) a.Af ([]:List B7) (B9.mk 0 0 0 []) (C3.mk 0 0 0 0 []))<|
 cond (a.Ao.Bi==9) (
  Q3 a (C8.mk 0 0 0 []) (E1.mk 0 0 0 0 []) (F0.mk 0 0 0 0 0 []) (C9.mk 0 0 0 0 0 0 []) (D1.mk 0 0 0 0 0 []) (E0.mk 0 0 0 []) 0 ([]:List Int) (B8.mk false 0 0 0 []) a.Ar.Am (B9.mk 0 0 0 []) (C3.mk 0 0 0 0 []))<|
 cond (a.Ao.Bi==10) (
  Q3 a (C8.mk 0 0 0 []) (E1.mk 0 0 0 0 []) (F0.mk 0 0 0 0 0 []) (C9.mk 0 0 0 0 0 0 []) (D1.mk 0 0 0 0 0 []) (E0.mk 0 0 0 []) 0 ([]:List Int) (B8.mk false 0 0 0 []) ([]:List B7) a.Ai (C3.mk 0 0 0 0 []))<|
 cond (a.Ao.Bi==11) (
  Q3 a (C8.mk 0 0 0 []) (E1.mk 0 0 0 0 []) (F0.mk 0 0 0 0 0 []) (C9.mk 0 0 0 0 0 0 []) (D1.mk 0 0 0 0 0 []) (E0.mk 0 0 0 []) 0 ([]:List Int) (B8.mk false 0 0 0 []) ([]:List B7) (B9.mk 0 0 0 []) a.Ab)<|
 Q3 a (C8.mk 0 0 0 []) (E1.mk 0 0 0 0 []) (F0.mk 0 0 0 0 0 []) (C9.mk 0 0 0 0 0 0 []) (D1.mk 0 0 0 0 0 []) (E0.mk 0 0 0 []) 0 ([]:List Int) (B8.mk false 0 0 0 []) ([]:List B7) (B9.mk 0 0 0 []) (C3.mk 0 0 0 0 [])
def B51 (d e:List A8) (a:Int):Option (Int⊕Bool):=
 cond (decide (a<(d.length:Int))) (
  Option.bind (C1 d a) fun b=>
  Option.bind (C1 e a) fun c=>
  cond (!(b.T==c.T&&(b.V==c.V&&true))) (
   some (.inr false))<|
  some (.inl (A1 (a+1))))<|
 Option.map Sum.inr (some true)
def B6P (b c:List A8) (a:Int):Option Bool:=
 loop (fun (s:Int)=>B51 b c s) a
def B3n (a b:List A8):Option Bool:=
 cond ((a.length:Int) !=(b.length:Int)) (
  some false)<|
 B6P a b 0
def C67 (b c:C8):Option Bool:=
 Option.bind (gd (((b.W==c.W)&&(b.Cap==c.Cap))&&(b.Now==c.Now)) (B3n b.Bb c.Bb)) fun a=>
 some ((((b.W==c.W)&&(b.Cap==c.Cap))&&(b.Now==c.Now))&&a)
def C0D (d e:List A3) (a:Int):Option (Int⊕Bool):=
 cond (decide (a<(d.length:Int))) (
  Option.bind (C1 d a) fun b=>
  Option.bind (C1 e a) fun c=>
  cond (!(b.T==c.T&&(b.Bc==c.Bc&&true))) (
   some (.inr false))<|
  some (.inl (A1 (a+1))))<|
 Option.map Sum.inr (some true)
def C2g (b c:List A3) (a:Int):Option Bool:=
 loop (fun (s:Int)=>C0D b c s) a
def B9J (a b:List A3):Option Bool:=
 cond ((a.length:Int) !=(b.length:Int)) (
  some false)<|
 C2g a b 0
def C68 (b c:E1):Option Bool:=
 Option.bind (gd ((((b.W==c.W)&&(b.K==c.K))&&(b.Cap==c.Cap))&&(b.Now==c.Now)) (B9J b.Ad c.Ad)) fun a=>
 some (((((b.W==c.W)&&(b.K==c.K))&&(b.Cap==c.Cap))&&(b.Now==c.Now))&&a)
def C69 (b c:F0):Option Bool:=
 Option.bind (gd (((((b.W==c.W)&&(b.K==c.K))&&(b.Cap==c.Cap))&&(b.Bs==c.Bs))&&(b.Now==c.Now)) (B9J b.Ad c.Ad)) fun a=>
 some ((((((b.W==c.W)&&(b.K==c.K))&&(b.Cap==c.Cap))&&(b.Bs==c.Bs))&&(b.Now==c.Now))&&a)
def B52 (d e:List A6) (c:Int):Option (Int⊕Bool):=
 cond (decide (c<(d.length:Int))) (
  Option.bind (C1 d c) fun a=>
  Option.bind (C1 e c) fun b=>
  cond (!(a.Bv==b.Bv&&(a.T==b.T&&(a.N==b.N&&(a.S==b.S&&(a.Q==b.Q&&(a.Bt==b.Bt&&(a.Bs==b.Bs&&true)))))))) (
   some (.inr false))<|
  some (.inl (A1 (c+1))))<|
 Option.map Sum.inr (some true)
def B6Q (b c:List A6) (a:Int):Option Bool:=
 loop (fun (s:Int)=>B52 b c s) a
def B3o (a b:List A6):Option Bool:=
 cond ((a.length:Int) !=(b.length:Int)) (
  some false)<|
 B6Q a b 0
def C7a (b c:C9):Option Bool:=
 Option.bind (gd ((((((b.Bo==c.Bo)&&(b.W==c.W))&&(b.K==c.K))&&(b.Cap==c.Cap))&&(b.Now==c.Now))&&(b.Bv==c.Bv)) (B3o b.Bf c.Bf)) fun a=>
 some (((((((b.Bo==c.Bo)&&(b.W==c.W))&&(b.K==c.K))&&(b.Cap==c.Cap))&&(b.Now==c.Now))&&(b.Bv==c.Bv))&&a)
def C7b (b c:D1):Option Bool:=
 Option.bind (gd (((((b.W==c.W)&&(b.K==c.K))&&(b.Cap==c.Cap))&&(b.Now==c.Now))&&(b.Bv==c.Bv)) (B3o b.Bf c.Bf)) fun a=>
 some ((((((b.W==c.W)&&(b.K==c.K))&&(b.Cap==c.Cap))&&(b.Now==c.Now))&&(b.Bv==c.Bv))&&a)
def B6T (d e:List A2) (a:Int):Option (Int⊕Bool):=
 cond (decide (a<(d.length:Int))) (
  Option.bind (C1 d a) fun b=>
  Option.bind (C1 e a) fun c=>
  cond (!(b.Hi==c.Hi&&(b.Lo==c.Lo&&true))) (
   some (.inr false))<|
  some (.inl (A1 (a+1))))<|
 Option.map Sum.inr (some true)
def B7K (b c:List A2) (a:Int):Option Bool:=
 loop (fun (s:Int)=>B6T b c s) a
def C0M (a b:List A2):Option Bool:=
 cond ((a.length:Int) !=(b.length:Int)) (
  some false)<|
 B7K a b 0
def C7c (b c:E0):Option Bool:=
 Option.bind (gd (((b.P==c.P)&&(b.Bj==c.Bj))&&(b.Now==c.Now)) (C0M b.Ag c.Ag)) fun a=>
 some ((((b.P==c.P)&&(b.Bj==c.Bj))&&(b.Now==c.Now))&&a)
def B4t (d e:List Int) (a:Int):Option (Int⊕Bool):=
 cond (decide (a<(d.length:Int))) (
  Option.bind (C1 d a) fun b=>
  Option.bind (C1 e a) fun c=>
  cond (b !=c) (
   some (.inr false))<|
  some (.inl (A1 (a+1))))<|
 Option.map Sum.inr (some true)
def B5f (b c:List Int) (a:Int):Option Bool:=
 loop (fun (s:Int)=>B4t b c s) a
def B7H (a b:List Int):Option Bool:=
 cond ((a.length:Int) !=(b.length:Int)) (
  some false)<|
 B5f a b 0
def C7d (b c:F1):Option Bool:=
 Option.bind (gd (b.Now==c.Now) (B7H b.Bn c.Bn)) fun a=>
 some ((b.Now==c.Now)&&a)
def C7e (b c:B8):Option Bool:=
 Option.bind (gd ((((b.Bs==c.Bs)&&(b.W==c.W))&&(b.Cap==c.Cap))&&(b.Now==c.Now)) (B3n b.Bb c.Bb)) fun a=>
 some (((((b.Bs==c.Bs)&&(b.W==c.W))&&(b.Cap==c.Cap))&&(b.Now==c.Now))&&a)
def C0Q (d e:B7) (a:Int):Option (Int⊕Bool):=
 cond (decide (a<(d.Be.length:Int))) (
  Option.bind (C1 d.Be a) fun b=>
  Option.bind (C1 e.Be a) fun c=>
  cond (!(b.I==c.I&&(b.V==c.V&&true))) (
   some (.inr false))<|
  some (.inl (A1 (a+1))))<|
 Option.map Sum.inr (some true)
def C2i (b c:B7) (a:Int):Option Bool:=
 loop (fun (s:Int)=>C0Q b c s) a
def C7f (a b:B7):Option Bool:=
 cond (((((a.W !=b.W)||(a.Cap !=b.Cap))||(a.I !=b.I))||(a.Bl !=b.Bl))||((a.Be.length:Int) !=(b.Be.length:Int))) (
  some false)<|
 C2i a b 0
def C0S (e f:E4) (a:Int):Option (Int⊕Bool):=
 cond (decide (a<(e.Am.length:Int))) (
  Option.bind (C1 e.Am a) fun c=>
  Option.bind (C1 f.Am a) fun d=>
  Option.bind (C7f c d) fun b=>
  cond (!b) (
   some (.inr false))<|
  some (.inl (A1 (a+1))))<|
 Option.map Sum.inr (some true)
def C2j (b c:E4) (a:Int):Option Bool:=
 loop (fun (s:Int)=>C0S b c s) a
def C7g (a b:E4):Option Bool:=
 cond ((a.Am.length:Int) !=(b.Am.length:Int)) (
  some false)<|
 C2j a b 0
def C0U (d e:B9) (a:Int):Option (Int⊕Bool):=
 cond (decide (a<(d.Av.length:Int))) (
  Option.bind (C1 d.Av a) fun b=>
  Option.bind (C1 e.Av a) fun c=>
  cond (!(b.V==c.V&&(b.G==c.G&&(b.D==c.D&&true)))) (
   some (.inr false))<|
  some (.inl (A1 (a+1))))<|
 Option.map Sum.inr (some true)
def C2k (b c:B9) (a:Int):Option Bool:=
 loop (fun (s:Int)=>C0U b c s) a
def C7h (a b:B9):Option Bool:=
 cond ((((a.K !=b.K)||(a.Cap !=b.Cap))||(a.N !=b.N))||((a.Av.length:Int) !=(b.Av.length:Int))) (
  some false)<|
 C2k a b 0
def C0W (d e:D0) (a:Int):Option (Int⊕Bool):=
 cond (decide (a<(d.Ae.length:Int))) (
  Option.bind (C1 d.Ae a) fun b=>
  Option.bind (C1 e.Ae a) fun c=>
  cond (!(b.V==c.V&&(b.Bt==c.Bt&&(b.Bs==c.Bs&&true)))) (
   some (.inr false))<|
  some (.inl (A1 (a+1))))<|
 Option.map Sum.inr (some true)
def C2m (b c:D0) (a:Int):Option Bool:=
 loop (fun (s:Int)=>C0W b c s) a
def C7i (a b:D0):Option Bool:=
 cond ((a.N !=b.N)||((a.Ae.length:Int) !=(b.Ae.length:Int))) (
  some false)<|
 C2m a b 0
def C0Y (k l:List B2) (a:Int):Option (Int⊕Bool):=
 cond (decide (a<(k.length:Int))) (
  Option.bind (C1 k a) fun b=>
  Option.bind (C1 l a) fun c=>
  Option.bind (gd (!(b.T !=c.T)) (C1 k a)) fun d=>
  Option.bind (gd (!(b.T !=c.T)) (C1 l a)) fun e=>
  Option.bind (gd (!((b.T !=c.T)||(d.Bk !=e.Bk))) (C1 k a)) fun f=>
  Option.bind (gd (!((b.T !=c.T)||(d.Bk !=e.Bk))) (C1 l a)) fun g=>
  Option.bind (gd (!(((b.T !=c.T)||(d.Bk !=e.Bk))||(f.Bc !=g.Bc))) (C1 k a)) fun h=>
  Option.bind (gd (!(((b.T !=c.T)||(d.Bk !=e.Bk))||(f.Bc !=g.Bc))) (C1 l a)) fun i=>
  Option.bind (gd (!(((b.T !=c.T)||(d.Bk !=e.Bk))||(f.Bc !=g.Bc))) (C7i h.Bh i.Bh)) fun j=>
  cond ((((b.T !=c.T)||(d.Bk !=e.Bk))||(f.Bc !=g.Bc))||(!j)) (
   some (.inr false))<|
  some (.inl (A1 (a+1))))<|
 Option.map Sum.inr (some true)
def C2o (b c:List B2) (a:Int):Option Bool:=
 loop (fun (s:Int)=>C0Y b c s) a
def C7j (a b:List B2):Option Bool:=
 cond ((a.length:Int) !=(b.length:Int)) (
  some false)<|
 C2o a b 0
def C7k (b c:C3):Option Bool:=
 Option.bind (gd ((((b.W==c.W)&&(b.K==c.K))&&(b.Cap==c.Cap))&&(b.Now==c.Now)) (C7j b.Ak c.Ak)) fun a=>
 some (((((b.W==c.W)&&(b.K==c.K))&&(b.Cap==c.Cap))&&(b.Now==c.Now))&&a)
def C7l (l m:A7):Option Bool:=
 Option.bind (gd (l.Ao.Bi==m.Ao.Bi&&(l.Ao.Bo==m.Ao.Bo&&(l.Ao.W==m.Ao.W&&(l.Ao.K==m.Ao.K&&(l.Ao.Cap==m.Ao.Cap&&(l.Ao.P==m.Ao.P&&(l.Ao.Am==m.Ao.Am&&(l.Ao.Bs==m.Ao.Bs&&true)))))))) (C67 l.Aq m.Aq)) fun a=>
 Option.bind (gd ((l.Ao.Bi==m.Ao.Bi&&(l.Ao.Bo==m.Ao.Bo&&(l.Ao.W==m.Ao.W&&(l.Ao.K==m.Ao.K&&(l.Ao.Cap==m.Ao.Cap&&(l.Ao.P==m.Ao.P&&(l.Ao.Am==m.Ao.Am&&(l.Ao.Bs==m.Ao.Bs&&true))))))))&&a) (C68 l.Ay m.Ay)) fun b=>
 Option.bind (gd (((l.Ao.Bi==m.Ao.Bi&&(l.Ao.Bo==m.Ao.Bo&&(l.Ao.W==m.Ao.W&&(l.Ao.K==m.Ao.K&&(l.Ao.Cap==m.Ao.Cap&&(l.Ao.P==m.Ao.P&&(l.Ao.Am==m.Ao.Am&&(l.Ao.Bs==m.Ao.Bs&&true))))))))&&a)&&b) (C69 l.Sum m.Sum)) fun c=>
 Option.bind (gd ((((l.Ao.Bi==m.Ao.Bi&&(l.Ao.Bo==m.Ao.Bo&&(l.Ao.W==m.Ao.W&&(l.Ao.K==m.Ao.K&&(l.Ao.Cap==m.Ao.Cap&&(l.Ao.P==m.Ao.P&&(l.Ao.Am==m.Ao.Am&&(l.Ao.Bs==m.Ao.Bs&&true))))))))&&a)&&b)&&c) (C7a l.As m.As)) fun d=>
 Option.bind (gd (((((l.Ao.Bi==m.Ao.Bi&&(l.Ao.Bo==m.Ao.Bo&&(l.Ao.W==m.Ao.W&&(l.Ao.K==m.Ao.K&&(l.Ao.Cap==m.Ao.Cap&&(l.Ao.P==m.Ao.P&&(l.Ao.Am==m.Ao.Am&&(l.Ao.Bs==m.Ao.Bs&&true))))))))&&a)&&b)&&c)&&d) (C7b l.Au m.Au)) fun e=>
 Option.bind (gd ((((((l.Ao.Bi==m.Ao.Bi&&(l.Ao.Bo==m.Ao.Bo&&(l.Ao.W==m.Ao.W&&(l.Ao.K==m.Ao.K&&(l.Ao.Cap==m.Ao.Cap&&(l.Ao.P==m.Ao.P&&(l.Ao.Am==m.Ao.Am&&(l.Ao.Bs==m.Ao.Bs&&true))))))))&&a)&&b)&&c)&&d)&&e) (C7c l.Bm m.Bm)) fun f=>
 Option.bind (gd (((((((l.Ao.Bi==m.Ao.Bi&&(l.Ao.Bo==m.Ao.Bo&&(l.Ao.W==m.Ao.W&&(l.Ao.K==m.Ao.K&&(l.Ao.Cap==m.Ao.Cap&&(l.Ao.P==m.Ao.P&&(l.Ao.Am==m.Ao.Am&&(l.Ao.Bs==m.Ao.Bs&&true))))))))&&a)&&b)&&c)&&d)&&e)&&f) (C7d l.Ba m.Ba)) fun g=>
 Option.bind (gd ((((((((l.Ao.Bi==m.Ao.Bi&&(l.Ao.Bo==m.Ao.Bo&&(l.Ao.W==m.Ao.W&&(l.Ao.K==m.Ao.K&&(l.Ao.Cap==m.Ao.Cap&&(l.Ao.P==m.Ao.P&&(l.Ao.Am==m.Ao.Am&&(l.Ao.Bs==m.Ao.Bs&&true))))))))&&a)&&b)&&c)&&d)&&e)&&f)&&g) (C7e l.Af m.Af)) fun h=>
 Option.bind (gd (((((((((l.Ao.Bi==m.Ao.Bi&&(l.Ao.Bo==m.Ao.Bo&&(l.Ao.W==m.Ao.W&&(l.Ao.K==m.Ao.K&&(l.Ao.Cap==m.Ao.Cap&&(l.Ao.P==m.Ao.P&&(l.Ao.Am==m.Ao.Am&&(l.Ao.Bs==m.Ao.Bs&&true))))))))&&a)&&b)&&c)&&d)&&e)&&f)&&g)&&h) (C7g l.Ar m.Ar)) fun i=>
 Option.bind (gd ((((((((((l.Ao.Bi==m.Ao.Bi&&(l.Ao.Bo==m.Ao.Bo&&(l.Ao.W==m.Ao.W&&(l.Ao.K==m.Ao.K&&(l.Ao.Cap==m.Ao.Cap&&(l.Ao.P==m.Ao.P&&(l.Ao.Am==m.Ao.Am&&(l.Ao.Bs==m.Ao.Bs&&true))))))))&&a)&&b)&&c)&&d)&&e)&&f)&&g)&&h)&&i) (C7h l.Ai m.Ai)) fun j=>
 Option.bind (gd (((((((((((l.Ao.Bi==m.Ao.Bi&&(l.Ao.Bo==m.Ao.Bo&&(l.Ao.W==m.Ao.W&&(l.Ao.K==m.Ao.K&&(l.Ao.Cap==m.Ao.Cap&&(l.Ao.P==m.Ao.P&&(l.Ao.Am==m.Ao.Am&&(l.Ao.Bs==m.Ao.Bs&&true))))))))&&a)&&b)&&c)&&d)&&e)&&f)&&g)&&h)&&i)&&j) (C7k l.Ab m.Ab)) fun k=>
 some ((((((((((((l.Ao.Bi==m.Ao.Bi&&(l.Ao.Bo==m.Ao.Bo&&(l.Ao.W==m.Ao.W&&(l.Ao.K==m.Ao.K&&(l.Ao.Cap==m.Ao.Cap&&(l.Ao.P==m.Ao.P&&(l.Ao.Am==m.Ao.Am&&(l.Ao.Bs==m.Ao.Bs&&true))))))))&&a)&&b)&&c)&&d)&&e)&&f)&&g)&&h)&&i)&&j)&&k)
def B9L (f:List A3) (g:Int) (b:List Int) (a:Int):Option (Int⊕Bool):=
 cond (decide (a<(b.length:Int))) (
  Option.bind (C1 b a) fun e=>
  Option.bind (C1 b a) fun c=>
  Option.bind (gd (decide ((f.length:Int)>(0:Int))) (C1 f 0)) fun d=>
  cond ((decide ((f.length:Int)>(0:Int)))&&(((decide (a<d.Bc))&&(decide (c<g)))||(decide (c>(A1 (g+1)))))) (
   some (.inr false))<|
  some (.inl (A1 (a+1))))<|
 Option.map Sum.inr (some true)
def C0F (c:List A3) (d:Int) (b:List Int) (a:Int):Option Bool:=
 loop (fun (s:Int)=>B9L c d b s) a
def B9K (k:List A3) (l:Int) (c:List Int) (b:Int):Option (((List Int)×Int)⊕Bool):=
 cond (decide (b<(k.length:Int))) (
  Option.bind (C1 k b) fun a=>
  let d:=(G8 a.T);
  Option.bind (gd ((!(((!d)||(decide (a.Bc<0)))||(decide (a.Bc>30))))&&(decide (b>0))) (C1 k (A1 (b-1)))) fun e=>
  Option.bind (gd (((!(((!d)||(decide (a.Bc<0)))||(decide (a.Bc>30))))&&(decide (b>0)))&&(!(decide (e.T>a.T)))) (C1 k (A1 (b-1)))) fun f=>
  cond ((((!d)||(decide (a.Bc<0)))||(decide (a.Bc>30)))||((decide (b>0))&&((decide (e.T>a.T))||(decide (f.Bc<a.Bc))))) (
   some (.inr false))<|
  Option.bind (C1 c a.Bc) fun h=>
  Option.bind (C1 c a.Bc) fun g=>
  Option.bind (C1 c a.Bc) fun i=>
  Option.bind (C1 c a.Bc) fun j=>
  some (.inl ((c.set (a.Bc).toNat (A1 (g+1))),(A1 (b+1)))))<|
 Option.map Sum.inr (C0F k l c 0)
def C0E (c:List A3) (d:Int) (b:List Int) (a:Int):Option Bool:=
 loop (fun (s:((List Int)×Int))=>B9K c d s.1 s.2) (b,a)
def B8f (c:List A3) (b:Int):Option Bool:=
 let a:=(A8j b);
 cond (!a) (
  some false)<|
 ck (decide (0<=(31:Int)/\(31:Int)<=(31:Int)/\(31:Int)*8<=140737488355328/\(31:Int)<=140737488355328))<|
 C0E c b (List.replicate ((31:Int)).toNat 0) 0
def C0G (d:List A3) (e f a:Int):Option (Int⊕Bool):=
 cond (decide (a<(d.length:Int))) (
  Option.bind (C1 d a) fun b=>
  let c:=(F7 f e b.T);
  cond (!c) (
   some (.inr false))<|
  some (.inl (A1 (a+1))))<|
 Option.map Sum.inr (some true)
def C2h (b:List A3) (c d a:Int):Option Bool:=
 loop (fun (s:Int)=>C0G b c d s) a
def B9M (e:List A3) (f g h i:Int):Option Bool:=
 let a:=(M7 f h i);
 let b:=(N3 g);
 Option.bind (gd (!((!a)||(!b))) (B8f e g)) fun c=>
 Option.bind (gd (!(((!a)||(!b))||(!c))) (A6y e)) fun d=>
 cond ((((!a)||(!b))||(!c))||(decide (d>h))) (
  some false)<|
 C2h e f i 0
def C0H (b:E1):Option Int:=
 Option.bind (B9M b.Ad b.W b.K b.Cap b.Now) fun a=>
 cond (!a) (
  some 2)<|
 some 0
def C3V (a:Int):Bool:=
 ((decide (a>=1))&&(decide (a<=1024)))
def C0I (c:F0):Option Int:=
 Option.bind (B9M c.Ad c.W c.K c.Cap c.Now) fun a=>
 let b:=(C3V c.Bs);
 cond ((!a)||(!b)) (
  some 2)<|
 some 0
def B9O (a b c d e:Int):Bool:=
 (((((decide ((A1 (a*d))<=b))&&(decide (b<=(A1 (a*e)))))&&(decide (c>=0)))&&(decide (c<=(A1 ((A1 (a*(4096:Int)))*(4096:Int))))))&&(decide ((A1 (b*b))<=(A1 (a*c)))))
def B8i (b c:Int):Bool:=
 let a:=(M2 c);
 (a&&(((decide (c>=0))||(b==1))||(b==4)))
def B9N (l:List A6) (o q p n m b:Int):Option (Int⊕Bool):=
 cond (decide (b<(l.length:Int))) (
  Option.bind (C1 l b) fun a=>
  Option.bind (gd ((!((((decide (a.Bv<1))||(decide (a.Bv>m)))||(a.N !=(A1 ((A1 (m-a.Bv))+1))))||(decide (a.N>p))))&&(decide (b>0))) (C1 l (A1 (b-1)))) fun g=>
  cond (((((decide (a.Bv<1))||(decide (a.Bv>m)))||(a.N !=(A1 ((A1 (m-a.Bv))+1))))||(decide (a.N>p)))||((decide (b>0))&&(decide (g.Bv>=a.Bv)))) (
   some (.inr false))<|
  let d:=(G8 a.T);
  Option.bind (gd ((!((!d)||(decide (a.T>n))))&&(decide (b>0))) (C1 l (A1 (b-1)))) fun h=>
  let i:=(F7 n q a.T);
  cond ((((!d)||(decide (a.T>n)))||((decide (b>0))&&(decide (h.T>a.T))))||(((decide (b>0))||((l.length:Int)==(1:Int)))&&(!i))) (
   some (.inr false))<|
  let j:=(B8i o a.Bt);
  let k:=(B8i o a.Bs);
  let e:=(B9O a.N a.S a.Q a.Bt a.Bs);
  cond ((((((((!j)||(!k))||(decide (a.Bt>a.Bs)))||(decide (a.S<(A1 ((IntKind.i64.wrap (0-a.N))*4096)))))||(decide (a.S>(A1 (a.N*4096)))))||(decide (a.Q<0)))||(decide (a.Q>(A1 ((A1 (a.N*(4096:Int)))*(4096:Int))))))||(!e)) (
   some (.inr false))<|
  cond ((b==(A1 ((l.length:Int)-(1:Int))))&&((((a.Bv !=m)||(a.Bt !=a.S))||(a.Bs !=a.S))||(a.Q !=(A1 (a.S*a.S))))) (
   some (.inr false))<|
  cond (decide (b>0)) (
   Option.bind (C1 l (A1 (b-1))) fun c=>
   let f:=(B9O (A1 (c.N-a.N)) (A1 (c.S-a.S)) (A1 (c.Q-a.Q)) c.Bt c.Bs);
   cond (((decide (a.Bt<c.Bt))||(decide (a.Bs>c.Bs)))||(!f)) (
    some (.inr false))<|
   some (.inl (A1 (b+1))))<|
  some (.inl (A1 (b+1))))<|
 Option.map Sum.inr (some true)
def C0J (b:List A6) (c d e f g a:Int):Option Bool:=
 loop (fun (s:Int)=>B9N b c d e f g s) a
def B8g (b:List A6) (c d e f a:Int):Option Bool:=
 cond ((decide (a<0))||(decide (a>1099511627776))) (
  some false)<|
 C0J b c d e f a 0
def B6R (j:C9) (a:Int):Option (Int⊕Int):=
 cond (decide (a<(j.Bf.length:Int))) (
  Option.bind (C1 j.Bf a) fun b=>
  let i:=(A47 b j.Bo);
  Option.bind (gd (decide (a>1)) (C1 j.Bf (A1 (a-2)))) fun d=>
  let e:=(A47 d j.Bo);
  cond ((decide (a>1))&&(decide ((A1 ((A1 (j.K+1))*i))>=(A1 (j.K*e))))) (
   some (.inr 2))<|
  Option.bind (gd (decide (a>0)) (C1 j.Bf (A1 (a-1)))) fun c=>
  let f:=(A47 b j.Bo);
  Option.bind (gd ((decide (a>0))&&(decide (b.Bv>(A1 (c.Bv+1))))) (C1 j.Bf (A1 (a-1)))) fun g=>
  let h:=(A47 g j.Bo);
  cond (((decide (a>0))&&(decide (b.Bv>(A1 (c.Bv+1)))))&&(decide ((A1 ((A1 (j.K+1))*f))<(A1 (j.K*h))))) (
   some (.inr 2))<|
  some (.inl (A1 (a+1))))<|
 Option.map Sum.inr (some 0)
def B7I (b:C9) (a:Int):Option Int:=
 loop (fun (s:Int)=>B6R b s) a
def C0K (e:C9):Option Int:=
 let c:=(A1T e.Bo);
 let a:=(M7 e.W e.Cap e.Now);
 let b:=(N3 e.K);
 Option.bind (gd (!(((!c)||(!a))||(!b))) (B8g e.Bf e.Bo e.W e.Cap e.Now e.Bv)) fun d=>
 cond ((((!c)||(!a))||(!b))||(!d)) (
  some 2)<|
 B7I e 0
def C5g (g h:A6) (i:Int):Bool:=
 let d:=(A2H g);
 let e:=(A2H h);
 let a:=(N3 i);
 cond ((((!d)||(!e))||(!a))||(decide ((A1 ((A1 (6*i))*h.N))<(A1 ((A1 ((A1 (6*i))-1))*g.N))))) (
  false)<|
 let f:=(R5 (A4 (A1 ((A1 (h.N*h.Q))-(A1 (h.S*h.S))))) (A4 (A1 ((A1 (6*i))*g.N))));
 let b:=(R5 (A4 (A1 ((A1 (g.N*g.Q))-(A1 (g.S*g.S))))) (A4 (A1 ((A1 ((A1 (6*i))-1))*h.N))));
 let c:=(A4c f b);
 (decide (c>=0))
def B6S (e:D1) (a:Int):Option (Int⊕Int):=
 cond (decide (a<(e.Bf.length:Int))) (
  Option.bind (C1 e.Bf (A1 (a-2))) fun c=>
  Option.bind (C1 e.Bf a) fun d=>
  let b:=(C5g c d e.K);
  cond b (
   some (.inr 2))<|
  some (.inl (A1 (a+1))))<|
 Option.map Sum.inr (some 0)
def B7J (b:D1) (a:Int):Option Int:=
 loop (fun (s:Int)=>B6S b s) a
def C0L (d:D1):Option Int:=
 let b:=(M7 d.W d.Cap d.Now);
 let a:=(N3 d.K);
 Option.bind (gd (!((!b)||(!a))) (B8g d.Bf 4 d.W d.Cap d.Now d.Bv)) fun c=>
 cond (((!b)||(!a))||(!c)) (
  some 2)<|
 B7J d 2
def C83 (c d:A2):Option (A2×Bool):=
 Option.bind (N2 c.Lo d.Lo 0) fun a=>
 Option.bind (N2 c.Hi d.Hi a.2) fun b=>
 cond (b.2 !=0) (
  some ((A2.mk 0 0),false))<|
 some ((A2.mk b.1 a.1),true)
def C84 (e f:A2):Option (A2×Bool):=
 cond ((e.Hi !=0)&&(f.Hi !=0)) (
  some ((A2.mk 0 0),false))<|
 let b:=(R5 e.Hi f.Lo);
 let c:=(R5 e.Lo f.Hi);
 cond ((b.Hi !=0)||(c.Hi !=0)) (
  some ((A2.mk 0 0),false))<|
 let d:=(R5 e.Lo f.Lo);
 Option.bind (C83 d (A2.mk (A4 (b.Lo+c.Lo)) 0)) fun a=>
 some (a.1,a.2)
def B6U (j:E0) (a:Int):Option (Int⊕Int):=
 cond (decide (a<=j.P)) (
  Option.bind (C1 j.Ag (A1 (a-1))) fun g=>
  let d:=(R6 (A4 (A1 ((A1 (j.Now-j.Bj))+1))));
  Option.bind (C84 g d) fun b=>
  Option.bind (C1 j.Ag a) fun h=>
  Option.bind (C1 j.Ag (A1 (a-1))) fun i=>
  let c:=(A4c h i);
  Option.bind (gd ((!(decide (c<0)))&&b.2) (C1 j.Ag a)) fun e=>
  let f:=(A4c e b.1);
  cond ((decide (c<0))||(b.2&&(decide (f>0)))) (
   some (.inr 2))<|
  some (.inl (A1 (a+1))))<|
 Option.map Sum.inr (some 0)
def B7L (b:E0) (a:Int):Option Int:=
 loop (fun (s:Int)=>B6U b s) a
def C0N (b:E0):Option Int:=
 let a:=(G8 b.Now);
 cond ((((((decide (b.P<0))||(decide (b.P>4)))||(!a))||(decide (b.Bj<0)))||(decide (b.Bj>b.Now)))||((b.Ag.length:Int) !=(A1 (b.P+1)))) (
  some 2)<|
 B7L b 1
def B6V (c:F1) (a:Int):Option (Int⊕Int):=
 cond (decide (a<(c.Bn.length:Int))) (
  Option.bind (C1 c.Bn a) fun b=>
  cond (((decide (b<0))||(decide (b>1099511627776)))||((decide (a>c.Now))&&(b !=0))) (
   some (.inr 2))<|
  some (.inl (A1 (a+1))))<|
 Option.map Sum.inr (some 0)
def B7M (b:F1) (a:Int):Option Int:=
 loop (fun (s:Int)=>B6V b s) a
def C0O (b:F1):Option Int:=
 let a:=(G8 b.Now);
 cond (((decide ((b.Bn.length:Int)<(1:Int)))||(decide ((b.Bn.length:Int)>(64:Int))))||(!a)) (
  some 2)<|
 B7M b 0
def C3W (a:Bool) (b c:Int):Bool:=
 ((a&&(decide (b>c)))||((!a)&&(decide (b<c))))
def B6W (h:B8) (a:Int):Option (Int⊕Int):=
 cond (decide (a<(h.Bb.length:Int))) (
  Option.bind (C1 h.Bb a) fun b=>
  let d:=(F7 h.Now h.W b.T);
  let c:=(M2 b.V);
  Option.bind (gd ((!((!d)||(!c)))&&(decide (a>0))) (C1 h.Bb (A1 (a-1)))) fun e=>
  Option.bind (gd (((!((!d)||(!c)))&&(decide (a>0)))&&(!(decide (e.T>=b.T)))) (C1 h.Bb (A1 (a-1)))) fun f=>
  let g:=(C3W h.Bs f.V b.V);
  cond (((!d)||(!c))||((decide (a>0))&&((decide (e.T>=b.T))||(!g)))) (
   some (.inr 2))<|
  some (.inl (A1 (a+1))))<|
 Option.map Sum.inr (some 0)
def B7N (b:B8) (a:Int):Option Int:=
 loop (fun (s:Int)=>B6W b s) a
def C0P (b:B8):Option Int:=
 let a:=(M7 b.W b.Cap b.Now);
 cond ((!a)||(decide ((b.Bb.length:Int)>b.Cap))) (
  some 2)<|
 B7N b 0
def B6X (g:B7) (a:Int):Option (Int⊕Int):=
 cond (decide (a<(g.Be.length:Int))) (
  Option.bind (C1 g.Be a) fun b=>
  let c:=(M2 b.V);
  Option.bind (gd ((!((!c)||(decide (b.I>g.I))))&&(decide (a>0))) (C1 g.Be (A1 (a-1)))) fun d=>
  Option.bind (gd (((!((!c)||(decide (b.I>g.I))))&&(decide (a>0)))&&(!(decide (b.I<=d.I)))) (C1 g.Be (A1 (a-1)))) fun e=>
  cond (((!c)||(decide (b.I>g.I)))||((decide (a>0))&&((decide (b.I<=d.I))||(decide (b.I>(A1 (e.I+g.W))))))) (
   some (.inr 2))<|
  some (.inl (A1 (a+1))))<|
 Option.map Sum.inr (Option.bind (gd (!(decide (g.Bl<=g.I))) (C1 g.Be (A1 ((g.Be.length:Int)-(1:Int))))) fun f=>
 cond ((decide (g.Bl<=g.I))||(decide (g.Bl>(A1 (f.I+g.W))))) (
  some 2)<|
 some 0)
def B7O (b:B7) (a:Int):Option Int:=
 loop (fun (s:Int)=>B6X b s) a
def C0R (d:B7):Option Int:=
 let c:=(M6 d.W);
 cond ((((((!c)||(decide (d.Cap<1)))||(decide (d.Cap>64)))||(decide (d.I<0)))||(decide (d.I>1099511627776)))||(decide ((d.Be.length:Int)>d.Cap))) (
  some 2)<|
 cond (d.I==0) (
  cond (((d.Be.length:Int) !=(0:Int))||(d.Bl !=0)) (
   some 2)<|
  some 0)<|
 Option.bind (gd (!((d.Be.length:Int)==(0:Int))) (C1 d.Be 0)) fun a=>
 Option.bind (gd (!(((d.Be.length:Int)==(0:Int))||(decide (a.I<=(A1 (d.I-d.W)))))) (C1 d.Be 0)) fun b=>
 cond ((((d.Be.length:Int)==(0:Int))||(decide (a.I<=(A1 (d.I-d.W)))))||(decide (b.I<1))) (
  some 2)<|
 B7O d 0
def B6Y (e:E4) (a:Int):Option (Int⊕Int):=
 cond (decide (a<(e.Am.length:Int))) (
  Option.bind (C1 e.Am a) fun b=>
  Option.bind (C1 e.Am 0) fun c=>
  Option.bind (C0R b) fun d=>
  cond ((((d !=0)||(b.W !=c.W))||(b.Cap !=c.Cap))||(b.I !=c.I)) (
   some (.inr 2))<|
  some (.inl (A1 (a+1))))<|
 Option.map Sum.inr (some 0)
def B7P (b:E4) (a:Int):Option Int:=
 loop (fun (s:Int)=>B6Y b s) a
def C0T (a:E4):Option Int:=
 cond ((decide ((a.Am.length:Int)<(1:Int)))||(decide ((a.Am.length:Int)>(16:Int)))) (
  some 2)<|
 B7P a 0
def D11 (a:B9):Option Int:=
 ck (decide (a.K≠0))<|
 some (X8 1 (A1 (Int.tdiv a.N a.K)))
def C85 (c b:Int):(B9×Int):=
 let a:=(N3 c);
 cond (((!a)||(decide (b<2)))||(decide (b>65536))) (
  ((B9.mk 0 0 0 []),1))<|
 ((B9.mk c b 0 []),0)
def B6Z (g:B9) (c b:Int):Option ((Int×Int)⊕Int):=
 cond (decide (b<(g.Av.length:Int))) (
  Option.bind (C1 g.Av b) fun a=>
  let d:=(M2 a.V);
  Option.bind (gd (!(((((!d)||(decide (a.G<1)))||(decide (a.G>g.N)))||(decide (a.D<0)))||(decide (a.D>g.N)))) (D11 g)) fun e=>
  Option.bind (gd ((!((((((!d)||(decide (a.G<1)))||(decide (a.G>g.N)))||(decide (a.D<0)))||(decide (a.D>g.N)))||(decide ((A1 (a.G+a.D))>e))))&&(decide (b>0))) (C1 g.Av (A1 (b-1)))) fun f=>
  cond (((((((((!d)||(decide (a.G<1)))||(decide (a.G>g.N)))||(decide (a.D<0)))||(decide (a.D>g.N)))||(decide ((A1 (a.G+a.D))>e)))||((decide (b>0))&&(decide (f.V>a.V))))||((b==0)&&((a.G !=1)||(a.D !=0))))||((b==(A1 ((g.Av.length:Int)-(1:Int))))&&(a.D !=0))) (
   some (.inr 2))<|
  cond (decide ((A1 (c+a.G))>g.N)) (
   some (.inr 2))<|
  some (.inl ((A1 (c+a.G)),(A1 (b+1)))))<|
 Option.map Sum.inr (cond (c !=g.N) (
  some 2)<|
 some 0)
def B7Q (c:B9) (b a:Int):Option Int:=
 loop (fun (s:(Int×Int))=>B6Z c s.1 s.2) (b,a)
def C0V (b:B9):Option Int:=
 let a:=(C85 b.K b.Cap);
 cond (((((a.2 !=0)||(decide (b.N<0)))||(decide (b.N>1099511627776)))||(decide ((b.Av.length:Int)>b.Cap)))||(!(((b.Av.length:Int)==(0:Int))==(b.N==0)))) (
  some 2)<|
 B7Q b 0 0
def B9P (d:List B2) (b:List A3) (c:Int):Option (((List A3)×Int)⊕(List A3)):=
 cond (decide (c<(d.length:Int))) (
  Option.bind (C1 d c) fun a=>
  ck (decide ((b.length+ [(A3.mk a.T a.Bc)].length)*16<=140737488355328))<|
  some (.inl ((b++ [(A3.mk a.T a.Bc)]),(A1 (c+1)))))<|
 Option.map Sum.inr (some b)
def C0X (c:List B2) (a:List A3) (b:Int):Option (List A3):=
 loop (fun (s:((List A3)×Int))=>B9P c s.1 s.2) (a,b)
def B8j (a:List B2):Option (List A3):=
 C0X a ([]:List A3) 0
def C5h (c:List B2):Option Int:=
 Option.bind (B8j c) fun a=>
 Option.bind (A6y a) fun b=>
 some b
def B60 (d:D0) (a:Int):Option (Int⊕Int):=
 cond (decide (a<(d.Ae.length:Int))) (
  Option.bind (C1 d.Ae a) fun b=>
  cond (((((decide (b.Bt<1))||(decide (b.Bt>b.Bs)))||(decide (b.Bs>d.N)))||((a==0)&&(b.Bs !=1)))||((a==(A1 ((d.Ae.length:Int)-(1:Int))))&&(b.Bt !=d.N))) (
   some (.inr 2))<|
  cond (decide (a>0)) (
   Option.bind (C1 d.Ae (A1 (a-1))) fun c=>
   cond (((decide (c.V>b.V))||(decide (c.Bt>=b.Bt)))||(decide (c.Bs>=b.Bs))) (
    some (.inr 2))<|
   some (.inl (A1 (a+1))))<|
  some (.inl (A1 (a+1))))<|
 Option.map Sum.inr (some 0)
def B7R (b:D0) (a:Int):Option Int:=
 loop (fun (s:Int)=>B60 b s) a
def B4v (a:D0):Option Int:=
 cond (((decide (a.N<0))||(decide (a.N>1099511627776)))||(!(((a.Ae.length:Int)==(0:Int))==(a.N==0)))) (
  some 2)<|
 B7R a 0
def C2l (e:D0) (b a:Int):Option ((Int×Int)⊕Int):=
 cond (decide (a<(e.Ae.length:Int))) (
  Option.bind (C1 e.Ae a) fun d=>
  Option.bind (C1 e.Ae (A1 (a-1))) fun c=>
  some (.inl ((X8 b (A1 (d.Bs-c.Bt))),(A1 (a+1)))))<|
 Option.map Sum.inr (some b)
def C3X (c:D0) (a b:Int):Option Int:=
 loop (fun (s:(Int×Int))=>C2l c s.1 s.2) (a,b)
def C86 (b:D0):Option Int:=
 Option.bind (B4v b) fun a=>
 cond ((a !=0)||(b.N==0)) (
  some 0)<|
 C3X b 1 1
def B7S (d c b a:Int):Option ((Int×Int)⊕Int):=
 cond (decide (a<=d)) (
  ck (decide (0<=(A4 a)))<|
  cond (decide ((E7 .i64 1 (A4 a))>(A1 (c+1)))) (
   ck (decide (c≠0))<|
   some (.inl ((A1 ((A1 (2*b))+(A1 (Int.tdiv (A1 ((A1 ((A1 ((E7 .i64 1 (A4 a))-1))+c))-1)) c)))),(A1 (a+1)))))<|
  some (.inl (b,(A1 (a+1)))))<|
 Option.map Sum.inr (some b)
def B8P (c d a b:Int):Option Int:=
 loop (fun (s:(Int×Int))=>B7S c d s.1 s.2) (a,b)
def C2n (a b:Int):Option Int:=
 cond ((((decide (a<0))||(decide (a>30)))||(decide (b<1)))||(decide (b>65536))) (
  some (-1:Int))<|
 B8P a b 0 0
def B9Q (j:List B2) (k c:Int):Option (Int⊕Bool):=
 cond (decide (c<(j.length:Int))) (
  Option.bind (C1 j c) fun a=>
  Option.bind (B4v a.Bh) fun g=>
  ck (!(!(g !=0))||(decide (0<=(A4 a.Bc))))<|
  cond (((g !=0)||(a.Bh.N !=(E7 .i64 1 (A4 a.Bc))))||(decide ((a.Bh.Ae.length:Int)>(A1 (k+1))))) (
   some (.inr false))<|
  Option.bind (C1 a.Bh.Ae 0) fun d=>
  Option.bind (C1 a.Bh.Ae (A1 ((a.Bh.Ae.length:Int)-(1:Int)))) fun b=>
  let e:=(M2 d.V);
  let f:=(M2 b.V);
  Option.bind (gd (!((((!e)||(!f))||(decide (a.Bk<d.V)))||(decide (a.Bk>b.V)))) (C86 a.Bh)) fun h=>
  Option.bind (gd (!((((!e)||(!f))||(decide (a.Bk<d.V)))||(decide (a.Bk>b.V)))) (C2n a.Bc k)) fun i=>
  cond (((((!e)||(!f))||(decide (a.Bk<d.V)))||(decide (a.Bk>b.V)))||(decide ((A1 (h-1))>i))) (
   some (.inr false))<|
  some (.inl (A1 (c+1))))<|
 Option.map Sum.inr (some true)
def C0Z (b:List B2) (c a:Int):Option Bool:=
 loop (fun (s:Int)=>B9Q b c s) a
def C5i (d:List B2) (e c:Int):Option Bool:=
 Option.bind (gd (!((decide (c<1))||(decide (c>65536)))) (B8j d)) fun b=>
 Option.bind (gd (!((decide (c<1))||(decide (c>65536)))) (B8f b e)) fun a=>
 cond (((decide (c<1))||(decide (c>65536)))||(!a)) (
  some false)<|
 C0Z d c 0
def B61 (d:C3) (a:Int):Option (Int⊕Int):=
 cond (decide (a<(d.Ak.length:Int))) (
  Option.bind (C1 d.Ak a) fun b=>
  let c:=(F7 d.Now d.W b.T);
  cond (!c) (
   some (.inr 2))<|
  some (.inl (A1 (a+1))))<|
 Option.map Sum.inr (some 0)
def B7T (b:C3) (a:Int):Option Int:=
 loop (fun (s:Int)=>B61 b s) a
def C00 (f:C3):Option Int:=
 let b:=(M7 f.W f.Cap f.Now);
 let a:=(N3 f.K);
 Option.bind (gd (!((!b)||(!a))) (A2I f.K f.Cap)) fun d=>
 Option.bind (gd (!((!b)||(!a))) (C5i f.Ak (A1 (2*f.K)) d)) fun c=>
 Option.bind (gd (!(((!b)||(!a))||(!c))) (C5h f.Ak)) fun e=>
 cond ((((!b)||(!a))||(!c))||(decide (e>f.Cap))) (
  some 2)<|
 B7T f 0
def C7m (n:A7):Option Bool:=
 cond (n.Ao.Bi==1) (
  Option.bind (A3q n.Aq) fun k=>
  some (((k==0)&&(n.Aq.W==n.Ao.W))&&(n.Aq.Cap==n.Ao.Cap)))<|
 cond (n.Ao.Bi==2) (
  Option.bind (C0H n.Ay) fun l=>
  some ((((l==0)&&(n.Ay.W==n.Ao.W))&&(n.Ay.K==n.Ao.K))&&(n.Ay.Cap==n.Ao.Cap)))<|
 cond (n.Ao.Bi==3) (
  Option.bind (C0I n.Sum) fun m=>
  some (((((m==0)&&(n.Sum.W==n.Ao.W))&&(n.Sum.K==n.Ao.K))&&(n.Sum.Cap==n.Ao.Cap))&&(n.Sum.Bs==n.Ao.Bs)))<|
 cond (n.Ao.Bi==4) (
  Option.bind (C0K n.As) fun d=>
  some (((((d==0)&&(n.As.Bo==n.Ao.Bo))&&(n.As.W==n.Ao.W))&&(n.As.K==n.Ao.K))&&(n.As.Cap==n.Ao.Cap)))<|
 cond (n.Ao.Bi==5) (
  Option.bind (C0L n.Au) fun e=>
  some ((((e==0)&&(n.Au.W==n.Ao.W))&&(n.Au.K==n.Ao.K))&&(n.Au.Cap==n.Ao.Cap)))<|
 cond (n.Ao.Bi==6) (
  Option.bind (C0N n.Bm) fun f=>
  some ((f==0)&&(n.Bm.P==n.Ao.P)))<|
 cond (n.Ao.Bi==7) (
  Option.bind (C0O n.Ba) fun g=>
  some ((g==0)&&((n.Ba.Bn.length:Int)==n.Ao.W)))<|
 cond (n.Ao.Bi==8) (
  Option.bind (C0P n.Af) fun h=>
  some ((((h==0)&&(n.Af.Bs==(n.Ao.Bs==1)))&&(n.Af.W==n.Ao.W))&&(n.Af.Cap==n.Ao.Cap)))<|
 cond (n.Ao.Bi==9) (
  Option.bind (C0T n.Ar) fun a=>
  Option.bind (gd ((a==0)&&((n.Ar.Am.length:Int)==n.Ao.Am)) (C1 n.Ar.Am 0)) fun b=>
  Option.bind (gd (((a==0)&&((n.Ar.Am.length:Int)==n.Ao.Am))&&(b.W==n.Ao.W)) (C1 n.Ar.Am 0)) fun c=>
  some ((((a==0)&&((n.Ar.Am.length:Int)==n.Ao.Am))&&(b.W==n.Ao.W))&&(c.Cap==n.Ao.Cap)))<|
 cond (n.Ao.Bi==10) (
  Option.bind (C0V n.Ai) fun i=>
  some (((i==0)&&(n.Ai.K==n.Ao.K))&&(n.Ai.Cap==n.Ao.Cap)))<|
 cond (n.Ao.Bi==11) (
  Option.bind (C00 n.Ab) fun j=>
  some ((((j==0)&&(n.Ab.W==n.Ao.W))&&(n.Ab.K==n.Ao.K))&&(n.Ab.Cap==n.Ao.Cap)))<|
 some false
def C01 (e:A7):Option Int:=
 let a:=(A3r e.Ao);
 Option.bind (gd (!(a !=0)) (C7m e)) fun b=>
 let c:=(C5j e);
 Option.bind (gd (!((a !=0)||(!b))) (C7l e c)) fun d=>
 cond (((a !=0)||(!b))||(!d)) (
  some 2)<|
 some 0
def B9R (e:List B0) (a:Int):Option (Int⊕Bool):=
 cond (decide (a<(e.length:Int))) (
  Option.bind (C1 e a) fun b=>
  Option.bind (gd ((!((decide (b.ID<0))||(decide (b.ID>1048576))))&&(decide (a>0))) (C1 e (A1 (a-1)))) fun c=>
  Option.bind (gd (!(((decide (b.ID<0))||(decide (b.ID>1048576)))||((decide (a>0))&&(decide (c.ID>=b.ID))))) (C01 b.Ac)) fun d=>
  cond ((((decide (b.ID<0))||(decide (b.ID>1048576)))||((decide (a>0))&&(decide (c.ID>=b.ID))))||(d !=0)) (
   some (.inr false))<|
  some (.inl (A1 (a+1))))<|
 Option.map Sum.inr (some true)
def C02 (b:List B0) (a:Int):Option Bool:=
 loop (fun (s:Int)=>B9R b s) a
def C5k (b:List B0) (a:Int):Option Bool:=
 cond (((decide (a<1))||(decide (a>64)))||(decide ((b.length:Int)>a))) (
  some false)<|
 C02 b 0
def X5 (d:D4) (a:Int):Option (Int⊕Int):=
 cond (decide (a<(d.Ah.length:Int))) (
  Option.bind (C1 d.Ah a) fun c=>
  let b:=(J6 c.Ac);
  cond (b.2&&(b.1 !=d.Now)) (
   some (.inr 2))<|
  some (.inl (A1 (a+1))))<|
 Option.map Sum.inr (some 0)
def A6d (b:D4) (a:Int):Option Int:=
 loop (fun (s:Int)=>X5 b s) a
def D12 (c:D4):Option Int:=
 let a:=(G8 c.Now);
 Option.bind (gd (!(!a)) (C5k c.Ah c.Bd)) fun b=>
 cond ((!a)||(!b)) (
  some 2)<|
 A6d c 0
def B3z:Option Bool:=
 Option.bind (A1W (B5.mk 2 0 5 1 5 0 0 0) 0) fun b=>
 Option.bind (W5 b.1 1 []) fun c=>
 Option.bind (Z4 c.1 (I4.mk 1 0 0)) fun a=>
 Option.bind (gd (((b.2==0)&&(c.2==0))&&(a.2==0)) (A4P a.1.Al)) fun e=>
 let d:=(A0w 1);
 some (((((b.2==0)&&(c.2==0))&&(a.2==0))&&e)&&(a.1.Al.Lo.Bu==d.Bu&&(a.1.Al.Lo.Bp==d.Bp&&true)))
def A4h (i c d e b f g a:Int):Option B5:=
 let h:=(A2R (B5.mk i (A1 (1+c)) (A1 (1+d)) (A1 (1+e)) (A1 (2+b)) f (A1 (1+g)) a));
 some h
def B1P (h:B5) (i:Int):Option B5:=
 Option.bind (T5 h.Bo 4) fun b=>
 Option.bind (P2 h.W 20) fun c=>
 Option.bind (T5 h.K 3) fun d=>
 Option.bind (T5 h.Cap 60) fun a=>
 Option.bind (T5 h.P 5) fun e=>
 Option.bind (T5 h.Am 2) fun f=>
 Option.bind (P2 h.Bs 20) fun g=>
 cond (i==8) (
  A4h i b c d a e f (Int.tmod (A1 (1+g)) 2))<|
 A4h i b c d a e f (A1 (1+g))
def A0B (e f:Int) (b:B5) (c d:Int) (a:I4):Option E9:=
 some (E9.mk e f b c d ([]:List Int) a [])
def A5S (e:E9) (f b c:Int) (a:Bool):Option E9:=
 cond a (
  A0B (A1 (1+b)) 0 (B5.mk 0 0 0 0 0 0 0 0) 0 0 (I4.mk 0 0 0))<|
 Option.bind (B1m e.V) fun d=>
 A0B 4 c (B5.mk 0 0 0 0 0 0 0 0) f d (I4.mk 0 0 0)
def A9K (i:E9) (j:Int):Option E9:=
 Option.bind (T5 i.Op 12) fun a=>
 Option.bind (P2 i.ID 5) fun b=>
 cond ((A1 (1+a))==1) (
  Option.bind (T5 i.Ao.Bi 11) fun f=>
  Option.bind (B1P i.Ao (A1 (1+f))) fun g=>
  A0B (A1 (1+a)) b g 0 0 (I4.mk 0 0 0))<|
 cond ((A1 (1+a))==2) (
  A0B (A1 (1+a)) b (B5.mk 0 0 0 0 0 0 0 0) 0 0 (I4.mk 0 0 0))<|
 cond ((A1 (1+a))==3) (
  Option.bind (B45 i.T 15) fun h=>
  A0B (A1 (1+a)) 0 (B5.mk 0 0 0 0 0 0 0 0) (A1 (j+h)) 0 (I4.mk 0 0 0))<|
 cond ((A1 (1+a))==5) (
  Option.bind (T5 i.Bg.Op 11) fun d=>
  Option.bind (P2 i.Bg.A 9) fun e=>
  Option.bind (P2 i.Bg.B 9) fun c=>
  A0B (A1 (1+a)) b (B5.mk 0 0 0 0 0 0 0 0) 0 0 (I4.mk (A1 (1+d)) e c))<|
 cond ((A1 (1+a))==6) (
  A5S i j a b ((A1 (1+a))==6))<|
 A5S i j a b ((A1 (1+a))==7)
def B5U (g:D4) (f:E9) (a c:List Int) (d:Int):Option (((List Int)×(List Int)×Int)⊕E9):=
 cond (decide ((a.length:Int)<(20:Int))) (
  Option.bind (A7T g (E9.mk f.Op f.ID f.Ao f.T f.V a f.Bg f.Ax)) fun e=>
  cond ((!e.2)||(decide (e.1<1))) (
   Option.map Sum.inr (some (E9.mk f.Op f.ID f.Ao f.T f.V a f.Bg f.Ax)))<|
  ck (decide ((([]:List Int).length+a.length)*8<=140737488355328))<|
  Option.bind (A5v (V9.mk c d) e.1) fun b=>
  ck (decide (((([]:List Int)++a).length+ [b.1].length)*8<=140737488355328))<|
  some (.inl (((([]:List Int)++a)++ [b.1]),b.2.L,b.2.At)))<|
 Option.map Sum.inr (some (E9.mk f.Op f.ID f.Ao f.T f.V a f.Bg f.Ax))
def B67 (d:D4) (e:E9) (a b:List Int) (c:Int):Option E9:=
 loop (fun (s:((List Int)×(List Int)×Int))=>B5U d e s.1 s.2.1 s.2.2) (a,b,c)
def B3A (c:D4) (b:E9) (d:List Int):Option E9:=
 let a:=(B8H d);
 B67 c b b.Az a.L a.At
def A0U (a:D4×G9) (f c b:Int):Option ((Int×Int)⊕((Int×Int×Int×(List B0))⊕Bool)):=
 cond (decide (b<(a.1.Ah.length:Int))) (
  Option.bind (C1 a.1.Ah b) fun g=>
  Option.bind (A0f g.Ac.Ao) fun d=>
  some (.inl ((A1 (c+d)),(A1 (b+1)))))<|
 Option.map Sum.inr (Option.bind (A3g a.1) fun e=>
 cond (decide (e>c)) (
  some (.inr false))<|
 some (.inl ((A1 (f+1)),a.1.Now,a.1.Bd,a.1.Ah)))
def B1c (a:D4×G9) (c d b:Int):Option ((Int×Int×Int×(List B0))⊕Bool):=
 loop (fun (s:(Int×Int))=>A0U a c s.1 s.2) (d,b)
def B0k (l:List E9) (e:D4×Int) (d a b:Int) (c:List B0):Option ((Int×Int×Int×(List B0))⊕Bool):=
 cond ((decide (d<(l.length:Int)))&&(decide (d<30))) (
  Option.bind (C1 l d) fun j=>
  Option.bind (A9K j a) fun k=>
  Option.bind (C1 l d) fun f=>
  Option.bind (B3A (D4.mk a b c) k f.Az) fun g=>
  Option.bind (A0N (D4.mk a b c) g) fun h=>
  B1c h d 0 0)<|
 Option.map Sum.inr (Option.bind (gd (e.2==0) B3z) fun i=>
 some ((e.2==0)&&i))
def B1b (f:List E9) (d:D4×Int) (e a b:Int) (c:List B0):Option Bool:=
 loop (fun (s:(Int×Int×Int×(List B0)))=>B0k f d s.1 s.2.1 s.2.2.1 s.2.2.2) (e,a,b,c)
def A5R (b:List E9):Option Bool:=
 let a:=(A7U 6);
 B1b b a 0 a.1.Now a.1.Bd a.1.Ah
end
end Go.Win
