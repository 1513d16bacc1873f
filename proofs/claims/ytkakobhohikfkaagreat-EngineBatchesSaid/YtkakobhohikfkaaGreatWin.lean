/- The functions of the program and of the statements, as functions on plain data: made by program out of the translated code. -/
import Derived.Test.YtkakobhohikfkaaGreatVc
set_option linter.unusedVariables false
namespace Go.Win
open Go.Vc Go.Dec
noncomputable section
structure A5 where
 Bu:Int
 Bp:Int
 deriving Inhabited
def D4K (p:A5):List AV:= [.int .i64 p.Bu, .int .i64 p.Bp]
def B3b (p:A5):Prop:=(E1 .i64) p.Bu/\(E1 .i64) p.Bp
def B09 (p:A5):Prop:=(E1 .i64) p.Bu/\(E1 .i64) p.Bp
structure C8 where
 Lo:A5
 Bq:A5
 Hi:A5
 deriving Inhabited
def S1 (p:C8):List AV:= [.int .i64 p.Lo.Bu, .int .i64 p.Lo.Bp, .int .i64 p.Bq.Bu, .int .i64 p.Bq.Bp, .int .i64 p.Hi.Bu, .int .i64 p.Hi.Bp]
def C20 (p:C8):Prop:=B3b p.Lo/\B3b p.Bq/\B3b p.Hi
def C1J (p:C8):Prop:=B09 p.Lo/\B09 p.Bq/\B09 p.Hi
structure A2 where
 Hi:Int
 Lo:Int
 deriving Inhabited
def L5 (p:A2):List AV:= [.int .u64 p.Hi, .int .u64 p.Lo]
def B4v (p:A2):Prop:=(E1 .u64) p.Hi/\(E1 .u64) p.Lo
def A08 (p:A2):Prop:=(E1 .u64) p.Hi/\(E1 .u64) p.Lo
structure D9 where
 Bu:A2
 Bp:A2
 deriving Inhabited
def B2A (p:D9):List AV:= [.int .u64 p.Bu.Hi, .int .u64 p.Bu.Lo, .int .u64 p.Bp.Hi, .int .u64 p.Bp.Lo]
def C0K (p:D9):Prop:=B4v p.Bu/\B4v p.Bp
def B9q (p:D9):Prop:=A08 p.Bu/\A08 p.Bp
structure E7 where
 Al:C8
 Aw:(List Int)
 Aa:D9
 deriving Inhabited
def A1T (p:E7):List AV:= [.int .i64 p.Al.Lo.Bu, .int .i64 p.Al.Lo.Bp, .int .i64 p.Al.Bq.Bu, .int .i64 p.Al.Bq.Bp, .int .i64 p.Al.Hi.Bu, .int .i64 p.Al.Hi.Bp, .lst 1 false (List.map (eI .i64) p.Aw), .int .u64 p.Aa.Bu.Hi, .int .u64 p.Aa.Bu.Lo, .int .u64 p.Aa.Bp.Hi, .int .u64 p.Aa.Bp.Lo]
def C2Z (p:E7):Prop:=C20 p.Al/\(wfL (E1 .i64)) p.Aw/\C0K p.Aa
def C1I (p:E7):Prop:=C1J p.Al/\(S9 (E1 .i64)) p.Aw/\B9q p.Aa
structure B4 where
 V:Int
 Bt:Int
 Bs:Int
 deriving Inhabited
def D6 (p:B4):List AV:= [.int .i64 p.V, .int .i64 p.Bt, .int .i64 p.Bs]
def C5l (p:B4):Prop:=(E1 .i64) p.V/\(E1 .i64) p.Bt/\(E1 .i64) p.Bs
def A1z (p:B4):Prop:=(E1 .i64) p.V/\(E1 .i64) p.Bt/\(E1 .i64) p.Bs
structure D4 where
 N:Int
 Ae:(List B4)
 deriving Inhabited
def A4s (p:D4):List AV:= [.int .i64 p.N, .lst 3 false (List.map D6 p.Ae)]
def C5o (p:D4):Prop:=(E1 .i64) p.N/\(wfL C5l) p.Ae
def B6w (p:D4):Prop:=(E1 .i64) p.N/\(S9 A1z) p.Ae
structure B2 where
 T:Int
 Bk:Int
 Bc:Int
 Bh:D4
 deriving Inhabited
def C6 (p:B2):List AV:= [.int .i64 p.T, .int .i64 p.Bk, .int .i64 p.Bc, .int .i64 p.Bh.N, .lst 3 false (List.map D6 p.Bh.Ae)]
def C5i (p:B2):Prop:=(E1 .i64) p.T/\(E1 .i64) p.Bk/\(E1 .i64) p.Bc/\C5o p.Bh
def A2D (p:B2):Prop:=(E1 .i64) p.T/\(E1 .i64) p.Bk/\(E1 .i64) p.Bc/\B6w p.Bh
structure A3 where
 T:Int
 Bc:Int
 deriving Inhabited
def D8 (p:A3):List AV:= [.int .i64 p.T, .int .i64 p.Bc]
def B6x (p:A3):Prop:=(E1 .i64) p.T/\(E1 .i64) p.Bc
def A0M (p:A3):Prop:=(E1 .i64) p.T/\(E1 .i64) p.Bc
structure G4 where
 I:Int
 V:Int
 deriving Inhabited
def L3 (p:G4):List AV:= [.int .i64 p.I, .int .i64 p.V]
def C6z (p:G4):Prop:=(E1 .i64) p.I/\(E1 .i64) p.V
def A17 (p:G4):Prop:=(E1 .i64) p.I/\(E1 .i64) p.V
structure B7 where
 W:Int
 Cap:Int
 I:Int
 Bl:Int
 Be:(List G4)
 deriving Inhabited
def F3 (p:B7):List AV:= [.int .i64 p.W, .int .i64 p.Cap, .int .i64 p.I, .int .i64 p.Bl, .lst 2 false (List.map L3 p.Be)]
def C5j (p:B7):Prop:=(E1 .i64) p.W/\(E1 .i64) p.Cap/\(E1 .i64) p.I/\(E1 .i64) p.Bl/\(wfL C6z) p.Be
def A2E (p:B7):Prop:=(E1 .i64) p.W/\(E1 .i64) p.Cap/\(E1 .i64) p.I/\(E1 .i64) p.Bl/\(S9 A17) p.Be
structure E2 where
 Bi:Int
 Bo:Int
 W:Int
 K:Int
 Cap:Int
 P:Int
 Am:Int
 Bs:Int
 deriving Inhabited
def P0 (p:E2):List AV:= [.int .i64 p.Bi, .int .i64 p.Bo, .int .i64 p.W, .int .i64 p.K, .int .i64 p.Cap, .int .i64 p.P, .int .i64 p.Am, .int .i64 p.Bs]
def B6y (p:E2):Prop:=(E1 .i64) p.Bi/\(E1 .i64) p.Bo/\(E1 .i64) p.W/\(E1 .i64) p.K/\(E1 .i64) p.Cap/\(E1 .i64) p.P/\(E1 .i64) p.Am/\(E1 .i64) p.Bs
def A1Y (p:E2):Prop:=(E1 .i64) p.Bi/\(E1 .i64) p.Bo/\(E1 .i64) p.W/\(E1 .i64) p.K/\(E1 .i64) p.Cap/\(E1 .i64) p.P/\(E1 .i64) p.Am/\(E1 .i64) p.Bs
structure T0 where
 Op:Int
 A:Int
 B:Int
 deriving Inhabited
def C2M (p:T0):List AV:= [.int .i64 p.Op, .int .i64 p.A, .int .i64 p.B]
def C5n (p:T0):Prop:=(E1 .i64) p.Op/\(E1 .i64) p.A/\(E1 .i64) p.B
def A7w (p:T0):Prop:=(E1 .i64) p.Op/\(E1 .i64) p.A/\(E1 .i64) p.B
structure O9 where
 Op:Int
 ID:Int
 Ao:E2
 T:Int
 V:Int
 Az:(List Int)
 Bg:T0
 Ax:(List Int)
 deriving Inhabited
def S8 (p:O9):List AV:= [.int .i64 p.Op, .int .i64 p.ID, .int .i64 p.Ao.Bi, .int .i64 p.Ao.Bo, .int .i64 p.Ao.W, .int .i64 p.Ao.K, .int .i64 p.Ao.Cap, .int .i64 p.Ao.P, .int .i64 p.Ao.Am, .int .i64 p.Ao.Bs, .int .i64 p.T, .int .i64 p.V, .lst 1 false (List.map (eI .i64) p.Az), .int .i64 p.Bg.Op, .int .i64 p.Bg.A, .int .i64 p.Bg.B, .lst 1 false (List.map (eI .u8) p.Ax)]
def C1K (p:O9):Prop:=(E1 .i64) p.Op/\(E1 .i64) p.ID/\B6y p.Ao/\(E1 .i64) p.T/\(E1 .i64) p.V/\(wfL (E1 .i64)) p.Az/\C5n p.Bg/\(wfL (E1 .u8)) p.Ax
def A5k (p:O9):Prop:=(E1 .i64) p.Op/\(E1 .i64) p.ID/\A1Y p.Ao/\(E1 .i64) p.T/\(E1 .i64) p.V/\(S9 (E1 .i64)) p.Az/\A7w p.Bg/\(S9 (E1 .u8)) p.Ax
structure E4 where
 W:Int
 K:Int
 Cap:Int
 Now:Int
 Ad:(List A3)
 deriving Inhabited
def M0 (p:E4):List AV:= [.int .i64 p.W, .int .i64 p.K, .int .i64 p.Cap, .int .i64 p.Now, .lst 2 false (List.map D8 p.Ad)]
def C5k (p:E4):Prop:=(E1 .i64) p.W/\(E1 .i64) p.K/\(E1 .i64) p.Cap/\(E1 .i64) p.Now/\(wfL B6x) p.Ad
def A7u (p:E4):Prop:=(E1 .i64) p.W/\(E1 .i64) p.K/\(E1 .i64) p.Cap/\(E1 .i64) p.Now/\(S9 A0M) p.Ad
structure A9 where
 T:Int
 V:Int
 deriving Inhabited
def E5 (p:A9):List AV:= [.int .i64 p.T, .int .i64 p.V]
def B8X (p:A9):Prop:=(E1 .i64) p.T/\(E1 .i64) p.V
def A16 (p:A9):Prop:=(E1 .i64) p.T/\(E1 .i64) p.V
structure C4 where
 Bs:Bool
 W:Int
 Cap:Int
 Now:Int
 Bb:(List A9)
 deriving Inhabited
def I3 (p:C4):List AV:= [.sb p.Bs, .int .i64 p.W, .int .i64 p.Cap, .int .i64 p.Now, .lst 2 false (List.map E5 p.Bb)]
def C1L (p:C4):Prop:=(fun _:Bool=>True) p.Bs/\(E1 .i64) p.W/\(E1 .i64) p.Cap/\(E1 .i64) p.Now/\(wfL B8X) p.Bb
def A5l (p:C4):Prop:=(fun _:Bool=>True) p.Bs/\(E1 .i64) p.W/\(E1 .i64) p.Cap/\(E1 .i64) p.Now/\(S9 A16) p.Bb
structure F6 where
 Now:Int
 Bn:(List Int)
 deriving Inhabited
def A4r (p:F6):List AV:= [.int .i64 p.Now, .lst 1 false (List.map (eI .i64) p.Bn)]
def C5m (p:F6):Prop:=(E1 .i64) p.Now/\(wfL (E1 .i64)) p.Bn
def A7v (p:F6):Prop:=(E1 .i64) p.Now/\(S9 (E1 .i64)) p.Bn
structure E3 where
 P:Int
 Bj:Int
 Now:Int
 Ag:(List A2)
 deriving Inhabited
def M5 (p:E3):List AV:= [.int .i64 p.P, .int .i64 p.Bj, .int .i64 p.Now, .lst 2 false (List.map L5 p.Ag)]
def C6A (p:E3):Prop:=(E1 .i64) p.P/\(E1 .i64) p.Bj/\(E1 .i64) p.Now/\(wfL B4v) p.Ag
def A80 (p:E3):Prop:=(E1 .i64) p.P/\(E1 .i64) p.Bj/\(E1 .i64) p.Now/\(S9 A08) p.Ag
structure C2 where
 W:Int
 K:Int
 Cap:Int
 Now:Int
 Ak:(List B2)
 deriving Inhabited
def H5 (p:C2):List AV:= [.int .i64 p.W, .int .i64 p.K, .int .i64 p.Cap, .int .i64 p.Now, .lst 5 false (List.map C6 p.Ak)]
def C0L (p:C2):Prop:=(E1 .i64) p.W/\(E1 .i64) p.K/\(E1 .i64) p.Cap/\(E1 .i64) p.Now/\(wfL C5i) p.Ak
def A4l (p:C2):Prop:=(E1 .i64) p.W/\(E1 .i64) p.K/\(E1 .i64) p.Cap/\(E1 .i64) p.Now/\(S9 A2D) p.Ak
structure D0 where
 W:Int
 Cap:Int
 Now:Int
 Bb:(List A9)
 deriving Inhabited
def L4 (p:D0):List AV:= [.int .i64 p.W, .int .i64 p.Cap, .int .i64 p.Now, .lst 2 false (List.map E5 p.Bb)]
def C22 (p:D0):Prop:=(E1 .i64) p.W/\(E1 .i64) p.Cap/\(E1 .i64) p.Now/\(wfL B8X) p.Bb
def A6p (p:D0):Prop:=(E1 .i64) p.W/\(E1 .i64) p.Cap/\(E1 .i64) p.Now/\(S9 A16) p.Bb
structure E9 where
 Am:(List B7)
 deriving Inhabited
def A3B (p:E9):List AV:= [.lst 5 false (List.map F3 p.Am)]
def C24 (p:E9):Prop:=(wfL C5j) p.Am
def A6q (p:E9):Prop:=(S9 A2E) p.Am
structure A7 where
 Bv:Int
 T:Int
 N:Int
 S:Int
 Q:Int
 Bt:Int
 Bs:Int
 deriving Inhabited
def C3 (p:A7):List AV:= [.int .i64 p.Bv, .int .i64 p.T, .int .i64 p.N, .int .i64 p.S, .int .i64 p.Q, .int .i64 p.Bt, .int .i64 p.Bs]
def B8Y (p:A7):Prop:=(E1 .i64) p.Bv/\(E1 .i64) p.T/\(E1 .i64) p.N/\(E1 .i64) p.S/\(E1 .i64) p.Q/\(E1 .i64) p.Bt/\(E1 .i64) p.Bs
def A18 (p:A7):Prop:=(E1 .i64) p.Bv/\(E1 .i64) p.T/\(E1 .i64) p.N/\(E1 .i64) p.S/\(E1 .i64) p.Q/\(E1 .i64) p.Bt/\(E1 .i64) p.Bs
structure D3 where
 Bo:Int
 W:Int
 K:Int
 Cap:Int
 Now:Int
 Bv:Int
 Bf:(List A7)
 deriving Inhabited
def J9 (p:D3):List AV:= [.int .i64 p.Bo, .int .i64 p.W, .int .i64 p.K, .int .i64 p.Cap, .int .i64 p.Now, .int .i64 p.Bv, .lst 7 false (List.map C3 p.Bf)]
def C25 (p:D3):Prop:=(E1 .i64) p.Bo/\(E1 .i64) p.W/\(E1 .i64) p.K/\(E1 .i64) p.Cap/\(E1 .i64) p.Now/\(E1 .i64) p.Bv/\(wfL B8Y) p.Bf
def A6r (p:D3):Prop:=(E1 .i64) p.Bo/\(E1 .i64) p.W/\(E1 .i64) p.K/\(E1 .i64) p.Cap/\(E1 .i64) p.Now/\(E1 .i64) p.Bv/\(S9 A18) p.Bf
structure D5 where
 W:Int
 K:Int
 Cap:Int
 Now:Int
 Bv:Int
 Bf:(List A7)
 deriving Inhabited
def J3 (p:D5):List AV:= [.int .i64 p.W, .int .i64 p.K, .int .i64 p.Cap, .int .i64 p.Now, .int .i64 p.Bv, .lst 7 false (List.map C3 p.Bf)]
def C26 (p:D5):Prop:=(E1 .i64) p.W/\(E1 .i64) p.K/\(E1 .i64) p.Cap/\(E1 .i64) p.Now/\(E1 .i64) p.Bv/\(wfL B8Y) p.Bf
def A6s (p:D5):Prop:=(E1 .i64) p.W/\(E1 .i64) p.K/\(E1 .i64) p.Cap/\(E1 .i64) p.Now/\(E1 .i64) p.Bv/\(S9 A18) p.Bf
structure F4 where
 W:Int
 K:Int
 Cap:Int
 Bs:Int
 Now:Int
 Ad:(List A3)
 deriving Inhabited
def N0 (p:F4):List AV:= [.int .i64 p.W, .int .i64 p.K, .int .i64 p.Cap, .int .i64 p.Bs, .int .i64 p.Now, .lst 2 false (List.map D8 p.Ad)]
def C9g (p:F4):Prop:=(E1 .i64) p.W/\(E1 .i64) p.K/\(E1 .i64) p.Cap/\(E1 .i64) p.Bs/\(E1 .i64) p.Now/\(wfL B6x) p.Ad
def B0b (p:F4):Prop:=(E1 .i64) p.W/\(E1 .i64) p.K/\(E1 .i64) p.Cap/\(E1 .i64) p.Bs/\(E1 .i64) p.Now/\(S9 A0M) p.Ad
structure E0 where
 V:Int
 G:Int
 D:Int
 deriving Inhabited
def G0 (p:E0):List AV:= [.int .i64 p.V, .int .i64 p.G, .int .i64 p.D]
def C5q (p:E0):Prop:=(E1 .i64) p.V/\(E1 .i64) p.G/\(E1 .i64) p.D
def A2F (p:E0):Prop:=(E1 .i64) p.V/\(E1 .i64) p.G/\(E1 .i64) p.D
structure B8 where
 K:Int
 Cap:Int
 N:Int
 Av:(List E0)
 deriving Inhabited
def H4 (p:B8):List AV:= [.int .i64 p.K, .int .i64 p.Cap, .int .i64 p.N, .lst 3 false (List.map G0 p.Av)]
def C1M (p:B8):Prop:=(E1 .i64) p.K/\(E1 .i64) p.Cap/\(E1 .i64) p.N/\(wfL C5q) p.Av
def A5m (p:B8):Prop:=(E1 .i64) p.K/\(E1 .i64) p.Cap/\(E1 .i64) p.N/\(S9 A2F) p.Av
structure A8 where
 Ao:E2
 Aq:D0
 Ay:E4
 Sum:F4
 As:D3
 Au:D5
 Bm:E3
 Ba:F6
 Af:C4
 Ar:E9
 Ai:B8
 Ab:C2
 deriving Inhabited
def G5 (p:A8):List AV:= [.int .i64 p.Ao.Bi, .int .i64 p.Ao.Bo, .int .i64 p.Ao.W, .int .i64 p.Ao.K, .int .i64 p.Ao.Cap, .int .i64 p.Ao.P, .int .i64 p.Ao.Am, .int .i64 p.Ao.Bs, .int .i64 p.Aq.W, .int .i64 p.Aq.Cap, .int .i64 p.Aq.Now, .lst 2 false (List.map E5 p.Aq.Bb), .int .i64 p.Ay.W, .int .i64 p.Ay.K, .int .i64 p.Ay.Cap, .int .i64 p.Ay.Now, .lst 2 false (List.map D8 p.Ay.Ad), .int .i64 p.Sum.W, .int .i64 p.Sum.K, .int .i64 p.Sum.Cap, .int .i64 p.Sum.Bs, .int .i64 p.Sum.Now, .lst 2 false (List.map D8 p.Sum.Ad), .int .i64 p.As.Bo, .int .i64 p.As.W, .int .i64 p.As.K, .int .i64 p.As.Cap, .int .i64 p.As.Now, .int .i64 p.As.Bv, .lst 7 false (List.map C3 p.As.Bf), .int .i64 p.Au.W, .int .i64 p.Au.K, .int .i64 p.Au.Cap, .int .i64 p.Au.Now, .int .i64 p.Au.Bv, .lst 7 false (List.map C3 p.Au.Bf), .int .i64 p.Bm.P, .int .i64 p.Bm.Bj, .int .i64 p.Bm.Now, .lst 2 false (List.map L5 p.Bm.Ag), .int .i64 p.Ba.Now, .lst 1 false (List.map (eI .i64) p.Ba.Bn), .sb p.Af.Bs, .int .i64 p.Af.W, .int .i64 p.Af.Cap, .int .i64 p.Af.Now, .lst 2 false (List.map E5 p.Af.Bb), .lst 5 false (List.map F3 p.Ar.Am), .int .i64 p.Ai.K, .int .i64 p.Ai.Cap, .int .i64 p.Ai.N, .lst 3 false (List.map G0 p.Ai.Av), .int .i64 p.Ab.W, .int .i64 p.Ab.K, .int .i64 p.Ab.Cap, .int .i64 p.Ab.Now, .lst 5 false (List.map C6 p.Ab.Ak)]
def C0M (p:A8):Prop:=B6y p.Ao/\C22 p.Aq/\C5k p.Ay/\C9g p.Sum/\C25 p.As/\C26 p.Au/\C6A p.Bm/\C5m p.Ba/\C1L p.Af/\C24 p.Ar/\C1M p.Ai/\C0L p.Ab
def R6 (p:A8):Prop:=A1Y p.Ao/\A6p p.Aq/\A7u p.Ay/\B0b p.Sum/\A6r p.As/\A6s p.Au/\A80 p.Bm/\A7v p.Ba/\A5l p.Af/\A6q p.Ar/\A5m p.Ai/\A4l p.Ab
structure A6 where
 ID:Int
 Ac:A8
 deriving Inhabited
def C5 (p:A6):List AV:= [.int .i64 p.ID, .int .i64 p.Ac.Ao.Bi, .int .i64 p.Ac.Ao.Bo, .int .i64 p.Ac.Ao.W, .int .i64 p.Ac.Ao.K, .int .i64 p.Ac.Ao.Cap, .int .i64 p.Ac.Ao.P, .int .i64 p.Ac.Ao.Am, .int .i64 p.Ac.Ao.Bs, .int .i64 p.Ac.Aq.W, .int .i64 p.Ac.Aq.Cap, .int .i64 p.Ac.Aq.Now, .lst 2 false (List.map E5 p.Ac.Aq.Bb), .int .i64 p.Ac.Ay.W, .int .i64 p.Ac.Ay.K, .int .i64 p.Ac.Ay.Cap, .int .i64 p.Ac.Ay.Now, .lst 2 false (List.map D8 p.Ac.Ay.Ad), .int .i64 p.Ac.Sum.W, .int .i64 p.Ac.Sum.K, .int .i64 p.Ac.Sum.Cap, .int .i64 p.Ac.Sum.Bs, .int .i64 p.Ac.Sum.Now, .lst 2 false (List.map D8 p.Ac.Sum.Ad), .int .i64 p.Ac.As.Bo, .int .i64 p.Ac.As.W, .int .i64 p.Ac.As.K, .int .i64 p.Ac.As.Cap, .int .i64 p.Ac.As.Now, .int .i64 p.Ac.As.Bv, .lst 7 false (List.map C3 p.Ac.As.Bf), .int .i64 p.Ac.Au.W, .int .i64 p.Ac.Au.K, .int .i64 p.Ac.Au.Cap, .int .i64 p.Ac.Au.Now, .int .i64 p.Ac.Au.Bv, .lst 7 false (List.map C3 p.Ac.Au.Bf), .int .i64 p.Ac.Bm.P, .int .i64 p.Ac.Bm.Bj, .int .i64 p.Ac.Bm.Now, .lst 2 false (List.map L5 p.Ac.Bm.Ag), .int .i64 p.Ac.Ba.Now, .lst 1 false (List.map (eI .i64) p.Ac.Ba.Bn), .sb p.Ac.Af.Bs, .int .i64 p.Ac.Af.W, .int .i64 p.Ac.Af.Cap, .int .i64 p.Ac.Af.Now, .lst 2 false (List.map E5 p.Ac.Af.Bb), .lst 5 false (List.map F3 p.Ac.Ar.Am), .int .i64 p.Ac.Ai.K, .int .i64 p.Ac.Ai.Cap, .int .i64 p.Ac.Ai.N, .lst 3 false (List.map G0 p.Ac.Ai.Av), .int .i64 p.Ac.Ab.W, .int .i64 p.Ac.Ab.K, .int .i64 p.Ac.Ab.Cap, .int .i64 p.Ac.Ab.Now, .lst 5 false (List.map C6 p.Ac.Ab.Ak)]
def C23 (p:A6):Prop:=(E1 .i64) p.ID/\C0M p.Ac
def Z0 (p:A6):Prop:=(E1 .i64) p.ID/\R6 p.Ac
structure D7 where
 Now:Int
 Bd:Int
 Ah:(List A6)
 deriving Inhabited
def A1U (p:D7):List AV:= [.int .i64 p.Now, .int .i64 p.Bd, .lst 58 false (List.map C5 p.Ah)]
def C21 (p:D7):Prop:=(E1 .i64) p.Now/\(E1 .i64) p.Bd/\(wfL C23) p.Ah
def M2 (p:D7):Prop:=(E1 .i64) p.Now/\(E1 .i64) p.Bd/\(S9 Z0) p.Ah
structure G8 where
 Code:Int
 Aj:E7
 Br:(List Int)
 Ax:(List Int)
 deriving Inhabited
def A0t (p:G8):List AV:= [.int .i64 p.Code, .int .i64 p.Aj.Al.Lo.Bu, .int .i64 p.Aj.Al.Lo.Bp, .int .i64 p.Aj.Al.Bq.Bu, .int .i64 p.Aj.Al.Bq.Bp, .int .i64 p.Aj.Al.Hi.Bu, .int .i64 p.Aj.Al.Hi.Bp, .lst 1 false (List.map (eI .i64) p.Aj.Aw), .int .u64 p.Aj.Aa.Bu.Hi, .int .u64 p.Aj.Aa.Bu.Lo, .int .u64 p.Aj.Aa.Bp.Hi, .int .u64 p.Aj.Aa.Bp.Lo, .lst 1 false (List.map (eI .i64) p.Br), .lst 1 false (List.map (eI .u8) p.Ax)]
def C5p (p:G8):Prop:=(E1 .i64) p.Code/\C2Z p.Aj/\(wfL (E1 .i64)) p.Br/\(wfL (E1 .u8)) p.Ax
def C2Y (p:G8):Prop:=(E1 .i64) p.Code/\C1I p.Aj/\(S9 (E1 .i64)) p.Br/\(S9 (E1 .u8)) p.Ax
structure K7 where
 draws_:(List Int)
 at_:Int
 beyond_:Int
 deriving Inhabited
def A32 (p:K7):List AV:= [.lst 1 false (List.map (eI .i64) p.draws_), .int .i64 p.at_, .int .i64 p.beyond_]
def D28 (p:K7):Prop:=(wfL (E1 .i64)) p.draws_/\(E1 .i64) p.at_/\(E1 .i64) p.beyond_
def D2N (p:K7):Prop:=(S9 (E1 .i64)) p.draws_/\(E1 .i64) p.at_/\(E1 .i64) p.beyond_
structure D1 where
 Ap:D7
 command_:O9
 reply_:G8
 deriving Inhabited
def H7 (p:D1):List AV:= [.int .i64 p.Ap.Now, .int .i64 p.Ap.Bd, .lst 58 false (List.map C5 p.Ap.Ah), .int .i64 p.command_.Op, .int .i64 p.command_.ID, .int .i64 p.command_.Ao.Bi, .int .i64 p.command_.Ao.Bo, .int .i64 p.command_.Ao.W, .int .i64 p.command_.Ao.K, .int .i64 p.command_.Ao.Cap, .int .i64 p.command_.Ao.P, .int .i64 p.command_.Ao.Am, .int .i64 p.command_.Ao.Bs, .int .i64 p.command_.T, .int .i64 p.command_.V, .lst 1 false (List.map (eI .i64) p.command_.Az), .int .i64 p.command_.Bg.Op, .int .i64 p.command_.Bg.A, .int .i64 p.command_.Bg.B, .lst 1 false (List.map (eI .u8) p.command_.Ax), .int .i64 p.reply_.Code, .int .i64 p.reply_.Aj.Al.Lo.Bu, .int .i64 p.reply_.Aj.Al.Lo.Bp, .int .i64 p.reply_.Aj.Al.Bq.Bu, .int .i64 p.reply_.Aj.Al.Bq.Bp, .int .i64 p.reply_.Aj.Al.Hi.Bu, .int .i64 p.reply_.Aj.Al.Hi.Bp, .lst 1 false (List.map (eI .i64) p.reply_.Aj.Aw), .int .u64 p.reply_.Aj.Aa.Bu.Hi, .int .u64 p.reply_.Aj.Aa.Bu.Lo, .int .u64 p.reply_.Aj.Aa.Bp.Hi, .int .u64 p.reply_.Aj.Aa.Bp.Lo, .lst 1 false (List.map (eI .i64) p.reply_.Br), .lst 1 false (List.map (eI .u8) p.reply_.Ax)]
def D29 (p:D1):Prop:=C21 p.Ap/\C1K p.command_/\C5p p.reply_
def D2O (p:D1):Prop:=M2 p.Ap/\A5k p.command_/\C2Y p.reply_
structure H6 where
 e0:Int
 e1:Int
 e2:Int
 e3:Int
 deriving Inhabited
def Y4 (p:H6):List AV:= [.int .u64 p.e0, .int .u64 p.e1, .int .u64 p.e2, .int .u64 p.e3]
def D4L (p:H6):Prop:=(E1 .u64) p.e0/\(E1 .u64) p.e1/\(E1 .u64) p.e2/\(E1 .u64) p.e3
def D4C (p:H6):Prop:=(E1 .u64) p.e0/\(E1 .u64) p.e1/\(E1 .u64) p.e2/\(E1 .u64) p.e3
def A91 (b a:Int):Option (Int×Bool):=
 cond ((a==0)||((b==(-9223372036854775808:Int))&&(a==(-1:Int)))) (
  some (0,false))<|
 ck (decide (a≠0))<|
 ck (decide (a≠0))<|
 cond (((Int.tmod b a) !=0)&&((decide (b<0))==(decide (a<0)))) (
  some ((A1 ((A1 (Int.tdiv b a))+1)),true))<|
 some ((A1 (Int.tdiv b a)),true)
def A2J (e d b a:Int):Option ((Int×Int)⊕Int):=
 cond (decide (a<=e)) (
  ck (decide (0<=(A4 a)))<|
  cond (decide ((E8 .i64 1 (A4 a))>(A1 (d+1)))) (
   Option.bind (A91 (A1 ((E8 .i64 1 (A4 a))-1)) d) fun c=>
   some (.inl ((A1 ((A1 (2*b))+c.1)),(A1 (a+1)))))<|
  some (.inl (b,(A1 (a+1)))))<|
 Option.map Sum.inr (some b)
def B1a (c d a b:Int):Option Int:=
 loop (fun (s:(Int×Int))=>A2J c d s.1 s.2) (a,b)
def A5O (a b:Int):Option Int:=
 cond ((((decide (a<0))||(decide (a>30)))||(decide (b<1)))||(decide (b>65536))) (
  some (-1:Int))<|
 B1a a b 0 0
def B1b (c:Int) (a:List B2):Option ((List B2)⊕(List B2)):=
 Option.bind (gd (decide ((a.length:Int)>(0:Int))) (C1 a 0)) fun b=>
 cond ((decide ((a.length:Int)>(0:Int)))&&(decide (b.T<c))) (
  ck (decide (0<=(1:Int)/\1<=(a.length:Int)))<|
  some (.inl (a.drop ((1:Int)).toNat)))<|
 Option.map Sum.inr (ck (decide ((([]:List B2).length+a.length)*56<=140737488355328))<|
 some (([]:List B2)++a))
def B2r (b:Int) (a:List B2):Option (List B2):=
 loop (fun (s:(List B2))=>B1b b s) a
def A7c (a:List B2) (b:Int):Option (List B2):=
 B2r b a
def A3Y (d:List B2) (b:List A3) (c:Int):Option (((List A3)×Int)⊕(List A3)):=
 cond (decide (c<(d.length:Int))) (
  Option.bind (C1 d c) fun a=>
  ck (decide ((b.length+ [(A3.mk a.T a.Bc)].length)*16<=140737488355328))<|
  some (.inl ((b++ [(A3.mk a.T a.Bc)]),(A1 (c+1)))))<|
 Option.map Sum.inr (some b)
def B3p (c:List B2) (a:List A3) (b:Int):Option (List A3):=
 loop (fun (s:((List A3)×Int))=>A3Y c s.1 s.2) (a,b)
def A5p (a:List B2):Option (List A3):=
 B3p a ([]:List A3) 0
def A0s (a:Int):Bool:=
 ((decide (a>=0))&&(decide (a<=30)))
def B8h (e:List A3) (b a:Int):Option ((Int×Int)⊕Int):=
 cond (decide (a<(e.length:Int))) (
  Option.bind (C1 e a) fun c=>
  let d:=(A0s c.Bc);
  cond d (
   ck (decide (0<=(A4 c.Bc)))<|
   some (.inl ((A1 (b+(E8 .i64 1 (A4 c.Bc)))),(A1 (a+1)))))<|
  some (.inl (b,(A1 (a+1)))))<|
 Option.map Sum.inr (some b)
def B83 (c:List A3) (a b:Int):Option Int:=
 loop (fun (s:(Int×Int))=>B8h c s.1 s.2) (a,b)
def T6 (a:List A3):Option Int:=
 B83 a 0 0
def A1Z (c:List B2):Option Int:=
 Option.bind (A5p c) fun a=>
 Option.bind (T6 a) fun b=>
 some b
def A10 (a:Int):Bool:=
 ((decide (a>=0))&&(decide (a<=16777216)))
def A2K (L w x y z A B C D E F a b c d e f g h i j k l m n o p q r s t u:Int) (G:A3) (v:Int):Option (Int⊕Bool):=
 cond (decide (v<=G.Bc)) (
  Option.bind (C1 [w,x,y,z,A,B,C,D,E,F,a,b,c,d,e,f,g,h,i,j,k,l,m,n,o,p,q,r,s,t,u] v) fun K=>
  Option.bind (C1 [w,x,y,z,A,B,C,D,E,F,a,b,c,d,e,f,g,h,i,j,k,l,m,n,o,p,q,r,s,t,u] v) fun H=>
  Option.bind (gd ((!(decide (H>(A1 (L+1)))))&&(decide (v<G.Bc))) (C1 [w,x,y,z,A,B,C,D,E,F,a,b,c,d,e,f,g,h,i,j,k,l,m,n,o,p,q,r,s,t,u] v)) fun J=>
  Option.bind (gd ((!(decide (H>(A1 (L+1)))))&&(decide (v<G.Bc))) (C1 [w,x,y,z,A,B,C,D,E,F,a,b,c,d,e,f,g,h,i,j,k,l,m,n,o,p,q,r,s,t,u] v)) fun I=>
  cond ((decide (H>(A1 (L+1))))||((decide (v<G.Bc))&&(decide (I<L)))) (
   some (.inr false))<|
  some (.inl (A1 (v+1))))<|
 Option.map Sum.inr (some true)
def A28 (I w x y z A B C D E F a b c d e f g h i j k l m n o p q r t u v:Int) (G:A3) (H:Int):Option Bool:=
 loop (fun (s:Int)=>A2K I w x y z A B C D E F a b c d e f g h i j k l m n o p q r t u v G s) H
def A6v (Q:List A3) (R H x y z A B C D E F G c d e f g h i j k l m n o p q r s t u v w:Int):Option ((Int×Int×Int×Int×Int×Int×Int×Int×Int×Int×Int×Int×Int×Int×Int×Int×Int×Int×Int×Int×Int×Int×Int×Int×Int×Int×Int×Int×Int×Int×Int×Int)⊕Bool):=
 cond (decide (H<(Q.length:Int))) (
  Option.bind (C1 Q H) fun a=>
  let L:=(A10 a.T);
  let M:=(A0s a.Bc);
  cond ((!L)||(!M)) (
   some (.inr false))<|
  Option.bind (gd (decide (H>0)) (C1 Q (A1 (H-1)))) fun I=>
  Option.bind (gd ((decide (H>0))&&(!(decide (I.T>a.T)))) (C1 Q (A1 (H-1)))) fun J=>
  cond ((decide (H>0))&&((decide (I.T>a.T))||(decide (J.Bc<a.Bc)))) (
   some (.inr false))<|
  Option.bind (C1 [x,y,z,A,B,C,D,E,F,G,c,d,e,f,g,h,i,j,k,l,m,n,o,p,q,r,s,t,u,v,w] a.Bc) fun N=>
  Option.bind (C1 [x,y,z,A,B,C,D,E,F,G,c,d,e,f,g,h,i,j,k,l,m,n,o,p,q,r,s,t,u,v,w] a.Bc) fun b=>
  Option.bind (C1 [x,y,z,A,B,C,D,E,F,G,c,d,e,f,g,h,i,j,k,l,m,n,o,p,q,r,s,t,u,v,w] a.Bc) fun O=>
  Option.bind (C1 [x,y,z,A,B,C,D,E,F,G,c,d,e,f,g,h,i,j,k,l,m,n,o,p,q,r,s,t,u,v,w] a.Bc) fun P=>
  some (.inl ((A1 (H+1)),(if (a.Bc).toNat=0 then (A1 (b+1)) else x),(if (a.Bc).toNat=1 then (A1 (b+1)) else y),(if (a.Bc).toNat=2 then (A1 (b+1)) else z),(if (a.Bc).toNat=3 then (A1 (b+1)) else A),(if (a.Bc).toNat=4 then (A1 (b+1)) else B),(if (a.Bc).toNat=5 then (A1 (b+1)) else C),(if (a.Bc).toNat=6 then (A1 (b+1)) else D),(if (a.Bc).toNat=7 then (A1 (b+1)) else E),(if (a.Bc).toNat=8 then (A1 (b+1)) else F),(if (a.Bc).toNat=9 then (A1 (b+1)) else G),(if (a.Bc).toNat=10 then (A1 (b+1)) else c),(if (a.Bc).toNat=11 then (A1 (b+1)) else d),(if (a.Bc).toNat=12 then (A1 (b+1)) else e),(if (a.Bc).toNat=13 then (A1 (b+1)) else f),(if (a.Bc).toNat=14 then (A1 (b+1)) else g),(if (a.Bc).toNat=15 then (A1 (b+1)) else h),(if (a.Bc).toNat=16 then (A1 (b+1)) else i),(if (a.Bc).toNat=17 then (A1 (b+1)) else j),(if (a.Bc).toNat=18 then (A1 (b+1)) else k),(if (a.Bc).toNat=19 then (A1 (b+1)) else l),(if (a.Bc).toNat=20 then (A1 (b+1)) else m),(if (a.Bc).toNat=21 then (A1 (b+1)) else n),(if (a.Bc).toNat=22 then (A1 (b+1)) else o),(if (a.Bc).toNat=23 then (A1 (b+1)) else p),(if (a.Bc).toNat=24 then (A1 (b+1)) else q),(if (a.Bc).toNat=25 then (A1 (b+1)) else r),(if (a.Bc).toNat=26 then (A1 (b+1)) else s),(if (a.Bc).toNat=27 then (A1 (b+1)) else t),(if (a.Bc).toNat=28 then (A1 (b+1)) else u),(if (a.Bc).toNat=29 then (A1 (b+1)) else v),(if (a.Bc).toNat=30 then (A1 (b+1)) else w))))<|
 Option.map Sum.inr (cond ((Q.length:Int)==(0:Int)) (
  some true)<|
 Option.bind (C1 Q 0) fun K=>
 A28 R x y z A B C D E F G c d e f g h i j k l m n o p q r s t u v w K 0)
def B2t (H:List A3) (I G w x y z A B C D E F a b c d e f g h i j k l m n o p q r t u v:Int):Option Bool:=
 loop (fun (s:(Int×Int×Int×Int×Int×Int×Int×Int×Int×Int×Int×Int×Int×Int×Int×Int×Int×Int×Int×Int×Int×Int×Int×Int×Int×Int×Int×Int×Int×Int×Int×Int))=>A6v H I s.1 s.2.1 s.2.2.1 s.2.2.2.1 s.2.2.2.2.1 s.2.2.2.2.2.1 s.2.2.2.2.2.2.1 s.2.2.2.2.2.2.2.1 s.2.2.2.2.2.2.2.2.1 s.2.2.2.2.2.2.2.2.2.1 s.2.2.2.2.2.2.2.2.2.2.1 s.2.2.2.2.2.2.2.2.2.2.2.1 s.2.2.2.2.2.2.2.2.2.2.2.2.1 s.2.2.2.2.2.2.2.2.2.2.2.2.2.1 s.2.2.2.2.2.2.2.2.2.2.2.2.2.2.1 s.2.2.2.2.2.2.2.2.2.2.2.2.2.2.2.1 s.2.2.2.2.2.2.2.2.2.2.2.2.2.2.2.2.1 s.2.2.2.2.2.2.2.2.2.2.2.2.2.2.2.2.2.1 s.2.2.2.2.2.2.2.2.2.2.2.2.2.2.2.2.2.2.1 s.2.2.2.2.2.2.2.2.2.2.2.2.2.2.2.2.2.2.2.1 s.2.2.2.2.2.2.2.2.2.2.2.2.2.2.2.2.2.2.2.2.1 s.2.2.2.2.2.2.2.2.2.2.2.2.2.2.2.2.2.2.2.2.2.1 s.2.2.2.2.2.2.2.2.2.2.2.2.2.2.2.2.2.2.2.2.2.2.1 s.2.2.2.2.2.2.2.2.2.2.2.2.2.2.2.2.2.2.2.2.2.2.2.1 s.2.2.2.2.2.2.2.2.2.2.2.2.2.2.2.2.2.2.2.2.2.2.2.2.1 s.2.2.2.2.2.2.2.2.2.2.2.2.2.2.2.2.2.2.2.2.2.2.2.2.2.1 s.2.2.2.2.2.2.2.2.2.2.2.2.2.2.2.2.2.2.2.2.2.2.2.2.2.2.1 s.2.2.2.2.2.2.2.2.2.2.2.2.2.2.2.2.2.2.2.2.2.2.2.2.2.2.2.1 s.2.2.2.2.2.2.2.2.2.2.2.2.2.2.2.2.2.2.2.2.2.2.2.2.2.2.2.2.1 s.2.2.2.2.2.2.2.2.2.2.2.2.2.2.2.2.2.2.2.2.2.2.2.2.2.2.2.2.2.1 s.2.2.2.2.2.2.2.2.2.2.2.2.2.2.2.2.2.2.2.2.2.2.2.2.2.2.2.2.2.2.1 s.2.2.2.2.2.2.2.2.2.2.2.2.2.2.2.2.2.2.2.2.2.2.2.2.2.2.2.2.2.2.2) (G,w,x,y,z,A,B,C,D,E,F,a,b,c,d,e,f,g,h,i,j,k,l,m,n,o,p,q,r,t,u,v)
def X7 (b:List A3) (a:Int):Option Bool:=
 cond ((decide (a<1))||(decide (a>128))) (
  some false)<|
 B2t b a 0 0 0 0 0 0 0 0 0 0 0 0 0 0 0 0 0 0 0 0 0 0 0 0 0 0 0 0 0 0 0 0
def A3e (f:D4) (a:Int):Option (Int⊕Int):=
 cond (decide (a<(f.Ae.length:Int))) (
  Option.bind (C1 f.Ae a) fun b=>
  cond (((decide (b.Bt<1))||(decide (b.Bt>b.Bs)))||(decide (b.Bs>f.N))) (
   some (.inr 2))<|
  cond (decide (a>0)) (
   Option.bind (C1 f.Ae (A1 (a-1))) fun c=>
   cond (((decide (c.V>b.V))||(decide (c.Bt>=b.Bt)))||(decide (c.Bs>=b.Bs))) (
    some (.inr 2))<|
   some (.inl (A1 (a+1))))<|
  some (.inl (A1 (a+1))))<|
 Option.map Sum.inr (Option.bind (gd (decide ((f.Ae.length:Int)>(0:Int))) (C1 f.Ae 0)) fun d=>
 Option.bind (gd ((decide ((f.Ae.length:Int)>(0:Int)))&&(!(d.Bs !=1))) (C1 f.Ae (A1 ((f.Ae.length:Int)-(1:Int))))) fun e=>
 cond ((decide ((f.Ae.length:Int)>(0:Int)))&&((d.Bs !=1)||(e.Bt !=f.N))) (
  some 2)<|
 some 0)
def B2Y (b:D4) (a:Int):Option Int:=
 loop (fun (s:Int)=>A3e b s) a
def R8 (a:D4):Option Int:=
 cond (((decide (a.N<0))||(decide (a.N>1099511627776)))||(!(((a.Ae.length:Int)==(0:Int))==(a.N==0)))) (
  some 2)<|
 B2Y a 0
def B2V (e:D4) (b a:Int):Option ((Int×Int)⊕Int):=
 cond (decide (a<(e.Ae.length:Int))) (
  Option.bind (C1 e.Ae a) fun d=>
  Option.bind (C1 e.Ae (A1 (a-1))) fun c=>
  some (.inl ((A0y b (A1 (d.Bs-c.Bt))),(A1 (a+1)))))<|
 Option.map Sum.inr (some b)
def B4i (c:D4) (a b:Int):Option Int:=
 loop (fun (s:(Int×Int))=>B2V c s.1 s.2) (a,b)
def B5K (b:D4):Option Int:=
 Option.bind (R8 b) fun a=>
 cond ((a !=0)||((b.Ae.length:Int)==(0:Int))) (
  some 0)<|
 B4i b 1 1
def A3X (i:List B2) (h b:Int):Option (Int⊕Bool):=
 cond (decide (b<(i.length:Int))) (
  Option.bind (C1 i b) fun a=>
  Option.bind (R8 a.Bh) fun c=>
  ck (!(!(c !=0))||(decide (0<=(A4 a.Bc))))<|
  Option.bind (gd (!(((c !=0)||(a.Bh.N !=(E8 .i64 1 (A4 a.Bc))))||(decide ((a.Bh.Ae.length:Int)>(A1 (h+1)))))) (B5K a.Bh)) fun f=>
  Option.bind (gd (!(((c !=0)||(a.Bh.N !=(E8 .i64 1 (A4 a.Bc))))||(decide ((a.Bh.Ae.length:Int)>(A1 (h+1)))))) (A5O a.Bc h)) fun g=>
  cond ((((c !=0)||(a.Bh.N !=(E8 .i64 1 (A4 a.Bc))))||(decide ((a.Bh.Ae.length:Int)>(A1 (h+1)))))||(decide ((A1 (f-1))>g))) (
   some (.inr false))<|
  Option.bind (C1 a.Bh.Ae 0) fun e=>
  Option.bind (C1 a.Bh.Ae (A1 ((a.Bh.Ae.length:Int)-(1:Int)))) fun d=>
  cond ((((decide (e.V<(-4096:Int)))||(decide (d.V>4096)))||(decide (a.Bk<e.V)))||(decide (a.Bk>d.V))) (
   some (.inr false))<|
  some (.inl (A1 (b+1))))<|
 Option.map Sum.inr (some true)
def B3o (b:List B2) (c a:Int):Option Bool:=
 loop (fun (s:Int)=>A3X b c s) a
def A3t (d:List B2) (e c:Int):Option Bool:=
 Option.bind (gd (!((decide (c<1))||(decide (c>65536)))) (A5p d)) fun b=>
 Option.bind (gd (!((decide (c<1))||(decide (c>65536)))) (X7 b e)) fun a=>
 cond (((decide (c<1))||(decide (c>65536)))||(!a)) (
  some false)<|
 B3o d c 0
def A0r (a:Int):D4:=
 (D4.mk 1 [(B4.mk a 1 1)])
def A5a (c:B4) (d:List B4) (e f a:Int):Option B4:=
 cond (decide (e<(d.length:Int))) (
  Option.bind (C1 d e) fun b=>
  some (B4.mk c.V a (A1 (c.Bs+(A1 (b.Bs-1))))))<|
 some (B4.mk c.V a (A1 (c.Bs+f)))
def A5E (b:B4) (d:List B4) (c e:Int):Option B4:=
 cond (decide (c>0)) (
  Option.bind (C1 d (A1 (c-1))) fun a=>
  A5a b d c e (A1 (b.Bt+a.Bt)))<|
 A5a b d c e b.Bt
def A23 (a:D4):Option D4:=
 ck (decide ((([]:List B4).length+a.Ae.length)*24<=140737488355328))<|
 some (D4.mk a.N (([]:List B4)++a.Ae))
def A57 (b:List B4) (c d:Int) (a:B4):Option ((Int×Int×(List B4))⊕(D4×Int)):=
 ck (decide ((b.length+ [a].length)*24<=140737488355328))<|
 some (.inl (c,d,(b++ [a])))
def A58 (j k:D4) (a b:Int) (c:List B4):Option ((Int×Int×(List B4))⊕(D4×Int)):=
 cond ((decide (a<(j.Ae.length:Int)))||(decide (b<(k.Ae.length:Int)))) (
  Option.bind (gd ((!(b==(k.Ae.length:Int)))&&(decide (a<(j.Ae.length:Int)))) (C1 j.Ae a)) fun d=>
  Option.bind (gd ((!(b==(k.Ae.length:Int)))&&(decide (a<(j.Ae.length:Int)))) (C1 k.Ae b)) fun e=>
  cond ((b==(k.Ae.length:Int))||((decide (a<(j.Ae.length:Int)))&&(decide (d.V<=e.V)))) (
   Option.bind (C1 j.Ae a) fun f=>
   Option.bind (A5E f k.Ae b k.N) fun g=>
   A57 c (A1 (a+1)) b g)<|
  Option.bind (C1 k.Ae b) fun h=>
  Option.bind (A5E h j.Ae a j.N) fun i=>
  A57 c a (A1 (b+1)) i)<|
 Option.map Sum.inr (some ((D4.mk (A1 (j.N+k.N)) c),0))
def B0R (d e:D4) (b c:Int) (a:List B4):Option (D4×Int):=
 loop (fun (s:(Int×Int×(List B4)))=>A58 d e s.1 s.2.1 s.2.2) (b,c,a)
def A56 (e f:D4):Option (D4×Int):=
 Option.bind (R8 e) fun a=>
 cond (a !=0) (
  some ((D4.mk 0 []),a))<|
 Option.bind (R8 f) fun b=>
 cond (b !=0) (
  some ((D4.mk 0 []),b))<|
 cond (decide (e.N>(A1 (1099511627776-f.N)))) (
  some ((D4.mk 0 []),5))<|
 cond (e.N==0) (
  Option.bind (A23 f) fun c=>
  some (c,0))<|
 cond (f.N==0) (
  Option.bind (A23 e) fun d=>
  some (d,0))<|
 B0R e f 0 0 ([]:List B4)
def B2Z (a:B4) (b:Int):Int:=
 (A0y (A1 (b-a.Bt)) (A1 (a.Bs-b)))
def A9x (f:List B4) (g a:Int):Option (Int⊕Int):=
 Option.bind (gd (decide ((A1 (a+1))<(f.length:Int))) (C1 f (A1 (a+1)))) fun e=>
 let b:=(B2Z e g);
 Option.bind (gd (decide ((A1 (a+1))<(f.length:Int))) (C1 f a)) fun c=>
 let d:=(B2Z c g);
 cond ((decide ((A1 (a+1))<(f.length:Int)))&&(decide (b<d))) (
  some (.inl (A1 (a+1))))<|
 Option.map Sum.inr (some a)
def B6j (b:List B4) (c a:Int):Option Int:=
 loop (fun (s:Int)=>A9x b c s) a
def A1N (a:List B4) (b c:Int):Option Int:=
 B6j a b c
def A9w (g:D4) (h e f c:Int) (a:List B4):Option ((Int×Int×Int×(List B4))⊕(D4×Int)):=
 cond (decide (c<=h)) (
  ck (decide (h≠0))<|
  Option.bind (A1N g.Ae (A1 (1+(A1 (Int.tdiv (A1 (c*(A1 (g.N-1)))) h)))) f) fun b=>
  cond (b !=e) (
   Option.bind (C1 g.Ae b) fun d=>
   ck (decide ((a.length+ [d].length)*24<=140737488355328))<|
   some (.inl (b,b,(A1 (c+1)),(a++ [d]))))<|
  some (.inl (e,b,(A1 (c+1)),a)))<|
 Option.map Sum.inr (some ((D4.mk g.N a),0))
def B0S (e:D4) (f c d b:Int) (a:List B4):Option (D4×Int):=
 loop (fun (s:(Int×Int×Int×(List B4)))=>A9w e f s.1 s.2.1 s.2.2.1 s.2.2.2) (c,d,b,a)
def A8w (c:D4) (d:Int):Option (D4×Int):=
 Option.bind (R8 c) fun a=>
 cond (a !=0) (
  some ((D4.mk 0 []),a))<|
 cond ((decide (d<1))||(decide (d>65536))) (
  some ((D4.mk 0 []),1))<|
 cond (decide ((c.Ae.length:Int)<=(A1 (d+1)))) (
  Option.bind (A23 c) fun b=>
  some (b,0))<|
 B0S c d (-1:Int) 0 0 ([]:List B4)
def A6u (o p:Int) (b:List B2) (f d a:Int):Option (Int⊕(((List B2)×Int×Int)⊕(List B2))):=
 Option.bind (gd (decide (a>0)) (C1 b (A1 (a-1)))) fun n=>
 Option.bind (gd (decide (a>0)) (C1 b (A1 (a-1)))) fun i=>
 cond ((decide (a>0))&&(i.Bc==d)) (
  some (.inl (A1 (a-1))))<|
 Option.map Sum.inr (cond (decide ((A1 (f-a))<(A1 (o+2)))) (
  some (.inr b))<|
 Option.bind (C1 b a) fun l=>
 Option.bind (C1 b a) fun g=>
 Option.bind (C1 b (A1 (a+1))) fun m=>
 Option.bind (C1 b (A1 (a+1))) fun c=>
 Option.bind (A56 g.Bh c.Bh) fun h=>
 Option.bind (A8w h.1 p) fun e=>
 Option.bind (C1 b a) fun j=>
 Option.bind (C1 b a) fun k=>
 ck (decide (0<=(A1 (a+1))/\(A1 (a+1))<=((b.set (a).toNat (B2.mk c.T c.Bk (A1 (d+1)) e.1)).length:Int)))<|
 ck (decide (0<=(A1 (a+2))/\(A1 (a+2))<=((b.set (a).toNat (B2.mk c.T c.Bk (A1 (d+1)) e.1)).length:Int)))<|
 ck (decide (0<((A1 (a+(1:Int)))).toNat/\((A1 (a+(1:Int)))).toNat+(((b.set (a).toNat (B2.mk c.T c.Bk (A1 (d+1)) e.1)).drop ((A1 (a+(2:Int)))).toNat).take ((b.set (a).toNat (B2.mk c.T c.Bk (A1 (d+1)) e.1)).length-((A1 (a+(2:Int)))).toNat)).length<=(b.set (a).toNat (B2.mk c.T c.Bk (A1 (d+1)) e.1)).length))<|
 some (.inl (((b.set (a).toNat (B2.mk c.T c.Bk (A1 (d+1)) e.1)).take ((A1 (a+(1:Int)))).toNat++(((b.set (a).toNat (B2.mk c.T c.Bk (A1 (d+1)) e.1)).drop ((A1 (a+(2:Int)))).toNat).take ((b.set (a).toNat (B2.mk c.T c.Bk (A1 (d+1)) e.1)).length-((A1 (a+(2:Int)))).toNat))),(A1 (a+1)),(A1 (d+1)))))
def A7z (e f:Int) (a:List B2) (b c d:Int):Option (((List B2)×Int×Int)⊕(List B2)):=
 loop (fun (s:Int)=>A6u e f a b c s) d
def B1c (d e:Int) (b:List B2) (a c:Int):Option (((List B2)×Int×Int)⊕(List B2)):=
 A7z d e b a c a
def A7y (d e:Int) (a:List B2) (b c:Int):Option (List B2):=
 loop (fun (s:((List B2)×Int×Int))=>B1c d e s.1 s.2.1 s.2.2) (a,b,c)
def B0K (e:List B2) (h i f g:Int):Option (List B2):=
 Option.bind (A3t e h i) fun a=>
 Option.bind (gd ((!(((!a)||(decide (f<0)))||(decide (f>16777216))))&&(decide ((e.length:Int)>(0:Int)))) (C1 e (A1 ((e.length:Int)-(1:Int))))) fun c=>
 Option.bind (gd (!((((((!a)||(decide (f<0)))||(decide (f>16777216)))||((decide ((e.length:Int)>(0:Int)))&&(decide (c.T>f))))||(decide (g<(-4096:Int))))||(decide (g>4096)))) (A1Z e)) fun d=>
 cond (((((((!a)||(decide (f<0)))||(decide (f>16777216)))||((decide ((e.length:Int)>(0:Int)))&&(decide (c.T>f))))||(decide (g<(-4096:Int))))||(decide (g>4096)))||(decide (d>=1073741824))) (
  some [])<|
 ck (decide ((([]:List B2).length+e.length)*56<=140737488355328))<|
 let b:=(A0r g);
 ck (decide (((([]:List B2)++e).length+ [(B2.mk f g 0 b)].length)*56<=140737488355328))<|
 A7y h i ((([]:List B2)++e)++ [(B2.mk f g 0 b)]) (((([]:List B2)++e)++ [(B2.mk f g 0 b)]).length:Int) 0
def B3n (f:List B2) (d a:Int) (b:List B4):Option ((Int×Int×(List B4))⊕(D4×Int)):=
 cond (decide (d<((f.drop ((1:Int)).toNat).length:Int))) (
  Option.bind (C1 (f.drop ((1:Int)).toNat) d) fun e=>
  Option.bind (A56 (D4.mk a b) e.Bh) fun c=>
  cond (c.2 !=0) (
   some (.inr ((D4.mk 0 []),c.2)))<|
  some (.inl ((A1 (d+1)),c.1.N,c.1.Ae)))<|
 Option.map Sum.inr (some ((D4.mk a b),0))
def B4B (d:List B2) (c a:Int) (b:List B4):Option (D4×Int):=
 loop (fun (s:(Int×Int×(List B4)))=>B3n d s.1 s.2.1 s.2.2) (c,a,b)
def A1S (c:List B2) (a:Int) (b:List B4):Option (D4×Int):=
 ck (decide (0<=(1:Int)/\1<=(c.length:Int)))<|
 B4B c 0 a b
def B3m (h:List B2) (a:Int):Option (Int⊕(D4×Int)):=
 cond (decide (a<(h.length:Int))) (
  Option.bind (C1 h a) fun b=>
  Option.bind (R8 b.Bh) fun f=>
  cond (((f !=0)||(decide (b.Bc<0)))||(decide (b.Bc>30))) (
   some (.inr ((D4.mk 0 []),2)))<|
  some (.inl (A1 (a+1))))<|
 Option.map Sum.inr (cond ((h.length:Int)==(0:Int)) (
  some ((D4.mk 0 []),0))<|
 Option.bind (C1 h 0) fun g=>
 let d:=(A0r g.Bk);
 Option.bind (C1 h 0) fun e=>
 cond (e.Bc==0) (
  Option.bind (C1 h 0) fun c=>
  A1S h c.Bh.N c.Bh.Ae)<|
 A1S h d.N d.Ae)
def B4A (b:List B2) (a:Int):Option (D4×Int):=
 loop (fun (s:Int)=>B3m b s) a
def A22 (a:List B2):Option (D4×Int):=
 B4A a 0
def A72 (c:A2):Option Int:=
 cond (c.Hi !=0) (
  Option.bind (W9 c.Hi) fun a=>
  some (A1 (64+a)))<|
 Option.bind (W9 c.Lo) fun b=>
 some b
def T8 (a b:A2):Int:=
 cond ((decide (a.Hi<b.Hi))||((a.Hi==b.Hi)&&(decide (a.Lo<b.Lo)))) (
  (-1:Int))<|
 cond (a.Hi==b.Hi&&(a.Lo==b.Lo&&true)) (
  0)<|
 1
def B9r (b:A2) (a:Int):Option Int:=
 cond (decide (a>=64)) (
  ck (decide (0<=(A4 (A1 (a-64)))))<|
  some (O8 .u64 (G1 .u64 b.Hi (A4 (A1 (a-64)))) 1))<|
 ck (decide (0<=(A4 a)))<|
 some (O8 .u64 (G1 .u64 b.Lo (A4 a)) 1)
def A09 (a:A2):Bool:=
 ((a.Hi==0)&&(a.Lo==0))
def B3c (k j:A2) (e d b c a:Int):Option ((Int×Int×Int×Int×Int)⊕(A2×A2×Bool)):=
 cond (decide (e>=0)) (
  Option.bind (B9r k e) fun f=>
  let h:=(T8 (A2.mk (O0 .u64 (E8 .u64 c 1) (G1 .u64 a 63)) (O0 .u64 (E8 .u64 a 1) f)) j);
  cond (((G1 .u64 c (63:Int))==(1:Int))||(decide (h>=0))) (
   Option.bind (P4 (O0 .u64 (E8 .u64 a 1) f) j.Lo 0) fun g=>
   Option.bind (P4 (O0 .u64 (E8 .u64 c 1) (G1 .u64 a 63)) j.Hi g.2) fun i=>
   some (.inl ((A1 (e-1)),(O0 .u64 (E8 .u64 d 1) (G1 .u64 b 63)),(O0 .u64 (E8 .u64 b 1) 1),i.1,g.1)))<|
  some (.inl ((A1 (e-1)),(O0 .u64 (E8 .u64 d 1) (G1 .u64 b 63)),(E8 .u64 b 1),(O0 .u64 (E8 .u64 c 1) (G1 .u64 a 63)),(O0 .u64 (E8 .u64 a 1) f))))<|
 Option.map Sum.inr (some ((A2.mk d b),(A2.mk c a),true))
def B8Z (f g:A2) (e a b c d:Int):Option (A2×A2×Bool):=
 loop (fun (s:(Int×Int×Int×Int×Int))=>B3c f g s.1 s.2.1 s.2.2.1 s.2.2.2.1 s.2.2.2.2) (e,a,b,c,d)
def A19 (c d:A2):Option (A2×A2×Bool):=
 let a:=(A09 d);
 cond a (
  some ((A2.mk 0 0),(A2.mk 0 0),false))<|
 Option.bind (A72 c) fun b=>
 B8Z c d (A1 (b-1)) 0 0 0 0
def K6 (a:Int):A2:=
 (A2.mk 0 a)
def Q7 (a b:Int):(Int×Int):=
 ((A4 ((A4 ((A4 ((G1 .u64 a 32)*(G1 .u64 b 32)))+(G1 .u64 (A4 ((A4 ((G1 .u64 a 32)*(O8 .u64 b 4294967295)))+(G1 .u64 (A4 ((O8 .u64 a 4294967295)*(O8 .u64 b 4294967295))) 32))) 32)))+(G1 .u64 (A4 ((O8 .u64 (A4 ((A4 ((G1 .u64 a 32)*(O8 .u64 b 4294967295)))+(G1 .u64 (A4 ((O8 .u64 a 4294967295)*(O8 .u64 b 4294967295))) 32))) 4294967295)+(A4 ((O8 .u64 a 4294967295)*(G1 .u64 b 32))))) 32))),(A4 (a*b)))
def R1 (b c:Int):A2:=
 let a:=(Q7 b c);
 (A2.mk a.1 a.2)
def A4c (d:D4) (a:Int):Option (Int×Int):=
 Option.bind (A1N d.Ae (A0y 1 (A1 a)) 0) fun b=>
 Option.bind (C1 d.Ae b) fun c=>
 some (c.V,0)
def A4x (e:D4) (f g:Int):Option (Int×Int):=
 Option.bind (R8 e) fun b=>
 cond (b !=0) (
  some (0,b))<|
 cond (((decide (g<1))||(decide (f<0)))||(decide (f>g))) (
  some (0,1))<|
 cond (e.N==0) (
  some (0,7))<|
 let c:=(R1 (A4 f) (A4 e.N));
 let d:=(K6 (A4 g));
 Option.bind (A19 c d) fun a=>
 cond (!(a.2.1.Hi==0&&(a.2.1.Lo==0&&true))) (
  A4c e (A4 (a.1.Lo+1)))<|
 A4c e a.1.Lo
def A74 (c:List B2) (d e:Int):Option (Int×Int):=
 Option.bind (A22 c) fun a=>
 cond (a.2 !=0) (
  some (0,a.2))<|
 Option.bind (A4x a.1 d e) fun b=>
 some (b.1,b.2)
def A0O (a:Int):Int:=
 cond (decide (a<0)) (
  (IntKind.u64.wrap (0-(A4 a))))<|
 (A4 a)
def B3d (c d a b:Int):Option ((Int×Int×Int×Int)⊕A2):=
 let f:=(A09 (A2.mk a b));
 cond (!f) (
  Option.bind (A19 (A2.mk c d) (A2.mk a b)) fun e=>
  some (.inl (a,b,e.2.1.Hi,e.2.1.Lo)))<|
 Option.map Sum.inr (some (A2.mk c d))
def B80 (a b c d:Int):Option A2:=
 loop (fun (s:(Int×Int×Int×Int))=>B3d s.1 s.2.1 s.2.2.1 s.2.2.2) (a,b,c,d)
def A9M (a b:A2):Option A2:=
 B80 a.Hi a.Lo b.Hi b.Lo
def B4j (f:A5):Option Bool:=
 let d:=(A0O f.Bu);
 let e:=(K6 d);
 let c:=(K6 (A4 f.Bp));
 Option.bind (gd (decide (f.Bp>=1)) (A9M e c)) fun a=>
 let b:=(K6 1);
 some ((decide (f.Bp>=1))&&(a.Hi==b.Hi&&(a.Lo==b.Lo&&true)))
def Q4 (b:A5):Option C8:=
 Option.bind (B4j b) fun a=>
 cond (!a) (
  some (C8.mk (A5.mk 0 0) (A5.mk 0 0) (A5.mk 0 0)))<|
 some (C8.mk b b b)
def A1t (a:Int):A5:=
 (A5.mk a 1)
def A3u (d e:Int):(C8×Bool):=
 cond (decide (d>e)) (
  ((C8.mk (A5.mk 0 0) (A5.mk 0 0) (A5.mk 0 0)),false))<|
 let a:=(A1t d);
 let b:=(A1t (A1 ((O8 .i64 d e)+(G1 .i64 (D5i .i64 d e) 1))));
 let c:=(A1t e);
 ((C8.mk a b c),true)
def B2W (b c:Int):Option (C8×Int):=
 let a:=(A3u b c);
 some (a.1,0)
def B6i (d:D4) (e c a:Int):Option ((Int×Int)⊕(C8×Int)):=
 cond (decide (a<(d.Ae.length:Int))) (
  Option.bind (C1 d.Ae a) fun b=>
  cond (decide (b.V>e)) (
   Option.map Sum.inr (B2W c (A1 (b.Bs-1))))<|
  some (.inl (b.Bt,(A1 (a+1)))))<|
 Option.map Sum.inr (B2W c d.N)
def B2X (c:D4) (d b a:Int):Option (C8×Int):=
 loop (fun (s:(Int×Int))=>B6i c d s.1 s.2) (b,a)
def B3S (b:D4) (c:Int):Option (C8×Int):=
 Option.bind (R8 b) fun a=>
 cond (a !=0) (
  some ((C8.mk (A5.mk 0 0) (A5.mk 0 0) (A5.mk 0 0)),a))<|
 B2X b c 0 0
def B34 (g:List B2) (h:Int):Option (C8×Int):=
 Option.bind (A22 g) fun b=>
 cond (b.2 !=0) (
  some ((C8.mk (A5.mk 0 0) (A5.mk 0 0) (A5.mk 0 0)),b.2))<|
 cond ((g.length:Int)==(0:Int)) (
  let e:=(A1t 0);
  Option.bind (Q4 e) fun f=>
  some (f,0))<|
 Option.bind (B3S b.1 h) fun a=>
 cond (a.2 !=0) (
  some ((C8.mk (A5.mk 0 0) (A5.mk 0 0) (A5.mk 0 0)),a.2))<|
 Option.bind (C1 g 0) fun c=>
 ck (decide (0<=(A4 c.Bc)))<|
 let d:=(A3u a.1.Lo.Bu (A1 ((A1 (a.1.Hi.Bu+(E8 .i64 1 (A4 c.Bc))))-1)));
 some (d.1,0)
def B0g (c:Int) (a:List A3):Option ((List A3)⊕(List A3)):=
 Option.bind (gd (decide ((a.length:Int)>(0:Int))) (C1 a 0)) fun b=>
 cond ((decide ((a.length:Int)>(0:Int)))&&(decide (b.T<c))) (
  ck (decide (0<=(1:Int)/\1<=(a.length:Int)))<|
  some (.inl (a.drop ((1:Int)).toNat)))<|
 Option.map Sum.inr (ck (decide ((([]:List A3).length+a.length)*16<=140737488355328))<|
 some (([]:List A3)++a))
def B1d (b:Int) (a:List A3):Option (List A3):=
 loop (fun (s:(List A3))=>B0g b s) a
def A3v (a:List A3) (b:Int):Option (List A3):=
 B1d b a
def A3x (k:Int) (b:List A3) (e d a:Int):Option (Int⊕(((List A3)×Int×Int)⊕(List A3))):=
 Option.bind (gd (decide (a>0)) (C1 b (A1 (a-1)))) fun j=>
 Option.bind (gd (decide (a>0)) (C1 b (A1 (a-1)))) fun f=>
 cond ((decide (a>0))&&(f.Bc==d)) (
  some (.inl (A1 (a-1))))<|
 Option.map Sum.inr (cond (decide ((A1 (e-a))<(A1 (k+2)))) (
  some (.inr b))<|
 Option.bind (C1 b (A1 (a+1))) fun i=>
 Option.bind (C1 b (A1 (a+1))) fun c=>
 Option.bind (C1 b a) fun g=>
 Option.bind (C1 b a) fun h=>
 ck (decide (0<=(A1 (a+1))/\(A1 (a+1))<=((b.set (a).toNat (A3.mk c.T (A1 (d+(1:Int))))).length:Int)))<|
 ck (decide (0<=(A1 (a+2))/\(A1 (a+2))<=((b.set (a).toNat (A3.mk c.T (A1 (d+(1:Int))))).length:Int)))<|
 ck (decide (0<((A1 (a+(1:Int)))).toNat/\((A1 (a+(1:Int)))).toNat+(((b.set (a).toNat (A3.mk c.T (A1 (d+(1:Int))))).drop ((A1 (a+(2:Int)))).toNat).take ((b.set (a).toNat (A3.mk c.T (A1 (d+(1:Int))))).length-((A1 (a+(2:Int)))).toNat)).length<=(b.set (a).toNat (A3.mk c.T (A1 (d+(1:Int))))).length))<|
 some (.inl (((b.set (a).toNat (A3.mk c.T (A1 (d+(1:Int))))).take ((A1 (a+(1:Int)))).toNat++(((b.set (a).toNat (A3.mk c.T (A1 (d+(1:Int))))).drop ((A1 (a+(2:Int)))).toNat).take ((b.set (a).toNat (A3.mk c.T (A1 (d+(1:Int))))).length-((A1 (a+(2:Int)))).toNat))),(A1 (a+1)),(A1 (d+1)))))
def A3Z (e:Int) (a:List A3) (b c d:Int):Option (((List A3)×Int×Int)⊕(List A3)):=
 loop (fun (s:Int)=>A3x e a b c s) d
def A7Q (d:Int) (b:List A3) (a c:Int):Option (((List A3)×Int×Int)⊕(List A3)):=
 A3Z d b a c a
def A75 (d:Int) (a:List A3) (b c:Int):Option (List A3):=
 loop (fun (s:((List A3)×Int×Int))=>A7Q d s.1 s.2.1 s.2.2) (a,b,c)
def A1B (a:List A3) (c b:Int):Option (List A3):=
 ck (decide ((a.length+ [(A3.mk b 0)].length)*16<=140737488355328))<|
 A75 c (a++ [(A3.mk b 0)]) ((a++ [(A3.mk b 0)]).length:Int) 0
def A6S (c:List A3) (d:Int):Option Bool:=
 let a:=(A10 d);
 Option.bind (gd (a&&(!((c.length:Int)==(0:Int)))) (C1 c (A1 ((c.length:Int)-(1:Int))))) fun b=>
 some (a&&(((c.length:Int)==(0:Int))||(decide (b.T<=d))))
def A9f (e:List A3) (f g:Int):Option (List A3):=
 Option.bind (X7 e f) fun a=>
 Option.bind (gd (!(!a)) (A6S e g)) fun b=>
 Option.bind (gd (!((!a)||(!b))) (T6 e)) fun c=>
 cond (((!a)||(!b))||(decide (c>=1073741824))) (
  some [])<|
 ck (decide ((([]:List A3).length+e.length)*16<=140737488355328))<|
 Option.bind (A1B (([]:List A3)++e) f g) fun d=>
 some d
def A6R (d e a:Int) (b:List A3):Option ((Int×(List A3))⊕(List A3)):=
 cond (decide (a>0)) (
  Option.bind (A1B b d e) fun c=>
  some (.inl ((A1 (a-1)),c)))<|
 Option.map Sum.inr (some b)
def A3w (c d a:Int) (b:List A3):Option (List A3):=
 loop (fun (s:(Int×(List A3)))=>A6R c d s.1 s.2) (a,b)
def A5q (e:List A3) (f g d:Int):Option (List A3):=
 Option.bind (X7 e f) fun a=>
 Option.bind (gd (!(!a)) (A6S e g)) fun b=>
 Option.bind (gd ((!((((!a)||(!b))||(decide (d<0)))||(decide (d>1024))))&&(decide (d>0))) (T6 e)) fun c=>
 cond (((((!a)||(!b))||(decide (d<0)))||(decide (d>1024)))||((decide (d>0))&&(decide (c>(A1 (1073741824-d)))))) (
  some [])<|
 ck (decide ((([]:List A3).length+e.length)*16<=140737488355328))<|
 A3w f g d (([]:List A3)++e)
def A7A (a b:Int):Option C8:=
 let c:=(A3u (A1 ((A1 (a-b))+1)) a);
 some c.1
def A4p (g:List A3):Option C8:=
 cond ((g.length:Int)==(0:Int)) (
  let c:=(A1t 0);
  Option.bind (Q4 c) fun d=>
  some d)<|
 Option.bind (T6 g) fun a=>
 Option.bind (C1 g 0) fun e=>
 let f:=(A0s e.Bc);
 cond f (
  Option.bind (C1 g 0) fun b=>
  ck (decide (0<=(A4 b.Bc)))<|
  A7A a (E8 .i64 1 (A4 b.Bc)))<|
 A7A a 0
def A5t (f:B7) (a:Int):Option (Int⊕Int):=
 cond (decide (a<(f.Be.length:Int))) (
  Option.bind (C1 f.Be a) fun b=>
  cond (((((decide (b.V<(-4096:Int)))||(decide (b.V>4096)))||(decide (b.I<1)))||(decide (b.I>f.I)))||(decide (b.I<=(A1 (f.I-f.W))))) (
   some (.inr 2))<|
  Option.bind (gd (decide (a>0)) (C1 f.Be (A1 (a-1)))) fun c=>
  Option.bind (gd ((decide (a>0))&&(!(decide (b.I<=c.I)))) (C1 f.Be (A1 (a-1)))) fun d=>
  cond ((decide (a>0))&&((decide (b.I<=c.I))||(decide (b.I>(A1 (d.I+f.W)))))) (
   some (.inr 2))<|
  some (.inl (A1 (a+1))))<|
 Option.map Sum.inr (Option.bind (gd (!(decide (f.Bl<=f.I))) (C1 f.Be (A1 ((f.Be.length:Int)-(1:Int))))) fun e=>
 cond ((decide (f.Bl<=f.I))||(decide (f.Bl>(A1 (e.I+f.W))))) (
  some 2)<|
 some 0)
def A6w (b:B7) (a:Int):Option Int:=
 loop (fun (s:Int)=>A5t b s) a
def S0 (a:B7):Option Int:=
 cond (((((((decide (a.W<1))||(decide (a.W>1048576)))||(decide (a.Cap<1)))||(decide (a.Cap>64)))||(decide (a.I<0)))||(decide (a.I>1099511627776)))||(decide ((a.Be.length:Int)>a.Cap))) (
  some 2)<|
 cond (a.I==0) (
  cond ((decide ((a.Be.length:Int)>(0:Int)))||(a.Bl !=0)) (
   some 2)<|
  some 0)<|
 cond ((a.Be.length:Int)==(0:Int)) (
  some 2)<|
 A6w a 0
def C11 (e:List Int) (d f:Int):Option (Int×Int×Int):=
 cond ((decide (f<1))||(decide (d<0))) (
  some (0,0,1))<|
 Option.bind (gd (!(decide (d>=(e.length:Int)))) (C1 e d)) fun a=>
 Option.bind (gd (!((decide (d>=(e.length:Int)))||(decide (a<0)))) (C1 e d)) fun b=>
 cond (((decide (d>=(e.length:Int)))||(decide (a<0)))||(decide (b>=f))) (
  some (0,0,8))<|
 Option.bind (C1 e d) fun c=>
 some (c,(A1 (d+1)),0)
def A6x (b:K7) (c:Int):Option (Int×Int×K7):=
 Option.bind (C11 b.draws_ b.at_ c) fun a=>
 cond (a.2.2 !=0) (
  cond (decide (b.at_>=(b.draws_.length:Int))) (
   some (0,a.2.2,(K7.mk b.draws_ b.at_ c)))<|
  some (0,a.2.2,b))<|
 some (a.1,0,(K7.mk b.draws_ a.2.1 b.beyond_))
def B2w (d:B7) (c:List G4) (b:K7) (a:Int):Option (B7×Int×K7):=
 some ((B7.mk d.W d.Cap (A1 (d.I+1)) a c),0,b)
def A3y (e:B7) (f:Int) (c:List G4) (d:Bool) (a:K7):Option (B7×Int×K7):=
 cond d (
  cond ((c.length:Int)==e.Cap) (
   some ((B7.mk 0 0 0 0 []),9,a))<|
  ck (decide ((c.length+ [(G4.mk (A1 (e.I+1)) f)].length)*16<=140737488355328))<|
  Option.bind (A6x a e.W) fun b=>
  cond (b.2.1 !=0) (
   some ((B7.mk 0 0 0 0 []),b.2.1,b.2.2))<|
  B2w e (c++ [(G4.mk (A1 (e.I+1)) f)]) b.2.2 (A1 ((A1 ((A1 (e.I+(1:Int)))+(1:Int)))+b.1)))<|
 B2w e c a e.Bl
def B6P (d:B7) (f:Int) (e:K7):Option (B7×Int×K7):=
 cond ((decide (f<(-4096:Int)))||(decide (f>4096))) (
  some ((B7.mk 0 0 0 0 []),4,e))<|
 cond (decide (e.at_<0)) (
  some ((B7.mk 0 0 0 0 []),1,e))<|
 cond (d.I==1099511627776) (
  some ((B7.mk 0 0 0 0 []),5,e))<|
 ck (decide ((([]:List G4).length+d.Be.length)*16<=140737488355328))<|
 Option.bind (gd (decide (((([]:List G4)++d.Be).length:Int)>(0:Int))) (C1 (([]:List G4)++d.Be) 0)) fun c=>
 Option.bind (gd (decide (((([]:List G4)++d.Be).length:Int)>(0:Int))) (C1 (([]:List G4)++d.Be) 0)) fun b=>
 cond ((decide (((([]:List G4)++d.Be).length:Int)>(0:Int)))&&(b.I==(A1 ((A1 (d.I+1))-d.W)))) (
  ck (decide (0<=(1:Int)/\1<=((([]:List G4)++d.Be).length:Int)))<|
  A3y d f ((([]:List G4)++d.Be).drop ((1:Int)).toNat) (d.Bl==(A1 (d.I+1))) e)<|
 Option.bind (A6x e (A1L (A1 (d.I+1)) d.W)) fun a=>
 cond (a.2.1 !=0) (
  some ((B7.mk 0 0 0 0 []),a.2.1,a.2.2))<|
 cond (a.1==0) (
  A3y d f ([]:List G4) true a.2.2)<|
 A3y d f (([]:List G4)++d.Be) (d.Bl==(A1 (d.I+1))) a.2.2
def B3w (c:B7) (d:Int) (e:List Int) (f:Int):Option (B7×Int×Int):=
 Option.bind (S0 c) fun b=>
 cond (b !=0) (
  some ((B7.mk 0 0 0 0 []),0,b))<|
 Option.bind (B6P c d (K7.mk e f 0)) fun a=>
 cond (a.2.1 !=0) (
  some ((B7.mk 0 0 0 0 []),0,a.2.1))<|
 some (a.1,a.2.2.at_,0)
def B3x (c:B7):Option (Int×Int):=
 Option.bind (S0 c) fun a=>
 cond (a !=0) (
  some (0,a))<|
 cond ((c.Be.length:Int)==(0:Int)) (
  some (0,7))<|
 Option.bind (C1 c.Be 0) fun b=>
 some (b.V,0)
def W6 (a b:Int):(B7×Int):=
 cond ((((decide (a<1))||(decide (a>1048576)))||(decide (b<1)))||(decide (b>64))) (
  ((B7.mk 0 0 0 0 []),1))<|
 ((B7.mk a b 0 0 []),0)
def A2L (a:Int):Bool:=
 ((decide (a>=0))&&(decide (a<=16777216)))
def Q2 (c b:Int):(Int×Int):=
 let a:=(A2L c);
 cond (!a) (
  (0,1))<|
 cond ((decide (b<c))||(decide (b>16777216))) (
  (0,3))<|
 (b,0)
def A4B (c b:Int):Int:=
 let a:=(A2L c);
 cond (((!a)||(decide (b<1)))||(decide (b>1048576))) (
  (-1:Int))<|
 (A0y 0 (A1 ((A1 (c-b))+1)))
def P6 (d e c:Int):Bool:=
 let a:=(A4B d e);
 let b:=(A2L c);
 ((((decide (a>=0))&&b)&&(decide (a<=c)))&&(decide (c<=d)))
def C2L (e:List Int) (a c b:Int):Option ((Int×Int×Int)⊕Int):=
 cond (decide (b<(e.length:Int))) (
  Option.bind (C1 e b) fun d=>
  some (.inl ((Int.tmod (A1 (a+(A1 d))) 65521),(Int.tmod (A1 (c+(Int.tmod (A1 (a+(A1 d))) 65521))) 65521),(A1 (b+1)))))<|
 Option.map Sum.inr (some (A1 ((A1 (65536*c))+a)))
def C3N (d:List Int) (a b c:Int):Option Int:=
 loop (fun (s:(Int×Int×Int))=>C2L d s.1 s.2.1 s.2.2) (a,b,c)
def B3y (a:List Int):Option Int:=
 C3N a 1 0 0
def B6 (b a:Bool) (c:Int):(Bool×Int):=
 ((a&&b),0)
def F7 (b a:Bool) (c d:Int):(Bool×Int×Int):=
 ((a&&b),0,0)
def B0 (a b c:Int):Bool:=
 ((decide (a>=b))&&(decide (a<=c)))
def A2b (f:E2) (d e:Bool×Int) (c a:Int) (b:Bool):Int:=
 cond ((!b)||(!(f.Bi==f.Bi&&(c==0&&(a==0&&(d.2==0&&(e.2==0&&(f.P==0&&(f.Am==0&&(f.Bs==0&&true)))))))))) (
  1)<|
 0
def A2M (h:E2) (a:Int) (d:Bool):Int:=
 let e:=(B0 h.K 1 64);
 let c:=(B6 e d h.K);
 let f:=(B0 h.Cap 1 65536);
 let b:=(B6 f c.1 h.Cap);
 cond (decide ((1048576:Int)>(0:Int))) (
  let g:=(B0 h.W 1 1048576);
  A2b h c b a 0 (b.1&&g))<|
 A2b h c b a h.W b.1
def A1c (d:E2) (c:Bool×Int) (a:Int) (b:Bool):Int:=
 cond ((!b)||(!(d.Bi==d.Bi&&(d.Bo==0&&(a==0&&(d.K==0&&(d.Cap==0&&(c.2==0&&(d.Am==0&&(d.Bs==0&&true)))))))))) (
  1)<|
 0
def A1d (c:E2) (a:Int) (b:Bool):Int:=
 cond ((!b)||(!(c.Bi==c.Bi&&(c.Bo==0&&(a==0&&(c.K==0&&(c.Cap==0&&(c.P==0&&(c.Am==0&&(c.Bs==0&&true)))))))))) (
  1)<|
 0
def A1e (d:E2) (c:Bool×Int×Int) (a:Int) (b:Bool):Int:=
 cond ((!b)||(!(d.Bi==d.Bi&&(d.Bo==0&&(a==0&&(d.K==0&&(c.2.2==0&&(d.P==0&&(c.2.1==0&&(d.Bs==0&&true)))))))))) (
  1)<|
 0
def A1f (d:E2) (c:Bool×Int×Int) (a:Int) (b:Bool):Int:=
 cond ((!b)||(!(d.Bi==d.Bi&&(d.Bo==0&&(a==0&&(c.2.1==0&&(c.2.2==0&&(d.P==0&&(d.Am==0&&(d.Bs==0&&true)))))))))) (
  1)<|
 0
def A1g (e:E2) (c d:Bool×Int) (a:Int) (b:Bool):Int:=
 cond ((!b)||(!(e.Bi==e.Bi&&(e.Bo==0&&(a==0&&(c.2==0&&(d.2==0&&(e.P==0&&(e.Am==0&&((0:Int)==(0:Int)&&true)))))))))) (
  1)<|
 0
def A1h (d:E2) (c:Bool×Int) (a:Int) (b:Bool):Int:=
 cond ((!b)||(!(d.Bi==d.Bi&&(d.Bo==0&&(a==0&&(d.K==0&&(c.2==0&&(d.P==0&&(d.Am==0&&((0:Int)==(0:Int)&&true)))))))))) (
  1)<|
 0
def A1i (d:E2) (c:Bool×Int) (a:Int) (b:Bool):Int:=
 cond ((!b)||(!(d.Bi==d.Bi&&(d.Bo==0&&(a==0&&(d.K==0&&(c.2==0&&(d.P==0&&(d.Am==0&&(d.Bs==0&&true)))))))))) (
  1)<|
 0
def X1 (f:E2) (d:Bool):Int:=
 cond d (
  A2M f f.Bo true)<|
 cond (f.Bi==8) (
  let e:=(B0 f.Bs 0 1);
  let b:=(B0 f.Cap 1 65536);
  let a:=(B6 b e f.Cap);
  cond (decide ((1048576:Int)>(0:Int))) (
   let c:=(B0 f.W 1 1048576);
   A1h f a 0 (a.1&&c))<|
  A1h f a f.W a.1)<|
 cond (f.Bi==1) (
  let b:=(B0 f.Cap 1 65536);
  let a:=(B6 b true f.Cap);
  cond (decide ((1048576:Int)>(0:Int))) (
   let c:=(B0 f.W 1 1048576);
   A1i f a 0 (a.1&&c))<|
  A1i f a f.W a.1)<|
 1
def W7 (q:E2):Int:=
 cond (q.Bi==6) (
  let h:=(B0 q.P 0 4);
  let d:=(B6 h true q.P);
  cond (decide ((0:Int)>(0:Int))) (
   let a:=(B0 q.W 1 0);
   A1c q d 0 (d.1&&a))<|
  A1c q d q.W d.1)<|
 cond (q.Bi==7) (
  cond (decide ((64:Int)>(0:Int))) (
   let a:=(B0 q.W 1 64);
   A1d q 0 a)<|
  A1d q q.W true)<|
 cond (q.Bi==9) (
  let i:=(B0 q.Am 1 16);
  let j:=(B0 q.Cap 1 64);
  let b:=(F7 (i&&j) true q.Am q.Cap);
  cond (decide ((1048576:Int)>(0:Int))) (
   let a:=(B0 q.W 1 1048576);
   A1e q b 0 (b.1&&a))<|
  A1e q b q.W b.1)<|
 cond (q.Bi==10) (
  let k:=(B0 q.K 1 64);
  let l:=(B0 q.Cap 2 65536);
  let c:=(F7 (k&&l) true q.K q.Cap);
  cond (decide ((0:Int)>(0:Int))) (
   let a:=(B0 q.W 1 0);
   A1f q c 0 (c.1&&a))<|
  A1f q c q.W c.1)<|
 cond (q.Bi==3) (
  let m:=(B0 q.Bs 1 1024);
  let n:=(B0 q.K 1 64);
  let f:=(B6 n m q.K);
  let o:=(B0 q.Cap 1 65536);
  let e:=(B6 o f.1 q.Cap);
  cond (decide ((1048576:Int)>(0:Int))) (
   let a:=(B0 q.W 1 1048576);
   A1g q f e 0 (e.1&&a))<|
  A1g q f e q.W e.1)<|
 cond (q.Bi==4) (
  let p:=(B0 q.Bo 1 4);
  let g:=(B6 p true q.Bo);
  A2M q g.2 g.1)<|
 cond (q.Bi==2) (
  X1 q (q.Bi==2))<|
 cond (q.Bi==5) (
  X1 q (q.Bi==5))<|
 X1 q (q.Bi==11)
def A6y (c:E2) (b:Int) (a:Bool):Bool:=
 cond a (
  (b==9))<|
 cond (c.Bi==8) (
  (b==6))<|
 cond (c.Bi==9) (
  (b==10))<|
 ((b==7)||(b==8))
def A9k (b:E2) (c:Int):Bool:=
 let a:=(W7 b);
 cond (a !=0) (
  false)<|
 cond (b.Bi==1) (
  ((decide (c>=1))&&(decide (c<=8))))<|
 cond (b.Bi==2) (
  (c==1))<|
 cond (b.Bi==3) (
  (c==2))<|
 cond (b.Bi==4) (
  ((A1 (c-1))==(A1 (b.Bo-1))))<|
 cond (b.Bi==5) (
  (c==5))<|
 cond (b.Bi==6) (
  A6y b c (b.Bi==6))<|
 A6y b c (b.Bi==7)
def A5Q (a b c d:Int):Bool:=
 ((((((((decide (a>=1))&&(decide (a<=1048576)))&&(decide (b>=1)))&&(decide (b<=64)))&&(decide (c>=1)))&&(decide (c<=65536)))&&(decide (d>=0)))&&(decide (d<=16777216)))
def A2N (d:E4) (a:Int):Option (Int⊕Int):=
 cond (decide (a<(d.Ad.length:Int))) (
  Option.bind (C1 d.Ad a) fun b=>
  let c:=(P6 d.Now d.W b.T);
  cond (!c) (
   some (.inr 2))<|
  some (.inl (A1 (a+1))))<|
 Option.map Sum.inr (some 0)
def B1g (b:E4) (a:Int):Option Int:=
 loop (fun (s:Int)=>A2N b s) a
def A0H (d:E4):Option Int:=
 let a:=(A5Q d.W d.K d.Cap d.Now);
 Option.bind (gd (!(!a)) (X7 d.Ad d.K)) fun b=>
 Option.bind (gd (!((!a)||(!b))) (T6 d.Ad)) fun c=>
 cond (((!a)||(!b))||(decide (c>d.Cap))) (
  some 2)<|
 B1g d 0
def B3z (d:E4):Option (E4×Int):=
 Option.bind (A0H d) fun a=>
 cond (a !=0) (
  some ((E4.mk 0 0 0 0 []),a))<|
 Option.bind (T6 d.Ad) fun b=>
 cond (b==d.Cap) (
  some ((E4.mk 0 0 0 0 []),5))<|
 Option.bind (A9f d.Ad d.K d.Now) fun c=>
 some ((E4.mk d.W d.K d.Cap d.Now c),0)
def A7h (e:E4) (f:Int):Option (E4×Int):=
 Option.bind (A0H e) fun a=>
 cond (a !=0) (
  some ((E4.mk 0 0 0 0 []),a))<|
 let b:=(Q2 e.Now f);
 cond (b.2 !=0) (
  some ((E4.mk 0 0 0 0 []),b.2))<|
 let c:=(A4B f e.W);
 Option.bind (A3v e.Ad c) fun d=>
 some ((E4.mk e.W e.K e.Cap f d),0)
def B3A (c:E4):Option (C8×Int):=
 Option.bind (A0H c) fun a=>
 cond (a !=0) (
  some ((C8.mk (A5.mk 0 0) (A5.mk 0 0) (A5.mk 0 0)),a))<|
 Option.bind (A4p c.Ad) fun b=>
 some (b,0)
def B3B (b c d e:Int):(E4×Int):=
 let a:=(A5Q b c d e);
 cond (!a) (
  ((E4.mk 0 0 0 0 []),1))<|
 ((E4.mk b c d e []),0)
def A5I (d:Int) (b:List A6) (c:Int):Option Bool:=
 Option.bind (C1 b d) fun a=>
 some (decide (a.ID>=c))
def Y8 (d:List A6) (e a b:Int):Option ((Int×Int)⊕Int):=
 cond (decide (a<b)) (
  Option.bind (A5I (A1 (G1 .u64 (A4 (A1 (a+b))) 1)) d e) fun c=>
  cond (!c) (
   some (.inl ((A1 ((A1 (G1 .u64 (A4 (A1 (a+b))) (1:Int)))+(1:Int))),b)))<|
  some (.inl (a,(A1 (G1 .u64 (A4 (A1 (a+b))) 1)))))<|
 Option.map Sum.inr (some a)
def A6J (c:List A6) (d a b:Int):Option Int:=
 loop (fun (s:(Int×Int))=>Y8 c d s.1 s.2) (a,b)
def A1W (c:Int) (a:List A6) (b:Int):Option Int:=
 A6J a b 0 c
def X9 (c:List A6) (d:Int):Option (Int×Bool):=
 Option.bind (A1W (c.length:Int) c d) fun a=>
 Option.bind (gd (decide (a<(c.length:Int))) (C1 c a)) fun b=>
 some (a,((decide (a<(c.length:Int)))&&(b.ID==d)))
def A1C (c:D1):Option (A8×Bool):=
 Option.bind (X9 c.Ap.Ah c.command_.ID) fun a=>
 cond (!a.2) (
  some ((A8.mk (E2.mk 0 0 0 0 0 0 0 0) (D0.mk 0 0 0 []) (E4.mk 0 0 0 0 []) (F4.mk 0 0 0 0 0 []) (D3.mk 0 0 0 0 0 0 []) (D5.mk 0 0 0 0 0 []) (E3.mk 0 0 0 []) (F6.mk 0 []) (C4.mk false 0 0 0 []) (E9.mk []) (B8.mk 0 0 0 []) (C2.mk 0 0 0 0 [])),false))<|
 Option.bind (C1 c.Ap.Ah a.1) fun b=>
 some (b.Ac,true)
def A5i (a:A8):Bool:=
 cond ((a.Ao.Bi !=1)&&((((a.Aq.W !=0)||(a.Aq.Cap !=0))||(a.Aq.Now !=0))||(decide ((a.Aq.Bb.length:Int)>(0:Int))))) (
  false)<|
 cond ((a.Ao.Bi !=2)&&(((((a.Ay.W !=0)||(a.Ay.K !=0))||(a.Ay.Cap !=0))||(a.Ay.Now !=0))||(decide ((a.Ay.Ad.length:Int)>(0:Int))))) (
  false)<|
 cond ((a.Ao.Bi !=3)&&((((((a.Sum.W !=0)||(a.Sum.K !=0))||(a.Sum.Cap !=0))||(a.Sum.Bs !=0))||(a.Sum.Now !=0))||(decide ((a.Sum.Ad.length:Int)>(0:Int))))) (
  false)<|
 cond ((a.Ao.Bi !=4)&&(((((((a.As.Bo !=0)||(a.As.W !=0))||(a.As.K !=0))||(a.As.Cap !=0))||(a.As.Now !=0))||(a.As.Bv !=0))||(decide ((a.As.Bf.length:Int)>(0:Int))))) (
  false)<|
 cond ((a.Ao.Bi !=5)&&((((((a.Au.W !=0)||(a.Au.K !=0))||(a.Au.Cap !=0))||(a.Au.Now !=0))||(a.Au.Bv !=0))||(decide ((a.Au.Bf.length:Int)>(0:Int))))) (
  false)<|
 cond ((a.Ao.Bi !=6)&&((((a.Bm.P !=0)||(a.Bm.Bj !=0))||(a.Bm.Now !=0))||(decide ((a.Bm.Ag.length:Int)>(0:Int))))) (
  false)<|
 cond ((a.Ao.Bi !=7)&&((a.Ba.Now !=0)||(decide ((a.Ba.Bn.length:Int)>(0:Int))))) (
  false)<|
 cond ((a.Ao.Bi !=8)&&((((a.Af.Bs||(a.Af.W !=0))||(a.Af.Cap !=0))||(a.Af.Now !=0))||(decide ((a.Af.Bb.length:Int)>(0:Int))))) (
  false)<|
 cond ((a.Ao.Bi !=9)&&(decide ((a.Ar.Am.length:Int)>(0:Int)))) (
  false)<|
 cond ((a.Ao.Bi !=10)&&((((a.Ai.K !=0)||(a.Ai.Cap !=0))||(a.Ai.N !=0))||(decide ((a.Ai.Av.length:Int)>(0:Int))))) (
  false)<|
 ((a.Ao.Bi==11)||(((((a.Ab.W==0)&&(a.Ab.K==0))&&(a.Ab.Cap==0))&&(a.Ab.Now==0))&&((a.Ab.Ak.length:Int)==(0:Int))))
def A1r (c:Bool) (a b:Int):Bool:=
 cond c (
  (decide (a>=b)))<|
 (decide (a<=b))
def A5v (a b c:Int):Bool:=
 ((((((decide (a>=1))&&(decide (a<=1048576)))&&(decide (b>=1)))&&(decide (b<=65536)))&&(decide (c>=0)))&&(decide (c<=16777216)))
def A1K (g:C4) (a:Int):Option (Int⊕Int):=
 cond (decide (a<(g.Bb.length:Int))) (
  Option.bind (C1 g.Bb a) fun b=>
  let f:=(P6 g.Now g.W b.T);
  cond (((!f)||(decide (b.V<(-4096:Int))))||(decide (b.V>4096))) (
   some (.inr 2))<|
  Option.bind (gd (decide (a>0)) (C1 g.Bb (A1 (a-1)))) fun c=>
  Option.bind (gd ((decide (a>0))&&(!(decide (c.T>=b.T)))) (C1 g.Bb (A1 (a-1)))) fun d=>
  let e:=(A1r g.Bs b.V d.V);
  cond ((decide (a>0))&&((decide (c.T>=b.T))||e)) (
   some (.inr 2))<|
  some (.inl (A1 (a+1))))<|
 Option.map Sum.inr (some 0)
def A87 (b:C4) (a:Int):Option Int:=
 loop (fun (s:Int)=>A1K b s) a
def Y1 (b:C4):Option Int:=
 let a:=(A5v b.W b.Cap b.Now);
 cond ((!a)||(decide ((b.Bb.length:Int)>b.Cap))) (
  some 2)<|
 A87 b 0
def A2R (c:F6) (a:Int):Option (Int⊕Int):=
 cond (decide (a<(c.Bn.length:Int))) (
  Option.bind (C1 c.Bn a) fun b=>
  cond (((decide (b<0))||(decide (b>1099511627776)))||((b !=0)&&(decide (a>c.Now)))) (
   some (.inr 2))<|
  some (.inl (A1 (a+1))))<|
 Option.map Sum.inr (some 0)
def B1i (b:F6) (a:Int):Option Int:=
 loop (fun (s:Int)=>A2R b s) a
def A0I (a:F6):Option Int:=
 cond ((((decide ((a.Bn.length:Int)<(1:Int)))||(decide ((a.Bn.length:Int)>(64:Int))))||(decide (a.Now<0)))||(decide (a.Now>16777216))) (
  some 2)<|
 B1i a 0
def B3R (a:Int):Bool:=
 ((decide (a>=0))&&(decide (a<=16777216)))
def A4m (c d:A2):Option (A2×Bool):=
 Option.bind (N7 c.Lo d.Lo 0) fun a=>
 Option.bind (N7 c.Hi d.Hi a.2) fun b=>
 cond (b.2 !=0) (
  some ((A2.mk 0 0),false))<|
 some ((A2.mk b.1 a.1),true)
def B0c (f a b c:Int):Option (A2×Bool):=
 let g:=(R1 a c);
 let d:=(R1 a b);
 cond (d.Hi !=0) (
  some ((A2.mk 0 0),false))<|
 Option.bind (A4m g (A2.mk d.Lo 0)) fun e=>
 some (e.1,e.2)
def A2a (a b:A2):Option (A2×Bool):=
 cond ((a.Hi !=0)&&(b.Hi !=0)) (
  some ((A2.mk 0 0),false))<|
 cond (a.Hi !=0) (
  B0c b.Hi b.Lo a.Hi a.Lo)<|
 B0c a.Hi a.Lo b.Hi b.Lo
def A3d (j:E3) (f:A2) (a:Int):Option (Int⊕Int):=
 cond (decide (a<=j.P)) (
  Option.bind (C1 j.Ag (A1 (a-1))) fun g=>
  Option.bind (C1 j.Ag a) fun h=>
  let c:=(T8 g h);
  cond (decide (c>0)) (
   some (.inr 2))<|
  Option.bind (C1 j.Ag (A1 (a-1))) fun i=>
  Option.bind (A2a i f) fun b=>
  Option.bind (gd b.2 (C1 j.Ag a)) fun d=>
  let e:=(T8 d b.1);
  cond (b.2&&(decide (e>0))) (
   some (.inr 2))<|
  some (.inl (A1 (a+1))))<|
 Option.map Sum.inr (some 0)
def B2U (c:E3) (a:A2) (b:Int):Option Int:=
 loop (fun (s:Int)=>A3d c a s) b
def A1s (c:E3):Option Int:=
 let a:=(B3R c.Now);
 cond ((((((decide (c.P<0))||(decide (c.P>4)))||(!a))||(decide (c.Bj<0)))||(decide (c.Bj>c.Now)))||((c.Ag.length:Int) !=(A1 (c.P+1)))) (
  some 2)<|
 let b:=(K6 (A4 (A1 ((A1 (c.Now-c.Bj))+1))));
 B2U c b 1
def B5C (b:Int):Option Int:=
 cond (decide (b<0)) (
  some 0)<|
 Option.bind (W9 (A4 b)) fun a=>
 some a
def A0v (a b c d:Int):Bool:=
 ((((((((decide (a>=1))&&(decide (a<=1048576)))&&(decide (b>=1)))&&(decide (b<=64)))&&(decide (c>=1)))&&(decide (c<=65536)))&&(decide (d>=0)))&&(decide (d<=16777216)))
def A4w (c d:Int):Option Int:=
 let a:=(A0v 1 c d 0);
 cond (!a) (
  some 0)<|
 Option.bind (B5C d) fun b=>
 some (A1 ((A1 (2*c))*(A1 (b+2))))
def A1k (d:C2) (a:Int):Option (Int⊕Int):=
 cond (decide (a<(d.Ak.length:Int))) (
  Option.bind (C1 d.Ak a) fun b=>
  let c:=(P6 d.Now d.W b.T);
  cond (!c) (
   some (.inr 2))<|
  some (.inl (A1 (a+1))))<|
 Option.map Sum.inr (some 0)
def A8v (b:C2) (a:Int):Option Int:=
 loop (fun (s:Int)=>A1k b s) a
def U0 (e:C2):Option Int:=
 let a:=(A0v e.W e.K e.Cap e.Now);
 Option.bind (gd (!(!a)) (A4w e.K e.Cap)) fun c=>
 Option.bind (gd (!(!a)) (A3t e.Ak (A1 (2*e.K)) c)) fun b=>
 Option.bind (gd (!((!a)||(!b))) (A1Z e.Ak)) fun d=>
 cond (((!a)||(!b))||(decide (d>e.Cap))) (
  some 2)<|
 A8v e 0
def A5U (a:Int):Bool:=
 ((decide (a>=0))&&(decide (a<=16777216)))
def B9N (d:List A9) (e a:Int):Option (Int⊕Bool):=
 cond (decide (a<(d.length:Int))) (
  Option.bind (C1 d a) fun b=>
  Option.bind (gd ((!((decide (b.T<0))||(decide (b.T>e))))&&(decide (a>0))) (C1 d (A1 (a-1)))) fun c=>
  cond (((decide (b.T<0))||(decide (b.T>e)))||((decide (a>0))&&(decide (c.T>b.T)))) (
   some (.inr false))<|
  some (.inl (A1 (a+1))))<|
 Option.map Sum.inr (some true)
def C0Z (b:List A9) (c a:Int):Option Bool:=
 loop (fun (s:Int)=>B9N b c s) a
def A9V (c:List A9) (b:Int):Option Bool:=
 let a:=(A5U b);
 cond (!a) (
  some false)<|
 C0Z c b 0
def A61 (a b c:Int):Bool:=
 ((((((decide (a>=1))&&(decide (a<=1048576)))&&(decide (b>=1)))&&(decide (b<=65536)))&&(decide (c>=0)))&&(decide (c<=16777216)))
def A8x (a:Int):Bool:=
 ((decide (a>=(-4096:Int)))&&(decide (a<=4096)))
def A4M (e:D0) (a:Int):Option (Int⊕Int):=
 cond (decide (a<(e.Bb.length:Int))) (
  Option.bind (C1 e.Bb a) fun b=>
  let d:=(P6 e.Now e.W b.T);
  let c:=(A8x b.V);
  cond ((!d)||(!c)) (
   some (.inr 2))<|
  some (.inl (A1 (a+1))))<|
 Option.map Sum.inr (some 0)
def B0s (b:D0) (a:Int):Option Int:=
 loop (fun (s:Int)=>A4M b s) a
def X0 (c:D0):Option Int:=
 let a:=(A61 c.W c.Cap c.Now);
 Option.bind (gd (!((!a)||(decide ((c.Bb.length:Int)>c.Cap)))) (A9V c.Bb c.Now)) fun b=>
 cond (((!a)||(decide ((c.Bb.length:Int)>c.Cap)))||(!b)) (
  some 2)<|
 B0s c 0
def X2 (e:E9) (a:Int):Option (Int⊕Int):=
 cond (decide (a<(e.Am.length:Int))) (
  Option.bind (C1 e.Am a) fun b=>
  Option.bind (C1 e.Am 0) fun c=>
  Option.bind (S0 b) fun d=>
  cond ((((d !=0)||(b.W !=c.W))||(b.Cap !=c.Cap))||(b.I !=c.I)) (
   some (.inr 2))<|
  some (.inl (A1 (a+1))))<|
 Option.map Sum.inr (some 0)
def A5J (b:E9) (a:Int):Option Int:=
 loop (fun (s:Int)=>X2 b s) a
def U9 (a:E9):Option Int:=
 cond ((decide ((a.Am.length:Int)<(1:Int)))||(decide ((a.Am.length:Int)>(16:Int)))) (
  some 2)<|
 A5J a 0
def A0b (a d e b c:Int):Bool:=
 (((((decide (b>=(A1 (a*d))))&&(decide (b<=(A1 (a*e)))))&&(decide (c>=0)))&&(decide (c<=(A1 ((A1 (a*(4096:Int)))*(4096:Int))))))&&(decide ((A1 (b*b))<=(A1 (a*c)))))
def A49 (h:List A7) (i k j l m d:Int):Option (Int⊕Bool):=
 cond (decide (d<(h.length:Int))) (
  Option.bind (C1 h d) fun a=>
  cond ((((((decide (a.Bv<1))||(decide (a.Bv>i)))||(a.N !=(A1 ((A1 (i-a.Bv))+1))))||(decide (a.N>k)))||(decide (a.T<0)))||(decide (a.T>j))) (
   some (.inr false))<|
  let g:=(A0b a.N a.Bt a.Bs a.S a.Q);
  cond ((((decide (a.Bt<m))||(decide (a.Bs>4096)))||(decide (a.Bt>a.Bs)))||(!g)) (
   some (.inr false))<|
  let e:=(P6 j l a.T);
  cond (((decide (d>0))||((h.length:Int)==(1:Int)))&&(!e)) (
   some (.inr false))<|
  cond (d==0) (
   some (.inl (A1 (d+1))))<|
  Option.bind (C1 h (A1 (d-1))) fun b=>
  let f:=(A0b (A1 (b.N-a.N)) b.Bt b.Bs (A1 (b.S-a.S)) (A1 (b.Q-a.Q)));
  cond (((((decide (b.Bv>=a.Bv))||(decide (b.T>a.T)))||(decide (b.Bt>a.Bt)))||(decide (b.Bs<a.Bs)))||(!f)) (
   some (.inr false))<|
  some (.inl (A1 (d+1))))<|
 Option.map Sum.inr (cond ((h.length:Int)==(0:Int)) (
  some true)<|
 Option.bind (C1 h (A1 ((h.length:Int)-(1:Int)))) fun c=>
 some ((((c.Bv==i)&&(c.Bt==c.S))&&(c.Bs==c.S))&&(c.Q==(A1 (c.S*c.S)))))
def B4S (b:List A7) (c d e f g a:Int):Option Bool:=
 loop (fun (s:Int)=>A49 b c d e f g s) a
def A6Z (b:List A7) (a c d e f:Int):Option Bool:=
 cond ((decide (a<0))||(decide (a>1099511627776))) (
  some false)<|
 B4S b a c d e f 0
def A50 (a b c d:Int):Bool:=
 ((((((((decide (a>=1))&&(decide (a<=1048576)))&&(decide (b>=1)))&&(decide (b<=64)))&&(decide (c>=1)))&&(decide (c<=65536)))&&(decide (d>=0)))&&(decide (d<=16777216)))
def A0Q (b c d e f:Int):Bool:=
 let a:=(A50 c d e f);
 (((decide (b>=1))&&(decide (b<=4)))&&a)
def A02 (a:Int):Int:=
 cond ((a==2)||(a==3)) (
  0)<|
 (-4096:Int)
def B75 (a b:Int):(Int×Bool):=
 cond ((!((decide (a>=0))==(decide (b>=0))))&&(!((decide ((A1 (a-b))>=0))==(decide (a>=0))))) (
  (0,false))<|
 ((A1 (a-b)),true)
def Y6 (b:A7) (c:Int):Int:=
 cond (c==1) (
  b.N)<|
 cond (c==2) (
  b.S)<|
 cond (c==3) (
  b.Q)<|
 cond (c==4) (
  let a:=(B75 b.Bs b.Bt);
  a.1)<|
 0
def R4 (e f:A7) (c d:Int):Bool:=
 let a:=(Y6 f c);
 let b:=(Y6 e c);
 (decide ((A1 ((A1 (d+1))*a))>=(A1 (d*b))))
def A2f (h:D3) (a:Int):Option (Int⊕Int):=
 cond (decide (a<(h.Bf.length:Int))) (
  Option.bind (C1 h.Bf a) fun b=>
  Option.bind (gd (decide (a>=2)) (C1 h.Bf (A1 (a-2)))) fun g=>
  let d:=(R4 g b h.Bo h.K);
  cond ((decide (a>=2))&&d) (
   some (.inr 2))<|
  Option.bind (gd (decide (a>=1)) (C1 h.Bf (A1 (a-1)))) fun c=>
  Option.bind (gd ((decide (a>=1))&&(decide ((A1 (b.Bv-c.Bv))>1))) (C1 h.Bf (A1 (a-1)))) fun e=>
  let f:=(R4 e b h.Bo h.K);
  cond (((decide (a>=1))&&(decide ((A1 (b.Bv-c.Bv))>1)))&&(!f)) (
   some (.inr 2))<|
  some (.inl (A1 (a+1))))<|
 Option.map Sum.inr (some 0)
def B0v (b:D3) (a:Int):Option Int:=
 loop (fun (s:Int)=>A2f b s) a
def A0i (d:D3):Option Int:=
 let a:=(A0Q d.Bo d.W d.K d.Cap d.Now);
 let b:=(A02 d.Bo);
 Option.bind (gd (!(!a)) (A6Z d.Bf d.Bv d.Cap d.Now d.W b)) fun c=>
 cond ((!a)||(!c)) (
  some 2)<|
 B0v d 0
def A3Q (a:A7):Bool:=
 cond ((((((decide (a.N<1))||(decide (a.N>65536)))||(decide (a.S<(A1 ((IntKind.i64.wrap (0-a.N))*4096)))))||(decide (a.S>(A1 (a.N*4096)))))||(decide (a.Q<0)))||(decide (a.Q>(A1 ((A1 (a.N*(4096:Int)))*(4096:Int)))))) (
  false)<|
 (decide ((A1 (a.S*a.S))<=(A1 (a.N*a.Q))))
def A6l (a:A7):Int:=
 (A1 ((A1 (a.N*a.Q))-(A1 (a.S*a.S))))
def A5K (m n:A7) (l:Int):Option Bool:=
 let c:=(A3Q m);
 let d:=(A3Q n);
 cond ((((!c)||(!d))||(decide (l<1)))||(decide (l>64))) (
  some false)<|
 cond (decide ((A1 ((A1 (6*l))*n.N))<(A1 ((A1 ((A1 (6*l))-1))*m.N)))) (
  some false)<|
 let e:=(A6l n);
 let f:=(R1 (A4 e) (A4 m.N));
 let g:=(K6 (A4 (A1 (6*l))));
 Option.bind (A2a f g) fun a=>
 let h:=(A6l m);
 let i:=(R1 (A4 h) (A4 n.N));
 let j:=(K6 (A4 (A1 ((A1 (6*l))-1))));
 Option.bind (A2a i j) fun b=>
 let k:=(T8 a.1 b.1);
 some (decide (k>=0))
def A2h (e:D5) (a:Int):Option (Int⊕Int):=
 cond (decide (a<(e.Bf.length:Int))) (
  Option.bind (C1 e.Bf (A1 (a-2))) fun c=>
  Option.bind (C1 e.Bf a) fun d=>
  Option.bind (A5K c d e.K) fun b=>
  cond b (
   some (.inr 2))<|
  some (.inl (A1 (a+1))))<|
 Option.map Sum.inr (some 0)
def B0w (b:D5) (a:Int):Option Int:=
 loop (fun (s:Int)=>A2h b s) a
def A0j (c:D5):Option Int:=
 let a:=(A50 c.W c.K c.Cap c.Now);
 Option.bind (gd (!(!a)) (A6Z c.Bf c.Bv c.Cap c.Now c.W (-4096:Int))) fun b=>
 cond ((!a)||(!b)) (
  some 2)<|
 B0w c 2
def A9G (a b c d e:Int):Bool:=
 ((((((((((decide (a>=1))&&(decide (a<=1048576)))&&(decide (b>=1)))&&(decide (b<=64)))&&(decide (c>=1)))&&(decide (c<=65536)))&&(decide (d>=1)))&&(decide (d<=1024)))&&(decide (e>=0)))&&(decide (e<=16777216)))
def A4f (d:F4) (a:Int):Option (Int⊕Int):=
 cond (decide (a<(d.Ad.length:Int))) (
  Option.bind (C1 d.Ad a) fun b=>
  let c:=(P6 d.Now d.W b.T);
  cond (!c) (
   some (.inr 2))<|
  some (.inl (A1 (a+1))))<|
 Option.map Sum.inr (some 0)
def B30 (b:F4) (a:Int):Option Int:=
 loop (fun (s:Int)=>A4f b s) a
def A14 (d:F4):Option Int:=
 let a:=(A9G d.W d.K d.Cap d.Bs d.Now);
 Option.bind (gd (!(!a)) (X7 d.Ad d.K)) fun b=>
 Option.bind (gd (!((!a)||(!b))) (T6 d.Ad)) fun c=>
 cond (((!a)||(!b))||(decide (c>d.Cap))) (
  some 2)<|
 B30 d 0
def A3R (b a:Int):Option Int:=
 ck (decide (a≠0))<|
 some (A0y 1 (A1 (Int.tdiv b a)))
def A1Q (h:B8) (d e b:Int):Option ((Int×Int)⊕Int):=
 cond (decide (b<(h.Av.length:Int))) (
  Option.bind (C1 h.Av b) fun a=>
  Option.bind (gd ((!((decide (a.V<(-4096:Int)))||(decide (a.V>4096))))&&(decide (b>0))) (C1 h.Av (A1 (b-1)))) fun f=>
  cond (((decide (a.V<(-4096:Int)))||(decide (a.V>4096)))||((decide (b>0))&&(decide (f.V>a.V)))) (
   some (.inr 2))<|
  cond ((((decide (a.G<1))||(decide (a.D<0)))||(decide (a.G>d)))||(decide (a.D>(A1 (d-a.G))))) (
   some (.inr 2))<|
  some (.inl ((A1 (e+a.G)),(A1 (b+1)))))<|
 Option.map Sum.inr (Option.bind (C1 h.Av 0) fun c=>
 Option.bind (C1 h.Av (A1 ((h.Av.length:Int)-(1:Int)))) fun g=>
 cond ((((e !=h.N)||(c.G !=1))||(c.D !=0))||(g.D !=0)) (
  some 2)<|
 some 0)
def A88 (d:B8) (b c a:Int):Option Int:=
 loop (fun (s:(Int×Int))=>A1Q d b s.1 s.2) (c,a)
def Y2 (b:B8):Option Int:=
 cond (((((((decide (b.K<1))||(decide (b.K>64)))||(decide (b.Cap<2)))||(decide (b.Cap>65536)))||(decide (b.N<0)))||(decide (b.N>1099511627776)))||(decide ((b.Av.length:Int)>b.Cap))) (
  some 2)<|
 cond (b.N==0) (
  cond (decide ((b.Av.length:Int)>(0:Int))) (
   some 2)<|
  some 0)<|
 cond ((b.Av.length:Int)==(0:Int)) (
  some 2)<|
 Option.bind (A3R b.N b.K) fun a=>
 A88 b a 0 0
def A6n (n:A8):Option Bool:=
 cond (n.Ao.Bi==1) (
  Option.bind (X0 n.Aq) fun l=>
  some (((l==0)&&(n.Aq.W==n.Ao.W))&&(n.Aq.Cap==n.Ao.Cap)))<|
 cond (n.Ao.Bi==2) (
  Option.bind (A0H n.Ay) fun m=>
  some ((((m==0)&&(n.Ay.W==n.Ao.W))&&(n.Ay.K==n.Ao.K))&&(n.Ay.Cap==n.Ao.Cap)))<|
 cond (n.Ao.Bi==3) (
  Option.bind (A14 n.Sum) fun d=>
  some (((((d==0)&&(n.Sum.W==n.Ao.W))&&(n.Sum.K==n.Ao.K))&&(n.Sum.Cap==n.Ao.Cap))&&(n.Sum.Bs==n.Ao.Bs)))<|
 cond (n.Ao.Bi==4) (
  Option.bind (A0i n.As) fun e=>
  some (((((e==0)&&(n.As.W==n.Ao.W))&&(n.As.K==n.Ao.K))&&(n.As.Cap==n.Ao.Cap))&&(n.As.Bo==n.Ao.Bo)))<|
 cond (n.Ao.Bi==5) (
  Option.bind (A0j n.Au) fun f=>
  some ((((f==0)&&(n.Au.W==n.Ao.W))&&(n.Au.K==n.Ao.K))&&(n.Au.Cap==n.Ao.Cap)))<|
 cond (n.Ao.Bi==6) (
  Option.bind (A1s n.Bm) fun g=>
  some ((g==0)&&(n.Bm.P==n.Ao.P)))<|
 cond (n.Ao.Bi==7) (
  Option.bind (A0I n.Ba) fun h=>
  some ((h==0)&&((n.Ba.Bn.length:Int)==n.Ao.W)))<|
 cond (n.Ao.Bi==8) (
  Option.bind (Y1 n.Af) fun i=>
  some ((((i==0)&&(n.Af.W==n.Ao.W))&&(n.Af.Cap==n.Ao.Cap))&&(n.Af.Bs==(n.Ao.Bs==1))))<|
 cond (n.Ao.Bi==9) (
  Option.bind (U9 n.Ar) fun a=>
  Option.bind (gd ((a==0)&&((n.Ar.Am.length:Int)==n.Ao.Am)) (C1 n.Ar.Am 0)) fun b=>
  Option.bind (gd (((a==0)&&((n.Ar.Am.length:Int)==n.Ao.Am))&&(b.W==n.Ao.W)) (C1 n.Ar.Am 0)) fun c=>
  some ((((a==0)&&((n.Ar.Am.length:Int)==n.Ao.Am))&&(b.W==n.Ao.W))&&(c.Cap==n.Ao.Cap)))<|
 cond (n.Ao.Bi==10) (
  Option.bind (Y2 n.Ai) fun j=>
  some (((j==0)&&(n.Ai.K==n.Ao.K))&&(n.Ai.Cap==n.Ao.Cap)))<|
 Option.bind (U0 n.Ab) fun k=>
 some ((((k==0)&&(n.Ab.W==n.Ao.W))&&(n.Ab.K==n.Ao.K))&&(n.Ab.Cap==n.Ao.Cap))
def J5 (d:A8):Option Int:=
 let a:=(W7 d.Ao);
 Option.bind (gd (!(a !=0)) (A6n d)) fun c=>
 let b:=(A5i d);
 cond (((a !=0)||(!c))||(!b)) (
  some 2)<|
 some 0
def A01 (e:List A6) (a:Int):Option (Int⊕Bool):=
 cond (decide (a<(e.length:Int))) (
  Option.bind (C1 e a) fun b=>
  Option.bind (gd ((!((decide (b.ID<0))||(decide (b.ID>1048576))))&&(decide (a>0))) (C1 e (A1 (a-1)))) fun c=>
  Option.bind (gd (!(((decide (b.ID<0))||(decide (b.ID>1048576)))||((decide (a>0))&&(decide (c.ID>=b.ID))))) (J5 b.Ac)) fun d=>
  cond ((((decide (b.ID<0))||(decide (b.ID>1048576)))||((decide (a>0))&&(decide (c.ID>=b.ID))))||(d !=0)) (
   some (.inr false))<|
  some (.inl (A1 (a+1))))<|
 Option.map Sum.inr (some true)
def A0p (b:List A6) (a:Int):Option Bool:=
 loop (fun (s:Int)=>A01 b s) a
def P3 (b:List A6) (a:Int):Option Bool:=
 cond (((decide (a<1))||(decide (a>64)))||(decide ((b.length:Int)>a))) (
  some false)<|
 A0p b 0
def A4d (f:List A6) (g:A6):Option ((List A6)×Int):=
 Option.bind (P3 f 64) fun b=>
 Option.bind (gd (!(!b)) (J5 g.Ac)) fun c=>
 cond ((!b)||(c !=0)) (
  some ([],2))<|
 Option.bind (X9 f g.ID) fun a=>
 cond (!a.2) (
  some ([],11))<|
 ck (decide ((([]:List A6).length+f.length)*640<=140737488355328))<|
 Option.bind (C1 (([]:List A6)++f) a.1) fun d=>
 Option.bind (C1 (([]:List A6)++f) a.1) fun e=>
 some (((([]:List A6)++f).set (a.1).toNat g),0)
def B3H (f:C4) (g:Int) (a:List A9):Option ((List A9)⊕(C4×Int)):=
 Option.bind (gd (decide ((a.length:Int)>(0:Int))) (C1 a (A1 ((a.length:Int)-(1:Int))))) fun c=>
 let d:=(A1r f.Bs g c.V);
 cond ((decide ((a.length:Int)>(0:Int)))&&d) (
  ck (decide (0<=(A1 ((a.length:Int)-(1:Int)))/\(A1 ((a.length:Int)-(1:Int)))<=(a.length:Int)))<|
  some (.inl (a.take ((A1 ((a.length:Int)-(1:Int)))).toNat)))<|
 Option.map Sum.inr (ck (decide ((([]:List A9).length+a.length)*16<=140737488355328))<|
 Option.bind (gd (!(((([]:List A9)++a).length:Int)==(0:Int))) (C1 (([]:List A9)++a) (A1 (((([]:List A9)++a).length:Int)-(1:Int))))) fun e=>
 Option.bind (gd (!(((([]:List A9)++a).length:Int)==(0:Int))) (C1 (([]:List A9)++a) (A1 (((([]:List A9)++a).length:Int)-(1:Int))))) fun b=>
 cond ((((([]:List A9)++a).length:Int)==(0:Int))||(decide (b.T<f.Now))) (
  cond (((([]:List A9)++a).length:Int)==f.Cap) (
   some ((C4.mk false 0 0 0 []),5))<|
  ck (decide (((([]:List A9)++a).length+ [(A9.mk f.Now g)].length)*16<=140737488355328))<|
  some ((C4.mk f.Bs f.W f.Cap f.Now ((([]:List A9)++a)++ [(A9.mk f.Now g)])),0))<|
 some ((C4.mk f.Bs f.W f.Cap f.Now (([]:List A9)++a)),0))
def A5V (b:C4) (c:Int) (a:List A9):Option (C4×Int):=
 loop (fun (s:(List A9))=>B3H b c s) a
def A9W (b:C4) (c:Int):Option (C4×Int):=
 Option.bind (Y1 b) fun a=>
 cond (a !=0) (
  some ((C4.mk false 0 0 0 []),a))<|
 cond ((decide (c<(-4096:Int)))||(decide (c>4096))) (
  some ((C4.mk false 0 0 0 []),4))<|
 A5V b c b.Bb
def B3K (g:F6) (h:Int):Option (F6×Int):=
 Option.bind (A0I g) fun a=>
 cond (a !=0) (
  some ((F6.mk 0 []),a))<|
 cond ((decide (h<0))||(decide (h>4096))) (
  some ((F6.mk 0 []),4))<|
 Option.bind (C1 g.Bn 0) fun b=>
 cond (decide (b>(A1 (1099511627776-h)))) (
  some ((F6.mk 0 []),6))<|
 ck (decide ((([]:List Int).length+g.Bn.length)*8<=140737488355328))<|
 Option.bind (C1 (([]:List Int)++g.Bn) 0) fun d=>
 Option.bind (C1 (([]:List Int)++g.Bn) 0) fun c=>
 Option.bind (C1 (([]:List Int)++g.Bn) 0) fun e=>
 Option.bind (C1 (([]:List Int)++g.Bn) 0) fun f=>
 some ((F6.mk g.Now ((([]:List Int)++g.Bn).set ((0:Int)).toNat (A1 (c+h)))),0)
def A82 (f d a b:Int):Option ((Int×Int×Int)⊕(A2×Bool)):=
 cond (decide (d>0)) (
  let e:=(K6 f);
  Option.bind (A2a (A2.mk a b) e) fun c=>
  cond (!c.2) (
   some (.inr ((A2.mk 0 0),false)))<|
  some (.inl ((A1 (d-1)),c.1.Hi,c.1.Lo)))<|
 Option.map Sum.inr (some ((A2.mk a b),true))
def A7a (d c a b:Int):Option (A2×Bool):=
 loop (fun (s:(Int×Int×Int))=>A82 d s.1 s.2.1 s.2.2) (c,a,b)
def B3e (c d:Int):Option (A2×Bool):=
 cond (decide (d<0)) (
  some ((A2.mk 0 0),false))<|
 cond (decide (c<=1)) (
  cond ((c==0)&&(decide (d>0))) (
   some ((A2.mk 0 0),true))<|
  let b:=(K6 1);
  some (b,true))<|
 let a:=(K6 1);
 A7a c d a.Hi a.Lo
def B7n (j:E3) (k:Int) (b:List A2) (a:Int):Option (((List A2)×Int)⊕(E3×Int)):=
 cond (decide (a<((List.replicate ((j.Ag.length:Int)).toNat (A2.mk 0 (0:Int))).length:Int))) (
  Option.bind (B3e (A4 (A1 ((A1 (j.Now-j.Bj))+1))) a) fun d=>
  let e:=(K6 (A4 k));
  Option.bind (A2a d.1 e) fun f=>
  Option.bind (C1 j.Ag a) fun g=>
  Option.bind (A4m g f.1) fun c=>
  cond (!c.2) (
   some (.inr ((E3.mk 0 0 0 []),6)))<|
  Option.bind (C1 b a) fun h=>
  Option.bind (C1 b a) fun i=>
  some (.inl ((b.set (a).toNat c.1),(A1 (a+1)))))<|
 Option.map Sum.inr (some ((E3.mk j.P j.Bj j.Now b),0))
def B4h (c:E3) (d:Int) (b:List A2) (a:Int):Option (E3×Int):=
 loop (fun (s:((List A2)×Int))=>B7n c d s.1 s.2) (b,a)
def B5G (b:E3) (c:Int):Option (E3×Int):=
 Option.bind (A1s b) fun a=>
 cond (a !=0) (
  some ((E3.mk 0 0 0 []),a))<|
 cond ((decide (c<0))||(decide (c>4096))) (
  some ((E3.mk 0 0 0 []),4))<|
 ck (decide (0<=(b.Ag.length:Int)/\(b.Ag.length:Int)<=(b.Ag.length:Int)/\(b.Ag.length:Int)*16<=140737488355328/\(b.Ag.length:Int)<=140737488355328))<|
 B4h b c (List.replicate ((b.Ag.length:Int)).toNat (A2.mk 0 0)) 0
def A8t (e:C2) (f:Int):Option (C2×Int):=
 Option.bind (U0 e) fun a=>
 cond (a !=0) (
  some ((C2.mk 0 0 0 0 []),a))<|
 cond ((decide (f<(-4096:Int)))||(decide (f>4096))) (
  some ((C2.mk 0 0 0 0 []),4))<|
 Option.bind (A1Z e.Ak) fun c=>
 cond (c==e.Cap) (
  some ((C2.mk 0 0 0 0 []),5))<|
 Option.bind (A4w e.K e.Cap) fun d=>
 Option.bind (B0K e.Ak (A1 (2*e.K)) d e.Now f) fun b=>
 some ((C2.mk e.W e.K e.Cap e.Now b),0)
def B1F (c:D0) (d:Int):Option (D0×Int):=
 Option.bind (X0 c) fun a=>
 cond (a !=0) (
  some ((D0.mk 0 0 0 []),a))<|
 let b:=(A8x d);
 cond (!b) (
  some ((D0.mk 0 0 0 []),4))<|
 cond ((c.Bb.length:Int)==c.Cap) (
  some ((D0.mk 0 0 0 []),5))<|
 ck (decide (0<=(c.Bb.length:Int)/\(c.Bb.length:Int)=(c.Bb.length:Int)/\(c.Bb.length:Int)<=(c.Bb.length:Int)))<|
 ck (decide ([(A9.mk c.Now d)]≠ []/\((c.Bb.take ((c.Bb.length:Int)).toNat).length+ [(A9.mk c.Now d)].length)*16<=140737488355328))<|
 some ((D0.mk c.W c.Cap c.Now ((c.Bb.take ((c.Bb.length:Int)).toNat)++ [(A9.mk c.Now d)])),0)
def A9C (f:E9) (h:Int) (g:List Int) (d c:Int) (a:List B7):Option ((Int×Int×(List B7))⊕(E9×Int)):=
 cond (decide (c<(f.Am.length:Int))) (
  Option.bind (C1 f.Am c) fun e=>
  Option.bind (B3w e h g d) fun b=>
  cond (b.2.2 !=0) (
   some (.inr ((E9.mk []),b.2.2)))<|
  ck (decide ((a.length+ [b.1].length)*56<=140737488355328))<|
  some (.inl (b.2.1,(A1 (c+1)),(a++ [b.1]))))<|
 Option.map Sum.inr (cond (decide (d<(g.length:Int))) (
  some ((E9.mk []),8))<|
 some ((E9.mk a),0))
def B6q (d:E9) (e:Int) (f:List Int) (b c:Int) (a:List B7):Option (E9×Int):=
 loop (fun (s:(Int×Int×(List B7)))=>A9C d e f s.1 s.2.1 s.2.2) (b,c,a)
def B1Z (b:E9) (c:Int) (d:List Int):Option (E9×Int):=
 Option.bind (U9 b) fun a=>
 cond (a !=0) (
  some ((E9.mk []),a))<|
 B6q b c d 0 0 ([]:List B7)
def B6g (e:List A7) (f g d:Int) (b:List A7) (c:Int):Option (((List A7)×Int)⊕(List A7)):=
 cond (decide (c<(e.length:Int))) (
  Option.bind (C1 e c) fun a=>
  ck (decide ((b.length+ [(A7.mk a.Bv a.T (A1 (a.N+1)) (A1 (a.S+d)) (A1 (a.Q+(A1 (d*d)))) (A1L a.Bt d) (A0y a.Bs d))].length)*56<=140737488355328))<|
  some (.inl ((b++ [(A7.mk a.Bv a.T (A1 (a.N+1)) (A1 (a.S+d)) (A1 (a.Q+(A1 (d*d)))) (A1L a.Bt d) (A0y a.Bs d))]),(A1 (c+1)))))<|
 Option.map Sum.inr (ck (decide ((b.length+ [(A7.mk f g 1 d (A1 (d*d)) d d)].length)*56<=140737488355328))<|
 some (b++ [(A7.mk f g 1 d (A1 (d*d)) d d)]))
def B7f (c:List A7) (d e f:Int) (b:List A7) (a:Int):Option (List A7):=
 loop (fun (s:((List A7)×Int))=>B6g c d e f s.1 s.2) (b,a)
def B0o (a:List A7) (b c d:Int):Option (List A7):=
 B7f a b c d ([]:List A7) 0
def B3Z (i j:A7) (b d c e f g:Int) (h:List A7):Bool:=
 let a:=(R4 i j b c);
 a
def A5z (o:List A7) (h i j k l m:Int) (n:List A7) (c:A7) (d:List A7) (b a:Int):Option (Int⊕(((List A7)×Int)⊕(List A7))):=
 cond (decide (a>b)) (
  Option.bind (C1 o b) fun e=>
  Option.bind (C1 o a) fun f=>
  let g:=(B3Z e f h i j k l m n);
  cond g (
   Option.map Sum.inr (some (.inl ((d++ [c]),a))))<|
  some (.inl (A1 (a-1))))<|
 Option.map Sum.inr (some (.inl ((d++ [c]),(A1 (b+1)))))
def A6C (l:List A7) (e f g h i j:Int) (k:List A7) (a:A7) (b:List A7) (c d:Int):Option (((List A7)×Int)⊕(List A7)):=
 loop (fun (s:Int)=>A5z l e f g h i j k a b c s) d
def A5y (d:List A7) (e f g h i j:Int) (k a:List A7) (b:Int):Option (((List A7)×Int)⊕(List A7)):=
 cond (decide (b<(d.length:Int))) (
  Option.bind (C1 d b) fun c=>
  ck (decide ((a.length+ [c].length)*56<=140737488355328))<|
  A6C d e f g h i j k c a b (A1 ((d.length:Int)-(1:Int))))<|
 Option.map Sum.inr (some a)
def B1l (j:List A7) (c d e f g h:Int) (i a:List A7) (b:Int):Option (List A7):=
 loop (fun (s:((List A7)×Int))=>A5y j c d e f g h i s.1 s.2) (a,b)
def A51 (h:List A7) (a b c d e f:Int) (g:List A7):Option (List A7):=
 B1l h a b c d e f g ([]:List A7) 0
def B12 (f:D3) (g:Int):Option (D3×Int):=
 Option.bind (A0i (D3.mk f.Bo f.W f.K f.Cap f.Now f.Bv f.Bf)) fun a=>
 cond (a !=0) (
  some ((D3.mk 0 0 0 0 0 0 []),a))<|
 let b:=(A02 f.Bo);
 cond ((decide (g<b))||(decide (g>4096))) (
  some ((D3.mk 0 0 0 0 0 0 []),4))<|
 Option.bind (gd (decide ((f.Bf.length:Int)>(0:Int))) (C1 f.Bf 0)) fun c=>
 cond (((decide ((f.Bf.length:Int)>(0:Int)))&&(c.N==f.Cap))||(f.Bv==1099511627776)) (
  some ((D3.mk 0 0 0 0 0 0 []),5))<|
 Option.bind (B0o f.Bf (A1 (f.Bv+1)) f.Now g) fun d=>
 Option.bind (A51 d f.Bo f.W f.K f.Cap f.Now (A1 (f.Bv+1)) f.Bf) fun e=>
 some ((D3.mk f.Bo f.W f.K f.Cap f.Now (A1 (f.Bv+1)) e),0)
def A8M (h i:A7) (c b d e f:Int) (g:List A7):Option Bool:=
 Option.bind (A5K h i b) fun a=>
 some a
def A5B (n:List A7) (h i j k l:Int) (m:List A7) (c:A7) (d:List A7) (b a:Int):Option (Int⊕(((List A7)×Int)⊕(List A7))):=
 cond (decide (a>b)) (
  Option.bind (C1 n b) fun e=>
  Option.bind (C1 n a) fun f=>
  Option.bind (A8M e f h i j k l m) fun g=>
  cond g (
   Option.map Sum.inr (some (.inl ((d++ [c]),a))))<|
  some (.inl (A1 (a-1))))<|
 Option.map Sum.inr (some (.inl ((d++ [c]),(A1 (b+1)))))
def A6D (k:List A7) (e f g h i:Int) (j:List A7) (a:A7) (b:List A7) (c d:Int):Option (((List A7)×Int)⊕(List A7)):=
 loop (fun (s:Int)=>A5B k e f g h i j a b c s) d
def A5A (d:List A7) (e f g h i:Int) (j a:List A7) (b:Int):Option (((List A7)×Int)⊕(List A7)):=
 cond (decide (b<(d.length:Int))) (
  Option.bind (C1 d b) fun c=>
  ck (decide ((a.length+ [c].length)*56<=140737488355328))<|
  A6D d e f g h i j c a b (A1 ((d.length:Int)-(1:Int))))<|
 Option.map Sum.inr (some a)
def B1m (i:List A7) (c d e f g:Int) (h a:List A7) (b:Int):Option (List A7):=
 loop (fun (s:((List A7)×Int))=>A5A i c d e f g h s.1 s.2) (a,b)
def A52 (g:List A7) (a b c d e:Int) (f:List A7):Option (List A7):=
 B1m g a b c d e f ([]:List A7) 0
def B16 (e:D5) (f:Int):Option (D5×Int):=
 Option.bind (A0j (D5.mk e.W e.K e.Cap e.Now e.Bv e.Bf)) fun a=>
 cond (a !=0) (
  some ((D5.mk 0 0 0 0 0 []),a))<|
 cond ((decide (f<(-4096:Int)))||(decide (f>4096))) (
  some ((D5.mk 0 0 0 0 0 []),4))<|
 Option.bind (gd (decide ((e.Bf.length:Int)>(0:Int))) (C1 e.Bf 0)) fun b=>
 cond (((decide ((e.Bf.length:Int)>(0:Int)))&&(b.N==e.Cap))||(e.Bv==1099511627776)) (
  some ((D5.mk 0 0 0 0 0 []),5))<|
 Option.bind (B0o e.Bf (A1 (e.Bv+1)) e.Now f) fun c=>
 Option.bind (A52 c e.W e.K e.Cap e.Now (A1 (e.Bv+1)) e.Bf) fun d=>
 some ((D5.mk e.W e.K e.Cap e.Now (A1 (e.Bv+1)) d),0)
def B8a (d:F4) (e:Int):Option (F4×Int):=
 Option.bind (A14 d) fun a=>
 cond (a !=0) (
  some ((F4.mk 0 0 0 0 0 []),a))<|
 cond ((decide (e<0))||(decide (e>d.Bs))) (
  some ((F4.mk 0 0 0 0 0 []),4))<|
 Option.bind (T6 d.Ad) fun b=>
 cond (decide (b>(A1 (d.Cap-e)))) (
  some ((F4.mk 0 0 0 0 0 []),5))<|
 Option.bind (A5q d.Ad d.K d.Now e) fun c=>
 some ((F4.mk d.W d.K d.Cap d.Bs d.Now c),0)
def A0A (m:Int) (c:List E0) (a:Int):Option (((List E0)×Int)⊕(List E0)):=
 cond (decide (a>=1)) (
  Option.bind (C1 c (A1 (a+1))) fun i=>
  Option.bind (C1 c (A1 (a+1))) fun f=>
  Option.bind (C1 c a) fun j=>
  Option.bind (C1 c a) fun g=>
  cond (decide ((A1 ((A1 (g.G+f.G))+f.D))<=m)) (
   Option.bind (C1 c (A1 (a+1))) fun k=>
   Option.bind (C1 c (A1 (a+1))) fun e=>
   Option.bind (C1 c a) fun l=>
   Option.bind (C1 c a) fun d=>
   Option.bind (C1 c (A1 (a+1))) fun h=>
   Option.bind (C1 c (A1 (a+1))) fun b=>
   ck (decide (0<=a/\a<=((c.set ((A1 (a+(1:Int)))).toNat (E0.mk b.V (A1 (e.G+d.G)) b.D)).length:Int)))<|
   ck (decide (0<=(A1 (a+1))/\(A1 (a+1))<=((c.set ((A1 (a+(1:Int)))).toNat (E0.mk b.V (A1 (e.G+d.G)) b.D)).length:Int)))<|
   ck (decide (0<(a).toNat/\(a).toNat+(((c.set ((A1 (a+(1:Int)))).toNat (E0.mk b.V (A1 (e.G+d.G)) b.D)).drop ((A1 (a+(1:Int)))).toNat).take ((c.set ((A1 (a+(1:Int)))).toNat (E0.mk b.V (A1 (e.G+d.G)) b.D)).length-((A1 (a+(1:Int)))).toNat)).length<=(c.set ((A1 (a+(1:Int)))).toNat (E0.mk b.V (A1 (e.G+d.G)) b.D)).length))<|
   some (.inl (((c.set ((A1 (a+(1:Int)))).toNat (E0.mk b.V (A1 (e.G+d.G)) b.D)).take (a).toNat++(((c.set ((A1 (a+(1:Int)))).toNat (E0.mk b.V (A1 (e.G+d.G)) b.D)).drop ((A1 (a+(1:Int)))).toNat).take ((c.set ((A1 (a+(1:Int)))).toNat (E0.mk b.V (A1 (e.G+d.G)) b.D)).length-((A1 (a+(1:Int)))).toNat))),(A1 (a-1)))))<|
  some (.inl (c,(A1 (a-1)))))<|
 Option.map Sum.inr (some c)
def A65 (c:Int) (a:List E0) (b:Int):Option (List E0):=
 loop (fun (s:((List E0)×Int))=>A0A c s.1 s.2) (a,b)
def A2i (a:List E0) (b:Int):Option (List E0):=
 A65 b a (A1 ((a.length:Int)-(2:Int)))
def A3m (b:B8) (a:List E0):Option (B8×Int):=
 cond (decide ((a.length:Int)>b.Cap)) (
  some ((B8.mk 0 0 0 []),5))<|
 some ((B8.mk b.K b.Cap (A1 (b.N+1)) a),0)
def A1H (e:B8) (f a b:Int):Option (B8×Int):=
 ck (decide (0<=a/\a<=(e.Av.length:Int)))<|
 ck (decide ((([]:List E0).length+(e.Av.take (a).toNat).length)*24<=140737488355328))<|
 ck (decide (((([]:List E0)++(e.Av.take (a).toNat)).length+ [(E0.mk f 1 b)].length)*24<=140737488355328))<|
 ck (decide (0<=a/\a<=(e.Av.length:Int)))<|
 ck (decide ((((([]:List E0)++(e.Av.take (a).toNat))++ [(E0.mk f 1 b)]).length+(e.Av.drop (a).toNat).length)*24<=140737488355328))<|
 cond (decide (((((([]:List E0)++(e.Av.take (a).toNat))++ [(E0.mk f 1 b)])++(e.Av.drop (a).toNat)).length:Int)>e.Cap)) (
  Option.bind (A3R (A1 (e.N+1)) e.K) fun c=>
  Option.bind (A2i (((([]:List E0)++(e.Av.take (a).toNat))++ [(E0.mk f 1 b)])++(e.Av.drop (a).toNat)) c) fun d=>
  A3m e d)<|
 A3m e (((([]:List E0)++(e.Av.take (a).toNat))++ [(E0.mk f 1 b)])++(e.Av.drop (a).toNat))
def B0x (e:B8) (f a:Int):Option (Int⊕(B8×Int)):=
 Option.bind (gd (decide (a<(e.Av.length:Int))) (C1 e.Av a)) fun d=>
 cond ((decide (a<(e.Av.length:Int)))&&(decide (d.V<=f))) (
  some (.inl (A1 (a+1))))<|
 Option.map Sum.inr (cond ((decide (a>0))&&(decide (a<(e.Av.length:Int)))) (
  Option.bind (C1 e.Av a) fun b=>
  Option.bind (C1 e.Av a) fun c=>
  A1H e f a (A1 ((A1 (b.G+c.D))-1)))<|
 A1H e f a 0)
def A6K (b:B8) (c a:Int):Option (B8×Int):=
 loop (fun (s:Int)=>B0x b c s) a
def A6m (b:B8) (c:Int):Option (B8×Int):=
 Option.bind (Y2 b) fun a=>
 cond (a !=0) (
  some ((B8.mk 0 0 0 []),a))<|
 cond ((decide (c<(-4096:Int)))||(decide (c>4096))) (
  some ((B8.mk 0 0 0 []),4))<|
 cond (b.N==1099511627776) (
  some ((B8.mk 0 0 0 []),5))<|
 A6K b c 0
def A4i (n:A8) (i:D0) (a:E4) (b:F4) (c:D3) (d:D5) (e:E3) (j:Int) (k:List Int) (f:C4) (l:List B7) (g:B8) (h:C2) (m:Int):Option (A8×Int):=
 cond (m !=0) (
  some ((A8.mk (E2.mk 0 0 0 0 0 0 0 0) (D0.mk 0 0 0 []) (E4.mk 0 0 0 0 []) (F4.mk 0 0 0 0 0 []) (D3.mk 0 0 0 0 0 0 []) (D5.mk 0 0 0 0 0 []) (E3.mk 0 0 0 []) (F6.mk 0 []) (C4.mk false 0 0 0 []) (E9.mk []) (B8.mk 0 0 0 []) (C2.mk 0 0 0 0 [])),m))<|
 some ((A8.mk n.Ao i a b c d e (F6.mk j k) f (E9.mk l) g h),0)
def M7 (n:A8) (o:List Int) (m:Int) (i:D0) (a:E4) (b:F4) (c:D3) (d:D5) (e:E3) (j:Int) (k:List Int) (f:C4) (l:List B7) (g:B8) (h:C2):Option (A8×Int):=
 cond (((m==0)&&(n.Ao.Bi !=9))&&(decide ((o.length:Int)>(0:Int)))) (
  A4i n i a b c d e j k f l g h 8)<|
 A4i n i a b c d e j k f l g h m
def A8S (m:A8) (o:Int) (n:List Int):Option (A8×Int):=
 Option.bind (J5 m) fun b=>
 cond (b !=0) (
  some ((A8.mk (E2.mk 0 0 0 0 0 0 0 0) (D0.mk 0 0 0 []) (E4.mk 0 0 0 0 []) (F4.mk 0 0 0 0 0 []) (D3.mk 0 0 0 0 0 0 []) (D5.mk 0 0 0 0 0 []) (E3.mk 0 0 0 []) (F6.mk 0 []) (C4.mk false 0 0 0 []) (E9.mk []) (B8.mk 0 0 0 []) (C2.mk 0 0 0 0 [])),b))<|
 cond (m.Ao.Bi==1) (
  Option.bind (B1F m.Aq o) fun l=>
  M7 m n l.2 l.1 m.Ay m.Sum m.As m.Au m.Bm m.Ba.Now m.Ba.Bn m.Af m.Ar.Am m.Ai m.Ab)<|
 cond (m.Ao.Bi==2) (
  cond ((decide (o<(-4096:Int)))||(decide (o>4096))) (
   some ((A8.mk (E2.mk 0 0 0 0 0 0 0 0) (D0.mk 0 0 0 []) (E4.mk 0 0 0 0 []) (F4.mk 0 0 0 0 0 []) (D3.mk 0 0 0 0 0 0 []) (D5.mk 0 0 0 0 0 []) (E3.mk 0 0 0 []) (F6.mk 0 []) (C4.mk false 0 0 0 []) (E9.mk []) (B8.mk 0 0 0 []) (C2.mk 0 0 0 0 [])),4))<|
  Option.bind (B3z m.Ay) fun c=>
  M7 m n c.2 m.Aq c.1 m.Sum m.As m.Au m.Bm m.Ba.Now m.Ba.Bn m.Af m.Ar.Am m.Ai m.Ab)<|
 cond (m.Ao.Bi==3) (
  Option.bind (B8a m.Sum o) fun d=>
  M7 m n d.2 m.Aq m.Ay d.1 m.As m.Au m.Bm m.Ba.Now m.Ba.Bn m.Af m.Ar.Am m.Ai m.Ab)<|
 cond (m.Ao.Bi==4) (
  Option.bind (B12 m.As o) fun e=>
  M7 m n e.2 m.Aq m.Ay m.Sum e.1 m.Au m.Bm m.Ba.Now m.Ba.Bn m.Af m.Ar.Am m.Ai m.Ab)<|
 cond (m.Ao.Bi==5) (
  Option.bind (B16 m.Au o) fun f=>
  M7 m n f.2 m.Aq m.Ay m.Sum m.As f.1 m.Bm m.Ba.Now m.Ba.Bn m.Af m.Ar.Am m.Ai m.Ab)<|
 cond (m.Ao.Bi==6) (
  Option.bind (B5G m.Bm o) fun g=>
  M7 m n g.2 m.Aq m.Ay m.Sum m.As m.Au g.1 m.Ba.Now m.Ba.Bn m.Af m.Ar.Am m.Ai m.Ab)<|
 cond (m.Ao.Bi==7) (
  Option.bind (B3K m.Ba o) fun a=>
  M7 m n a.2 m.Aq m.Ay m.Sum m.As m.Au m.Bm a.1.Now a.1.Bn m.Af m.Ar.Am m.Ai m.Ab)<|
 cond (m.Ao.Bi==8) (
  Option.bind (A9W m.Af o) fun h=>
  M7 m n h.2 m.Aq m.Ay m.Sum m.As m.Au m.Bm m.Ba.Now m.Ba.Bn h.1 m.Ar.Am m.Ai m.Ab)<|
 cond (m.Ao.Bi==9) (
  Option.bind (B1Z m.Ar o n) fun i=>
  M7 m n i.2 m.Aq m.Ay m.Sum m.As m.Au m.Bm m.Ba.Now m.Ba.Bn m.Af i.1.Am m.Ai m.Ab)<|
 cond (m.Ao.Bi==10) (
  Option.bind (A6m m.Ai o) fun j=>
  M7 m n j.2 m.Aq m.Ay m.Sum m.As m.Au m.Bm m.Ba.Now m.Ba.Bn m.Af m.Ar.Am j.1 m.Ab)<|
 cond (m.Ao.Bi==11) (
  Option.bind (A8t m.Ab o) fun k=>
  M7 m n k.2 m.Aq m.Ay m.Sum m.As m.Au m.Bm m.Ba.Now m.Ba.Bn m.Af m.Ar.Am m.Ai k.1)<|
 M7 m n b m.Aq m.Ay m.Sum m.As m.Au m.Bm m.Ba.Now m.Ba.Bn m.Af m.Ar.Am m.Ai m.Ab
def A33 (d:D1):Option (Int×D1):=
 Option.bind (A1C d) fun c=>
 cond (!c.2) (
  some (11,d))<|
 cond (d.command_.T !=d.Ap.Now) (
  some (3,d))<|
 Option.bind (A8S c.1 d.command_.V d.command_.Az) fun a=>
 cond (a.2 !=0) (
  some (a.2,d))<|
 Option.bind (A4d d.Ap.Ah (A6.mk d.command_.ID a.1)) fun b=>
 cond (b.2 !=0) (
  some (b.2,d))<|
 some (0,(D1.mk (D7.mk d.Ap.Now d.Ap.Bd b.1) d.command_ d.reply_))
def A9X (c:C4):Option (Int×Int):=
 Option.bind (Y1 c) fun a=>
 cond (a !=0) (
  some (0,a))<|
 cond ((c.Bb.length:Int)==(0:Int)) (
  some (0,7))<|
 Option.bind (C1 c.Bb 0) fun b=>
 some (b.V,0)
def A3V (d:A2) (c:Int):Option (A2×Bool):=
 cond (decide (c<0)) (
  some ((A2.mk 0 0),false))<|
 let a:=(A09 d);
 cond a (
  some (d,true))<|
 Option.bind (A72 d) fun b=>
 cond (decide (c>(A1 (128-b)))) (
  some ((A2.mk 0 0),false))<|
 cond (decide (c>=64)) (
  ck (decide (0<=(A4 (A1 (c-64)))))<|
  some ((A2.mk (E8 .u64 d.Lo (A4 (A1 (c-64)))) 0),true))<|
 ck (decide (0<=(A4 c)))<|
 ck (decide (0<=(A4 (A1 (64-c)))))<|
 ck (decide (0<=(A4 c)))<|
 some ((A2.mk (O0 .u64 (E8 .u64 d.Hi (A4 c)) (G1 .u64 d.Lo (A4 (A1 (64-c))))) (E8 .u64 d.Lo (A4 c))),true)
def B6e (j:F6) (c a b:Int):Option ((Int×Int×Int)⊕(D9×Int)):=
 cond (decide (c<(j.Bn.length:Int))) (
  Option.bind (C1 j.Bn c) fun g=>
  Option.bind (A3V (A2.mk a b) 1) fun h=>
  let i:=(K6 (A4 g));
  Option.bind (A4m h.1 i) fun d=>
  some (.inl ((A1 (c+1)),d.1.Hi,d.1.Lo)))<|
 Option.map Sum.inr (let e:=(K6 1);
 Option.bind (A3V e (A1 ((j.Bn.length:Int)-(1:Int)))) fun f=>
 some ((D9.mk (A2.mk a b) f.1),0))
def B2I (d:F6) (c a b:Int):Option (D9×Int):=
 loop (fun (s:(Int×Int×Int))=>B6e d s.1 s.2.1 s.2.2) (c,a,b)
def B3L (b:F6):Option (D9×Int):=
 Option.bind (A0I b) fun a=>
 cond (a !=0) (
  some ((D9.mk (A2.mk 0 0) (A2.mk 0 0)),a))<|
 B2I b 0 0 0
def B5H (d:E3):Option (D9×Int):=
 Option.bind (A1s d) fun a=>
 cond (a !=0) (
  some ((D9.mk (A2.mk 0 0) (A2.mk 0 0)),a))<|
 Option.bind (B3e (A4 (A1 ((A1 (d.Now-d.Bj))+1))) d.P) fun b=>
 Option.bind (C1 d.Ag d.P) fun c=>
 some ((D9.mk c b.1),0)
def A7q (c:C2) (d:Int):Option (C8×Int):=
 Option.bind (U0 c) fun a=>
 cond (a !=0) (
  some ((C8.mk (A5.mk 0 0) (A5.mk 0 0) (A5.mk 0 0)),a))<|
 Option.bind (B34 c.Ak d) fun b=>
 some (b.1,b.2)
def A55 (c:C2) (d e:Int):Option (Int×Int):=
 Option.bind (U0 c) fun a=>
 cond (a !=0) (
  some (0,a))<|
 Option.bind (A74 c.Ak d e) fun b=>
 some (b.1,b.2)
def B8B (a:List A9):Int:=
 (a.length:Int)
def B0l (d:List A9) (b a:Int):Option ((Int×Int)⊕(Int×Bool)):=
 cond (decide (a<(d.length:Int))) (
  Option.bind (C1 d a) fun c=>
  some (.inl ((A0y b c.V),(A1 (a+1)))))<|
 Option.map Sum.inr (some (b,true))
def A6z (c:List A9) (b a:Int):Option (Int×Bool):=
 loop (fun (s:(Int×Int))=>B0l c s.1 s.2) (b,a)
def A3D (b:List A9):Option (Int×Bool):=
 cond ((b.length:Int)==(0:Int)) (
  some (0,false))<|
 Option.bind (C1 b 0) fun a=>
 A6z b a.V 0
def B3D (d:List A9) (b a:Int):Option ((Int×Int)⊕(Int×Bool)):=
 cond (decide (a<(d.length:Int))) (
  Option.bind (C1 d a) fun c=>
  some (.inl ((A1L b c.V),(A1 (a+1)))))<|
 Option.map Sum.inr (some (b,true))
def A9p (c:List A9) (b a:Int):Option (Int×Bool):=
 loop (fun (s:(Int×Int))=>B3D c s.1 s.2) (b,a)
def A6V (b:List A9):Option (Int×Bool):=
 cond ((b.length:Int)==(0:Int)) (
  some (0,false))<|
 Option.bind (C1 b 0) fun a=>
 A9p b a.V 0
def A2Q (g:List A9) (a:Int) (b:List Int) (c:Int):Option (((List Int)×Int)⊕(Int×Bool)):=
 cond (decide (c<(g.length:Int))) (
  Option.bind (C1 g c) fun d=>
  ck (decide ((b.length+ [d.V].length)*8<=140737488355328))<|
  some (.inl ((b++ [d.V]),(A1 (c+1)))))<|
 Option.map Sum.inr (ck (decide (b.length<4611686018427387904))<|
 Option.bind (C1 (A1o b) (A1 ((A0y (A1 a) (1:Int))-(1:Int)))) fun f=>
 Option.bind (C1 (A1o b) (A1 ((A0y (A1 a) (1:Int))-(1:Int)))) fun e=>
 some (e,true))
def B1h (d:List A9) (a:Int) (b:List Int) (c:Int):Option (Int×Bool):=
 loop (fun (s:((List Int)×Int))=>A2Q d a s.1 s.2) (b,c)
def A0o (b:List A9) (a:Int):Option (Int×Bool):=
 B1h b a ([]:List Int) 0
def A3E (d:List A9) (e f:Int):Option (Int×Bool):=
 cond (((((d.length:Int)==(0:Int))||(decide (f<1)))||(decide (e<0)))||(decide (e>f))) (
  some (0,false))<|
 let b:=(R1 (A4 e) (A4 (d.length:Int)));
 let c:=(K6 (A4 f));
 Option.bind (A19 b c) fun a=>
 cond (!(a.2.1.Hi==0&&(a.2.1.Lo==0&&true))) (
  A0o d (A4 (a.1.Lo+1)))<|
 A0o d a.1.Lo
def A9q (d:List A9) (e b a:Int):Option ((Int×Int)⊕Int):=
 cond (decide (a<(d.length:Int))) (
  Option.bind (C1 d a) fun c=>
  cond (decide (c.V<=e)) (
   some (.inl ((A1 (b+1)),(A1 (a+1)))))<|
  some (.inl (b,(A1 (a+1)))))<|
 Option.map Sum.inr (some b)
def B6c (c:List A9) (d b a:Int):Option Int:=
 loop (fun (s:(Int×Int))=>A9q c d s.1 s.2) (b,a)
def B1v (a:List A9) (b:Int):Option Int:=
 B6c a b 0 0
def A5D (b:Int):Option Int:=
 Option.bind (W9 b) fun a=>
 some (A1 (64-a))
def A0W (f d e a b c:Int):Option (Int×Int):=
 ck (decide (0<=(A4 a)))<|
 some ((A4 ((A4 (b*4294967296))+c)),(G1 .u64 (A4 ((A4 ((A4 ((A4 ((A4 ((A4 ((O0 .u64 (E8 .u64 f (A4 a)) (G1 .u64 d (A4 (64-(A4 a)))))*4294967296))+(G1 .u64 (E8 .u64 d (A4 a)) 32)))-(A4 (b*(E8 .u64 e (A4 a))))))*4294967296))+(O8 .u64 (E8 .u64 d (A4 a)) 4294967295)))-(A4 (c*(E8 .u64 e (A4 a)))))) (A4 a)))
def A1M (g f e b d c a:Int):Option ((Int×Int)⊕(Int×Int)):=
 cond ((decide (a>=4294967296))||(decide ((A4 (a*(O8 .u64 (E8 .u64 e (A4 b)) 4294967295)))>(A4 ((A4 (4294967296*c))+(O8 .u64 (E8 .u64 f (A4 b)) 4294967295)))))) (
  cond (decide ((A4 (c+(G1 .u64 (E8 .u64 e (A4 b)) (32:Int))))>=(4294967296:Int))) (
   Option.map Sum.inr (A0W g f e b d (A4 (a-1))))<|
  some (.inl ((A4 (c+(G1 .u64 (E8 .u64 e (A4 b)) 32))),(A4 (a-1)))))<|
 Option.map Sum.inr (A0W g f e b d a)
def A4L (e f g d c a b:Int):Option (Int×Int):=
 loop (fun (s:(Int×Int))=>A1M e f g d c s.1 s.2) (a,b)
def A0V (e d c a b:Int):Option (Int×Int):=
 ck (decide ((G1 .u64 (E8 .u64 c (A4 a)) (32:Int))≠0))<|
 A4L e d c a b (A4 ((A4 ((A4 ((A4 ((O0 .u64 (E8 .u64 e (A4 a)) (G1 .u64 d (A4 (64-(A4 a)))))*4294967296))+(G1 .u64 (E8 .u64 d (A4 a)) 32)))-(A4 (b*(E8 .u64 c (A4 a))))))-(A4 ((A4 (Int.tdiv (A4 ((A4 ((A4 ((O0 .u64 (E8 .u64 e (A4 a)) (G1 .u64 d (A4 (64-(A4 a)))))*4294967296))+(G1 .u64 (E8 .u64 d (A4 a)) 32)))-(A4 (b*(E8 .u64 c (A4 a)))))) (G1 .u64 (E8 .u64 c (A4 a)) 32)))*(G1 .u64 (E8 .u64 c (A4 a)) 32))))) (A4 (Int.tdiv (A4 ((A4 ((A4 ((O0 .u64 (E8 .u64 e (A4 a)) (G1 .u64 d (A4 (64-(A4 a)))))*4294967296))+(G1 .u64 (E8 .u64 d (A4 a)) 32)))-(A4 (b*(E8 .u64 c (A4 a)))))) (G1 .u64 (E8 .u64 c (A4 a)) 32)))
def A2d (f e d b a c:Int):Option ((Int×Int)⊕(Int×Int)):=
 cond ((decide (a>=4294967296))||(decide ((A4 (a*(O8 .u64 (E8 .u64 d (A4 b)) 4294967295)))>(A4 ((A4 (4294967296*c))+(G1 .u64 (E8 .u64 e (A4 b)) 32)))))) (
  cond (decide ((A4 (c+(G1 .u64 (E8 .u64 d (A4 b)) (32:Int))))>=(4294967296:Int))) (
   Option.map Sum.inr (A0V f e d b (A4 (a-1))))<|
  some (.inl ((A4 (a-1)),(A4 (c+(G1 .u64 (E8 .u64 d (A4 b)) 32))))))<|
 Option.map Sum.inr (A0V f e d b a)
def A5C (d e f c a b:Int):Option (Int×Int):=
 loop (fun (s:(Int×Int))=>A2d d e f c s.1 s.2) (a,b)
def A1j (c d b:Int):Option (Int×Int):=
 cond (b==0) (
  none)<|
 cond (decide (b<=c)) (
  none)<|
 cond (c==0) (
  ck (decide (b≠0))<|
  ck (decide (b≠0))<|
  some ((A4 (Int.tdiv d b)),(Int.tmod d b)))<|
 Option.bind (A5D b) fun a=>
 ck (decide (0<=(A4 a)))<|
 ck (decide (0<=(A4 a)))<|
 ck (decide (0<=(A4 (64-(A4 a)))))<|
 ck (decide (0<=(A4 a)))<|
 ck (decide ((G1 .u64 (E8 .u64 b (A4 a)) (32:Int))≠0))<|
 A5C c d b a (A4 (Int.tdiv (O0 .u64 (E8 .u64 c (A4 a)) (G1 .u64 d (A4 (64-(A4 a))))) (G1 .u64 (E8 .u64 b (A4 a)) 32))) (A4 ((O0 .u64 (E8 .u64 c (A4 a)) (G1 .u64 d (A4 (64-(A4 a)))))-(A4 ((A4 (Int.tdiv (O0 .u64 (E8 .u64 c (A4 a)) (G1 .u64 d (A4 (64-(A4 a))))) (G1 .u64 (E8 .u64 b (A4 a)) 32)))*(G1 .u64 (E8 .u64 b (A4 a)) 32)))))
def Z7 (l g e a b c d:Int):Option ((Int×Int×Int×Int×Int×Int)⊕(H6×Int)):=
 cond (decide (e>=0)) (
  Option.bind (C1 [a,b,c,d] e) fun k=>
  Option.bind (C1 [a,b,c,d] e) fun h=>
  Option.bind (A1j g h l) fun f=>
  Option.bind (C1 [a,b,c,d] e) fun i=>
  Option.bind (C1 [a,b,c,d] e) fun j=>
  some (.inl (f.2,(A1 (e-1)),(if (e).toNat=0 then f.1 else a),(if (e).toNat=1 then f.1 else b),(if (e).toNat=2 then f.1 else c),(if (e).toNat=3 then f.1 else d))))<|
 Option.map Sum.inr (some ((H6.mk a b c d),g))
def B8C (g e f a b c d:Int):Option (H6×Int):=
 loop (fun (s:(Int×Int×Int×Int×Int×Int))=>Z7 g s.1 s.2.1 s.2.2.1 s.2.2.2.1 s.2.2.2.2.1 s.2.2.2.2.2) (e,f,a,b,c,d)
def B2F (a:H6) (b:Int):Option (H6×Int):=
 B8C b 0 3 a.e0 a.e1 a.e2 a.e3
def U5 (n:H6) (g e a b c d:Int):Option ((Int×Int×Int×Int×Int×Int)⊕H6):=
 cond (decide (e<4)) (
  Option.bind (C1 [a,b,c,d] e) fun l=>
  Option.bind (C1 [a,b,c,d] e) fun h=>
  Option.bind (C1 [n.e0,n.e1,n.e2,n.e3] e) fun m=>
  Option.bind (C1 [n.e0,n.e1,n.e2,n.e3] e) fun i=>
  Option.bind (P4 h i g) fun f=>
  Option.bind (C1 [a,b,c,d] e) fun j=>
  Option.bind (C1 [a,b,c,d] e) fun k=>
  some (.inl (f.2,(A1 (e+1)),(if (e).toNat=0 then f.1 else a),(if (e).toNat=1 then f.1 else b),(if (e).toNat=2 then f.1 else c),(if (e).toNat=3 then f.1 else d))))<|
 Option.map Sum.inr (some (H6.mk a b c d))
def B4K (g:H6) (e f a b c d:Int):Option H6:=
 loop (fun (s:(Int×Int×Int×Int×Int×Int))=>U5 g s.1 s.2.1 s.2.2.1 s.2.2.2.1 s.2.2.2.2.1 s.2.2.2.2.2) (e,f,a,b,c,d)
def A6W (a b:H6):Option H6:=
 B4K b 0 0 a.e0 a.e1 a.e2 a.e3
def Z8 (h g a b c d e:Int):Option ((Int×Int×Int×Int×Int×Int×Int)⊕H6):=
 cond (decide (a<4)) (
  Option.bind (C1 [b,c,d,e] a) fun l=>
  Option.bind (C1 [b,c,d,e] a) fun i=>
  Option.bind (N7 i h g) fun f=>
  Option.bind (C1 [b,c,d,e] a) fun j=>
  Option.bind (C1 [b,c,d,e] a) fun k=>
  some (.inl (0,f.2,(A1 (a+1)),(if (a).toNat=0 then f.1 else b),(if (a).toNat=1 then f.1 else c),(if (a).toNat=2 then f.1 else d),(if (a).toNat=3 then f.1 else e))))<|
 Option.map Sum.inr (some (H6.mk b c d e))
def A4J (g e f a b c d:Int):Option H6:=
 loop (fun (s:(Int×Int×Int×Int×Int×Int×Int))=>Z8 s.1 s.2.1 s.2.2.1 s.2.2.2.1 s.2.2.2.2.1 s.2.2.2.2.2.1 s.2.2.2.2.2.2) (g,e,f,a,b,c,d)
def J0 (g:H6) (i j h:Int):Option H6:=
 let b:=(Q7 i j);
 Option.bind (C1 [g.e0,g.e1,g.e2,g.e3] h) fun f=>
 Option.bind (C1 [g.e0,g.e1,g.e2,g.e3] h) fun c=>
 Option.bind (N7 c b.2 0) fun a=>
 Option.bind (C1 [g.e0,g.e1,g.e2,g.e3] h) fun d=>
 Option.bind (C1 [g.e0,g.e1,g.e2,g.e3] h) fun e=>
 A4J b.1 a.2 (A1 (h+1)) (if (h).toNat=0 then a.1 else g.e0) (if (h).toNat=1 then a.1 else g.e1) (if (h).toNat=2 then a.1 else g.e2) (if (h).toNat=3 then a.1 else g.e3)
def Z9 (a:Int):Int:=
 cond (decide (a<0)) (
  (IntKind.u64.wrap (0-(A4 a))))<|
 (A4 a)
def B3f (c d:A2):Option (A2×Bool):=
 Option.bind (P4 c.Lo d.Lo 0) fun a=>
 Option.bind (P4 c.Hi d.Hi a.2) fun b=>
 cond (b.2 !=0) (
  some ((A2.mk 0 0),false))<|
 some ((A2.mk b.1 a.1),true)
def A8f (p:List A9) (e a b c d:Int):Option ((Int×Int×Int×Int×Int)⊕(Bool×A2)):=
 cond (decide (e<(p.length:Int))) (
  Option.bind (C1 p e) fun f=>
  cond (decide (f.V<0)) (
   let k:=(Z9 f.V);
   let l:=(K6 k);
   Option.bind (A4m (A2.mk c d) l) fun g=>
   some (.inl ((A1 (e+1)),a,b,g.1.Hi,g.1.Lo)))<|
  let m:=(Z9 f.V);
  let n:=(K6 m);
  Option.bind (A4m (A2.mk a b) n) fun h=>
  some (.inl ((A1 (e+1)),h.1.Hi,h.1.Lo,c,d)))<|
 Option.map Sum.inr (let o:=(T8 (A2.mk a b) (A2.mk c d));
 cond (decide (o>=0)) (
  Option.bind (B3f (A2.mk a b) (A2.mk c d)) fun i=>
  some (false,i.1))<|
 Option.bind (B3f (A2.mk c d) (A2.mk a b)) fun j=>
 some (true,j.1))
def B4L (f:List A9) (e a b c d:Int):Option (Bool×A2):=
 loop (fun (s:(Int×Int×Int×Int×Int))=>A8f f s.1 s.2.1 s.2.2.1 s.2.2.2.1 s.2.2.2.2) (e,a,b,c,d)
def A4C (a:List A9):Option (Bool×A2):=
 B4L a 0 0 0 0 0
def B4f (b a:Int):Option ((Int×Int)⊕Int):=
 cond (a !=0) (
  ck (decide (a≠0))<|
  some (.inl (a,(Int.tmod b a))))<|
 Option.map Sum.inr (some b)
def B98 (a b:Int):Option Int:=
 loop (fun (s:(Int×Int))=>B4f s.1 s.2) (a,b)
def B73 (a b:Int):Option Int:=
 cond ((decide (a<0))||(decide (b<0))) (
  some 0)<|
 B98 a b
def T3 (v:List A9) (d e f g b h i j k:Int):Option ((Int×Int×Int×Int×Int)⊕(A5×Bool)):=
 cond (decide (b<3)) (
  Option.bind (C1 [d,e,f,g] b) fun u=>
  Option.bind (C1 [d,e,f,g] b) fun o=>
  Option.bind (J0 (H6.mk h i j k) o (A4 (v.length:Int)) b) fun l=>
  some (.inl ((A1 (b+1)),l.e0,l.e1,l.e2,l.e3)))<|
 Option.map Sum.inr (Option.bind (A4C v) fun a=>
 Option.bind (J0 (H6.mk 0 0 0 0) a.2.Lo a.2.Lo 0) fun p=>
 Option.bind (J0 p a.2.Lo a.2.Hi 1) fun q=>
 Option.bind (J0 q a.2.Lo a.2.Hi 1) fun r=>
 Option.bind (J0 r a.2.Hi a.2.Hi 2) fun s=>
 Option.bind (A6W (H6.mk h i j k) s) fun n=>
 Option.bind (B2F n (A4 (v.length:Int))) fun t=>
 Option.bind (B73 (A1 (A4 (v.length:Int))) (A1 t.2)) fun m=>
 Option.bind (B2F n (A4 m)) fun c=>
 cond (((O0 .u64 (O0 .u64 c.1.e1 c.1.e2) c.1.e3) !=0)||(decide (c.1.e0>=9223372036854775808))) (
  some ((A5.mk 0 0),false))<|
 ck (decide ((A4 m)≠0))<|
 some ((A5.mk (A1 c.1.e0) (A1 (A4 (Int.tdiv (A4 (v.length:Int)) (A4 m))))),true))
def A8e (j:List A9) (a b c d i e f g h:Int):Option (A5×Bool):=
 loop (fun (s:(Int×Int×Int×Int×Int))=>T3 j a b c d s.1 s.2.1 s.2.2.1 s.2.2.2.1 s.2.2.2.2) (i,e,f,g,h)
def A7H (j:List A9) (e a b c d:Int):Option ((Int×Int×Int×Int×Int)⊕(A5×Bool)):=
 cond (decide (e<(j.length:Int))) (
  Option.bind (C1 j e) fun g=>
  let h:=(Z9 g.V);
  let i:=(Z9 g.V);
  Option.bind (J0 (H6.mk a b c d) h i 0) fun f=>
  some (.inl ((A1 (e+1)),f.e0,f.e1,f.e2,f.e3)))<|
 Option.map Sum.inr (A8e j a b c d 0 0 0 0 0)
def B3E (f:List A9) (e a b c d:Int):Option (A5×Bool):=
 loop (fun (s:(Int×Int×Int×Int×Int))=>A7H f s.1 s.2.1 s.2.2.1 s.2.2.2.1 s.2.2.2.2) (e,a,b,c,d)
def A8d (a:List A9):Option (A5×Bool):=
 cond ((A4 (a.length:Int))==(0:Int)) (
  some ((A5.mk 0 1),true))<|
 B3E a 0 0 0 0 0
def B72 (a b:Int):(Int×Bool):=
 cond (((decide (a>=0))==(decide (b>=0)))&&(!((decide ((A1 (a+b))>=0))==(decide (a>=0))))) (
  (0,false))<|
 ((A1 (a+b)),true)
def A0d (a:Int):Int:=
 cond (decide (a<0)) (
  (IntKind.u64.wrap (0-(A4 a))))<|
 (A4 a)
def B1A (c d:Int) (a:Int×Int) (b:Int):(Int×Bool):=
 cond ((a.1 !=0)||(decide (a.2>b))) (
  (0,false))<|
 cond (!((decide (c<0))==(decide (d<0)))) (
  ((A1 (IntKind.u64.wrap (0-a.2))),true))<|
 ((A1 a.2),true)
def B74 (d e:Int):(Int×Bool):=
 let b:=(A0d d);
 let c:=(A0d e);
 let a:=(Q7 b c);
 cond (!((decide (d<0))==(decide (e<0)))) (
  B1A d e a (A4 ((9223372036854775807:Int)+(1:Int))))<|
 B1A d e a 9223372036854775807
def A6A (f:List A9) (b a:Int):Option ((Int×Int)⊕(Int×Bool)):=
 cond (decide (a<(f.length:Int))) (
  Option.bind (C1 f a) fun c=>
  let d:=(B74 c.V c.V);
  cond (!d.2) (
   some (.inr (0,false)))<|
  let e:=(B72 b d.1);
  cond (!e.2) (
   some (.inr (0,false)))<|
  some (.inl (e.1,(A1 (a+1)))))<|
 Option.map Sum.inr (some (b,true))
def B2E (c:List A9) (b a:Int):Option (Int×Bool):=
 loop (fun (s:(Int×Int))=>A6A c s.1 s.2) (b,a)
def A7j (a:List A9):Option (Int×Bool):=
 B2E a 0 0
def B3F (b:List A9):Option (Int×Bool):=
 Option.bind (A4C b) fun a=>
 cond (((a.2.Hi !=0)||(decide (a.2.Lo>9223372036854775808)))||((a.2.Lo==9223372036854775808)&&(!a.1))) (
  some (0,false))<|
 cond a.1 (
  some ((A1 (IntKind.u64.wrap (0-a.2.Lo))),true))<|
 some ((A1 a.2.Lo),true)
def A1u (a:Int):Option (E7×Int):=
 let b:=(A1t a);
 Option.bind (Q4 b) fun c=>
 some ((E7.mk c ([]:List Int) (D9.mk (A2.mk 0 0) (A2.mk 0 0))),0)
def B1G (l:D0) (k:T0):Option (E7×Int):=
 Option.bind (X0 l) fun b=>
 cond (b !=0) (
  some ((E7.mk (C8.mk (A5.mk 0 0) (A5.mk 0 0) (A5.mk 0 0)) ([]:List Int) (D9.mk (A2.mk 0 0) (A2.mk 0 0))),b))<|
 Option.bind (A6V l.Bb) fun c=>
 Option.bind (A3D l.Bb) fun d=>
 cond (k.Op==1) (
  let e:=(B8B l.Bb);
  A1u e)<|
 cond (k.Op==2) (
  Option.bind (B3F l.Bb) fun f=>
  A1u f.1)<|
 cond (k.Op==3) (
  Option.bind (A7j l.Bb) fun g=>
  A1u g.1)<|
 cond (k.Op==4) (
  A1u (A1 (d.1-c.1)))<|
 cond (k.Op==5) (
  Option.bind (A8d l.Bb) fun h=>
  Option.bind (Q4 h.1) fun i=>
  some ((E7.mk i ([]:List Int) (D9.mk (A2.mk 0 0) (A2.mk 0 0))),0))<|
 cond (k.Op==6) (
  cond ((l.Bb.length:Int)==(0:Int)) (
   some ((E7.mk (C8.mk (A5.mk 0 0) (A5.mk 0 0) (A5.mk 0 0)) ([]:List Int) (D9.mk (A2.mk 0 0) (A2.mk 0 0))),7))<|
  some ((E7.mk (C8.mk (A5.mk 0 0) (A5.mk 0 0) (A5.mk 0 0)) [c.1,d.1] (D9.mk (A2.mk 0 0) (A2.mk 0 0))),0))<|
 cond (k.Op==7) (
  Option.bind (B1v l.Bb k.A) fun j=>
  A1u j)<|
 cond (k.Op==8) (
  cond (((decide (k.B<1))||(decide (k.A<0)))||(decide (k.A>k.B))) (
   some ((E7.mk (C8.mk (A5.mk 0 0) (A5.mk 0 0) (A5.mk 0 0)) ([]:List Int) (D9.mk (A2.mk 0 0) (A2.mk 0 0))),1))<|
  Option.bind (A3E l.Bb k.A k.B) fun a=>
  cond (!a.2) (
   some ((E7.mk (C8.mk (A5.mk 0 0) (A5.mk 0 0) (A5.mk 0 0)) ([]:List Int) (D9.mk (A2.mk 0 0) (A2.mk 0 0))),7))<|
  some ((E7.mk (C8.mk (A5.mk 0 0) (A5.mk 0 0) (A5.mk 0 0)) [a.1] (D9.mk (A2.mk 0 0) (A2.mk 0 0))),0))<|
 some ((E7.mk (C8.mk (A5.mk 0 0) (A5.mk 0 0) (A5.mk 0 0)) ([]:List Int) (D9.mk (A2.mk 0 0) (A2.mk 0 0))),12)
def A9D (e:E9) (c:List Int) (a:Int):Option (((List Int)×Int)⊕((List Int)×Int)):=
 cond (decide (a<(e.Am.length:Int))) (
  Option.bind (C1 e.Am a) fun d=>
  Option.bind (B3x d) fun b=>
  cond (b.2 !=0) (
   some (.inr ([],b.2)))<|
  ck (decide ((c.length+ [b.1].length)*8<=140737488355328))<|
  some (.inl ((c++ [b.1]),(A1 (a+1)))))<|
 Option.map Sum.inr (some (c,0))
def B6r (c:E9) (b:List Int) (a:Int):Option ((List Int)×Int):=
 loop (fun (s:((List Int)×Int))=>A9D c s.1 s.2) (b,a)
def B10 (b:E9):Option ((List Int)×Int):=
 Option.bind (U9 b) fun a=>
 cond (a !=0) (
  some ([],a))<|
 B6r b ([]:List Int) 0
def B13 (p:D3):Option (C8×Int):=
 Option.bind (A0i p) fun c=>
 cond (c !=0) (
  some ((C8.mk (A5.mk 0 0) (A5.mk 0 0) (A5.mk 0 0)),c))<|
 cond ((p.Bf.length:Int)==(0:Int)) (
  let j:=(A1t 0);
  Option.bind (Q4 j) fun k=>
  some (k,0))<|
 Option.bind (C1 p.Bf 0) fun a=>
 let l:=(P6 p.Now p.W a.T);
 cond l (
  let m:=(Y6 a p.Bo);
  let n:=(A1t m);
  Option.bind (Q4 n) fun o=>
  some (o,0))<|
 Option.bind (C1 p.Bf 1) fun b=>
 cond (b.Bv==(A1 (a.Bv+1))) (
  let d:=(Y6 b p.Bo);
  let e:=(A1t d);
  Option.bind (Q4 e) fun f=>
  some (f,0))<|
 let g:=(Y6 b p.Bo);
 let h:=(Y6 a p.Bo);
 let i:=(A3u g h);
 some (i.1,0)
def B0T (d:Bool) (e f:A2):Option (A5×Bool):=
 Option.bind (A9M e f) fun c=>
 Option.bind (A19 e c) fun a=>
 Option.bind (A19 f c) fun b=>
 cond (((((a.1.Hi !=0)||(b.1.Hi !=0))||(decide (b.1.Lo>=9223372036854775808)))||(decide (a.1.Lo>9223372036854775808)))||((a.1.Lo==9223372036854775808)&&(!d))) (
  some ((A5.mk 0 0),false))<|
 cond d (
  some ((A5.mk (A1 (IntKind.u64.wrap (0-a.1.Lo))) (A1 b.1.Lo)),true))<|
 some ((A5.mk (A1 a.1.Lo) (A1 b.1.Lo)),true)
def B1E (g f:Int):Option (A5×Bool):=
 cond (f==0) (
  some ((A5.mk 0 0),false))<|
 let c:=(A0O g);
 let d:=(K6 c);
 let e:=(A0O f);
 let b:=(K6 e);
 Option.bind (B0T (!((decide (g<0))==(decide (f<0)))) d b) fun a=>
 some (a.1,a.2)
def A7Z (d:A7):Option (A5×Bool):=
 let b:=(A3Q d);
 cond (!b) (
  some ((A5.mk 0 0),false))<|
 let c:=(A6l d);
 Option.bind (B1E c d.N) fun a=>
 some (a.1,a.2)
def B17 (k:D5):Option (C8×Int):=
 Option.bind (A0j k) fun d=>
 cond (d !=0) (
  some ((C8.mk (A5.mk 0 0) (A5.mk 0 0) (A5.mk 0 0)),d))<|
 cond ((k.Bf.length:Int)==(0:Int)) (
  let g:=(A1t 0);
  Option.bind (Q4 g) fun h=>
  some (h,0))<|
 Option.bind (C1 k.Bf 0) fun b=>
 Option.bind (A7Z b) fun e=>
 let i:=(P6 k.Now k.W b.T);
 cond i (
  Option.bind (Q4 e.1) fun j=>
  some (j,0))<|
 Option.bind (C1 k.Bf 1) fun c=>
 Option.bind (A7Z c) fun a=>
 cond (c.Bv==(A1 (b.Bv+1))) (
  Option.bind (Q4 a.1) fun f=>
  some (f,0))<|
 some ((C8.mk a.1 a.1 e.1),0)
def B8b (c:F4):Option (C8×Int):=
 Option.bind (A14 c) fun a=>
 cond (a !=0) (
  some ((C8.mk (A5.mk 0 0) (A5.mk 0 0) (A5.mk 0 0)),a))<|
 Option.bind (A4p c.Ad) fun b=>
 some (b,0)
def A89 (e:B8) (d:List B4) (b c:Int):Option (((List B4)×Int×Int)⊕(List B4)):=
 cond (decide (c<(e.Av.length:Int))) (
  Option.bind (C1 e.Av c) fun a=>
  ck (decide ((d.length+ [(B4.mk a.V (A1 (b+a.G)) (A1 ((A1 (b+a.G))+a.D)))].length)*24<=140737488355328))<|
  some (.inl ((d++ [(B4.mk a.V (A1 (b+a.G)) (A1 ((A1 (b+a.G))+a.D)))]),(A1 (b+a.G)),(A1 (c+1)))))<|
 Option.map Sum.inr (some d)
def B0y (d:B8) (b:List B4) (c a:Int):Option (List B4):=
 loop (fun (s:((List B4)×Int×Int))=>A89 d s.1 s.2.1 s.2.2) (b,c,a)
def A2Y (a:B8):Option (List B4):=
 B0y a ([]:List B4) 0 0
def A9H (d e f:Int):Option Int:=
 let b:=(R1 (A4 e) (A4 d));
 let c:=(K6 (A4 f));
 Option.bind (A19 b c) fun a=>
 cond (!(a.2.1.Hi==0&&(a.2.1.Lo==0&&true))) (
  some (A0y 1 (A1 (A4 (a.1.Lo+1)))))<|
 some (A0y 1 (A1 a.1.Lo))
def A8O (c:Int) (e:List B4) (d f b:Int):Option ((Int×Int×Int)⊕(Int×Int)):=
 cond (decide (b<(e.length:Int))) (
  Option.bind (C1 e b) fun a=>
  cond ((decide (d<0))||(decide ((A0y (A1 (c-a.Bt)) (A1 (a.Bs-c)))<d))) (
   some (.inl ((A0y (A1 (c-a.Bt)) (A1 (a.Bs-c))),a.V,(A1 (b+1)))))<|
  some (.inl (d,f,(A1 (b+1)))))<|
 Option.map Sum.inr (some (f,0))
def A42 (e:Int) (a:List B4) (b c d:Int):Option (Int×Int):=
 loop (fun (s:(Int×Int×Int))=>A8O e a s.1 s.2.1 s.2.2) (b,c,d)
def A4g (d:B8) (e f:Int):Option (Int×Int):=
 Option.bind (Y2 d) fun a=>
 cond (a !=0) (
  some (0,a))<|
 cond (((decide (f<1))||(decide (e<0)))||(decide (e>f))) (
  some (0,1))<|
 cond (d.N==0) (
  some (0,7))<|
 Option.bind (A9H d.N e f) fun c=>
 Option.bind (A2Y d) fun b=>
 A42 c b (-1:Int) 0 0
def A8Q (b c:Int):Option (C8×Int):=
 let a:=(A3u b c);
 some (a.1,0)
def B26 (e:B8) (f:Int) (c:List B4) (d a:Int):Option ((Int×Int)⊕(C8×Int)):=
 cond (decide (a<(c.length:Int))) (
  Option.bind (C1 c a) fun b=>
  cond (decide (b.V>f)) (
   Option.map Sum.inr (A8Q d (A1 (b.Bs-1))))<|
  some (.inl (b.Bt,(A1 (a+1)))))<|
 Option.map Sum.inr (A8Q d e.N)
def A8R (d:B8) (e:Int) (b:List B4) (c a:Int):Option (C8×Int):=
 loop (fun (s:(Int×Int))=>B26 d e b s.1 s.2) (c,a)
def A8P (c:B8) (d:Int):Option (C8×Int):=
 Option.bind (Y2 c) fun a=>
 cond (a !=0) (
  some ((C8.mk (A5.mk 0 0) (A5.mk 0 0) (A5.mk 0 0)),a))<|
 Option.bind (A2Y c) fun b=>
 A8R c d b 0 0
def N8 (b c:Int) (d:Bool) (a:E7):Option (E7×Int):=
 cond (b !=0) (
  some ((E7.mk (C8.mk (A5.mk 0 0) (A5.mk 0 0) (A5.mk 0 0)) ([]:List Int) (D9.mk (A2.mk 0 0) (A2.mk 0 0))),b))<|
 cond d (
  some ((E7.mk a.Al [c] a.Aa),0))<|
 some (a,0)
def A8T (p:A8) (q:T0):Option (E7×Int):=
 Option.bind (J5 p) fun c=>
 cond (c !=0) (
  some ((E7.mk (C8.mk (A5.mk 0 0) (A5.mk 0 0) (A5.mk 0 0)) ([]:List Int) (D9.mk (A2.mk 0 0) (A2.mk 0 0))),c))<|
 let o:=(A9k p.Ao q.Op);
 cond (!o) (
  some ((E7.mk (C8.mk (A5.mk 0 0) (A5.mk 0 0) (A5.mk 0 0)) ([]:List Int) (D9.mk (A2.mk 0 0) (A2.mk 0 0))),12))<|
 cond (p.Ao.Bi==1) (
  Option.bind (B1G p.Aq q) fun d=>
  some (d.1,d.2))<|
 cond (p.Ao.Bi==2) (
  Option.bind (B3A p.Ay) fun e=>
  N8 e.2 0 false (E7.mk e.1 ([]:List Int) (D9.mk (A2.mk 0 0) (A2.mk 0 0))))<|
 cond (p.Ao.Bi==3) (
  Option.bind (B8b p.Sum) fun f=>
  N8 f.2 0 false (E7.mk f.1 ([]:List Int) (D9.mk (A2.mk 0 0) (A2.mk 0 0))))<|
 cond (p.Ao.Bi==4) (
  Option.bind (B13 p.As) fun g=>
  N8 g.2 0 false (E7.mk g.1 ([]:List Int) (D9.mk (A2.mk 0 0) (A2.mk 0 0))))<|
 cond (p.Ao.Bi==5) (
  Option.bind (B17 p.Au) fun h=>
  N8 h.2 0 false (E7.mk h.1 ([]:List Int) (D9.mk (A2.mk 0 0) (A2.mk 0 0))))<|
 cond (p.Ao.Bi==6) (
  Option.bind (B5H p.Bm) fun i=>
  N8 i.2 0 false (E7.mk (C8.mk (A5.mk 0 0) (A5.mk 0 0) (A5.mk 0 0)) ([]:List Int) i.1))<|
 cond (p.Ao.Bi==7) (
  Option.bind (B3L p.Ba) fun j=>
  N8 j.2 0 false (E7.mk (C8.mk (A5.mk 0 0) (A5.mk 0 0) (A5.mk 0 0)) ([]:List Int) j.1))<|
 cond (p.Ao.Bi==8) (
  Option.bind (A9X p.Af) fun k=>
  N8 k.2 k.1 true (E7.mk (C8.mk (A5.mk 0 0) (A5.mk 0 0) (A5.mk 0 0)) ([]:List Int) (D9.mk (A2.mk 0 0) (A2.mk 0 0))))<|
 cond (p.Ao.Bi==9) (
  Option.bind (B10 p.Ar) fun l=>
  N8 l.2 0 false (E7.mk (C8.mk (A5.mk 0 0) (A5.mk 0 0) (A5.mk 0 0)) l.1 (D9.mk (A2.mk 0 0) (A2.mk 0 0))))<|
 cond (p.Ao.Bi==10) (
  cond (q.Op==7) (
   Option.bind (A8P p.Ai q.A) fun a=>
   cond (a.2 !=0) (
    some ((E7.mk (C8.mk (A5.mk 0 0) (A5.mk 0 0) (A5.mk 0 0)) ([]:List Int) (D9.mk (A2.mk 0 0) (A2.mk 0 0))),a.2))<|
   some ((E7.mk a.1 ([]:List Int) (D9.mk (A2.mk 0 0) (A2.mk 0 0))),0))<|
  Option.bind (A4g p.Ai q.A q.B) fun m=>
  N8 m.2 m.1 true (E7.mk (C8.mk (A5.mk 0 0) (A5.mk 0 0) (A5.mk 0 0)) ([]:List Int) (D9.mk (A2.mk 0 0) (A2.mk 0 0))))<|
 cond (p.Ao.Bi==11) (
  cond (q.Op==7) (
   Option.bind (A7q p.Ab q.A) fun b=>
   cond (b.2 !=0) (
    some ((E7.mk (C8.mk (A5.mk 0 0) (A5.mk 0 0) (A5.mk 0 0)) ([]:List Int) (D9.mk (A2.mk 0 0) (A2.mk 0 0))),b.2))<|
   some ((E7.mk b.1 ([]:List Int) (D9.mk (A2.mk 0 0) (A2.mk 0 0))),0))<|
  Option.bind (A55 p.Ab q.A q.B) fun n=>
  N8 n.2 n.1 true (E7.mk (C8.mk (A5.mk 0 0) (A5.mk 0 0) (A5.mk 0 0)) ([]:List Int) (D9.mk (A2.mk 0 0) (A2.mk 0 0))))<|
 N8 c 0 false (E7.mk (C8.mk (A5.mk 0 0) (A5.mk 0 0) (A5.mk 0 0)) ([]:List Int) (D9.mk (A2.mk 0 0) (A2.mk 0 0)))
def A34 (c:D1):Option (Int×D1):=
 Option.bind (A1C c) fun a=>
 cond (!a.2) (
  some (11,c))<|
 Option.bind (A8T a.1 c.command_.Bg) fun b=>
 some (b.2,(D1.mk c.Ap c.command_ (G8.mk c.reply_.Code b.1 c.reply_.Br c.reply_.Ax)))
def A1m (d:List A6) (f:Int) (e:A6):Option ((List A6)×Int):=
 Option.bind (P3 d f) fun b=>
 Option.bind (gd (!(!b)) (J5 e.Ac)) fun c=>
 cond ((!b)||(c !=0)) (
  some ([],2))<|
 cond ((decide (e.ID<0))||(decide (e.ID>1048576))) (
  some ([],1))<|
 Option.bind (X9 d e.ID) fun a=>
 cond a.2 (
  some ([],10))<|
 cond ((d.length:Int)==f) (
  some ([],5))<|
 ck (decide (0<=a.1/\a.1<=(d.length:Int)))<|
 ck (decide ((([]:List A6).length+(d.take (a.1).toNat).length)*640<=140737488355328))<|
 ck (decide (((([]:List A6)++(d.take (a.1).toNat)).length+ [e].length)*640<=140737488355328))<|
 ck (decide (0<=a.1/\a.1<=(d.length:Int)))<|
 ck (decide ((((([]:List A6)++(d.take (a.1).toNat))++ [e]).length+(d.drop (a.1).toNat).length)*640<=140737488355328))<|
 some ((((([]:List A6)++(d.take (a.1).toNat))++ [e])++(d.drop (a.1).toNat)),0)
def A9Y (e:Bool) (b c d:Int):(C4×Int):=
 let a:=(A5v b c d);
 cond (!a) (
  ((C4.mk false 0 0 0 []),1))<|
 ((C4.mk e b c d []),0)
def B3M (a b:Int):Option (F6×Int):=
 cond ((((decide (a<1))||(decide (a>64)))||(decide (b<0)))||(decide (b>16777216))) (
  some ((F6.mk 0 []),1))<|
 ck (decide (0<=a/\a<=a/\a*8<=140737488355328/\a<=140737488355328))<|
 some ((F6.mk b (List.replicate (a).toNat 0)),0)
def B9g (b c:Int):Option (E3×Int):=
 let a:=(B3R c);
 cond (((decide (b<0))||(decide (b>4)))||(!a)) (
  some ((E3.mk 0 0 0 []),1))<|
 ck (decide (0<=(A1 (b+1))/\(A1 (b+1))<=(A1 (b+1))/\(A1 (b+(1:Int)))*16<=140737488355328/\(A1 (b+(1:Int)))<=140737488355328))<|
 some ((E3.mk b c c (List.replicate ((A1 (b+(1:Int)))).toNat (A2.mk 0 0))),0)
def A8u (b c d e:Int):(C2×Int):=
 let a:=(A0v b c d e);
 cond (!a) (
  ((C2.mk 0 0 0 0 []),1))<|
 ((C2.mk b c d e []),0)
def B1H (b c d:Int):(D0×Int):=
 let a:=(A61 b c d);
 cond (!a) (
  ((D0.mk 0 0 0 []),1))<|
 ((D0.mk b c d []),0)
def A6i (d e f c:Int) (a:List B7):Option ((Int×(List B7))⊕(E9×Int)):=
 cond (decide (c<d)) (
  let b:=(W6 e f);
  cond (b.2 !=0) (
   some (.inr ((E9.mk []),b.2)))<|
  ck (decide ((a.length+ [b.1].length)*56<=140737488355328))<|
  some (.inl ((A1 (c+1)),(a++ [b.1]))))<|
 Option.map Sum.inr (some ((E9.mk a),0))
def B0X (c d e b:Int) (a:List B7):Option (E9×Int):=
 loop (fun (s:(Int×(List B7)))=>A6i c d e s.1 s.2) (b,a)
def B11 (a b c:Int):Option (E9×Int):=
 cond ((decide (a<1))||(decide (a>16))) (
  some ((E9.mk []),1))<|
 B0X a b c 0 ([]:List B7)
def B14 (b c d e f:Int):(D3×Int):=
 let a:=(A0Q b c d e f);
 cond (!a) (
  ((D3.mk 0 0 0 0 0 0 []),1))<|
 ((D3.mk b c d e f 0 []),0)
def B18 (b c d e:Int):(D5×Int):=
 let a:=(A50 b c d e);
 cond (!a) (
  ((D5.mk 0 0 0 0 0 []),1))<|
 ((D5.mk b c d e 0 []),0)
def B8c (b c d e f:Int):(F4×Int):=
 let a:=(A9G b c d e f);
 cond (!a) (
  ((F4.mk 0 0 0 0 0 []),1))<|
 ((F4.mk b c d e f []),0)
def A98 (a b:Int):(B8×Int):=
 cond ((((decide (a<1))||(decide (a>64)))||(decide (b<2)))||(decide (b>65536))) (
  ((B8.mk 0 0 0 []),1))<|
 ((B8.mk a b 0 []),0)
def A2B (a:Int):Bool:=
 ((decide (a>=0))&&(decide (a<=16777216)))
def P5 (n:E2) (m:Int) (i:D0) (a:E4) (b:F4) (c:D3) (d:D5) (e:E3) (j:Int) (k:List Int) (f:C4) (l:List B7) (g:B8) (h:C2):Option (A8×Int):=
 cond (m !=0) (
  some ((A8.mk (E2.mk 0 0 0 0 0 0 0 0) (D0.mk 0 0 0 []) (E4.mk 0 0 0 0 []) (F4.mk 0 0 0 0 0 []) (D3.mk 0 0 0 0 0 0 []) (D5.mk 0 0 0 0 0 []) (E3.mk 0 0 0 []) (F6.mk 0 []) (C4.mk false 0 0 0 []) (E9.mk []) (B8.mk 0 0 0 []) (C2.mk 0 0 0 0 [])),m))<|
 some ((A8.mk n i a b c d e (F6.mk j k) f (E9.mk l) g h),0)
def A15 (n:E2) (o:Int):Option (A8×Int):=
 let l:=(W7 n);
 cond (l !=0) (
  some ((A8.mk (E2.mk 0 0 0 0 0 0 0 0) (D0.mk 0 0 0 []) (E4.mk 0 0 0 0 []) (F4.mk 0 0 0 0 0 []) (D3.mk 0 0 0 0 0 0 []) (D5.mk 0 0 0 0 0 []) (E3.mk 0 0 0 []) (F6.mk 0 []) (C4.mk false 0 0 0 []) (E9.mk []) (B8.mk 0 0 0 []) (C2.mk 0 0 0 0 [])),l))<|
 let m:=(A2B o);
 cond (!m) (
  some ((A8.mk (E2.mk 0 0 0 0 0 0 0 0) (D0.mk 0 0 0 []) (E4.mk 0 0 0 0 []) (F4.mk 0 0 0 0 0 []) (D3.mk 0 0 0 0 0 0 []) (D5.mk 0 0 0 0 0 []) (E3.mk 0 0 0 []) (F6.mk 0 []) (C4.mk false 0 0 0 []) (E9.mk []) (B8.mk 0 0 0 []) (C2.mk 0 0 0 0 [])),1))<|
 cond (n.Bi==1) (
  let b:=(B1H n.W n.Cap o);
  P5 n b.2 b.1 (E4.mk 0 0 0 0 []) (F4.mk 0 0 0 0 0 []) (D3.mk 0 0 0 0 0 0 []) (D5.mk 0 0 0 0 0 []) (E3.mk 0 0 0 []) 0 ([]:List Int) (C4.mk false 0 0 0 []) ([]:List B7) (B8.mk 0 0 0 []) (C2.mk 0 0 0 0 []))<|
 cond (n.Bi==2) (
  let c:=(B3B n.W n.K n.Cap o);
  P5 n c.2 (D0.mk 0 0 0 []) c.1 (F4.mk 0 0 0 0 0 []) (D3.mk 0 0 0 0 0 0 []) (D5.mk 0 0 0 0 0 []) (E3.mk 0 0 0 []) 0 ([]:List Int) (C4.mk false 0 0 0 []) ([]:List B7) (B8.mk 0 0 0 []) (C2.mk 0 0 0 0 []))<|
 cond (n.Bi==3) (
  let d:=(B8c n.W n.K n.Cap n.Bs o);
  P5 n d.2 (D0.mk 0 0 0 []) (E4.mk 0 0 0 0 []) d.1 (D3.mk 0 0 0 0 0 0 []) (D5.mk 0 0 0 0 0 []) (E3.mk 0 0 0 []) 0 ([]:List Int) (C4.mk false 0 0 0 []) ([]:List B7) (B8.mk 0 0 0 []) (C2.mk 0 0 0 0 []))<|
 cond (n.Bi==4) (
  let e:=(B14 n.Bo n.W n.K n.Cap o);
  P5 n e.2 (D0.mk 0 0 0 []) (E4.mk 0 0 0 0 []) (F4.mk 0 0 0 0 0 []) e.1 (D5.mk 0 0 0 0 0 []) (E3.mk 0 0 0 []) 0 ([]:List Int) (C4.mk false 0 0 0 []) ([]:List B7) (B8.mk 0 0 0 []) (C2.mk 0 0 0 0 []))<|
 cond (n.Bi==5) (
  let f:=(B18 n.W n.K n.Cap o);
  P5 n f.2 (D0.mk 0 0 0 []) (E4.mk 0 0 0 0 []) (F4.mk 0 0 0 0 0 []) (D3.mk 0 0 0 0 0 0 []) f.1 (E3.mk 0 0 0 []) 0 ([]:List Int) (C4.mk false 0 0 0 []) ([]:List B7) (B8.mk 0 0 0 []) (C2.mk 0 0 0 0 []))<|
 cond (n.Bi==6) (
  Option.bind (B9g n.P o) fun g=>
  P5 n g.2 (D0.mk 0 0 0 []) (E4.mk 0 0 0 0 []) (F4.mk 0 0 0 0 0 []) (D3.mk 0 0 0 0 0 0 []) (D5.mk 0 0 0 0 0 []) g.1 0 ([]:List Int) (C4.mk false 0 0 0 []) ([]:List B7) (B8.mk 0 0 0 []) (C2.mk 0 0 0 0 []))<|
 cond (n.Bi==7) (
  Option.bind (B3M n.W o) fun a=>
  P5 n a.2 (D0.mk 0 0 0 []) (E4.mk 0 0 0 0 []) (F4.mk 0 0 0 0 0 []) (D3.mk 0 0 0 0 0 0 []) (D5.mk 0 0 0 0 0 []) (E3.mk 0 0 0 []) a.1.Now a.1.Bn (C4.mk false 0 0 0 []) ([]:List B7) (B8.mk 0 0 0 []) (C2.mk 0 0 0 0 []))<|
 cond (n.Bi==8) (
  let h:=(A9Y (n.Bs==1) n.W n.Cap o);
  P5 n h.2 (D0.mk 0 0 0 []) (E4.mk 0 0 0 0 []) (F4.mk 0 0 0 0 0 []) (D3.mk 0 0 0 0 0 0 []) (D5.mk 0 0 0 0 0 []) (E3.mk 0 0 0 []) 0 ([]:List Int) h.1 ([]:List B7) (B8.mk 0 0 0 []) (C2.mk 0 0 0 0 []))<|
 cond (n.Bi==9) (
  Option.bind (B11 n.Am n.W n.Cap) fun i=>
  P5 n i.2 (D0.mk 0 0 0 []) (E4.mk 0 0 0 0 []) (F4.mk 0 0 0 0 0 []) (D3.mk 0 0 0 0 0 0 []) (D5.mk 0 0 0 0 0 []) (E3.mk 0 0 0 []) 0 ([]:List Int) (C4.mk false 0 0 0 []) i.1.Am (B8.mk 0 0 0 []) (C2.mk 0 0 0 0 []))<|
 cond (n.Bi==10) (
  let j:=(A98 n.K n.Cap);
  P5 n j.2 (D0.mk 0 0 0 []) (E4.mk 0 0 0 0 []) (F4.mk 0 0 0 0 0 []) (D3.mk 0 0 0 0 0 0 []) (D5.mk 0 0 0 0 0 []) (E3.mk 0 0 0 []) 0 ([]:List Int) (C4.mk false 0 0 0 []) ([]:List B7) j.1 (C2.mk 0 0 0 0 []))<|
 cond (n.Bi==11) (
  let k:=(A8u n.W n.K n.Cap o);
  P5 n k.2 (D0.mk 0 0 0 []) (E4.mk 0 0 0 0 []) (F4.mk 0 0 0 0 0 []) (D3.mk 0 0 0 0 0 0 []) (D5.mk 0 0 0 0 0 []) (E3.mk 0 0 0 []) 0 ([]:List Int) (C4.mk false 0 0 0 []) ([]:List B7) (B8.mk 0 0 0 []) k.1)<|
 P5 n 0 (D0.mk 0 0 0 []) (E4.mk 0 0 0 0 []) (F4.mk 0 0 0 0 0 []) (D3.mk 0 0 0 0 0 0 []) (D5.mk 0 0 0 0 0 []) (E3.mk 0 0 0 []) 0 ([]:List Int) (C4.mk false 0 0 0 []) ([]:List B7) (B8.mk 0 0 0 []) (C2.mk 0 0 0 0 [])
def U3 (d:D1):Option (Int×D1):=
 cond ((decide (d.command_.ID<0))||(decide (d.command_.ID>1048576))) (
  some (1,d))<|
 Option.bind (A15 d.command_.Ao d.Ap.Now) fun b=>
 cond (b.2 !=0) (
  let c:=(W7 d.command_.Ao);
  some (c,d))<|
 Option.bind (A1m d.Ap.Ah d.Ap.Bd (A6.mk d.command_.ID b.1)) fun a=>
 cond (a.2 !=0) (
  some (a.2,d))<|
 some (0,(D1.mk (D7.mk d.Ap.Now d.Ap.Bd a.1) d.command_ d.reply_))
def A5e (c:List A6) (d:Int):Option ((List A6)×Int):=
 Option.bind (P3 c 64) fun b=>
 cond (!b) (
  some ([],2))<|
 Option.bind (X9 c d) fun a=>
 cond (!a.2) (
  some ([],11))<|
 ck (decide (0<=a.1/\a.1<=(c.length:Int)))<|
 ck (decide ((([]:List A6).length+(c.take (a.1).toNat).length)*640<=140737488355328))<|
 ck (decide (0<=(A1 (a.1+1))/\(A1 (a.1+1))<=(c.length:Int)))<|
 ck (decide (((([]:List A6)++(c.take (a.1).toNat)).length+(c.drop ((A1 (a.1+(1:Int)))).toNat).length)*640<=140737488355328))<|
 some (((([]:List A6)++(c.take (a.1).toNat))++(c.drop ((A1 (a.1+(1:Int)))).toNat)),0)
def A29 (b:D1):Option (Int×D1):=
 Option.bind (A5e b.Ap.Ah b.command_.ID) fun a=>
 cond (a.2 !=0) (
  some (a.2,b))<|
 some (0,(D1.mk (D7.mk b.Ap.Now b.Ap.Bd a.1) b.command_ b.reply_))
def T4 (d:List A6) (a:List Int) (b:Int):Option (((List Int)×Int)⊕(List Int)):=
 cond (decide (b<(d.length:Int))) (
  Option.bind (C1 d b) fun c=>
  ck (decide ((a.length+ [c.ID].length)*8<=140737488355328))<|
  some (.inl ((a++ [c.ID]),(A1 (b+1)))))<|
 Option.map Sum.inr (some a)
def A5d (c:List A6) (a:List Int) (b:Int):Option (List Int):=
 loop (fun (s:((List Int)×Int))=>T4 c s.1 s.2) (a,b)
def X5 (a:List A6):Option (List Int):=
 A5d a ([]:List Int) 0
def A0m (b:D1):Option (Int×D1):=
 Option.bind (X5 b.Ap.Ah) fun a=>
 some (0,(D1.mk b.Ap b.command_ (G8.mk b.reply_.Code b.reply_.Aj a b.reply_.Ax)))
def A9F (a:A8):(Int×Bool):=
 cond (a.Ao.Bi==1) (
  (a.Aq.Now,true))<|
 cond (a.Ao.Bi==2) (
  (a.Ay.Now,true))<|
 cond (a.Ao.Bi==3) (
  (a.Sum.Now,true))<|
 cond (a.Ao.Bi==4) (
  (a.As.Now,true))<|
 cond (a.Ao.Bi==5) (
  (a.Au.Now,true))<|
 cond (a.Ao.Bi==6) (
  (a.Bm.Now,true))<|
 cond (a.Ao.Bi==7) (
  (a.Ba.Now,true))<|
 cond (a.Ao.Bi==8) (
  (a.Af.Now,true))<|
 cond (a.Ao.Bi==11) (
  (a.Ab.Now,true))<|
 (0,false)
def A3M (d:D7) (a:Int):Option (Int⊕Int):=
 cond (decide (a<(d.Ah.length:Int))) (
  Option.bind (C1 d.Ah a) fun c=>
  let b:=(A9F c.Ac);
  cond (b.2&&(b.1 !=d.Now)) (
   some (.inr 2))<|
  some (.inl (A1 (a+1))))<|
 Option.map Sum.inr (some 0)
def W1 (b:D7) (a:Int):Option Int:=
 loop (fun (s:Int)=>A3M b s) a
def O2 (b:D7):Option Int:=
 Option.bind (gd (!((decide (b.Now<0))||(decide (b.Now>16777216)))) (P3 b.Ah b.Bd)) fun a=>
 cond (((decide (b.Now<0))||(decide (b.Now>16777216)))||(!a)) (
  some 2)<|
 W1 b 0
def A2C (e:List Int) (d c a:Int):Option ((Int×Int)⊕(Int×Int×Bool)):=
 cond ((decide (a<10))&&(decide ((A1 (d+a))<(e.length:Int)))) (
  Option.bind (C1 e (A1 (d+a))) fun b=>
  cond ((a==9)&&(decide (b>1))) (
   some (.inr (0,0,false)))<|
  ck (decide (0<=(A4 (A1 (7*a)))))<|
  cond (decide (b>=128)) (
   some (.inl ((O0 .u64 c (E8 .u64 (A4 (O8 .u8 b 127)) (A4 (A1 (7*a))))),(A1 (a+1)))))<|
  cond ((b==0)&&(decide (a>0))) (
   some (.inr (0,0,false)))<|
  cond ((O8 .u64 (O0 .u64 c (E8 .u64 (A4 (O8 .u8 b 127)) (A4 (A1 (7*a))))) (1:Int))==(1:Int)) (
   some (.inr ((B4d .i64 (A1 (G1 .u64 (O0 .u64 c (E8 .u64 (A4 (O8 .u8 b 127)) (A4 (A1 (7*a))))) 1))),(A1 ((A1 (d+a))+1)),true)))<|
  some (.inr ((A1 (G1 .u64 (O0 .u64 c (E8 .u64 (A4 (O8 .u8 b 127)) (A4 (A1 (7*a))))) 1)),(A1 ((A1 (d+a))+1)),true)))<|
 Option.map Sum.inr (some (0,0,false))
def B27 (c:List Int) (d a b:Int):Option (Int×Int×Bool):=
 loop (fun (s:(Int×Int))=>A2C c d s.1 s.2) (a,b)
def A70 (b:List Int) (a:Int):Option (Int×Int×Bool):=
 cond ((decide (a<0))||(decide (a>(b.length:Int)))) (
  some (0,0,false))<|
 B27 b a 0 0
def B3 (d:List Int) (b:Int) (c:Bool) (e:Int):Option (Int×Bool×Int):=
 cond c (
  some (b,c,e))<|
 Option.bind (A70 d b) fun a=>
 cond (!a.2.2) (
  some (b,true,e))<|
 some (a.2.1,c,a.1)
def F0 (b:List Int) (c:Int) (d:Bool) (e:Int):Option (Int×Bool×Int):=
 Option.bind (B3 b c d e) fun a=>
 some (a.1,a.2.1,a.2.2)
def A3O (f:A3) (c:List Int) (d:Int) (e:Bool):Option (A3×Int×Bool):=
 Option.bind (B3 c d e f.T) fun a=>
 Option.bind (F0 c a.1 a.2.1 f.Bc) fun b=>
 some ((A3.mk a.2.2 b.2.2),b.1,b.2.1)
def G9 (f g:Int) (b:List Int) (c:Int) (d:Bool) (e:Int):Option (Int×Bool×Int):=
 Option.bind (B3 b c d e) fun a=>
 cond ((decide (a.2.2<f))||(decide (a.2.2>g))) (
  some (a.1,true,a.2.2))<|
 some (a.1,a.2.1,a.2.2)
def A0L (f:List Int) (e:Int) (a:Bool) (b:List A3) (c:Int):Option ((Int×Bool×(List A3)×Int)⊕(Int×Bool×(List A3))):=
 cond ((decide (c>0))&&(!a)) (
  Option.bind (A3O (A3.mk 0 0) f e a) fun d=>
  ck (decide ((b.length+ [d.1].length)*16<=140737488355328))<|
  some (.inl (d.2.1,d.2.2,(b++ [d.1]),(A1 (c-1)))))<|
 Option.map Sum.inr (some (e,a,b))
def B0C (e:List Int) (b:Int) (c:Bool) (d:List A3) (a:Int):Option (Int×Bool×(List A3)):=
 loop (fun (s:(Int×Bool×(List A3)×Int))=>A0L e s.1 s.2.1 s.2.2.1 s.2.2.2) (b,c,d,a)
def A5M (b:List Int) (c:Int) (d:Bool) (e:List A3):Option (Int×Bool×(List A3)):=
 Option.bind (G9 0 (A1 ((b.length:Int)-c)) b c d (e.length:Int)) fun a=>
 B0C b a.1 a.2.1 ([]:List A3) a.2.2
def A0D (b:List Int) (c:Int) (d:Bool) (e:List A3):Option (Int×Bool×(List A3)):=
 Option.bind (A5M b c d e) fun a=>
 some (a.1,a.2.1,a.2.2)
def A4T (f:A9) (c:List Int) (d:Int) (e:Bool):Option (A9×Int×Bool):=
 Option.bind (B3 c d e f.T) fun a=>
 Option.bind (B3 c a.1 a.2.1 f.V) fun b=>
 some ((A9.mk a.2.2 b.2.2),b.1,b.2.1)
def A1v (f:List Int) (e:Int) (a:Bool) (b:List A9) (c:Int):Option ((Int×Bool×(List A9)×Int)⊕(Int×Bool×(List A9))):=
 cond ((decide (c>0))&&(!a)) (
  Option.bind (A4T (A9.mk 0 0) f e a) fun d=>
  ck (decide ((b.length+ [d.1].length)*16<=140737488355328))<|
  some (.inl (d.2.1,d.2.2,(b++ [d.1]),(A1 (c-1)))))<|
 Option.map Sum.inr (some (e,a,b))
def B2a (e:List Int) (b:Int) (c:Bool) (d:List A9) (a:Int):Option (Int×Bool×(List A9)):=
 loop (fun (s:(Int×Bool×(List A9)×Int))=>A1v e s.1 s.2.1 s.2.2.1 s.2.2.2) (b,c,d,a)
def A67 (b:List Int) (c:Int) (d:Bool) (e:List A9):Option (Int×Bool×(List A9)):=
 Option.bind (G9 0 (A1 ((b.length:Int)-c)) b c d (e.length:Int)) fun a=>
 B2a b a.1 a.2.1 ([]:List A9) a.2.2
def A1E (b:List Int) (c:Int) (d:Bool) (e:List A9):Option (Int×Bool×(List A9)):=
 Option.bind (A67 b c d e) fun a=>
 some (a.1,a.2.1,a.2.2)
def A4V (i:A7) (h:List Int) (j:Int) (k:Bool):Option (A7×Int×Bool):=
 Option.bind (B3 h j k i.Bv) fun a=>
 Option.bind (B3 h a.1 a.2.1 i.T) fun b=>
 Option.bind (B3 h b.1 b.2.1 i.N) fun c=>
 Option.bind (B3 h c.1 c.2.1 i.S) fun d=>
 Option.bind (B3 h d.1 d.2.1 i.Q) fun e=>
 Option.bind (B3 h e.1 e.2.1 i.Bt) fun f=>
 Option.bind (B3 h f.1 f.2.1 i.Bs) fun g=>
 some ((A7.mk a.2.2 b.2.2 c.2.2 d.2.2 e.2.2 f.2.2 g.2.2),g.1,g.2.1)
def A1x (f:List Int) (e:Int) (a:Bool) (b:List A7) (c:Int):Option ((Int×Bool×(List A7)×Int)⊕(Int×Bool×(List A7))):=
 cond ((decide (c>0))&&(!a)) (
  Option.bind (A4V (A7.mk 0 0 0 0 0 0 0) f e a) fun d=>
  ck (decide ((b.length+ [d.1].length)*56<=140737488355328))<|
  some (.inl (d.2.1,d.2.2,(b++ [d.1]),(A1 (c-1)))))<|
 Option.map Sum.inr (some (e,a,b))
def B2e (e:List Int) (b:Int) (c:Bool) (d:List A7) (a:Int):Option (Int×Bool×(List A7)):=
 loop (fun (s:(Int×Bool×(List A7)×Int))=>A1x e s.1 s.2.1 s.2.2.1 s.2.2.2) (b,c,d,a)
def A69 (b:List Int) (c:Int) (d:Bool) (e:List A7):Option (Int×Bool×(List A7)):=
 Option.bind (G9 0 (A1 ((b.length:Int)-c)) b c d (e.length:Int)) fun a=>
 B2e b a.1 a.2.1 ([]:List A7) a.2.2
def A1F (b:List Int) (c:Int) (d:Bool) (e:List A7):Option (Int×Bool×(List A7)):=
 Option.bind (A69 b c d e) fun a=>
 some (a.1,a.2.1,a.2.2)
def A4P (e:B4) (d:List Int) (f:Int) (g:Bool):Option (B4×Int×Bool):=
 Option.bind (B3 d f g e.V) fun a=>
 Option.bind (B3 d a.1 a.2.1 e.Bt) fun b=>
 Option.bind (B3 d b.1 b.2.1 e.Bs) fun c=>
 some ((B4.mk a.2.2 b.2.2 c.2.2),c.1,c.2.1)
def A05 (f:List Int) (e:Int) (a:Bool) (b:List B4) (c:Int):Option ((Int×Bool×(List B4)×Int)⊕(Int×Bool×(List B4))):=
 cond ((decide (c>0))&&(!a)) (
  Option.bind (A4P (B4.mk 0 0 0) f e a) fun d=>
  ck (decide ((b.length+ [d.1].length)*24<=140737488355328))<|
  some (.inl (d.2.1,d.2.2,(b++ [d.1]),(A1 (c-1)))))<|
 Option.map Sum.inr (some (e,a,b))
def B03 (e:List Int) (b:Int) (c:Bool) (d:List B4) (a:Int):Option (Int×Bool×(List B4)):=
 loop (fun (s:(Int×Bool×(List B4)×Int))=>A05 e s.1 s.2.1 s.2.2.1 s.2.2.2) (b,c,d,a)
def A0B (b:List Int) (c:Int) (d:Bool):Option (Int×Bool×(List B4)):=
 Option.bind (G9 0 (A1 ((b.length:Int)-c)) b c d 0) fun a=>
 B03 b a.1 a.2.1 ([]:List B4) a.2.2
def A6G (f:List Int) (g:Int) (h:Bool) (i j k l:Int):Option (Int×Bool×Int×Int×Int×Int×(List B4)):=
 Option.bind (B3 f g h i) fun a=>
 Option.bind (B3 f a.1 a.2.1 j) fun b=>
 Option.bind (F0 f b.1 b.2.1 k) fun c=>
 Option.bind (B3 f c.1 c.2.1 l) fun d=>
 Option.bind (A0B f d.1 d.2.1) fun e=>
 some (e.1,e.2.1,a.2.2,b.2.2,c.2.2,d.2.2,e.2.2)
def A41 (b c d e:Int) (f:List Int) (g:Int) (h:Bool):Option (Int×Int×Int×Int×Int×Bool×(List B4)):=
 Option.bind (A6G f g h b c d e) fun a=>
 some (a.2.2.1,a.2.2.2.1,a.2.2.2.2.1,a.2.2.2.2.2.1,a.1,a.2.1,a.2.2.2.2.2.2)
def A03 (f:List Int) (e:Int) (b:Bool) (c:List B2) (d:Int):Option ((Int×Bool×(List B2)×Int)⊕(Int×Bool×(List B2))):=
 cond ((decide (d>0))&&(!b)) (
  Option.bind (A41 0 0 0 0 f e b) fun a=>
  ck (decide ((c.length+ [(B2.mk a.1 a.2.1 a.2.2.1 (D4.mk a.2.2.2.1 a.2.2.2.2.2.2))].length)*56<=140737488355328))<|
  some (.inl (a.2.2.2.2.1,a.2.2.2.2.2.1,(c++ [(B2.mk a.1 a.2.1 a.2.2.1 (D4.mk a.2.2.2.1 a.2.2.2.2.2.2))]),(A1 (d-1)))))<|
 Option.map Sum.inr (some (e,b,c))
def B0Z (e:List Int) (b:Int) (c:Bool) (d:List B2) (a:Int):Option (Int×Bool×(List B2)):=
 loop (fun (s:(Int×Bool×(List B2)×Int))=>A03 e s.1 s.2.1 s.2.2.1 s.2.2.2) (b,c,d,a)
def A2r (b:List Int) (c:Int) (d:Bool) (e:List B2):Option (Int×Bool×(List B2)):=
 Option.bind (G9 0 (A1 ((b.length:Int)-c)) b c d (e.length:Int)) fun a=>
 B0Z b a.1 a.2.1 ([]:List B2) a.2.2
def A4R (f:G4) (c:List Int) (d:Int) (e:Bool):Option (G4×Int×Bool):=
 Option.bind (B3 c d e f.I) fun a=>
 Option.bind (B3 c a.1 a.2.1 f.V) fun b=>
 some ((G4.mk a.2.2 b.2.2),b.1,b.2.1)
def A1w (f:List Int) (e:Int) (a:Bool) (b:List G4) (c:Int):Option ((Int×Bool×(List G4)×Int)⊕(Int×Bool×(List G4))):=
 cond ((decide (c>0))&&(!a)) (
  Option.bind (A4R (G4.mk 0 0) f e a) fun d=>
  ck (decide ((b.length+ [d.1].length)*16<=140737488355328))<|
  some (.inl (d.2.1,d.2.2,(b++ [d.1]),(A1 (c-1)))))<|
 Option.map Sum.inr (some (e,a,b))
def B2c (e:List Int) (b:Int) (c:Bool) (d:List G4) (a:Int):Option (Int×Bool×(List G4)):=
 loop (fun (s:(Int×Bool×(List G4)×Int))=>A1w e s.1 s.2.1 s.2.2.1 s.2.2.2) (b,c,d,a)
def A0R (b:List Int) (c:Int) (d:Bool):Option (Int×Bool×(List G4)):=
 Option.bind (G9 0 (A1 ((b.length:Int)-c)) b c d 0) fun a=>
 B2c b a.1 a.2.1 ([]:List G4) a.2.2
def A6H (f:List Int) (g:Int) (h:Bool) (i j k l:Int):Option (Int×Bool×Int×Int×Int×Int×(List G4)):=
 Option.bind (B3 f g h i) fun a=>
 Option.bind (F0 f a.1 a.2.1 j) fun b=>
 Option.bind (B3 f b.1 b.2.1 k) fun c=>
 Option.bind (B3 f c.1 c.2.1 l) fun d=>
 Option.bind (A0R f d.1 d.2.1) fun e=>
 some (e.1,e.2.1,a.2.2,b.2.2,c.2.2,d.2.2,e.2.2)
def A4X (b c d e:Int) (f:List Int) (g:Int) (h:Bool):Option (Int×Int×Int×Int×Int×Bool×(List G4)):=
 Option.bind (A6H f g h b c d e) fun a=>
 some (a.2.2.1,a.2.2.2.1,a.2.2.2.2.1,a.2.2.2.2.2.1,a.1,a.2.1,a.2.2.2.2.2.2)
def A04 (f:List Int) (e:Int) (b:Bool) (c:List B7) (d:Int):Option ((Int×Bool×(List B7)×Int)⊕(Int×Bool×(List B7))):=
 cond ((decide (d>0))&&(!b)) (
  Option.bind (A4X 0 0 0 0 f e b) fun a=>
  ck (decide ((c.length+ [(B7.mk a.1 a.2.1 a.2.2.1 a.2.2.2.1 a.2.2.2.2.2.2)].length)*56<=140737488355328))<|
  some (.inl (a.2.2.2.2.1,a.2.2.2.2.2.1,(c++ [(B7.mk a.1 a.2.1 a.2.2.1 a.2.2.2.1 a.2.2.2.2.2.2)]),(A1 (d-1)))))<|
 Option.map Sum.inr (some (e,b,c))
def B01 (e:List Int) (b:Int) (c:Bool) (d:List B7) (a:Int):Option (Int×Bool×(List B7)):=
 loop (fun (s:(Int×Bool×(List B7)×Int))=>A04 e s.1 s.2.1 s.2.2.1 s.2.2.2) (b,c,d,a)
def A2t (b:List Int) (c:Int) (d:Bool) (e:List B7):Option (Int×Bool×(List B7)):=
 Option.bind (G9 0 (A1 ((b.length:Int)-c)) b c d (e.length:Int)) fun a=>
 B01 b a.1 a.2.1 ([]:List B7) a.2.2
def A4Z (e:E0) (d:List Int) (f:Int) (g:Bool):Option (E0×Int×Bool):=
 Option.bind (B3 d f g e.V) fun a=>
 Option.bind (B3 d a.1 a.2.1 e.G) fun b=>
 Option.bind (B3 d b.1 b.2.1 e.D) fun c=>
 some ((E0.mk a.2.2 b.2.2 c.2.2),c.1,c.2.1)
def A06 (f:List Int) (e:Int) (a:Bool) (b:List E0) (c:Int):Option ((Int×Bool×(List E0)×Int)⊕(Int×Bool×(List E0))):=
 cond ((decide (c>0))&&(!a)) (
  Option.bind (A4Z (E0.mk 0 0 0) f e a) fun d=>
  ck (decide ((b.length+ [d.1].length)*24<=140737488355328))<|
  some (.inl (d.2.1,d.2.2,(b++ [d.1]),(A1 (c-1)))))<|
 Option.map Sum.inr (some (e,a,b))
def B08 (e:List Int) (b:Int) (c:Bool) (d:List E0) (a:Int):Option (Int×Bool×(List E0)):=
 loop (fun (s:(Int×Bool×(List E0)×Int))=>A06 e s.1 s.2.1 s.2.2.1 s.2.2.2) (b,c,d,a)
def A2w (b:List Int) (c:Int) (d:Bool) (e:List E0):Option (Int×Bool×(List E0)):=
 Option.bind (G9 0 (A1 ((b.length:Int)-c)) b c d (e.length:Int)) fun a=>
 B08 b a.1 a.2.1 ([]:List E0) a.2.2
def A3q (b:List Int) (c:Int) (d:Bool) (e:Int):Option (Int×Bool×Int):=
 Option.bind (B3 b c d (A1 e)) fun a=>
 some (a.1,a.2.1,(A4 a.2.2))
def A3p (c:List Int) (d:Int) (e:Bool) (f:A2):Option (Int×Bool×A2):=
 Option.bind (A3q c d e f.Hi) fun a=>
 Option.bind (A3q c a.1 a.2.1 f.Lo) fun b=>
 some (b.1,b.2.1,(A2.mk a.2.2 b.2.2))
def A4z (f:List Int) (e:Int) (a:Bool) (b:List A2) (c:Int):Option ((Int×Bool×(List A2)×Int)⊕(Int×Bool×(List A2))):=
 cond ((decide (c>0))&&(!a)) (
  Option.bind (A3p f e a (A2.mk 0 0)) fun d=>
  ck (decide ((b.length+ [d.2.2].length)*16<=140737488355328))<|
  some (.inl (d.1,d.2.1,(b++ [d.2.2]),(A1 (c-1)))))<|
 Option.map Sum.inr (some (e,a,b))
def B2g (e:List Int) (b:Int) (c:Bool) (d:List A2) (a:Int):Option (Int×Bool×(List A2)):=
 loop (fun (s:(Int×Bool×(List A2)×Int))=>A4z e s.1 s.2.1 s.2.2.1 s.2.2.2) (b,c,d,a)
def A26 (b:List Int) (c:Int) (d:Bool) (e:List A2):Option (Int×Bool×(List A2)):=
 Option.bind (G9 0 (A1 ((b.length:Int)-c)) b c d (e.length:Int)) fun a=>
 B2g b a.1 a.2.1 ([]:List A2) a.2.2
def A8V (c:List Int) (d:Int) (e:Bool) (a:Int):Option (Int×Bool×Bool):=
 Option.bind (G9 0 1 c d e a) fun b=>
 some (b.1,b.2.1,(b.2.2==1))
def B1r (a:List Int) (b:Int) (c d:Bool):Option (Int×Bool×Bool):=
 cond d (
  A8V a b c 1)<|
 A8V a b c 0
def A6t (f:List Int) (e:Int) (a:Bool) (b:List Int) (c:Int):Option ((Int×Bool×(List Int)×Int)⊕(Int×Bool×(List Int))):=
 cond ((decide (c>0))&&(!a)) (
  Option.bind (B3 f e a 0) fun d=>
  ck (decide ((b.length+ [d.2.2].length)*8<=140737488355328))<|
  some (.inl (d.1,d.2.1,(b++ [d.2.2]),(A1 (c-1)))))<|
 Option.map Sum.inr (some (e,a,b))
def B4r (e:List Int) (b:Int) (c:Bool) (d:List Int) (a:Int):Option (Int×Bool×(List Int)):=
 loop (fun (s:(Int×Bool×(List Int)×Int))=>A6t e s.1 s.2.1 s.2.2.1 s.2.2.2) (b,c,d,a)
def A9b (b:List Int) (c:Int) (d:Bool) (e:List Int):Option (Int×Bool×(List Int)):=
 Option.bind (G9 0 (A1 ((b.length:Int)-c)) b c d (e.length:Int)) fun a=>
 B4r b a.1 a.2.1 ([]:List Int) a.2.2
def A3o (b:List Int) (c:Int) (d:Bool) (e:List Int):Option (Int×Bool×(List Int)):=
 Option.bind (A9b b c d e) fun a=>
 some (a.1,a.2.1,a.2.2)
def I5 (b0_0:List Int) (b0_1:Int) (b0_3:Bool) (b1:A8):Option (Int×Bool×A8):=
 cond (b1.Ao.Bi==1) (
  Option.bind (B3 b0_0 b0_1 b0_3 b1.Aq.W) fun X=>
  Option.bind (F0 b0_0 X.1 X.2.1 b1.Aq.Cap) fun Y=>
  Option.bind (B3 b0_0 Y.1 Y.2.1 b1.Aq.Now) fun Z=>
  Option.bind (A1E b0_0 Z.1 Z.2.1 b1.Aq.Bb) fun a0=>
  some (a0.1,a0.2.1,(A8.mk b1.Ao (D0.mk X.2.2 Y.2.2 Z.2.2 a0.2.2) b1.Ay b1.Sum b1.As b1.Au b1.Bm b1.Ba b1.Af b1.Ar b1.Ai b1.Ab)))<|
 cond (b1.Ao.Bi==2) (
  Option.bind (B3 b0_0 b0_1 b0_3 b1.Ay.W) fun a=>
  Option.bind (F0 b0_0 a.1 a.2.1 b1.Ay.K) fun b=>
  Option.bind (F0 b0_0 b.1 b.2.1 b1.Ay.Cap) fun c=>
  Option.bind (B3 b0_0 c.1 c.2.1 b1.Ay.Now) fun d=>
  Option.bind (A0D b0_0 d.1 d.2.1 b1.Ay.Ad) fun e=>
  some (e.1,e.2.1,(A8.mk b1.Ao b1.Aq (E4.mk a.2.2 b.2.2 c.2.2 d.2.2 e.2.2) b1.Sum b1.As b1.Au b1.Bm b1.Ba b1.Af b1.Ar b1.Ai b1.Ab)))<|
 cond (b1.Ao.Bi==3) (
  Option.bind (B3 b0_0 b0_1 b0_3 b1.Sum.W) fun f=>
  Option.bind (F0 b0_0 f.1 f.2.1 b1.Sum.K) fun g=>
  Option.bind (F0 b0_0 g.1 g.2.1 b1.Sum.Cap) fun h=>
  Option.bind (F0 b0_0 h.1 h.2.1 b1.Sum.Bs) fun i=>
  Option.bind (B3 b0_0 i.1 i.2.1 b1.Sum.Now) fun j=>
  Option.bind (A0D b0_0 j.1 j.2.1 b1.Sum.Ad) fun k=>
  some (k.1,k.2.1,(A8.mk b1.Ao b1.Aq b1.Ay (F4.mk f.2.2 g.2.2 h.2.2 i.2.2 j.2.2 k.2.2) b1.As b1.Au b1.Bm b1.Ba b1.Af b1.Ar b1.Ai b1.Ab)))<|
 cond (b1.Ao.Bi==4) (
  Option.bind (F0 b0_0 b0_1 b0_3 b1.As.Bo) fun l=>
  Option.bind (B3 b0_0 l.1 l.2.1 b1.As.W) fun m=>
  Option.bind (F0 b0_0 m.1 m.2.1 b1.As.K) fun n=>
  Option.bind (F0 b0_0 n.1 n.2.1 b1.As.Cap) fun o=>
  Option.bind (B3 b0_0 o.1 o.2.1 b1.As.Now) fun p=>
  Option.bind (B3 b0_0 p.1 p.2.1 b1.As.Bv) fun q=>
  Option.bind (A1F b0_0 q.1 q.2.1 b1.As.Bf) fun r=>
  some (r.1,r.2.1,(A8.mk b1.Ao b1.Aq b1.Ay b1.Sum (D3.mk l.2.2 m.2.2 n.2.2 o.2.2 p.2.2 q.2.2 r.2.2) b1.Au b1.Bm b1.Ba b1.Af b1.Ar b1.Ai b1.Ab)))<|
 cond (b1.Ao.Bi==5) (
  Option.bind (B3 b0_0 b0_1 b0_3 b1.Au.W) fun s=>
  Option.bind (F0 b0_0 s.1 s.2.1 b1.Au.K) fun t=>
  Option.bind (F0 b0_0 t.1 t.2.1 b1.Au.Cap) fun u=>
  Option.bind (B3 b0_0 u.1 u.2.1 b1.Au.Now) fun v=>
  Option.bind (B3 b0_0 v.1 v.2.1 b1.Au.Bv) fun w=>
  Option.bind (A1F b0_0 w.1 w.2.1 b1.Au.Bf) fun x=>
  some (x.1,x.2.1,(A8.mk b1.Ao b1.Aq b1.Ay b1.Sum b1.As (D5.mk s.2.2 t.2.2 u.2.2 v.2.2 w.2.2 x.2.2) b1.Bm b1.Ba b1.Af b1.Ar b1.Ai b1.Ab)))<|
 cond (b1.Ao.Bi==6) (
  Option.bind (F0 b0_0 b0_1 b0_3 b1.Bm.P) fun y=>
  Option.bind (B3 b0_0 y.1 y.2.1 b1.Bm.Bj) fun z=>
  Option.bind (B3 b0_0 z.1 z.2.1 b1.Bm.Now) fun A=>
  Option.bind (A26 b0_0 A.1 A.2.1 b1.Bm.Ag) fun B=>
  some (B.1,B.2.1,(A8.mk b1.Ao b1.Aq b1.Ay b1.Sum b1.As b1.Au (E3.mk y.2.2 z.2.2 A.2.2 B.2.2) b1.Ba b1.Af b1.Ar b1.Ai b1.Ab)))<|
 cond (b1.Ao.Bi==7) (
  Option.bind (B3 b0_0 b0_1 b0_3 b1.Ba.Now) fun C=>
  Option.bind (A3o b0_0 C.1 C.2.1 b1.Ba.Bn) fun D=>
  some (D.1,D.2.1,(A8.mk b1.Ao b1.Aq b1.Ay b1.Sum b1.As b1.Au b1.Bm (F6.mk C.2.2 D.2.2) b1.Af b1.Ar b1.Ai b1.Ab)))<|
 cond (b1.Ao.Bi==8) (
  Option.bind (B1r b0_0 b0_1 b0_3 b1.Af.Bs) fun E=>
  Option.bind (B3 b0_0 E.1 E.2.1 b1.Af.W) fun F=>
  Option.bind (F0 b0_0 F.1 F.2.1 b1.Af.Cap) fun G=>
  Option.bind (B3 b0_0 G.1 G.2.1 b1.Af.Now) fun H=>
  Option.bind (A1E b0_0 H.1 H.2.1 b1.Af.Bb) fun I=>
  some (I.1,I.2.1,(A8.mk b1.Ao b1.Aq b1.Ay b1.Sum b1.As b1.Au b1.Bm b1.Ba (C4.mk E.2.2 F.2.2 G.2.2 H.2.2 I.2.2) b1.Ar b1.Ai b1.Ab)))<|
 cond (b1.Ao.Bi==9) (
  Option.bind (A2t b0_0 b0_1 b0_3 b1.Ar.Am) fun J=>
  some (J.1,J.2.1,(A8.mk b1.Ao b1.Aq b1.Ay b1.Sum b1.As b1.Au b1.Bm b1.Ba b1.Af (E9.mk J.2.2) b1.Ai b1.Ab)))<|
 cond (b1.Ao.Bi==10) (
  Option.bind (F0 b0_0 b0_1 b0_3 b1.Ai.K) fun L=>
  Option.bind (F0 b0_0 L.1 L.2.1 b1.Ai.Cap) fun M=>
  Option.bind (B3 b0_0 M.1 M.2.1 b1.Ai.N) fun O=>
  Option.bind (A2w b0_0 O.1 O.2.1 b1.Ai.Av) fun Q=>
  some (Q.1,Q.2.1,(A8.mk b1.Ao b1.Aq b1.Ay b1.Sum b1.As b1.Au b1.Bm b1.Ba b1.Af b1.Ar (B8.mk L.2.2 M.2.2 O.2.2 Q.2.2) b1.Ab)))<|
 cond (b1.Ao.Bi==11) (
  Option.bind (B3 b0_0 b0_1 b0_3 b1.Ab.W) fun R=>
  Option.bind (F0 b0_0 R.1 R.2.1 b1.Ab.K) fun S=>
  Option.bind (F0 b0_0 S.1 S.2.1 b1.Ab.Cap) fun T=>
  Option.bind (B3 b0_0 T.1 T.2.1 b1.Ab.Now) fun U=>
  Option.bind (A2r b0_0 U.1 U.2.1 b1.Ab.Ak) fun V=>
  some (V.1,V.2.1,(A8.mk b1.Ao b1.Aq b1.Ay b1.Sum b1.As b1.Au b1.Bm b1.Ba b1.Af b1.Ar b1.Ai (C2.mk R.2.2 S.2.2 T.2.2 U.2.2 V.2.2))))<|
 some (b0_1,true,(A8.mk b1.Ao b1.Aq b1.Ay b1.Sum b1.As b1.Au b1.Bm b1.Ba b1.Af b1.Ar b1.Ai b1.Ab))
def A2k (i:List Int) (k:Int) (l:Bool) (j:E2):Option (Int×Bool×E2):=
 Option.bind (F0 i k l j.Bi) fun a=>
 Option.bind (F0 i a.1 a.2.1 j.Bo) fun b=>
 Option.bind (B3 i b.1 b.2.1 j.W) fun c=>
 Option.bind (F0 i c.1 c.2.1 j.K) fun d=>
 Option.bind (F0 i d.1 d.2.1 j.Cap) fun e=>
 Option.bind (F0 i e.1 e.2.1 j.P) fun f=>
 Option.bind (F0 i f.1 f.2.1 j.Am) fun g=>
 Option.bind (B3 i g.1 g.2.1 j.Bs) fun h=>
 some (h.1,h.2.1,(E2.mk a.2.2 b.2.2 c.2.2 d.2.2 e.2.2 f.2.2 g.2.2 h.2.2))
def B29 (c:List Int) (b d:Int):Option (Int×Bool×Int):=
 Option.bind (A70 c b) fun a=>
 cond (!a.2.2) (
  some (b,true,d))<|
 some (a.2.1,false,a.1)
def A43 (e f:Int) (b:List Int) (c d:Int):Option (Int×Bool×Int):=
 Option.bind (B29 b c d) fun a=>
 cond ((decide (a.2.2<e))||(decide (a.2.2>f))) (
  some (a.1,true,a.2.2))<|
 some (a.1,a.2.1,a.2.2)
def Y7 (n:List Int) (h i:Int×Bool×Int) (c:List A6) (a f:Int) (e:Bool):Option (((List A6)×Int×Int×Bool)⊕(Int×Bool×Int×Int×(List A6))):=
 cond ((decide (a<(c.length:Int)))&&(!e)) (
  Option.bind (C1 c a) fun j=>
  Option.bind (C1 c a) fun l=>
  Option.bind (B3 n f e l.ID) fun d=>
  Option.bind (C1 (c.set (a).toNat (A6.mk d.2.2 l.Ac)) a) fun k=>
  Option.bind (A2k n d.1 d.2.1 k.Ac.Ao) fun b=>
  cond (!b.2.1) (
   Option.bind (C1 ((c.set (a).toNat (A6.mk d.2.2 l.Ac)).set (a).toNat (A6.mk k.ID (A8.mk b.2.2 k.Ac.Aq k.Ac.Ay k.Ac.Sum k.Ac.As k.Ac.Au k.Ac.Bm k.Ac.Ba k.Ac.Af k.Ac.Ar k.Ac.Ai k.Ac.Ab))) a) fun m=>
   Option.bind (I5 n b.1 b.2.1 m.Ac) fun g=>
   some (.inl ((((c.set (a).toNat (A6.mk d.2.2 l.Ac)).set (a).toNat (A6.mk k.ID (A8.mk b.2.2 k.Ac.Aq k.Ac.Ay k.Ac.Sum k.Ac.As k.Ac.Au k.Ac.Bm k.Ac.Ba k.Ac.Af k.Ac.Ar k.Ac.Ai k.Ac.Ab))).set (a).toNat (A6.mk m.ID g.2.2)),(A1 (a+1)),g.1,g.2.1)))<|
  some (.inl (((c.set (a).toNat (A6.mk d.2.2 l.Ac)).set (a).toNat (A6.mk k.ID (A8.mk b.2.2 k.Ac.Aq k.Ac.Ay k.Ac.Sum k.Ac.As k.Ac.Au k.Ac.Bm k.Ac.Ba k.Ac.Af k.Ac.Ar k.Ac.Ai k.Ac.Ab))),(A1 (a+1)),b.1,b.2.1)))<|
 Option.map Sum.inr (some (f,e,h.2.2,i.2.2,c))
def N1 (g:List Int) (c d:Int×Bool×Int) (e:List A6) (f a:Int) (b:Bool):Option (Int×Bool×Int×Int×(List A6)):=
 loop (fun (s:((List A6)×Int×Int×Bool))=>Y7 g c d s.1 s.2.1 s.2.2.1 s.2.2.2) (e,f,a,b)
def A3k (e:List Int) (f g h:Int):Option (Int×Bool×Int×Int×(List A6)):=
 Option.bind (A43 1 1 e f 1) fun d=>
 Option.bind (B3 e d.1 d.2.1 g) fun b=>
 Option.bind (F0 e b.1 b.2.1 h) fun c=>
 Option.bind (G9 0 64 e c.1 c.2.1 0) fun a=>
 cond a.2.1 (
  some (a.1,a.2.1,b.2.2,c.2.2,[]))<|
 ck (decide (0<=a.2.2/\a.2.2<=a.2.2/\a.2.2*640<=140737488355328/\a.2.2<=140737488355328))<|
 N1 e b c (laid (List.replicate (a.2.2).toNat (A6.mk 0 (A8.mk (E2.mk 0 0 0 0 0 0 0 0) (D0.mk 0 0 0 []) (E4.mk 0 0 0 0 []) (F4.mk 0 0 0 0 0 []) (D3.mk 0 0 0 0 0 0 []) (D5.mk 0 0 0 0 0 []) (E3.mk 0 0 0 []) (F6.mk 0 []) (C4.mk false 0 0 0 []) (E9.mk []) (B8.mk 0 0 0 []) (C2.mk 0 0 0 0 [])))) 0 (([]:List A6).take (List.replicate (a.2.2).toNat (A6.mk 0 (A8.mk (E2.mk 0 0 0 0 0 0 0 0) (D0.mk 0 0 0 []) (E4.mk 0 0 0 0 []) (F4.mk 0 0 0 0 0 []) (D3.mk 0 0 0 0 0 0 []) (D5.mk 0 0 0 0 0 []) (E3.mk 0 0 0 []) (F6.mk 0 []) (C4.mk false 0 0 0 []) (E9.mk []) (B8.mk 0 0 0 []) (C2.mk 0 0 0 0 [])))).length)) 0 a.1 a.2.1
def A1n (e:List Int):Option (D7×Int):=
 cond (decide ((e.length:Int)>(1048576:Int))) (
  some ((D7.mk 0 0 []),13))<|
 Option.bind (A3k e 0 0 0) fun a=>
 cond a.2.1 (
  some ((D7.mk 0 0 []),13))<|
 Option.bind (A70 e a.1) fun b=>
 ck (!(!((!b.2.2)||(b.2.1 !=(e.length:Int))))||(decide (0<=a.1/\a.1<=(e.length:Int))))<|
 Option.bind (gd (!((!b.2.2)||(b.2.1 !=(e.length:Int)))) (B3y (e.take (a.1).toNat))) fun d=>
 cond (((!b.2.2)||(b.2.1 !=(e.length:Int)))||(b.1 !=d)) (
  some ((D7.mk 0 0 []),13))<|
 Option.bind (O2 (D7.mk a.2.2.1 a.2.2.2.1 a.2.2.2.2)) fun c=>
 cond (c !=0) (
  some ((D7.mk 0 0 []),c))<|
 some ((D7.mk a.2.2.1 a.2.2.2.1 a.2.2.2.2),0)
def A3a (b:D1):Option (Int×D1):=
 Option.bind (A1n b.command_.Ax) fun a=>
 cond (a.2==0) (
  some (a.2,(D1.mk a.1 b.command_ b.reply_)))<|
 some (a.2,b)
def A2Z (b:List Int) (a:Int):Option (((List Int)×Int)⊕(List Int)):=
 cond (decide (a>=128)) (
  ck (decide ((b.length+ [(O0 .u8 (IntKind.u8.wrap a) 128)].length)*1<=140737488355328))<|
  some (.inl ((b++ [(O0 .u8 (IntKind.u8.wrap a) 128)]),(G1 .u64 a 7))))<|
 Option.map Sum.inr (ck (decide ((b.length+ [(IntKind.u8.wrap a)].length)*1<=140737488355328))<|
 some (b++ [(IntKind.u8.wrap a)]))
def A6M (a:List Int) (b:Int):Option (List Int):=
 loop (fun (s:((List Int)×Int))=>A2Z s.1 s.2) (a,b)
def A3n (b:List Int) (a:Int):Option (List Int):=
 A6M b a
def A1X (b:List Int) (a:Int):Option (List Int):=
 cond (decide (a<0)) (
  A3n b (B4d .u64 (E8 .u64 (A4 a) 1)))<|
 A3n b (E8 .u64 (A4 a) 1)
def D2 (b:List Int) (c:Int) (d:Bool) (e:Int):Option (List Int):=
 Option.bind (A1X b e) fun a=>
 some a
def F9 (b:List Int) (c:Int) (d:Bool) (e:Int):Option (List Int):=
 Option.bind (D2 b c d e) fun a=>
 some a
def A3N (f:A3) (e:List Int) (c:Int) (d:Bool):Option (List Int):=
 Option.bind (D2 e c d f.T) fun a=>
 Option.bind (F9 a c d f.Bc) fun b=>
 some b
def I4 (f g:Int) (b:List Int) (c:Int) (d:Bool) (e:Int):Option (List Int):=
 Option.bind (D2 b c d e) fun a=>
 some a
def A9I (e:Int) (f:Bool) (g:List A3) (b:Int) (a:List Int):Option ((Int×(List Int))⊕(List Int)):=
 cond (decide (b<(g.length:Int))) (
  Option.bind (C1 g b) fun c=>
  Option.bind (A3N c a e f) fun d=>
  some (.inl ((A1 (b+1)),d)))<|
 Option.map Sum.inr (some a)
def B0B (c:Int) (d:Bool) (e:List A3) (b:Int) (a:List Int):Option (List Int):=
 loop (fun (s:(Int×(List Int)))=>A9I c d e s.1 s.2) (b,a)
def A5L (c:List Int) (b:Int) (d:Bool) (e:List A3):Option (List Int):=
 Option.bind (I4 0 (A1 ((c.length:Int)-b)) c b d (e.length:Int)) fun a=>
 B0B b d e 0 a
def A2g (b:List Int) (c:Int) (d:Bool) (e:List A3):Option (List Int):=
 Option.bind (A5L b c d e) fun a=>
 some a
def A4S (f:A9) (e:List Int) (c:Int) (d:Bool):Option (List Int):=
 Option.bind (D2 e c d f.T) fun a=>
 Option.bind (D2 a c d f.V) fun b=>
 some b
def B04 (e:Int) (f:Bool) (g:List A9) (b:Int) (a:List Int):Option ((Int×(List Int))⊕(List Int)):=
 cond (decide (b<(g.length:Int))) (
  Option.bind (C1 g b) fun c=>
  Option.bind (A4S c a e f) fun d=>
  some (.inl ((A1 (b+1)),d)))<|
 Option.map Sum.inr (some a)
def B19 (c:Int) (d:Bool) (e:List A9) (b:Int) (a:List Int):Option (List Int):=
 loop (fun (s:(Int×(List Int)))=>B04 c d e s.1 s.2) (b,a)
def A66 (c:List Int) (b:Int) (d:Bool) (e:List A9):Option (List Int):=
 Option.bind (I4 0 (A1 ((c.length:Int)-b)) c b d (e.length:Int)) fun a=>
 B19 b d e 0 a
def A3h (b:List Int) (c:Int) (d:Bool) (e:List A9):Option (List Int):=
 Option.bind (A66 b c d e) fun a=>
 some a
def A4U (j:A7) (k:List Int) (h:Int) (i:Bool):Option (List Int):=
 Option.bind (D2 k h i j.Bv) fun a=>
 Option.bind (D2 a h i j.T) fun b=>
 Option.bind (D2 b h i j.N) fun c=>
 Option.bind (D2 c h i j.S) fun d=>
 Option.bind (D2 d h i j.Q) fun e=>
 Option.bind (D2 e h i j.Bt) fun f=>
 Option.bind (D2 f h i j.Bs) fun g=>
 some g
def B06 (e:Int) (f:Bool) (g:List A7) (b:Int) (a:List Int):Option ((Int×(List Int))⊕(List Int)):=
 cond (decide (b<(g.length:Int))) (
  Option.bind (C1 g b) fun c=>
  Option.bind (A4U c a e f) fun d=>
  some (.inl ((A1 (b+1)),d)))<|
 Option.map Sum.inr (some a)
def B2d (c:Int) (d:Bool) (e:List A7) (b:Int) (a:List Int):Option (List Int):=
 loop (fun (s:(Int×(List Int)))=>B06 c d e s.1 s.2) (b,a)
def A68 (c:List Int) (b:Int) (d:Bool) (e:List A7):Option (List Int):=
 Option.bind (I4 0 (A1 ((c.length:Int)-b)) c b d (e.length:Int)) fun a=>
 B2d b d e 0 a
def A3i (b:List Int) (c:Int) (d:Bool) (e:List A7):Option (List Int):=
 Option.bind (A68 b c d e) fun a=>
 some a
def A4O (f:B4) (g:List Int) (d:Int) (e:Bool):Option (List Int):=
 Option.bind (D2 g d e f.V) fun a=>
 Option.bind (D2 a d e f.Bt) fun b=>
 Option.bind (D2 b d e f.Bs) fun c=>
 some c
def B0E (e:Int) (f:Bool) (g:List B4) (b:Int) (a:List Int):Option ((Int×(List Int))⊕(List Int)):=
 cond (decide (b<(g.length:Int))) (
  Option.bind (C1 g b) fun c=>
  Option.bind (A4O c a e f) fun d=>
  some (.inl ((A1 (b+1)),d)))<|
 Option.map Sum.inr (some a)
def B02 (c:Int) (d:Bool) (e:List B4) (b:Int) (a:List Int):Option (List Int):=
 loop (fun (s:(Int×(List Int)))=>B0E c d e s.1 s.2) (b,a)
def A2u (c:List Int) (b:Int) (d:Bool) (e:List B4):Option (List Int):=
 Option.bind (I4 0 (A1 ((c.length:Int)-b)) c b d (e.length:Int)) fun a=>
 B02 b d e 0 a
def B1p (i:List Int) (f:Int) (g:Bool) (h:B2):Option (List Int):=
 Option.bind (D2 i f g h.T) fun a=>
 Option.bind (D2 a f g h.Bk) fun b=>
 Option.bind (F9 b f g h.Bc) fun c=>
 Option.bind (D2 c f g h.Bh.N) fun d=>
 Option.bind (A2u d f g h.Bh.Ae) fun e=>
 some e
def A40 (b:B2) (c:List Int) (d:Int) (e:Bool):Option (List Int):=
 Option.bind (B1p c d e (B2.mk b.T b.Bk b.Bc b.Bh)) fun a=>
 some a
def B0A (e:Int) (f:Bool) (g:List B2) (b:Int) (a:List Int):Option ((Int×(List Int))⊕(List Int)):=
 cond (decide (b<(g.length:Int))) (
  Option.bind (C1 g b) fun c=>
  Option.bind (A40 c a e f) fun d=>
  some (.inl ((A1 (b+1)),d)))<|
 Option.map Sum.inr (some a)
def B0Y (c:Int) (d:Bool) (e:List B2) (b:Int) (a:List Int):Option (List Int):=
 loop (fun (s:(Int×(List Int)))=>B0A c d e s.1 s.2) (b,a)
def A2q (c:List Int) (b:Int) (d:Bool) (e:List B2):Option (List Int):=
 Option.bind (I4 0 (A1 ((c.length:Int)-b)) c b d (e.length:Int)) fun a=>
 B0Y b d e 0 a
def A4Q (f:G4) (e:List Int) (c:Int) (d:Bool):Option (List Int):=
 Option.bind (D2 e c d f.I) fun a=>
 Option.bind (D2 a c d f.V) fun b=>
 some b
def B05 (e:Int) (f:Bool) (g:List G4) (b:Int) (a:List Int):Option ((Int×(List Int))⊕(List Int)):=
 cond (decide (b<(g.length:Int))) (
  Option.bind (C1 g b) fun c=>
  Option.bind (A4Q c a e f) fun d=>
  some (.inl ((A1 (b+1)),d)))<|
 Option.map Sum.inr (some a)
def B2b (c:Int) (d:Bool) (e:List G4) (b:Int) (a:List Int):Option (List Int):=
 loop (fun (s:(Int×(List Int)))=>B05 c d e s.1 s.2) (b,a)
def A24 (c:List Int) (b:Int) (d:Bool) (e:List G4):Option (List Int):=
 Option.bind (I4 0 (A1 ((c.length:Int)-b)) c b d (e.length:Int)) fun a=>
 B2b b d e 0 a
def B1q (i:List Int) (f:Int) (g:Bool) (h:B7):Option (List Int):=
 Option.bind (D2 i f g h.W) fun a=>
 Option.bind (F9 a f g h.Cap) fun b=>
 Option.bind (D2 b f g h.I) fun c=>
 Option.bind (D2 c f g h.Bl) fun d=>
 Option.bind (A24 d f g h.Be) fun e=>
 some e
def A4W (b:B7) (c:List Int) (d:Int) (e:Bool):Option (List Int):=
 Option.bind (B1q c d e (B7.mk b.W b.Cap b.I b.Bl b.Be)) fun a=>
 some a
def B0D (e:Int) (f:Bool) (g:List B7) (b:Int) (a:List Int):Option ((Int×(List Int))⊕(List Int)):=
 cond (decide (b<(g.length:Int))) (
  Option.bind (C1 g b) fun c=>
  Option.bind (A4W c a e f) fun d=>
  some (.inl ((A1 (b+1)),d)))<|
 Option.map Sum.inr (some a)
def B00 (c:Int) (d:Bool) (e:List B7) (b:Int) (a:List Int):Option (List Int):=
 loop (fun (s:(Int×(List Int)))=>B0D c d e s.1 s.2) (b,a)
def A2s (c:List Int) (b:Int) (d:Bool) (e:List B7):Option (List Int):=
 Option.bind (I4 0 (A1 ((c.length:Int)-b)) c b d (e.length:Int)) fun a=>
 B00 b d e 0 a
def A4Y (f:E0) (g:List Int) (d:Int) (e:Bool):Option (List Int):=
 Option.bind (D2 g d e f.V) fun a=>
 Option.bind (D2 a d e f.G) fun b=>
 Option.bind (D2 b d e f.D) fun c=>
 some c
def B0F (e:Int) (f:Bool) (g:List E0) (b:Int) (a:List Int):Option ((Int×(List Int))⊕(List Int)):=
 cond (decide (b<(g.length:Int))) (
  Option.bind (C1 g b) fun c=>
  Option.bind (A4Y c a e f) fun d=>
  some (.inl ((A1 (b+1)),d)))<|
 Option.map Sum.inr (some a)
def B07 (c:Int) (d:Bool) (e:List E0) (b:Int) (a:List Int):Option (List Int):=
 loop (fun (s:(Int×(List Int)))=>B0F c d e s.1 s.2) (b,a)
def A2v (c:List Int) (b:Int) (d:Bool) (e:List E0):Option (List Int):=
 Option.bind (I4 0 (A1 ((c.length:Int)-b)) c b d (e.length:Int)) fun a=>
 B07 b d e 0 a
def A3r (b:List Int) (c:Int) (d:Bool) (e:Int):Option (Int×(List Int)):=
 Option.bind (D2 b c d (A1 e)) fun a=>
 some ((A4 (A1 e)),a)
def A0q (e:List Int) (c:Int) (d:Bool) (f:A2):Option (A2×(List Int)):=
 Option.bind (A3r e c d f.Hi) fun a=>
 Option.bind (A3r a.2 c d f.Lo) fun b=>
 some ((A2.mk a.1 b.1),b.2)
def A1y (e:Int) (f:Bool) (g:List A2) (b:Int) (a:List Int):Option ((Int×(List Int))⊕(List Int)):=
 cond (decide (b<(g.length:Int))) (
  Option.bind (C1 g b) fun c=>
  Option.bind (A0q a e f c) fun d=>
  some (.inl ((A1 (b+1)),d.2)))<|
 Option.map Sum.inr (some a)
def B2f (c:Int) (d:Bool) (e:List A2) (b:Int) (a:List Int):Option (List Int):=
 loop (fun (s:(Int×(List Int)))=>A1y c d e s.1 s.2) (b,a)
def A25 (c:List Int) (b:Int) (d:Bool) (e:List A2):Option (List Int):=
 Option.bind (I4 0 (A1 ((c.length:Int)-b)) c b d (e.length:Int)) fun a=>
 B2f b d e 0 a
def A8U (c:List Int) (d:Int) (e:Bool) (a:Int):Option (Bool×(List Int)):=
 Option.bind (I4 0 1 c d e a) fun b=>
 some ((a==1),b)
def A6N (a:List Int) (b:Int) (c d:Bool):Option (Bool×(List Int)):=
 cond d (
  A8U a b c 1)<|
 A8U a b c 0
def B3i (e:Int) (f:Bool) (g:List Int) (b:Int) (a:List Int):Option ((Int×(List Int))⊕(List Int)):=
 cond (decide (b<(g.length:Int))) (
  Option.bind (C1 g b) fun c=>
  Option.bind (D2 a e f c) fun d=>
  some (.inl ((A1 (b+1)),d)))<|
 Option.map Sum.inr (some a)
def B4q (c:Int) (d:Bool) (e:List Int) (b:Int) (a:List Int):Option (List Int):=
 loop (fun (s:(Int×(List Int)))=>B3i c d e s.1 s.2) (b,a)
def A9a (c:List Int) (b:Int) (d:Bool) (e:List Int):Option (List Int):=
 Option.bind (I4 0 (A1 ((c.length:Int)-b)) c b d (e.length:Int)) fun a=>
 B4q b d e 0 a
def A6O (b:List Int) (c:Int) (d:Bool) (e:List Int):Option (List Int):=
 Option.bind (A9a b c d e) fun a=>
 some a
def A1G (b0_0:List Int) (b0_1:Int) (b0_3:Bool) (b1:A8):Option (Bool×A8×(List Int)):=
 cond (b1.Ao.Bi==1) (
  Option.bind (D2 b0_0 b0_1 b0_3 b1.Aq.W) fun X=>
  Option.bind (F9 X b0_1 b0_3 b1.Aq.Cap) fun Y=>
  Option.bind (D2 Y b0_1 b0_3 b1.Aq.Now) fun Z=>
  Option.bind (A3h Z b0_1 b0_3 b1.Aq.Bb) fun a0=>
  some (b0_3,(A8.mk b1.Ao b1.Aq b1.Ay b1.Sum b1.As b1.Au b1.Bm b1.Ba b1.Af b1.Ar b1.Ai b1.Ab),a0))<|
 cond (b1.Ao.Bi==2) (
  Option.bind (D2 b0_0 b0_1 b0_3 b1.Ay.W) fun b=>
  Option.bind (F9 b b0_1 b0_3 b1.Ay.K) fun c=>
  Option.bind (F9 c b0_1 b0_3 b1.Ay.Cap) fun d=>
  Option.bind (D2 d b0_1 b0_3 b1.Ay.Now) fun e=>
  Option.bind (A2g e b0_1 b0_3 b1.Ay.Ad) fun f=>
  some (b0_3,(A8.mk b1.Ao b1.Aq b1.Ay b1.Sum b1.As b1.Au b1.Bm b1.Ba b1.Af b1.Ar b1.Ai b1.Ab),f))<|
 cond (b1.Ao.Bi==3) (
  Option.bind (D2 b0_0 b0_1 b0_3 b1.Sum.W) fun g=>
  Option.bind (F9 g b0_1 b0_3 b1.Sum.K) fun h=>
  Option.bind (F9 h b0_1 b0_3 b1.Sum.Cap) fun i=>
  Option.bind (F9 i b0_1 b0_3 b1.Sum.Bs) fun j=>
  Option.bind (D2 j b0_1 b0_3 b1.Sum.Now) fun k=>
  Option.bind (A2g k b0_1 b0_3 b1.Sum.Ad) fun l=>
  some (b0_3,(A8.mk b1.Ao b1.Aq b1.Ay b1.Sum b1.As b1.Au b1.Bm b1.Ba b1.Af b1.Ar b1.Ai b1.Ab),l))<|
 cond (b1.Ao.Bi==4) (
  Option.bind (F9 b0_0 b0_1 b0_3 b1.As.Bo) fun m=>
  Option.bind (D2 m b0_1 b0_3 b1.As.W) fun n=>
  Option.bind (F9 n b0_1 b0_3 b1.As.K) fun o=>
  Option.bind (F9 o b0_1 b0_3 b1.As.Cap) fun p=>
  Option.bind (D2 p b0_1 b0_3 b1.As.Now) fun q=>
  Option.bind (D2 q b0_1 b0_3 b1.As.Bv) fun r=>
  Option.bind (A3i r b0_1 b0_3 b1.As.Bf) fun s=>
  some (b0_3,(A8.mk b1.Ao b1.Aq b1.Ay b1.Sum b1.As b1.Au b1.Bm b1.Ba b1.Af b1.Ar b1.Ai b1.Ab),s))<|
 cond (b1.Ao.Bi==5) (
  Option.bind (D2 b0_0 b0_1 b0_3 b1.Au.W) fun t=>
  Option.bind (F9 t b0_1 b0_3 b1.Au.K) fun u=>
  Option.bind (F9 u b0_1 b0_3 b1.Au.Cap) fun v=>
  Option.bind (D2 v b0_1 b0_3 b1.Au.Now) fun w=>
  Option.bind (D2 w b0_1 b0_3 b1.Au.Bv) fun x=>
  Option.bind (A3i x b0_1 b0_3 b1.Au.Bf) fun y=>
  some (b0_3,(A8.mk b1.Ao b1.Aq b1.Ay b1.Sum b1.As b1.Au b1.Bm b1.Ba b1.Af b1.Ar b1.Ai b1.Ab),y))<|
 cond (b1.Ao.Bi==6) (
  Option.bind (F9 b0_0 b0_1 b0_3 b1.Bm.P) fun z=>
  Option.bind (D2 z b0_1 b0_3 b1.Bm.Bj) fun A=>
  Option.bind (D2 A b0_1 b0_3 b1.Bm.Now) fun B=>
  Option.bind (A25 B b0_1 b0_3 b1.Bm.Ag) fun C=>
  some (b0_3,(A8.mk b1.Ao b1.Aq b1.Ay b1.Sum b1.As b1.Au b1.Bm b1.Ba b1.Af b1.Ar b1.Ai b1.Ab),C))<|
 cond (b1.Ao.Bi==7) (
  Option.bind (D2 b0_0 b0_1 b0_3 b1.Ba.Now) fun D=>
  Option.bind (A6O D b0_1 b0_3 b1.Ba.Bn) fun E=>
  some (b0_3,(A8.mk b1.Ao b1.Aq b1.Ay b1.Sum b1.As b1.Au b1.Bm b1.Ba b1.Af b1.Ar b1.Ai b1.Ab),E))<|
 cond (b1.Ao.Bi==8) (
  Option.bind (A6N b0_0 b0_1 b0_3 b1.Af.Bs) fun a=>
  Option.bind (D2 a.2 b0_1 b0_3 b1.Af.W) fun F=>
  Option.bind (F9 F b0_1 b0_3 b1.Af.Cap) fun G=>
  Option.bind (D2 G b0_1 b0_3 b1.Af.Now) fun H=>
  Option.bind (A3h H b0_1 b0_3 b1.Af.Bb) fun I=>
  some (b0_3,(A8.mk b1.Ao b1.Aq b1.Ay b1.Sum b1.As b1.Au b1.Bm b1.Ba (C4.mk a.1 b1.Af.W b1.Af.Cap b1.Af.Now b1.Af.Bb) b1.Ar b1.Ai b1.Ab),I))<|
 cond (b1.Ao.Bi==9) (
  Option.bind (A2s b0_0 b0_1 b0_3 b1.Ar.Am) fun J=>
  some (b0_3,(A8.mk b1.Ao b1.Aq b1.Ay b1.Sum b1.As b1.Au b1.Bm b1.Ba b1.Af b1.Ar b1.Ai b1.Ab),J))<|
 cond (b1.Ao.Bi==10) (
  Option.bind (F9 b0_0 b0_1 b0_3 b1.Ai.K) fun L=>
  Option.bind (F9 L b0_1 b0_3 b1.Ai.Cap) fun M=>
  Option.bind (D2 M b0_1 b0_3 b1.Ai.N) fun O=>
  Option.bind (A2v O b0_1 b0_3 b1.Ai.Av) fun Q=>
  some (b0_3,(A8.mk b1.Ao b1.Aq b1.Ay b1.Sum b1.As b1.Au b1.Bm b1.Ba b1.Af b1.Ar b1.Ai b1.Ab),Q))<|
 cond (b1.Ao.Bi==11) (
  Option.bind (D2 b0_0 b0_1 b0_3 b1.Ab.W) fun R=>
  Option.bind (F9 R b0_1 b0_3 b1.Ab.K) fun S=>
  Option.bind (F9 S b0_1 b0_3 b1.Ab.Cap) fun T=>
  Option.bind (D2 T b0_1 b0_3 b1.Ab.Now) fun U=>
  Option.bind (A2q U b0_1 b0_3 b1.Ab.Ak) fun V=>
  some (b0_3,(A8.mk b1.Ao b1.Aq b1.Ay b1.Sum b1.As b1.Au b1.Bm b1.Ba b1.Af b1.Ar b1.Ai b1.Ab),V))<|
 some (true,(A8.mk b1.Ao b1.Aq b1.Ay b1.Sum b1.As b1.Au b1.Bm b1.Ba b1.Af b1.Ar b1.Ai b1.Ab),b0_0)
def A2j (l:List Int) (i:Int) (j:Bool) (k:E2):Option (List Int):=
 Option.bind (F9 l i j k.Bi) fun a=>
 Option.bind (F9 a i j k.Bo) fun b=>
 Option.bind (D2 b i j k.W) fun c=>
 Option.bind (F9 c i j k.K) fun d=>
 Option.bind (F9 d i j k.Cap) fun e=>
 Option.bind (F9 e i j k.P) fun f=>
 Option.bind (F9 f i j k.Am) fun g=>
 Option.bind (D2 g i j k.Bs) fun h=>
 some h
def R5 (b:List Int) (c d:Int):Option (List Int):=
 Option.bind (A1X b d) fun a=>
 some a
def Y9 (b:List Int) (c d:Int):Option (List Int):=
 Option.bind (R5 b c d) fun a=>
 some a
def X3 (e f:Int) (b:List Int) (c d:Int):Option (List Int):=
 Option.bind (R5 b c d) fun a=>
 some a
def B0z (b:List Int) (a:Int):Option (((List Int)×Int)⊕(List Int)):=
 cond (decide (a>=128)) (
  ck (decide ((b.length+ [(O0 .u8 (IntKind.u8.wrap a) 128)].length)*1<=140737488355328))<|
  some (.inl ((b++ [(O0 .u8 (IntKind.u8.wrap a) 128)]),(G1 .u64 a 7))))<|
 Option.map Sum.inr (ck (decide ((b.length+ [(IntKind.u8.wrap a)].length)*1<=140737488355328))<|
 some (b++ [(IntKind.u8.wrap a)]))
def B8v (a:List Int) (b:Int):Option (List Int):=
 loop (fun (s:((List Int)×Int))=>B0z s.1 s.2) (a,b)
def A6L (a:Int):Option (List Int):=
 B8v ([]:List Int) a
def B43 (a:Int):Option (List Int):=
 cond (decide (a<0)) (
  A6L (B4d .u64 (E8 .u64 (A4 a) 1)))<|
 A6L (E8 .u64 (A4 a) 1)
def B28 (b c:Int):Option (List Int):=
 Option.bind (B43 c) fun a=>
 some a
def A2l (d e b c:Int):Option (List Int):=
 Option.bind (B28 b c) fun a=>
 some a
def A3P (l:Int) (m:D7) (c:List A6) (a:Int) (d:List Int) (b:Bool):Option (((List A6)×Int×(List Int)×Bool)⊕(Bool×D7×(List Int))):=
 cond ((decide (a<(c.length:Int)))&&(!b)) (
  Option.bind (C1 c a) fun h=>
  Option.bind (C1 c a) fun i=>
  Option.bind (D2 d l b i.ID) fun g=>
  Option.bind (C1 (c.set (a).toNat i) a) fun j=>
  Option.bind (A2j g l b j.Ac.Ao) fun f=>
  cond (!b) (
   Option.bind (C1 ((c.set (a).toNat i).set (a).toNat j) a) fun k=>
   Option.bind (A1G f l b k.Ac) fun e=>
   some (.inl ((((c.set (a).toNat i).set (a).toNat j).set (a).toNat (A6.mk k.ID e.2.1)),(A1 (a+1)),e.2.2,e.1)))<|
  some (.inl (((c.set (a).toNat i).set (a).toNat j),(A1 (a+1)),f,b)))<|
 Option.map Sum.inr (some (b,(D7.mk m.Now m.Bd c),d))
def W2 (e:Int) (f:D7) (c:List A6) (d:Int) (a:List Int) (b:Bool):Option (Bool×D7×(List Int)):=
 loop (fun (s:((List A6)×Int×(List Int)×Bool))=>A3P e f s.1 s.2.1 s.2.2.1 s.2.2.2) (c,d,a,b)
def A3j (f:Int) (e:D7):Option (Bool×D7×(List Int)):=
 Option.bind (A2l 1 1 f 1) fun a=>
 Option.bind (R5 a f e.Now) fun b=>
 Option.bind (Y9 b f e.Bd) fun c=>
 Option.bind (X3 0 64 c f (e.Ah.length:Int)) fun d=>
 ck (decide (0<=(e.Ah.length:Int)/\(e.Ah.length:Int)<=(e.Ah.length:Int)/\(e.Ah.length:Int)*640<=140737488355328/\(e.Ah.length:Int)<=140737488355328))<|
 W2 f e (laid (List.replicate ((e.Ah.length:Int)).toNat (A6.mk 0 (A8.mk (E2.mk 0 0 0 0 0 0 0 0) (D0.mk 0 0 0 []) (E4.mk 0 0 0 0 []) (F4.mk 0 0 0 0 0 []) (D3.mk 0 0 0 0 0 0 []) (D5.mk 0 0 0 0 0 []) (E3.mk 0 0 0 []) (F6.mk 0 []) (C4.mk false 0 0 0 []) (E9.mk []) (B8.mk 0 0 0 []) (C2.mk 0 0 0 0 [])))) 0 (e.Ah.take (List.replicate ((e.Ah.length:Int)).toNat (A6.mk 0 (A8.mk (E2.mk 0 0 0 0 0 0 0 0) (D0.mk 0 0 0 []) (E4.mk 0 0 0 0 []) (F4.mk 0 0 0 0 0 []) (D3.mk 0 0 0 0 0 0 []) (D5.mk 0 0 0 0 0 []) (E3.mk 0 0 0 []) (F6.mk 0 []) (C4.mk false 0 0 0 []) (E9.mk []) (B8.mk 0 0 0 []) (C2.mk 0 0 0 0 [])))).length)) 0 d false
def A2X (e:D7):Option ((List Int)×Int):=
 Option.bind (O2 e) fun a=>
 cond (a !=0) (
  some ([],a))<|
 Option.bind (A3j 0 e) fun b=>
 Option.bind (B3y b.2.2) fun d=>
 Option.bind (A1X b.2.2 d) fun c=>
 cond (decide ((c.length:Int)>(1048576:Int))) (
  some ([],5))<|
 some (c,0)
def A3b (b:D1):Option (Int×D1):=
 Option.bind (A2X b.Ap) fun a=>
 some (a.2,(D1.mk b.Ap b.command_ (G8.mk b.reply_.Code b.reply_.Aj b.reply_.Br a.1)))
def A86 (d:C4) (e:Int) (a:List A9):Option ((List A9)⊕(C4×Int)):=
 Option.bind (gd (decide ((a.length:Int)>(0:Int))) (C1 a 0)) fun c=>
 let b:=(P6 e d.W c.T);
 cond ((decide ((a.length:Int)>(0:Int)))&&(!b)) (
  ck (decide (0<=(1:Int)/\1<=(a.length:Int)))<|
  some (.inl (a.drop ((1:Int)).toNat)))<|
 Option.map Sum.inr (ck (decide ((([]:List A9).length+a.length)*16<=140737488355328))<|
 some ((C4.mk d.Bs d.W d.Cap e (([]:List A9)++a)),0))
def A5u (b:C4) (c:Int) (a:List A9):Option (C4×Int):=
 loop (fun (s:(List A9))=>A86 b c s) a
def A46 (c:C4) (d:Int):Option (C4×Int):=
 Option.bind (Y1 c) fun a=>
 cond (a !=0) (
  some ((C4.mk false 0 0 0 []),a))<|
 let b:=(Q2 c.Now d);
 cond (b.2 !=0) (
  some ((C4.mk false 0 0 0 []),b.2))<|
 A5u c d c.Bb
def A7k (c:F6) (d:Int):Option (F6×Int):=
 Option.bind (A0I c) fun a=>
 cond (a !=0) (
  some ((F6.mk 0 []),a))<|
 let b:=(Q2 c.Now d);
 cond (b.2 !=0) (
  some ((F6.mk 0 []),b.2))<|
 ck (decide ((([]:List Int).length+c.Bn.length)*8<=140737488355328))<|
 ck (decide (0<=(A1L (A1 (d-c.Now)) ((([]:List Int)++c.Bn).length:Int))/\(A1L (A1 (d-c.Now)) ((([]:List Int)++c.Bn).length:Int))<=((([]:List Int)++c.Bn).length:Int)))<|
 ck (decide (0<=(A1L (A1 (d-c.Now)) ((([]:List Int)++c.Bn).length:Int))/\(A1L (A1 (d-c.Now)) ((([]:List Int)++c.Bn).length:Int))<=((laid (([]:List Int)++c.Bn) ((A1L (A1 (d-c.Now)) ((([]:List Int)++c.Bn).length:Int))).toNat (c.Bn.take ((([]:List Int)++c.Bn).length-((A1L (A1 (d-c.Now)) ((([]:List Int)++c.Bn).length:Int))).toNat))).length:Int)))<|
 some ((F6.mk d (laid (laid (([]:List Int)++c.Bn) ((A1L (A1 (d-c.Now)) ((([]:List Int)++c.Bn).length:Int))).toNat (c.Bn.take ((([]:List Int)++c.Bn).length-((A1L (A1 (d-c.Now)) ((([]:List Int)++c.Bn).length:Int))).toNat))) 0 (List.replicate ((A1L (A1 (d-c.Now)) ((([]:List Int)++c.Bn).length:Int))).toNat 0))),0)
def A8q (c:E3) (d:Int):Option (E3×Int):=
 Option.bind (A1s c) fun a=>
 cond (a !=0) (
  some ((E3.mk 0 0 0 []),a))<|
 let b:=(Q2 c.Now d);
 cond (b.2 !=0) (
  some ((E3.mk 0 0 0 []),b.2))<|
 ck (decide ((([]:List A2).length+c.Ag.length)*16<=140737488355328))<|
 some ((E3.mk c.P c.Bj d (([]:List A2)++c.Ag)),0)
def A4b (e:C2) (f:Int):Option (C2×Int):=
 Option.bind (U0 e) fun a=>
 cond (a !=0) (
  some ((C2.mk 0 0 0 0 []),a))<|
 let b:=(Q2 e.Now f);
 cond (b.2 !=0) (
  some ((C2.mk 0 0 0 0 []),b.2))<|
 let c:=(A4B f e.W);
 Option.bind (A7c e.Ak c) fun d=>
 some ((C2.mk e.W e.K e.Cap f d),0)
def A5T (e:List A9) (f g:Int) (b:List A9) (a:Int):Option (((List A9)×Int)⊕(List A9)):=
 cond (decide (a<(e.length:Int))) (
  Option.bind (C1 e a) fun c=>
  let d:=(P6 f g c.T);
  cond d (
   ck (decide ((b.length+ [c].length)*16<=140737488355328))<|
   some (.inl ((b++ [c]),(A1 (a+1)))))<|
  some (.inl (b,(A1 (a+1)))))<|
 Option.map Sum.inr (some b)
def B0N (c:List A9) (d e:Int) (b:List A9) (a:Int):Option (List A9):=
 loop (fun (s:((List A9)×Int))=>A5T c d e s.1 s.2) (b,a)
def B1u (b:List A9) (c d:Int):Option (List A9):=
 Option.bind (A9V b c) fun a=>
 cond (!a) (
  some [])<|
 B0N b c d ([]:List A9) 0
def A59 (d:D0) (e:Int):Option (D0×Int):=
 Option.bind (X0 d) fun a=>
 cond (a !=0) (
  some ((D0.mk 0 0 0 []),a))<|
 let b:=(Q2 d.Now e);
 cond (b.2 !=0) (
  some ((D0.mk 0 0 0 []),b.2))<|
 Option.bind (B1u d.Bb e d.W) fun c=>
 some ((D0.mk d.W d.Cap e c),0)
def B1k (f g:Int) (a:List A7):Option ((List A7)⊕(List A7)):=
 Option.bind (gd (decide ((a.length:Int)>(1:Int))) (C1 a 1)) fun d=>
 let b:=(P6 f g d.T);
 cond ((decide ((a.length:Int)>(1:Int)))&&(!b)) (
  ck (decide (0<=(1:Int)/\1<=(a.length:Int)))<|
  some (.inl (a.drop ((1:Int)).toNat)))<|
 Option.map Sum.inr (Option.bind (gd ((a.length:Int)==(1:Int)) (C1 a 0)) fun e=>
 let c:=(P6 f g e.T);
 cond (((a.length:Int)==(1:Int))&&(!c)) (
  some [])<|
 ck (decide ((([]:List A7).length+a.length)*56<=140737488355328))<|
 some (([]:List A7)++a))
def B2O (b c:Int) (a:List A7):Option (List A7):=
 loop (fun (s:(List A7))=>B1k b c s) a
def A4v (a:List A7) (b c:Int):Option (List A7):=
 B2O b c a
def A6j (d:D3) (e:Int):Option (D3×Int):=
 Option.bind (A0i d) fun a=>
 cond (a !=0) (
  some ((D3.mk 0 0 0 0 0 0 []),a))<|
 let b:=(Q2 d.Now e);
 cond (b.2 !=0) (
  some ((D3.mk 0 0 0 0 0 0 []),b.2))<|
 Option.bind (A4v d.Bf e d.W) fun c=>
 some ((D3.mk d.Bo d.W d.K d.Cap e d.Bv c),0)
def A6k (d:D5) (e:Int):Option (D5×Int):=
 Option.bind (A0j d) fun a=>
 cond (a !=0) (
  some ((D5.mk 0 0 0 0 0 []),a))<|
 let b:=(Q2 d.Now e);
 cond (b.2 !=0) (
  some ((D5.mk 0 0 0 0 0 []),b.2))<|
 Option.bind (A4v d.Bf e d.W) fun c=>
 some ((D5.mk d.W d.K d.Cap e d.Bv c),0)
def A97 (e:F4) (f:Int):Option (F4×Int):=
 Option.bind (A14 e) fun a=>
 cond (a !=0) (
  some ((F4.mk 0 0 0 0 0 []),a))<|
 let b:=(Q2 e.Now f);
 cond (b.2 !=0) (
  some ((F4.mk 0 0 0 0 0 []),b.2))<|
 let c:=(A4B f e.W);
 Option.bind (A3v e.Ad c) fun d=>
 some ((F4.mk e.W e.K e.Cap e.Bs f d),0)
def K5 (l:A8) (k:Int) (h:D0) (a:E4) (b:F4) (c:D3) (d:D5) (e:E3) (i:Int) (j:List Int) (f:C4) (g:C2):Option (A8×Int):=
 cond (k !=0) (
  some ((A8.mk (E2.mk 0 0 0 0 0 0 0 0) (D0.mk 0 0 0 []) (E4.mk 0 0 0 0 []) (F4.mk 0 0 0 0 0 []) (D3.mk 0 0 0 0 0 0 []) (D5.mk 0 0 0 0 0 []) (E3.mk 0 0 0 []) (F6.mk 0 []) (C4.mk false 0 0 0 []) (E9.mk []) (B8.mk 0 0 0 []) (C2.mk 0 0 0 0 [])),k))<|
 some ((A8.mk l.Ao h a b c d e (F6.mk i j) f l.Ar l.Ai g),0)
def A4j (l:A8) (m:Int):Option (A8×Int):=
 Option.bind (J5 l) fun b=>
 cond (b !=0) (
  some ((A8.mk (E2.mk 0 0 0 0 0 0 0 0) (D0.mk 0 0 0 []) (E4.mk 0 0 0 0 []) (F4.mk 0 0 0 0 0 []) (D3.mk 0 0 0 0 0 0 []) (D5.mk 0 0 0 0 0 []) (E3.mk 0 0 0 []) (F6.mk 0 []) (C4.mk false 0 0 0 []) (E9.mk []) (B8.mk 0 0 0 []) (C2.mk 0 0 0 0 [])),b))<|
 cond (l.Ao.Bi==1) (
  Option.bind (A59 l.Aq m) fun j=>
  K5 l j.2 j.1 l.Ay l.Sum l.As l.Au l.Bm l.Ba.Now l.Ba.Bn l.Af l.Ab)<|
 cond (l.Ao.Bi==2) (
  Option.bind (A7h l.Ay m) fun c=>
  K5 l c.2 l.Aq c.1 l.Sum l.As l.Au l.Bm l.Ba.Now l.Ba.Bn l.Af l.Ab)<|
 cond (l.Ao.Bi==3) (
  Option.bind (A97 l.Sum m) fun d=>
  K5 l d.2 l.Aq l.Ay d.1 l.As l.Au l.Bm l.Ba.Now l.Ba.Bn l.Af l.Ab)<|
 cond (l.Ao.Bi==4) (
  Option.bind (A6j l.As m) fun e=>
  K5 l e.2 l.Aq l.Ay l.Sum e.1 l.Au l.Bm l.Ba.Now l.Ba.Bn l.Af l.Ab)<|
 cond (l.Ao.Bi==5) (
  Option.bind (A6k l.Au m) fun f=>
  K5 l f.2 l.Aq l.Ay l.Sum l.As f.1 l.Bm l.Ba.Now l.Ba.Bn l.Af l.Ab)<|
 cond (l.Ao.Bi==6) (
  Option.bind (A8q l.Bm m) fun g=>
  K5 l g.2 l.Aq l.Ay l.Sum l.As l.Au g.1 l.Ba.Now l.Ba.Bn l.Af l.Ab)<|
 cond (l.Ao.Bi==7) (
  Option.bind (A7k l.Ba m) fun a=>
  K5 l a.2 l.Aq l.Ay l.Sum l.As l.Au l.Bm a.1.Now a.1.Bn l.Af l.Ab)<|
 cond (l.Ao.Bi==8) (
  Option.bind (A46 l.Af m) fun h=>
  K5 l h.2 l.Aq l.Ay l.Sum l.As l.Au l.Bm l.Ba.Now l.Ba.Bn h.1 l.Ab)<|
 cond (l.Ao.Bi==11) (
  Option.bind (A4b l.Ab m) fun i=>
  K5 l i.2 l.Aq l.Ay l.Sum l.As l.Au l.Bm l.Ba.Now l.Ba.Bn l.Af i.1)<|
 let k:=(A2B m);
 cond (!k) (
  K5 l 3 l.Aq l.Ay l.Sum l.As l.Au l.Bm l.Ba.Now l.Ba.Bn l.Af l.Ab)<|
 K5 l b l.Aq l.Ay l.Sum l.As l.Au l.Bm l.Ba.Now l.Ba.Bn l.Af l.Ab
def A3C (h:D1) (b:List A6) (a:Int):Option (((List A6)×Int)⊕(Int×D1)):=
 cond (decide (a<((([]:List A6)++h.Ap.Ah).length:Int))) (
  Option.bind (C1 b a) fun g=>
  Option.bind (C1 b a) fun e=>
  Option.bind (A4j e.Ac h.command_.T) fun c=>
  cond (c.2 !=0) (
   some (.inr (c.2,h)))<|
  Option.bind (C1 b a) fun f=>
  Option.bind (C1 b a) fun d=>
  some (.inl ((b.set (a).toNat (A6.mk d.ID c.1)),(A1 (a+1)))))<|
 Option.map Sum.inr (some (0,(D1.mk (D7.mk h.command_.T h.Ap.Bd b) h.command_ h.reply_)))
def A8b (c:D1) (b:List A6) (a:Int):Option (Int×D1):=
 loop (fun (s:((List A6)×Int))=>A3C c s.1 s.2) (b,a)
def A3c (a:D1):Option (Int×D1):=
 cond ((decide (a.command_.T<a.Ap.Now))||(decide (a.command_.T>16777216))) (
  some (3,a))<|
 ck (decide ((([]:List A6).length+a.Ap.Ah.length)*640<=140737488355328))<|
 A8b a (([]:List A6)++a.Ap.Ah) 0
def W8 (g:Int) (a:E2) (c d:Int) (e:List Int) (b:T0) (f:List Int):Bool:=
 (((((((g==0)&&(a.Bi==0&&(a.Bo==0&&(a.W==0&&(a.K==0&&(a.Cap==0&&(a.P==0&&(a.Am==0&&(a.Bs==0&&true)))))))))&&(c==0))&&(d==0))&&((e.length:Int)==(0:Int)))&&(b.Op==0&&(b.A==0&&(b.B==0&&true))))&&((f.length:Int)==(0:Int)))
def A45 (b:O9) (a:Bool):Bool:=
 cond a (
  W8 b.ID b.Ao b.T b.V b.Az b.Bg b.Ax)<|
 cond (b.Op==8) (
  W8 b.ID b.Ao b.T b.V b.Az b.Bg [])<|
 false
def A8c (a:O9):Bool:=
 cond (a.Op==1) (
  W8 0 (E2.mk 0 0 0 0 0 0 0 0) a.T a.V a.Az a.Bg a.Ax)<|
 cond (a.Op==2) (
  W8 0 a.Ao a.T a.V a.Az a.Bg a.Ax)<|
 cond (a.Op==3) (
  W8 a.ID a.Ao 0 a.V a.Az a.Bg a.Ax)<|
 cond (a.Op==4) (
  W8 0 a.Ao 0 0 ([]:List Int) a.Bg a.Ax)<|
 cond (a.Op==5) (
  W8 0 a.Ao a.T a.V a.Az (T0.mk 0 0 0) a.Ax)<|
 cond (a.Op==6) (
  A45 a (a.Op==6))<|
 A45 a (a.Op==7)
def S2 (d:D7) (e:O9):Option (D7×G8):=
 Option.bind (O2 d) fun b=>
 cond (b !=0) (
  some (d,(G8.mk b (E7.mk (C8.mk (A5.mk 0 0) (A5.mk 0 0) (A5.mk 0 0)) ([]:List Int) (D9.mk (A2.mk 0 0) (A2.mk 0 0))) ([]:List Int) [])))<|
 let c:=(A8c e);
 cond (!c) (
  some (d,(G8.mk 1 (E7.mk (C8.mk (A5.mk 0 0) (A5.mk 0 0) (A5.mk 0 0)) ([]:List Int) (D9.mk (A2.mk 0 0) (A2.mk 0 0))) ([]:List Int) [])))<|
 cond (e.Op==1) (
  Option.bind (U3 (D1.mk d e (G8.mk 0 (E7.mk (C8.mk (A5.mk 0 0) (A5.mk 0 0) (A5.mk 0 0)) ([]:List Int) (D9.mk (A2.mk 0 0) (A2.mk 0 0))) ([]:List Int) []))) fun a=>
  cond (a.1 !=0) (
   some (d,(G8.mk a.1 (E7.mk (C8.mk (A5.mk 0 0) (A5.mk 0 0) (A5.mk 0 0)) ([]:List Int) (D9.mk (A2.mk 0 0) (A2.mk 0 0))) ([]:List Int) [])))<|
  some (a.2.Ap,a.2.reply_))<|
 cond (e.Op==2) (
  Option.bind (A29 (D1.mk d e (G8.mk 0 (E7.mk (C8.mk (A5.mk 0 0) (A5.mk 0 0) (A5.mk 0 0)) ([]:List Int) (D9.mk (A2.mk 0 0) (A2.mk 0 0))) ([]:List Int) []))) fun a=>
  cond (a.1 !=0) (
   some (d,(G8.mk a.1 (E7.mk (C8.mk (A5.mk 0 0) (A5.mk 0 0) (A5.mk 0 0)) ([]:List Int) (D9.mk (A2.mk 0 0) (A2.mk 0 0))) ([]:List Int) [])))<|
  some (a.2.Ap,a.2.reply_))<|
 cond (e.Op==3) (
  Option.bind (A3c (D1.mk d e (G8.mk 0 (E7.mk (C8.mk (A5.mk 0 0) (A5.mk 0 0) (A5.mk 0 0)) ([]:List Int) (D9.mk (A2.mk 0 0) (A2.mk 0 0))) ([]:List Int) []))) fun a=>
  cond (a.1 !=0) (
   some (d,(G8.mk a.1 (E7.mk (C8.mk (A5.mk 0 0) (A5.mk 0 0) (A5.mk 0 0)) ([]:List Int) (D9.mk (A2.mk 0 0) (A2.mk 0 0))) ([]:List Int) [])))<|
  some (a.2.Ap,a.2.reply_))<|
 cond (e.Op==4) (
  Option.bind (A33 (D1.mk d e (G8.mk 0 (E7.mk (C8.mk (A5.mk 0 0) (A5.mk 0 0) (A5.mk 0 0)) ([]:List Int) (D9.mk (A2.mk 0 0) (A2.mk 0 0))) ([]:List Int) []))) fun a=>
  cond (a.1 !=0) (
   some (d,(G8.mk a.1 (E7.mk (C8.mk (A5.mk 0 0) (A5.mk 0 0) (A5.mk 0 0)) ([]:List Int) (D9.mk (A2.mk 0 0) (A2.mk 0 0))) ([]:List Int) [])))<|
  some (a.2.Ap,a.2.reply_))<|
 cond (e.Op==5) (
  Option.bind (A34 (D1.mk d e (G8.mk 0 (E7.mk (C8.mk (A5.mk 0 0) (A5.mk 0 0) (A5.mk 0 0)) ([]:List Int) (D9.mk (A2.mk 0 0) (A2.mk 0 0))) ([]:List Int) []))) fun a=>
  cond (a.1 !=0) (
   some (d,(G8.mk a.1 (E7.mk (C8.mk (A5.mk 0 0) (A5.mk 0 0) (A5.mk 0 0)) ([]:List Int) (D9.mk (A2.mk 0 0) (A2.mk 0 0))) ([]:List Int) [])))<|
  some (a.2.Ap,a.2.reply_))<|
 cond (e.Op==6) (
  Option.bind (A0m (D1.mk d e (G8.mk 0 (E7.mk (C8.mk (A5.mk 0 0) (A5.mk 0 0) (A5.mk 0 0)) ([]:List Int) (D9.mk (A2.mk 0 0) (A2.mk 0 0))) ([]:List Int) []))) fun a=>
  cond (a.1 !=0) (
   some (d,(G8.mk a.1 (E7.mk (C8.mk (A5.mk 0 0) (A5.mk 0 0) (A5.mk 0 0)) ([]:List Int) (D9.mk (A2.mk 0 0) (A2.mk 0 0))) ([]:List Int) [])))<|
  some (a.2.Ap,a.2.reply_))<|
 cond (e.Op==7) (
  Option.bind (A3b (D1.mk d e (G8.mk 0 (E7.mk (C8.mk (A5.mk 0 0) (A5.mk 0 0) (A5.mk 0 0)) ([]:List Int) (D9.mk (A2.mk 0 0) (A2.mk 0 0))) ([]:List Int) []))) fun a=>
  cond (a.1 !=0) (
   some (d,(G8.mk a.1 (E7.mk (C8.mk (A5.mk 0 0) (A5.mk 0 0) (A5.mk 0 0)) ([]:List Int) (D9.mk (A2.mk 0 0) (A2.mk 0 0))) ([]:List Int) [])))<|
  some (a.2.Ap,a.2.reply_))<|
 cond (e.Op==8) (
  Option.bind (A3a (D1.mk d e (G8.mk 0 (E7.mk (C8.mk (A5.mk 0 0) (A5.mk 0 0) (A5.mk 0 0)) ([]:List Int) (D9.mk (A2.mk 0 0) (A2.mk 0 0))) ([]:List Int) []))) fun a=>
  cond (a.1 !=0) (
   some (d,(G8.mk a.1 (E7.mk (C8.mk (A5.mk 0 0) (A5.mk 0 0) (A5.mk 0 0)) ([]:List Int) (D9.mk (A2.mk 0 0) (A2.mk 0 0))) ([]:List Int) [])))<|
  some (a.2.Ap,a.2.reply_))<|
 none
def B9M (a:Int):(D7×Int):=
 cond ((decide (a<1))||(decide (a>64))) (
  ((D7.mk 0 0 []),1))<|
 ((D7.mk 0 a []),0)
def A6Y:Option Bool:=
 let a:=(B9M 1);
 Option.bind (S2 a.1 (O9.mk 1 7 (E2.mk 6 0 0 0 0 0 0 0) 0 0 ([]:List Int) (T0.mk 0 0 0) [])) fun b=>
 Option.bind (S2 b.1 (O9.mk 6 0 (E2.mk 0 0 0 0 0 0 0 0) 0 0 ([]:List Int) (T0.mk 0 0 0) [])) fun c=>
 Option.bind (gd (((a.2==0)&&(b.2.Code==0))&&((c.2.Br.length:Int)==(1:Int))) (C1 c.2.Br 0)) fun d=>
 some ((((a.2==0)&&(b.2.Code==0))&&((c.2.Br.length:Int)==(1:Int)))&&(d==7))
def A3G (c:A6) (d b a:Int):Option ((Int×Int)⊕((Int×Int)⊕Bool)):=
 cond (decide (a<(c.Ac.Ar.Am.length:Int))) (
  Option.bind (C1 c.Ac.Ar.Am a) fun e=>
  some (.inl ((A1 (b+(e.Be.length:Int))),(A1 (a+1)))))<|
 Option.map Sum.inr (some (.inl (b,(A1 (d+1)))))
def B6f (d:A6) (b c a:Int):Option ((Int×Int)⊕Bool):=
 loop (fun (s:(Int×Int))=>A3G d b s.1 s.2) (c,a)
def A4u (b:A6) (d c a:Int):Option ((Int×Int)⊕((Int×Int)⊕Bool)):=
 cond (decide (a<(b.Ac.Ab.Ak.length:Int))) (
  Option.bind (C1 b.Ac.Ab.Ak a) fun e=>
  some (.inl ((A1 (c+(e.Bh.Ae.length:Int))),(A1 (a+1)))))<|
 Option.map Sum.inr (B6f b d c 0)
def B2M (c:A6) (a d b:Int):Option ((Int×Int)⊕Bool):=
 loop (fun (s:(Int×Int))=>A4u c a s.1 s.2) (d,b)
def A7m (d:D7) (c b:Int):Option ((Int×Int)⊕Bool):=
 cond (decide (b<(d.Ah.length:Int))) (
  Option.bind (C1 d.Ah b) fun a=>
  B2M a b (A1 ((A1 ((A1 ((A1 ((A1 ((A1 ((A1 ((A1 ((A1 ((A1 ((A1 (c+(a.Ac.Aq.Bb.length:Int)))+(a.Ac.Ay.Ad.length:Int)))+(a.Ac.Sum.Ad.length:Int)))+(a.Ac.As.Bf.length:Int)))+(a.Ac.Au.Bf.length:Int)))+(a.Ac.Bm.Ag.length:Int)))+(a.Ac.Ba.Bn.length:Int)))+(a.Ac.Af.Bb.length:Int)))+(a.Ac.Ai.Av.length:Int)))+(a.Ac.Ab.Ak.length:Int)))+(a.Ac.Ar.Am.length:Int))) 0)<|
 Option.map Sum.inr (some ((decide ((d.Ah.length:Int)<=(70:Int)))&&(decide (c<=400))))
def B7b (c:D7) (b a:Int):Option Bool:=
 loop (fun (s:(Int×Int))=>A7m c s.1 s.2) (b,a)
def B3O (a:D7):Option Bool:=
 B7b a 0 0
def V3 (d e:List Int) (a:Int):Option (Int⊕Bool):=
 cond (decide (a<(d.length:Int))) (
  Option.bind (C1 d a) fun b=>
  Option.bind (C1 e a) fun c=>
  cond (b !=c) (
   some (.inr false))<|
  some (.inl (A1 (a+1))))<|
 Option.map Sum.inr (some true)
def A1O (b c:List Int) (a:Int):Option Bool:=
 loop (fun (s:Int)=>V3 b c s) a
def U1 (a b:List Int):Option Bool:=
 cond ((a.length:Int) !=(b.length:Int)) (
  some false)<|
 A1O a b 0
def A8G (d b:List Int) (a:Int):Option (((List Int)×Int)⊕(List Int)):=
 cond (decide (a<(d.length:Int))) (
  Option.bind (C1 d a) fun c=>
  ck (decide ((b.length+ [(A1 c)].length)*8<=140737488355328))<|
  some (.inl ((b++ [(A1 c)]),(A1 (a+1)))))<|
 Option.map Sum.inr (some b)
def B4Y (c b:List Int) (a:Int):Option (List Int):=
 loop (fun (s:((List Int)×Int))=>A8G c s.1 s.2) (b,a)
def A96 (a:List Int):Option (List Int):=
 B4Y a [(a.length:Int)] 0
def A8H (a:List Int):Option (List Int):=
 ck (decide (([(a.length:Int)].length+a.length)*8<=140737488355328))<|
 some ([(a.length:Int)]++a)
def A63 (d:G8):Option (List Int):=
 Option.bind (A8H d.Aj.Aw) fun a=>
 ck (decide (([d.Code,d.Aj.Al.Lo.Bu,d.Aj.Al.Lo.Bp,d.Aj.Al.Bq.Bu,d.Aj.Al.Bq.Bp,d.Aj.Al.Hi.Bu,d.Aj.Al.Hi.Bp].length+a.length)*8<=140737488355328))<|
 ck (decide ((([d.Code,d.Aj.Al.Lo.Bu,d.Aj.Al.Lo.Bp,d.Aj.Al.Bq.Bu,d.Aj.Al.Bq.Bp,d.Aj.Al.Hi.Bu,d.Aj.Al.Hi.Bp]++a).length+ [(A1 d.Aj.Aa.Bu.Hi),(A1 d.Aj.Aa.Bu.Lo),(A1 d.Aj.Aa.Bp.Hi),(A1 d.Aj.Aa.Bp.Lo)].length)*8<=140737488355328))<|
 Option.bind (A8H d.Br) fun b=>
 ck (decide (((([d.Code,d.Aj.Al.Lo.Bu,d.Aj.Al.Lo.Bp,d.Aj.Al.Bq.Bu,d.Aj.Al.Bq.Bp,d.Aj.Al.Hi.Bu,d.Aj.Al.Hi.Bp]++a)++ [(A1 d.Aj.Aa.Bu.Hi),(A1 d.Aj.Aa.Bu.Lo),(A1 d.Aj.Aa.Bp.Hi),(A1 d.Aj.Aa.Bp.Lo)]).length+b.length)*8<=140737488355328))<|
 Option.bind (A96 d.Ax) fun c=>
 ck (decide ((((([d.Code,d.Aj.Al.Lo.Bu,d.Aj.Al.Lo.Bp,d.Aj.Al.Bq.Bu,d.Aj.Al.Bq.Bp,d.Aj.Al.Hi.Bu,d.Aj.Al.Hi.Bp]++a)++ [(A1 d.Aj.Aa.Bu.Hi),(A1 d.Aj.Aa.Bu.Lo),(A1 d.Aj.Aa.Bp.Hi),(A1 d.Aj.Aa.Bp.Lo)])++b).length+c.length)*8<=140737488355328))<|
 some (((([d.Code,d.Aj.Al.Lo.Bu,d.Aj.Al.Lo.Bp,d.Aj.Al.Bq.Bu,d.Aj.Al.Bq.Bp,d.Aj.Al.Hi.Bu,d.Aj.Al.Hi.Bp]++a)++ [(A1 d.Aj.Aa.Bu.Hi),(A1 d.Aj.Aa.Bu.Lo),(A1 d.Aj.Aa.Bp.Hi),(A1 d.Aj.Aa.Bp.Lo)])++b)++c)
def A1l (d e:G8):Option Bool:=
 Option.bind (A63 d) fun a=>
 Option.bind (A63 e) fun b=>
 Option.bind (U1 a b) fun c=>
 some c
def A4N (d e:List A9) (a:Int):Option (Int⊕Bool):=
 cond (decide (a<(d.length:Int))) (
  Option.bind (C1 d a) fun b=>
  Option.bind (C1 e a) fun c=>
  cond (!(b.T==c.T&&(b.V==c.V&&true))) (
   some (.inr false))<|
  some (.inl (A1 (a+1))))<|
 Option.map Sum.inr (some true)
def A5H (b c:List A9) (a:Int):Option Bool:=
 loop (fun (s:Int)=>A4N b c s) a
def A2T (a b:List A9):Option Bool:=
 cond ((a.length:Int) !=(b.length:Int)) (
  some false)<|
 A5H a b 0
def B1I (b c:D0):Option Bool:=
 Option.bind (gd (((b.W==c.W)&&(b.Cap==c.Cap))&&(b.Now==c.Now)) (A2T b.Bb c.Bb)) fun a=>
 some ((((b.W==c.W)&&(b.Cap==c.Cap))&&(b.Now==c.Now))&&a)
def A6b (d e:List A3) (a:Int):Option (Int⊕Bool):=
 cond (decide (a<(d.length:Int))) (
  Option.bind (C1 d a) fun b=>
  Option.bind (C1 e a) fun c=>
  cond (!(b.T==c.T&&(b.Bc==c.Bc&&true))) (
   some (.inr false))<|
  some (.inl (A1 (a+1))))<|
 Option.map Sum.inr (some true)
def B6k (b c:List A3) (a:Int):Option Bool:=
 loop (fun (s:Int)=>A6b b c s) a
def A8z (a b:List A3):Option Bool:=
 cond ((a.length:Int) !=(b.length:Int)) (
  some false)<|
 B6k a b 0
def B1J (b c:E4):Option Bool:=
 Option.bind (gd ((((b.W==c.W)&&(b.K==c.K))&&(b.Cap==c.Cap))&&(b.Now==c.Now)) (A8z b.Ad c.Ad)) fun a=>
 some (((((b.W==c.W)&&(b.K==c.K))&&(b.Cap==c.Cap))&&(b.Now==c.Now))&&a)
def B1K (b c:F4):Option Bool:=
 Option.bind (gd (((((b.W==c.W)&&(b.K==c.K))&&(b.Cap==c.Cap))&&(b.Bs==c.Bs))&&(b.Now==c.Now)) (A8z b.Ad c.Ad)) fun a=>
 some ((((((b.W==c.W)&&(b.K==c.K))&&(b.Cap==c.Cap))&&(b.Bs==c.Bs))&&(b.Now==c.Now))&&a)
def A2e (d e:List A7) (c:Int):Option (Int⊕Bool):=
 cond (decide (c<(d.length:Int))) (
  Option.bind (C1 d c) fun a=>
  Option.bind (C1 e c) fun b=>
  cond (!(a.Bv==b.Bv&&(a.T==b.T&&(a.N==b.N&&(a.S==b.S&&(a.Q==b.Q&&(a.Bt==b.Bt&&(a.Bs==b.Bs&&true)))))))) (
   some (.inr false))<|
  some (.inl (A1 (c+1))))<|
 Option.map Sum.inr (some true)
def B0u (b c:List A7) (a:Int):Option Bool:=
 loop (fun (s:Int)=>A2e b c s) a
def A2U (a b:List A7):Option Bool:=
 cond ((a.length:Int) !=(b.length:Int)) (
  some false)<|
 B0u a b 0
def B1L (b c:D3):Option Bool:=
 Option.bind (gd ((((((b.Bo==c.Bo)&&(b.W==c.W))&&(b.K==c.K))&&(b.Cap==c.Cap))&&(b.Now==c.Now))&&(b.Bv==c.Bv)) (A2U b.Bf c.Bf)) fun a=>
 some (((((((b.Bo==c.Bo)&&(b.W==c.W))&&(b.K==c.K))&&(b.Cap==c.Cap))&&(b.Now==c.Now))&&(b.Bv==c.Bv))&&a)
def B1M (b c:D5):Option Bool:=
 Option.bind (gd (((((b.W==c.W)&&(b.K==c.K))&&(b.Cap==c.Cap))&&(b.Now==c.Now))&&(b.Bv==c.Bv)) (A2U b.Bf c.Bf)) fun a=>
 some ((((((b.W==c.W)&&(b.K==c.K))&&(b.Cap==c.Cap))&&(b.Now==c.Now))&&(b.Bv==c.Bv))&&a)
def A2W (d e:List A2) (a:Int):Option (Int⊕Bool):=
 cond (decide (a<(d.length:Int))) (
  Option.bind (C1 d a) fun b=>
  Option.bind (C1 e a) fun c=>
  cond (!(b.Hi==c.Hi&&(b.Lo==c.Lo&&true))) (
   some (.inr false))<|
  some (.inl (A1 (a+1))))<|
 Option.map Sum.inr (some true)
def B1n (b c:List A2) (a:Int):Option Bool:=
 loop (fun (s:Int)=>A2W b c s) a
def A6c (a b:List A2):Option Bool:=
 cond ((a.length:Int) !=(b.length:Int)) (
  some false)<|
 B1n a b 0
def B1N (b c:E3):Option Bool:=
 Option.bind (gd (((b.P==c.P)&&(b.Bj==c.Bj))&&(b.Now==c.Now)) (A6c b.Ag c.Ag)) fun a=>
 some ((((b.P==c.P)&&(b.Bj==c.Bj))&&(b.Now==c.Now))&&a)
def B1O (b c:F6):Option Bool:=
 Option.bind (gd (b.Now==c.Now) (U1 b.Bn c.Bn)) fun a=>
 some ((b.Now==c.Now)&&a)
def B1P (b c:C4):Option Bool:=
 Option.bind (gd ((((b.Bs==c.Bs)&&(b.W==c.W))&&(b.Cap==c.Cap))&&(b.Now==c.Now)) (A2T b.Bb c.Bb)) fun a=>
 some (((((b.Bs==c.Bs)&&(b.W==c.W))&&(b.Cap==c.Cap))&&(b.Now==c.Now))&&a)
def A9z (d e:B7) (a:Int):Option (Int⊕Bool):=
 cond (decide (a<(d.Be.length:Int))) (
  Option.bind (C1 d.Be a) fun b=>
  Option.bind (C1 e.Be a) fun c=>
  cond (!(b.I==c.I&&(b.V==c.V&&true))) (
   some (.inr false))<|
  some (.inl (A1 (a+1))))<|
 Option.map Sum.inr (some true)
def B0U (b c:B7) (a:Int):Option Bool:=
 loop (fun (s:Int)=>A9z b c s) a
def B1Q (a b:B7):Option Bool:=
 cond (((((a.W !=b.W)||(a.Cap !=b.Cap))||(a.I !=b.I))||(a.Bl !=b.Bl))||((a.Be.length:Int) !=(b.Be.length:Int))) (
  some false)<|
 B0U a b 0
def A9A (e f:E9) (a:Int):Option (Int⊕Bool):=
 cond (decide (a<(e.Am.length:Int))) (
  Option.bind (C1 e.Am a) fun c=>
  Option.bind (C1 f.Am a) fun d=>
  Option.bind (B1Q c d) fun b=>
  cond (!b) (
   some (.inr false))<|
  some (.inl (A1 (a+1))))<|
 Option.map Sum.inr (some true)
def B0V (b c:E9) (a:Int):Option Bool:=
 loop (fun (s:Int)=>A9A b c s) a
def B1R (a b:E9):Option Bool:=
 cond ((a.Am.length:Int) !=(b.Am.length:Int)) (
  some false)<|
 B0V a b 0
def A6d (d e:B8) (a:Int):Option (Int⊕Bool):=
 cond (decide (a<(d.Av.length:Int))) (
  Option.bind (C1 d.Av a) fun b=>
  Option.bind (C1 e.Av a) fun c=>
  cond (!(b.V==c.V&&(b.G==c.G&&(b.D==c.D&&true)))) (
   some (.inr false))<|
  some (.inl (A1 (a+1))))<|
 Option.map Sum.inr (some true)
def B6l (b c:B8) (a:Int):Option Bool:=
 loop (fun (s:Int)=>A6d b c s) a
def B1S (a b:B8):Option Bool:=
 cond ((((a.K !=b.K)||(a.Cap !=b.Cap))||(a.N !=b.N))||((a.Av.length:Int) !=(b.Av.length:Int))) (
  some false)<|
 B6l a b 0
def A6e (d e:D4) (a:Int):Option (Int⊕Bool):=
 cond (decide (a<(d.Ae.length:Int))) (
  Option.bind (C1 d.Ae a) fun b=>
  Option.bind (C1 e.Ae a) fun c=>
  cond (!(b.V==c.V&&(b.Bt==c.Bt&&(b.Bs==c.Bs&&true)))) (
   some (.inr false))<|
  some (.inl (A1 (a+1))))<|
 Option.map Sum.inr (some true)
def B6m (b c:D4) (a:Int):Option Bool:=
 loop (fun (s:Int)=>A6e b c s) a
def B1T (a b:D4):Option Bool:=
 cond ((a.N !=b.N)||((a.Ae.length:Int) !=(b.Ae.length:Int))) (
  some false)<|
 B6m a b 0
def A6f (k l:List B2) (a:Int):Option (Int⊕Bool):=
 cond (decide (a<(k.length:Int))) (
  Option.bind (C1 k a) fun b=>
  Option.bind (C1 l a) fun c=>
  Option.bind (gd (!(b.T !=c.T)) (C1 k a)) fun d=>
  Option.bind (gd (!(b.T !=c.T)) (C1 l a)) fun e=>
  Option.bind (gd (!((b.T !=c.T)||(d.Bk !=e.Bk))) (C1 k a)) fun f=>
  Option.bind (gd (!((b.T !=c.T)||(d.Bk !=e.Bk))) (C1 l a)) fun g=>
  Option.bind (gd (!(((b.T !=c.T)||(d.Bk !=e.Bk))||(f.Bc !=g.Bc))) (C1 k a)) fun h=>
  Option.bind (gd (!(((b.T !=c.T)||(d.Bk !=e.Bk))||(f.Bc !=g.Bc))) (C1 l a)) fun i=>
  Option.bind (gd (!(((b.T !=c.T)||(d.Bk !=e.Bk))||(f.Bc !=g.Bc))) (B1T h.Bh i.Bh)) fun j=>
  cond ((((b.T !=c.T)||(d.Bk !=e.Bk))||(f.Bc !=g.Bc))||(!j)) (
   some (.inr false))<|
  some (.inl (A1 (a+1))))<|
 Option.map Sum.inr (some true)
def B6n (b c:List B2) (a:Int):Option Bool:=
 loop (fun (s:Int)=>A6f b c s) a
def B1U (a b:List B2):Option Bool:=
 cond ((a.length:Int) !=(b.length:Int)) (
  some false)<|
 B6n a b 0
def B1V (b c:C2):Option Bool:=
 Option.bind (gd ((((b.W==c.W)&&(b.K==c.K))&&(b.Cap==c.Cap))&&(b.Now==c.Now)) (B1U b.Ak c.Ak)) fun a=>
 some (((((b.W==c.W)&&(b.K==c.K))&&(b.Cap==c.Cap))&&(b.Now==c.Now))&&a)
def A8C (l m:A8):Option Bool:=
 Option.bind (gd (l.Ao.Bi==m.Ao.Bi&&(l.Ao.Bo==m.Ao.Bo&&(l.Ao.W==m.Ao.W&&(l.Ao.K==m.Ao.K&&(l.Ao.Cap==m.Ao.Cap&&(l.Ao.P==m.Ao.P&&(l.Ao.Am==m.Ao.Am&&(l.Ao.Bs==m.Ao.Bs&&true)))))))) (B1I l.Aq m.Aq)) fun a=>
 Option.bind (gd ((l.Ao.Bi==m.Ao.Bi&&(l.Ao.Bo==m.Ao.Bo&&(l.Ao.W==m.Ao.W&&(l.Ao.K==m.Ao.K&&(l.Ao.Cap==m.Ao.Cap&&(l.Ao.P==m.Ao.P&&(l.Ao.Am==m.Ao.Am&&(l.Ao.Bs==m.Ao.Bs&&true))))))))&&a) (B1J l.Ay m.Ay)) fun b=>
 Option.bind (gd (((l.Ao.Bi==m.Ao.Bi&&(l.Ao.Bo==m.Ao.Bo&&(l.Ao.W==m.Ao.W&&(l.Ao.K==m.Ao.K&&(l.Ao.Cap==m.Ao.Cap&&(l.Ao.P==m.Ao.P&&(l.Ao.Am==m.Ao.Am&&(l.Ao.Bs==m.Ao.Bs&&true))))))))&&a)&&b) (B1K l.Sum m.Sum)) fun c=>
 Option.bind (gd ((((l.Ao.Bi==m.Ao.Bi&&(l.Ao.Bo==m.Ao.Bo&&(l.Ao.W==m.Ao.W&&(l.Ao.K==m.Ao.K&&(l.Ao.Cap==m.Ao.Cap&&(l.Ao.P==m.Ao.P&&(l.Ao.Am==m.Ao.Am&&(l.Ao.Bs==m.Ao.Bs&&true))))))))&&a)&&b)&&c) (B1L l.As m.As)) fun d=>
 Option.bind (gd (((((l.Ao.Bi==m.Ao.Bi&&(l.Ao.Bo==m.Ao.Bo&&(l.Ao.W==m.Ao.W&&(l.Ao.K==m.Ao.K&&(l.Ao.Cap==m.Ao.Cap&&(l.Ao.P==m.Ao.P&&(l.Ao.Am==m.Ao.Am&&(l.Ao.Bs==m.Ao.Bs&&true))))))))&&a)&&b)&&c)&&d) (B1M l.Au m.Au)) fun e=>
 Option.bind (gd ((((((l.Ao.Bi==m.Ao.Bi&&(l.Ao.Bo==m.Ao.Bo&&(l.Ao.W==m.Ao.W&&(l.Ao.K==m.Ao.K&&(l.Ao.Cap==m.Ao.Cap&&(l.Ao.P==m.Ao.P&&(l.Ao.Am==m.Ao.Am&&(l.Ao.Bs==m.Ao.Bs&&true))))))))&&a)&&b)&&c)&&d)&&e) (B1N l.Bm m.Bm)) fun f=>
 Option.bind (gd (((((((l.Ao.Bi==m.Ao.Bi&&(l.Ao.Bo==m.Ao.Bo&&(l.Ao.W==m.Ao.W&&(l.Ao.K==m.Ao.K&&(l.Ao.Cap==m.Ao.Cap&&(l.Ao.P==m.Ao.P&&(l.Ao.Am==m.Ao.Am&&(l.Ao.Bs==m.Ao.Bs&&true))))))))&&a)&&b)&&c)&&d)&&e)&&f) (B1O l.Ba m.Ba)) fun g=>
 Option.bind (gd ((((((((l.Ao.Bi==m.Ao.Bi&&(l.Ao.Bo==m.Ao.Bo&&(l.Ao.W==m.Ao.W&&(l.Ao.K==m.Ao.K&&(l.Ao.Cap==m.Ao.Cap&&(l.Ao.P==m.Ao.P&&(l.Ao.Am==m.Ao.Am&&(l.Ao.Bs==m.Ao.Bs&&true))))))))&&a)&&b)&&c)&&d)&&e)&&f)&&g) (B1P l.Af m.Af)) fun h=>
 Option.bind (gd (((((((((l.Ao.Bi==m.Ao.Bi&&(l.Ao.Bo==m.Ao.Bo&&(l.Ao.W==m.Ao.W&&(l.Ao.K==m.Ao.K&&(l.Ao.Cap==m.Ao.Cap&&(l.Ao.P==m.Ao.P&&(l.Ao.Am==m.Ao.Am&&(l.Ao.Bs==m.Ao.Bs&&true))))))))&&a)&&b)&&c)&&d)&&e)&&f)&&g)&&h) (B1R l.Ar m.Ar)) fun i=>
 Option.bind (gd ((((((((((l.Ao.Bi==m.Ao.Bi&&(l.Ao.Bo==m.Ao.Bo&&(l.Ao.W==m.Ao.W&&(l.Ao.K==m.Ao.K&&(l.Ao.Cap==m.Ao.Cap&&(l.Ao.P==m.Ao.P&&(l.Ao.Am==m.Ao.Am&&(l.Ao.Bs==m.Ao.Bs&&true))))))))&&a)&&b)&&c)&&d)&&e)&&f)&&g)&&h)&&i) (B1S l.Ai m.Ai)) fun j=>
 Option.bind (gd (((((((((((l.Ao.Bi==m.Ao.Bi&&(l.Ao.Bo==m.Ao.Bo&&(l.Ao.W==m.Ao.W&&(l.Ao.K==m.Ao.K&&(l.Ao.Cap==m.Ao.Cap&&(l.Ao.P==m.Ao.P&&(l.Ao.Am==m.Ao.Am&&(l.Ao.Bs==m.Ao.Bs&&true))))))))&&a)&&b)&&c)&&d)&&e)&&f)&&g)&&h)&&i)&&j) (B1V l.Ab m.Ab)) fun k=>
 some ((((((((((((l.Ao.Bi==m.Ao.Bi&&(l.Ao.Bo==m.Ao.Bo&&(l.Ao.W==m.Ao.W&&(l.Ao.K==m.Ao.K&&(l.Ao.Cap==m.Ao.Cap&&(l.Ao.P==m.Ao.P&&(l.Ao.Am==m.Ao.Am&&(l.Ao.Bs==m.Ao.Bs&&true))))))))&&a)&&b)&&c)&&d)&&e)&&f)&&g)&&h)&&i)&&j)&&k)
def C2T (d:List A6) (a:List Int) (b:Int):Option (((List Int)×Int)⊕(List Int)):=
 cond (decide (b<(d.length:Int))) (
  Option.bind (C1 d b) fun c=>
  ck (decide ((a.length+ [c.ID].length)*8<=140737488355328))<|
  some (.inl ((a++ [c.ID]),(A1 (b+1)))))<|
 Option.map Sum.inr (some a)
def C4H (c:List A6) (a:List Int) (b:Int):Option (List Int):=
 loop (fun (s:((List Int)×Int))=>C2T c s.1 s.2) (a,b)
def B3U (a:List A6):Option (List Int):=
 C4H a ([]:List Int) 0
def A6g (e f:List A6) (a:Int):Option (Int⊕Bool):=
 cond (decide (a<(e.length:Int))) (
  Option.bind (C1 e a) fun c=>
  Option.bind (C1 f a) fun d=>
  Option.bind (A8C c.Ac d.Ac) fun b=>
  cond (!b) (
   some (.inr false))<|
  some (.inl (A1 (a+1))))<|
 Option.map Sum.inr (some true)
def B6o (b c:List A6) (a:Int):Option Bool:=
 loop (fun (s:Int)=>A6g b c s) a
def B1W (d e:List A6):Option Bool:=
 Option.bind (B3U d) fun a=>
 Option.bind (B3U e) fun b=>
 Option.bind (U1 a b) fun c=>
 cond (!c) (
  some false)<|
 B6o d e 0
def A8J (b c:D7):Option Bool:=
 Option.bind (gd ((b.Now==c.Now)&&(b.Bd==c.Bd)) (B1W b.Ah c.Ah)) fun a=>
 some (((b.Now==c.Now)&&(b.Bd==c.Bd))&&a)
def A4K (g:D7) (h:O9):Option Bool:=
 Option.bind (B3O g) fun e=>
 cond (((!e)||(decide ((h.Az.length:Int)>(100:Int))))||(decide ((h.Ax.length:Int)>(3000:Int)))) (
  Option.bind A6Y fun f=>
  some f)<|
 Option.bind (S2 g h) fun a=>
 Option.bind (gd (!(a.2.Code==0)) (A8J a.1 g)) fun b=>
 Option.bind (gd ((!(a.2.Code==0))&&b) (A1l a.2 (G8.mk a.2.Code (E7.mk (C8.mk (A5.mk 0 0) (A5.mk 0 0) (A5.mk 0 0)) ([]:List Int) (D9.mk (A2.mk 0 0) (A2.mk 0 0))) ([]:List Int) []))) fun c=>
 Option.bind (gd ((a.2.Code==0)||(b&&c)) A6Y) fun d=>
 some (((a.2.Code==0)||(b&&c))&&d)
def A7X (a:Int):Int:=
 cond (decide (a<0)) (
  (A4 ((A4 (IntKind.i64.wrap (0-(A1 (a+(1:Int))))))+(1:Int))))<|
 (A4 a)
def A6a (a b:Int):Option ((Int×Int)⊕Int):=
 cond (decide (a>0)) (
  some (.inl ((A1 (Int.tdiv a 2)),(A1 (b+1)))))<|
 Option.map Sum.inr (some b)
def A7r (a b:Int):Option Int:=
 loop (fun (s:(Int×Int))=>A6a s.1 s.2) (a,b)
def B5L (a:Int):Option Int:=
 A7r a 0
def B0t (b a:Int):(Int×Bool):=
 cond (((decide (a<0))&&(decide (b>(A1 (9223372036854775807+a)))))||((decide (a>0))&&(decide (b<(A1 ((-9223372036854775808:Int)+a)))))) (
  (0,false))<|
 ((A1 (b-a)),true)
def A4y (a b:A2):Int:=
 cond ((decide (a.Hi<b.Hi))||((a.Hi==b.Hi)&&(decide (a.Lo<b.Lo)))) (
  (-1:Int))<|
 cond (a.Hi==b.Hi&&(a.Lo==b.Lo&&true)) (
  0)<|
 1
def S5 (a:Int):A2:=
 (A2.mk 0 a)
def R9 (b c:Int):A2:=
 let a:=(Q7 b c);
 (A2.mk a.1 a.2)
def C2s (b:A2) (a:Int):Option Int:=
 cond (decide (a>=64)) (
  ck (decide (0<=(A4 (A1 (a-64)))))<|
  some (O8 .u64 (G1 .u64 b.Hi (A4 (A1 (a-64)))) 1))<|
 ck (decide (0<=(A4 a)))<|
 some (O8 .u64 (G1 .u64 b.Lo (A4 a)) 1)
def B22 (a:A2) (b:Int):(A2×Int):=
 ((A2.mk (O0 .u64 (E8 .u64 a.Hi 1) (G1 .u64 a.Lo 63)) (O0 .u64 (E8 .u64 a.Lo 1) b)),(G1 .u64 a.Hi 63))
def I7 (a:Int):Bool:=
 ((decide (a>=0))&&(decide (a<=16777216)))
def A0h (a:Int):Bool:=
 ((decide (a>=1))&&(decide (a<=1048576)))
def I1 (d f e:Int):Bool:=
 let a:=(I7 d);
 let b:=(A0h f);
 let c:=(I7 e);
 ((((a&&b)&&c)&&(decide (e>(A1 (d-f)))))&&(decide (e<=d)))
def A8y (d:List A9) (e a:Int):Option (Int⊕Bool):=
 cond (decide (a<(d.length:Int))) (
  Option.bind (C1 d a) fun b=>
  Option.bind (gd ((!((decide (b.T<0))||(decide (b.T>e))))&&(decide (a>0))) (C1 d (A1 (a-1)))) fun c=>
  cond (((decide (b.T<0))||(decide (b.T>e)))||((decide (a>0))&&(decide (c.T>b.T)))) (
   some (.inr false))<|
  some (.inl (A1 (a+1))))<|
 Option.map Sum.inr (some true)
def A9y (b:List A9) (c a:Int):Option Bool:=
 loop (fun (s:Int)=>A8y b c s) a
def A94 (c:List A9) (b:Int):Option Bool:=
 let a:=(I7 b);
 cond (!a) (
  some false)<|
 A9y c b 0
def Q8 (d c e:Int):Bool:=
 let b:=(A0h d);
 let a:=(I7 e);
 (((b&&(decide (c>=1)))&&(decide (c<=65536)))&&a)
def N9 (a:Int):Bool:=
 ((decide (a>=(-4096:Int)))&&(decide (a<=4096)))
def A0Z (e:D0) (a:Int):Option (Int⊕Int):=
 cond (decide (a<(e.Bb.length:Int))) (
  Option.bind (C1 e.Bb a) fun b=>
  let d:=(I1 e.Now e.W b.T);
  let c:=(N9 b.V);
  cond ((!d)||(!c)) (
   some (.inr 2))<|
  some (.inl (A1 (a+1))))<|
 Option.map Sum.inr (some 0)
def A3f (b:D0) (a:Int):Option Int:=
 loop (fun (s:Int)=>A0Z b s) a
def A3K (c:D0):Option Int:=
 let a:=(Q8 c.W c.Cap c.Now);
 Option.bind (gd (!((!a)||(decide ((c.Bb.length:Int)>c.Cap)))) (A94 c.Bb c.Now)) fun b=>
 cond (((!a)||(decide ((c.Bb.length:Int)>c.Cap)))||(!b)) (
  some 2)<|
 A3f c 0
def A5c (d:List A3) (c a:Int):Option ((Int×Int)⊕Int):=
 cond (decide (a<(d.length:Int))) (
  Option.bind (C1 d a) fun b=>
  cond ((decide (b.Bc>=0))&&(decide (b.Bc<=30))) (
   ck (decide (0<=(A4 b.Bc)))<|
   some (.inl ((A1 (c+(E8 .i64 1 (A4 b.Bc)))),(A1 (a+1)))))<|
  some (.inl (c,(A1 (a+1)))))<|
 Option.map Sum.inr (some c)
def B4W (c:List A3) (a b:Int):Option Int:=
 loop (fun (s:(Int×Int))=>A5c c s.1 s.2) (a,b)
def A62 (a:List A3):Option Int:=
 B4W a 0 0
def U7 (a:Int):Bool:=
 ((decide (a>=1))&&(decide (a<=64)))
def B8R:Int:=
 0
def A7K (b:A7) (c:Int):Int:=
 cond (c==1) (
  b.N)<|
 cond (c==2) (
  b.S)<|
 cond (c==3) (
  b.Q)<|
 cond (c==4) (
  let a:=(B0t b.Bs b.Bt);
  cond a.2 (
   a.1)<|
  B8R)<|
 B8R
def A2V (a:A7):Bool:=
 (((((((decide (a.N>=1))&&(decide (a.N<=65536)))&&(decide (a.S>=(A1 ((IntKind.i64.wrap (0-a.N))*4096)))))&&(decide (a.S<=(A1 (a.N*4096)))))&&(decide (a.Q>=0)))&&(decide (a.Q<=(A1 ((A1 (a.N*(4096:Int)))*(4096:Int))))))&&(decide ((A1 (a.S*a.S))<=(A1 (a.N*a.Q)))))
def C2t (b c:Int):Option (E3×Int):=
 let a:=(I7 c);
 cond (((decide (b<0))||(decide (b>4)))||(!a)) (
  some ((E3.mk 0 0 0 []),1))<|
 ck (decide (0<=(A1 (b+1))/\(A1 (b+1))<=(A1 (b+1))/\(A1 (b+(1:Int)))*16<=140737488355328/\(A1 (b+(1:Int)))<=140737488355328))<|
 some ((E3.mk b c c (List.replicate ((A1 (b+(1:Int)))).toNat (A2.mk 0 0))),0)
def A8A (d c:Int):Option Int:=
 let a:=(U7 d);
 cond (((!a)||(decide (c<1)))||(decide (c>65536))) (
  some 0)<|
 Option.bind (B5L c) fun b=>
 some (A1 ((A1 (2*d))*(A1 (b+2))))
def A7Y (a:A8):(Int×Bool):=
 cond (a.Ao.Bi==1) (
  (a.Aq.Now,true))<|
 cond (a.Ao.Bi==2) (
  (a.Ay.Now,true))<|
 cond (a.Ao.Bi==3) (
  (a.Sum.Now,true))<|
 cond (a.Ao.Bi==4) (
  (a.As.Now,true))<|
 cond (a.Ao.Bi==5) (
  (a.Au.Now,true))<|
 cond (a.Ao.Bi==6) (
  (a.Bm.Now,true))<|
 cond (a.Ao.Bi==7) (
  (a.Ba.Now,true))<|
 cond (a.Ao.Bi==8) (
  (a.Af.Now,true))<|
 cond (a.Ao.Bi==11) (
  (a.Ab.Now,true))<|
 (0,false)
def A7L (a:Int) (b:List Int):Option ((Int×(List Int))⊕(List Int)):=
 cond (decide (a>=128)) (
  ck (decide ((b.length+ [(O0 .u8 (IntKind.u8.wrap (O8 .u64 a 127)) 128)].length)*1<=140737488355328))<|
  some (.inl ((G1 .u64 a 7),(b++ [(O0 .u8 (IntKind.u8.wrap (O8 .u64 a 127)) 128)]))))<|
 Option.map Sum.inr (ck (decide ((b.length+ [(IntKind.u8.wrap a)].length)*1<=140737488355328))<|
 some (b++ [(IntKind.u8.wrap a)]))
def A8F (a:Int) (b:List Int):Option (List Int):=
 loop (fun (s:(Int×(List Int)))=>A7L s.1 s.2) (a,b)
def A8E (b:List Int) (a:Int):Option (List Int):=
 ck (decide ((([]:List Int).length+b.length)*1<=140737488355328))<|
 A8F a (([]:List Int)++b)
def A8D (b:List Int) (a:Int):Option (List Int):=
 cond (decide (a<0)) (
  A8E b (B4d .u64 (E8 .u64 (A4 a) 1)))<|
 A8E b (E8 .u64 (A4 a) 1)
def B0W (e:List Int) (a c b:Int):Option ((Int×Int×Int)⊕Int):=
 cond (decide (b<(e.length:Int))) (
  Option.bind (C1 e b) fun d=>
  some (.inl ((Int.tmod (A1 (a+(A1 d))) 65521),(Int.tmod (A1 (c+(Int.tmod (A1 (a+(A1 d))) 65521))) 65521),(A1 (b+1)))))<|
 Option.map Sum.inr (some (A1 ((A1 (65536*c))+a)))
def B7C (d:List Int) (a b c:Int):Option Int:=
 loop (fun (s:(Int×Int×Int))=>B0W d s.1 s.2.1 s.2.2) (a,b,c)
def A00 (a:List Int):Option Int:=
 B7C a 1 0 0
def A8I (e a:List Int) (b:Int):Option (((List Int)×Int)⊕(List Int)):=
 cond (decide (b<(e.length:Int))) (
  Option.bind (C1 e b) fun d=>
  Option.bind (A8D ([]:List Int) d) fun c=>
  ck (decide ((a.length+c.length)*1<=140737488355328))<|
  some (.inl ((a++c),(A1 (b+1)))))<|
 Option.map Sum.inr (some a)
def B4Z (c a:List Int) (b:Int):Option (List Int):=
 loop (fun (s:((List Int)×Int))=>A8I c s.1 s.2) (a,b)
def B4l (a:List Int):Option (List Int):=
 B4Z a ([]:List Int) 0
def B23 (d:List Int):Option (List Int):=
 Option.bind (B4l d) fun a=>
 Option.bind (A00 a) fun b=>
 Option.bind (A8D a b) fun c=>
 some c
def T9 (h:E2) (a b c d e f g:Int):E2:=
 (E2.mk h.Bi a b c d e f g)
def A9B (b:E2) (a:Bool):E2:=
 cond a (
  T9 b 0 b.W b.K b.Cap 0 0 0)<|
 cond (b.Bi==3) (
  T9 b 0 b.W b.K b.Cap 0 0 b.Bs)<|
 cond (b.Bi==4) (
  T9 b b.Bo b.W b.K b.Cap 0 0 0)<|
 cond (b.Bi==6) (
  T9 b 0 0 0 0 b.P 0 0)<|
 cond (b.Bi==7) (
  T9 b 0 b.W 0 0 0 0 0)<|
 cond (b.Bi==8) (
  T9 b 0 b.W 0 b.Cap 0 0 b.Bs)<|
 cond (b.Bi==9) (
  T9 b 0 b.W 0 b.Cap 0 b.Am 0)<|
 cond (b.Bi==10) (
  T9 b 0 0 b.K b.Cap 0 0 0)<|
 T9 b 0 0 0 0 0 0 0
def C59 (a:E2):E2:=
 cond (a.Bi==1) (
  T9 a 0 a.W 0 a.Cap 0 0 0)<|
 cond (a.Bi==2) (
  A9B a (a.Bi==2))<|
 cond (a.Bi==5) (
  A9B a (a.Bi==5))<|
 A9B a (a.Bi==11)
def B7r (a:Int):Bool:=
 ((decide (a>=1))&&(decide (a<=4)))
def A8B (h:E2) (a b:Bool):Bool:=
 cond b (
  let g:=(U7 h.K);
  (a&&g))<|
 cond (h.Bi==3) (
  let c:=(U7 h.K);
  (((a&&c)&&(decide (h.Bs>=1)))&&(decide (h.Bs<=1024))))<|
 cond (h.Bi==4) (
  let d:=(U7 h.K);
  let e:=(B7r h.Bo);
  ((a&&d)&&e))<|
 cond (h.Bi==6) (
  ((decide (h.P>=0))&&(decide (h.P<=4))))<|
 cond (h.Bi==7) (
  ((decide (h.W>=1))&&(decide (h.W<=64))))<|
 cond (h.Bi==8) (
  (a&&((h.Bs==0)||(h.Bs==1))))<|
 cond (h.Bi==9) (
  ((((((decide (h.Am>=1))&&(decide (h.Am<=16)))&&(decide (h.W>=1)))&&(decide (h.W<=1048576)))&&(decide (h.Cap>=1)))&&(decide (h.Cap<=64))))<|
 cond (h.Bi==10) (
  let f:=(U7 h.K);
  ((f&&(decide (h.Cap>=2)))&&(decide (h.Cap<=65536))))<|
 false
def C4G (b:E2):Bool:=
 let a:=(Q8 b.W b.Cap 0);
 cond (b.Bi==1) (
  a)<|
 cond (b.Bi==2) (
  A8B b a (b.Bi==2))<|
 cond (b.Bi==5) (
  A8B b a (b.Bi==5))<|
 A8B b a (b.Bi==11)
def C1w (c:E2):Int:=
 let a:=(C59 c);
 let b:=(C4G c);
 cond ((!(c.Bi==a.Bi&&(c.Bo==a.Bo&&(c.W==a.W&&(c.K==a.K&&(c.Cap==a.Cap&&(c.P==a.P&&(c.Am==a.Am&&(c.Bs==a.Bs&&true)))))))))||(!b)) (
  1)<|
 0
def Q3 (m:A8) (i:D0) (a:E4) (b:F4) (c:D3) (d:D5) (e:E3) (j:Int) (k:List Int) (f:C4) (l:List B7) (g:B8) (h:C2):A8:=
 (A8.mk m.Ao i a b c d e (F6.mk j k) f (E9.mk l) g h)
def C6a (a:A8):A8:=
 cond (a.Ao.Bi==1) (
  Q3 a a.Aq (E4.mk 0 0 0 0 []) (F4.mk 0 0 0 0 0 []) (D3.mk 0 0 0 0 0 0 []) (D5.mk 0 0 0 0 0 []) (E3.mk 0 0 0 []) 0 ([]:List Int) (C4.mk false 0 0 0 []) ([]:List B7) (B8.mk 0 0 0 []) (C2.mk 0 0 0 0 []))<|
 cond (a.Ao.Bi==2) (
  Q3 a (D0.mk 0 0 0 []) a.Ay (F4.mk 0 0 0 0 0 []) (D3.mk 0 0 0 0 0 0 []) (D5.mk 0 0 0 0 0 []) (E3.mk 0 0 0 []) 0 ([]:List Int) (C4.mk false 0 0 0 []) ([]:List B7) (B8.mk 0 0 0 []) (C2.mk 0 0 0 0 []))<|
 cond (a.Ao.Bi==3) (
  Q3 a (D0.mk 0 0 0 []) (E4.mk 0 0 0 0 []) a.Sum (D3.mk 0 0 0 0 0 0 []) (D5.mk 0 0 0 0 0 []) (E3.mk 0 0 0 []) 0 ([]:List Int) (C4.mk false 0 0 0 []) ([]:List B7) (B8.mk 0 0 0 []) (C2.mk 0 0 0 0 []))<|
 cond (a.Ao.Bi==4) (
  Q3 a (D0.mk 0 0 0 []) (E4.mk 0 0 0 0 []) (F4.mk 0 0 0 0 0 []) a.As (D5.mk 0 0 0 0 0 []) (E3.mk 0 0 0 []) 0 ([]:List Int) (C4.mk false 0 0 0 []) ([]:List B7) (B8.mk 0 0 0 []) (C2.mk 0 0 0 0 []))<|
 cond (a.Ao.Bi==5) (
  Q3 a (D0.mk 0 0 0 []) (E4.mk 0 0 0 0 []) (F4.mk 0 0 0 0 0 []) (D3.mk 0 0 0 0 0 0 []) a.Au (E3.mk 0 0 0 []) 0 ([]:List Int) (C4.mk false 0 0 0 []) ([]:List B7) (B8.mk 0 0 0 []) (C2.mk 0 0 0 0 []))<|
 cond (a.Ao.Bi==6) (
  Q3 a (D0.mk 0 0 0 []) (E4.mk 0 0 0 0 []) (F4.mk 0 0 0 0 0 []) (D3.mk 0 0 0 0 0 0 []) (D5.mk 0 0 0 0 0 []) a.Bm 0 ([]:List Int) (C4.mk false 0 0 0 []) ([]:List B7) (B8.mk 0 0 0 []) (C2.mk 0 0 0 0 []))<|
 cond (a.Ao.Bi==7) (
  Q3 a (D0.mk 0 0 0 []) (E4.mk 0 0 0 0 []) (F4.mk 0 0 0 0 0 []) (D3.mk 0 0 0 0 0 0 []) (D5.mk 0 0 0 0 0 []) (E3.mk 0 0 0 []) a.Ba.Now a.Ba.Bn (C4.mk false 0 0 0 []) ([]:List B7) (B8.mk 0 0 0 []) (C2.mk 0 0 0 0 []))<|
 cond (a.Ao.Bi==8) (
  Q3 a (D0.mk 0 0 0 []) (E4.mk 0 0 0 0 []) (F4.mk 0 0 0 0 0 []) (D3.mk 0 0 0 0 0 0 []) (D5.mk 0 0 0 0 0 []) (E3.mk 0 0 0 []) 0 ([]:List Int) a.Af ([]:List B7) (B8.mk 0 0 0 []) (C2.mk 0 0 0 0 []))<|
 cond (a.Ao.Bi==9) (
  Q3 a (D0.mk 0 0 0 []) (E4.mk 0 0 0 0 []) (F4.mk 0 0 0 0 0 []) (D3.mk 0 0 0 0 0 0 []) (D5.mk 0 0 0 0 0 []) (E3.mk 0 0 0 []) 0 ([]:List Int) (C4.mk false 0 0 0 []) a.Ar.Am (B8.mk 0 0 0 []) (C2.mk 0 0 0 0 []))<|
 cond (a.Ao.Bi==10) (
  Q3 a (D0.mk 0 0 0 []) (E4.mk 0 0 0 0 []) (F4.mk 0 0 0 0 0 []) (D3.mk 0 0 0 0 0 0 []) (D5.mk 0 0 0 0 0 []) (E3.mk 0 0 0 []) 0 ([]:List Int) (C4.mk false 0 0 0 []) ([]:List B7) a.Ai (C2.mk 0 0 0 0 []))<|
 cond (a.Ao.Bi==11) (
  Q3 a (D0.mk 0 0 0 []) (E4.mk 0 0 0 0 []) (F4.mk 0 0 0 0 0 []) (D3.mk 0 0 0 0 0 0 []) (D5.mk 0 0 0 0 0 []) (E3.mk 0 0 0 []) 0 ([]:List Int) (C4.mk false 0 0 0 []) ([]:List B7) (B8.mk 0 0 0 []) a.Ab)<|
 Q3 a (D0.mk 0 0 0 []) (E4.mk 0 0 0 0 []) (F4.mk 0 0 0 0 0 []) (D3.mk 0 0 0 0 0 0 []) (D5.mk 0 0 0 0 0 []) (E3.mk 0 0 0 []) 0 ([]:List Int) (C4.mk false 0 0 0 []) ([]:List B7) (B8.mk 0 0 0 []) (C2.mk 0 0 0 0 [])
def C8W (a:Int):Bool:=
 ((decide (a>=1))&&(decide (a<=128)))
def C0n (f:List A3) (g:Int) (b:List Int) (a:Int):Option (Int⊕Bool):=
 cond (decide (a<(b.length:Int))) (
  Option.bind (C1 b a) fun e=>
  Option.bind (C1 b a) fun c=>
  Option.bind (gd (decide ((f.length:Int)>(0:Int))) (C1 f 0)) fun d=>
  cond ((decide ((f.length:Int)>(0:Int)))&&(((decide (a<d.Bc))&&(decide (c<g)))||(decide (c>(A1 (g+1)))))) (
   some (.inr false))<|
  some (.inl (A1 (a+1))))<|
 Option.map Sum.inr (some true)
def C1g (c:List A3) (d:Int) (b:List Int) (a:Int):Option Bool:=
 loop (fun (s:Int)=>C0n c d b s) a
def C0m (k:List A3) (l:Int) (c:List Int) (b:Int):Option (((List Int)×Int)⊕Bool):=
 cond (decide (b<(k.length:Int))) (
  Option.bind (C1 k b) fun a=>
  let d:=(I7 a.T);
  Option.bind (gd ((!(((!d)||(decide (a.Bc<0)))||(decide (a.Bc>30))))&&(decide (b>0))) (C1 k (A1 (b-1)))) fun e=>
  Option.bind (gd (((!(((!d)||(decide (a.Bc<0)))||(decide (a.Bc>30))))&&(decide (b>0)))&&(!(decide (e.T>a.T)))) (C1 k (A1 (b-1)))) fun f=>
  cond ((((!d)||(decide (a.Bc<0)))||(decide (a.Bc>30)))||((decide (b>0))&&((decide (e.T>a.T))||(decide (f.Bc<a.Bc))))) (
   some (.inr false))<|
  Option.bind (C1 c a.Bc) fun h=>
  Option.bind (C1 c a.Bc) fun g=>
  Option.bind (C1 c a.Bc) fun i=>
  Option.bind (C1 c a.Bc) fun j=>
  some (.inl ((c.set (a.Bc).toNat (A1 (g+1))),(A1 (b+1)))))<|
 Option.map Sum.inr (C1g k l c 0)
def C1f (c:List A3) (d:Int) (b:List Int) (a:Int):Option Bool:=
 loop (fun (s:((List Int)×Int))=>C0m c d s.1 s.2) (b,a)
def B8P (c:List A3) (b:Int):Option Bool:=
 let a:=(C8W b);
 cond (!a) (
  some false)<|
 ck (decide (0<=(31:Int)/\(31:Int)<=(31:Int)/\(31:Int)*8<=140737488355328/\(31:Int)<=140737488355328))<|
 C1f c b (List.replicate ((31:Int)).toNat 0) 0
def C1h (d:List A3) (e f a:Int):Option (Int⊕Bool):=
 cond (decide (a<(d.length:Int))) (
  Option.bind (C1 d a) fun b=>
  let c:=(I1 f e b.T);
  cond (!c) (
   some (.inr false))<|
  some (.inl (A1 (a+1))))<|
 Option.map Sum.inr (some true)
def C2Q (b:List A3) (c d a:Int):Option Bool:=
 loop (fun (s:Int)=>C1h b c d s) a
def C0o (e:List A3) (f g h i:Int):Option Bool:=
 let a:=(Q8 f h i);
 let b:=(U7 g);
 Option.bind (gd (!((!a)||(!b))) (B8P e g)) fun c=>
 Option.bind (gd (!(((!a)||(!b))||(!c))) (A62 e)) fun d=>
 cond ((((!a)||(!b))||(!c))||(decide (d>h))) (
  some false)<|
 C2Q e f i 0
def C1i (b:E4):Option Int:=
 Option.bind (C0o b.Ad b.W b.K b.Cap b.Now) fun a=>
 cond (!a) (
  some 2)<|
 some 0
def C4D (a:Int):Bool:=
 ((decide (a>=1))&&(decide (a<=1024)))
def C1j (c:F4):Option Int:=
 Option.bind (C0o c.Ad c.W c.K c.Cap c.Now) fun a=>
 let b:=(C4D c.Bs);
 cond ((!a)||(!b)) (
  some 2)<|
 some 0
def C0q (a b c d e:Int):Bool:=
 (((((decide ((A1 (a*d))<=b))&&(decide (b<=(A1 (a*e)))))&&(decide (c>=0)))&&(decide (c<=(A1 ((A1 (a*(4096:Int)))*(4096:Int))))))&&(decide ((A1 (b*b))<=(A1 (a*c)))))
def B8S (b c:Int):Bool:=
 let a:=(N9 c);
 (a&&(((decide (c>=0))||(b==1))||(b==4)))
def C0p (l:List A7) (o q p n m b:Int):Option (Int⊕Bool):=
 cond (decide (b<(l.length:Int))) (
  Option.bind (C1 l b) fun a=>
  Option.bind (gd ((!((((decide (a.Bv<1))||(decide (a.Bv>m)))||(a.N !=(A1 ((A1 (m-a.Bv))+1))))||(decide (a.N>p))))&&(decide (b>0))) (C1 l (A1 (b-1)))) fun g=>
  cond (((((decide (a.Bv<1))||(decide (a.Bv>m)))||(a.N !=(A1 ((A1 (m-a.Bv))+1))))||(decide (a.N>p)))||((decide (b>0))&&(decide (g.Bv>=a.Bv)))) (
   some (.inr false))<|
  let d:=(I7 a.T);
  Option.bind (gd ((!((!d)||(decide (a.T>n))))&&(decide (b>0))) (C1 l (A1 (b-1)))) fun h=>
  let i:=(I1 n q a.T);
  cond ((((!d)||(decide (a.T>n)))||((decide (b>0))&&(decide (h.T>a.T))))||(((decide (b>0))||((l.length:Int)==(1:Int)))&&(!i))) (
   some (.inr false))<|
  let j:=(B8S o a.Bt);
  let k:=(B8S o a.Bs);
  let e:=(C0q a.N a.S a.Q a.Bt a.Bs);
  cond ((((((((!j)||(!k))||(decide (a.Bt>a.Bs)))||(decide (a.S<(A1 ((IntKind.i64.wrap (0-a.N))*4096)))))||(decide (a.S>(A1 (a.N*4096)))))||(decide (a.Q<0)))||(decide (a.Q>(A1 ((A1 (a.N*(4096:Int)))*(4096:Int))))))||(!e)) (
   some (.inr false))<|
  cond ((b==(A1 ((l.length:Int)-(1:Int))))&&((((a.Bv !=m)||(a.Bt !=a.S))||(a.Bs !=a.S))||(a.Q !=(A1 (a.S*a.S))))) (
   some (.inr false))<|
  cond (decide (b>0)) (
   Option.bind (C1 l (A1 (b-1))) fun c=>
   let f:=(C0q (A1 (c.N-a.N)) (A1 (c.S-a.S)) (A1 (c.Q-a.Q)) c.Bt c.Bs);
   cond (((decide (a.Bt<c.Bt))||(decide (a.Bs>c.Bs)))||(!f)) (
    some (.inr false))<|
   some (.inl (A1 (b+1))))<|
  some (.inl (A1 (b+1))))<|
 Option.map Sum.inr (some true)
def C1k (b:List A7) (c d e f g a:Int):Option Bool:=
 loop (fun (s:Int)=>C0p b c d e f g s) a
def B8Q (b:List A7) (c d e f a:Int):Option Bool:=
 cond ((decide (a<0))||(decide (a>1099511627776))) (
  some false)<|
 C1k b c d e f a 0
def B7s (j:D3) (a:Int):Option (Int⊕Int):=
 cond (decide (a<(j.Bf.length:Int))) (
  Option.bind (C1 j.Bf a) fun b=>
  let i:=(A7K b j.Bo);
  Option.bind (gd (decide (a>1)) (C1 j.Bf (A1 (a-2)))) fun d=>
  let e:=(A7K d j.Bo);
  cond ((decide (a>1))&&(decide ((A1 ((A1 (j.K+1))*i))>=(A1 (j.K*e))))) (
   some (.inr 2))<|
  Option.bind (gd (decide (a>0)) (C1 j.Bf (A1 (a-1)))) fun c=>
  let f:=(A7K b j.Bo);
  Option.bind (gd ((decide (a>0))&&(decide (b.Bv>(A1 (c.Bv+1))))) (C1 j.Bf (A1 (a-1)))) fun g=>
  let h:=(A7K g j.Bo);
  cond (((decide (a>0))&&(decide (b.Bv>(A1 (c.Bv+1)))))&&(decide ((A1 ((A1 (j.K+1))*f))<(A1 (j.K*h))))) (
   some (.inr 2))<|
  some (.inl (A1 (a+1))))<|
 Option.map Sum.inr (some 0)
def B8j (b:D3) (a:Int):Option Int:=
 loop (fun (s:Int)=>B7s b s) a
def C1l (e:D3):Option Int:=
 let c:=(B7r e.Bo);
 let a:=(Q8 e.W e.Cap e.Now);
 let b:=(U7 e.K);
 Option.bind (gd (!(((!c)||(!a))||(!b))) (B8Q e.Bf e.Bo e.W e.Cap e.Now e.Bv)) fun d=>
 cond ((((!c)||(!a))||(!b))||(!d)) (
  some 2)<|
 B8j e 0
def C56 (g h:A7) (i:Int):Bool:=
 let d:=(A2V g);
 let e:=(A2V h);
 let a:=(U7 i);
 cond ((((!d)||(!e))||(!a))||(decide ((A1 ((A1 (6*i))*h.N))<(A1 ((A1 ((A1 (6*i))-1))*g.N))))) (
  false)<|
 let f:=(R9 (A4 (A1 ((A1 (h.N*h.Q))-(A1 (h.S*h.S))))) (A4 (A1 ((A1 (6*i))*g.N))));
 let b:=(R9 (A4 (A1 ((A1 (g.N*g.Q))-(A1 (g.S*g.S))))) (A4 (A1 ((A1 ((A1 (6*i))-1))*h.N))));
 let c:=(A4y f b);
 (decide (c>=0))
def B7t (e:D5) (a:Int):Option (Int⊕Int):=
 cond (decide (a<(e.Bf.length:Int))) (
  Option.bind (C1 e.Bf (A1 (a-2))) fun c=>
  Option.bind (C1 e.Bf a) fun d=>
  let b:=(C56 c d e.K);
  cond b (
   some (.inr 2))<|
  some (.inl (A1 (a+1))))<|
 Option.map Sum.inr (some 0)
def B8k (b:D5) (a:Int):Option Int:=
 loop (fun (s:Int)=>B7t b s) a
def C1m (d:D5):Option Int:=
 let b:=(Q8 d.W d.Cap d.Now);
 let a:=(U7 d.K);
 Option.bind (gd (!((!b)||(!a))) (B8Q d.Bf 4 d.W d.Cap d.Now d.Bv)) fun c=>
 cond (((!b)||(!a))||(!c)) (
  some 2)<|
 B8k d 2
def D0P (c d:A2):Option (A2×Bool):=
 Option.bind (N7 c.Lo d.Lo 0) fun a=>
 Option.bind (N7 c.Hi d.Hi a.2) fun b=>
 cond (b.2 !=0) (
  some ((A2.mk 0 0),false))<|
 some ((A2.mk b.1 a.1),true)
def D0Q (e f:A2):Option (A2×Bool):=
 cond ((e.Hi !=0)&&(f.Hi !=0)) (
  some ((A2.mk 0 0),false))<|
 let b:=(R9 e.Hi f.Lo);
 let c:=(R9 e.Lo f.Hi);
 cond ((b.Hi !=0)||(c.Hi !=0)) (
  some ((A2.mk 0 0),false))<|
 let d:=(R9 e.Lo f.Lo);
 Option.bind (D0P d (A2.mk (A4 (b.Lo+c.Lo)) 0)) fun a=>
 some (a.1,a.2)
def B7u (j:E3) (a:Int):Option (Int⊕Int):=
 cond (decide (a<=j.P)) (
  Option.bind (C1 j.Ag (A1 (a-1))) fun g=>
  let d:=(S5 (A4 (A1 ((A1 (j.Now-j.Bj))+1))));
  Option.bind (D0Q g d) fun b=>
  Option.bind (C1 j.Ag a) fun h=>
  Option.bind (C1 j.Ag (A1 (a-1))) fun i=>
  let c:=(A4y h i);
  Option.bind (gd ((!(decide (c<0)))&&b.2) (C1 j.Ag a)) fun e=>
  let f:=(A4y e b.1);
  cond ((decide (c<0))||(b.2&&(decide (f>0)))) (
   some (.inr 2))<|
  some (.inl (A1 (a+1))))<|
 Option.map Sum.inr (some 0)
def B8l (b:E3) (a:Int):Option Int:=
 loop (fun (s:Int)=>B7u b s) a
def C1n (b:E3):Option Int:=
 let a:=(I7 b.Now);
 cond ((((((decide (b.P<0))||(decide (b.P>4)))||(!a))||(decide (b.Bj<0)))||(decide (b.Bj>b.Now)))||((b.Ag.length:Int) !=(A1 (b.P+1)))) (
  some 2)<|
 B8l b 1
def B7v (c:F6) (a:Int):Option (Int⊕Int):=
 cond (decide (a<(c.Bn.length:Int))) (
  Option.bind (C1 c.Bn a) fun b=>
  cond (((decide (b<0))||(decide (b>1099511627776)))||((decide (a>c.Now))&&(b !=0))) (
   some (.inr 2))<|
  some (.inl (A1 (a+1))))<|
 Option.map Sum.inr (some 0)
def B8m (b:F6) (a:Int):Option Int:=
 loop (fun (s:Int)=>B7v b s) a
def C1o (b:F6):Option Int:=
 let a:=(I7 b.Now);
 cond (((decide ((b.Bn.length:Int)<(1:Int)))||(decide ((b.Bn.length:Int)>(64:Int))))||(!a)) (
  some 2)<|
 B8m b 0
def C4E (a:Bool) (b c:Int):Bool:=
 ((a&&(decide (b>c)))||((!a)&&(decide (b<c))))
def B7w (h:C4) (a:Int):Option (Int⊕Int):=
 cond (decide (a<(h.Bb.length:Int))) (
  Option.bind (C1 h.Bb a) fun b=>
  let d:=(I1 h.Now h.W b.T);
  let c:=(N9 b.V);
  Option.bind (gd ((!((!d)||(!c)))&&(decide (a>0))) (C1 h.Bb (A1 (a-1)))) fun e=>
  Option.bind (gd (((!((!d)||(!c)))&&(decide (a>0)))&&(!(decide (e.T>=b.T)))) (C1 h.Bb (A1 (a-1)))) fun f=>
  let g:=(C4E h.Bs f.V b.V);
  cond (((!d)||(!c))||((decide (a>0))&&((decide (e.T>=b.T))||(!g)))) (
   some (.inr 2))<|
  some (.inl (A1 (a+1))))<|
 Option.map Sum.inr (some 0)
def B8n (b:C4) (a:Int):Option Int:=
 loop (fun (s:Int)=>B7w b s) a
def C1p (b:C4):Option Int:=
 let a:=(Q8 b.W b.Cap b.Now);
 cond ((!a)||(decide ((b.Bb.length:Int)>b.Cap))) (
  some 2)<|
 B8n b 0
def B7x (g:B7) (a:Int):Option (Int⊕Int):=
 cond (decide (a<(g.Be.length:Int))) (
  Option.bind (C1 g.Be a) fun b=>
  let c:=(N9 b.V);
  Option.bind (gd ((!((!c)||(decide (b.I>g.I))))&&(decide (a>0))) (C1 g.Be (A1 (a-1)))) fun d=>
  Option.bind (gd (((!((!c)||(decide (b.I>g.I))))&&(decide (a>0)))&&(!(decide (b.I<=d.I)))) (C1 g.Be (A1 (a-1)))) fun e=>
  cond (((!c)||(decide (b.I>g.I)))||((decide (a>0))&&((decide (b.I<=d.I))||(decide (b.I>(A1 (e.I+g.W))))))) (
   some (.inr 2))<|
  some (.inl (A1 (a+1))))<|
 Option.map Sum.inr (Option.bind (gd (!(decide (g.Bl<=g.I))) (C1 g.Be (A1 ((g.Be.length:Int)-(1:Int))))) fun f=>
 cond ((decide (g.Bl<=g.I))||(decide (g.Bl>(A1 (f.I+g.W))))) (
  some 2)<|
 some 0)
def B8o (b:B7) (a:Int):Option Int:=
 loop (fun (s:Int)=>B7x b s) a
def C1q (d:B7):Option Int:=
 let c:=(A0h d.W);
 cond ((((((!c)||(decide (d.Cap<1)))||(decide (d.Cap>64)))||(decide (d.I<0)))||(decide (d.I>1099511627776)))||(decide ((d.Be.length:Int)>d.Cap))) (
  some 2)<|
 cond (d.I==0) (
  cond (((d.Be.length:Int) !=(0:Int))||(d.Bl !=0)) (
   some 2)<|
  some 0)<|
 Option.bind (gd (!((d.Be.length:Int)==(0:Int))) (C1 d.Be 0)) fun a=>
 Option.bind (gd (!(((d.Be.length:Int)==(0:Int))||(decide (a.I<=(A1 (d.I-d.W)))))) (C1 d.Be 0)) fun b=>
 cond ((((d.Be.length:Int)==(0:Int))||(decide (a.I<=(A1 (d.I-d.W)))))||(decide (b.I<1))) (
  some 2)<|
 B8o d 0
def B7y (e:E9) (a:Int):Option (Int⊕Int):=
 cond (decide (a<(e.Am.length:Int))) (
  Option.bind (C1 e.Am a) fun b=>
  Option.bind (C1 e.Am 0) fun c=>
  Option.bind (C1q b) fun d=>
  cond ((((d !=0)||(b.W !=c.W))||(b.Cap !=c.Cap))||(b.I !=c.I)) (
   some (.inr 2))<|
  some (.inl (A1 (a+1))))<|
 Option.map Sum.inr (some 0)
def B8p (b:E9) (a:Int):Option Int:=
 loop (fun (s:Int)=>B7y b s) a
def C1r (a:E9):Option Int:=
 cond ((decide ((a.Am.length:Int)<(1:Int)))||(decide ((a.Am.length:Int)>(16:Int)))) (
  some 2)<|
 B8p a 0
def D4e (a:B8):Option Int:=
 ck (decide (a.K≠0))<|
 some (A0y 1 (A1 (Int.tdiv a.N a.K)))
def D0R (c b:Int):(B8×Int):=
 let a:=(U7 c);
 cond (((!a)||(decide (b<2)))||(decide (b>65536))) (
  ((B8.mk 0 0 0 []),1))<|
 ((B8.mk c b 0 []),0)
def B7z (g:B8) (c b:Int):Option ((Int×Int)⊕Int):=
 cond (decide (b<(g.Av.length:Int))) (
  Option.bind (C1 g.Av b) fun a=>
  let d:=(N9 a.V);
  Option.bind (gd (!(((((!d)||(decide (a.G<1)))||(decide (a.G>g.N)))||(decide (a.D<0)))||(decide (a.D>g.N)))) (D4e g)) fun e=>
  Option.bind (gd ((!((((((!d)||(decide (a.G<1)))||(decide (a.G>g.N)))||(decide (a.D<0)))||(decide (a.D>g.N)))||(decide ((A1 (a.G+a.D))>e))))&&(decide (b>0))) (C1 g.Av (A1 (b-1)))) fun f=>
  cond (((((((((!d)||(decide (a.G<1)))||(decide (a.G>g.N)))||(decide (a.D<0)))||(decide (a.D>g.N)))||(decide ((A1 (a.G+a.D))>e)))||((decide (b>0))&&(decide (f.V>a.V))))||((b==0)&&((a.G !=1)||(a.D !=0))))||((b==(A1 ((g.Av.length:Int)-(1:Int))))&&(a.D !=0))) (
   some (.inr 2))<|
  cond (decide ((A1 (c+a.G))>g.N)) (
   some (.inr 2))<|
  some (.inl ((A1 (c+a.G)),(A1 (b+1)))))<|
 Option.map Sum.inr (cond (c !=g.N) (
  some 2)<|
 some 0)
def B8q (c:B8) (b a:Int):Option Int:=
 loop (fun (s:(Int×Int))=>B7z c s.1 s.2) (b,a)
def C1s (b:B8):Option Int:=
 let a:=(D0R b.K b.Cap);
 cond (((((a.2 !=0)||(decide (b.N<0)))||(decide (b.N>1099511627776)))||(decide ((b.Av.length:Int)>b.Cap)))||(!(((b.Av.length:Int)==(0:Int))==(b.N==0)))) (
  some 2)<|
 B8q b 0 0
def C0r (d:List B2) (b:List A3) (c:Int):Option (((List A3)×Int)⊕(List A3)):=
 cond (decide (c<(d.length:Int))) (
  Option.bind (C1 d c) fun a=>
  ck (decide ((b.length+ [(A3.mk a.T a.Bc)].length)*16<=140737488355328))<|
  some (.inl ((b++ [(A3.mk a.T a.Bc)]),(A1 (c+1)))))<|
 Option.map Sum.inr (some b)
def C1t (c:List B2) (a:List A3) (b:Int):Option (List A3):=
 loop (fun (s:((List A3)×Int))=>C0r c s.1 s.2) (a,b)
def B8T (a:List B2):Option (List A3):=
 C1t a ([]:List A3) 0
def C57 (c:List B2):Option Int:=
 Option.bind (B8T c) fun a=>
 Option.bind (A62 a) fun b=>
 some b
def B7A (d:D4) (a:Int):Option (Int⊕Int):=
 cond (decide (a<(d.Ae.length:Int))) (
  Option.bind (C1 d.Ae a) fun b=>
  cond (((((decide (b.Bt<1))||(decide (b.Bt>b.Bs)))||(decide (b.Bs>d.N)))||((a==0)&&(b.Bs !=1)))||((a==(A1 ((d.Ae.length:Int)-(1:Int))))&&(b.Bt !=d.N))) (
   some (.inr 2))<|
  cond (decide (a>0)) (
   Option.bind (C1 d.Ae (A1 (a-1))) fun c=>
   cond (((decide (c.V>b.V))||(decide (c.Bt>=b.Bt)))||(decide (c.Bs>=b.Bs))) (
    some (.inr 2))<|
   some (.inl (A1 (a+1))))<|
  some (.inl (A1 (a+1))))<|
 Option.map Sum.inr (some 0)
def B8r (b:D4) (a:Int):Option Int:=
 loop (fun (s:Int)=>B7A b s) a
def B4X (a:D4):Option Int:=
 cond (((decide (a.N<0))||(decide (a.N>1099511627776)))||(!(((a.Ae.length:Int)==(0:Int))==(a.N==0)))) (
  some 2)<|
 B8r a 0
def C2R (e:D4) (b a:Int):Option ((Int×Int)⊕Int):=
 cond (decide (a<(e.Ae.length:Int))) (
  Option.bind (C1 e.Ae a) fun d=>
  Option.bind (C1 e.Ae (A1 (a-1))) fun c=>
  some (.inl ((A0y b (A1 (d.Bs-c.Bt))),(A1 (a+1)))))<|
 Option.map Sum.inr (some b)
def C4F (c:D4) (a b:Int):Option Int:=
 loop (fun (s:(Int×Int))=>C2R c s.1 s.2) (a,b)
def D0S (b:D4):Option Int:=
 Option.bind (B4X b) fun a=>
 cond ((a !=0)||(b.N==0)) (
  some 0)<|
 C4F b 1 1
def B8s (d c b a:Int):Option ((Int×Int)⊕Int):=
 cond (decide (a<=d)) (
  ck (decide (0<=(A4 a)))<|
  cond (decide ((E8 .i64 1 (A4 a))>(A1 (c+1)))) (
   ck (decide (c≠0))<|
   some (.inl ((A1 ((A1 (2*b))+(A1 (Int.tdiv (A1 ((A1 ((A1 ((E8 .i64 1 (A4 a))-1))+c))-1)) c)))),(A1 (a+1)))))<|
  some (.inl (b,(A1 (a+1)))))<|
 Option.map Sum.inr (some b)
def B9k (c d a b:Int):Option Int:=
 loop (fun (s:(Int×Int))=>B8s c d s.1 s.2) (a,b)
def C2S (a b:Int):Option Int:=
 cond ((((decide (a<0))||(decide (a>30)))||(decide (b<1)))||(decide (b>65536))) (
  some (-1:Int))<|
 B9k a b 0 0
def C0s (j:List B2) (k c:Int):Option (Int⊕Bool):=
 cond (decide (c<(j.length:Int))) (
  Option.bind (C1 j c) fun a=>
  Option.bind (B4X a.Bh) fun g=>
  ck (!(!(g !=0))||(decide (0<=(A4 a.Bc))))<|
  cond (((g !=0)||(a.Bh.N !=(E8 .i64 1 (A4 a.Bc))))||(decide ((a.Bh.Ae.length:Int)>(A1 (k+1))))) (
   some (.inr false))<|
  Option.bind (C1 a.Bh.Ae 0) fun d=>
  Option.bind (C1 a.Bh.Ae (A1 ((a.Bh.Ae.length:Int)-(1:Int)))) fun b=>
  let e:=(N9 d.V);
  let f:=(N9 b.V);
  Option.bind (gd (!((((!e)||(!f))||(decide (a.Bk<d.V)))||(decide (a.Bk>b.V)))) (D0S a.Bh)) fun h=>
  Option.bind (gd (!((((!e)||(!f))||(decide (a.Bk<d.V)))||(decide (a.Bk>b.V)))) (C2S a.Bc k)) fun i=>
  cond (((((!e)||(!f))||(decide (a.Bk<d.V)))||(decide (a.Bk>b.V)))||(decide ((A1 (h-1))>i))) (
   some (.inr false))<|
  some (.inl (A1 (c+1))))<|
 Option.map Sum.inr (some true)
def C1u (b:List B2) (c a:Int):Option Bool:=
 loop (fun (s:Int)=>C0s b c s) a
def C58 (d:List B2) (e c:Int):Option Bool:=
 Option.bind (gd (!((decide (c<1))||(decide (c>65536)))) (B8T d)) fun b=>
 Option.bind (gd (!((decide (c<1))||(decide (c>65536)))) (B8P b e)) fun a=>
 cond (((decide (c<1))||(decide (c>65536)))||(!a)) (
  some false)<|
 C1u d c 0
def B7B (d:C2) (a:Int):Option (Int⊕Int):=
 cond (decide (a<(d.Ak.length:Int))) (
  Option.bind (C1 d.Ak a) fun b=>
  let c:=(I1 d.Now d.W b.T);
  cond (!c) (
   some (.inr 2))<|
  some (.inl (A1 (a+1))))<|
 Option.map Sum.inr (some 0)
def B8t (b:C2) (a:Int):Option Int:=
 loop (fun (s:Int)=>B7B b s) a
def C1v (f:C2):Option Int:=
 let b:=(Q8 f.W f.Cap f.Now);
 let a:=(U7 f.K);
 Option.bind (gd (!((!b)||(!a))) (A8A f.K f.Cap)) fun d=>
 Option.bind (gd (!((!b)||(!a))) (C58 f.Ak (A1 (2*f.K)) d)) fun c=>
 Option.bind (gd (!(((!b)||(!a))||(!c))) (C57 f.Ak)) fun e=>
 cond ((((!b)||(!a))||(!c))||(decide (e>f.Cap))) (
  some 2)<|
 B8t f 0
def C8X (n:A8):Option Bool:=
 cond (n.Ao.Bi==1) (
  Option.bind (A3K n.Aq) fun k=>
  some (((k==0)&&(n.Aq.W==n.Ao.W))&&(n.Aq.Cap==n.Ao.Cap)))<|
 cond (n.Ao.Bi==2) (
  Option.bind (C1i n.Ay) fun l=>
  some ((((l==0)&&(n.Ay.W==n.Ao.W))&&(n.Ay.K==n.Ao.K))&&(n.Ay.Cap==n.Ao.Cap)))<|
 cond (n.Ao.Bi==3) (
  Option.bind (C1j n.Sum) fun m=>
  some (((((m==0)&&(n.Sum.W==n.Ao.W))&&(n.Sum.K==n.Ao.K))&&(n.Sum.Cap==n.Ao.Cap))&&(n.Sum.Bs==n.Ao.Bs)))<|
 cond (n.Ao.Bi==4) (
  Option.bind (C1l n.As) fun d=>
  some (((((d==0)&&(n.As.Bo==n.Ao.Bo))&&(n.As.W==n.Ao.W))&&(n.As.K==n.Ao.K))&&(n.As.Cap==n.Ao.Cap)))<|
 cond (n.Ao.Bi==5) (
  Option.bind (C1m n.Au) fun e=>
  some ((((e==0)&&(n.Au.W==n.Ao.W))&&(n.Au.K==n.Ao.K))&&(n.Au.Cap==n.Ao.Cap)))<|
 cond (n.Ao.Bi==6) (
  Option.bind (C1n n.Bm) fun f=>
  some ((f==0)&&(n.Bm.P==n.Ao.P)))<|
 cond (n.Ao.Bi==7) (
  Option.bind (C1o n.Ba) fun g=>
  some ((g==0)&&((n.Ba.Bn.length:Int)==n.Ao.W)))<|
 cond (n.Ao.Bi==8) (
  Option.bind (C1p n.Af) fun h=>
  some ((((h==0)&&(n.Af.Bs==(n.Ao.Bs==1)))&&(n.Af.W==n.Ao.W))&&(n.Af.Cap==n.Ao.Cap)))<|
 cond (n.Ao.Bi==9) (
  Option.bind (C1r n.Ar) fun a=>
  Option.bind (gd ((a==0)&&((n.Ar.Am.length:Int)==n.Ao.Am)) (C1 n.Ar.Am 0)) fun b=>
  Option.bind (gd (((a==0)&&((n.Ar.Am.length:Int)==n.Ao.Am))&&(b.W==n.Ao.W)) (C1 n.Ar.Am 0)) fun c=>
  some ((((a==0)&&((n.Ar.Am.length:Int)==n.Ao.Am))&&(b.W==n.Ao.W))&&(c.Cap==n.Ao.Cap)))<|
 cond (n.Ao.Bi==10) (
  Option.bind (C1s n.Ai) fun i=>
  some (((i==0)&&(n.Ai.K==n.Ao.K))&&(n.Ai.Cap==n.Ao.Cap)))<|
 cond (n.Ao.Bi==11) (
  Option.bind (C1v n.Ab) fun j=>
  some ((((j==0)&&(n.Ab.W==n.Ao.W))&&(n.Ab.K==n.Ao.K))&&(n.Ab.Cap==n.Ao.Cap)))<|
 some false
def C1x (e:A8):Option Int:=
 let a:=(C1w e.Ao);
 Option.bind (gd (!(a !=0)) (C8X e)) fun b=>
 let c:=(C6a e);
 Option.bind (gd (!((a !=0)||(!b))) (A8C e c)) fun d=>
 cond (((a !=0)||(!b))||(!d)) (
  some 2)<|
 some 0
def C0t (e:List A6) (a:Int):Option (Int⊕Bool):=
 cond (decide (a<(e.length:Int))) (
  Option.bind (C1 e a) fun b=>
  Option.bind (gd ((!((decide (b.ID<0))||(decide (b.ID>1048576))))&&(decide (a>0))) (C1 e (A1 (a-1)))) fun c=>
  Option.bind (gd (!(((decide (b.ID<0))||(decide (b.ID>1048576)))||((decide (a>0))&&(decide (c.ID>=b.ID))))) (C1x b.Ac)) fun d=>
  cond ((((decide (b.ID<0))||(decide (b.ID>1048576)))||((decide (a>0))&&(decide (c.ID>=b.ID))))||(d !=0)) (
   some (.inr false))<|
  some (.inl (A1 (a+1))))<|
 Option.map Sum.inr (some true)
def C1y (b:List A6) (a:Int):Option Bool:=
 loop (fun (s:Int)=>C0t b s) a
def C6b (b:List A6) (a:Int):Option Bool:=
 cond (((decide (a<1))||(decide (a>64)))||(decide ((b.length:Int)>a))) (
  some false)<|
 C1y b 0
def Y5 (d:D7) (a:Int):Option (Int⊕Int):=
 cond (decide (a<(d.Ah.length:Int))) (
  Option.bind (C1 d.Ah a) fun c=>
  let b:=(A7Y c.Ac);
  cond (b.2&&(b.1 !=d.Now)) (
   some (.inr 2))<|
  some (.inl (A1 (a+1))))<|
 Option.map Sum.inr (some 0)
def A6F (b:D7) (a:Int):Option Int:=
 loop (fun (s:Int)=>Y5 b s) a
def D4f (c:D7):Option Int:=
 let a:=(I7 c.Now);
 Option.bind (gd (!(!a)) (C6b c.Ah c.Bd)) fun b=>
 cond ((!a)||(!b)) (
  some 2)<|
 A6F c 0
def A8K (a:Bool):Int:=
 cond a (
  1)<|
 0
end
end Go.Win
