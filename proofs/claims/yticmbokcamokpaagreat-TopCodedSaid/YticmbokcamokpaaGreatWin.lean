/- The functions of the program and of the statements, as functions on plain data: made by program out of the translated code. -/
import Derived.Test.YticmbokcamokpaaGreatVc
set_option linter.unusedVariables false
namespace Go.Win
open Go.Vc Go.Dec
noncomputable section
structure A4 where
 Bw:Int
 Br:Int
 deriving Inhabited
structure C9 where
 Lo:A4
 Bs:A4
 Hi:A4
 deriving Inhabited
def R2 (p:C9):List AV:= [.int .i64 p.Lo.Bw, .int .i64 p.Lo.Br, .int .i64 p.Bs.Bw, .int .i64 p.Bs.Br, .int .i64 p.Hi.Bw, .int .i64 p.Hi.Br]
structure A2 where
 Hi:Int
 Lo:Int
 deriving Inhabited
def O7 (p:A2):List AV:= [.int .u64 p.Hi, .int .u64 p.Lo]
def B0i (p:A2):Prop:=(D6 .u64) p.Hi/\(D6 .u64) p.Lo
structure D7 where
 Bw:A2
 Br:A2
 deriving Inhabited
def B3E (p:D7):List AV:= [.int .u64 p.Bw.Hi, .int .u64 p.Bw.Lo, .int .u64 p.Br.Hi, .int .u64 p.Br.Lo]
structure E3 where
 Am:C9
 Ax:(List Int)
 Aa:D7
 deriving Inhabited
def A1g (p:E3):List AV:= [.int .i64 p.Am.Lo.Bw, .int .i64 p.Am.Lo.Br, .int .i64 p.Am.Bs.Bw, .int .i64 p.Am.Bs.Br, .int .i64 p.Am.Hi.Bw, .int .i64 p.Am.Hi.Br, .lst 1 false (List.map (eI .i64) p.Ax), .int .u64 p.Aa.Bw.Hi, .int .u64 p.Aa.Bw.Lo, .int .u64 p.Aa.Br.Hi, .int .u64 p.Aa.Br.Lo]
structure B2 where
 V:Int
 Bv:Int
 Bu:Int
 deriving Inhabited
def D9 (p:B2):List AV:= [.int .i64 p.V, .int .i64 p.Bv, .int .i64 p.Bu]
def B7A (p:B2):Prop:=(D6 .i64) p.V/\(D6 .i64) p.Bv/\(D6 .i64) p.Bu
structure D4 where
 N:Int
 Ae:(List B2)
 deriving Inhabited
def A8p (p:D4):List AV:= [.int .i64 p.N, .lst 3 false (List.map D9 p.Ae)]
def C4w (p:D4):Prop:=(D6 .i64) p.N/\(A1t B7A) p.Ae
structure B1 where
 T:Int
 Bl:Int
 Bd:Int
 Bi:D4
 deriving Inhabited
def D1 (p:B1):List AV:= [.int .i64 p.T, .int .i64 p.Bl, .int .i64 p.Bd, .int .i64 p.Bi.N, .lst 3 false (List.map D9 p.Bi.Ae)]
def B2k (p:B1):Prop:=(D6 .i64) p.T/\(D6 .i64) p.Bl/\(D6 .i64) p.Bd/\C4w p.Bi
structure A3 where
 T:Int
 Bd:Int
 deriving Inhabited
def E1 (p:A3):List AV:= [.int .i64 p.T, .int .i64 p.Bd]
def A7H (p:A3):Prop:=(D6 .i64) p.T/\(D6 .i64) p.Bd
structure G1 where
 I:Int
 V:Int
 deriving Inhabited
def O5 (p:G1):List AV:= [.int .i64 p.I, .int .i64 p.V]
def B8U (p:G1):Prop:=(D6 .i64) p.I/\(D6 .i64) p.V
structure B5 where
 W:Int
 Cap:Int
 I:Int
 Bm:Int
 Bf:(List G1)
 deriving Inhabited
def F8 (p:B5):List AV:= [.int .i64 p.W, .int .i64 p.Cap, .int .i64 p.I, .int .i64 p.Bm, .lst 2 false (List.map O5 p.Bf)]
def B2l (p:B5):Prop:=(D6 .i64) p.W/\(D6 .i64) p.Cap/\(D6 .i64) p.I/\(D6 .i64) p.Bm/\(A1t B8U) p.Bf
structure B7 where
 Bj:Int
 Bp:Int
 W:Int
 K:Int
 Cap:Int
 P:Int
 Ao:Int
 Bu:Int
 deriving Inhabited
def I5 (p:B7):List AV:= [.int .i64 p.Bj, .int .i64 p.Bp, .int .i64 p.W, .int .i64 p.K, .int .i64 p.Cap, .int .i64 p.P, .int .i64 p.Ao, .int .i64 p.Bu]
def B2p (p:B7):Prop:=(D6 .i64) p.Bj/\(D6 .i64) p.Bp/\(D6 .i64) p.W/\(D6 .i64) p.K/\(D6 .i64) p.Cap/\(D6 .i64) p.P/\(D6 .i64) p.Ao/\(D6 .i64) p.Bu
def N0 (p:B7):Prop:=(D6 .i64) p.Bj/\(D6 .i64) p.Bp/\(D6 .i64) p.W/\(D6 .i64) p.K/\(D6 .i64) p.Cap/\(D6 .i64) p.P/\(D6 .i64) p.Ao/\(D6 .i64) p.Bu
structure L9 where
 Op:Int
 A:Int
 B:Int
 deriving Inhabited
def C4j (p:L9):List AV:= [.int .i64 p.Op, .int .i64 p.A, .int .i64 p.B]
def B8V (p:L9):Prop:=(D6 .i64) p.Op/\(D6 .i64) p.A/\(D6 .i64) p.B
def S7 (p:L9):Prop:=(D6 .i64) p.Op/\(D6 .i64) p.A/\(D6 .i64) p.B
structure B6 where
 Op:Int
 ID:Int
 Ap:B7
 T:Int
 V:Int
 Ba:(List Int)
 Bh:L9
 Ay:(List Int)
 deriving Inhabited
def E6 (p:B6):List AV:= [.int .i64 p.Op, .int .i64 p.ID, .int .i64 p.Ap.Bj, .int .i64 p.Ap.Bp, .int .i64 p.Ap.W, .int .i64 p.Ap.K, .int .i64 p.Ap.Cap, .int .i64 p.Ap.P, .int .i64 p.Ap.Ao, .int .i64 p.Ap.Bu, .int .i64 p.T, .int .i64 p.V, .lst 1 false (List.map (eI .i64) p.Ba), .int .i64 p.Bh.Op, .int .i64 p.Bh.A, .int .i64 p.Bh.B, .lst 1 false (List.map (eI .u8) p.Ay)]
def R4 (p:B6):Prop:=(D6 .i64) p.Op/\(D6 .i64) p.ID/\B2p p.Ap/\(D6 .i64) p.T/\(D6 .i64) p.V/\(wfL (D6 .i64)) p.Ba/\B8V p.Bh/\(wfL (D6 .u8)) p.Ay
structure E4 where
 W:Int
 K:Int
 Cap:Int
 Now:Int
 Ad:(List A3)
 deriving Inhabited
def N1 (p:E4):List AV:= [.int .i64 p.W, .int .i64 p.K, .int .i64 p.Cap, .int .i64 p.Now, .lst 2 false (List.map E1 p.Ad)]
def B2m (p:E4):Prop:=(D6 .i64) p.W/\(D6 .i64) p.K/\(D6 .i64) p.Cap/\(D6 .i64) p.Now/\(A1t A7H) p.Ad
structure A8 where
 T:Int
 V:Int
 deriving Inhabited
def E8 (p:A8):List AV:= [.int .i64 p.T, .int .i64 p.V]
def B4a (p:A8):Prop:=(D6 .i64) p.T/\(D6 .i64) p.V
structure C2 where
 Bu:Bool
 W:Int
 Cap:Int
 Now:Int
 Bc:(List A8)
 deriving Inhabited
def I7 (p:C2):List AV:= [.sb p.Bu, .int .i64 p.W, .int .i64 p.Cap, .int .i64 p.Now, .lst 2 false (List.map E8 p.Bc)]
def B0f (p:C2):Prop:=(fun _:Bool=>True) p.Bu/\(D6 .i64) p.W/\(D6 .i64) p.Cap/\(D6 .i64) p.Now/\(A1t B4a) p.Bc
structure F4 where
 Now:Int
 Bo:(List Int)
 deriving Inhabited
def A8o (p:F4):List AV:= [.int .i64 p.Now, .lst 1 false (List.map (eI .i64) p.Bo)]
def B2n (p:F4):Prop:=(D6 .i64) p.Now/\(A1t (D6 .i64)) p.Bo
structure E2 where
 P:Int
 Bk:Int
 Now:Int
 Ag:(List A2)
 deriving Inhabited
def O6 (p:E2):List AV:= [.int .i64 p.P, .int .i64 p.Bk, .int .i64 p.Now, .lst 2 false (List.map O7 p.Ag)]
def B4b (p:E2):Prop:=(D6 .i64) p.P/\(D6 .i64) p.Bk/\(D6 .i64) p.Now/\(A1t B0i) p.Ag
structure C3 where
 W:Int
 K:Int
 Cap:Int
 Now:Int
 Al:(List B1)
 deriving Inhabited
def I1 (p:C3):List AV:= [.int .i64 p.W, .int .i64 p.K, .int .i64 p.Cap, .int .i64 p.Now, .lst 5 false (List.map D1 p.Al)]
def A83 (p:C3):Prop:=(D6 .i64) p.W/\(D6 .i64) p.K/\(D6 .i64) p.Cap/\(D6 .i64) p.Now/\(A1t B2k) p.Al
structure D0 where
 W:Int
 Cap:Int
 Now:Int
 Bc:(List A8)
 deriving Inhabited
def M9 (p:D0):List AV:= [.int .i64 p.W, .int .i64 p.Cap, .int .i64 p.Now, .lst 2 false (List.map E8 p.Bc)]
def B0X (p:D0):Prop:=(D6 .i64) p.W/\(D6 .i64) p.Cap/\(D6 .i64) p.Now/\(A1t B4a) p.Bc
structure E7 where
 Ao:(List B5)
 deriving Inhabited
def A64 (p:E7):List AV:= [.lst 5 false (List.map F8 p.Ao)]
def B0Y (p:E7):Prop:=(A1t B2l) p.Ao
structure A6 where
 Bx:Int
 T:Int
 N:Int
 S:Int
 Q:Int
 Bv:Int
 Bu:Int
 deriving Inhabited
def C8 (p:A6):List AV:= [.int .i64 p.Bx, .int .i64 p.T, .int .i64 p.N, .int .i64 p.S, .int .i64 p.Q, .int .i64 p.Bv, .int .i64 p.Bu]
def B0g (p:A6):Prop:=(D6 .i64) p.Bx/\(D6 .i64) p.T/\(D6 .i64) p.N/\(D6 .i64) p.S/\(D6 .i64) p.Q/\(D6 .i64) p.Bv/\(D6 .i64) p.Bu
structure D2 where
 Bp:Int
 W:Int
 K:Int
 Cap:Int
 Now:Int
 Bx:Int
 Bg:(List A6)
 deriving Inhabited
def K9 (p:D2):List AV:= [.int .i64 p.Bp, .int .i64 p.W, .int .i64 p.K, .int .i64 p.Cap, .int .i64 p.Now, .int .i64 p.Bx, .lst 7 false (List.map C8 p.Bg)]
def B0Z (p:D2):Prop:=(D6 .i64) p.Bp/\(D6 .i64) p.W/\(D6 .i64) p.K/\(D6 .i64) p.Cap/\(D6 .i64) p.Now/\(D6 .i64) p.Bx/\(A1t B0g) p.Bg
structure D5 where
 W:Int
 K:Int
 Cap:Int
 Now:Int
 Bx:Int
 Bg:(List A6)
 deriving Inhabited
def K4 (p:D5):List AV:= [.int .i64 p.W, .int .i64 p.K, .int .i64 p.Cap, .int .i64 p.Now, .int .i64 p.Bx, .lst 7 false (List.map C8 p.Bg)]
def B00 (p:D5):Prop:=(D6 .i64) p.W/\(D6 .i64) p.K/\(D6 .i64) p.Cap/\(D6 .i64) p.Now/\(D6 .i64) p.Bx/\(A1t B0g) p.Bg
structure F3 where
 W:Int
 K:Int
 Cap:Int
 Bu:Int
 Now:Int
 Ad:(List A3)
 deriving Inhabited
def P3 (p:F3):List AV:= [.int .i64 p.W, .int .i64 p.K, .int .i64 p.Cap, .int .i64 p.Bu, .int .i64 p.Now, .lst 2 false (List.map E1 p.Ad)]
def B5x (p:F3):Prop:=(D6 .i64) p.W/\(D6 .i64) p.K/\(D6 .i64) p.Cap/\(D6 .i64) p.Bu/\(D6 .i64) p.Now/\(A1t A7H) p.Ad
structure E0 where
 V:Int
 G:Int
 D:Int
 deriving Inhabited
def G5 (p:E0):List AV:= [.int .i64 p.V, .int .i64 p.G, .int .i64 p.D]
def B7B (p:E0):Prop:=(D6 .i64) p.V/\(D6 .i64) p.G/\(D6 .i64) p.D
structure C1 where
 K:Int
 Cap:Int
 N:Int
 Aw:(List E0)
 deriving Inhabited
def H9 (p:C1):List AV:= [.int .i64 p.K, .int .i64 p.Cap, .int .i64 p.N, .lst 3 false (List.map G5 p.Aw)]
def B0h (p:C1):Prop:=(D6 .i64) p.K/\(D6 .i64) p.Cap/\(D6 .i64) p.N/\(A1t B7B) p.Aw
structure A9 where
 Ap:B7
 Ar:D0
 Az:E4
 Sum:F3
 Au:D2
 Av:D5
 Bn:E2
 Bb:F4
 Af:C2
 As:E7
 Aj:C1
 Ab:C3
 deriving Inhabited
def G4 (p:A9):List AV:= [.int .i64 p.Ap.Bj, .int .i64 p.Ap.Bp, .int .i64 p.Ap.W, .int .i64 p.Ap.K, .int .i64 p.Ap.Cap, .int .i64 p.Ap.P, .int .i64 p.Ap.Ao, .int .i64 p.Ap.Bu, .int .i64 p.Ar.W, .int .i64 p.Ar.Cap, .int .i64 p.Ar.Now, .lst 2 false (List.map E8 p.Ar.Bc), .int .i64 p.Az.W, .int .i64 p.Az.K, .int .i64 p.Az.Cap, .int .i64 p.Az.Now, .lst 2 false (List.map E1 p.Az.Ad), .int .i64 p.Sum.W, .int .i64 p.Sum.K, .int .i64 p.Sum.Cap, .int .i64 p.Sum.Bu, .int .i64 p.Sum.Now, .lst 2 false (List.map E1 p.Sum.Ad), .int .i64 p.Au.Bp, .int .i64 p.Au.W, .int .i64 p.Au.K, .int .i64 p.Au.Cap, .int .i64 p.Au.Now, .int .i64 p.Au.Bx, .lst 7 false (List.map C8 p.Au.Bg), .int .i64 p.Av.W, .int .i64 p.Av.K, .int .i64 p.Av.Cap, .int .i64 p.Av.Now, .int .i64 p.Av.Bx, .lst 7 false (List.map C8 p.Av.Bg), .int .i64 p.Bn.P, .int .i64 p.Bn.Bk, .int .i64 p.Bn.Now, .lst 2 false (List.map O7 p.Bn.Ag), .int .i64 p.Bb.Now, .lst 1 false (List.map (eI .i64) p.Bb.Bo), .sb p.Af.Bu, .int .i64 p.Af.W, .int .i64 p.Af.Cap, .int .i64 p.Af.Now, .lst 2 false (List.map E8 p.Af.Bc), .lst 5 false (List.map F8 p.As.Ao), .int .i64 p.Aj.K, .int .i64 p.Aj.Cap, .int .i64 p.Aj.N, .lst 3 false (List.map G5 p.Aj.Aw), .int .i64 p.Ab.W, .int .i64 p.Ab.K, .int .i64 p.Ab.Cap, .int .i64 p.Ab.Now, .lst 5 false (List.map D1 p.Ab.Al)]
def A3h (p:A9):Prop:=N0 p.Ap/\B0X p.Ar/\B2m p.Az/\B5x p.Sum/\B0Z p.Au/\B00 p.Av/\B4b p.Bn/\B2n p.Bb/\B0f p.Af/\B0Y p.As/\B0h p.Aj/\A83 p.Ab
structure A7 where
 ID:Int
 Ac:A9
 deriving Inhabited
def C6 (p:A7):List AV:= [.int .i64 p.ID, .int .i64 p.Ac.Ap.Bj, .int .i64 p.Ac.Ap.Bp, .int .i64 p.Ac.Ap.W, .int .i64 p.Ac.Ap.K, .int .i64 p.Ac.Ap.Cap, .int .i64 p.Ac.Ap.P, .int .i64 p.Ac.Ap.Ao, .int .i64 p.Ac.Ap.Bu, .int .i64 p.Ac.Ar.W, .int .i64 p.Ac.Ar.Cap, .int .i64 p.Ac.Ar.Now, .lst 2 false (List.map E8 p.Ac.Ar.Bc), .int .i64 p.Ac.Az.W, .int .i64 p.Ac.Az.K, .int .i64 p.Ac.Az.Cap, .int .i64 p.Ac.Az.Now, .lst 2 false (List.map E1 p.Ac.Az.Ad), .int .i64 p.Ac.Sum.W, .int .i64 p.Ac.Sum.K, .int .i64 p.Ac.Sum.Cap, .int .i64 p.Ac.Sum.Bu, .int .i64 p.Ac.Sum.Now, .lst 2 false (List.map E1 p.Ac.Sum.Ad), .int .i64 p.Ac.Au.Bp, .int .i64 p.Ac.Au.W, .int .i64 p.Ac.Au.K, .int .i64 p.Ac.Au.Cap, .int .i64 p.Ac.Au.Now, .int .i64 p.Ac.Au.Bx, .lst 7 false (List.map C8 p.Ac.Au.Bg), .int .i64 p.Ac.Av.W, .int .i64 p.Ac.Av.K, .int .i64 p.Ac.Av.Cap, .int .i64 p.Ac.Av.Now, .int .i64 p.Ac.Av.Bx, .lst 7 false (List.map C8 p.Ac.Av.Bg), .int .i64 p.Ac.Bn.P, .int .i64 p.Ac.Bn.Bk, .int .i64 p.Ac.Bn.Now, .lst 2 false (List.map O7 p.Ac.Bn.Ag), .int .i64 p.Ac.Bb.Now, .lst 1 false (List.map (eI .i64) p.Ac.Bb.Bo), .sb p.Ac.Af.Bu, .int .i64 p.Ac.Af.W, .int .i64 p.Ac.Af.Cap, .int .i64 p.Ac.Af.Now, .lst 2 false (List.map E8 p.Ac.Af.Bc), .lst 5 false (List.map F8 p.Ac.As.Ao), .int .i64 p.Ac.Aj.K, .int .i64 p.Ac.Aj.Cap, .int .i64 p.Ac.Aj.N, .lst 3 false (List.map G5 p.Ac.Aj.Aw), .int .i64 p.Ac.Ab.W, .int .i64 p.Ac.Ab.K, .int .i64 p.Ac.Ab.Cap, .int .i64 p.Ac.Ab.Now, .lst 5 false (List.map D1 p.Ac.Ab.Al)]
def C3j (p:A7):Prop:=(D6 .i64) p.ID/\A3h p.Ac
structure B4 where
 Now:Int
 Be:Int
 Ai:(List A7)
 deriving Inhabited
def A63 (p:B4):List AV:= [.int .i64 p.Now, .int .i64 p.Be, .lst 58 false (List.map C6 p.Ai)]
def B0W (p:B4):Prop:=(D6 .i64) p.Now/\(D6 .i64) p.Be/\(A1t C3j) p.Ai
structure F5 where
 Code:Int
 Ak:E3
 Bt:(List Int)
 Ay:(List Int)
 deriving Inhabited
def A0U (p:F5):List AV:= [.int .i64 p.Code, .int .i64 p.Ak.Am.Lo.Bw, .int .i64 p.Ak.Am.Lo.Br, .int .i64 p.Ak.Am.Bs.Bw, .int .i64 p.Ak.Am.Bs.Br, .int .i64 p.Ak.Am.Hi.Bw, .int .i64 p.Ak.Am.Hi.Br, .lst 1 false (List.map (eI .i64) p.Ak.Ax), .int .u64 p.Ak.Aa.Bw.Hi, .int .u64 p.Ak.Aa.Bw.Lo, .int .u64 p.Ak.Aa.Br.Hi, .int .u64 p.Ak.Aa.Br.Lo, .lst 1 false (List.map (eI .i64) p.Bt), .lst 1 false (List.map (eI .u8) p.Ay)]
structure K0 where
 draws_:(List Int)
 at_:Int
 beyond_:Int
 deriving Inhabited
def A5e (p:K0):List AV:= [.lst 1 false (List.map (eI .i64) p.draws_), .int .i64 p.at_, .int .i64 p.beyond_]
structure D8 where
 Aq:B4
 command_:B6
 reply_:F5
 deriving Inhabited
def H6 (p:D8):List AV:= [.int .i64 p.Aq.Now, .int .i64 p.Aq.Be, .lst 58 false (List.map C6 p.Aq.Ai), .int .i64 p.command_.Op, .int .i64 p.command_.ID, .int .i64 p.command_.Ap.Bj, .int .i64 p.command_.Ap.Bp, .int .i64 p.command_.Ap.W, .int .i64 p.command_.Ap.K, .int .i64 p.command_.Ap.Cap, .int .i64 p.command_.Ap.P, .int .i64 p.command_.Ap.Ao, .int .i64 p.command_.Ap.Bu, .int .i64 p.command_.T, .int .i64 p.command_.V, .lst 1 false (List.map (eI .i64) p.command_.Ba), .int .i64 p.command_.Bh.Op, .int .i64 p.command_.Bh.A, .int .i64 p.command_.Bh.B, .lst 1 false (List.map (eI .u8) p.command_.Ay), .int .i64 p.reply_.Code, .int .i64 p.reply_.Ak.Am.Lo.Bw, .int .i64 p.reply_.Ak.Am.Lo.Br, .int .i64 p.reply_.Ak.Am.Bs.Bw, .int .i64 p.reply_.Ak.Am.Bs.Br, .int .i64 p.reply_.Ak.Am.Hi.Bw, .int .i64 p.reply_.Ak.Am.Hi.Br, .lst 1 false (List.map (eI .i64) p.reply_.Ak.Ax), .int .u64 p.reply_.Ak.Aa.Bw.Hi, .int .u64 p.reply_.Ak.Aa.Bw.Lo, .int .u64 p.reply_.Ak.Aa.Br.Hi, .int .u64 p.reply_.Ak.Aa.Br.Lo, .lst 1 false (List.map (eI .i64) p.reply_.Bt), .lst 1 false (List.map (eI .u8) p.reply_.Ay)]
structure H5 where
 e0:Int
 e1:Int
 e2:Int
 e3:Int
 deriving Inhabited
def A0j (p:H5):List AV:= [.int .u64 p.e0, .int .u64 p.e1, .int .u64 p.e2, .int .u64 p.e3]
structure A2V where
 Ay:(List Int)
 At:Int
 Ah:Bool
 Bq:Bool
 deriving Inhabited
def A3C (p:A2V):List AV:= [.lst 1 false (List.map (eI .u8) p.Ay), .int .i64 p.At, .sb p.Ah, .sb p.Bq]
structure V4 where
 L:(List Int)
 At:Int
 deriving Inhabited
def A8q (p:V4):List AV:= [.lst 1 false (List.map (eI .i64) p.L), .int .i64 p.At]
def B1d (b a:Int):Option (Int×Bool):=
 cond ((a==0)||((b==(-9223372036854775808:Int))&&(a==(-1:Int)))) (
  some (0,false))<|
 ck (decide (a≠0))<|
 ck (decide (a≠0))<|
 cond (((Int.tmod b a) !=0)&&((decide (b<0))==(decide (a<0)))) (
  some ((A1 ((A1 (Int.tdiv b a))+1)),true))<|
 some ((A1 (Int.tdiv b a)),true)
def A3J (e d b a:Int):Option ((Int×Int)⊕Int):=
 cond (decide (a<=e)) (
  ck (decide (0<=(A5 a)))<|
  cond (decide ((E5 .i64 1 (A5 a))>(A1 (d+1)))) (
   Option.bind (B1d (A1 ((E5 .i64 1 (A5 a))-1)) d) fun c=>
   some (.inl ((A1 ((A1 (2*b))+c.1)),(A1 (a+1)))))<|
  some (.inl (b,(A1 (a+1)))))<|
 Option.map Sum.inr (some b)
def B2q (c d a b:Int):Option Int:=
 loop (fun (s:(Int×Int))=>A3J c d s.1 s.2) (a,b)
def A60 (a b:Int):Option Int:=
 cond ((((decide (a<0))||(decide (a>30)))||(decide (b<1)))||(decide (b>65536))) (
  some (-1:Int))<|
 B2q a b 0 0
def A2h (c:Int) (a:List B1):Option ((List B1)⊕(List B1)):=
 Option.bind (gd (decide ((a.length:Int)>(0:Int))) (B9 a 0)) fun b=>
 cond ((decide ((a.length:Int)>(0:Int)))&&(decide (b.T<c))) (
  ck (decide (0<=(1:Int)/\1<=(a.length:Int)))<|
  some (.inl (a.drop ((1:Int)).toNat)))<|
 Option.map Sum.inr (ck (decide ((([]:List B1).length+a.length)*56<=140737488355328))<|
 some (([]:List B1)++a))
def A8E (b:Int) (a:List B1):Option (List B1):=
 loop (fun (s:(List B1))=>A2h b s) a
def A3z (a:List B1) (b:Int):Option (List B1):=
 A8E b a
def A49 (d:List B1) (b:List A3) (c:Int):Option (((List A3)×Int)⊕(List A3)):=
 cond (decide (c<(d.length:Int))) (
  Option.bind (B9 d c) fun a=>
  ck (decide ((b.length+ [(A3.mk a.T a.Bd)].length)*16<=140737488355328))<|
  some (.inl ((b++ [(A3.mk a.T a.Bd)]),(A1 (c+1)))))<|
 Option.map Sum.inr (some b)
def B4w (c:List B1) (a:List A3) (b:Int):Option (List A3):=
 loop (fun (s:((List A3)×Int))=>A49 c s.1 s.2) (a,b)
def A6r (a:List B1):Option (List A3):=
 B4w a ([]:List A3) 0
def A0T (a:Int):Bool:=
 ((decide (a>=0))&&(decide (a<=30)))
def B9u (e:List A3) (b a:Int):Option ((Int×Int)⊕Int):=
 cond (decide (a<(e.length:Int))) (
  Option.bind (B9 e a) fun c=>
  let d:=(A0T c.Bd);
  cond d (
   ck (decide (0<=(A5 c.Bd)))<|
   some (.inl ((A1 (b+(E5 .i64 1 (A5 c.Bd)))),(A1 (a+1)))))<|
  some (.inl (b,(A1 (a+1)))))<|
 Option.map Sum.inr (some b)
def A8I (c:List A3) (a b:Int):Option Int:=
 loop (fun (s:(Int×Int))=>B9u c s.1 s.2) (a,b)
def L7 (a:List A3):Option Int:=
 A8I a 0 0
def A25 (c:List B1):Option Int:=
 Option.bind (A6r c) fun a=>
 Option.bind (L7 a) fun b=>
 some b
def A26 (a:Int):Bool:=
 ((decide (a>=0))&&(decide (a<=16777216)))
def A3K (L w x y z A B C D E F a b c d e f g h i j k l m n o p q r s t u:Int) (G:A3) (v:Int):Option (Int⊕Bool):=
 cond (decide (v<=G.Bd)) (
  Option.bind (B9 [w,x,y,z,A,B,C,D,E,F,a,b,c,d,e,f,g,h,i,j,k,l,m,n,o,p,q,r,s,t,u] v) fun K=>
  Option.bind (B9 [w,x,y,z,A,B,C,D,E,F,a,b,c,d,e,f,g,h,i,j,k,l,m,n,o,p,q,r,s,t,u] v) fun H=>
  Option.bind (gd ((!(decide (H>(A1 (L+1)))))&&(decide (v<G.Bd))) (B9 [w,x,y,z,A,B,C,D,E,F,a,b,c,d,e,f,g,h,i,j,k,l,m,n,o,p,q,r,s,t,u] v)) fun J=>
  Option.bind (gd ((!(decide (H>(A1 (L+1)))))&&(decide (v<G.Bd))) (B9 [w,x,y,z,A,B,C,D,E,F,a,b,c,d,e,f,g,h,i,j,k,l,m,n,o,p,q,r,s,t,u] v)) fun I=>
  cond ((decide (H>(A1 (L+1))))||((decide (v<G.Bd))&&(decide (I<L)))) (
   some (.inr false))<|
  some (.inl (A1 (v+1))))<|
 Option.map Sum.inr (some true)
def A4f (I w x y z A B C D E F a b c d e f g h i j k l m n o p q r t u v:Int) (G:A3) (H:Int):Option Bool:=
 loop (fun (s:Int)=>A3K I w x y z A B C D E F a b c d e f g h i j k l m n o p q r t u v G s) H
def A7M (Q:List A3) (R H x y z A B C D E F G c d e f g h i j k l m n o p q r s t u v w:Int):Option ((Int×Int×Int×Int×Int×Int×Int×Int×Int×Int×Int×Int×Int×Int×Int×Int×Int×Int×Int×Int×Int×Int×Int×Int×Int×Int×Int×Int×Int×Int×Int×Int)⊕Bool):=
 cond (decide (H<(Q.length:Int))) (
  Option.bind (B9 Q H) fun a=>
  let L:=(A26 a.T);
  let M:=(A0T a.Bd);
  cond ((!L)||(!M)) (
   some (.inr false))<|
  Option.bind (gd (decide (H>0)) (B9 Q (A1 (H-1)))) fun I=>
  Option.bind (gd ((decide (H>0))&&(!(decide (I.T>a.T)))) (B9 Q (A1 (H-1)))) fun J=>
  cond ((decide (H>0))&&((decide (I.T>a.T))||(decide (J.Bd<a.Bd)))) (
   some (.inr false))<|
  Option.bind (B9 [x,y,z,A,B,C,D,E,F,G,c,d,e,f,g,h,i,j,k,l,m,n,o,p,q,r,s,t,u,v,w] a.Bd) fun N=>
  Option.bind (B9 [x,y,z,A,B,C,D,E,F,G,c,d,e,f,g,h,i,j,k,l,m,n,o,p,q,r,s,t,u,v,w] a.Bd) fun b=>
  Option.bind (B9 [x,y,z,A,B,C,D,E,F,G,c,d,e,f,g,h,i,j,k,l,m,n,o,p,q,r,s,t,u,v,w] a.Bd) fun O=>
  Option.bind (B9 [x,y,z,A,B,C,D,E,F,G,c,d,e,f,g,h,i,j,k,l,m,n,o,p,q,r,s,t,u,v,w] a.Bd) fun P=>
  some (.inl ((A1 (H+1)),(if (a.Bd).toNat=0 then (A1 (b+1)) else x),(if (a.Bd).toNat=1 then (A1 (b+1)) else y),(if (a.Bd).toNat=2 then (A1 (b+1)) else z),(if (a.Bd).toNat=3 then (A1 (b+1)) else A),(if (a.Bd).toNat=4 then (A1 (b+1)) else B),(if (a.Bd).toNat=5 then (A1 (b+1)) else C),(if (a.Bd).toNat=6 then (A1 (b+1)) else D),(if (a.Bd).toNat=7 then (A1 (b+1)) else E),(if (a.Bd).toNat=8 then (A1 (b+1)) else F),(if (a.Bd).toNat=9 then (A1 (b+1)) else G),(if (a.Bd).toNat=10 then (A1 (b+1)) else c),(if (a.Bd).toNat=11 then (A1 (b+1)) else d),(if (a.Bd).toNat=12 then (A1 (b+1)) else e),(if (a.Bd).toNat=13 then (A1 (b+1)) else f),(if (a.Bd).toNat=14 then (A1 (b+1)) else g),(if (a.Bd).toNat=15 then (A1 (b+1)) else h),(if (a.Bd).toNat=16 then (A1 (b+1)) else i),(if (a.Bd).toNat=17 then (A1 (b+1)) else j),(if (a.Bd).toNat=18 then (A1 (b+1)) else k),(if (a.Bd).toNat=19 then (A1 (b+1)) else l),(if (a.Bd).toNat=20 then (A1 (b+1)) else m),(if (a.Bd).toNat=21 then (A1 (b+1)) else n),(if (a.Bd).toNat=22 then (A1 (b+1)) else o),(if (a.Bd).toNat=23 then (A1 (b+1)) else p),(if (a.Bd).toNat=24 then (A1 (b+1)) else q),(if (a.Bd).toNat=25 then (A1 (b+1)) else r),(if (a.Bd).toNat=26 then (A1 (b+1)) else s),(if (a.Bd).toNat=27 then (A1 (b+1)) else t),(if (a.Bd).toNat=28 then (A1 (b+1)) else u),(if (a.Bd).toNat=29 then (A1 (b+1)) else v),(if (a.Bd).toNat=30 then (A1 (b+1)) else w))))<|
 Option.map Sum.inr (cond ((Q.length:Int)==(0:Int)) (
  some true)<|
 Option.bind (B9 Q 0) fun K=>
 A4f R x y z A B C D E F G c d e f g h i j k l m n o p q r s t u v w K 0)
def A8J (H:List A3) (I G w x y z A B C D E F a b c d e f g h i j k l m n o p q r t u v:Int):Option Bool:=
 loop (fun (s:(Int×Int×Int×Int×Int×Int×Int×Int×Int×Int×Int×Int×Int×Int×Int×Int×Int×Int×Int×Int×Int×Int×Int×Int×Int×Int×Int×Int×Int×Int×Int×Int))=>A7M H I s.1 s.2.1 s.2.2.1 s.2.2.2.1 s.2.2.2.2.1 s.2.2.2.2.2.1 s.2.2.2.2.2.2.1 s.2.2.2.2.2.2.2.1 s.2.2.2.2.2.2.2.2.1 s.2.2.2.2.2.2.2.2.2.1 s.2.2.2.2.2.2.2.2.2.2.1 s.2.2.2.2.2.2.2.2.2.2.2.1 s.2.2.2.2.2.2.2.2.2.2.2.2.1 s.2.2.2.2.2.2.2.2.2.2.2.2.2.1 s.2.2.2.2.2.2.2.2.2.2.2.2.2.2.1 s.2.2.2.2.2.2.2.2.2.2.2.2.2.2.2.1 s.2.2.2.2.2.2.2.2.2.2.2.2.2.2.2.2.1 s.2.2.2.2.2.2.2.2.2.2.2.2.2.2.2.2.2.1 s.2.2.2.2.2.2.2.2.2.2.2.2.2.2.2.2.2.2.1 s.2.2.2.2.2.2.2.2.2.2.2.2.2.2.2.2.2.2.2.1 s.2.2.2.2.2.2.2.2.2.2.2.2.2.2.2.2.2.2.2.2.1 s.2.2.2.2.2.2.2.2.2.2.2.2.2.2.2.2.2.2.2.2.2.1 s.2.2.2.2.2.2.2.2.2.2.2.2.2.2.2.2.2.2.2.2.2.2.1 s.2.2.2.2.2.2.2.2.2.2.2.2.2.2.2.2.2.2.2.2.2.2.2.1 s.2.2.2.2.2.2.2.2.2.2.2.2.2.2.2.2.2.2.2.2.2.2.2.2.1 s.2.2.2.2.2.2.2.2.2.2.2.2.2.2.2.2.2.2.2.2.2.2.2.2.2.1 s.2.2.2.2.2.2.2.2.2.2.2.2.2.2.2.2.2.2.2.2.2.2.2.2.2.2.1 s.2.2.2.2.2.2.2.2.2.2.2.2.2.2.2.2.2.2.2.2.2.2.2.2.2.2.2.1 s.2.2.2.2.2.2.2.2.2.2.2.2.2.2.2.2.2.2.2.2.2.2.2.2.2.2.2.2.1 s.2.2.2.2.2.2.2.2.2.2.2.2.2.2.2.2.2.2.2.2.2.2.2.2.2.2.2.2.2.1 s.2.2.2.2.2.2.2.2.2.2.2.2.2.2.2.2.2.2.2.2.2.2.2.2.2.2.2.2.2.2.1 s.2.2.2.2.2.2.2.2.2.2.2.2.2.2.2.2.2.2.2.2.2.2.2.2.2.2.2.2.2.2.2) (G,w,x,y,z,A,B,C,D,E,F,a,b,c,d,e,f,g,h,i,j,k,l,m,n,o,p,q,r,t,u,v)
def U6 (b:List A3) (a:Int):Option Bool:=
 cond ((decide (a<1))||(decide (a>128))) (
  some false)<|
 A8J b a 0 0 0 0 0 0 0 0 0 0 0 0 0 0 0 0 0 0 0 0 0 0 0 0 0 0 0 0 0 0 0 0
def A4i (f:D4) (a:Int):Option (Int⊕Int):=
 cond (decide (a<(f.Ae.length:Int))) (
  Option.bind (B9 f.Ae a) fun b=>
  cond (((decide (b.Bv<1))||(decide (b.Bv>b.Bu)))||(decide (b.Bu>f.N))) (
   some (.inr 2))<|
  cond (decide (a>0)) (
   Option.bind (B9 f.Ae (A1 (a-1))) fun c=>
   cond (((decide (c.V>b.V))||(decide (c.Bv>=b.Bv)))||(decide (c.Bu>=b.Bu))) (
    some (.inr 2))<|
   some (.inl (A1 (a+1))))<|
  some (.inl (A1 (a+1))))<|
 Option.map Sum.inr (Option.bind (gd (decide ((f.Ae.length:Int)>(0:Int))) (B9 f.Ae 0)) fun d=>
 Option.bind (gd ((decide ((f.Ae.length:Int)>(0:Int)))&&(!(d.Bu !=1))) (B9 f.Ae (A1 ((f.Ae.length:Int)-(1:Int))))) fun e=>
 cond ((decide ((f.Ae.length:Int)>(0:Int)))&&((d.Bu !=1)||(e.Bv !=f.N))) (
  some 2)<|
 some 0)
def B3Y (b:D4) (a:Int):Option Int:=
 loop (fun (s:Int)=>A4i b s) a
def S5 (a:D4):Option Int:=
 cond (((decide (a.N<0))||(decide (a.N>1099511627776)))||(!(((a.Ae.length:Int)==(0:Int))==(a.N==0)))) (
  some 2)<|
 B3Y a 0
def B3V (e:D4) (b a:Int):Option ((Int×Int)⊕Int):=
 cond (decide (a<(e.Ae.length:Int))) (
  Option.bind (B9 e.Ae a) fun d=>
  Option.bind (B9 e.Ae (A1 (a-1))) fun c=>
  some (.inl ((A0t b (A1 (d.Bu-c.Bv))),(A1 (a+1)))))<|
 Option.map Sum.inr (some b)
def B5m (c:D4) (a b:Int):Option Int:=
 loop (fun (s:(Int×Int))=>B3V c s.1 s.2) (a,b)
def B6M (b:D4):Option Int:=
 Option.bind (S5 b) fun a=>
 cond ((a !=0)||((b.Ae.length:Int)==(0:Int))) (
  some 0)<|
 B5m b 1 1
def A48 (i:List B1) (h b:Int):Option (Int⊕Bool):=
 cond (decide (b<(i.length:Int))) (
  Option.bind (B9 i b) fun a=>
  Option.bind (S5 a.Bi) fun c=>
  ck (!(!(c !=0))||(decide (0<=(A5 a.Bd))))<|
  Option.bind (gd (!(((c !=0)||(a.Bi.N !=(E5 .i64 1 (A5 a.Bd))))||(decide ((a.Bi.Ae.length:Int)>(A1 (h+1)))))) (B6M a.Bi)) fun f=>
  Option.bind (gd (!(((c !=0)||(a.Bi.N !=(E5 .i64 1 (A5 a.Bd))))||(decide ((a.Bi.Ae.length:Int)>(A1 (h+1)))))) (A60 a.Bd h)) fun g=>
  cond ((((c !=0)||(a.Bi.N !=(E5 .i64 1 (A5 a.Bd))))||(decide ((a.Bi.Ae.length:Int)>(A1 (h+1)))))||(decide ((A1 (f-1))>g))) (
   some (.inr false))<|
  Option.bind (B9 a.Bi.Ae 0) fun e=>
  Option.bind (B9 a.Bi.Ae (A1 ((a.Bi.Ae.length:Int)-(1:Int)))) fun d=>
  cond ((((decide (e.V<(-4096:Int)))||(decide (d.V>4096)))||(decide (a.Bl<e.V)))||(decide (a.Bl>d.V))) (
   some (.inr false))<|
  some (.inl (A1 (b+1))))<|
 Option.map Sum.inr (some true)
def B4v (b:List B1) (c a:Int):Option Bool:=
 loop (fun (s:Int)=>A48 b c s) a
def A4y (d:List B1) (e c:Int):Option Bool:=
 Option.bind (gd (!((decide (c<1))||(decide (c>65536)))) (A6r d)) fun b=>
 Option.bind (gd (!((decide (c<1))||(decide (c>65536)))) (U6 b e)) fun a=>
 cond (((decide (c<1))||(decide (c>65536)))||(!a)) (
  some false)<|
 B4v d c 0
def A0S (a:Int):D4:=
 (D4.mk 1 [(B2.mk a 1 1)])
def A6d (c:B2) (d:List B2) (e f a:Int):Option B2:=
 cond (decide (e<(d.length:Int))) (
  Option.bind (B9 d e) fun b=>
  some (B2.mk c.V a (A1 (c.Bu+(A1 (b.Bu-1))))))<|
 some (B2.mk c.V a (A1 (c.Bu+f)))
def A6K (b:B2) (d:List B2) (c e:Int):Option B2:=
 cond (decide (c>0)) (
  Option.bind (B9 d (A1 (c-1))) fun a=>
  A6d b d c e (A1 (b.Bv+a.Bv)))<|
 A6d b d c e b.Bv
def A37 (a:D4):Option D4:=
 ck (decide ((([]:List B2).length+a.Ae.length)*24<=140737488355328))<|
 some (D4.mk a.N (([]:List B2)++a.Ae))
def A7g (b:List B2) (c d:Int) (a:B2):Option ((Int×Int×(List B2))⊕(D4×Int)):=
 ck (decide ((b.length+ [a].length)*24<=140737488355328))<|
 some (.inl (c,d,(b++ [a])))
def A7h (j k:D4) (a b:Int) (c:List B2):Option ((Int×Int×(List B2))⊕(D4×Int)):=
 cond ((decide (a<(j.Ae.length:Int)))||(decide (b<(k.Ae.length:Int)))) (
  Option.bind (gd ((!(b==(k.Ae.length:Int)))&&(decide (a<(j.Ae.length:Int)))) (B9 j.Ae a)) fun d=>
  Option.bind (gd ((!(b==(k.Ae.length:Int)))&&(decide (a<(j.Ae.length:Int)))) (B9 k.Ae b)) fun e=>
  cond ((b==(k.Ae.length:Int))||((decide (a<(j.Ae.length:Int)))&&(decide (d.V<=e.V)))) (
   Option.bind (B9 j.Ae a) fun f=>
   Option.bind (A6K f k.Ae b k.N) fun g=>
   A7g c (A1 (a+1)) b g)<|
  Option.bind (B9 k.Ae b) fun h=>
  Option.bind (A6K h j.Ae a j.N) fun i=>
  A7g c a (A1 (b+1)) i)<|
 Option.map Sum.inr (some ((D4.mk (A1 (j.N+k.N)) c),0))
def B15 (d e:D4) (b c:Int) (a:List B2):Option (D4×Int):=
 loop (fun (s:(Int×Int×(List B2)))=>A7h d e s.1 s.2.1 s.2.2) (b,c,a)
def A7f (e f:D4):Option (D4×Int):=
 Option.bind (S5 e) fun a=>
 cond (a !=0) (
  some ((D4.mk 0 []),a))<|
 Option.bind (S5 f) fun b=>
 cond (b !=0) (
  some ((D4.mk 0 []),b))<|
 cond (decide (e.N>(A1 (1099511627776-f.N)))) (
  some ((D4.mk 0 []),5))<|
 cond (e.N==0) (
  Option.bind (A37 f) fun c=>
  some (c,0))<|
 cond (f.N==0) (
  Option.bind (A37 e) fun d=>
  some (d,0))<|
 B15 e f 0 0 ([]:List B2)
def B3Z (a:B2) (b:Int):Int:=
 (A0t (A1 (b-a.Bv)) (A1 (a.Bu-b)))
def B0I (f:List B2) (g a:Int):Option (Int⊕Int):=
 Option.bind (gd (decide ((A1 (a+1))<(f.length:Int))) (B9 f (A1 (a+1)))) fun e=>
 let b:=(B3Z e g);
 Option.bind (gd (decide ((A1 (a+1))<(f.length:Int))) (B9 f a)) fun c=>
 let d:=(B3Z c g);
 cond ((decide ((A1 (a+1))<(f.length:Int)))&&(decide (b<d))) (
  some (.inl (A1 (a+1))))<|
 Option.map Sum.inr (some a)
def B7p (b:List B2) (c a:Int):Option Int:=
 loop (fun (s:Int)=>B0I b c s) a
def A2H (a:List B2) (b c:Int):Option Int:=
 B7p a b c
def B0H (g:D4) (h e f c:Int) (a:List B2):Option ((Int×Int×Int×(List B2))⊕(D4×Int)):=
 cond (decide (c<=h)) (
  ck (decide (h≠0))<|
  Option.bind (A2H g.Ae (A1 (1+(A1 (Int.tdiv (A1 (c*(A1 (g.N-1)))) h)))) f) fun b=>
  cond (b !=e) (
   Option.bind (B9 g.Ae b) fun d=>
   ck (decide ((a.length+ [d].length)*24<=140737488355328))<|
   some (.inl (b,b,(A1 (c+1)),(a++ [d]))))<|
  some (.inl (e,b,(A1 (c+1)),a)))<|
 Option.map Sum.inr (some ((D4.mk g.N a),0))
def B16 (e:D4) (f c d b:Int) (a:List B2):Option (D4×Int):=
 loop (fun (s:(Int×Int×Int×(List B2)))=>B0H e f s.1 s.2.1 s.2.2.1 s.2.2.2) (c,d,b,a)
def A9P (c:D4) (d:Int):Option (D4×Int):=
 Option.bind (S5 c) fun a=>
 cond (a !=0) (
  some ((D4.mk 0 []),a))<|
 cond ((decide (d<1))||(decide (d>65536))) (
  some ((D4.mk 0 []),1))<|
 cond (decide ((c.Ae.length:Int)<=(A1 (d+1)))) (
  Option.bind (A37 c) fun b=>
  some (b,0))<|
 B16 c d (-1:Int) 0 0 ([]:List B2)
def A7K (o p:Int) (b:List B1) (f d a:Int):Option (Int⊕(((List B1)×Int×Int)⊕(List B1))):=
 Option.bind (gd (decide (a>0)) (B9 b (A1 (a-1)))) fun n=>
 Option.bind (gd (decide (a>0)) (B9 b (A1 (a-1)))) fun i=>
 cond ((decide (a>0))&&(i.Bd==d)) (
  some (.inl (A1 (a-1))))<|
 Option.map Sum.inr (cond (decide ((A1 (f-a))<(A1 (o+2)))) (
  some (.inr b))<|
 Option.bind (B9 b a) fun l=>
 Option.bind (B9 b a) fun g=>
 Option.bind (B9 b (A1 (a+1))) fun m=>
 Option.bind (B9 b (A1 (a+1))) fun c=>
 Option.bind (A7f g.Bi c.Bi) fun h=>
 Option.bind (A9P h.1 p) fun e=>
 Option.bind (B9 b a) fun j=>
 Option.bind (B9 b a) fun k=>
 ck (decide (0<=(A1 (a+1))/\(A1 (a+1))<=((b.set (a).toNat (B1.mk c.T c.Bl (A1 (d+1)) e.1)).length:Int)))<|
 ck (decide (0<=(A1 (a+2))/\(A1 (a+2))<=((b.set (a).toNat (B1.mk c.T c.Bl (A1 (d+1)) e.1)).length:Int)))<|
 ck (decide (0<((A1 (a+(1:Int)))).toNat/\((A1 (a+(1:Int)))).toNat+(((b.set (a).toNat (B1.mk c.T c.Bl (A1 (d+1)) e.1)).drop ((A1 (a+(2:Int)))).toNat).take ((b.set (a).toNat (B1.mk c.T c.Bl (A1 (d+1)) e.1)).length-((A1 (a+(2:Int)))).toNat)).length<=(b.set (a).toNat (B1.mk c.T c.Bl (A1 (d+1)) e.1)).length))<|
 some (.inl (((b.set (a).toNat (B1.mk c.T c.Bl (A1 (d+1)) e.1)).take ((A1 (a+(1:Int)))).toNat++(((b.set (a).toNat (B1.mk c.T c.Bl (A1 (d+1)) e.1)).drop ((A1 (a+(2:Int)))).toNat).take ((b.set (a).toNat (B1.mk c.T c.Bl (A1 (d+1)) e.1)).length-((A1 (a+(2:Int)))).toNat))),(A1 (a+1)),(A1 (d+1)))))
def A8G (e f:Int) (a:List B1) (b c d:Int):Option (((List B1)×Int×Int)⊕(List B1)):=
 loop (fun (s:Int)=>A7K e f a b c s) d
def B2r (d e:Int) (b:List B1) (a c:Int):Option (((List B1)×Int×Int)⊕(List B1)):=
 A8G d e b a c a
def A8F (d e:Int) (a:List B1) (b c:Int):Option (List B1):=
 loop (fun (s:((List B1)×Int×Int))=>B2r d e s.1 s.2.1 s.2.2) (a,b,c)
def B1Y (e:List B1) (h i f g:Int):Option (List B1):=
 Option.bind (A4y e h i) fun a=>
 Option.bind (gd ((!(((!a)||(decide (f<0)))||(decide (f>16777216))))&&(decide ((e.length:Int)>(0:Int)))) (B9 e (A1 ((e.length:Int)-(1:Int))))) fun c=>
 Option.bind (gd (!((((((!a)||(decide (f<0)))||(decide (f>16777216)))||((decide ((e.length:Int)>(0:Int)))&&(decide (c.T>f))))||(decide (g<(-4096:Int))))||(decide (g>4096)))) (A25 e)) fun d=>
 cond (((((((!a)||(decide (f<0)))||(decide (f>16777216)))||((decide ((e.length:Int)>(0:Int)))&&(decide (c.T>f))))||(decide (g<(-4096:Int))))||(decide (g>4096)))||(decide (d>=1073741824))) (
  some [])<|
 ck (decide ((([]:List B1).length+e.length)*56<=140737488355328))<|
 let b:=(A0S g);
 ck (decide (((([]:List B1)++e).length+ [(B1.mk f g 0 b)].length)*56<=140737488355328))<|
 A8F h i ((([]:List B1)++e)++ [(B1.mk f g 0 b)]) (((([]:List B1)++e)++ [(B1.mk f g 0 b)]).length:Int) 0
def B4u (f:List B1) (d a:Int) (b:List B2):Option ((Int×Int×(List B2))⊕(D4×Int)):=
 cond (decide (d<((f.drop ((1:Int)).toNat).length:Int))) (
  Option.bind (B9 (f.drop ((1:Int)).toNat) d) fun e=>
  Option.bind (A7f (D4.mk a b) e.Bi) fun c=>
  cond (c.2 !=0) (
   some (.inr ((D4.mk 0 []),c.2)))<|
  some (.inl ((A1 (d+1)),c.1.N,c.1.Ae)))<|
 Option.map Sum.inr (some ((D4.mk a b),0))
def B5G (d:List B1) (c a:Int) (b:List B2):Option (D4×Int):=
 loop (fun (s:(Int×Int×(List B2)))=>B4u d s.1 s.2.1 s.2.2) (c,a,b)
def A2W (c:List B1) (a:Int) (b:List B2):Option (D4×Int):=
 ck (decide (0<=(1:Int)/\1<=(c.length:Int)))<|
 B5G c 0 a b
def B4t (h:List B1) (a:Int):Option (Int⊕(D4×Int)):=
 cond (decide (a<(h.length:Int))) (
  Option.bind (B9 h a) fun b=>
  Option.bind (S5 b.Bi) fun f=>
  cond (((f !=0)||(decide (b.Bd<0)))||(decide (b.Bd>30))) (
   some (.inr ((D4.mk 0 []),2)))<|
  some (.inl (A1 (a+1))))<|
 Option.map Sum.inr (cond ((h.length:Int)==(0:Int)) (
  some ((D4.mk 0 []),0))<|
 Option.bind (B9 h 0) fun g=>
 let d:=(A0S g.Bl);
 Option.bind (B9 h 0) fun e=>
 cond (e.Bd==0) (
  Option.bind (B9 h 0) fun c=>
  A2W h c.Bi.N c.Bi.Ae)<|
 A2W h d.N d.Ae)
def B5F (b:List B1) (a:Int):Option (D4×Int):=
 loop (fun (s:Int)=>B4t b s) a
def A33 (a:List B1):Option (D4×Int):=
 B5F a 0
def A9o (c:A2):Option Int:=
 cond (c.Hi !=0) (
  Option.bind (Y0 c.Hi) fun a=>
  some (A1 (64+a)))<|
 Option.bind (Y0 c.Lo) fun b=>
 some b
def R8 (a b:A2):Int:=
 cond ((decide (a.Hi<b.Hi))||((a.Hi==b.Hi)&&(decide (a.Lo<b.Lo)))) (
  (-1:Int))<|
 cond (a.Hi==b.Hi&&(a.Lo==b.Lo&&true)) (
  0)<|
 1
def C0S (b:A2) (a:Int):Option Int:=
 cond (decide (a>=64)) (
  ck (decide (0<=(A5 (A1 (a-64)))))<|
  some (P7 .u64 (G0 .u64 b.Hi (A5 (A1 (a-64)))) 1))<|
 ck (decide (0<=(A5 a)))<|
 some (P7 .u64 (G0 .u64 b.Lo (A5 a)) 1)
def A0p (a:A2):Bool:=
 ((a.Hi==0)&&(a.Lo==0))
def B4d (k j:A2) (e d b c a:Int):Option ((Int×Int×Int×Int×Int)⊕(A2×A2×Bool)):=
 cond (decide (e>=0)) (
  Option.bind (C0S k e) fun f=>
  let h:=(R8 (A2.mk (N8 .u64 (E5 .u64 c 1) (G0 .u64 a 63)) (N8 .u64 (E5 .u64 a 1) f)) j);
  cond (((G0 .u64 c (63:Int))==(1:Int))||(decide (h>=0))) (
   Option.bind (P9 (N8 .u64 (E5 .u64 a 1) f) j.Lo 0) fun g=>
   Option.bind (P9 (N8 .u64 (E5 .u64 c 1) (G0 .u64 a 63)) j.Hi g.2) fun i=>
   some (.inl ((A1 (e-1)),(N8 .u64 (E5 .u64 d 1) (G0 .u64 b 63)),(N8 .u64 (E5 .u64 b 1) 1),i.1,g.1)))<|
  some (.inl ((A1 (e-1)),(N8 .u64 (E5 .u64 d 1) (G0 .u64 b 63)),(E5 .u64 b 1),(N8 .u64 (E5 .u64 c 1) (G0 .u64 a 63)),(N8 .u64 (E5 .u64 a 1) f))))<|
 Option.map Sum.inr (some ((A2.mk d b),(A2.mk c a),true))
def C0h (f g:A2) (e a b c d:Int):Option (A2×A2×Bool):=
 loop (fun (s:(Int×Int×Int×Int×Int))=>B4d f g s.1 s.2.1 s.2.2.1 s.2.2.2.1 s.2.2.2.2) (e,a,b,c,d)
def A3i (c d:A2):Option (A2×A2×Bool):=
 let a:=(A0p d);
 cond a (
  some ((A2.mk 0 0),(A2.mk 0 0),false))<|
 Option.bind (A9o c) fun b=>
 C0h c d (A1 (b-1)) 0 0 0 0
def K5 (a:Int):A2:=
 (A2.mk 0 a)
def Y1 (a b:Int):(Int×Int):=
 ((A5 ((A5 ((A5 ((G0 .u64 a 32)*(G0 .u64 b 32)))+(G0 .u64 (A5 ((A5 ((G0 .u64 a 32)*(P7 .u64 b 4294967295)))+(G0 .u64 (A5 ((P7 .u64 a 4294967295)*(P7 .u64 b 4294967295))) 32))) 32)))+(G0 .u64 (A5 ((P7 .u64 (A5 ((A5 ((G0 .u64 a 32)*(P7 .u64 b 4294967295)))+(G0 .u64 (A5 ((P7 .u64 a 4294967295)*(P7 .u64 b 4294967295))) 32))) 4294967295)+(A5 ((P7 .u64 a 4294967295)*(G0 .u64 b 32))))) 32))),(A5 (a*b)))
def Q3 (b c:Int):A2:=
 let a:=(Y1 b c);
 (A2.mk a.1 a.2)
def A5k (d:D4) (a:Int):Option (Int×Int):=
 Option.bind (A2H d.Ae (A0t 1 (A1 a)) 0) fun b=>
 Option.bind (B9 d.Ae b) fun c=>
 some (c.V,0)
def A5A (e:D4) (f g:Int):Option (Int×Int):=
 Option.bind (S5 e) fun b=>
 cond (b !=0) (
  some (0,b))<|
 cond (((decide (g<1))||(decide (f<0)))||(decide (f>g))) (
  some (0,1))<|
 cond (e.N==0) (
  some (0,7))<|
 let c:=(Q3 (A5 f) (A5 e.N));
 let d:=(K5 (A5 g));
 Option.bind (A3i c d) fun a=>
 cond (!(a.2.1.Hi==0&&(a.2.1.Lo==0&&true))) (
  A5k e (A5 (a.1.Lo+1)))<|
 A5k e a.1.Lo
def A9s (c:List B1) (d e:Int):Option (Int×Int):=
 Option.bind (A33 c) fun a=>
 cond (a.2 !=0) (
  some (0,a.2))<|
 Option.bind (A5A a.1 d e) fun b=>
 some (b.1,b.2)
def A1y (a:Int):Int:=
 cond (decide (a<0)) (
  (IntKind.u64.wrap (0-(A5 a))))<|
 (A5 a)
def B4e (c d a b:Int):Option ((Int×Int×Int×Int)⊕A2):=
 let f:=(A0p (A2.mk a b));
 cond (!f) (
  Option.bind (A3i (A2.mk c d) (A2.mk a b)) fun e=>
  some (.inl (a,b,e.2.1.Hi,e.2.1.Lo)))<|
 Option.map Sum.inr (some (A2.mk c d))
def C0i (a b c d:Int):Option A2:=
 loop (fun (s:(Int×Int×Int×Int))=>B4e s.1 s.2.1 s.2.2.1 s.2.2.2) (a,b,c,d)
def A6Z (a b:A2):Option A2:=
 C0i a.Hi a.Lo b.Hi b.Lo
def A0u (f:A4):Option Bool:=
 let d:=(A1y f.Bw);
 let e:=(K5 d);
 let c:=(K5 (A5 f.Br));
 Option.bind (gd (decide (f.Br>=1)) (A6Z e c)) fun a=>
 let b:=(K5 1);
 some ((decide (f.Br>=1))&&(a.Hi==b.Hi&&(a.Lo==b.Lo&&true)))
def R5 (b:A4):Option C9:=
 Option.bind (A0u b) fun a=>
 cond (!a) (
  some (C9.mk (A4.mk 0 0) (A4.mk 0 0) (A4.mk 0 0)))<|
 some (C9.mk b b b)
def A1m (a:Int):A4:=
 (A4.mk a 1)
def A4z (d e:Int):(C9×Bool):=
 cond (decide (d>e)) (
  ((C9.mk (A4.mk 0 0) (A4.mk 0 0) (A4.mk 0 0)),false))<|
 let a:=(A1m d);
 let b:=(A1m (A1 ((P7 .i64 d e)+(G0 .i64 (D7v .i64 d e) 1))));
 let c:=(A1m e);
 ((C9.mk a b c),true)
def B3W (b c:Int):Option (C9×Int):=
 let a:=(A4z b c);
 some (a.1,0)
def B7o (d:D4) (e c a:Int):Option ((Int×Int)⊕(C9×Int)):=
 cond (decide (a<(d.Ae.length:Int))) (
  Option.bind (B9 d.Ae a) fun b=>
  cond (decide (b.V>e)) (
   Option.map Sum.inr (B3W c (A1 (b.Bu-1))))<|
  some (.inl (b.Bv,(A1 (a+1)))))<|
 Option.map Sum.inr (B3W c d.N)
def B3X (c:D4) (d b a:Int):Option (C9×Int):=
 loop (fun (s:(Int×Int))=>B7o c d s.1 s.2) (b,a)
def B4T (b:D4) (c:Int):Option (C9×Int):=
 Option.bind (S5 b) fun a=>
 cond (a !=0) (
  some ((C9.mk (A4.mk 0 0) (A4.mk 0 0) (A4.mk 0 0)),a))<|
 B3X b c 0 0
def B5a (g:List B1) (h:Int):Option (C9×Int):=
 Option.bind (A33 g) fun b=>
 cond (b.2 !=0) (
  some ((C9.mk (A4.mk 0 0) (A4.mk 0 0) (A4.mk 0 0)),b.2))<|
 cond ((g.length:Int)==(0:Int)) (
  let e:=(A1m 0);
  Option.bind (R5 e) fun f=>
  some (f,0))<|
 Option.bind (B4T b.1 h) fun a=>
 cond (a.2 !=0) (
  some ((C9.mk (A4.mk 0 0) (A4.mk 0 0) (A4.mk 0 0)),a.2))<|
 Option.bind (B9 g 0) fun c=>
 ck (decide (0<=(A5 c.Bd)))<|
 let d:=(A4z a.1.Lo.Bw (A1 ((A1 (a.1.Hi.Bw+(E5 .i64 1 (A5 c.Bd))))-1)));
 some (d.1,0)
def B8X (a:Int):Int:=
 cond (decide (a<0)) (
  (IntKind.u64.wrap (0-(A5 a))))<|
 (A5 a)
def B5z (d e:Int):(Bool×A2):=
 let a:=(B8X d);
 let b:=(B8X e);
 let c:=(Q3 a b);
 ((!((decide (d<0))==(decide (e<0)))),c)
def C2f (g h i j:Int):Int:=
 let a:=(B5z g h);
 let b:=(B5z i j);
 let c:=(A0p a.2);
 let d:=(A0p b.2);
 cond ((a.1&&(!c))&&(!(b.1&&(!d)))) (
  (-1:Int))<|
 cond ((b.1&&(!d))&&(!(a.1&&(!c)))) (
  1)<|
 cond (a.1&&(!c)) (
  let f:=(R8 b.2 a.2);
  f)<|
 let e:=(R8 a.2 b.2);
 e
def A5B (d e:A4):Option Int:=
 Option.bind (A0u d) fun a=>
 Option.bind (gd (!(!a)) (A0u e)) fun b=>
 cond ((!a)||(!b)) (
  some 0)<|
 let c:=(C2f d.Bw e.Br e.Bw d.Br);
 some c
def A6s (f:C9):Option Bool:=
 Option.bind (A0u f.Lo) fun a=>
 Option.bind (gd a (A0u f.Bs)) fun b=>
 Option.bind (gd (a&&b) (A0u f.Hi)) fun c=>
 Option.bind (gd ((a&&b)&&c) (A5B f.Lo f.Bs)) fun d=>
 Option.bind (gd (((a&&b)&&c)&&(decide (d<=0))) (A5B f.Bs f.Hi)) fun e=>
 some ((((a&&b)&&c)&&(decide (d<=0)))&&(decide (e<=0)))
def A1D (c:Int) (a:List A3):Option ((List A3)⊕(List A3)):=
 Option.bind (gd (decide ((a.length:Int)>(0:Int))) (B9 a 0)) fun b=>
 cond ((decide ((a.length:Int)>(0:Int)))&&(decide (b.T<c))) (
  ck (decide (0<=(1:Int)/\1<=(a.length:Int)))<|
  some (.inl (a.drop ((1:Int)).toNat)))<|
 Option.map Sum.inr (ck (decide ((([]:List A3).length+a.length)*16<=140737488355328))<|
 some (([]:List A3)++a))
def A7L (b:Int) (a:List A3):Option (List A3):=
 loop (fun (s:(List A3))=>A1D b s) a
def A1d (a:List A3) (b:Int):Option (List A3):=
 A7L b a
def A4C (k:Int) (b:List A3) (e d a:Int):Option (Int⊕(((List A3)×Int×Int)⊕(List A3))):=
 Option.bind (gd (decide (a>0)) (B9 b (A1 (a-1)))) fun j=>
 Option.bind (gd (decide (a>0)) (B9 b (A1 (a-1)))) fun f=>
 cond ((decide (a>0))&&(f.Bd==d)) (
  some (.inl (A1 (a-1))))<|
 Option.map Sum.inr (cond (decide ((A1 (e-a))<(A1 (k+2)))) (
  some (.inr b))<|
 Option.bind (B9 b (A1 (a+1))) fun i=>
 Option.bind (B9 b (A1 (a+1))) fun c=>
 Option.bind (B9 b a) fun g=>
 Option.bind (B9 b a) fun h=>
 ck (decide (0<=(A1 (a+1))/\(A1 (a+1))<=((b.set (a).toNat (A3.mk c.T (A1 (d+(1:Int))))).length:Int)))<|
 ck (decide (0<=(A1 (a+2))/\(A1 (a+2))<=((b.set (a).toNat (A3.mk c.T (A1 (d+(1:Int))))).length:Int)))<|
 ck (decide (0<((A1 (a+(1:Int)))).toNat/\((A1 (a+(1:Int)))).toNat+(((b.set (a).toNat (A3.mk c.T (A1 (d+(1:Int))))).drop ((A1 (a+(2:Int)))).toNat).take ((b.set (a).toNat (A3.mk c.T (A1 (d+(1:Int))))).length-((A1 (a+(2:Int)))).toNat)).length<=(b.set (a).toNat (A3.mk c.T (A1 (d+(1:Int))))).length))<|
 some (.inl (((b.set (a).toNat (A3.mk c.T (A1 (d+(1:Int))))).take ((A1 (a+(1:Int)))).toNat++(((b.set (a).toNat (A3.mk c.T (A1 (d+(1:Int))))).drop ((A1 (a+(2:Int)))).toNat).take ((b.set (a).toNat (A3.mk c.T (A1 (d+(1:Int))))).length-((A1 (a+(2:Int)))).toNat))),(A1 (a+1)),(A1 (d+1)))))
def A2A (e:Int) (a:List A3) (b c d:Int):Option (((List A3)×Int×Int)⊕(List A3)):=
 loop (fun (s:Int)=>A4C e a b c s) d
def A4B (d:Int) (b:List A3) (a c:Int):Option (((List A3)×Int×Int)⊕(List A3)):=
 A2A d b a c a
def A5a (d:Int) (a:List A3) (b c:Int):Option (List A3):=
 loop (fun (s:((List A3)×Int×Int))=>A4B d s.1 s.2.1 s.2.2) (a,b,c)
def V3 (a:List A3) (c b:Int):Option (List A3):=
 ck (decide ((a.length+ [(A3.mk b 0)].length)*16<=140737488355328))<|
 A5a c (a++ [(A3.mk b 0)]) ((a++ [(A3.mk b 0)]).length:Int) 0
def A34 (c:List A3) (d:Int):Option Bool:=
 let a:=(A26 d);
 Option.bind (gd (a&&(!((c.length:Int)==(0:Int)))) (B9 c (A1 ((c.length:Int)-(1:Int))))) fun b=>
 some (a&&(((c.length:Int)==(0:Int))||(decide (b.T<=d))))
def A2X (e:List A3) (f g:Int):Option (List A3):=
 Option.bind (U6 e f) fun a=>
 Option.bind (gd (!(!a)) (A34 e g)) fun b=>
 Option.bind (gd (!((!a)||(!b))) (L7 e)) fun c=>
 cond (((!a)||(!b))||(decide (c>=1073741824))) (
  some [])<|
 ck (decide ((([]:List A3).length+e.length)*16<=140737488355328))<|
 Option.bind (V3 (([]:List A3)++e) f g) fun d=>
 some d
def A75 (d e a:Int) (b:List A3):Option ((Int×(List A3))⊕(List A3)):=
 cond (decide (a>0)) (
  Option.bind (V3 b d e) fun c=>
  some (.inl ((A1 (a-1)),c)))<|
 Option.map Sum.inr (some b)
def A4A (c d a:Int) (b:List A3):Option (List A3):=
 loop (fun (s:(Int×(List A3)))=>A75 c d s.1 s.2) (a,b)
def A6t (e:List A3) (f g d:Int):Option (List A3):=
 Option.bind (U6 e f) fun a=>
 Option.bind (gd (!(!a)) (A34 e g)) fun b=>
 Option.bind (gd ((!((((!a)||(!b))||(decide (d<0)))||(decide (d>1024))))&&(decide (d>0))) (L7 e)) fun c=>
 cond (((((!a)||(!b))||(decide (d<0)))||(decide (d>1024)))||((decide (d>0))&&(decide (c>(A1 (1073741824-d)))))) (
  some [])<|
 ck (decide ((([]:List A3).length+e.length)*16<=140737488355328))<|
 A4A f g d (([]:List A3)++e)
def A8H (a b:Int):Option C9:=
 let c:=(A4z (A1 ((A1 (a-b))+1)) a);
 some c.1
def A16 (g:List A3):Option C9:=
 cond ((g.length:Int)==(0:Int)) (
  let c:=(A1m 0);
  Option.bind (R5 c) fun d=>
  some d)<|
 Option.bind (L7 g) fun a=>
 Option.bind (B9 g 0) fun e=>
 let f:=(A0T e.Bd);
 cond f (
  Option.bind (B9 g 0) fun b=>
  ck (decide (0<=(A5 b.Bd)))<|
  A8H a (E5 .i64 1 (A5 b.Bd)))<|
 A8H a 0
def A6w (f:B5) (a:Int):Option (Int⊕Int):=
 cond (decide (a<(f.Bf.length:Int))) (
  Option.bind (B9 f.Bf a) fun b=>
  cond (((((decide (b.V<(-4096:Int)))||(decide (b.V>4096)))||(decide (b.I<1)))||(decide (b.I>f.I)))||(decide (b.I<=(A1 (f.I-f.W))))) (
   some (.inr 2))<|
  Option.bind (gd (decide (a>0)) (B9 f.Bf (A1 (a-1)))) fun c=>
  Option.bind (gd ((decide (a>0))&&(!(decide (b.I<=c.I)))) (B9 f.Bf (A1 (a-1)))) fun d=>
  cond ((decide (a>0))&&((decide (b.I<=c.I))||(decide (b.I>(A1 (d.I+f.W)))))) (
   some (.inr 2))<|
  some (.inl (A1 (a+1))))<|
 Option.map Sum.inr (Option.bind (gd (!(decide (f.Bm<=f.I))) (B9 f.Bf (A1 ((f.Bf.length:Int)-(1:Int))))) fun e=>
 cond ((decide (f.Bm<=f.I))||(decide (f.Bm>(A1 (e.I+f.W))))) (
  some 2)<|
 some 0)
def A7N (b:B5) (a:Int):Option Int:=
 loop (fun (s:Int)=>A6w b s) a
def N6 (a:B5):Option Int:=
 cond (((((((decide (a.W<1))||(decide (a.W>1048576)))||(decide (a.Cap<1)))||(decide (a.Cap>64)))||(decide (a.I<0)))||(decide (a.I>1099511627776)))||(decide ((a.Bf.length:Int)>a.Cap))) (
  some 2)<|
 cond (a.I==0) (
  cond ((decide ((a.Bf.length:Int)>(0:Int)))||(a.Bm !=0)) (
   some 2)<|
  some 0)<|
 cond ((a.Bf.length:Int)==(0:Int)) (
  some 2)<|
 A7N a 0
def C3A (e:List Int) (d f:Int):Option (Int×Int×Int):=
 cond ((decide (f<1))||(decide (d<0))) (
  some (0,0,1))<|
 Option.bind (gd (!(decide (d>=(e.length:Int)))) (B9 e d)) fun a=>
 Option.bind (gd (!((decide (d>=(e.length:Int)))||(decide (a<0)))) (B9 e d)) fun b=>
 cond (((decide (d>=(e.length:Int)))||(decide (a<0)))||(decide (b>=f))) (
  some (0,0,8))<|
 Option.bind (B9 e d) fun c=>
 some (c,(A1 (d+1)),0)
def A7O (b:K0) (c:Int):Option (Int×Int×K0):=
 Option.bind (C3A b.draws_ b.at_ c) fun a=>
 cond (a.2.2 !=0) (
  cond (decide (b.at_>=(b.draws_.length:Int))) (
   some (0,a.2.2,(K0.mk b.draws_ b.at_ c)))<|
  some (0,a.2.2,b))<|
 some (a.1,0,(K0.mk b.draws_ a.2.1 b.beyond_))
def B3z (d:B5) (c:List G1) (b:K0) (a:Int):Option (B5×Int×K0):=
 some ((B5.mk d.W d.Cap (A1 (d.I+1)) a c),0,b)
def A4E (e:B5) (f:Int) (c:List G1) (d:Bool) (a:K0):Option (B5×Int×K0):=
 cond d (
  cond ((c.length:Int)==e.Cap) (
   some ((B5.mk 0 0 0 0 []),9,a))<|
  ck (decide ((c.length+ [(G1.mk (A1 (e.I+1)) f)].length)*16<=140737488355328))<|
  Option.bind (A7O a e.W) fun b=>
  cond (b.2.1 !=0) (
   some ((B5.mk 0 0 0 0 []),b.2.1,b.2.2))<|
  B3z e (c++ [(G1.mk (A1 (e.I+1)) f)]) b.2.2 (A1 ((A1 ((A1 (e.I+(1:Int)))+(1:Int)))+b.1)))<|
 B3z e c a e.Bm
def B1v (d:B5) (f:Int) (e:K0):Option (B5×Int×K0):=
 cond ((decide (f<(-4096:Int)))||(decide (f>4096))) (
  some ((B5.mk 0 0 0 0 []),4,e))<|
 cond (decide (e.at_<0)) (
  some ((B5.mk 0 0 0 0 []),1,e))<|
 cond (d.I==1099511627776) (
  some ((B5.mk 0 0 0 0 []),5,e))<|
 ck (decide ((([]:List G1).length+d.Bf.length)*16<=140737488355328))<|
 Option.bind (gd (decide (((([]:List G1)++d.Bf).length:Int)>(0:Int))) (B9 (([]:List G1)++d.Bf) 0)) fun c=>
 Option.bind (gd (decide (((([]:List G1)++d.Bf).length:Int)>(0:Int))) (B9 (([]:List G1)++d.Bf) 0)) fun b=>
 cond ((decide (((([]:List G1)++d.Bf).length:Int)>(0:Int)))&&(b.I==(A1 ((A1 (d.I+1))-d.W)))) (
  ck (decide (0<=(1:Int)/\1<=((([]:List G1)++d.Bf).length:Int)))<|
  A4E d f ((([]:List G1)++d.Bf).drop ((1:Int)).toNat) (d.Bm==(A1 (d.I+1))) e)<|
 Option.bind (A7O e (A4M (A1 (d.I+1)) d.W)) fun a=>
 cond (a.2.1 !=0) (
  some ((B5.mk 0 0 0 0 []),a.2.1,a.2.2))<|
 cond (a.1==0) (
  A4E d f ([]:List G1) true a.2.2)<|
 A4E d f (([]:List G1)++d.Bf) (d.Bm==(A1 (d.I+1))) a.2.2
def B1u (c:B5) (d:Int) (e:List Int) (f:Int):Option (B5×Int×Int):=
 Option.bind (N6 c) fun b=>
 cond (b !=0) (
  some ((B5.mk 0 0 0 0 []),0,b))<|
 Option.bind (B1v c d (K0.mk e f 0)) fun a=>
 cond (a.2.1 !=0) (
  some ((B5.mk 0 0 0 0 []),0,a.2.1))<|
 some (a.1,a.2.2.at_,0)
def B4E (c:B5):Option (Int×Int):=
 Option.bind (N6 c) fun a=>
 cond (a !=0) (
  some (0,a))<|
 cond ((c.Bf.length:Int)==(0:Int)) (
  some (0,7))<|
 Option.bind (B9 c.Bf 0) fun b=>
 some (b.V,0)
def B04 (c:B5) (d:Int) (e:List Int) (f:Int):Option (Int×Bool):=
 Option.bind (N6 c) fun b=>
 cond (b !=0) (
  some (0,false))<|
 Option.bind (B1v c d (K0.mk e f 0)) fun a=>
 cond ((a.2.1 !=8)||(a.2.2.beyond_==0)) (
  some (0,false))<|
 some (a.2.2.beyond_,true)
def X7 (a b:Int):(B5×Int):=
 cond ((((decide (a<1))||(decide (a>1048576)))||(decide (b<1)))||(decide (b>64))) (
  ((B5.mk 0 0 0 0 []),1))<|
 ((B5.mk a b 0 0 []),0)
def A3L (a:Int):Bool:=
 ((decide (a>=0))&&(decide (a<=16777216)))
def R1 (c b:Int):(Int×Int):=
 let a:=(A3L c);
 cond (!a) (
  (0,1))<|
 cond ((decide (b<c))||(decide (b>16777216))) (
  (0,3))<|
 (b,0)
def A2S (c b:Int):Int:=
 let a:=(A3L c);
 cond (((!a)||(decide (b<1)))||(decide (b>1048576))) (
  (-1:Int))<|
 (A0t 0 (A1 ((A1 (c-b))+1)))
def Q4 (d e c:Int):Bool:=
 let a:=(A2S d e);
 let b:=(A3L c);
 ((((decide (a>=0))&&b)&&(decide (a<=c)))&&(decide (c<=d)))
def T5 (b:List Int) (a:Int):Option (((List Int)×Int)⊕(List Int)):=
 cond (decide (a>=128)) (
  ck (decide ((b.length+ [(N8 .u8 (IntKind.u8.wrap a) 128)].length)*1<=140737488355328))<|
  some (.inl ((b++ [(N8 .u8 (IntKind.u8.wrap a) 128)]),(G0 .u64 a 7))))<|
 Option.map Sum.inr (ck (decide ((b.length+ [(IntKind.u8.wrap a)].length)*1<=140737488355328))<|
 some (b++ [(IntKind.u8.wrap a)]))
def M3 (a:List Int) (b:Int):Option (List Int):=
 loop (fun (s:((List Int)×Int))=>T5 s.1 s.2) (a,b)
def V6 (b:List Int) (a:Int):Option (List Int):=
 M3 b a
def I6 (b:List Int) (a:Int):Option (List Int):=
 cond (decide (a<0)) (
  V6 b (A8V .u64 (E5 .u64 (A5 a) 1)))<|
 V6 b (E5 .u64 (A5 a) 1)
def A9w (b:List Int) (c:Int):Option (List Int):=
 ck (decide ((([]:List Int).length+b.length)*1<=140737488355328))<|
 Option.bind (I6 (([]:List Int)++b) c) fun a=>
 some a
def A3F (e:List Int) (d c a:Int):Option ((Int×Int)⊕(Int×Int×Bool)):=
 cond ((decide (a<10))&&(decide ((A1 (d+a))<(e.length:Int)))) (
  Option.bind (B9 e (A1 (d+a))) fun b=>
  cond ((a==9)&&(decide (b>1))) (
   some (.inr (0,0,false)))<|
  ck (decide (0<=(A5 (A1 (7*a)))))<|
  cond (decide (b>=128)) (
   some (.inl ((N8 .u64 c (E5 .u64 (A5 (P7 .u8 b 127)) (A5 (A1 (7*a))))),(A1 (a+1)))))<|
  cond ((b==0)&&(decide (a>0))) (
   some (.inr (0,0,false)))<|
  cond ((P7 .u64 (N8 .u64 c (E5 .u64 (A5 (P7 .u8 b 127)) (A5 (A1 (7*a))))) (1:Int))==(1:Int)) (
   some (.inr ((A8V .i64 (A1 (G0 .u64 (N8 .u64 c (E5 .u64 (A5 (P7 .u8 b 127)) (A5 (A1 (7*a))))) 1))),(A1 ((A1 (d+a))+1)),true)))<|
  some (.inr ((A1 (G0 .u64 (N8 .u64 c (E5 .u64 (A5 (P7 .u8 b 127)) (A5 (A1 (7*a))))) 1)),(A1 ((A1 (d+a))+1)),true)))<|
 Option.map Sum.inr (some (0,0,false))
def B37 (c:List Int) (d a b:Int):Option (Int×Int×Bool):=
 loop (fun (s:(Int×Int))=>A3F c d s.1 s.2) (a,b)
def A6V (b:List Int) (a:Int):Option (Int×Int×Bool):=
 cond ((decide (a<0))||(decide (a>(b.length:Int)))) (
  some (0,0,false))<|
 B37 b a 0 0
def C7 (d:List Int) (b:Int) (c:Bool) (e:Int):Option (Int×Bool×Int):=
 cond c (
  some (b,c,e))<|
 Option.bind (A6V d b) fun a=>
 cond (!a.2.2) (
  some (b,true,e))<|
 some (a.2.1,c,a.1)
def F1 (b:List Int) (c:Int) (d:Bool) (e:Int):Option (Int×Bool×Int):=
 Option.bind (C7 b c d e) fun a=>
 some (a.1,a.2.1,a.2.2)
def A1a (i:List Int) (k:Int) (l:Bool) (j:B7):Option (Int×Bool×B7):=
 Option.bind (F1 i k l j.Bj) fun a=>
 Option.bind (F1 i a.1 a.2.1 j.Bp) fun b=>
 Option.bind (C7 i b.1 b.2.1 j.W) fun c=>
 Option.bind (F1 i c.1 c.2.1 j.K) fun d=>
 Option.bind (F1 i d.1 d.2.1 j.Cap) fun e=>
 Option.bind (F1 i e.1 e.2.1 j.P) fun f=>
 Option.bind (F1 i f.1 f.2.1 j.Ao) fun g=>
 Option.bind (C7 i g.1 g.2.1 j.Bu) fun h=>
 some (h.1,h.2.1,(B7.mk a.2.2 b.2.2 c.2.2 d.2.2 e.2.2 f.2.2 g.2.2 h.2.2))
def G9 (f g:Int) (b:List Int) (c:Int) (d:Bool) (e:Int):Option (Int×Bool×Int):=
 Option.bind (C7 b c d e) fun a=>
 cond ((decide (a.2.2<f))||(decide (a.2.2>g))) (
  some (a.1,true,a.2.2))<|
 some (a.1,a.2.1,a.2.2)
def B4m (f:List Int) (e:Int) (a:Bool) (b:List Int) (c:Int):Option ((Int×Bool×(List Int)×Int)⊕(Int×Bool×(List Int))):=
 cond ((decide (c>0))&&(!a)) (
  Option.bind (C7 f e a 0) fun d=>
  ck (decide ((b.length+ [d.2.2].length)*8<=140737488355328))<|
  some (.inl (d.1,d.2.1,(b++ [d.2.2]),(A1 (c-1)))))<|
 Option.map Sum.inr (some (e,a,b))
def A8g (e:List Int) (b:Int) (c:Bool) (d:List Int) (a:Int):Option (Int×Bool×(List Int)):=
 loop (fun (s:(Int×Bool×(List Int)×Int))=>B4m e s.1 s.2.1 s.2.2.1 s.2.2.2) (b,c,d,a)
def A54 (b:List Int) (c:Int) (d:Bool):Option (Int×Bool×(List Int)):=
 Option.bind (G9 0 (A1 ((b.length:Int)-c)) b c d 0) fun a=>
 A8g b a.1 a.2.1 ([]:List Int) a.2.2
def A0P (b:List Int) (c:Int) (d:Bool):Option (Int×Bool×(List Int)):=
 Option.bind (A54 b c d) fun a=>
 some (a.1,a.2.1,a.2.2)
def A56 (e:Int) (b:List Int) (c:Int) (d:Bool):Option (Int×Int×Bool):=
 Option.bind (G9 0 255 b c d (A1 e)) fun a=>
 some ((IntKind.u8.wrap a.2.2),a.1,a.2.1)
def B5s (f:List Int) (e:Int) (a:Bool) (b:List Int) (c:Int):Option ((Int×Bool×(List Int)×Int)⊕(Int×Bool×(List Int))):=
 cond ((decide (c>0))&&(!a)) (
  Option.bind (A56 0 f e a) fun d=>
  ck (decide ((b.length+ [d.1].length)*1<=140737488355328))<|
  some (.inl (d.2.1,d.2.2,(b++ [d.1]),(A1 (c-1)))))<|
 Option.map Sum.inr (some (e,a,b))
def A9k (e:List Int) (b:Int) (c:Bool) (d:List Int) (a:Int):Option (Int×Bool×(List Int)):=
 loop (fun (s:(Int×Bool×(List Int)×Int))=>B5s e s.1 s.2.1 s.2.2.1 s.2.2.2) (b,c,d,a)
def A6U (b:List Int) (c:Int) (d:Bool):Option (Int×Bool×(List Int)):=
 Option.bind (G9 0 (A1 ((b.length:Int)-c)) b c d 0) fun a=>
 A9k b a.1 a.2.1 ([]:List Int) a.2.2
def A2u (b:List Int) (c:Int) (d:Bool):Option (Int×Bool×(List Int)):=
 Option.bind (A6U b c d) fun a=>
 some (a.1,a.2.1,a.2.2)
def A8Q (k:List Int) (q:Int) (r:Bool) (s t u v w x y z A B l m n o p:Int):Option (Int×Bool×Int×Int×Int×Int×Int×Int×Int×Int×Int×Int×Int×Int×Int×Int×Int×(List Int)×(List Int)):=
 Option.bind (F1 k q r s) fun b=>
 Option.bind (C7 k b.1 b.2.1 t) fun c=>
 Option.bind (A1a k c.1 c.2.1 (B7.mk u v w x y z A B)) fun a=>
 Option.bind (C7 k a.1 a.2.1 l) fun d=>
 Option.bind (C7 k d.1 d.2.1 m) fun e=>
 Option.bind (A0P k e.1 e.2.1) fun f=>
 Option.bind (F1 k f.1 f.2.1 n) fun g=>
 Option.bind (C7 k g.1 g.2.1 o) fun h=>
 Option.bind (C7 k h.1 h.2.1 p) fun i=>
 Option.bind (A2u k i.1 i.2.1) fun j=>
 some (j.1,j.2.1,b.2.2,c.2.2,a.2.2.Bj,a.2.2.Bp,a.2.2.W,a.2.2.K,a.2.2.Cap,a.2.2.P,a.2.2.Ao,a.2.2.Bu,d.2.2,e.2.2,g.2.2,h.2.2,i.2.2,j.2.2,f.2.2)
def J1 (b:List Int):Option (B6×Int):=
 Option.bind (A8Q b 0 (decide ((b.length:Int)>(1048576:Int))) 0 0 0 0 0 0 0 0 0 0 0 0 0 0 0) fun a=>
 cond (a.2.1||(a.1 !=(b.length:Int))) (
  some ((B6.mk 0 0 (B7.mk 0 0 0 0 0 0 0 0) 0 0 ([]:List Int) (L9.mk 0 0 0) []),13))<|
 some ((B6.mk a.2.2.1 a.2.2.2.1 (B7.mk a.2.2.2.2.1 a.2.2.2.2.2.1 a.2.2.2.2.2.2.1 a.2.2.2.2.2.2.2.1 a.2.2.2.2.2.2.2.2.1 a.2.2.2.2.2.2.2.2.2.1 a.2.2.2.2.2.2.2.2.2.2.1 a.2.2.2.2.2.2.2.2.2.2.2.1) a.2.2.2.2.2.2.2.2.2.2.2.2.1 a.2.2.2.2.2.2.2.2.2.2.2.2.2.1 a.2.2.2.2.2.2.2.2.2.2.2.2.2.2.2.2.2.2 (L9.mk a.2.2.2.2.2.2.2.2.2.2.2.2.2.2.1 a.2.2.2.2.2.2.2.2.2.2.2.2.2.2.2.1 a.2.2.2.2.2.2.2.2.2.2.2.2.2.2.2.2.1) a.2.2.2.2.2.2.2.2.2.2.2.2.2.2.2.2.2.1),0)
def A1M (c:List Int) (d:Int) (e:Bool) (f:A4):Option (Int×Bool×A4):=
 Option.bind (C7 c d e f.Bw) fun a=>
 Option.bind (C7 c a.1 a.2.1 f.Br) fun b=>
 some (b.1,b.2.1,(A4.mk a.2.2 b.2.2))
def A4v (b:List Int) (c:Int) (d:Bool) (e:Int):Option (Int×Bool×Int):=
 Option.bind (C7 b c d (A1 e)) fun a=>
 some (a.1,a.2.1,(A5 a.2.2))
def A0Q (c:List Int) (d:Int) (e:Bool) (f:A2):Option (Int×Bool×A2):=
 Option.bind (A4v c d e f.Hi) fun a=>
 Option.bind (A4v c a.1 a.2.1 f.Lo) fun b=>
 some (b.1,b.2.1,(A2.mk a.2.2 b.2.2))
def B5U (j:List Int) (m:Int) (n:Bool) (o p q r s t u v w k l:Int):Option (Int×Bool×Int×Int×Int×Int×Int×Int×Int×Int×Int×Int×Int×(List Int)×(List Int)×(List Int)):=
 Option.bind (F1 j m n o) fun g=>
 Option.bind (A1M j g.1 g.2.1 (A4.mk p q)) fun a=>
 Option.bind (A1M j a.1 a.2.1 (A4.mk r s)) fun b=>
 Option.bind (A1M j b.1 b.2.1 (A4.mk t u)) fun c=>
 Option.bind (A0P j c.1 c.2.1) fun h=>
 Option.bind (A0Q j h.1 h.2.1 (A2.mk v w)) fun d=>
 Option.bind (A0Q j d.1 d.2.1 (A2.mk k l)) fun e=>
 Option.bind (A0P j e.1 e.2.1) fun i=>
 Option.bind (A2u j i.1 i.2.1) fun f=>
 some (f.1,f.2.1,g.2.2,a.2.2.Bw,a.2.2.Br,b.2.2.Bw,b.2.2.Br,c.2.2.Bw,c.2.2.Br,d.2.2.Hi,d.2.2.Lo,e.2.2.Hi,e.2.2.Lo,i.2.2,f.2.2,h.2.2)
def A7Q (b:List Int):Option (F5×Int):=
 Option.bind (B5U b 0 (decide ((b.length:Int)>(1048576:Int))) 0 0 0 0 0 0 0 0 0 0 0) fun a=>
 cond (a.2.1||(a.1 !=(b.length:Int))) (
  some ((F5.mk 0 (E3.mk (C9.mk (A4.mk 0 0) (A4.mk 0 0) (A4.mk 0 0)) ([]:List Int) (D7.mk (A2.mk 0 0) (A2.mk 0 0))) ([]:List Int) []),13))<|
 some ((F5.mk a.2.2.1 (E3.mk (C9.mk (A4.mk a.2.2.2.1 a.2.2.2.2.1) (A4.mk a.2.2.2.2.2.1 a.2.2.2.2.2.2.1) (A4.mk a.2.2.2.2.2.2.2.1 a.2.2.2.2.2.2.2.2.1)) a.2.2.2.2.2.2.2.2.2.2.2.2.2.2.2 (D7.mk (A2.mk a.2.2.2.2.2.2.2.2.2.1 a.2.2.2.2.2.2.2.2.2.2.1) (A2.mk a.2.2.2.2.2.2.2.2.2.2.2.1 a.2.2.2.2.2.2.2.2.2.2.2.2.1))) a.2.2.2.2.2.2.2.2.2.2.2.2.2.1 a.2.2.2.2.2.2.2.2.2.2.2.2.2.2.1),0)
def I3 (b:List Int) (c d:Int):Option (List Int):=
 Option.bind (I6 b d) fun a=>
 some a
def L3 (b:List Int) (c d:Int):Option (List Int):=
 Option.bind (I3 b c d) fun a=>
 some a
def A3r (k:List Int) (i:Int) (j:B7):Option (List Int):=
 Option.bind (L3 k i j.Bj) fun a=>
 Option.bind (L3 a i j.Bp) fun b=>
 Option.bind (I3 b i j.W) fun c=>
 Option.bind (L3 c i j.K) fun d=>
 Option.bind (L3 d i j.Cap) fun e=>
 Option.bind (L3 e i j.P) fun f=>
 Option.bind (L3 f i j.Ao) fun g=>
 Option.bind (I3 g i j.Bu) fun h=>
 some h
def Q6 (e f:Int) (b:List Int) (c d:Int):Option (List Int):=
 Option.bind (I3 b c d) fun a=>
 some a
def B4l (e:Int) (f:List Int) (b:Int) (a:List Int):Option ((Int×(List Int))⊕(List Int)):=
 cond (decide (b<(f.length:Int))) (
  Option.bind (B9 f b) fun c=>
  Option.bind (I3 a e c) fun d=>
  some (.inl ((A1 (b+1)),d)))<|
 Option.map Sum.inr (some a)
def A8f (c:Int) (d:List Int) (b:Int) (a:List Int):Option (List Int):=
 loop (fun (s:(Int×(List Int)))=>B4l c d s.1 s.2) (b,a)
def A53 (c:List Int) (b:Int) (d:List Int):Option (List Int):=
 Option.bind (Q6 0 (A1 ((c.length:Int)-b)) c b (d.length:Int)) fun a=>
 A8f b d 0 a
def A0O (b:List Int) (c:Int) (d:List Int):Option (List Int):=
 Option.bind (A53 b c d) fun a=>
 some a
def B1O (b:List Int) (a:Int):Option (((List Int)×Int)⊕(List Int)):=
 cond (decide (a>=128)) (
  ck (decide ((b.length+ [(N8 .u8 (IntKind.u8.wrap a) 128)].length)*1<=140737488355328))<|
  some (.inl ((b++ [(N8 .u8 (IntKind.u8.wrap a) 128)]),(G0 .u64 a 7))))<|
 Option.map Sum.inr (ck (decide ((b.length+ [(IntKind.u8.wrap a)].length)*1<=140737488355328))<|
 some (b++ [(IntKind.u8.wrap a)]))
def B9H (a:List Int) (b:Int):Option (List Int):=
 loop (fun (s:((List Int)×Int))=>B1O s.1 s.2) (a,b)
def A72 (a:Int):Option (List Int):=
 B9H ([]:List Int) a
def A7D (a:Int):Option (List Int):=
 cond (decide (a<0)) (
  A72 (A8V .u64 (E5 .u64 (A5 a) 1)))<|
 A72 (E5 .u64 (A5 a) 1)
def A1r (b c:Int):Option (List Int):=
 Option.bind (A7D c) fun a=>
 some a
def A1N (b c:Int):Option (List Int):=
 Option.bind (A1r b c) fun a=>
 some a
def A3s (d:Int) (b:List Int) (c:Int):Option (Int×(List Int)):=
 Option.bind (Q6 0 255 b c (A1 d)) fun a=>
 some ((IntKind.u8.wrap (A1 d)),a)
def A4b (e:Int) (f:List Int) (b:Int) (a:List Int):Option ((Int×(List Int))⊕(List Int)):=
 cond (decide (b<(f.length:Int))) (
  Option.bind (B9 f b) fun c=>
  Option.bind (A3s c a e) fun d=>
  some (.inl ((A1 (b+1)),d.2)))<|
 Option.map Sum.inr (some a)
def A9j (c:Int) (d:List Int) (b:Int) (a:List Int):Option (List Int):=
 loop (fun (s:(Int×(List Int)))=>A4b c d s.1 s.2) (b,a)
def A6T (c:List Int) (b:Int) (d:List Int):Option (List Int):=
 Option.bind (Q6 0 (A1 ((c.length:Int)-b)) c b (d.length:Int)) fun a=>
 A9j b d 0 a
def A2t (b:List Int) (c:Int) (d:List Int):Option (List Int):=
 Option.bind (A6T b c d) fun a=>
 some a
def A8P (k:Int) (l:B6):Option (List Int):=
 Option.bind (A1N k l.Op) fun a=>
 Option.bind (I3 a k l.ID) fun b=>
 Option.bind (A3r b k l.Ap) fun c=>
 Option.bind (I3 c k l.T) fun d=>
 Option.bind (I3 d k l.V) fun e=>
 Option.bind (A0O e k l.Ba) fun f=>
 Option.bind (L3 f k l.Bh.Op) fun g=>
 Option.bind (I3 g k l.Bh.A) fun h=>
 Option.bind (I3 h k l.Bh.B) fun i=>
 Option.bind (A2t i k l.Ay) fun j=>
 some j
def A3B (a:A2V):((List Int)×Int):=
 cond (decide ((a.Ay.length:Int)>(1048576:Int))) (
  ([],5))<|
 (a.Ay,0)
def A06 (c:B6):Option ((List Int)×Int):=
 Option.bind (A8P 0 c) fun b=>
 let a:=(A3B (A2V.mk b 0 false false));
 some (a.1,a.2)
def A0n (d:List Int) (c:Int) (e:A4):Option (List Int):=
 Option.bind (I3 d c e.Bw) fun a=>
 Option.bind (I3 a c e.Br) fun b=>
 some b
def A4w (b:List Int) (c d:Int):Option (Int×(List Int)):=
 Option.bind (I3 b c (A1 d)) fun a=>
 some ((A5 (A1 d)),a)
def A2v (d:List Int) (c:Int) (e:A2):Option (A2×(List Int)):=
 Option.bind (A4w d c e.Hi) fun a=>
 Option.bind (A4w a.2 c e.Lo) fun b=>
 some ((A2.mk a.1 b.1),b.2)
def B0t (j:Int) (k:F5):Option (F5×(List Int)):=
 Option.bind (A1N j k.Code) fun d=>
 Option.bind (A0n d j k.Ak.Am.Lo) fun e=>
 Option.bind (A0n e j k.Ak.Am.Bs) fun f=>
 Option.bind (A0n f j k.Ak.Am.Hi) fun g=>
 Option.bind (A0O g j k.Ak.Ax) fun h=>
 Option.bind (A2v h j k.Ak.Aa.Bw) fun a=>
 Option.bind (A2v a.2 j k.Ak.Aa.Br) fun b=>
 Option.bind (A0O b.2 j k.Bt) fun i=>
 Option.bind (A2t i j k.Ay) fun c=>
 some ((F5.mk k.Code (E3.mk k.Ak.Am k.Ak.Ax (D7.mk a.1 b.1)) k.Bt k.Ay),c)
def A2i (c:F5):Option ((List Int)×Int):=
 Option.bind (B0t 0 c) fun b=>
 let a:=(A3B (A2V.mk b.2 0 false false));
 some (a.1,a.2)
def B2I (b:List Int) (c:Int):Option (Int×Int×Bool):=
 Option.bind (A6V b c) fun a=>
 some (a.1,a.2.1,a.2.2)
def B1Z (e:List Int) (a c b:Int):Option ((Int×Int×Int)⊕Int):=
 cond (decide (b<(e.length:Int))) (
  Option.bind (B9 e b) fun d=>
  some (.inl ((Int.tmod (A1 (a+(A1 d))) 65521),(Int.tmod (A1 (c+(Int.tmod (A1 (a+(A1 d))) 65521))) 65521),(A1 (b+1)))))<|
 Option.map Sum.inr (some (A1 ((A1 (65536*c))+a)))
def B3B (d:List Int) (a b c:Int):Option Int:=
 loop (fun (s:(Int×Int×Int))=>B1Z d s.1 s.2.1 s.2.2) (a,b,c)
def A1E (a:List Int):Option Int:=
 B3B a 1 0 0
def B3 (b a:Bool) (c:Int):(Bool×Int):=
 ((a&&b),0)
def F6 (b a:Bool) (c d:Int):(Bool×Int×Int):=
 ((a&&b),0,0)
def B0 (a b c:Int):Bool:=
 ((decide (a>=b))&&(decide (a<=c)))
def A3k (f:B7) (d e:Bool×Int) (c a:Int) (b:Bool):Int:=
 cond ((!b)||(!(f.Bj==f.Bj&&(c==0&&(a==0&&(d.2==0&&(e.2==0&&(f.P==0&&(f.Ao==0&&(f.Bu==0&&true)))))))))) (
  1)<|
 0
def A3M (h:B7) (a:Int) (d:Bool):Int:=
 let e:=(B0 h.K 1 64);
 let c:=(B3 e d h.K);
 let f:=(B0 h.Cap 1 65536);
 let b:=(B3 f c.1 h.Cap);
 cond (decide ((1048576:Int)>(0:Int))) (
  let g:=(B0 h.W 1 1048576);
  A3k h c b a 0 (b.1&&g))<|
 A3k h c b a h.W b.1
def A1R (d:B7) (c:Bool×Int) (a:Int) (b:Bool):Int:=
 cond ((!b)||(!(d.Bj==d.Bj&&(d.Bp==0&&(a==0&&(d.K==0&&(d.Cap==0&&(c.2==0&&(d.Ao==0&&(d.Bu==0&&true)))))))))) (
  1)<|
 0
def A1S (c:B7) (a:Int) (b:Bool):Int:=
 cond ((!b)||(!(c.Bj==c.Bj&&(c.Bp==0&&(a==0&&(c.K==0&&(c.Cap==0&&(c.P==0&&(c.Ao==0&&(c.Bu==0&&true)))))))))) (
  1)<|
 0
def A1T (d:B7) (c:Bool×Int×Int) (a:Int) (b:Bool):Int:=
 cond ((!b)||(!(d.Bj==d.Bj&&(d.Bp==0&&(a==0&&(d.K==0&&(c.2.2==0&&(d.P==0&&(c.2.1==0&&(d.Bu==0&&true)))))))))) (
  1)<|
 0
def A1U (d:B7) (c:Bool×Int×Int) (a:Int) (b:Bool):Int:=
 cond ((!b)||(!(d.Bj==d.Bj&&(d.Bp==0&&(a==0&&(c.2.1==0&&(c.2.2==0&&(d.P==0&&(d.Ao==0&&(d.Bu==0&&true)))))))))) (
  1)<|
 0
def A1V (e:B7) (c d:Bool×Int) (a:Int) (b:Bool):Int:=
 cond ((!b)||(!(e.Bj==e.Bj&&(e.Bp==0&&(a==0&&(c.2==0&&(d.2==0&&(e.P==0&&(e.Ao==0&&((0:Int)==(0:Int)&&true)))))))))) (
  1)<|
 0
def A1W (d:B7) (c:Bool×Int) (a:Int) (b:Bool):Int:=
 cond ((!b)||(!(d.Bj==d.Bj&&(d.Bp==0&&(a==0&&(d.K==0&&(c.2==0&&(d.P==0&&(d.Ao==0&&((0:Int)==(0:Int)&&true)))))))))) (
  1)<|
 0
def A1X (d:B7) (c:Bool×Int) (a:Int) (b:Bool):Int:=
 cond ((!b)||(!(d.Bj==d.Bj&&(d.Bp==0&&(a==0&&(d.K==0&&(c.2==0&&(d.P==0&&(d.Ao==0&&(d.Bu==0&&true)))))))))) (
  1)<|
 0
def Y4 (f:B7) (d:Bool):Int:=
 cond d (
  A3M f f.Bp true)<|
 cond (f.Bj==8) (
  let e:=(B0 f.Bu 0 1);
  let b:=(B0 f.Cap 1 65536);
  let a:=(B3 b e f.Cap);
  cond (decide ((1048576:Int)>(0:Int))) (
   let c:=(B0 f.W 1 1048576);
   A1W f a 0 (a.1&&c))<|
  A1W f a f.W a.1)<|
 cond (f.Bj==1) (
  let b:=(B0 f.Cap 1 65536);
  let a:=(B3 b true f.Cap);
  cond (decide ((1048576:Int)>(0:Int))) (
   let c:=(B0 f.W 1 1048576);
   A1X f a 0 (a.1&&c))<|
  A1X f a f.W a.1)<|
 1
def X8 (q:B7):Int:=
 cond (q.Bj==6) (
  let h:=(B0 q.P 0 4);
  let d:=(B3 h true q.P);
  cond (decide ((0:Int)>(0:Int))) (
   let a:=(B0 q.W 1 0);
   A1R q d 0 (d.1&&a))<|
  A1R q d q.W d.1)<|
 cond (q.Bj==7) (
  cond (decide ((64:Int)>(0:Int))) (
   let a:=(B0 q.W 1 64);
   A1S q 0 a)<|
  A1S q q.W true)<|
 cond (q.Bj==9) (
  let i:=(B0 q.Ao 1 16);
  let j:=(B0 q.Cap 1 64);
  let b:=(F6 (i&&j) true q.Ao q.Cap);
  cond (decide ((1048576:Int)>(0:Int))) (
   let a:=(B0 q.W 1 1048576);
   A1T q b 0 (b.1&&a))<|
  A1T q b q.W b.1)<|
 cond (q.Bj==10) (
  let k:=(B0 q.K 1 64);
  let l:=(B0 q.Cap 2 65536);
  let c:=(F6 (k&&l) true q.K q.Cap);
  cond (decide ((0:Int)>(0:Int))) (
   let a:=(B0 q.W 1 0);
   A1U q c 0 (c.1&&a))<|
  A1U q c q.W c.1)<|
 cond (q.Bj==3) (
  let m:=(B0 q.Bu 1 1024);
  let n:=(B0 q.K 1 64);
  let f:=(B3 n m q.K);
  let o:=(B0 q.Cap 1 65536);
  let e:=(B3 o f.1 q.Cap);
  cond (decide ((1048576:Int)>(0:Int))) (
   let a:=(B0 q.W 1 1048576);
   A1V q f e 0 (e.1&&a))<|
  A1V q f e q.W e.1)<|
 cond (q.Bj==4) (
  let p:=(B0 q.Bp 1 4);
  let g:=(B3 p true q.Bp);
  A3M q g.2 g.1)<|
 cond (q.Bj==2) (
  Y4 q (q.Bj==2))<|
 cond (q.Bj==5) (
  Y4 q (q.Bj==5))<|
 Y4 q (q.Bj==11)
def B2u (c:B7) (b:Int) (a:Bool):Bool:=
 cond a (
  (b==9))<|
 cond (c.Bj==8) (
  (b==6))<|
 cond (c.Bj==9) (
  (b==10))<|
 ((b==7)||(b==8))
def A2Z (b:B7) (c:Int):Bool:=
 let a:=(X8 b);
 cond (a !=0) (
  false)<|
 cond (b.Bj==1) (
  ((decide (c>=1))&&(decide (c<=8))))<|
 cond (b.Bj==2) (
  (c==1))<|
 cond (b.Bj==3) (
  (c==2))<|
 cond (b.Bj==4) (
  ((A1 (c-1))==(A1 (b.Bp-1))))<|
 cond (b.Bj==5) (
  (c==5))<|
 cond (b.Bj==6) (
  B2u b c (b.Bj==6))<|
 B2u b c (b.Bj==7)
def A62 (a b c d:Int):Bool:=
 ((((((((decide (a>=1))&&(decide (a<=1048576)))&&(decide (b>=1)))&&(decide (b<=64)))&&(decide (c>=1)))&&(decide (c<=65536)))&&(decide (d>=0)))&&(decide (d<=16777216)))
def A3P (d:E4) (a:Int):Option (Int⊕Int):=
 cond (decide (a<(d.Ad.length:Int))) (
  Option.bind (B9 d.Ad a) fun b=>
  let c:=(Q4 d.Now d.W b.T);
  cond (!c) (
   some (.inr 2))<|
  some (.inl (A1 (a+1))))<|
 Option.map Sum.inr (some 0)
def B2v (b:E4) (a:Int):Option Int:=
 loop (fun (s:Int)=>A3P b s) a
def W9 (d:E4):Option Int:=
 let a:=(A62 d.W d.K d.Cap d.Now);
 Option.bind (gd (!(!a)) (U6 d.Ad d.K)) fun b=>
 Option.bind (gd (!((!a)||(!b))) (L7 d.Ad)) fun c=>
 cond (((!a)||(!b))||(decide (c>d.Cap))) (
  some 2)<|
 B2v d 0
def A3O (d:E4):Option (E4×Int):=
 Option.bind (W9 d) fun a=>
 cond (a !=0) (
  some ((E4.mk 0 0 0 0 []),a))<|
 Option.bind (L7 d.Ad) fun b=>
 cond (b==d.Cap) (
  some ((E4.mk 0 0 0 0 []),5))<|
 Option.bind (A2X d.Ad d.K d.Now) fun c=>
 some ((E4.mk d.W d.K d.Cap d.Now c),0)
def A8n (e:E4) (f:Int):Option (E4×Int):=
 Option.bind (W9 e) fun a=>
 cond (a !=0) (
  some ((E4.mk 0 0 0 0 []),a))<|
 let b:=(R1 e.Now f);
 cond (b.2 !=0) (
  some ((E4.mk 0 0 0 0 []),b.2))<|
 let c:=(A2S f e.W);
 Option.bind (A1d e.Ad c) fun d=>
 some ((E4.mk e.W e.K e.Cap f d),0)
def A6y (c:E4):Option (C9×Int):=
 Option.bind (W9 c) fun a=>
 cond (a !=0) (
  some ((C9.mk (A4.mk 0 0) (A4.mk 0 0) (A4.mk 0 0)),a))<|
 Option.bind (A16 c.Ad) fun b=>
 some (b,0)
def B4F (b c d e:Int):(E4×Int):=
 let a:=(A62 b c d e);
 cond (!a) (
  ((E4.mk 0 0 0 0 []),1))<|
 ((E4.mk b c d e []),0)
def A6N (d:Int) (b:List A7) (c:Int):Option Bool:=
 Option.bind (B9 b d) fun a=>
 some (decide (a.ID>=c))
def A0m (d:List A7) (e a b:Int):Option ((Int×Int)⊕Int):=
 cond (decide (a<b)) (
  Option.bind (A6N (A1 (G0 .u64 (A5 (A1 (a+b))) 1)) d e) fun c=>
  cond (!c) (
   some (.inl ((A1 ((A1 (G0 .u64 (A5 (A1 (a+b))) (1:Int)))+(1:Int))),b)))<|
  some (.inl (a,(A1 (G0 .u64 (A5 (A1 (a+b))) 1)))))<|
 Option.map Sum.inr (some a)
def B2D (c:List A7) (d a b:Int):Option Int:=
 loop (fun (s:(Int×Int))=>A0m c d s.1 s.2) (a,b)
def A7x (c:Int) (a:List A7) (b:Int):Option Int:=
 B2D a b 0 c
def A0Y (c:List A7) (d:Int):Option (Int×Bool):=
 Option.bind (A7x (c.length:Int) c d) fun a=>
 Option.bind (gd (decide (a<(c.length:Int))) (B9 c a)) fun b=>
 some (a,((decide (a<(c.length:Int)))&&(b.ID==d)))
def A2j (c:D8):Option (A9×Bool):=
 Option.bind (A0Y c.Aq.Ai c.command_.ID) fun a=>
 cond (!a.2) (
  some ((A9.mk (B7.mk 0 0 0 0 0 0 0 0) (D0.mk 0 0 0 []) (E4.mk 0 0 0 0 []) (F3.mk 0 0 0 0 0 []) (D2.mk 0 0 0 0 0 0 []) (D5.mk 0 0 0 0 0 []) (E2.mk 0 0 0 []) (F4.mk 0 []) (C2.mk false 0 0 0 []) (E7.mk []) (C1.mk 0 0 0 []) (C3.mk 0 0 0 0 [])),false))<|
 Option.bind (B9 c.Aq.Ai a.1) fun b=>
 some (b.Ac,true)
def A6l (a:A9):Bool:=
 cond ((a.Ap.Bj !=1)&&((((a.Ar.W !=0)||(a.Ar.Cap !=0))||(a.Ar.Now !=0))||(decide ((a.Ar.Bc.length:Int)>(0:Int))))) (
  false)<|
 cond ((a.Ap.Bj !=2)&&(((((a.Az.W !=0)||(a.Az.K !=0))||(a.Az.Cap !=0))||(a.Az.Now !=0))||(decide ((a.Az.Ad.length:Int)>(0:Int))))) (
  false)<|
 cond ((a.Ap.Bj !=3)&&((((((a.Sum.W !=0)||(a.Sum.K !=0))||(a.Sum.Cap !=0))||(a.Sum.Bu !=0))||(a.Sum.Now !=0))||(decide ((a.Sum.Ad.length:Int)>(0:Int))))) (
  false)<|
 cond ((a.Ap.Bj !=4)&&(((((((a.Au.Bp !=0)||(a.Au.W !=0))||(a.Au.K !=0))||(a.Au.Cap !=0))||(a.Au.Now !=0))||(a.Au.Bx !=0))||(decide ((a.Au.Bg.length:Int)>(0:Int))))) (
  false)<|
 cond ((a.Ap.Bj !=5)&&((((((a.Av.W !=0)||(a.Av.K !=0))||(a.Av.Cap !=0))||(a.Av.Now !=0))||(a.Av.Bx !=0))||(decide ((a.Av.Bg.length:Int)>(0:Int))))) (
  false)<|
 cond ((a.Ap.Bj !=6)&&((((a.Bn.P !=0)||(a.Bn.Bk !=0))||(a.Bn.Now !=0))||(decide ((a.Bn.Ag.length:Int)>(0:Int))))) (
  false)<|
 cond ((a.Ap.Bj !=7)&&((a.Bb.Now !=0)||(decide ((a.Bb.Bo.length:Int)>(0:Int))))) (
  false)<|
 cond ((a.Ap.Bj !=8)&&((((a.Af.Bu||(a.Af.W !=0))||(a.Af.Cap !=0))||(a.Af.Now !=0))||(decide ((a.Af.Bc.length:Int)>(0:Int))))) (
  false)<|
 cond ((a.Ap.Bj !=9)&&(decide ((a.As.Ao.length:Int)>(0:Int)))) (
  false)<|
 cond ((a.Ap.Bj !=10)&&((((a.Aj.K !=0)||(a.Aj.Cap !=0))||(a.Aj.N !=0))||(decide ((a.Aj.Aw.length:Int)>(0:Int))))) (
  false)<|
 ((a.Ap.Bj==11)||(((((a.Ab.W==0)&&(a.Ab.K==0))&&(a.Ab.Cap==0))&&(a.Ab.Now==0))&&((a.Ab.Al.length:Int)==(0:Int))))
def Z9 (c:Bool) (a b:Int):Bool:=
 cond c (
  (decide (a>=b)))<|
 (decide (a<=b))
def A6A (a b c:Int):Bool:=
 ((((((decide (a>=1))&&(decide (a<=1048576)))&&(decide (b>=1)))&&(decide (b<=65536)))&&(decide (c>=0)))&&(decide (c<=16777216)))
def A2E (g:C2) (a:Int):Option (Int⊕Int):=
 cond (decide (a<(g.Bc.length:Int))) (
  Option.bind (B9 g.Bc a) fun b=>
  let f:=(Q4 g.Now g.W b.T);
  cond (((!f)||(decide (b.V<(-4096:Int))))||(decide (b.V>4096))) (
   some (.inr 2))<|
  Option.bind (gd (decide (a>0)) (B9 g.Bc (A1 (a-1)))) fun c=>
  Option.bind (gd ((decide (a>0))&&(!(decide (c.T>=b.T)))) (B9 g.Bc (A1 (a-1)))) fun d=>
  let e:=(Z9 g.Bu b.V d.V);
  cond ((decide (a>0))&&((decide (c.T>=b.T))||e)) (
   some (.inr 2))<|
  some (.inl (A1 (a+1))))<|
 Option.map Sum.inr (some 0)
def B0m (b:C2) (a:Int):Option Int:=
 loop (fun (s:Int)=>A2E b s) a
def A0f (b:C2):Option Int:=
 let a:=(A6A b.W b.Cap b.Now);
 cond ((!a)||(decide ((b.Bc.length:Int)>b.Cap))) (
  some 2)<|
 B0m b 0
def A3U (c:F4) (a:Int):Option (Int⊕Int):=
 cond (decide (a<(c.Bo.length:Int))) (
  Option.bind (B9 c.Bo a) fun b=>
  cond (((decide (b<0))||(decide (b>1099511627776)))||((b !=0)&&(decide (a>c.Now)))) (
   some (.inr 2))<|
  some (.inl (A1 (a+1))))<|
 Option.map Sum.inr (some 0)
def B2x (b:F4) (a:Int):Option Int:=
 loop (fun (s:Int)=>A3U b s) a
def A1j (a:F4):Option Int:=
 cond ((((decide ((a.Bo.length:Int)<(1:Int)))||(decide ((a.Bo.length:Int)>(64:Int))))||(decide (a.Now<0)))||(decide (a.Now>16777216))) (
  some 2)<|
 B2x a 0
def B4S (a:Int):Bool:=
 ((decide (a>=0))&&(decide (a<=16777216)))
def A5v (c d:A2):Option (A2×Bool):=
 Option.bind (N9 c.Lo d.Lo 0) fun a=>
 Option.bind (N9 c.Hi d.Hi a.2) fun b=>
 cond (b.2 !=0) (
  some ((A2.mk 0 0),false))<|
 some ((A2.mk b.1 a.1),true)
def B1o (f a b c:Int):Option (A2×Bool):=
 let g:=(Q3 a c);
 let d:=(Q3 a b);
 cond (d.Hi !=0) (
  some ((A2.mk 0 0),false))<|
 Option.bind (A5v g (A2.mk d.Lo 0)) fun e=>
 some (e.1,e.2)
def A3j (a b:A2):Option (A2×Bool):=
 cond ((a.Hi !=0)&&(b.Hi !=0)) (
  some ((A2.mk 0 0),false))<|
 cond (a.Hi !=0) (
  B1o b.Hi b.Lo a.Hi a.Lo)<|
 B1o a.Hi a.Lo b.Hi b.Lo
def A4h (j:E2) (f:A2) (a:Int):Option (Int⊕Int):=
 cond (decide (a<=j.P)) (
  Option.bind (B9 j.Ag (A1 (a-1))) fun g=>
  Option.bind (B9 j.Ag a) fun h=>
  let c:=(R8 g h);
  cond (decide (c>0)) (
   some (.inr 2))<|
  Option.bind (B9 j.Ag (A1 (a-1))) fun i=>
  Option.bind (A3j i f) fun b=>
  Option.bind (gd b.2 (B9 j.Ag a)) fun d=>
  let e:=(R8 d b.1);
  cond (b.2&&(decide (e>0))) (
   some (.inr 2))<|
  some (.inl (A1 (a+1))))<|
 Option.map Sum.inr (some 0)
def B3U (c:E2) (a:A2) (b:Int):Option Int:=
 loop (fun (s:Int)=>A4h c a s) b
def A2a (c:E2):Option Int:=
 let a:=(B4S c.Now);
 cond ((((((decide (c.P<0))||(decide (c.P>4)))||(!a))||(decide (c.Bk<0)))||(decide (c.Bk>c.Now)))||((c.Ag.length:Int) !=(A1 (c.P+1)))) (
  some 2)<|
 let b:=(K5 (A5 (A1 ((A1 (c.Now-c.Bk))+1))));
 B3U c b 1
def B6E (b:Int):Option Int:=
 cond (decide (b<0)) (
  some 0)<|
 Option.bind (Y0 (A5 b)) fun a=>
 some a
def A0W (a b c d:Int):Bool:=
 ((((((((decide (a>=1))&&(decide (a<=1048576)))&&(decide (b>=1)))&&(decide (b<=64)))&&(decide (c>=1)))&&(decide (c<=65536)))&&(decide (d>=0)))&&(decide (d<=16777216)))
def A5z (c d:Int):Option Int:=
 let a:=(A0W 1 c d 0);
 cond (!a) (
  some 0)<|
 Option.bind (B6E d) fun b=>
 some (A1 ((A1 (2*c))*(A1 (b+2))))
def A12 (d:C3) (a:Int):Option (Int⊕Int):=
 cond (decide (a<(d.Al.length:Int))) (
  Option.bind (B9 d.Al a) fun b=>
  let c:=(Q4 d.Now d.W b.T);
  cond (!c) (
   some (.inr 2))<|
  some (.inl (A1 (a+1))))<|
 Option.map Sum.inr (some 0)
def A9O (b:C3) (a:Int):Option Int:=
 loop (fun (s:Int)=>A12 b s) a
def V5 (e:C3):Option Int:=
 let a:=(A0W e.W e.K e.Cap e.Now);
 Option.bind (gd (!(!a)) (A5z e.K e.Cap)) fun c=>
 Option.bind (gd (!(!a)) (A4y e.Al (A1 (2*e.K)) c)) fun b=>
 Option.bind (gd (!((!a)||(!b))) (A25 e.Al)) fun d=>
 cond (((!a)||(!b))||(decide (d>e.Cap))) (
  some 2)<|
 A9O e 0
def A66 (a:Int):Bool:=
 ((decide (a>=0))&&(decide (a<=16777216)))
def C1d (d:List A8) (e a:Int):Option (Int⊕Bool):=
 cond (decide (a<(d.length:Int))) (
  Option.bind (B9 d a) fun b=>
  Option.bind (gd ((!((decide (b.T<0))||(decide (b.T>e))))&&(decide (a>0))) (B9 d (A1 (a-1)))) fun c=>
  cond (((decide (b.T<0))||(decide (b.T>e)))||((decide (a>0))&&(decide (c.T>b.T)))) (
   some (.inr false))<|
  some (.inl (A1 (a+1))))<|
 Option.map Sum.inr (some true)
def C2s (b:List A8) (c a:Int):Option Bool:=
 loop (fun (s:Int)=>C1d b c s) a
def B07 (c:List A8) (b:Int):Option Bool:=
 let a:=(A66 b);
 cond (!a) (
  some false)<|
 C2s c b 0
def A8b (a b c:Int):Bool:=
 ((((((decide (a>=1))&&(decide (a<=1048576)))&&(decide (b>=1)))&&(decide (b<=65536)))&&(decide (c>=0)))&&(decide (c<=16777216)))
def A9R (a:Int):Bool:=
 ((decide (a>=(-4096:Int)))&&(decide (a<=4096)))
def A5T (e:D0) (a:Int):Option (Int⊕Int):=
 cond (decide (a<(e.Bc.length:Int))) (
  Option.bind (B9 e.Bc a) fun b=>
  let d:=(Q4 e.Now e.W b.T);
  let c:=(A9R b.V);
  cond ((!d)||(!c)) (
   some (.inr 2))<|
  some (.inl (A1 (a+1))))<|
 Option.map Sum.inr (some 0)
def B1G (b:D0) (a:Int):Option Int:=
 loop (fun (s:Int)=>A5T b s) a
def Y2 (c:D0):Option Int:=
 let a:=(A8b c.W c.Cap c.Now);
 Option.bind (gd (!((!a)||(decide ((c.Bc.length:Int)>c.Cap)))) (B07 c.Bc c.Now)) fun b=>
 cond (((!a)||(decide ((c.Bc.length:Int)>c.Cap)))||(!b)) (
  some 2)<|
 B1G c 0
def Y6 (e:E7) (a:Int):Option (Int⊕Int):=
 cond (decide (a<(e.Ao.length:Int))) (
  Option.bind (B9 e.Ao a) fun b=>
  Option.bind (B9 e.Ao 0) fun c=>
  Option.bind (N6 b) fun d=>
  cond ((((d !=0)||(b.W !=c.W))||(b.Cap !=c.Cap))||(b.I !=c.I)) (
   some (.inr 2))<|
  some (.inl (A1 (a+1))))<|
 Option.map Sum.inr (some 0)
def A6Q (b:E7) (a:Int):Option Int:=
 loop (fun (s:Int)=>Y6 b s) a
def Q0 (a:E7):Option Int:=
 cond ((decide ((a.Ao.length:Int)<(1:Int)))||(decide ((a.Ao.length:Int)>(16:Int)))) (
  some 2)<|
 A6Q a 0
def A0a (a d e b c:Int):Bool:=
 (((((decide (b>=(A1 (a*d))))&&(decide (b<=(A1 (a*e)))))&&(decide (c>=0)))&&(decide (c<=(A1 ((A1 (a*(4096:Int)))*(4096:Int))))))&&(decide ((A1 (b*b))<=(A1 (a*c)))))
def A6c (h:List A6) (i k j l m d:Int):Option (Int⊕Bool):=
 cond (decide (d<(h.length:Int))) (
  Option.bind (B9 h d) fun a=>
  cond ((((((decide (a.Bx<1))||(decide (a.Bx>i)))||(a.N !=(A1 ((A1 (i-a.Bx))+1))))||(decide (a.N>k)))||(decide (a.T<0)))||(decide (a.T>j))) (
   some (.inr false))<|
  let g:=(A0a a.N a.Bv a.Bu a.S a.Q);
  cond ((((decide (a.Bv<m))||(decide (a.Bu>4096)))||(decide (a.Bv>a.Bu)))||(!g)) (
   some (.inr false))<|
  let e:=(Q4 j l a.T);
  cond (((decide (d>0))||((h.length:Int)==(1:Int)))&&(!e)) (
   some (.inr false))<|
  cond (d==0) (
   some (.inl (A1 (d+1))))<|
  Option.bind (B9 h (A1 (d-1))) fun b=>
  let f:=(A0a (A1 (b.N-a.N)) b.Bv b.Bu (A1 (b.S-a.S)) (A1 (b.Q-a.Q)));
  cond (((((decide (b.Bx>=a.Bx))||(decide (b.T>a.T)))||(decide (b.Bv>a.Bv)))||(decide (b.Bu<a.Bu)))||(!f)) (
   some (.inr false))<|
  some (.inl (A1 (d+1))))<|
 Option.map Sum.inr (cond ((h.length:Int)==(0:Int)) (
  some true)<|
 Option.bind (B9 h (A1 ((h.length:Int)-(1:Int)))) fun c=>
 some ((((c.Bx==i)&&(c.Bv==c.S))&&(c.Bu==c.S))&&(c.Q==(A1 (c.S*c.S)))))
def B53 (b:List A6) (c d e f g a:Int):Option Bool:=
 loop (fun (s:Int)=>A6c b c d e f g s) a
def A79 (b:List A6) (a c d e f:Int):Option Bool:=
 cond ((decide (a<0))||(decide (a>1099511627776))) (
  some false)<|
 B53 b a c d e f 0
def A7a (a b c d:Int):Bool:=
 ((((((((decide (a>=1))&&(decide (a<=1048576)))&&(decide (b>=1)))&&(decide (b<=64)))&&(decide (c>=1)))&&(decide (c<=65536)))&&(decide (d>=0)))&&(decide (d<=16777216)))
def A1z (b c d e f:Int):Bool:=
 let a:=(A7a c d e f);
 (((decide (b>=1))&&(decide (b<=4)))&&a)
def Z5 (a:Int):Int:=
 cond ((a==2)||(a==3)) (
  0)<|
 (-4096:Int)
def B9j (a b:Int):(Int×Bool):=
 cond ((!((decide (a>=0))==(decide (b>=0))))&&(!((decide ((A1 (a-b))>=0))==(decide (a>=0))))) (
  (0,false))<|
 ((A1 (a-b)),true)
def A0l (b:A6) (c:Int):Int:=
 cond (c==1) (
  b.N)<|
 cond (c==2) (
  b.S)<|
 cond (c==3) (
  b.Q)<|
 cond (c==4) (
  let a:=(B9j b.Bu b.Bv);
  a.1)<|
 0
def P5 (e f:A6) (c d:Int):Bool:=
 let a:=(A0l f c);
 let b:=(A0l e c);
 (decide ((A1 ((A1 (d+1))*a))>=(A1 (d*b))))
def A3o (h:D2) (a:Int):Option (Int⊕Int):=
 cond (decide (a<(h.Bg.length:Int))) (
  Option.bind (B9 h.Bg a) fun b=>
  Option.bind (gd (decide (a>=2)) (B9 h.Bg (A1 (a-2)))) fun g=>
  let d:=(P5 g b h.Bp h.K);
  cond ((decide (a>=2))&&d) (
   some (.inr 2))<|
  Option.bind (gd (decide (a>=1)) (B9 h.Bg (A1 (a-1)))) fun c=>
  Option.bind (gd ((decide (a>=1))&&(decide ((A1 (b.Bx-c.Bx))>1))) (B9 h.Bg (A1 (a-1)))) fun e=>
  let f:=(P5 e b h.Bp h.K);
  cond (((decide (a>=1))&&(decide ((A1 (b.Bx-c.Bx))>1)))&&(!f)) (
   some (.inr 2))<|
  some (.inl (A1 (a+1))))<|
 Option.map Sum.inr (some 0)
def B1K (b:D2) (a:Int):Option Int:=
 loop (fun (s:Int)=>A3o b s) a
def A0F (d:D2):Option Int:=
 let a:=(A1z d.Bp d.W d.K d.Cap d.Now);
 let b:=(Z5 d.Bp);
 Option.bind (gd (!(!a)) (A79 d.Bg d.Bx d.Cap d.Now d.W b)) fun c=>
 cond ((!a)||(!c)) (
  some 2)<|
 B1K d 0
def A4X (a:A6):Bool:=
 cond ((((((decide (a.N<1))||(decide (a.N>65536)))||(decide (a.S<(A1 ((IntKind.i64.wrap (0-a.N))*4096)))))||(decide (a.S>(A1 (a.N*4096)))))||(decide (a.Q<0)))||(decide (a.Q>(A1 ((A1 (a.N*(4096:Int)))*(4096:Int)))))) (
  false)<|
 (decide ((A1 (a.S*a.S))<=(A1 (a.N*a.Q))))
def A7A (a:A6):Int:=
 (A1 ((A1 (a.N*a.Q))-(A1 (a.S*a.S))))
def A6S (m n:A6) (l:Int):Option Bool:=
 let c:=(A4X m);
 let d:=(A4X n);
 cond ((((!c)||(!d))||(decide (l<1)))||(decide (l>64))) (
  some false)<|
 cond (decide ((A1 ((A1 (6*l))*n.N))<(A1 ((A1 ((A1 (6*l))-1))*m.N)))) (
  some false)<|
 let e:=(A7A n);
 let f:=(Q3 (A5 e) (A5 m.N));
 let g:=(K5 (A5 (A1 (6*l))));
 Option.bind (A3j f g) fun a=>
 let h:=(A7A m);
 let i:=(Q3 (A5 h) (A5 n.N));
 let j:=(K5 (A5 (A1 ((A1 (6*l))-1))));
 Option.bind (A3j i j) fun b=>
 let k:=(R8 a.1 b.1);
 some (decide (k>=0))
def A3p (e:D5) (a:Int):Option (Int⊕Int):=
 cond (decide (a<(e.Bg.length:Int))) (
  Option.bind (B9 e.Bg (A1 (a-2))) fun c=>
  Option.bind (B9 e.Bg a) fun d=>
  Option.bind (A6S c d e.K) fun b=>
  cond b (
   some (.inr 2))<|
  some (.inl (A1 (a+1))))<|
 Option.map Sum.inr (some 0)
def B1L (b:D5) (a:Int):Option Int:=
 loop (fun (s:Int)=>A3p b s) a
def A0G (c:D5):Option Int:=
 let a:=(A7a c.W c.K c.Cap c.Now);
 Option.bind (gd (!(!a)) (A79 c.Bg c.Bx c.Cap c.Now c.W (-4096:Int))) fun b=>
 cond ((!a)||(!b)) (
  some 2)<|
 B1L c 2
def B0P (a b c d e:Int):Bool:=
 ((((((((((decide (a>=1))&&(decide (a<=1048576)))&&(decide (b>=1)))&&(decide (b<=64)))&&(decide (c>=1)))&&(decide (c<=65536)))&&(decide (d>=1)))&&(decide (d<=1024)))&&(decide (e>=0)))&&(decide (e<=16777216)))
def A5q (d:F3) (a:Int):Option (Int⊕Int):=
 cond (decide (a<(d.Ad.length:Int))) (
  Option.bind (B9 d.Ad a) fun b=>
  let c:=(Q4 d.Now d.W b.T);
  cond (!c) (
   some (.inr 2))<|
  some (.inl (A1 (a+1))))<|
 Option.map Sum.inr (some 0)
def B44 (b:F3) (a:Int):Option Int:=
 loop (fun (s:Int)=>A5q b s) a
def A3d (d:F3):Option Int:=
 let a:=(B0P d.W d.K d.Cap d.Bu d.Now);
 Option.bind (gd (!(!a)) (U6 d.Ad d.K)) fun b=>
 Option.bind (gd (!((!a)||(!b))) (L7 d.Ad)) fun c=>
 cond (((!a)||(!b))||(decide (c>d.Cap))) (
  some 2)<|
 B44 d 0
def A4Y (b a:Int):Option Int:=
 ck (decide (a≠0))<|
 some (A0t 1 (A1 (Int.tdiv b a)))
def A2M (h:C1) (d e b:Int):Option ((Int×Int)⊕Int):=
 cond (decide (b<(h.Aw.length:Int))) (
  Option.bind (B9 h.Aw b) fun a=>
  Option.bind (gd ((!((decide (a.V<(-4096:Int)))||(decide (a.V>4096))))&&(decide (b>0))) (B9 h.Aw (A1 (b-1)))) fun f=>
  cond (((decide (a.V<(-4096:Int)))||(decide (a.V>4096)))||((decide (b>0))&&(decide (f.V>a.V)))) (
   some (.inr 2))<|
  cond ((((decide (a.G<1))||(decide (a.D<0)))||(decide (a.G>d)))||(decide (a.D>(A1 (d-a.G))))) (
   some (.inr 2))<|
  some (.inl ((A1 (e+a.G)),(A1 (b+1)))))<|
 Option.map Sum.inr (Option.bind (B9 h.Aw 0) fun c=>
 Option.bind (B9 h.Aw (A1 ((h.Aw.length:Int)-(1:Int)))) fun g=>
 cond ((((e !=h.N)||(c.G !=1))||(c.D !=0))||(g.D !=0)) (
  some 2)<|
 some 0)
def B0o (d:C1) (b c a:Int):Option Int:=
 loop (fun (s:(Int×Int))=>A2M d b s.1 s.2) (c,a)
def A0h (b:C1):Option Int:=
 cond (((((((decide (b.K<1))||(decide (b.K>64)))||(decide (b.Cap<2)))||(decide (b.Cap>65536)))||(decide (b.N<0)))||(decide (b.N>1099511627776)))||(decide ((b.Aw.length:Int)>b.Cap))) (
  some 2)<|
 cond (b.N==0) (
  cond (decide ((b.Aw.length:Int)>(0:Int))) (
   some 2)<|
  some 0)<|
 cond ((b.Aw.length:Int)==(0:Int)) (
  some 2)<|
 Option.bind (A4Y b.N b.K) fun a=>
 B0o b a 0 0
def A7C (n:A9):Option Bool:=
 cond (n.Ap.Bj==1) (
  Option.bind (Y2 n.Ar) fun l=>
  some (((l==0)&&(n.Ar.W==n.Ap.W))&&(n.Ar.Cap==n.Ap.Cap)))<|
 cond (n.Ap.Bj==2) (
  Option.bind (W9 n.Az) fun m=>
  some ((((m==0)&&(n.Az.W==n.Ap.W))&&(n.Az.K==n.Ap.K))&&(n.Az.Cap==n.Ap.Cap)))<|
 cond (n.Ap.Bj==3) (
  Option.bind (A3d n.Sum) fun d=>
  some (((((d==0)&&(n.Sum.W==n.Ap.W))&&(n.Sum.K==n.Ap.K))&&(n.Sum.Cap==n.Ap.Cap))&&(n.Sum.Bu==n.Ap.Bu)))<|
 cond (n.Ap.Bj==4) (
  Option.bind (A0F n.Au) fun e=>
  some (((((e==0)&&(n.Au.W==n.Ap.W))&&(n.Au.K==n.Ap.K))&&(n.Au.Cap==n.Ap.Cap))&&(n.Au.Bp==n.Ap.Bp)))<|
 cond (n.Ap.Bj==5) (
  Option.bind (A0G n.Av) fun f=>
  some ((((f==0)&&(n.Av.W==n.Ap.W))&&(n.Av.K==n.Ap.K))&&(n.Av.Cap==n.Ap.Cap)))<|
 cond (n.Ap.Bj==6) (
  Option.bind (A2a n.Bn) fun g=>
  some ((g==0)&&(n.Bn.P==n.Ap.P)))<|
 cond (n.Ap.Bj==7) (
  Option.bind (A1j n.Bb) fun h=>
  some ((h==0)&&((n.Bb.Bo.length:Int)==n.Ap.W)))<|
 cond (n.Ap.Bj==8) (
  Option.bind (A0f n.Af) fun i=>
  some ((((i==0)&&(n.Af.W==n.Ap.W))&&(n.Af.Cap==n.Ap.Cap))&&(n.Af.Bu==(n.Ap.Bu==1))))<|
 cond (n.Ap.Bj==9) (
  Option.bind (Q0 n.As) fun a=>
  Option.bind (gd ((a==0)&&((n.As.Ao.length:Int)==n.Ap.Ao)) (B9 n.As.Ao 0)) fun b=>
  Option.bind (gd (((a==0)&&((n.As.Ao.length:Int)==n.Ap.Ao))&&(b.W==n.Ap.W)) (B9 n.As.Ao 0)) fun c=>
  some ((((a==0)&&((n.As.Ao.length:Int)==n.Ap.Ao))&&(b.W==n.Ap.W))&&(c.Cap==n.Ap.Cap)))<|
 cond (n.Ap.Bj==10) (
  Option.bind (A0h n.Aj) fun j=>
  some (((j==0)&&(n.Aj.K==n.Ap.K))&&(n.Aj.Cap==n.Ap.Cap)))<|
 Option.bind (V5 n.Ab) fun k=>
 some ((((k==0)&&(n.Ab.W==n.Ap.W))&&(n.Ab.K==n.Ap.K))&&(n.Ab.Cap==n.Ap.Cap))
def N2 (d:A9):Option Int:=
 let a:=(X8 d.Ap);
 Option.bind (gd (!(a !=0)) (A7C d)) fun c=>
 let b:=(A6l d);
 cond (((a !=0)||(!c))||(!b)) (
  some 2)<|
 some 0
def A6O (e:List A7) (a:Int):Option (Int⊕Bool):=
 cond (decide (a<(e.length:Int))) (
  Option.bind (B9 e a) fun b=>
  Option.bind (gd ((!((decide (b.ID<0))||(decide (b.ID>1048576))))&&(decide (a>0))) (B9 e (A1 (a-1)))) fun c=>
  Option.bind (gd (!(((decide (b.ID<0))||(decide (b.ID>1048576)))||((decide (a>0))&&(decide (c.ID>=b.ID))))) (N2 b.Ac)) fun d=>
  cond ((((decide (b.ID<0))||(decide (b.ID>1048576)))||((decide (a>0))&&(decide (c.ID>=b.ID))))||(d !=0)) (
   some (.inr false))<|
  some (.inl (A1 (a+1))))<|
 Option.map Sum.inr (some true)
def B2C (b:List A7) (a:Int):Option Bool:=
 loop (fun (s:Int)=>A6O b s) a
def A1n (b:List A7) (a:Int):Option Bool:=
 cond (((decide (a<1))||(decide (a>64)))||(decide ((b.length:Int)>a))) (
  some false)<|
 B2C b 0
def A5n (f:List A7) (g:A7):Option ((List A7)×Int):=
 Option.bind (A1n f 64) fun b=>
 Option.bind (gd (!(!b)) (N2 g.Ac)) fun c=>
 cond ((!b)||(c !=0)) (
  some ([],2))<|
 Option.bind (A0Y f g.ID) fun a=>
 cond (!a.2) (
  some ([],11))<|
 ck (decide ((([]:List A7).length+f.length)*640<=140737488355328))<|
 Option.bind (B9 (([]:List A7)++f) a.1) fun d=>
 Option.bind (B9 (([]:List A7)++f) a.1) fun e=>
 some (((([]:List A7)++f).set (a.1).toNat g),0)
def A9B (f:C2) (g:Int) (a:List A8):Option ((List A8)⊕(C2×Int)):=
 Option.bind (gd (decide ((a.length:Int)>(0:Int))) (B9 a (A1 ((a.length:Int)-(1:Int))))) fun c=>
 let d:=(Z9 f.Bu g c.V);
 cond ((decide ((a.length:Int)>(0:Int)))&&d) (
  ck (decide (0<=(A1 ((a.length:Int)-(1:Int)))/\(A1 ((a.length:Int)-(1:Int)))<=(a.length:Int)))<|
  some (.inl (a.take ((A1 ((a.length:Int)-(1:Int)))).toNat)))<|
 Option.map Sum.inr (ck (decide ((([]:List A8).length+a.length)*16<=140737488355328))<|
 Option.bind (gd (!(((([]:List A8)++a).length:Int)==(0:Int))) (B9 (([]:List A8)++a) (A1 (((([]:List A8)++a).length:Int)-(1:Int))))) fun e=>
 Option.bind (gd (!(((([]:List A8)++a).length:Int)==(0:Int))) (B9 (([]:List A8)++a) (A1 (((([]:List A8)++a).length:Int)-(1:Int))))) fun b=>
 cond ((((([]:List A8)++a).length:Int)==(0:Int))||(decide (b.T<f.Now))) (
  cond (((([]:List A8)++a).length:Int)==f.Cap) (
   some ((C2.mk false 0 0 0 []),5))<|
  ck (decide (((([]:List A8)++a).length+ [(A8.mk f.Now g)].length)*16<=140737488355328))<|
  some ((C2.mk f.Bu f.W f.Cap f.Now ((([]:List A8)++a)++ [(A8.mk f.Now g)])),0))<|
 some ((C2.mk f.Bu f.W f.Cap f.Now (([]:List A8)++a)),0))
def A4K (b:C2) (c:Int) (a:List A8):Option (C2×Int):=
 loop (fun (s:(List A8))=>A9B b c s) a
def A5J (b:C2) (c:Int):Option (C2×Int):=
 Option.bind (A0f b) fun a=>
 cond (a !=0) (
  some ((C2.mk false 0 0 0 []),a))<|
 cond ((decide (c<(-4096:Int)))||(decide (c>4096))) (
  some ((C2.mk false 0 0 0 []),4))<|
 A4K b c b.Bc
def A88 (g:F4) (h:Int):Option (F4×Int):=
 Option.bind (A1j g) fun a=>
 cond (a !=0) (
  some ((F4.mk 0 []),a))<|
 cond ((decide (h<0))||(decide (h>4096))) (
  some ((F4.mk 0 []),4))<|
 Option.bind (B9 g.Bo 0) fun b=>
 cond (decide (b>(A1 (1099511627776-h)))) (
  some ((F4.mk 0 []),6))<|
 ck (decide ((([]:List Int).length+g.Bo.length)*8<=140737488355328))<|
 Option.bind (B9 (([]:List Int)++g.Bo) 0) fun d=>
 Option.bind (B9 (([]:List Int)++g.Bo) 0) fun c=>
 Option.bind (B9 (([]:List Int)++g.Bo) 0) fun e=>
 Option.bind (B9 (([]:List Int)++g.Bo) 0) fun f=>
 some ((F4.mk g.Now ((([]:List Int)++g.Bo).set ((0:Int)).toNat (A1 (c+h)))),0)
def B0j (f d a b:Int):Option ((Int×Int×Int)⊕(A2×Bool)):=
 cond (decide (d>0)) (
  let e:=(K5 f);
  Option.bind (A3j (A2.mk a b) e) fun c=>
  cond (!c.2) (
   some (.inr ((A2.mk 0 0),false)))<|
  some (.inl ((A1 (d-1)),c.1.Hi,c.1.Lo)))<|
 Option.map Sum.inr (some ((A2.mk a b),true))
def A8j (d c a b:Int):Option (A2×Bool):=
 loop (fun (s:(Int×Int×Int))=>B0j d s.1 s.2.1 s.2.2) (c,a,b)
def B4f (c d:Int):Option (A2×Bool):=
 cond (decide (d<0)) (
  some ((A2.mk 0 0),false))<|
 cond (decide (c<=1)) (
  cond ((c==0)&&(decide (d>0))) (
   some ((A2.mk 0 0),true))<|
  let b:=(K5 1);
  some (b,true))<|
 let a:=(K5 1);
 A8j c d a.Hi a.Lo
def B3T (j:E2) (k:Int) (b:List A2) (a:Int):Option (((List A2)×Int)⊕(E2×Int)):=
 cond (decide (a<((List.replicate ((j.Ag.length:Int)).toNat (A2.mk 0 (0:Int))).length:Int))) (
  Option.bind (B4f (A5 (A1 ((A1 (j.Now-j.Bk))+1))) a) fun d=>
  let e:=(K5 (A5 k));
  Option.bind (A3j d.1 e) fun f=>
  Option.bind (B9 j.Ag a) fun g=>
  Option.bind (A5v g f.1) fun c=>
  cond (!c.2) (
   some (.inr ((E2.mk 0 0 0 []),6)))<|
  Option.bind (B9 b a) fun h=>
  Option.bind (B9 b a) fun i=>
  some (.inl ((b.set (a).toNat c.1),(A1 (a+1)))))<|
 Option.map Sum.inr (some ((E2.mk j.P j.Bk j.Now b),0))
def B1g (c:E2) (d:Int) (b:List A2) (a:Int):Option (E2×Int):=
 loop (fun (s:((List A2)×Int))=>B3T c d s.1 s.2) (b,a)
def B0G (b:E2) (c:Int):Option (E2×Int):=
 Option.bind (A2a b) fun a=>
 cond (a !=0) (
  some ((E2.mk 0 0 0 []),a))<|
 cond ((decide (c<0))||(decide (c>4096))) (
  some ((E2.mk 0 0 0 []),4))<|
 ck (decide (0<=(b.Ag.length:Int)/\(b.Ag.length:Int)<=(b.Ag.length:Int)/\(b.Ag.length:Int)*16<=140737488355328/\(b.Ag.length:Int)<=140737488355328))<|
 B1g b c (List.replicate ((b.Ag.length:Int)).toNat (A2.mk 0 0)) 0
def A4S (e:C3) (f:Int):Option (C3×Int):=
 Option.bind (V5 e) fun a=>
 cond (a !=0) (
  some ((C3.mk 0 0 0 0 []),a))<|
 cond ((decide (f<(-4096:Int)))||(decide (f>4096))) (
  some ((C3.mk 0 0 0 0 []),4))<|
 Option.bind (A25 e.Al) fun c=>
 cond (c==e.Cap) (
  some ((C3.mk 0 0 0 0 []),5))<|
 Option.bind (A5z e.K e.Cap) fun d=>
 Option.bind (B1Y e.Al (A1 (2*e.K)) d e.Now f) fun b=>
 some ((C3.mk e.W e.K e.Cap e.Now b),0)
def A7i (c:D0) (d:Int):Option (D0×Int):=
 Option.bind (Y2 c) fun a=>
 cond (a !=0) (
  some ((D0.mk 0 0 0 []),a))<|
 let b:=(A9R d);
 cond (!b) (
  some ((D0.mk 0 0 0 []),4))<|
 cond ((c.Bc.length:Int)==c.Cap) (
  some ((D0.mk 0 0 0 []),5))<|
 ck (decide (0<=(c.Bc.length:Int)/\(c.Bc.length:Int)=(c.Bc.length:Int)/\(c.Bc.length:Int)<=(c.Bc.length:Int)))<|
 ck (decide ([(A8.mk c.Now d)]≠ []/\((c.Bc.take ((c.Bc.length:Int)).toNat).length+ [(A8.mk c.Now d)].length)*16<=140737488355328))<|
 some ((D0.mk c.W c.Cap c.Now ((c.Bc.take ((c.Bc.length:Int)).toNat)++ [(A8.mk c.Now d)])),0)
def B0M (f:E7) (h:Int) (g:List Int) (d c:Int) (a:List B5):Option ((Int×Int×(List B5))⊕(E7×Int)):=
 cond (decide (c<(f.Ao.length:Int))) (
  Option.bind (B9 f.Ao c) fun e=>
  Option.bind (B1u e h g d) fun b=>
  cond (b.2.2 !=0) (
   some (.inr ((E7.mk []),b.2.2)))<|
  ck (decide ((a.length+ [b.1].length)*56<=140737488355328))<|
  some (.inl (b.2.1,(A1 (c+1)),(a++ [b.1]))))<|
 Option.map Sum.inr (cond (decide (d<(g.length:Int))) (
  some ((E7.mk []),8))<|
 some ((E7.mk a),0))
def B7w (d:E7) (e:Int) (f:List Int) (b c:Int) (a:List B5):Option (E7×Int):=
 loop (fun (s:(Int×Int×(List B5)))=>B0M d e f s.1 s.2.1 s.2.2) (b,c,a)
def B3e (b:E7) (c:Int) (d:List Int):Option (E7×Int):=
 Option.bind (Q0 b) fun a=>
 cond (a !=0) (
  some ((E7.mk []),a))<|
 B7w b c d 0 0 ([]:List B5)
def B7m (e:List A6) (f g d:Int) (b:List A6) (c:Int):Option (((List A6)×Int)⊕(List A6)):=
 cond (decide (c<(e.length:Int))) (
  Option.bind (B9 e c) fun a=>
  ck (decide ((b.length+ [(A6.mk a.Bx a.T (A1 (a.N+1)) (A1 (a.S+d)) (A1 (a.Q+(A1 (d*d)))) (A4M a.Bv d) (A0t a.Bu d))].length)*56<=140737488355328))<|
  some (.inl ((b++ [(A6.mk a.Bx a.T (A1 (a.N+1)) (A1 (a.S+d)) (A1 (a.Q+(A1 (d*d)))) (A4M a.Bv d) (A0t a.Bu d))]),(A1 (c+1)))))<|
 Option.map Sum.inr (ck (decide ((b.length+ [(A6.mk f g 1 d (A1 (d*d)) d d)].length)*56<=140737488355328))<|
 some (b++ [(A6.mk f g 1 d (A1 (d*d)) d d)]))
def B8k (c:List A6) (d e f:Int) (b:List A6) (a:Int):Option (List A6):=
 loop (fun (s:((List A6)×Int))=>B7m c d e f s.1 s.2) (b,a)
def B1D (a:List A6) (b c d:Int):Option (List A6):=
 B8k a b c d ([]:List A6) 0
def B43 (i j:A6) (b d c e f g:Int) (h:List A6):Bool:=
 let a:=(P5 i j b c);
 a
def A6F (o:List A6) (h i j k l m:Int) (n:List A6) (c:A6) (d:List A6) (b a:Int):Option (Int⊕(((List A6)×Int)⊕(List A6))):=
 cond (decide (a>b)) (
  Option.bind (B9 o b) fun e=>
  Option.bind (B9 o a) fun f=>
  let g:=(B43 e f h i j k l m n);
  cond g (
   Option.map Sum.inr (some (.inl ((d++ [c]),a))))<|
  some (.inl (A1 (a-1))))<|
 Option.map Sum.inr (some (.inl ((d++ [c]),(A1 (b+1)))))
def A7U (l:List A6) (e f g h i j:Int) (k:List A6) (a:A6) (b:List A6) (c d:Int):Option (((List A6)×Int)⊕(List A6)):=
 loop (fun (s:Int)=>A6F l e f g h i j k a b c s) d
def A6E (d:List A6) (e f g h i j:Int) (k a:List A6) (b:Int):Option (((List A6)×Int)⊕(List A6)):=
 cond (decide (b<(d.length:Int))) (
  Option.bind (B9 d b) fun c=>
  ck (decide ((a.length+ [c].length)*56<=140737488355328))<|
  A7U d e f g h i j k c a b (A1 ((d.length:Int)-(1:Int))))<|
 Option.map Sum.inr (some a)
def B2z (j:List A6) (c d e f g h:Int) (i a:List A6) (b:Int):Option (List A6):=
 loop (fun (s:((List A6)×Int))=>A6E j c d e f g h i s.1 s.2) (a,b)
def A7b (h:List A6) (a b c d e f:Int) (g:List A6):Option (List A6):=
 B2z h a b c d e f g ([]:List A6) 0
def A7v (f:D2) (g:Int):Option (D2×Int):=
 Option.bind (A0F (D2.mk f.Bp f.W f.K f.Cap f.Now f.Bx f.Bg)) fun a=>
 cond (a !=0) (
  some ((D2.mk 0 0 0 0 0 0 []),a))<|
 let b:=(Z5 f.Bp);
 cond ((decide (g<b))||(decide (g>4096))) (
  some ((D2.mk 0 0 0 0 0 0 []),4))<|
 Option.bind (gd (decide ((f.Bg.length:Int)>(0:Int))) (B9 f.Bg 0)) fun c=>
 cond (((decide ((f.Bg.length:Int)>(0:Int)))&&(c.N==f.Cap))||(f.Bx==1099511627776)) (
  some ((D2.mk 0 0 0 0 0 0 []),5))<|
 Option.bind (B1D f.Bg (A1 (f.Bx+1)) f.Now g) fun d=>
 Option.bind (A7b d f.Bp f.W f.K f.Cap f.Now (A1 (f.Bx+1)) f.Bg) fun e=>
 some ((D2.mk f.Bp f.W f.K f.Cap f.Now (A1 (f.Bx+1)) e),0)
def A95 (h i:A6) (c b d e f:Int) (g:List A6):Option Bool:=
 Option.bind (A6S h i b) fun a=>
 some a
def A6H (n:List A6) (h i j k l:Int) (m:List A6) (c:A6) (d:List A6) (b a:Int):Option (Int⊕(((List A6)×Int)⊕(List A6))):=
 cond (decide (a>b)) (
  Option.bind (B9 n b) fun e=>
  Option.bind (B9 n a) fun f=>
  Option.bind (A95 e f h i j k l m) fun g=>
  cond g (
   Option.map Sum.inr (some (.inl ((d++ [c]),a))))<|
  some (.inl (A1 (a-1))))<|
 Option.map Sum.inr (some (.inl ((d++ [c]),(A1 (b+1)))))
def A7V (k:List A6) (e f g h i:Int) (j:List A6) (a:A6) (b:List A6) (c d:Int):Option (((List A6)×Int)⊕(List A6)):=
 loop (fun (s:Int)=>A6H k e f g h i j a b c s) d
def A6G (d:List A6) (e f g h i:Int) (j a:List A6) (b:Int):Option (((List A6)×Int)⊕(List A6)):=
 cond (decide (b<(d.length:Int))) (
  Option.bind (B9 d b) fun c=>
  ck (decide ((a.length+ [c].length)*56<=140737488355328))<|
  A7V d e f g h i j c a b (A1 ((d.length:Int)-(1:Int))))<|
 Option.map Sum.inr (some a)
def B2A (i:List A6) (c d e f g:Int) (h a:List A6) (b:Int):Option (List A6):=
 loop (fun (s:((List A6)×Int))=>A6G i c d e f g h s.1 s.2) (a,b)
def A7c (g:List A6) (a b c d e:Int) (f:List A6):Option (List A6):=
 B2A g a b c d e f ([]:List A6) 0
def A7y (e:D5) (f:Int):Option (D5×Int):=
 Option.bind (A0G (D5.mk e.W e.K e.Cap e.Now e.Bx e.Bg)) fun a=>
 cond (a !=0) (
  some ((D5.mk 0 0 0 0 0 []),a))<|
 cond ((decide (f<(-4096:Int)))||(decide (f>4096))) (
  some ((D5.mk 0 0 0 0 0 []),4))<|
 Option.bind (gd (decide ((e.Bg.length:Int)>(0:Int))) (B9 e.Bg 0)) fun b=>
 cond (((decide ((e.Bg.length:Int)>(0:Int)))&&(b.N==e.Cap))||(e.Bx==1099511627776)) (
  some ((D5.mk 0 0 0 0 0 []),5))<|
 Option.bind (B1D e.Bg (A1 (e.Bx+1)) e.Now f) fun c=>
 Option.bind (A7c c e.W e.K e.Cap e.Now (A1 (e.Bx+1)) e.Bg) fun d=>
 some ((D5.mk e.W e.K e.Cap e.Now (A1 (e.Bx+1)) d),0)
def B3u (d:F3) (e:Int):Option (F3×Int):=
 Option.bind (A3d d) fun a=>
 cond (a !=0) (
  some ((F3.mk 0 0 0 0 0 []),a))<|
 cond ((decide (e<0))||(decide (e>d.Bu))) (
  some ((F3.mk 0 0 0 0 0 []),4))<|
 Option.bind (L7 d.Ad) fun b=>
 cond (decide (b>(A1 (d.Cap-e)))) (
  some ((F3.mk 0 0 0 0 0 []),5))<|
 Option.bind (A6t d.Ad d.K d.Now e) fun c=>
 some ((F3.mk d.W d.K d.Cap d.Bu d.Now c),0)
def A00 (m:Int) (c:List E0) (a:Int):Option (((List E0)×Int)⊕(List E0)):=
 cond (decide (a>=1)) (
  Option.bind (B9 c (A1 (a+1))) fun i=>
  Option.bind (B9 c (A1 (a+1))) fun f=>
  Option.bind (B9 c a) fun j=>
  Option.bind (B9 c a) fun g=>
  cond (decide ((A1 ((A1 (g.G+f.G))+f.D))<=m)) (
   Option.bind (B9 c (A1 (a+1))) fun k=>
   Option.bind (B9 c (A1 (a+1))) fun e=>
   Option.bind (B9 c a) fun l=>
   Option.bind (B9 c a) fun d=>
   Option.bind (B9 c (A1 (a+1))) fun h=>
   Option.bind (B9 c (A1 (a+1))) fun b=>
   ck (decide (0<=a/\a<=((c.set ((A1 (a+(1:Int)))).toNat (E0.mk b.V (A1 (e.G+d.G)) b.D)).length:Int)))<|
   ck (decide (0<=(A1 (a+1))/\(A1 (a+1))<=((c.set ((A1 (a+(1:Int)))).toNat (E0.mk b.V (A1 (e.G+d.G)) b.D)).length:Int)))<|
   ck (decide (0<(a).toNat/\(a).toNat+(((c.set ((A1 (a+(1:Int)))).toNat (E0.mk b.V (A1 (e.G+d.G)) b.D)).drop ((A1 (a+(1:Int)))).toNat).take ((c.set ((A1 (a+(1:Int)))).toNat (E0.mk b.V (A1 (e.G+d.G)) b.D)).length-((A1 (a+(1:Int)))).toNat)).length<=(c.set ((A1 (a+(1:Int)))).toNat (E0.mk b.V (A1 (e.G+d.G)) b.D)).length))<|
   some (.inl (((c.set ((A1 (a+(1:Int)))).toNat (E0.mk b.V (A1 (e.G+d.G)) b.D)).take (a).toNat++(((c.set ((A1 (a+(1:Int)))).toNat (E0.mk b.V (A1 (e.G+d.G)) b.D)).drop ((A1 (a+(1:Int)))).toNat).take ((c.set ((A1 (a+(1:Int)))).toNat (E0.mk b.V (A1 (e.G+d.G)) b.D)).length-((A1 (a+(1:Int)))).toNat))),(A1 (a-1)))))<|
  some (.inl (c,(A1 (a-1)))))<|
 Option.map Sum.inr (some c)
def A8e (c:Int) (a:List E0) (b:Int):Option (List E0):=
 loop (fun (s:((List E0)×Int))=>A00 c s.1 s.2) (a,b)
def A3q (a:List E0) (b:Int):Option (List E0):=
 A8e b a (A1 ((a.length:Int)-(2:Int)))
def A4q (b:C1) (a:List E0):Option (C1×Int):=
 cond (decide ((a.length:Int)>b.Cap)) (
  some ((C1.mk 0 0 0 []),5))<|
 some ((C1.mk b.K b.Cap (A1 (b.N+1)) a),0)
def A2s (e:C1) (f a b:Int):Option (C1×Int):=
 ck (decide (0<=a/\a<=(e.Aw.length:Int)))<|
 ck (decide ((([]:List E0).length+(e.Aw.take (a).toNat).length)*24<=140737488355328))<|
 ck (decide (((([]:List E0)++(e.Aw.take (a).toNat)).length+ [(E0.mk f 1 b)].length)*24<=140737488355328))<|
 ck (decide (0<=a/\a<=(e.Aw.length:Int)))<|
 ck (decide ((((([]:List E0)++(e.Aw.take (a).toNat))++ [(E0.mk f 1 b)]).length+(e.Aw.drop (a).toNat).length)*24<=140737488355328))<|
 cond (decide (((((([]:List E0)++(e.Aw.take (a).toNat))++ [(E0.mk f 1 b)])++(e.Aw.drop (a).toNat)).length:Int)>e.Cap)) (
  Option.bind (A4Y (A1 (e.N+1)) e.K) fun c=>
  Option.bind (A3q (((([]:List E0)++(e.Aw.take (a).toNat))++ [(E0.mk f 1 b)])++(e.Aw.drop (a).toNat)) c) fun d=>
  A4q e d)<|
 A4q e (((([]:List E0)++(e.Aw.take (a).toNat))++ [(E0.mk f 1 b)])++(e.Aw.drop (a).toNat))
def B1M (e:C1) (f a:Int):Option (Int⊕(C1×Int)):=
 Option.bind (gd (decide (a<(e.Aw.length:Int))) (B9 e.Aw a)) fun d=>
 cond ((decide (a<(e.Aw.length:Int)))&&(decide (d.V<=f))) (
  some (.inl (A1 (a+1))))<|
 Option.map Sum.inr (cond ((decide (a>0))&&(decide (a<(e.Aw.length:Int)))) (
  Option.bind (B9 e.Aw a) fun b=>
  Option.bind (B9 e.Aw a) fun c=>
  A2s e f a (A1 ((A1 (b.G+c.D))-1)))<|
 A2s e f a 0)
def A71 (b:C1) (c a:Int):Option (C1×Int):=
 loop (fun (s:Int)=>B1M b c s) a
def A7B (b:C1) (c:Int):Option (C1×Int):=
 Option.bind (A0h b) fun a=>
 cond (a !=0) (
  some ((C1.mk 0 0 0 []),a))<|
 cond ((decide (c<(-4096:Int)))||(decide (c>4096))) (
  some ((C1.mk 0 0 0 []),4))<|
 cond (b.N==1099511627776) (
  some ((C1.mk 0 0 0 []),5))<|
 A71 b c 0
def A3e (n:A9) (i:D0) (a:E4) (b:F3) (c:D2) (d:D5) (e:E2) (j:Int) (k:List Int) (f:C2) (l:List B5) (g:C1) (h:C3) (m:Int):Option (A9×Int):=
 cond (m !=0) (
  some ((A9.mk (B7.mk 0 0 0 0 0 0 0 0) (D0.mk 0 0 0 []) (E4.mk 0 0 0 0 []) (F3.mk 0 0 0 0 0 []) (D2.mk 0 0 0 0 0 0 []) (D5.mk 0 0 0 0 0 []) (E2.mk 0 0 0 []) (F4.mk 0 []) (C2.mk false 0 0 0 []) (E7.mk []) (C1.mk 0 0 0 []) (C3.mk 0 0 0 0 [])),m))<|
 some ((A9.mk n.Ap i a b c d e (F4.mk j k) f (E7.mk l) g h),0)
def M2 (n:A9) (o:List Int) (m:Int) (i:D0) (a:E4) (b:F3) (c:D2) (d:D5) (e:E2) (j:Int) (k:List Int) (f:C2) (l:List B5) (g:C1) (h:C3):Option (A9×Int):=
 cond (((m==0)&&(n.Ap.Bj !=9))&&(decide ((o.length:Int)>(0:Int)))) (
  A3e n i a b c d e j k f l g h 8)<|
 A3e n i a b c d e j k f l g h m
def Z6 (m:A9) (o:Int) (n:List Int):Option (A9×Int):=
 Option.bind (N2 m) fun b=>
 cond (b !=0) (
  some ((A9.mk (B7.mk 0 0 0 0 0 0 0 0) (D0.mk 0 0 0 []) (E4.mk 0 0 0 0 []) (F3.mk 0 0 0 0 0 []) (D2.mk 0 0 0 0 0 0 []) (D5.mk 0 0 0 0 0 []) (E2.mk 0 0 0 []) (F4.mk 0 []) (C2.mk false 0 0 0 []) (E7.mk []) (C1.mk 0 0 0 []) (C3.mk 0 0 0 0 [])),b))<|
 cond (m.Ap.Bj==1) (
  Option.bind (A7i m.Ar o) fun l=>
  M2 m n l.2 l.1 m.Az m.Sum m.Au m.Av m.Bn m.Bb.Now m.Bb.Bo m.Af m.As.Ao m.Aj m.Ab)<|
 cond (m.Ap.Bj==2) (
  cond ((decide (o<(-4096:Int)))||(decide (o>4096))) (
   some ((A9.mk (B7.mk 0 0 0 0 0 0 0 0) (D0.mk 0 0 0 []) (E4.mk 0 0 0 0 []) (F3.mk 0 0 0 0 0 []) (D2.mk 0 0 0 0 0 0 []) (D5.mk 0 0 0 0 0 []) (E2.mk 0 0 0 []) (F4.mk 0 []) (C2.mk false 0 0 0 []) (E7.mk []) (C1.mk 0 0 0 []) (C3.mk 0 0 0 0 [])),4))<|
  Option.bind (A3O m.Az) fun c=>
  M2 m n c.2 m.Ar c.1 m.Sum m.Au m.Av m.Bn m.Bb.Now m.Bb.Bo m.Af m.As.Ao m.Aj m.Ab)<|
 cond (m.Ap.Bj==3) (
  Option.bind (B3u m.Sum o) fun d=>
  M2 m n d.2 m.Ar m.Az d.1 m.Au m.Av m.Bn m.Bb.Now m.Bb.Bo m.Af m.As.Ao m.Aj m.Ab)<|
 cond (m.Ap.Bj==4) (
  Option.bind (A7v m.Au o) fun e=>
  M2 m n e.2 m.Ar m.Az m.Sum e.1 m.Av m.Bn m.Bb.Now m.Bb.Bo m.Af m.As.Ao m.Aj m.Ab)<|
 cond (m.Ap.Bj==5) (
  Option.bind (A7y m.Av o) fun f=>
  M2 m n f.2 m.Ar m.Az m.Sum m.Au f.1 m.Bn m.Bb.Now m.Bb.Bo m.Af m.As.Ao m.Aj m.Ab)<|
 cond (m.Ap.Bj==6) (
  Option.bind (B0G m.Bn o) fun g=>
  M2 m n g.2 m.Ar m.Az m.Sum m.Au m.Av g.1 m.Bb.Now m.Bb.Bo m.Af m.As.Ao m.Aj m.Ab)<|
 cond (m.Ap.Bj==7) (
  Option.bind (A88 m.Bb o) fun a=>
  M2 m n a.2 m.Ar m.Az m.Sum m.Au m.Av m.Bn a.1.Now a.1.Bo m.Af m.As.Ao m.Aj m.Ab)<|
 cond (m.Ap.Bj==8) (
  Option.bind (A5J m.Af o) fun h=>
  M2 m n h.2 m.Ar m.Az m.Sum m.Au m.Av m.Bn m.Bb.Now m.Bb.Bo h.1 m.As.Ao m.Aj m.Ab)<|
 cond (m.Ap.Bj==9) (
  Option.bind (B3e m.As o n) fun i=>
  M2 m n i.2 m.Ar m.Az m.Sum m.Au m.Av m.Bn m.Bb.Now m.Bb.Bo m.Af i.1.Ao m.Aj m.Ab)<|
 cond (m.Ap.Bj==10) (
  Option.bind (A7B m.Aj o) fun j=>
  M2 m n j.2 m.Ar m.Az m.Sum m.Au m.Av m.Bn m.Bb.Now m.Bb.Bo m.Af m.As.Ao j.1 m.Ab)<|
 cond (m.Ap.Bj==11) (
  Option.bind (A4S m.Ab o) fun k=>
  M2 m n k.2 m.Ar m.Az m.Sum m.Au m.Av m.Bn m.Bb.Now m.Bb.Bo m.Af m.As.Ao m.Aj k.1)<|
 M2 m n b m.Ar m.Az m.Sum m.Au m.Av m.Bn m.Bb.Now m.Bb.Bo m.Af m.As.Ao m.Aj m.Ab
def A1h (d:D8):Option (Int×D8):=
 Option.bind (A2j d) fun c=>
 cond (!c.2) (
  some (11,d))<|
 cond (d.command_.T !=d.Aq.Now) (
  some (3,d))<|
 Option.bind (Z6 c.1 d.command_.V d.command_.Ba) fun a=>
 cond (a.2 !=0) (
  some (a.2,d))<|
 Option.bind (A5n d.Aq.Ai (A7.mk d.command_.ID a.1)) fun b=>
 cond (b.2 !=0) (
  some (b.2,d))<|
 some (0,(D8.mk (B4.mk d.Aq.Now d.Aq.Be b.1) d.command_ d.reply_))
def B08 (c:C2):Option (Int×Int):=
 Option.bind (A0f c) fun a=>
 cond (a !=0) (
  some (0,a))<|
 cond ((c.Bc.length:Int)==(0:Int)) (
  some (0,7))<|
 Option.bind (B9 c.Bc 0) fun b=>
 some (b.V,0)
def A45 (d:A2) (c:Int):Option (A2×Bool):=
 cond (decide (c<0)) (
  some ((A2.mk 0 0),false))<|
 let a:=(A0p d);
 cond a (
  some (d,true))<|
 Option.bind (A9o d) fun b=>
 cond (decide (c>(A1 (128-b)))) (
  some ((A2.mk 0 0),false))<|
 cond (decide (c>=64)) (
  ck (decide (0<=(A5 (A1 (c-64)))))<|
  some ((A2.mk (E5 .u64 d.Lo (A5 (A1 (c-64)))) 0),true))<|
 ck (decide (0<=(A5 c)))<|
 ck (decide (0<=(A5 (A1 (64-c)))))<|
 ck (decide (0<=(A5 c)))<|
 some ((A2.mk (N8 .u64 (E5 .u64 d.Hi (A5 c)) (G0 .u64 d.Lo (A5 (A1 (64-c))))) (E5 .u64 d.Lo (A5 c))),true)
def B7k (j:F4) (c a b:Int):Option ((Int×Int×Int)⊕(D7×Int)):=
 cond (decide (c<(j.Bo.length:Int))) (
  Option.bind (B9 j.Bo c) fun g=>
  Option.bind (A45 (A2.mk a b) 1) fun h=>
  let i:=(K5 (A5 g));
  Option.bind (A5v h.1 i) fun d=>
  some (.inl ((A1 (c+1)),d.1.Hi,d.1.Lo)))<|
 Option.map Sum.inr (let e:=(K5 1);
 Option.bind (A45 e (A1 ((j.Bo.length:Int)-(1:Int)))) fun f=>
 some ((D7.mk (A2.mk a b) f.1),0))
def B3M (d:F4) (c a b:Int):Option (D7×Int):=
 loop (fun (s:(Int×Int×Int))=>B7k d s.1 s.2.1 s.2.2) (c,a,b)
def B4M (b:F4):Option (D7×Int):=
 Option.bind (A1j b) fun a=>
 cond (a !=0) (
  some ((D7.mk (A2.mk 0 0) (A2.mk 0 0)),a))<|
 B3M b 0 0 0
def B6J (d:E2):Option (D7×Int):=
 Option.bind (A2a d) fun a=>
 cond (a !=0) (
  some ((D7.mk (A2.mk 0 0) (A2.mk 0 0)),a))<|
 Option.bind (B4f (A5 (A1 ((A1 (d.Now-d.Bk))+1))) d.P) fun b=>
 Option.bind (B9 d.Ag d.P) fun c=>
 some ((D7.mk c b.1),0)
def A8x (c:C3) (d:Int):Option (C9×Int):=
 Option.bind (V5 c) fun a=>
 cond (a !=0) (
  some ((C9.mk (A4.mk 0 0) (A4.mk 0 0) (A4.mk 0 0)),a))<|
 Option.bind (B5a c.Al d) fun b=>
 some (b.1,b.2)
def A7e (c:C3) (d e:Int):Option (Int×Int):=
 Option.bind (V5 c) fun a=>
 cond (a !=0) (
  some (0,a))<|
 Option.bind (A9s c.Al d e) fun b=>
 some (b.1,b.2)
def B9Q (a:List A8):Int:=
 (a.length:Int)
def B1y (d:List A8) (b a:Int):Option ((Int×Int)⊕(Int×Bool)):=
 cond (decide (a<(d.length:Int))) (
  Option.bind (B9 d a) fun c=>
  some (.inl ((A0t b c.V),(A1 (a+1)))))<|
 Option.map Sum.inr (some (b,true))
def A7R (c:List A8) (b a:Int):Option (Int×Bool):=
 loop (fun (s:(Int×Int))=>B1y c s.1 s.2) (b,a)
def A4I (b:List A8):Option (Int×Bool):=
 cond ((b.length:Int)==(0:Int)) (
  some (0,false))<|
 Option.bind (B9 b 0) fun a=>
 A7R b a.V 0
def B4H (d:List A8) (b a:Int):Option ((Int×Int)⊕(Int×Bool)):=
 cond (decide (a<(d.length:Int))) (
  Option.bind (B9 d a) fun c=>
  some (.inl ((A4M b c.V),(A1 (a+1)))))<|
 Option.map Sum.inr (some (b,true))
def B0A (c:List A8) (b a:Int):Option (Int×Bool):=
 loop (fun (s:(Int×Int))=>B4H c s.1 s.2) (b,a)
def A76 (b:List A8):Option (Int×Bool):=
 cond ((b.length:Int)==(0:Int)) (
  some (0,false))<|
 Option.bind (B9 b 0) fun a=>
 B0A b a.V 0
def A3S (g:List A8) (a:Int) (b:List Int) (c:Int):Option (((List Int)×Int)⊕(Int×Bool)):=
 cond (decide (c<(g.length:Int))) (
  Option.bind (B9 g c) fun d=>
  ck (decide ((b.length+ [d.V].length)*8<=140737488355328))<|
  some (.inl ((b++ [d.V]),(A1 (c+1)))))<|
 Option.map Sum.inr (ck (decide (b.length<4611686018427387904))<|
 Option.bind (B9 (A14 b) (A1 ((A0t (A1 a) (1:Int))-(1:Int)))) fun f=>
 Option.bind (B9 (A14 b) (A1 ((A0t (A1 a) (1:Int))-(1:Int)))) fun e=>
 some (e,true))
def B2w (d:List A8) (a:Int) (b:List Int) (c:Int):Option (Int×Bool):=
 loop (fun (s:((List Int)×Int))=>A3S d a s.1 s.2) (b,c)
def A0L (b:List A8) (a:Int):Option (Int×Bool):=
 B2w b a ([]:List Int) 0
def A4J (d:List A8) (e f:Int):Option (Int×Bool):=
 cond (((((d.length:Int)==(0:Int))||(decide (f<1)))||(decide (e<0)))||(decide (e>f))) (
  some (0,false))<|
 let b:=(Q3 (A5 e) (A5 (d.length:Int)));
 let c:=(K5 (A5 f));
 Option.bind (A3i b c) fun a=>
 cond (!(a.2.1.Hi==0&&(a.2.1.Lo==0&&true))) (
  A0L d (A5 (a.1.Lo+1)))<|
 A0L d a.1.Lo
def B0B (d:List A8) (e b a:Int):Option ((Int×Int)⊕Int):=
 cond (decide (a<(d.length:Int))) (
  Option.bind (B9 d a) fun c=>
  cond (decide (c.V<=e)) (
   some (.inl ((A1 (b+1)),(A1 (a+1)))))<|
  some (.inl (b,(A1 (a+1)))))<|
 Option.map Sum.inr (some b)
def B7i (c:List A8) (d b a:Int):Option Int:=
 loop (fun (s:(Int×Int))=>B0B c d s.1 s.2) (b,a)
def B2K (a:List A8) (b:Int):Option Int:=
 B7i a b 0 0
def A6J (b:Int):Option Int:=
 Option.bind (Y0 b) fun a=>
 some (A1 (64-a))
def A1G (f d e a b c:Int):Option (Int×Int):=
 ck (decide (0<=(A5 a)))<|
 some ((A5 ((A5 (b*4294967296))+c)),(G0 .u64 (A5 ((A5 ((A5 ((A5 ((A5 ((A5 ((N8 .u64 (E5 .u64 f (A5 a)) (G0 .u64 d (A5 (64-(A5 a)))))*4294967296))+(G0 .u64 (E5 .u64 d (A5 a)) 32)))-(A5 (b*(E5 .u64 e (A5 a))))))*4294967296))+(P7 .u64 (E5 .u64 d (A5 a)) 4294967295)))-(A5 (c*(E5 .u64 e (A5 a)))))) (A5 a)))
def A2G (g f e b d c a:Int):Option ((Int×Int)⊕(Int×Int)):=
 cond ((decide (a>=4294967296))||(decide ((A5 (a*(P7 .u64 (E5 .u64 e (A5 b)) 4294967295)))>(A5 ((A5 (4294967296*c))+(P7 .u64 (E5 .u64 f (A5 b)) 4294967295)))))) (
  cond (decide ((A5 (c+(G0 .u64 (E5 .u64 e (A5 b)) (32:Int))))>=(4294967296:Int))) (
   Option.map Sum.inr (A1G g f e b d (A5 (a-1))))<|
  some (.inl ((A5 (c+(G0 .u64 (E5 .u64 e (A5 b)) 32))),(A5 (a-1)))))<|
 Option.map Sum.inr (A1G g f e b d a)
def A5R (e f g d c a b:Int):Option (Int×Int):=
 loop (fun (s:(Int×Int))=>A2G e f g d c s.1 s.2) (a,b)
def A1F (e d c a b:Int):Option (Int×Int):=
 ck (decide ((G0 .u64 (E5 .u64 c (A5 a)) (32:Int))≠0))<|
 A5R e d c a b (A5 ((A5 ((A5 ((A5 ((N8 .u64 (E5 .u64 e (A5 a)) (G0 .u64 d (A5 (64-(A5 a)))))*4294967296))+(G0 .u64 (E5 .u64 d (A5 a)) 32)))-(A5 (b*(E5 .u64 c (A5 a))))))-(A5 ((A5 (Int.tdiv (A5 ((A5 ((A5 ((N8 .u64 (E5 .u64 e (A5 a)) (G0 .u64 d (A5 (64-(A5 a)))))*4294967296))+(G0 .u64 (E5 .u64 d (A5 a)) 32)))-(A5 (b*(E5 .u64 c (A5 a)))))) (G0 .u64 (E5 .u64 c (A5 a)) 32)))*(G0 .u64 (E5 .u64 c (A5 a)) 32))))) (A5 (Int.tdiv (A5 ((A5 ((A5 ((N8 .u64 (E5 .u64 e (A5 a)) (G0 .u64 d (A5 (64-(A5 a)))))*4294967296))+(G0 .u64 (E5 .u64 d (A5 a)) 32)))-(A5 (b*(E5 .u64 c (A5 a)))))) (G0 .u64 (E5 .u64 c (A5 a)) 32)))
def A3m (f e d b a c:Int):Option ((Int×Int)⊕(Int×Int)):=
 cond ((decide (a>=4294967296))||(decide ((A5 (a*(P7 .u64 (E5 .u64 d (A5 b)) 4294967295)))>(A5 ((A5 (4294967296*c))+(G0 .u64 (E5 .u64 e (A5 b)) 32)))))) (
  cond (decide ((A5 (c+(G0 .u64 (E5 .u64 d (A5 b)) (32:Int))))>=(4294967296:Int))) (
   Option.map Sum.inr (A1F f e d b (A5 (a-1))))<|
  some (.inl ((A5 (a-1)),(A5 (c+(G0 .u64 (E5 .u64 d (A5 b)) 32))))))<|
 Option.map Sum.inr (A1F f e d b a)
def A6I (d e f c a b:Int):Option (Int×Int):=
 loop (fun (s:(Int×Int))=>A3m d e f c s.1 s.2) (a,b)
def A11 (c d b:Int):Option (Int×Int):=
 cond (b==0) (
  none)<|
 cond (decide (b<=c)) (
  none)<|
 cond (c==0) (
  ck (decide (b≠0))<|
  ck (decide (b≠0))<|
  some ((A5 (Int.tdiv d b)),(Int.tmod d b)))<|
 Option.bind (A6J b) fun a=>
 ck (decide (0<=(A5 a)))<|
 ck (decide (0<=(A5 a)))<|
 ck (decide (0<=(A5 (64-(A5 a)))))<|
 ck (decide (0<=(A5 a)))<|
 ck (decide ((G0 .u64 (E5 .u64 b (A5 a)) (32:Int))≠0))<|
 A6I c d b a (A5 (Int.tdiv (N8 .u64 (E5 .u64 c (A5 a)) (G0 .u64 d (A5 (64-(A5 a))))) (G0 .u64 (E5 .u64 b (A5 a)) 32))) (A5 ((N8 .u64 (E5 .u64 c (A5 a)) (G0 .u64 d (A5 (64-(A5 a)))))-(A5 ((A5 (Int.tdiv (N8 .u64 (E5 .u64 c (A5 a)) (G0 .u64 d (A5 (64-(A5 a))))) (G0 .u64 (E5 .u64 b (A5 a)) 32)))*(G0 .u64 (E5 .u64 b (A5 a)) 32)))))
def A0x (l g e a b c d:Int):Option ((Int×Int×Int×Int×Int×Int)⊕(H5×Int)):=
 cond (decide (e>=0)) (
  Option.bind (B9 [a,b,c,d] e) fun k=>
  Option.bind (B9 [a,b,c,d] e) fun h=>
  Option.bind (A11 g h l) fun f=>
  Option.bind (B9 [a,b,c,d] e) fun i=>
  Option.bind (B9 [a,b,c,d] e) fun j=>
  some (.inl (f.2,(A1 (e-1)),(if (e).toNat=0 then f.1 else a),(if (e).toNat=1 then f.1 else b),(if (e).toNat=2 then f.1 else c),(if (e).toNat=3 then f.1 else d))))<|
 Option.map Sum.inr (some ((H5.mk a b c d),g))
def B9R (g e f a b c d:Int):Option (H5×Int):=
 loop (fun (s:(Int×Int×Int×Int×Int×Int))=>A0x g s.1 s.2.1 s.2.2.1 s.2.2.2.1 s.2.2.2.2.1 s.2.2.2.2.2) (e,f,a,b,c,d)
def B3H (a:H5) (b:Int):Option (H5×Int):=
 B9R b 0 3 a.e0 a.e1 a.e2 a.e3
def V9 (n:H5) (g e a b c d:Int):Option ((Int×Int×Int×Int×Int×Int)⊕H5):=
 cond (decide (e<4)) (
  Option.bind (B9 [a,b,c,d] e) fun l=>
  Option.bind (B9 [a,b,c,d] e) fun h=>
  Option.bind (B9 [n.e0,n.e1,n.e2,n.e3] e) fun m=>
  Option.bind (B9 [n.e0,n.e1,n.e2,n.e3] e) fun i=>
  Option.bind (P9 h i g) fun f=>
  Option.bind (B9 [a,b,c,d] e) fun j=>
  Option.bind (B9 [a,b,c,d] e) fun k=>
  some (.inl (f.2,(A1 (e+1)),(if (e).toNat=0 then f.1 else a),(if (e).toNat=1 then f.1 else b),(if (e).toNat=2 then f.1 else c),(if (e).toNat=3 then f.1 else d))))<|
 Option.map Sum.inr (some (H5.mk a b c d))
def B5V (g:H5) (e f a b c d:Int):Option H5:=
 loop (fun (s:(Int×Int×Int×Int×Int×Int))=>V9 g s.1 s.2.1 s.2.2.1 s.2.2.2.1 s.2.2.2.2.1 s.2.2.2.2.2) (e,f,a,b,c,d)
def A77 (a b:H5):Option H5:=
 B5V b 0 0 a.e0 a.e1 a.e2 a.e3
def A0y (h g a b c d e:Int):Option ((Int×Int×Int×Int×Int×Int×Int)⊕H5):=
 cond (decide (a<4)) (
  Option.bind (B9 [b,c,d,e] a) fun l=>
  Option.bind (B9 [b,c,d,e] a) fun i=>
  Option.bind (N9 i h g) fun f=>
  Option.bind (B9 [b,c,d,e] a) fun j=>
  Option.bind (B9 [b,c,d,e] a) fun k=>
  some (.inl (0,f.2,(A1 (a+1)),(if (a).toNat=0 then f.1 else b),(if (a).toNat=1 then f.1 else c),(if (a).toNat=2 then f.1 else d),(if (a).toNat=3 then f.1 else e))))<|
 Option.map Sum.inr (some (H5.mk b c d e))
def A5Q (g e f a b c d:Int):Option H5:=
 loop (fun (s:(Int×Int×Int×Int×Int×Int×Int))=>A0y s.1 s.2.1 s.2.2.1 s.2.2.2.1 s.2.2.2.2.1 s.2.2.2.2.2.1 s.2.2.2.2.2.2) (g,e,f,a,b,c,d)
def J2 (g:H5) (i j h:Int):Option H5:=
 let b:=(Y1 i j);
 Option.bind (B9 [g.e0,g.e1,g.e2,g.e3] h) fun f=>
 Option.bind (B9 [g.e0,g.e1,g.e2,g.e3] h) fun c=>
 Option.bind (N9 c b.2 0) fun a=>
 Option.bind (B9 [g.e0,g.e1,g.e2,g.e3] h) fun d=>
 Option.bind (B9 [g.e0,g.e1,g.e2,g.e3] h) fun e=>
 A5Q b.1 a.2 (A1 (h+1)) (if (h).toNat=0 then a.1 else g.e0) (if (h).toNat=1 then a.1 else g.e1) (if (h).toNat=2 then a.1 else g.e2) (if (h).toNat=3 then a.1 else g.e3)
def A0z (a:Int):Int:=
 cond (decide (a<0)) (
  (IntKind.u64.wrap (0-(A5 a))))<|
 (A5 a)
def B4g (c d:A2):Option (A2×Bool):=
 Option.bind (P9 c.Lo d.Lo 0) fun a=>
 Option.bind (P9 c.Hi d.Hi a.2) fun b=>
 cond (b.2 !=0) (
  some ((A2.mk 0 0),false))<|
 some ((A2.mk b.1 a.1),true)
def A9A (p:List A8) (e a b c d:Int):Option ((Int×Int×Int×Int×Int)⊕(Bool×A2)):=
 cond (decide (e<(p.length:Int))) (
  Option.bind (B9 p e) fun f=>
  cond (decide (f.V<0)) (
   let k:=(A0z f.V);
   let l:=(K5 k);
   Option.bind (A5v (A2.mk c d) l) fun g=>
   some (.inl ((A1 (e+1)),a,b,g.1.Hi,g.1.Lo)))<|
  let m:=(A0z f.V);
  let n:=(K5 m);
  Option.bind (A5v (A2.mk a b) n) fun h=>
  some (.inl ((A1 (e+1)),h.1.Hi,h.1.Lo,c,d)))<|
 Option.map Sum.inr (let o:=(R8 (A2.mk a b) (A2.mk c d));
 cond (decide (o>=0)) (
  Option.bind (B4g (A2.mk a b) (A2.mk c d)) fun i=>
  some (false,i.1))<|
 Option.bind (B4g (A2.mk c d) (A2.mk a b)) fun j=>
 some (true,j.1))
def B5W (f:List A8) (e a b c d:Int):Option (Bool×A2):=
 loop (fun (s:(Int×Int×Int×Int×Int))=>A9A f s.1 s.2.1 s.2.2.1 s.2.2.2.1 s.2.2.2.2) (e,a,b,c,d)
def A5I (a:List A8):Option (Bool×A2):=
 B5W a 0 0 0 0 0
def B5i (b a:Int):Option ((Int×Int)⊕Int):=
 cond (a !=0) (
  ck (decide (a≠0))<|
  some (.inl (a,(Int.tmod b a))))<|
 Option.map Sum.inr (some b)
def C1y (a b:Int):Option Int:=
 loop (fun (s:(Int×Int))=>B5i s.1 s.2) (a,b)
def B9h (a b:Int):Option Int:=
 cond ((decide (a<0))||(decide (b<0))) (
  some 0)<|
 C1y a b
def U1 (v:List A8) (d e f g b h i j k:Int):Option ((Int×Int×Int×Int×Int)⊕(A4×Bool)):=
 cond (decide (b<3)) (
  Option.bind (B9 [d,e,f,g] b) fun u=>
  Option.bind (B9 [d,e,f,g] b) fun o=>
  Option.bind (J2 (H5.mk h i j k) o (A5 (v.length:Int)) b) fun l=>
  some (.inl ((A1 (b+1)),l.e0,l.e1,l.e2,l.e3)))<|
 Option.map Sum.inr (Option.bind (A5I v) fun a=>
 Option.bind (J2 (H5.mk 0 0 0 0) a.2.Lo a.2.Lo 0) fun p=>
 Option.bind (J2 p a.2.Lo a.2.Hi 1) fun q=>
 Option.bind (J2 q a.2.Lo a.2.Hi 1) fun r=>
 Option.bind (J2 r a.2.Hi a.2.Hi 2) fun s=>
 Option.bind (A77 (H5.mk h i j k) s) fun n=>
 Option.bind (B3H n (A5 (v.length:Int))) fun t=>
 Option.bind (B9h (A1 (A5 (v.length:Int))) (A1 t.2)) fun m=>
 Option.bind (B3H n (A5 m)) fun c=>
 cond (((N8 .u64 (N8 .u64 c.1.e1 c.1.e2) c.1.e3) !=0)||(decide (c.1.e0>=9223372036854775808))) (
  some ((A4.mk 0 0),false))<|
 ck (decide ((A5 m)≠0))<|
 some ((A4.mk (A1 c.1.e0) (A1 (A5 (Int.tdiv (A5 (v.length:Int)) (A5 m))))),true))
def A9z (j:List A8) (a b c d i e f g h:Int):Option (A4×Bool):=
 loop (fun (s:(Int×Int×Int×Int×Int))=>U1 j a b c d s.1 s.2.1 s.2.2.1 s.2.2.2.1 s.2.2.2.2) (i,e,f,g,h)
def A8S (j:List A8) (e a b c d:Int):Option ((Int×Int×Int×Int×Int)⊕(A4×Bool)):=
 cond (decide (e<(j.length:Int))) (
  Option.bind (B9 j e) fun g=>
  let h:=(A0z g.V);
  let i:=(A0z g.V);
  Option.bind (J2 (H5.mk a b c d) h i 0) fun f=>
  some (.inl ((A1 (e+1)),f.e0,f.e1,f.e2,f.e3)))<|
 Option.map Sum.inr (A9z j a b c d 0 0 0 0 0)
def B4I (f:List A8) (e a b c d:Int):Option (A4×Bool):=
 loop (fun (s:(Int×Int×Int×Int×Int))=>A8S f s.1 s.2.1 s.2.2.1 s.2.2.2.1 s.2.2.2.2) (e,a,b,c,d)
def A9y (a:List A8):Option (A4×Bool):=
 cond ((A5 (a.length:Int))==(0:Int)) (
  some ((A4.mk 0 1),true))<|
 B4I a 0 0 0 0 0
def B9g (a b:Int):(Int×Bool):=
 cond (((decide (a>=0))==(decide (b>=0)))&&(!((decide ((A1 (a+b))>=0))==(decide (a>=0))))) (
  (0,false))<|
 ((A1 (a+b)),true)
def B0E (a:Int):Int:=
 cond (decide (a<0)) (
  (IntKind.u64.wrap (0-(A5 a))))<|
 (A5 a)
def B6F (c d:Int) (a:Int×Int) (b:Int):(Int×Bool):=
 cond ((a.1 !=0)||(decide (a.2>b))) (
  (0,false))<|
 cond (!((decide (c<0))==(decide (d<0)))) (
  ((A1 (IntKind.u64.wrap (0-a.2))),true))<|
 ((A1 a.2),true)
def B9i (d e:Int):(Int×Bool):=
 let b:=(B0E d);
 let c:=(B0E e);
 let a:=(Y1 b c);
 cond (!((decide (d<0))==(decide (e<0)))) (
  B6F d e a (A5 ((9223372036854775807:Int)+(1:Int))))<|
 B6F d e a 9223372036854775807
def A7S (f:List A8) (b a:Int):Option ((Int×Int)⊕(Int×Bool)):=
 cond (decide (a<(f.length:Int))) (
  Option.bind (B9 f a) fun c=>
  let d:=(B9i c.V c.V);
  cond (!d.2) (
   some (.inr (0,false)))<|
  let e:=(B9g b d.1);
  cond (!e.2) (
   some (.inr (0,false)))<|
  some (.inl (e.1,(A1 (a+1)))))<|
 Option.map Sum.inr (some (b,true))
def B3G (c:List A8) (b a:Int):Option (Int×Bool):=
 loop (fun (s:(Int×Int))=>A7S c s.1 s.2) (b,a)
def A8s (a:List A8):Option (Int×Bool):=
 B3G a 0 0
def B4J (b:List A8):Option (Int×Bool):=
 Option.bind (A5I b) fun a=>
 cond (((a.2.Hi !=0)||(decide (a.2.Lo>9223372036854775808)))||((a.2.Lo==9223372036854775808)&&(!a.1))) (
  some (0,false))<|
 cond a.1 (
  some ((A1 (IntKind.u64.wrap (0-a.2.Lo))),true))<|
 some ((A1 a.2.Lo),true)
def A2b (a:Int):Option (E3×Int):=
 let b:=(A1m a);
 Option.bind (R5 b) fun c=>
 some ((E3.mk c ([]:List Int) (D7.mk (A2.mk 0 0) (A2.mk 0 0))),0)
def B2U (l:D0) (k:L9):Option (E3×Int):=
 Option.bind (Y2 l) fun b=>
 cond (b !=0) (
  some ((E3.mk (C9.mk (A4.mk 0 0) (A4.mk 0 0) (A4.mk 0 0)) ([]:List Int) (D7.mk (A2.mk 0 0) (A2.mk 0 0))),b))<|
 Option.bind (A76 l.Bc) fun c=>
 Option.bind (A4I l.Bc) fun d=>
 cond (k.Op==1) (
  let e:=(B9Q l.Bc);
  A2b e)<|
 cond (k.Op==2) (
  Option.bind (B4J l.Bc) fun f=>
  A2b f.1)<|
 cond (k.Op==3) (
  Option.bind (A8s l.Bc) fun g=>
  A2b g.1)<|
 cond (k.Op==4) (
  A2b (A1 (d.1-c.1)))<|
 cond (k.Op==5) (
  Option.bind (A9y l.Bc) fun h=>
  Option.bind (R5 h.1) fun i=>
  some ((E3.mk i ([]:List Int) (D7.mk (A2.mk 0 0) (A2.mk 0 0))),0))<|
 cond (k.Op==6) (
  cond ((l.Bc.length:Int)==(0:Int)) (
   some ((E3.mk (C9.mk (A4.mk 0 0) (A4.mk 0 0) (A4.mk 0 0)) ([]:List Int) (D7.mk (A2.mk 0 0) (A2.mk 0 0))),7))<|
  some ((E3.mk (C9.mk (A4.mk 0 0) (A4.mk 0 0) (A4.mk 0 0)) [c.1,d.1] (D7.mk (A2.mk 0 0) (A2.mk 0 0))),0))<|
 cond (k.Op==7) (
  Option.bind (B2K l.Bc k.A) fun j=>
  A2b j)<|
 cond (k.Op==8) (
  cond (((decide (k.B<1))||(decide (k.A<0)))||(decide (k.A>k.B))) (
   some ((E3.mk (C9.mk (A4.mk 0 0) (A4.mk 0 0) (A4.mk 0 0)) ([]:List Int) (D7.mk (A2.mk 0 0) (A2.mk 0 0))),1))<|
  Option.bind (A4J l.Bc k.A k.B) fun a=>
  cond (!a.2) (
   some ((E3.mk (C9.mk (A4.mk 0 0) (A4.mk 0 0) (A4.mk 0 0)) ([]:List Int) (D7.mk (A2.mk 0 0) (A2.mk 0 0))),7))<|
  some ((E3.mk (C9.mk (A4.mk 0 0) (A4.mk 0 0) (A4.mk 0 0)) [a.1] (D7.mk (A2.mk 0 0) (A2.mk 0 0))),0))<|
 some ((E3.mk (C9.mk (A4.mk 0 0) (A4.mk 0 0) (A4.mk 0 0)) ([]:List Int) (D7.mk (A2.mk 0 0) (A2.mk 0 0))),12)
def B0N (e:E7) (c:List Int) (a:Int):Option (((List Int)×Int)⊕((List Int)×Int)):=
 cond (decide (a<(e.Ao.length:Int))) (
  Option.bind (B9 e.Ao a) fun d=>
  Option.bind (B4E d) fun b=>
  cond (b.2 !=0) (
   some (.inr ([],b.2)))<|
  ck (decide ((c.length+ [b.1].length)*8<=140737488355328))<|
  some (.inl ((c++ [b.1]),(A1 (a+1)))))<|
 Option.map Sum.inr (some (c,0))
def B7x (c:E7) (b:List Int) (a:Int):Option ((List Int)×Int):=
 loop (fun (s:((List Int)×Int))=>B0N c s.1 s.2) (b,a)
def B3f (b:E7):Option ((List Int)×Int):=
 Option.bind (Q0 b) fun a=>
 cond (a !=0) (
  some ([],a))<|
 B7x b ([]:List Int) 0
def B3h (p:D2):Option (C9×Int):=
 Option.bind (A0F p) fun c=>
 cond (c !=0) (
  some ((C9.mk (A4.mk 0 0) (A4.mk 0 0) (A4.mk 0 0)),c))<|
 cond ((p.Bg.length:Int)==(0:Int)) (
  let j:=(A1m 0);
  Option.bind (R5 j) fun k=>
  some (k,0))<|
 Option.bind (B9 p.Bg 0) fun a=>
 let l:=(Q4 p.Now p.W a.T);
 cond l (
  let m:=(A0l a p.Bp);
  let n:=(A1m m);
  Option.bind (R5 n) fun o=>
  some (o,0))<|
 Option.bind (B9 p.Bg 1) fun b=>
 cond (b.Bx==(A1 (a.Bx+1))) (
  let d:=(A0l b p.Bp);
  let e:=(A1m d);
  Option.bind (R5 e) fun f=>
  some (f,0))<|
 let g:=(A0l b p.Bp);
 let h:=(A0l a p.Bp);
 let i:=(A4z g h);
 some (i.1,0)
def B17 (d:Bool) (e f:A2):Option (A4×Bool):=
 Option.bind (A6Z e f) fun c=>
 Option.bind (A3i e c) fun a=>
 Option.bind (A3i f c) fun b=>
 cond (((((a.1.Hi !=0)||(b.1.Hi !=0))||(decide (b.1.Lo>=9223372036854775808)))||(decide (a.1.Lo>9223372036854775808)))||((a.1.Lo==9223372036854775808)&&(!d))) (
  some ((A4.mk 0 0),false))<|
 cond d (
  some ((A4.mk (A1 (IntKind.u64.wrap (0-a.1.Lo))) (A1 b.1.Lo)),true))<|
 some ((A4.mk (A1 a.1.Lo) (A1 b.1.Lo)),true)
def B2T (g f:Int):Option (A4×Bool):=
 cond (f==0) (
  some ((A4.mk 0 0),false))<|
 let c:=(A1y g);
 let d:=(K5 c);
 let e:=(A1y f);
 let b:=(K5 e);
 Option.bind (B17 (!((decide (g<0))==(decide (f<0)))) d b) fun a=>
 some (a.1,a.2)
def A9i (d:A6):Option (A4×Bool):=
 let b:=(A4X d);
 cond (!b) (
  some ((A4.mk 0 0),false))<|
 let c:=(A7A d);
 Option.bind (B2T c d.N) fun a=>
 some (a.1,a.2)
def B3k (k:D5):Option (C9×Int):=
 Option.bind (A0G k) fun d=>
 cond (d !=0) (
  some ((C9.mk (A4.mk 0 0) (A4.mk 0 0) (A4.mk 0 0)),d))<|
 cond ((k.Bg.length:Int)==(0:Int)) (
  let g:=(A1m 0);
  Option.bind (R5 g) fun h=>
  some (h,0))<|
 Option.bind (B9 k.Bg 0) fun b=>
 Option.bind (A9i b) fun e=>
 let i:=(Q4 k.Now k.W b.T);
 cond i (
  Option.bind (R5 e.1) fun j=>
  some (j,0))<|
 Option.bind (B9 k.Bg 1) fun c=>
 Option.bind (A9i c) fun a=>
 cond (c.Bx==(A1 (b.Bx+1))) (
  Option.bind (R5 a.1) fun f=>
  some (f,0))<|
 some ((C9.mk a.1 a.1 e.1),0)
def B9p (c:F3):Option (C9×Int):=
 Option.bind (A3d c) fun a=>
 cond (a !=0) (
  some ((C9.mk (A4.mk 0 0) (A4.mk 0 0) (A4.mk 0 0)),a))<|
 Option.bind (A16 c.Ad) fun b=>
 some (b,0)
def B0p (e:C1) (d:List B2) (b c:Int):Option (((List B2)×Int×Int)⊕(List B2)):=
 cond (decide (c<(e.Aw.length:Int))) (
  Option.bind (B9 e.Aw c) fun a=>
  ck (decide ((d.length+ [(B2.mk a.V (A1 (b+a.G)) (A1 ((A1 (b+a.G))+a.D)))].length)*24<=140737488355328))<|
  some (.inl ((d++ [(B2.mk a.V (A1 (b+a.G)) (A1 ((A1 (b+a.G))+a.D)))]),(A1 (b+a.G)),(A1 (c+1)))))<|
 Option.map Sum.inr (some d)
def B1N (d:C1) (b:List B2) (c a:Int):Option (List B2):=
 loop (fun (s:((List B2)×Int×Int))=>B0p d s.1 s.2.1 s.2.2) (b,c,a)
def A31 (a:C1):Option (List B2):=
 B1N a ([]:List B2) 0 0
def B0Q (d e f:Int):Option Int:=
 let b:=(Q3 (A5 e) (A5 d));
 let c:=(K5 (A5 f));
 Option.bind (A3i b c) fun a=>
 cond (!(a.2.1.Hi==0&&(a.2.1.Lo==0&&true))) (
  some (A0t 1 (A1 (A5 (a.1.Lo+1)))))<|
 some (A0t 1 (A1 a.1.Lo))
def A97 (c:Int) (e:List B2) (d f b:Int):Option ((Int×Int×Int)⊕(Int×Int)):=
 cond (decide (b<(e.length:Int))) (
  Option.bind (B9 e b) fun a=>
  cond ((decide (d<0))||(decide ((A0t (A1 (c-a.Bv)) (A1 (a.Bu-c)))<d))) (
   some (.inl ((A0t (A1 (c-a.Bv)) (A1 (a.Bu-c))),a.V,(A1 (b+1)))))<|
  some (.inl (d,f,(A1 (b+1)))))<|
 Option.map Sum.inr (some (f,0))
def A52 (e:Int) (a:List B2) (b c d:Int):Option (Int×Int):=
 loop (fun (s:(Int×Int×Int))=>A97 e a s.1 s.2.1 s.2.2) (b,c,d)
def A5r (d:C1) (e f:Int):Option (Int×Int):=
 Option.bind (A0h d) fun a=>
 cond (a !=0) (
  some (0,a))<|
 cond (((decide (f<1))||(decide (e<0)))||(decide (e>f))) (
  some (0,1))<|
 cond (d.N==0) (
  some (0,7))<|
 Option.bind (B0Q d.N e f) fun c=>
 Option.bind (A31 d) fun b=>
 A52 c b (-1:Int) 0 0
def A99 (b c:Int):Option (C9×Int):=
 let a:=(A4z b c);
 some (a.1,0)
def B36 (e:C1) (f:Int) (c:List B2) (d a:Int):Option ((Int×Int)⊕(C9×Int)):=
 cond (decide (a<(c.length:Int))) (
  Option.bind (B9 c a) fun b=>
  cond (decide (b.V>f)) (
   Option.map Sum.inr (A99 d (A1 (b.Bu-1))))<|
  some (.inl (b.Bv,(A1 (a+1)))))<|
 Option.map Sum.inr (A99 d e.N)
def B0a (d:C1) (e:Int) (b:List B2) (c a:Int):Option (C9×Int):=
 loop (fun (s:(Int×Int))=>B36 d e b s.1 s.2) (c,a)
def A98 (c:C1) (d:Int):Option (C9×Int):=
 Option.bind (A0h c) fun a=>
 cond (a !=0) (
  some ((C9.mk (A4.mk 0 0) (A4.mk 0 0) (A4.mk 0 0)),a))<|
 Option.bind (A31 c) fun b=>
 B0a c d b 0 0
def O0 (b c:Int) (d:Bool) (a:E3):Option (E3×Int):=
 cond (b !=0) (
  some ((E3.mk (C9.mk (A4.mk 0 0) (A4.mk 0 0) (A4.mk 0 0)) ([]:List Int) (D7.mk (A2.mk 0 0) (A2.mk 0 0))),b))<|
 cond d (
  some ((E3.mk a.Am [c] a.Aa),0))<|
 some (a,0)
def A0H (p:A9) (q:L9):Option (E3×Int):=
 Option.bind (N2 p) fun c=>
 cond (c !=0) (
  some ((E3.mk (C9.mk (A4.mk 0 0) (A4.mk 0 0) (A4.mk 0 0)) ([]:List Int) (D7.mk (A2.mk 0 0) (A2.mk 0 0))),c))<|
 let o:=(A2Z p.Ap q.Op);
 cond (!o) (
  some ((E3.mk (C9.mk (A4.mk 0 0) (A4.mk 0 0) (A4.mk 0 0)) ([]:List Int) (D7.mk (A2.mk 0 0) (A2.mk 0 0))),12))<|
 cond (p.Ap.Bj==1) (
  Option.bind (B2U p.Ar q) fun d=>
  some (d.1,d.2))<|
 cond (p.Ap.Bj==2) (
  Option.bind (A6y p.Az) fun e=>
  O0 e.2 0 false (E3.mk e.1 ([]:List Int) (D7.mk (A2.mk 0 0) (A2.mk 0 0))))<|
 cond (p.Ap.Bj==3) (
  Option.bind (B9p p.Sum) fun f=>
  O0 f.2 0 false (E3.mk f.1 ([]:List Int) (D7.mk (A2.mk 0 0) (A2.mk 0 0))))<|
 cond (p.Ap.Bj==4) (
  Option.bind (B3h p.Au) fun g=>
  O0 g.2 0 false (E3.mk g.1 ([]:List Int) (D7.mk (A2.mk 0 0) (A2.mk 0 0))))<|
 cond (p.Ap.Bj==5) (
  Option.bind (B3k p.Av) fun h=>
  O0 h.2 0 false (E3.mk h.1 ([]:List Int) (D7.mk (A2.mk 0 0) (A2.mk 0 0))))<|
 cond (p.Ap.Bj==6) (
  Option.bind (B6J p.Bn) fun i=>
  O0 i.2 0 false (E3.mk (C9.mk (A4.mk 0 0) (A4.mk 0 0) (A4.mk 0 0)) ([]:List Int) i.1))<|
 cond (p.Ap.Bj==7) (
  Option.bind (B4M p.Bb) fun j=>
  O0 j.2 0 false (E3.mk (C9.mk (A4.mk 0 0) (A4.mk 0 0) (A4.mk 0 0)) ([]:List Int) j.1))<|
 cond (p.Ap.Bj==8) (
  Option.bind (B08 p.Af) fun k=>
  O0 k.2 k.1 true (E3.mk (C9.mk (A4.mk 0 0) (A4.mk 0 0) (A4.mk 0 0)) ([]:List Int) (D7.mk (A2.mk 0 0) (A2.mk 0 0))))<|
 cond (p.Ap.Bj==9) (
  Option.bind (B3f p.As) fun l=>
  O0 l.2 0 false (E3.mk (C9.mk (A4.mk 0 0) (A4.mk 0 0) (A4.mk 0 0)) l.1 (D7.mk (A2.mk 0 0) (A2.mk 0 0))))<|
 cond (p.Ap.Bj==10) (
  cond (q.Op==7) (
   Option.bind (A98 p.Aj q.A) fun a=>
   cond (a.2 !=0) (
    some ((E3.mk (C9.mk (A4.mk 0 0) (A4.mk 0 0) (A4.mk 0 0)) ([]:List Int) (D7.mk (A2.mk 0 0) (A2.mk 0 0))),a.2))<|
   some ((E3.mk a.1 ([]:List Int) (D7.mk (A2.mk 0 0) (A2.mk 0 0))),0))<|
  Option.bind (A5r p.Aj q.A q.B) fun m=>
  O0 m.2 m.1 true (E3.mk (C9.mk (A4.mk 0 0) (A4.mk 0 0) (A4.mk 0 0)) ([]:List Int) (D7.mk (A2.mk 0 0) (A2.mk 0 0))))<|
 cond (p.Ap.Bj==11) (
  cond (q.Op==7) (
   Option.bind (A8x p.Ab q.A) fun b=>
   cond (b.2 !=0) (
    some ((E3.mk (C9.mk (A4.mk 0 0) (A4.mk 0 0) (A4.mk 0 0)) ([]:List Int) (D7.mk (A2.mk 0 0) (A2.mk 0 0))),b.2))<|
   some ((E3.mk b.1 ([]:List Int) (D7.mk (A2.mk 0 0) (A2.mk 0 0))),0))<|
  Option.bind (A7e p.Ab q.A q.B) fun n=>
  O0 n.2 n.1 true (E3.mk (C9.mk (A4.mk 0 0) (A4.mk 0 0) (A4.mk 0 0)) ([]:List Int) (D7.mk (A2.mk 0 0) (A2.mk 0 0))))<|
 O0 c 0 false (E3.mk (C9.mk (A4.mk 0 0) (A4.mk 0 0) (A4.mk 0 0)) ([]:List Int) (D7.mk (A2.mk 0 0) (A2.mk 0 0)))
def A1i (c:D8):Option (Int×D8):=
 Option.bind (A2j c) fun a=>
 cond (!a.2) (
  some (11,c))<|
 Option.bind (A0H a.1 c.command_.Bh) fun b=>
 some (b.2,(D8.mk c.Aq c.command_ (F5.mk c.reply_.Code b.1 c.reply_.Bt c.reply_.Ay)))
def A6g (d:List A7) (f:Int) (e:A7):Option ((List A7)×Int):=
 Option.bind (A1n d f) fun b=>
 Option.bind (gd (!(!b)) (N2 e.Ac)) fun c=>
 cond ((!b)||(c !=0)) (
  some ([],2))<|
 cond ((decide (e.ID<0))||(decide (e.ID>1048576))) (
  some ([],1))<|
 Option.bind (A0Y d e.ID) fun a=>
 cond a.2 (
  some ([],10))<|
 cond ((d.length:Int)==f) (
  some ([],5))<|
 ck (decide (0<=a.1/\a.1<=(d.length:Int)))<|
 ck (decide ((([]:List A7).length+(d.take (a.1).toNat).length)*640<=140737488355328))<|
 ck (decide (((([]:List A7)++(d.take (a.1).toNat)).length+ [e].length)*640<=140737488355328))<|
 ck (decide (0<=a.1/\a.1<=(d.length:Int)))<|
 ck (decide ((((([]:List A7)++(d.take (a.1).toNat))++ [e]).length+(d.drop (a.1).toNat).length)*640<=140737488355328))<|
 some ((((([]:List A7)++(d.take (a.1).toNat))++ [e])++(d.drop (a.1).toNat)),0)
def B09 (e:Bool) (b c d:Int):(C2×Int):=
 let a:=(A6A b c d);
 cond (!a) (
  ((C2.mk false 0 0 0 []),1))<|
 ((C2.mk e b c d []),0)
def B4N (a b:Int):Option (F4×Int):=
 cond ((((decide (a<1))||(decide (a>64)))||(decide (b<0)))||(decide (b>16777216))) (
  some ((F4.mk 0 []),1))<|
 ck (decide (0<=a/\a<=a/\a*8<=140737488355328/\a<=140737488355328))<|
 some ((F4.mk b (List.replicate (a).toNat 0)),0)
def C0F (b c:Int):Option (E2×Int):=
 let a:=(B4S c);
 cond (((decide (b<0))||(decide (b>4)))||(!a)) (
  some ((E2.mk 0 0 0 []),1))<|
 ck (decide (0<=(A1 (b+1))/\(A1 (b+1))<=(A1 (b+1))/\(A1 (b+(1:Int)))*16<=140737488355328/\(A1 (b+(1:Int)))<=140737488355328))<|
 some ((E2.mk b c c (List.replicate ((A1 (b+(1:Int)))).toNat (A2.mk 0 0))),0)
def A9N (b c d e:Int):(C3×Int):=
 let a:=(A0W b c d e);
 cond (!a) (
  ((C3.mk 0 0 0 0 []),1))<|
 ((C3.mk b c d e []),0)
def B2V (b c d:Int):(D0×Int):=
 let a:=(A8b b c d);
 cond (!a) (
  ((D0.mk 0 0 0 []),1))<|
 ((D0.mk b c d []),0)
def A7s (d e f c:Int) (a:List B5):Option ((Int×(List B5))⊕(E7×Int)):=
 cond (decide (c<d)) (
  let b:=(X7 e f);
  cond (b.2 !=0) (
   some (.inr ((E7.mk []),b.2)))<|
  ck (decide ((a.length+ [b.1].length)*56<=140737488355328))<|
  some (.inl ((A1 (c+1)),(a++ [b.1]))))<|
 Option.map Sum.inr (some ((E7.mk a),0))
def B2b (c d e b:Int) (a:List B5):Option (E7×Int):=
 loop (fun (s:(Int×(List B5)))=>A7s c d e s.1 s.2) (b,a)
def B3g (a b c:Int):Option (E7×Int):=
 cond ((decide (a<1))||(decide (a>16))) (
  some ((E7.mk []),1))<|
 B2b a b c 0 ([]:List B5)
def B3i (b c d e f:Int):(D2×Int):=
 let a:=(A1z b c d e f);
 cond (!a) (
  ((D2.mk 0 0 0 0 0 0 []),1))<|
 ((D2.mk b c d e f 0 []),0)
def B3l (b c d e:Int):(D5×Int):=
 let a:=(A7a b c d e);
 cond (!a) (
  ((D5.mk 0 0 0 0 0 []),1))<|
 ((D5.mk b c d e 0 []),0)
def B9q (b c d e f:Int):(F3×Int):=
 let a:=(B0P b c d e f);
 cond (!a) (
  ((F3.mk 0 0 0 0 0 []),1))<|
 ((F3.mk b c d e f []),0)
def B1l (a b:Int):(C1×Int):=
 cond ((((decide (a<1))||(decide (a>64)))||(decide (b<2)))||(decide (b>65536))) (
  ((C1.mk 0 0 0 []),1))<|
 ((C1.mk a b 0 []),0)
def A0c (a:Int):Bool:=
 ((decide (a>=0))&&(decide (a<=16777216)))
def Q1 (n:B7) (m:Int) (i:D0) (a:E4) (b:F3) (c:D2) (d:D5) (e:E2) (j:Int) (k:List Int) (f:C2) (l:List B5) (g:C1) (h:C3):Option (A9×Int):=
 cond (m !=0) (
  some ((A9.mk (B7.mk 0 0 0 0 0 0 0 0) (D0.mk 0 0 0 []) (E4.mk 0 0 0 0 []) (F3.mk 0 0 0 0 0 []) (D2.mk 0 0 0 0 0 0 []) (D5.mk 0 0 0 0 0 []) (E2.mk 0 0 0 []) (F4.mk 0 []) (C2.mk false 0 0 0 []) (E7.mk []) (C1.mk 0 0 0 []) (C3.mk 0 0 0 0 [])),m))<|
 some ((A9.mk n i a b c d e (F4.mk j k) f (E7.mk l) g h),0)
def A3f (n:B7) (o:Int):Option (A9×Int):=
 let l:=(X8 n);
 cond (l !=0) (
  some ((A9.mk (B7.mk 0 0 0 0 0 0 0 0) (D0.mk 0 0 0 []) (E4.mk 0 0 0 0 []) (F3.mk 0 0 0 0 0 []) (D2.mk 0 0 0 0 0 0 []) (D5.mk 0 0 0 0 0 []) (E2.mk 0 0 0 []) (F4.mk 0 []) (C2.mk false 0 0 0 []) (E7.mk []) (C1.mk 0 0 0 []) (C3.mk 0 0 0 0 [])),l))<|
 let m:=(A0c o);
 cond (!m) (
  some ((A9.mk (B7.mk 0 0 0 0 0 0 0 0) (D0.mk 0 0 0 []) (E4.mk 0 0 0 0 []) (F3.mk 0 0 0 0 0 []) (D2.mk 0 0 0 0 0 0 []) (D5.mk 0 0 0 0 0 []) (E2.mk 0 0 0 []) (F4.mk 0 []) (C2.mk false 0 0 0 []) (E7.mk []) (C1.mk 0 0 0 []) (C3.mk 0 0 0 0 [])),1))<|
 cond (n.Bj==1) (
  let b:=(B2V n.W n.Cap o);
  Q1 n b.2 b.1 (E4.mk 0 0 0 0 []) (F3.mk 0 0 0 0 0 []) (D2.mk 0 0 0 0 0 0 []) (D5.mk 0 0 0 0 0 []) (E2.mk 0 0 0 []) 0 ([]:List Int) (C2.mk false 0 0 0 []) ([]:List B5) (C1.mk 0 0 0 []) (C3.mk 0 0 0 0 []))<|
 cond (n.Bj==2) (
  let c:=(B4F n.W n.K n.Cap o);
  Q1 n c.2 (D0.mk 0 0 0 []) c.1 (F3.mk 0 0 0 0 0 []) (D2.mk 0 0 0 0 0 0 []) (D5.mk 0 0 0 0 0 []) (E2.mk 0 0 0 []) 0 ([]:List Int) (C2.mk false 0 0 0 []) ([]:List B5) (C1.mk 0 0 0 []) (C3.mk 0 0 0 0 []))<|
 cond (n.Bj==3) (
  let d:=(B9q n.W n.K n.Cap n.Bu o);
  Q1 n d.2 (D0.mk 0 0 0 []) (E4.mk 0 0 0 0 []) d.1 (D2.mk 0 0 0 0 0 0 []) (D5.mk 0 0 0 0 0 []) (E2.mk 0 0 0 []) 0 ([]:List Int) (C2.mk false 0 0 0 []) ([]:List B5) (C1.mk 0 0 0 []) (C3.mk 0 0 0 0 []))<|
 cond (n.Bj==4) (
  let e:=(B3i n.Bp n.W n.K n.Cap o);
  Q1 n e.2 (D0.mk 0 0 0 []) (E4.mk 0 0 0 0 []) (F3.mk 0 0 0 0 0 []) e.1 (D5.mk 0 0 0 0 0 []) (E2.mk 0 0 0 []) 0 ([]:List Int) (C2.mk false 0 0 0 []) ([]:List B5) (C1.mk 0 0 0 []) (C3.mk 0 0 0 0 []))<|
 cond (n.Bj==5) (
  let f:=(B3l n.W n.K n.Cap o);
  Q1 n f.2 (D0.mk 0 0 0 []) (E4.mk 0 0 0 0 []) (F3.mk 0 0 0 0 0 []) (D2.mk 0 0 0 0 0 0 []) f.1 (E2.mk 0 0 0 []) 0 ([]:List Int) (C2.mk false 0 0 0 []) ([]:List B5) (C1.mk 0 0 0 []) (C3.mk 0 0 0 0 []))<|
 cond (n.Bj==6) (
  Option.bind (C0F n.P o) fun g=>
  Q1 n g.2 (D0.mk 0 0 0 []) (E4.mk 0 0 0 0 []) (F3.mk 0 0 0 0 0 []) (D2.mk 0 0 0 0 0 0 []) (D5.mk 0 0 0 0 0 []) g.1 0 ([]:List Int) (C2.mk false 0 0 0 []) ([]:List B5) (C1.mk 0 0 0 []) (C3.mk 0 0 0 0 []))<|
 cond (n.Bj==7) (
  Option.bind (B4N n.W o) fun a=>
  Q1 n a.2 (D0.mk 0 0 0 []) (E4.mk 0 0 0 0 []) (F3.mk 0 0 0 0 0 []) (D2.mk 0 0 0 0 0 0 []) (D5.mk 0 0 0 0 0 []) (E2.mk 0 0 0 []) a.1.Now a.1.Bo (C2.mk false 0 0 0 []) ([]:List B5) (C1.mk 0 0 0 []) (C3.mk 0 0 0 0 []))<|
 cond (n.Bj==8) (
  let h:=(B09 (n.Bu==1) n.W n.Cap o);
  Q1 n h.2 (D0.mk 0 0 0 []) (E4.mk 0 0 0 0 []) (F3.mk 0 0 0 0 0 []) (D2.mk 0 0 0 0 0 0 []) (D5.mk 0 0 0 0 0 []) (E2.mk 0 0 0 []) 0 ([]:List Int) h.1 ([]:List B5) (C1.mk 0 0 0 []) (C3.mk 0 0 0 0 []))<|
 cond (n.Bj==9) (
  Option.bind (B3g n.Ao n.W n.Cap) fun i=>
  Q1 n i.2 (D0.mk 0 0 0 []) (E4.mk 0 0 0 0 []) (F3.mk 0 0 0 0 0 []) (D2.mk 0 0 0 0 0 0 []) (D5.mk 0 0 0 0 0 []) (E2.mk 0 0 0 []) 0 ([]:List Int) (C2.mk false 0 0 0 []) i.1.Ao (C1.mk 0 0 0 []) (C3.mk 0 0 0 0 []))<|
 cond (n.Bj==10) (
  let j:=(B1l n.K n.Cap);
  Q1 n j.2 (D0.mk 0 0 0 []) (E4.mk 0 0 0 0 []) (F3.mk 0 0 0 0 0 []) (D2.mk 0 0 0 0 0 0 []) (D5.mk 0 0 0 0 0 []) (E2.mk 0 0 0 []) 0 ([]:List Int) (C2.mk false 0 0 0 []) ([]:List B5) j.1 (C3.mk 0 0 0 0 []))<|
 cond (n.Bj==11) (
  let k:=(A9N n.W n.K n.Cap o);
  Q1 n k.2 (D0.mk 0 0 0 []) (E4.mk 0 0 0 0 []) (F3.mk 0 0 0 0 0 []) (D2.mk 0 0 0 0 0 0 []) (D5.mk 0 0 0 0 0 []) (E2.mk 0 0 0 []) 0 ([]:List Int) (C2.mk false 0 0 0 []) ([]:List B5) (C1.mk 0 0 0 []) k.1)<|
 Q1 n 0 (D0.mk 0 0 0 []) (E4.mk 0 0 0 0 []) (F3.mk 0 0 0 0 0 []) (D2.mk 0 0 0 0 0 0 []) (D5.mk 0 0 0 0 0 []) (E2.mk 0 0 0 []) 0 ([]:List Int) (C2.mk false 0 0 0 []) ([]:List B5) (C1.mk 0 0 0 []) (C3.mk 0 0 0 0 [])
def Y5 (d:D8):Option (Int×D8):=
 cond ((decide (d.command_.ID<0))||(decide (d.command_.ID>1048576))) (
  some (1,d))<|
 Option.bind (A3f d.command_.Ap d.Aq.Now) fun b=>
 cond (b.2 !=0) (
  let c:=(X8 d.command_.Ap);
  some (c,d))<|
 Option.bind (A6g d.Aq.Ai d.Aq.Be (A7.mk d.command_.ID b.1)) fun a=>
 cond (a.2 !=0) (
  some (a.2,d))<|
 some (0,(D8.mk (B4.mk d.Aq.Now d.Aq.Be a.1) d.command_ d.reply_))
def A6h (c:List A7) (d:Int):Option ((List A7)×Int):=
 Option.bind (A1n c 64) fun b=>
 cond (!b) (
  some ([],2))<|
 Option.bind (A0Y c d) fun a=>
 cond (!a.2) (
  some ([],11))<|
 ck (decide (0<=a.1/\a.1<=(c.length:Int)))<|
 ck (decide ((([]:List A7).length+(c.take (a.1).toNat).length)*640<=140737488355328))<|
 ck (decide (0<=(A1 (a.1+1))/\(A1 (a.1+1))<=(c.length:Int)))<|
 ck (decide (((([]:List A7)++(c.take (a.1).toNat)).length+(c.drop ((A1 (a.1+(1:Int)))).toNat).length)*640<=140737488355328))<|
 some (((([]:List A7)++(c.take (a.1).toNat))++(c.drop ((A1 (a.1+(1:Int)))).toNat)),0)
def A0I (b:D8):Option (Int×D8):=
 Option.bind (A6h b.Aq.Ai b.command_.ID) fun a=>
 cond (a.2 !=0) (
  some (a.2,b))<|
 some (0,(D8.mk (B4.mk b.Aq.Now b.Aq.Be a.1) b.command_ b.reply_))
def A0g (d:List A7) (a:List Int) (b:Int):Option (((List Int)×Int)⊕(List Int)):=
 cond (decide (b<(d.length:Int))) (
  Option.bind (B9 d b) fun c=>
  ck (decide ((a.length+ [c.ID].length)*8<=140737488355328))<|
  some (.inl ((a++ [c.ID]),(A1 (b+1)))))<|
 Option.map Sum.inr (some a)
def A9Y (c:List A7) (a:List Int) (b:Int):Option (List Int):=
 loop (fun (s:((List Int)×Int))=>A0g c s.1 s.2) (a,b)
def A1J (a:List A7):Option (List Int):=
 A9Y a ([]:List Int) 0
def X2 (b:D8):Option (Int×D8):=
 Option.bind (A1J b.Aq.Ai) fun a=>
 some (0,(D8.mk b.Aq b.command_ (F5.mk b.reply_.Code b.reply_.Ak a b.reply_.Ay)))
def B6c (a:A9):(Int×Bool):=
 cond (a.Ap.Bj==1) (
  (a.Ar.Now,true))<|
 cond (a.Ap.Bj==2) (
  (a.Az.Now,true))<|
 cond (a.Ap.Bj==3) (
  (a.Sum.Now,true))<|
 cond (a.Ap.Bj==4) (
  (a.Au.Now,true))<|
 cond (a.Ap.Bj==5) (
  (a.Av.Now,true))<|
 cond (a.Ap.Bj==6) (
  (a.Bn.Now,true))<|
 cond (a.Ap.Bj==7) (
  (a.Bb.Now,true))<|
 cond (a.Ap.Bj==8) (
  (a.Af.Now,true))<|
 cond (a.Ap.Bj==11) (
  (a.Ab.Now,true))<|
 (0,false)
def B6b (d:B4) (a:Int):Option (Int⊕Int):=
 cond (decide (a<(d.Ai.length:Int))) (
  Option.bind (B9 d.Ai a) fun c=>
  let b:=(B6c c.Ac);
  cond (b.2&&(b.1 !=d.Now)) (
   some (.inr 2))<|
  some (.inl (A1 (a+1))))<|
 Option.map Sum.inr (some 0)
def A93 (b:B4) (a:Int):Option Int:=
 loop (fun (s:Int)=>B6b b s) a
def X5 (b:B4):Option Int:=
 Option.bind (gd (!((decide (b.Now<0))||(decide (b.Now>16777216)))) (A1n b.Ai b.Be)) fun a=>
 cond (((decide (b.Now<0))||(decide (b.Now>16777216)))||(!a)) (
  some 2)<|
 A93 b 0
def A4V (f:A3) (c:List Int) (d:Int) (e:Bool):Option (A3×Int×Bool):=
 Option.bind (C7 c d e f.T) fun a=>
 Option.bind (F1 c a.1 a.2.1 f.Bd) fun b=>
 some ((A3.mk a.2.2 b.2.2),b.1,b.2.1)
def B0T (f:List Int) (e:Int) (a:Bool) (b:List A3) (c:Int):Option ((Int×Bool×(List A3)×Int)⊕(Int×Bool×(List A3))):=
 cond ((decide (c>0))&&(!a)) (
  Option.bind (A4V (A3.mk 0 0) f e a) fun d=>
  ck (decide ((b.length+ [d.1].length)*16<=140737488355328))<|
  some (.inl (d.2.1,d.2.2,(b++ [d.1]),(A1 (c-1)))))<|
 Option.map Sum.inr (some (e,a,b))
def A43 (e:List Int) (b:Int) (c:Bool) (d:List A3) (a:Int):Option (Int×Bool×(List A3)):=
 loop (fun (s:(Int×Bool×(List A3)×Int))=>B0T e s.1 s.2.1 s.2.2.1 s.2.2.2) (b,c,d,a)
def A3g (b:List Int) (c:Int) (d:Bool) (e:List A3):Option (Int×Bool×(List A3)):=
 Option.bind (G9 0 (A1 ((b.length:Int)-c)) b c d (e.length:Int)) fun a=>
 A43 b a.1 a.2.1 ([]:List A3) a.2.2
def A08 (b:List Int) (c:Int) (d:Bool) (e:List A3):Option (Int×Bool×(List A3)):=
 Option.bind (A3g b c d e) fun a=>
 some (a.1,a.2.1,a.2.2)
def A5X (f:A8) (c:List Int) (d:Int) (e:Bool):Option (A8×Int×Bool):=
 Option.bind (C7 c d e f.T) fun a=>
 Option.bind (C7 c a.1 a.2.1 f.V) fun b=>
 some ((A8.mk a.2.2 b.2.2),b.1,b.2.1)
def B2d (f:List Int) (e:Int) (a:Bool) (b:List A8) (c:Int):Option ((Int×Bool×(List A8)×Int)⊕(Int×Bool×(List A8))):=
 cond ((decide (c>0))&&(!a)) (
  Option.bind (A5X (A8.mk 0 0) f e a) fun d=>
  ck (decide ((b.length+ [d.1].length)*16<=140737488355328))<|
  some (.inl (d.2.1,d.2.2,(b++ [d.1]),(A1 (c-1)))))<|
 Option.map Sum.inr (some (e,a,b))
def A6m (e:List Int) (b:Int) (c:Bool) (d:List A8) (a:Int):Option (Int×Bool×(List A8)):=
 loop (fun (s:(Int×Bool×(List A8)×Int))=>B2d e s.1 s.2.1 s.2.2.1 s.2.2.2) (b,c,d,a)
def A39 (b:List Int) (c:Int) (d:Bool) (e:List A8):Option (Int×Bool×(List A8)):=
 Option.bind (G9 0 (A1 ((b.length:Int)-c)) b c d (e.length:Int)) fun a=>
 A6m b a.1 a.2.1 ([]:List A8) a.2.2
def A2p (b:List Int) (c:Int) (d:Bool) (e:List A8):Option (Int×Bool×(List A8)):=
 Option.bind (A39 b c d e) fun a=>
 some (a.1,a.2.1,a.2.2)
def A5Y (i:A6) (h:List Int) (j:Int) (k:Bool):Option (A6×Int×Bool):=
 Option.bind (C7 h j k i.Bx) fun a=>
 Option.bind (C7 h a.1 a.2.1 i.T) fun b=>
 Option.bind (C7 h b.1 b.2.1 i.N) fun c=>
 Option.bind (C7 h c.1 c.2.1 i.S) fun d=>
 Option.bind (C7 h d.1 d.2.1 i.Q) fun e=>
 Option.bind (C7 h e.1 e.2.1 i.Bv) fun f=>
 Option.bind (C7 h f.1 f.2.1 i.Bu) fun g=>
 some ((A6.mk a.2.2 b.2.2 c.2.2 d.2.2 e.2.2 f.2.2 g.2.2),g.1,g.2.1)
def B2h (f:List Int) (e:Int) (a:Bool) (b:List A6) (c:Int):Option ((Int×Bool×(List A6)×Int)⊕(Int×Bool×(List A6))):=
 cond ((decide (c>0))&&(!a)) (
  Option.bind (A5Y (A6.mk 0 0 0 0 0 0 0) f e a) fun d=>
  ck (decide ((b.length+ [d.1].length)*56<=140737488355328))<|
  some (.inl (d.2.1,d.2.2,(b++ [d.1]),(A1 (c-1)))))<|
 Option.map Sum.inr (some (e,a,b))
def A6o (e:List Int) (b:Int) (c:Bool) (d:List A6) (a:Int):Option (Int×Bool×(List A6)):=
 loop (fun (s:(Int×Bool×(List A6)×Int))=>B2h e s.1 s.2.1 s.2.2.1 s.2.2.2) (b,c,d,a)
def A4a (b:List Int) (c:Int) (d:Bool) (e:List A6):Option (Int×Bool×(List A6)):=
 Option.bind (G9 0 (A1 ((b.length:Int)-c)) b c d (e.length:Int)) fun a=>
 A6o b a.1 a.2.1 ([]:List A6) a.2.2
def A2r (b:List Int) (c:Int) (d:Bool) (e:List A6):Option (Int×Bool×(List A6)):=
 Option.bind (A4a b c d e) fun a=>
 some (a.1,a.2.1,a.2.2)
def A5V (e:B2) (d:List Int) (f:Int) (g:Bool):Option (B2×Int×Bool):=
 Option.bind (C7 d f g e.V) fun a=>
 Option.bind (C7 d a.1 a.2.1 e.Bv) fun b=>
 Option.bind (C7 d b.1 b.2.1 e.Bu) fun c=>
 some ((B2.mk a.2.2 b.2.2 c.2.2),c.1,c.2.1)
def B1U (f:List Int) (e:Int) (a:Bool) (b:List B2) (c:Int):Option ((Int×Bool×(List B2)×Int)⊕(Int×Bool×(List B2))):=
 cond ((decide (c>0))&&(!a)) (
  Option.bind (A5V (B2.mk 0 0 0) f e a) fun d=>
  ck (decide ((b.length+ [d.1].length)*24<=140737488355328))<|
  some (.inl (d.2.1,d.2.2,(b++ [d.1]),(A1 (c-1)))))<|
 Option.map Sum.inr (some (e,a,b))
def A5F (e:List Int) (b:Int) (c:Bool) (d:List B2) (a:Int):Option (Int×Bool×(List B2)):=
 loop (fun (s:(Int×Bool×(List B2)×Int))=>B1U e s.1 s.2.1 s.2.2.1 s.2.2.2) (b,c,d,a)
def A03 (b:List Int) (c:Int) (d:Bool):Option (Int×Bool×(List B2)):=
 Option.bind (G9 0 (A1 ((b.length:Int)-c)) b c d 0) fun a=>
 A5F b a.1 a.2.1 ([]:List B2) a.2.2
def A7Z (f:List Int) (g:Int) (h:Bool) (i j k l:Int):Option (Int×Bool×Int×Int×Int×Int×(List B2)):=
 Option.bind (C7 f g h i) fun a=>
 Option.bind (C7 f a.1 a.2.1 j) fun b=>
 Option.bind (F1 f b.1 b.2.1 k) fun c=>
 Option.bind (C7 f c.1 c.2.1 l) fun d=>
 Option.bind (A03 f d.1 d.2.1) fun e=>
 some (e.1,e.2.1,a.2.2,b.2.2,c.2.2,d.2.2,e.2.2)
def A51 (b c d e:Int) (f:List Int) (g:Int) (h:Bool):Option (Int×Int×Int×Int×Int×Bool×(List B2)):=
 Option.bind (A7Z f g h b c d e) fun a=>
 some (a.2.2.1,a.2.2.2.1,a.2.2.2.2.1,a.2.2.2.2.2.1,a.1,a.2.1,a.2.2.2.2.2.2)
def B1Q (f:List Int) (e:Int) (b:Bool) (c:List B1) (d:Int):Option ((Int×Bool×(List B1)×Int)⊕(Int×Bool×(List B1))):=
 cond ((decide (d>0))&&(!b)) (
  Option.bind (A51 0 0 0 0 f e b) fun a=>
  ck (decide ((c.length+ [(B1.mk a.1 a.2.1 a.2.2.1 (D4.mk a.2.2.2.1 a.2.2.2.2.2.2))].length)*56<=140737488355328))<|
  some (.inl (a.2.2.2.2.1,a.2.2.2.2.2.1,(c++ [(B1.mk a.1 a.2.1 a.2.2.1 (D4.mk a.2.2.2.1 a.2.2.2.2.2.2))]),(A1 (d-1)))))<|
 Option.map Sum.inr (some (e,b,c))
def A5D (e:List Int) (b:Int) (c:Bool) (d:List B1) (a:Int):Option (Int×Bool×(List B1)):=
 loop (fun (s:(Int×Bool×(List B1)×Int))=>B1Q e s.1 s.2.1 s.2.2.1 s.2.2.2) (b,c,d,a)
def A01 (b:List Int) (c:Int) (d:Bool) (e:List B1):Option (Int×Bool×(List B1)):=
 Option.bind (G9 0 (A1 ((b.length:Int)-c)) b c d (e.length:Int)) fun a=>
 A5D b a.1 a.2.1 ([]:List B1) a.2.2
def A5W (f:G1) (c:List Int) (d:Int) (e:Bool):Option (G1×Int×Bool):=
 Option.bind (C7 c d e f.I) fun a=>
 Option.bind (C7 c a.1 a.2.1 f.V) fun b=>
 some ((G1.mk a.2.2 b.2.2),b.1,b.2.1)
def B2f (f:List Int) (e:Int) (a:Bool) (b:List G1) (c:Int):Option ((Int×Bool×(List G1)×Int)⊕(Int×Bool×(List G1))):=
 cond ((decide (c>0))&&(!a)) (
  Option.bind (A5W (G1.mk 0 0) f e a) fun d=>
  ck (decide ((b.length+ [d.1].length)*16<=140737488355328))<|
  some (.inl (d.2.1,d.2.2,(b++ [d.1]),(A1 (c-1)))))<|
 Option.map Sum.inr (some (e,a,b))
def A6n (e:List Int) (b:Int) (c:Bool) (d:List G1) (a:Int):Option (Int×Bool×(List G1)):=
 loop (fun (s:(Int×Bool×(List G1)×Int))=>B2f e s.1 s.2.1 s.2.2.1 s.2.2.2) (b,c,d,a)
def A1A (b:List Int) (c:Int) (d:Bool):Option (Int×Bool×(List G1)):=
 Option.bind (G9 0 (A1 ((b.length:Int)-c)) b c d 0) fun a=>
 A6n b a.1 a.2.1 ([]:List G1) a.2.2
def A70 (f:List Int) (g:Int) (h:Bool) (i j k l:Int):Option (Int×Bool×Int×Int×Int×Int×(List G1)):=
 Option.bind (C7 f g h i) fun a=>
 Option.bind (F1 f a.1 a.2.1 j) fun b=>
 Option.bind (C7 f b.1 b.2.1 k) fun c=>
 Option.bind (C7 f c.1 c.2.1 l) fun d=>
 Option.bind (A1A f d.1 d.2.1) fun e=>
 some (e.1,e.2.1,a.2.2,b.2.2,c.2.2,d.2.2,e.2.2)
def A5Z (b c d e:Int) (f:List Int) (g:Int) (h:Bool):Option (Int×Int×Int×Int×Int×Bool×(List G1)):=
 Option.bind (A70 f g h b c d e) fun a=>
 some (a.2.2.1,a.2.2.2.1,a.2.2.2.2.1,a.2.2.2.2.2.1,a.1,a.2.1,a.2.2.2.2.2.2)
def B1S (f:List Int) (e:Int) (b:Bool) (c:List B5) (d:Int):Option ((Int×Bool×(List B5)×Int)⊕(Int×Bool×(List B5))):=
 cond ((decide (d>0))&&(!b)) (
  Option.bind (A5Z 0 0 0 0 f e b) fun a=>
  ck (decide ((c.length+ [(B5.mk a.1 a.2.1 a.2.2.1 a.2.2.2.1 a.2.2.2.2.2.2)].length)*56<=140737488355328))<|
  some (.inl (a.2.2.2.2.1,a.2.2.2.2.2.1,(c++ [(B5.mk a.1 a.2.1 a.2.2.1 a.2.2.2.1 a.2.2.2.2.2.2)]),(A1 (d-1)))))<|
 Option.map Sum.inr (some (e,b,c))
def A5E (e:List Int) (b:Int) (c:Bool) (d:List B5) (a:Int):Option (Int×Bool×(List B5)):=
 loop (fun (s:(Int×Bool×(List B5)×Int))=>B1S e s.1 s.2.1 s.2.2.1 s.2.2.2) (b,c,d,a)
def A02 (b:List Int) (c:Int) (d:Bool) (e:List B5):Option (Int×Bool×(List B5)):=
 Option.bind (G9 0 (A1 ((b.length:Int)-c)) b c d (e.length:Int)) fun a=>
 A5E b a.1 a.2.1 ([]:List B5) a.2.2
def A50 (e:E0) (d:List Int) (f:Int) (g:Bool):Option (E0×Int×Bool):=
 Option.bind (C7 d f g e.V) fun a=>
 Option.bind (C7 d a.1 a.2.1 e.G) fun b=>
 Option.bind (C7 d b.1 b.2.1 e.D) fun c=>
 some ((E0.mk a.2.2 b.2.2 c.2.2),c.1,c.2.1)
def B1W (f:List Int) (e:Int) (a:Bool) (b:List E0) (c:Int):Option ((Int×Bool×(List E0)×Int)⊕(Int×Bool×(List E0))):=
 cond ((decide (c>0))&&(!a)) (
  Option.bind (A50 (E0.mk 0 0 0) f e a) fun d=>
  ck (decide ((b.length+ [d.1].length)*24<=140737488355328))<|
  some (.inl (d.2.1,d.2.2,(b++ [d.1]),(A1 (c-1)))))<|
 Option.map Sum.inr (some (e,a,b))
def A5G (e:List Int) (b:Int) (c:Bool) (d:List E0) (a:Int):Option (Int×Bool×(List E0)):=
 loop (fun (s:(Int×Bool×(List E0)×Int))=>B1W e s.1 s.2.1 s.2.2.1 s.2.2.2) (b,c,d,a)
def A04 (b:List Int) (c:Int) (d:Bool) (e:List E0):Option (Int×Bool×(List E0)):=
 Option.bind (G9 0 (A1 ((b.length:Int)-c)) b c d (e.length:Int)) fun a=>
 A5G b a.1 a.2.1 ([]:List E0) a.2.2
def B2i (f:List Int) (e:Int) (a:Bool) (b:List A2) (c:Int):Option ((Int×Bool×(List A2)×Int)⊕(Int×Bool×(List A2))):=
 cond ((decide (c>0))&&(!a)) (
  Option.bind (A0Q f e a (A2.mk 0 0)) fun d=>
  ck (decide ((b.length+ [d.2.2].length)*16<=140737488355328))<|
  some (.inl (d.1,d.2.1,(b++ [d.2.2]),(A1 (c-1)))))<|
 Option.map Sum.inr (some (e,a,b))
def A6p (e:List Int) (b:Int) (c:Bool) (d:List A2) (a:Int):Option (Int×Bool×(List A2)):=
 loop (fun (s:(Int×Bool×(List A2)×Int))=>B2i e s.1 s.2.1 s.2.2.1 s.2.2.2) (b,c,d,a)
def A1B (b:List Int) (c:Int) (d:Bool) (e:List A2):Option (Int×Bool×(List A2)):=
 Option.bind (G9 0 (A1 ((b.length:Int)-c)) b c d (e.length:Int)) fun a=>
 A6p b a.1 a.2.1 ([]:List A2) a.2.2
def A2R (c:List Int) (d:Int) (e:Bool) (a:Int):Option (Int×Bool×Bool):=
 Option.bind (G9 0 1 c d e a) fun b=>
 some (b.1,b.2.1,(b.2.2==1))
def A4s (a:List Int) (b:Int) (c d:Bool):Option (Int×Bool×Bool):=
 cond d (
  A2R a b c 1)<|
 A2R a b c 0
def B4o (f:List Int) (e:Int) (a:Bool) (b:List Int) (c:Int):Option ((Int×Bool×(List Int)×Int)⊕(Int×Bool×(List Int))):=
 cond ((decide (c>0))&&(!a)) (
  Option.bind (C7 f e a 0) fun d=>
  ck (decide ((b.length+ [d.2.2].length)*8<=140737488355328))<|
  some (.inl (d.1,d.2.1,(b++ [d.2.2]),(A1 (c-1)))))<|
 Option.map Sum.inr (some (e,a,b))
def A8h (e:List Int) (b:Int) (c:Bool) (d:List Int) (a:Int):Option (Int×Bool×(List Int)):=
 loop (fun (s:(Int×Bool×(List Int)×Int))=>B4o e s.1 s.2.1 s.2.2.1 s.2.2.2) (b,c,d,a)
def A55 (b:List Int) (c:Int) (d:Bool) (e:List Int):Option (Int×Bool×(List Int)):=
 Option.bind (G9 0 (A1 ((b.length:Int)-c)) b c d (e.length:Int)) fun a=>
 A8h b a.1 a.2.1 ([]:List Int) a.2.2
def A4u (b:List Int) (c:Int) (d:Bool) (e:List Int):Option (Int×Bool×(List Int)):=
 Option.bind (A55 b c d e) fun a=>
 some (a.1,a.2.1,a.2.2)
def A4n (b0_0:List Int) (b0_1:Int) (b0_3:Bool) (b1:A9):Option (Int×Bool×A9):=
 cond (b1.Ap.Bj==1) (
  Option.bind (C7 b0_0 b0_1 b0_3 b1.Ar.W) fun X=>
  Option.bind (F1 b0_0 X.1 X.2.1 b1.Ar.Cap) fun Y=>
  Option.bind (C7 b0_0 Y.1 Y.2.1 b1.Ar.Now) fun Z=>
  Option.bind (A2p b0_0 Z.1 Z.2.1 b1.Ar.Bc) fun a0=>
  some (a0.1,a0.2.1,(A9.mk b1.Ap (D0.mk X.2.2 Y.2.2 Z.2.2 a0.2.2) b1.Az b1.Sum b1.Au b1.Av b1.Bn b1.Bb b1.Af b1.As b1.Aj b1.Ab)))<|
 cond (b1.Ap.Bj==2) (
  Option.bind (C7 b0_0 b0_1 b0_3 b1.Az.W) fun a=>
  Option.bind (F1 b0_0 a.1 a.2.1 b1.Az.K) fun b=>
  Option.bind (F1 b0_0 b.1 b.2.1 b1.Az.Cap) fun c=>
  Option.bind (C7 b0_0 c.1 c.2.1 b1.Az.Now) fun d=>
  Option.bind (A08 b0_0 d.1 d.2.1 b1.Az.Ad) fun e=>
  some (e.1,e.2.1,(A9.mk b1.Ap b1.Ar (E4.mk a.2.2 b.2.2 c.2.2 d.2.2 e.2.2) b1.Sum b1.Au b1.Av b1.Bn b1.Bb b1.Af b1.As b1.Aj b1.Ab)))<|
 cond (b1.Ap.Bj==3) (
  Option.bind (C7 b0_0 b0_1 b0_3 b1.Sum.W) fun f=>
  Option.bind (F1 b0_0 f.1 f.2.1 b1.Sum.K) fun g=>
  Option.bind (F1 b0_0 g.1 g.2.1 b1.Sum.Cap) fun h=>
  Option.bind (F1 b0_0 h.1 h.2.1 b1.Sum.Bu) fun i=>
  Option.bind (C7 b0_0 i.1 i.2.1 b1.Sum.Now) fun j=>
  Option.bind (A08 b0_0 j.1 j.2.1 b1.Sum.Ad) fun k=>
  some (k.1,k.2.1,(A9.mk b1.Ap b1.Ar b1.Az (F3.mk f.2.2 g.2.2 h.2.2 i.2.2 j.2.2 k.2.2) b1.Au b1.Av b1.Bn b1.Bb b1.Af b1.As b1.Aj b1.Ab)))<|
 cond (b1.Ap.Bj==4) (
  Option.bind (F1 b0_0 b0_1 b0_3 b1.Au.Bp) fun l=>
  Option.bind (C7 b0_0 l.1 l.2.1 b1.Au.W) fun m=>
  Option.bind (F1 b0_0 m.1 m.2.1 b1.Au.K) fun n=>
  Option.bind (F1 b0_0 n.1 n.2.1 b1.Au.Cap) fun o=>
  Option.bind (C7 b0_0 o.1 o.2.1 b1.Au.Now) fun p=>
  Option.bind (C7 b0_0 p.1 p.2.1 b1.Au.Bx) fun q=>
  Option.bind (A2r b0_0 q.1 q.2.1 b1.Au.Bg) fun r=>
  some (r.1,r.2.1,(A9.mk b1.Ap b1.Ar b1.Az b1.Sum (D2.mk l.2.2 m.2.2 n.2.2 o.2.2 p.2.2 q.2.2 r.2.2) b1.Av b1.Bn b1.Bb b1.Af b1.As b1.Aj b1.Ab)))<|
 cond (b1.Ap.Bj==5) (
  Option.bind (C7 b0_0 b0_1 b0_3 b1.Av.W) fun s=>
  Option.bind (F1 b0_0 s.1 s.2.1 b1.Av.K) fun t=>
  Option.bind (F1 b0_0 t.1 t.2.1 b1.Av.Cap) fun u=>
  Option.bind (C7 b0_0 u.1 u.2.1 b1.Av.Now) fun v=>
  Option.bind (C7 b0_0 v.1 v.2.1 b1.Av.Bx) fun w=>
  Option.bind (A2r b0_0 w.1 w.2.1 b1.Av.Bg) fun x=>
  some (x.1,x.2.1,(A9.mk b1.Ap b1.Ar b1.Az b1.Sum b1.Au (D5.mk s.2.2 t.2.2 u.2.2 v.2.2 w.2.2 x.2.2) b1.Bn b1.Bb b1.Af b1.As b1.Aj b1.Ab)))<|
 cond (b1.Ap.Bj==6) (
  Option.bind (F1 b0_0 b0_1 b0_3 b1.Bn.P) fun y=>
  Option.bind (C7 b0_0 y.1 y.2.1 b1.Bn.Bk) fun z=>
  Option.bind (C7 b0_0 z.1 z.2.1 b1.Bn.Now) fun A=>
  Option.bind (A1B b0_0 A.1 A.2.1 b1.Bn.Ag) fun B=>
  some (B.1,B.2.1,(A9.mk b1.Ap b1.Ar b1.Az b1.Sum b1.Au b1.Av (E2.mk y.2.2 z.2.2 A.2.2 B.2.2) b1.Bb b1.Af b1.As b1.Aj b1.Ab)))<|
 cond (b1.Ap.Bj==7) (
  Option.bind (C7 b0_0 b0_1 b0_3 b1.Bb.Now) fun C=>
  Option.bind (A4u b0_0 C.1 C.2.1 b1.Bb.Bo) fun D=>
  some (D.1,D.2.1,(A9.mk b1.Ap b1.Ar b1.Az b1.Sum b1.Au b1.Av b1.Bn (F4.mk C.2.2 D.2.2) b1.Af b1.As b1.Aj b1.Ab)))<|
 cond (b1.Ap.Bj==8) (
  Option.bind (A4s b0_0 b0_1 b0_3 b1.Af.Bu) fun E=>
  Option.bind (C7 b0_0 E.1 E.2.1 b1.Af.W) fun F=>
  Option.bind (F1 b0_0 F.1 F.2.1 b1.Af.Cap) fun G=>
  Option.bind (C7 b0_0 G.1 G.2.1 b1.Af.Now) fun H=>
  Option.bind (A2p b0_0 H.1 H.2.1 b1.Af.Bc) fun I=>
  some (I.1,I.2.1,(A9.mk b1.Ap b1.Ar b1.Az b1.Sum b1.Au b1.Av b1.Bn b1.Bb (C2.mk E.2.2 F.2.2 G.2.2 H.2.2 I.2.2) b1.As b1.Aj b1.Ab)))<|
 cond (b1.Ap.Bj==9) (
  Option.bind (A02 b0_0 b0_1 b0_3 b1.As.Ao) fun J=>
  some (J.1,J.2.1,(A9.mk b1.Ap b1.Ar b1.Az b1.Sum b1.Au b1.Av b1.Bn b1.Bb b1.Af (E7.mk J.2.2) b1.Aj b1.Ab)))<|
 cond (b1.Ap.Bj==10) (
  Option.bind (F1 b0_0 b0_1 b0_3 b1.Aj.K) fun L=>
  Option.bind (F1 b0_0 L.1 L.2.1 b1.Aj.Cap) fun M=>
  Option.bind (C7 b0_0 M.1 M.2.1 b1.Aj.N) fun O=>
  Option.bind (A04 b0_0 O.1 O.2.1 b1.Aj.Aw) fun Q=>
  some (Q.1,Q.2.1,(A9.mk b1.Ap b1.Ar b1.Az b1.Sum b1.Au b1.Av b1.Bn b1.Bb b1.Af b1.As (C1.mk L.2.2 M.2.2 O.2.2 Q.2.2) b1.Ab)))<|
 cond (b1.Ap.Bj==11) (
  Option.bind (C7 b0_0 b0_1 b0_3 b1.Ab.W) fun R=>
  Option.bind (F1 b0_0 R.1 R.2.1 b1.Ab.K) fun S=>
  Option.bind (F1 b0_0 S.1 S.2.1 b1.Ab.Cap) fun T=>
  Option.bind (C7 b0_0 T.1 T.2.1 b1.Ab.Now) fun U=>
  Option.bind (A01 b0_0 U.1 U.2.1 b1.Ab.Al) fun V=>
  some (V.1,V.2.1,(A9.mk b1.Ap b1.Ar b1.Az b1.Sum b1.Au b1.Av b1.Bn b1.Bb b1.Af b1.As b1.Aj (C3.mk R.2.2 S.2.2 T.2.2 U.2.2 V.2.2))))<|
 some (b0_1,true,(A9.mk b1.Ap b1.Ar b1.Az b1.Sum b1.Au b1.Av b1.Bn b1.Bb b1.Af b1.As b1.Aj b1.Ab))
def A81 (c:List Int) (b d:Int):Option (Int×Bool×Int):=
 Option.bind (A6V c b) fun a=>
 cond (!a.2.2) (
  some (b,true,d))<|
 some (a.2.1,false,a.1)
def A3t (e f:Int) (b:List Int) (c d:Int):Option (Int×Bool×Int):=
 Option.bind (A81 b c d) fun a=>
 cond ((decide (a.2.2<e))||(decide (a.2.2>f))) (
  some (a.1,true,a.2.2))<|
 some (a.1,a.2.1,a.2.2)
def A9h (n:List Int) (h i:Int×Bool×Int) (c:List A7) (a f:Int) (e:Bool):Option (((List A7)×Int×Int×Bool)⊕(Int×Bool×Int×Int×(List A7))):=
 cond ((decide (a<(c.length:Int)))&&(!e)) (
  Option.bind (B9 c a) fun j=>
  Option.bind (B9 c a) fun l=>
  Option.bind (C7 n f e l.ID) fun d=>
  Option.bind (B9 (c.set (a).toNat (A7.mk d.2.2 l.Ac)) a) fun k=>
  Option.bind (A1a n d.1 d.2.1 k.Ac.Ap) fun b=>
  cond (!b.2.1) (
   Option.bind (B9 ((c.set (a).toNat (A7.mk d.2.2 l.Ac)).set (a).toNat (A7.mk k.ID (A9.mk b.2.2 k.Ac.Ar k.Ac.Az k.Ac.Sum k.Ac.Au k.Ac.Av k.Ac.Bn k.Ac.Bb k.Ac.Af k.Ac.As k.Ac.Aj k.Ac.Ab))) a) fun m=>
   Option.bind (A4n n b.1 b.2.1 m.Ac) fun g=>
   some (.inl ((((c.set (a).toNat (A7.mk d.2.2 l.Ac)).set (a).toNat (A7.mk k.ID (A9.mk b.2.2 k.Ac.Ar k.Ac.Az k.Ac.Sum k.Ac.Au k.Ac.Av k.Ac.Bn k.Ac.Bb k.Ac.Af k.Ac.As k.Ac.Aj k.Ac.Ab))).set (a).toNat (A7.mk m.ID g.2.2)),(A1 (a+1)),g.1,g.2.1)))<|
  some (.inl (((c.set (a).toNat (A7.mk d.2.2 l.Ac)).set (a).toNat (A7.mk k.ID (A9.mk b.2.2 k.Ac.Ar k.Ac.Az k.Ac.Sum k.Ac.Au k.Ac.Av k.Ac.Bn k.Ac.Bb k.Ac.Af k.Ac.As k.Ac.Aj k.Ac.Ab))),(A1 (a+1)),b.1,b.2.1)))<|
 Option.map Sum.inr (some (f,e,h.2.2,i.2.2,c))
def A94 (g:List Int) (c d:Int×Bool×Int) (e:List A7) (f a:Int) (b:Bool):Option (Int×Bool×Int×Int×(List A7)):=
 loop (fun (s:((List A7)×Int×Int×Bool))=>A9h g c d s.1 s.2.1 s.2.2.1 s.2.2.2) (e,f,a,b)
def A4o (e:List Int) (f g h:Int):Option (Int×Bool×Int×Int×(List A7)):=
 Option.bind (A3t 1 1 e f 1) fun d=>
 Option.bind (C7 e d.1 d.2.1 g) fun b=>
 Option.bind (F1 e b.1 b.2.1 h) fun c=>
 Option.bind (G9 0 64 e c.1 c.2.1 0) fun a=>
 cond a.2.1 (
  some (a.1,a.2.1,b.2.2,c.2.2,[]))<|
 ck (decide (0<=a.2.2/\a.2.2<=a.2.2/\a.2.2*640<=140737488355328/\a.2.2<=140737488355328))<|
 A94 e b c (laid (List.replicate (a.2.2).toNat (A7.mk 0 (A9.mk (B7.mk 0 0 0 0 0 0 0 0) (D0.mk 0 0 0 []) (E4.mk 0 0 0 0 []) (F3.mk 0 0 0 0 0 []) (D2.mk 0 0 0 0 0 0 []) (D5.mk 0 0 0 0 0 []) (E2.mk 0 0 0 []) (F4.mk 0 []) (C2.mk false 0 0 0 []) (E7.mk []) (C1.mk 0 0 0 []) (C3.mk 0 0 0 0 [])))) 0 (([]:List A7).take (List.replicate (a.2.2).toNat (A7.mk 0 (A9.mk (B7.mk 0 0 0 0 0 0 0 0) (D0.mk 0 0 0 []) (E4.mk 0 0 0 0 []) (F3.mk 0 0 0 0 0 []) (D2.mk 0 0 0 0 0 0 []) (D5.mk 0 0 0 0 0 []) (E2.mk 0 0 0 []) (F4.mk 0 []) (C2.mk false 0 0 0 []) (E7.mk []) (C1.mk 0 0 0 []) (C3.mk 0 0 0 0 [])))).length)) 0 a.1 a.2.1
def A13 (e:List Int):Option (B4×Int):=
 cond (decide ((e.length:Int)>(1048576:Int))) (
  some ((B4.mk 0 0 []),13))<|
 Option.bind (A4o e 0 0 0) fun a=>
 cond a.2.1 (
  some ((B4.mk 0 0 []),13))<|
 Option.bind (A6V e a.1) fun b=>
 ck (!(!((!b.2.2)||(b.2.1 !=(e.length:Int))))||(decide (0<=a.1/\a.1<=(e.length:Int))))<|
 Option.bind (gd (!((!b.2.2)||(b.2.1 !=(e.length:Int)))) (A1E (e.take (a.1).toNat))) fun d=>
 cond (((!b.2.2)||(b.2.1 !=(e.length:Int)))||(b.1 !=d)) (
  some ((B4.mk 0 0 []),13))<|
 Option.bind (X5 (B4.mk a.2.2.1 a.2.2.2.1 a.2.2.2.2)) fun c=>
 cond (c !=0) (
  some ((B4.mk 0 0 []),c))<|
 some ((B4.mk a.2.2.1 a.2.2.2.1 a.2.2.2.2),0)
def A4g (b:D8):Option (Int×D8):=
 Option.bind (A13 b.command_.Ay) fun a=>
 cond (a.2==0) (
  some (a.2,(D8.mk a.1 b.command_ b.reply_)))<|
 some (a.2,b)
def D3 (b:List Int) (c:Int) (d:Bool) (e:Int):Option (List Int):=
 Option.bind (I6 b e) fun a=>
 some a
def F7 (b:List Int) (c:Int) (d:Bool) (e:Int):Option (List Int):=
 Option.bind (D3 b c d e) fun a=>
 some a
def W3 (f:A3) (e:List Int) (c:Int) (d:Bool):Option (List Int):=
 Option.bind (D3 e c d f.T) fun a=>
 Option.bind (F7 a c d f.Bd) fun b=>
 some b
def J6 (f g:Int) (b:List Int) (c:Int) (d:Bool) (e:Int):Option (List Int):=
 Option.bind (D3 b c d e) fun a=>
 some a
def B0S (e:Int) (f:Bool) (g:List A3) (b:Int) (a:List Int):Option ((Int×(List Int))⊕(List Int)):=
 cond (decide (b<(g.length:Int))) (
  Option.bind (B9 g b) fun c=>
  Option.bind (W3 c a e f) fun d=>
  some (.inl ((A1 (b+1)),d)))<|
 Option.map Sum.inr (some a)
def A1L (c:Int) (d:Bool) (e:List A3) (b:Int) (a:List Int):Option (List Int):=
 loop (fun (s:(Int×(List Int)))=>B0S c d e s.1 s.2) (b,a)
def W8 (c:List Int) (b:Int) (d:Bool) (e:List A3):Option (List Int):=
 Option.bind (J6 0 (A1 ((c.length:Int)-b)) c b d (e.length:Int)) fun a=>
 A1L b d e 0 a
def A07 (b:List Int) (c:Int) (d:Bool) (e:List A3):Option (List Int):=
 Option.bind (W8 b c d e) fun a=>
 some a
def Y9 (f:A8) (e:List Int) (c:Int) (d:Bool):Option (List Int):=
 Option.bind (D3 e c d f.T) fun a=>
 Option.bind (D3 a c d f.V) fun b=>
 some b
def B2c (e:Int) (f:Bool) (g:List A8) (b:Int) (a:List Int):Option ((Int×(List Int))⊕(List Int)):=
 cond (decide (b<(g.length:Int))) (
  Option.bind (B9 g b) fun c=>
  Option.bind (Y9 c a e f) fun d=>
  some (.inl ((A1 (b+1)),d)))<|
 Option.map Sum.inr (some a)
def A2N (c:Int) (d:Bool) (e:List A8) (b:Int) (a:List Int):Option (List Int):=
 loop (fun (s:(Int×(List Int)))=>B2c c d e s.1 s.2) (b,a)
def Z7 (c:List Int) (b:Int) (d:Bool) (e:List A8):Option (List Int):=
 Option.bind (J6 0 (A1 ((c.length:Int)-b)) c b d (e.length:Int)) fun a=>
 A2N b d e 0 a
def A2o (b:List Int) (c:Int) (d:Bool) (e:List A8):Option (List Int):=
 Option.bind (Z7 b c d e) fun a=>
 some a
def Z0 (j:A6) (k:List Int) (h:Int) (i:Bool):Option (List Int):=
 Option.bind (D3 k h i j.Bx) fun a=>
 Option.bind (D3 a h i j.T) fun b=>
 Option.bind (D3 b h i j.N) fun c=>
 Option.bind (D3 c h i j.S) fun d=>
 Option.bind (D3 d h i j.Q) fun e=>
 Option.bind (D3 e h i j.Bv) fun f=>
 Option.bind (D3 f h i j.Bu) fun g=>
 some g
def B2g (e:Int) (f:Bool) (g:List A6) (b:Int) (a:List Int):Option ((Int×(List Int))⊕(List Int)):=
 cond (decide (b<(g.length:Int))) (
  Option.bind (B9 g b) fun c=>
  Option.bind (Z0 c a e f) fun d=>
  some (.inl ((A1 (b+1)),d)))<|
 Option.map Sum.inr (some a)
def A2P (c:Int) (d:Bool) (e:List A6) (b:Int) (a:List Int):Option (List Int):=
 loop (fun (s:(Int×(List Int)))=>B2g c d e s.1 s.2) (b,a)
def Z8 (c:List Int) (b:Int) (d:Bool) (e:List A6):Option (List Int):=
 Option.bind (J6 0 (A1 ((c.length:Int)-b)) c b d (e.length:Int)) fun a=>
 A2P b d e 0 a
def A2q (b:List Int) (c:Int) (d:Bool) (e:List A6):Option (List Int):=
 Option.bind (Z8 b c d e) fun a=>
 some a
def Y7 (f:B2) (g:List Int) (d:Int) (e:Bool):Option (List Int):=
 Option.bind (D3 g d e f.V) fun a=>
 Option.bind (D3 a d e f.Bv) fun b=>
 Option.bind (D3 b d e f.Bu) fun c=>
 some c
def B1T (e:Int) (f:Bool) (g:List B2) (b:Int) (a:List Int):Option ((Int×(List Int))⊕(List Int)):=
 cond (decide (b<(g.length:Int))) (
  Option.bind (B9 g b) fun c=>
  Option.bind (Y7 c a e f) fun d=>
  some (.inl ((A1 (b+1)),d)))<|
 Option.map Sum.inr (some a)
def A2e (c:Int) (d:Bool) (e:List B2) (b:Int) (a:List Int):Option (List Int):=
 loop (fun (s:(Int×(List Int)))=>B1T c d e s.1 s.2) (b,a)
def T9 (c:List Int) (b:Int) (d:Bool) (e:List B2):Option (List Int):=
 Option.bind (J6 0 (A1 ((c.length:Int)-b)) c b d (e.length:Int)) fun a=>
 A2e b d e 0 a
def A4l (i:List Int) (f:Int) (g:Bool) (h:B1):Option (List Int):=
 Option.bind (D3 i f g h.T) fun a=>
 Option.bind (D3 a f g h.Bl) fun b=>
 Option.bind (F7 b f g h.Bd) fun c=>
 Option.bind (D3 c f g h.Bi.N) fun d=>
 Option.bind (T9 d f g h.Bi.Ae) fun e=>
 some e
def Z3 (b:B1) (c:List Int) (d:Int) (e:Bool):Option (List Int):=
 Option.bind (A4l c d e (B1.mk b.T b.Bl b.Bd b.Bi)) fun a=>
 some a
def B1P (e:Int) (f:Bool) (g:List B1) (b:Int) (a:List Int):Option ((Int×(List Int))⊕(List Int)):=
 cond (decide (b<(g.length:Int))) (
  Option.bind (B9 g b) fun c=>
  Option.bind (Z3 c a e f) fun d=>
  some (.inl ((A1 (b+1)),d)))<|
 Option.map Sum.inr (some a)
def A2c (c:Int) (d:Bool) (e:List B1) (b:Int) (a:List Int):Option (List Int):=
 loop (fun (s:(Int×(List Int)))=>B1P c d e s.1 s.2) (b,a)
def T7 (c:List Int) (b:Int) (d:Bool) (e:List B1):Option (List Int):=
 Option.bind (J6 0 (A1 ((c.length:Int)-b)) c b d (e.length:Int)) fun a=>
 A2c b d e 0 a
def Y8 (f:G1) (e:List Int) (c:Int) (d:Bool):Option (List Int):=
 Option.bind (D3 e c d f.I) fun a=>
 Option.bind (D3 a c d f.V) fun b=>
 some b
def B2e (e:Int) (f:Bool) (g:List G1) (b:Int) (a:List Int):Option ((Int×(List Int))⊕(List Int)):=
 cond (decide (b<(g.length:Int))) (
  Option.bind (B9 g b) fun c=>
  Option.bind (Y8 c a e f) fun d=>
  some (.inl ((A1 (b+1)),d)))<|
 Option.map Sum.inr (some a)
def A2O (c:Int) (d:Bool) (e:List G1) (b:Int) (a:List Int):Option (List Int):=
 loop (fun (s:(Int×(List Int)))=>B2e c d e s.1 s.2) (b,a)
def V1 (c:List Int) (b:Int) (d:Bool) (e:List G1):Option (List Int):=
 Option.bind (J6 0 (A1 ((c.length:Int)-b)) c b d (e.length:Int)) fun a=>
 A2O b d e 0 a
def A4m (i:List Int) (f:Int) (g:Bool) (h:B5):Option (List Int):=
 Option.bind (D3 i f g h.W) fun a=>
 Option.bind (F7 a f g h.Cap) fun b=>
 Option.bind (D3 b f g h.I) fun c=>
 Option.bind (D3 c f g h.Bm) fun d=>
 Option.bind (V1 d f g h.Bf) fun e=>
 some e
def Z1 (b:B5) (c:List Int) (d:Int) (e:Bool):Option (List Int):=
 Option.bind (A4m c d e (B5.mk b.W b.Cap b.I b.Bm b.Bf)) fun a=>
 some a
def B1R (e:Int) (f:Bool) (g:List B5) (b:Int) (a:List Int):Option ((Int×(List Int))⊕(List Int)):=
 cond (decide (b<(g.length:Int))) (
  Option.bind (B9 g b) fun c=>
  Option.bind (Z1 c a e f) fun d=>
  some (.inl ((A1 (b+1)),d)))<|
 Option.map Sum.inr (some a)
def A2d (c:Int) (d:Bool) (e:List B5) (b:Int) (a:List Int):Option (List Int):=
 loop (fun (s:(Int×(List Int)))=>B1R c d e s.1 s.2) (b,a)
def T8 (c:List Int) (b:Int) (d:Bool) (e:List B5):Option (List Int):=
 Option.bind (J6 0 (A1 ((c.length:Int)-b)) c b d (e.length:Int)) fun a=>
 A2d b d e 0 a
def Z2 (f:E0) (g:List Int) (d:Int) (e:Bool):Option (List Int):=
 Option.bind (D3 g d e f.V) fun a=>
 Option.bind (D3 a d e f.G) fun b=>
 Option.bind (D3 b d e f.D) fun c=>
 some c
def B1V (e:Int) (f:Bool) (g:List E0) (b:Int) (a:List Int):Option ((Int×(List Int))⊕(List Int)):=
 cond (decide (b<(g.length:Int))) (
  Option.bind (B9 g b) fun c=>
  Option.bind (Z2 c a e f) fun d=>
  some (.inl ((A1 (b+1)),d)))<|
 Option.map Sum.inr (some a)
def A2f (c:Int) (d:Bool) (e:List E0) (b:Int) (a:List Int):Option (List Int):=
 loop (fun (s:(Int×(List Int)))=>B1V c d e s.1 s.2) (b,a)
def U0 (c:List Int) (b:Int) (d:Bool) (e:List E0):Option (List Int):=
 Option.bind (J6 0 (A1 ((c.length:Int)-b)) c b d (e.length:Int)) fun a=>
 A2f b d e 0 a
def A2w (b:List Int) (c:Int) (d:Bool) (e:Int):Option (Int×(List Int)):=
 Option.bind (D3 b c d (A1 e)) fun a=>
 some ((A5 (A1 e)),a)
def A0R (e:List Int) (c:Int) (d:Bool) (f:A2):Option (A2×(List Int)):=
 Option.bind (A2w e c d f.Hi) fun a=>
 Option.bind (A2w a.2 c d f.Lo) fun b=>
 some ((A2.mk a.1 b.1),b.2)
def U8 (e:Int) (f:Bool) (g:List A2) (b:Int) (a:List Int):Option ((Int×(List Int))⊕(List Int)):=
 cond (decide (b<(g.length:Int))) (
  Option.bind (B9 g b) fun c=>
  Option.bind (A0R a e f c) fun d=>
  some (.inl ((A1 (b+1)),d.2)))<|
 Option.map Sum.inr (some a)
def A2Q (c:Int) (d:Bool) (e:List A2) (b:Int) (a:List Int):Option (List Int):=
 loop (fun (s:(Int×(List Int)))=>U8 c d e s.1 s.2) (b,a)
def V2 (c:List Int) (b:Int) (d:Bool) (e:List A2):Option (List Int):=
 Option.bind (J6 0 (A1 ((c.length:Int)-b)) c b d (e.length:Int)) fun a=>
 A2Q b d e 0 a
def A5t (c:List Int) (d:Int) (e:Bool) (a:Int):Option (Bool×(List Int)):=
 Option.bind (J6 0 1 c d e a) fun b=>
 some ((a==1),b)
def A4r (a:List Int) (b:Int) (c d:Bool):Option (Bool×(List Int)):=
 cond d (
  A5t a b c 1)<|
 A5t a b c 0
def B4n (e:Int) (f:Bool) (g:List Int) (b:Int) (a:List Int):Option ((Int×(List Int))⊕(List Int)):=
 cond (decide (b<(g.length:Int))) (
  Option.bind (B9 g b) fun c=>
  Option.bind (D3 a e f c) fun d=>
  some (.inl ((A1 (b+1)),d)))<|
 Option.map Sum.inr (some a)
def A4c (c:Int) (d:Bool) (e:List Int) (b:Int) (a:List Int):Option (List Int):=
 loop (fun (s:(Int×(List Int)))=>B4n c d e s.1 s.2) (b,a)
def A09 (c:List Int) (b:Int) (d:Bool) (e:List Int):Option (List Int):=
 Option.bind (J6 0 (A1 ((c.length:Int)-b)) c b d (e.length:Int)) fun a=>
 A4c b d e 0 a
def A4t (b:List Int) (c:Int) (d:Bool) (e:List Int):Option (List Int):=
 Option.bind (A09 b c d e) fun a=>
 some a
def A0M (b0_0:List Int) (b0_1:Int) (b0_3:Bool) (b1:A9):Option (Bool×A9×(List Int)):=
 cond (b1.Ap.Bj==1) (
  Option.bind (D3 b0_0 b0_1 b0_3 b1.Ar.W) fun X=>
  Option.bind (F7 X b0_1 b0_3 b1.Ar.Cap) fun Y=>
  Option.bind (D3 Y b0_1 b0_3 b1.Ar.Now) fun Z=>
  Option.bind (A2o Z b0_1 b0_3 b1.Ar.Bc) fun a0=>
  some (b0_3,(A9.mk b1.Ap b1.Ar b1.Az b1.Sum b1.Au b1.Av b1.Bn b1.Bb b1.Af b1.As b1.Aj b1.Ab),a0))<|
 cond (b1.Ap.Bj==2) (
  Option.bind (D3 b0_0 b0_1 b0_3 b1.Az.W) fun b=>
  Option.bind (F7 b b0_1 b0_3 b1.Az.K) fun c=>
  Option.bind (F7 c b0_1 b0_3 b1.Az.Cap) fun d=>
  Option.bind (D3 d b0_1 b0_3 b1.Az.Now) fun e=>
  Option.bind (A07 e b0_1 b0_3 b1.Az.Ad) fun f=>
  some (b0_3,(A9.mk b1.Ap b1.Ar b1.Az b1.Sum b1.Au b1.Av b1.Bn b1.Bb b1.Af b1.As b1.Aj b1.Ab),f))<|
 cond (b1.Ap.Bj==3) (
  Option.bind (D3 b0_0 b0_1 b0_3 b1.Sum.W) fun g=>
  Option.bind (F7 g b0_1 b0_3 b1.Sum.K) fun h=>
  Option.bind (F7 h b0_1 b0_3 b1.Sum.Cap) fun i=>
  Option.bind (F7 i b0_1 b0_3 b1.Sum.Bu) fun j=>
  Option.bind (D3 j b0_1 b0_3 b1.Sum.Now) fun k=>
  Option.bind (A07 k b0_1 b0_3 b1.Sum.Ad) fun l=>
  some (b0_3,(A9.mk b1.Ap b1.Ar b1.Az b1.Sum b1.Au b1.Av b1.Bn b1.Bb b1.Af b1.As b1.Aj b1.Ab),l))<|
 cond (b1.Ap.Bj==4) (
  Option.bind (F7 b0_0 b0_1 b0_3 b1.Au.Bp) fun m=>
  Option.bind (D3 m b0_1 b0_3 b1.Au.W) fun n=>
  Option.bind (F7 n b0_1 b0_3 b1.Au.K) fun o=>
  Option.bind (F7 o b0_1 b0_3 b1.Au.Cap) fun p=>
  Option.bind (D3 p b0_1 b0_3 b1.Au.Now) fun q=>
  Option.bind (D3 q b0_1 b0_3 b1.Au.Bx) fun r=>
  Option.bind (A2q r b0_1 b0_3 b1.Au.Bg) fun s=>
  some (b0_3,(A9.mk b1.Ap b1.Ar b1.Az b1.Sum b1.Au b1.Av b1.Bn b1.Bb b1.Af b1.As b1.Aj b1.Ab),s))<|
 cond (b1.Ap.Bj==5) (
  Option.bind (D3 b0_0 b0_1 b0_3 b1.Av.W) fun t=>
  Option.bind (F7 t b0_1 b0_3 b1.Av.K) fun u=>
  Option.bind (F7 u b0_1 b0_3 b1.Av.Cap) fun v=>
  Option.bind (D3 v b0_1 b0_3 b1.Av.Now) fun w=>
  Option.bind (D3 w b0_1 b0_3 b1.Av.Bx) fun x=>
  Option.bind (A2q x b0_1 b0_3 b1.Av.Bg) fun y=>
  some (b0_3,(A9.mk b1.Ap b1.Ar b1.Az b1.Sum b1.Au b1.Av b1.Bn b1.Bb b1.Af b1.As b1.Aj b1.Ab),y))<|
 cond (b1.Ap.Bj==6) (
  Option.bind (F7 b0_0 b0_1 b0_3 b1.Bn.P) fun z=>
  Option.bind (D3 z b0_1 b0_3 b1.Bn.Bk) fun A=>
  Option.bind (D3 A b0_1 b0_3 b1.Bn.Now) fun B=>
  Option.bind (V2 B b0_1 b0_3 b1.Bn.Ag) fun C=>
  some (b0_3,(A9.mk b1.Ap b1.Ar b1.Az b1.Sum b1.Au b1.Av b1.Bn b1.Bb b1.Af b1.As b1.Aj b1.Ab),C))<|
 cond (b1.Ap.Bj==7) (
  Option.bind (D3 b0_0 b0_1 b0_3 b1.Bb.Now) fun D=>
  Option.bind (A4t D b0_1 b0_3 b1.Bb.Bo) fun E=>
  some (b0_3,(A9.mk b1.Ap b1.Ar b1.Az b1.Sum b1.Au b1.Av b1.Bn b1.Bb b1.Af b1.As b1.Aj b1.Ab),E))<|
 cond (b1.Ap.Bj==8) (
  Option.bind (A4r b0_0 b0_1 b0_3 b1.Af.Bu) fun a=>
  Option.bind (D3 a.2 b0_1 b0_3 b1.Af.W) fun F=>
  Option.bind (F7 F b0_1 b0_3 b1.Af.Cap) fun G=>
  Option.bind (D3 G b0_1 b0_3 b1.Af.Now) fun H=>
  Option.bind (A2o H b0_1 b0_3 b1.Af.Bc) fun I=>
  some (b0_3,(A9.mk b1.Ap b1.Ar b1.Az b1.Sum b1.Au b1.Av b1.Bn b1.Bb (C2.mk a.1 b1.Af.W b1.Af.Cap b1.Af.Now b1.Af.Bc) b1.As b1.Aj b1.Ab),I))<|
 cond (b1.Ap.Bj==9) (
  Option.bind (T8 b0_0 b0_1 b0_3 b1.As.Ao) fun J=>
  some (b0_3,(A9.mk b1.Ap b1.Ar b1.Az b1.Sum b1.Au b1.Av b1.Bn b1.Bb b1.Af b1.As b1.Aj b1.Ab),J))<|
 cond (b1.Ap.Bj==10) (
  Option.bind (F7 b0_0 b0_1 b0_3 b1.Aj.K) fun L=>
  Option.bind (F7 L b0_1 b0_3 b1.Aj.Cap) fun M=>
  Option.bind (D3 M b0_1 b0_3 b1.Aj.N) fun O=>
  Option.bind (U0 O b0_1 b0_3 b1.Aj.Aw) fun Q=>
  some (b0_3,(A9.mk b1.Ap b1.Ar b1.Az b1.Sum b1.Au b1.Av b1.Bn b1.Bb b1.Af b1.As b1.Aj b1.Ab),Q))<|
 cond (b1.Ap.Bj==11) (
  Option.bind (D3 b0_0 b0_1 b0_3 b1.Ab.W) fun R=>
  Option.bind (F7 R b0_1 b0_3 b1.Ab.K) fun S=>
  Option.bind (F7 S b0_1 b0_3 b1.Ab.Cap) fun T=>
  Option.bind (D3 T b0_1 b0_3 b1.Ab.Now) fun U=>
  Option.bind (T7 U b0_1 b0_3 b1.Ab.Al) fun V=>
  some (b0_3,(A9.mk b1.Ap b1.Ar b1.Az b1.Sum b1.Au b1.Av b1.Bn b1.Bb b1.Af b1.As b1.Aj b1.Ab),V))<|
 some (true,(A9.mk b1.Ap b1.Ar b1.Az b1.Sum b1.Au b1.Av b1.Bn b1.Bb b1.Af b1.As b1.Aj b1.Ab),b0_0)
def Z4 (l:List Int) (i:Int) (j:Bool) (k:B7):Option (List Int):=
 Option.bind (F7 l i j k.Bj) fun a=>
 Option.bind (F7 a i j k.Bp) fun b=>
 Option.bind (D3 b i j k.W) fun c=>
 Option.bind (F7 c i j k.K) fun d=>
 Option.bind (F7 d i j k.Cap) fun e=>
 Option.bind (F7 e i j k.P) fun f=>
 Option.bind (F7 f i j k.Ao) fun g=>
 Option.bind (D3 g i j k.Bu) fun h=>
 some h
def A57 (d e b c:Int):Option (List Int):=
 Option.bind (A1r b c) fun a=>
 some a
def A4W (l:Int) (m:B4) (c:List A7) (a:Int) (d:List Int) (b:Bool):Option (((List A7)×Int×(List Int)×Bool)⊕(Bool×B4×(List Int))):=
 cond ((decide (a<(c.length:Int)))&&(!b)) (
  Option.bind (B9 c a) fun h=>
  Option.bind (B9 c a) fun i=>
  Option.bind (D3 d l b i.ID) fun g=>
  Option.bind (B9 (c.set (a).toNat i) a) fun j=>
  Option.bind (Z4 g l b j.Ac.Ap) fun f=>
  cond (!b) (
   Option.bind (B9 ((c.set (a).toNat i).set (a).toNat j) a) fun k=>
   Option.bind (A0M f l b k.Ac) fun e=>
   some (.inl ((((c.set (a).toNat i).set (a).toNat j).set (a).toNat (A7.mk k.ID e.2.1)),(A1 (a+1)),e.2.2,e.1)))<|
  some (.inl (((c.set (a).toNat i).set (a).toNat j),(A1 (a+1)),f,b)))<|
 Option.map Sum.inr (some (b,(B4.mk m.Now m.Be c),d))
def A2K (e:Int) (f:B4) (c:List A7) (d:Int) (a:List Int) (b:Bool):Option (Bool×B4×(List Int)):=
 loop (fun (s:((List A7)×Int×(List Int)×Bool))=>A4W e f s.1 s.2.1 s.2.2.1 s.2.2.2) (c,d,a,b)
def A0N (f:Int) (e:B4):Option (Bool×B4×(List Int)):=
 Option.bind (A57 1 1 f 1) fun a=>
 Option.bind (I3 a f e.Now) fun b=>
 Option.bind (L3 b f e.Be) fun c=>
 Option.bind (Q6 0 64 c f (e.Ai.length:Int)) fun d=>
 ck (decide (0<=(e.Ai.length:Int)/\(e.Ai.length:Int)<=(e.Ai.length:Int)/\(e.Ai.length:Int)*640<=140737488355328/\(e.Ai.length:Int)<=140737488355328))<|
 A2K f e (laid (List.replicate ((e.Ai.length:Int)).toNat (A7.mk 0 (A9.mk (B7.mk 0 0 0 0 0 0 0 0) (D0.mk 0 0 0 []) (E4.mk 0 0 0 0 []) (F3.mk 0 0 0 0 0 []) (D2.mk 0 0 0 0 0 0 []) (D5.mk 0 0 0 0 0 []) (E2.mk 0 0 0 []) (F4.mk 0 []) (C2.mk false 0 0 0 []) (E7.mk []) (C1.mk 0 0 0 []) (C3.mk 0 0 0 0 [])))) 0 (e.Ai.take (List.replicate ((e.Ai.length:Int)).toNat (A7.mk 0 (A9.mk (B7.mk 0 0 0 0 0 0 0 0) (D0.mk 0 0 0 []) (E4.mk 0 0 0 0 []) (F3.mk 0 0 0 0 0 []) (D2.mk 0 0 0 0 0 0 []) (D5.mk 0 0 0 0 0 []) (E2.mk 0 0 0 []) (F4.mk 0 []) (C2.mk false 0 0 0 []) (E7.mk []) (C1.mk 0 0 0 []) (C3.mk 0 0 0 0 [])))).length)) 0 d false
def Y3 (e:B4):Option ((List Int)×Int):=
 Option.bind (X5 e) fun a=>
 cond (a !=0) (
  some ([],a))<|
 Option.bind (A0N 0 e) fun b=>
 Option.bind (A1E b.2.2) fun d=>
 Option.bind (I6 b.2.2 d) fun c=>
 cond (decide ((c.length:Int)>(1048576:Int))) (
  some ([],5))<|
 some (c,0)
def S4 (b:D8):Option (Int×D8):=
 Option.bind (Y3 b.Aq) fun a=>
 some (a.2,(D8.mk b.Aq b.command_ (F5.mk b.reply_.Code b.reply_.Ak b.reply_.Bt a.1)))
def A3l (d:C2) (e:Int) (a:List A8):Option ((List A8)⊕(C2×Int)):=
 Option.bind (gd (decide ((a.length:Int)>(0:Int))) (B9 a 0)) fun c=>
 let b:=(Q4 e d.W c.T);
 cond ((decide ((a.length:Int)>(0:Int)))&&(!b)) (
  ck (decide (0<=(1:Int)/\1<=(a.length:Int)))<|
  some (.inl (a.drop ((1:Int)).toNat)))<|
 Option.map Sum.inr (ck (decide ((([]:List A8).length+a.length)*16<=140737488355328))<|
 some ((C2.mk d.Bu d.W d.Cap e (([]:List A8)++a)),0))
def A3T (b:C2) (c:Int) (a:List A8):Option (C2×Int):=
 loop (fun (s:(List A8))=>A3l b c s) a
def A59 (c:C2) (d:Int):Option (C2×Int):=
 Option.bind (A0f c) fun a=>
 cond (a !=0) (
  some ((C2.mk false 0 0 0 []),a))<|
 let b:=(R1 c.Now d);
 cond (b.2 !=0) (
  some ((C2.mk false 0 0 0 []),b.2))<|
 A3T c d c.Bc
def A8t (c:F4) (d:Int):Option (F4×Int):=
 Option.bind (A1j c) fun a=>
 cond (a !=0) (
  some ((F4.mk 0 []),a))<|
 let b:=(R1 c.Now d);
 cond (b.2 !=0) (
  some ((F4.mk 0 []),b.2))<|
 ck (decide ((([]:List Int).length+c.Bo.length)*8<=140737488355328))<|
 ck (decide (0<=(A4M (A1 (d-c.Now)) ((([]:List Int)++c.Bo).length:Int))/\(A4M (A1 (d-c.Now)) ((([]:List Int)++c.Bo).length:Int))<=((([]:List Int)++c.Bo).length:Int)))<|
 ck (decide (0<=(A4M (A1 (d-c.Now)) ((([]:List Int)++c.Bo).length:Int))/\(A4M (A1 (d-c.Now)) ((([]:List Int)++c.Bo).length:Int))<=((laid (([]:List Int)++c.Bo) ((A4M (A1 (d-c.Now)) ((([]:List Int)++c.Bo).length:Int))).toNat (c.Bo.take ((([]:List Int)++c.Bo).length-((A4M (A1 (d-c.Now)) ((([]:List Int)++c.Bo).length:Int))).toNat))).length:Int)))<|
 some ((F4.mk d (laid (laid (([]:List Int)++c.Bo) ((A4M (A1 (d-c.Now)) ((([]:List Int)++c.Bo).length:Int))).toNat (c.Bo.take ((([]:List Int)++c.Bo).length-((A4M (A1 (d-c.Now)) ((([]:List Int)++c.Bo).length:Int))).toNat))) 0 (List.replicate ((A4M (A1 (d-c.Now)) ((([]:List Int)++c.Bo).length:Int))).toNat 0))),0)
def A9K (c:E2) (d:Int):Option (E2×Int):=
 Option.bind (A2a c) fun a=>
 cond (a !=0) (
  some ((E2.mk 0 0 0 []),a))<|
 let b:=(R1 c.Now d);
 cond (b.2 !=0) (
  some ((E2.mk 0 0 0 []),b.2))<|
 ck (decide ((([]:List A2).length+c.Ag.length)*16<=140737488355328))<|
 some ((E2.mk c.P c.Bk d (([]:List A2)++c.Ag)),0)
def A5j (e:C3) (f:Int):Option (C3×Int):=
 Option.bind (V5 e) fun a=>
 cond (a !=0) (
  some ((C3.mk 0 0 0 0 []),a))<|
 let b:=(R1 e.Now f);
 cond (b.2 !=0) (
  some ((C3.mk 0 0 0 0 []),b.2))<|
 let c:=(A2S f e.W);
 Option.bind (A3z e.Al c) fun d=>
 some ((C3.mk e.W e.K e.Cap f d),0)
def A65 (e:List A8) (f g:Int) (b:List A8) (a:Int):Option (((List A8)×Int)⊕(List A8)):=
 cond (decide (a<(e.length:Int))) (
  Option.bind (B9 e a) fun c=>
  let d:=(Q4 f g c.T);
  cond d (
   ck (decide ((b.length+ [c].length)*16<=140737488355328))<|
   some (.inl ((b++ [c]),(A1 (a+1)))))<|
  some (.inl (b,(A1 (a+1)))))<|
 Option.map Sum.inr (some b)
def B11 (c:List A8) (d e:Int) (b:List A8) (a:Int):Option (List A8):=
 loop (fun (s:((List A8)×Int))=>A65 c d e s.1 s.2) (b,a)
def B2J (b:List A8) (c d:Int):Option (List A8):=
 Option.bind (B07 b c) fun a=>
 cond (!a) (
  some [])<|
 B11 b c d ([]:List A8) 0
def A7j (d:D0) (e:Int):Option (D0×Int):=
 Option.bind (Y2 d) fun a=>
 cond (a !=0) (
  some ((D0.mk 0 0 0 []),a))<|
 let b:=(R1 d.Now e);
 cond (b.2 !=0) (
  some ((D0.mk 0 0 0 []),b.2))<|
 Option.bind (B2J d.Bc e d.W) fun c=>
 some ((D0.mk d.W d.Cap e c),0)
def A2k (f g:Int) (a:List A6):Option ((List A6)⊕(List A6)):=
 Option.bind (gd (decide ((a.length:Int)>(1:Int))) (B9 a 1)) fun d=>
 let b:=(Q4 f g d.T);
 cond ((decide ((a.length:Int)>(1:Int)))&&(!b)) (
  ck (decide (0<=(1:Int)/\1<=(a.length:Int)))<|
  some (.inl (a.drop ((1:Int)).toNat)))<|
 Option.map Sum.inr (Option.bind (gd ((a.length:Int)==(1:Int)) (B9 a 0)) fun e=>
 let c:=(Q4 f g e.T);
 cond (((a.length:Int)==(1:Int))&&(!c)) (
  some [])<|
 ck (decide ((([]:List A6).length+a.length)*56<=140737488355328))<|
 some (([]:List A6)++a))
def A1k (b c:Int) (a:List A6):Option (List A6):=
 loop (fun (s:(List A6))=>A2k b c s) a
def A18 (a:List A6) (b c:Int):Option (List A6):=
 A1k b c a
def A7w (d:D2) (e:Int):Option (D2×Int):=
 Option.bind (A0F d) fun a=>
 cond (a !=0) (
  some ((D2.mk 0 0 0 0 0 0 []),a))<|
 let b:=(R1 d.Now e);
 cond (b.2 !=0) (
  some ((D2.mk 0 0 0 0 0 0 []),b.2))<|
 Option.bind (A18 d.Bg e d.W) fun c=>
 some ((D2.mk d.Bp d.W d.K d.Cap e d.Bx c),0)
def A7z (d:D5) (e:Int):Option (D5×Int):=
 Option.bind (A0G d) fun a=>
 cond (a !=0) (
  some ((D5.mk 0 0 0 0 0 []),a))<|
 let b:=(R1 d.Now e);
 cond (b.2 !=0) (
  some ((D5.mk 0 0 0 0 0 []),b.2))<|
 Option.bind (A18 d.Bg e d.W) fun c=>
 some ((D5.mk d.W d.K d.Cap e d.Bx c),0)
def B1k (e:F3) (f:Int):Option (F3×Int):=
 Option.bind (A3d e) fun a=>
 cond (a !=0) (
  some ((F3.mk 0 0 0 0 0 []),a))<|
 let b:=(R1 e.Now f);
 cond (b.2 !=0) (
  some ((F3.mk 0 0 0 0 0 []),b.2))<|
 let c:=(A2S f e.W);
 Option.bind (A1d e.Ad c) fun d=>
 some ((F3.mk e.W e.K e.Cap e.Bu f d),0)
def M8 (l:A9) (k:Int) (h:D0) (a:E4) (b:F3) (c:D2) (d:D5) (e:E2) (i:Int) (j:List Int) (f:C2) (g:C3):Option (A9×Int):=
 cond (k !=0) (
  some ((A9.mk (B7.mk 0 0 0 0 0 0 0 0) (D0.mk 0 0 0 []) (E4.mk 0 0 0 0 []) (F3.mk 0 0 0 0 0 []) (D2.mk 0 0 0 0 0 0 []) (D5.mk 0 0 0 0 0 []) (E2.mk 0 0 0 []) (F4.mk 0 []) (C2.mk false 0 0 0 []) (E7.mk []) (C1.mk 0 0 0 []) (C3.mk 0 0 0 0 [])),k))<|
 some ((A9.mk l.Ap h a b c d e (F4.mk i j) f l.As l.Aj g),0)
def A1q (l:A9) (m:Int):Option (A9×Int):=
 Option.bind (N2 l) fun b=>
 cond (b !=0) (
  some ((A9.mk (B7.mk 0 0 0 0 0 0 0 0) (D0.mk 0 0 0 []) (E4.mk 0 0 0 0 []) (F3.mk 0 0 0 0 0 []) (D2.mk 0 0 0 0 0 0 []) (D5.mk 0 0 0 0 0 []) (E2.mk 0 0 0 []) (F4.mk 0 []) (C2.mk false 0 0 0 []) (E7.mk []) (C1.mk 0 0 0 []) (C3.mk 0 0 0 0 [])),b))<|
 cond (l.Ap.Bj==1) (
  Option.bind (A7j l.Ar m) fun j=>
  M8 l j.2 j.1 l.Az l.Sum l.Au l.Av l.Bn l.Bb.Now l.Bb.Bo l.Af l.Ab)<|
 cond (l.Ap.Bj==2) (
  Option.bind (A8n l.Az m) fun c=>
  M8 l c.2 l.Ar c.1 l.Sum l.Au l.Av l.Bn l.Bb.Now l.Bb.Bo l.Af l.Ab)<|
 cond (l.Ap.Bj==3) (
  Option.bind (B1k l.Sum m) fun d=>
  M8 l d.2 l.Ar l.Az d.1 l.Au l.Av l.Bn l.Bb.Now l.Bb.Bo l.Af l.Ab)<|
 cond (l.Ap.Bj==4) (
  Option.bind (A7w l.Au m) fun e=>
  M8 l e.2 l.Ar l.Az l.Sum e.1 l.Av l.Bn l.Bb.Now l.Bb.Bo l.Af l.Ab)<|
 cond (l.Ap.Bj==5) (
  Option.bind (A7z l.Av m) fun f=>
  M8 l f.2 l.Ar l.Az l.Sum l.Au f.1 l.Bn l.Bb.Now l.Bb.Bo l.Af l.Ab)<|
 cond (l.Ap.Bj==6) (
  Option.bind (A9K l.Bn m) fun g=>
  M8 l g.2 l.Ar l.Az l.Sum l.Au l.Av g.1 l.Bb.Now l.Bb.Bo l.Af l.Ab)<|
 cond (l.Ap.Bj==7) (
  Option.bind (A8t l.Bb m) fun a=>
  M8 l a.2 l.Ar l.Az l.Sum l.Au l.Av l.Bn a.1.Now a.1.Bo l.Af l.Ab)<|
 cond (l.Ap.Bj==8) (
  Option.bind (A59 l.Af m) fun h=>
  M8 l h.2 l.Ar l.Az l.Sum l.Au l.Av l.Bn l.Bb.Now l.Bb.Bo h.1 l.Ab)<|
 cond (l.Ap.Bj==11) (
  Option.bind (A5j l.Ab m) fun i=>
  M8 l i.2 l.Ar l.Az l.Sum l.Au l.Av l.Bn l.Bb.Now l.Bb.Bo l.Af i.1)<|
 let k:=(A0c m);
 cond (!k) (
  M8 l 3 l.Ar l.Az l.Sum l.Au l.Av l.Bn l.Bb.Now l.Bb.Bo l.Af l.Ab)<|
 M8 l b l.Ar l.Az l.Sum l.Au l.Av l.Bn l.Bb.Now l.Bb.Bo l.Af l.Ab
def A1Y (h:D8) (b:List A7) (a:Int):Option (((List A7)×Int)⊕(Int×D8)):=
 cond (decide (a<((([]:List A7)++h.Aq.Ai).length:Int))) (
  Option.bind (B9 b a) fun g=>
  Option.bind (B9 b a) fun e=>
  Option.bind (A1q e.Ac h.command_.T) fun c=>
  cond (c.2 !=0) (
   some (.inr (c.2,h)))<|
  Option.bind (B9 b a) fun f=>
  Option.bind (B9 b a) fun d=>
  some (.inl ((b.set (a).toNat (A7.mk d.ID c.1)),(A1 (a+1)))))<|
 Option.map Sum.inr (some (0,(D8.mk (B4.mk h.command_.T h.Aq.Be b) h.command_ h.reply_)))
def A2D (c:D8) (b:List A7) (a:Int):Option (Int×D8):=
 loop (fun (s:((List A7)×Int))=>A1Y c s.1 s.2) (b,a)
def A0J (a:D8):Option (Int×D8):=
 cond ((decide (a.command_.T<a.Aq.Now))||(decide (a.command_.T>16777216))) (
  some (3,a))<|
 ck (decide ((([]:List A7).length+a.Aq.Ai.length)*640<=140737488355328))<|
 A2D a (([]:List A7)++a.Aq.Ai) 0
def X9 (g:Int) (a:B7) (c d:Int) (e:List Int) (b:L9) (f:List Int):Bool:=
 (((((((g==0)&&(a.Bj==0&&(a.Bp==0&&(a.W==0&&(a.K==0&&(a.Cap==0&&(a.P==0&&(a.Ao==0&&(a.Bu==0&&true)))))))))&&(c==0))&&(d==0))&&((e.length:Int)==(0:Int)))&&(b.Op==0&&(b.A==0&&(b.B==0&&true))))&&((f.length:Int)==(0:Int)))
def A1Z (b:B6) (a:Bool):Bool:=
 cond a (
  X9 b.ID b.Ap b.T b.V b.Ba b.Bh b.Ay)<|
 cond (b.Op==8) (
  X9 b.ID b.Ap b.T b.V b.Ba b.Bh [])<|
 false
def A6z (a:B6):Bool:=
 cond (a.Op==1) (
  X9 0 (B7.mk 0 0 0 0 0 0 0 0) a.T a.V a.Ba a.Bh a.Ay)<|
 cond (a.Op==2) (
  X9 0 a.Ap a.T a.V a.Ba a.Bh a.Ay)<|
 cond (a.Op==3) (
  X9 a.ID a.Ap 0 a.V a.Ba a.Bh a.Ay)<|
 cond (a.Op==4) (
  X9 0 a.Ap 0 0 ([]:List Int) a.Bh a.Ay)<|
 cond (a.Op==5) (
  X9 0 a.Ap a.T a.V a.Ba (L9.mk 0 0 0) a.Ay)<|
 cond (a.Op==6) (
  A1Z a (a.Op==6))<|
 A1Z a (a.Op==7)
def I9 (d:B4) (e:B6):Option (B4×F5):=
 Option.bind (X5 d) fun b=>
 cond (b !=0) (
  some (d,(F5.mk b (E3.mk (C9.mk (A4.mk 0 0) (A4.mk 0 0) (A4.mk 0 0)) ([]:List Int) (D7.mk (A2.mk 0 0) (A2.mk 0 0))) ([]:List Int) [])))<|
 let c:=(A6z e);
 cond (!c) (
  some (d,(F5.mk 1 (E3.mk (C9.mk (A4.mk 0 0) (A4.mk 0 0) (A4.mk 0 0)) ([]:List Int) (D7.mk (A2.mk 0 0) (A2.mk 0 0))) ([]:List Int) [])))<|
 cond (e.Op==1) (
  Option.bind (Y5 (D8.mk d e (F5.mk 0 (E3.mk (C9.mk (A4.mk 0 0) (A4.mk 0 0) (A4.mk 0 0)) ([]:List Int) (D7.mk (A2.mk 0 0) (A2.mk 0 0))) ([]:List Int) []))) fun a=>
  cond (a.1 !=0) (
   some (d,(F5.mk a.1 (E3.mk (C9.mk (A4.mk 0 0) (A4.mk 0 0) (A4.mk 0 0)) ([]:List Int) (D7.mk (A2.mk 0 0) (A2.mk 0 0))) ([]:List Int) [])))<|
  some (a.2.Aq,a.2.reply_))<|
 cond (e.Op==2) (
  Option.bind (A0I (D8.mk d e (F5.mk 0 (E3.mk (C9.mk (A4.mk 0 0) (A4.mk 0 0) (A4.mk 0 0)) ([]:List Int) (D7.mk (A2.mk 0 0) (A2.mk 0 0))) ([]:List Int) []))) fun a=>
  cond (a.1 !=0) (
   some (d,(F5.mk a.1 (E3.mk (C9.mk (A4.mk 0 0) (A4.mk 0 0) (A4.mk 0 0)) ([]:List Int) (D7.mk (A2.mk 0 0) (A2.mk 0 0))) ([]:List Int) [])))<|
  some (a.2.Aq,a.2.reply_))<|
 cond (e.Op==3) (
  Option.bind (A0J (D8.mk d e (F5.mk 0 (E3.mk (C9.mk (A4.mk 0 0) (A4.mk 0 0) (A4.mk 0 0)) ([]:List Int) (D7.mk (A2.mk 0 0) (A2.mk 0 0))) ([]:List Int) []))) fun a=>
  cond (a.1 !=0) (
   some (d,(F5.mk a.1 (E3.mk (C9.mk (A4.mk 0 0) (A4.mk 0 0) (A4.mk 0 0)) ([]:List Int) (D7.mk (A2.mk 0 0) (A2.mk 0 0))) ([]:List Int) [])))<|
  some (a.2.Aq,a.2.reply_))<|
 cond (e.Op==4) (
  Option.bind (A1h (D8.mk d e (F5.mk 0 (E3.mk (C9.mk (A4.mk 0 0) (A4.mk 0 0) (A4.mk 0 0)) ([]:List Int) (D7.mk (A2.mk 0 0) (A2.mk 0 0))) ([]:List Int) []))) fun a=>
  cond (a.1 !=0) (
   some (d,(F5.mk a.1 (E3.mk (C9.mk (A4.mk 0 0) (A4.mk 0 0) (A4.mk 0 0)) ([]:List Int) (D7.mk (A2.mk 0 0) (A2.mk 0 0))) ([]:List Int) [])))<|
  some (a.2.Aq,a.2.reply_))<|
 cond (e.Op==5) (
  Option.bind (A1i (D8.mk d e (F5.mk 0 (E3.mk (C9.mk (A4.mk 0 0) (A4.mk 0 0) (A4.mk 0 0)) ([]:List Int) (D7.mk (A2.mk 0 0) (A2.mk 0 0))) ([]:List Int) []))) fun a=>
  cond (a.1 !=0) (
   some (d,(F5.mk a.1 (E3.mk (C9.mk (A4.mk 0 0) (A4.mk 0 0) (A4.mk 0 0)) ([]:List Int) (D7.mk (A2.mk 0 0) (A2.mk 0 0))) ([]:List Int) [])))<|
  some (a.2.Aq,a.2.reply_))<|
 cond (e.Op==6) (
  Option.bind (X2 (D8.mk d e (F5.mk 0 (E3.mk (C9.mk (A4.mk 0 0) (A4.mk 0 0) (A4.mk 0 0)) ([]:List Int) (D7.mk (A2.mk 0 0) (A2.mk 0 0))) ([]:List Int) []))) fun a=>
  cond (a.1 !=0) (
   some (d,(F5.mk a.1 (E3.mk (C9.mk (A4.mk 0 0) (A4.mk 0 0) (A4.mk 0 0)) ([]:List Int) (D7.mk (A2.mk 0 0) (A2.mk 0 0))) ([]:List Int) [])))<|
  some (a.2.Aq,a.2.reply_))<|
 cond (e.Op==7) (
  Option.bind (S4 (D8.mk d e (F5.mk 0 (E3.mk (C9.mk (A4.mk 0 0) (A4.mk 0 0) (A4.mk 0 0)) ([]:List Int) (D7.mk (A2.mk 0 0) (A2.mk 0 0))) ([]:List Int) []))) fun a=>
  cond (a.1 !=0) (
   some (d,(F5.mk a.1 (E3.mk (C9.mk (A4.mk 0 0) (A4.mk 0 0) (A4.mk 0 0)) ([]:List Int) (D7.mk (A2.mk 0 0) (A2.mk 0 0))) ([]:List Int) [])))<|
  some (a.2.Aq,a.2.reply_))<|
 cond (e.Op==8) (
  Option.bind (A4g (D8.mk d e (F5.mk 0 (E3.mk (C9.mk (A4.mk 0 0) (A4.mk 0 0) (A4.mk 0 0)) ([]:List Int) (D7.mk (A2.mk 0 0) (A2.mk 0 0))) ([]:List Int) []))) fun a=>
  cond (a.1 !=0) (
   some (d,(F5.mk a.1 (E3.mk (C9.mk (A4.mk 0 0) (A4.mk 0 0) (A4.mk 0 0)) ([]:List Int) (D7.mk (A2.mk 0 0) (A2.mk 0 0))) ([]:List Int) [])))<|
  some (a.2.Aq,a.2.reply_))<|
 none
def B33 (f:E7) (g:Int) (h:List Int) (c a:Int):Option ((Int×Int)⊕(Int×Bool)):=
 cond (decide (a<(f.Ao.length:Int))) (
  Option.bind (B9 f.Ao a) fun d=>
  Option.bind (B04 d g h c) fun e=>
  cond e.2 (
   some (.inr (e.1,true)))<|
  Option.bind (B1u d g h c) fun b=>
  cond (b.2.2 !=0) (
   some (.inr (0,false)))<|
  some (.inl (b.2.1,(A1 (a+1)))))<|
 Option.map Sum.inr (some (0,false))
def B41 (c:E7) (d:Int) (e:List Int) (b a:Int):Option (Int×Bool):=
 loop (fun (s:(Int×Int))=>B33 c d e s.1 s.2) (b,a)
def A6P (b:E7) (c:Int) (d:List Int):Option (Int×Bool):=
 Option.bind (Q0 b) fun a=>
 cond (a !=0) (
  some (0,false))<|
 B41 b c d 0 0
def B0R (c:A9) (d:Int) (e:List Int):Option (Int×Bool):=
 Option.bind (gd (!(c.Ap.Bj !=9)) (N2 c)) fun b=>
 cond ((c.Ap.Bj !=9)||(b !=0)) (
  some (0,false))<|
 Option.bind (A6P c.As d e) fun a=>
 some (a.1,a.2)
def A9x (f:B4) (e:B6):Option (Int×Bool):=
 cond (e.Op !=4) (
  some (0,false))<|
 Option.bind (I9 f e) fun c=>
 cond (c.2.Code !=8) (
  some (0,false))<|
 Option.bind (A0Y f.Ai e.ID) fun b=>
 cond (!b.2) (
  some (0,false))<|
 Option.bind (B9 f.Ai b.1) fun d=>
 Option.bind (B0R d.Ac e.V e.Ba) fun a=>
 some (a.1,a.2)
def C1c (a:Int):(B4×Int):=
 cond ((decide (a<1))||(decide (a>64))) (
  ((B4.mk 0 0 []),1))<|
 ((B4.mk 0 a []),0)
def S8 (b a:Int):Option Int:=
 ck (decide (a≠0))<|
 cond (decide ((Int.tmod b a)<0)) (
  some (A1 ((Int.tmod b a)+a)))<|
 some (Int.tmod b a)
def B5h (c:Int) (a:Bool):Option Int:=
 cond a (
  Option.bind (S8 (A1 (Int.tdiv c 8)) 3) fun b=>
  some (A1 (1+b)))<|
 some 0
def C0B (c d:Int):Option Int:=
 Option.bind (S8 c 8) fun a=>
 cond (a==0) (
  Option.bind (S8 (A1 (Int.tdiv c 8)) (A1 ((A1 (2*d))+2))) fun b=>
  some b)<|
 cond (a==1) (
  B5h c (a==1))<|
 B5h c (a==2)
def A3a (b c:Int):Option Int:=
 Option.bind (S8 b c) fun a=>
 some a
def B6C (a:List Int):V4:=
 (V4.mk a 0)
def A21 (c:V4) (d:Int):Option (Int×V4):=
 cond (decide (c.At>=(c.L.length:Int))) (
  some (0,c))<|
 Option.bind (B9 c.L (A1 ((A1 (c.At+(1:Int)))-(1:Int)))) fun b=>
 Option.bind (S8 b d) fun a=>
 some (a,(V4.mk c.L (A1 (c.At+1))))
def B2P (e:Int):Option Int:=
 Option.bind (S8 e 8) fun a=>
 cond (a==0) (
  Option.bind (S8 (A1 (Int.tdiv e 8)) 8193) fun b=>
  some (A1 (b-4096)))<|
 cond (a==1) (
  Option.bind (S8 (A1 (Int.tdiv e 8)) 2) fun c=>
  some (A1 (4096*(A1 ((A1 (2*c))-1)))))<|
 Option.bind (S8 (A1 (Int.tdiv e 8)) 13) fun d=>
 some (A1 (d-6))
def A9f (a:Int):Int:=
 cond (decide (a<0)) (
  (A5 ((A5 (IntKind.i64.wrap (0-(A1 (a+(1:Int))))))+(1:Int))))<|
 (A5 a)
def A7k (a b:Int):Option ((Int×Int)⊕Int):=
 cond (decide (a>0)) (
  some (.inl ((A1 (Int.tdiv a 2)),(A1 (b+1)))))<|
 Option.map Sum.inr (some b)
def A8y (a b:Int):Option Int:=
 loop (fun (s:(Int×Int))=>A7k s.1 s.2) (a,b)
def B6N (a:Int):Option Int:=
 A8y a 0
def B1H (b a:Int):(Int×Bool):=
 cond (((decide (a<0))&&(decide (b>(A1 (9223372036854775807+a)))))||((decide (a>0))&&(decide (b<(A1 ((-9223372036854775808:Int)+a)))))) (
  (0,false))<|
 ((A1 (b-a)),true)
def A5C (a b:A2):Int:=
 cond ((decide (a.Hi<b.Hi))||((a.Hi==b.Hi)&&(decide (a.Lo<b.Lo)))) (
  (-1:Int))<|
 cond (a.Hi==b.Hi&&(a.Lo==b.Lo&&true)) (
  0)<|
 1
def S9 (a:Int):A2:=
 (A2.mk 0 a)
def S6 (b c:Int):A2:=
 let a:=(Y1 b c);
 (A2.mk a.1 a.2)
def C3Z (b:A2) (a:Int):Option Int:=
 cond (decide (a>=64)) (
  ck (decide (0<=(A5 (A1 (a-64)))))<|
  some (P7 .u64 (G0 .u64 b.Hi (A5 (A1 (a-64)))) 1))<|
 ck (decide (0<=(A5 a)))<|
 some (P7 .u64 (G0 .u64 b.Lo (A5 a)) 1)
def B31 (a:A2) (b:Int):(A2×Int):=
 ((A2.mk (N8 .u64 (E5 .u64 a.Hi 1) (G0 .u64 a.Lo 63)) (N8 .u64 (E5 .u64 a.Lo 1) b)),(G0 .u64 a.Hi 63))
def A5U (d e:List A8) (a:Int):Option (Int⊕Bool):=
 cond (decide (a<(d.length:Int))) (
  Option.bind (B9 d a) fun b=>
  Option.bind (B9 e a) fun c=>
  cond (!(b.T==c.T&&(b.V==c.V&&true))) (
   some (.inr false))<|
  some (.inl (A1 (a+1))))<|
 Option.map Sum.inr (some true)
def A6M (b c:List A8) (a:Int):Option Bool:=
 loop (fun (s:Int)=>A5U b c s) a
def A3W (a b:List A8):Option Bool:=
 cond ((a.length:Int) !=(b.length:Int)) (
  some false)<|
 A6M a b 0
def B2W (b a:Int):Int:=
 cond ((decide (a<b))||(decide (a>16777216))) (
  3)<|
 0
def H4 (a:Int):Bool:=
 ((decide (a>=0))&&(decide (a<=16777216)))
def Q2 (a:Int):Bool:=
 ((decide (a>=1))&&(decide (a<=1048576)))
def P4 (c d:Int):Int:=
 let a:=(H4 c);
 let b:=(Q2 d);
 cond ((!a)||(!b)) (
 (-1:Int))<|
 (A0t 0 (A1 ((A1 (c-d))+1)))
def F9 (d f e:Int):Bool:=
 let a:=(H4 d);
 let b:=(Q2 f);
 let c:=(H4 e);
 ((((a&&b)&&c)&&(decide (e>(A1 (d-f)))))&&(decide (e<=d)))
def A9S (d:List A8) (e a:Int):Option (Int⊕Bool):=
 cond (decide (a<(d.length:Int))) (
  Option.bind (B9 d a) fun b=>
  Option.bind (gd ((!((decide (b.T<0))||(decide (b.T>e))))&&(decide (a>0))) (B9 d (A1 (a-1)))) fun c=>
  cond (((decide (b.T<0))||(decide (b.T>e)))||((decide (a>0))&&(decide (c.T>b.T)))) (
   some (.inr false))<|
  some (.inl (A1 (a+1))))<|
 Option.map Sum.inr (some true)
def B0J (b:List A8) (c a:Int):Option Bool:=
 loop (fun (s:Int)=>A9S b c s) a
def B1h (c:List A8) (b:Int):Option Bool:=
 let a:=(H4 b);
 cond (!a) (
  some false)<|
 B0J c b 0
def R7 (d c e:Int):Bool:=
 let b:=(Q2 d);
 let a:=(H4 e);
 (((b&&(decide (c>=1)))&&(decide (c<=65536)))&&a)
def B2X (b c:D0):Option Bool:=
 Option.bind (gd (((b.W==c.W)&&(b.Cap==c.Cap))&&(b.Now==c.Now)) (A3W b.Bc c.Bc)) fun a=>
 some ((((b.W==c.W)&&(b.Cap==c.Cap))&&(b.Now==c.Now))&&a)
def A4T (d e:List Int) (a:Int):Option (Int⊕Bool):=
 cond (decide (a<(d.length:Int))) (
  Option.bind (B9 d a) fun b=>
  Option.bind (B9 e a) fun c=>
  cond (b !=c) (
   some (.inr false))<|
  some (.inl (A1 (a+1))))<|
 Option.map Sum.inr (some true)
def A5l (b c:List Int) (a:Int):Option Bool:=
 loop (fun (s:Int)=>A4T b c s) a
def A2n (a b:List Int):Option Bool:=
 cond ((a.length:Int) !=(b.length:Int)) (
  some false)<|
 A5l a b 0
def M6 (a:Int):Bool:=
 ((decide (a>=(-4096:Int)))&&(decide (a<=4096)))
def A1I (e:D0) (a:Int):Option (Int⊕Int):=
 cond (decide (a<(e.Bc.length:Int))) (
  Option.bind (B9 e.Bc a) fun b=>
  let d:=(F9 e.Now e.W b.T);
  let c:=(M6 b.V);
  cond ((!d)||(!c)) (
   some (.inr 2))<|
  some (.inl (A1 (a+1))))<|
 Option.map Sum.inr (some 0)
def A4j (b:D0) (a:Int):Option Int:=
 loop (fun (s:Int)=>A1I b s) a
def A4U (c:D0):Option Int:=
 let a:=(R7 c.W c.Cap c.Now);
 Option.bind (gd (!((!a)||(decide ((c.Bc.length:Int)>c.Cap)))) (B1h c.Bc c.Now)) fun b=>
 cond (((!a)||(decide ((c.Bc.length:Int)>c.Cap)))||(!b)) (
  some 2)<|
 A4j c 0
def A7l (d e:List A3) (a:Int):Option (Int⊕Bool):=
 cond (decide (a<(d.length:Int))) (
  Option.bind (B9 d a) fun b=>
  Option.bind (B9 e a) fun c=>
  cond (!(b.T==c.T&&(b.Bd==c.Bd&&true))) (
   some (.inr false))<|
  some (.inl (A1 (a+1))))<|
 Option.map Sum.inr (some true)
def B7q (b c:List A3) (a:Int):Option Bool:=
 loop (fun (s:Int)=>A7l b c s) a
def A9T (a b:List A3):Option Bool:=
 cond ((a.length:Int) !=(b.length:Int)) (
  some false)<|
 B7q a b 0
def A6e (d:List A3) (c a:Int):Option ((Int×Int)⊕Int):=
 cond (decide (a<(d.length:Int))) (
  Option.bind (B9 d a) fun b=>
  cond ((decide (b.Bd>=0))&&(decide (b.Bd<=30))) (
   ck (decide (0<=(A5 b.Bd)))<|
   some (.inl ((A1 (c+(E5 .i64 1 (A5 b.Bd)))),(A1 (a+1)))))<|
  some (.inl (c,(A1 (a+1)))))<|
 Option.map Sum.inr (some c)
def B57 (c:List A3) (a b:Int):Option Int:=
 loop (fun (s:(Int×Int))=>A6e c s.1 s.2) (a,b)
def A8c (a:List A3):Option Int:=
 B57 a 0 0
def U3 (a:Int):Bool:=
 ((decide (a>=1))&&(decide (a<=64)))
def B2Y (b c:E4):Option Bool:=
 Option.bind (gd ((((b.W==c.W)&&(b.K==c.K))&&(b.Cap==c.Cap))&&(b.Now==c.Now)) (A9T b.Ad c.Ad)) fun a=>
 some (((((b.W==c.W)&&(b.K==c.K))&&(b.Cap==c.Cap))&&(b.Now==c.Now))&&a)
def B2Z (b c:F3):Option Bool:=
 Option.bind (gd (((((b.W==c.W)&&(b.K==c.K))&&(b.Cap==c.Cap))&&(b.Bu==c.Bu))&&(b.Now==c.Now)) (A9T b.Ad c.Ad)) fun a=>
 some ((((((b.W==c.W)&&(b.K==c.K))&&(b.Cap==c.Cap))&&(b.Bu==c.Bu))&&(b.Now==c.Now))&&a)
def B99:Int:=
 0
def A8Y (b:A6) (c:Int):Int:=
 cond (c==1) (
  b.N)<|
 cond (c==2) (
  b.S)<|
 cond (c==3) (
  b.Q)<|
 cond (c==4) (
  let a:=(B1H b.Bu b.Bv);
  cond a.2 (
   a.1)<|
  B99)<|
 B99
def A3n (d e:List A6) (c:Int):Option (Int⊕Bool):=
 cond (decide (c<(d.length:Int))) (
  Option.bind (B9 d c) fun a=>
  Option.bind (B9 e c) fun b=>
  cond (!(a.Bx==b.Bx&&(a.T==b.T&&(a.N==b.N&&(a.S==b.S&&(a.Q==b.Q&&(a.Bv==b.Bv&&(a.Bu==b.Bu&&true)))))))) (
   some (.inr false))<|
  some (.inl (A1 (c+1))))<|
 Option.map Sum.inr (some true)
def B1I (b c:List A6) (a:Int):Option Bool:=
 loop (fun (s:Int)=>A3n b c s) a
def A3X (a b:List A6):Option Bool:=
 cond ((a.length:Int) !=(b.length:Int)) (
  some false)<|
 B1I a b 0
def B20 (b c:D2):Option Bool:=
 Option.bind (gd ((((((b.Bp==c.Bp)&&(b.W==c.W))&&(b.K==c.K))&&(b.Cap==c.Cap))&&(b.Now==c.Now))&&(b.Bx==c.Bx)) (A3X b.Bg c.Bg)) fun a=>
 some (((((((b.Bp==c.Bp)&&(b.W==c.W))&&(b.K==c.K))&&(b.Cap==c.Cap))&&(b.Now==c.Now))&&(b.Bx==c.Bx))&&a)
def A3Y (a:A6):Bool:=
 (((((((decide (a.N>=1))&&(decide (a.N<=65536)))&&(decide (a.S>=(A1 ((IntKind.i64.wrap (0-a.N))*4096)))))&&(decide (a.S<=(A1 (a.N*4096)))))&&(decide (a.Q>=0)))&&(decide (a.Q<=(A1 ((A1 (a.N*(4096:Int)))*(4096:Int))))))&&(decide ((A1 (a.S*a.S))<=(A1 (a.N*a.Q)))))
def B21 (b c:D5):Option Bool:=
 Option.bind (gd (((((b.W==c.W)&&(b.K==c.K))&&(b.Cap==c.Cap))&&(b.Now==c.Now))&&(b.Bx==c.Bx)) (A3X b.Bg c.Bg)) fun a=>
 some ((((((b.W==c.W)&&(b.K==c.K))&&(b.Cap==c.Cap))&&(b.Now==c.Now))&&(b.Bx==c.Bx))&&a)
def C30 (b c:Int):Option (E2×Int):=
 let a:=(H4 c);
 cond (((decide (b<0))||(decide (b>4)))||(!a)) (
  some ((E2.mk 0 0 0 []),1))<|
 ck (decide (0<=(A1 (b+1))/\(A1 (b+1))<=(A1 (b+1))/\(A1 (b+(1:Int)))*16<=140737488355328/\(A1 (b+(1:Int)))<=140737488355328))<|
 some ((E2.mk b c c (List.replicate ((A1 (b+(1:Int)))).toNat (A2.mk 0 0))),0)
def A3Z (d e:List A2) (a:Int):Option (Int⊕Bool):=
 cond (decide (a<(d.length:Int))) (
  Option.bind (B9 d a) fun b=>
  Option.bind (B9 e a) fun c=>
  cond (!(b.Hi==c.Hi&&(b.Lo==c.Lo&&true))) (
   some (.inr false))<|
  some (.inl (A1 (a+1))))<|
 Option.map Sum.inr (some true)
def B2B (b c:List A2) (a:Int):Option Bool:=
 loop (fun (s:Int)=>A3Z b c s) a
def A7m (a b:List A2):Option Bool:=
 cond ((a.length:Int) !=(b.length:Int)) (
  some false)<|
 B2B a b 0
def B22 (b c:E2):Option Bool:=
 Option.bind (gd (((b.P==c.P)&&(b.Bk==c.Bk))&&(b.Now==c.Now)) (A7m b.Ag c.Ag)) fun a=>
 some ((((b.P==c.P)&&(b.Bk==c.Bk))&&(b.Now==c.Now))&&a)
def B23 (b c:F4):Option Bool:=
 Option.bind (gd (b.Now==c.Now) (A2n b.Bo c.Bo)) fun a=>
 some ((b.Now==c.Now)&&a)
def B24 (b c:C2):Option Bool:=
 Option.bind (gd ((((b.Bu==c.Bu)&&(b.W==c.W))&&(b.Cap==c.Cap))&&(b.Now==c.Now)) (A3W b.Bc c.Bc)) fun a=>
 some (((((b.Bu==c.Bu)&&(b.W==c.W))&&(b.Cap==c.Cap))&&(b.Now==c.Now))&&a)
def B0K (d e:B5) (a:Int):Option (Int⊕Bool):=
 cond (decide (a<(d.Bf.length:Int))) (
  Option.bind (B9 d.Bf a) fun b=>
  Option.bind (B9 e.Bf a) fun c=>
  cond (!(b.I==c.I&&(b.V==c.V&&true))) (
   some (.inr false))<|
  some (.inl (A1 (a+1))))<|
 Option.map Sum.inr (some true)
def B18 (b c:B5) (a:Int):Option Bool:=
 loop (fun (s:Int)=>B0K b c s) a
def B25 (a b:B5):Option Bool:=
 cond (((((a.W !=b.W)||(a.Cap !=b.Cap))||(a.I !=b.I))||(a.Bm !=b.Bm))||((a.Bf.length:Int) !=(b.Bf.length:Int))) (
  some false)<|
 B18 a b 0
def B0L (e f:E7) (a:Int):Option (Int⊕Bool):=
 cond (decide (a<(e.Ao.length:Int))) (
  Option.bind (B9 e.Ao a) fun c=>
  Option.bind (B9 f.Ao a) fun d=>
  Option.bind (B25 c d) fun b=>
  cond (!b) (
   some (.inr false))<|
  some (.inl (A1 (a+1))))<|
 Option.map Sum.inr (some true)
def B19 (b c:E7) (a:Int):Option Bool:=
 loop (fun (s:Int)=>B0L b c s) a
def B26 (a b:E7):Option Bool:=
 cond ((a.Ao.length:Int) !=(b.Ao.length:Int)) (
  some false)<|
 B19 a b 0
def A7n (d e:C1) (a:Int):Option (Int⊕Bool):=
 cond (decide (a<(d.Aw.length:Int))) (
  Option.bind (B9 d.Aw a) fun b=>
  Option.bind (B9 e.Aw a) fun c=>
  cond (!(b.V==c.V&&(b.G==c.G&&(b.D==c.D&&true)))) (
   some (.inr false))<|
  some (.inl (A1 (a+1))))<|
 Option.map Sum.inr (some true)
def B7r (b c:C1) (a:Int):Option Bool:=
 loop (fun (s:Int)=>A7n b c s) a
def B27 (a b:C1):Option Bool:=
 cond ((((a.K !=b.K)||(a.Cap !=b.Cap))||(a.N !=b.N))||((a.Aw.length:Int) !=(b.Aw.length:Int))) (
  some false)<|
 B7r a b 0
def A7o (d e:D4) (a:Int):Option (Int⊕Bool):=
 cond (decide (a<(d.Ae.length:Int))) (
  Option.bind (B9 d.Ae a) fun b=>
  Option.bind (B9 e.Ae a) fun c=>
  cond (!(b.V==c.V&&(b.Bv==c.Bv&&(b.Bu==c.Bu&&true)))) (
   some (.inr false))<|
  some (.inl (A1 (a+1))))<|
 Option.map Sum.inr (some true)
def B7s (b c:D4) (a:Int):Option Bool:=
 loop (fun (s:Int)=>A7o b c s) a
def B28 (a b:D4):Option Bool:=
 cond ((a.N !=b.N)||((a.Ae.length:Int) !=(b.Ae.length:Int))) (
  some false)<|
 B7s a b 0
def A7p (k l:List B1) (a:Int):Option (Int⊕Bool):=
 cond (decide (a<(k.length:Int))) (
  Option.bind (B9 k a) fun b=>
  Option.bind (B9 l a) fun c=>
  Option.bind (gd (!(b.T !=c.T)) (B9 k a)) fun d=>
  Option.bind (gd (!(b.T !=c.T)) (B9 l a)) fun e=>
  Option.bind (gd (!((b.T !=c.T)||(d.Bl !=e.Bl))) (B9 k a)) fun f=>
  Option.bind (gd (!((b.T !=c.T)||(d.Bl !=e.Bl))) (B9 l a)) fun g=>
  Option.bind (gd (!(((b.T !=c.T)||(d.Bl !=e.Bl))||(f.Bd !=g.Bd))) (B9 k a)) fun h=>
  Option.bind (gd (!(((b.T !=c.T)||(d.Bl !=e.Bl))||(f.Bd !=g.Bd))) (B9 l a)) fun i=>
  Option.bind (gd (!(((b.T !=c.T)||(d.Bl !=e.Bl))||(f.Bd !=g.Bd))) (B28 h.Bi i.Bi)) fun j=>
  cond ((((b.T !=c.T)||(d.Bl !=e.Bl))||(f.Bd !=g.Bd))||(!j)) (
   some (.inr false))<|
  some (.inl (A1 (a+1))))<|
 Option.map Sum.inr (some true)
def B7t (b c:List B1) (a:Int):Option Bool:=
 loop (fun (s:Int)=>A7p b c s) a
def B29 (a b:List B1):Option Bool:=
 cond ((a.length:Int) !=(b.length:Int)) (
  some false)<|
 B7t a b 0
def B3a (b c:C3):Option Bool:=
 Option.bind (gd ((((b.W==c.W)&&(b.K==c.K))&&(b.Cap==c.Cap))&&(b.Now==c.Now)) (B29 b.Al c.Al)) fun a=>
 some (((((b.W==c.W)&&(b.K==c.K))&&(b.Cap==c.Cap))&&(b.Now==c.Now))&&a)
def A5m (d c:Int):Option Int:=
 let a:=(U3 d);
 cond (((!a)||(decide (c<1)))||(decide (c>65536))) (
  some 0)<|
 Option.bind (B6N c) fun b=>
 some (A1 ((A1 (2*d))*(A1 (b+2))))
def V0 (h:B7) (a b c d e f g:Int):B7:=
 (B7.mk h.Bj a b c d e f g)
def A22 (b:B7) (a:Bool):B7:=
 cond a (
  V0 b 0 b.W b.K b.Cap 0 0 0)<|
 cond (b.Bj==3) (
  V0 b 0 b.W b.K b.Cap 0 0 b.Bu)<|
 cond (b.Bj==4) (
  V0 b b.Bp b.W b.K b.Cap 0 0 0)<|
 cond (b.Bj==6) (
  V0 b 0 0 0 0 b.P 0 0)<|
 cond (b.Bj==7) (
  V0 b 0 b.W 0 0 0 0 0)<|
 cond (b.Bj==8) (
  V0 b 0 b.W 0 b.Cap 0 0 b.Bu)<|
 cond (b.Bj==9) (
  V0 b 0 b.W 0 b.Cap 0 b.Ao 0)<|
 cond (b.Bj==10) (
  V0 b 0 0 b.K b.Cap 0 0 0)<|
 V0 b 0 0 0 0 0 0 0
def A5O (a:B7):B7:=
 cond (a.Bj==1) (
  V0 a 0 a.W 0 a.Cap 0 0 0)<|
 cond (a.Bj==2) (
  A22 a (a.Bj==2))<|
 cond (a.Bj==5) (
  A22 a (a.Bj==5))<|
 A22 a (a.Bj==11)
def K3 (a:A9):(Int×Bool):=
 cond (a.Ap.Bj==1) (
  (a.Ar.Now,true))<|
 cond (a.Ap.Bj==2) (
  (a.Az.Now,true))<|
 cond (a.Ap.Bj==3) (
  (a.Sum.Now,true))<|
 cond (a.Ap.Bj==4) (
  (a.Au.Now,true))<|
 cond (a.Ap.Bj==5) (
  (a.Av.Now,true))<|
 cond (a.Ap.Bj==6) (
  (a.Bn.Now,true))<|
 cond (a.Ap.Bj==7) (
  (a.Bb.Now,true))<|
 cond (a.Ap.Bj==8) (
  (a.Af.Now,true))<|
 cond (a.Ap.Bj==11) (
  (a.Ab.Now,true))<|
 (0,false)
def A9V (l m:A9):Option Bool:=
 Option.bind (gd (l.Ap.Bj==m.Ap.Bj&&(l.Ap.Bp==m.Ap.Bp&&(l.Ap.W==m.Ap.W&&(l.Ap.K==m.Ap.K&&(l.Ap.Cap==m.Ap.Cap&&(l.Ap.P==m.Ap.P&&(l.Ap.Ao==m.Ap.Ao&&(l.Ap.Bu==m.Ap.Bu&&true)))))))) (B2X l.Ar m.Ar)) fun a=>
 Option.bind (gd ((l.Ap.Bj==m.Ap.Bj&&(l.Ap.Bp==m.Ap.Bp&&(l.Ap.W==m.Ap.W&&(l.Ap.K==m.Ap.K&&(l.Ap.Cap==m.Ap.Cap&&(l.Ap.P==m.Ap.P&&(l.Ap.Ao==m.Ap.Ao&&(l.Ap.Bu==m.Ap.Bu&&true))))))))&&a) (B2Y l.Az m.Az)) fun b=>
 Option.bind (gd (((l.Ap.Bj==m.Ap.Bj&&(l.Ap.Bp==m.Ap.Bp&&(l.Ap.W==m.Ap.W&&(l.Ap.K==m.Ap.K&&(l.Ap.Cap==m.Ap.Cap&&(l.Ap.P==m.Ap.P&&(l.Ap.Ao==m.Ap.Ao&&(l.Ap.Bu==m.Ap.Bu&&true))))))))&&a)&&b) (B2Z l.Sum m.Sum)) fun c=>
 Option.bind (gd ((((l.Ap.Bj==m.Ap.Bj&&(l.Ap.Bp==m.Ap.Bp&&(l.Ap.W==m.Ap.W&&(l.Ap.K==m.Ap.K&&(l.Ap.Cap==m.Ap.Cap&&(l.Ap.P==m.Ap.P&&(l.Ap.Ao==m.Ap.Ao&&(l.Ap.Bu==m.Ap.Bu&&true))))))))&&a)&&b)&&c) (B20 l.Au m.Au)) fun d=>
 Option.bind (gd (((((l.Ap.Bj==m.Ap.Bj&&(l.Ap.Bp==m.Ap.Bp&&(l.Ap.W==m.Ap.W&&(l.Ap.K==m.Ap.K&&(l.Ap.Cap==m.Ap.Cap&&(l.Ap.P==m.Ap.P&&(l.Ap.Ao==m.Ap.Ao&&(l.Ap.Bu==m.Ap.Bu&&true))))))))&&a)&&b)&&c)&&d) (B21 l.Av m.Av)) fun e=>
 Option.bind (gd ((((((l.Ap.Bj==m.Ap.Bj&&(l.Ap.Bp==m.Ap.Bp&&(l.Ap.W==m.Ap.W&&(l.Ap.K==m.Ap.K&&(l.Ap.Cap==m.Ap.Cap&&(l.Ap.P==m.Ap.P&&(l.Ap.Ao==m.Ap.Ao&&(l.Ap.Bu==m.Ap.Bu&&true))))))))&&a)&&b)&&c)&&d)&&e) (B22 l.Bn m.Bn)) fun f=>
 Option.bind (gd (((((((l.Ap.Bj==m.Ap.Bj&&(l.Ap.Bp==m.Ap.Bp&&(l.Ap.W==m.Ap.W&&(l.Ap.K==m.Ap.K&&(l.Ap.Cap==m.Ap.Cap&&(l.Ap.P==m.Ap.P&&(l.Ap.Ao==m.Ap.Ao&&(l.Ap.Bu==m.Ap.Bu&&true))))))))&&a)&&b)&&c)&&d)&&e)&&f) (B23 l.Bb m.Bb)) fun g=>
 Option.bind (gd ((((((((l.Ap.Bj==m.Ap.Bj&&(l.Ap.Bp==m.Ap.Bp&&(l.Ap.W==m.Ap.W&&(l.Ap.K==m.Ap.K&&(l.Ap.Cap==m.Ap.Cap&&(l.Ap.P==m.Ap.P&&(l.Ap.Ao==m.Ap.Ao&&(l.Ap.Bu==m.Ap.Bu&&true))))))))&&a)&&b)&&c)&&d)&&e)&&f)&&g) (B24 l.Af m.Af)) fun h=>
 Option.bind (gd (((((((((l.Ap.Bj==m.Ap.Bj&&(l.Ap.Bp==m.Ap.Bp&&(l.Ap.W==m.Ap.W&&(l.Ap.K==m.Ap.K&&(l.Ap.Cap==m.Ap.Cap&&(l.Ap.P==m.Ap.P&&(l.Ap.Ao==m.Ap.Ao&&(l.Ap.Bu==m.Ap.Bu&&true))))))))&&a)&&b)&&c)&&d)&&e)&&f)&&g)&&h) (B26 l.As m.As)) fun i=>
 Option.bind (gd ((((((((((l.Ap.Bj==m.Ap.Bj&&(l.Ap.Bp==m.Ap.Bp&&(l.Ap.W==m.Ap.W&&(l.Ap.K==m.Ap.K&&(l.Ap.Cap==m.Ap.Cap&&(l.Ap.P==m.Ap.P&&(l.Ap.Ao==m.Ap.Ao&&(l.Ap.Bu==m.Ap.Bu&&true))))))))&&a)&&b)&&c)&&d)&&e)&&f)&&g)&&h)&&i) (B27 l.Aj m.Aj)) fun j=>
 Option.bind (gd (((((((((((l.Ap.Bj==m.Ap.Bj&&(l.Ap.Bp==m.Ap.Bp&&(l.Ap.W==m.Ap.W&&(l.Ap.K==m.Ap.K&&(l.Ap.Cap==m.Ap.Cap&&(l.Ap.P==m.Ap.P&&(l.Ap.Ao==m.Ap.Ao&&(l.Ap.Bu==m.Ap.Bu&&true))))))))&&a)&&b)&&c)&&d)&&e)&&f)&&g)&&h)&&i)&&j) (B3a l.Ab m.Ab)) fun k=>
 some ((((((((((((l.Ap.Bj==m.Ap.Bj&&(l.Ap.Bp==m.Ap.Bp&&(l.Ap.W==m.Ap.W&&(l.Ap.K==m.Ap.K&&(l.Ap.Cap==m.Ap.Cap&&(l.Ap.P==m.Ap.P&&(l.Ap.Ao==m.Ap.Ao&&(l.Ap.Bu==m.Ap.Bu&&true))))))))&&a)&&b)&&c)&&d)&&e)&&f)&&g)&&h)&&i)&&j)&&k)
def C4q (d:List A7) (a:List Int) (b:Int):Option (((List Int)×Int)⊕(List Int)):=
 cond (decide (b<(d.length:Int))) (
  Option.bind (B9 d b) fun c=>
  ck (decide ((a.length+ [c.ID].length)*8<=140737488355328))<|
  some (.inl ((a++ [c.ID]),(A1 (b+1)))))<|
 Option.map Sum.inr (some a)
def C59 (c:List A7) (a:List Int) (b:Int):Option (List Int):=
 loop (fun (s:((List Int)×Int))=>C4q c s.1 s.2) (a,b)
def B4W (a:List A7):Option (List Int):=
 C59 a ([]:List Int) 0
def A7q (e f:List A7) (a:Int):Option (Int⊕Bool):=
 cond (decide (a<(e.length:Int))) (
  Option.bind (B9 e a) fun c=>
  Option.bind (B9 f a) fun d=>
  Option.bind (A9V c.Ac d.Ac) fun b=>
  cond (!b) (
   some (.inr false))<|
  some (.inl (A1 (a+1))))<|
 Option.map Sum.inr (some true)
def B7u (b c:List A7) (a:Int):Option Bool:=
 loop (fun (s:Int)=>A7q b c s) a
def B3b (d e:List A7):Option Bool:=
 Option.bind (B4W d) fun a=>
 Option.bind (B4W e) fun b=>
 Option.bind (A2n a b) fun c=>
 cond (!c) (
  some false)<|
 B7u d e 0
def A8Z (a:Int) (b:List Int):Option ((Int×(List Int))⊕(List Int)):=
 cond (decide (a>=128)) (
  ck (decide ((b.length+ [(N8 .u8 (IntKind.u8.wrap (P7 .u64 a 127)) 128)].length)*1<=140737488355328))<|
  some (.inl ((G0 .u64 a 7),(b++ [(N8 .u8 (IntKind.u8.wrap (P7 .u64 a 127)) 128)]))))<|
 Option.map Sum.inr (ck (decide ((b.length+ [(IntKind.u8.wrap a)].length)*1<=140737488355328))<|
 some (b++ [(IntKind.u8.wrap a)]))
def A9W (a:Int) (b:List Int):Option (List Int):=
 loop (fun (s:(Int×(List Int)))=>A8Z s.1 s.2) (a,b)
def A9X (b c:B4):Option Bool:=
 Option.bind (gd ((b.Now==c.Now)&&(b.Be==c.Be)) (B3b b.Ai c.Ai)) fun a=>
 some (((b.Now==c.Now)&&(b.Be==c.Be))&&a)
def A0k (d:B4) (a:Int):Option (Int⊕Int):=
 cond (decide (a<(d.Ai.length:Int))) (
  Option.bind (B9 d.Ai a) fun c=>
  let b:=(K3 c.Ac);
  cond (b.2&&(b.1 !=d.Now)) (
   some (.inr 2))<|
  some (.inl (A1 (a+1))))<|
 Option.map Sum.inr (some 0)
def A7Y (b:B4) (a:Int):Option Int:=
 loop (fun (s:Int)=>A0k b s) a
def A6R (c b:List Int):Option (List Int):=
 Option.bind (A9w c (b.length:Int)) fun a=>
 ck (decide ((a.length+b.length)*1<=140737488355328))<|
 some (a++b)
def A90 (f:List B6) (c:List Int) (a:Int):Option (((List Int)×Int)⊕((List Int)×Int)):=
 cond (decide (a<(f.length:Int))) (
  Option.bind (B9 f a) fun d=>
  Option.bind (A06 d) fun b=>
  cond (b.2 !=0) (
   some (.inr ([],b.2)))<|
  Option.bind (A6R c b.1) fun e=>
  some (.inl (e,(A1 (a+1)))))<|
 Option.map Sum.inr (some (c,0))
def A7t (c:List B6) (b:List Int) (a:Int):Option ((List Int)×Int):=
 loop (fun (s:((List Int)×Int))=>A90 c s.1 s.2) (b,a)
def B1j (a:List B6):Option ((List Int)×Int):=
 A7t a ([]:List Int) 0
def A30 (c a:List Int):Option (List Int):=
 Option.bind (A6R c a) fun b=>
 some b
def I8 (d:F5) (c:List Int):Option (List Int):=
 Option.bind (A2i d) fun a=>
 cond (a.2 !=0) (
  Option.bind (A2i (F5.mk 5 (E3.mk (C9.mk (A4.mk 0 0) (A4.mk 0 0) (A4.mk 0 0)) ([]:List Int) (D7.mk (A2.mk 0 0) (A2.mk 0 0))) ([]:List Int) [])) fun b=>
  A30 c b.1)<|
 A30 c a.1
def A5o (d:List Int) (c:List (List Int)) (b:Int):Option (((List (List Int))×Int)⊕((List (List Int))×(List Int))):=
 Option.bind (B2I d b) fun a=>
 cond ((((!a.2.2)||(decide (a.1<0)))||(decide (a.1>1048576)))||(decide (a.1>(A1 ((d.length:Int)-a.2.1))))) (
  ck (decide (0<=b/\b<=(d.length:Int)))<|
  ck (decide ((([]:List Int).length+(d.drop (b).toNat).length)*1<=140737488355328))<|
  some (.inr (c,(([]:List Int)++(d.drop (b).toNat)))))<|
 ck (decide (0<=a.2.1/\a.2.1<=(A1 (a.2.1+a.1))/\(A1 (a.2.1+a.1))<=(d.length:Int)))<|
 ck (decide ((([]:List Int).length+((d.take ((A1 (a.2.1+a.1))).toNat).drop (a.2.1).toNat).length)*1<=140737488355328))<|
 ck (decide ((c.length+ [(([]:List Int)++((d.take ((A1 (a.2.1+a.1))).toNat).drop (a.2.1).toNat))].length)*24<=140737488355328))<|
 some (.inl ((c++ [(([]:List Int)++((d.take ((A1 (a.2.1+a.1))).toNat).drop (a.2.1).toNat))]),(A1 (a.2.1+a.1))))
def A6i (c:List Int) (a:List (List Int)) (b:Int):Option ((List (List Int))×(List Int)):=
 loop (fun (s:((List (List Int))×Int))=>A5o c s.1 s.2) (a,b)
def A91 (a:List Int):Option ((List (List Int))×(List Int)):=
 A6i a ([]:List (List Int)) 0
def A7u (g:(List (List Int))×(List Int)) (e a b:Int) (c:List A7) (d:List Int):Option ((Int×Int×Int×(List A7)×(List Int))⊕(B4×(List Int)×Int)):=
 cond (decide (e<(g.1.length:Int))) (
  Option.bind (B9 g.1 e) fun i=>
  Option.bind (J1 i) fun h=>
  cond (h.2 !=0) (
   Option.bind (I8 (F5.mk 13 (E3.mk (C9.mk (A4.mk 0 0) (A4.mk 0 0) (A4.mk 0 0)) ([]:List Int) (D7.mk (A2.mk 0 0) (A2.mk 0 0))) ([]:List Int) []) d) fun j=>
   some (.inl ((A1 (e+1)),a,b,c,j)))<|
  Option.bind (I9 (B4.mk a b c) h.1) fun f=>
  Option.bind (I8 f.2 d) fun k=>
  some (.inl ((A1 (e+1)),f.1.Now,f.1.Be,f.1.Ai,k)))<|
 Option.map Sum.inr (cond (decide ((g.2.length:Int)>(0:Int))) (
  Option.bind (I8 (F5.mk 13 (E3.mk (C9.mk (A4.mk 0 0) (A4.mk 0 0) (A4.mk 0 0)) ([]:List Int) (D7.mk (A2.mk 0 0) (A2.mk 0 0))) ([]:List Int) []) d) fun l=>
  some ((B4.mk a b c),l,0))<|
 some ((B4.mk a b c),d,0))
def A8z (f:(List (List Int))×(List Int)) (e a b:Int) (c:List A7) (d:List Int):Option (B4×(List Int)×Int):=
 loop (fun (s:(Int×Int×Int×(List A7)×(List Int)))=>A7u f s.1 s.2.1 s.2.2.1 s.2.2.2.1 s.2.2.2.2) (e,a,b,c,d)
def A2J (c:B4) (d:List Int):Option (B4×(List Int)×Int):=
 Option.bind (X5 (B4.mk c.Now c.Be c.Ai)) fun a=>
 cond (a !=0) (
  some ((B4.mk 0 0 []),[],a))<|
 cond (decide ((d.length:Int)>(1048576:Int))) (
  some ((B4.mk 0 0 []),[],5))<|
 Option.bind (A91 d) fun b=>
 A8z b 0 c.Now c.Be c.Ai ([]:List Int)
def B46:Option Bool:=
 Option.bind (A3f (B7.mk 2 0 5 1 5 0 0 0) 0) fun b=>
 Option.bind (Z6 b.1 1 []) fun c=>
 Option.bind (A0H c.1 (L9.mk 1 0 0)) fun a=>
 Option.bind (gd (((b.2==0)&&(c.2==0))&&(a.2==0)) (A6s a.1.Am)) fun e=>
 let d:=(A1m 1);
 some (((((b.2==0)&&(c.2==0))&&(a.2==0))&&e)&&(a.1.Am.Lo.Bw==d.Bw&&(a.1.Am.Lo.Br==d.Br&&true)))
def A3G (i c d e b f g a:Int):Option B7:=
 let h:=(A5O (B7.mk i (A1 (1+c)) (A1 (1+d)) (A1 (1+e)) (A1 (2+b)) f (A1 (1+g)) a));
 some h
def A7F (h:B7) (i:Int):Option B7:=
 Option.bind (A3a h.Bp 4) fun b=>
 Option.bind (S8 h.W 20) fun c=>
 Option.bind (A3a h.K 3) fun d=>
 Option.bind (A3a h.Cap 60) fun a=>
 Option.bind (A3a h.P 5) fun e=>
 Option.bind (A3a h.Ao 2) fun f=>
 Option.bind (S8 h.Bu 20) fun g=>
 cond (i==8) (
  A3G i b c d a e f (Int.tmod (A1 (1+g)) 2))<|
 A3G i b c d a e f (A1 (1+g))
def A0o (e f:Int) (b:B7) (c d:Int) (a:L9):Option B6:=
 some (B6.mk e f b c d ([]:List Int) a [])
def A23 (e:B6) (f b c:Int) (a:Bool):Option B6:=
 cond a (
  A0o (A1 (1+b)) 0 (B7.mk 0 0 0 0 0 0 0 0) 0 0 (L9.mk 0 0 0))<|
 Option.bind (B2P e.V) fun d=>
 A0o 4 c (B7.mk 0 0 0 0 0 0 0 0) f d (L9.mk 0 0 0)
def A4d (i:B6) (j:Int):Option B6:=
 Option.bind (A3a i.Op 12) fun a=>
 Option.bind (S8 i.ID 5) fun b=>
 cond ((A1 (1+a))==1) (
  Option.bind (A3a i.Ap.Bj 11) fun f=>
  Option.bind (A7F i.Ap (A1 (1+f))) fun g=>
  A0o (A1 (1+a)) b g 0 0 (L9.mk 0 0 0))<|
 cond ((A1 (1+a))==2) (
  A0o (A1 (1+a)) b (B7.mk 0 0 0 0 0 0 0 0) 0 0 (L9.mk 0 0 0))<|
 cond ((A1 (1+a))==3) (
  Option.bind (C0B i.T 15) fun h=>
  A0o (A1 (1+a)) 0 (B7.mk 0 0 0 0 0 0 0 0) (A1 (j+h)) 0 (L9.mk 0 0 0))<|
 cond ((A1 (1+a))==5) (
  Option.bind (A3a i.Bh.Op 11) fun d=>
  Option.bind (S8 i.Bh.A 9) fun e=>
  Option.bind (S8 i.Bh.B 9) fun c=>
  A0o (A1 (1+a)) b (B7.mk 0 0 0 0 0 0 0 0) 0 0 (L9.mk (A1 (1+d)) e c))<|
 cond ((A1 (1+a))==6) (
  A23 i j a b ((A1 (1+a))==6))<|
 A23 i j a b ((A1 (1+a))==7)
def B2j (g:B4) (f:B6) (a c:List Int) (d:Int):Option (((List Int)×(List Int)×Int)⊕B6):=
 cond (decide ((a.length:Int)<(20:Int))) (
  Option.bind (A9x g (B6.mk f.Op f.ID f.Ap f.T f.V a f.Bh f.Ay)) fun e=>
  cond ((!e.2)||(decide (e.1<1))) (
   Option.map Sum.inr (some (B6.mk f.Op f.ID f.Ap f.T f.V a f.Bh f.Ay)))<|
  ck (decide ((([]:List Int).length+a.length)*8<=140737488355328))<|
  Option.bind (A21 (V4.mk c d) e.1) fun b=>
  ck (decide (((([]:List Int)++a).length+ [b.1].length)*8<=140737488355328))<|
  some (.inl (((([]:List Int)++a)++ [b.1]),b.2.L,b.2.At)))<|
 Option.map Sum.inr (some (B6.mk f.Op f.ID f.Ap f.T f.V a f.Bh f.Ay))
def B38 (d:B4) (e:B6) (a b:List Int) (c:Int):Option B6:=
 loop (fun (s:((List Int)×(List Int)×Int))=>B2j d e s.1 s.2.1 s.2.2) (a,b,c)
def A6X (c:B4) (b:B6) (d:List Int):Option B6:=
 let a:=(B6C d);
 B38 c b b.Ba a.L a.At
def B8O (j:List B6) (k d a b:Int) (c:List A7):Option ((Int×Int×Int×(List A7))⊕B4):=
 cond ((decide (d<(j.length:Int)))&&(decide (d<k))) (
  Option.bind (B9 j d) fun h=>
  Option.bind (A4d h a) fun i=>
  Option.bind (B9 j d) fun f=>
  Option.bind (A6X (B4.mk a b c) i f.Ba) fun g=>
  Option.bind (I9 (B4.mk a b c) g) fun e=>
  some (.inl ((A1 (d+1)),e.1.Now,e.1.Be,e.1.Ai)))<|
 Option.map Sum.inr (some (B4.mk a b c))
def B5t (e:List B6) (f d a b:Int) (c:List A7):Option B4:=
 loop (fun (s:(Int×Int×Int×(List A7)))=>B8O e f s.1 s.2.1 s.2.2.1 s.2.2.2) (d,a,b,c)
def B6S (b:List B6) (c:Int):Option B4:=
 let a:=(C1c 6);
 B5t b c 0 a.1.Now a.1.Be a.1.Ai
def A2x (k h i:List B6) (g a e:Int) (f:List A7) (c:B6):Option (((List B6)×(List B6)×Int×Int×Int×(List A7))⊕Bool):=
 Option.bind (A4d c a) fun j=>
 Option.bind (A6X (B4.mk a e f) j c.Ba) fun d=>
 Option.bind (I9 (B4.mk a e f) d) fun b=>
 cond (decide (g<(k.length:Int))) (
  ck (decide ((h.length+ [d].length)*168<=140737488355328))<|
  some (.inl ((h++ [d]),i,(A1 (g+1)),b.1.Now,b.1.Be,b.1.Ai)))<|
 ck (decide ((i.length+ [d].length)*168<=140737488355328))<|
 some (.inl (h,(i++ [d]),(A1 (g+1)),b.1.Now,b.1.Be,b.1.Ai))
def A6W (u v:List B6) (q:B4) (o p:List B6) (i j k:Int) (l:List A7):Option (((List B6)×(List B6)×Int×Int×Int×(List A7))⊕Bool):=
 cond ((decide (i<(A1 ((u.length:Int)+(v.length:Int)))))&&(decide (i<24))) (
  cond (decide (i<(u.length:Int))) (
   Option.bind (B9 u i) fun t=>
   A2x u o p i j k l t)<|
  Option.bind (B9 v (A1 (i-(u.length:Int)))) fun s=>
  A2x u o p i j k l s)<|
 Option.map Sum.inr (Option.bind (B1j o) fun a=>
 Option.bind (B1j p) fun c=>
 Option.bind (A2J q a.1) fun b=>
 Option.bind (Y3 b.1) fun f=>
 Option.bind (A13 f.1) fun g=>
 Option.bind (A2J g.1 c.1) fun d=>
 ck (decide ((([]:List Int).length+a.1.length)*1<=140737488355328))<|
 ck (decide (((([]:List Int)++a.1).length+c.1.length)*1<=140737488355328))<|
 Option.bind (A2J q ((([]:List Int)++a.1)++c.1)) fun e=>
 Option.bind (gd (((((((a.2==0)&&(c.2==0))&&(b.2.2==0))&&(f.2==0))&&(g.2==0))&&(d.2.2==0))&&(e.2.2==0)) (A9X d.1 e.1)) fun h=>
 Option.bind (gd ((((((((a.2==0)&&(c.2==0))&&(b.2.2==0))&&(f.2==0))&&(g.2==0))&&(d.2.2==0))&&(e.2.2==0))&&h) (A9X e.1 (B4.mk j k l))) fun m=>
 ck (!(((((((((a.2==0)&&(c.2==0))&&(b.2.2==0))&&(f.2==0))&&(g.2==0))&&(d.2.2==0))&&(e.2.2==0))&&h)&&m)||(decide ((([]:List Int).length+b.2.1.length)*1<=140737488355328)))<|
 ck (!(((((((((a.2==0)&&(c.2==0))&&(b.2.2==0))&&(f.2==0))&&(g.2==0))&&(d.2.2==0))&&(e.2.2==0))&&h)&&m)||(decide (((([]:List Int)++b.2.1).length+d.2.1.length)*1<=140737488355328)))<|
 Option.bind (gd (((((((((a.2==0)&&(c.2==0))&&(b.2.2==0))&&(f.2==0))&&(g.2==0))&&(d.2.2==0))&&(e.2.2==0))&&h)&&m) (A6f e.2.1 ((([]:List Int)++b.2.1)++d.2.1))) fun n=>
 Option.bind (gd ((((((((((a.2==0)&&(c.2==0))&&(b.2.2==0))&&(f.2==0))&&(g.2==0))&&(d.2.2==0))&&(e.2.2==0))&&h)&&m)&&n) B46) fun r=>
 some (((((((((((a.2==0)&&(c.2==0))&&(b.2.2==0))&&(f.2==0))&&(g.2==0))&&(d.2.2==0))&&(e.2.2==0))&&h)&&m)&&n)&&r))
def B2E (h i:List B6) (e:B4) (f g:List B6) (d a b:Int) (c:List A7):Option Bool:=
 loop (fun (s:((List B6)×(List B6)×Int×Int×Int×(List A7)))=>A6W h i e s.1 s.2.1 s.2.2.1 s.2.2.2.1 s.2.2.2.2.1 s.2.2.2.2.2) (f,g,d,a,b,c)
def A7E (b c d:List B6):Option Bool:=
 Option.bind (B6S b 10) fun a=>
 B2E c d a ([]:List B6) ([]:List B6) 0 a.Now a.Be a.Ai
end
end Go.Win
