/- More functions, as functions on plain data: made by program out of the translated code. -/
import Derived.Test.YtkakobhohikfkaaGreatWin
set_option linter.unusedVariables false
namespace Go.Win
open Go.Vc Go.Dec
noncomputable section
def A33:Option Bool:=
 let a:=(A7U 1);
 Option.bind (A0N a.1 (E9.mk 1 7 (B5.mk 6 0 0 0 0 0 0 0) 0 0 ([]:List Int) (I4.mk 0 0 0) [])) fun b=>
 Option.bind (A0N b.1 (E9.mk 6 0 (B5.mk 0 0 0 0 0 0 0 0) 0 0 ([]:List Int) (I4.mk 0 0 0) [])) fun c=>
 Option.bind (gd (((a.2==0)&&(b.2.Code==0))&&((c.2.Br.length:Int)==(1:Int))) (C1 c.2.Br 0)) fun d=>
 some ((((a.2==0)&&(b.2.Code==0))&&((c.2.Br.length:Int)==(1:Int)))&&(d==7))
def A5Y (g:D4) (f:E9) (a c:List Int) (d:Int):Option (((List Int)×(List Int)×Int)⊕E9):=
 cond (decide ((a.length:Int)<(40:Int))) (
  Option.bind (A7T g (E9.mk f.Op f.ID f.Ao f.T f.V a f.Bg f.Ax)) fun e=>
  cond ((!e.2)||(decide (e.1<1))) (
   Option.map Sum.inr (some (E9.mk f.Op f.ID f.Ao f.T f.V a f.Bg f.Ax)))<|
  ck (decide ((([]:List Int).length+a.length)*8<=140737488355328))<|
  Option.bind (A5v (V9.mk c d) e.1) fun b=>
  ck (decide (((([]:List Int)++a).length+ [b.1].length)*8<=140737488355328))<|
  some (.inl (((([]:List Int)++a)++ [b.1]),b.2.L,b.2.At)))<|
 Option.map Sum.inr (some (E9.mk f.Op f.ID f.Ao f.T f.V a f.Bg f.Ax))
def A8B (d:D4) (e:E9) (a b:List Int) (c:Int):Option E9:=
 loop (fun (s:((List Int)×(List Int)×Int))=>A5Y d e s.1 s.2.1 s.2.2) (a,b,c)
def A38 (c:D4) (b:E9) (d:List Int):Option E9:=
 let a:=(B8H d);
 A8B c b b.Az a.L a.At
def W0 (d b:List Int) (a:Int):Option (((List Int)×Int)⊕(List Int)):=
 cond (decide (a<(d.length:Int))) (
  Option.bind (C1 d a) fun c=>
  ck (decide ((b.length+ [(A1 c)].length)*8<=140737488355328))<|
  some (.inl ((b++ [(A1 c)]),(A1 (a+1)))))<|
 Option.map Sum.inr (some b)
def A8D (c b:List Int) (a:Int):Option (List Int):=
 loop (fun (s:((List Int)×Int))=>W0 c s.1 s.2) (b,a)
def A4z (a:List Int):Option (List Int):=
 A8D a [(a.length:Int)] 0
def A2h (a:List Int):Option (List Int):=
 ck (decide (([(a.length:Int)].length+a.length)*8<=140737488355328))<|
 some ([(a.length:Int)]++a)
def L0 (d:G9):Option (List Int):=
 Option.bind (A2h d.Aj.Aw) fun a=>
 ck (decide (([d.Code,d.Aj.Al.Lo.Bu,d.Aj.Al.Lo.Bp,d.Aj.Al.Bq.Bu,d.Aj.Al.Bq.Bp,d.Aj.Al.Hi.Bu,d.Aj.Al.Hi.Bp].length+a.length)*8<=140737488355328))<|
 ck (decide ((([d.Code,d.Aj.Al.Lo.Bu,d.Aj.Al.Lo.Bp,d.Aj.Al.Bq.Bu,d.Aj.Al.Bq.Bp,d.Aj.Al.Hi.Bu,d.Aj.Al.Hi.Bp]++a).length+ [(A1 d.Aj.Aa.Bu.Hi),(A1 d.Aj.Aa.Bu.Lo),(A1 d.Aj.Aa.Bp.Hi),(A1 d.Aj.Aa.Bp.Lo)].length)*8<=140737488355328))<|
 Option.bind (A2h d.Br) fun b=>
 ck (decide (((([d.Code,d.Aj.Al.Lo.Bu,d.Aj.Al.Lo.Bp,d.Aj.Al.Bq.Bu,d.Aj.Al.Bq.Bp,d.Aj.Al.Hi.Bu,d.Aj.Al.Hi.Bp]++a)++ [(A1 d.Aj.Aa.Bu.Hi),(A1 d.Aj.Aa.Bu.Lo),(A1 d.Aj.Aa.Bp.Hi),(A1 d.Aj.Aa.Bp.Lo)]).length+b.length)*8<=140737488355328))<|
 Option.bind (A4z d.Ax) fun c=>
 ck (decide ((((([d.Code,d.Aj.Al.Lo.Bu,d.Aj.Al.Lo.Bp,d.Aj.Al.Bq.Bu,d.Aj.Al.Bq.Bp,d.Aj.Al.Hi.Bu,d.Aj.Al.Hi.Bp]++a)++ [(A1 d.Aj.Aa.Bu.Hi),(A1 d.Aj.Aa.Bu.Lo),(A1 d.Aj.Aa.Bp.Hi),(A1 d.Aj.Aa.Bp.Lo)])++b).length+c.length)*8<=140737488355328))<|
 some (((([d.Code,d.Aj.Al.Lo.Bu,d.Aj.Al.Lo.Bp,d.Aj.Al.Bq.Bu,d.Aj.Al.Bq.Bp,d.Aj.Al.Hi.Bu,d.Aj.Al.Hi.Bp]++a)++ [(A1 d.Aj.Aa.Bu.Hi),(A1 d.Aj.Aa.Bu.Lo),(A1 d.Aj.Aa.Bp.Hi),(A1 d.Aj.Aa.Bp.Lo)])++b)++c)
def H2 (d e:G9):Option Bool:=
 Option.bind (L0 d) fun a=>
 Option.bind (L0 e) fun b=>
 Option.bind (B7H a b) fun c=>
 some c
def P1 (q:List E9) (o h a d:Int) (e:List B0) (b f:Int) (g:List B0):Option ((Int×Int×Int×(List B0)×Int×Int×(List B0))⊕Bool):=
 cond ((decide (h<(q.length:Int)))&&(decide (h<25))) (
  Option.bind (C1 q h) fun p=>
  Option.bind (D2o p a) fun k=>
  cond (((k.Op==6)||(k.Op==7))||(k.Op==8)) (
   some (.inl ((A1 (h+1)),a,d,e,b,f,g)))<|
  Option.bind (C1 q h) fun l=>
  Option.bind (A38 (D4.mk a d e) k l.Az) fun i=>
  Option.bind (A0N (D4.mk a d e) i) fun c=>
  cond ((i.Op !=3)&&(i.ID !=o)) (
   some (.inl ((A1 (h+1)),c.1.Now,c.1.Bd,c.1.Ah,b,f,g)))<|
  Option.bind (A0N (D4.mk b f g) i) fun j=>
  Option.bind (H2 c.2 j.2) fun m=>
  cond (!m) (
   some (.inr false))<|
  some (.inl ((A1 (h+1)),c.1.Now,c.1.Bd,c.1.Ah,j.1.Now,j.1.Bd,j.1.Ah)))<|
 Option.map Sum.inr (Option.bind (gd (a==b) A33) fun n=>
 some ((a==b)&&n))
def G3 (i:List E9) (g h a b:Int) (c:List B0) (d e:Int) (f:List B0):Option Bool:=
 loop (fun (s:(Int×Int×Int×(List B0)×Int×Int×(List B0)))=>P1 i g s.1 s.2.1 s.2.2.1 s.2.2.2.1 s.2.2.2.2.1 s.2.2.2.2.2.1 s.2.2.2.2.2.2) (h,a,b,c,d,e,f)
def A0 (d:List E9) (e:Int):Option Bool:=
 let a:=(A7U 64);
 let b:=(A7U 64);
 Option.bind (P2 e 5) fun c=>
 cond ((a.2 !=0)||(b.2 !=0)) (
  some false)<|
 G3 d c 0 a.1.Now a.1.Bd a.1.Ah b.1.Now b.1.Bd b.1.Ah
end
end Go.Win
