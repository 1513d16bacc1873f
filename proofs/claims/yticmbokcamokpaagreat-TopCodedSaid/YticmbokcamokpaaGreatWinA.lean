/- More functions, as functions on plain data: made by program out of the translated code. -/
import Derived.Test.YticmbokcamokpaaGreatWin
set_option linter.unusedVariables false
namespace Go.Win
open Go.Vc Go.Dec
noncomputable section
def A4e (d b:List Int) (a:Int):Option (((List Int)×Int)⊕(List Int)):=
 cond (decide (a<(d.length:Int))) (
  Option.bind (B9 d a) fun c=>
  ck (decide ((b.length+ [(A1 c)].length)*8<=140737488355328))<|
  some (.inl ((b++ [(A1 c)]),(A1 (a+1)))))<|
 Option.map Sum.inr (some b)
def B0l (c b:List Int) (a:Int):Option (List Int):=
 loop (fun (s:((List Int)×Int))=>A4e c s.1 s.2) (b,a)
def A6a (a:List Int):Option (List Int):=
 B0l a [(a.length:Int)] 0
def A46 (a:List Int):Option (List Int):=
 ck (decide (([(a.length:Int)].length+a.length)*8<=140737488355328))<|
 some ([(a.length:Int)]++a)
def A0e (d:F5):Option (List Int):=
 Option.bind (A46 d.Ak.Ax) fun a=>
 ck (decide (([d.Code,d.Ak.Am.Lo.Bw,d.Ak.Am.Lo.Br,d.Ak.Am.Bs.Bw,d.Ak.Am.Bs.Br,d.Ak.Am.Hi.Bw,d.Ak.Am.Hi.Br].length+a.length)*8<=140737488355328))<|
 ck (decide ((([d.Code,d.Ak.Am.Lo.Bw,d.Ak.Am.Lo.Br,d.Ak.Am.Bs.Bw,d.Ak.Am.Bs.Br,d.Ak.Am.Hi.Bw,d.Ak.Am.Hi.Br]++a).length+ [(A1 d.Ak.Aa.Bw.Hi),(A1 d.Ak.Aa.Bw.Lo),(A1 d.Ak.Aa.Br.Hi),(A1 d.Ak.Aa.Br.Lo)].length)*8<=140737488355328))<|
 Option.bind (A46 d.Bt) fun b=>
 ck (decide (((([d.Code,d.Ak.Am.Lo.Bw,d.Ak.Am.Lo.Br,d.Ak.Am.Bs.Bw,d.Ak.Am.Bs.Br,d.Ak.Am.Hi.Bw,d.Ak.Am.Hi.Br]++a)++ [(A1 d.Ak.Aa.Bw.Hi),(A1 d.Ak.Aa.Bw.Lo),(A1 d.Ak.Aa.Br.Hi),(A1 d.Ak.Aa.Br.Lo)]).length+b.length)*8<=140737488355328))<|
 Option.bind (A6a d.Ay) fun c=>
 ck (decide ((((([d.Code,d.Ak.Am.Lo.Bw,d.Ak.Am.Lo.Br,d.Ak.Am.Bs.Bw,d.Ak.Am.Bs.Br,d.Ak.Am.Hi.Bw,d.Ak.Am.Hi.Br]++a)++ [(A1 d.Ak.Aa.Bw.Hi),(A1 d.Ak.Aa.Bw.Lo),(A1 d.Ak.Aa.Br.Hi),(A1 d.Ak.Aa.Br.Lo)])++b).length+c.length)*8<=140737488355328))<|
 some (((([d.Code,d.Ak.Am.Lo.Bw,d.Ak.Am.Lo.Br,d.Ak.Am.Bs.Bw,d.Ak.Am.Bs.Br,d.Ak.Am.Hi.Bw,d.Ak.Am.Hi.Br]++a)++ [(A1 d.Ak.Aa.Bw.Hi),(A1 d.Ak.Aa.Bw.Lo),(A1 d.Ak.Aa.Br.Hi),(A1 d.Ak.Aa.Br.Lo)])++b)++c)
def H2 (d e:F5):Option Bool:=
 Option.bind (A0e d) fun a=>
 Option.bind (A0e e) fun b=>
 Option.bind (A2n a b) fun c=>
 some c
def A5w (n:List B6) (m:B6):Option Bool:=
 Option.bind (B6S n 20) fun e=>
 Option.bind (A4d m e.Now) fun l=>
 Option.bind (A6X e l m.Ba) fun h=>
 Option.bind (A06 h) fun a=>
 Option.bind (J1 a.1) fun b=>
 Option.bind (I9 e h) fun i=>
 Option.bind (I9 e b.1) fun j=>
 Option.bind (A2i j.2) fun c=>
 Option.bind (A7Q c.1) fun d=>
 Option.bind (gd ((((a.2==0)&&(b.2==0))&&(c.2==0))&&(d.2==0)) (H2 i.2 d.1)) fun f=>
 Option.bind (gd (((((a.2==0)&&(b.2==0))&&(c.2==0))&&(d.2==0))&&f) (A9X i.1 j.1)) fun g=>
 Option.bind (gd ((((((a.2==0)&&(b.2==0))&&(c.2==0))&&(d.2==0))&&f)&&g) B46) fun k=>
 some (((((((a.2==0)&&(b.2==0))&&(c.2==0))&&(d.2==0))&&f)&&g)&&k)
end
end Go.Win
