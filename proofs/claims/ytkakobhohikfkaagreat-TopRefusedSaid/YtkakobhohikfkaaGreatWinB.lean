/- More functions, as functions on plain data: made by program out of the translated code. -/
import Derived.Test.YtkakobhohikfkaaGreatWin
import Derived.Test.YtkakobhohikfkaaGreatVdB
set_option linter.unusedVariables false
namespace Go.Win
open Go.Vc Go.Dec
noncomputable section
def A2r (j:List E9) (k d a b:Int) (c:List B0):Option ((Int×Int×Int×(List B0))⊕D4):=
 cond ((decide (d<(j.length:Int)))&&(decide (d<k))) (
  Option.bind (C1 j d) fun h=>
  Option.bind (A9K h a) fun i=>
  Option.bind (C1 j d) fun f=>
  Option.bind (B3A (D4.mk a b c) i f.Az) fun g=>
  Option.bind (A0N (D4.mk a b c) g) fun e=>
  some (.inl ((A1 (d+1)),e.1.Now,e.1.Bd,e.1.Ah)))<|
 Option.map Sum.inr (some (D4.mk a b c))
def P1 (e:List E9) (f d a b:Int) (c:List B0):Option D4:=
 loop (fun (s:(Int×Int×Int×(List B0)))=>A2r e f s.1 s.2.1 s.2.2.1 s.2.2.2) (d,a,b,c)
def R0 (b:List E9) (c:Int):Option D4:=
 let a:=(A7U 6);
 P1 b c 0 a.1.Now a.1.Bd a.1.Ah
def L0 (d e:D4):Option Bool:=
 Option.bind (A2L d) fun a=>
 Option.bind (A2L e) fun b=>
 Option.bind (gd (((a.2==0)&&(b.2==0))&&(decide ((a.1.length:Int)>(0:Int)))) (G2 a.1 b.1)) fun c=>
 some ((((a.2==0)&&(b.2==0))&&(decide ((a.1.length:Int)>(0:Int))))&&c)
def G3 (j:List E9) (i:E9):Option Bool:=
 cond ((decide ((i.Az.length:Int)>(50:Int)))||(decide ((i.Ax.length:Int)>(2000:Int)))) (
  Option.bind B3z fun g=>
  some g)<|
 Option.bind (R0 j 20) fun b=>
 Option.bind (A0N b i) fun a=>
 cond (a.2.Code==0) (
  Option.bind B3z fun h=>
  some h)<|
 Option.bind (A0N a.1 i) fun c=>
 Option.bind (L0 a.1 b) fun d=>
 Option.bind (gd d (L0 c.1 b)) fun e=>
 Option.bind (gd ((d&&e)&&(c.2.Code==a.2.Code)) B3z) fun f=>
 some (((d&&e)&&(c.2.Code==a.2.Code))&&f)
end
end Go.Win
