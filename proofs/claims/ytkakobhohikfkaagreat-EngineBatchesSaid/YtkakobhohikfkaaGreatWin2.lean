/- More functions, as functions on plain data: made by program out of the translated code. -/
import Derived.Test.YtkakobhohikfkaaGreatWin
set_option linter.unusedVariables false
namespace Go.Win
open Go.Vc Go.Dec
noncomputable section
def engine_ApplyAll_l2s (h:List O9) (f:List G8) (e a b:Int) (c:List A6):Option (((List G8)×Int×Int×Int×(List A6))⊕(D7×(List G8))):=
 cond (decide (e<(h.length:Int))) (
  Option.bind (C1 h e) fun g=>
  Option.bind (S2 (D7.mk a b c) g) fun d=>
  ck (decide ((f.length+ [d.2].length)*160<=140737488355328))<|
  some (.inl ((f++ [d.2]),(A1 (e+1)),d.1.Now,d.1.Bd,d.1.Ah)))<|
 Option.map Sum.inr (some ((D7.mk a b c),f))
def engine_ApplyAll_l2 (f:List O9) (e:List G8) (d a b:Int) (c:List A6):Option (D7×(List G8)):=
 loop (fun (s:((List G8)×Int×Int×Int×(List A6)))=>engine_ApplyAll_l2s f s.1 s.2.1 s.2.2.1 s.2.2.2.1 s.2.2.2.2) (e,d,a,b,c)
def engine_ApplyAll (a:D7) (b:List O9):Option (D7×(List G8)):=
 engine_ApplyAll_l2 b ([]:List G8) 0 a.Now a.Bd a.Ah
def made_Mod (b a:Int):Option Int:=
 ck (decide (a≠0))<|
 cond (decide ((Int.tmod b a)<0)) (
  some (A1 ((Int.tmod b a)+a)))<|
 some (Int.tmod b a)
def made_Int (b c:Int):Option Int:=
 Option.bind (made_Mod b c) fun a=>
 some a
def law29_config_j1 (c d e f b g h a:Int):Option E2:=
 let i:=(C59 (E2.mk (A1 (1+c)) (A1 (1+d)) (A1 (1+e)) (A1 (1+f)) (A1 (2+b)) g (A1 (1+h)) a));
 some i
def law29_config (i:E2):Option E2:=
 Option.bind (made_Int i.Bi 11) fun a=>
 Option.bind (made_Int i.Bo 4) fun c=>
 Option.bind (made_Mod i.W 20) fun d=>
 Option.bind (made_Int i.K 3) fun e=>
 Option.bind (made_Int i.Cap 30) fun b=>
 Option.bind (made_Int i.P 5) fun f=>
 Option.bind (made_Int i.Am 2) fun g=>
 Option.bind (made_Mod i.Bs 20) fun h=>
 cond ((A1 (1+a))==8) (
  law29_config_j1 a c d e b f g (Int.tmod (A1 (1+h)) 2))<|
 law29_config_j1 a c d e b f g (A1 (1+h))
def made_Gap_j3 (c:Int) (a:Bool):Option Int:=
 cond a (
  Option.bind (made_Mod (A1 (Int.tdiv c 8)) 3) fun b=>
  some (A1 (1+b)))<|
 some 0
def made_Gap (c d:Int):Option Int:=
 Option.bind (made_Mod c 8) fun a=>
 cond (a==0) (
  Option.bind (made_Mod (A1 (Int.tdiv c 8)) (A1 ((A1 (2*d))+2))) fun b=>
  some b)<|
 cond (a==1) (
  made_Gap_j3 c (a==1))<|
 made_Gap_j3 c (a==2)
def made_Value (e:Int):Option Int:=
 Option.bind (made_Mod e 8) fun a=>
 cond (a==0) (
  Option.bind (made_Mod (A1 (Int.tdiv e 8)) 8193) fun b=>
  some (A1 (b-4096)))<|
 cond (a==1) (
  Option.bind (made_Mod (A1 (Int.tdiv e 8)) 2) fun c=>
  some (A1 (4096*(A1 ((A1 (2*c))-1)))))<|
 Option.bind (made_Mod (A1 (Int.tdiv e 8)) 13) fun d=>
 some (A1 (d-6))
def law29_command_j2 (f g:Int) (b:E2) (c d:Int) (a:T0) (e:List Int):Option O9:=
 some (O9.mk f g b c d ([]:List Int) a e)
def law29_command_j6 (e:O9) (f a c:Int) (b:Bool):Option O9:=
 cond b (
  law29_command_j2 (A1 (1+a)) 0 (E2.mk 0 0 0 0 0 0 0 0) 0 0 (T0.mk 0 0 0) [])<|
 cond ((A1 (1+a))==8) (
  law29_command_j2 (A1 (1+a)) 0 (E2.mk 0 0 0 0 0 0 0 0) 0 0 (T0.mk 0 0 0) e.Ax)<|
 Option.bind (made_Value e.V) fun d=>
 law29_command_j2 4 c (E2.mk 0 0 0 0 0 0 0 0) f d (T0.mk 0 0 0) ([]:List Int)
def law29_command (h:O9) (i:Int):Option O9:=
 Option.bind (made_Int h.Op 12) fun a=>
 Option.bind (made_Mod h.ID 5) fun b=>
 cond ((A1 (1+a))==1) (
  Option.bind (law29_config h.Ao) fun f=>
  law29_command_j2 (A1 (1+a)) b f 0 0 (T0.mk 0 0 0) [])<|
 cond ((A1 (1+a))==2) (
  law29_command_j2 (A1 (1+a)) b (E2.mk 0 0 0 0 0 0 0 0) 0 0 (T0.mk 0 0 0) [])<|
 cond ((A1 (1+a))==3) (
  Option.bind (made_Gap h.T 15) fun g=>
  law29_command_j2 (A1 (1+a)) 0 (E2.mk 0 0 0 0 0 0 0 0) (A1 (i+g)) 0 (T0.mk 0 0 0) [])<|
 cond ((A1 (1+a))==5) (
  Option.bind (made_Int h.Bg.Op 11) fun d=>
  Option.bind (made_Mod h.Bg.A 9) fun e=>
  Option.bind (made_Mod h.Bg.B 9) fun c=>
  law29_command_j2 (A1 (1+a)) b (E2.mk 0 0 0 0 0 0 0 0) 0 0 (T0.mk (A1 (1+d)) e c) [])<|
 cond ((A1 (1+a))==6) (
  law29_command_j6 h i a b ((A1 (1+a))==6))<|
 law29_command_j6 h i a b ((A1 (1+a))==7)
def law29_EngineBatches_l8s (c:List G8) (b:D7×(List G8)) (a:Int):Option (Int⊕Bool):=
 cond (decide (a<(b.2.length:Int))) (
  Option.bind (C1 b.2 a) fun d=>
  Option.bind (C1 c a) fun h=>
  Option.bind (C1 c a) fun e=>
  Option.bind (A1l d e) fun f=>
  cond (!f) (
   some (.inr false))<|
  some (.inl (A1 (a+1))))<|
 Option.map Sum.inr (Option.bind A6Y fun g=>
 some g)
def law29_EngineBatches_l8 (c:List G8) (a:D7×(List G8)) (b:Int):Option Bool:=
 loop (fun (s:Int)=>law29_EngineBatches_l8s c a s) b
def law29_EngineBatches_l3s (m:List O9) (l:D7×Int) (i:List O9) (f:List G8) (e a c:Int) (d:List A6):Option (((List O9)×(List G8)×Int×Int×Int×(List A6))⊕Bool):=
 cond ((decide (e<(m.length:Int)))&&(decide (e<20))) (
  Option.bind (C1 m e) fun j=>
  Option.bind (law29_command j a) fun g=>
  Option.bind (S2 (D7.mk a c d) g) fun b=>
  ck (decide ((i.length+ [g].length)*168<=140737488355328))<|
  ck (decide ((f.length+ [b.2].length)*160<=140737488355328))<|
  some (.inl ((i++ [g]),(f++ [b.2]),(A1 (e+1)),b.1.Now,b.1.Bd,b.1.Ah)))<|
 Option.map Sum.inr (Option.bind (engine_ApplyAll l.1 i) fun h=>
 Option.bind (A8J h.1 (D7.mk a c d)) fun k=>
 cond ((!k)||((h.2.length:Int) !=(f.length:Int))) (
  some false)<|
 law29_EngineBatches_l8 f h 0)
def law29_EngineBatches_l3 (h:List O9) (e:D7×Int) (f:List O9) (g:List G8) (d a b:Int) (c:List A6):Option Bool:=
 loop (fun (s:((List O9)×(List G8)×Int×Int×Int×(List A6)))=>law29_EngineBatches_l3s h e s.1 s.2.1 s.2.2.1 s.2.2.2.1 s.2.2.2.2.1 s.2.2.2.2.2) (f,g,d,a,b,c)
def law29_EngineBatches (c:List O9) (d:Int):Option Bool:=
 Option.bind (made_Int d 5) fun b=>
 let a:=(B9M (A1 (1+b)));
 cond (a.2 !=0) (
  some false)<|
 law29_EngineBatches_l3 c a ([]:List O9) ([]:List G8) 0 a.1.Now a.1.Bd a.1.Ah
end
end Go.Win
