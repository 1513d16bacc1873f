/- The contracts: each function of the program does what its function on plain data says. Made by program. -/
import Derived.Test.YtoljnakoodalpaaGreatCoh
import Derived.Test.YtoljnakoodalpaaGreatCon2
import Derived.Test.YtoljnakoodalpaaGreatCon3
set_option linter.unusedVariables false
set_option linter.unusedSimpArgs false
set_option linter.unnecessarySimpa false
set_option maxHeartbeats 40000000
set_option maxRecDepth 20000
namespace Go.Proofs.YtoljnakoodalpaaGreat
open Go.Vc Go.Dec Go.Win
theorem B88 (e:Bool) (f g:Int) (r:Bool) (h:A7Z e f g=r):A5 Tryz.prog 293 [.sb e,iI f,iI g] [] (.sb r) []:=
 C0 Tryz.func293 Tryz.call293 1 (eN (eN (eN (An (fun a=>An (fun b=>An (fun c=>absurd (Eq.trans (D4y a) (nT c)) (by decide)) (fun c=>(by cases h;exact (An (D4y (oR (aR a b) (aL c))) trivial)))) (fun b=>(by cases h;exact (An (D4y (oL (aR a b))) trivial)))) (fun a=>An (fun d=>(by cases h;exact (An (D4y (oR (aL a) (aR d rfl))) trivial))) (fun d=>absurd (Eq.trans (D4y (nF d)) a) (by decide)))))))
theorem B1k (i:C8) (r:Int) (h:A3m i=some r):A5 Tryz.prog 178 [.agg (I7 i)] [] (iI r) []:=
 C0 Tryz.func178 Tryz.call178 1 (eN (eN (eN (cK (An (cW (A1C i.W i.Cap i.Now _ rfl) zz) (r1 (An (fun m=>eX [iI (i.Av.length:Int)] (An (lenS A8 i.Av) (An (fun p=>have h:=cT (oR m p) h;lf) (fun p=>have h:=cF (oR m p) h;eN (eX [iI (i.Av.length:Int)] (An (lenS A8 i.Av) (lO h (fun q=>[tM 1 (.ptr 1 0),tM 22 (lF 2 (List.map A8 i.Av)),tM 23 (iI (i.Av.length:Int)),tM 24 (iI q),tB 1 (I7 i)]) fun v h=>An (jT (_,v) (An h zz)) (nx fun c w x h s o=>eN (cD h (fun t h=>eN (bC h fun a g h=>eX [iI a.T,iI a.V] (An (B2 A8 g) (eN (bC h fun d e h=>bC h fun b f h=>uO [tM 1 (.ptr 1 0),tM 22 (lF 2 (List.map A8 i.Av)),tM 23 (iI (i.Av.length:Int)),tM 24 (iI c),tM 73 (.sb (((!(F3 i.Now i.W a.T))||(!(H8 a.V)))||((decide (c>0))&&((decide (d.T>=a.T))||(!(A7Z i.Bj b.V a.V)))))),tB 1 (I7 i)] 1000000 (An (cK (An (cW (A0d i.Now i.W a.T _ rfl) zz) (r1 (An (fun j=>cK (An (cW (A0q a.V _ rfl) zz) (r1 (An (fun k=>An (fun l=>eX [iI d.T,iI d.V] (An (B2 A8 (I4 (aR (nE (oR j k)) l) e)) (An (fun n=>eX [iI b.T,iI b.V] (An (B2 A8 (I4 (aR (aR (nE (oR j k)) l) (nE n)) f)) (cK (An (cW (B88 i.Bj b.V a.V _ rfl) zz) (r1 (jV ((r1 (fr (r2 (An (D4y (oR (oR j k) (aR l (oR n rfl)))) zz))))))))))) (fun n=>jV ((r1 (fr (r2 (An (D4y (oR (oR j k) (aR l (oL n)))) zz))))))))) (fun l=>jV ((r1 (fr (r2 (An (D4y (oR (oR j k) (aL l))) zz))))))) (fun k=>jV ((r1 (fr (r2 (An (D4y (oL (oR j k))) zz)))))))))) (fun j=>jV ((r1 (fr (r2 (An (D4y (oL (oL j))) zz)))))))))) (fun _ _=>cD h (fun u h=>have h:=E6 h o;lf) (fun u h=>eN (jR h s zz))))))))) (fun t h=>have h:=F9 h o;lf)))))))))) (fun m=>have h:=cT (oL m) h;lf))))))))
theorem C24 (g i:C8) (r:Bool) (h:A5B g i=some r):A5 Tryz.prog 58 [.agg (I7 g), .agg (I7 i)] [] (.sb r) []:=
 C0 Tryz.func58 Tryz.call58 1 (eN (eN (bC h fun a b h=>eN (An (fun c=>An (fun d=>An (fun e=>An (fun f=>cK (An (cW (A96 g.Av i.Av a (I4 (aR (aR (aR c d) e) f) b)) zz) (r1 (by (first|cases h|rw [<-oJ h]);exact (An (D4y (aR (aR (aR (aR c d) e) f) rfl)) trivial))))) (fun f=>(by (first|cases h|rw [<-oJ h]);exact (An (D4y (aL (aR (aR (aR c d) e) f))) trivial)))) (fun e=>(by (first|cases h|rw [<-oJ h]);exact (An (D4y (aL (aL (aR (aR c d) e)))) trivial)))) (fun d=>(by (first|cases h|rw [<-oJ h]);exact (An (D4y (aL (aL (aL (aR c d))))) trivial)))) (fun c=>(by (first|cases h|rw [<-oJ h]);exact (An (D4y (aL (aL (aL (aL c))))) trivial)))))))
theorem C5y (e:C8) (r:Int×Int) (h:B2N e=some r):A5 Tryz.prog 118 [.agg (I7 e)] [] (.tup [iI r.1,iI r.2]) []:=
 C0 Tryz.func118 Tryz.call118 1 (eN (eN (bC h fun b c h=>cK (An (cW (B1k e b c) zz) (r1 (eN (cD h (fun f h=>lf) (fun f h=>eN (eX [iI (e.Av.length:Int)] (An (lenS A8 e.Av) (cD h (fun g h=>lf) (fun g h=>eN (bC h fun a d h=>eX [iI a.T,iI a.V] (An (B2 A8 d) lf))))))))))))))
end Go.Proofs.YtoljnakoodalpaaGreat
