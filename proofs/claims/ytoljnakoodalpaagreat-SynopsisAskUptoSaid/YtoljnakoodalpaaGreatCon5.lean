/- The contracts: each function of the program does what its function on plain data says. Made by program. -/
import Derived.Test.YtoljnakoodalpaaGreatCoh
import Derived.Test.YtoljnakoodalpaaGreatCon1
import Derived.Test.YtoljnakoodalpaaGreatCon2
import Derived.Test.YtoljnakoodalpaaGreatCon3
import Derived.Test.YtoljnakoodalpaaGreatCon4
set_option linter.unusedVariables false
set_option linter.unusedSimpArgs false
set_option linter.unnecessarySimpa false
set_option maxHeartbeats 40000000
set_option maxRecDepth 20000
namespace Go.Proofs.YtoljnakoodalpaaGreat
open Go.Vc Go.Dec Go.Win
theorem B3C (f g i:Int) (r:Bool) (h:A6h f g i=r):A5 Tryz.prog 198 [iI f,iI g,iI i] [] (.sb r) []:=
 C0 Tryz.func198 Tryz.call198 1 (eN (eN (eN (An (fun a=>An (fun b=>An (fun c=>An (fun d=>An (fun e=>(by cases h;exact (An (D4y (aR (aR (aR (aR (aR a b) c) d) e) rfl)) trivial))) (fun e=>(by cases h;exact (An (D4y (aL (aR (aR (aR (aR a b) c) d) e))) trivial)))) (fun d=>(by cases h;exact (An (D4y (aL (aL (aR (aR (aR a b) c) d)))) trivial)))) (fun c=>(by cases h;exact (An (D4y (aL (aL (aL (aR (aR a b) c))))) trivial)))) (fun b=>(by cases h;exact (An (D4y (aL (aL (aL (aL (aR a b)))))) trivial)))) (fun a=>(by cases h;exact (An (D4y (aL (aL (aL (aL (aL a)))))) trivial)))))))
theorem C1Y (a b c:Int) (r:C9×Int) (h:A5o a b c=r):A5 Tryz.prog 67 [iI a,iI b,iI c] [] (.tup [.agg (L8 r.1),iI r.2]) []:=
 C0 Tryz.func67 Tryz.call67 1 (eN (eN (cK (An (cW (B3C a b c _ rfl) zz) (r1 (cD h (fun d h=>lf) (fun d h=>lf)))))))
theorem C1U (b:Int) (r:Bool) (h:B0v b=r):A5 Tryz.prog 339 [iI b] [] (.sb r) []:=
 C0 Tryz.func339 Tryz.call339 1 (eN (eN (eN (An (fun a=>(by cases h;exact (An (D4y (aR a rfl)) trivial))) (fun a=>(by cases h;exact (An (D4y (aL a)) trivial)))))))
theorem C1S (f:List B3) (i:Int) (r:Bool) (h:B3f f i=some r):A5 Tryz.prog 261 [lF 2 (List.map A8 f),iI i] [] (.sb r) []:=
 C0 Tryz.func261 Tryz.call261 1 (eN (eN (cK (An (cW (C1U i _ rfl) zz) (r1 (cD h (fun n h=>lf) (fun n h=>eN (eX [iI (f.length:Int)] (An (lenS A8 f) (lO h (fun q=>[tM 0 (lF 2 (List.map A8 f)),tM 1 (iI i),tM 10 (lF 2 (List.map A8 f)),tM 11 (iI (f.length:Int)),tM 12 (iI q)]) fun s h=>An (jT (_,s) (An h zz)) (nx fun b t u h m l=>eN (cD h (fun o h=>eN (bC h fun a e h=>eX [iI a.T,iI a.V] (An (B2 A8 e) (eN (bC h fun c d h=>uO [tM 0 (lF 2 (List.map A8 f)),tM 1 (iI i),tM 10 (lF 2 (List.map A8 f)),tM 11 (iI (f.length:Int)),tM 12 (iI b),tM 40 (.sb (((decide (a.T<0))||(decide (a.T>i)))||((decide (b>0))&&(decide (c.T>a.T)))))] 1000000 (An (An (fun g=>An (fun j=>An (fun k=>eX [iI c.T,iI c.V] (An (B2 A8 (I4 (aR (nE (oR g j)) k) d)) (jV ((r1 (fr (r1 (fr (r2 (An (D4y (oR (oR g j) (aR k rfl))) trivial)))))))))) (fun k=>jV ((r1 (fr (r1 (fr (r2 (An (D4y (oR (oR g j) (aL k))) trivial))))))))) (fun j=>jV ((r1 (fr (r1 (fr (r2 (An (D4y (oL (oR g j))) trivial))))))))) (fun g=>jV ((r1 (fr (r1 (fr (r2 (An (D4y (oL (oL g))) trivial))))))))) (fun _ _=>cD h (fun p h=>have h:=E6 h l;lf) (fun p h=>eN (jR h m zz))))))))) (fun o h=>have h:=F9 h l;lf)))))))))))))
theorem B83 (b:Int) (r:Bool) (h:B1O b=r):A5 Tryz.prog 126 [iI b] [] (.sb r) []:=
 C0 Tryz.func126 Tryz.call126 1 (eN (eN (eN (An (fun a=>(by cases h;exact (An (D4y (aR a rfl)) trivial))) (fun a=>(by cases h;exact (An (D4y (aL a)) trivial)))))))
theorem A95 (f:C9) (r:Int) (h:A0X f=some r):A5 Tryz.prog 125 [.agg (L8 f)] [] (iI r) []:=
 C0 Tryz.func125 Tryz.call125 1 (eN (eN (bC h fun b c h=>eN (cK (An (cW (B3C f.W f.Cap f.Now _ rfl) zz) (r1 (An (fun g=>eX [iI (f.Av.length:Int)] (An (lenS A8 f.Av) (An (fun i=>cK (An (cW (C1S f.Av f.Now b (I4 (nE (oR g i)) c)) zz) (r1 (An (fun l=>have h:=cT (oR (oR g i) l) h;lf) (fun l=>have h:=cF (oR (oR g i) l) h;eN (eX [iI (f.Av.length:Int)] (An (lenS A8 f.Av) (lO h (fun q=>[tM 1 (.ptr 1 0),tM 30 (lF 2 (List.map A8 f.Av)),tM 31 (iI (f.Av.length:Int)),tM 32 (iI q),tB 1 (L8 f)]) fun p h=>An (jT (_,p) (An h zz)) (nx fun d s t h n j=>eN (cD h (fun o h=>eN (bC h fun a e h=>eX [iI a.T,iI a.V] (An (B2 A8 e) (eN (eN (cK (An (cW (W7 f.Now f.W a.T _ rfl) zz) (r1 (An (fun k=>cK (An (cW (B83 a.V _ rfl) zz) (r1 (An (fun m=>have h:=cT (oR k m) h;have h:=E6 h j;lf) (fun m=>have h:=cF (oR k m) h;eN (jR h n zz)))))) (fun k=>have h:=cT (oL k) h;have h:=E6 h j;lf)))))))))) (fun o h=>have h:=F9 h j;lf))))))))))) (fun i=>have h:=cT (oL (oR g i)) h;lf)))) (fun g=>have h:=cT (oL (oL g)) h;lf))))))))
theorem C1R (g:List B3) (r:Int×Bool) (h:A83 g=some r):A5 Tryz.prog 219 [lF 2 (List.map A8 g)] [] (.tup [iI r.1, .sb r.2]) []:=
 C0 Tryz.func219 Tryz.call219 1 (eN (eN (eX [iI (g.length:Int)] (An (lenS A8 g) (cD h (fun i h=>lf) (fun i h=>eN (bC h fun a d h=>eX [iI a.T,iI a.V] (An (B2 A8 d) (eN (eX [iI (g.length:Int)] (An (lenS A8 g) (lO h (fun q=>[tM 4 (iI q.1),tM 14 (lF 2 (List.map A8 g)),tM 15 (iI (g.length:Int)),tM 16 (iI q.2)]) fun k h=>An (jT (_,k) (An h zz)) (nx fun ⟨e,c⟩ m1 x1 h hl1 hr1=>eN (cD h (fun j h=>eN (bC h fun b f h=>eX [iI b.T,iI b.V] (An (B2 A8 f) (eN (eN (jR h hl1 zz)))))) (fun j h=>have h:=F9 h hr1;lf)))))))))))))))
theorem B78 (g:List B3) (r:Int×Bool) (h:A5e g=some r):A5 Tryz.prog 220 [lF 2 (List.map A8 g)] [] (.tup [iI r.1, .sb r.2]) []:=
 C0 Tryz.func220 Tryz.call220 1 (eN (eN (eX [iI (g.length:Int)] (An (lenS A8 g) (cD h (fun i h=>lf) (fun i h=>eN (bC h fun a d h=>eX [iI a.T,iI a.V] (An (B2 A8 d) (eN (eX [iI (g.length:Int)] (An (lenS A8 g) (lO h (fun q=>[tM 4 (iI q.1),tM 14 (lF 2 (List.map A8 g)),tM 15 (iI (g.length:Int)),tM 16 (iI q.2)]) fun k h=>An (jT (_,k) (An h zz)) (nx fun ⟨e,c⟩ m1 x1 h hl1 hr1=>eN (cD h (fun j h=>eN (bC h fun b f h=>eX [iI b.T,iI b.V] (An (B2 A8 f) (eN (eN (jR h hl1 zz)))))) (fun j h=>have h:=F9 h hr1;lf)))))))))))))))
theorem C0i (a:List B3) (r:Int) (h:A82 a=r):A5 Tryz.prog 221 [lF 2 (List.map A8 a)] [] (iI r) []:=
 C0 Tryz.func221 Tryz.call221 1 (eN (eN (eX [iI (a.length:Int)] (An (lenS A8 a) lf))))
theorem A6s (a r:Int) (h:S8 a=r):A5 Tryz.prog 310 [iI a] [] (iU r) []:=
 C0 Tryz.func310 Tryz.call310 1 (eN (eN (cD h (fun b h=>lf) (fun b h=>lf))))
theorem B9d (e f:A1) (r:A1×Bool) (h:A8S e f=some r):A5 Tryz.prog 357 [.agg [iU e.Hi,iU e.Lo], .agg [iU f.Hi,iU f.Lo]] [] (.tup [.agg [iU r.1.Hi,iU r.1.Lo], .sb r.2]) []:=
 C0 Tryz.func357 Tryz.call357 1 (eN (eN (bC h fun a b h=>cK (An (cW (R5 e.Lo f.Lo 0 a b) zz) (r1 (eN (bC h fun c d h=>cK (An (cW (R5 e.Hi f.Hi a.2 c d) zz) (r1 (eN (cD h (fun g h=>lf) (fun g h=>lf))))))))))))
theorem B5g (s:List B3) (r:Bool×A1) (h:A4b s=some r):A5 Tryz.prog 306 [lF 2 (List.map A8 s)] [] (.tup [.sb r.1, .agg [iU r.2.Hi,iU r.2.Lo]]) []:=
 C0 Tryz.func306 Tryz.call306 1 (eN (eN (eN (eX [iI (s.length:Int)] (An (lenS A8 s) (lO h (fun q=>[tM 3 (.ptr 2 0),tM 4 (.ptr 257 0),tM 5 (.ptr 258 0),tM 12 (lF 2 (List.map A8 s)),tM 13 (iI (s.length:Int)),tM 14 (iI q.1),tB 2 [iU 0,iU 0],tB 257 [iU q.2.1,iU q.2.2.1],tB 258 [iU q.2.2.2.1,iU q.2.2.2.2]]) fun w h=>An (jT (_,w) (An h zz)) (nx fun ⟨f,a,b,c,d⟩ m1 x1 h hl1 hr1=>eN (cD h (fun t h=>eN (eN (bC h fun e l h=>eX [iI e.T,iI e.V] (An (B2 A8 l) (eN (eN (cD h (fun u h=>eN (bC h fun m n h=>cK (An (cW (A6s e.V _ rfl) zz) (r1 (cK (An (cW (O8 (S8 e.V) _ rfl) zz) (r1 (cK (An (cW (B0s (A1.mk c d) (H7 (S8 e.V)) m n) zz) (r1 (eN (jR h hl1 zz)))))))))))) (fun u h=>eN (bC h fun o p h=>cK (An (cW (A6s e.V _ rfl) zz) (r1 (cK (An (cW (O8 (S8 e.V) _ rfl) zz) (r1 (cK (An (cW (B0s (A1.mk a b) (H7 (S8 e.V)) o p) zz) (r1 (eN (jR h hl1 zz))))))))))))))))))) (fun t h=>have h:=F9 h hr1;eN (cK (An (cW (A2c (A1.mk a b) (A1.mk c d) _ rfl) zz) (r1 (cD h (fun v h=>eN (bC h fun g i h=>cK (An (cW (B9d (A1.mk a b) (A1.mk c d) g i) zz) (r1 lf)))) (fun v h=>eN (bC h fun j k h=>cK (An (cW (B9d (A1.mk c d) (A1.mk a b) j k) zz) (r1 lf)))))))))))))))))
theorem C5j (f:List B3) (r:Int×Bool) (h:B2r f=some r):A5 Tryz.prog 222 [lF 2 (List.map A8 f)] [] (.tup [iI r.1, .sb r.2]) []:=
 C0 Tryz.func222 Tryz.call222 1 (eN (eN (bC h fun a b h=>cK (An (cW (B5g f a b) zz) (r1 (eN (uO [tM 4 (.sb a.1),tM 5 (.ptr 262 0),tM 27 (.sb (((a.2.Hi !=0)||(decide (a.2.Lo>9223372036854775808)))||((a.2.Lo==9223372036854775808)&&(!a.1)))),tB 262 [iU a.2.Hi,iU a.2.Lo]] 1000000 (An (An (fun c=>An (fun d=>An (fun e=>jV ((r2 (An (D4y (oR (oR c d) (aR e rfl))) zz)))) (fun e=>jV ((r2 (An (D4y (oR (oR c d) (aL e))) zz))))) (fun d=>jV ((r2 (An (D4y (oL (oR c d))) zz))))) (fun c=>jV ((r2 (An (D4y (oL (oL c))) zz))))) (fun _ _=>cD h (fun g h=>lf) (fun g h=>eN (cD h (fun i h=>lf) (fun i h=>lf))))))))))))
theorem B7r (a r:Int) (h:Z1 a=r):A5 Tryz.prog 358 [iI a] [] (iU r) []:=
 C0 Tryz.func358 Tryz.call358 1 (eN (eN (cD h (fun b h=>lf) (fun b h=>lf))))
theorem C7A (b c:Int) (r:Int×Bool) (h:B3Y b c=r):A5 Tryz.prog 307 [iI b,iI c] [] (.tup [iI r.1, .sb r.2]) []:=
 C0 Tryz.func307 Tryz.call307 1 (eN (eN (cK (An (cW (B7r b _ rfl) zz) (r1 (cK (An (cW (B7r c _ rfl) zz) (r1 (cK (An (cW (A2b (Z1 b) (Z1 c) _ rfl) zz) (r1 (eN (eN (eN (eX (some (⟨Int,fun a=>[tM 6 (iU (Q4 (Z1 b) (Z1 c)).1),tM 7 (iU (Q4 (Z1 b) (Z1 c)).2),tM 8 (.sb (!((decide (b<0))==(decide (c<0))))),tM 9 (iU a)],fun a=>B0y b c (Q4 (Z1 b) (Z1 c)) a=r,fun _=>0⟩,1000000)) (An (cD h (fun f h=>eN (jT (A7 ((9223372036854775807:Int)+(1:Int))) (An h zz))) (fun f h=>jT 9223372036854775807 (An h zz))) (fun a h=>eN (eN (An (fun d=>An (fun e=>have h:=cT (oR d e) h;lf) (fun e=>have h:=cF (oR d e) h;eN (cD h (fun g h=>lf) (fun g h=>lf)))) (fun d=>have h:=cT (oL d) h;lf))))))))))))))))))))
theorem C7y (a b:Int) (r:Int×Bool) (h:B66 a b=r):A5 Tryz.prog 308 [iI a,iI b] [] (.tup [iI r.1, .sb r.2]) []:=
 C0 Tryz.func308 Tryz.call308 1 (eN (eN (eN (uO [tM 6 (iI (A2 (a+b))),tM 21 (.sb (((decide (a>=0))==(decide (b>=0)))&&(!((decide ((A2 (a+b))>=0))==(decide (a>=0))))))] 1000000 (An (An (fun c=>jV ((r2 (An (D4y (aR c rfl)) trivial)))) (fun c=>jV ((r2 (An (D4y (aL c)) trivial))))) (fun _ _=>cD h (fun d h=>lf) (fun d h=>lf)))))))
theorem B8W (e:List B3) (r:Int×Bool) (h:A6w e=some r):A5 Tryz.prog 223 [lF 2 (List.map A8 e)] [] (.tup [iI r.1, .sb r.2]) []:=
 C0 Tryz.func223 Tryz.call223 1 (eN (eN (eN (eX [iI (e.length:Int)] (An (lenS A8 e) (lO h (fun q=>[tM 4 (iI q.1),tM 9 (lF 2 (List.map A8 e)),tM 10 (iI (e.length:Int)),tM 11 (iI q.2)]) fun j h=>An (jT (_,j) (An h zz)) (nx fun ⟨b,c⟩ m1 x1 h hl1 hr1=>eN (cD h (fun f h=>eN (bC h fun a d h=>eX [iI a.T,iI a.V] (An (B2 A8 d) (eN (cK (An (cW (C7A a.V a.V _ rfl) zz) (r1 (eN (cD h (fun g h=>have h:=E6 h hr1;lf) (fun g h=>eN (cK (An (cW (C7y b (B3Y a.V a.V).1 _ rfl) zz) (r1 (eN (cD h (fun i h=>have h:=E6 h hr1;lf) (fun i h=>eN (jR h hl1 zz))))))))))))))))) (fun f h=>have h:=F9 h hr1;lf)))))))))
theorem X6 (G:H6) (s F H:Int) (r:H6) (h:I8 G s F H=some r):A5 Tryz.prog 309 [.ptr 0 0,iU s,iU F,iI H] [(X8 G)] (.tup []) [(X8 r)]:=
 C0 Tryz.func309 Tryz.call309 2 (eN (cK (An (cW (A2b s F _ rfl) zz) (r1 (eN (eN (bC h fun D p h=>bC h fun g t h=>bC h fun a u h=>bC h fun z k h=>bC h fun A l h=>An (A0k (eI .u64) p) (eX [iU g] (An (A1s (eI .u64) t) (cK (An (cW (Z8 g (Q4 s F).2 0 a u) zz) (r1 (An (A0k (eI .u64) k) (An (B3U (AV.int .u64) l) (eN (lO h (fun q=>[tM 0 (.ptr 0 0),tM 8 (iU q.1),tM 10 (iU q.2.1),tM 11 (iI q.2.2.1),tB 0 [iU q.2.2.2.1,iU q.2.2.2.2.1,iU q.2.2.2.2.2.1,iU q.2.2.2.2.2.2]]) fun J h=>An (jT (_,J) (An h zz)) (nx fun ⟨i,b,m,c,d,e,f⟩ m1 x1 h hl1 hr1=>eN (cD h (fun I h=>eN (bC h fun E v h=>bC h fun j w h=>bC h fun x y h=>bC h fun B n h=>bC h fun C o h=>An (A0k (eI .u64) v) (eX [iU j] (An (A1s (eI .u64) w) (cK (An (cW (Z8 j i b x y) zz) (r1 (An (A0k (eI .u64) n) (An (B3U (AV.int .u64) o) (eN (eN (jR h hl1 zz)))))))))))) (fun I h=>have h:=F9 h hr1;lf)))))))))))))))))))
theorem C1T (y s r:H6) (h:A6a y s=some r):A5 Tryz.prog 311 [.agg (X8 y), .agg (X8 s)] [] (.agg (X8 r)) []:=
 C0 Tryz.func311 Tryz.call311 1 (eN (eN (eN (lO h (fun q=>[tM 2 (.ptr 1 0),tM 3 (.ptr 2 0),tM 4 (.ptr 3 0),tM 5 (iU q.1),tM 7 (iI q.2.1),tB 1 [iU q.2.2.1,iU q.2.2.2.1,iU q.2.2.2.2.1,iU q.2.2.2.2.2],tB 2 (X8 s),tB 3 [iU 0,iU 0,iU 0,iU 0]]) fun A h=>An (jT (_,A) (An h zz)) (nx fun ⟨e,k,a,b,c,d⟩ m1 x1 h hl1 hr1=>eN (cD h (fun z h=>eN (eN (bC h fun w l h=>bC h fun f m h=>bC h fun x n h=>bC h fun g o h=>bC h fun p t h=>bC h fun u i h=>bC h fun v j h=>An (A0k (eI .u64) l) (eX [iU f] (An (A1s (eI .u64) m) (An (A0k (eI .u64) n) (eX [iU g] (An (A1s (eI .u64) o) (cK (An (cW (R5 f g e p t) zz) (r1 (An (A0k (eI .u64) i) (An (B3U (AV.int .u64) j) (eN (jR h hl1 zz))))))))))))))) (fun z h=>have h:=F9 h hr1;lf)))))))
theorem A9F (c r:Int) (h:A4S c=some r):A5 Tryz.prog 376 [iU c] [] (iI r) []:=
 C0 Tryz.func376 Tryz.call376 1 (eN (eN (bC h fun a b h=>cK (An (cW (A2L c a b) zz) (r1 lf)))))
theorem B7o (x w v:Int) (r:Int×Int) (h:A0U x w v=some r):A5 Tryz.prog 360 [iU x,iU w,iU v] [] (.tup [iU r.1,iU r.2]) []:=by
 refine C0 Tryz.func360 Tryz.call360 1 ?_
 delta A0U at h
 refine eN (eN (eN (cD h (fun A h=> ?_) (fun A h=> ?_))))
 cases h
 refine eN (eN (cD h (fun B h=> ?_) (fun B h=> ?_)))
 cases h
 refine eN (cD h (fun C h=> ?_) (fun C h=> ?_))
 refine eN ?_
 obtain ⟨o,h⟩:=ckS h
 obtain ⟨p,h⟩:=ckS h
 refine An (oD o) ?_
 refine An (oD p) ?_
 first|cases h|rw [<-oJ h]
 exact (r2 trivial)
 refine eN ?_
 obtain ⟨a,t,h⟩:=bS h
 refine cK (An (cW (A9F v a t) (r1 trivial)) (r1 ?_))
 refine eN ?_
 obtain ⟨u,h⟩:=ckS h
 refine An (oD u) ?_
 refine eN (An (by decide) ?_)
 refine eN (eN ?_)
 obtain ⟨j,h⟩:=ckS h
 obtain ⟨k,h⟩:=ckS h
 refine An (oD j) ?_
 refine An (oD k) ?_
 refine eN ?_
 obtain ⟨l,h⟩:=ckS h
 refine An (oD l) ?_
 refine eN (An (by decide) ?_)
 refine eN (eN ?_)
 obtain ⟨m,h⟩:=ckS h
 refine An (oD m) ?_
 refine eN (eX (some (⟨Int,fun b=> [tM 2 (iU (D9 .u64 v (A7 a))),tM 8 (iU (A7 a)),tM 9 (iU (F8 .u64 (D9 .u64 v (A7 a)) 32)),tM 10 (iU (S9 .u64 (D9 .u64 v (A7 a)) 4294967295)),tM 11 (iU (R3 .u64 (D9 .u64 x (A7 a)) (F8 .u64 w (A7 (64-(A7 a)))))),tM 13 (iU (F8 .u64 (D9 .u64 w (A7 a)) 32)),tM 14 (iU (S9 .u64 (D9 .u64 w (A7 a)) 4294967295)),tM 15 (iU b)],fun b=>A0z x w v a b=some r,fun _=>0⟩,1000000)) (An ?_ ?_))
 replace h:A4R x w v a (A7 (Int.tdiv (R3 .u64 (D9 .u64 x (A7 a)) (F8 .u64 w (A7 (64-(A7 a))))) (F8 .u64 (D9 .u64 v (A7 a)) 32))) (A7 ((R3 .u64 (D9 .u64 x (A7 a)) (F8 .u64 w (A7 (64-(A7 a)))))-(A7 ((A7 (Int.tdiv (R3 .u64 (D9 .u64 x (A7 a)) (F8 .u64 w (A7 (64-(A7 a))))) (F8 .u64 (D9 .u64 v (A7 a)) 32)))*(F8 .u64 (D9 .u64 v (A7 a)) 32)))))=some r:=h
 delta A4R at h
 obtain ⟨n1,h⟩:=B63 h
 refine eX (Sum.inl ⟨(Int×Int)×Nat,fun q=> [tM 2 (iU (D9 .u64 v (A7 a))),tM 8 (iU (A7 a)),tM 9 (iU (F8 .u64 (D9 .u64 v (A7 a)) 32)),tM 10 (iU (S9 .u64 (D9 .u64 v (A7 a)) 4294967295)),tM 11 (iU (R3 .u64 (D9 .u64 x (A7 a)) (F8 .u64 w (A7 (64-(A7 a)))))),tM 13 (iU (F8 .u64 (D9 .u64 w (A7 a)) 32)),tM 14 (iU (S9 .u64 (D9 .u64 w (A7 a)) 4294967295)),tM 15 (iU q.1.1),tM 16 (iU q.1.2)],fun q=>N1 (fun (s:(Int×Int))=>A1R x w v a s.1 s.2) q.2 q.1=some r,fun q=>q.2⟩) (An (eX [] (eX [] (eX (((A7 (Int.tdiv (R3 .u64 (D9 .u64 x (A7 a)) (F8 .u64 w (A7 (64-(A7 a))))) (F8 .u64 (D9 .u64 v (A7 a)) 32))),(A7 ((R3 .u64 (D9 .u64 x (A7 a)) (F8 .u64 w (A7 (64-(A7 a)))))-(A7 ((A7 (Int.tdiv (R3 .u64 (D9 .u64 x (A7 a)) (F8 .u64 w (A7 (64-(A7 a))))) (F8 .u64 (D9 .u64 v (A7 a)) 32)))*(F8 .u64 (D9 .u64 v (A7 a)) 32)))))),n1) (An h (r8 (r2 trivial)))))) ?_)
 clear h
 refine fun q h=> ?_
 obtain ⟨⟨d,g⟩,n1⟩:=q
 obtain ⟨m1,x1,hm1,h,hl1,hr1⟩:=B4H h
 replace hm1:n1=m1+1:=hm1
 subst hm1
 replace h:A1R x w v a d g=some x1:=h
 delta A1R at h
 refine eN (eX (some (⟨Unit,fun _=> [tM 2 (iU (D9 .u64 v (A7 a))),tM 8 (iU (A7 a)),tM 9 (iU (F8 .u64 (D9 .u64 v (A7 a)) 32)),tM 10 (iU (S9 .u64 (D9 .u64 v (A7 a)) 4294967295)),tM 11 (iU (R3 .u64 (D9 .u64 x (A7 a)) (F8 .u64 w (A7 (64-(A7 a)))))),tM 13 (iU (F8 .u64 (D9 .u64 w (A7 a)) 32)),tM 14 (iU (S9 .u64 (D9 .u64 w (A7 a)) 4294967295)),tM 15 (iU d),tM 16 (iU g),tM 78 (.sb ((decide (d>=4294967296))||(decide ((A7 (d*(S9 .u64 (D9 .u64 v (A7 a)) 4294967295)))>(A7 ((A7 (4294967296*g))+(F8 .u64 (D9 .u64 w (A7 a)) 32)))))))],fun _=>True,fun _=>0⟩,1000000)) (An ?_ (fun _ _=> ?_)))
 refine An (fun y=> ?_) (fun y=> ?_)
 exact jU (An trivial (r8 (r2 (An (D4y (oR y rfl)) trivial))))
 exact jU (An trivial (r8 (r2 (An (D4y (oL y)) trivial))))
 refine cD h (fun D h=> ?_) (fun D h=> ?_)
 refine eN (eN (eN (cD h (fun E h=> ?_) (fun E h=> ?_))))
 replace h:=F9 h hr1
 exact jT (A7 (d-1)) (An h (r8 (r1 trivial)))
 exact jT (_,m1) (An (hl1 _ (oJ h).symm) (An (jL m1) (r8 (r2 trivial))))
 replace h:=F9 h hr1
 exact jT d (An h (r8 (r1 trivial)))
 clear h
 refine fun b h=> ?_
 replace h:A0z x w v a b=some r:=h
 delta A0z at h
 refine eN (eN ?_)
 obtain ⟨n,h⟩:=ckS h
 refine An (oD n) ?_
 refine eN (eX (some (⟨Int,fun e=> [tM 2 (iU (D9 .u64 v (A7 a))),tM 8 (iU (A7 a)),tM 14 (iU (S9 .u64 (D9 .u64 w (A7 a)) 4294967295)),tM 15 (iU b),tM 17 (iU (A7 ((A7 ((A7 ((R3 .u64 (D9 .u64 x (A7 a)) (F8 .u64 w (A7 (64-(A7 a)))))*4294967296))+(F8 .u64 (D9 .u64 w (A7 a)) 32)))-(A7 (b*(D9 .u64 v (A7 a))))))),tM 18 (iU e)],fun e=>A0A x w v a b e=some r,fun _=>0⟩,2000000)) (An ?_ ?_))
 replace h:A4s x w v a b (A7 ((A7 ((A7 ((A7 ((R3 .u64 (D9 .u64 x (A7 a)) (F8 .u64 w (A7 (64-(A7 a)))))*4294967296))+(F8 .u64 (D9 .u64 w (A7 a)) 32)))-(A7 (b*(D9 .u64 v (A7 a))))))-(A7 ((A7 (Int.tdiv (A7 ((A7 ((A7 ((R3 .u64 (D9 .u64 x (A7 a)) (F8 .u64 w (A7 (64-(A7 a)))))*4294967296))+(F8 .u64 (D9 .u64 w (A7 a)) 32)))-(A7 (b*(D9 .u64 v (A7 a)))))) (F8 .u64 (D9 .u64 v (A7 a)) 32)))*(F8 .u64 (D9 .u64 v (A7 a)) 32))))) (A7 (Int.tdiv (A7 ((A7 ((A7 ((R3 .u64 (D9 .u64 x (A7 a)) (F8 .u64 w (A7 (64-(A7 a)))))*4294967296))+(F8 .u64 (D9 .u64 w (A7 a)) 32)))-(A7 (b*(D9 .u64 v (A7 a)))))) (F8 .u64 (D9 .u64 v (A7 a)) 32)))=some r:=h
 delta A4s at h
 obtain ⟨n1,h⟩:=B63 h
 refine eX (Sum.inl ⟨(Int×Int)×Nat,fun q=> [tM 2 (iU (D9 .u64 v (A7 a))),tM 8 (iU (A7 a)),tM 9 (iU (F8 .u64 (D9 .u64 v (A7 a)) 32)),tM 10 (iU (S9 .u64 (D9 .u64 v (A7 a)) 4294967295)),tM 14 (iU (S9 .u64 (D9 .u64 w (A7 a)) 4294967295)),tM 15 (iU b),tM 16 (iU q.1.1),tM 17 (iU (A7 ((A7 ((A7 ((R3 .u64 (D9 .u64 x (A7 a)) (F8 .u64 w (A7 (64-(A7 a)))))*4294967296))+(F8 .u64 (D9 .u64 w (A7 a)) 32)))-(A7 (b*(D9 .u64 v (A7 a))))))),tM 18 (iU q.1.2)],fun q=>N1 (fun (s:(Int×Int))=>A1f x w v a b s.1 s.2) q.2 q.1=some r,fun q=>q.2⟩) (An (eX [] (eX [] (eX (((A7 ((A7 ((A7 ((A7 ((R3 .u64 (D9 .u64 x (A7 a)) (F8 .u64 w (A7 (64-(A7 a)))))*4294967296))+(F8 .u64 (D9 .u64 w (A7 a)) 32)))-(A7 (b*(D9 .u64 v (A7 a))))))-(A7 ((A7 (Int.tdiv (A7 ((A7 ((A7 ((R3 .u64 (D9 .u64 x (A7 a)) (F8 .u64 w (A7 (64-(A7 a)))))*4294967296))+(F8 .u64 (D9 .u64 w (A7 a)) 32)))-(A7 (b*(D9 .u64 v (A7 a)))))) (F8 .u64 (D9 .u64 v (A7 a)) 32)))*(F8 .u64 (D9 .u64 v (A7 a)) 32))))),(A7 (Int.tdiv (A7 ((A7 ((A7 ((R3 .u64 (D9 .u64 x (A7 a)) (F8 .u64 w (A7 (64-(A7 a)))))*4294967296))+(F8 .u64 (D9 .u64 w (A7 a)) 32)))-(A7 (b*(D9 .u64 v (A7 a)))))) (F8 .u64 (D9 .u64 v (A7 a)) 32)))),n1) (An h (r8 (r2 trivial)))))) ?_)
 clear h
 refine fun q h=> ?_
 obtain ⟨⟨f,c⟩,n1⟩:=q
 obtain ⟨m1,x1,hm1,h,hl1,hr1⟩:=B4H h
 replace hm1:n1=m1+1:=hm1
 subst hm1
 replace h:A1f x w v a b f c=some x1:=h
 delta A1f at h
 refine eN (eX (some (⟨Unit,fun _=> [tM 2 (iU (D9 .u64 v (A7 a))),tM 8 (iU (A7 a)),tM 9 (iU (F8 .u64 (D9 .u64 v (A7 a)) 32)),tM 10 (iU (S9 .u64 (D9 .u64 v (A7 a)) 4294967295)),tM 14 (iU (S9 .u64 (D9 .u64 w (A7 a)) 4294967295)),tM 15 (iU b),tM 16 (iU f),tM 17 (iU (A7 ((A7 ((A7 ((R3 .u64 (D9 .u64 x (A7 a)) (F8 .u64 w (A7 (64-(A7 a)))))*4294967296))+(F8 .u64 (D9 .u64 w (A7 a)) 32)))-(A7 (b*(D9 .u64 v (A7 a))))))),tM 18 (iU c),tM 113 (.sb ((decide (c>=4294967296))||(decide ((A7 (c*(S9 .u64 (D9 .u64 v (A7 a)) 4294967295)))>(A7 ((A7 (4294967296*f))+(S9 .u64 (D9 .u64 w (A7 a)) 4294967295)))))))],fun _=>True,fun _=>0⟩,2000000)) (An ?_ (fun _ _=> ?_)))
 refine An (fun z=> ?_) (fun z=> ?_)
 exact jU (An trivial (r8 (r2 (An (D4y (oR z rfl)) trivial))))
 exact jU (An trivial (r8 (r2 (An (D4y (oL z)) trivial))))
 refine cD h (fun F h=> ?_) (fun F h=> ?_)
 refine eN (eN (eN (cD h (fun G h=> ?_) (fun G h=> ?_))))
 replace h:=F9 h hr1
 exact jT (A7 (c-1)) (An h (r7 trivial))
 exact jT (_,m1) (An (hl1 _ (oJ h).symm) (An (jL m1) (r8 (r2 trivial))))
 replace h:=F9 h hr1
 exact jT c (An h (r7 trivial))
 clear h
 refine fun e h=> ?_
 replace h:A0A x w v a b e=some r:=h
 delta A0A at h
 refine eN ?_
 obtain ⟨i,h⟩:=ckS h
 refine An (oD i) ?_
 first|cases h|rw [<-oJ h]
 exact (r2 trivial)
theorem B8X (u:H6) (s:Int) (r:H6×Int) (h:B1v u s=some r):A5 Tryz.prog 312 [.agg (X8 u),iU s] [] (.tup [.agg (X8 r.1),iU r.2]) []:=
 C0 Tryz.func312 Tryz.call312 1 (eN (eN (eN (lO h (fun q=>[tM 1 (iU s),tM 2 (.ptr 1 0),tM 4 (.ptr 2 0),tM 6 (iU q.1),tM 7 (iI q.2.1),tB 1 [iU q.2.2.1,iU q.2.2.2.1,iU q.2.2.2.2.1,iU q.2.2.2.2.2],tB 2 [iU 0,iU 0,iU 0,iU 0]]) fun w h=>An (jT (_,w) (An h zz)) (nx fun ⟨e,j,a,b,c,d⟩ m1 x1 h hl1 hr1=>eN (cD h (fun v h=>eN (bC h fun t k h=>bC h fun f l h=>bC h fun m n h=>bC h fun o g h=>bC h fun p i h=>An (A0k (eI .u64) k) (eX [iU f] (An (A1s (eI .u64) l) (cK (An (cW (B7o e f s m n) zz) (r1 (An (A0k (eI .u64) g) (An (B3U (AV.int .u64) i) (eN (jR h hl1 zz))))))))))) (fun v h=>have h:=F9 h hr1;lf)))))))
theorem C85 (f g r:Int) (h:B67 f g=some r):A5 Tryz.prog 313 [iI f,iI g] [] (iI r) []:=
 C0 Tryz.func313 Tryz.call313 1 (eN (eN (eN (An (fun d=>An (fun e=>have h:=cT (oR d e) h;lf) (fun e=>have h:=cF (oR d e) h;lO h (fun q=>[tM 0 (iI q.1),tM 1 (iI q.2)]) fun j h=>An (jT (_,j) (An h zz)) (nx fun ⟨a,b⟩ m1 x1 h hl1 hr1=>eN (cD h (fun i h=>eN (kC h fun c h=>An (oD c) (jR h hl1 zz))) (fun i h=>have h:=F9 h hr1;lf))))) (fun d=>have h:=cT (oL d) h;lf)))))
theorem C0j (s:List B3) (r:A4×Bool) (h:A7D s=some r):A5 Tryz.prog 224 [lF 2 (List.map A8 s)] [] (.tup [.agg [iI r.1.Bl,iI r.1.Bh], .sb r.2]) []:=
 C0 Tryz.func224 Tryz.call224 1 (eN (eN (eX [iI (s.length:Int)] (An (lenS A8 s) (eN (cD h (fun W h=>lf) (fun W h=>eN (eN (eX [iI (s.length:Int)] (An (lenS A8 s) (lO h (fun q=>[tM 0 (lF 2 (List.map A8 s)),tM 2 (.ptr 1 0),tM 4 (iU (A7 (s.length:Int))),tM 5 (.ptr 769 0),tM 6 (.ptr 770 0),tM 7 (.ptr 771 0),tM 23 (lF 2 (List.map A8 s)),tM 24 (iI (s.length:Int)),tM 25 (iI q.1),tB 1 [iI 0,iI 0],tB 769 [iU q.2.1,iU q.2.2.1,iU q.2.2.2.1,iU q.2.2.2.2],tB 770 [iU 0,iU 0,iU 0,iU 0],tB 771 [iU 0,iU 0,iU 0,iU 0]]) fun U h=>An (jT (_,U) (An h zz)) (nx fun ⟨y,a,b,c,d⟩ m1 x1 h hl1 hr1=>eN (cD h (fun X h=>eN (bC h fun l N h=>eX [iI l.T,iI l.V] (An (B2 A8 N) (eN (bC h fun O P h=>cK (An (cW (A6s l.V _ rfl) zz) (r1 (cK (An (cW (A6s l.V _ rfl) zz) (r1 (eX (CK.gen [(769,0,4)] none _ _ none) (An (J1.wk (X6 (H6.mk a b c d) (S8 l.V) (S8 l.V) 0 O P) zz) (An rfl (An rfl (eN (jR h hl1 zz)))))))))))))))) (fun X h=>have h:=F9 h hr1;eN (lO h (fun q=>[tM 0 (lF 2 (List.map A8 s)),tM 2 (.ptr 1 0),tM 4 (iU (A7 (s.length:Int))),tM 5 (.ptr 769 0),tM 6 (.ptr 770 0),tM 7 (.ptr 771 0),tM 10 (iI q.1),tB 1 [iI 0,iI 0],tB 769 [iU a,iU b,iU c,iU d],tB 770 [iU q.2.1,iU q.2.2.1,iU q.2.2.2.1,iU q.2.2.2.2],tB 771 [iU 0,iU 0,iU 0,iU 0]]) fun U h=>An (jT (_,U) (An h zz)) (nx fun ⟨n,f,g,i,j⟩ m1 x1 h hl1 hr1=>eN (cD h (fun Y h=>eN (bC h fun Q z h=>bC h fun o A h=>bC h fun B C h=>An (A0k (eI .u64) z) (eX [iU o] (An (A1s (eI .u64) A) (eX (CK.gen [(770,0,4)] none _ _ none) (An (J1.wk (X6 (H6.mk f g i j) o (A7 (s.length:Int)) n B C) zz) (An rfl (An rfl (eN (jR h hl1 zz)))))))))) (fun Y h=>have h:=F9 h hr1;eN (bC h fun e D h=>cK (An (cW (B5g s e D) zz) (r1 (eN (bC h fun p E h=>eX (CK.gen [(771,0,4)] none _ _ none) (An (J1.wk (X6 (H6.mk 0 0 0 0) e.2.Lo e.2.Lo 0 p E) zz) (An rfl (An rfl (eN (bC h fun t F h=>eX (CK.gen [(771,0,4)] none _ _ none) (An (J1.wk (X6 p e.2.Lo e.2.Hi 1 t F) zz) (An rfl (An rfl (eN (bC h fun u G h=>eX (CK.gen [(771,0,4)] none _ _ none) (An (J1.wk (X6 t e.2.Lo e.2.Hi 1 u G) zz) (An rfl (An rfl (eN (bC h fun v H h=>eX (CK.gen [(771,0,4)] none _ _ none) (An (J1.wk (X6 u e.2.Hi e.2.Hi 2 v H) zz) (An rfl (An rfl (eN (bC h fun m I h=>cK (An (cW (C1T (H6.mk f g i j) v m I) zz) (r1 (eN (bC h fun w J h=>cK (An (cW (B8X m (A7 (s.length:Int)) w J) zz) (r1 (eN (bC h fun x K h=>cK (An (cW (C85 (A2 (A7 (s.length:Int))) (A2 w.2) x K) zz) (r1 (eN (bC h fun k L h=>cK (An (cW (B8X m (A7 x) k L) zz) (r1 (eN (eN (An (by first|decide|(simp only [A2];decide)|omega) (eX [iU k.1.e1] (An ⟨by first|decide|omega,by first|rfl|decide⟩ (An (by first|decide|(simp only [A2];decide)|omega) (eX [iU k.1.e2] (An ⟨by first|decide|omega,by first|rfl|decide⟩ (An (by first|decide|(simp only [A2];decide)|omega) (eX [iU k.1.e3] (An ⟨by first|decide|omega,by first|rfl|decide⟩ (An (fun R=>An (by first|decide|(simp only [A2];decide)|omega) (eX [iU k.1.e0] (An ⟨by first|decide|omega,by first|rfl|decide⟩ (An (fun S=>have h:=cT (oR R S) h;lf) (fun S=>have h:=cF (oR R S) h;eN (kC h fun M h=>An (by first|decide|(simp only [A2];decide)|omega) (eX [iU k.1.e0] (An ⟨by first|decide|omega,by first|rfl|decide⟩ (An (oD M) lf))))))))) (fun R=>have h:=cT (oL R) h;lf))))))))))))))))))))))))))))))))))))))))))))))))))))))))))))))))))))))
theorem C2Q (e:List B3) (f r:Int) (h:A7C e f=some r):A5 Tryz.prog 226 [lF 2 (List.map A8 e),iI f] [] (iI r) []:=
 C0 Tryz.func226 Tryz.call226 1 (eN (eN (eN (eX [iI (e.length:Int)] (An (lenS A8 e) (lO h (fun q=>[tM 1 (iI f),tM 5 (iI q.1),tM 8 (lF 2 (List.map A8 e)),tM 9 (iI (e.length:Int)),tM 10 (iI q.2)]) fun j h=>An (jT (_,j) (An h zz)) (nx fun ⟨c,b⟩ m1 x1 h hl1 hr1=>eN (cD h (fun g h=>eN (eN (bC h fun a d h=>eX [iI a.T,iI a.V] (An (B2 A8 d) (eN (eN (cD h (fun i h=>eN (eN (jR h hl1 zz))) (fun i h=>eN (jR h hl1 zz))))))))) (fun g h=>have h:=F9 h hr1;lf)))))))))
theorem B79 (o:List B3) (v w:Int) (r:Int×Bool) (h:A5g o v w=some r):A5 Tryz.prog 227 [lF 2 (List.map A8 o),iI v,iI w] [] (.tup [iI r.1, .sb r.2]) []:=
 C0 Tryz.func227 Tryz.call227 1 (eN (eN (eN (eX [iI (o.length:Int)] (An (lenS A8 o) (An (fun p=>An (fun t=>An (fun u=>An (fun x=>have h:=cT (oR (oR (oR p t) u) x) h;lf) (fun x=>have h:=cF (oR (oR (oR p t) u) x) h;eN (bC h fun c l h=>eX [iI (o.length:Int)] (An (lenS A8 o) (cK (An (cW (Y6 (A7 v) (A7 (o.length:Int)) _ rfl) zz) (r1 (cK (An (cW (O8 (A7 w) _ rfl) zz) (r1 (cK (An (cW (A5b (M7 (A7 v) (A7 (o.length:Int))) (H7 (A7 w)) c l) zz) (r1 (eN (eX (some (⟨Int,fun a=>[tM 0 (lF 2 (List.map A8 o)),tM 8 (.ptr 527 0),tB 527 [iU c.1.Hi,iU a]],fun a=>A07 o a=some r,fun _=>0⟩,1000000)) (An (cD h (fun y h=>eN (jT (A7 (c.1.Lo+1)) (An h zz))) (fun y h=>jT c.1.Lo (An h zz))) (fun a h=>eN (eN (eX [iI (o.length:Int)] (An (lenS A8 o) (oC h fun A h=>eX (Sum.inl ⟨((List Int)×Int)×Nat,fun q=>[tM 8 (.ptr 527 0),tM 11 (.own 1000511),tM 51 (lF 2 (List.map A8 o)),tM 52 (iI (o.length:Int)),tM 53 (iI q.1.2),tB 527 [iU c.1.Hi,iU a],(.tok 1000511, .tok 2 1 (List.map (eI .i64) q.1.1))],fun q=>N1 (fun (s:((List Int)×Int))=>A2g o a s.1 s.2) q.2 q.1=some r,fun q=>q.2⟩) (An (eX [(1000511,none)] (eX [] (eX (([],0),A) (An h zz)))) (nx fun ⟨b,d⟩ m1 x1 h hl1 hr1=>eN (cD h (fun z h=>eN (bC h fun e m h=>eX [iI e.T,iI e.V] (An (B2 A8 m) (eN (kC h fun f h=>An (kA (oD f)) (eN (eX [(1000511,some 1001028)] (eX [] (eX (((b++ [e.V]),(A2 (d+1))),m1) (An (hl1 ((b++ [e.V]),(A2 (d+1))) (oJ h).symm) (An (D4P m1) (r1 (fr (r4 (An lE trivial))))))))))))))) (fun z h=>have h:=F9 h hr1;eN (kC h fun g h=>eX (CK.sorts 1000511 2 b) (An C95 (An (An rfl (An rfl (oD g))) (eN (bC h fun n i h=>bC h fun j k h=>An (A0k (eI .i64) i) (eX [iI j] (An (A1s (eI .i64) k) lf)))))))))))))))))))))))))))))))) (fun u=>have h:=cT (oL (oR (oR p t) u)) h;lf)) (fun t=>have h:=cT (oL (oL (oR p t))) h;lf)) (fun p=>have h:=cT (oL (oL (oL p))) h;lf)))))))
theorem C2U (x:C9) (z:Q2) (r:C5×Int) (h:A5n x z=some r):A5 Tryz.prog 97 [.agg (L8 x), .agg [iI z.Op,iI z.A,iI z.B]] [] (.tup [.agg (Q0 r.1),iI r.2]) []:=
 C0 Tryz.func97 Tryz.call97 1 (eN (eN (bC h fun t u h=>cK (An (cW (A95 x t u) zz) (r1 (eN (cD h (fun G h=>lf) (fun G h=>eN (bC h fun f v h=>cK (An (cW (C1R x.Av f v) zz) (r1 (eN (bC h fun g w h=>cK (An (cW (B78 x.Av g w) zz) (r1 (eN (eN (eN (eN (eX (some (⟨Int,fun a=>[tM 4 (.ptr 3 0),tM 11 (iI a),tB 3 [iI 0,iI 0,iI 0,iI 0,iI 0,iI 0, .nilS,iU 0,iU 0,iU 0,iU 0]],fun a=>V5 a=some r,fun _=>0⟩,1000000)) (An (cD h (fun H h=>eN (cK (An (cW (C0i x.Av _ rfl) zz) (r1 (jT (A82 x.Av) (An h zz)))))) (fun H h=>eN (eN (cD h (fun I h=>eN (bC h fun b i h=>cK (An (cW (C5j x.Av b i) zz) (r1 (jT b.1 (An h zz)))))) (fun I h=>eN (eN (cD h (fun J h=>eN (bC h fun c j h=>cK (An (cW (B8W x.Av c j) zz) (r1 (jT c.1 (An h zz)))))) (fun J h=>eN (eN (cD h (fun K h=>eN (jT (A2 (g.1-f.1)) (An h zz))) (fun K h=>eN (cD h (fun L h=>eN (bC h fun d k h=>cK (An (cW (C0j x.Av d k) zz) (r1 (eN (bC h fun l m h=>cK (An (cW (U0 d.1 l m) zz) (r1 lf)))))))) (fun L h=>eN (cD h (fun M h=>eN (eX [iI (x.Av.length:Int)] (An (lenS A8 x.Av) (cD h (fun N h=>lf) (fun N h=>(by (first|cases h|rw [<-oJ h]);exact eN (r6 (An ff (An lE zz))))))))) (fun M h=>eN (cD h (fun O h=>eN (bC h fun e n h=>cK (An (cW (C2Q x.Av z.A e n) zz) (r1 (jT e (An h zz)))))) (fun O h=>eN (cD h (fun E h=>eN (eN (An (fun y=>An (fun C=>An (fun D=>have h:=cT (oR (oR y C) D) h;lf) (fun D=>have h:=cF (oR (oR y C) D) h;eN (bC h fun o p h=>cK (An (cW (B79 x.Av z.A z.B o p) zz) (r1 (eN (cD h (fun F h=>lf) (fun F h=>(by (first|cases h|rw [<-oJ h]);exact eN (r6 (An ff (An lE zz)))))))))))) (fun C=>have h:=cT (oL (oR y C)) h;lf)) (fun y=>have h:=cT (oL (oL y)) h;lf)))) (fun E h=>lf))))))))))))))))))) (fun a h=>eN (bC h fun q s h=>cK (An (cW (Y2 a _ rfl) zz) (r1 (cK (An (cW (U0 (Q8 a) q s) zz) (r1 lf))))))))))))))))))))))))))))
end Go.Proofs.YtoljnakoodalpaaGreat
