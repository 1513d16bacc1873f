/- The contracts: each function of the program does what its function on plain data says. Made by program. -/
import Derived.Test.YticmbokcamokpaaGreatCoh
import Derived.Test.YticmbokcamokpaaGreatCon9
import Derived.Test.YticmbokcamokpaaGreatCon3
import Derived.Test.YticmbokcamokpaaGreatCon4
set_option linter.unusedVariables false
set_option linter.unusedSimpArgs false
set_option linter.unnecessarySimpa false
set_option maxHeartbeats 40000000
set_option maxRecDepth 20000
namespace Go.Proofs.YticmbokcamokpaaGreat
open Go.Vc Go.Dec Go.Win
theorem B3y {a:Int}{r:Bool}(h:A0c a=r):E9 Tryz.prog 97 [iI a] [] (.sb r) []:=
 C0 Tryz.func97 Tryz.call97 1 (au)
instance:CC 97 (type_of% @B3y):=⟨@B3y⟩
theorem B7a {a:Int}{b:Int}{c:Int}{r:(D0×Int)}(h:B2V a b c=r):E9 Tryz.prog 98 [iI a,iI b,iI c] [] (.tup [.agg (M9 r.1),iI r.2]) []:=
 C0 Tryz.func98 Tryz.call98 1 (au)
instance:CC 98 (type_of% @B7a):=⟨@B7a⟩
theorem B7U {a:Int}{b:Int}{c:Int}{d:Int}{r:(E4×Int)}(h:B4F a b c d=r):E9 Tryz.prog 99 [iI a,iI b,iI c,iI d] [] (.tup [.agg (N1 r.1),iI r.2]) []:=
 C0 Tryz.func99 Tryz.call99 1 (au)
instance:CC 99 (type_of% @B7U):=⟨@B7U⟩
theorem C06 {a:Int}{b:Int}{c:Int}{d:Int}{e:Int}{r:(F3×Int)}(h:B9q a b c d e=r):E9 Tryz.prog 100 [iI a,iI b,iI c,iI d,iI e] [] (.tup [.agg (P3 r.1),iI r.2]) []:=
 C0 Tryz.func100 Tryz.call100 1 (au)
instance:CC 100 (type_of% @C06):=⟨@C06⟩
theorem B7b {a:Int}{b:Int}{c:Int}{d:Int}{e:Int}{r:(D2×Int)}(h:B3i a b c d e=r):E9 Tryz.prog 101 [iI a,iI b,iI c,iI d,iI e] [] (.tup [.agg (K9 r.1),iI r.2]) []:=
 C0 Tryz.func101 Tryz.call101 1 (au)
instance:CC 101 (type_of% @B7b):=⟨@B7b⟩
theorem B7c {a:Int}{b:Int}{c:Int}{d:Int}{r:(D5×Int)}(h:B3l a b c d=r):E9 Tryz.prog 102 [iI a,iI b,iI c,iI d] [] (.tup [.agg (K4 r.1),iI r.2]) []:=
 C0 Tryz.func102 Tryz.call102 1 (au)
instance:CC 102 (type_of% @B7c):=⟨@B7c⟩
instance c_poly_New {a:Int}{b:Int}{r:(E2×Int)}:CF (C0F a b=some r) 103 [iI a,iI b] [] none (.tup [.agg (O6 r.1),iI r.2]) [] none:=⟨fun h=>C0 Tryz.func103 Tryz.call103 1 (au)⟩
instance c_halve_New {a:Int}{b:Int}{r:(F4×Int)}:CF (B4N a b=some r) 104 [iI a,iI b] [] none (.tup [.agg [iI r.1.Now,lF 1 (List.map (eI .i64) r.1.Bo)],iI r.2]) [] none:=⟨fun h=>C0 Tryz.func104 Tryz.call104 1 (au)⟩
theorem B5K {a:Bool}{b:Int}{c:Int}{d:Int}{r:(C2×Int)}(h:B09 a b c d=r):E9 Tryz.prog 105 [.sb a,iI b,iI c,iI d] [] (.tup [.agg (I7 r.1),iI r.2]) []:=
 C0 Tryz.func105 Tryz.call105 1 (au)
instance:CC 105 (type_of% @B5K):=⟨@B5K⟩
theorem B7T {a:Int}{b:Int}{r:(B5×Int)}(h:X7 a b=r):E9 Tryz.prog 180 [iI a,iI b] [] (.tup [.agg (F8 r.1),iI r.2]) []:=
 C0 Tryz.func180 Tryz.call180 1 (au)
instance:CC 180 (type_of% @B7T):=⟨@B7T⟩
instance c_sample_New {a:Int}{b:Int}{p2:Int}{r:(E7×Int)}:CF (B3g a b p2=some r) 106 [iI a,iI b,iI p2] [] none (.tup [.agg [lF 5 (List.map F8 r.1.Ao)],iI r.2]) [] none:=⟨fun h=>C0 Tryz.func106 Tryz.call106 1 (let E:List Nat×List Nat×(((Int×(List B5)))->St):=([1,2,6,8,18],[1],fun q=>[tM 19 (iI q.1),tB 513 [.own 1024],(.tok 1024, .tok 293 5 (List.map F8 q.2))]);au)⟩
theorem B5O {a:Int}{b:Int}{r:(C1×Int)}(h:B1l a b=r):E9 Tryz.prog 107 [iI a,iI b] [] (.tup [.agg (H9 r.1),iI r.2]) []:=
 C0 Tryz.func107 Tryz.call107 1 (au)
instance:CC 107 (type_of% @B5O):=⟨@B5O⟩
theorem B4z {a:Int}{b:Int}{c:Int}{d:Int}{r:(C3×Int)}(h:A9N a b c d=r):E9 Tryz.prog 108 [iI a,iI b,iI c,iI d] [] (.tup [.agg (I1 r.1),iI r.2]) []:=
 C0 Tryz.func108 Tryz.call108 1 (au)
instance:CC 108 (type_of% @B4z):=⟨@B4z⟩
instance c_synopsis_New {a:B7}{b:Int}{r:(A9×Int)}:CF (A3f a b=some r) 57 [.agg (I5 a),iI b] [] none (.tup [.agg (G4 r.1),iI r.2]) [] none:=⟨fun h=>C0 Tryz.func57 Tryz.call57 1 (au)⟩
theorem A8L {y:Int}{z:Int}{r:(Int×Int)}(h:R1 y z=r):E9 Tryz.prog 259 [iI y,iI z] [] (.tup [iI r.1,iI r.2]) []:=
 C0 Tryz.func259 Tryz.call259 1 (au)
instance:CC 259 (type_of% @A8L):=⟨@A8L⟩
instance c_exact_Live {y:(List A8)}{z:Int}{p2:Int}{r:(List A8)}:CF (B2J y z p2=some r) 260 [lF 2 (List.map E8 y),iI z,iI p2] [] none (lF 2 (List.map E8 r)) [] none:=⟨fun h=>C0 Tryz.func260 Tryz.call260 1 (let E:List Nat×List Nat×((((List A8)×Int))->St):=([1,2,14,15],[],fun q=>[tM 7 (.own 1024),tM 16 (iI q.2),(.tok 1024, .tok 299 2 (List.map E8 q.1))]);au)⟩
instance c_recent_Advance {y:D0}{z:Int}{r:(D0×Int)}:CF (A7j y z=some r) 152 [.agg (M9 y),iI z] [] none (.tup [.agg (M9 r.1),iI r.2]) [] none:=⟨fun h=>C0 Tryz.func152 Tryz.call152 1 (au)⟩
instance c_buckets_Expire {y:(List A3)}{z:Int}{r:(List A3)}:CF (A1d y z=some r) 261 [lF 2 (List.map E1 y),iI z] [] none (lF 2 (List.map E1 r)) [] none:=⟨fun h=>C0 Tryz.func261 Tryz.call261 1 (let E:List Nat×List Nat×(((List A3))->St):=([1],[],fun q=>[tM 0 (lF 2 (List.map E1 q))]);au)⟩
instance c_count_Advance {y:E4}{z:Int}{r:(E4×Int)}:CF (A8n y z=some r) 153 [.agg (N1 y),iI z] [] none (.tup [.agg (N1 r.1),iI r.2]) [] none:=⟨fun h=>C0 Tryz.func153 Tryz.call153 1 (au)⟩
instance c_sum_Advance {y:F3}{z:Int}{r:(F3×Int)}:CF (B1k y z=some r) 154 [.agg (P3 y),iI z] [] none (.tup [.agg (P3 r.1),iI r.2]) [] none:=⟨fun h=>C0 Tryz.func154 Tryz.call154 1 (au)⟩
instance c_marks_Advance {y:(List A6)}{z:Int}{p2:Int}{r:(List A6)}:CF (A18 y z p2=some r) 263 [lF 7 (List.map C8 y),iI z,iI p2] [] none (lF 7 (List.map C8 r)) [] none:=⟨fun h=>C0 Tryz.func263 Tryz.call263 1 (let E:List Nat×List Nat×(((List A6))->St):=([1,2],[],fun q=>[tM 0 (lF 7 (List.map C8 q))]);au)⟩
instance c_smooth_Advance {y:D2}{z:Int}{r:(D2×Int)}:CF (A7w y z=some r) 155 [.agg (K9 y),iI z] [] none (.tup [.agg (K9 r.1),iI r.2]) [] none:=⟨fun h=>C0 Tryz.func155 Tryz.call155 1 (au)⟩
instance c_spread_Advance {y:D5}{z:Int}{r:(D5×Int)}:CF (A7z y z=some r) 156 [.agg (K4 y),iI z] [] none (.tup [.agg (K4 r.1),iI r.2]) [] none:=⟨fun h=>C0 Tryz.func156 Tryz.call156 1 (au)⟩
instance c_poly_Advance {y:E2}{z:Int}{r:(E2×Int)}:CF (A9K y z=some r) 157 [.agg (O6 y),iI z] [] none (.tup [.agg (O6 r.1),iI r.2]) [] none:=⟨fun h=>C0 Tryz.func157 Tryz.call157 1 (au)⟩
instance c_halve_Advance {y:F4}{z:Int}{r:(F4×Int)}:CF (A8t y z=some r) 158 [.agg [iI y.Now,lF 1 (List.map (eI .i64) y.Bo)],iI z] [] none (.tup [.agg [iI r.1.Now,lF 1 (List.map (eI .i64) r.1.Bo)],iI r.2]) [] none:=⟨fun h=>C0 Tryz.func158 Tryz.call158 1 (⟨none,⟨none,bC h fun b c h=>⟨cK (An (cW ((@c_halve_Validate y b).pf c) zz) (r1 (⟨none,cD h (fun A h=>lf) (fun A h=>⟨none,⟨cK (An (cW (@A8L y.Now z _ rfl) zz) (r1 (⟨none,cD h (fun B h=>lf) (fun B h=>⟨none,kC h fun d h=>An (kA (oD d)) (⟨none,⟨[iI ((([]:List Int)++y.Bo).length:Int)],An B6B (⟨(some (some ([], [], [tM 1 (iI z),tM 2 (.ptr 1 0),tM 4 (.ptr 2 0),tM 9 (.ali 1284),tM 10 (iI (A4M (A1 (z-y.Now)) ((([]:List Int)++y.Bo).length:Int))),tB 1 [iI y.Now,lF 1 (List.map (eI .i64) y.Bo)],tB 2 [iI 0, .nilS],(.tok 1284, .tok 2 1 (List.map (eI .i64) (([]:List Int)++y.Bo)))],1000000))),An (r4 (fr (r1 (An lE trivial)))) (kC h fun e h=>An (kV (oD e)) (⟨none,kC h fun a h=>An (kV (oD a)) (⟨(some (some ([], [], [tM 1 (iI z),tM 4 (.ptr 2 0),tM 9 (.own 1284),tB 2 [iI 0, .nilS],(.tok 1284, .tok 2 1 (List.map (eI .i64) (laid (laid (([]:List Int)++y.Bo) ((A4M (A1 (z-y.Now)) ((([]:List Int)++y.Bo).length:Int))).toNat (y.Bo.take ((([]:List Int)++y.Bo).length-((A4M (A1 (z-y.Now)) ((([]:List Int)++y.Bo).length:Int))).toNat))) 0 (List.replicate ((A4M (A1 (z-y.Now)) ((([]:List Int)++y.Bo).length:Int))).toNat 0))))],2000000))),An (r3 (An lE trivial)) lf⟩)⟩))⟩)⟩⟩)⟩)⟩)))⟩⟩)⟩)))⟩⟩⟩)⟩
instance c_extreme_Advance {y:C2}{z:Int}{r:(C2×Int)}:CF (A59 y z=some r) 159 [.agg (I7 y),iI z] [] none (.tup [.agg (I7 r.1),iI r.2]) [] none:=⟨fun h=>C0 Tryz.func159 Tryz.call159 1 (let E:List Nat×List Nat×(((List A8))->St):=([1,2,4],[1,2],fun q=>[tM 9 (lF 2 (List.map E8 q))]);au)⟩
instance c_blocks_Expire {y:(List B1)}{z:Int}{r:(List B1)}:CF (A3z y z=some r) 264 [lF 5 (List.map D1 y),iI z] [] none (lF 5 (List.map D1 r)) [] none:=⟨fun h=>C0 Tryz.func264 Tryz.call264 1 (let E:List Nat×List Nat×(((List B1))->St):=([1],[],fun q=>[tM 0 (lF 5 (List.map D1 q))]);au)⟩
instance c_quantile_Advance {y:C3}{z:Int}{r:(C3×Int)}:CF (A5j y z=some r) 160 [.agg (I1 y),iI z] [] none (.tup [.agg (I1 r.1),iI r.2]) [] none:=⟨fun h=>C0 Tryz.func160 Tryz.call160 1 (au)⟩
instance c_recent_Add {y:D0}{z:Int}{r:(D0×Int)}:CF (A7i y z=some r) 110 [.agg (M9 y),iI z] [] none (.tup [.agg (M9 r.1),iI r.2]) [] none:=⟨fun h=>C0 Tryz.func110 Tryz.call110 1 (au)⟩
instance c_buckets_may {y:(List A3)}{z:Int}{r:Bool}:CF (A34 y z=some r) 274 [lF 2 (List.map E1 y),iI z] [] none (.sb r) [] none:=⟨fun h=>C0 Tryz.func274 Tryz.call274 1 (au)⟩
instance c_buckets_insert_i1 {y:(List A3)}{z:Int}{p2:Int}{r:(List A3)}:CF (V3 y z p2=some r) 275 [.own 0,iI z,iI p2] [] (some (408,2,List.map E1 y)) (.own 0) [] (some (408,2,List.map E1 r)):=⟨fun h=>C0 Tryz.func275 Tryz.call275 1 (⟨none,⟨none,kC h fun p h=>An (kA (oD p)) (⟨none,⟨[iI ((y++ [(A3.mk p2 0)]).length:Int)],An B6B (⟨none,⟨lO h (fun q=>[tM 0 (.own 261),tM 1 (iI z),tM 7 (iI q.2.1),tM 8 (iI q.2.2),(.tok 261, .tok 408 2 (List.map E1 q.1))]) fun G h=>An (jT (_,G) (An h (r4 (An lE trivial)))) (nx fun ⟨c,e,b⟩ m1 x1 h hl1 hr1=>⟨none,oC h fun H h=>⟨(Sum.inl ⟨Int×Nat,fun q=>[tM 0 (.own 261),tM 1 (iI z),tM 7 (iI e),tM 8 (iI b),tM 9 (iI q.1),(.tok 261, .tok 408 2 (List.map E1 c))],fun q=>M7 (fun (s:Int)=>A4C z c e b s) q.2 q.1=some x1,fun q=>q.2⟩),An (⟨[],⟨[],⟨(e,H),An h zz⟩⟩⟩) (nx fun a I J h C D=>⟨none,bC h fun x t h=>bC h fun g u h=>⟨uO [tM 0 (.own 261),tM 1 (iI z),tM 7 (iI e),tM 8 (iI b),tM 9 (iI a),tM 31 (.sb ((decide (a>0))&&(g.Bd==b))),(.tok 261, .tok 408 2 (List.map E1 c))] 1000000 (An (An (fun A=>An (N7 E1 (gdT A t)) (⟨[iI g.T,iI g.Bd],An (P8 E1 (gdT A u)) (jV ((r5 (An (D8b (aR A rfl)) zz))))⟩)) (fun A=>jV ((r5 (An (D8b (aL A)) zz))))) (fun _ _=>cD h (fun B h=>⟨none,jR h C zz⟩) (fun B h=>have h:=W1 h D;⟨none,cD h (fun F h=>(by cases A2I h hr1;exact ⟨none,rfl⟩)) (fun F h=>⟨none,bC h fun w k h=>bC h fun d l h=>bC h fun v i h=>bC h fun f j h=>An (N7 E1 k) (⟨[iI d.T,iI d.Bd],An (P8 E1 l) (An (N7 E1 i) (⟨[iI f.T,iI f.Bd],An (P8 E1 j) (⟨(some (some ([], [], [tM 0 (.ali 261),tM 1 (iI z),tM 8 (iI b),tM 9 (iI a),(.tok 261, .tok 408 2 (List.map E1 (c.set (a).toNat (A3.mk d.T (A1 (b+1))))))],2000000))),An (r4 (An lE trivial)) (kC h fun m h=>kC h fun n h=>kC h fun o h=>An (kV (oD m)) (An (kV (oD n)) (An (kV (oD o)) (⟨(some (some ([], [], [tM 0 (.own 2000008),tM 1 (iI z),tM 8 (iI b),tM 9 (iI a),(.tok 2000008, .tok 408 2 (List.map E1 ((c.set (a).toNat (A3.mk d.T (A1 (b+(1:Int))))).take ((A1 (a+(1:Int)))).toNat++(((c.set (a).toNat (A3.mk d.T (A1 (b+(1:Int))))).drop ((A1 (a+(2:Int)))).toNat).take ((c.set (a).toNat (A3.mk d.T (A1 (b+(1:Int))))).length-((A1 (a+(2:Int)))).toNat)))))],3000000))),An (r4 (An lE trivial)) (⟨none,⟨[(261,some 2000008)],⟨[],⟨((((c.set (a).toNat (A3.mk d.T (A1 (b+(1:Int))))).take ((A1 (a+(1:Int)))).toNat++(((c.set (a).toNat (A3.mk d.T (A1 (b+(1:Int))))).drop ((A1 (a+(2:Int)))).toNat).take ((c.set (a).toNat (A3.mk d.T (A1 (b+(1:Int))))).length-((A1 (a+(2:Int)))).toNat))),(A1 (a+1)),(A1 (b+1))),m1),An (hl1 (((c.set (a).toNat (A3.mk d.T (A1 (b+(1:Int))))).take ((A1 (a+(1:Int)))).toNat++(((c.set (a).toNat (A3.mk d.T (A1 (b+(1:Int))))).drop ((A1 (a+(2:Int)))).toNat).take ((c.set (a).toNat (A3.mk d.T (A1 (b+(1:Int))))).length-((A1 (a+(2:Int)))).toNat))),(A1 (a+1)),(A1 (b+1))) (oJ h).symm) (An (D8s m1) zz)⟩⟩⟩⟩)⟩))))⟩)⟩))⟩)⟩)⟩)))⟩⟩)⟩⟩)⟩⟩)⟩⟩)⟩⟩)⟩
instance c_buckets_Insert {y:(List A3)}{z:Int}{p2:Int}{r:(List A3)}:CF (A2X y z p2=some r) 188 [lF 2 (List.map E1 y),iI z,iI p2] [] none (lF 2 (List.map E1 r)) [] none:=⟨fun h=>C0 Tryz.func188 Tryz.call188 1 (au)⟩
instance c_count_Add {y:E4}{r:(E4×Int)}:CF (A3O y=some r) 111 [.agg (N1 y)] [] none (.tup [.agg (N1 r.1),iI r.2]) [] none:=⟨fun h=>C0 Tryz.func111 Tryz.call111 1 (au)⟩
end Go.Proofs.YticmbokcamokpaaGreat
