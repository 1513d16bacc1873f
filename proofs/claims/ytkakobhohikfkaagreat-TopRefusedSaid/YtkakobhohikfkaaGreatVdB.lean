/- The framework, what a law without a bound wants besides. -/
import Derived.Test.YtkakobhohikfkaaGreatVc
set_option linter.unusedVariables false
set_option linter.unusedSimpArgs false
namespace Go.Dec
open Go.Vc Go.RowKit Go.ChangeShapes Go.WideShapes Go.ChangeAt
section
variable {H:Type} {enc:TypeId×Value->H} {P:Program} {w:World} {base:Nat} {spare:Nat->Bool} {held:Bool}
theorem B3f {w:World} {as:List AV} {vs:Array Value} (h:F2 (LR w) as vs.toList):VR1 (C3u w) (.agg as) (.agg vs):=by
 refine ⟨vs,rfl,by simpa using h.length.symm,fun j c hj=> ?_⟩
 obtain ⟨u,h1,h2⟩:=h.get j c hj;exact ⟨u,by simpa using h1,h2.oneCell,PR.vr0 (m:=C3u w) h2⟩
end
end Go.Dec
namespace Go.Dec
open Go.Vc Go.RowKit Go.ChangeShapes Go.WideShapes Go.ChangeAt
section
variable {H:Type} {enc:TypeId×Value->H} {P:Program} {w:World} {base:Nat} {spare:Nat->Bool} {held:Bool}
theorem A3z {P:Program} {w:World} {ok:Nat->Prop} {src e dst:TypeId} {f:Bool} {l:List Int} {v:Value} (hs:P.underlying src=some (.slice e)) (he:P.underlying e=some (.int .u8)) (hd:P.underlying dst=some .string)
  (h:PR w ok (.lst 1 f (List.map (fun n=> [AV.int .u8 n]) l)) v):(convert src dst v).run P w= .ok (.string (strOfNums l)) w:=by
 obtain ⟨a,cap,u,rfl,hcap,hnone,hcell,hrec⟩: ∃(a:Option Addr) (cap:Nat) (u:Nat->Nat->Value),v= .slice a l.length cap/\l.length<=cap/\(a=none->cap=0)/\
   (∀(i j:Nat) (c:List AV) (x:AV),(List.map (fun n=> [AV.int .u8 n]) l)[i]? =some c->c[j]? =some x-> ∀ad,a=some ad->ad.spot=none/\ok ad.block/\w.cell? ⟨ad.block,ad.off+(i*1+j),none⟩=some (u i j))/\
   (∀(i j:Nat) (c:List AV) (x:AV),(List.map (fun n=> [AV.int .u8 n]) l)[i]? =some c->c[j]? =some x->PR w ok x (u i j)):=by
  match v,h with
  |_, .lst _ _ _ a cap u hcap hmax hfull hsz hnone hcell hrec=>
   rw [D5q] at hcap;exact ⟨a,cap,u,by rw [D5q],hcap,hnone,hcell,hrec⟩
 cases a with
 |none=>
  have h0:=hnone rfl;have hl:l= []:=D5o (by omega)
  subst hl;exact run_convert_bytes_nil w src e hs he 0 cap dst hd
 |some ad=>
  have hc: ∀i,i<l.length->ad.spot=none/\w.cell? ⟨ad.block,ad.off+i,none⟩=some (.int .u8 (l.getD i 0)):=by
   intro i hi;have h1:(List.map (fun n=> [AV.int .u8 n]) l)[i]? =some [AV.int .u8 l[i]]:=by rw [D5c,D4R hi];rfl
   obtain ⟨g1,g2,g3⟩:=hcell i 0 _ _ h1 rfl ad rfl;rw [show i*1+0=i by omega] at g3
   have g4:=hrec i 0 _ _ h1 rfl
   generalize u i 0=uu at g3 g4
   cases g4;refine ⟨g1, ?_⟩;rw [D5z,D4R hi];simpa using g3
  by_cases h0:l= []
  ·subst h0;show (convert src dst (.slice (some ad) 0 cap)).run P w=_;rw [run_convert_bytes_string w src dst e _ 0 cap hs he hd];exact run_bytesToString w ad 0 cap [] rfl
  ·obtain ⟨b,o,sp⟩:=ad;have hpos:0<l.length:=List.length_pos_iff.2 h0;obtain rfl:sp=none:=(hc 0 hpos).1;exact run_convert_bytes_arg w src e hs he b o _ cap l rfl (fun i hi=>(hc i hi).2) dst hd
end
end Go.Dec
namespace Go.Dec
open Go.Vc Go.RowKit Go.ChangeShapes Go.WideShapes Go.ChangeAt
section
variable {H:Type} {enc:TypeId×Value->H} {P:Program} {w:World} {base:Nat} {spare:Nat->Bool} {held:Bool}
theorem A94 {P:Program} {f:FuncId} {src e dst:TypeId} (hc:∀(vs:Array Value) (w:World),(callFunc f vs).run P w= .ok (.enter f vs) w)
  (hs:P.underlying src=some (.slice e)) (he:P.underlying e=some (.int .u8)) (hd:P.underlying dst=some .string)
  (hw: ∀(v1 v2:Value) (xs ys:List Int) (w:World),(convert src dst v1).run P w= .ok (.string (strOfNums xs)) w->(convert src dst v2).run P w= .ok (.string (strOfNums ys)) w->
   Calls P f #[v1,v2] w fun e w' =>e= .returned (.bool (Lib.bytesOf xs==Lib.bytesOf ys))/\w' =w) (a b:List Int):
  E5 P f [.lst 1 false (List.map (eI .u8) a), .lst 1 false (List.map (eI .u8) b)] [] (.sb (Lib.bytesOf a==Lib.bytesOf b)) []:=by
 refine ⟨fun w β p ok vs hmr hl hv=> .inl ⟨hc vs w, ?_⟩⟩;obtain ⟨u0,g0,k0⟩:=hv 0 _ rfl;obtain ⟨u1,g1,k1⟩:=hv 1 _ rfl;have hvs:vs= #[u0,u1]:=by
  obtain ⟨l⟩:=vs
  match l,hl with
  | [p,q],_=>
   simp at g0 g1;subst g0 g1
   rfl
 subst hvs;refine (hw u0 u1 a b w (A3z hs he hd k0) (A3z hs he hd k1)).mono ?_;rintro e w' ⟨rfl,rfl⟩;refine ⟨_,β,p,ok,rfl,C1M hmr ?_⟩
 rfl
end
end Go.Dec
namespace Go.Win
open Go.Vc Go.RowKit Go.ChangeShapes Go.WideShapes Go.ChangeAt
section
variable {H:Type} {enc:TypeId×Value->H} {P:Program} {w:World} {base:Nat} {spare:Nat->Bool} {held:Bool}
def G2 (a b:List Int):Option Bool:=some (Lib.bytesOf a==Lib.bytesOf b)
end
end Go.Win
