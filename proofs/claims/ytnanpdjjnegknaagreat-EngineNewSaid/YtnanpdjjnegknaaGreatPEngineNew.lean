/- The law EngineNew of package windowpanelaw29 answers true at every input, and leaves its arguments as they were. Conditions: none. -/
import Derived.Test.YtnanpdjjnegknaaGreatRows
import Derived.Test.YtnanpdjjnegknaaGreatFEngineNew
import Derived.Test.YtnanpdjjnegknaaGreatCon
import Derived.Test.YtnanpdjjnegknaaGreatVc
import Derived.Test.YtnanpdjjnegknaaGreatQa
import Derived.ProofKit
import Derived.OpenShut
set_option linter.unusedVariables false
set_option linter.unusedSimpArgs false
namespace Go.Proofs.YtnanpdjjnegknaaGreat.engineNew
open Go.Vc Go.Dec Go.Win Go.ChangeShapes Go.WideShapes Go.ChangeAt Go.RowKit
theorem own:ownKnob Tryz.prog.godebug=none:=by kernel_rfl
theorem D1M:laidOutB Tryz.prog=true:=by kernel_rfl
theorem D1P:Tryz.prog.cellsOf 3=1:=by kernel_rfl
def Op {α:Type} (t:TypeId) (E:α->List AV) (W:α->Prop):Prop:= ∀ {H:Type} {enc:TypeId×Value->H} {w:World} {base:Nat} {spare:Nat->Bool} {held:Bool} {fuel:Nat} {cs:List Value} {x:DataW H×List MemPlace},DataW.trod enc Tryz.prog w base spare held fuel t cs=some x-> ∃y:α,F2 (LR w) (E y) cs/\W y
theorem fO {α:Type} {t:TypeId} {E:α->List AV} {W:α->Prop} (hop:Op t E W) {H:Type} {enc:TypeId×Value->H} {w:World} {base:Nat} {spare:Nat->Bool} {held:Bool} {fs:Array Field} {n:Nat} {cs:List Value} {xs:List (DataW H×List MemPlace)} (hlen:xs.length=fs.size)
  (hf:∀(i:Nat) (f:Field),fs[i]? =some f->DataW.trod enc Tryz.prog w base spare held n f.type ((cs.drop f.offset).take (Tryz.prog.cellsOf f.type))=xs[i]?) (i:Nat) (f:Field) (hi:fs[i]? =some f) (o k:Nat) (ht:f.type=t) (ho:f.offset=o) (hk:Tryz.prog.cellsOf t=k): ∃y,F2 (LR w) (E y) ((cs.drop o).take k)/\W y:=
 let ⟨_,g⟩:=D0M hlen hf i f hi o k ht ho hk;hop g
theorem D1Q:Op 3 (eI .i64) (F1 .i64):=fun h=>D03 Tryz.underlying3 h
theorem D1L (w:World) (p0:Int) (w0:F1 .i64 p0):Calls Tryz.prog 3 #[.int .i64 p0] w fun e w' =>e= .returned (.bool true)/\Below w.heap.size w w' :=
 (B62 p0 true (B3O p0 w0)).law2 Tryz.call3 w _ rfl (fun i c hi=>by
  match i,hi with
  |0,hi=>cases hi;exact ⟨_,rfl,rfl⟩)
set_option maxRecDepth 100000 in
theorem D0U (os:Os) (started:os.Started) (H:Type) (enc:TypeId×Value->H):
  ReturnsInHanded {} Tryz.checked os 3 .any (Rows.engineNewSpec.pre6 enc Tryz.prog Tryz.f3 Rows.engineNewRow.domain false) (Rows.engineNewSpec.post enc Tryz.prog Tryz.f3 false true false false):=by
 refine returnsInHanded_of_change (C:=Tryz.checked) own started (by kernel_rfl) Tryz.func3
  (ChangeSpec.witness6 (enc:=enc) (C:=Tryz.checked) false ⟨#[], #[.int .i64 0], []⟩ 8 (by kernel_rfl) (by kernel_rfl) (by kernel_rfl) (by kernel_rfl)) ?_
 intro W base args ds gs before hval0 hW hcnd _;have hval: ∀(j:Nat) t v,Tryz.f3.params[j]? =some t->args[j]? =some v->Value.okWide Tryz.prog W .any base t v:=hval0;have hW' :=hW;obtain ⟨p,q,hA0,hV,rfl,hfz,hnd⟩:=hW;have hA:DataW.TrodAll enc Tryz.prog W 0 (fun _=>true) true Tryz.f3.params.toList args.toList ds p:=hA0;rw [Tryz.params3] at hA hval;obtain ⟨v0,vs0,d0,ds0,pl0,q0,hargs,rfl,rfl,h0,r0⟩:=trodAll_cons hA;obtain ⟨rfl,rfl,rfl⟩:=trodAll_nil r0;obtain rfl:args= #[v0]:=by cases args;simp_all
 obtain ⟨rfl,rfl⟩:=trodVars_none hV;obtain ⟨a0,rfl,rfl,rfl,w0⟩:=open_int Tryz.underlying3 (hval 0 3 v0 rfl rfl) h0
 clear hA0 hval0
 simp only [List.append_nil,List.nil_append] at hW';refine (D1L W a0 w0).mono fun e W' ⟨he,hb⟩=> ?_;subst he;exact ⟨_,rfl,C2p (pa:= []) (pv:= []) hW' (fun _ _ _=>(trodAll_cons_mk (shut_bool Tryz.underlying4 _) trodAll_mk0))
  (fun sp hsp=>by
   have:DataW.TrodAll enc Tryz.prog W' 0 sp true [3] [.int .i64 a0] [.lit (.int .i64 a0)] _:=(trodAll_cons_mk (shut_int Tryz.underlying3 w0) trodAll_mk0);have h2:DataW.TrodAll enc Tryz.prog W' 0 sp true [3] [.int .i64 a0] [.lit (.int .i64 a0)] ([]):=by simpa using this
   exact h2) (fun _ _=>rfl) (by simp) hb
  (ok_one (by kernel_rfl) rfl (okWide_bool_mk Tryz.underlying4 _))⟩
theorem D1q:Tryz.pinned.checked.prog.funcNamed Rows.engineNewRow.func=some 3:=by kernel_rfl
theorem D1H:Tryz.f3.isInstance Tryz.pinned.checked.prog Rows.engineNewRow.origin Rows.engineNewRow.targs:=of_decide_eq_true (by kernel_rfl)
theorem wrap:Tryz.f3.isWrapper Tryz.pinned.checked.prog Rows.engineNewRow.wrapper Rows.engineNewRow.mainSum:=by unfold Func.isWrapper;first|(rw [if_pos (by decide+kernel)];kernel_rfl)|(rw [if_neg (by decide+kernel)];exact ⟨rfl,rfl⟩)
theorem D1J:Rows.engineNewRow.holds Tryz.pinned (OpenSpec.ofChange Rows.engineNewSpec):=
 OpenClaim.holds_of_wide 3 Tryz.f3 rfl rfl rfl rfl rfl rfl rfl ⟨rfl,rfl,rfl,rfl,rfl⟩ rfl rfl rfl rfl rfl D1q Tryz.func3 D0S D1H wrap
  (fun os started H enc _=>D0U os started H enc)
theorem proved:Rows.EngineNewSaid:=
 D1J
#print axioms proved
end Go.Proofs.YtnanpdjjnegknaaGreat.engineNew
