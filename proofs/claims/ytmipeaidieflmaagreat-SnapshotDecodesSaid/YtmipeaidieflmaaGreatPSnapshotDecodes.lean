/- The law SnapshotDecodes of package windowpanelaw28 answers true at every input, and leaves its arguments as they were. Conditions: none. -/
import Derived.Test.YtmipeaidieflmaaGreatRows
import Derived.Test.YtmipeaidieflmaaGreatFSnapshotDecodes
import Derived.Test.YtmipeaidieflmaaGreatCon
import Derived.Test.YtmipeaidieflmaaGreatVc
import Derived.Test.YtmipeaidieflmaaGreatVd
import Derived.Test.YtmipeaidieflmaaGreatPuSnJ
import Derived.ProofKit
import Derived.OpenShut
set_option linter.unusedVariables false
set_option linter.unusedSimpArgs false
namespace Go.Proofs.YtmipeaidieflmaaGreat.snapshotDecodes
open Go.Vc Go.Dec Go.Win Go.ChangeShapes Go.WideShapes Go.ChangeAt Go.RowKit
theorem own:ownKnob Tryz.prog.godebug=none:=by kernel_rfl
theorem laidOut:laidOutB Tryz.prog=true:=by kernel_rfl
theorem cells5:Tryz.prog.cellsOf 5=1:=by kernel_rfl
theorem D11:Tryz.prog.cellsOf 68=1:=by kernel_rfl
def Op {α:Type} (t:TypeId) (E:α->List AV) (W:α->Prop):Prop:= ∀ {H:Type} {enc:TypeId×Value->H} {w:World} {base:Nat} {spare:Nat->Bool} {held:Bool} {fuel:Nat} {cs:List Value} {x:DataW H×List MemPlace},DataW.trod enc Tryz.prog w base spare held fuel t cs=some x-> ∃y:α,F2 (LR w) (E y) cs/\W y
theorem fO {α:Type} {t:TypeId} {E:α->List AV} {W:α->Prop} (hop:Op t E W) {H:Type} {enc:TypeId×Value->H} {w:World} {base:Nat} {spare:Nat->Bool} {held:Bool} {fs:Array Field} {n:Nat} {cs:List Value} {xs:List (DataW H×List MemPlace)} (hlen:xs.length=fs.size)
  (hf:∀(i:Nat) (f:Field),fs[i]? =some f->DataW.trod enc Tryz.prog w base spare held n f.type ((cs.drop f.offset).take (Tryz.prog.cellsOf f.type))=xs[i]?) (i:Nat) (f:Field) (hi:fs[i]? =some f) (o k:Nat) (ht:f.type=t) (ho:f.offset=o) (hk:Tryz.prog.cellsOf t=k): ∃y,F2 (LR w) (E y) ((cs.drop o).take k)/\W y:=
 let ⟨_,g⟩:=fieldS hlen hf i f hi o k ht ho hk;hop g
theorem open5:Op 5 (eI .u8) (E0 .u8):=fun h=>A4t Tryz.underlying5 h
theorem D08:Op 68 (eL 1 (eI .u8)) (wfL (E0 .u8)):=fun h=>open_s (eI .u8) (E0 .u8) 1 Tryz.underlying68 cells5 (by decide) (fun _=>rfl) (fun _ _ _ h=>open5 h) h
theorem walk (w:World) (p0:List Int) (v0:Value) (r0:F2 (LR w) (eL 1 (eI .u8) p0) [v0]) (w0:(wfL (E0 .u8)) p0):Calls Tryz.prog 6 #[v0] w fun e w' =>e= .returned (.bool true)/\Below w.heap.size w w' :=
 (B2i p0 true (law28_SnapshotDecodes_true p0 w0)).law2 Tryz.call6 w _ rfl (fun i c hi=>by
  match i,hi with
  |0,hi=>cases hi;exact ⟨_,rfl,C5K r0⟩)
set_option maxRecDepth 100000 in
theorem lifted (os:Os) (started:os.Started) (H:Type) (enc:TypeId×Value->H):
  ReturnsInHanded {} Tryz.checked os 6 .any (Rows.snapshotDecodesSpec.pre6 enc Tryz.prog Tryz.f6 Rows.snapshotDecodesRow.domain false) (Rows.snapshotDecodesSpec.post enc Tryz.prog Tryz.f6 false true false false):=by
 refine returnsInHanded_of_change (C:=Tryz.checked) own started (by kernel_rfl) Tryz.func6
  (ChangeSpec.witness6 (enc:=enc) (C:=Tryz.checked) false ⟨#[], #[.slice none 0 0], []⟩ 8 (by kernel_rfl) (by kernel_rfl) (by kernel_rfl) (by kernel_rfl)) ?_
 intro W base args ds gs before hval0 hW hcnd _;have hval: ∀(j:Nat) t v,Tryz.f6.params[j]? =some t->args[j]? =some v->Value.okWide Tryz.prog W .any base t v:=hval0;have hW' :=hW;obtain ⟨p,q,hA0,hV,rfl,hfz,hnd⟩:=hW;have hA:DataW.TrodAll enc Tryz.prog W 0 (fun _=>true) true Tryz.f6.params.toList args.toList ds p:=hA0;rw [Tryz.params6] at hA hval;obtain ⟨v0,vs0,d0,ds0,pl0,q0,hargs,rfl,rfl,h0,r0⟩:=trodAll_cons hA;obtain ⟨rfl,rfl,rfl⟩:=trodAll_nil r0;obtain rfl:args= #[v0]:=by cases args;simp_all
 obtain ⟨rfl,rfl⟩:=trodVars_none hV;obtain ⟨ad0,C0k,cap0,rfl⟩:=okWide_slice Tryz.underlying68 (hval 0 68 v0 rfl rfl);have hk0:=h0;obtain ⟨fuel0,hf0⟩:=h0;obtain ⟨a0,ra0,wa0⟩:=D08 hf0
 clear hA0 hval0
 simp only [List.append_nil,List.nil_append] at hW';have hlt0: ∀x∈pl0,x.block<W.heap.size:=fun x hx=>hW'.lt x (by simp [hx])
 refine (walk W a0 _ ra0 wa0).mono fun e W' ⟨he,hb⟩=> ?_;subst he;exact ⟨_,rfl,A4u (pa:=pl0) (pv:= []) hW' (fun _ _ _=>(trodAll_cons_mk (shut_bool Tryz.underlying4 _) trodAll_mk0))
  (fun sp hsp=>by
   have:DataW.TrodAll enc Tryz.prog W' 0 sp true [68] [Value.slice ad0 C0k cap0] [d0] _:=(trodAll_cons_mk (A9l laidOut (by kernel_rfl) (of_decide_eq_true (by kernel_rfl)) hk0 hb hlt0 (fun x hx=>hsp x (by simp [hx]))) trodAll_mk0)
   have h2:DataW.TrodAll enc Tryz.prog W' 0 sp true [68] [Value.slice ad0 C0k cap0] [d0] (pl0):=by simpa using this
   exact h2) (fun _ _=>rfl) (by simp) hb
  (ok_one (by kernel_rfl) rfl (okWide_bool_mk Tryz.underlying4 _))⟩
theorem named:Tryz.pinned.checked.prog.funcNamed Rows.snapshotDecodesRow.func=some 6:=by kernel_rfl
theorem inst:Tryz.f6.isInstance Tryz.pinned.checked.prog Rows.snapshotDecodesRow.origin Rows.snapshotDecodesRow.targs:=of_decide_eq_true (by kernel_rfl)
theorem wrap:Tryz.f6.isWrapper Tryz.pinned.checked.prog Rows.snapshotDecodesRow.wrapper Rows.snapshotDecodesRow.mainSum:=by unfold Func.isWrapper;first|(rw [if_pos (by decide+kernel)];kernel_rfl)|(rw [if_neg (by decide+kernel)];exact ⟨rfl,rfl⟩)
theorem over:Rows.snapshotDecodesRow.holds Tryz.pinned (OpenSpec.ofChange Rows.snapshotDecodesSpec):=
 OpenClaim.holds_of_wide 6 Tryz.f6 rfl rfl rfl rfl rfl rfl rfl ⟨rfl,rfl,rfl,rfl,rfl⟩ rfl rfl rfl rfl rfl named Tryz.func6 joined inst wrap
  (fun os started H enc _=>lifted os started H enc)
theorem proved:Rows.SnapshotDecodesSaid:=
 over
#print axioms proved
end Go.Proofs.YtmipeaidieflmaaGreat.snapshotDecodes
