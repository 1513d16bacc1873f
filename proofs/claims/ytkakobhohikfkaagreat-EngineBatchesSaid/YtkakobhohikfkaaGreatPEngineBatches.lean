/- The law EngineBatches of package windowpanelaw29 answers true at every input, and leaves its arguments as they were. -/
import Derived.Test.YtkakobhohikfkaaGreatRows
import Derived.Test.YtkakobhohikfkaaGreatFEngineBatches
import Derived.Test.YtkakobhohikfkaaGreatCon27
import Derived.Test.YtkakobhohikfkaaGreatVd
import Derived.Test.YtkakobhohikfkaaGreatVc
import Derived.Test.YtkakobhohikfkaaGreatQc
import Derived.ProofKit
import Derived.OpenShut
set_option linter.unusedVariables false
set_option linter.unusedSimpArgs false
namespace Go.Proofs.YtkakobhohikfkaaGreat.engineBatches
open Go.Vc Go.Dec Go.Win Go.ChangeShapes Go.WideShapes Go.ChangeAt Go.RowKit
theorem own:ownKnob Tryz.prog.godebug=none:=by kernel_rfl
theorem C7c:laidOutB Tryz.prog=true:=by kernel_rfl
theorem Q5:Tryz.prog.cellsOf 3=1:=by kernel_rfl
theorem I0:Tryz.prog.cellsOf 2=1:=by kernel_rfl
theorem C0X:Tryz.prog.cellsOf 24=8:=by kernel_rfl
theorem C6I:Tryz.prog.cellsOf 25=1:=by kernel_rfl
theorem C6J:Tryz.prog.cellsOf 27=3:=by kernel_rfl
theorem D41:Tryz.prog.cellsOf 5=1:=by kernel_rfl
theorem D3p:Tryz.prog.cellsOf 28=1:=by kernel_rfl
theorem D3q:Tryz.prog.cellsOf 30=17:=by kernel_rfl
theorem cells22:Tryz.prog.cellsOf 22=1:=by kernel_rfl
def Op {α:Type} (t:TypeId) (E:α->List AV) (W:α->Prop):Prop:= ∀ {H:Type} {enc:TypeId×Value->H} {w:World} {base:Nat} {spare:Nat->Bool} {held:Bool} {fuel:Nat} {cs:List Value} {x:DataW H×List MemPlace},DataW.trod enc Tryz.prog w base spare held fuel t cs=some x-> ∃y:α,F2 (LR w) (E y) cs/\W y
theorem fO {α:Type} {t:TypeId} {E:α->List AV} {W:α->Prop} (hop:Op t E W) {H:Type} {enc:TypeId×Value->H} {w:World} {base:Nat} {spare:Nat->Bool} {held:Bool} {fs:Array Field} {n:Nat} {cs:List Value} {xs:List (DataW H×List MemPlace)} (hlen:xs.length=fs.size)
  (hf:∀(i:Nat) (f:Field),fs[i]? =some f->DataW.trod enc Tryz.prog w base spare held n f.type ((cs.drop f.offset).take (Tryz.prog.cellsOf f.type))=xs[i]?) (i:Nat) (f:Field) (hi:fs[i]? =some f) (o k:Nat) (ht:f.type=t) (ho:f.offset=o) (hk:Tryz.prog.cellsOf t=k): ∃y,F2 (LR w) (E y) ((cs.drop o).take k)/\W y:=
 let ⟨_,g⟩:=fieldS hlen hf i f hi o k ht ho hk;hop g
theorem U6:Op 3 (eI .i64) (E1 .i64):=fun h=>C0e Tryz.underlying3 h
theorem K2:Op 2 (eI .i64) (E1 .i64):=fun h=>C0e Tryz.underlying2 h
theorem D0t:Op 24 P0 B6y:=by
 intro H _ w _ _ _ _ cs _ h;obtain ⟨xs,n,_,hx,hl,hlen,hf⟩:=DataW.trod_struct Tryz.underlying24 h;rw [C0X] at hl;obtain ⟨y0,r0,w0⟩:=fO U6 hlen hf 0 _ rfl 0 1 rfl rfl Q5;obtain ⟨y1,r1,w1⟩:=fO U6 hlen hf 1 _ rfl 1 1 rfl rfl Q5;obtain ⟨y2,r2,w2⟩:=fO K2 hlen hf 2 _ rfl 2 1 rfl rfl I0;obtain ⟨y3,r3,w3⟩:=fO U6 hlen hf 3 _ rfl 3 1 rfl rfl Q5;obtain ⟨y4,r4,w4⟩:=fO U6 hlen hf 4 _ rfl 4 1 rfl rfl Q5;obtain ⟨y5,r5,w5⟩:=fO U6 hlen hf 5 _ rfl 5 1 rfl rfl Q5;obtain ⟨y6,r6,w6⟩:=fO U6 hlen hf 6 _ rfl 6 1 rfl rfl Q5;obtain ⟨y7,r7,w7⟩:=fO K2 hlen hf 7 _ rfl 7 1 rfl rfl I0;exact ⟨E2.mk y0 y1 y2 y3 y4 y5 y6 y7,(C9 r0 (C9 r1 (C9 r2 (C9 r3 (C9 r4 (C9 r5 (C9 r6 (C9 r7 (S3 (by omega))))))))):F2 (LR w) _ (cs.drop 0)),w0,w1,w2,w3,w4,w5,w6,w7⟩
theorem D0u:Op 25 (eL 1 (eI .i64)) (wfL (E1 .i64)):=fun h=>open_s (eI .i64) (E1 .i64) 1 Tryz.underlying25 I0 (by decide) (fun _=>rfl) (fun _ _ _ h=>K2 h) h
theorem D5v:Op 27 C2M C5n:=by
 intro H _ w _ _ _ _ cs _ h;obtain ⟨xs,n,_,hx,hl,hlen,hf⟩:=DataW.trod_struct Tryz.underlying27 h;rw [C6J] at hl;obtain ⟨y0,r0,w0⟩:=fO U6 hlen hf 0 _ rfl 0 1 rfl rfl Q5;obtain ⟨y1,r1,w1⟩:=fO K2 hlen hf 1 _ rfl 1 1 rfl rfl I0;obtain ⟨y2,r2,w2⟩:=fO K2 hlen hf 2 _ rfl 2 1 rfl rfl I0;exact ⟨T0.mk y0 y1 y2,(C9 r0 (C9 r1 (C9 r2 (S3 (by omega)))):F2 (LR w) _ (cs.drop 0)),w0,w1,w2⟩
theorem D6B:Op 5 (eI .u8) (E1 .u8):=fun h=>C0e Tryz.underlying5 h
theorem D5w:Op 28 (eL 1 (eI .u8)) (wfL (E1 .u8)):=fun h=>open_s (eI .u8) (E1 .u8) 1 Tryz.underlying28 D41 (by decide) (fun _=>rfl) (fun _ _ _ h=>D6B h) h
theorem D5x:Op 30 S8 C1K:=by
 intro H _ w _ _ _ _ cs _ h;obtain ⟨xs,n,_,hx,hl,hlen,hf⟩:=DataW.trod_struct Tryz.underlying30 h;rw [D3q] at hl;obtain ⟨y0,r0,w0⟩:=fO U6 hlen hf 0 _ rfl 0 1 rfl rfl Q5;obtain ⟨y1,r1,w1⟩:=fO K2 hlen hf 1 _ rfl 1 1 rfl rfl I0;obtain ⟨y2,r2,w2⟩:=fO D0t hlen hf 2 _ rfl 2 8 rfl rfl C0X;obtain ⟨y3,r3,w3⟩:=fO K2 hlen hf 3 _ rfl 10 1 rfl rfl I0;obtain ⟨y4,r4,w4⟩:=fO K2 hlen hf 4 _ rfl 11 1 rfl rfl I0;obtain ⟨y5,r5,w5⟩:=fO D0u hlen hf 5 _ rfl 12 1 rfl rfl C6I;obtain ⟨y6,r6,w6⟩:=fO D5v hlen hf 6 _ rfl 13 3 rfl rfl C6J;obtain ⟨y7,r7,w7⟩:=fO D5w hlen hf 7 _ rfl 16 1 rfl rfl D3p;exact ⟨O9.mk y0 y1 y2 y3 y4 y5 y6 y7,(C9 r0 (C9 r1 (C9 r2 (C9 r3 (C9 r4 (C9 r5 (C9 r6 (C9 r7 (S3 (by omega))))))))):F2 (LR w) _ (cs.drop 0)),w0,w1,w2,w3,w4,w5,w6,w7⟩
theorem open22:Op 22 (eL 17 S8) (wfL C1K):=fun h=>open_s S8 C1K 17 Tryz.underlying22 D3q (by decide) (fun _=>rfl) (fun _ _ _ h=>D5x h) h
theorem D69 (w:World) (p0:List O9) (v0:Value) (r0:F2 (LR w) (eL 17 S8 p0) [v0]) (w0:(wfL C1K) p0) (p1:Int) (w1:E1 .i64 p1):Calls Tryz.prog 7 #[v0, .int .i64 p1] w fun e w' =>e= .returned (.bool true)/\Below w.heap.size w w' :=
 (@c_law29_EngineBatches p0 p1 true (law29_EngineBatches_true p0 p1 w0 w1)).law2 Tryz.call7 w _ rfl (fun i c hi=>by
  match i,hi with
  |0,hi=>cases hi;exact ⟨_,rfl,vr1_one r0⟩
  |1,hi=>cases hi;exact ⟨_,rfl,rfl⟩)
set_option maxRecDepth 100000 in
theorem D5l (os:Os) (started:os.Started) (H:Type) (enc:TypeId×Value->H):
  ReturnsInHanded {} Tryz.checked os 7 .any (Rows.engineBatchesSpec.pre6 enc Tryz.prog Tryz.f7 Rows.engineBatchesRow.domain false) (Rows.engineBatchesSpec.post enc Tryz.prog Tryz.f7 false true false false):=by
 refine returnsInHanded_of_change (C:=Tryz.checked) own started (by kernel_rfl) Tryz.func7
  (ChangeSpec.witness6 (enc:=enc) (C:=Tryz.checked) false ⟨#[], #[.slice none 0 0, .int .i64 0], []⟩ 8 (by kernel_rfl) (by kernel_rfl) (by kernel_rfl) (by kernel_rfl)) ?_
 intro W base args ds gs before hval0 hW hcnd _;have hval: ∀(j:Nat) t v,Tryz.f7.params[j]? =some t->args[j]? =some v->Value.okWide Tryz.prog W .any base t v:=hval0;have hW' :=hW;obtain ⟨p,q,hA0,hV,rfl,hfz,hnd⟩:=hW;have hA:DataW.TrodAll enc Tryz.prog W 0 (fun _=>true) true Tryz.f7.params.toList args.toList ds p:=hA0;rw [Tryz.params7] at hA hval;obtain ⟨v0,vs0,d0,ds0,pl0,q0,hargs,rfl,rfl,h0,r0⟩:=trodAll_cons hA;obtain ⟨v1,vs1,d1,ds1,pl1,q1,rfl,rfl,rfl,h1,r1⟩:=trodAll_cons r0;obtain ⟨rfl,rfl,rfl⟩:=trodAll_nil r1;obtain rfl:args= #[v0,v1]:=by cases args;simp_all
 obtain ⟨rfl,rfl⟩:=trodVars_none hV;obtain ⟨ad0,len0,cap0,rfl⟩:=okWide_slice Tryz.underlying22 (hval 0 22 v0 rfl rfl);have hk0:=h0;obtain ⟨fuel0,hf0⟩:=h0;obtain ⟨a0,ra0,wa0⟩:=open22 hf0;obtain ⟨a1,rfl,rfl,rfl,w1⟩:=open_int Tryz.underlying3 (hval 1 3 v1 rfl rfl) h1
 clear hA0 hval0
 simp only [List.append_nil,List.nil_append] at hW';have hlt0: ∀x∈pl0,x.block<W.heap.size:=fun x hx=>hW'.lt x (by simp [hx])
 refine (D69 W a0 _ ra0 wa0 a1 w1).mono fun e W' ⟨he,hb⟩=> ?_;subst he;exact ⟨_,rfl,C2P (pa:=pl0) (pv:= []) hW' (fun _ _ _=>(trodAll_cons_mk (shut_bool Tryz.underlying4 _) trodAll_mk0))
  (fun sp hsp=>by
   have:DataW.TrodAll enc Tryz.prog W' 0 sp true [22,3] [Value.slice ad0 len0 cap0, .int .i64 a1] [d0, .lit (.int .i64 a1)] _:=(trodAll_cons_mk (C1U C7c (by kernel_rfl) (of_decide_eq_true (by kernel_rfl)) hk0 hb hlt0 (fun x hx=>hsp x (by simp [hx]))) (trodAll_cons_mk (shut_int Tryz.underlying3 w1) trodAll_mk0))
   have h2:DataW.TrodAll enc Tryz.prog W' 0 sp true [22,3] [Value.slice ad0 len0 cap0, .int .i64 a1] [d0, .lit (.int .i64 a1)] (pl0):=by simpa using this
   exact h2) (fun _ _=>rfl) (by simp) hb
  (ok_one (by kernel_rfl) rfl (okWide_bool_mk Tryz.underlying4 _))⟩
theorem D6x:Tryz.pinned.checked.prog.funcNamed Rows.engineBatchesRow.func=some 7:=by kernel_rfl
theorem D64:Tryz.f7.isInstance Tryz.pinned.checked.prog Rows.engineBatchesRow.origin Rows.engineBatchesRow.targs:=of_decide_eq_true (by kernel_rfl)
theorem wrap:Tryz.f7.isWrapper Tryz.pinned.checked.prog Rows.engineBatchesRow.wrapper Rows.engineBatchesRow.mainSum:=by unfold Func.isWrapper;first|(rw [if_pos (by decide+kernel)];kernel_rfl)|(rw [if_neg (by decide+kernel)];exact ⟨rfl,rfl⟩)
theorem D66:Rows.engineBatchesRow.holds Tryz.pinned (OpenSpec.ofChange Rows.engineBatchesSpec):=
 OpenClaim.holds_of_wide 7 Tryz.f7 rfl rfl rfl rfl rfl rfl rfl ⟨rfl,rfl,rfl,rfl,rfl⟩ rfl rfl rfl rfl rfl D6x Tryz.func7 D5j D64 wrap
  (fun os started H enc _=>D5l os started H enc)
theorem proved:Rows.EngineBatchesSaid:=
 D66
#print axioms proved
end Go.Proofs.YtkakobhohikfkaaGreat.engineBatches
