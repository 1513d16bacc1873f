/- The law SynopsisRuns of package windowpanelaw25 answers true at every input, and leaves its arguments as they were. -/
import Derived.Test.YtoljnakoodalpaaGreatRows
import Derived.Test.YtoljnakoodalpaaGreatFSynopsisRuns
import Derived.Test.YtoljnakoodalpaaGreatCon
import Derived.Test.YtoljnakoodalpaaGreatVc
import Derived.Test.YtoljnakoodalpaaGreatQc
import Derived.ProofKit
import Derived.OpenShut
set_option linter.unusedVariables false
set_option linter.unusedSimpArgs false
namespace Go.Proofs.YtoljnakoodalpaaGreat.synopsisRuns
open Go.Vc Go.Dec Go.Win Go.ChangeShapes Go.WideShapes Go.ChangeAt Go.RowKit
theorem own:ownKnob Tryz.prog.godebug=none:=by kernel_rfl
theorem B9M:laidOutB Tryz.prog=true:=by kernel_rfl
theorem B2M:Tryz.prog.cellsOf 3=1:=by kernel_rfl
theorem A50:Tryz.prog.cellsOf 2=1:=by kernel_rfl
theorem D0C:Tryz.prog.cellsOf 23=8:=by kernel_rfl
theorem C5u:Tryz.prog.cellsOf 71=2:=by kernel_rfl
theorem D27:Tryz.prog.cellsOf 24=1:=by kernel_rfl
theorem D28:Tryz.prog.cellsOf 40=1:=by kernel_rfl
def Op {α:Type} (t:TypeId) (E:α->List AV) (W:α->Prop):Prop:= ∀ {H:Type} {enc:TypeId×Value->H} {w:World} {base:Nat} {spare:Nat->Bool} {held:Bool} {fuel:Nat} {cs:List Value} {x:DataW H×List MemPlace},DataW.trod enc Tryz.prog w base spare held fuel t cs=some x-> ∃y:α,F2 (LR w) (E y) cs/\W y
theorem fO {α:Type} {t:TypeId} {E:α->List AV} {W:α->Prop} (hop:Op t E W) {H:Type} {enc:TypeId×Value->H} {w:World} {base:Nat} {spare:Nat->Bool} {held:Bool} {fs:Array Field} {n:Nat} {cs:List Value} {xs:List (DataW H×List MemPlace)} (hlen:xs.length=fs.size)
  (hf:∀(i:Nat) (f:Field),fs[i]? =some f->DataW.trod enc Tryz.prog w base spare held n f.type ((cs.drop f.offset).take (Tryz.prog.cellsOf f.type))=xs[i]?) (i:Nat) (f:Field) (hi:fs[i]? =some f) (o k:Nat) (ht:f.type=t) (ho:f.offset=o) (hk:Tryz.prog.cellsOf t=k): ∃y,F2 (LR w) (E y) ((cs.drop o).take k)/\W y:=
 let ⟨_,g⟩:=D1L hlen hf i f hi o k ht ho hk;hop g
theorem B58:Op 3 (eI .i64) (E5 .i64):=fun h=>C8w Tryz.underlying3 h
theorem B8Q:Op 2 (eI .i64) (E5 .i64):=fun h=>C8w Tryz.underlying2 h
theorem D2a:Op 23 G2 A6y:=by
 intro H _ w _ _ _ _ cs _ h;obtain ⟨xs,n,_,hx,hl,hlen,hf⟩:=DataW.trod_struct Tryz.underlying23 h;rw [D0C] at hl;obtain ⟨y0,r0,w0⟩:=fO B58 hlen hf 0 _ rfl 0 1 rfl rfl B2M;obtain ⟨y1,r1,w1⟩:=fO B58 hlen hf 1 _ rfl 1 1 rfl rfl B2M;obtain ⟨y2,r2,w2⟩:=fO B8Q hlen hf 2 _ rfl 2 1 rfl rfl A50;obtain ⟨y3,r3,w3⟩:=fO B58 hlen hf 3 _ rfl 3 1 rfl rfl B2M;obtain ⟨y4,r4,w4⟩:=fO B58 hlen hf 4 _ rfl 4 1 rfl rfl B2M;obtain ⟨y5,r5,w5⟩:=fO B58 hlen hf 5 _ rfl 5 1 rfl rfl B2M;obtain ⟨y6,r6,w6⟩:=fO B58 hlen hf 6 _ rfl 6 1 rfl rfl B2M;obtain ⟨y7,r7,w7⟩:=fO B8Q hlen hf 7 _ rfl 7 1 rfl rfl A50;exact ⟨C9.mk y0 y1 y2 y3 y4 y5 y6 y7,(A2D r0 (A2D r1 (A2D r2 (A2D r3 (A2D r4 (A2D r5 (A2D r6 (A2D r7 (C7Q (by omega))))))))):F2 (LR w) _ (cs.drop 0)),w0,w1,w2,w3,w4,w5,w6,w7⟩
theorem D2d:Op 71 C7 A2I:=by
 intro H _ w _ _ _ _ cs _ h;obtain ⟨xs,n,_,hx,hl,hlen,hf⟩:=DataW.trod_struct Tryz.underlying71 h;rw [C5u] at hl;obtain ⟨y0,r0,w0⟩:=fO B8Q hlen hf 0 _ rfl 0 1 rfl rfl A50;obtain ⟨y1,r1,w1⟩:=fO B8Q hlen hf 1 _ rfl 1 1 rfl rfl A50;exact ⟨A9.mk y0 y1,(A2D r0 (A2D r1 (C7Q (by omega))):F2 (LR w) _ (cs.drop 0)),w0,w1⟩
theorem D2b:Op 24 (eL 2 C7) (wfL A2I):=fun h=>C8x C7 A2I 2 Tryz.underlying24 C5u (by decide) (fun _=>rfl) (fun _ _ _ h=>D2d h) h
theorem D2c:Op 40 (eL 1 (eI .i64)) (wfL (E5 .i64)):=fun h=>C8x (eI .i64) (E5 .i64) 1 Tryz.underlying40 A50 (by decide) (fun _=>rfl) (fun _ _ _ h=>B8Q h) h
theorem D26 (w:World) (p0:C9) (c0:Array Value) (r0:F2 (LR w) (G2 p0) c0.toList) (w0:A6y p0) (p1:List A9) (v1:Value) (r1:F2 (LR w) (eL 2 C7 p1) [v1]) (w1:(wfL A2I) p1) (p2:List Int) (v2:Value) (r2:F2 (LR w) (eL 1 (eI .i64) p2) [v2]) (w2:(wfL (E5 .i64)) p2):Calls Tryz.prog 4 #[.agg c0,v1,v2] w fun e w' =>e= .returned (.bool true)/\Below w.heap.size w w' :=
 (B3l p0 p1 p2 true (B1v p0 p1 p2 w0 w1 w2)).law2 Tryz.call4 w _ rfl (fun i c hi=>by
  match i,hi with
  |0,hi=>cases hi;exact ⟨_,rfl,C7k r0⟩
  |1,hi=>cases hi;exact ⟨_,rfl,C54 r1⟩
  |2,hi=>cases hi;exact ⟨_,rfl,C54 r2⟩)
set_option maxRecDepth 100000 in
theorem D1Y (os:Os) (started:os.Started) (H:Type) (enc:TypeId×Value->H):
  ReturnsInHanded {} Tryz.checked os 4 .any (Rows.synopsisRunsSpec.pre6 enc Tryz.prog Tryz.f4 Rows.synopsisRunsRow.domain false) (Rows.synopsisRunsSpec.post enc Tryz.prog Tryz.f4 false true false false):=by
 refine returnsInHanded_of_change (C:=Tryz.checked) own started (by kernel_rfl) Tryz.func4
  (ChangeSpec.witness6 (enc:=enc) (C:=Tryz.checked) false ⟨#[], #[.agg #[.int .i64 0, .int .i64 0, .int .i64 0, .int .i64 0, .int .i64 0, .int .i64 0, .int .i64 0, .int .i64 0], .slice none 0 0, .slice none 0 0], []⟩ 8 (by kernel_rfl) (by kernel_rfl) (by kernel_rfl) (by kernel_rfl)) ?_
 intro W base args ds gs before hval0 hW hcnd _;have hval: ∀(j:Nat) t v,Tryz.f4.params[j]? =some t->args[j]? =some v->Value.okWide Tryz.prog W .any base t v:=hval0;have hW' :=hW;obtain ⟨p,q,hA0,hV,rfl,hfz,hnd⟩:=hW;have hA:DataW.TrodAll enc Tryz.prog W 0 (fun _=>true) true Tryz.f4.params.toList args.toList ds p:=hA0;rw [Tryz.params4] at hA hval;obtain ⟨v0,vs0,d0,ds0,pl0,q0,hargs,rfl,rfl,h0,r0⟩:=trodAll_cons hA;obtain ⟨v1,vs1,d1,ds1,pl1,q1,rfl,rfl,rfl,h1,r1⟩:=trodAll_cons r0;obtain ⟨v2,vs2,d2,ds2,pl2,q2,rfl,rfl,rfl,h2,r2⟩:=trodAll_cons r1;obtain ⟨rfl,rfl,rfl⟩:=trodAll_nil r2;obtain rfl:args= #[v0,v1,v2]:=by cases args;simp_all
 obtain ⟨rfl,rfl⟩:=trodVars_none hV;obtain ⟨cs0,rfl,_⟩:=okWide_struct Tryz.underlying23 (hval 0 23 v0 rfl rfl);have hk0:=h0;obtain ⟨fuel0,hf0⟩:=h0;obtain ⟨a0,ra0,wa0⟩:=D2a hf0;obtain ⟨ad1,C9x,cap1,rfl⟩:=okWide_slice Tryz.underlying24 (hval 1 24 v1 rfl rfl);have hk1:=h1;obtain ⟨fuel1,hf1⟩:=h1;obtain ⟨a1,ra1,wa1⟩:=D2b hf1;obtain ⟨ad2,len2,cap2,rfl⟩:=okWide_slice Tryz.underlying40 (hval 2 40 v2 rfl rfl);have hk2:=h2;obtain ⟨fuel2,hf2⟩:=h2;obtain ⟨a2,ra2,wa2⟩:=D2c hf2
 clear hA0 hval0
 simp only [List.append_nil,List.nil_append] at hW';have hlt0: ∀x∈pl0,x.block<W.heap.size:=fun x hx=>hW'.lt x (by simp [hx])
 have hlt1: ∀x∈pl1,x.block<W.heap.size:=fun x hx=>hW'.lt x (by simp [hx])
 have hlt2: ∀x∈pl2,x.block<W.heap.size:=fun x hx=>hW'.lt x (by simp [hx])
 refine (D26 W a0 _ ra0 wa0 a1 _ ra1 wa1 a2 _ ra2 wa2).mono fun e W' ⟨he,hb⟩=> ?_;subst he;exact ⟨_,rfl,C1B (pa:=pl0++(pl1++pl2)) (pv:= []) hW' (fun _ _ _=>(trodAll_cons_mk (shut_bool Tryz.underlying4 _) trodAll_mk0))
  (fun sp hsp=>by
   have:DataW.TrodAll enc Tryz.prog W' 0 sp true [23,24,40] [Value.agg cs0,Value.slice ad1 C9x cap1,Value.slice ad2 len2 cap2] [d0,d1,d2] _:=(trodAll_cons_mk (B4z B9M (by kernel_rfl) (of_decide_eq_true (by kernel_rfl)) hk0 hb hlt0 (fun x hx=>hsp x (by simp [hx]))) (trodAll_cons_mk (B4z B9M (by kernel_rfl) (of_decide_eq_true (by kernel_rfl)) hk1 hb hlt1 (fun x hx=>hsp x (by simp [hx]))) (trodAll_cons_mk (B4z B9M (by kernel_rfl) (of_decide_eq_true (by kernel_rfl)) hk2 hb hlt2 (fun x hx=>hsp x (by simp [hx]))) trodAll_mk0)))
   have h2:DataW.TrodAll enc Tryz.prog W' 0 sp true [23,24,40] [Value.agg cs0,Value.slice ad1 C9x cap1,Value.slice ad2 len2 cap2] [d0,d1,d2] (pl0++(pl1++pl2)):=by simpa using this
   exact h2) (fun _ _=>rfl) (by simp) hb
  (ok_one (by kernel_rfl) rfl (okWide_bool_mk Tryz.underlying4 _))⟩
theorem D2I:Tryz.pinned.checked.prog.funcNamed Rows.synopsisRunsRow.func=some 4:=by kernel_rfl
theorem D22:Tryz.f4.isInstance Tryz.pinned.checked.prog Rows.synopsisRunsRow.origin Rows.synopsisRunsRow.targs:=of_decide_eq_true (by kernel_rfl)
theorem wrap:Tryz.f4.isWrapper Tryz.pinned.checked.prog Rows.synopsisRunsRow.wrapper Rows.synopsisRunsRow.mainSum:=by unfold Func.isWrapper;first|(rw [if_pos (by decide+kernel)];kernel_rfl)|(rw [if_neg (by decide+kernel)];exact ⟨rfl,rfl⟩)
theorem D24:Rows.synopsisRunsRow.holds Tryz.pinned (OpenSpec.ofChange Rows.synopsisRunsSpec):=
 OpenClaim.holds_of_wide 4 Tryz.f4 rfl rfl rfl rfl rfl rfl rfl ⟨rfl,rfl,rfl,rfl,rfl⟩ rfl rfl rfl rfl rfl D2I Tryz.func4 D1V D22 wrap
  (fun os started H enc _=>D1Y os started H enc)
theorem proved:Rows.SynopsisRunsSaid:=
 D24
#print axioms proved
end Go.Proofs.YtoljnakoodalpaaGreat.synopsisRuns
