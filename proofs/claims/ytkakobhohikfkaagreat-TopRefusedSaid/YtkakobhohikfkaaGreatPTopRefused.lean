/- The statement TopRefused of package windowpanetop answers true at every input, and leaves its arguments as they were. Conditions: none. -/
import Derived.Test.YtkakobhohikfkaaGreatRows
import Derived.Test.YtkakobhohikfkaaGreatFTopRefused
import Derived.Test.YtkakobhohikfkaaGreatConB
import Derived.Test.YtkakobhohikfkaaGreatVdB
import Derived.Test.YtkakobhohikfkaaGreatVc
import Derived.Test.YtkakobhohikfkaaGreatQcB
import Derived.ProofKit
import Derived.OpenShut
set_option linter.unusedVariables false
set_option linter.unusedSimpArgs false
namespace Go.Proofs.YtkakobhohikfkaaGreat.topRefused
open Go.Vc Go.Dec Go.Win Go.ChangeShapes Go.WideShapes Go.ChangeAt Go.RowKit
theorem own:ownKnob Tryz.prog.godebug=none:=by kernel_rfl
theorem D1H:laidOutB Tryz.prog=true:=by kernel_rfl
theorem A9R:Tryz.prog.cellsOf 3=1:=by kernel_rfl
theorem A3c:Tryz.prog.cellsOf 2=1:=by kernel_rfl
theorem C5y:Tryz.prog.cellsOf 24=8:=by kernel_rfl
theorem D1t:Tryz.prog.cellsOf 25=1:=by kernel_rfl
theorem C5z:Tryz.prog.cellsOf 27=3:=by kernel_rfl
theorem D2I:Tryz.prog.cellsOf 5=1:=by kernel_rfl
theorem D1u:Tryz.prog.cellsOf 28=1:=by kernel_rfl
theorem C5A:Tryz.prog.cellsOf 30=17:=by kernel_rfl
theorem D4l:Tryz.prog.cellsOf 22=1:=by kernel_rfl
def Op {α:Type} (t:TypeId) (E:α->List AV) (W:α->Prop):Prop:= ∀ {H:Type} {enc:TypeId×Value->H} {w:World} {base:Nat} {spare:Nat->Bool} {held:Bool} {fuel:Nat} {cs:List Value} {x:DataW H×List MemPlace},DataW.trod enc Tryz.prog w base spare held fuel t cs=some x-> ∃y:α,F2 (LR w) (E y) cs/\W y
theorem fO {α:Type} {t:TypeId} {E:α->List AV} {W:α->Prop} (hop:Op t E W) {H:Type} {enc:TypeId×Value->H} {w:World} {base:Nat} {spare:Nat->Bool} {held:Bool} {fs:Array Field} {n:Nat} {cs:List Value} {xs:List (DataW H×List MemPlace)} (hlen:xs.length=fs.size)
  (hf:∀(i:Nat) (f:Field),fs[i]? =some f->DataW.trod enc Tryz.prog w base spare held n f.type ((cs.drop f.offset).take (Tryz.prog.cellsOf f.type))=xs[i]?) (i:Nat) (f:Field) (hi:fs[i]? =some f) (o k:Nat) (ht:f.type=t) (ho:f.offset=o) (hk:Tryz.prog.cellsOf t=k): ∃y,F2 (LR w) (E y) ((cs.drop o).take k)/\W y:=
 let ⟨_,g⟩:=D2O hlen hf i f hi o k ht ho hk;hop g
theorem B3j:Op 3 (eI .i64) (E2 .i64):=fun h=>C3P Tryz.underlying3 h
theorem B3i:Op 2 (eI .i64) (E2 .i64):=fun h=>C3P Tryz.underlying2 h
theorem D3g:Op 24 H6 B0N:=by
 intro H _ w _ _ _ _ cs _ h;obtain ⟨xs,n,_,hx,hl,hlen,hf⟩:=DataW.trod_struct Tryz.underlying24 h;rw [C5y] at hl;obtain ⟨y0,r0,w0⟩:=fO B3j hlen hf 0 _ rfl 0 1 rfl rfl A9R;obtain ⟨y1,r1,w1⟩:=fO B3j hlen hf 1 _ rfl 1 1 rfl rfl A9R;obtain ⟨y2,r2,w2⟩:=fO B3i hlen hf 2 _ rfl 2 1 rfl rfl A3c;obtain ⟨y3,r3,w3⟩:=fO B3j hlen hf 3 _ rfl 3 1 rfl rfl A9R;obtain ⟨y4,r4,w4⟩:=fO B3j hlen hf 4 _ rfl 4 1 rfl rfl A9R;obtain ⟨y5,r5,w5⟩:=fO B3j hlen hf 5 _ rfl 5 1 rfl rfl A9R;obtain ⟨y6,r6,w6⟩:=fO B3j hlen hf 6 _ rfl 6 1 rfl rfl A9R;obtain ⟨y7,r7,w7⟩:=fO B3i hlen hf 7 _ rfl 7 1 rfl rfl A3c;exact ⟨B5.mk y0 y1 y2 y3 y4 y5 y6 y7,(S1 r0 (S1 r1 (S1 r2 (S1 r3 (S1 r4 (S1 r5 (S1 r6 (S1 r7 (C3f (by omega))))))))):F2 (LR w) _ (cs.drop 0)),w0,w1,w2,w3,w4,w5,w6,w7⟩
theorem D3h:Op 25 (eL 1 (eI .i64)) (wfL (E2 .i64)):=fun h=>C3Q (eI .i64) (E2 .i64) 1 Tryz.underlying25 A3c (by decide) (fun _=>rfl) (fun _ _ _ h=>B3i h) h
theorem D3i:Op 27 C2c B7g:=by
 intro H _ w _ _ _ _ cs _ h;obtain ⟨xs,n,_,hx,hl,hlen,hf⟩:=DataW.trod_struct Tryz.underlying27 h;rw [C5z] at hl;obtain ⟨y0,r0,w0⟩:=fO B3j hlen hf 0 _ rfl 0 1 rfl rfl A9R;obtain ⟨y1,r1,w1⟩:=fO B3i hlen hf 1 _ rfl 1 1 rfl rfl A3c;obtain ⟨y2,r2,w2⟩:=fO B3i hlen hf 2 _ rfl 2 1 rfl rfl A3c;exact ⟨I4.mk y0 y1 y2,(S1 r0 (S1 r1 (S1 r2 (C3f (by omega)))):F2 (LR w) _ (cs.drop 0)),w0,w1,w2⟩
theorem D3W:Op 5 (eI .u8) (E2 .u8):=fun h=>C3P Tryz.underlying5 h
theorem D3j:Op 28 (eL 1 (eI .u8)) (wfL (E2 .u8)):=fun h=>C3Q (eI .u8) (E2 .u8) 1 Tryz.underlying28 D2I (by decide) (fun _=>rfl) (fun _ _ _ h=>D3W h) h
theorem D3k:Op 30 G7 A1K:=by
 intro H _ w _ _ _ _ cs _ h;obtain ⟨xs,n,_,hx,hl,hlen,hf⟩:=DataW.trod_struct Tryz.underlying30 h;rw [C5A] at hl;obtain ⟨y0,r0,w0⟩:=fO B3j hlen hf 0 _ rfl 0 1 rfl rfl A9R;obtain ⟨y1,r1,w1⟩:=fO B3i hlen hf 1 _ rfl 1 1 rfl rfl A3c;obtain ⟨y2,r2,w2⟩:=fO D3g hlen hf 2 _ rfl 2 8 rfl rfl C5y;obtain ⟨y3,r3,w3⟩:=fO B3i hlen hf 3 _ rfl 10 1 rfl rfl A3c;obtain ⟨y4,r4,w4⟩:=fO B3i hlen hf 4 _ rfl 11 1 rfl rfl A3c;obtain ⟨y5,r5,w5⟩:=fO D3h hlen hf 5 _ rfl 12 1 rfl rfl D1t;obtain ⟨y6,r6,w6⟩:=fO D3i hlen hf 6 _ rfl 13 3 rfl rfl C5z;obtain ⟨y7,r7,w7⟩:=fO D3j hlen hf 7 _ rfl 16 1 rfl rfl D1u;exact ⟨E9.mk y0 y1 y2 y3 y4 y5 y6 y7,(S1 r0 (S1 r1 (S1 r2 (S1 r3 (S1 r4 (S1 r5 (S1 r6 (S1 r7 (C3f (by omega))))))))):F2 (LR w) _ (cs.drop 0)),w0,w1,w2,w3,w4,w5,w6,w7⟩
theorem D3f:Op 22 (eL 17 G7) (wfL A1K):=fun h=>C3Q G7 A1K 17 Tryz.underlying22 C5A (by decide) (fun _=>rfl) (fun _ _ _ h=>D3k h) h
theorem D4k (w:World) (p0:List E9) (v0:Value) (r0:F2 (LR w) (eL 17 G7 p0) [v0]) (w0:(wfL A1K) p0) (p1:E9) (c1:Array Value) (r1:F2 (LR w) (G7 p1) c1.toList) (w1:A1K p1):Calls Tryz.prog 3 #[v0, .agg c1] w fun e w' =>e= .returned (.bool true)/\Below w.heap.size w w' :=
 (@A3v p0 p1 true (W0 p0 p1 w0 w1)).law2 Tryz.call3 w _ rfl (fun i c hi=>by
  match i,hi with
  |0,hi=>cases hi;exact ⟨_,rfl,D2h r0⟩
  |1,hi=>cases hi;exact ⟨_,rfl,B3f r1⟩)
set_option maxRecDepth 100000 in
theorem D2Z (os:Os) (started:os.Started) (H:Type) (enc:TypeId×Value->H):
  ReturnsInHanded {} Tryz.checked os 3 .any (Rows.topRefusedSpec.pre6 enc Tryz.prog Tryz.f3 Rows.topRefusedRow.domain false) (Rows.topRefusedSpec.post enc Tryz.prog Tryz.f3 false true false false):=by
 refine returnsInHanded_of_change (C:=Tryz.checked) own started (by kernel_rfl) Tryz.func3
  (ChangeSpec.witness6 (enc:=enc) (C:=Tryz.checked) false ⟨#[], #[.slice none 0 0, .agg #[.int .i64 0, .int .i64 0, .int .i64 0, .int .i64 0, .int .i64 0, .int .i64 0, .int .i64 0, .int .i64 0, .int .i64 0, .int .i64 0, .int .i64 0, .int .i64 0, .slice none 0 0, .int .i64 0, .int .i64 0, .int .i64 0, .slice none 0 0]], []⟩ 8 (by kernel_rfl) (by kernel_rfl) (by kernel_rfl) (by kernel_rfl)) ?_
 intro W base args ds gs before hval0 hW hcnd _;have hval: ∀(j:Nat) t v,Tryz.f3.params[j]? =some t->args[j]? =some v->Value.okWide Tryz.prog W .any base t v:=hval0;have hW' :=hW;obtain ⟨p,q,hA0,hV,rfl,hfz,hnd⟩:=hW;have hA:DataW.TrodAll enc Tryz.prog W 0 (fun _=>true) true Tryz.f3.params.toList args.toList ds p:=hA0;rw [Tryz.params3] at hA hval;obtain ⟨v0,vs0,d0,ds0,pl0,q0,hargs,rfl,rfl,h0,r0⟩:=trodAll_cons hA;obtain ⟨v1,vs1,d1,ds1,pl1,q1,rfl,rfl,rfl,h1,r1⟩:=trodAll_cons r0;obtain ⟨rfl,rfl,rfl⟩:=trodAll_nil r1;obtain rfl:args= #[v0,v1]:=by cases args;simp_all
 obtain ⟨rfl,rfl⟩:=trodVars_none hV;obtain ⟨ad0,C98,cap0,rfl⟩:=okWide_slice Tryz.underlying22 (hval 0 22 v0 rfl rfl);have hk0:=h0;obtain ⟨fuel0,hf0⟩:=h0;obtain ⟨a0,ra0,wa0⟩:=D3f hf0;obtain ⟨cs1,rfl,_⟩:=okWide_struct Tryz.underlying30 (hval 1 30 v1 rfl rfl);have hk1:=h1;obtain ⟨fuel1,hf1⟩:=h1;obtain ⟨a1,ra1,wa1⟩:=D3k hf1
 clear hA0 hval0
 simp only [List.append_nil,List.nil_append] at hW';have hlt0: ∀x∈pl0,x.block<W.heap.size:=fun x hx=>hW'.lt x (by simp [hx])
 have hlt1: ∀x∈pl1,x.block<W.heap.size:=fun x hx=>hW'.lt x (by simp [hx])
 refine (D4k W a0 _ ra0 wa0 a1 _ ra1 wa1).mono fun e W' ⟨he,hb⟩=> ?_;subst he;exact ⟨_,rfl,C2f (pa:=pl0++pl1) (pv:= []) hW' (fun _ _ _=>(trodAll_cons_mk (shut_bool Tryz.underlying4 _) trodAll_mk0))
  (fun sp hsp=>by
   have:DataW.TrodAll enc Tryz.prog W' 0 sp true [22,30] [Value.slice ad0 C98 cap0,Value.agg cs1] [d0,d1] _:=(trodAll_cons_mk (C7M D1H (by kernel_rfl) (of_decide_eq_true (by kernel_rfl)) hk0 hb hlt0 (fun x hx=>hsp x (by simp [hx]))) (trodAll_cons_mk (C7M D1H (by kernel_rfl) (of_decide_eq_true (by kernel_rfl)) hk1 hb hlt1 (fun x hx=>hsp x (by simp [hx]))) trodAll_mk0))
   have h2:DataW.TrodAll enc Tryz.prog W' 0 sp true [22,30] [Value.slice ad0 C98 cap0,Value.agg cs1] [d0,d1] (pl0++pl1):=by simpa using this
   exact h2) (fun _ _=>rfl) (by simp) hb
  (ok_one (by kernel_rfl) rfl (okWide_bool_mk Tryz.underlying4 _))⟩
theorem D3T:Tryz.pinned.checked.prog.funcNamed Rows.topRefusedRow.func=some 3:=by kernel_rfl
theorem D4g:Tryz.f3.isInstance Tryz.pinned.checked.prog Rows.topRefusedRow.origin Rows.topRefusedRow.targs:=of_decide_eq_true (by kernel_rfl)
theorem wrap:Tryz.f3.isWrapper Tryz.pinned.checked.prog Rows.topRefusedRow.wrapper Rows.topRefusedRow.mainSum:=by unfold Func.isWrapper;first|(rw [if_pos (by decide+kernel)];kernel_rfl)|(rw [if_neg (by decide+kernel)];exact ⟨rfl,rfl⟩)
theorem D4i:Rows.topRefusedRow.holds Tryz.pinned (OpenSpec.ofChange Rows.topRefusedSpec):=
 OpenClaim.holds_of_wide 3 Tryz.f3 rfl rfl rfl rfl rfl rfl rfl ⟨rfl,rfl,rfl,rfl,rfl⟩ rfl rfl rfl rfl rfl D3T Tryz.func3 D2W D4g wrap
  (fun os started H enc _=>D2Z os started H enc)
theorem proved:Rows.TopRefusedSaid:=
 D4i
#print axioms proved
end Go.Proofs.YtkakobhohikfkaaGreat.topRefused
