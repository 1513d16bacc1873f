/- The law TopResumed of package windowpanetop answers true at every input, and leaves its arguments as they were. Conditions: none. -/
import Derived.Test.YticmbokcamokpaaGreatRows
import Derived.Test.YticmbokcamokpaaGreatFTopResumed
import Derived.Test.YticmbokcamokpaaGreatCon42
import Derived.Test.YticmbokcamokpaaGreatVc
import Derived.Test.YticmbokcamokpaaGreatQb
import Derived.ProofKit
import Derived.OpenShut
set_option linter.unusedVariables false
set_option linter.unusedSimpArgs false
namespace Go.Proofs.YticmbokcamokpaaGreat.topResumed
open Go.Vc Go.Dec Go.Win Go.ChangeShapes Go.WideShapes Go.ChangeAt Go.RowKit
theorem own:ownKnob Tryz.prog.godebug=none:=by kernel_rfl
theorem C2y:laidOutB Tryz.prog=true:=by kernel_rfl
theorem B1t:Tryz.prog.cellsOf 3=1:=by kernel_rfl
theorem A4D:Tryz.prog.cellsOf 2=1:=by kernel_rfl
theorem C70:Tryz.prog.cellsOf 24=8:=by kernel_rfl
theorem D38:Tryz.prog.cellsOf 25=1:=by kernel_rfl
theorem C71:Tryz.prog.cellsOf 27=3:=by kernel_rfl
theorem D5C:Tryz.prog.cellsOf 5=1:=by kernel_rfl
theorem D39:Tryz.prog.cellsOf 28=1:=by kernel_rfl
theorem C72:Tryz.prog.cellsOf 30=17:=by kernel_rfl
theorem D7D:Tryz.prog.cellsOf 22=1:=by kernel_rfl
def Op {α:Type} (t:TypeId) (E:α->List AV) (W:α->Prop):Prop:= ∀ {H:Type} {enc:TypeId×Value->H} {w:World} {base:Nat} {spare:Nat->Bool} {held:Bool} {fuel:Nat} {cs:List Value} {x:DataW H×List MemPlace},DataW.trod enc Tryz.prog w base spare held fuel t cs=some x-> ∃y:α,F2 (LR w) (E y) cs/\W y
theorem fO {α:Type} {t:TypeId} {E:α->List AV} {W:α->Prop} (hop:Op t E W) {H:Type} {enc:TypeId×Value->H} {w:World} {base:Nat} {spare:Nat->Bool} {held:Bool} {fs:Array Field} {n:Nat} {cs:List Value} {xs:List (DataW H×List MemPlace)} (hlen:xs.length=fs.size)
  (hf:∀(i:Nat) (f:Field),fs[i]? =some f->DataW.trod enc Tryz.prog w base spare held n f.type ((cs.drop f.offset).take (Tryz.prog.cellsOf f.type))=xs[i]?) (i:Nat) (f:Field) (hi:fs[i]? =some f) (o k:Nat) (ht:f.type=t) (ho:f.offset=o) (hk:Tryz.prog.cellsOf t=k): ∃y,F2 (LR w) (E y) ((cs.drop o).take k)/\W y:=
 let ⟨_,g⟩:=D5J hlen hf i f hi o k ht ho hk;hop g
theorem B4R:Op 3 (eI .i64) (D6 .i64):=fun h=>C5Z Tryz.underlying3 h
theorem B4Q:Op 2 (eI .i64) (D6 .i64):=fun h=>C5Z Tryz.underlying2 h
theorem D54:Op 24 I5 B2p:=by
 intro H _ w _ _ _ _ cs _ h;obtain ⟨xs,n,_,hx,hl,hlen,hf⟩:=DataW.trod_struct Tryz.underlying24 h;rw [C70] at hl;obtain ⟨y0,r0,w0⟩:=fO B4R hlen hf 0 _ rfl 0 1 rfl rfl B1t;obtain ⟨y1,r1,w1⟩:=fO B4R hlen hf 1 _ rfl 1 1 rfl rfl B1t;obtain ⟨y2,r2,w2⟩:=fO B4Q hlen hf 2 _ rfl 2 1 rfl rfl A4D;obtain ⟨y3,r3,w3⟩:=fO B4R hlen hf 3 _ rfl 3 1 rfl rfl B1t;obtain ⟨y4,r4,w4⟩:=fO B4R hlen hf 4 _ rfl 4 1 rfl rfl B1t;obtain ⟨y5,r5,w5⟩:=fO B4R hlen hf 5 _ rfl 5 1 rfl rfl B1t;obtain ⟨y6,r6,w6⟩:=fO B4R hlen hf 6 _ rfl 6 1 rfl rfl B1t;obtain ⟨y7,r7,w7⟩:=fO B4Q hlen hf 7 _ rfl 7 1 rfl rfl A4D;exact ⟨B7.mk y0 y1 y2 y3 y4 y5 y6 y7,(U2 r0 (U2 r1 (U2 r2 (U2 r3 (U2 r4 (U2 r5 (U2 r6 (U2 r7 (C5m (by omega))))))))):F2 (LR w) _ (cs.drop 0)),w0,w1,w2,w3,w4,w5,w6,w7⟩
theorem D55:Op 25 (eL 1 (eI .i64)) (wfL (D6 .i64)):=fun h=>C50 (eI .i64) (D6 .i64) 1 Tryz.underlying25 A4D (by decide) (fun _=>rfl) (fun _ _ _ h=>B4Q h) h
theorem D56:Op 27 C4j B8V:=by
 intro H _ w _ _ _ _ cs _ h;obtain ⟨xs,n,_,hx,hl,hlen,hf⟩:=DataW.trod_struct Tryz.underlying27 h;rw [C71] at hl;obtain ⟨y0,r0,w0⟩:=fO B4R hlen hf 0 _ rfl 0 1 rfl rfl B1t;obtain ⟨y1,r1,w1⟩:=fO B4Q hlen hf 1 _ rfl 1 1 rfl rfl A4D;obtain ⟨y2,r2,w2⟩:=fO B4Q hlen hf 2 _ rfl 2 1 rfl rfl A4D;exact ⟨L9.mk y0 y1 y2,(U2 r0 (U2 r1 (U2 r2 (C5m (by omega)))):F2 (LR w) _ (cs.drop 0)),w0,w1,w2⟩
theorem D6W:Op 5 (eI .u8) (D6 .u8):=fun h=>C5Z Tryz.underlying5 h
theorem D57:Op 28 (eL 1 (eI .u8)) (wfL (D6 .u8)):=fun h=>C50 (eI .u8) (D6 .u8) 1 Tryz.underlying28 D5C (by decide) (fun _=>rfl) (fun _ _ _ h=>D6W h) h
theorem D58:Op 30 E6 R4:=by
 intro H _ w _ _ _ _ cs _ h;obtain ⟨xs,n,_,hx,hl,hlen,hf⟩:=DataW.trod_struct Tryz.underlying30 h;rw [C72] at hl;obtain ⟨y0,r0,w0⟩:=fO B4R hlen hf 0 _ rfl 0 1 rfl rfl B1t;obtain ⟨y1,r1,w1⟩:=fO B4Q hlen hf 1 _ rfl 1 1 rfl rfl A4D;obtain ⟨y2,r2,w2⟩:=fO D54 hlen hf 2 _ rfl 2 8 rfl rfl C70;obtain ⟨y3,r3,w3⟩:=fO B4Q hlen hf 3 _ rfl 10 1 rfl rfl A4D;obtain ⟨y4,r4,w4⟩:=fO B4Q hlen hf 4 _ rfl 11 1 rfl rfl A4D;obtain ⟨y5,r5,w5⟩:=fO D55 hlen hf 5 _ rfl 12 1 rfl rfl D38;obtain ⟨y6,r6,w6⟩:=fO D56 hlen hf 6 _ rfl 13 3 rfl rfl C71;obtain ⟨y7,r7,w7⟩:=fO D57 hlen hf 7 _ rfl 16 1 rfl rfl D39;exact ⟨B6.mk y0 y1 y2 y3 y4 y5 y6 y7,(U2 r0 (U2 r1 (U2 r2 (U2 r3 (U2 r4 (U2 r5 (U2 r6 (U2 r7 (C5m (by omega))))))))):F2 (LR w) _ (cs.drop 0)),w0,w1,w2,w3,w4,w5,w6,w7⟩
theorem C5Y:Op 22 (eL 17 E6) (wfL R4):=fun h=>C50 E6 R4 17 Tryz.underlying22 C72 (by decide) (fun _=>rfl) (fun _ _ _ h=>D58 h) h
theorem D7C (w:World) (p0:List B6) (v0:Value) (r0:F2 (LR w) (eL 17 E6 p0) [v0]) (w0:(wfL R4) p0) (p1:List B6) (v1:Value) (r1:F2 (LR w) (eL 17 E6 p1) [v1]) (w1:(wfL R4) p1) (p2:List B6) (v2:Value) (r2:F2 (LR w) (eL 17 E6 p2) [v2]) (w2:(wfL R4) p2):Calls Tryz.prog 6 #[v0,v1,v2] w fun e w' =>e= .returned (.bool true)/\Below w.heap.size w w' :=
 (@C0o p0 p1 p2 true (B7E p0 p1 p2 w0 w1 w2)).law2 Tryz.call6 w _ rfl (fun i c hi=>by
  match i,hi with
  |0,hi=>cases hi;exact ⟨_,rfl,C3f r0⟩
  |1,hi=>cases hi;exact ⟨_,rfl,C3f r1⟩
  |2,hi=>cases hi;exact ⟨_,rfl,C3f r2⟩)
set_option maxRecDepth 100000 in
theorem D5T (os:Os) (started:os.Started) (H:Type) (enc:TypeId×Value->H):
  ReturnsInHanded {} Tryz.checked os 6 .any (Rows.topResumedSpec.pre6 enc Tryz.prog Tryz.f6 Rows.topResumedRow.domain false) (Rows.topResumedSpec.post enc Tryz.prog Tryz.f6 false true false false):=by
 refine returnsInHanded_of_change (C:=Tryz.checked) own started (by kernel_rfl) Tryz.func6
  (ChangeSpec.witness6 (enc:=enc) (C:=Tryz.checked) false ⟨#[], #[.slice none 0 0, .slice none 0 0, .slice none 0 0], []⟩ 8 (by kernel_rfl) (by kernel_rfl) (by kernel_rfl) (by kernel_rfl)) ?_
 intro W base args ds gs before hval0 hW hcnd _;have hval: ∀(j:Nat) t v,Tryz.f6.params[j]? =some t->args[j]? =some v->Value.okWide Tryz.prog W .any base t v:=hval0;have hW' :=hW;obtain ⟨p,q,hA0,hV,rfl,hfz,hnd⟩:=hW;have hA:DataW.TrodAll enc Tryz.prog W 0 (fun _=>true) true Tryz.f6.params.toList args.toList ds p:=hA0;rw [Tryz.params6] at hA hval;obtain ⟨v0,vs0,d0,ds0,pl0,q0,hargs,rfl,rfl,h0,r0⟩:=trodAll_cons hA;obtain ⟨v1,vs1,d1,ds1,pl1,q1,rfl,rfl,rfl,h1,r1⟩:=trodAll_cons r0;obtain ⟨v2,vs2,d2,ds2,pl2,q2,rfl,rfl,rfl,h2,r2⟩:=trodAll_cons r1;obtain ⟨rfl,rfl,rfl⟩:=trodAll_nil r2;obtain rfl:args= #[v0,v1,v2]:=by cases args;simp_all
 obtain ⟨rfl,rfl⟩:=trodVars_none hV;obtain ⟨ad0,C5E,cap0,rfl⟩:=okWide_slice Tryz.underlying22 (hval 0 22 v0 rfl rfl);have hk0:=h0;obtain ⟨fuel0,hf0⟩:=h0;obtain ⟨a0,ra0,wa0⟩:=C5Y hf0;obtain ⟨ad1,D2F,cap1,rfl⟩:=okWide_slice Tryz.underlying22 (hval 1 22 v1 rfl rfl);have hk1:=h1;obtain ⟨fuel1,hf1⟩:=h1;obtain ⟨a1,ra1,wa1⟩:=C5Y hf1;obtain ⟨ad2,len2,cap2,rfl⟩:=okWide_slice Tryz.underlying22 (hval 2 22 v2 rfl rfl);have hk2:=h2;obtain ⟨fuel2,hf2⟩:=h2;obtain ⟨a2,ra2,wa2⟩:=C5Y hf2
 clear hA0 hval0
 simp only [List.append_nil,List.nil_append] at hW';have hlt0: ∀x∈pl0,x.block<W.heap.size:=fun x hx=>hW'.lt x (by simp [hx])
 have hlt1: ∀x∈pl1,x.block<W.heap.size:=fun x hx=>hW'.lt x (by simp [hx])
 have hlt2: ∀x∈pl2,x.block<W.heap.size:=fun x hx=>hW'.lt x (by simp [hx])
 refine (D7C W a0 _ ra0 wa0 a1 _ ra1 wa1 a2 _ ra2 wa2).mono fun e W' ⟨he,hb⟩=> ?_;subst he;exact ⟨_,rfl,C4m (pa:=pl0++(pl1++pl2)) (pv:= []) hW' (fun _ _ _=>(trodAll_cons_mk (shut_bool Tryz.underlying4 _) trodAll_mk0))
  (fun sp hsp=>by
   have:DataW.TrodAll enc Tryz.prog W' 0 sp true [22,22,22] [Value.slice ad0 C5E cap0,Value.slice ad1 D2F cap1,Value.slice ad2 len2 cap2] [d0,d1,d2] _:=(trodAll_cons_mk (B7L C2y (by kernel_rfl) (of_decide_eq_true (by kernel_rfl)) hk0 hb hlt0 (fun x hx=>hsp x (by simp [hx]))) (trodAll_cons_mk (B7L C2y (by kernel_rfl) (of_decide_eq_true (by kernel_rfl)) hk1 hb hlt1 (fun x hx=>hsp x (by simp [hx]))) (trodAll_cons_mk (B7L C2y (by kernel_rfl) (of_decide_eq_true (by kernel_rfl)) hk2 hb hlt2 (fun x hx=>hsp x (by simp [hx]))) trodAll_mk0)))
   have h2:DataW.TrodAll enc Tryz.prog W' 0 sp true [22,22,22] [Value.slice ad0 C5E cap0,Value.slice ad1 D2F cap1,Value.slice ad2 len2 cap2] [d0,d1,d2] (pl0++(pl1++pl2)):=by simpa using this
   exact h2) (fun _ _=>rfl) (by simp) hb
  (ok_one (by kernel_rfl) rfl (okWide_bool_mk Tryz.underlying4 _))⟩
theorem D6U:Tryz.pinned.checked.prog.funcNamed Rows.topResumedRow.func=some 6:=by kernel_rfl
theorem D7u:Tryz.f6.isInstance Tryz.pinned.checked.prog Rows.topResumedRow.origin Rows.topResumedRow.targs:=of_decide_eq_true (by kernel_rfl)
theorem wrap:Tryz.f6.isWrapper Tryz.pinned.checked.prog Rows.topResumedRow.wrapper Rows.topResumedRow.mainSum:=by unfold Func.isWrapper;first|(rw [if_pos (by decide+kernel)];kernel_rfl)|(rw [if_neg (by decide+kernel)];exact ⟨rfl,rfl⟩)
theorem D7y:Rows.topResumedRow.holds Tryz.pinned (OpenSpec.ofChange Rows.topResumedSpec):=
 OpenClaim.holds_of_wide 6 Tryz.f6 rfl rfl rfl rfl rfl rfl rfl ⟨rfl,rfl,rfl,rfl,rfl⟩ rfl rfl rfl rfl rfl D6U Tryz.func6 D5Q D7u wrap
  (fun os started H enc _=>D5T os started H enc)
theorem proved:Rows.TopResumedSaid:=
 D7y
#print axioms proved
end Go.Proofs.YticmbokcamokpaaGreat.topResumed
