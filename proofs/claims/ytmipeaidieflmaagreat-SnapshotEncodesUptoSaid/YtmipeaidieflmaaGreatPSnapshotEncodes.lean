/- The law SnapshotEncodes of package windowpanelaw28 answers true at every input, and leaves its arguments as they were. Conditions: what it reads is of bulk at most 1048576. -/
import Derived.Test.YtmipeaidieflmaaGreatRows
import Derived.Test.YtmipeaidieflmaaGreatFSnapshotEncodes
import Derived.Test.YtmipeaidieflmaaGreatCon
import Derived.Test.YtmipeaidieflmaaGreatVc
import Derived.Test.YtmipeaidieflmaaGreatPuSnK
import Derived.ProofKit
import Derived.OpenShut
import Derived.JoinedCond
set_option linter.unusedVariables false
set_option linter.unusedSimpArgs false
namespace Go.Proofs.YtmipeaidieflmaaGreat.snapshotEncodes
open Go.Vc Go.Dec Go.Win Go.ChangeShapes Go.WideShapes Go.ChangeAt Go.RowKit
theorem own:ownKnob Tryz.prog.godebug=none:=by kernel_rfl
theorem laidOut:laidOutB Tryz.prog=true:=by kernel_rfl
theorem cells2:Tryz.prog.cellsOf 2=1:=by kernel_rfl
theorem cells3:Tryz.prog.cellsOf 3=1:=by kernel_rfl
theorem cells23:Tryz.prog.cellsOf 23=8:=by kernel_rfl
theorem cells186:Tryz.prog.cellsOf 186=2:=by kernel_rfl
theorem cells24:Tryz.prog.cellsOf 24=1:=by kernel_rfl
theorem cells26:Tryz.prog.cellsOf 26=4:=by kernel_rfl
theorem cells271:Tryz.prog.cellsOf 271=2:=by kernel_rfl
theorem cells27:Tryz.prog.cellsOf 27=1:=by kernel_rfl
theorem cells29:Tryz.prog.cellsOf 29=5:=by kernel_rfl
theorem cells31:Tryz.prog.cellsOf 31=6:=by kernel_rfl
theorem cells234:Tryz.prog.cellsOf 234=7:=by kernel_rfl
theorem cells32:Tryz.prog.cellsOf 32=1:=by kernel_rfl
theorem cells34:Tryz.prog.cellsOf 34=7:=by kernel_rfl
theorem cells36:Tryz.prog.cellsOf 36=6:=by kernel_rfl
theorem cells209:Tryz.prog.cellsOf 209=1:=by kernel_rfl
theorem cells217:Tryz.prog.cellsOf 217=2:=by kernel_rfl
theorem cells37:Tryz.prog.cellsOf 37=1:=by kernel_rfl
theorem cells39:Tryz.prog.cellsOf 39=4:=by kernel_rfl
theorem cells40:Tryz.prog.cellsOf 40=1:=by kernel_rfl
theorem cells42:Tryz.prog.cellsOf 42=2:=by kernel_rfl
theorem cells4:Tryz.prog.cellsOf 4=1:=by kernel_rfl
theorem cells44:Tryz.prog.cellsOf 44=5:=by kernel_rfl
theorem cells226:Tryz.prog.cellsOf 226=2:=by kernel_rfl
theorem cells86:Tryz.prog.cellsOf 86=1:=by kernel_rfl
theorem cells88:Tryz.prog.cellsOf 88=5:=by kernel_rfl
theorem cells45:Tryz.prog.cellsOf 45=1:=by kernel_rfl
theorem cells47:Tryz.prog.cellsOf 47=1:=by kernel_rfl
theorem cells198:Tryz.prog.cellsOf 198=3:=by kernel_rfl
theorem cells48:Tryz.prog.cellsOf 48=1:=by kernel_rfl
theorem cells50:Tryz.prog.cellsOf 50=4:=by kernel_rfl
theorem cells228:Tryz.prog.cellsOf 228=3:=by kernel_rfl
theorem cells89:Tryz.prog.cellsOf 89=1:=by kernel_rfl
theorem cells91:Tryz.prog.cellsOf 91=2:=by kernel_rfl
theorem cells93:Tryz.prog.cellsOf 93=5:=by kernel_rfl
theorem cells51:Tryz.prog.cellsOf 51=1:=by kernel_rfl
theorem cells53:Tryz.prog.cellsOf 53=5:=by kernel_rfl
theorem cells55:Tryz.prog.cellsOf 55=57:=by kernel_rfl
theorem cells128:Tryz.prog.cellsOf 128=58:=by kernel_rfl
theorem cells63:Tryz.prog.cellsOf 63=1:=by kernel_rfl
theorem cells65:Tryz.prog.cellsOf 65=3:=by kernel_rfl
theorem one_le {H:Type} (d:DataW H):1<=Rows.uptoBulk d:=by
 cases d with
 |lit l=>cases l<;>simp [Rows.uptoBulk]
 |nil=>simp [Rows.uptoBulk]
 |ptr d=>simp [Rows.uptoBulk]
 |slice A61 spare=>simp [Rows.uptoBulk]
 |agg parts=>simp [Rows.uptoBulk]
 |iface t d=>simp [Rows.uptoBulk]
 |map entries=>simp [Rows.uptoBulk]
 |held h=>simp [Rows.uptoBulk]
theorem part_le {H:Type} {d:DataW H} {l:List (DataW H)} (h:d∈l):Rows.uptoBulk d<=Rows.uptoBulkAll l:=by
 induction l with
 |nil=>cases h
 |cons x r ih=>
  simp only [Rows.uptoBulkAll];cases List.mem_cons.1 h with
  |inl e=>subst e;omega
  |inr e=>have:=ih e;omega
theorem length_le {H:Type} (l:List (DataW H)):l.length<=Rows.uptoBulkAll l:=by
 induction l with
 |nil=>simp [Rows.uptoBulkAll]
 |cons x r ih=>have:=one_le x;simp only [Rows.uptoBulkAll,D2n];omega
def sml {H:Type} (d:DataW H):Prop:=Rows.uptoBulk d<=1048576
theorem sml_agg {H:Type}: ∀ps:List (DataW H),sml (.agg ps)-> ∀d∈ps,sml d:=fun ps h d hd=>by
 have:=part_le hd;unfold sml at h⊢;simp only [Rows.uptoBulk] at h;omega
theorem sml_slice {H:Type}: ∀el sp:List (DataW H),sml (.slice el sp)->el.length<=1048576/\ ∀d∈el,sml d:=fun el sp h=>by
 unfold sml at h;simp only [Rows.uptoBulk] at h;refine ⟨?_,fun d hd=> ?_⟩
 ·have:=length_le el;omega
 ·have:=part_le hd;unfold sml;omega
theorem sml_of {H:Type} {l:List (DataW H)} (hk:Rows.uptoSmall H l=true) {d:DataW H} (hd:d∈l):sml d:=by
 have h1:Rows.uptoBulkAll l<=1048576:=of_decide_eq_true hk;have:=part_le hd;unfold sml;omega
def Op {α:Type} (t:TypeId) (E:α->List AV) (W:α->Prop):Prop:= ∀ {H:Type} {enc:TypeId×Value->H} {w:World} {base:Nat} {spare:Nat->Bool} {held:Bool} {fuel:Nat} {cs:List Value} {x:DataW H×List MemPlace},DataW.trod enc Tryz.prog w base spare held fuel t cs=some x->sml x.1-> ∃y:α,F2 (LR w) (E y) cs/\W y
theorem fO {α:Type} {t:TypeId} {E:α->List AV} {W:α->Prop} (hop:Op t E W) {H:Type} {enc:TypeId×Value->H} {w:World} {base:Nat} {spare:Nat->Bool} {held:Bool} {fs:Array Field} {n:Nat} {cs:List Value} {xs:List (DataW H×List MemPlace)} {x:DataW H×List MemPlace} {q:List MemPlace} (hb:sml x.1) (hx:x=(.agg (xs.map (·.1)),q)) (hlen:xs.length=fs.size)
  (hf:∀(i:Nat) (f:Field),fs[i]? =some f->DataW.trod enc Tryz.prog w base spare held n f.type ((cs.drop f.offset).take (Tryz.prog.cellsOf f.type))=xs[i]?) (i:Nat) (f:Field) (hi:fs[i]? =some f) (o k:Nat) (ht:f.type=t) (ho:f.offset=o) (hk:Tryz.prog.cellsOf t=k): ∃y,F2 (LR w) (E y) ((cs.drop o).take k)/\W y:=
 let ⟨_,g,b⟩:=B3H (B:=sml) sml_agg hb hx hlen hf i f hi o k ht ho hk;hop g b
theorem open2:Op 2 (eI .i64) (E0 .i64):=fun h _=>A4t Tryz.underlying2 h
theorem open3:Op 3 (eI .i64) (E0 .i64):=fun h _=>A4t Tryz.underlying3 h
theorem open23:Op 23 J4 A0y:=by
 intro H _ w _ _ _ _ cs _ h hb;obtain ⟨xs,n,_,hx,hl,hlen,hf⟩:=DataW.trod_struct Tryz.underlying23 h;rw [cells23] at hl;obtain ⟨y0,r0,w0⟩:=fO open3 hb hx hlen hf 0 _ rfl 0 1 rfl rfl cells3;obtain ⟨y1,r1,w1⟩:=fO open3 hb hx hlen hf 1 _ rfl 1 1 rfl rfl cells3;obtain ⟨y2,r2,w2⟩:=fO open2 hb hx hlen hf 2 _ rfl 2 1 rfl rfl cells2;obtain ⟨y3,r3,w3⟩:=fO open3 hb hx hlen hf 3 _ rfl 3 1 rfl rfl cells3;obtain ⟨y4,r4,w4⟩:=fO open3 hb hx hlen hf 4 _ rfl 4 1 rfl rfl cells3;obtain ⟨y5,r5,w5⟩:=fO open3 hb hx hlen hf 5 _ rfl 5 1 rfl rfl cells3;obtain ⟨y6,r6,w6⟩:=fO open3 hb hx hlen hf 6 _ rfl 6 1 rfl rfl cells3;obtain ⟨y7,r7,w7⟩:=fO open2 hb hx hlen hf 7 _ rfl 7 1 rfl rfl cells2;exact ⟨E1.mk y0 y1 y2 y3 y4 y5 y6 y7,(A2 r0 (A2 r1 (A2 r2 (A2 r3 (A2 r4 (A2 r5 (A2 r6 (A2 r7 (G5 (by omega))))))))):F2 (LR w) _ (cs.drop 0)),w0,w1,w2,w3,w4,w5,w6,w7⟩
theorem open186:Op 186 C6 R7:=by
 intro H _ w _ _ _ _ cs _ h hb;obtain ⟨xs,n,_,hx,hl,hlen,hf⟩:=DataW.trod_struct Tryz.underlying186 h;rw [cells186] at hl;obtain ⟨y0,r0,w0⟩:=fO open2 hb hx hlen hf 0 _ rfl 0 1 rfl rfl cells2;obtain ⟨y1,r1,w1⟩:=fO open2 hb hx hlen hf 1 _ rfl 1 1 rfl rfl cells2;exact ⟨D7.mk y0 y1,(A2 r0 (A2 r1 (G5 (by omega))):F2 (LR w) _ (cs.drop 0)),w0,w1⟩
theorem open24:Op 24 (eL 2 C6) (L8 R7):=fun h hb=>M1 (B:=sml) sml_slice C6 R7 2 Tryz.underlying24 cells186 (by decide) (fun _=>rfl) (fun _ _ _ h hb=>open186 h hb) h hb
theorem open26:Op 26 M9 A3T:=by
 intro H _ w _ _ _ _ cs _ h hb;obtain ⟨xs,n,_,hx,hl,hlen,hf⟩:=DataW.trod_struct Tryz.underlying26 h;rw [cells26] at hl;obtain ⟨y0,r0,w0⟩:=fO open2 hb hx hlen hf 0 _ rfl 0 1 rfl rfl cells2;obtain ⟨y1,r1,w1⟩:=fO open3 hb hx hlen hf 1 _ rfl 1 1 rfl rfl cells3;obtain ⟨y2,r2,w2⟩:=fO open2 hb hx hlen hf 2 _ rfl 2 1 rfl rfl cells2;obtain ⟨y3,r3,w3⟩:=fO open24 hb hx hlen hf 3 _ rfl 3 1 rfl rfl cells24;exact ⟨E9.mk y0 y1 y2 y3,(A2 r0 (A2 r1 (A2 r2 (A2 r3 (G5 (by omega))))):F2 (LR w) _ (cs.drop 0)),w0,w1,w2,w3⟩
theorem open271:Op 271 B4 O8:=by
 intro H _ w _ _ _ _ cs _ h hb;obtain ⟨xs,n,_,hx,hl,hlen,hf⟩:=DataW.trod_struct Tryz.underlying271 h;rw [cells271] at hl;obtain ⟨y0,r0,w0⟩:=fO open2 hb hx hlen hf 0 _ rfl 0 1 rfl rfl cells2;obtain ⟨y1,r1,w1⟩:=fO open3 hb hx hlen hf 1 _ rfl 1 1 rfl rfl cells3;exact ⟨A9.mk y0 y1,(A2 r0 (A2 r1 (G5 (by omega))):F2 (LR w) _ (cs.drop 0)),w0,w1⟩
theorem open27:Op 27 (eL 2 B4) (L8 O8):=fun h hb=>M1 (B:=sml) sml_slice B4 O8 2 Tryz.underlying27 cells271 (by decide) (fun _=>rfl) (fun _ _ _ h hb=>open271 h hb) h hb
theorem open29:Op 29 N6 A4y:=by
 intro H _ w _ _ _ _ cs _ h hb;obtain ⟨xs,n,_,hx,hl,hlen,hf⟩:=DataW.trod_struct Tryz.underlying29 h;rw [cells29] at hl;obtain ⟨y0,r0,w0⟩:=fO open2 hb hx hlen hf 0 _ rfl 0 1 rfl rfl cells2;obtain ⟨y1,r1,w1⟩:=fO open3 hb hx hlen hf 1 _ rfl 1 1 rfl rfl cells3;obtain ⟨y2,r2,w2⟩:=fO open3 hb hx hlen hf 2 _ rfl 2 1 rfl rfl cells3;obtain ⟨y3,r3,w3⟩:=fO open2 hb hx hlen hf 3 _ rfl 3 1 rfl rfl cells2;obtain ⟨y4,r4,w4⟩:=fO open27 hb hx hlen hf 4 _ rfl 4 1 rfl rfl cells27;exact ⟨G1.mk y0 y1 y2 y3 y4,(A2 r0 (A2 r1 (A2 r2 (A2 r3 (A2 r4 (G5 (by omega)))))):F2 (LR w) _ (cs.drop 0)),w0,w1,w2,w3,w4⟩
theorem open31:Op 31 O6 A6X:=by
 intro H _ w _ _ _ _ cs _ h hb;obtain ⟨xs,n,_,hx,hl,hlen,hf⟩:=DataW.trod_struct Tryz.underlying31 h;rw [cells31] at hl;obtain ⟨y0,r0,w0⟩:=fO open2 hb hx hlen hf 0 _ rfl 0 1 rfl rfl cells2;obtain ⟨y1,r1,w1⟩:=fO open3 hb hx hlen hf 1 _ rfl 1 1 rfl rfl cells3;obtain ⟨y2,r2,w2⟩:=fO open3 hb hx hlen hf 2 _ rfl 2 1 rfl rfl cells3;obtain ⟨y3,r3,w3⟩:=fO open3 hb hx hlen hf 3 _ rfl 3 1 rfl rfl cells3;obtain ⟨y4,r4,w4⟩:=fO open2 hb hx hlen hf 4 _ rfl 4 1 rfl rfl cells2;obtain ⟨y5,r5,w5⟩:=fO open27 hb hx hlen hf 5 _ rfl 5 1 rfl rfl cells27;exact ⟨I0.mk y0 y1 y2 y3 y4 y5,(A2 r0 (A2 r1 (A2 r2 (A2 r3 (A2 r4 (A2 r5 (G5 (by omega))))))):F2 (LR w) _ (cs.drop 0)),w0,w1,w2,w3,w4,w5⟩
theorem open234:Op 234 A5 R9:=by
 intro H _ w _ _ _ _ cs _ h hb;obtain ⟨xs,n,_,hx,hl,hlen,hf⟩:=DataW.trod_struct Tryz.underlying234 h;rw [cells234] at hl;obtain ⟨y0,r0,w0⟩:=fO open2 hb hx hlen hf 0 _ rfl 0 1 rfl rfl cells2;obtain ⟨y1,r1,w1⟩:=fO open2 hb hx hlen hf 1 _ rfl 1 1 rfl rfl cells2;obtain ⟨y2,r2,w2⟩:=fO open2 hb hx hlen hf 2 _ rfl 2 1 rfl rfl cells2;obtain ⟨y3,r3,w3⟩:=fO open2 hb hx hlen hf 3 _ rfl 3 1 rfl rfl cells2;obtain ⟨y4,r4,w4⟩:=fO open2 hb hx hlen hf 4 _ rfl 4 1 rfl rfl cells2;obtain ⟨y5,r5,w5⟩:=fO open2 hb hx hlen hf 5 _ rfl 5 1 rfl rfl cells2;obtain ⟨y6,r6,w6⟩:=fO open2 hb hx hlen hf 6 _ rfl 6 1 rfl rfl cells2;exact ⟨D0.mk y0 y1 y2 y3 y4 y5 y6,(A2 r0 (A2 r1 (A2 r2 (A2 r3 (A2 r4 (A2 r5 (A2 r6 (G5 (by omega)))))))):F2 (LR w) _ (cs.drop 0)),w0,w1,w2,w3,w4,w5,w6⟩
theorem open32:Op 32 (eL 7 A5) (L8 R9):=fun h hb=>M1 (B:=sml) sml_slice A5 R9 7 Tryz.underlying32 cells234 (by decide) (fun _=>rfl) (fun _ _ _ h hb=>open234 h hb) h hb
theorem open34:Op 34 J1 A3V:=by
 intro H _ w _ _ _ _ cs _ h hb;obtain ⟨xs,n,_,hx,hl,hlen,hf⟩:=DataW.trod_struct Tryz.underlying34 h;rw [cells34] at hl;obtain ⟨y0,r0,w0⟩:=fO open3 hb hx hlen hf 0 _ rfl 0 1 rfl rfl cells3;obtain ⟨y1,r1,w1⟩:=fO open2 hb hx hlen hf 1 _ rfl 1 1 rfl rfl cells2;obtain ⟨y2,r2,w2⟩:=fO open3 hb hx hlen hf 2 _ rfl 2 1 rfl rfl cells3;obtain ⟨y3,r3,w3⟩:=fO open3 hb hx hlen hf 3 _ rfl 3 1 rfl rfl cells3;obtain ⟨y4,r4,w4⟩:=fO open2 hb hx hlen hf 4 _ rfl 4 1 rfl rfl cells2;obtain ⟨y5,r5,w5⟩:=fO open2 hb hx hlen hf 5 _ rfl 5 1 rfl rfl cells2;obtain ⟨y6,r6,w6⟩:=fO open32 hb hx hlen hf 6 _ rfl 6 1 rfl rfl cells32;exact ⟨F0.mk y0 y1 y2 y3 y4 y5 y6,(A2 r0 (A2 r1 (A2 r2 (A2 r3 (A2 r4 (A2 r5 (A2 r6 (G5 (by omega)))))))):F2 (LR w) _ (cs.drop 0)),w0,w1,w2,w3,w4,w5,w6⟩
theorem open36:Op 36 K2 A3W:=by
 intro H _ w _ _ _ _ cs _ h hb;obtain ⟨xs,n,_,hx,hl,hlen,hf⟩:=DataW.trod_struct Tryz.underlying36 h;rw [cells36] at hl;obtain ⟨y0,r0,w0⟩:=fO open2 hb hx hlen hf 0 _ rfl 0 1 rfl rfl cells2;obtain ⟨y1,r1,w1⟩:=fO open3 hb hx hlen hf 1 _ rfl 1 1 rfl rfl cells3;obtain ⟨y2,r2,w2⟩:=fO open3 hb hx hlen hf 2 _ rfl 2 1 rfl rfl cells3;obtain ⟨y3,r3,w3⟩:=fO open2 hb hx hlen hf 3 _ rfl 3 1 rfl rfl cells2;obtain ⟨y4,r4,w4⟩:=fO open2 hb hx hlen hf 4 _ rfl 4 1 rfl rfl cells2;obtain ⟨y5,r5,w5⟩:=fO open32 hb hx hlen hf 5 _ rfl 5 1 rfl rfl cells32;exact ⟨F1.mk y0 y1 y2 y3 y4 y5,(A2 r0 (A2 r1 (A2 r2 (A2 r3 (A2 r4 (A2 r5 (G5 (by omega))))))):F2 (LR w) _ (cs.drop 0)),w0,w1,w2,w3,w4,w5⟩
theorem open209:Op 209 (eI .u64) (E0 .u64):=fun h _=>A4t Tryz.underlying209 h
theorem open217:Op 217 E7 S0:=by
 intro H _ w _ _ _ _ cs _ h hb;obtain ⟨xs,n,_,hx,hl,hlen,hf⟩:=DataW.trod_struct Tryz.underlying217 h;rw [cells217] at hl;obtain ⟨y0,r0,w0⟩:=fO open209 hb hx hlen hf 0 _ rfl 0 1 rfl rfl cells209;obtain ⟨y1,r1,w1⟩:=fO open209 hb hx hlen hf 1 _ rfl 1 1 rfl rfl cells209;exact ⟨C7.mk y0 y1,(A2 r0 (A2 r1 (G5 (by omega))):F2 (LR w) _ (cs.drop 0)),w0,w1⟩
theorem open37:Op 37 (eL 2 E7) (L8 S0):=fun h hb=>M1 (B:=sml) sml_slice E7 S0 2 Tryz.underlying37 cells217 (by decide) (fun _=>rfl) (fun _ _ _ h hb=>open217 h hb) h hb
theorem open39:Op 39 N5 A5I:=by
 intro H _ w _ _ _ _ cs _ h hb;obtain ⟨xs,n,_,hx,hl,hlen,hf⟩:=DataW.trod_struct Tryz.underlying39 h;rw [cells39] at hl;obtain ⟨y0,r0,w0⟩:=fO open3 hb hx hlen hf 0 _ rfl 0 1 rfl rfl cells3;obtain ⟨y1,r1,w1⟩:=fO open2 hb hx hlen hf 1 _ rfl 1 1 rfl rfl cells2;obtain ⟨y2,r2,w2⟩:=fO open2 hb hx hlen hf 2 _ rfl 2 1 rfl rfl cells2;obtain ⟨y3,r3,w3⟩:=fO open37 hb hx hlen hf 3 _ rfl 3 1 rfl rfl cells37;exact ⟨G2.mk y0 y1 y2 y3,(A2 r0 (A2 r1 (A2 r2 (A2 r3 (G5 (by omega))))):F2 (LR w) _ (cs.drop 0)),w0,w1,w2,w3⟩
theorem open40:Op 40 (eL 1 (eI .i64)) (L8 (E0 .i64)):=fun h hb=>M1 (B:=sml) sml_slice (eI .i64) (E0 .i64) 1 Tryz.underlying40 cells2 (by decide) (fun _=>rfl) (fun _ _ _ h hb=>open2 h hb) h hb
theorem open42:Op 42 A2p A4z:=by
 intro H _ w _ _ _ _ cs _ h hb;obtain ⟨xs,n,_,hx,hl,hlen,hf⟩:=DataW.trod_struct Tryz.underlying42 h;rw [cells42] at hl;obtain ⟨y0,r0,w0⟩:=fO open2 hb hx hlen hf 0 _ rfl 0 1 rfl rfl cells2;obtain ⟨y1,r1,w1⟩:=fO open40 hb hx hlen hf 1 _ rfl 1 1 rfl rfl cells40;exact ⟨J7.mk y0 y1,(A2 r0 (A2 r1 (G5 (by omega))):F2 (LR w) _ (cs.drop 0)),w0,w1⟩
theorem open4:Op 4 eB (fun _=>True):=fun h _=>C3D Tryz.underlying4 h
theorem open44:Op 44 J8 A20:=by
 intro H _ w _ _ _ _ cs _ h hb;obtain ⟨xs,n,_,hx,hl,hlen,hf⟩:=DataW.trod_struct Tryz.underlying44 h;rw [cells44] at hl;obtain ⟨y0,r0,w0⟩:=fO open4 hb hx hlen hf 0 _ rfl 0 1 rfl rfl cells4;obtain ⟨y1,r1,w1⟩:=fO open2 hb hx hlen hf 1 _ rfl 1 1 rfl rfl cells2;obtain ⟨y2,r2,w2⟩:=fO open3 hb hx hlen hf 2 _ rfl 2 1 rfl rfl cells3;obtain ⟨y3,r3,w3⟩:=fO open2 hb hx hlen hf 3 _ rfl 3 1 rfl rfl cells2;obtain ⟨y4,r4,w4⟩:=fO open24 hb hx hlen hf 4 _ rfl 4 1 rfl rfl cells24;exact ⟨E5.mk y0 y1 y2 y3 y4,(A2 r0 (A2 r1 (A2 r2 (A2 r3 (A2 r4 (G5 (by omega)))))):F2 (LR w) _ (cs.drop 0)),w0,w1,w2,w3,w4⟩
theorem open226:Op 226 D9 R8:=by
 intro H _ w _ _ _ _ cs _ h hb;obtain ⟨xs,n,_,hx,hl,hlen,hf⟩:=DataW.trod_struct Tryz.underlying226 h;rw [cells226] at hl;obtain ⟨y0,r0,w0⟩:=fO open2 hb hx hlen hf 0 _ rfl 0 1 rfl rfl cells2;obtain ⟨y1,r1,w1⟩:=fO open2 hb hx hlen hf 1 _ rfl 1 1 rfl rfl cells2;exact ⟨H4.mk y0 y1,(A2 r0 (A2 r1 (G5 (by omega))):F2 (LR w) _ (cs.drop 0)),w0,w1⟩
theorem open86:Op 86 (eL 2 D9) (L8 R8):=fun h hb=>M1 (B:=sml) sml_slice D9 R8 2 Tryz.underlying86 cells226 (by decide) (fun _=>rfl) (fun _ _ _ h hb=>open226 h hb) h hb
theorem open88:Op 88 B5 R2:=by
 intro H _ w _ _ _ _ cs _ h hb;obtain ⟨xs,n,_,hx,hl,hlen,hf⟩:=DataW.trod_struct Tryz.underlying88 h;rw [cells88] at hl;obtain ⟨y0,r0,w0⟩:=fO open2 hb hx hlen hf 0 _ rfl 0 1 rfl rfl cells2;obtain ⟨y1,r1,w1⟩:=fO open3 hb hx hlen hf 1 _ rfl 1 1 rfl rfl cells3;obtain ⟨y2,r2,w2⟩:=fO open2 hb hx hlen hf 2 _ rfl 2 1 rfl rfl cells2;obtain ⟨y3,r3,w3⟩:=fO open2 hb hx hlen hf 3 _ rfl 3 1 rfl rfl cells2;obtain ⟨y4,r4,w4⟩:=fO open86 hb hx hlen hf 4 _ rfl 4 1 rfl rfl cells86;exact ⟨C8.mk y0 y1 y2 y3 y4,(A2 r0 (A2 r1 (A2 r2 (A2 r3 (A2 r4 (G5 (by omega)))))):F2 (LR w) _ (cs.drop 0)),w0,w1,w2,w3,w4⟩
theorem open45:Op 45 (eL 5 B5) (L8 R2):=fun h hb=>M1 (B:=sml) sml_slice B5 R2 5 Tryz.underlying45 cells88 (by decide) (fun _=>rfl) (fun _ _ _ h hb=>open88 h hb) h hb
theorem open47:Op 47 A1F A3U:=by
 intro H _ w _ _ _ _ cs _ h hb;obtain ⟨xs,n,_,hx,hl,hlen,hf⟩:=DataW.trod_struct Tryz.underlying47 h;rw [cells47] at hl;obtain ⟨y0,r0,w0⟩:=fO open45 hb hx hlen hf 0 _ rfl 0 1 rfl rfl cells45;exact ⟨I2.mk y0,(A2 r0 (G5 (by omega)):F2 (LR w) _ (cs.drop 0)),w0⟩
theorem open198:Op 198 D6 R3:=by
 intro H _ w _ _ _ _ cs _ h hb;obtain ⟨xs,n,_,hx,hl,hlen,hf⟩:=DataW.trod_struct Tryz.underlying198 h;rw [cells198] at hl;obtain ⟨y0,r0,w0⟩:=fO open2 hb hx hlen hf 0 _ rfl 0 1 rfl rfl cells2;obtain ⟨y1,r1,w1⟩:=fO open2 hb hx hlen hf 1 _ rfl 1 1 rfl rfl cells2;obtain ⟨y2,r2,w2⟩:=fO open2 hb hx hlen hf 2 _ rfl 2 1 rfl rfl cells2;exact ⟨E3.mk y0 y1 y2,(A2 r0 (A2 r1 (A2 r2 (G5 (by omega)))):F2 (LR w) _ (cs.drop 0)),w0,w1,w2⟩
theorem open48:Op 48 (eL 3 D6) (L8 R3):=fun h hb=>M1 (B:=sml) sml_slice D6 R3 3 Tryz.underlying48 cells198 (by decide) (fun _=>rfl) (fun _ _ _ h hb=>open198 h hb) h hb
theorem open50:Op 50 H7 A21:=by
 intro H _ w _ _ _ _ cs _ h hb;obtain ⟨xs,n,_,hx,hl,hlen,hf⟩:=DataW.trod_struct Tryz.underlying50 h;rw [cells50] at hl;obtain ⟨y0,r0,w0⟩:=fO open3 hb hx hlen hf 0 _ rfl 0 1 rfl rfl cells3;obtain ⟨y1,r1,w1⟩:=fO open3 hb hx hlen hf 1 _ rfl 1 1 rfl rfl cells3;obtain ⟨y2,r2,w2⟩:=fO open2 hb hx hlen hf 2 _ rfl 2 1 rfl rfl cells2;obtain ⟨y3,r3,w3⟩:=fO open48 hb hx hlen hf 3 _ rfl 3 1 rfl rfl cells48;exact ⟨D8.mk y0 y1 y2 y3,(A2 r0 (A2 r1 (A2 r2 (A2 r3 (G5 (by omega))))):F2 (LR w) _ (cs.drop 0)),w0,w1,w2,w3⟩
theorem open228:Op 228 C9 P7:=by
 intro H _ w _ _ _ _ cs _ h hb;obtain ⟨xs,n,_,hx,hl,hlen,hf⟩:=DataW.trod_struct Tryz.underlying228 h;rw [cells228] at hl;obtain ⟨y0,r0,w0⟩:=fO open2 hb hx hlen hf 0 _ rfl 0 1 rfl rfl cells2;obtain ⟨y1,r1,w1⟩:=fO open2 hb hx hlen hf 1 _ rfl 1 1 rfl rfl cells2;obtain ⟨y2,r2,w2⟩:=fO open2 hb hx hlen hf 2 _ rfl 2 1 rfl rfl cells2;exact ⟨F6.mk y0 y1 y2,(A2 r0 (A2 r1 (A2 r2 (G5 (by omega)))):F2 (LR w) _ (cs.drop 0)),w0,w1,w2⟩
theorem open89:Op 89 (eL 3 C9) (L8 P7):=fun h hb=>M1 (B:=sml) sml_slice C9 P7 3 Tryz.underlying89 cells228 (by decide) (fun _=>rfl) (fun _ _ _ h hb=>open228 h hb) h hb
theorem open91:Op 91 A2q A7f:=by
 intro H _ w _ _ _ _ cs _ h hb;obtain ⟨xs,n,_,hx,hl,hlen,hf⟩:=DataW.trod_struct Tryz.underlying91 h;rw [cells91] at hl;obtain ⟨y0,r0,w0⟩:=fO open2 hb hx hlen hf 0 _ rfl 0 1 rfl rfl cells2;obtain ⟨y1,r1,w1⟩:=fO open89 hb hx hlen hf 1 _ rfl 1 1 rfl rfl cells89;exact ⟨H5.mk y0 y1,(A2 r0 (A2 r1 (G5 (by omega))):F2 (LR w) _ (cs.drop 0)),w0,w1⟩
theorem open93:Op 93 B7 R1:=by
 intro H _ w _ _ _ _ cs _ h hb;obtain ⟨xs,n,_,hx,hl,hlen,hf⟩:=DataW.trod_struct Tryz.underlying93 h;rw [cells93] at hl;obtain ⟨y0,r0,w0⟩:=fO open2 hb hx hlen hf 0 _ rfl 0 1 rfl rfl cells2;obtain ⟨y1,r1,w1⟩:=fO open2 hb hx hlen hf 1 _ rfl 1 1 rfl rfl cells2;obtain ⟨y2,r2,w2⟩:=fO open3 hb hx hlen hf 2 _ rfl 2 1 rfl rfl cells3;obtain ⟨y3,r3,w3⟩:=fO open91 hb hx hlen hf 3 _ rfl 3 2 rfl rfl cells91;exact ⟨D1.mk y0 y1 y2 y3,(A2 r0 (A2 r1 (A2 r2 (A2 r3 (G5 (by omega))))):F2 (LR w) _ (cs.drop 0)),w0,w1,w2,w3⟩
theorem open51:Op 51 (eL 5 B7) (L8 R1):=fun h hb=>M1 (B:=sml) sml_slice B7 R1 5 Tryz.underlying51 cells93 (by decide) (fun _=>rfl) (fun _ _ _ h hb=>open93 h hb) h hb
theorem open53:Op 53 I6 A1X:=by
 intro H _ w _ _ _ _ cs _ h hb;obtain ⟨xs,n,_,hx,hl,hlen,hf⟩:=DataW.trod_struct Tryz.underlying53 h;rw [cells53] at hl;obtain ⟨y0,r0,w0⟩:=fO open2 hb hx hlen hf 0 _ rfl 0 1 rfl rfl cells2;obtain ⟨y1,r1,w1⟩:=fO open3 hb hx hlen hf 1 _ rfl 1 1 rfl rfl cells3;obtain ⟨y2,r2,w2⟩:=fO open3 hb hx hlen hf 2 _ rfl 2 1 rfl rfl cells3;obtain ⟨y3,r3,w3⟩:=fO open2 hb hx hlen hf 3 _ rfl 3 1 rfl rfl cells2;obtain ⟨y4,r4,w4⟩:=fO open51 hb hx hlen hf 4 _ rfl 4 1 rfl rfl cells51;exact ⟨E2.mk y0 y1 y2 y3 y4,(A2 r0 (A2 r1 (A2 r2 (A2 r3 (A2 r4 (G5 (by omega)))))):F2 (LR w) _ (cs.drop 0)),w0,w1,w2,w3,w4⟩
theorem open55:Op 55 G3 L2:=by
 intro H _ w _ _ _ _ cs _ h hb;obtain ⟨xs,n,_,hx,hl,hlen,hf⟩:=DataW.trod_struct Tryz.underlying55 h;rw [cells55] at hl;obtain ⟨y0,r0,w0⟩:=fO open23 hb hx hlen hf 0 _ rfl 0 8 rfl rfl cells23;obtain ⟨y1,r1,w1⟩:=fO open26 hb hx hlen hf 1 _ rfl 8 4 rfl rfl cells26;obtain ⟨y2,r2,w2⟩:=fO open29 hb hx hlen hf 2 _ rfl 12 5 rfl rfl cells29;obtain ⟨y3,r3,w3⟩:=fO open31 hb hx hlen hf 3 _ rfl 17 6 rfl rfl cells31;obtain ⟨y4,r4,w4⟩:=fO open34 hb hx hlen hf 4 _ rfl 23 7 rfl rfl cells34;obtain ⟨y5,r5,w5⟩:=fO open36 hb hx hlen hf 5 _ rfl 30 6 rfl rfl cells36;obtain ⟨y6,r6,w6⟩:=fO open39 hb hx hlen hf 6 _ rfl 36 4 rfl rfl cells39;obtain ⟨y7,r7,w7⟩:=fO open42 hb hx hlen hf 7 _ rfl 40 2 rfl rfl cells42;obtain ⟨y8,r8,w8⟩:=fO open44 hb hx hlen hf 8 _ rfl 42 5 rfl rfl cells44;obtain ⟨y9,r9,w9⟩:=fO open47 hb hx hlen hf 9 _ rfl 47 1 rfl rfl cells47;obtain ⟨y10,r10,w10⟩:=fO open50 hb hx hlen hf 10 _ rfl 48 4 rfl rfl cells50;obtain ⟨y11,r11,w11⟩:=fO open53 hb hx hlen hf 11 _ rfl 52 5 rfl rfl cells53;exact ⟨B0.mk y0 y1 y2 y3 y4 y5 y6 y7 y8 y9 y10 y11,(A2 r0 (A2 r1 (A2 r2 (A2 r3 (A2 r4 (A2 r5 (A2 r6 (A2 r7 (A2 r8 (A2 r9 (A2 r10 (A2 r11 (G5 (by omega))))))))))))):F2 (LR w) _ (cs.drop 0)),w0,w1,w2,w3,w4,w5,w6,w7,w8,w9,w10,w11⟩
theorem open128:Op 128 A8 M4:=by
 intro H _ w _ _ _ _ cs _ h hb;obtain ⟨xs,n,_,hx,hl,hlen,hf⟩:=DataW.trod_struct Tryz.underlying128 h;rw [cells128] at hl;obtain ⟨y0,r0,w0⟩:=fO open2 hb hx hlen hf 0 _ rfl 0 1 rfl rfl cells2;obtain ⟨y1,r1,w1⟩:=fO open55 hb hx hlen hf 1 _ rfl 1 57 rfl rfl cells55;exact ⟨C4.mk y0 y1,(A2 r0 (A2 r1 (G5 (by omega))):F2 (LR w) _ (cs.drop 0)),w0,w1⟩
theorem open63:Op 63 (eL 58 A8) (L8 M4):=fun h hb=>M1 (B:=sml) sml_slice A8 M4 58 Tryz.underlying63 cells128 (by decide) (fun _=>rfl) (fun _ _ _ h hb=>open128 h hb) h hb
theorem open65:Op 65 V2 G7:=by
 intro H _ w _ _ _ _ cs _ h hb;obtain ⟨xs,n,_,hx,hl,hlen,hf⟩:=DataW.trod_struct Tryz.underlying65 h;rw [cells65] at hl;obtain ⟨y0,r0,w0⟩:=fO open2 hb hx hlen hf 0 _ rfl 0 1 rfl rfl cells2;obtain ⟨y1,r1,w1⟩:=fO open3 hb hx hlen hf 1 _ rfl 1 1 rfl rfl cells3;obtain ⟨y2,r2,w2⟩:=fO open63 hb hx hlen hf 2 _ rfl 2 1 rfl rfl cells63;exact ⟨B9.mk y0 y1 y2,(A2 r0 (A2 r1 (A2 r2 (G5 (by omega)))):F2 (LR w) _ (cs.drop 0)),w0,w1,w2⟩
theorem walk (w:World) (p0:B9) (c0:Array Value) (r0:F2 (LR w) (V2 p0) c0.toList) (w0:G7 p0):Calls Tryz.prog 5 #[.agg c0] w fun e w' =>e= .returned (.bool true)/\Below w.heap.size w w' :=
 (B2j p0 true (A9P p0 w0)).law2 Tryz.call5 w _ rfl (fun i c hi=>by
  match i,hi with
  |0,hi=>cases hi;exact ⟨_,rfl,B4U r0⟩)
set_option maxRecDepth 100000 in
theorem lifted (os:Os) (started:os.Started) (H:Type) (enc:TypeId×Value->H) (F:Stop.Interp):
  ReturnsInHanded {} Tryz.checked os 5 .any ((Rows.OpenSpec.upto Rows.snapshotEncodesSpec).pre6 enc Tryz.prog Tryz.f5 Rows.snapshotEncodesUptoRow.domain false) (((Rows.OpenSpec.upto Rows.snapshotEncodesSpec).at F).post enc Tryz.prog Tryz.f5 false true false false):=by
 refine returnsInHanded_of_cond (C:=Tryz.checked) (s:=Rows.OpenSpec.upto Rows.snapshotEncodesSpec) (k:=Rows.uptoSmall) rfl own started (by kernel_rfl) Tryz.func5
  (OpenSpec.witness (enc:=enc) (C:=Tryz.checked) (s:=Rows.OpenSpec.upto Rows.snapshotEncodesSpec) (k:=Rows.uptoSmall) rfl false ⟨#[], #[.agg #[.int .i64 0, .int .i64 0, .slice none 0 0]], []⟩ 8 (by kernel_rfl) (by kernel_rfl) (by kernel_rfl)
   (x:=([.agg [.lit (.int .i64 0), .lit (.int .i64 0), .nil]], [], [])) (by kernel_rfl) rfl (by kernel_rfl)) ?_
 intro W base args ds gs before hval0 hW hcnd hk _;have hval: ∀(j:Nat) t v,Tryz.f5.params[j]? =some t->args[j]? =some v->Value.okWide Tryz.prog W .any base t v:=hval0;have hW' :=hW;obtain ⟨p,q,hA0,hV,rfl,hfz,hnd⟩:=hW;have hA:DataW.TrodAll enc Tryz.prog W 0 (fun _=>true) true Tryz.f5.params.toList args.toList ds p:=hA0;rw [Tryz.params5] at hA hval;obtain ⟨v0,vs0,d0,ds0,pl0,q0,hargs,rfl,rfl,h0,r0⟩:=trodAll_cons hA;obtain ⟨rfl,rfl,rfl⟩:=trodAll_nil r0;obtain rfl:args= #[v0]:=by cases args;simp_all
 obtain ⟨rfl,rfl⟩:=trodVars_none hV;obtain ⟨cs0,rfl,_⟩:=okWide_struct Tryz.underlying65 (hval 0 65 v0 rfl rfl);have hk0:=h0;obtain ⟨fuel0,hf0⟩:=h0;obtain ⟨a0,ra0,wa0⟩:=open65 hf0 (sml_of hk (by simp))
 clear hA0 hval0
 simp only [List.append_nil,List.nil_append] at hW';have hlt0: ∀x∈pl0,x.block<W.heap.size:=fun x hx=>hW'.lt x (by simp [hx])
 refine (walk W a0 _ ra0 wa0).mono fun e W' ⟨he,hb⟩=> ?_;subst he;exact ⟨_,rfl,A4u (pa:=pl0) (pv:= []) hW' (fun _ _ _=>(trodAll_cons_mk (shut_bool Tryz.underlying4 _) trodAll_mk0))
  (fun sp hsp=>by
   have:DataW.TrodAll enc Tryz.prog W' 0 sp true [65] [Value.agg cs0] [d0] _:=(trodAll_cons_mk (A9l laidOut (by kernel_rfl) (of_decide_eq_true (by kernel_rfl)) hk0 hb hlt0 (fun x hx=>hsp x (by simp [hx]))) trodAll_mk0)
   have h2:DataW.TrodAll enc Tryz.prog W' 0 sp true [65] [Value.agg cs0] [d0] (pl0):=by simpa using this
   exact h2) (fun _ _=>rfl) (by simp) hb
  (ok_one (by kernel_rfl) rfl (okWide_bool_mk Tryz.underlying4 _))⟩
theorem named:Tryz.pinned.checked.prog.funcNamed Rows.snapshotEncodesUptoRow.func=some 5:=by kernel_rfl
theorem inst:Tryz.f5.isInstance Tryz.pinned.checked.prog Rows.snapshotEncodesUptoRow.origin Rows.snapshotEncodesUptoRow.targs:=of_decide_eq_true (by kernel_rfl)
theorem wrap:Tryz.f5.isWrapper Tryz.pinned.checked.prog Rows.snapshotEncodesUptoRow.wrapper Rows.snapshotEncodesUptoRow.mainSum:=by unfold Func.isWrapper;first|(rw [if_pos (by decide+kernel)];kernel_rfl)|(rw [if_neg (by decide+kernel)];exact ⟨rfl,rfl⟩)
theorem over:Rows.snapshotEncodesUptoRow.holds Tryz.pinned (Rows.OpenSpec.upto Rows.snapshotEncodesSpec):=
 OpenClaim.holds_of_cond 5 Tryz.f5 rfl rfl rfl rfl rfl rfl rfl ⟨rfl,rfl,rfl,rfl,rfl⟩ rfl rfl rfl rfl rfl named Tryz.func5 joined inst wrap
  (fun os started H enc _ F=>lifted os started H enc F)
theorem proved:Rows.SnapshotEncodesUptoSaid:=
 over
#print axioms proved
end Go.Proofs.YtmipeaidieflmaaGreat.snapshotEncodes
