/- The law SynopsisAdd of package windowpanelaw25 answers true at every input, and leaves its arguments as they were. Conditions: what it reads is of bulk at most 1048576. -/
import Derived.Test.YtoljnakoodalpaaGreatRows
import Derived.Test.YtoljnakoodalpaaGreatFSynopsisAdd
import Derived.Test.YtoljnakoodalpaaGreatCon
import Derived.Test.YtoljnakoodalpaaGreatVc
import Derived.Test.YtoljnakoodalpaaGreatQb
import Derived.ProofKit
import Derived.OpenShut
import Derived.JoinedCond
set_option linter.unusedVariables false
set_option linter.unusedSimpArgs false
namespace Go.Proofs.YtoljnakoodalpaaGreat.synopsisAdd
open Go.Vc Go.Dec Go.Win Go.ChangeShapes Go.WideShapes Go.ChangeAt Go.RowKit
theorem own:ownKnob Tryz.prog.godebug=none:=by kernel_rfl
theorem C31:laidOutB Tryz.prog=true:=by kernel_rfl
theorem O5:Tryz.prog.cellsOf 3=1:=by kernel_rfl
theorem I0:Tryz.prog.cellsOf 2=1:=by kernel_rfl
theorem C3z:Tryz.prog.cellsOf 23=8:=by kernel_rfl
theorem C3O:Tryz.prog.cellsOf 71=2:=by kernel_rfl
theorem C3A:Tryz.prog.cellsOf 24=1:=by kernel_rfl
theorem C3B:Tryz.prog.cellsOf 26=4:=by kernel_rfl
theorem C0Y:Tryz.prog.cellsOf 275=2:=by kernel_rfl
theorem C3C:Tryz.prog.cellsOf 27=1:=by kernel_rfl
theorem C3D:Tryz.prog.cellsOf 29=5:=by kernel_rfl
theorem C3E:Tryz.prog.cellsOf 31=6:=by kernel_rfl
theorem C0V:Tryz.prog.cellsOf 185=7:=by kernel_rfl
theorem C3F:Tryz.prog.cellsOf 32=1:=by kernel_rfl
theorem C3G:Tryz.prog.cellsOf 34=7:=by kernel_rfl
theorem C3H:Tryz.prog.cellsOf 36=6:=by kernel_rfl
theorem C3P:Tryz.prog.cellsOf 84=1:=by kernel_rfl
theorem C3Q:Tryz.prog.cellsOf 86=2:=by kernel_rfl
theorem C8u:Tryz.prog.cellsOf 37=1:=by kernel_rfl
theorem C3I:Tryz.prog.cellsOf 39=4:=by kernel_rfl
theorem C8v:Tryz.prog.cellsOf 40=1:=by kernel_rfl
theorem C3J:Tryz.prog.cellsOf 42=2:=by kernel_rfl
theorem C9p:Tryz.prog.cellsOf 4=1:=by kernel_rfl
theorem C3K:Tryz.prog.cellsOf 44=5:=by kernel_rfl
theorem C0Z:Tryz.prog.cellsOf 304=2:=by kernel_rfl
theorem C8A:Tryz.prog.cellsOf 95=1:=by kernel_rfl
theorem C3R:Tryz.prog.cellsOf 97=5:=by kernel_rfl
theorem C8w:Tryz.prog.cellsOf 45=1:=by kernel_rfl
theorem C3L:Tryz.prog.cellsOf 47=1:=by kernel_rfl
theorem C0W:Tryz.prog.cellsOf 205=3:=by kernel_rfl
theorem C8x:Tryz.prog.cellsOf 48=1:=by kernel_rfl
theorem C3M:Tryz.prog.cellsOf 50=4:=by kernel_rfl
theorem C0X:Tryz.prog.cellsOf 259=3:=by kernel_rfl
theorem C8B:Tryz.prog.cellsOf 98=1:=by kernel_rfl
theorem C0T:Tryz.prog.cellsOf 100=2:=by kernel_rfl
theorem C0U:Tryz.prog.cellsOf 102=5:=by kernel_rfl
theorem C8y:Tryz.prog.cellsOf 51=1:=by kernel_rfl
theorem C3N:Tryz.prog.cellsOf 53=5:=by kernel_rfl
theorem C8z:Tryz.prog.cellsOf 55=57:=by kernel_rfl
theorem C9K {H:Type} (d:DataW H):1<=Rows.uptoBulk d:=by
 cases d with
 |lit l=>cases l<;>simp [Rows.uptoBulk]
 |nil=>simp [Rows.uptoBulk]
 |ptr d=>simp [Rows.uptoBulk]
 |slice B0S spare=>simp [Rows.uptoBulk]
 |agg parts=>simp [Rows.uptoBulk]
 |iface t d=>simp [Rows.uptoBulk]
 |map entries=>simp [Rows.uptoBulk]
 |held h=>simp [Rows.uptoBulk]
theorem B8p {H:Type} {d:DataW H} {l:List (DataW H)} (h:d∈l):Rows.uptoBulk d<=Rows.uptoBulkAll l:=by
 induction l with
 |nil=>cases h
 |cons x r ih=>
  simp only [Rows.uptoBulkAll];cases List.mem_cons.1 h with
  |inl e=>subst e;omega
  |inr e=>have:=ih e;omega
theorem C6k {H:Type} (l:List (DataW H)):l.length<=Rows.uptoBulkAll l:=by
 induction l with
 |nil=>simp [Rows.uptoBulkAll]
 |cons x r ih=>have:=C9K x;simp only [Rows.uptoBulkAll,D1h];omega
def sml {H:Type} (d:DataW H):Prop:=Rows.uptoBulk d<=1048576
theorem C89 {H:Type}: ∀ps:List (DataW H),sml (.agg ps)-> ∀d∈ps,sml d:=fun ps h d hd=>by
 have:=B8p hd;unfold sml at h⊢;simp only [Rows.uptoBulk] at h;omega
theorem A0D {H:Type}: ∀el sp:List (DataW H),sml (.slice el sp)->el.length<=1048576/\ ∀d∈el,sml d:=fun el sp h=>by
 unfold sml at h;simp only [Rows.uptoBulk] at h;refine ⟨?_,fun d hd=> ?_⟩
 ·have:=C6k el;omega
 ·have:=B8p hd;unfold sml;omega
theorem C6U {H:Type} {l:List (DataW H)} (hk:Rows.uptoSmall H l=true) {d:DataW H} (hd:d∈l):sml d:=by
 have h1:Rows.uptoBulkAll l<=1048576:=of_decide_eq_true hk;have:=B8p hd;unfold sml;omega
def Op {α:Type} (t:TypeId) (E:α->List AV) (W:α->Prop):Prop:= ∀ {H:Type} {enc:TypeId×Value->H} {w:World} {base:Nat} {spare:Nat->Bool} {held:Bool} {fuel:Nat} {cs:List Value} {x:DataW H×List MemPlace},DataW.trod enc Tryz.prog w base spare held fuel t cs=some x->sml x.1-> ∃y:α,F2 (LR w) (E y) cs/\W y
theorem fO {α:Type} {t:TypeId} {E:α->List AV} {W:α->Prop} (hop:Op t E W) {H:Type} {enc:TypeId×Value->H} {w:World} {base:Nat} {spare:Nat->Bool} {held:Bool} {fs:Array Field} {n:Nat} {cs:List Value} {xs:List (DataW H×List MemPlace)} {x:DataW H×List MemPlace} {q:List MemPlace} (hb:sml x.1) (hx:x=(.agg (xs.map (·.1)),q)) (hlen:xs.length=fs.size)
  (hf:∀(i:Nat) (f:Field),fs[i]? =some f->DataW.trod enc Tryz.prog w base spare held n f.type ((cs.drop f.offset).take (Tryz.prog.cellsOf f.type))=xs[i]?) (i:Nat) (f:Field) (hi:fs[i]? =some f) (o k:Nat) (ht:f.type=t) (ho:f.offset=o) (hk:Tryz.prog.cellsOf t=k): ∃y,F2 (LR w) (E y) ((cs.drop o).take k)/\W y:=
 let ⟨_,g,b⟩:=C8I (B:=sml) C89 hb hx hlen hf i f hi o k ht ho hk;hop g b
theorem S0:Op 3 (eI .i64) (E7 .i64):=fun h _=>C1P Tryz.underlying3 h
theorem K2:Op 2 (eI .i64) (E7 .i64):=fun h _=>C1P Tryz.underlying2 h
theorem C9L:Op 23 J4 B2D:=by
 intro H _ w _ _ _ _ cs _ h hb;obtain ⟨xs,n,_,hx,hl,hlen,hf⟩:=DataW.trod_struct Tryz.underlying23 h;rw [C3z] at hl;obtain ⟨y0,r0,w0⟩:=fO S0 hb hx hlen hf 0 _ rfl 0 1 rfl rfl O5;obtain ⟨y1,r1,w1⟩:=fO S0 hb hx hlen hf 1 _ rfl 1 1 rfl rfl O5;obtain ⟨y2,r2,w2⟩:=fO K2 hb hx hlen hf 2 _ rfl 2 1 rfl rfl I0;obtain ⟨y3,r3,w3⟩:=fO S0 hb hx hlen hf 3 _ rfl 3 1 rfl rfl O5;obtain ⟨y4,r4,w4⟩:=fO S0 hb hx hlen hf 4 _ rfl 4 1 rfl rfl O5;obtain ⟨y5,r5,w5⟩:=fO S0 hb hx hlen hf 5 _ rfl 5 1 rfl rfl O5;obtain ⟨y6,r6,w6⟩:=fO S0 hb hx hlen hf 6 _ rfl 6 1 rfl rfl O5;obtain ⟨y7,r7,w7⟩:=fO K2 hb hx hlen hf 7 _ rfl 7 1 rfl rfl I0;exact ⟨E4.mk y0 y1 y2 y3 y4 y5 y6 y7,(D7 r0 (D7 r1 (D7 r2 (D7 r3 (D7 r4 (D7 r5 (D7 r6 (D7 r7 (Q9 (by omega))))))))):F2 (LR w) _ (cs.drop 0)),w0,w1,w2,w3,w4,w5,w6,w7⟩
theorem C92:Op 71 C7 A4n:=by
 intro H _ w _ _ _ _ cs _ h hb;obtain ⟨xs,n,_,hx,hl,hlen,hf⟩:=DataW.trod_struct Tryz.underlying71 h;rw [C3O] at hl;obtain ⟨y0,r0,w0⟩:=fO K2 hb hx hlen hf 0 _ rfl 0 1 rfl rfl I0;obtain ⟨y1,r1,w1⟩:=fO K2 hb hx hlen hf 1 _ rfl 1 1 rfl rfl I0;exact ⟨B6.mk y0 y1,(D7 r0 (D7 r1 (Q9 (by omega))):F2 (LR w) _ (cs.drop 0)),w0,w1⟩
theorem C6E:Op 24 (eL 2 C7) (W2 A4n):=fun h hb=>A3C (B:=sml) A0D C7 A4n 2 Tryz.underlying24 C3O (by decide) (fun _=>rfl) (fun _ _ _ h hb=>C92 h hb) h hb
theorem C9M:Op 26 H4 A7D:=by
 intro H _ w _ _ _ _ cs _ h hb;obtain ⟨xs,n,_,hx,hl,hlen,hf⟩:=DataW.trod_struct Tryz.underlying26 h;rw [C3B] at hl;obtain ⟨y0,r0,w0⟩:=fO K2 hb hx hlen hf 0 _ rfl 0 1 rfl rfl I0;obtain ⟨y1,r1,w1⟩:=fO S0 hb hx hlen hf 1 _ rfl 1 1 rfl rfl O5;obtain ⟨y2,r2,w2⟩:=fO K2 hb hx hlen hf 2 _ rfl 2 1 rfl rfl I0;obtain ⟨y3,r3,w3⟩:=fO C6E hb hx hlen hf 3 _ rfl 3 1 rfl rfl C3A;exact ⟨C8.mk y0 y1 y2 y3,(D7 r0 (D7 r1 (D7 r2 (D7 r3 (Q9 (by omega))))):F2 (LR w) _ (cs.drop 0)),w0,w1,w2,w3⟩
theorem C81:Op 275 B0 A2J:=by
 intro H _ w _ _ _ _ cs _ h hb;obtain ⟨xs,n,_,hx,hl,hlen,hf⟩:=DataW.trod_struct Tryz.underlying275 h;rw [C0Y] at hl;obtain ⟨y0,r0,w0⟩:=fO K2 hb hx hlen hf 0 _ rfl 0 1 rfl rfl I0;obtain ⟨y1,r1,w1⟩:=fO S0 hb hx hlen hf 1 _ rfl 1 1 rfl rfl O5;exact ⟨A3.mk y0 y1,(D7 r0 (D7 r1 (Q9 (by omega))):F2 (LR w) _ (cs.drop 0)),w0,w1⟩
theorem C6F:Op 27 (eL 2 B0) (W2 A2J):=fun h hb=>A3C (B:=sml) A0D B0 A2J 2 Tryz.underlying27 C0Y (by decide) (fun _=>rfl) (fun _ _ _ h hb=>C81 h hb) h hb
theorem C9N:Op 29 H7 A8E:=by
 intro H _ w _ _ _ _ cs _ h hb;obtain ⟨xs,n,_,hx,hl,hlen,hf⟩:=DataW.trod_struct Tryz.underlying29 h;rw [C3D] at hl;obtain ⟨y0,r0,w0⟩:=fO K2 hb hx hlen hf 0 _ rfl 0 1 rfl rfl I0;obtain ⟨y1,r1,w1⟩:=fO S0 hb hx hlen hf 1 _ rfl 1 1 rfl rfl O5;obtain ⟨y2,r2,w2⟩:=fO S0 hb hx hlen hf 2 _ rfl 2 1 rfl rfl O5;obtain ⟨y3,r3,w3⟩:=fO K2 hb hx hlen hf 3 _ rfl 3 1 rfl rfl I0;obtain ⟨y4,r4,w4⟩:=fO C6F hb hx hlen hf 4 _ rfl 4 1 rfl rfl C3C;exact ⟨D5.mk y0 y1 y2 y3 y4,(D7 r0 (D7 r1 (D7 r2 (D7 r3 (D7 r4 (Q9 (by omega)))))):F2 (LR w) _ (cs.drop 0)),w0,w1,w2,w3,w4⟩
theorem C9O:Op 31 I4 B1Q:=by
 intro H _ w _ _ _ _ cs _ h hb;obtain ⟨xs,n,_,hx,hl,hlen,hf⟩:=DataW.trod_struct Tryz.underlying31 h;rw [C3E] at hl;obtain ⟨y0,r0,w0⟩:=fO K2 hb hx hlen hf 0 _ rfl 0 1 rfl rfl I0;obtain ⟨y1,r1,w1⟩:=fO S0 hb hx hlen hf 1 _ rfl 1 1 rfl rfl O5;obtain ⟨y2,r2,w2⟩:=fO S0 hb hx hlen hf 2 _ rfl 2 1 rfl rfl O5;obtain ⟨y3,r3,w3⟩:=fO S0 hb hx hlen hf 3 _ rfl 3 1 rfl rfl O5;obtain ⟨y4,r4,w4⟩:=fO K2 hb hx hlen hf 4 _ rfl 4 1 rfl rfl I0;obtain ⟨y5,r5,w5⟩:=fO C6F hb hx hlen hf 5 _ rfl 5 1 rfl rfl C3C;exact ⟨D9.mk y0 y1 y2 y3 y4 y5,(D7 r0 (D7 r1 (D7 r2 (D7 r3 (D7 r4 (D7 r5 (Q9 (by omega))))))):F2 (LR w) _ (cs.drop 0)),w0,w1,w2,w3,w4,w5⟩
theorem C8Y:Op 185 A4 A4o:=by
 intro H _ w _ _ _ _ cs _ h hb;obtain ⟨xs,n,_,hx,hl,hlen,hf⟩:=DataW.trod_struct Tryz.underlying185 h;rw [C0V] at hl;obtain ⟨y0,r0,w0⟩:=fO K2 hb hx hlen hf 0 _ rfl 0 1 rfl rfl I0;obtain ⟨y1,r1,w1⟩:=fO K2 hb hx hlen hf 1 _ rfl 1 1 rfl rfl I0;obtain ⟨y2,r2,w2⟩:=fO K2 hb hx hlen hf 2 _ rfl 2 1 rfl rfl I0;obtain ⟨y3,r3,w3⟩:=fO K2 hb hx hlen hf 3 _ rfl 3 1 rfl rfl I0;obtain ⟨y4,r4,w4⟩:=fO K2 hb hx hlen hf 4 _ rfl 4 1 rfl rfl I0;obtain ⟨y5,r5,w5⟩:=fO K2 hb hx hlen hf 5 _ rfl 5 1 rfl rfl I0;obtain ⟨y6,r6,w6⟩:=fO K2 hb hx hlen hf 6 _ rfl 6 1 rfl rfl I0;exact ⟨A7.mk y0 y1 y2 y3 y4 y5 y6,(D7 r0 (D7 r1 (D7 r2 (D7 r3 (D7 r4 (D7 r5 (D7 r6 (Q9 (by omega)))))))):F2 (LR w) _ (cs.drop 0)),w0,w1,w2,w3,w4,w5,w6⟩
theorem C6G:Op 32 (eL 7 A4) (W2 A4o):=fun h hb=>A3C (B:=sml) A0D A4 A4o 7 Tryz.underlying32 C0V (by decide) (fun _=>rfl) (fun _ _ _ h hb=>C8Y h hb) h hb
theorem C9P:Op 34 G0 A7F:=by
 intro H _ w _ _ _ _ cs _ h hb;obtain ⟨xs,n,_,hx,hl,hlen,hf⟩:=DataW.trod_struct Tryz.underlying34 h;rw [C3G] at hl;obtain ⟨y0,r0,w0⟩:=fO S0 hb hx hlen hf 0 _ rfl 0 1 rfl rfl O5;obtain ⟨y1,r1,w1⟩:=fO K2 hb hx hlen hf 1 _ rfl 1 1 rfl rfl I0;obtain ⟨y2,r2,w2⟩:=fO S0 hb hx hlen hf 2 _ rfl 2 1 rfl rfl O5;obtain ⟨y3,r3,w3⟩:=fO S0 hb hx hlen hf 3 _ rfl 3 1 rfl rfl O5;obtain ⟨y4,r4,w4⟩:=fO K2 hb hx hlen hf 4 _ rfl 4 1 rfl rfl I0;obtain ⟨y5,r5,w5⟩:=fO K2 hb hx hlen hf 5 _ rfl 5 1 rfl rfl I0;obtain ⟨y6,r6,w6⟩:=fO C6G hb hx hlen hf 6 _ rfl 6 1 rfl rfl C3F;exact ⟨C3.mk y0 y1 y2 y3 y4 y5 y6,(D7 r0 (D7 r1 (D7 r2 (D7 r3 (D7 r4 (D7 r5 (D7 r6 (Q9 (by omega)))))))):F2 (LR w) _ (cs.drop 0)),w0,w1,w2,w3,w4,w5,w6⟩
theorem C9Q:Op 36 G6 A7G:=by
 intro H _ w _ _ _ _ cs _ h hb;obtain ⟨xs,n,_,hx,hl,hlen,hf⟩:=DataW.trod_struct Tryz.underlying36 h;rw [C3H] at hl;obtain ⟨y0,r0,w0⟩:=fO K2 hb hx hlen hf 0 _ rfl 0 1 rfl rfl I0;obtain ⟨y1,r1,w1⟩:=fO S0 hb hx hlen hf 1 _ rfl 1 1 rfl rfl O5;obtain ⟨y2,r2,w2⟩:=fO S0 hb hx hlen hf 2 _ rfl 2 1 rfl rfl O5;obtain ⟨y3,r3,w3⟩:=fO K2 hb hx hlen hf 3 _ rfl 3 1 rfl rfl I0;obtain ⟨y4,r4,w4⟩:=fO K2 hb hx hlen hf 4 _ rfl 4 1 rfl rfl I0;obtain ⟨y5,r5,w5⟩:=fO C6G hb hx hlen hf 5 _ rfl 5 1 rfl rfl C3F;exact ⟨C4.mk y0 y1 y2 y3 y4 y5,(D7 r0 (D7 r1 (D7 r2 (D7 r3 (D7 r4 (D7 r5 (Q9 (by omega))))))):F2 (LR w) _ (cs.drop 0)),w0,w1,w2,w3,w4,w5⟩
theorem C6I:Op 84 (eI .u64) (E7 .u64):=fun h _=>C1P Tryz.underlying84 h
theorem C93:Op 86 F0 A4p:=by
 intro H _ w _ _ _ _ cs _ h hb;obtain ⟨xs,n,_,hx,hl,hlen,hf⟩:=DataW.trod_struct Tryz.underlying86 h;rw [C3Q] at hl;obtain ⟨y0,r0,w0⟩:=fO C6I hb hx hlen hf 0 _ rfl 0 1 rfl rfl C3P;obtain ⟨y1,r1,w1⟩:=fO C6I hb hx hlen hf 1 _ rfl 1 1 rfl rfl C3P;exact ⟨C1.mk y0 y1,(D7 r0 (D7 r1 (Q9 (by omega))):F2 (LR w) _ (cs.drop 0)),w0,w1⟩
theorem C9R:Op 37 (eL 2 F0) (W2 A4p):=fun h hb=>A3C (B:=sml) A0D F0 A4p 2 Tryz.underlying37 C3Q (by decide) (fun _=>rfl) (fun _ _ _ h hb=>C93 h hb) h hb
theorem C9S:Op 39 H5 B0v:=by
 intro H _ w _ _ _ _ cs _ h hb;obtain ⟨xs,n,_,hx,hl,hlen,hf⟩:=DataW.trod_struct Tryz.underlying39 h;rw [C3I] at hl;obtain ⟨y0,r0,w0⟩:=fO S0 hb hx hlen hf 0 _ rfl 0 1 rfl rfl O5;obtain ⟨y1,r1,w1⟩:=fO K2 hb hx hlen hf 1 _ rfl 1 1 rfl rfl I0;obtain ⟨y2,r2,w2⟩:=fO K2 hb hx hlen hf 2 _ rfl 2 1 rfl rfl I0;obtain ⟨y3,r3,w3⟩:=fO C9R hb hx hlen hf 3 _ rfl 3 1 rfl rfl C8u;exact ⟨D3.mk y0 y1 y2 y3,(D7 r0 (D7 r1 (D7 r2 (D7 r3 (Q9 (by omega))))):F2 (LR w) _ (cs.drop 0)),w0,w1,w2,w3⟩
theorem C6H:Op 40 (eL 1 (eI .i64)) (W2 (E7 .i64)):=fun h hb=>A3C (B:=sml) A0D (eI .i64) (E7 .i64) 1 Tryz.underlying40 I0 (by decide) (fun _=>rfl) (fun _ _ _ h hb=>K2 h hb) h hb
theorem C9T:Op 42 A3e A8F:=by
 intro H _ w _ _ _ _ cs _ h hb;obtain ⟨xs,n,_,hx,hl,hlen,hf⟩:=DataW.trod_struct Tryz.underlying42 h;rw [C3J] at hl;obtain ⟨y0,r0,w0⟩:=fO K2 hb hx hlen hf 0 _ rfl 0 1 rfl rfl I0;obtain ⟨y1,r1,w1⟩:=fO C6H hb hx hlen hf 1 _ rfl 1 1 rfl rfl C8v;exact ⟨E5.mk y0 y1,(D7 r0 (D7 r1 (Q9 (by omega))):F2 (LR w) _ (cs.drop 0)),w0,w1⟩
theorem D0C:Op 4 eB (fun _=>True):=fun h _=>C97 Tryz.underlying4 h
theorem C9U:Op 44 F5 A63:=by
 intro H _ w _ _ _ _ cs _ h hb;obtain ⟨xs,n,_,hx,hl,hlen,hf⟩:=DataW.trod_struct Tryz.underlying44 h;rw [C3K] at hl;obtain ⟨y0,r0,w0⟩:=fO D0C hb hx hlen hf 0 _ rfl 0 1 rfl rfl C9p;obtain ⟨y1,r1,w1⟩:=fO K2 hb hx hlen hf 1 _ rfl 1 1 rfl rfl I0;obtain ⟨y2,r2,w2⟩:=fO S0 hb hx hlen hf 2 _ rfl 2 1 rfl rfl O5;obtain ⟨y3,r3,w3⟩:=fO K2 hb hx hlen hf 3 _ rfl 3 1 rfl rfl I0;obtain ⟨y4,r4,w4⟩:=fO C6E hb hx hlen hf 4 _ rfl 4 1 rfl rfl C3A;exact ⟨B7.mk y0 y1 y2 y3 y4,(D7 r0 (D7 r1 (D7 r2 (D7 r3 (D7 r4 (Q9 (by omega)))))):F2 (LR w) _ (cs.drop 0)),w0,w1,w2,w3,w4⟩
theorem C82:Op 304 E2 A64:=by
 intro H _ w _ _ _ _ cs _ h hb;obtain ⟨xs,n,_,hx,hl,hlen,hf⟩:=DataW.trod_struct Tryz.underlying304 h;rw [C0Z] at hl;obtain ⟨y0,r0,w0⟩:=fO K2 hb hx hlen hf 0 _ rfl 0 1 rfl rfl I0;obtain ⟨y1,r1,w1⟩:=fO K2 hb hx hlen hf 1 _ rfl 1 1 rfl rfl I0;exact ⟨E9.mk y0 y1,(D7 r0 (D7 r1 (Q9 (by omega))):F2 (LR w) _ (cs.drop 0)),w0,w1⟩
theorem C94:Op 95 (eL 2 E2) (W2 A64):=fun h hb=>A3C (B:=sml) A0D E2 A64 2 Tryz.underlying95 C0Z (by decide) (fun _=>rfl) (fun _ _ _ h hb=>C82 h hb) h hb
theorem C95:Op 97 B2 A5U:=by
 intro H _ w _ _ _ _ cs _ h hb;obtain ⟨xs,n,_,hx,hl,hlen,hf⟩:=DataW.trod_struct Tryz.underlying97 h;rw [C3R] at hl;obtain ⟨y0,r0,w0⟩:=fO K2 hb hx hlen hf 0 _ rfl 0 1 rfl rfl I0;obtain ⟨y1,r1,w1⟩:=fO S0 hb hx hlen hf 1 _ rfl 1 1 rfl rfl O5;obtain ⟨y2,r2,w2⟩:=fO K2 hb hx hlen hf 2 _ rfl 2 1 rfl rfl I0;obtain ⟨y3,r3,w3⟩:=fO K2 hb hx hlen hf 3 _ rfl 3 1 rfl rfl I0;obtain ⟨y4,r4,w4⟩:=fO C94 hb hx hlen hf 4 _ rfl 4 1 rfl rfl C8A;exact ⟨A9.mk y0 y1 y2 y3 y4,(D7 r0 (D7 r1 (D7 r2 (D7 r3 (D7 r4 (Q9 (by omega)))))):F2 (LR w) _ (cs.drop 0)),w0,w1,w2,w3,w4⟩
theorem C9V:Op 45 (eL 5 B2) (W2 A5U):=fun h hb=>A3C (B:=sml) A0D B2 A5U 5 Tryz.underlying45 C3R (by decide) (fun _=>rfl) (fun _ _ _ h hb=>C95 h hb) h hb
theorem C9W:Op 47 A2f A7E:=by
 intro H _ w _ _ _ _ cs _ h hb;obtain ⟨xs,n,_,hx,hl,hlen,hf⟩:=DataW.trod_struct Tryz.underlying47 h;rw [C3L] at hl;obtain ⟨y0,r0,w0⟩:=fO C9V hb hx hlen hf 0 _ rfl 0 1 rfl rfl C8w;exact ⟨D6.mk y0,(D7 r0 (Q9 (by omega)):F2 (LR w) _ (cs.drop 0)),w0⟩
theorem C8Z:Op 205 D1 A5W:=by
 intro H _ w _ _ _ _ cs _ h hb;obtain ⟨xs,n,_,hx,hl,hlen,hf⟩:=DataW.trod_struct Tryz.underlying205 h;rw [C0W] at hl;obtain ⟨y0,r0,w0⟩:=fO K2 hb hx hlen hf 0 _ rfl 0 1 rfl rfl I0;obtain ⟨y1,r1,w1⟩:=fO K2 hb hx hlen hf 1 _ rfl 1 1 rfl rfl I0;obtain ⟨y2,r2,w2⟩:=fO K2 hb hx hlen hf 2 _ rfl 2 1 rfl rfl I0;exact ⟨D4.mk y0 y1 y2,(D7 r0 (D7 r1 (D7 r2 (Q9 (by omega)))):F2 (LR w) _ (cs.drop 0)),w0,w1,w2⟩
theorem C9X:Op 48 (eL 3 D1) (W2 A5W):=fun h hb=>A3C (B:=sml) A0D D1 A5W 3 Tryz.underlying48 C0W (by decide) (fun _=>rfl) (fun _ _ _ h hb=>C8Z h hb) h hb
theorem C9Y:Op 50 E0 A65:=by
 intro H _ w _ _ _ _ cs _ h hb;obtain ⟨xs,n,_,hx,hl,hlen,hf⟩:=DataW.trod_struct Tryz.underlying50 h;rw [C3M] at hl;obtain ⟨y0,r0,w0⟩:=fO S0 hb hx hlen hf 0 _ rfl 0 1 rfl rfl O5;obtain ⟨y1,r1,w1⟩:=fO S0 hb hx hlen hf 1 _ rfl 1 1 rfl rfl O5;obtain ⟨y2,r2,w2⟩:=fO K2 hb hx hlen hf 2 _ rfl 2 1 rfl rfl I0;obtain ⟨y3,r3,w3⟩:=fO C9X hb hx hlen hf 3 _ rfl 3 1 rfl rfl C8x;exact ⟨A8.mk y0 y1 y2 y3,(D7 r0 (D7 r1 (D7 r2 (D7 r3 (Q9 (by omega))))):F2 (LR w) _ (cs.drop 0)),w0,w1,w2,w3⟩
theorem C80:Op 259 A5 A5V:=by
 intro H _ w _ _ _ _ cs _ h hb;obtain ⟨xs,n,_,hx,hl,hlen,hf⟩:=DataW.trod_struct Tryz.underlying259 h;rw [C0X] at hl;obtain ⟨y0,r0,w0⟩:=fO K2 hb hx hlen hf 0 _ rfl 0 1 rfl rfl I0;obtain ⟨y1,r1,w1⟩:=fO K2 hb hx hlen hf 1 _ rfl 1 1 rfl rfl I0;obtain ⟨y2,r2,w2⟩:=fO K2 hb hx hlen hf 2 _ rfl 2 1 rfl rfl I0;exact ⟨B1.mk y0 y1 y2,(D7 r0 (D7 r1 (D7 r2 (Q9 (by omega)))):F2 (LR w) _ (cs.drop 0)),w0,w1,w2⟩
theorem C96:Op 98 (eL 3 A5) (W2 A5V):=fun h hb=>A3C (B:=sml) A0D A5 A5V 3 Tryz.underlying98 C0X (by decide) (fun _=>rfl) (fun _ _ _ h hb=>C80 h hb) h hb
theorem C8W:Op 100 A3f B3S:=by
 intro H _ w _ _ _ _ cs _ h hb;obtain ⟨xs,n,_,hx,hl,hlen,hf⟩:=DataW.trod_struct Tryz.underlying100 h;rw [C0T] at hl;obtain ⟨y0,r0,w0⟩:=fO K2 hb hx hlen hf 0 _ rfl 0 1 rfl rfl I0;obtain ⟨y1,r1,w1⟩:=fO C96 hb hx hlen hf 1 _ rfl 1 1 rfl rfl C8B;exact ⟨D0.mk y0 y1,(D7 r0 (D7 r1 (Q9 (by omega))):F2 (LR w) _ (cs.drop 0)),w0,w1⟩
theorem C8X:Op 102 B5 A5T:=by
 intro H _ w _ _ _ _ cs _ h hb;obtain ⟨xs,n,_,hx,hl,hlen,hf⟩:=DataW.trod_struct Tryz.underlying102 h;rw [C0U] at hl;obtain ⟨y0,r0,w0⟩:=fO K2 hb hx hlen hf 0 _ rfl 0 1 rfl rfl I0;obtain ⟨y1,r1,w1⟩:=fO K2 hb hx hlen hf 1 _ rfl 1 1 rfl rfl I0;obtain ⟨y2,r2,w2⟩:=fO S0 hb hx hlen hf 2 _ rfl 2 1 rfl rfl O5;obtain ⟨y3,r3,w3⟩:=fO C8W hb hx hlen hf 3 _ rfl 3 2 rfl rfl C0T;exact ⟨B3.mk y0 y1 y2 y3,(D7 r0 (D7 r1 (D7 r2 (D7 r3 (Q9 (by omega))))):F2 (LR w) _ (cs.drop 0)),w0,w1,w2,w3⟩
theorem C9Z:Op 51 (eL 5 B5) (W2 A5T):=fun h hb=>A3C (B:=sml) A0D B5 A5T 5 Tryz.underlying51 C0U (by decide) (fun _=>rfl) (fun _ _ _ h hb=>C8X h hb) h hb
theorem C90:Op 53 F6 A6c:=by
 intro H _ w _ _ _ _ cs _ h hb;obtain ⟨xs,n,_,hx,hl,hlen,hf⟩:=DataW.trod_struct Tryz.underlying53 h;rw [C3N] at hl;obtain ⟨y0,r0,w0⟩:=fO K2 hb hx hlen hf 0 _ rfl 0 1 rfl rfl I0;obtain ⟨y1,r1,w1⟩:=fO S0 hb hx hlen hf 1 _ rfl 1 1 rfl rfl O5;obtain ⟨y2,r2,w2⟩:=fO S0 hb hx hlen hf 2 _ rfl 2 1 rfl rfl O5;obtain ⟨y3,r3,w3⟩:=fO K2 hb hx hlen hf 3 _ rfl 3 1 rfl rfl I0;obtain ⟨y4,r4,w4⟩:=fO C9Z hb hx hlen hf 4 _ rfl 4 1 rfl rfl C8y;exact ⟨B8.mk y0 y1 y2 y3 y4,(D7 r0 (D7 r1 (D7 r2 (D7 r3 (D7 r4 (Q9 (by omega)))))):F2 (LR w) _ (cs.drop 0)),w0,w1,w2,w3,w4⟩
theorem C91:Op 55 E3 M8:=by
 intro H _ w _ _ _ _ cs _ h hb;obtain ⟨xs,n,_,hx,hl,hlen,hf⟩:=DataW.trod_struct Tryz.underlying55 h;rw [C8z] at hl;obtain ⟨y0,r0,w0⟩:=fO C9L hb hx hlen hf 0 _ rfl 0 8 rfl rfl C3z;obtain ⟨y1,r1,w1⟩:=fO C9M hb hx hlen hf 1 _ rfl 8 4 rfl rfl C3B;obtain ⟨y2,r2,w2⟩:=fO C9N hb hx hlen hf 2 _ rfl 12 5 rfl rfl C3D;obtain ⟨y3,r3,w3⟩:=fO C9O hb hx hlen hf 3 _ rfl 17 6 rfl rfl C3E;obtain ⟨y4,r4,w4⟩:=fO C9P hb hx hlen hf 4 _ rfl 23 7 rfl rfl C3G;obtain ⟨y5,r5,w5⟩:=fO C9Q hb hx hlen hf 5 _ rfl 30 6 rfl rfl C3H;obtain ⟨y6,r6,w6⟩:=fO C9S hb hx hlen hf 6 _ rfl 36 4 rfl rfl C3I;obtain ⟨y7,r7,w7⟩:=fO C9T hb hx hlen hf 7 _ rfl 40 2 rfl rfl C3J;obtain ⟨y8,r8,w8⟩:=fO C9U hb hx hlen hf 8 _ rfl 42 5 rfl rfl C3K;obtain ⟨y9,r9,w9⟩:=fO C9W hb hx hlen hf 9 _ rfl 47 1 rfl rfl C3L;obtain ⟨y10,r10,w10⟩:=fO C9Y hb hx hlen hf 10 _ rfl 48 4 rfl rfl C3M;obtain ⟨y11,r11,w11⟩:=fO C90 hb hx hlen hf 11 _ rfl 52 5 rfl rfl C3N;exact ⟨C2.mk y0 y1 y2 y3 y4 y5 y6 y7 y8 y9 y10 y11,(D7 r0 (D7 r1 (D7 r2 (D7 r3 (D7 r4 (D7 r5 (D7 r6 (D7 r7 (D7 r8 (D7 r9 (D7 r10 (D7 r11 (Q9 (by omega))))))))))))):F2 (LR w) _ (cs.drop 0)),w0,w1,w2,w3,w4,w5,w6,w7,w8,w9,w10,w11⟩
theorem D0V (w:World) (p0:C2) (c0:Array Value) (r0:F2 (LR w) (E3 p0) c0.toList) (w0:M8 p0) (p1:Int) (w1:E7 .i64 p1) (p2:List Int) (v2:Value) (r2:F2 (LR w) (eL 1 (eI .i64) p2) [v2]) (w2:(W2 (E7 .i64)) p2):Calls Tryz.prog 3 #[.agg c0, .int .i64 p1,v2] w fun e w' =>e= .returned (.bool true)/\Below w.heap.size w w' :=
 (B3U p0 p1 p2 true (B1E p0 p1 p2 w0 w1 w2)).law2 Tryz.call3 w _ rfl (fun i c hi=>by
  match i,hi with
  |0,hi=>cases hi;exact ⟨_,rfl,C5z r0⟩
  |1,hi=>cases hi;exact ⟨_,rfl,rfl⟩
  |2,hi=>cases hi;exact ⟨_,rfl,C9g r2⟩)
set_option maxRecDepth 100000 in
theorem C9D (os:Os) (started:os.Started) (H:Type) (enc:TypeId×Value->H) (F:Stop.Interp):
  ReturnsInHanded {} Tryz.checked os 3 .any ((Rows.OpenSpec.upto Rows.synopsisAddSpec).pre6 enc Tryz.prog Tryz.f3 Rows.synopsisAddUptoRow.domain false) (((Rows.OpenSpec.upto Rows.synopsisAddSpec).at F).post enc Tryz.prog Tryz.f3 false true false false):=by
 refine returnsInHanded_of_cond (C:=Tryz.checked) (s:=Rows.OpenSpec.upto Rows.synopsisAddSpec) (k:=Rows.uptoSmall) rfl own started (by kernel_rfl) Tryz.func3
  (OpenSpec.witness (enc:=enc) (C:=Tryz.checked) (s:=Rows.OpenSpec.upto Rows.synopsisAddSpec) (k:=Rows.uptoSmall) rfl false ⟨#[], #[.agg #[.int .i64 0, .int .i64 0, .int .i64 0, .int .i64 0, .int .i64 0, .int .i64 0, .int .i64 0, .int .i64 0, .int .i64 0, .int .i64 0, .int .i64 0, .slice none 0 0, .int .i64 0, .int .i64 0, .int .i64 0, .int .i64 0, .slice none 0 0, .int .i64 0, .int .i64 0, .int .i64 0, .int .i64 0, .int .i64 0, .slice none 0 0, .int .i64 0, .int .i64 0, .int .i64 0, .int .i64 0, .int .i64 0, .int .i64 0, .slice none 0 0, .int .i64 0, .int .i64 0, .int .i64 0, .int .i64 0, .int .i64 0, .slice none 0 0, .int .i64 0, .int .i64 0, .int .i64 0, .slice none 0 0, .int .i64 0, .slice none 0 0, .bool false, .int .i64 0, .int .i64 0, .int .i64 0, .slice none 0 0, .slice none 0 0, .int .i64 0, .int .i64 0, .int .i64 0, .slice none 0 0, .int .i64 0, .int .i64 0, .int .i64 0, .int .i64 0, .slice none 0 0], .int .i64 0, .slice none 0 0], []⟩ 8 (by kernel_rfl) (by kernel_rfl) (by kernel_rfl)
   (x:=([.agg [.agg [.lit (.int .i64 0), .lit (.int .i64 0), .lit (.int .i64 0), .lit (.int .i64 0), .lit (.int .i64 0), .lit (.int .i64 0), .lit (.int .i64 0), .lit (.int .i64 0)], .agg [.lit (.int .i64 0), .lit (.int .i64 0), .lit (.int .i64 0), .nil], .agg [.lit (.int .i64 0), .lit (.int .i64 0), .lit (.int .i64 0), .lit (.int .i64 0), .nil], .agg [.lit (.int .i64 0), .lit (.int .i64 0), .lit (.int .i64 0), .lit (.int .i64 0), .lit (.int .i64 0), .nil], .agg [.lit (.int .i64 0), .lit (.int .i64 0), .lit (.int .i64 0), .lit (.int .i64 0), .lit (.int .i64 0), .lit (.int .i64 0), .nil], .agg [.lit (.int .i64 0), .lit (.int .i64 0), .lit (.int .i64 0), .lit (.int .i64 0), .lit (.int .i64 0), .nil], .agg [.lit (.int .i64 0), .lit (.int .i64 0), .lit (.int .i64 0), .nil], .agg [.lit (.int .i64 0), .nil], .agg [.lit (.bool false), .lit (.int .i64 0), .lit (.int .i64 0), .lit (.int .i64 0), .nil], .agg [.nil], .agg [.lit (.int .i64 0), .lit (.int .i64 0), .lit (.int .i64 0), .nil], .agg [.lit (.int .i64 0), .lit (.int .i64 0), .lit (.int .i64 0), .lit (.int .i64 0), .nil]], .lit (.int .i64 0), .nil], [], [])) (by kernel_rfl) rfl (by kernel_rfl)) ?_
 intro W base args ds gs before hval0 hW hcnd hk _;have hval: ∀(j:Nat) t v,Tryz.f3.params[j]? =some t->args[j]? =some v->Value.okWide Tryz.prog W .any base t v:=hval0;have hW' :=hW;obtain ⟨p,q,hA0,hV,rfl,hfz,hnd⟩:=hW;have hA:DataW.TrodAll enc Tryz.prog W 0 (fun _=>true) true Tryz.f3.params.toList args.toList ds p:=hA0;rw [Tryz.params3] at hA hval;obtain ⟨v0,vs0,d0,ds0,pl0,q0,hargs,rfl,rfl,h0,r0⟩:=trodAll_cons hA;obtain ⟨v1,vs1,d1,ds1,pl1,q1,rfl,rfl,rfl,h1,r1⟩:=trodAll_cons r0;obtain ⟨v2,vs2,d2,ds2,pl2,q2,rfl,rfl,rfl,h2,r2⟩:=trodAll_cons r1;obtain ⟨rfl,rfl,rfl⟩:=trodAll_nil r2;obtain rfl:args= #[v0,v1,v2]:=by cases args;simp_all
 obtain ⟨rfl,rfl⟩:=trodVars_none hV;obtain ⟨cs0,rfl,_⟩:=okWide_struct Tryz.underlying55 (hval 0 55 v0 rfl rfl);have hk0:=h0;obtain ⟨fuel0,hf0⟩:=h0;obtain ⟨a0,ra0,wa0⟩:=C91 hf0 (C6U hk (by simp))
 obtain ⟨a1,rfl,rfl,rfl,w1⟩:=open_int Tryz.underlying2 (hval 1 2 v1 rfl rfl) h1;obtain ⟨ad2,len2,cap2,rfl⟩:=okWide_slice Tryz.underlying40 (hval 2 40 v2 rfl rfl);have hk2:=h2;obtain ⟨fuel2,hf2⟩:=h2;obtain ⟨a2,ra2,wa2⟩:=C6H hf2 (C6U hk (by simp))
 clear hA0 hval0
 simp only [List.append_nil,List.nil_append] at hW';have hlt0: ∀x∈pl0,x.block<W.heap.size:=fun x hx=>hW'.lt x (by simp [hx])
 have hlt2: ∀x∈pl2,x.block<W.heap.size:=fun x hx=>hW'.lt x (by simp [hx])
 refine (D0V W a0 _ ra0 wa0 a1 w1 a2 _ ra2 wa2).mono fun e W' ⟨he,hb⟩=> ?_;subst he;exact ⟨_,rfl,B9N (pa:=pl0++pl2) (pv:= []) hW' (fun _ _ _=>(trodAll_cons_mk (shut_bool Tryz.underlying4 _) trodAll_mk0))
  (fun sp hsp=>by
   have:DataW.TrodAll enc Tryz.prog W' 0 sp true [55,2,40] [Value.agg cs0, .int .i64 a1,Value.slice ad2 len2 cap2] [d0, .lit (.int .i64 a1),d2] _:=(trodAll_cons_mk (B8G C31 (by kernel_rfl) (of_decide_eq_true (by kernel_rfl)) hk0 hb hlt0 (fun x hx=>hsp x (by simp [hx]))) (trodAll_cons_mk (shut_int Tryz.underlying2 w1) (trodAll_cons_mk (B8G C31 (by kernel_rfl) (of_decide_eq_true (by kernel_rfl)) hk2 hb hlt2 (fun x hx=>hsp x (by simp [hx]))) trodAll_mk0)))
   have h2:DataW.TrodAll enc Tryz.prog W' 0 sp true [55,2,40] [Value.agg cs0, .int .i64 a1,Value.slice ad2 len2 cap2] [d0, .lit (.int .i64 a1),d2] (pl0++pl2):=by simpa using this
   exact h2) (fun _ _=>rfl) (by simp) hb
  (ok_one (by kernel_rfl) rfl (okWide_bool_mk Tryz.underlying4 _))⟩
theorem D0z:Tryz.pinned.checked.prog.funcNamed Rows.synopsisAddUptoRow.func=some 3:=by kernel_rfl
theorem D0Q:Tryz.f3.isInstance Tryz.pinned.checked.prog Rows.synopsisAddUptoRow.origin Rows.synopsisAddUptoRow.targs:=of_decide_eq_true (by kernel_rfl)
theorem wrap:Tryz.f3.isWrapper Tryz.pinned.checked.prog Rows.synopsisAddUptoRow.wrapper Rows.synopsisAddUptoRow.mainSum:=by unfold Func.isWrapper;first|(rw [if_pos (by decide+kernel)];kernel_rfl)|(rw [if_neg (by decide+kernel)];exact ⟨rfl,rfl⟩)
theorem D0S:Rows.synopsisAddUptoRow.holds Tryz.pinned (Rows.OpenSpec.upto Rows.synopsisAddSpec):=
 OpenClaim.holds_of_cond 3 Tryz.f3 rfl rfl rfl rfl rfl rfl rfl ⟨rfl,rfl,rfl,rfl,rfl⟩ rfl rfl rfl rfl rfl D0z Tryz.func3 C9C D0Q wrap
  (fun os started H enc _ F=>C9D os started H enc F)
theorem proved:Rows.SynopsisAddUptoSaid:=
 D0S
#print axioms proved
end Go.Proofs.YtoljnakoodalpaaGreat.synopsisAdd
