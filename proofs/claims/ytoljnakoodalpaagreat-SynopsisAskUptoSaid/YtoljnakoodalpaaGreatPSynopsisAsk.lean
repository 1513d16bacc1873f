/- The law SynopsisAsk of package windowpanelaw25 answers true at every input, and leaves its arguments as they were. Conditions: what it reads is of bulk at most 1048576. -/
import Derived.Test.YtoljnakoodalpaaGreatRows
import Derived.Test.YtoljnakoodalpaaGreatFSynopsisAsk
import Derived.Test.YtoljnakoodalpaaGreatCon
import Derived.Test.YtoljnakoodalpaaGreatVc
import Derived.Test.YtoljnakoodalpaaGreatQb
import Derived.ProofKit
import Derived.OpenShut
import Derived.JoinedCond
set_option linter.unusedVariables false
set_option linter.unusedSimpArgs false
namespace Go.Proofs.YtoljnakoodalpaaGreat.synopsisAsk
open Go.Vc Go.Dec Go.Win Go.ChangeShapes Go.WideShapes Go.ChangeAt Go.RowKit
theorem own:ownKnob Tryz.prog.godebug=none:=by kernel_rfl
theorem C6T:laidOutB Tryz.prog=true:=by kernel_rfl
theorem R7:Tryz.prog.cellsOf 3=1:=by kernel_rfl
theorem I2:Tryz.prog.cellsOf 2=1:=by kernel_rfl
theorem C6t:Tryz.prog.cellsOf 23=8:=by kernel_rfl
theorem C6I:Tryz.prog.cellsOf 71=2:=by kernel_rfl
theorem C6u:Tryz.prog.cellsOf 24=1:=by kernel_rfl
theorem C6v:Tryz.prog.cellsOf 26=4:=by kernel_rfl
theorem C3t:Tryz.prog.cellsOf 275=2:=by kernel_rfl
theorem C6w:Tryz.prog.cellsOf 27=1:=by kernel_rfl
theorem C6x:Tryz.prog.cellsOf 29=5:=by kernel_rfl
theorem C6y:Tryz.prog.cellsOf 31=6:=by kernel_rfl
theorem C3q:Tryz.prog.cellsOf 185=7:=by kernel_rfl
theorem C6z:Tryz.prog.cellsOf 32=1:=by kernel_rfl
theorem C6A:Tryz.prog.cellsOf 34=7:=by kernel_rfl
theorem C6B:Tryz.prog.cellsOf 36=6:=by kernel_rfl
theorem C6J:Tryz.prog.cellsOf 84=1:=by kernel_rfl
theorem C6K:Tryz.prog.cellsOf 86=2:=by kernel_rfl
theorem D1M:Tryz.prog.cellsOf 37=1:=by kernel_rfl
theorem C6C:Tryz.prog.cellsOf 39=4:=by kernel_rfl
theorem D1N:Tryz.prog.cellsOf 40=1:=by kernel_rfl
theorem C6D:Tryz.prog.cellsOf 42=2:=by kernel_rfl
theorem D2S:Tryz.prog.cellsOf 4=1:=by kernel_rfl
theorem C6E:Tryz.prog.cellsOf 44=5:=by kernel_rfl
theorem C3u:Tryz.prog.cellsOf 304=2:=by kernel_rfl
theorem D1T:Tryz.prog.cellsOf 95=1:=by kernel_rfl
theorem C6L:Tryz.prog.cellsOf 97=5:=by kernel_rfl
theorem D1O:Tryz.prog.cellsOf 45=1:=by kernel_rfl
theorem C6F:Tryz.prog.cellsOf 47=1:=by kernel_rfl
theorem C3r:Tryz.prog.cellsOf 205=3:=by kernel_rfl
theorem D1P:Tryz.prog.cellsOf 48=1:=by kernel_rfl
theorem C6G:Tryz.prog.cellsOf 50=4:=by kernel_rfl
theorem C3s:Tryz.prog.cellsOf 259=3:=by kernel_rfl
theorem D1U:Tryz.prog.cellsOf 98=1:=by kernel_rfl
theorem C3o:Tryz.prog.cellsOf 100=2:=by kernel_rfl
theorem C3p:Tryz.prog.cellsOf 102=5:=by kernel_rfl
theorem D1Q:Tryz.prog.cellsOf 51=1:=by kernel_rfl
theorem C6H:Tryz.prog.cellsOf 53=5:=by kernel_rfl
theorem D1R:Tryz.prog.cellsOf 55=57:=by kernel_rfl
theorem D1S:Tryz.prog.cellsOf 79=3:=by kernel_rfl
theorem D3f {H:Type} (d:DataW H):1<=Rows.uptoBulk d:=by
 cases d with
 |lit l=>cases l<;>simp [Rows.uptoBulk]
 |nil=>simp [Rows.uptoBulk]
 |ptr d=>simp [Rows.uptoBulk]
 |slice B2o spare=>simp [Rows.uptoBulk]
 |agg parts=>simp [Rows.uptoBulk]
 |iface t d=>simp [Rows.uptoBulk]
 |map entries=>simp [Rows.uptoBulk]
 |held h=>simp [Rows.uptoBulk]
theorem C0K {H:Type} {d:DataW H} {l:List (DataW H)} (h:d∈l):Rows.uptoBulk d<=Rows.uptoBulkAll l:=by
 induction l with
 |nil=>cases h
 |cons x r ih=>
  simp only [Rows.uptoBulkAll];cases List.mem_cons.1 h with
  |inl e=>subst e;omega
  |inr e=>have:=ih e;omega
theorem C9w {H:Type} (l:List (DataW H)):l.length<=Rows.uptoBulkAll l:=by
 induction l with
 |nil=>simp [Rows.uptoBulkAll]
 |cons x r ih=>have:=D3f x;simp only [Rows.uptoBulkAll,D4Q];omega
def sml {H:Type} (d:DataW H):Prop:=Rows.uptoBulk d<=1048576
theorem D2w {H:Type}: ∀ps:List (DataW H),sml (.agg ps)-> ∀d∈ps,sml d:=fun ps h d hd=>by
 have:=C0K hd;unfold sml at h⊢;simp only [Rows.uptoBulk] at h;omega
theorem A1o {H:Type}: ∀el sp:List (DataW H),sml (.slice el sp)->el.length<=1048576/\ ∀d∈el,sml d:=fun el sp h=>by
 unfold sml at h;simp only [Rows.uptoBulk] at h;refine ⟨?_,fun d hd=> ?_⟩
 ·have:=C9w el;omega
 ·have:=C0K hd;unfold sml;omega
theorem C94 {H:Type} {l:List (DataW H)} (hk:Rows.uptoSmall H l=true) {d:DataW H} (hd:d∈l):sml d:=by
 have h1:Rows.uptoBulkAll l<=1048576:=of_decide_eq_true hk;have:=C0K hd;unfold sml;omega
def Op {α:Type} (t:TypeId) (E:α->List AV) (W:α->Prop):Prop:= ∀ {H:Type} {enc:TypeId×Value->H} {w:World} {base:Nat} {spare:Nat->Bool} {held:Bool} {fuel:Nat} {cs:List Value} {x:DataW H×List MemPlace},DataW.trod enc Tryz.prog w base spare held fuel t cs=some x->sml x.1-> ∃y:α,F2 (LR w) (E y) cs/\W y
theorem fO {α:Type} {t:TypeId} {E:α->List AV} {W:α->Prop} (hop:Op t E W) {H:Type} {enc:TypeId×Value->H} {w:World} {base:Nat} {spare:Nat->Bool} {held:Bool} {fs:Array Field} {n:Nat} {cs:List Value} {xs:List (DataW H×List MemPlace)} {x:DataW H×List MemPlace} {q:List MemPlace} (hb:sml x.1) (hx:x=(.agg (xs.map (·.1)),q)) (hlen:xs.length=fs.size)
  (hf:∀(i:Nat) (f:Field),fs[i]? =some f->DataW.trod enc Tryz.prog w base spare held n f.type ((cs.drop f.offset).take (Tryz.prog.cellsOf f.type))=xs[i]?) (i:Nat) (f:Field) (hi:fs[i]? =some f) (o k:Nat) (ht:f.type=t) (ho:f.offset=o) (hk:Tryz.prog.cellsOf t=k): ∃y,F2 (LR w) (E y) ((cs.drop o).take k)/\W y:=
 let ⟨_,g,b⟩:=D10 (B:=sml) D2w hb hx hlen hf i f hi o k ht ho hk;hop g b
theorem V6:Op 3 (eI .i64) (E3 .i64):=fun h _=>C4h Tryz.underlying3 h
theorem K8:Op 2 (eI .i64) (E3 .i64):=fun h _=>C4h Tryz.underlying2 h
theorem D3g:Op 23 N0 B4m:=by
 intro H _ w _ _ _ _ cs _ h hb;obtain ⟨xs,n,_,hx,hl,hlen,hf⟩:=DataW.trod_struct Tryz.underlying23 h;rw [C6t] at hl;obtain ⟨y0,r0,w0⟩:=fO V6 hb hx hlen hf 0 _ rfl 0 1 rfl rfl R7;obtain ⟨y1,r1,w1⟩:=fO V6 hb hx hlen hf 1 _ rfl 1 1 rfl rfl R7;obtain ⟨y2,r2,w2⟩:=fO K8 hb hx hlen hf 2 _ rfl 2 1 rfl rfl I2;obtain ⟨y3,r3,w3⟩:=fO V6 hb hx hlen hf 3 _ rfl 3 1 rfl rfl R7;obtain ⟨y4,r4,w4⟩:=fO V6 hb hx hlen hf 4 _ rfl 4 1 rfl rfl R7;obtain ⟨y5,r5,w5⟩:=fO V6 hb hx hlen hf 5 _ rfl 5 1 rfl rfl R7;obtain ⟨y6,r6,w6⟩:=fO V6 hb hx hlen hf 6 _ rfl 6 1 rfl rfl R7;obtain ⟨y7,r7,w7⟩:=fO K8 hb hx hlen hf 7 _ rfl 7 1 rfl rfl I2;exact ⟨E5.mk y0 y1 y2 y3 y4 y5 y6 y7,(D4 r0 (D4 r1 (D4 r2 (D4 r3 (D4 r4 (D4 r5 (D4 r6 (D4 r7 (U5 (by omega))))))))):F2 (LR w) _ (cs.drop 0)),w0,w1,w2,w3,w4,w5,w6,w7⟩
theorem D3y:Op 71 A8 A44:=by
 intro H _ w _ _ _ _ cs _ h hb;obtain ⟨xs,n,_,hx,hl,hlen,hf⟩:=DataW.trod_struct Tryz.underlying71 h;rw [C6I] at hl;obtain ⟨y0,r0,w0⟩:=fO K8 hb hx hlen hf 0 _ rfl 0 1 rfl rfl I2;obtain ⟨y1,r1,w1⟩:=fO K8 hb hx hlen hf 1 _ rfl 1 1 rfl rfl I2;exact ⟨B3.mk y0 y1,(D4 r0 (D4 r1 (U5 (by omega))):F2 (LR w) _ (cs.drop 0)),w0,w1⟩
theorem C9Q:Op 24 (eL 2 A8) (A0J A44):=fun h hb=>A4h (B:=sml) A1o A8 A44 2 Tryz.underlying24 C6I (by decide) (fun _=>rfl) (fun _ _ _ h hb=>D3y h hb) h hb
theorem D3h:Op 26 L8 A8O:=by
 intro H _ w _ _ _ _ cs _ h hb;obtain ⟨xs,n,_,hx,hl,hlen,hf⟩:=DataW.trod_struct Tryz.underlying26 h;rw [C6v] at hl;obtain ⟨y0,r0,w0⟩:=fO K8 hb hx hlen hf 0 _ rfl 0 1 rfl rfl I2;obtain ⟨y1,r1,w1⟩:=fO V6 hb hx hlen hf 1 _ rfl 1 1 rfl rfl R7;obtain ⟨y2,r2,w2⟩:=fO K8 hb hx hlen hf 2 _ rfl 2 1 rfl rfl I2;obtain ⟨y3,r3,w3⟩:=fO C9Q hb hx hlen hf 3 _ rfl 3 1 rfl rfl C6u;exact ⟨C9.mk y0 y1 y2 y3,(D4 r0 (D4 r1 (D4 r2 (D4 r3 (U5 (by omega))))):F2 (LR w) _ (cs.drop 0)),w0,w1,w2,w3⟩
theorem D2m:Op 275 C6 A3x:=by
 intro H _ w _ _ _ _ cs _ h hb;obtain ⟨xs,n,_,hx,hl,hlen,hf⟩:=DataW.trod_struct Tryz.underlying275 h;rw [C3t] at hl;obtain ⟨y0,r0,w0⟩:=fO K8 hb hx hlen hf 0 _ rfl 0 1 rfl rfl I2;obtain ⟨y1,r1,w1⟩:=fO V6 hb hx hlen hf 1 _ rfl 1 1 rfl rfl R7;exact ⟨B7.mk y0 y1,(D4 r0 (D4 r1 (U5 (by omega))):F2 (LR w) _ (cs.drop 0)),w0,w1⟩
theorem C9R:Op 27 (eL 2 C6) (A0J A3x):=fun h hb=>A4h (B:=sml) A1o C6 A3x 2 Tryz.underlying27 C3t (by decide) (fun _=>rfl) (fun _ _ _ h hb=>D2m h hb) h hb
theorem D3i:Op 29 M9 A90:=by
 intro H _ w _ _ _ _ cs _ h hb;obtain ⟨xs,n,_,hx,hl,hlen,hf⟩:=DataW.trod_struct Tryz.underlying29 h;rw [C6x] at hl;obtain ⟨y0,r0,w0⟩:=fO K8 hb hx hlen hf 0 _ rfl 0 1 rfl rfl I2;obtain ⟨y1,r1,w1⟩:=fO V6 hb hx hlen hf 1 _ rfl 1 1 rfl rfl R7;obtain ⟨y2,r2,w2⟩:=fO V6 hb hx hlen hf 2 _ rfl 2 1 rfl rfl R7;obtain ⟨y3,r3,w3⟩:=fO K8 hb hx hlen hf 3 _ rfl 3 1 rfl rfl I2;obtain ⟨y4,r4,w4⟩:=fO C9R hb hx hlen hf 4 _ rfl 4 1 rfl rfl C6w;exact ⟨D6.mk y0 y1 y2 y3 y4,(D4 r0 (D4 r1 (D4 r2 (D4 r3 (D4 r4 (U5 (by omega)))))):F2 (LR w) _ (cs.drop 0)),w0,w1,w2,w3,w4⟩
theorem D3j:Op 31 O2 B3u:=by
 intro H _ w _ _ _ _ cs _ h hb;obtain ⟨xs,n,_,hx,hl,hlen,hf⟩:=DataW.trod_struct Tryz.underlying31 h;rw [C6y] at hl;obtain ⟨y0,r0,w0⟩:=fO K8 hb hx hlen hf 0 _ rfl 0 1 rfl rfl I2;obtain ⟨y1,r1,w1⟩:=fO V6 hb hx hlen hf 1 _ rfl 1 1 rfl rfl R7;obtain ⟨y2,r2,w2⟩:=fO V6 hb hx hlen hf 2 _ rfl 2 1 rfl rfl R7;obtain ⟨y3,r3,w3⟩:=fO V6 hb hx hlen hf 3 _ rfl 3 1 rfl rfl R7;obtain ⟨y4,r4,w4⟩:=fO K8 hb hx hlen hf 4 _ rfl 4 1 rfl rfl I2;obtain ⟨y5,r5,w5⟩:=fO C9R hb hx hlen hf 5 _ rfl 5 1 rfl rfl C6w;exact ⟨E2.mk y0 y1 y2 y3 y4 y5,(D4 r0 (D4 r1 (D4 r2 (D4 r3 (D4 r4 (D4 r5 (U5 (by omega))))))):F2 (LR w) _ (cs.drop 0)),w0,w1,w2,w3,w4,w5⟩
theorem D2j:Op 185 A9 A45:=by
 intro H _ w _ _ _ _ cs _ h hb;obtain ⟨xs,n,_,hx,hl,hlen,hf⟩:=DataW.trod_struct Tryz.underlying185 h;rw [C3q] at hl;obtain ⟨y0,r0,w0⟩:=fO K8 hb hx hlen hf 0 _ rfl 0 1 rfl rfl I2;obtain ⟨y1,r1,w1⟩:=fO K8 hb hx hlen hf 1 _ rfl 1 1 rfl rfl I2;obtain ⟨y2,r2,w2⟩:=fO K8 hb hx hlen hf 2 _ rfl 2 1 rfl rfl I2;obtain ⟨y3,r3,w3⟩:=fO K8 hb hx hlen hf 3 _ rfl 3 1 rfl rfl I2;obtain ⟨y4,r4,w4⟩:=fO K8 hb hx hlen hf 4 _ rfl 4 1 rfl rfl I2;obtain ⟨y5,r5,w5⟩:=fO K8 hb hx hlen hf 5 _ rfl 5 1 rfl rfl I2;obtain ⟨y6,r6,w6⟩:=fO K8 hb hx hlen hf 6 _ rfl 6 1 rfl rfl I2;exact ⟨D7.mk y0 y1 y2 y3 y4 y5 y6,(D4 r0 (D4 r1 (D4 r2 (D4 r3 (D4 r4 (D4 r5 (D4 r6 (U5 (by omega)))))))):F2 (LR w) _ (cs.drop 0)),w0,w1,w2,w3,w4,w5,w6⟩
theorem C9S:Op 32 (eL 7 A9) (A0J A45):=fun h hb=>A4h (B:=sml) A1o A9 A45 7 Tryz.underlying32 C3q (by decide) (fun _=>rfl) (fun _ _ _ h hb=>D2j h hb) h hb
theorem D3k:Op 34 I0 A8Q:=by
 intro H _ w _ _ _ _ cs _ h hb;obtain ⟨xs,n,_,hx,hl,hlen,hf⟩:=DataW.trod_struct Tryz.underlying34 h;rw [C6A] at hl;obtain ⟨y0,r0,w0⟩:=fO V6 hb hx hlen hf 0 _ rfl 0 1 rfl rfl R7;obtain ⟨y1,r1,w1⟩:=fO K8 hb hx hlen hf 1 _ rfl 1 1 rfl rfl I2;obtain ⟨y2,r2,w2⟩:=fO V6 hb hx hlen hf 2 _ rfl 2 1 rfl rfl R7;obtain ⟨y3,r3,w3⟩:=fO V6 hb hx hlen hf 3 _ rfl 3 1 rfl rfl R7;obtain ⟨y4,r4,w4⟩:=fO K8 hb hx hlen hf 4 _ rfl 4 1 rfl rfl I2;obtain ⟨y5,r5,w5⟩:=fO K8 hb hx hlen hf 5 _ rfl 5 1 rfl rfl I2;obtain ⟨y6,r6,w6⟩:=fO C9S hb hx hlen hf 6 _ rfl 6 1 rfl rfl C6z;exact ⟨D2.mk y0 y1 y2 y3 y4 y5 y6,(D4 r0 (D4 r1 (D4 r2 (D4 r3 (D4 r4 (D4 r5 (D4 r6 (U5 (by omega)))))))):F2 (LR w) _ (cs.drop 0)),w0,w1,w2,w3,w4,w5,w6⟩
theorem D3l:Op 36 J2 A8R:=by
 intro H _ w _ _ _ _ cs _ h hb;obtain ⟨xs,n,_,hx,hl,hlen,hf⟩:=DataW.trod_struct Tryz.underlying36 h;rw [C6B] at hl;obtain ⟨y0,r0,w0⟩:=fO K8 hb hx hlen hf 0 _ rfl 0 1 rfl rfl I2;obtain ⟨y1,r1,w1⟩:=fO V6 hb hx hlen hf 1 _ rfl 1 1 rfl rfl R7;obtain ⟨y2,r2,w2⟩:=fO V6 hb hx hlen hf 2 _ rfl 2 1 rfl rfl R7;obtain ⟨y3,r3,w3⟩:=fO K8 hb hx hlen hf 3 _ rfl 3 1 rfl rfl I2;obtain ⟨y4,r4,w4⟩:=fO K8 hb hx hlen hf 4 _ rfl 4 1 rfl rfl I2;obtain ⟨y5,r5,w5⟩:=fO C9S hb hx hlen hf 5 _ rfl 5 1 rfl rfl C6z;exact ⟨D3.mk y0 y1 y2 y3 y4 y5,(D4 r0 (D4 r1 (D4 r2 (D4 r3 (D4 r4 (D4 r5 (U5 (by omega))))))):F2 (LR w) _ (cs.drop 0)),w0,w1,w2,w3,w4,w5⟩
theorem C9T:Op 84 (eI .u64) (E3 .u64):=fun h _=>C4h Tryz.underlying84 h
theorem D3A:Op 86 F6 A1P:=by
 intro H _ w _ _ _ _ cs _ h hb;obtain ⟨xs,n,_,hx,hl,hlen,hf⟩:=DataW.trod_struct Tryz.underlying86 h;rw [C6K] at hl;obtain ⟨y0,r0,w0⟩:=fO C9T hb hx hlen hf 0 _ rfl 0 1 rfl rfl C6J;obtain ⟨y1,r1,w1⟩:=fO C9T hb hx hlen hf 1 _ rfl 1 1 rfl rfl C6J;exact ⟨A1.mk y0 y1,(D4 r0 (D4 r1 (U5 (by omega))):F2 (LR w) _ (cs.drop 0)),w0,w1⟩
theorem D3m:Op 37 (eL 2 F6) (A0J A1P):=fun h hb=>A4h (B:=sml) A1o F6 A1P 2 Tryz.underlying37 C6K (by decide) (fun _=>rfl) (fun _ _ _ h hb=>D3A h hb) h hb
theorem D3n:Op 39 M6 B12:=by
 intro H _ w _ _ _ _ cs _ h hb;obtain ⟨xs,n,_,hx,hl,hlen,hf⟩:=DataW.trod_struct Tryz.underlying39 h;rw [C6C] at hl;obtain ⟨y0,r0,w0⟩:=fO V6 hb hx hlen hf 0 _ rfl 0 1 rfl rfl R7;obtain ⟨y1,r1,w1⟩:=fO K8 hb hx hlen hf 1 _ rfl 1 1 rfl rfl I2;obtain ⟨y2,r2,w2⟩:=fO K8 hb hx hlen hf 2 _ rfl 2 1 rfl rfl I2;obtain ⟨y3,r3,w3⟩:=fO D3m hb hx hlen hf 3 _ rfl 3 1 rfl rfl D1M;exact ⟨D8.mk y0 y1 y2 y3,(D4 r0 (D4 r1 (D4 r2 (D4 r3 (U5 (by omega))))):F2 (LR w) _ (cs.drop 0)),w0,w1,w2,w3⟩
theorem D3o:Op 40 (eL 1 (eI .i64)) (A0J (E3 .i64)):=fun h hb=>A4h (B:=sml) A1o (eI .i64) (E3 .i64) 1 Tryz.underlying40 I2 (by decide) (fun _=>rfl) (fun _ _ _ h hb=>K8 h hb) h hb
theorem D3p:Op 42 A30 A91:=by
 intro H _ w _ _ _ _ cs _ h hb;obtain ⟨xs,n,_,hx,hl,hlen,hf⟩:=DataW.trod_struct Tryz.underlying42 h;rw [C6D] at hl;obtain ⟨y0,r0,w0⟩:=fO K8 hb hx hlen hf 0 _ rfl 0 1 rfl rfl I2;obtain ⟨y1,r1,w1⟩:=fO D3o hb hx hlen hf 1 _ rfl 1 1 rfl rfl D1N;exact ⟨G2.mk y0 y1,(D4 r0 (D4 r1 (U5 (by omega))):F2 (LR w) _ (cs.drop 0)),w0,w1⟩
theorem D38:Op 4 eB (fun _=>True):=fun h _=>D3E Tryz.underlying4 h
theorem D3q:Op 44 I7 A8a:=by
 intro H _ w _ _ _ _ cs _ h hb;obtain ⟨xs,n,_,hx,hl,hlen,hf⟩:=DataW.trod_struct Tryz.underlying44 h;rw [C6E] at hl;obtain ⟨y0,r0,w0⟩:=fO D38 hb hx hlen hf 0 _ rfl 0 1 rfl rfl D2S;obtain ⟨y1,r1,w1⟩:=fO K8 hb hx hlen hf 1 _ rfl 1 1 rfl rfl I2;obtain ⟨y2,r2,w2⟩:=fO V6 hb hx hlen hf 2 _ rfl 2 1 rfl rfl R7;obtain ⟨y3,r3,w3⟩:=fO K8 hb hx hlen hf 3 _ rfl 3 1 rfl rfl I2;obtain ⟨y4,r4,w4⟩:=fO C9Q hb hx hlen hf 4 _ rfl 4 1 rfl rfl C6u;exact ⟨C8.mk y0 y1 y2 y3 y4,(D4 r0 (D4 r1 (D4 r2 (D4 r3 (D4 r4 (U5 (by omega)))))):F2 (LR w) _ (cs.drop 0)),w0,w1,w2,w3,w4⟩
theorem D2n:Op 304 F4 A8b:=by
 intro H _ w _ _ _ _ cs _ h hb;obtain ⟨xs,n,_,hx,hl,hlen,hf⟩:=DataW.trod_struct Tryz.underlying304 h;rw [C3u] at hl;obtain ⟨y0,r0,w0⟩:=fO K8 hb hx hlen hf 0 _ rfl 0 1 rfl rfl I2;obtain ⟨y1,r1,w1⟩:=fO K8 hb hx hlen hf 1 _ rfl 1 1 rfl rfl I2;exact ⟨A8p.mk y0 y1,(D4 r0 (D4 r1 (U5 (by omega))):F2 (LR w) _ (cs.drop 0)),w0,w1⟩
theorem D3B:Op 95 (eL 2 F4) (A0J A8b):=fun h hb=>A4h (B:=sml) A1o F4 A8b 2 Tryz.underlying95 C3u (by decide) (fun _=>rfl) (fun _ _ _ h hb=>D2n h hb) h hb
theorem D3C:Op 97 C3 A6P:=by
 intro H _ w _ _ _ _ cs _ h hb;obtain ⟨xs,n,_,hx,hl,hlen,hf⟩:=DataW.trod_struct Tryz.underlying97 h;rw [C6L] at hl;obtain ⟨y0,r0,w0⟩:=fO K8 hb hx hlen hf 0 _ rfl 0 1 rfl rfl I2;obtain ⟨y1,r1,w1⟩:=fO V6 hb hx hlen hf 1 _ rfl 1 1 rfl rfl R7;obtain ⟨y2,r2,w2⟩:=fO K8 hb hx hlen hf 2 _ rfl 2 1 rfl rfl I2;obtain ⟨y3,r3,w3⟩:=fO K8 hb hx hlen hf 3 _ rfl 3 1 rfl rfl I2;obtain ⟨y4,r4,w4⟩:=fO D3B hb hx hlen hf 4 _ rfl 4 1 rfl rfl D1T;exact ⟨D0.mk y0 y1 y2 y3 y4,(D4 r0 (D4 r1 (D4 r2 (D4 r3 (D4 r4 (U5 (by omega)))))):F2 (LR w) _ (cs.drop 0)),w0,w1,w2,w3,w4⟩
theorem D3r:Op 45 (eL 5 C3) (A0J A6P):=fun h hb=>A4h (B:=sml) A1o C3 A6P 5 Tryz.underlying45 C6L (by decide) (fun _=>rfl) (fun _ _ _ h hb=>D3C h hb) h hb
theorem D3s:Op 47 A24 A8P:=by
 intro H _ w _ _ _ _ cs _ h hb;obtain ⟨xs,n,_,hx,hl,hlen,hf⟩:=DataW.trod_struct Tryz.underlying47 h;rw [C6F] at hl;obtain ⟨y0,r0,w0⟩:=fO D3r hb hx hlen hf 0 _ rfl 0 1 rfl rfl D1O;exact ⟨E4.mk y0,(D4 r0 (U5 (by omega)):F2 (LR w) _ (cs.drop 0)),w0⟩
theorem D2k:Op 205 E7 A6R:=by
 intro H _ w _ _ _ _ cs _ h hb;obtain ⟨xs,n,_,hx,hl,hlen,hf⟩:=DataW.trod_struct Tryz.underlying205 h;rw [C3r] at hl;obtain ⟨y0,r0,w0⟩:=fO K8 hb hx hlen hf 0 _ rfl 0 1 rfl rfl I2;obtain ⟨y1,r1,w1⟩:=fO K8 hb hx hlen hf 1 _ rfl 1 1 rfl rfl I2;obtain ⟨y2,r2,w2⟩:=fO K8 hb hx hlen hf 2 _ rfl 2 1 rfl rfl I2;exact ⟨M3.mk y0 y1 y2,(D4 r0 (D4 r1 (D4 r2 (U5 (by omega)))):F2 (LR w) _ (cs.drop 0)),w0,w1,w2⟩
theorem D3t:Op 48 (eL 3 E7) (A0J A6R):=fun h hb=>A4h (B:=sml) A1o E7 A6R 3 Tryz.underlying48 C3r (by decide) (fun _=>rfl) (fun _ _ _ h hb=>D2k h hb) h hb
theorem D3u:Op 50 F7 A8c:=by
 intro H _ w _ _ _ _ cs _ h hb;obtain ⟨xs,n,_,hx,hl,hlen,hf⟩:=DataW.trod_struct Tryz.underlying50 h;rw [C6G] at hl;obtain ⟨y0,r0,w0⟩:=fO V6 hb hx hlen hf 0 _ rfl 0 1 rfl rfl R7;obtain ⟨y1,r1,w1⟩:=fO V6 hb hx hlen hf 1 _ rfl 1 1 rfl rfl R7;obtain ⟨y2,r2,w2⟩:=fO K8 hb hx hlen hf 2 _ rfl 2 1 rfl rfl I2;obtain ⟨y3,r3,w3⟩:=fO D3t hb hx hlen hf 3 _ rfl 3 1 rfl rfl D1P;exact ⟨B5.mk y0 y1 y2 y3,(D4 r0 (D4 r1 (D4 r2 (D4 r3 (U5 (by omega))))):F2 (LR w) _ (cs.drop 0)),w0,w1,w2,w3⟩
theorem D2l:Op 259 A3 A6Q:=by
 intro H _ w _ _ _ _ cs _ h hb;obtain ⟨xs,n,_,hx,hl,hlen,hf⟩:=DataW.trod_struct Tryz.underlying259 h;rw [C3s] at hl;obtain ⟨y0,r0,w0⟩:=fO K8 hb hx hlen hf 0 _ rfl 0 1 rfl rfl I2;obtain ⟨y1,r1,w1⟩:=fO K8 hb hx hlen hf 1 _ rfl 1 1 rfl rfl I2;obtain ⟨y2,r2,w2⟩:=fO K8 hb hx hlen hf 2 _ rfl 2 1 rfl rfl I2;exact ⟨A6.mk y0 y1 y2,(D4 r0 (D4 r1 (D4 r2 (U5 (by omega)))):F2 (LR w) _ (cs.drop 0)),w0,w1,w2⟩
theorem D3D:Op 98 (eL 3 A3) (A0J A6Q):=fun h hb=>A4h (B:=sml) A1o A3 A6Q 3 Tryz.underlying98 C3s (by decide) (fun _=>rfl) (fun _ _ _ h hb=>D2l h hb) h hb
theorem D2h:Op 100 A31 B5J:=by
 intro H _ w _ _ _ _ cs _ h hb;obtain ⟨xs,n,_,hx,hl,hlen,hf⟩:=DataW.trod_struct Tryz.underlying100 h;rw [C3o] at hl;obtain ⟨y0,r0,w0⟩:=fO K8 hb hx hlen hf 0 _ rfl 0 1 rfl rfl I2;obtain ⟨y1,r1,w1⟩:=fO D3D hb hx hlen hf 1 _ rfl 1 1 rfl rfl D1U;exact ⟨B6.mk y0 y1,(D4 r0 (D4 r1 (U5 (by omega))):F2 (LR w) _ (cs.drop 0)),w0,w1⟩
theorem D2i:Op 102 B1 A6O:=by
 intro H _ w _ _ _ _ cs _ h hb;obtain ⟨xs,n,_,hx,hl,hlen,hf⟩:=DataW.trod_struct Tryz.underlying102 h;rw [C3p] at hl;obtain ⟨y0,r0,w0⟩:=fO K8 hb hx hlen hf 0 _ rfl 0 1 rfl rfl I2;obtain ⟨y1,r1,w1⟩:=fO K8 hb hx hlen hf 1 _ rfl 1 1 rfl rfl I2;obtain ⟨y2,r2,w2⟩:=fO V6 hb hx hlen hf 2 _ rfl 2 1 rfl rfl R7;obtain ⟨y3,r3,w3⟩:=fO D2h hb hx hlen hf 3 _ rfl 3 2 rfl rfl C3o;exact ⟨D5.mk y0 y1 y2 y3,(D4 r0 (D4 r1 (D4 r2 (D4 r3 (U5 (by omega))))):F2 (LR w) _ (cs.drop 0)),w0,w1,w2,w3⟩
theorem D3v:Op 51 (eL 5 B1) (A0J A6O):=fun h hb=>A4h (B:=sml) A1o B1 A6O 5 Tryz.underlying51 C3p (by decide) (fun _=>rfl) (fun _ _ _ h hb=>D2i h hb) h hb
theorem D3w:Op 53 H0 A7a:=by
 intro H _ w _ _ _ _ cs _ h hb;obtain ⟨xs,n,_,hx,hl,hlen,hf⟩:=DataW.trod_struct Tryz.underlying53 h;rw [C6H] at hl;obtain ⟨y0,r0,w0⟩:=fO K8 hb hx hlen hf 0 _ rfl 0 1 rfl rfl I2;obtain ⟨y1,r1,w1⟩:=fO V6 hb hx hlen hf 1 _ rfl 1 1 rfl rfl R7;obtain ⟨y2,r2,w2⟩:=fO V6 hb hx hlen hf 2 _ rfl 2 1 rfl rfl R7;obtain ⟨y3,r3,w3⟩:=fO K8 hb hx hlen hf 3 _ rfl 3 1 rfl rfl I2;obtain ⟨y4,r4,w4⟩:=fO D3v hb hx hlen hf 4 _ rfl 4 1 rfl rfl D1Q;exact ⟨C4.mk y0 y1 y2 y3 y4,(D4 r0 (D4 r1 (D4 r2 (D4 r3 (D4 r4 (U5 (by omega)))))):F2 (LR w) _ (cs.drop 0)),w0,w1,w2,w3,w4⟩
theorem D3x:Op 55 F0 Q9:=by
 intro H _ w _ _ _ _ cs _ h hb;obtain ⟨xs,n,_,hx,hl,hlen,hf⟩:=DataW.trod_struct Tryz.underlying55 h;rw [D1R] at hl;obtain ⟨y0,r0,w0⟩:=fO D3g hb hx hlen hf 0 _ rfl 0 8 rfl rfl C6t;obtain ⟨y1,r1,w1⟩:=fO D3h hb hx hlen hf 1 _ rfl 8 4 rfl rfl C6v;obtain ⟨y2,r2,w2⟩:=fO D3i hb hx hlen hf 2 _ rfl 12 5 rfl rfl C6x;obtain ⟨y3,r3,w3⟩:=fO D3j hb hx hlen hf 3 _ rfl 17 6 rfl rfl C6y;obtain ⟨y4,r4,w4⟩:=fO D3k hb hx hlen hf 4 _ rfl 23 7 rfl rfl C6A;obtain ⟨y5,r5,w5⟩:=fO D3l hb hx hlen hf 5 _ rfl 30 6 rfl rfl C6B;obtain ⟨y6,r6,w6⟩:=fO D3n hb hx hlen hf 6 _ rfl 36 4 rfl rfl C6C;obtain ⟨y7,r7,w7⟩:=fO D3p hb hx hlen hf 7 _ rfl 40 2 rfl rfl C6D;obtain ⟨y8,r8,w8⟩:=fO D3q hb hx hlen hf 8 _ rfl 42 5 rfl rfl C6E;obtain ⟨y9,r9,w9⟩:=fO D3s hb hx hlen hf 9 _ rfl 47 1 rfl rfl C6F;obtain ⟨y10,r10,w10⟩:=fO D3u hb hx hlen hf 10 _ rfl 48 4 rfl rfl C6G;obtain ⟨y11,r11,w11⟩:=fO D3w hb hx hlen hf 11 _ rfl 52 5 rfl rfl C6H;exact ⟨C7.mk y0 y1 y2 y3 y4 y5 y6 y7 y8 y9 y10 y11,(D4 r0 (D4 r1 (D4 r2 (D4 r3 (D4 r4 (D4 r5 (D4 r6 (D4 r7 (D4 r8 (D4 r9 (D4 r10 (D4 r11 (U5 (by omega))))))))))))):F2 (LR w) _ (cs.drop 0)),w0,w1,w2,w3,w4,w5,w6,w7,w8,w9,w10,w11⟩
theorem D3z:Op 79 B5t A92:=by
 intro H _ w _ _ _ _ cs _ h hb;obtain ⟨xs,n,_,hx,hl,hlen,hf⟩:=DataW.trod_struct Tryz.underlying79 h;rw [D1S] at hl;obtain ⟨y0,r0,w0⟩:=fO V6 hb hx hlen hf 0 _ rfl 0 1 rfl rfl R7;obtain ⟨y1,r1,w1⟩:=fO K8 hb hx hlen hf 1 _ rfl 1 1 rfl rfl I2;obtain ⟨y2,r2,w2⟩:=fO K8 hb hx hlen hf 2 _ rfl 2 1 rfl rfl I2;exact ⟨Q2.mk y0 y1 y2,(D4 r0 (D4 r1 (D4 r2 (U5 (by omega)))):F2 (LR w) _ (cs.drop 0)),w0,w1,w2⟩
theorem D4t (w:World) (p0:C7) (c0:Array Value) (r0:F2 (LR w) (F0 p0) c0.toList) (w0:Q9 p0) (p1:Q2) (c1:Array Value) (r1:F2 (LR w) (B5t p1) c1.toList) (w1:A92 p1):Calls Tryz.prog 5 #[.agg c0, .agg c1] w fun e w' =>e= .returned (.bool true)/\Below w.heap.size w w' :=
 (B5L p0 p1 true (B3h p0 p1 w0 w1)).law2 Tryz.call5 w _ rfl (fun i c hi=>by
  match i,hi with
  |0,hi=>cases hi;exact ⟨_,rfl,B91 r0⟩
  |1,hi=>cases hi;exact ⟨_,rfl,B91 r1⟩)
set_option maxRecDepth 100000 in
theorem D25 (os:Os) (started:os.Started) (H:Type) (enc:TypeId×Value->H) (F:Stop.Interp):
  ReturnsInHanded {} Tryz.checked os 5 .any ((Rows.OpenSpec.upto Rows.synopsisAskSpec).pre6 enc Tryz.prog Tryz.f5 Rows.synopsisAskUptoRow.domain false) (((Rows.OpenSpec.upto Rows.synopsisAskSpec).at F).post enc Tryz.prog Tryz.f5 false true false false):=by
 refine returnsInHanded_of_cond (C:=Tryz.checked) (s:=Rows.OpenSpec.upto Rows.synopsisAskSpec) (k:=Rows.uptoSmall) rfl own started (by kernel_rfl) Tryz.func5
  (OpenSpec.witness (enc:=enc) (C:=Tryz.checked) (s:=Rows.OpenSpec.upto Rows.synopsisAskSpec) (k:=Rows.uptoSmall) rfl false ⟨#[], #[.agg #[.int .i64 0, .int .i64 0, .int .i64 0, .int .i64 0, .int .i64 0, .int .i64 0, .int .i64 0, .int .i64 0, .int .i64 0, .int .i64 0, .int .i64 0, .slice none 0 0, .int .i64 0, .int .i64 0, .int .i64 0, .int .i64 0, .slice none 0 0, .int .i64 0, .int .i64 0, .int .i64 0, .int .i64 0, .int .i64 0, .slice none 0 0, .int .i64 0, .int .i64 0, .int .i64 0, .int .i64 0, .int .i64 0, .int .i64 0, .slice none 0 0, .int .i64 0, .int .i64 0, .int .i64 0, .int .i64 0, .int .i64 0, .slice none 0 0, .int .i64 0, .int .i64 0, .int .i64 0, .slice none 0 0, .int .i64 0, .slice none 0 0, .bool false, .int .i64 0, .int .i64 0, .int .i64 0, .slice none 0 0, .slice none 0 0, .int .i64 0, .int .i64 0, .int .i64 0, .slice none 0 0, .int .i64 0, .int .i64 0, .int .i64 0, .int .i64 0, .slice none 0 0], .agg #[.int .i64 0, .int .i64 0, .int .i64 0]], []⟩ 8 (by kernel_rfl) (by kernel_rfl) (by kernel_rfl)
   (x:=([.agg [.agg [.lit (.int .i64 0), .lit (.int .i64 0), .lit (.int .i64 0), .lit (.int .i64 0), .lit (.int .i64 0), .lit (.int .i64 0), .lit (.int .i64 0), .lit (.int .i64 0)], .agg [.lit (.int .i64 0), .lit (.int .i64 0), .lit (.int .i64 0), .nil], .agg [.lit (.int .i64 0), .lit (.int .i64 0), .lit (.int .i64 0), .lit (.int .i64 0), .nil], .agg [.lit (.int .i64 0), .lit (.int .i64 0), .lit (.int .i64 0), .lit (.int .i64 0), .lit (.int .i64 0), .nil], .agg [.lit (.int .i64 0), .lit (.int .i64 0), .lit (.int .i64 0), .lit (.int .i64 0), .lit (.int .i64 0), .lit (.int .i64 0), .nil], .agg [.lit (.int .i64 0), .lit (.int .i64 0), .lit (.int .i64 0), .lit (.int .i64 0), .lit (.int .i64 0), .nil], .agg [.lit (.int .i64 0), .lit (.int .i64 0), .lit (.int .i64 0), .nil], .agg [.lit (.int .i64 0), .nil], .agg [.lit (.bool false), .lit (.int .i64 0), .lit (.int .i64 0), .lit (.int .i64 0), .nil], .agg [.nil], .agg [.lit (.int .i64 0), .lit (.int .i64 0), .lit (.int .i64 0), .nil], .agg [.lit (.int .i64 0), .lit (.int .i64 0), .lit (.int .i64 0), .lit (.int .i64 0), .nil]], .agg [.lit (.int .i64 0), .lit (.int .i64 0), .lit (.int .i64 0)]], [], [])) (by kernel_rfl) rfl (by kernel_rfl)) ?_
 intro W base args ds gs before hval0 hW hcnd hk _;have hval: ∀(j:Nat) t v,Tryz.f5.params[j]? =some t->args[j]? =some v->Value.okWide Tryz.prog W .any base t v:=hval0;have hW' :=hW;obtain ⟨p,q,hA0,hV,rfl,hfz,hnd⟩:=hW;have hA:DataW.TrodAll enc Tryz.prog W 0 (fun _=>true) true Tryz.f5.params.toList args.toList ds p:=hA0;rw [Tryz.params5] at hA hval;obtain ⟨v0,vs0,d0,ds0,pl0,q0,hargs,rfl,rfl,h0,r0⟩:=trodAll_cons hA;obtain ⟨v1,vs1,d1,ds1,pl1,q1,rfl,rfl,rfl,h1,r1⟩:=trodAll_cons r0;obtain ⟨rfl,rfl,rfl⟩:=trodAll_nil r1;obtain rfl:args= #[v0,v1]:=by cases args;simp_all
 obtain ⟨rfl,rfl⟩:=trodVars_none hV;obtain ⟨cs0,rfl,_⟩:=okWide_struct Tryz.underlying55 (hval 0 55 v0 rfl rfl);have hk0:=h0;obtain ⟨fuel0,hf0⟩:=h0;obtain ⟨a0,ra0,wa0⟩:=D3x hf0 (C94 hk (by simp))
 obtain ⟨cs1,rfl,_⟩:=okWide_struct Tryz.underlying79 (hval 1 79 v1 rfl rfl);have hk1:=h1;obtain ⟨fuel1,hf1⟩:=h1;obtain ⟨a1,ra1,wa1⟩:=D3z hf1 (C94 hk (by simp))
 clear hA0 hval0
 simp only [List.append_nil,List.nil_append] at hW';have hlt0: ∀x∈pl0,x.block<W.heap.size:=fun x hx=>hW'.lt x (by simp [hx])
 have hlt1: ∀x∈pl1,x.block<W.heap.size:=fun x hx=>hW'.lt x (by simp [hx])
 refine (D4t W a0 _ ra0 wa0 a1 _ ra1 wa1).mono fun e W' ⟨he,hb⟩=> ?_;subst he;exact ⟨_,rfl,C2b (pa:=pl0++pl1) (pv:= []) hW' (fun _ _ _=>(trodAll_cons_mk (shut_bool Tryz.underlying4 _) trodAll_mk0))
  (fun sp hsp=>by
   have:DataW.TrodAll enc Tryz.prog W' 0 sp true [55,79] [Value.agg cs0,Value.agg cs1] [d0,d1] _:=(trodAll_cons_mk (C04 C6T (by kernel_rfl) (of_decide_eq_true (by kernel_rfl)) hk0 hb hlt0 (fun x hx=>hsp x (by simp [hx]))) (trodAll_cons_mk (C04 C6T (by kernel_rfl) (of_decide_eq_true (by kernel_rfl)) hk1 hb hlt1 (fun x hx=>hsp x (by simp [hx]))) trodAll_mk0))
   have h2:DataW.TrodAll enc Tryz.prog W' 0 sp true [55,79] [Value.agg cs0,Value.agg cs1] [d0,d1] (pl0++pl1):=by simpa using this
   exact h2) (fun _ _=>rfl) (by simp) hb
  (ok_one (by kernel_rfl) rfl (okWide_bool_mk Tryz.underlying4 _))⟩
theorem D35:Tryz.pinned.checked.prog.funcNamed Rows.synopsisAskUptoRow.func=some 5:=by kernel_rfl
theorem D4l:Tryz.f5.isInstance Tryz.pinned.checked.prog Rows.synopsisAskUptoRow.origin Rows.synopsisAskUptoRow.targs:=of_decide_eq_true (by kernel_rfl)
theorem wrap:Tryz.f5.isWrapper Tryz.pinned.checked.prog Rows.synopsisAskUptoRow.wrapper Rows.synopsisAskUptoRow.mainSum:=by unfold Func.isWrapper;first|(rw [if_pos (by decide+kernel)];kernel_rfl)|(rw [if_neg (by decide+kernel)];exact ⟨rfl,rfl⟩)
theorem D4o:Rows.synopsisAskUptoRow.holds Tryz.pinned (Rows.OpenSpec.upto Rows.synopsisAskSpec):=
 OpenClaim.holds_of_cond 5 Tryz.f5 rfl rfl rfl rfl rfl rfl rfl ⟨rfl,rfl,rfl,rfl,rfl⟩ rfl rfl rfl rfl rfl D35 Tryz.func5 D24 D4l wrap
  (fun os started H enc _ F=>D25 os started H enc F)
theorem proved:Rows.SynopsisAskUptoSaid:=
 D4o
#print axioms proved
end Go.Proofs.YtoljnakoodalpaaGreat.synopsisAsk
