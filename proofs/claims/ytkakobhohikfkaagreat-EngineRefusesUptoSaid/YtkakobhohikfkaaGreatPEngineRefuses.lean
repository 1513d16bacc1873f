/- The law EngineRefuses of package windowpanelaw29 answers true at every input, and leaves its arguments as they were. Conditions: what it reads is of bulk at most 1048576. -/
import Derived.Test.YtkakobhohikfkaaGreatRows
import Derived.Test.YtkakobhohikfkaaGreatFEngineRefuses
import Derived.Test.YtkakobhohikfkaaGreatCon
import Derived.Test.YtkakobhohikfkaaGreatVc
import Derived.Test.YtkakobhohikfkaaGreatQb
import Derived.ProofKit
import Derived.OpenShut
import Derived.JoinedCond
set_option linter.unusedVariables false
set_option linter.unusedSimpArgs false
namespace Go.Proofs.YtkakobhohikfkaaGreat.engineRefuses
open Go.Vc Go.Dec Go.Win Go.ChangeShapes Go.WideShapes Go.ChangeAt Go.RowKit
theorem own:ownKnob Tryz.prog.godebug=none:=by kernel_rfl
theorem C7c:laidOutB Tryz.prog=true:=by kernel_rfl
theorem I0:Tryz.prog.cellsOf 2=1:=by kernel_rfl
theorem Q5:Tryz.prog.cellsOf 3=1:=by kernel_rfl
theorem C0X:Tryz.prog.cellsOf 24=8:=by kernel_rfl
theorem C3G:Tryz.prog.cellsOf 265=2:=by kernel_rfl
theorem C6M:Tryz.prog.cellsOf 58=1:=by kernel_rfl
theorem C6N:Tryz.prog.cellsOf 60=4:=by kernel_rfl
theorem C3K:Tryz.prog.cellsOf 353=2:=by kernel_rfl
theorem C6O:Tryz.prog.cellsOf 61=1:=by kernel_rfl
theorem C6P:Tryz.prog.cellsOf 63=5:=by kernel_rfl
theorem C6Q:Tryz.prog.cellsOf 65=6:=by kernel_rfl
theorem C3H:Tryz.prog.cellsOf 274=7:=by kernel_rfl
theorem C6R:Tryz.prog.cellsOf 66=1:=by kernel_rfl
theorem C6S:Tryz.prog.cellsOf 68=7:=by kernel_rfl
theorem C6T:Tryz.prog.cellsOf 70=6:=by kernel_rfl
theorem C6K:Tryz.prog.cellsOf 41=1:=by kernel_rfl
theorem C6L:Tryz.prog.cellsOf 43=2:=by kernel_rfl
theorem D3t:Tryz.prog.cellsOf 71=1:=by kernel_rfl
theorem C6U:Tryz.prog.cellsOf 73=4:=by kernel_rfl
theorem C6I:Tryz.prog.cellsOf 25=1:=by kernel_rfl
theorem C6V:Tryz.prog.cellsOf 75=2:=by kernel_rfl
theorem D40:Tryz.prog.cellsOf 4=1:=by kernel_rfl
theorem C6W:Tryz.prog.cellsOf 77=5:=by kernel_rfl
theorem C3L:Tryz.prog.cellsOf 389=2:=by kernel_rfl
theorem D1A:Tryz.prog.cellsOf 154=1:=by kernel_rfl
theorem C3F:Tryz.prog.cellsOf 156=5:=by kernel_rfl
theorem D3u:Tryz.prog.cellsOf 78=1:=by kernel_rfl
theorem C6X:Tryz.prog.cellsOf 80=1:=by kernel_rfl
theorem C3I:Tryz.prog.cellsOf 294=3:=by kernel_rfl
theorem D3v:Tryz.prog.cellsOf 81=1:=by kernel_rfl
theorem C6Y:Tryz.prog.cellsOf 83=4:=by kernel_rfl
theorem C3J:Tryz.prog.cellsOf 316=3:=by kernel_rfl
theorem D1z:Tryz.prog.cellsOf 149=1:=by kernel_rfl
theorem C3D:Tryz.prog.cellsOf 151=2:=by kernel_rfl
theorem C3E:Tryz.prog.cellsOf 153=5:=by kernel_rfl
theorem D3w:Tryz.prog.cellsOf 84=1:=by kernel_rfl
theorem C6Z:Tryz.prog.cellsOf 86=5:=by kernel_rfl
theorem C60:Tryz.prog.cellsOf 88=57:=by kernel_rfl
theorem C61:Tryz.prog.cellsOf 90=58:=by kernel_rfl
theorem D3r:Tryz.prog.cellsOf 32=1:=by kernel_rfl
theorem D3s:Tryz.prog.cellsOf 34=3:=by kernel_rfl
theorem C6J:Tryz.prog.cellsOf 27=3:=by kernel_rfl
theorem D41:Tryz.prog.cellsOf 5=1:=by kernel_rfl
theorem D3p:Tryz.prog.cellsOf 28=1:=by kernel_rfl
theorem D3q:Tryz.prog.cellsOf 30=17:=by kernel_rfl
theorem D5u {H:Type} (d:DataW H):1<=Rows.uptoBulk d:=by
 cases d with
 |lit l=>cases l<;>simp [Rows.uptoBulk]
 |nil=>simp [Rows.uptoBulk]
 |ptr d=>simp [Rows.uptoBulk]
 |slice B3C spare=>simp [Rows.uptoBulk]
 |agg parts=>simp [Rows.uptoBulk]
 |iface t d=>simp [Rows.uptoBulk]
 |map entries=>simp [Rows.uptoBulk]
 |held h=>simp [Rows.uptoBulk]
theorem C1c {H:Type} {d:DataW H} {l:List (DataW H)} (h:d∈l):Rows.uptoBulk d<=Rows.uptoBulkAll l:=by
 induction l with
 |nil=>cases h
 |cons x r ih=>
  simp only [Rows.uptoBulkAll];cases List.mem_cons.1 h with
  |inl e=>subst e;omega
  |inr e=>have:=ih e;omega
theorem C91 {H:Type} (l:List (DataW H)):l.length<=Rows.uptoBulkAll l:=by
 induction l with
 |nil=>simp [Rows.uptoBulkAll]
 |cons x r ih=>have:=D5u x;simp only [Rows.uptoBulkAll,D7z];omega
def sml {H:Type} (d:DataW H):Prop:=Rows.uptoBulk d<=1048576
theorem D4p {H:Type}: ∀ps:List (DataW H),sml (.agg ps)-> ∀d∈ps,sml d:=fun ps h d hd=>by
 have:=C1c hd;unfold sml at h⊢;simp only [Rows.uptoBulk] at h;omega
theorem A0x {H:Type}: ∀el sp:List (DataW H),sml (.slice el sp)->el.length<=1048576/\ ∀d∈el,sml d:=fun el sp h=>by
 unfold sml at h;simp only [Rows.uptoBulk] at h;refine ⟨?_,fun d hd=> ?_⟩
 ·have:=C91 el;omega
 ·have:=C1c hd;unfold sml;omega
theorem D0X {H:Type} {l:List (DataW H)} (hk:Rows.uptoSmall H l=true) {d:DataW H} (hd:d∈l):sml d:=by
 have h1:Rows.uptoBulkAll l<=1048576:=of_decide_eq_true hk;have:=C1c hd;unfold sml;omega
def Op {α:Type} (t:TypeId) (E:α->List AV) (W:α->Prop):Prop:= ∀ {H:Type} {enc:TypeId×Value->H} {w:World} {base:Nat} {spare:Nat->Bool} {held:Bool} {fuel:Nat} {cs:List Value} {x:DataW H×List MemPlace},DataW.trod enc Tryz.prog w base spare held fuel t cs=some x->sml x.1-> ∃y:α,F2 (LR w) (E y) cs/\W y
theorem fO {α:Type} {t:TypeId} {E:α->List AV} {W:α->Prop} (hop:Op t E W) {H:Type} {enc:TypeId×Value->H} {w:World} {base:Nat} {spare:Nat->Bool} {held:Bool} {fs:Array Field} {n:Nat} {cs:List Value} {xs:List (DataW H×List MemPlace)} {x:DataW H×List MemPlace} {q:List MemPlace} (hb:sml x.1) (hx:x=(.agg (xs.map (·.1)),q)) (hlen:xs.length=fs.size)
  (hf:∀(i:Nat) (f:Field),fs[i]? =some f->DataW.trod enc Tryz.prog w base spare held n f.type ((cs.drop f.offset).take (Tryz.prog.cellsOf f.type))=xs[i]?) (i:Nat) (f:Field) (hi:fs[i]? =some f) (o k:Nat) (ht:f.type=t) (ho:f.offset=o) (hk:Tryz.prog.cellsOf t=k): ∃y,F2 (LR w) (E y) ((cs.drop o).take k)/\W y:=
 let ⟨_,g,b⟩:=D3D (B:=sml) D4p hb hx hlen hf i f hi o k ht ho hk;hop g b
theorem K2:Op 2 (eI .i64) (E1 .i64):=fun h _=>C0e Tryz.underlying2 h
theorem U6:Op 3 (eI .i64) (E1 .i64):=fun h _=>C0e Tryz.underlying3 h
theorem D0t:Op 24 P0 A1Y:=by
 intro H _ w _ _ _ _ cs _ h hb;obtain ⟨xs,n,_,hx,hl,hlen,hf⟩:=DataW.trod_struct Tryz.underlying24 h;rw [C0X] at hl;obtain ⟨y0,r0,w0⟩:=fO U6 hb hx hlen hf 0 _ rfl 0 1 rfl rfl Q5;obtain ⟨y1,r1,w1⟩:=fO U6 hb hx hlen hf 1 _ rfl 1 1 rfl rfl Q5;obtain ⟨y2,r2,w2⟩:=fO K2 hb hx hlen hf 2 _ rfl 2 1 rfl rfl I0;obtain ⟨y3,r3,w3⟩:=fO U6 hb hx hlen hf 3 _ rfl 3 1 rfl rfl Q5;obtain ⟨y4,r4,w4⟩:=fO U6 hb hx hlen hf 4 _ rfl 4 1 rfl rfl Q5;obtain ⟨y5,r5,w5⟩:=fO U6 hb hx hlen hf 5 _ rfl 5 1 rfl rfl Q5;obtain ⟨y6,r6,w6⟩:=fO U6 hb hx hlen hf 6 _ rfl 6 1 rfl rfl Q5;obtain ⟨y7,r7,w7⟩:=fO K2 hb hx hlen hf 7 _ rfl 7 1 rfl rfl I0;exact ⟨E2.mk y0 y1 y2 y3 y4 y5 y6 y7,(C9 r0 (C9 r1 (C9 r2 (C9 r3 (C9 r4 (C9 r5 (C9 r6 (C9 r7 (S3 (by omega))))))))):F2 (LR w) _ (cs.drop 0)),w0,w1,w2,w3,w4,w5,w6,w7⟩
theorem D31:Op 265 E5 A16:=by
 intro H _ w _ _ _ _ cs _ h hb;obtain ⟨xs,n,_,hx,hl,hlen,hf⟩:=DataW.trod_struct Tryz.underlying265 h;rw [C3G] at hl;obtain ⟨y0,r0,w0⟩:=fO K2 hb hx hlen hf 0 _ rfl 0 1 rfl rfl I0;obtain ⟨y1,r1,w1⟩:=fO K2 hb hx hlen hf 1 _ rfl 1 1 rfl rfl I0;exact ⟨A9.mk y0 y1,(C9 r0 (C9 r1 (S3 (by omega))):F2 (LR w) _ (cs.drop 0)),w0,w1⟩
theorem D0w:Op 58 (eL 2 E5) (S9 A16):=fun h hb=>A2z (B:=sml) A0x E5 A16 2 Tryz.underlying58 C3G (by decide) (fun _=>rfl) (fun _ _ _ h hb=>D31 h hb) h hb
theorem D5B:Op 60 L4 A6p:=by
 intro H _ w _ _ _ _ cs _ h hb;obtain ⟨xs,n,_,hx,hl,hlen,hf⟩:=DataW.trod_struct Tryz.underlying60 h;rw [C6N] at hl;obtain ⟨y0,r0,w0⟩:=fO K2 hb hx hlen hf 0 _ rfl 0 1 rfl rfl I0;obtain ⟨y1,r1,w1⟩:=fO U6 hb hx hlen hf 1 _ rfl 1 1 rfl rfl Q5;obtain ⟨y2,r2,w2⟩:=fO K2 hb hx hlen hf 2 _ rfl 2 1 rfl rfl I0;obtain ⟨y3,r3,w3⟩:=fO D0w hb hx hlen hf 3 _ rfl 3 1 rfl rfl C6M;exact ⟨D0.mk y0 y1 y2 y3,(C9 r0 (C9 r1 (C9 r2 (C9 r3 (S3 (by omega))))):F2 (LR w) _ (cs.drop 0)),w0,w1,w2,w3⟩
theorem D35:Op 353 D8 A0M:=by
 intro H _ w _ _ _ _ cs _ h hb;obtain ⟨xs,n,_,hx,hl,hlen,hf⟩:=DataW.trod_struct Tryz.underlying353 h;rw [C3K] at hl;obtain ⟨y0,r0,w0⟩:=fO K2 hb hx hlen hf 0 _ rfl 0 1 rfl rfl I0;obtain ⟨y1,r1,w1⟩:=fO U6 hb hx hlen hf 1 _ rfl 1 1 rfl rfl Q5;exact ⟨A3.mk y0 y1,(C9 r0 (C9 r1 (S3 (by omega))):F2 (LR w) _ (cs.drop 0)),w0,w1⟩
theorem D0x:Op 61 (eL 2 D8) (S9 A0M):=fun h hb=>A2z (B:=sml) A0x D8 A0M 2 Tryz.underlying61 C3K (by decide) (fun _=>rfl) (fun _ _ _ h hb=>D35 h hb) h hb
theorem D5C:Op 63 M0 A7u:=by
 intro H _ w _ _ _ _ cs _ h hb;obtain ⟨xs,n,_,hx,hl,hlen,hf⟩:=DataW.trod_struct Tryz.underlying63 h;rw [C6P] at hl;obtain ⟨y0,r0,w0⟩:=fO K2 hb hx hlen hf 0 _ rfl 0 1 rfl rfl I0;obtain ⟨y1,r1,w1⟩:=fO U6 hb hx hlen hf 1 _ rfl 1 1 rfl rfl Q5;obtain ⟨y2,r2,w2⟩:=fO U6 hb hx hlen hf 2 _ rfl 2 1 rfl rfl Q5;obtain ⟨y3,r3,w3⟩:=fO K2 hb hx hlen hf 3 _ rfl 3 1 rfl rfl I0;obtain ⟨y4,r4,w4⟩:=fO D0x hb hx hlen hf 4 _ rfl 4 1 rfl rfl C6O;exact ⟨E4.mk y0 y1 y2 y3 y4,(C9 r0 (C9 r1 (C9 r2 (C9 r3 (C9 r4 (S3 (by omega)))))):F2 (LR w) _ (cs.drop 0)),w0,w1,w2,w3,w4⟩
theorem D5D:Op 65 N0 B0b:=by
 intro H _ w _ _ _ _ cs _ h hb;obtain ⟨xs,n,_,hx,hl,hlen,hf⟩:=DataW.trod_struct Tryz.underlying65 h;rw [C6Q] at hl;obtain ⟨y0,r0,w0⟩:=fO K2 hb hx hlen hf 0 _ rfl 0 1 rfl rfl I0;obtain ⟨y1,r1,w1⟩:=fO U6 hb hx hlen hf 1 _ rfl 1 1 rfl rfl Q5;obtain ⟨y2,r2,w2⟩:=fO U6 hb hx hlen hf 2 _ rfl 2 1 rfl rfl Q5;obtain ⟨y3,r3,w3⟩:=fO U6 hb hx hlen hf 3 _ rfl 3 1 rfl rfl Q5;obtain ⟨y4,r4,w4⟩:=fO K2 hb hx hlen hf 4 _ rfl 4 1 rfl rfl I0;obtain ⟨y5,r5,w5⟩:=fO D0x hb hx hlen hf 5 _ rfl 5 1 rfl rfl C6O;exact ⟨F4.mk y0 y1 y2 y3 y4 y5,(C9 r0 (C9 r1 (C9 r2 (C9 r3 (C9 r4 (C9 r5 (S3 (by omega))))))):F2 (LR w) _ (cs.drop 0)),w0,w1,w2,w3,w4,w5⟩
theorem D32:Op 274 C3 A18:=by
 intro H _ w _ _ _ _ cs _ h hb;obtain ⟨xs,n,_,hx,hl,hlen,hf⟩:=DataW.trod_struct Tryz.underlying274 h;rw [C3H] at hl;obtain ⟨y0,r0,w0⟩:=fO K2 hb hx hlen hf 0 _ rfl 0 1 rfl rfl I0;obtain ⟨y1,r1,w1⟩:=fO K2 hb hx hlen hf 1 _ rfl 1 1 rfl rfl I0;obtain ⟨y2,r2,w2⟩:=fO K2 hb hx hlen hf 2 _ rfl 2 1 rfl rfl I0;obtain ⟨y3,r3,w3⟩:=fO K2 hb hx hlen hf 3 _ rfl 3 1 rfl rfl I0;obtain ⟨y4,r4,w4⟩:=fO K2 hb hx hlen hf 4 _ rfl 4 1 rfl rfl I0;obtain ⟨y5,r5,w5⟩:=fO K2 hb hx hlen hf 5 _ rfl 5 1 rfl rfl I0;obtain ⟨y6,r6,w6⟩:=fO K2 hb hx hlen hf 6 _ rfl 6 1 rfl rfl I0;exact ⟨A7.mk y0 y1 y2 y3 y4 y5 y6,(C9 r0 (C9 r1 (C9 r2 (C9 r3 (C9 r4 (C9 r5 (C9 r6 (S3 (by omega)))))))):F2 (LR w) _ (cs.drop 0)),w0,w1,w2,w3,w4,w5,w6⟩
theorem D0y:Op 66 (eL 7 C3) (S9 A18):=fun h hb=>A2z (B:=sml) A0x C3 A18 7 Tryz.underlying66 C3H (by decide) (fun _=>rfl) (fun _ _ _ h hb=>D32 h hb) h hb
theorem D5E:Op 68 J9 A6r:=by
 intro H _ w _ _ _ _ cs _ h hb;obtain ⟨xs,n,_,hx,hl,hlen,hf⟩:=DataW.trod_struct Tryz.underlying68 h;rw [C6S] at hl;obtain ⟨y0,r0,w0⟩:=fO U6 hb hx hlen hf 0 _ rfl 0 1 rfl rfl Q5;obtain ⟨y1,r1,w1⟩:=fO K2 hb hx hlen hf 1 _ rfl 1 1 rfl rfl I0;obtain ⟨y2,r2,w2⟩:=fO U6 hb hx hlen hf 2 _ rfl 2 1 rfl rfl Q5;obtain ⟨y3,r3,w3⟩:=fO U6 hb hx hlen hf 3 _ rfl 3 1 rfl rfl Q5;obtain ⟨y4,r4,w4⟩:=fO K2 hb hx hlen hf 4 _ rfl 4 1 rfl rfl I0;obtain ⟨y5,r5,w5⟩:=fO K2 hb hx hlen hf 5 _ rfl 5 1 rfl rfl I0;obtain ⟨y6,r6,w6⟩:=fO D0y hb hx hlen hf 6 _ rfl 6 1 rfl rfl C6R;exact ⟨D3.mk y0 y1 y2 y3 y4 y5 y6,(C9 r0 (C9 r1 (C9 r2 (C9 r3 (C9 r4 (C9 r5 (C9 r6 (S3 (by omega)))))))):F2 (LR w) _ (cs.drop 0)),w0,w1,w2,w3,w4,w5,w6⟩
theorem D5F:Op 70 J3 A6s:=by
 intro H _ w _ _ _ _ cs _ h hb;obtain ⟨xs,n,_,hx,hl,hlen,hf⟩:=DataW.trod_struct Tryz.underlying70 h;rw [C6T] at hl;obtain ⟨y0,r0,w0⟩:=fO K2 hb hx hlen hf 0 _ rfl 0 1 rfl rfl I0;obtain ⟨y1,r1,w1⟩:=fO U6 hb hx hlen hf 1 _ rfl 1 1 rfl rfl Q5;obtain ⟨y2,r2,w2⟩:=fO U6 hb hx hlen hf 2 _ rfl 2 1 rfl rfl Q5;obtain ⟨y3,r3,w3⟩:=fO K2 hb hx hlen hf 3 _ rfl 3 1 rfl rfl I0;obtain ⟨y4,r4,w4⟩:=fO K2 hb hx hlen hf 4 _ rfl 4 1 rfl rfl I0;obtain ⟨y5,r5,w5⟩:=fO D0y hb hx hlen hf 5 _ rfl 5 1 rfl rfl C6R;exact ⟨D5.mk y0 y1 y2 y3 y4 y5,(C9 r0 (C9 r1 (C9 r2 (C9 r3 (C9 r4 (C9 r5 (S3 (by omega))))))):F2 (LR w) _ (cs.drop 0)),w0,w1,w2,w3,w4,w5⟩
theorem D0v:Op 41 (eI .u64) (E1 .u64):=fun h _=>C0e Tryz.underlying41 h
theorem D5A:Op 43 L5 A08:=by
 intro H _ w _ _ _ _ cs _ h hb;obtain ⟨xs,n,_,hx,hl,hlen,hf⟩:=DataW.trod_struct Tryz.underlying43 h;rw [C6L] at hl;obtain ⟨y0,r0,w0⟩:=fO D0v hb hx hlen hf 0 _ rfl 0 1 rfl rfl C6K;obtain ⟨y1,r1,w1⟩:=fO D0v hb hx hlen hf 1 _ rfl 1 1 rfl rfl C6K;exact ⟨A2.mk y0 y1,(C9 r0 (C9 r1 (S3 (by omega))):F2 (LR w) _ (cs.drop 0)),w0,w1⟩
theorem D5G:Op 71 (eL 2 L5) (S9 A08):=fun h hb=>A2z (B:=sml) A0x L5 A08 2 Tryz.underlying71 C6L (by decide) (fun _=>rfl) (fun _ _ _ h hb=>D5A h hb) h hb
theorem D5H:Op 73 M5 A80:=by
 intro H _ w _ _ _ _ cs _ h hb;obtain ⟨xs,n,_,hx,hl,hlen,hf⟩:=DataW.trod_struct Tryz.underlying73 h;rw [C6U] at hl;obtain ⟨y0,r0,w0⟩:=fO U6 hb hx hlen hf 0 _ rfl 0 1 rfl rfl Q5;obtain ⟨y1,r1,w1⟩:=fO K2 hb hx hlen hf 1 _ rfl 1 1 rfl rfl I0;obtain ⟨y2,r2,w2⟩:=fO K2 hb hx hlen hf 2 _ rfl 2 1 rfl rfl I0;obtain ⟨y3,r3,w3⟩:=fO D5G hb hx hlen hf 3 _ rfl 3 1 rfl rfl D3t;exact ⟨E3.mk y0 y1 y2 y3,(C9 r0 (C9 r1 (C9 r2 (C9 r3 (S3 (by omega))))):F2 (LR w) _ (cs.drop 0)),w0,w1,w2,w3⟩
theorem D0u:Op 25 (eL 1 (eI .i64)) (S9 (E1 .i64)):=fun h hb=>A2z (B:=sml) A0x (eI .i64) (E1 .i64) 1 Tryz.underlying25 I0 (by decide) (fun _=>rfl) (fun _ _ _ h hb=>K2 h hb) h hb
theorem D5I:Op 75 A4r A7v:=by
 intro H _ w _ _ _ _ cs _ h hb;obtain ⟨xs,n,_,hx,hl,hlen,hf⟩:=DataW.trod_struct Tryz.underlying75 h;rw [C6V] at hl;obtain ⟨y0,r0,w0⟩:=fO K2 hb hx hlen hf 0 _ rfl 0 1 rfl rfl I0;obtain ⟨y1,r1,w1⟩:=fO D0u hb hx hlen hf 1 _ rfl 1 1 rfl rfl C6I;exact ⟨F6.mk y0 y1,(C9 r0 (C9 r1 (S3 (by omega))):F2 (LR w) _ (cs.drop 0)),w0,w1⟩
theorem D6A:Op 4 eB (fun _=>True):=fun h _=>D5S Tryz.underlying4 h
theorem D5J:Op 77 I3 A5l:=by
 intro H _ w _ _ _ _ cs _ h hb;obtain ⟨xs,n,_,hx,hl,hlen,hf⟩:=DataW.trod_struct Tryz.underlying77 h;rw [C6W] at hl;obtain ⟨y0,r0,w0⟩:=fO D6A hb hx hlen hf 0 _ rfl 0 1 rfl rfl D40;obtain ⟨y1,r1,w1⟩:=fO K2 hb hx hlen hf 1 _ rfl 1 1 rfl rfl I0;obtain ⟨y2,r2,w2⟩:=fO U6 hb hx hlen hf 2 _ rfl 2 1 rfl rfl Q5;obtain ⟨y3,r3,w3⟩:=fO K2 hb hx hlen hf 3 _ rfl 3 1 rfl rfl I0;obtain ⟨y4,r4,w4⟩:=fO D0w hb hx hlen hf 4 _ rfl 4 1 rfl rfl C6M;exact ⟨C4.mk y0 y1 y2 y3 y4,(C9 r0 (C9 r1 (C9 r2 (C9 r3 (C9 r4 (S3 (by omega)))))):F2 (LR w) _ (cs.drop 0)),w0,w1,w2,w3,w4⟩
theorem D36:Op 389 L3 A17:=by
 intro H _ w _ _ _ _ cs _ h hb;obtain ⟨xs,n,_,hx,hl,hlen,hf⟩:=DataW.trod_struct Tryz.underlying389 h;rw [C3L] at hl;obtain ⟨y0,r0,w0⟩:=fO K2 hb hx hlen hf 0 _ rfl 0 1 rfl rfl I0;obtain ⟨y1,r1,w1⟩:=fO K2 hb hx hlen hf 1 _ rfl 1 1 rfl rfl I0;exact ⟨G4.mk y0 y1,(C9 r0 (C9 r1 (S3 (by omega))):F2 (LR w) _ (cs.drop 0)),w0,w1⟩
theorem D3Z:Op 154 (eL 2 L3) (S9 A17):=fun h hb=>A2z (B:=sml) A0x L3 A17 2 Tryz.underlying154 C3L (by decide) (fun _=>rfl) (fun _ _ _ h hb=>D36 h hb) h hb
theorem D30:Op 156 F3 A2E:=by
 intro H _ w _ _ _ _ cs _ h hb;obtain ⟨xs,n,_,hx,hl,hlen,hf⟩:=DataW.trod_struct Tryz.underlying156 h;rw [C3F] at hl;obtain ⟨y0,r0,w0⟩:=fO K2 hb hx hlen hf 0 _ rfl 0 1 rfl rfl I0;obtain ⟨y1,r1,w1⟩:=fO U6 hb hx hlen hf 1 _ rfl 1 1 rfl rfl Q5;obtain ⟨y2,r2,w2⟩:=fO K2 hb hx hlen hf 2 _ rfl 2 1 rfl rfl I0;obtain ⟨y3,r3,w3⟩:=fO K2 hb hx hlen hf 3 _ rfl 3 1 rfl rfl I0;obtain ⟨y4,r4,w4⟩:=fO D3Z hb hx hlen hf 4 _ rfl 4 1 rfl rfl D1A;exact ⟨B7.mk y0 y1 y2 y3 y4,(C9 r0 (C9 r1 (C9 r2 (C9 r3 (C9 r4 (S3 (by omega)))))):F2 (LR w) _ (cs.drop 0)),w0,w1,w2,w3,w4⟩
theorem D5K:Op 78 (eL 5 F3) (S9 A2E):=fun h hb=>A2z (B:=sml) A0x F3 A2E 5 Tryz.underlying78 C3F (by decide) (fun _=>rfl) (fun _ _ _ h hb=>D30 h hb) h hb
theorem D5L:Op 80 A3B A6q:=by
 intro H _ w _ _ _ _ cs _ h hb;obtain ⟨xs,n,_,hx,hl,hlen,hf⟩:=DataW.trod_struct Tryz.underlying80 h;rw [C6X] at hl;obtain ⟨y0,r0,w0⟩:=fO D5K hb hx hlen hf 0 _ rfl 0 1 rfl rfl D3u;exact ⟨E9.mk y0,(C9 r0 (S3 (by omega)):F2 (LR w) _ (cs.drop 0)),w0⟩
theorem D33:Op 294 G0 A2F:=by
 intro H _ w _ _ _ _ cs _ h hb;obtain ⟨xs,n,_,hx,hl,hlen,hf⟩:=DataW.trod_struct Tryz.underlying294 h;rw [C3I] at hl;obtain ⟨y0,r0,w0⟩:=fO K2 hb hx hlen hf 0 _ rfl 0 1 rfl rfl I0;obtain ⟨y1,r1,w1⟩:=fO K2 hb hx hlen hf 1 _ rfl 1 1 rfl rfl I0;obtain ⟨y2,r2,w2⟩:=fO K2 hb hx hlen hf 2 _ rfl 2 1 rfl rfl I0;exact ⟨E0.mk y0 y1 y2,(C9 r0 (C9 r1 (C9 r2 (S3 (by omega)))):F2 (LR w) _ (cs.drop 0)),w0,w1,w2⟩
theorem D5M:Op 81 (eL 3 G0) (S9 A2F):=fun h hb=>A2z (B:=sml) A0x G0 A2F 3 Tryz.underlying81 C3I (by decide) (fun _=>rfl) (fun _ _ _ h hb=>D33 h hb) h hb
theorem D5N:Op 83 H4 A5m:=by
 intro H _ w _ _ _ _ cs _ h hb;obtain ⟨xs,n,_,hx,hl,hlen,hf⟩:=DataW.trod_struct Tryz.underlying83 h;rw [C6Y] at hl;obtain ⟨y0,r0,w0⟩:=fO U6 hb hx hlen hf 0 _ rfl 0 1 rfl rfl Q5;obtain ⟨y1,r1,w1⟩:=fO U6 hb hx hlen hf 1 _ rfl 1 1 rfl rfl Q5;obtain ⟨y2,r2,w2⟩:=fO K2 hb hx hlen hf 2 _ rfl 2 1 rfl rfl I0;obtain ⟨y3,r3,w3⟩:=fO D5M hb hx hlen hf 3 _ rfl 3 1 rfl rfl D3v;exact ⟨B8.mk y0 y1 y2 y3,(C9 r0 (C9 r1 (C9 r2 (C9 r3 (S3 (by omega))))):F2 (LR w) _ (cs.drop 0)),w0,w1,w2,w3⟩
theorem D34:Op 316 D6 A1z:=by
 intro H _ w _ _ _ _ cs _ h hb;obtain ⟨xs,n,_,hx,hl,hlen,hf⟩:=DataW.trod_struct Tryz.underlying316 h;rw [C3J] at hl;obtain ⟨y0,r0,w0⟩:=fO K2 hb hx hlen hf 0 _ rfl 0 1 rfl rfl I0;obtain ⟨y1,r1,w1⟩:=fO K2 hb hx hlen hf 1 _ rfl 1 1 rfl rfl I0;obtain ⟨y2,r2,w2⟩:=fO K2 hb hx hlen hf 2 _ rfl 2 1 rfl rfl I0;exact ⟨B4.mk y0 y1 y2,(C9 r0 (C9 r1 (C9 r2 (S3 (by omega)))):F2 (LR w) _ (cs.drop 0)),w0,w1,w2⟩
theorem D3W:Op 149 (eL 3 D6) (S9 A1z):=fun h hb=>A2z (B:=sml) A0x D6 A1z 3 Tryz.underlying149 C3J (by decide) (fun _=>rfl) (fun _ _ _ h hb=>D34 h hb) h hb
theorem D3X:Op 151 A4s B6w:=by
 intro H _ w _ _ _ _ cs _ h hb;obtain ⟨xs,n,_,hx,hl,hlen,hf⟩:=DataW.trod_struct Tryz.underlying151 h;rw [C3D] at hl;obtain ⟨y0,r0,w0⟩:=fO K2 hb hx hlen hf 0 _ rfl 0 1 rfl rfl I0;obtain ⟨y1,r1,w1⟩:=fO D3W hb hx hlen hf 1 _ rfl 1 1 rfl rfl D1z;exact ⟨D4.mk y0 y1,(C9 r0 (C9 r1 (S3 (by omega))):F2 (LR w) _ (cs.drop 0)),w0,w1⟩
theorem D3Y:Op 153 C6 A2D:=by
 intro H _ w _ _ _ _ cs _ h hb;obtain ⟨xs,n,_,hx,hl,hlen,hf⟩:=DataW.trod_struct Tryz.underlying153 h;rw [C3E] at hl;obtain ⟨y0,r0,w0⟩:=fO K2 hb hx hlen hf 0 _ rfl 0 1 rfl rfl I0;obtain ⟨y1,r1,w1⟩:=fO K2 hb hx hlen hf 1 _ rfl 1 1 rfl rfl I0;obtain ⟨y2,r2,w2⟩:=fO U6 hb hx hlen hf 2 _ rfl 2 1 rfl rfl Q5;obtain ⟨y3,r3,w3⟩:=fO D3X hb hx hlen hf 3 _ rfl 3 2 rfl rfl C3D;exact ⟨B2.mk y0 y1 y2 y3,(C9 r0 (C9 r1 (C9 r2 (C9 r3 (S3 (by omega))))):F2 (LR w) _ (cs.drop 0)),w0,w1,w2,w3⟩
theorem D5O:Op 84 (eL 5 C6) (S9 A2D):=fun h hb=>A2z (B:=sml) A0x C6 A2D 5 Tryz.underlying84 C3E (by decide) (fun _=>rfl) (fun _ _ _ h hb=>D3Y h hb) h hb
theorem D5P:Op 86 H5 A4l:=by
 intro H _ w _ _ _ _ cs _ h hb;obtain ⟨xs,n,_,hx,hl,hlen,hf⟩:=DataW.trod_struct Tryz.underlying86 h;rw [C6Z] at hl;obtain ⟨y0,r0,w0⟩:=fO K2 hb hx hlen hf 0 _ rfl 0 1 rfl rfl I0;obtain ⟨y1,r1,w1⟩:=fO U6 hb hx hlen hf 1 _ rfl 1 1 rfl rfl Q5;obtain ⟨y2,r2,w2⟩:=fO U6 hb hx hlen hf 2 _ rfl 2 1 rfl rfl Q5;obtain ⟨y3,r3,w3⟩:=fO K2 hb hx hlen hf 3 _ rfl 3 1 rfl rfl I0;obtain ⟨y4,r4,w4⟩:=fO D5O hb hx hlen hf 4 _ rfl 4 1 rfl rfl D3w;exact ⟨C2.mk y0 y1 y2 y3 y4,(C9 r0 (C9 r1 (C9 r2 (C9 r3 (C9 r4 (S3 (by omega)))))):F2 (LR w) _ (cs.drop 0)),w0,w1,w2,w3,w4⟩
theorem D5Q:Op 88 G5 R6:=by
 intro H _ w _ _ _ _ cs _ h hb;obtain ⟨xs,n,_,hx,hl,hlen,hf⟩:=DataW.trod_struct Tryz.underlying88 h;rw [C60] at hl;obtain ⟨y0,r0,w0⟩:=fO D0t hb hx hlen hf 0 _ rfl 0 8 rfl rfl C0X;obtain ⟨y1,r1,w1⟩:=fO D5B hb hx hlen hf 1 _ rfl 8 4 rfl rfl C6N;obtain ⟨y2,r2,w2⟩:=fO D5C hb hx hlen hf 2 _ rfl 12 5 rfl rfl C6P;obtain ⟨y3,r3,w3⟩:=fO D5D hb hx hlen hf 3 _ rfl 17 6 rfl rfl C6Q;obtain ⟨y4,r4,w4⟩:=fO D5E hb hx hlen hf 4 _ rfl 23 7 rfl rfl C6S;obtain ⟨y5,r5,w5⟩:=fO D5F hb hx hlen hf 5 _ rfl 30 6 rfl rfl C6T;obtain ⟨y6,r6,w6⟩:=fO D5H hb hx hlen hf 6 _ rfl 36 4 rfl rfl C6U;obtain ⟨y7,r7,w7⟩:=fO D5I hb hx hlen hf 7 _ rfl 40 2 rfl rfl C6V;obtain ⟨y8,r8,w8⟩:=fO D5J hb hx hlen hf 8 _ rfl 42 5 rfl rfl C6W;obtain ⟨y9,r9,w9⟩:=fO D5L hb hx hlen hf 9 _ rfl 47 1 rfl rfl C6X;obtain ⟨y10,r10,w10⟩:=fO D5N hb hx hlen hf 10 _ rfl 48 4 rfl rfl C6Y;obtain ⟨y11,r11,w11⟩:=fO D5P hb hx hlen hf 11 _ rfl 52 5 rfl rfl C6Z;exact ⟨A8.mk y0 y1 y2 y3 y4 y5 y6 y7 y8 y9 y10 y11,(C9 r0 (C9 r1 (C9 r2 (C9 r3 (C9 r4 (C9 r5 (C9 r6 (C9 r7 (C9 r8 (C9 r9 (C9 r10 (C9 r11 (S3 (by omega))))))))))))):F2 (LR w) _ (cs.drop 0)),w0,w1,w2,w3,w4,w5,w6,w7,w8,w9,w10,w11⟩
theorem D5R:Op 90 C5 Z0:=by
 intro H _ w _ _ _ _ cs _ h hb;obtain ⟨xs,n,_,hx,hl,hlen,hf⟩:=DataW.trod_struct Tryz.underlying90 h;rw [C61] at hl;obtain ⟨y0,r0,w0⟩:=fO K2 hb hx hlen hf 0 _ rfl 0 1 rfl rfl I0;obtain ⟨y1,r1,w1⟩:=fO D5Q hb hx hlen hf 1 _ rfl 1 57 rfl rfl C60;exact ⟨A6.mk y0 y1,(C9 r0 (C9 r1 (S3 (by omega))):F2 (LR w) _ (cs.drop 0)),w0,w1⟩
theorem D5y:Op 32 (eL 58 C5) (S9 Z0):=fun h hb=>A2z (B:=sml) A0x C5 Z0 58 Tryz.underlying32 C61 (by decide) (fun _=>rfl) (fun _ _ _ h hb=>D5R h hb) h hb
theorem D5z:Op 34 A1U M2:=by
 intro H _ w _ _ _ _ cs _ h hb;obtain ⟨xs,n,_,hx,hl,hlen,hf⟩:=DataW.trod_struct Tryz.underlying34 h;rw [D3s] at hl;obtain ⟨y0,r0,w0⟩:=fO K2 hb hx hlen hf 0 _ rfl 0 1 rfl rfl I0;obtain ⟨y1,r1,w1⟩:=fO U6 hb hx hlen hf 1 _ rfl 1 1 rfl rfl Q5;obtain ⟨y2,r2,w2⟩:=fO D5y hb hx hlen hf 2 _ rfl 2 1 rfl rfl D3r;exact ⟨D7.mk y0 y1 y2,(C9 r0 (C9 r1 (C9 r2 (S3 (by omega)))):F2 (LR w) _ (cs.drop 0)),w0,w1,w2⟩
theorem D5v:Op 27 C2M A7w:=by
 intro H _ w _ _ _ _ cs _ h hb;obtain ⟨xs,n,_,hx,hl,hlen,hf⟩:=DataW.trod_struct Tryz.underlying27 h;rw [C6J] at hl;obtain ⟨y0,r0,w0⟩:=fO U6 hb hx hlen hf 0 _ rfl 0 1 rfl rfl Q5;obtain ⟨y1,r1,w1⟩:=fO K2 hb hx hlen hf 1 _ rfl 1 1 rfl rfl I0;obtain ⟨y2,r2,w2⟩:=fO K2 hb hx hlen hf 2 _ rfl 2 1 rfl rfl I0;exact ⟨T0.mk y0 y1 y2,(C9 r0 (C9 r1 (C9 r2 (S3 (by omega)))):F2 (LR w) _ (cs.drop 0)),w0,w1,w2⟩
theorem D6B:Op 5 (eI .u8) (E1 .u8):=fun h _=>C0e Tryz.underlying5 h
theorem D5w:Op 28 (eL 1 (eI .u8)) (S9 (E1 .u8)):=fun h hb=>A2z (B:=sml) A0x (eI .u8) (E1 .u8) 1 Tryz.underlying28 D41 (by decide) (fun _=>rfl) (fun _ _ _ h hb=>D6B h hb) h hb
theorem D5x:Op 30 S8 A5k:=by
 intro H _ w _ _ _ _ cs _ h hb;obtain ⟨xs,n,_,hx,hl,hlen,hf⟩:=DataW.trod_struct Tryz.underlying30 h;rw [D3q] at hl;obtain ⟨y0,r0,w0⟩:=fO U6 hb hx hlen hf 0 _ rfl 0 1 rfl rfl Q5;obtain ⟨y1,r1,w1⟩:=fO K2 hb hx hlen hf 1 _ rfl 1 1 rfl rfl I0;obtain ⟨y2,r2,w2⟩:=fO D0t hb hx hlen hf 2 _ rfl 2 8 rfl rfl C0X;obtain ⟨y3,r3,w3⟩:=fO K2 hb hx hlen hf 3 _ rfl 10 1 rfl rfl I0;obtain ⟨y4,r4,w4⟩:=fO K2 hb hx hlen hf 4 _ rfl 11 1 rfl rfl I0;obtain ⟨y5,r5,w5⟩:=fO D0u hb hx hlen hf 5 _ rfl 12 1 rfl rfl C6I;obtain ⟨y6,r6,w6⟩:=fO D5v hb hx hlen hf 6 _ rfl 13 3 rfl rfl C6J;obtain ⟨y7,r7,w7⟩:=fO D5w hb hx hlen hf 7 _ rfl 16 1 rfl rfl D3p;exact ⟨O9.mk y0 y1 y2 y3 y4 y5 y6 y7,(C9 r0 (C9 r1 (C9 r2 (C9 r3 (C9 r4 (C9 r5 (C9 r6 (C9 r7 (S3 (by omega))))))))):F2 (LR w) _ (cs.drop 0)),w0,w1,w2,w3,w4,w5,w6,w7⟩
theorem D69 (w:World) (p0:D7) (c0:Array Value) (r0:F2 (LR w) (A1U p0) c0.toList) (w0:M2 p0) (p1:O9) (c1:Array Value) (r1:F2 (LR w) (S8 p1) c1.toList) (w1:A5k p1):Calls Tryz.prog 6 #[.agg c0, .agg c1] w fun e w' =>e= .returned (.bool true)/\Below w.heap.size w w' :=
 (@B4F p0 p1 true (B2L p0 p1 w0 w1)).law2 Tryz.call6 w _ rfl (fun i c hi=>by
  match i,hi with
  |0,hi=>cases hi;exact ⟨_,rfl,C0I r0⟩
  |1,hi=>cases hi;exact ⟨_,rfl,C0I r1⟩)
set_option maxRecDepth 100000 in
theorem D5l (os:Os) (started:os.Started) (H:Type) (enc:TypeId×Value->H) (F:Stop.Interp):
  ReturnsInHanded {} Tryz.checked os 6 .any ((Rows.OpenSpec.upto Rows.engineRefusesSpec).pre6 enc Tryz.prog Tryz.f6 Rows.engineRefusesUptoRow.domain false) (((Rows.OpenSpec.upto Rows.engineRefusesSpec).at F).post enc Tryz.prog Tryz.f6 false true false false):=by
 refine returnsInHanded_of_cond (C:=Tryz.checked) (s:=Rows.OpenSpec.upto Rows.engineRefusesSpec) (k:=Rows.uptoSmall) rfl own started (by kernel_rfl) Tryz.func6
  (OpenSpec.witness (enc:=enc) (C:=Tryz.checked) (s:=Rows.OpenSpec.upto Rows.engineRefusesSpec) (k:=Rows.uptoSmall) rfl false ⟨#[], #[.agg #[.int .i64 0, .int .i64 0, .slice none 0 0], .agg #[.int .i64 0, .int .i64 0, .int .i64 0, .int .i64 0, .int .i64 0, .int .i64 0, .int .i64 0, .int .i64 0, .int .i64 0, .int .i64 0, .int .i64 0, .int .i64 0, .slice none 0 0, .int .i64 0, .int .i64 0, .int .i64 0, .slice none 0 0]], []⟩ 8 (by kernel_rfl) (by kernel_rfl) (by kernel_rfl)
   (x:=([.agg [.lit (.int .i64 0), .lit (.int .i64 0), .nil], .agg [.lit (.int .i64 0), .lit (.int .i64 0), .agg [.lit (.int .i64 0), .lit (.int .i64 0), .lit (.int .i64 0), .lit (.int .i64 0), .lit (.int .i64 0), .lit (.int .i64 0), .lit (.int .i64 0), .lit (.int .i64 0)], .lit (.int .i64 0), .lit (.int .i64 0), .nil, .agg [.lit (.int .i64 0), .lit (.int .i64 0), .lit (.int .i64 0)], .nil]], [], [])) (by kernel_rfl) rfl (by kernel_rfl)) ?_
 intro W base args ds gs before hval0 hW hcnd hk _;have hval: ∀(j:Nat) t v,Tryz.f6.params[j]? =some t->args[j]? =some v->Value.okWide Tryz.prog W .any base t v:=hval0;have hW' :=hW;obtain ⟨p,q,hA0,hV,rfl,hfz,hnd⟩:=hW;have hA:DataW.TrodAll enc Tryz.prog W 0 (fun _=>true) true Tryz.f6.params.toList args.toList ds p:=hA0;rw [Tryz.params6] at hA hval;obtain ⟨v0,vs0,d0,ds0,pl0,q0,hargs,rfl,rfl,h0,r0⟩:=trodAll_cons hA;obtain ⟨v1,vs1,d1,ds1,pl1,q1,rfl,rfl,rfl,h1,r1⟩:=trodAll_cons r0;obtain ⟨rfl,rfl,rfl⟩:=trodAll_nil r1;obtain rfl:args= #[v0,v1]:=by cases args;simp_all
 obtain ⟨rfl,rfl⟩:=trodVars_none hV;obtain ⟨cs0,rfl,_⟩:=okWide_struct Tryz.underlying34 (hval 0 34 v0 rfl rfl);have hk0:=h0;obtain ⟨fuel0,hf0⟩:=h0;obtain ⟨a0,ra0,wa0⟩:=D5z hf0 (D0X hk (by simp))
 obtain ⟨cs1,rfl,_⟩:=okWide_struct Tryz.underlying30 (hval 1 30 v1 rfl rfl);have hk1:=h1;obtain ⟨fuel1,hf1⟩:=h1;obtain ⟨a1,ra1,wa1⟩:=D5x hf1 (D0X hk (by simp))
 clear hA0 hval0
 simp only [List.append_nil,List.nil_append] at hW';have hlt0: ∀x∈pl0,x.block<W.heap.size:=fun x hx=>hW'.lt x (by simp [hx])
 have hlt1: ∀x∈pl1,x.block<W.heap.size:=fun x hx=>hW'.lt x (by simp [hx])
 refine (D69 W a0 _ ra0 wa0 a1 _ ra1 wa1).mono fun e W' ⟨he,hb⟩=> ?_;subst he;exact ⟨_,rfl,C2P (pa:=pl0++pl1) (pv:= []) hW' (fun _ _ _=>(trodAll_cons_mk (shut_bool Tryz.underlying4 _) trodAll_mk0))
  (fun sp hsp=>by
   have:DataW.TrodAll enc Tryz.prog W' 0 sp true [34,30] [Value.agg cs0,Value.agg cs1] [d0,d1] _:=(trodAll_cons_mk (C1U C7c (by kernel_rfl) (of_decide_eq_true (by kernel_rfl)) hk0 hb hlt0 (fun x hx=>hsp x (by simp [hx]))) (trodAll_cons_mk (C1U C7c (by kernel_rfl) (of_decide_eq_true (by kernel_rfl)) hk1 hb hlt1 (fun x hx=>hsp x (by simp [hx]))) trodAll_mk0))
   have h2:DataW.TrodAll enc Tryz.prog W' 0 sp true [34,30] [Value.agg cs0,Value.agg cs1] [d0,d1] (pl0++pl1):=by simpa using this
   exact h2) (fun _ _=>rfl) (by simp) hb
  (ok_one (by kernel_rfl) rfl (okWide_bool_mk Tryz.underlying4 _))⟩
theorem D6x:Tryz.pinned.checked.prog.funcNamed Rows.engineRefusesUptoRow.func=some 6:=by kernel_rfl
theorem D64:Tryz.f6.isInstance Tryz.pinned.checked.prog Rows.engineRefusesUptoRow.origin Rows.engineRefusesUptoRow.targs:=of_decide_eq_true (by kernel_rfl)
theorem wrap:Tryz.f6.isWrapper Tryz.pinned.checked.prog Rows.engineRefusesUptoRow.wrapper Rows.engineRefusesUptoRow.mainSum:=by unfold Func.isWrapper;first|(rw [if_pos (by decide+kernel)];kernel_rfl)|(rw [if_neg (by decide+kernel)];exact ⟨rfl,rfl⟩)
theorem D66:Rows.engineRefusesUptoRow.holds Tryz.pinned (Rows.OpenSpec.upto Rows.engineRefusesSpec):=
 OpenClaim.holds_of_cond 6 Tryz.f6 rfl rfl rfl rfl rfl rfl rfl ⟨rfl,rfl,rfl,rfl,rfl⟩ rfl rfl rfl rfl rfl D6x Tryz.func6 D5j D64 wrap
  (fun os started H enc _ F=>D5l os started H enc F)
theorem proved:Rows.EngineRefusesUptoSaid:=
 D66
#print axioms proved
end Go.Proofs.YtkakobhohikfkaaGreat.engineRefuses
