/- The framework, what a law without a bound wants besides. -/
import Derived.Test.YtkakobhohikfkaaGreatVc
set_option linter.unusedVariables false
set_option linter.unusedSimpArgs false
namespace Go.Vc
section
def len0:AV->Prop
 | .lst _ _ xs=>xs.length<=maxLen
 |_=>True
end
end Go.Vc
namespace Go.Dec
open Go.Vc Go.RowKit Go.ChangeShapes Go.WideShapes Go.ChangeAt
section
variable {H:Type} {enc:TypeId×Value->H} {P:Program} {w:World} {base:Nat} {spare:Nat->Bool} {held:Bool}
theorem fieldS {t:TypeId} {fs:Array Field} {n:Nat} {cs:List Value} {xs:List (DataW H×List MemPlace)} (hlen:xs.length=fs.size)
  (hf:∀(i:Nat) (f:Field),fs[i]? =some f->DataW.trod enc P w base spare held n f.type ((cs.drop f.offset).take (P.cellsOf f.type))=xs[i]?)
  (i:Nat) (f:Field) (hi:fs[i]? =some f) (o k:Nat) (ht:f.type=t) (ho:f.offset=o) (hk:P.cellsOf t=k): ∃y,DataW.trod enc P w base spare held n t ((cs.drop o).take k)=some y:=by
 have h:=hf i f hi;rw [ht,ho,hk] at h;have hlt:i<xs.length:=by
  rw [hlen];exact (D74.1 hi).1
 rw [D7u hlt] at h;exact ⟨_,h⟩
end
end Go.Dec
namespace Go.Dec
open Go.Vc Go.RowKit Go.ChangeShapes Go.WideShapes Go.ChangeAt
section
variable {H:Type} {enc:TypeId×Value->H} {P:Program} {w:World} {base:Nat} {spare:Nat->Bool} {held:Bool}
theorem open_s {α:Type} [Inhabited α] (en:α->List AV) (wf:α->Prop) (sz:Nat) {t e:TypeId} (ht:P.underlying t=some (.slice e)) (hc:P.cellsOf e=sz) (hpos:0<sz) (hsz:∀y,(en y).length=sz)
  (he:∀(fuel:Nat) (cs:List Value) (x:DataW H×List MemPlace),DataW.trod enc P w base spare held fuel e cs=some x-> ∃y,F2 (LR w) (en y) cs/\wf y)
  {fuel:Nat} {cs:List Value} {x:DataW H×List MemPlace} (h:DataW.trod enc P w base spare held fuel t cs=some x):
  ∃l:List α,F2 (LR w) [.lst sz false (List.map en l)] cs/\wfL wf l:=by
 rcases DataW.trod_slice ht h with ⟨hcs,_⟩|⟨a,len,cap,B3C,rest,n,_,hcs,_,hb,hl,hm,hlen,hel,_,_⟩
 ·cases hcs;refine ⟨[], .cons ?_ .nil,by simp [maxLen],by simp⟩
  exact .lst sz false [] none 0 (fun _ _=> .bool false) (D7Y _) (by simp) (fun _=>rfl) (by simp) (fun _=>rfl) (fun i j c x hi=>by simp at hi) (fun i j c x hi=>by simp at hi)
 ·cases hcs;have hp: ∀i,∃p:α×List Value,i<len->w.cells? base (a.add (i*sz)) sz=some p.2/\F2 (LR w) (en p.1) p.2/\wf p.1:=by
   intro i
   by_cases hi:i<len
   ·have hy:=hel i hi;rw [D7u (by omega),hc,Option.bind_eq_some_iff] at hy
    obtain ⟨cs,hcs,hy⟩:=hy;obtain ⟨y,h1,h2⟩:=he _ _ _ hy;exact ⟨(y,cs),fun _=>⟨hcs,h1,h2⟩⟩
   ·exact ⟨(default, []),fun h=>absurd h hi⟩
  obtain ⟨g,hg⟩:=Classical.axiomOfChoice hp;refine ⟨(List.range len).map fun i=>(g i).1, .cons ?_ .nil, ?_,fun p hpm=> ?_⟩
  ·have hlen2:(List.map en ((List.range len).map fun i=>(g i).1)).length=len:=by simp
   have key:PR w (fun b=>b<w.heap.size) (.lst sz false (List.map en ((List.range len).map fun i=>(g i).1))) (.slice (some a) (List.map en ((List.range len).map fun i=>(g i).1)).length cap):=by
    have at_: ∀(i j:Nat) (c:List AV) (y:AV),(List.map en ((List.range len).map fun i=>(g i).1))[i]? =some c->c[j]? =some y->
      i<len/\j<sz/\ ∃u,(g i).2[j]? =some u/\LR w y u:=by
     intro i j c y hi hj;have hil:i<len:=by have:=(D7q.1 hi).1;omega
     simp [hil] at hi;subst hi;obtain ⟨_,h2,_⟩:=hg i hil;refine ⟨hil, ?_,h2.get j y hj⟩;have:=(D7q.1 hj).1;rw [hsz] at this;exact this
    refine .lst sz false _ (some a) cap (fun i j=>((g i).2[j]?).getD (.bool false)) (by omega) hm (by simp) (by simp [hsz]) (by simp) (fun i j c y hi hj ad had=> ?_) (fun i j c y hi hj=> ?_)
    ·cases had;obtain ⟨hil,hjs,u,hu,_⟩:=at_ i j c y hi hj;obtain ⟨hcs,_,_⟩:=hg i hil;have hcell:=World.cells?_some hcs;have hcj:w.cell? ((a.add (i*sz)).add j)=some u:=by
      rw [hcell.2.2 j hjs,hu]
     obtain ⟨hcs0,h0,_⟩:=hg 0 (by omega)
     have hcell0:=World.cells?_some hcs0;have hz:=hcell0.2.2 0 hpos;have ez:(a.add (0*sz)).add 0=a:=by simp [Addr.add]
     rw [ez] at hz;have hl0:0<(g 0).2.length:=by rw [<-h0.length,hsz];exact hpos
     rw [D7u hl0] at hz;obtain ⟨s1,s2⟩:=C9D hz;refine ⟨s1,s2, ?_⟩;have ea:(⟨a.block,a.off+(i*sz+j),none⟩:Addr)=(a.add (i*sz)).add j:=by
      obtain ⟨bl,of,sp⟩:=a;simp only at s1;subst s1;simp only [Addr.add]
      by_cases h3:i*sz=0<;>by_cases h4:j=0<;>simp [h3,h4,Nat.add_assoc]
     rw [ea,hcj];simp [hu]
    ·obtain ⟨hil,hjs,u,hu,hr⟩:=at_ i j c y hi hj;simpa [hu] using hr
   rw [hlen2] at key;exact key
  ·simp;omega
  ·obtain ⟨i,hi,rfl⟩:=List.mem_map.1 hpm;exact (hg i (by simpa using hi)).2.2
end
end Go.Dec
namespace Go.Dec
open Go.Vc Go.RowKit Go.ChangeShapes Go.WideShapes Go.ChangeAt
section
variable {H:Type} {enc:TypeId×Value->H} {P:Program} {w:World} {base:Nat} {spare:Nat->Bool} {held:Bool}
theorem vr1_one {w:World} {a:AV} {v:Value} (h:F2 (LR w) [a] [v]):VR1 (C4a w) a v:=by
 cases h with
 |cons h _=>exact A9L (PR.vr0 (m:=C4a w) h)
end
end Go.Dec
