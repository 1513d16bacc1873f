/- Plain laws of the functions on plain data. -/
import Derived.Test.YtmipeaidieflmaaGreatQb
import Derived.Test.YtmipeaidieflmaaGreatQa
set_option linter.unusedVariables false
set_option linter.unusedSimpArgs false
set_option linter.unnecessarySimpa false
set_option linter.unusedSectionVars false
namespace Go.Win
open Go.Vc Go.Dec
theorem B33 {e:B9} (w:G7 e):A1v e e=some true:=by
 unfold A1v;rw [beq_self_eq_true,beq_self_eq_true,Bool.and_self,G8,C4Z e.Ag (Nat.le_succ_of_le w.2.2.1) fun r hr=>C95 _ (w.2.2.2 r hr).2]
 rfl
theorem C6X:G7 zE:=⟨A1Y.2 (by decide),A1Y.2 (by decide),⟨by decide,fun y hy=>by cases hy⟩⟩
theorem A06.wf {l:List Int} {e:B9} (hl:l.length<=1048576) (h:A06 l e):G7 e:=by
 obtain ⟨L,s,w1,w2,h1,_,h2⟩:=h;refine C24 w1 ?_ h2;have:=B6L L;have h3:=congrArg List.length h1;rw [D2a] at h3;omega
theorem A9J.wf {l:List Int} {r:B9×Int} (hl:l.length<=1048576) (h:A9J l r):G7 r.1:=by
 rcases h with ⟨e,h1,rfl⟩|⟨_,rfl⟩
 ·unfold B0Y;split
  ·exact h1.wf hl
  ·exact C6X
 ·exact C6X
theorem B1y {l:List Int} (hb:V8 l) (hl:l.length<=1048576): ∃r,S3 l=some r/\A1S l=some r/\A9J l r/\G7 r.1:=by
 obtain ⟨r,e1,d1⟩:=C41 hb hl;obtain ⟨r',e2,d2⟩:=C6F hb hl;have:=d1.uniq d2;subst this;exact ⟨r,e1,e2,d1,d1.wf hl⟩
theorem law28_SnapshotDecodes_true (p0:List Int) (w0:wfL (E0 .u8) p0):A3C p0=some true:=by
 unfold A3C;rw [B09]
 by_cases h:(p0.length:Int)>3000
 ·rw [D19 h];rfl
 rw [D2b h,D17];have hb:V8 p0:=fun x hx=>C9K.1 (w0.2 x hx);obtain ⟨r,e1,e2,d,w⟩:=B1y hb (by omega)
 rw [e1,e2,D14,D14,B33 w];simp
end Go.Win
