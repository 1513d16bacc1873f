/- Pu: helpers for validators: loops that stop at the first bad place. -/
import Derived.Test.YtmipeaidieflmaaGreatPu0
set_option linter.unusedVariables false
set_option linter.unusedSimpArgs false
set_option linter.unnecessarySimpa false
set_option linter.unusedSectionVars false
namespace Go.Win
open Go.Vc Go.Dec
def el {α:Type} [Inhabited α] (l:List α) (i:Nat):α:=l.getD i default
theorem el_get? {α:Type} [Inhabited α] {l:List α} {i:Nat} (h:i<l.length):l[i]? =some (el l i):=by
 unfold el
 rw [List.getElem?_eq_getElem h]
 simp [List.getD,List.getElem?_eq_getElem h]
theorem el_get {α:Type} [Inhabited α] {l:List α} {i:Nat} (h:i<l.length):el l i=l[i]:=by
 have:=el_get? h
 rw [List.getElem?_eq_getElem h] at this
 exact (Option.some.inj this).symm
theorem el_idx {α:Type} [Inhabited α] {l:List α} {i:Nat} (h:i<l.length):idx l (i:Int)=some (el l i):=by
 rw [idx_nat,el_get? h]
theorem el_idx0 {α:Type} [Inhabited α] {l:List α} (h:0<l.length):idx l (0:Int)=some (el l 0):=el_idx h
theorem el_mem {α:Type} [Inhabited α] {l:List α} {i:Nat} (h:i<l.length):el l i∈l:=by
 rw [el_get h];exact List.getElem_mem h
theorem predW {i n:Nat} (h0:0<i) (h:i≤n) (hm:n≤maxLen):w64 ((i:Int)-1)=((i-1:Nat):Int):=by
 rw [maxLen_eq] at hm
 rw [w64_id]<;>omega
theorem succW {i n:Nat} (h:i<n) (hm:n≤maxLen):w64 ((i:Int)+1)=((i+1:Nat):Int):=by
 rw [maxLen_eq] at hm
 rw [w64_id]<;>omega
theorem loop_st {S R:Type} {f:S→Option (S⊕R)} (st:Nat→S) (a n:Nat) (han:a≤n) (bad:Nat→Prop) (E:R) (A:Option R)
  (hs: ∀i,a≤i→i<n→(∀j,a≤j→j<i→ ¬bad j)→(bad i→f (st i)=some (.inr E))∧(¬bad i→f (st i)=some (.inl (st (i+1)))))
  (hd:(∀j,a≤j→j<n→ ¬bad j)→f (st n)=Option.map Sum.inr A):
  ((∃i,a≤i∧i<n∧bad i)→loop f (st a)=some E)∧((∀i,a≤i→i<n→ ¬bad i)→loop f (st a)=A):=by
 have key: ∀k i:Nat,a≤i→i+k=n→(∀j,a≤j→j<i→ ¬bad j)→
   ((∃j,i≤j∧j<n∧bad j)→loop f (st i)=some E)∧((∀j,i≤j→j<n→ ¬bad j)→loop f (st i)=A):=by
  intro k
  induction k with
  |zero=>
   intro i hai hi hb
   have hi:i=n:=by omega
   subst hi
   refine ⟨fun ⟨j,h1,h2,_⟩=>by omega,fun _=> ?_⟩
   rw [loop_eq,hd hb]
   cases A<;>rfl
  |succ k ih=>
   intro i hai hi hb
   obtain ⟨h1,h2⟩:=hs i hai (by omega) hb
   by_cases hbi:bad i
   ·refine ⟨fun _=>loop_inr (h1 hbi),fun h=>absurd hbi (h i (Nat.le_refl _) (by omega))⟩
   ·obtain ⟨g1,g2⟩:=ih (i+1) (by omega) (by omega) (fun j h3 h4=>by
     by_cases e:j=i
     ·subst e;exact hbi
     ·exact hb j h3 (by omega))
    rw [loop_inl (h2 hbi)]
    refine ⟨fun ⟨j,h3,h4,h5⟩=>g1 ⟨j, ?_,h4,h5⟩,fun h=>g2 fun j h3 h4=>h j (by omega) h4⟩
    by_cases e:j=i
    ·subst e;exact absurd h5 hbi
    ·omega
 exact key (n-a) a (Nat.le_refl _) (by omega) (fun j _ _=>by omega)
theorem loop_prop {R:Type} {f:Int→Option (Int⊕R)} (n:Nat) (bad:Nat→Prop) (E:R) (A:Option R)
  (hs: ∀i:Nat,i<n→(∀j,j<i→ ¬bad j)→(bad i→f (i:Int)=some (.inr E))∧(¬bad i→f (i:Int)=some (.inl ((i+1:Nat):Int))))
  (hd:(∀j,j<n→ ¬bad j)→f (n:Int)=Option.map Sum.inr A):
  ((∃i,i<n∧bad i)→loop f 0=some E)∧((∀i,i<n→ ¬bad i)→loop f 0=A):=by
 have:=loop_st (f:=f) (fun i=>(i:Int)) 0 n (Nat.zero_le _) bad E A (fun i _ h2 h3=>hs i h2 fun j h4=>h3 j (Nat.zero_le _) h4) (fun h=>hd fun j h4=>h j (Nat.zero_le _) h4)
 exact ⟨fun ⟨i,h1,h2⟩=>this.1 ⟨i,Nat.zero_le _,h1,h2⟩,fun h=>this.2 fun i _ h1=>h i h1⟩
theorem cond_ite {α:Type} (b:Bool) (x y:α):cond b x y=if b=true then x else y:=by cases b<;>rfl
open Classical in
noncomputable def vOf (p:Prop):Int:=if p then 0 else 2
theorem vOf_t {p:Prop} (h:p):vOf p=0:=by unfold vOf;rw [if_pos h]
theorem vOf_f {p:Prop} (h: ¬p):vOf p=2:=by unfold vOf;rw [if_neg h]
theorem vOf_bne {p:Prop}:(vOf p !=0)=true↔ ¬p:=by
 unfold vOf
 split<;>simp_all
open Classical in
noncomputable def bOf (p:Prop):Bool:=if p then true else false
theorem bOf_t {p:Prop} (h:p):bOf p=true:=by unfold bOf;rw [if_pos h]
theorem bOf_f {p:Prop} (h: ¬p):bOf p=false:=by unfold bOf;rw [if_neg h]
theorem bOf_iff {p:Prop}:bOf p=true↔p:=by
 unfold bOf
 split<;>simp_all
end Go.Win
