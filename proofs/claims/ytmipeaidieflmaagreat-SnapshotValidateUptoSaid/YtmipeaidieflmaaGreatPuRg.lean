/- Pu: chapter 26: registries. -/
import Derived.Test.YtmipeaidieflmaaGreatPuSyV
import Derived.Test.YtmipeaidieflmaaGreatPuFind
set_option linter.unusedVariables false
set_option linter.unusedSimpArgs false
set_option linter.unnecessarySimpa false
set_option linter.unusedSectionVars false
namespace Go.Win
open Go.Vc Go.Dec
def okRec (l:List api_Record) (i:Nat):Prop:=(0≤(el l i).ID∧(el l i).ID≤1048576)∧(1≤i→(el l (i-1)).ID<(el l i).ID)∧okSy (el l i).Synopsis
def okRg (l:List api_Record) (limit:Int):Prop:=((1≤limit∧limit≤64)∧(l.length:Int)≤limit)∧ ∀i,i<l.length→okRec l i
theorem wfR_syn {l:List api_Record} (w:wfLU wfU_api_Record l) {i:Nat} (hi:i<l.length):wfU_api_Synopsis (el l i).Synopsis:=(w.2 _ (el_mem hi)).2
theorem rec_step {l:List api_Record} (hl:l.length≤maxLen) {i:Nat} (hi:i<l.length) (V:api_Synopsis→Option Int) (hV:V (el l i).Synopsis=some (vOf (okSy (el l i).Synopsis))):
  (¬okRec l i→(cond (decide ((i:Int)<(l.length:Int))) (
   Option.bind (idx l (i:Int)) fun x5_1=>
   Option.bind (gd ((!((decide (x5_1.ID<(0:Int)))||(decide (x5_1.ID>(1048576:Int)))))&&(decide ((i:Int)>(0:Int)))) (idx l (w64 ((i:Int)-(1:Int))))) fun x6_15=>
   Option.bind (gd (!(((decide (x5_1.ID<(0:Int)))||(decide (x5_1.ID>(1048576:Int))))||((decide ((i:Int)>(0:Int)))&&(decide (x6_15.ID≥x5_1.ID))))) (V x5_1.Synopsis)) fun y6_26=>
   cond ((((decide (x5_1.ID<(0:Int)))||(decide (x5_1.ID>(1048576:Int))))||((decide ((i:Int)>(0:Int)))&&(decide (x6_15.ID≥x5_1.ID))))||(y6_26 !=(0:Int))) (
    some (.inr false))<|
   some (.inl (w64 ((i:Int)+(1:Int))))) (Option.map Sum.inr (some true)):Option (Int⊕Bool))=some (.inr false))∧
  (¬ ¬okRec l i→(cond (decide ((i:Int)<(l.length:Int))) (
   Option.bind (idx l (i:Int)) fun x5_1=>
   Option.bind (gd ((!((decide (x5_1.ID<(0:Int)))||(decide (x5_1.ID>(1048576:Int)))))&&(decide ((i:Int)>(0:Int)))) (idx l (w64 ((i:Int)-(1:Int))))) fun x6_15=>
   Option.bind (gd (!(((decide (x5_1.ID<(0:Int)))||(decide (x5_1.ID>(1048576:Int))))||((decide ((i:Int)>(0:Int)))&&(decide (x6_15.ID≥x5_1.ID))))) (V x5_1.Synopsis)) fun y6_26=>
   cond ((((decide (x5_1.ID<(0:Int)))||(decide (x5_1.ID>(1048576:Int))))||((decide ((i:Int)>(0:Int)))&&(decide (x6_15.ID≥x5_1.ID))))||(y6_26 !=(0:Int))) (
    some (.inr false))<|
   some (.inl (w64 ((i:Int)+(1:Int))))) (Option.map Sum.inr (some true)):Option (Int⊕Bool))=some (.inl ((i+1:Nat):Int))):=by
 rw [decide_eq_true (by omega:(i:Int)<(l.length:Int)),cond_true,el_idx hi,Option.bind_some,succW hi hl,hV]
 by_cases g1:0≤(el l i).ID∧(el l i).ID≤1048576
 ·have e1:(decide ((el l i).ID<0)||decide ((el l i).ID>1048576))=false:=by
   rw [Bool.eq_false_iff];simp only [Bool.or_eq_true,decide_eq_true_eq,Ne];omega
  rw [e1]
  simp only [Bool.not_false,Bool.true_and,Bool.false_or]
  rcases i with _|i
  ·have e4:decide (((0:Nat):Int)>0)=false:=rfl
   rw [e4]
   simp only [gd_false,Option.bind_some,Bool.false_and,Bool.not_false,gd_true,Bool.false_or]
   refine step_iff ?_
   rw [vOf_bne]
   unfold okRec
   exact ⟨fun h h2=>h h2.2.2,fun h h2=>h ⟨g1,fun h3=>absurd h3 (by decide),h2⟩⟩
  ·have e4:decide (((i+1:Nat):Int)>0)=true:=decide_eq_true (by omega)
   rw [e4,predW (by omega) (Nat.le_of_lt hi) hl,Nat.add_sub_cancel,el_idx (by omega)]
   simp only [gd_true,Option.bind_some,Bool.true_and]
   by_cases g2:(el l i).ID≥(el l (i+1)).ID
   ·rw [decide_eq_true g2]
    simp only [Bool.not_true,gd_false,Option.bind_some,Bool.true_or,cond_true]
    refine ⟨fun _=>trivial,fun h=>absurd (fun h2=> ?_) h⟩
    have:=h2.2.1 (by omega)
    rw [Nat.add_sub_cancel] at this
    omega
   ·rw [decide_eq_false g2]
    simp only [Bool.not_false,gd_true,Option.bind_some,Bool.false_or]
    refine step_iff ?_
    rw [vOf_bne]
    unfold okRec
    exact ⟨fun h h2=>h h2.2.2,fun h h2=>h ⟨g1,fun _=>by rw [Nat.add_sub_cancel];omega,h2⟩⟩
 ·have e1:(decide ((el l i).ID<0)||decide ((el l i).ID>1048576))=true:=by
   simp only [Bool.or_eq_true,decide_eq_true_eq];omega
  rw [e1]
  simp only [Bool.not_true,Bool.false_and,gd_false,Option.bind_some,Bool.true_or,cond_true]
  exact ⟨fun _=>trivial,fun h=>absurd (fun h2=>g1 h2.1) h⟩
theorem registry_valid (l:List api_Record) (limit:Int) (w:wfLU wfU_api_Record l):registry_Valid l limit=some (bOf (okRg l limit))∧ref26_Valid l limit=some (bOf (okRg l limit)):=by
 have hl:=len_max w.1
 unfold registry_Valid ref26_Valid
 by_cases h1:(1≤limit∧limit≤64)∧(l.length:Int)≤limit
 ·have e:((decide (limit<(1:Int))||decide (limit>(64:Int)))||decide ((l.length:Int)>limit))=false:=by
   rw [Bool.eq_false_iff];simp only [Bool.or_eq_true,decide_eq_true_eq,Ne];omega
  rw [e,cond_false,cond_false]
  have H1:=loop_prop (f:=fun s:Int=>registry_Valid_l3s l s) l.length (fun i=> ¬okRec l i) false (some true)
   (fun i hi _=>rec_step hl hi synopsis_Validate (synopsis_validate _ (wfR_syn w hi)).1)
   (fun _=>by
    unfold registry_Valid_l3s
    rw [decide_eq_false (Int.lt_irrefl _),cond_false])
  have H2:=loop_prop (f:=fun s:Int=>ref26_Valid_l3s l s) l.length (fun i=> ¬okRec l i) false (some true)
   (fun i hi _=>rec_step hl hi ref25_Validate (synopsis_validate _ (wfR_syn w hi)).2)
   (fun _=>by
    unfold ref26_Valid_l3s
    rw [decide_eq_false (Int.lt_irrefl _),cond_false])
  unfold registry_Valid_l3 ref26_Valid_l3
  by_cases h2: ∀i,i<l.length→okRec l i
  ·rw [H1.2 fun i hi hn=>hn (h2 i hi),H2.2 fun i hi hn=>hn (h2 i hi),bOf_t ⟨h1,h2⟩]
   exact ⟨rfl,rfl⟩
  ·rw [H1.1 (not_all h2),H2.1 (not_all h2),bOf_f fun h=>h2 h.2]
   exact ⟨rfl,rfl⟩
 ·have e:((decide (limit<(1:Int))||decide (limit>(64:Int)))||decide ((l.length:Int)>limit))=true:=by
   simp only [Bool.or_eq_true,decide_eq_true_eq];omega
  rw [e,cond_true,cond_true,bOf_f fun h=>h1 h.1]
  exact ⟨rfl,rfl⟩
end Go.Win
