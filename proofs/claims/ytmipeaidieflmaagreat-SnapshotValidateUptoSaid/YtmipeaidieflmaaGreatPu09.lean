/- Pu: chapters 08 and 09: items that are in order, items that are live, recent items. -/
import Derived.Test.YtmipeaidieflmaaGreatPu0
import Derived.Test.YtmipeaidieflmaaGreatWin
set_option linter.unusedVariables false
set_option linter.unusedSimpArgs false
set_option linter.unnecessarySimpa false
set_option linter.unusedSectionVars false
namespace Go.Win
open Go.Vc Go.Dec
theorem valid_eq:exact_Valid=ref08_Valid:=rfl
theorem value_eq:recent_value=ref09_Value:=rfl
theorem good_eq (a b c:Int):recent_good a b c=ref09_May a b c:=by
 unfold recent_good ref09_May ref06_Window ref06_Tick
 rw [Bool.eq_iff_iff]
 simp only [Bool.and_eq_true,decide_eq_true_eq]
 omega
theorem live_eq (n w t:Int):clock_Live n w t=ref06_Live n w t:=by
 unfold clock_Live clock_First ref06_Live ref06_Tick ref06_Window
 have e:clock_tick=exact_tick:=rfl
 rw [e]
 unfold exact_tick
 by_cases h1:n≥0∧n≤16777216
 ·by_cases h2:w≥1∧w≤1048576
  ·have c:(((!(decide (n≥0)&&decide (n≤16777216)))||decide (w<1))||decide (w>1048576))=false:=by
    simp only [Bool.or_eq_false_iff,Bool.not_eq_false',Bool.and_eq_true,decide_eq_true_eq,decide_eq_false_iff_not];omega
   simp only [c,cond_false]
   have e1:w64 (n-w)=n-w:=by rw [w64_id]<;>omega
   have e2:w64 (n-w+1)=n-w+1:=by rw [w64_id]<;>omega
   rw [e1,e2,Bool.eq_iff_iff]
   simp only [Bool.and_eq_true,decide_eq_true_eq,imax]
   split<;>omega
  ·have c:(((!(decide (n≥0)&&decide (n≤16777216)))||decide (w<1))||decide (w>1048576))=true:=by
    simp only [Bool.or_eq_true,Bool.not_eq_true',Bool.and_eq_false_iff,decide_eq_true_eq,decide_eq_false_iff_not];omega
   have d:(decide (w≥1)&&decide (w≤1048576))=false:=by
    simp only [Bool.and_eq_false_iff,decide_eq_false_iff_not];omega
   simp only [c,d,cond_true,Bool.and_false,Bool.false_and]
   rfl
 ·have c:(((!(decide (n≥0)&&decide (n≤16777216)))||decide (w<1))||decide (w>1048576))=true:=by
   simp only [Bool.or_eq_true,Bool.not_eq_true',Bool.and_eq_false_iff,decide_eq_true_eq,decide_eq_false_iff_not];omega
  have d:(decide (n≥0)&&decide (n≤16777216))=false:=by
   simp only [Bool.and_eq_false_iff,decide_eq_false_iff_not];omega
  simp only [c,d,cond_true,Bool.false_and]
  rfl
def badV (l:List api_Item) (now:Int) (i:Nat):Bool:=match l[i]? with
 |none=>false
 |some p=>(decide (p.T<0)||decide (p.T>now))||(decide (0<i)&&match l[i-1]? with
  |some q=>decide (q.T>p.T)
  |none=>false)
noncomputable def validS (l:List api_Item) (now:Int):Bool:=ref06_Tick now&& !(List.range l.length).any (badV l now)
theorem pred_nat {i:Nat} (h:0<i) (hm:i≤maxLen):w64 ((i:Int)-1)=((i-1:Nat):Int):=by
 rw [maxLen_eq] at hm
 rw [w64_id]<;>omega
theorem succ_nat {i n:Nat} (h:i<n) (hm:n≤maxLen):w64 ((i:Int)+1)=(i:Int)+1:=by
 rw [maxLen_eq] at hm
 rw [w64_id]<;>omega
theorem get_some {α:Type} {l:List α} {i:Nat} (h:i<l.length):l[i]? =some l[i]:=List.getElem?_eq_getElem h
theorem valid_spec (l:List api_Item) (now:Int) (hl:l.length≤maxLen):ref08_Valid l now=some (validS l now):=by
 unfold ref08_Valid validS
 cases ht:ref06_Tick now with
 |false=>rfl
 |true=>
  have h:ref08_Valid_l3 l now 0=cond ((List.range l.length).any (badV l now)) (some false) (some true):=by
   unfold ref08_Valid_l3
   refine loop_all (fun i hi=> ?_) ?_
   ·have hs:=succ_nat hi hl
    unfold ref08_Valid_l3s badV
    simp only [Int.ofNat_lt,hi,decide_true,cond_true,idx_nat,get_some hi,Option.bind_some,hs]
    by_cases h0:0<i
    ·have hp:=pred_nat h0 (Nat.le_trans (Nat.le_of_lt hi) hl)
     have h3:((i:Int)>0):=by omega
     simp only [hp,idx_nat,get_some (show i-1<l.length by omega),h3,h0,decide_true,Bool.true_and,Bool.and_true]
     cases (decide (l[i].T<0)||decide (l[i].T>now))<;>simp
    ·have h3: ¬((i:Int)>0):=by omega
     simp only [h3,h0,decide_false,gd_false,Option.bind_some,Bool.false_and,Bool.and_false,Bool.or_false]
   ·unfold ref08_Valid_l3s
    simp
  simp only [Bool.not_true,cond_false,h]
  cases (List.range l.length).any (badV l now)<;>rfl
theorem items_refl (l:List api_Item) (hl:l.length≤maxLen):ref05_SameItems l l=some true:=by
 have h:ref05_SameItems_l3 l l 0=cond ((List.range l.length).any fun _=>false) (some false) (some true):=by
  unfold ref05_SameItems_l3
  refine loop_all (fun i hi=> ?_) ?_
  ·unfold ref05_SameItems_l3s
   simp [hi,succ_nat hi hl]
  ·unfold ref05_SameItems_l3s
   simp
 have hf:((List.range l.length).any fun _=>false)=false:=by simp
 rw [hf] at h
 unfold ref05_SameItems
 simp [h]
theorem same9_refl (x:api_Recent) (hl:x.Items.length≤maxLen):ref09_Same x x=some true:=by
 unfold ref09_Same
 simp [items_refl x.Items hl]
theorem validate9_eq (x:api_Recent):recent_Validate x=ref09_Validate x:=by
 have e:recent_Validate_l3s=ref09_Validate_l3s:=by
  funext x i
  unfold recent_Validate_l3s ref09_Validate_l3s
  simp only [live_eq,value_eq]
 unfold recent_Validate ref09_Validate recent_Validate_l3 ref09_Validate_l3
 rw [e,good_eq,valid_eq]
noncomputable def okV (x:api_Recent):Bool:=(ref09_May x.W x.Cap x.Now&&decide ((x.Items.length:Int)≤x.Cap))&&(validS x.Items x.Now&&x.Items.all fun p=>ref06_Live x.Now x.W p.T&&ref09_Value p.V)
theorem any_all {α:Type} {l:List α} {p:α→Bool}:(List.range l.length).any (fun i=>match l[i]? with
  |some x=> !p x
  |none=>false)= !l.all p:=by
 rw [Bool.eq_iff_iff,any_iff]
 constructor
 ·rintro ⟨i,hi,h⟩
  rw [get_some hi] at h
  simp only [Bool.not_eq_true'] at h⊢
  rw [List.all_eq_false]
  exact ⟨l[i],List.getElem_mem hi,by simp [h]⟩
 ·intro h
  simp only [Bool.not_eq_true'] at h
  rw [List.all_eq_false] at h
  obtain ⟨x,hx,hp⟩:=h
  obtain ⟨i,hi,rfl⟩:=List.mem_iff_getElem.1 hx
  refine ⟨i,hi, ?_⟩
  rw [get_some hi]
  simpa using hp
theorem validate9_spec (x:api_Recent) (hl:x.Items.length≤maxLen):ref09_Validate x=some (if okV x then 0 else 2):=by
 have h:ref09_Validate_l3 x 0=cond (!(x.Items.all fun p=>ref06_Live x.Now x.W p.T&&ref09_Value p.V)) (some 2) (some 0):=by
  rw [←any_all]
  unfold ref09_Validate_l3
  refine loop_all (fun i hi=> ?_) ?_
  ·unfold ref09_Validate_l3s
   simp only [Int.ofNat_lt,hi,decide_true,cond_true,idx_nat,get_some hi,Option.bind_some,succ_nat hi hl,Bool.not_and]
  ·unfold ref09_Validate_l3s
   simp
 unfold ref09_Validate okV
 rw [valid_spec x.Items x.Now hl,h]
 have hd:decide ((x.Items.length:Int)>x.Cap)= !decide ((x.Items.length:Int)≤x.Cap):=by
  rw [Bool.eq_iff_iff];simp
 rw [hd]
 cases ref09_May x.W x.Cap x.Now<;>cases decide ((x.Items.length:Int)≤x.Cap)<;>cases validS x.Items x.Now<;>cases (x.Items.all fun p=>ref06_Live x.Now x.W p.T&&ref09_Value p.V)<;>rfl
end Go.Win
