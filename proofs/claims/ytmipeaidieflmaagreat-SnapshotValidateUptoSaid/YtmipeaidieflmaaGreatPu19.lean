/- Pu: chapter 19, samples of chains. -/
import Derived.Test.YtmipeaidieflmaaGreatPu18
import Derived.Test.YtmipeaidieflmaaGreatWin
set_option linter.unusedVariables false
set_option linter.unusedSimpArgs false
set_option linter.unnecessarySimpa false
set_option linter.unusedSectionVars false
namespace Go.Win
open Go.Vc Go.Dec
theorem bind_congr {α β:Type} {m:Option α} {f g:α→Option β} (h: ∀x,m=some x→f x=g x):m.bind f=m.bind g:=by
 cases m with
 |none=>rfl
 |some x=>exact h x rfl
theorem idx_mem {α:Type} {l:List α} {i:Int} {x:α} (h:idx l i=some x):x∈l:=List.mem_of_getElem? (idx_some h).2
theorem numbers_refl (l:List Int) (hl:l.length≤maxLen):ref09_SameNumbers l l=some true:=by
 have h:ref09_SameNumbers_l3 l l 0=cond ((List.range l.length).any fun _=>false) (some false) (some true):=by
  unfold ref09_SameNumbers_l3
  refine loop_all (fun i hi=> ?_) ?_
  ·unfold ref09_SameNumbers_l3s
   simp [hi,succ_nat hi hl]
  ·unfold ref09_SameNumbers_l3s
   simp
 have hf:((List.range l.length).any fun _=>false)=false:=by simp
 rw [hf] at h
 unfold ref09_SameNumbers
 simp [h]
theorem same19_refl (x:api_Sample) (hl:x.Chains.length≤maxLen) (hc: ∀c∈x.Chains,c.Links.length≤maxLen):ref19_Same x x=some true:=by
 have h:ref19_Same_l3 x x 0=cond ((List.range x.Chains.length).any fun _=>false) (some false) (some true):=by
  unfold ref19_Same_l3
  refine loop_all (fun i hi=> ?_) ?_
  ·unfold ref19_Same_l3s
   have:=same18_refl x.Chains[i] (hc _ (List.getElem_mem hi))
   simp [hi,succ_nat hi hl,this]
  ·unfold ref19_Same_l3s
   simp
 have hf:((List.range x.Chains.length).any fun _=>false)=false:=by simp
 rw [hf] at h
 unfold ref19_Same
 simp [h]
theorem validate19_eq (s:api_Sample) (hc: ∀c∈s.Chains,c.Links.length≤maxLen):sample_Validate s=ref19_Validate s:=by
 have e:sample_Validate_l3s s=ref19_Validate_l3s s:=by
  funext i
  unfold sample_Validate_l3s ref19_Validate_l3s
  congr 1
  refine bind_congr fun x hx=>bind_congr fun y _=> ?_
  rw [validate_eq x (hc x (idx_mem hx))]
 unfold sample_Validate ref19_Validate sample_Validate_l3 ref19_Validate_l3
 rw [e]
theorem validate19_total (s:api_Sample) (hl:s.Chains.length≤maxLen) (hc: ∀c∈s.Chains,c.Links.length≤maxLen):
  ∃r,sample_Validate s=some r∧(r=0→1≤s.Chains.length∧s.Chains.length≤16∧ ∀c∈s.Chains,chain_Validate c=some 0):=by
 unfold sample_Validate
 by_cases h:(decide ((s.Chains.length:Int)<1)||decide ((s.Chains.length:Int)>16))=true
 ·rw [h]
  exact ⟨2,rfl,fun h=>by simp at h⟩
 ·rw [Bool.not_eq_true] at h
  rw [h,cond_false]
  simp only [Bool.or_eq_false_iff,decide_eq_false_iff_not] at h
  unfold sample_Validate_l3
  obtain ⟨r,hr,hQ⟩:=loop_ind (f:=fun i:Int=>sample_Validate_l3s s i) (fun i=> ∃k:Nat,i=(k:Int)∧k≤s.Chains.length∧ ∀j (hj:j<s.Chains.length),j<k→chain_Validate s.Chains[j]=some 0)
   (fun i=>s.Chains.length-i.toNat) (fun r=>r=2∨(r=0∧ ∀c∈s.Chains,chain_Validate c=some 0)) 0 ⟨0,rfl,Nat.zero_le _,fun j _ hj=>by omega⟩ (by
    rintro _ ⟨k,rfl,hk,hv⟩
    unfold sample_Validate_l3s
    by_cases hlt:k<s.Chains.length
    ·obtain ⟨q,hq,_⟩:=validate_total s.Chains[k] (hc _ (List.getElem_mem hlt))
     have h0:idx s.Chains (0:Int)=some (s.Chains[0]'(by omega)):=by
      have:=get_some (show 0<s.Chains.length by omega)
      simp [idx,this]
     simp only [Int.ofNat_lt,hlt,decide_true,cond_true,idx_nat,get_some hlt,Option.bind_some,h0,hq]
     cases hb:(((q !=0)||(s.Chains[k].W !=(s.Chains[0]'(by omega)).W))||(s.Chains[k].Cap !=(s.Chains[0]'(by omega)).Cap))||(s.Chains[k].I !=(s.Chains[0]'(by omega)).I) with
     |true=>exact .inr ⟨2,rfl, .inl rfl⟩
     |false=>
      simp only [Bool.or_eq_false_iff,bne_eq_false_iff_eq] at hb
      left
      refine ⟨(k:Int)+1,by rw [succ_nat hlt hl];rfl,⟨k+1,by simp,hlt,fun j hj hjk=> ?_⟩,by omega⟩
      by_cases hjk2:j=k
      ·subst hjk2;rw [hq,hb.1.1.1]
      ·exact hv j hj (by omega)
    ·right
     have: ¬((k:Int)<(s.Chains.length:Int)):=by omega
     simp only [this,decide_false,cond_false]
     refine ⟨0,rfl, .inr ⟨rfl,fun c hcm=> ?_⟩⟩
     obtain ⟨j,hj,rfl⟩:=List.mem_iff_getElem.1 hcm
     exact hv j hj (by omega))
  refine ⟨r,hr,fun h0=>⟨by omega,by omega, ?_⟩⟩
  rcases hQ with hQ|hQ
  ·omega
  ·exact hQ.2
end Go.Win
