/- Pu: chapter 18, chains. -/
import Derived.Test.YtmipeaidieflmaaGreatPu0
import Derived.Test.YtmipeaidieflmaaGreatWin
set_option linter.unusedVariables false
set_option linter.unusedSimpArgs false
set_option linter.unnecessarySimpa false
set_option linter.unusedSectionVars false
namespace Go.Win
open Go.Vc Go.Dec
def badC (x:api_Chain) (i:Nat):Bool:=match x.Links[i]? with
 |none=>false
 |some l=>(((((decide (l.V<(-4096:Int)))||(decide (l.V>(4096:Int))))||(decide (l.I<(1:Int))))||(decide (l.I>x.I)))||(decide (l.I≤(w64 (x.I-x.W)))))||
  (decide (0<i)&&match x.Links[i-1]? with
   |none=>false
   |some p=>decide (l.I≤p.I)||decide (l.I>w64 (p.I+x.W)))
noncomputable def badR (x:api_Chain) (i:Nat):Bool:=match x.Links[i]? with
 |none=>false
 |some l=>((!(ref09_Value l.V))||(decide (l.I>x.I)))||
  (decide (0<i)&&match x.Links[i-1]? with
   |none=>false
   |some p=>decide (l.I≤p.I)||decide (l.I>w64 (p.I+x.W)))
def aftC (p0:api_Chain):Option Int:=(Option.bind (gd (!(decide (p0.Next≤p0.I))) (idx p0.Links (w64 ((p0.Links.length:Int)-(1:Int))))) fun x17_14=>
 cond ((decide (p0.Next≤p0.I))||(decide (p0.Next>(w64 (x17_14.I+p0.W))))) (
  some (2:Int))<|
 some (0:Int))
theorem pred_nat {i:Nat} (h:0<i) (hm:i≤maxLen):w64 ((i:Int)-1)=((i-1:Nat):Int):=by
 rw [maxLen_eq] at hm
 rw [w64_id]<;>omega
theorem succ_nat {i n:Nat} (h:i<n) (hm:n≤maxLen):w64 ((i:Int)+1)=(i:Int)+1:=by
 rw [maxLen_eq] at hm
 rw [w64_id]<;>omega
theorem loopC (x:api_Chain) (hl:x.Links.length≤maxLen):chain_Validate_l6 x 0=cond ((List.range x.Links.length).any (badC x)) (some 2) (aftC x):=by
 unfold chain_Validate_l6
 refine loop_all (fun i hi=> ?_) ?_
 ·have h1:x.Links[i]? =some x.Links[i]:=List.getElem?_eq_getElem hi
  have hs:=succ_nat hi hl
  unfold chain_Validate_l6s badC
  simp only [Int.ofNat_lt,hi,decide_true,cond_true,idx_nat,h1,Option.bind_some,hs]
  by_cases h0:0<i
  ·have hp:=pred_nat h0 (Nat.le_trans (Nat.le_of_lt hi) hl)
   have h2:x.Links[i-1]? =some x.Links[i-1]:=List.getElem?_eq_getElem (by omega)
   have h3:((i:Int)>0):=by omega
   simp only [hp,idx_nat,h2,h3,h0,decide_true,gd_true,Option.bind_some,Bool.true_and]
   cases decide (x.Links[i].I≤x.Links[i-1].I)<;>cases (((((decide (x.Links[i].V<(-4096:Int)))||(decide (x.Links[i].V>(4096:Int))))||(decide (x.Links[i].I<(1:Int))))||(decide (x.Links[i].I>x.I)))||(decide (x.Links[i].I≤(w64 (x.I-x.W)))))<;>simp
  ·have h3: ¬((i:Int)>0):=by omega
   simp only [h3,h0,decide_false,gd_false,Option.bind_some,Bool.false_and,cond_false,Bool.or_false]
 ·unfold chain_Validate_l6s
  simp only [Int.lt_irrefl,decide_false,cond_false]
  rfl
theorem loopR (x:api_Chain) (hl:x.Links.length≤maxLen):ref18_Validate_l6 x 0=cond ((List.range x.Links.length).any (badR x)) (some 2) (aftC x):=by
 unfold ref18_Validate_l6
 refine loop_all (fun i hi=> ?_) ?_
 ·have h1:x.Links[i]? =some x.Links[i]:=List.getElem?_eq_getElem hi
  have hs:=succ_nat hi hl
  unfold ref18_Validate_l6s badR
  simp only [Int.ofNat_lt,hi,decide_true,cond_true,idx_nat,h1,Option.bind_some,hs]
  by_cases h0:0<i
  ·have hp:=pred_nat h0 (Nat.le_trans (Nat.le_of_lt hi) hl)
   have h2:x.Links[i-1]? =some x.Links[i-1]:=List.getElem?_eq_getElem (by omega)
   have h3:((i:Int)>0):=by omega
   simp only [hp,idx_nat,h2,h3,h0,decide_true,Bool.true_and,Bool.and_true]
   by_cases hA:x.Links[i].I≤x.Links[i-1].I<;>cases ((!(ref09_Value x.Links[i].V))||(decide (x.Links[i].I>x.I)))<;>simp [hA]
  ·have h3: ¬((i:Int)>0):=by omega
   simp only [h3,h0,decide_false,gd_false,Option.bind_some,Bool.false_and,Bool.and_false,Bool.or_false]
 ·unfold ref18_Validate_l6s
  simp only [Int.lt_irrefl,decide_false,cond_false]
  rfl
theorem get_some {α:Type} {l:List α} {i:Nat} (h:i<l.length):l[i]? =some l[i]:=List.getElem?_eq_getElem h
theorem asc (x:api_Chain) (h: ∀i,i<x.Links.length→badR x i=false): ∀i (hi:i<x.Links.length),x.Links[0].I≤x.Links[i].I:=by
 intro i
 induction i with
 |zero=>intro hi;exact Int.le_refl _
 |succ i ih=>
  intro hi
  have h1:=ih (by omega)
  have h2:=h (i+1) hi
  simp only [badR,get_some hi,Nat.add_sub_cancel,get_some (show i<x.Links.length by omega),Nat.succ_pos,decide_true,Bool.true_and,Bool.or_eq_false_iff,decide_eq_false_iff_not] at h2
  omega
def firstBad (x:api_Chain):Bool:=match x.Links[0]? with
 |none=>false
 |some l=>decide (l.I≤w64 (x.I-x.W))||decide (l.I<1)
theorem anyCR (x:api_Chain):(List.range x.Links.length).any (badC x)=(firstBad x||(List.range x.Links.length).any (badR x)):=by
 rw [Bool.eq_iff_iff,Bool.or_eq_true,any_iff,any_iff]
 constructor
 ·rintro ⟨i,hi,hb⟩
  by_cases hR: ∃i,i<x.Links.length∧badR x i=true
  ·exact .inr hR
  ·left
   have hno: ∀i,i<x.Links.length→badR x i=false:=fun i hi=>by
    cases h:badR x i with
    |false=>rfl
    |true=>exact absurd ⟨i,hi,h⟩ hR
   have ha:=asc x hno i hi
   have h2:=hno i hi
   have h0:0<x.Links.length:=by omega
   simp only [firstBad,get_some h0,Bool.or_eq_true,decide_eq_true_eq]
   simp only [badR,get_some hi,ref09_Value,Bool.or_eq_false_iff,Bool.not_eq_false',Bool.and_eq_true,decide_eq_true_eq,decide_eq_false_iff_not] at h2
   simp only [badC,get_some hi,Bool.or_eq_true,decide_eq_true_eq] at hb
   obtain ⟨⟨⟨h3,h4⟩,h5⟩,h6⟩:=h2
   rcases hb with hb|hb
   ·omega
   ·rw [h6] at hb;cases hb
 ·rintro (h|⟨i,hi,hb⟩)
  ·have h0:0<x.Links.length:=by
    rcases Nat.eq_zero_or_pos x.Links.length with h0|h0
    ·simp [firstBad,List.eq_nil_of_length_eq_zero h0] at h
    ·exact h0
   refine ⟨0,h0, ?_⟩
   simp only [firstBad,get_some h0,Bool.or_eq_true,decide_eq_true_eq] at h
   simp only [badC,get_some h0,Bool.or_eq_true,decide_eq_true_eq]
   left
   omega
  ·refine ⟨i,hi, ?_⟩
   simp only [badR,get_some hi,ref09_Value,Bool.or_eq_true,Bool.not_eq_true',Bool.and_eq_false_iff,decide_eq_true_eq,decide_eq_false_iff_not] at hb
   simp only [badC,get_some hi,Bool.or_eq_true,decide_eq_true_eq]
   rcases hb with hb|hb
   ·left;omega
   ·exact .inr hb
theorem validate_eq (x:api_Chain) (hl:x.Links.length≤maxLen):chain_Validate x=ref18_Validate x:=by
 unfold chain_Validate ref18_Validate
 simp only [loopC x hl,loopR x hl,anyCR x]
 have e1:(((((((decide (x.W<(1:Int)))||(decide (x.W>(1048576:Int))))||(decide (x.Cap<(1:Int))))||(decide (x.Cap>(64:Int))))||(decide (x.I<(0:Int))))||(decide (x.I>(1099511627776:Int))))||(decide ((x.Links.length:Int)>x.Cap)))
  =((((((!(ref06_Window x.W))||(decide (x.Cap<(1:Int))))||(decide (x.Cap>(64:Int))))||(decide (x.I<(0:Int))))||(decide (x.I>(1099511627776:Int))))||(decide ((x.Links.length:Int)>x.Cap))):=by
  rw [Bool.eq_iff_iff]
  simp only [ref06_Window,Bool.or_eq_true,Bool.not_eq_true',Bool.and_eq_false_iff,decide_eq_true_eq,decide_eq_false_iff_not]
  omega
 rw [e1]
 congr 2
 ·rw [show decide ((x.Links.length:Int)>0)=((x.Links.length:Int) !=0) by rw [Bool.eq_iff_iff,decide_eq_true_eq,bne_iff_ne];omega]
 ·by_cases h0:x.Links= []
  ·simp [h0]
  ·have h1:0<x.Links.length:=List.length_pos_iff.2 h0
   have h2:((x.Links.length:Int)==0)=false:=by rw [beq_eq_false_iff_ne];omega
   have h3:idx x.Links (0:Int)=some x.Links[0]:=by simp [idx,h1]
   simp only [h2,h3,cond_false,Bool.not_false,gd_true,Option.bind_some,Bool.false_or,firstBad,get_some h1]
   by_cases hA:x.Links[0].I≤w64 (x.I-x.W)<;>by_cases hB:x.Links[0].I<1<;>simp [hA,hB]
theorem same18_refl (x:api_Chain) (hl:x.Links.length≤maxLen):ref18_Same x x=some true:=by
 unfold ref18_Same
 have h:ref18_Same_l3 x x 0=cond ((List.range x.Links.length).any fun _=>false) (some false) (some true):=by
  unfold ref18_Same_l3
  refine loop_all (fun i hi=> ?_) ?_
  ·unfold ref18_Same_l3s
   simp [hi,succ_nat hi hl]
  ·unfold ref18_Same_l3s
   simp
 have hf:((List.range x.Links.length).any fun _=>false)=false:=by simp
 rw [hf] at h
 simp [h]
theorem validate_total (x:api_Chain) (hl:x.Links.length≤maxLen): ∃r,chain_Validate x=some r∧(r=0→0≤x.I∧x.I≤1099511627776∧1≤x.W∧x.W≤1048576∧1≤x.Cap∧x.Cap≤64∧(x.Links.length:Int)≤x.Cap∧(x.Links= []→x.I=0)∧(x.I=0→x.Next=0)):=by
 unfold chain_Validate
 simp only [loopC x hl]
 by_cases h:(((((((decide (x.W<(1:Int)))||(decide (x.W>(1048576:Int))))||(decide (x.Cap<(1:Int))))||(decide (x.Cap>(64:Int))))||(decide (x.I<(0:Int))))||(decide (x.I>(1099511627776:Int))))||(decide ((x.Links.length:Int)>x.Cap)))=true
 ·rw [h]
  exact ⟨2,rfl,fun h=>by simp at h⟩
 ·rw [Bool.not_eq_true] at h
  rw [h]
  simp only [Bool.or_eq_false_iff,decide_eq_false_iff_not] at h
  by_cases h0:x.I=0
  ·simp only [h0,beq_self_eq_true,cond_true,cond_false]
   cases hc:(decide ((x.Links.length:Int)>(0:Int))||(x.Next !=(0:Int)))
   ·simp only [Bool.or_eq_false_iff,bne_eq_false_iff_eq] at hc
    exact ⟨0,rfl,fun _=>⟨by omega,by omega,by omega,by omega,by omega,by omega,by omega,fun _=>trivial,fun _=>hc.2⟩⟩
   ·exact ⟨2,rfl,fun h=>by simp at h⟩
  ·have h0' :(x.I==0)=false:=by rw [beq_eq_false_iff_ne];exact h0
   simp only [h0',cond_false]
   by_cases h1:x.Links= []
   ·rw [h1]
    exact ⟨2,rfl,fun h=>by simp at h⟩
   ·have h2:((x.Links.length:Int)==0)=false:=by
     have:=List.length_pos_iff.2 h1
     rw [beq_eq_false_iff_ne];omega
    simp only [h2,cond_false]
    have all: ∀r:Int,(r=0→0≤x.I∧x.I≤1099511627776∧1≤x.W∧x.W≤1048576∧1≤x.Cap∧x.Cap≤64∧(x.Links.length:Int)≤x.Cap∧(x.Links= []→x.I=0)∧(x.I=0→x.Next=0)):=fun _ _=>⟨by omega,by omega,by omega,by omega,by omega,by omega,by omega,fun h=>absurd h h1,fun h=>absurd h h0⟩
    cases (List.range x.Links.length).any (badC x) with
    |true=>exact ⟨2,rfl,all _⟩
    |false=>
     simp only [cond_false]
     unfold aftC
     have hp:=List.length_pos_iff.2 h1
     have hw:=pred_nat hp hl
     simp only [hw,idx_nat,get_some (show x.Links.length-1<x.Links.length by omega)]
     by_cases hN:x.Next≤x.I
     ·simp only [hN,decide_true,Bool.not_true,gd_false,Option.bind_some,Bool.true_or,cond_true]
      exact ⟨2,rfl,all _⟩
     ·simp only [hN,decide_false,Bool.not_false,gd_true,Option.bind_some,Bool.false_or]
      cases decide (x.Next>w64 ((x.Links[x.Links.length-1]'(by omega)).I+x.W))
      ·exact ⟨0,rfl,all _⟩
      ·exact ⟨2,rfl,all _⟩
end Go.Win
