/- Pu: chapter 21: summaries of ranks: which are valid; their gaps. -/
import Derived.Test.YtmipeaidieflmaaGreatPuSums2
set_option linter.unusedVariables false
set_option linter.unusedSimpArgs false
set_option linter.unnecessarySimpa false
set_option linter.unusedSectionVars false
namespace Go.Win
open Go.Vc Go.Dec
def ent (l:List api_Entry) (i:Nat):api_Entry:=l.getD i default
theorem ent_some {l:List api_Entry} {i:Nat} (h:i<l.length):l[i]? =some (ent l i):=by
 unfold ent
 rw [get_some h]
 simp [List.getD,get_some h]
theorem ent_idx {l:List api_Entry} {i:Nat} (h:i<l.length):idx l (i:Int)=some (ent l i):=by
 rw [idx_nat,ent_some h]
def badE (l:List api_Entry) (N:Int) (i:Nat):Bool:=
 ((decide ((ent l i).Min<1)||decide ((ent l i).Min>(ent l i).Max))||decide ((ent l i).Max>N))||
 (decide (0<i)&&((decide ((ent l (i-1)).V>(ent l i).V)||decide ((ent l (i-1)).Min≥(ent l i).Min))||decide ((ent l (i-1)).Max≥(ent l i).Max)))
def badEnds (l:List api_Entry) (N:Int):Bool:=decide (0<l.length)&&((ent l 0).Max !=1||(ent l (l.length-1)).Min !=N)
def headOk (r:api_Ranks):Bool:= !(((decide (r.N<0))||(decide (r.N>1099511627776)))||(!(((r.Entries.length:Int)==0)==(r.N==0))))
def okB (r:api_Ranks):Bool:=headOk r&& !((List.range r.Entries.length).any (badE r.Entries r.N)||badEnds r.Entries r.N)
theorem predN {i n:Nat} (h0:0<i) (h:i≤n) (hm:n≤maxLen):w64 ((i:Int)-1)=((i-1:Nat):Int):=by
 rw [maxLen_eq] at hm
 rw [w64_id]<;>omega
theorem rank_validate (r:api_Ranks) (hl:r.Entries.length≤1048576):rank_Validate r=some (cond (okB r) 0 2):=by
 have hm:r.Entries.length≤maxLen:=by rw [maxLen_eq];omega
 unfold rank_Validate
 cases hh:headOk r with
 |false=>
  have h1:(((decide (r.N<0))||(decide (r.N>1099511627776)))||(!(((r.Entries.length:Int)==0)==(r.N==0))))=true:=nF (by unfold headOk at hh;exact hh)
  rw [h1,cond_true]
  unfold okB
  rw [hh]
  rfl
 |true=>
  have h1:(((decide (r.N<0))||(decide (r.N>1099511627776)))||(!(((r.Entries.length:Int)==0)==(r.N==0))))=false:=Go.Dec.nT (by unfold headOk at hh;exact hh)
  rw [h1,cond_false]
  unfold rank_Validate_l3
  have:=loop_all (f:=fun s:Int=>rank_Validate_l3s r s) (n:=r.Entries.length) (bad:=badE r.Entries r.N) (E:=(2:Int)) (A:=some (cond (badEnds r.Entries r.N) 2 0))
   (fun i hi=>by
    unfold rank_Validate_l3s badE
    simp only [Int.ofNat_lt,hi,decide_true,cond_true,ent_idx hi,Option.bind_some,succ_nat hi hm]
    by_cases h0:0<i
    ·rw [predN h0 (Nat.le_of_lt hi) hm,ent_idx (by omega),decide_eq_true (by omega:(i:Int)>0),decide_eq_true h0]
     simp only [Option.bind_some,cond_true,Bool.true_and]
     cases ((decide ((ent r.Entries i).Min<1)||decide ((ent r.Entries i).Min>(ent r.Entries i).Max))||decide ((ent r.Entries i).Max>r.N)) with
     |true=>rfl
     |false=>
      simp only [cond_false,Bool.false_or]
    ·rw [decide_eq_false (by omega: ¬(i:Int)>0),decide_eq_false h0]
     simp only [cond_false,Bool.false_and,Bool.or_false])
   (by
    unfold rank_Validate_l3s badEnds
    simp only [Int.lt_irrefl,decide_false,cond_false]
    by_cases h0:0<r.Entries.length
    ·rw [decide_eq_true (by omega:(r.Entries.length:Int)>0),decide_eq_true h0,predN h0 (Nat.le_refl _) hm]
     have e0:idx r.Entries (0:Int)=some (ent r.Entries 0):=ent_idx h0
     rw [e0,ent_idx (by omega)]
     simp only [gd_true,Option.bind_some,Bool.true_and]
     cases hb:(ent r.Entries 0).Max !=1 with
     |true=>simp
     |false=>
      simp only [Bool.not_false,gd_true,Option.bind_some,Bool.false_or]
      cases (ent r.Entries (r.Entries.length-1)).Min !=r.N<;>rfl
    ·rw [decide_eq_false (by omega: ¬(r.Entries.length:Int)>0),decide_eq_false h0]
     simp)
  rw [show ((0:Int))=((0:Nat):Int) from rfl] at this⊢
  rw [this]
  unfold okB
  rw [hh]
  cases (List.range r.Entries.length).any (badE r.Entries r.N)<;>cases badEnds r.Entries r.N<;>rfl
theorem ref_validate (r:api_Ranks) (hl:r.Entries.length≤1048576):ref21_Validate r=some (cond (okB r) 0 2):=by
 have hm:r.Entries.length≤maxLen:=by rw [maxLen_eq];omega
 unfold ref21_Validate
 cases hh:headOk r with
 |false=>
  have h1:(((decide (r.N<0))||(decide (r.N>1099511627776)))||(!(((r.Entries.length:Int)==0)==(r.N==0))))=true:=nF (by unfold headOk at hh;exact hh)
  rw [h1,cond_true]
  unfold okB
  rw [hh]
  rfl
 |true=>
  have h1:(((decide (r.N<0))||(decide (r.N>1099511627776)))||(!(((r.Entries.length:Int)==0)==(r.N==0))))=false:=Go.Dec.nT (by unfold headOk at hh;exact hh)
  rw [h1,cond_false]
  unfold ref21_Validate_l3
  have:=loop_all (f:=fun s:Int=>ref21_Validate_l3s r s) (n:=r.Entries.length)
   (bad:=fun i=>badE r.Entries r.N i||((decide (i=0)&&(ent r.Entries i).Max !=1)||(decide (i=r.Entries.length-1)&&(ent r.Entries i).Min !=r.N))) (E:=(2:Int)) (A:=some 0)
   (fun i hi=>by
    unfold ref21_Validate_l3s badE
    have hlast:w64 ((r.Entries.length:Int)-1)=((r.Entries.length-1:Nat):Int):=predN (by omega) (Nat.le_refl _) hm
    have e1:((i:Int)==0)=decide (i=0):=by rw [Bool.eq_iff_iff,beq_iff_eq,decide_eq_true_eq];omega
    have e2:((i:Int)==((r.Entries.length-1:Nat):Int))=decide (i=r.Entries.length-1):=by rw [Bool.eq_iff_iff,beq_iff_eq,decide_eq_true_eq];omega
    simp only [Int.ofNat_lt,hi,decide_true,cond_true,ent_idx hi,Option.bind_some,succ_nat hi hm,hlast,e1,e2]
    by_cases h0:0<i
    ·rw [predN h0 (Nat.le_of_lt hi) hm,ent_idx (by omega),decide_eq_true (by omega:(i:Int)>0),decide_eq_true h0]
     simp only [Option.bind_some,cond_true,Bool.true_and]
     cases ((decide ((ent r.Entries i).Min<1)||decide ((ent r.Entries i).Min>(ent r.Entries i).Max))||decide ((ent r.Entries i).Max>r.N))<;>
      cases (decide (i=0)&&(ent r.Entries i).Max !=1)<;>cases (decide (i=r.Entries.length-1)&&(ent r.Entries i).Min !=r.N)<;>
      cases ((decide ((ent r.Entries (i-1)).V>(ent r.Entries i).V)||decide ((ent r.Entries (i-1)).Min≥(ent r.Entries i).Min))||decide ((ent r.Entries (i-1)).Max≥(ent r.Entries i).Max))<;>rfl
    ·rw [decide_eq_false (by omega: ¬(i:Int)>0),decide_eq_false h0]
     simp only [cond_false,Bool.false_and,Bool.or_false]
     cases ((decide ((ent r.Entries i).Min<1)||decide ((ent r.Entries i).Min>(ent r.Entries i).Max))||decide ((ent r.Entries i).Max>r.N))<;>
      cases (decide (i=0)&&(ent r.Entries i).Max !=1)<;>cases (decide (i=r.Entries.length-1)&&(ent r.Entries i).Min !=r.N)<;>rfl)
   (by
    unfold ref21_Validate_l3s
    simp only [Int.lt_irrefl,decide_false,cond_false])
  rw [show ((0:Int))=((0:Nat):Int) from rfl] at this⊢
  rw [this]
  have hany:(List.range r.Entries.length).any (fun i=>badE r.Entries r.N i||((decide (i=0)&&(ent r.Entries i).Max !=1)||(decide (i=r.Entries.length-1)&&(ent r.Entries i).Min !=r.N)))=
    ((List.range r.Entries.length).any (badE r.Entries r.N)||badEnds r.Entries r.N):=by
   rw [Bool.eq_iff_iff,Bool.or_eq_true,any_iff,any_iff]
   constructor
   ·rintro ⟨i,hi,h⟩
    simp only [Bool.or_eq_true,Bool.and_eq_true,decide_eq_true_eq] at h
    rcases h with h|⟨rfl,h⟩|⟨rfl,h⟩
    ·exact .inl ⟨i,hi,h⟩
    ·right;unfold badEnds;simp only [Bool.and_eq_true,decide_eq_true_eq,Bool.or_eq_true];exact ⟨hi, .inl h⟩
    ·right;unfold badEnds;simp only [Bool.and_eq_true,decide_eq_true_eq,Bool.or_eq_true];exact ⟨by omega, .inr h⟩
   ·rintro (⟨i,hi,h⟩|h)
    ·exact ⟨i,hi,by rw [h];rfl⟩
    ·unfold badEnds at h
     simp only [Bool.and_eq_true,decide_eq_true_eq,Bool.or_eq_true] at h
     rcases h with ⟨h0,h|h⟩
     ·exact ⟨0,h0,by rw [h];simp⟩
     ·exact ⟨r.Entries.length-1,by omega,by rw [h];simp⟩
  rw [hany]
  unfold okB
  rw [hh]
  cases ((List.range r.Entries.length).any (badE r.Entries r.N)||badEnds r.Entries r.N)<;>rfl
structure OkR (l:List api_Entry) (N:Int):Prop where
 n0:0≤N
 n1:N≤1099511627776
 nil:l.length=0↔N=0
 rng: ∀i,i<l.length→1≤(ent l i).Min∧(ent l i).Min≤(ent l i).Max∧(ent l i).Max≤N
 up: ∀i,i+1<l.length→(ent l i).V≤(ent l (i+1)).V∧(ent l i).Min<(ent l (i+1)).Min∧(ent l i).Max<(ent l (i+1)).Max
 first:0<l.length→(ent l 0).Max=1
 last:0<l.length→(ent l (l.length-1)).Min=N
theorem okB_iff (r:api_Ranks):okB r=true↔OkR r.Entries r.N:=by
 unfold okB headOk badEnds
 have hany:(List.range r.Entries.length).any (badE r.Entries r.N)=false↔ ∀i,i<r.Entries.length→badE r.Entries r.N i=false:=by
  rw [List.any_eq_false]
  constructor
  ·intro h i hi
   have:=h i (List.mem_range.2 hi)
   simpa using this
  ·intro h i hi
   have:=h i (List.mem_range.1 hi)
   simpa using this
 simp only [Bool.and_eq_true,Bool.not_eq_true',Bool.or_eq_false_iff,decide_eq_false_iff_not,Bool.not_eq_false',beq_iff_eq,hany,Bool.and_eq_false_iff,bne_eq_false_iff_eq,gt_iff_lt]
 constructor
 ·rintro ⟨⟨⟨h1,h2⟩,h3⟩,h4,h5⟩
  have h3' :r.Entries.length=0↔r.N=0:=by
   have:=congrArg (· =true) h3
   simp only [beq_iff_eq,eq_iff_iff] at this
   omega
  refine ⟨by omega,by omega,h3',fun i hi=> ?_,fun i hi=> ?_,fun h0=> ?_,fun h0=> ?_⟩
  ·have:=h4 i hi
   unfold badE at this
   simp only [Bool.or_eq_false_iff,decide_eq_false_iff_not] at this
   omega
  ·have:=h4 (i+1) hi
   unfold badE at this
   simp only [Bool.or_eq_false_iff,decide_eq_false_iff_not,Bool.and_eq_false_iff,Nat.add_sub_cancel] at this
   omega
  ·rcases h5 with h5|h5
   ·omega
   ·exact h5.1
  ·rcases h5 with h5|h5
   ·omega
   ·exact h5.2
 ·intro h
  refine ⟨⟨⟨by have:=h.n0;omega,by have:=h.n1;omega⟩, ?_⟩,fun i hi=> ?_, ?_⟩
  ·have:=h.nil
   rw [Bool.eq_iff_iff,beq_iff_eq,beq_iff_eq]
   omega
  ·unfold badE
   have h1:=h.rng i hi
   simp only [Bool.or_eq_false_iff,decide_eq_false_iff_not,Bool.and_eq_false_iff]
   refine ⟨by omega, ?_⟩
   by_cases h0:0<i
   ·right
    have:=h.up (i-1) (by omega)
    rw [show i-1+1=i by omega] at this
    omega
   ·exact .inl h0
  ·by_cases h0:0<r.Entries.length
   ·exact .inr ⟨h.first h0,h.last h0⟩
   ·exact .inl h0
def gapTo (l:List api_Entry):Nat→Int
 |0=>1
 |i+1=>if i=0 then 1 else if (ent l i).Max-(ent l (i-1)).Min>gapTo l i then (ent l i).Max-(ent l (i-1)).Min else gapTo l i
theorem gap_loop (r:api_Ranks) (h:OkR r.Entries r.N) (hl:r.Entries.length≤1048576) (h0:0<r.Entries.length):rank_Gap_l3 r 1 1=some (gapTo r.Entries r.Entries.length):=by
 have hm:r.Entries.length≤maxLen:=by rw [maxLen_eq];omega
 unfold rank_Gap_l3
 obtain ⟨v,hv,hQ⟩:=loop_ind (f:=fun s:Int×Int=>rank_Gap_l3s r s.1 s.2)
  (fun s=> ∃i:Nat,1≤i∧i≤r.Entries.length∧s=(gapTo r.Entries i,(i:Int)))
  (fun s=>r.Entries.length-s.2.toNat) (fun v=>v=gapTo r.Entries r.Entries.length) (1,1) ⟨1,Nat.le_refl _,h0,rfl⟩ (by
   rintro _ ⟨i,h1,hi,rfl⟩
   simp only
   unfold rank_Gap_l3s
   by_cases hlt:i<r.Entries.length
   ·left
    have r1:=h.rng i hlt
    have r2:=h.rng (i-1) (by omega)
    have n1:=h.n1
    simp only [Int.ofNat_lt,hlt,decide_true,cond_true,ent_idx hlt,Option.bind_some,succ_nat hlt hm,predN h1 hi hm,ent_idx (show i-1<r.Entries.length by omega)]
    refine ⟨_,rfl,⟨i+1,by omega,hlt, ?_⟩,by show r.Entries.length-((i:Int)+1).toNat<r.Entries.length-(i:Int).toNat;omega⟩
    rw [w64_id (by omega) (by omega)]
    have:gapTo r.Entries (i+1)=imax (gapTo r.Entries i) ((ent r.Entries i).Max-(ent r.Entries (i-1)).Min):=by
     show (if i=0 then (1:Int) else _)=_
     rw [if_neg (by omega)]
    rw [this]
    rfl
   ·right
    have hn: ¬((i:Int)<(r.Entries.length:Int)):=by omega
    have hi2:i=r.Entries.length:=by omega
    subst hi2
    simp only [hn,decide_false,cond_false]
    exact ⟨_,rfl,rfl⟩)
 rw [hv,hQ]
def gapR (l:List api_Entry):Int:=if l.length=0 then 0 else gapTo l l.length
theorem rank_gap (r:api_Ranks) (hl:r.Entries.length≤1048576):rank_Gap r=some (cond (okB r) (gapR r.Entries) 0):=by
 unfold rank_Gap
 rw [rank_validate r hl]
 simp only [Option.bind_some]
 cases hb:okB r with
 |false=>rfl
 |true=>
  have h:=(okB_iff r).1 hb
  simp only [cond_true,bne_self_eq_false,Bool.false_or]
  unfold gapR
  by_cases h0:r.Entries.length=0
  ·rw [if_pos h0,h0];rfl
  ·have c:((r.Entries.length:Int)==0)=false:=by rw [beq_eq_false_iff_ne];omega
   rw [c,cond_false,if_neg h0,gap_loop r h hl (by omega)]
theorem ref_gap_l: @ref21_Gap_l3= @rank_Gap_l3:=rfl
theorem ref_gap (r:api_Ranks) (hl:r.Entries.length≤1048576):ref21_Gap r=some (cond (okB r) (gapR r.Entries) 0):=by
 unfold ref21_Gap
 rw [ref_validate r hl]
 simp only [Option.bind_some]
 cases hb:okB r with
 |false=>rfl
 |true=>
  have h:=(okB_iff r).1 hb
  simp only [cond_true,bne_self_eq_false,Bool.false_or]
  unfold gapR
  by_cases h0:r.Entries.length=0
  ·rw [if_pos h0,h.nil.1 h0];rfl
  ·have c:(r.N==0)=false:=by rw [beq_eq_false_iff_ne];intro hc;exact h0 (h.nil.2 hc)
   rw [c,cond_false,if_neg h0,ref_gap_l,gap_loop r h hl (by omega)]
end Go.Win
