/- Pu: chapter 28: which engines are valid; the statement SnapshotValidate. -/
import Derived.Test.YtmipeaidieflmaaGreatPuRg
import Derived.Test.YtmipeaidieflmaaGreatPuScr
set_option linter.unusedVariables false
set_option linter.unusedSimpArgs false
set_option linter.unnecessarySimpa false
set_option linter.unusedSectionVars false
namespace Go.Win
open Go.Vc Go.Dec
def okCl (e:api_Engine) (i:Nat):Prop:=(ref25_Now (el e.Records i).Synopsis).2=true→(ref25_Now (el e.Records i).Synopsis).1=e.Now
def okEn (e:api_Engine):Prop:=((0≤e.Now∧e.Now≤16777216)∧okRg e.Records e.Limit)∧ ∀i,i<e.Records.length→okCl e i
theorem clock_step {e:api_Engine} (hl:e.Records.length≤maxLen) {i:Nat} (hi:i<e.Records.length):
  (¬okCl e i→ref28_Validate_l3s e i=some (.inr 2))∧(¬ ¬okCl e i→ref28_Validate_l3s e i=some (.inl ((i+1:Nat):Int))):=by
 unfold ref28_Validate_l3s okCl
 rw [decide_eq_true (by omega:(i:Int)<(e.Records.length:Int)),cond_true,el_idx hi,Option.bind_some,succW hi hl]
 dsimp only
 cases h1:(ref25_Now (el e.Records i).Synopsis).2 with
 |false=>exact ⟨fun h=>absurd (fun h2=>by cases h2) h,fun _=>rfl⟩
 |true=>
  by_cases h2:(ref25_Now (el e.Records i).Synopsis).1=e.Now
  ·rw [h2,bne_self_eq_false]
   exact ⟨fun h=>absurd (fun _=>rfl) h,fun _=>rfl⟩
  ·have:((ref25_Now (el e.Records i).Synopsis).1 !=e.Now)=true:=by rw [bne_iff_ne];exact h2
   rw [this]
   exact ⟨fun _=>rfl,fun h=>absurd (fun h3=>h2 (h3 rfl)) h⟩
theorem snapshot_ref_l3 (e:api_Engine):snapshot_Validate_l3 e 0=ref28_Validate_l3 e 0:=rfl
theorem snapshot_validate (e:api_Engine) (w:wfU_api_Engine e):snapshot_Validate e=some (vOf (okEn e))∧ref28_Validate e=some (vOf (okEn e)):=by
 have hw:wfLU wfU_api_Record e.Records:=w.2.2
 have hl:=len_max hw.1
 obtain ⟨v1,v2⟩:=registry_valid e.Records e.Limit hw
 unfold snapshot_Validate ref28_Validate ref06_Tick
 rw [v1,v2,snapshot_ref_l3]
 dsimp only
 by_cases h1:0≤e.Now∧e.Now≤16777216
 ·have e1:(decide (e.Now<0)||decide (e.Now>16777216))=false:=by rw [Bool.or_eq_false_iff,decide_eq_false_iff_not,decide_eq_false_iff_not];omega
  have e2:(decide (e.Now≥0)&&decide (e.Now≤16777216))=true:=by rw [Bool.and_eq_true,decide_eq_true_eq,decide_eq_true_eq];omega
  rw [e1,e2]
  simp only [Bool.not_false,Bool.not_true,gd_true,Option.bind_some,Bool.false_or]
  by_cases h2:okRg e.Records e.Limit
  ·rw [bOf_t h2,Bool.not_true,cond_false]
   have H:=loop_prop (f:=fun s:Int=>ref28_Validate_l3s e s) e.Records.length (fun i=> ¬okCl e i) 2 (some 0)
    (fun i hi _=>clock_step hl hi)
    (fun _=>by
     unfold ref28_Validate_l3s
     rw [decide_eq_false (Int.lt_irrefl _),cond_false])
   unfold ref28_Validate_l3
   by_cases h3: ∀i,i<e.Records.length→okCl e i
   ·rw [H.2 fun i hi hn=>hn (h3 i hi),vOf_t ⟨⟨h1,h2⟩,h3⟩]
    exact ⟨rfl,rfl⟩
   ·rw [H.1 (not_all h3),vOf_f fun h=>h3 h.2]
    exact ⟨rfl,rfl⟩
  ·rw [bOf_f h2,vOf_f fun h=>h2 h.1.2]
   exact ⟨rfl,rfl⟩
 ·have e1:(decide (e.Now<0)||decide (e.Now>16777216))=true:=by rw [Bool.or_eq_true,decide_eq_true_eq,decide_eq_true_eq];omega
  have e2:(decide (e.Now≥0)&&decide (e.Now≤16777216))=false:=by rw [Bool.and_eq_false_iff,decide_eq_false_iff_not,decide_eq_false_iff_not];omega
  rw [e1,e2,vOf_f fun h=>h1 h.1.1]
  exact ⟨rfl,rfl⟩
theorem loop_sum {α S R:Type} {f:S→Option (S⊕R)} (l:List α) (m:α→Nat) (k:Nat→Nat→S) (A:Nat→Option R) (B:Nat)
  (hs: ∀(i:Nat) (hi:i<l.length) (c:Nat),c+m l[i]≤B→f (k c i)=some (.inl (k (c+m l[i]) (i+1)))) (hd: ∀c,f (k c l.length)=Option.map Sum.inr (A c)) (a:Nat) (hB:a+(l.map m).sum≤B):
  loop f (k a 0)=A (a+(l.map m).sum):=by
 have key: ∀(n i c:Nat),i+n=l.length→c+((l.drop i).map m).sum≤B→loop f (k c i)=A (c+((l.drop i).map m).sum):=by
  intro n
  induction n with
  |zero=>
   intro i c hi _
   have hi:i=l.length:=by omega
   subst hi
   rw [List.drop_length,loop_eq,hd]
   simp only [List.map_nil,List.sum_nil,Nat.add_zero]
   cases A c<;>rfl
  |succ n ih=>
   intro i c hi hb
   have hlt:i<l.length:=by omega
   rw [List.drop_eq_getElem_cons hlt,List.map_cons,List.sum_cons] at hb⊢
   rw [loop_inl (hs i hlt c (by omega)),ih (i+1) _ (by omega) (by omega),Nat.add_assoc]
 have:=key l.length 0 a (by omega) (by simpa using hB)
 simpa using this
theorem sum_le {α:Type} (l:List α) (m:α→Nat) (b:Nat) (h: ∀x∈l,m x≤b):(l.map m).sum≤l.length*b:=by
 induction l with
 |nil=>simp
 |cons x l ih=>
  have h1:=h x (by simp)
  have h2:=ih fun y hy=>h y (by simp [hy])
  rw [List.map_cons,List.sum_cons,List.length_cons,Nat.add_mul]
  omega
def bSum (l:List api_Block):Nat:=(l.map fun b=>b.Ranks.Entries.length).sum
def cSum (l:List api_Chain):Nat:=(l.map fun c=>c.Links.length).sum
def szF (s:api_Synopsis):Nat:=s.Recent.Items.length+s.Count.Buckets.length+s.Sum.Buckets.length+s.Smooth.Marks.length+s.Spread.Marks.length+s.Poly.Moments.length+s.Halve.Sums.length+s.Extreme.Items.length+s.Summary.Tuples.length+s.Quantile.Blocks.length+s.Sample.Chains.length
def szS (s:api_Synopsis):Nat:=szF s+(bSum s.Quantile.Blocks+cSum s.Sample.Chains)
def szE (l:List api_Record):Nat:=(l.map fun r=>szS r.Synopsis).sum
theorem szS_le {s:api_Synopsis} (w:wfU_api_Synopsis s):szS s≤2199034789888:=by
 obtain ⟨w0,w1,w2,w3,w4,w5,w6,w7,w8,w9,w10,w11⟩:=w
 have b1:=w1.2.2.2.1
 have b2:=w2.2.2.2.2.1
 have b3:=w3.2.2.2.2.2.1
 have b4:=w4.2.2.2.2.2.2.1
 have b5:=w5.2.2.2.2.2.1
 have b6:=w6.2.2.2.1
 have b7:=w7.2.1
 have b8:=w8.2.2.2.2.1
 have b9:=w9.1
 have b10:=w10.2.2.2.1
 have b11:=w11.2.2.2.2.1
 have c9:=sum_le s.Sample.Chains (fun c=>c.Links.length) 1048576 fun c hc=>(w9.2 c hc).2.2.2.2.1
 have c11:=sum_le s.Quantile.Blocks (fun b=>b.Ranks.Entries.length) 1048576 fun b hb=>(w11.2.2.2.2.2 b hb).2.2.2.2.1
 have d9:s.Sample.Chains.length*1048576≤1048576*1048576:=Nat.mul_le_mul_right _ b9
 have d11:s.Quantile.Blocks.length*1048576≤1048576*1048576:=Nat.mul_le_mul_right _ b11
 unfold szS szF bSum cSum
 omega
theorem wadd {x y:Nat} (h:x+y≤9223372036854775807):w64 ((x:Int)+(y:Int))=((x+y:Nat):Int):=by
 rw [w64_id]<;>omega
theorem few_inner (r:api_Record) (w:wfU_api_Synopsis r.Synopsis) (i a:Nat) (ha:a+(bSum r.Synopsis.Quantile.Blocks+cSum r.Synopsis.Sample.Chains)≤9000000000000000000):
  law28_few_l6 r i a 0=some (.inl (((a+(bSum r.Synopsis.Quantile.Blocks+cSum r.Synopsis.Sample.Chains):Nat):Int),w64 ((i:Int)+1))):=by
 have hq:r.Synopsis.Quantile.Blocks.length≤1048576:=w.2.2.2.2.2.2.2.2.2.2.2.2.2.2.2.1
 have hc:r.Synopsis.Sample.Chains.length≤1048576:=w.2.2.2.2.2.2.2.2.2.1.1
 unfold law28_few_l6
 have h1:=loop_sum (f:=fun s:Int×Int=>law28_few_l6s r i s.1 s.2) r.Synopsis.Quantile.Blocks (fun b=>b.Ranks.Entries.length) (fun c j=>((c:Int),(j:Int)))
  (fun c=>law28_few_l10 r i c 0) 9000000000000000000 (fun j hj c hB=>by
   unfold law28_few_l6s
   dsimp only
   rw [decide_eq_true (by omega),cond_true,idx_get hj,Option.bind_some,wadd (by omega),w64_id (by omega) (by omega)]
   rfl) (fun c=>by
   unfold law28_few_l6s
   dsimp only
   rw [decide_eq_false (Int.lt_irrefl _),cond_false]) a (by unfold bSum at ha;omega)
 have h2:=loop_sum (f:=fun s:Int×Int=>law28_few_l10s r i s.1 s.2) r.Synopsis.Sample.Chains (fun b=>b.Links.length) (fun c j=>((c:Int),(j:Int)))
  (fun c=>some (.inl ((c:Int),w64 ((i:Int)+1)))) 9000000000000000000 (fun j hj c hB=>by
   unfold law28_few_l10s
   dsimp only
   rw [decide_eq_true (by omega),cond_true,idx_get hj,Option.bind_some,wadd (by omega),w64_id (by omega) (by omega)]
   rfl) (fun c=>by
   unfold law28_few_l10s
   dsimp only
   rw [decide_eq_false (Int.lt_irrefl _),cond_false]) (a+bSum r.Synopsis.Quantile.Blocks) (by unfold cSum at ha;omega)
 refine h1.trans (h2.trans ?_)
 unfold cSum
 rw [Nat.add_assoc]
theorem few28 (e:api_Engine) (w:wfU_api_Engine e):law28_few e=some (decide ((e.Records.length:Int)≤70)&&decide (((szE e.Records:Nat):Int)≤400)):=by
 have hw:wfLU wfU_api_Record e.Records:=w.2.2
 have hr:e.Records.length≤1048576:=hw.1
 unfold law28_few law28_few_l2
 have hsz: ∀r∈e.Records,szS r.Synopsis≤2199034789888:=fun r hr=>szS_le (hw.2 r hr).2
 have ht:=sum_le e.Records (fun r=>szS r.Synopsis) _ hsz
 have ht2:e.Records.length*2199034789888≤1048576*2199034789888:=Nat.mul_le_mul_right _ hr
 have h1:=loop_sum (f:=fun s:Int×Int=>law28_few_l2s e s.1 s.2) e.Records (fun r=>szS r.Synopsis) (fun c j=>((c:Int),(j:Int)))
  (fun c=>some (decide ((e.Records.length:Int)≤70)&&decide ((c:Int)≤400))) 9000000000000000000 (fun j hj c hB=>by
   have hm:=(hw.2 _ (List.getElem_mem hj)).2
   unfold law28_few_l2s
   dsimp only
   rw [decide_eq_true (by omega),cond_true,idx_get hj,Option.bind_some]
   generalize e.Records[j]=r at hB hm
   have hs:c+szF r.Synopsis+(bSum r.Synopsis.Quantile.Blocks+cSum r.Synopsis.Sample.Chains)≤9000000000000000000:=by unfold szS at hB;omega
   have hf:szF r.Synopsis=szF r.Synopsis:=rfl
   unfold szF at hf
   have key:=few_inner r hm j (c+szF r.Synopsis) hs
   unfold szF at key hs
   repeat rw [wadd (by omega)]
   rw [show c+r.Synopsis.Recent.Items.length+r.Synopsis.Count.Buckets.length+r.Synopsis.Sum.Buckets.length+r.Synopsis.Smooth.Marks.length+r.Synopsis.Spread.Marks.length+r.Synopsis.Poly.Moments.length+r.Synopsis.Halve.Sums.length+r.Synopsis.Extreme.Items.length+r.Synopsis.Summary.Tuples.length+r.Synopsis.Quantile.Blocks.length+r.Synopsis.Sample.Chains.length=c+(r.Synopsis.Recent.Items.length+r.Synopsis.Count.Buckets.length+r.Synopsis.Sum.Buckets.length+r.Synopsis.Smooth.Marks.length+r.Synopsis.Spread.Marks.length+r.Synopsis.Poly.Moments.length+r.Synopsis.Halve.Sums.length+r.Synopsis.Extreme.Items.length+r.Synopsis.Summary.Tuples.length+r.Synopsis.Quantile.Blocks.length+r.Synopsis.Sample.Chains.length) by omega,key,w64_id (by omega) (by omega)]
   unfold szS szF
   rw [Nat.add_assoc c]
   rfl) (fun c=>by
   unfold law28_few_l2s
   dsimp only
   rw [decide_eq_false (Int.lt_irrefl _),cond_false]) 0 (by omega)
 rw [Nat.zero_add] at h1
 exact h1
theorem sums_eq:codec_Sum=ref27_Sum:=rfl
end Go.Win
