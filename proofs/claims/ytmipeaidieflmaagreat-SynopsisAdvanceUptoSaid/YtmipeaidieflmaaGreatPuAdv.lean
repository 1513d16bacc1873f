/- Pu: chapter 25: what becomes of a synopsis by a tick. -/
import Derived.Test.YtmipeaidieflmaaGreatPuSyV
set_option linter.unusedVariables false
set_option linter.unusedSimpArgs false
set_option linter.unnecessarySimpa false
set_option linter.unusedSectionVars false
namespace Go.Win
open Go.Vc Go.Dec
theorem back_eq {n:Int} (t:Int) (h:0≤n∧n≤16777216):(clock_Advance n t).2=ref06_Back n t:=by
 have ht:clock_tick n=true:=by
  show exact_tick n=true
  unfold exact_tick
  simp only [Bool.and_eq_true,decide_eq_true_eq];omega
 unfold clock_Advance ref06_Back
 simp only [ht,Bool.not_true,cond_false]
 cases (decide (t<n)||decide (t>16777216))<;>rfl
theorem back_ok {n t:Int} (h:ref06_Back n t=0):n≤t∧t≤16777216:=by
 unfold ref06_Back at h
 by_cases hc:t<n∨t>16777216
 ·have:(decide (t<n)||decide (t>16777216))=true:=by simp only [Bool.or_eq_true,decide_eq_true_eq];omega
  rw [this] at h
  cases h
 ·omega
theorem first_eq (n w:Int):clock_First n w=ref06_First n w:=by
 unfold clock_First ref06_First ref06_Window ref06_Tick
 have e:clock_tick n=(decide (n≥0)&&decide (n≤16777216)):=rfl
 simp only [e]
 have:((!(decide (n≥0)&&decide (n≤16777216))||decide (w<1))||decide (w>1048576))=(!(decide (n≥0)&&decide (n≤16777216))|| !(decide (w≥1)&&decide (w≤1048576))):=by
  by_cases h1:w<1
  ·simp [h1,show¬w≥1 by omega]
  ·by_cases h2:w>1048576
   ·simp [h2,show¬w≤1048576 by omega]
   ·simp [h1,h2,show w≥1 by omega,show w≤1048576 by omega]
 rw [this]
theorem drop_loop {α R:Type} {f:List α→Option (List α⊕R)} (p:α→Bool) (A:List α→Option R)
  (hs: ∀x l,p x=true→f (x::l)=some (.inl l)) (hd: ∀x l,p x=false→f (x::l)=Option.map Sum.inr (A (x::l))) (hn:f []=Option.map Sum.inr (A [])):
  ∀l,loop f l=A (l.dropWhile p)
 | []=>by
  rw [loop_eq,hn]
  show _=A []
  cases A []<;>rfl
 |x::l=>by
  cases h:p x with
  |true=>rw [loop_inl (hs x l h),drop_loop p A hs hd hn l,List.dropWhile_cons,h];rfl
  |false=>
   rw [loop_eq,hd x l h,List.dropWhile_cons,h]
   show _=A (x::l)
   cases A (x::l)<;>rfl
theorem drop_mem {α:Type} {p:α→Bool} {l:List α} {x:α} (h:x∈l.dropWhile p):x∈l:=(List.dropWhile_sublist p).subset h
theorem drop_len {α:Type} (p:α→Bool) (l:List α):(l.dropWhile p).length≤l.length:=(List.dropWhile_sublist p).length_le
theorem idx_zero {α:Type} (x:α) (l:List α):idx (x::l) 0=some x:=rfl
theorem len_pos {α:Type} (x:α) (l:List α):decide (((x::l).length:Int)>0)=true:=by rw [decide_eq_true_eq,List.length_cons];omega
theorem expire_b {l:List api_Bucket} (hl:l.length≤1048576) (f:Int):buckets_Expire l f=some (l.dropWhile fun x=>decide (x.T<f))∧ref10_Expire l f=some (l.dropWhile fun x=>decide (x.T<f)):=by
 have hd:=drop_len (fun x:api_Bucket=>decide (x.T<f)) l
 constructor
 ·unfold buckets_Expire buckets_Expire_l2
  rw [drop_loop (fun x:api_Bucket=>decide (x.T<f)) (fun v=>ck (decide ((([]:List api_Bucket).length+v.length)*16≤140737488355328)) (some v))]
  ·rw [ck_pos (by rw [decide_eq_true_eq,List.length_nil];omega)]
  ·intro x l h
   unfold buckets_Expire_l2s
   rw [len_pos,gd_true,idx_zero,Option.bind_some,h,Bool.and_self,cond_true,ck_pos (by rw [decide_eq_true_eq,List.length_cons];omega)]
   rfl
  ·intro x l h
   unfold buckets_Expire_l2s
   rw [len_pos,gd_true,idx_zero,Option.bind_some,h,Bool.and_false,cond_false,List.nil_append]
  ·unfold buckets_Expire_l2s
   rfl
 ·unfold ref10_Expire ref10_Expire_l2
  rw [drop_loop (fun x:api_Bucket=>decide (x.T<f)) (fun v=>some v)]
  ·intro x l h
   unfold ref10_Expire_l2s
   rw [len_pos,gd_true,idx_zero,Option.bind_some,h,Bool.and_self,cond_true,ck_pos (by rw [decide_eq_true_eq,List.length_cons];omega)]
   rfl
  ·intro x l h
   unfold ref10_Expire_l2s
   rw [len_pos,gd_true,idx_zero,Option.bind_some,h,Bool.and_false,cond_false]
  ·rfl
theorem expire_q {l:List api_Block} (hl:l.length≤1048576) (f:Int):blocks_Expire l f=some (l.dropWhile fun x=>decide (x.T<f))∧ref22_Expire l f=some (l.dropWhile fun x=>decide (x.T<f)):=by
 have hd:=drop_len (fun x:api_Block=>decide (x.T<f)) l
 constructor
 ·unfold blocks_Expire blocks_Expire_l2
  rw [drop_loop (fun x:api_Block=>decide (x.T<f)) (fun v=>ck (decide ((([]:List api_Block).length+v.length)*56≤140737488355328)) (some v))]
  ·rw [ck_pos (by rw [decide_eq_true_eq,List.length_nil];omega)]
  ·intro x l h
   unfold blocks_Expire_l2s
   rw [len_pos,gd_true,idx_zero,Option.bind_some,h,Bool.and_self,cond_true,ck_pos (by rw [decide_eq_true_eq,List.length_cons];omega)]
   rfl
  ·intro x l h
   unfold blocks_Expire_l2s
   rw [len_pos,gd_true,idx_zero,Option.bind_some,h,Bool.and_false,cond_false,List.nil_append]
  ·unfold blocks_Expire_l2s
   rfl
 ·unfold ref22_Expire ref22_Expire_l2
  rw [drop_loop (fun x:api_Block=>decide (x.T<f)) (fun v=>some v)]
  ·intro x l h
   unfold ref22_Expire_l2s
   rw [len_pos,gd_true,idx_zero,Option.bind_some,h,Bool.and_self,cond_true,ck_pos (by rw [decide_eq_true_eq,List.length_cons];omega)]
   rfl
  ·intro x l h
   unfold ref22_Expire_l2s
   rw [len_pos,gd_true,idx_zero,Option.bind_some,h,Bool.and_false,cond_false]
  ·rfl
noncomputable def dropM (n w:Int):List api_Mark→List api_Mark
 | []=> []
 | [x]=>if ref06_Live n w x.T then [x] else []
 |x::y::l=>if ref06_Live n w y.T then x::y::l else dropM n w (y::l)
theorem dropM_len (n w:Int): ∀l,(dropM n w l).length≤l.length
 | []=>Nat.le_refl _
 | [x]=>by unfold dropM;split<;>simp
 |x::y::l=>by
  unfold dropM
  split
  ·exact Nat.le_refl _
  ·have:=dropM_len n w (y::l)
   rw [List.length_cons]
   omega
theorem marks_adv (n w:Int): ∀ {l:List api_Mark},l.length≤1048576→marks_Advance_l2 n w l=some (dropM n w l)∧ref13_Drop_l2 n w l=some (dropM n w l)
 | [],_=>by
  unfold marks_Advance_l2 ref13_Drop_l2
  exact ⟨loop_inr rfl,loop_inr rfl⟩
 | [x],_=>by
  have i1:gd (decide (((([x]:List api_Mark).length:Nat):Int)>1)) (idx [x] 1)=some default:=rfl
  have i2:(((([x]:List api_Mark).length:Nat):Int)==1)=true:=rfl
  have i3:decide (((([x]:List api_Mark).length:Nat):Int)>1)=false:=rfl
  unfold marks_Advance_l2 ref13_Drop_l2 dropM
  constructor
  ·refine loop_inr ?_
   unfold marks_Advance_l2s
   rw [i1,Option.bind_some,i2,gd_true,idx_zero]
   simp only [i3,Bool.false_and,cond_false,Bool.true_and,Option.bind_some,live_eq]
   cases ref06_Live n w x.T<;>rfl
  ·refine loop_inr ?_
   unfold ref13_Drop_l2s
   rw [i1,Option.bind_some,i2,gd_true,idx_zero]
   simp only [i3,Bool.false_and,cond_false,Bool.true_and,Option.bind_some]
   cases ref06_Live n w x.T<;>rfl
 |x::y::l,hl=>by
  have g:decide (((x::y::l).length:Int)>1)=true:=by rw [decide_eq_true_eq,List.length_cons,List.length_cons];omega
  have g2:(((x::y::l).length:Int)==1)=false:=by rw [beq_eq_false_iff_ne,List.length_cons,List.length_cons];omega
  have i1:idx (x::y::l) 1=some y:=rfl
  have hk:decide (0≤(1:Int)∧(1:Int)≤((x::y::l).length:Int))=true:=by rw [decide_eq_true_eq,List.length_cons];omega
  obtain ⟨r1,r2⟩:=marks_adv n w (l:=y::l) (by rw [List.length_cons] at hl;omega)
  unfold marks_Advance_l2 at r1⊢
  unfold ref13_Drop_l2 at r2⊢
  unfold dropM
  cases h:ref06_Live n w y.T with
  |true=>
   constructor
   ·refine loop_inr ?_
    unfold marks_Advance_l2s
    rw [g,gd_true,i1,Option.bind_some,g2,gd_false]
    simp only [live_eq,h,Bool.not_true,Bool.and_false,cond_false,Option.bind_some,Bool.false_and,List.nil_append]
    rw [ck_pos (by rw [decide_eq_true_eq,List.length_nil];omega)]
    rfl
   ·refine loop_inr ?_
    unfold ref13_Drop_l2s
    rw [g,gd_true,i1,Option.bind_some,g2,gd_false]
    simp only [h,Bool.not_true,Bool.and_false,cond_false,Option.bind_some,Bool.false_and]
    rfl
  |false=>
   constructor
   ·rw [if_neg (by decide),←r1]
    refine loop_inl ?_
    unfold marks_Advance_l2s
    rw [g,gd_true,i1,Option.bind_some]
    simp only [live_eq,h,Bool.not_false,Bool.and_self,cond_true]
    rw [ck_pos hk]
    rfl
   ·rw [if_neg (by decide),←r2]
    refine loop_inl ?_
    unfold ref13_Drop_l2s
    rw [g,gd_true,i1,Option.bind_some]
    simp only [h,Bool.not_false,Bool.and_self,cond_true]
    rw [ck_pos hk]
    rfl
theorem adv_count (x:api_Count) (t:Int) (hl:x.Buckets.length≤1048576): ∃r,count_Advance x t=some r∧ref11_Advance x t=some r∧r.1.Buckets.length≤1048576:=by
 unfold count_Advance ref11_Advance
 rw [count_validate x (len_max hl),ref11_validate x (len_max hl),Option.bind_some,Option.bind_some]
 by_cases hv:okHist x.Buckets x.W x.K x.Cap x.Now
 ·rw [vOf_t hv]
  simp only [bne_self_eq_false,cond_false]
  rw [back_eq t hv.1.2.2.1,first_eq]
  cases hb:(ref06_Back x.Now t !=0) with
  |true=>exact ⟨_,rfl,rfl,Nat.zero_le _⟩
  |false=>
   obtain ⟨e1,e2⟩:=expire_b hl (ref06_First t x.W)
   rw [cond_false,cond_false,e1,e2]
   exact ⟨_,rfl,rfl,Nat.le_trans (drop_len _ _) hl⟩
 ·rw [vOf_f hv]
  exact ⟨_,rfl,rfl,Nat.zero_le _⟩
theorem adv_sum (x:api_Sum) (t:Int) (hl:x.Buckets.length≤1048576): ∃r,sum_Advance x t=some r∧ref12_Advance x t=some r∧r.1.Buckets.length≤1048576:=by
 unfold sum_Advance ref12_Advance
 rw [sum_validate x (len_max hl),ref12_validate x (len_max hl),Option.bind_some,Option.bind_some]
 by_cases hv:okSum x
 ·rw [vOf_t hv]
  simp only [bne_self_eq_false,cond_false]
  rw [back_eq t hv.1.1.2.2.1,first_eq]
  cases hb:(ref06_Back x.Now t !=0) with
  |true=>exact ⟨_,rfl,rfl,Nat.zero_le _⟩
  |false=>
   obtain ⟨e1,e2⟩:=expire_b hl (ref06_First t x.W)
   rw [cond_false,cond_false,e1,e2]
   exact ⟨_,rfl,rfl,Nat.le_trans (drop_len _ _) hl⟩
 ·rw [vOf_f hv]
  exact ⟨_,rfl,rfl,Nat.zero_le _⟩
theorem adv_smooth (x:api_Smooth) (t:Int) (hl:x.Marks.length≤1048576): ∃r,smooth_Advance x t=some r∧ref13_Advance x t=some r∧r.1.Marks.length≤1048576:=by
 unfold smooth_Advance ref13_Advance
 rw [smooth_validate x (len_max hl),ref13_validate x (len_max hl),Option.bind_some,Option.bind_some]
 by_cases hv:okSm x
 ·rw [vOf_t hv]
  simp only [bne_self_eq_false,cond_false]
  rw [back_eq t hv.2.1.2.2.1]
  cases hb:(ref06_Back x.Now t !=0) with
  |true=>exact ⟨_,rfl,rfl,Nat.zero_le _⟩
  |false=>
   obtain ⟨e1,e2⟩:=marks_adv t x.W hl
   unfold marks_Advance ref13_Drop
   rw [cond_false,cond_false,e1,e2]
   exact ⟨_,rfl,rfl,Nat.le_trans (dropM_len _ _ _) hl⟩
 ·rw [vOf_f hv]
  exact ⟨_,rfl,rfl,Nat.zero_le _⟩
theorem adv_spread (x:api_Spread) (t:Int) (hl:x.Marks.length≤1048576): ∃r,spread_Advance x t=some r∧ref14_Advance x t=some r∧r.1.Marks.length≤1048576:=by
 unfold spread_Advance ref14_Advance
 rw [spread_validate x (len_max hl),ref14_validate x (len_max hl),Option.bind_some,Option.bind_some]
 by_cases hv:okSp x
 ·rw [vOf_t hv]
  simp only [bne_self_eq_false,cond_false]
  rw [back_eq t hv.1.2.2.1]
  cases hb:(ref06_Back x.Now t !=0) with
  |true=>exact ⟨_,rfl,rfl,Nat.zero_le _⟩
  |false=>
   obtain ⟨e1,e2⟩:=marks_adv t x.W hl
   unfold marks_Advance ref13_Drop
   rw [cond_false,cond_false,e1,e2]
   exact ⟨_,rfl,rfl,Nat.le_trans (dropM_len _ _ _) hl⟩
 ·rw [vOf_f hv]
  exact ⟨_,rfl,rfl,Nat.zero_le _⟩
theorem adv_poly (x:api_Poly) (t:Int) (hl:x.Moments.length≤1048576) (hw: ∀w∈x.Moments,okW w): ∃r,poly_Advance x t=some r∧ref15_Advance x t=some r∧r.1.Moments.length≤1048576:=by
 unfold poly_Advance ref15_Advance
 rw [poly_validate x hw,ref15_validate x hw,Option.bind_some,Option.bind_some]
 by_cases hv:okPl x
 ·rw [vOf_t hv]
  simp only [bne_self_eq_false,cond_false]
  rw [back_eq t hv.1.2.1]
  cases hb:(ref06_Back x.Now t !=0) with
  |true=>exact ⟨_,rfl,rfl,Nat.zero_le _⟩
  |false=>
   rw [cond_false,cond_false,ck_pos (by rw [decide_eq_true_eq,List.length_nil];omega),List.nil_append]
   exact ⟨_,rfl,rfl,hl⟩
 ·rw [vOf_f hv]
  exact ⟨_,rfl,rfl,Nat.zero_le _⟩
theorem adv_quantile (x:api_Quantile) (t:Int) (hb:smallBl x.Blocks): ∃r,quantile_Advance x t=some r∧ref23_Advance x t=some r∧(r.1.Blocks.length≤1048576∧ ∀b∈r.1.Blocks,b∈x.Blocks):=by
 unfold quantile_Advance ref23_Advance
 rw [quantile_validate x hb,ref23_validate x hb,Option.bind_some,Option.bind_some]
 by_cases hv:okQt x
 ·rw [vOf_t hv]
  simp only [bne_self_eq_false,cond_false]
  rw [back_eq t hv.1.2.2.1,first_eq]
  cases hb' :(ref06_Back x.Now t !=0) with
  |true=>exact ⟨_,rfl,rfl,Nat.zero_le _,fun _ h=>by cases h⟩
  |false=>
   obtain ⟨e1,e2⟩:=expire_q hb.1 (ref06_First t x.W)
   rw [cond_false,cond_false,e1,e2]
   exact ⟨_,rfl,rfl,Nat.le_trans (drop_len _ _) hb.1,fun _ h=>drop_mem h⟩
 ·rw [vOf_f hv]
  exact ⟨_,rfl,rfl,Nat.zero_le _,fun _ h=>by cases h⟩
theorem filter_drop {n w:Int}: ∀ {l:List api_Item},l.Pairwise (fun a b=>a.T<b.T)→(∀p∈l,0≤p.T∧p.T≤n)→(0≤n∧n≤16777216)→(1≤w∧w≤1048576)→
  l.filter (fun p=>ref06_Live n w p.T)=l.dropWhile (fun p=> !ref06_Live n w p.T)
 | [],_,_,_,_=>rfl
 |x::l,hp,ht,hn,hw=>by
  rw [List.filter_cons,List.dropWhile_cons]
  rw [List.pairwise_cons] at hp
  cases h:ref06_Live n w x.T with
  |false=>
   simp only [Bool.not_false,if_true,Bool.false_eq_true,if_false]
   exact filter_drop hp.2 (fun p hp' =>ht p (by simp [hp'])) hn hw
  |true=>
   have:l.filter (fun p=>ref06_Live n w p.T)=l:=by
    rw [List.filter_eq_self]
    intro p hp'
    rw [live_iff] at h⊢
    have h1:=hp.1 p hp'
    have h2:=ht p (by simp [hp'])
    omega
   rw [this]
   simp
theorem adv_extreme (x:api_Extreme) (t:Int) (hl:x.Items.length≤1048576): ∃r,extreme_Advance x t=some r∧ref17_Advance x t=some r∧r.1.Items.length≤1048576:=by
 unfold extreme_Advance ref17_Advance
 rw [extreme_validate x (len_max hl),ref17_validate x (len_max hl),Option.bind_some,Option.bind_some]
 by_cases hv:okEx x
 ·rw [vOf_t hv]
  simp only [bne_self_eq_false,cond_false]
  rw [back_eq t hv.1.1.2.2]
  cases hb:(ref06_Back x.Now t !=0) with
  |true=>exact ⟨_,rfl,rfl,Nat.zero_le _⟩
  |false=>
   rw [bne_eq_false_iff_eq] at hb
   have hbk:=back_ok hb
   have hcap:x.Items.length≤65536:=by have:=hv.1.1.2.1;have:=hv.1.2;omega
   have hlive: ∀i,i<x.Items.length→0≤(el x.Items i).T∧(el x.Items i).T≤x.Now:=fun i hi=>by
    have:=(live_iff _ _ _).1 (hv.2 i hi).1.1
    omega
   have hpw:x.Items.Pairwise (fun a b=>a.T<b.T):=by
    have key: ∀d i,i+d+1<x.Items.length→(el x.Items i).T<(el x.Items (i+d+1)).T:=by
     intro d
     induction d with
     |zero=>
      intro i hi
      have:=((hv.2 (i+1) hi).2 (by omega)).1
      simpa using this
     |succ d ih=>
      intro i hi
      have h1:=ih i (by omega)
      have h2:=((hv.2 (i+d+1+1) (by omega)).2 (by omega)).1
      simp only [Nat.add_sub_cancel] at h2
      exact Int.lt_trans h1 h2
    rw [List.pairwise_iff_getElem]
    intro i j hi hj hij
    have:=key (j-i-1) i (by omega)
    rw [show i+(j-i-1)+1=j by omega,el_get hi,el_get hj] at this
    exact this
   have hval:validS x.Items t=true:=by
    unfold validS
    rw [Bool.and_eq_true,Bool.not_eq_true',List.any_eq_false]
    refine ⟨by unfold ref06_Tick;simp only [Bool.and_eq_true,decide_eq_true_eq];have:=hv.1.1.2.2;omega,fun i hi=> ?_⟩
    rw [List.mem_range] at hi
    have h1:=hlive i hi
    have h2:=(hv.2 i hi).2
    unfold badV
    rw [el_get? hi]
    have c1:(decide ((el x.Items i).T<0)||decide ((el x.Items i).T>t))=false:=by
     rw [Bool.or_eq_false_iff,decide_eq_false_iff_not,decide_eq_false_iff_not];omega
    simp only [c1,Bool.false_or]
    by_cases h0:0<i
    ·rw [el_get? (l:=x.Items) (i:=i-1) (by omega)]
     have:=(h2 (by omega)).1
     simp only [decide_eq_true h0,Bool.true_and,decide_eq_true_eq]
     omega
    ·rw [decide_eq_false h0,Bool.false_and]
     decide
   have hmem: ∀p∈x.Items,0≤p.T∧p.T≤t:=fun p hp=>by
    obtain ⟨i,hi,e⟩:=mem_el hp
    have:=hlive i hi
    rw [e] at this
    omega
   have hw:=hv.1.1.1
   have hn:=hv.1.1.2.2
   have e2:ref08_Live x.Items t x.W=some (x.Items.dropWhile fun p=> !ref06_Live t x.W p.T):=by
    rw [ref_live _ _ _ (by omega),hval,if_pos rfl]
    unfold liveS
    rw [filter_drop hpw hmem (by omega) hw]
   have e1:extreme_Advance_l4 x t x.Items=some (⟨x.Max,x.W,x.Cap,t,x.Items.dropWhile fun p=> !ref06_Live t x.W p.T⟩,0):=by
    have hd:=drop_len (fun p:api_Item=> !ref06_Live t x.W p.T) x.Items
    unfold extreme_Advance_l4
    rw [drop_loop (fun p:api_Item=> !ref06_Live t x.W p.T) (fun v=>ck (decide ((([]:List api_Item).length+v.length)*16≤140737488355328)) (some (⟨x.Max,x.W,x.Cap,t,v⟩,0)))]
    ·rw [ck_pos (by rw [decide_eq_true_eq,List.length_nil];omega)]
    ·intro y l h
     unfold extreme_Advance_l4s
     rw [len_pos,gd_true,idx_zero,Option.bind_some]
     simp only [live_eq,h,Bool.and_self,cond_true]
     rw [ck_pos (by rw [decide_eq_true_eq,List.length_cons];omega)]
     rfl
    ·intro y l h
     unfold extreme_Advance_l4s
     rw [len_pos,gd_true,idx_zero,Option.bind_some]
     simp only [live_eq,h,Bool.and_false,cond_false,List.nil_append]
    ·rfl
   rw [cond_false,cond_false,e1,e2]
   exact ⟨_,rfl,rfl,Nat.le_trans (drop_len _ _) hl⟩
 ·rw [vOf_f hv]
  exact ⟨_,rfl,rfl,Nat.zero_le _⟩
theorem imin_nat {a:Int} {b:Nat} (h:0≤a):imin a (b:Int)=((min a.toNat b:Nat):Int):=by
 show (if (b:Int)<a then (b:Int) else a)=_
 split<;>omega
def moved (l:List Int) (d:Nat):List Int:=List.replicate (min d l.length) 0++l.take (l.length-min d l.length)
theorem moved_len (l:List Int) (d:Nat):(moved l d).length=l.length:=by
 unfold moved
 rw [List.length_append,List.length_replicate,List.length_take]
 omega
theorem moved_get (l:List Int) (d j:Nat) (hj:j<l.length):(moved l d)[j]? =some (if d≤j then l.getD (j-d) 0 else 0):=by
 unfold moved
 by_cases h:d≤j
 ·rw [if_pos h,List.getElem?_append_right (by rw [List.length_replicate];omega),List.length_replicate,show min d l.length=d by omega,List.getElem?_take_of_lt (by omega),List.getElem?_eq_getElem (by omega)]
  rw [List.getD_eq_getElem?_getD,List.getElem?_eq_getElem (by omega)]
  rfl
 ·rw [if_neg h,List.getElem?_append_left (by rw [List.length_replicate];omega),List.getElem?_replicate,if_pos (by omega)]
theorem adv_halve (x:api_Halve) (t:Int) (hl:x.Sums.length≤1048576): ∃r,halve_Advance x t=some r∧ref16_Advance x t=some r∧r.1.Sums.length≤1048576:=by
 unfold halve_Advance ref16_Advance
 rw [halve_validate x (len_max hl),ref16_validate x (len_max hl),Option.bind_some,Option.bind_some]
 by_cases hv:okHv x
 ·rw [vOf_t hv]
  simp only [bne_self_eq_false,cond_false]
  rw [back_eq t hv.1.2]
  cases hb:(ref06_Back x.Now t !=0) with
  |true=>exact ⟨_,rfl,rfl,Nat.zero_le _⟩
  |false=>
   rw [bne_eq_false_iff_eq] at hb
   have hbk:=back_ok hb
   have hn:=hv.1.2
   have ew:w64 (t-x.Now)=t-x.Now:=by rw [w64_id]<;>omega
   obtain ⟨d,hd⟩:=Int.eq_ofNat_of_zero_le (show 0≤t-x.Now by omega)
   have em:imin (w64 (t-x.Now)) ((([]:List Int)++x.Sums).length:Int)=((min d x.Sums.length:Nat):Int):=by
    rw [ew,imin_nat (by omega),List.nil_append,hd,Int.toNat_natCast]
   rw [cond_false,cond_false,em,Int.toNat_natCast,List.nil_append]
   have e1:laid (laid x.Sums (min d x.Sums.length) (x.Sums.take (x.Sums.length-min d x.Sums.length))) 0 (List.replicate (min d x.Sums.length) 0)=moved x.Sums d:=by
    have h1:laid x.Sums (min d x.Sums.length) (x.Sums.take (x.Sums.length-min d x.Sums.length))=x.Sums.take (min d x.Sums.length)++x.Sums.take (x.Sums.length-min d x.Sums.length):=by
     unfold laid
     rw [List.drop_eq_nil_of_le (by rw [List.length_take];omega),List.append_nil]
    rw [h1]
    unfold laid moved
    rw [List.take_zero,List.nil_append,List.length_replicate,Nat.zero_add]
    congr 1
    have:(x.Sums.take (min d x.Sums.length)).length=min d x.Sums.length:=by rw [List.length_take];omega
    conv=>lhs;rw [←this]
    rw [this,List.drop_append_of_le_length (by omega),List.drop_eq_nil_of_le (by omega),List.nil_append]
   have e2:ref16_Advance_l4 x t (List.replicate ((x.Sums.length:Int)).toNat 0) 0=some (⟨t,moved x.Sums d⟩,0):=by
    unfold ref16_Advance_l4
    obtain ⟨r,hr,hQ⟩:=loop_ind (f:=fun s:List Int×Int=>ref16_Advance_l4s x t s.1 s.2)
     (fun s=> ∃i:Nat,i≤x.Sums.length∧s.2=(i:Int)∧s.1.length=x.Sums.length∧ ∀j,j<x.Sums.length→s.1[j]? =some (if d≤j∧j<d+i then x.Sums.getD (j-d) 0 else 0))
     (fun s=>x.Sums.length-s.2.toNat) (fun r=>r=(⟨t,moved x.Sums d⟩,0)) (List.replicate ((x.Sums.length:Int)).toNat 0,0)
     ⟨0,by omega,rfl,by rw [List.length_replicate,Int.toNat_natCast],fun j hj=>by rw [List.getElem?_replicate,Int.toNat_natCast,if_pos hj,if_neg (by omega)]⟩ (by
      rintro ⟨v,_⟩ ⟨i,hi,rfl,hvl,hvj⟩
      dsimp only at hvl hvj⊢
      unfold ref16_Advance_l4s
      by_cases hlt:i<x.Sums.length
      ·left
       have eto:w64 (w64 ((i:Int)+t)-x.Now)=((i+d:Nat):Int):=by
        rw [w64_id (n:=(i:Int)+t) (by omega) (by omega),w64_id]<;>omega
       have es:w64 ((i:Int)+1)=((i+1:Nat):Int):=by rw [w64_id]<;>omega
       rw [decide_eq_true (by omega),cond_true,idx_get hlt,Option.bind_some,eto,es]
       by_cases hto:i+d<x.Sums.length
       ·rw [decide_eq_true (by rw [hvl];omega),cond_true,idx_nat,hvj _ hto,Option.bind_some,Option.bind_some,Int.toNat_natCast]
        refine ⟨_,rfl,⟨i+1,hlt,rfl,by dsimp only;rw [List.length_set,hvl],fun j hj=> ?_⟩, ?_⟩
        ·dsimp only
         rw [List.getElem?_set]
         by_cases hji:i+d=j
         ·rw [if_pos hji,if_pos (by omega),if_pos (by omega)]
          subst hji
          rw [show i+d-d=i by omega,List.getD_eq_getElem?_getD,List.getElem?_eq_getElem hlt]
          rfl
         ·rw [if_neg hji,hvj j hj]
          congr 1
          by_cases hc:d≤j∧j<d+i
          ·rw [if_pos hc,if_pos (by omega)]
          ·rw [if_neg hc,if_neg (by omega)]
        ·show _-(((i+1:Nat):Int)).toNat<_-((i:Int)).toNat
         omega
       ·rw [decide_eq_false (by rw [hvl];omega),cond_false]
        refine ⟨_,rfl,⟨i+1,hlt,rfl,hvl,fun j hj=> ?_⟩, ?_⟩
        ·dsimp only
         rw [hvj j hj]
         congr 1
         by_cases hc:d≤j∧j<d+i
         ·rw [if_pos hc,if_pos (by omega)]
         ·rw [if_neg hc,if_neg (by omega)]
        ·show _-(((i+1:Nat):Int)).toNat<_-((i:Int)).toNat
         omega
      ·right
       rw [decide_eq_false (by omega),cond_false]
       refine ⟨_,rfl, ?_⟩
       have:v=moved x.Sums d:=by
        refine List.ext_getElem? fun j=> ?_
        by_cases hj:j<x.Sums.length
        ·rw [hvj j hj,moved_get _ _ _ hj]
         congr 1
         by_cases hc:d≤j
         ·rw [if_pos hc,if_pos (by omega)]
         ·rw [if_neg hc,if_neg (by omega)]
        ·rw [List.getElem?_eq_none (by omega),List.getElem?_eq_none (by rw [moved_len];omega)]
       rw [this])
    rw [hr,hQ]
   have hl1:(laid x.Sums (min d x.Sums.length) (x.Sums.take (x.Sums.length-min d x.Sums.length))).length=x.Sums.length:=by
    unfold laid
    simp only [List.length_append,List.length_take,List.length_drop]
    omega
   rw [e1,e2,ck_pos (by rw [decide_eq_true_eq,List.length_nil];omega),ck_pos (by rw [decide_eq_true_eq];omega),ck_pos (by rw [decide_eq_true_eq,hl1];omega),
    ck_pos (by rw [decide_eq_true_eq];have:=hv.1.1;omega)]
   exact ⟨_,rfl,rfl,by rw [moved_len];exact hl⟩
 ·rw [vOf_f hv]
  exact ⟨_,rfl,rfl,Nat.zero_le _⟩
theorem advance_eq (s:api_Synopsis) (w:wfU_api_Synopsis s) (t:Int): ∃r,synopsis_Advance s t=some r∧ref25_Advance s t=some r∧lenS r.1:=by
 have hS:=lenS_of s w
 obtain ⟨_,w1,w2,w3,w4,w5,w6,w7,w8,w9,w10,w11⟩:=id w
 unfold synopsis_Advance ref25_Advance
 rw [(synopsis_validate s w).1,(synopsis_validate s w).2,Option.bind_some,Option.bind_some]
 by_cases hv:okSy s
 ·rw [vOf_t hv]
  simp only [bne_self_eq_false,cond_false]
  have fin: ∀(f:Int) (re:api_Recent) (co:api_Count) (su:api_Sum) (sm:api_Smooth) (sp:api_Spread) (po:api_Poly) (hn:Int) (hs:List Int) (ex:api_Extreme) (qu:api_Quantile),
    lenS ⟨s.Config,re,co,su,sm,sp,po,⟨hn,hs⟩,ex,s.Sample,s.Summary,qu⟩→ ∃r,synopsis_Advance_j3 s f re co su sm sp po hn hs ex qu=some r∧ref25_Advance_j3 s f re co su sm sp po hn hs ex qu=some r∧lenS r.1:=by
   intro f re co su sm sp po hn hs ex qu h
   unfold synopsis_Advance_j3 ref25_Advance_j3
   cases (f !=0) with
   |true=>exact ⟨_,rfl,rfl,zeroS_len⟩
   |false=>exact ⟨_,rfl,rfl,h⟩
  obtain ⟨h1,h2,h3,h4,h5,h6,h7,h8,h9,h10,h11⟩:=hS
  cases c1:(s.Config.Kind==(1:Int)) with
  |true=>
   obtain ⟨r,e1,e2,e3⟩:=advance9_eq s.Recent t h1
   simp only [cond_true,e1,e2,Option.bind_some]
   exact fin _ _ _ _ _ _ _ _ _ _ _ ⟨e3,h2,h3,h4,h5,h6,h7,h8,h9,h10,h11⟩
  |false=>
  cases c2:(s.Config.Kind==(2:Int)) with
  |true=>
   obtain ⟨r,e1,e2,e3⟩:=adv_count s.Count t w2.2.2.2.2.1
   simp only [cond_true,cond_false,e1,e2,Option.bind_some]
   exact fin _ _ _ _ _ _ _ _ _ _ _ ⟨h1,len_max e3,h3,h4,h5,h6,h7,h8,h9,h10,h11⟩
  |false=>
  cases c3:(s.Config.Kind==(3:Int)) with
  |true=>
   obtain ⟨r,e1,e2,e3⟩:=adv_sum s.Sum t w3.2.2.2.2.2.1
   simp only [cond_true,cond_false,e1,e2,Option.bind_some]
   exact fin _ _ _ _ _ _ _ _ _ _ _ ⟨h1,h2,len_max e3,h4,h5,h6,h7,h8,h9,h10,h11⟩
  |false=>
  cases c4:(s.Config.Kind==(4:Int)) with
  |true=>
   obtain ⟨r,e1,e2,e3⟩:=adv_smooth s.Smooth t w4.2.2.2.2.2.2.1
   simp only [cond_true,cond_false,e1,e2,Option.bind_some]
   exact fin _ _ _ _ _ _ _ _ _ _ _ ⟨h1,h2,h3,len_max e3,h5,h6,h7,h8,h9,h10,h11⟩
  |false=>
  cases c5:(s.Config.Kind==(5:Int)) with
  |true=>
   obtain ⟨r,e1,e2,e3⟩:=adv_spread s.Spread t w5.2.2.2.2.2.1
   simp only [cond_true,cond_false,e1,e2,Option.bind_some]
   exact fin _ _ _ _ _ _ _ _ _ _ _ ⟨h1,h2,h3,h4,len_max e3,h6,h7,h8,h9,h10,h11⟩
  |false=>
  cases c6:(s.Config.Kind==(6:Int)) with
  |true=>
   obtain ⟨r,e1,e2,e3⟩:=adv_poly s.Poly t w6.2.2.2.1 (wide_okU w6.2.2.2.2)
   simp only [cond_true,cond_false,e1,e2,Option.bind_some]
   exact fin _ _ _ _ _ _ _ _ _ _ _ ⟨h1,h2,h3,h4,h5,len_max e3,h7,h8,h9,h10,h11⟩
  |false=>
  cases c7:(s.Config.Kind==(7:Int)) with
  |true=>
   obtain ⟨r,e1,e2,e3⟩:=adv_halve s.Halve t w7.2.1
   simp only [cond_true,cond_false,e1,e2,Option.bind_some]
   exact fin _ _ _ _ _ _ _ _ _ _ _ ⟨h1,h2,h3,h4,h5,h6,len_max e3,h8,h9,h10,h11⟩
  |false=>
  cases c8:(s.Config.Kind==(8:Int)) with
  |true=>
   obtain ⟨r,e1,e2,e3⟩:=adv_extreme s.Extreme t w8.2.2.2.2.1
   simp only [cond_true,cond_false,e1,e2,Option.bind_some]
   exact fin _ _ _ _ _ _ _ _ _ _ _ ⟨h1,h2,h3,h4,h5,h6,h7,len_max e3,h9,h10,h11⟩
  |false=>
  cases c11:(s.Config.Kind==(11:Int)) with
  |true=>
   obtain ⟨r,e1,e2,e3,e4⟩:=adv_quantile s.Quantile t ⟨w11.2.2.2.2.1,fun x hx=>(w11.2.2.2.2.2 x hx).2.2.2.2.1⟩
   simp only [cond_true,cond_false,e1,e2,Option.bind_some]
   exact fin _ _ _ _ _ _ _ _ _ _ _ ⟨h1,h2,h3,h4,h5,h6,h7,h8,h9,h10,len_max e3,fun b hb=>h11.2 b (e4 b hb)⟩
  |false=>
   simp only [cond_false]
   have et:synopsis_tick t=ref06_Tick t:=rfl
   rw [et]
   cases (!ref06_Tick t) with
   |true=>rw [cond_true,cond_true];exact fin _ _ _ _ _ _ _ _ _ _ _ ⟨h1,h2,h3,h4,h5,h6,h7,h8,h9,h10,h11⟩
   |false=>rw [cond_false,cond_false];exact fin _ _ _ _ _ _ _ _ _ _ _ ⟨h1,h2,h3,h4,h5,h6,h7,h8,h9,h10,h11⟩
 ·rw [vOf_f hv]
  exact ⟨_,rfl,rfl,zeroS_len⟩
theorem law25_SynopsisAdvance_upto (p0:api_Synopsis) (p1:Int) (w0:wfU_api_Synopsis p0) (_:wfI .i64 p1):law25_SynopsisAdvance p0 p1=some true:=by
 unfold law25_SynopsisAdvance
 obtain ⟨b,hb⟩:=few25_some p0 (lenS_of p0 w0)
 obtain ⟨r,e1,e2,e3⟩:=advance_eq p0 w0 p1
 rw [hb,Option.bind_some,e1,e2,Option.bind_some,Option.bind_some,same25_refl _ e3,awake25]
 cases b<;>simp
end Go.Win
