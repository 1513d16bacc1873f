/- Pu: chapter 25: the laws about new and valid synopses. -/
import Derived.Test.YtmipeaidieflmaaGreatPuNw
import Derived.Test.YtmipeaidieflmaaGreatPuMade
set_option linter.unusedVariables false
set_option linter.unusedSimpArgs false
set_option linter.unnecessarySimpa false
set_option linter.unusedSectionVars false
namespace Go.Win
open Go.Vc Go.Dec
theorem el_replicate {α:Type} [Inhabited α] {n:Nat} {a:α} {i:Nat} (h:i<n):el (List.replicate n a) i=a:=by
 rw [el_get (by rw [List.length_replicate];exact h),List.getElem_replicate]
theorem wv_zero:wv ⟨0,0⟩=0:=rfl
theorem newS_ok {c:api_Config} {now:Int} (hc:cfgP c) (hn:0≤now∧now≤16777216):okSy (newS c now):=by
 have hc' :=hc
 unfold cfgP at hc'
 refine ⟨hc, ?_, ?_⟩
 ·have:c.Kind=1∨c.Kind=2∨c.Kind=3∨c.Kind=4∨c.Kind=5∨c.Kind=6∨c.Kind=7∨c.Kind=8∨c.Kind=9∨c.Kind=10∨c.Kind=11:=by omega
  unfold rightS newS
  have no: ∀ {α:Type} {p:Nat→Prop},∀i,i<([]:List α).length→p i:=fun i h=>absurd h (Nat.not_lt_zero i)
  have bk0: ∀ {k:Int},1≤k∧k≤128→okBk [] k:=fun h=>⟨h,no,fun h=>absurd h (Nat.not_lt_zero 0)⟩
  have mk0: ∀ {a b d e:Int},okMarks [] 0 a b d e:=⟨by omega,no,fun h=>absurd h (Nat.not_lt_zero 0)⟩
  have w0:w64 (totS [])=0:=rfl
  rcases this with h|h|h|h|h|h|h|h|h|h|h<;>simp only [h,Int.reduceEq,if_true,if_false,false_and,false_or,or_false,true_and,and_true]
  ·rw [okV_iff]
   refine ⟨by (try dsimp only);omega,by (try dsimp only);omega,(tick_iffP _).2 hn, ?_,fun p hp=>(by cases hp),List.Pairwise.nil⟩
   show (0:Int)≤c.Cap
   omega
  ·exact ⟨⟨by (try dsimp only);omega,by (try dsimp only);omega,hn,by (try dsimp only);omega⟩,bk0 (by (try dsimp only);omega),by (try dsimp only);rw [w0];omega,no⟩
  ·exact ⟨⟨⟨by (try dsimp only);omega,by (try dsimp only);omega,hn,by (try dsimp only);omega⟩,bk0 (by (try dsimp only);omega),by (try dsimp only);rw [w0];omega,no⟩,by (try dsimp only);omega⟩
  ·exact ⟨by (try dsimp only);omega,⟨by (try dsimp only);omega,by (try dsimp only);omega,hn,by (try dsimp only);omega⟩,mk0,no⟩
  ·exact ⟨⟨by (try dsimp only);omega,by (try dsimp only);omega,hn,by (try dsimp only);omega⟩,mk0,fun i _ h=>absurd h (Nat.not_lt_zero i)⟩
  ·refine ⟨⟨by (try dsimp only);omega,hn,by (try dsimp only);omega,by (try dsimp only);rw [List.length_replicate];omega⟩,fun i h1 h2=> ?_⟩
   have h2' :(i:Int)≤c.P:=h2
   simp only []
   rw [el_replicate (by (try dsimp only);omega),el_replicate (by (try dsimp only);omega),wv_zero]
   omega
  ·refine ⟨⟨⟨by (try dsimp only);rw [List.length_replicate];omega,hn⟩,fun i hi=> ?_⟩,by (try dsimp only);rw [List.length_replicate];omega⟩
   simp only [List.length_replicate] at hi
   simp only []
   rw [el_replicate hi]
   omega
  ·exact ⟨⟨⟨by (try dsimp only);omega,by (try dsimp only);omega,hn⟩,by show (0:Int)≤c.Cap;omega⟩,no⟩
  ·have h0:0<c.Chains.toNat:=by omega
   rw [el_replicate h0,List.length_replicate]
   refine ⟨?_,by omega,rfl,rfl⟩
   unfold okSa sample_Validate
   have e:(decide (((⟨List.replicate c.Chains.toNat ⟨c.W,c.Cap,0,0, []⟩⟩:api_Sample).Chains.length:Int)<1)||decide (((⟨List.replicate c.Chains.toNat ⟨c.W,c.Cap,0,0, []⟩⟩:api_Sample).Chains.length:Int)>16))=false:=by
    simp only [List.length_replicate];simp;omega
   rw [e,cond_false]
   unfold sample_Validate_l3
   refine (loop_prop (f:=fun s:Int=>sample_Validate_l3s ⟨List.replicate c.Chains.toNat ⟨c.W,c.Cap,0,0, []⟩⟩ s) c.Chains.toNat (fun _=>False) 2 (some 0) (fun i hi _=>⟨fun h=>h.elim,fun _=> ?_⟩) (fun _=> ?_)).2 fun _ _ h=>h
   ·unfold sample_Validate_l3s
    have ec:chain_Validate ⟨c.W,c.Cap,0,0, []⟩=some 0:=by
     unfold chain_Validate
     have:(((((((decide (c.W<(1:Int)))||(decide (c.W>(1048576:Int))))||(decide (c.Cap<(1:Int))))||(decide (c.Cap>(64:Int))))||(decide ((0:Int)<(0:Int))))||(decide ((0:Int)>(1099511627776:Int))))||(decide ((([]:List api_Link).length:Int)>c.Cap)))=false:=by
      rw [Bool.eq_false_iff];simp only [Bool.or_eq_true,decide_eq_true_eq,Ne,List.length_nil];omega
     simp only [this,cond_false]
     rfl
    have h16:c.Chains.toNat≤16:=by omega
    have es:w64 ((i:Int)+1)=((i+1:Nat):Int):=by rw [w64_id]<;>omega
    have e1:idx (List.replicate c.Chains.toNat (⟨c.W,c.Cap,0,0, []⟩:api_Chain)) (i:Int)=some ⟨c.W,c.Cap,0,0, []⟩:=by rw [el_idx (by rw [List.length_replicate];exact hi),el_replicate hi]
    have e0:idx (List.replicate c.Chains.toNat (⟨c.W,c.Cap,0,0, []⟩:api_Chain)) (0:Int)=some ⟨c.W,c.Cap,0,0, []⟩:=by rw [el_idx0 (by rw [List.length_replicate];exact h0),el_replicate h0]
    have e2:decide ((i:Int)<((List.replicate c.Chains.toNat (⟨c.W,c.Cap,0,0, []⟩:api_Chain)).length:Int))=true:=decide_eq_true (by rw [List.length_replicate];omega)
    simp only [e2,cond_true,e0,e1,Option.bind_some,ec,bne_self_eq_false,Bool.or_false,cond_false,es]
   ·unfold sample_Validate_l3s
    have e2:decide ((c.Chains.toNat:Int)<((List.replicate c.Chains.toNat (⟨c.W,c.Cap,0,0, []⟩:api_Chain)).length:Int))=false:=decide_eq_false (by rw [List.length_replicate];omega)
    simp only [e2,cond_false]
  ·exact ⟨⟨by (try dsimp only);omega,by (try dsimp only);omega,by show (0:Int)≤0∧(0:Int)≤1099511627776;omega,by show (0:Int)≤c.Cap;omega⟩,⟨fun _=>rfl,fun _=>rfl⟩,no,fun h=>absurd h (Nat.not_lt_zero 0)⟩
  ·refine ⟨⟨by (try dsimp only);omega,by (try dsimp only);omega,hn,by (try dsimp only);omega⟩,fun b hb=> ?_,by show w64 (totS [])≤c.Cap;rw [w0];omega,no⟩
   obtain ⟨b',_,b2,b3⟩:=size_eq (k:=c.K) (c:=c.Cap) (by (try dsimp only);omega) (by (try dsimp only);omega)
   have hb' :ref23_Size c.K c.Cap=some b:=hb
   rw [b2] at hb'
   cases hb'
   exact ⟨b3,bk0 (by (try dsimp only);omega),no⟩
 ·unfold othersP newS
  refine ⟨?_, ?_, ?_, ?_, ?_, ?_, ?_, ?_, ?_, ?_, ?_⟩
  all_goals
   intro h
   simp only [] at h
   rw [if_neg h]
  ·exact ⟨rfl,rfl,rfl,rfl⟩
  ·exact ⟨rfl,rfl,rfl,rfl,rfl⟩
  ·exact ⟨rfl,rfl,rfl,rfl,rfl,rfl⟩
  ·exact ⟨rfl,rfl,rfl,rfl,rfl,rfl,rfl⟩
  ·exact ⟨rfl,rfl,rfl,rfl,rfl,rfl⟩
  ·exact ⟨rfl,rfl,rfl,rfl⟩
  ·exact ⟨rfl,rfl⟩
  ·exact ⟨rfl,rfl,rfl,rfl,rfl⟩
  ·exact rfl
  ·exact ⟨rfl,rfl,rfl,rfl⟩
  ·exact ⟨rfl,rfl,rfl,rfl,rfl⟩
theorem add_loop {S R:Type} {f:S→Option (S⊕R)} (st:Nat→Int→S) (n:Nat) (g:Nat→Int) (A:Int→Option R)
  (hs: ∀(i:Nat) (b:Int),i<n→f (st i b)=some (.inl (st (i+1) (w64 (b+g i))))) (hd: ∀b,f (st n b)=Option.map Sum.inr (A b)) (b:Int):
  ∃c,loop f (st 0 b)=A c:=⟨_,loop_fold st n (fun i b=>w64 (b+g i)) A hs hd b⟩
theorem few25_some (s:api_Synopsis) (h:lenS s): ∃b,law25_few s=some b:=by
 have h6: ∀a,∃b,law25_few_l6 s a 0=some b:=by
  intro a
  unfold law25_few_l6
  obtain ⟨c,hc⟩:=add_loop (f:=fun t:Int×Int=>law25_few_l6s s t.1 t.2) (fun i b=>(b,(i:Int))) s.Quantile.Blocks.length (fun i=>((el s.Quantile.Blocks i).Ranks.Entries.length:Int)) (fun b=>some (decide (b≤200)))
   (fun i b hi=>by
    simp only []
    unfold law25_few_l6s
    rw [decide_eq_true (by omega:(i:Int)<(s.Quantile.Blocks.length:Int)),cond_true,el_idx hi,Option.bind_some,succW hi h.2.2.2.2.2.2.2.2.2.2.1])
   (fun b=>by
    simp only []
    unfold law25_few_l6s
    rw [decide_eq_false (Int.lt_irrefl _),cond_false]) a
  exact ⟨_,hc⟩
 unfold law25_few law25_few_l2
 obtain ⟨c,hc⟩:=add_loop (f:=fun t:Int×Int=>law25_few_l2s s t.1 t.2) (fun i b=>(b,(i:Int))) s.Sample.Chains.length (fun i=>((el s.Sample.Chains i).Links.length:Int)) (fun b=>law25_few_l6 s b 0)
  (fun i b hi=>by
   simp only []
   unfold law25_few_l2s
   rw [decide_eq_true (by omega:(i:Int)<(s.Sample.Chains.length:Int)),cond_true,el_idx hi,Option.bind_some,succW hi h.2.2.2.2.2.2.2.2.1.1])
  (fun b=>by
   simp only []
   unfold law25_few_l2s
   rw [decide_eq_false (Int.lt_irrefl _),cond_false]) (w64 ((w64 ((w64 ((w64 ((w64 ((w64 ((w64 ((w64 ((w64 ((w64 ((s.Recent.Items.length:Int)+(s.Count.Buckets.length:Int)))+(s.Sum.Buckets.length:Int)))+(s.Smooth.Marks.length:Int)))+(s.Spread.Marks.length:Int)))+(s.Poly.Moments.length:Int)))+(s.Halve.Sums.length:Int)))+(s.Extreme.Items.length:Int)))+(s.Summary.Tuples.length:Int)))+(s.Quantile.Blocks.length:Int)))+(s.Sample.Chains.length:Int)))
 obtain ⟨b,hb⟩:=h6 c
 exact ⟨b,hc.trans hb⟩
theorem awake25:law25_awake=some true:=by
 unfold law25_awake
 have hc:cfgP ⟨6,0,0,0,0,2,0,0⟩:=by unfold cfgP;simp
 obtain ⟨e1,_⟩:=new_eq hc (now:=0) (by decide)
 rw [e1,Option.bind_some]
 have hw:=newS_wf hc (now:=0) (by decide)
 have hr:synopsis_Records (newS ⟨6,0,0,0,0,2,0,0⟩ 0)=some 3:=by
  unfold synopsis_Records
  rw [(synopsis_validate _ hw).1,vOf_t (newS_ok hc (by decide)),Option.bind_some]
  show synopsis_Records_l3 _ 3 0=some 3
  unfold synopsis_Records_l3
  rw [loop_inr (r:=3)]
  show Option.map Sum.inr (synopsis_Records_l7 (newS ⟨6,0,0,0,0,2,0,0⟩ 0) 3 0)=_
  unfold synopsis_Records_l7
  rw [loop_inr (r:=3)]
  ·rfl
  ·rfl
 rw [hr]
 rfl
end Go.Win
