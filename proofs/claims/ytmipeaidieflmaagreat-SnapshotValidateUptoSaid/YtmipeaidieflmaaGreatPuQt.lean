/- Pu: chapters 22, 23: which lists of blocks are valid. -/
import Derived.Test.YtmipeaidieflmaaGreatPuSu
import Derived.Test.YtmipeaidieflmaaGreatPuHalves
import Derived.Test.YtmipeaidieflmaaGreatPuRank
set_option linter.unusedVariables false
set_option linter.unusedSimpArgs false
set_option linter.unnecessarySimpa false
set_option linter.unusedSectionVars false
namespace Go.Win
open Go.Vc Go.Dec
def inB (x:Int) (b:Nat):Prop:=(b=0∧x=0)∨(1≤b∧(2:Int)^(b-1)≤x∧x<2^b)
theorem bits_loop: ∀(b:Nat) (x c:Int),inB x b→x≤9223372036854775807→0≤c→c+b≤1000→ref01_Bits_l2 x c=some (c+b):=by
 intro b
 induction b with
 |zero=>
  intro x c h hx hc hb
  have hx0:x=0:=by
   rcases h with h|h
   ·exact h.2
   ·omega
  unfold ref01_Bits_l2
  rw [loop_inr (r:=c)]
  ·congr 1;omega
  ·unfold ref01_Bits_l2s
   rw [hx0];rfl
 |succ b ih=>
  intro x c h hx hc hb
  have h' :(2:Int)^b≤x∧x<2^(b+1):=by
   rcases h with h|h
   ·omega
   ·exact ⟨by simpa using h.2.1,h.2.2⟩
  have hp:=pow_pos' b
  have hin:inB (x/2) b:=by
   by_cases h0:b=0
   ·subst h0
    left
    have e1:(2:Int)^0=1:=rfl
    have e2:(2:Int)^(0+1)=2:=rfl
    omega
   ·right
    have e1:(2:Int)^b=2^(b-1)*2:=by rw [←Int.pow_succ];congr 1;omega
    have e2:(2:Int)^(b+1)=2^b*2:=Int.pow_succ 2 b
    omega
  have hst:ref01_Bits_l2s x c=some (.inl (x/2,c+1)):=by
   unfold ref01_Bits_l2s
   rw [decide_eq_true (by omega),cond_true,Int.tdiv_eq_ediv_of_nonneg (by omega),w64_id (by omega) (by omega),w64_id (by omega) (by omega)]
  have:=ih (x/2) (c+1) hin (by omega) (by omega) (by omega)
  unfold ref01_Bits_l2 at this⊢
  rw [loop_inl hst,this]
  congr 1
  omega
theorem bits_eq {x:Int} (h0:0<x) (h1:x≤9223372036854775807): ∃b:Nat,num_Bits x=some (b:Int)∧ref01_Bits x=some (b:Int)∧1≤b∧b≤64∧(2:Int)^(b-1)≤x∧x<2^b:=by
 obtain ⟨b,g1,g2,g3,g4,g5⟩:=bitLen_bounds h0 (by omega)
 refine ⟨b, ?_, ?_,g2,g3,g4,g5⟩
 ·unfold num_Bits
  rw [decide_eq_false (by omega),cond_false,wu_id (by omega) (by omega),g1];rfl
 ·unfold ref01_Bits
  rw [bits_loop b x 0 (.inr ⟨g2,g4,g5⟩) h1 (by omega) (by omega)]
  congr 1;omega
theorem size_eq {k c:Int} (hk:1≤k∧k≤64) (hc:1≤c∧c≤65536): ∃b,quantile_Size k c=some b∧ref23_Size k c=some b∧1≤b∧b≤65536:=by
 obtain ⟨b,g1,g2,g3,g4,g5,g6⟩:=bits_eq (x:=c) (by omega) (by omega)
 have hm:=mul_rng (a:=2*k) (A:=128) (b:=(b:Int)+2) (B:=66) (by omega) (by omega)
 have hm2:1*1≤2*k*((b:Int)+2):=Int.mul_le_mul (by omega) (by omega) (by decide) (by omega)
 refine ⟨2*k*(b+2), ?_, ?_,by omega,by omega⟩
 ·unfold quantile_Size
  have e:quantile_good 1 k c 0=true:=by unfold quantile_good;simp;omega
  simp only [e,Bool.not_true,cond_false,g1,Option.bind_some]
  rw [w64_id (n:=2*k) (by omega) (by omega),w64_id (n:=(b:Int)+2) (by omega) (by omega),w64_id (by omega) (by omega)]
 ·unfold ref23_Size
  have e:(((!(ref11_MayK k))||(decide (c<(1:Int))))||(decide (c>(65536:Int))))=false:=by
   rw [(mayK_iff k).2 hk];simp;omega
  simp only [e,cond_false,g2,Option.bind_some]
  rw [w64_id (n:=2*k) (by omega) (by omega),w64_id (n:=(b:Int)+2) (by omega) (by omega),w64_id (by omega) (by omega)]
def plainB (l:List api_Block):List api_Bucket:=l.map fun x=>⟨x.T,x.Level⟩
theorem plainB_len (l:List api_Block):(plainB l).length=l.length:=by simp [plainB]
theorem plainB_el {l:List api_Block} {i:Nat} (h:i<l.length):el (plainB l) i=⟨(el l i).T,(el l i).Level⟩:=by
 rw [el_get (by rw [plainB_len];exact h),el_get h]
 simp [plainB]
theorem plain_loop (l:List api_Block) (hl:l.length≤1048576):blocks_plain l=some (plainB l):=by
 unfold blocks_plain blocks_plain_l2
 have H:=loop_st (f:=fun s:List api_Bucket×Int=>blocks_plain_l2s l s.1 s.2) (fun i=>(plainB (l.take i),(i:Int))) 0 l.length (Nat.zero_le _) (fun _=>False) [] (some (plainB l))
  (fun i _ hi _=>by
   refine ⟨fun h=>h.elim,fun _=> ?_⟩
   simp only []
   unfold blocks_plain_l2s
   have hm:l.length≤maxLen:=by rw [maxLen_eq];omega
   rw [decide_eq_true (by omega:(i:Int)<(l.length:Int)),cond_true,el_idx hi,Option.bind_some,succW hi hm]
   have e1:plainB (l.take (i+1))=plainB (l.take i)++ [⟨(el l i).T,(el l i).Level⟩]:=by
    rw [List.take_add_one,el_get? hi];simp [plainB]
   have e2:(plainB (l.take i)).length=i:=by rw [plainB_len,List.length_take];omega
   rw [e1,e2,decide_eq_true (by simp only [List.length_cons,List.length_nil];omega),ck_true])
  (fun _=>by
   simp only []
   unfold blocks_plain_l2s
   rw [decide_eq_false (Int.lt_irrefl _),cond_false,List.take_length])
 exact H.2 (fun _ _ _ h=>h)
theorem plain_eq:ref22_Plain=blocks_plain:=rfl
def alS (b:Int):Nat→Int
 |0=>0
 |i+1=>if (2:Int)^i>b+1 then 2*alS b i+((2:Int)^i-1+b-1)/b else alS b i
theorem alS_rng {b:Int} (hb:1≤b): ∀i:Nat,0≤alS b i∧alS b i≤i*2^i:=by
 intro i
 induction i with
 |zero=>exact ⟨Int.le_refl _,Int.le_refl _⟩
 |succ i ih=>
  have hp:=pow_pos' i
  have e2:(2:Int)^(i+1)=2^i*2:=Int.pow_succ 2 i
  have e3:((i+1:Nat):Int)*2^(i+1)=(i:Int)*2^i*2+2^i*2:=by
   rw [e2,Int.natCast_add,Int.add_mul,Int.mul_assoc];simp
  rw [e3]
  unfold alS
  split
  ·have h1:((2:Int)^i-1+b-1)/b≤2^i:=by
    have:((2:Int)^i-1+b-1)/b<2^i+1:=by
     rw [Int.ediv_lt_iff_lt_mul (by omega),Int.add_mul,Int.one_mul]
     have:=Int.mul_le_mul_of_nonneg_left hb (show (0:Int)≤2^i by omega)
     omega
    omega
   have h2:0≤((2:Int)^i-1+b-1)/b:=Int.ediv_nonneg (by omega) (by omega)
   omega
  ·omega
theorem pow_fin: ∀n:Fin 31,(2:Int)^n.1≤1073741824:=by decide
theorem pow30 {i:Nat} (h:i≤30):(2:Int)^i≤1073741824:=pow_fin ⟨i,by omega⟩
theorem alS_le {b:Int} (hb:1≤b) {i:Nat} (hi:i≤30):0≤alS b i∧alS b i≤32212254720:=by
 obtain ⟨h1,h2⟩:=alS_rng hb i
 have hp:=pow30 hi
 have:=mul_rng (a:=(i:Int)) (A:=30) (b:=2^i) (B:=1073741824) (by omega) ⟨Int.le_of_lt (pow_pos' i),hp⟩
 omega
theorem ceil_eq {a b:Int} (ha:0≤a∧a≤4611686018427387904) (hb:1≤b∧b≤4611686018427387904):num_CeilDiv a b=some ((a+b-1)/b,true):=by
 unfold num_CeilDiv
 have e1:((b==0)||((a== -9223372036854775808)&&(b== -1)))=false:=by
  rw [Bool.eq_false_iff];simp only [Bool.or_eq_true,Bool.and_eq_true,beq_iff_eq,Ne];omega
 rw [e1,cond_false,decide_eq_true (by omega:b≠0),ck_true,ck_true,Int.tdiv_eq_ediv_of_nonneg ha.1,Int.tmod_eq_emod_of_nonneg ha.1]
 have hq:0≤a/b:=Int.ediv_nonneg ha.1 (by omega)
 have hq2:a/b≤a:=Int.ediv_le_self b ha.1
 have hr:=Int.emod_nonneg a (show b≠0 by omega)
 have hr2:=Int.emod_lt_of_pos a (show 0<b by omega)
 have hd:=Int.mul_ediv_add_emod a b
 rw [decide_eq_false (by omega: ¬a<0),decide_eq_false (by omega: ¬b<0)]
 by_cases h0:a%b=0
 ·have e2:(a%b !=0&&(false==false))=false:=by rw [h0];rfl
  rw [e2,cond_false,w64_id (by omega) (by omega)]
  have:(a+b-1)/b=a/b:=by
   have e3:a+b-1=(b-1)+b*(a/b):=by omega
   rw [e3,Int.add_mul_ediv_left _ _ (by omega),Int.ediv_eq_zero_of_lt (by omega) (by omega)];omega
  rw [this]
 ·have e2:(a%b !=0&&(false==false))=true:=by rw [Bool.and_eq_true];exact ⟨bne_iff_ne.2 h0,rfl⟩
  rw [e2,cond_true,w64_id (n:=a/b) (by omega) (by omega),w64_id (by omega) (by omega)]
  have:(a+b-1)/b=a/b+1:=by
   have e3:a+b-1=(a%b-1)+b*(a/b+1):=by rw [Int.mul_add];omega
   rw [e3,Int.add_mul_ediv_left _ _ (by omega),Int.ediv_eq_zero_of_lt (by omega) (by omega)];omega
  rw [this]
theorem allowed_eq {L b:Int} (hL:0≤L∧L≤30) (hb:1≤b∧b≤65536):blocks_Allowed L b=some (alS b (L.toNat+1))∧ref22_Allowed L b=some (alS b (L.toNat+1)):=by
 have e:((((decide (L<(0:Int)))||(decide (L>(30:Int))))||(decide (b<(1:Int))))||(decide (b>(65536:Int))))=false:=by
  rw [Bool.eq_false_iff];simp only [Bool.or_eq_true,decide_eq_true_eq,Ne];omega
 constructor
 ·unfold blocks_Allowed
  rw [e,cond_false]
  unfold blocks_Allowed_l3
  have H:=loop_st (f:=fun s:Int×Int=>blocks_Allowed_l3s L b s.1 s.2) (fun i=>(alS b i,(i:Int))) 0 (L.toNat+1) (Nat.zero_le _) (fun _=>False) 0 (some (alS b (L.toNat+1)))
   (fun i _ hi _=>by
    refine ⟨fun h=>h.elim,fun _=> ?_⟩
    simp only []
    unfold blocks_Allowed_l3s
    have hp:=pow30 (show i≤30 by omega)
    have hp0:=pow_pos' i
    have ha:=alS_le hb.1 (show i≤30 by omega)
    have es:w64 ((i:Int)+1)=((i+1:Nat):Int):=by rw [w64_id]<;>omega
    have ew:decide (0≤wu64 (i:Int))=true:=decide_eq_true (by rw [wu_id]<;>omega)
    rw [decide_eq_true (by omega:(i:Int)≤L),cond_true,ew,ck_true,ishl1 (by omega) (by omega),Int.toNat_natCast,es,w64_id (n:=b+1) (by omega) (by omega)]
    by_cases h:(2:Int)^i>b+1
    ·rw [decide_eq_true h,cond_true,w64_id (n:=(2:Int)^i-1) (by omega) (by omega),ceil_eq (by omega) (by omega),Option.bind_some,w64_id (n:=2*alS b i) (by omega) (by omega)]
     have h1:0≤((2:Int)^i-1+b-1)/b:=Int.ediv_nonneg (by omega) (by omega)
     have h2:((2:Int)^i-1+b-1)/b≤(2:Int)^i-1+b-1:=Int.ediv_le_self b (by omega)
     simp only []
     rw [w64_id (by omega) (by omega)]
     have ea:alS b (i+1)=2*alS b i+((2:Int)^i-1+b-1)/b:=by rw [alS,if_pos h]
     rw [ea]
    ·rw [decide_eq_false h,cond_false]
     have ea:alS b (i+1)=alS b i:=by rw [alS,if_neg h]
     rw [ea])
   (fun _=>by
    simp only []
    unfold blocks_Allowed_l3s
    rw [decide_eq_false (by omega),cond_false])
  exact H.2 (fun _ _ _ h=>h)
 ·unfold ref22_Allowed
  rw [e,cond_false]
  unfold ref22_Allowed_l3
  have H:=loop_st (f:=fun s:Int×Int=>ref22_Allowed_l3s L b s.1 s.2) (fun i=>(alS b i,(i:Int))) 0 (L.toNat+1) (Nat.zero_le _) (fun _=>False) 0 (some (alS b (L.toNat+1)))
   (fun i _ hi _=>by
    refine ⟨fun h=>h.elim,fun _=> ?_⟩
    simp only []
    unfold ref22_Allowed_l3s
    have hp:=pow30 (show i≤30 by omega)
    have hp0:=pow_pos' i
    have ha:=alS_le hb.1 (show i≤30 by omega)
    have es:w64 ((i:Int)+1)=((i+1:Nat):Int):=by rw [w64_id]<;>omega
    have ew:decide (0≤wu64 (i:Int))=true:=decide_eq_true (by rw [wu_id]<;>omega)
    rw [decide_eq_true (by omega:(i:Int)≤L),cond_true,ew,ck_true,ishl1 (by omega) (by omega),Int.toNat_natCast,es,w64_id (n:=b+1) (by omega) (by omega)]
    by_cases h:(2:Int)^i>b+1
    ·have h1:0≤((2:Int)^i-1+b-1)/b:=Int.ediv_nonneg (by omega) (by omega)
     have h2:((2:Int)^i-1+b-1)/b≤(2:Int)^i-1+b-1:=Int.ediv_le_self b (by omega)
     rw [decide_eq_true h,cond_true,decide_eq_true (by omega:b≠0),ck_true,w64_id (n:=(2:Int)^i-1) (by omega) (by omega),w64_id (n:=(2:Int)^i-1+b) (by omega) (by omega),w64_id (n:=(2:Int)^i-1+b-1) (by omega) (by omega),
      Int.tdiv_eq_ediv_of_nonneg (by omega),w64_id (n:=((2:Int)^i-1+b-1)/b) (by omega) (by omega),w64_id (n:=2*alS b i) (by omega) (by omega),w64_id (by omega) (by omega)]
     have ea:alS b (i+1)=2*alS b i+((2:Int)^i-1+b-1)/b:=by rw [alS,if_pos h]
     rw [ea]
    ·rw [decide_eq_false h,cond_false]
     have ea:alS b (i+1)=alS b i:=by rw [alS,if_neg h]
     rw [ea])
   (fun _=>by
    simp only []
    unfold ref22_Allowed_l3s
    rw [decide_eq_false (by omega),cond_false])
  exact H.2 (fun _ _ _ h=>h)
def okBlk (b:Int) (x:api_Block):Prop:=okB x.Ranks=true∧x.Ranks.N=2^x.Level.toNat∧(x.Ranks.Entries.length:Int)≤b+1∧w64 (gapR x.Ranks.Entries-1)≤alS b (x.Level.toNat+1)∧
 -4096≤(el x.Ranks.Entries 0).V∧(el x.Ranks.Entries (x.Ranks.Entries.length-1)).V≤4096∧(el x.Ranks.Entries 0).V≤x.Last∧x.Last≤(el x.Ranks.Entries (x.Ranks.Entries.length-1)).V
def okBlks (l:List api_Block) (k b:Int):Prop:=(1≤b∧b≤65536)∧okBk (plainB l) k∧ ∀i,i<l.length→okBlk b (el l i)
def smallBl (l:List api_Block):Prop:=l.length≤1048576∧ ∀x∈l,x.Ranks.Entries.length≤1048576
theorem okBk_level {l:List api_Block} {k:Int} (h:okBk (plainB l) k) {i:Nat} (hi:i<l.length):0≤(el l i).Level∧(el l i).Level≤30:=by
 have:=h.2.1 i (by rw [plainB_len];exact hi)
 unfold badB at this
 rw [plainB_el hi] at this
 simp only [] at this
 omega
theorem ranks_pos {r:api_Ranks} (h:okB r=true) {n:Nat} (hn:r.N=2^n):0<r.Entries.length:=by
 have h1:=(okB_iff r).1 h
 have:=pow_pos' n
 have h2:=h1.nil
 omega
theorem blocks_valid (l:List api_Block) (k b:Int) (hs:smallBl l):blocks_Valid l k b=some (bOf (okBlks l k b)):=by
 have hm:l.length≤maxLen:=by rw [maxLen_eq];have:=hs.1;omega
 unfold blocks_Valid
 by_cases hb:1≤b∧b≤65536
 ·have e:(decide (b<1)||decide (b>65536))=false:=by simp;omega
  rw [e,plain_loop l hs.1]
  simp only [Bool.not_false,gd_true,Option.bind_some,Bool.false_or]
  rw [buckets_valid _ _ (by rw [plainB_len];exact hm),Option.bind_some]
  by_cases h2:okBk (plainB l) k
  ·rw [bOf_t h2,Bool.not_true,cond_false]
   unfold blocks_Valid_l3
   have H:=loop_prop (f:=fun s:Int=>blocks_Valid_l3s l b s) l.length (fun i=> ¬okBlk b (el l i)) false (some true)
    (fun i hi _=>by
     unfold blocks_Valid_l3s
     have hv:=okBk_level h2 hi
     have hr:=hs.2 _ (el_mem hi)
     rw [decide_eq_true (by omega:(i:Int)<(l.length:Int)),cond_true,el_idx hi,Option.bind_some,succW hi hm]
     generalize el l i=x at hv hr⊢
     have ew:decide (0≤wu64 x.Level)=true:=decide_eq_true (by rw [wu_id]<;>omega)
     simp only [rank_validate x.Ranks hr,Option.bind_some,ew,Bool.or_true,ck_true,ishl1 hv.1 hv.2]
     have eb1:w64 (b+1)=b+1:=by rw [w64_id]<;>omega
     rw [eb1]
     cases hB:okB x.Ranks with
     |false=>
      simp only [cond_false,show ((2:Int) !=0)=true from rfl,Bool.true_or,Bool.not_true,gd_false,Option.bind_some,cond_true]
      exact ⟨fun _=>trivial,fun h=>absurd (fun h2:okBlk b x=>by have:=h2.1;rw [hB] at this;cases this) h⟩
     |true=>
      simp only [cond_true,show ((0:Int) !=0)=false from rfl,Bool.false_or]
      by_cases g1:x.Ranks.N=2^x.Level.toNat∧(x.Ranks.Entries.length:Int)≤b+1
      ·have e1:((x.Ranks.N !=2^x.Level.toNat)||decide ((x.Ranks.Entries.length:Int)>b+1))=false:=by
        rw [g1.1,bne_self_eq_false,Bool.false_or];exact decide_eq_false (by omega)
       rw [e1]
       have h0:=ranks_pos hB g1.1
       have hm2:x.Ranks.Entries.length≤maxLen:=by rw [maxLen_eq];omega
       simp only [Bool.not_false,gd_true,rank_gap x.Ranks hr,Option.bind_some,hB,cond_true,(allowed_eq hv hb).1,Bool.false_or,el_idx0 h0,predW h0 (Nat.le_refl _) hm2,el_idx (show x.Ranks.Entries.length-1<x.Ranks.Entries.length by omega)]
       rw [cond_merge]
       refine step_iff ?_
       unfold okBlk
       simp only [hB,g1,true_and,Bool.or_eq_true,decide_eq_true_eq]
       omega
      ·have e1:((x.Ranks.N !=2^x.Level.toNat)||decide ((x.Ranks.Entries.length:Int)>b+1))=true:=by
        rw [Bool.or_eq_true,bne_iff_ne,decide_eq_true_eq]
        by_cases q:x.Ranks.N=2^x.Level.toNat
        ·right
         have: ¬(x.Ranks.Entries.length:Int)≤b+1:=fun h=>g1 ⟨q,h⟩
         omega
        ·exact .inl q
       rw [e1]
       simp only [Bool.not_true,gd_false,Option.bind_some,Bool.true_or,cond_true]
       exact ⟨fun _=>trivial,fun h=>absurd (fun h2=>g1 ⟨h2.2.1,h2.2.2.1⟩) h⟩)
    (fun _=>by
     unfold blocks_Valid_l3s
     rw [decide_eq_false (Int.lt_irrefl _),cond_false])
   by_cases h3: ∀i,i<l.length→okBlk b (el l i)
   ·rw [H.2 fun i hi hn=>hn (h3 i hi),bOf_t]
    exact ⟨hb,h2,h3⟩
   ·rw [H.1 (not_all h3),bOf_f]
    exact fun h=>h3 h.2.2
  ·rw [bOf_f h2,bOf_f fun h=>h2 h.2.1];rfl
 ·have e:(decide (b<1)||decide (b>65536))=true:=by
   rw [Bool.eq_iff_iff];simp;omega
  rw [e,bOf_f fun h=>hb h.1];rfl
theorem ref22_valid (l:List api_Block) (k b:Int) (hs:smallBl l):ref22_Valid l k b=some (bOf (okBlks l k b)):=by
 have hm:l.length≤maxLen:=by rw [maxLen_eq];have:=hs.1;omega
 unfold ref22_Valid
 by_cases hb:1≤b∧b≤65536
 ·have e:(decide (b<1)||decide (b>65536))=false:=by simp;omega
  rw [e,plain_eq,plain_loop l hs.1]
  simp only [Bool.not_false,gd_true,Option.bind_some,Bool.false_or]
  rw [ref10_valid _ _ (by rw [plainB_len];exact hm),Option.bind_some]
  by_cases h2:okBk (plainB l) k
  ·rw [bOf_t h2,Bool.not_true,cond_false]
   unfold ref22_Valid_l3
   have H:=loop_prop (f:=fun s:Int=>ref22_Valid_l3s l b s) l.length (fun i=> ¬okBlk b (el l i)) false (some true)
    (fun i hi _=>by
     unfold ref22_Valid_l3s
     have hv:=okBk_level h2 hi
     have hr:=hs.2 _ (el_mem hi)
     rw [decide_eq_true (by omega:(i:Int)<(l.length:Int)),cond_true,el_idx hi,Option.bind_some,succW hi hm]
     generalize el l i=x at hv hr⊢
     have ew:decide (0≤wu64 x.Level)=true:=decide_eq_true (by rw [wu_id]<;>omega)
     simp only [ref_validate x.Ranks hr,Option.bind_some,ew,Bool.or_true,ck_true,ishl1 hv.1 hv.2]
     have eb1:w64 (b+1)=b+1:=by rw [w64_id]<;>omega
     rw [eb1]
     cases hB:okB x.Ranks with
     |false=>
      simp only [cond_false,show ((2:Int) !=0)=true from rfl,Bool.true_or,Bool.not_true,gd_false,Option.bind_some,cond_true]
      exact ⟨fun _=>trivial,fun h=>absurd (fun h2:okBlk b x=>by have:=h2.1;rw [hB] at this;cases this) h⟩
     |true=>
      simp only [cond_true,show ((0:Int) !=0)=false from rfl,Bool.false_or]
      by_cases g1:x.Ranks.N=2^x.Level.toNat∧(x.Ranks.Entries.length:Int)≤b+1
      ·have e1:((x.Ranks.N !=2^x.Level.toNat)||decide ((x.Ranks.Entries.length:Int)>b+1))=false:=by
        rw [g1.1,bne_self_eq_false,Bool.false_or];exact decide_eq_false (by omega)
       rw [e1]
       have h0:=ranks_pos hB g1.1
       have hm2:x.Ranks.Entries.length≤maxLen:=by rw [maxLen_eq];omega
       simp only [Bool.not_false,gd_true,ref_gap x.Ranks hr,Option.bind_some,hB,cond_true,(allowed_eq hv hb).2,Bool.false_or,el_idx0 h0,predW h0 (Nat.le_refl _) hm2,el_idx (show x.Ranks.Entries.length-1<x.Ranks.Entries.length by omega)]
       by_cases g2:(-4096≤(el x.Ranks.Entries 0).V∧(el x.Ranks.Entries 0).V≤4096)∧(-4096≤(el x.Ranks.Entries (x.Ranks.Entries.length-1)).V∧(el x.Ranks.Entries (x.Ranks.Entries.length-1)).V≤4096)∧(el x.Ranks.Entries 0).V≤x.Last∧x.Last≤(el x.Ranks.Entries (x.Ranks.Entries.length-1)).V
       ·have e2:((((!(ref09_Value (el x.Ranks.Entries 0).V))||(!(ref09_Value (el x.Ranks.Entries (x.Ranks.Entries.length-1)).V)))||(decide (x.Last<(el x.Ranks.Entries 0).V)))||(decide (x.Last>(el x.Ranks.Entries (x.Ranks.Entries.length-1)).V)))=false:=by
         rw [(value_iff _).2 g2.1,(value_iff _).2 g2.2.1,Bool.eq_false_iff];simp only [Bool.or_eq_true,decide_eq_true_eq,Ne,Bool.not_true,Bool.false_eq_true,or_false,false_or];omega
        rw [e2,cond_false]
        simp only [Bool.not_false,gd_true,Option.bind_some,Bool.false_or]
        refine step_iff ?_
        unfold okBlk
        simp only [hB,g1,true_and,decide_eq_true_eq]
        omega
       ·have e2:((((!(ref09_Value (el x.Ranks.Entries 0).V))||(!(ref09_Value (el x.Ranks.Entries (x.Ranks.Entries.length-1)).V)))||(decide (x.Last<(el x.Ranks.Entries 0).V)))||(decide (x.Last>(el x.Ranks.Entries (x.Ranks.Entries.length-1)).V)))=true:=by
         simp only [Bool.or_eq_true,decide_eq_true_eq,Bool.not_eq_true']
         rw [Bool.eq_false_iff,Bool.eq_false_iff,Ne,Ne,value_iff,value_iff];omega
        rw [e2,cond_false]
        simp only [Bool.not_true,gd_false,Option.bind_some,Bool.true_or,cond_true]
        refine ⟨fun _=>trivial,fun h=>absurd (fun h2=>g2 ?_) h⟩
        have:=h2.2.2.2
        omega
      ·have e1:((x.Ranks.N !=2^x.Level.toNat)||decide ((x.Ranks.Entries.length:Int)>b+1))=true:=by
        rw [Bool.or_eq_true,bne_iff_ne,decide_eq_true_eq]
        by_cases q:x.Ranks.N=2^x.Level.toNat
        ·right
         have: ¬(x.Ranks.Entries.length:Int)≤b+1:=fun h=>g1 ⟨q,h⟩
         omega
        ·exact .inl q
       rw [e1,cond_true]
       exact ⟨fun _=>rfl,fun h=>absurd (fun h2=>g1 ⟨h2.2.1,h2.2.2.1⟩) h⟩)
    (fun _=>by
     unfold ref22_Valid_l3s
     rw [decide_eq_false (Int.lt_irrefl _),cond_false])
   by_cases h3: ∀i,i<l.length→okBlk b (el l i)
   ·rw [H.2 fun i hi hn=>hn (h3 i hi),bOf_t]
    exact ⟨hb,h2,h3⟩
   ·rw [H.1 (not_all h3),bOf_f]
    exact fun h=>h3 h.2.2
  ·rw [bOf_f h2,bOf_f fun h=>h2 h.2.1];rfl
 ·have e:(decide (b<1)||decide (b>65536))=true:=by
   rw [Bool.eq_iff_iff];simp;omega
  rw [e,bOf_f fun h=>hb h.1];rfl
theorem blocks_total (l:List api_Block) (hs:smallBl l):blocks_Total l=some (w64 (totS (plainB l)))∧ref22_Total l=some (w64 (totS (plainB l))):=by
 have hm:(plainB l).length≤maxLen:=by rw [maxLen_eq,plainB_len];have:=hs.1;omega
 refine ⟨?_, ?_⟩
 ·unfold blocks_Total
  rw [plain_loop l hs.1,Option.bind_some,total10_eq,ref10_total _ hm];rfl
 ·unfold ref22_Total
  rw [plain_eq,plain_loop l hs.1,Option.bind_some,ref10_total _ hm];rfl
def okQt (x:api_Quantile):Prop:=parP x.W x.K x.Cap x.Now∧(∀b,ref23_Size x.K x.Cap=some b→okBlks x.Blocks (2*x.K) b)∧w64 (totS (plainB x.Blocks))≤x.Cap∧ ∀i,i<x.Blocks.length→ref06_Live x.Now x.W (el x.Blocks i).T=true
theorem quantile_good_iff (w k c n:Int):quantile_good w k c n=true↔parP w k c n:=by
 unfold quantile_good parP;simp;omega
theorem quantile_validate (x:api_Quantile) (hs:smallBl x.Blocks):quantile_Validate x=some (vOf (okQt x)):=by
 have hm:x.Blocks.length≤maxLen:=by rw [maxLen_eq];have:=hs.1;omega
 unfold quantile_Validate
 simp only []
 by_cases h1:parP x.W x.K x.Cap x.Now
 ·obtain ⟨b,b1,b2,b3⟩:=size_eq (k:=x.K) (c:=x.Cap) h1.2.2.2 h1.2.1
  have hk:=h1.2.2.2
  rw [(quantile_good_iff _ _ _ _).2 h1,b1,w64_id (n:=2*x.K) (by omega) (by omega)]
  simp only [Bool.not_true,Bool.not_false,gd_true,Option.bind_some,Bool.false_or,blocks_valid _ _ _ hs,(blocks_total _ hs).1]
  by_cases h2:okBlks x.Blocks (2*x.K) b
  ·rw [bOf_t h2]
   simp only [Bool.not_true,Bool.not_false,gd_true,Option.bind_some,Bool.false_or]
   by_cases h3:w64 (totS (plainB x.Blocks))≤x.Cap
   ·rw [decide_eq_false (by omega),cond_false]
    unfold quantile_Validate_l3
    have H:=loop_prop (f:=fun s:Int=>quantile_Validate_l3s x s) x.Blocks.length (fun i=> ¬ref06_Live x.Now x.W (el x.Blocks i).T=true) 2 (some 0)
     (fun i hi _=>by
      unfold quantile_Validate_l3s
      rw [decide_eq_true (by omega:(i:Int)<(x.Blocks.length:Int)),cond_true,el_idx hi,Option.bind_some,succW hi hm]
      refine step_iff ?_
      simp [live_eq])
     (fun _=>by
      unfold quantile_Validate_l3s
      rw [decide_eq_false (Int.lt_irrefl _),cond_false])
    by_cases h4: ∀i,i<x.Blocks.length→ref06_Live x.Now x.W (el x.Blocks i).T=true
    ·rw [H.2 fun i hi hn=>hn (h4 i hi),vOf_t]
     exact ⟨h1,fun b' hb' =>by rw [b2] at hb';cases hb';exact h2,h3,h4⟩
    ·rw [H.1 (not_all h4),vOf_f]
     exact fun h=>h4 h.2.2.2
   ·rw [decide_eq_true (by omega),cond_true,vOf_f]
    exact fun h=>h3 h.2.2.1
  ·rw [bOf_f h2]
   simp only [Bool.not_true,Bool.not_false,gd_false,Option.bind_some,Bool.true_or,cond_true]
   rw [vOf_f]
   exact fun h=>h2 (h.2.1 b b2)
 ·rw [Bool.eq_false_iff.2 fun h=>h1 ((quantile_good_iff _ _ _ _).1 h),vOf_f fun h=>h1 h.1]
  rfl
theorem ref23_validate (x:api_Quantile) (hs:smallBl x.Blocks):ref23_Validate x=some (vOf (okQt x)):=by
 have hm:x.Blocks.length≤maxLen:=by rw [maxLen_eq];have:=hs.1;omega
 unfold ref23_Validate
 simp only []
 by_cases h1:parP x.W x.K x.Cap x.Now
 ·obtain ⟨b,b1,b2,b3⟩:=size_eq (k:=x.K) (c:=x.Cap) h1.2.2.2 h1.2.1
  have hk:=h1.2.2.2
  rw [(may_iff _ _ _).2 ⟨h1.1,h1.2.1,h1.2.2.1⟩,(mayK_iff _).2 hk,b2,w64_id (n:=2*x.K) (by omega) (by omega)]
  simp only [Bool.not_true,Bool.not_false,gd_true,Option.bind_some,Bool.or_false,Bool.false_or,ref22_valid _ _ _ hs,(blocks_total _ hs).2]
  by_cases h2:okBlks x.Blocks (2*x.K) b
  ·rw [bOf_t h2]
   simp only [Bool.not_true,Bool.not_false,gd_true,Option.bind_some,Bool.false_or]
   by_cases h3:w64 (totS (plainB x.Blocks))≤x.Cap
   ·rw [decide_eq_false (by omega),cond_false]
    unfold ref23_Validate_l3
    have H:=loop_prop (f:=fun s:Int=>ref23_Validate_l3s x s) x.Blocks.length (fun i=> ¬ref06_Live x.Now x.W (el x.Blocks i).T=true) 2 (some 0)
     (fun i hi _=>by
      unfold ref23_Validate_l3s
      rw [decide_eq_true (by omega:(i:Int)<(x.Blocks.length:Int)),cond_true,el_idx hi,Option.bind_some,succW hi hm]
      refine step_iff ?_
      simp)
     (fun _=>by
      unfold ref23_Validate_l3s
      rw [decide_eq_false (Int.lt_irrefl _),cond_false])
    by_cases h4: ∀i,i<x.Blocks.length→ref06_Live x.Now x.W (el x.Blocks i).T=true
    ·rw [H.2 fun i hi hn=>hn (h4 i hi),vOf_t]
     exact ⟨h1,fun b' hb' =>by rw [b2] at hb';cases hb';exact h2,h3,h4⟩
    ·rw [H.1 (not_all h4),vOf_f]
     exact fun h=>h4 h.2.2.2
   ·rw [decide_eq_true (by omega),cond_true,vOf_f]
    exact fun h=>h3 h.2.2.1
  ·rw [bOf_f h2]
   simp only [Bool.not_true,Bool.not_false,gd_false,Option.bind_some,Bool.true_or,cond_true]
   rw [vOf_f]
   exact fun h=>h2 (h.2.1 b b2)
 ·have e1:(!ref09_May x.W x.Cap x.Now|| !ref11_MayK x.K)=true:=by
   rw [Bool.or_eq_true,Bool.not_eq_true',Bool.not_eq_true',Bool.eq_false_iff,Bool.eq_false_iff,Ne,Ne,may_iff,mayK_iff]
   unfold parP at h1
   omega
  rw [e1,vOf_f fun h=>h1 h.1]
  rfl
theorem same21r_refl (r:api_Ranks) (hl:r.Entries.length≤maxLen):ref21_Same r r=some true:=by
 unfold ref21_Same
 simp only [bne_self_eq_false,Bool.or_false,cond_false]
 unfold ref21_Same_l3
 refine (loop_prop (f:=fun s:Int=>ref21_Same_l3s r r s) r.Entries.length (fun _=>False) false (some true) (fun i hi _=>⟨fun h=>h.elim,fun _=> ?_⟩) (fun _=> ?_)).2 fun _ _ h=>h
 ·unfold ref21_Same_l3s
  rw [decide_eq_true (by omega:(i:Int)<(r.Entries.length:Int)),cond_true,el_idx hi]
  simp [succW hi hl]
 ·unfold ref21_Same_l3s
  rw [decide_eq_false (Int.lt_irrefl _),cond_false]
theorem bl_refl (l:List api_Block) (hl:l.length≤maxLen) (he: ∀x∈l,x.Ranks.Entries.length≤maxLen):ref22_Same l l=some true:=by
 unfold ref22_Same
 rw [bne_self_eq_false,cond_false]
 unfold ref22_Same_l3
 refine (loop_prop (f:=fun s:Int=>ref22_Same_l3s l l s) l.length (fun _=>False) false (some true) (fun i hi _=>⟨fun h=>h.elim,fun _=> ?_⟩) (fun _=> ?_)).2 fun _ _ h=>h
 ·unfold ref22_Same_l3s
  rw [decide_eq_true (by omega:(i:Int)<(l.length:Int)),cond_true,el_idx hi]
  simp [succW hi hl,same21r_refl _ (he _ (el_mem hi))]
 ·unfold ref22_Same_l3s
  rw [decide_eq_false (Int.lt_irrefl _),cond_false]
theorem same23_refl (x:api_Quantile) (hl:x.Blocks.length≤maxLen) (he: ∀b∈x.Blocks,b.Ranks.Entries.length≤maxLen):ref23_Same x x=some true:=by
 unfold ref23_Same;simp [bl_refl _ hl he]
end Go.Win
