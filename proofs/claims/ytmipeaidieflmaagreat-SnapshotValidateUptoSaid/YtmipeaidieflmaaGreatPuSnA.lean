/- Pu: chapter 28: the example; the statement SnapshotValidate. -/
import Derived.Test.YtmipeaidieflmaaGreatPuSn
set_option linter.unusedVariables false
set_option linter.unusedSimpArgs false
set_option linter.unnecessarySimpa false
set_option linter.unusedSectionVars false
namespace Go.Win
open Go.Vc Go.Dec
theorem wf1 {n:Int} (h1: -9223372036854775808≤n) (h2:n≤9223372036854775807):wfNs [n]:=fun x hx=>by
 simp only [List.mem_singleton] at hx
 subst hx
 simp [wfI,Lit.wf,IntKind.min,IntKind.max,IntKind.signed,IntKind.bits]
 omega
theorem whole_head (e:api_Engine) (h1:wfI .i64 e.Now) (h2:wfI .i64 e.Limit) (hl:e.Records.length≤1048576) {R:Type} (k:List Int→Option R):
  (Option.bind (tape_Tape_Within_i4 1 1 0 1) fun y1=>Option.bind (tape_Tape_Int_i3 y1 0 e.Now) fun y2=>Option.bind (tape_Tape_Small_i3 y2 0 e.Limit) fun y3=>Option.bind (tape_Tape_Within_i2 0 64 y3 0 (e.Records.length:Int)) k)=
   k (wr [1,e.Now,e.Limit,(e.Records.length:Int)]):=by
 have n1:wfNs [(1:Int)]:=wf1 (by decide) (by decide)
 have n2:wfNs [e.Now]:=fun x hx=>by simp only [List.mem_singleton] at hx;subst hx;exact h1
 have n3:wfNs [e.Limit]:=fun x hx=>by simp only [List.mem_singleton] at hx;subst hx;exact h2
 have n4:wfNs [(e.Records.length:Int)]:=wf1 (by omega) (by omega)
 have c1:=wr_ten n1
 have c2:=wr_ten n2
 have c3:=wr_ten n3
 have c4:=wr_ten n4
 simp only [List.length_cons,List.length_nil] at c1 c2 c3 c4
 have s1:tape_Tape_Within_i4 1 1 0 1=some ([]++wr [1]):=Wr.within 1 1 0 1 n1 [] (by simp only [List.length_nil];omega)
 have s2:tape_Tape_Int_i3 ([]++wr [1]) 0 e.Now=some (([]++wr [1])++wr [e.Now]):=Wr.int 0 _ n2 _ (by simp only [List.nil_append];omega)
 have s3:tape_Tape_Small_i3 (([]++wr [1])++wr [e.Now]) 0 e.Limit=some ((([]++wr [1])++wr [e.Now])++wr [e.Limit]):=Wr.small 0 _ n3 _ (by simp only [List.nil_append,List.length_append];omega)
 have s4:tape_Tape_Within_i2 0 64 ((([]++wr [1])++wr [e.Now])++wr [e.Limit]) 0 (e.Records.length:Int)=some (((([]++wr [1])++wr [e.Now])++wr [e.Limit])++wr [(e.Records.length:Int)]):=Wr.within 0 64 0 _ n4 _ (by simp only [List.nil_append,List.length_append];omega)
 rw [s1,Option.bind_some,s2,Option.bind_some,s3,Option.bind_some,s4,Option.bind_some]
 congr 1
 simp [wr]
theorem sum_some (l:List Int) (hl:l.length≤1099511627776): ∃n,ref27_Sum l=some n∧wfI .i64 n:=by
 unfold ref27_Sum ref27_Sum_l2
 refine loop_ind (f:=fun s:Int×Int×Int=>ref27_Sum_l2s l s.1 s.2.1 s.2.2) (fun s=> ∃i:Nat,i≤l.length∧s.2.2=(i:Int)) (fun s=>l.length-s.2.2.toNat) (fun n=>wfI .i64 n) (1,0,0) ⟨0,by omega,rfl⟩ ?_
 rintro ⟨x,y,_⟩ ⟨i,hi,rfl⟩
 dsimp only
 unfold ref27_Sum_l2s
 by_cases h:i<l.length
 ·left
  rw [decide_eq_true (by omega),cond_true,idx_get h,Option.bind_some]
  refine ⟨_,rfl,⟨i+1,by omega, ?_⟩, ?_⟩
  ·rw [w64_id (n:=(i:Int)+1) (by omega) (by omega)];rfl
  ·show l.length-(w64 ((i:Int)+1)).toNat<l.length-((i:Int)).toNat
   rw [w64_id (n:=(i:Int)+1) (by omega) (by omega)]
   omega
 ·right
  rw [decide_eq_false (by omega),cond_false]
  refine ⟨_,rfl, ?_⟩
  rw [w64_eq]
  simp [wfI,Lit.wf,IntKind.min,IntKind.max,IntKind.signed,IntKind.bits]
  omega
theorem sealed_some (ns:List Int) (h:wfNs ns) (hl:ns.length≤10000000): ∃n,wfI .i64 n∧ref27_Sum (wr ns)=some n∧ref28_Sealed ns=some (wr ns++code n):=by
 have hb:=wr_ten h
 obtain ⟨n,h1,h2⟩:=sum_some (wr ns) (by omega)
 have h10:=code_ten h2
 refine ⟨n,h2,h1, ?_⟩
 unfold ref28_Sealed
 rw [ref_write h hl,Option.bind_some,h1,Option.bind_some,ref_append h2 (by omega),Option.bind_some]
theorem awake28:law28_awake=some true:=by
 have w:wfU_api_Engine ⟨0,1, []⟩:=⟨wf_i64.2 (by decide),wf_i64.2 (by decide),⟨by decide,fun y hy=>by cases hy⟩⟩
 have ok:okEn ⟨0,1, []⟩:=⟨⟨by decide,⟨⟨by decide,by decide⟩,fun i hi=>absurd hi (Nat.not_lt_zero i)⟩⟩,fun i hi=>absurd hi (Nat.not_lt_zero i)⟩
 have n4:wfNs [(1:Int),0,1,0]:=by
  intro x hx
  refine wf_i64.2 ?_
  simp only [List.mem_cons,List.not_mem_nil,or_false] at hx
  omega
 obtain ⟨n,hn,s1,s2⟩:=sealed_some [1,0,1,0] n4 (by decide)
 have hb:=wr_ten n4
 simp only [List.length_cons,List.length_nil] at hb
 have hc:=code_ten hn
 have hw:snapshot_whole_i1 0 ⟨0,1, []⟩=some (false,⟨0,1, []⟩,wr [1,0,1,0]):=by
  unfold snapshot_whole_i1
  refine (whole_head ⟨0,1, []⟩ w.1 w.2.1 (by decide) _).trans ?_
  rw [ck_pos (by decide)]
  refine loop_inr ?_
  unfold snapshot_whole_i1_l3s
  rfl
 have he:snapshot_Encode ⟨0,1, []⟩=some (wr [1,0,1,0]++code n,0):=by
  unfold snapshot_Encode
  rw [(snapshot_validate _ w).1,Option.bind_some,vOf_t ok,bne_self_eq_false,cond_false,hw,Option.bind_some]
  dsimp only
  rw [sums_eq,s1,Option.bind_some,tape_append hn (by omega),Option.bind_some,decide_eq_false (by rw [List.length_append];omega),cond_false]
 unfold law28_awake
 rw [he,Option.bind_some,beq_self_eq_true,s2]
 simp only [gd_true,Option.bind_some,same_refl,Bool.true_and]
theorem law28_SnapshotValidate_upto (p0:api_Engine) (w0:wfU_api_Engine p0):law28_SnapshotValidate p0=some true:=by
 unfold law28_SnapshotValidate
 obtain ⟨v1,v2⟩:=snapshot_validate p0 w0
 rw [few28 p0 w0,Option.bind_some,awake28]
 cases decide ((p0.Records.length:Int)≤70)&&decide (((szE p0.Records:Nat):Int)≤400) with
 |false=>rfl
 |true=>
  rw [v1,v2]
  simp
end Go.Win
