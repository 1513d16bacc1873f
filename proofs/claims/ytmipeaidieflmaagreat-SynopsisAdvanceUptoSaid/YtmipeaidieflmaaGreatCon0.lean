/- The contracts: each function of the program does what its function on plain data says. Made by program. -/
import Derived.Test.YtmipeaidieflmaaGreatTab
import Derived.Test.YtmipeaidieflmaaGreatWin
import Derived.Test.YtmipeaidieflmaaGreatVc
import Derived.Test.YtmipeaidieflmaaGreatWalk
set_option linter.unusedVariables false
set_option linter.unusedSimpArgs false
set_option linter.unnecessarySimpa false
set_option maxHeartbeats 4000000
set_option maxRecDepth 20000
namespace Go.Proofs.YtmipeaidieflmaaGreat
open Go.Vc Go.Dec Go.Win
theorem lE {α:Type} {a b:α} (h:a=b:=by first|rfl|(simp only [encZ,List.map_append,List.map_cons,List.map_nil,List.map_take,List.map_drop,List.map_set,List.map_replicate];done)|(simp only [encZ,List.map_append,List.map_cons,List.map_nil,List.map_take,List.map_drop,List.map_set,List.map_replicate];rfl)|(simp only [encZ,List.map_append,List.map_cons,List.map_nil,List.map_take,List.map_drop,List.map_set,List.map_replicate,eL,enc_api_Recent,enc_api_Count,enc_api_Sum,enc_api_Smooth,enc_api_Spread,enc_api_Poly,enc_api_Halve,enc_api_Extreme,enc_api_Chain,enc_api_Sample,enc_api_Summary,enc_api_Ranks,enc_api_Block,enc_api_Quantile,enc_api_Synopsis];done)|(simp only [encZ,List.map_append,List.map_cons,List.map_nil,List.map_take,List.map_drop,List.map_set,List.map_replicate,eL,enc_api_Recent,enc_api_Count,enc_api_Sum,enc_api_Smooth,enc_api_Spread,enc_api_Poly,enc_api_Halve,enc_api_Extreme,enc_api_Chain,enc_api_Sample,enc_api_Summary,enc_api_Ranks,enc_api_Block,enc_api_Quantile,enc_api_Synopsis];rfl)|(simp only [map_laid,List.nil_append,List.length_map,encZ,List.map_append,List.map_cons,List.map_nil,List.map_take,List.map_drop,List.map_set,List.map_replicate,eL,enc_api_Recent,enc_api_Count,enc_api_Sum,enc_api_Smooth,enc_api_Spread,enc_api_Poly,enc_api_Halve,enc_api_Extreme,enc_api_Chain,enc_api_Sample,enc_api_Summary,enc_api_Ranks,enc_api_Block,enc_api_Quantile,enc_api_Synopsis];first|done|rfl)):a=b:=h
abbrev tM (n:Nat) (v:AV):Vc.Loc×Cont:=(.tmp n, .av v)
abbrev tB (n:Nat) (cs:List AV):Vc.Loc×Cont:=(.box n, .box cs)
abbrev iI (n:Int):AV:= .int .i64 n
abbrev iU (n:Int):AV:= .int .u64 n
abbrev lF (n:Nat) (xs:List (List AV)):AV:= .lst n false xs
theorem cD {α:Type} {b:Bool} {x y r:α} {p q:Prop} (h:cond b x y=r) (A:b=true→x=r→p) (B:b=false→y=r→q):(b=true→p)∧(b=false→q):=⟨fun g=>A g (cT g h),fun g=>B g (cF g h)⟩
theorem cN {α:Type} {b:Bool} {x y r:α} {p q:Prop} (h:cond (!b) x y=r) (A:b=true→y=r→p) (B:b=false→x=r→q):(b=true→p)∧(b=false→q):=⟨fun g=>A g (cF (nE g) h),fun g=>B g (cT (nE g) h)⟩
theorem cK {p:CK→Prop} {a:AV} {bs:List (List AV)} (h:p (CK.plain a bs)):Exists p:=⟨_,h⟩
theorem jU {p:List (Nat×Option Nat)→List Nat→Unit→Prop} (h:p [] [] ()): ∃a b c,p a b c:=⟨[], [],(),h⟩
theorem jT {α:Type} {p:List (Nat×Option Nat)→List Nat→α→Prop} (c:α) (h:p [] [] c): ∃a b c,p a b c:=⟨[], [],c,h⟩
theorem jL (n:Nat):n<n+1:=Nat.lt_succ_self n
theorem C0 {f:FuncId} {fn:Func} (hf:Tryz.prog.funcs[f]? =some fn) (hcall: ∀(vs:Array Value) (w:World),(callFunc f vs).run Tryz.prog w= .ok (.enter f vs) w) {args:List AV} {bx:List (List AV)} {tk:TK1} {r:AV} {bx' :List (List AV)} {tk' :TK1} (m:Nat)
  (h:vcs Tryz.prog tab m (bodyOf fn) vret m (initSt args bx tk) (retK tab m fn.results.toList r bx' tk')) (hst:(hasBody fn&&okCode fn.ntmps (bodyOf fn))=true:=by kernel_rfl) (hmm:bx.length+1=m:=by rfl) (hargs:Nat.ble args.length fn.ntmps=true:=by rfl):ContractT Tryz.prog f args bx tk r bx' tk' :=
 contract_of_vcs tab_ok orders_ok hf hcall hst m hmm hargs _ rfl h
theorem cW {f:FuncId} {a1 a2:List AV} {bx bx2:List (List AV)} {tk tk2:TK1} {r:AV} {bx' :List (List AV)} {tk' :TK1} (h:ContractT Tryz.prog f a2 bx2 tk2 r bx' tk') (hw:wkVs (bx2.length+1) a1 a2 (wkLL (bx2.length+1) bx bx2 (tkW tk tk2))):ContractT Tryz.prog f a1 bx tk r bx' tk' :=ContractT.wk h hw
theorem c_law25_few (p0:api_Synopsis) (r:Bool) (h:law25_few p0=some r):Contract Tryz.prog 11 [.agg (enc_api_Synopsis p0)] [] (.sb r) []:=by
 refine C0 Tryz.func11 Tryz.call11 1 ?_
 delta law25_few at h
 refine eN (eN (eX [iI (p0.Recent.Items.length:Int)] (An (lenS enc_api_Item p0.Recent.Items) ?_)))
 refine eX [iI (p0.Count.Buckets.length:Int)] (An (lenS enc_api_Bucket p0.Count.Buckets) ?_)
 refine eX [iI (p0.Sum.Buckets.length:Int)] (An (lenS enc_api_Bucket p0.Sum.Buckets) ?_)
 refine eX [iI (p0.Smooth.Marks.length:Int)] (An (lenS enc_api_Mark p0.Smooth.Marks) ?_)
 refine eX [iI (p0.Spread.Marks.length:Int)] (An (lenS enc_api_Mark p0.Spread.Marks) ?_)
 refine eX [iI (p0.Poly.Moments.length:Int)] (An (lenS enc_api_Wide p0.Poly.Moments) ?_)
 refine eX [iI (p0.Halve.Sums.length:Int)] (An (lenS (eI .i64) p0.Halve.Sums) ?_)
 refine eX [iI (p0.Extreme.Items.length:Int)] (An (lenS enc_api_Item p0.Extreme.Items) ?_)
 refine eX [iI (p0.Summary.Tuples.length:Int)] (An (lenS enc_api_Tuple p0.Summary.Tuples) ?_)
 refine eX [iI (p0.Quantile.Blocks.length:Int)] (An (lenS enc_api_Block p0.Quantile.Blocks) ?_)
 refine eX [iI (p0.Sample.Chains.length:Int)] (An (lenS enc_api_Chain p0.Sample.Chains) ?_)
 refine eN (eX [iI (p0.Sample.Chains.length:Int)] (An (lenS enc_api_Chain p0.Sample.Chains) ?_))
 replace h:law25_few_l2 p0 (w64 ((w64 ((w64 ((w64 ((w64 ((w64 ((w64 ((w64 ((w64 ((w64 ((p0.Recent.Items.length:Int)+(p0.Count.Buckets.length:Int)))+(p0.Sum.Buckets.length:Int)))+(p0.Smooth.Marks.length:Int)))+(p0.Spread.Marks.length:Int)))+(p0.Poly.Moments.length:Int)))+(p0.Halve.Sums.length:Int)))+(p0.Extreme.Items.length:Int)))+(p0.Summary.Tuples.length:Int)))+(p0.Quantile.Blocks.length:Int)))+(p0.Sample.Chains.length:Int))) (0:Int)=some r:=h
 delta law25_few_l2 at h
 obtain ⟨n1,h⟩:=loopS h
 refine eX (Sum.inl ⟨(Int×Int)×Nat,fun q=> [tM 1 (.ptr 1 0),tM 3 (iI q.1.1),tM 64 (lF 5 (List.map enc_api_Chain p0.Sample.Chains)),tM 65 (iI (p0.Sample.Chains.length:Int)),tM 66 (iI q.1.2),tB 1 (enc_api_Synopsis p0)],fun q=>loopN (fun (s:(Int×Int))=>law25_few_l2s p0 s.1 s.2) q.2 q.1=some r,fun q=>q.2⟩) (An (eX [] (eX [] (eX (((w64 ((w64 ((w64 ((w64 ((w64 ((w64 ((w64 ((w64 ((w64 ((w64 ((p0.Recent.Items.length:Int)+(p0.Count.Buckets.length:Int)))+(p0.Sum.Buckets.length:Int)))+(p0.Smooth.Marks.length:Int)))+(p0.Spread.Marks.length:Int)))+(p0.Poly.Moments.length:Int)))+(p0.Halve.Sums.length:Int)))+(p0.Extreme.Items.length:Int)))+(p0.Summary.Tuples.length:Int)))+(p0.Quantile.Blocks.length:Int)))+(p0.Sample.Chains.length:Int))),(0:Int)),n1) (An h (r2 (fr (r12 (r1 (fr (r4 (fr (r5 (fr (r6 (fr (r5 (fr (r3 (fr (r1 (fr (r4 (fr (fr (r3 (fr (r4 (fr trivial)))))))))))))))))))))))))))) ?_)
 clear h
 refine fun q h=> ?_
 obtain ⟨⟨a,d⟩,n1⟩:=q
 obtain ⟨m1,x1,hm1,h,hl1,hr1⟩:=loopN_step h
 replace hm1:n1=m1+1:=hm1
 subst hm1
 replace h:law25_few_l2s p0 a d=some x1:=h
 delta law25_few_l2s at h
 refine eN (cD h (fun g1 h=> ?_) (fun g1 h=> ?_))
 refine eN ?_
 obtain ⟨b,f,h⟩:=bS h
 refine eX (enc_api_Chain b) (An (idx_map enc_api_Chain f) ?_)
 refine eN (eX [iI (b.Links.length:Int)] (An (lenS enc_api_Link b.Links) ?_))
 exact eN (jT (_,m1) (An (hl1 _ (oJ h).symm) (An (jL m1) (r2 (fr (r12 (r1 (fr (r4 (fr (r5 (fr (r6 (fr (r5 (fr (r3 (fr (r1 (fr (r4 (fr (fr (r3 (fr (r4 (fr trivial)))))))))))))))))))))))))))
 replace h:=popS h hr1
 refine eN (eX [iI (p0.Quantile.Blocks.length:Int)] (An (lenS enc_api_Block p0.Quantile.Blocks) ?_))
 replace h:law25_few_l6 p0 a (0:Int)=some r:=h
 delta law25_few_l6 at h
 obtain ⟨n1,h⟩:=loopS h
 refine eX (Sum.inl ⟨(Int×Int)×Nat,fun q=> [tM 3 (iI q.1.1),tM 78 (lF 5 (List.map enc_api_Block p0.Quantile.Blocks)),tM 79 (iI (p0.Quantile.Blocks.length:Int)),tM 80 (iI q.1.2)],fun q=>loopN (fun (s:(Int×Int))=>law25_few_l6s p0 s.1 s.2) q.2 q.1=some r,fun q=>q.2⟩) (An (eX [] (eX [] (eX ((a,(0:Int)),n1) (An h (r2 (fr (r2 trivial))))))) ?_)
 clear h
 refine fun q h=> ?_
 obtain ⟨⟨g,e⟩,n1⟩:=q
 obtain ⟨m1,x1,hm1,h,hl1,hr1⟩:=loopN_step h
 replace hm1:n1=m1+1:=hm1
 subst hm1
 replace h:law25_few_l6s p0 g e=some x1:=h
 delta law25_few_l6s at h
 refine eN (cD h (fun g2 h=> ?_) (fun g2 h=> ?_))
 refine eN ?_
 obtain ⟨c,i,h⟩:=bS h
 refine eX (enc_api_Block c) (An (idx_map enc_api_Block i) ?_)
 refine eN (eX [iI (c.Ranks.Entries.length:Int)] (An (lenS enc_api_Entry c.Ranks.Entries) ?_))
 exact eN (jT (_,m1) (An (hl1 _ (oJ h).symm) (An (jL m1) (r2 (fr (r2 trivial))))))
 replace h:=popS h hr1
 first|cases h|rw [←oJ h]
 exact eN (r1 trivial)
theorem c_config_in' (p0:Int) (p1:Int) (p2:Int) (r:Bool) (h:config_in p0 p1 p2=r):Contract Tryz.prog 232 [iI p0,iI p1,iI p2] [] (.sb r) []:=by
 refine C0 Tryz.func232 Tryz.call232 1 ?_
 delta config_in at h
 refine eN (eN (eN (An (fun g1=> ?_) (fun g1=> ?_))))
 cases h
 exact (An (Eq.symm (aR g1 rfl)) trivial)
 cases h
 exact (An (Eq.symm (aL g1)) trivial)
theorem c_config_Validate_1_i1' (p0:Bool) (b1_0:Bool) (b2:Int) (r:(Bool×Int)) (h:config_Validate_1_i1 p0 b1_0 b2=r):Contract Tryz.prog 231 [.sb p0, .bsl 0 1, .ptr 1 0] [[.ptr 2 0], [.sb b1_0], [iI b2]] (.tup []) [[.ptr 2 0], [.sb r.1], [iI r.2]]:=by
 refine C0 Tryz.func231 Tryz.call231 4 ?_
 delta config_Validate_1_i1 at h
 refine eN (eX (some (⟨Unit,fun _=> [tM 1 (.bsl 0 1),tB 0 [.ptr 2 0],tB 1 [.sb (b1_0&&p0)],tB 2 [iI b2]],fun _=>True,fun _=>0⟩,1000000)) (An ?_ (fun _ _=> ?_)))
 refine An (fun g1=> ?_) (fun g1=> ?_)
 exact jU (An trivial (r1 (An (Eq.symm (aR g1 rfl)) (r1 trivial))))
 exact jU (An trivial (r1 (An (Eq.symm (aL g1)) (r1 trivial))))
 refine eN (eX (Sum.inr 5) ?_)
 refine eN (An (fun _=> ?_) (fun g=>absurd g (by decide)))
 refine eN (An (by first|decide|(simp only [w64];decide)|omega) ?_)
 refine eX [.ptr 2 0] (An ⟨by first|decide|omega,by first|rfl|decide⟩ ?_)
 refine eN (eN (eN (An (fun g=>absurd g (by decide)) (fun _=> ?_))))
 cases h
 exact (r2 trivial)
theorem c_config_Validate_1_i2' (p0:Bool) (b1_0:Bool) (b2:Int) (b3:Int) (r:(Bool×Int×Int)) (h:config_Validate_1_i2 p0 b1_0 b2 b3=r):Contract Tryz.prog 231 [.sb p0, .bsl 0 2, .ptr 1 0] [[.ptr 2 0, .ptr 3 0], [.sb b1_0], [iI b2], [iI b3]] (.tup []) [[.ptr 2 0, .ptr 3 0], [.sb r.1], [iI r.2.1], [iI r.2.2]]:=by
 refine C0 Tryz.func231 Tryz.call231 5 ?_
 delta config_Validate_1_i2 at h
 refine eN (eX (some (⟨Unit,fun _=> [tM 1 (.bsl 0 2),tB 0 [.ptr 2 0, .ptr 3 0],tB 1 [.sb (b1_0&&p0)],tB 2 [iI b2],tB 3 [iI b3]],fun _=>True,fun _=>0⟩,1000000)) (An ?_ (fun _ _=> ?_)))
 refine An (fun g1=> ?_) (fun g1=> ?_)
 exact jU (An trivial (r1 (An (Eq.symm (aR g1 rfl)) (r2 trivial))))
 exact jU (An trivial (r1 (An (Eq.symm (aL g1)) (r2 trivial))))
 refine eN (eX (Sum.inr 5) ?_)
 refine eN (An (fun _=> ?_) (fun g=>absurd g (by decide)))
 refine eN (An (by first|decide|(simp only [w64];decide)|omega) ?_)
 refine eX [.ptr 2 0] (An ⟨by first|decide|omega,by first|rfl|decide⟩ ?_)
 refine eN (eN (eN (An (fun _=> ?_) (fun g=>absurd g (by decide)))))
 refine eN (An (by first|decide|(simp only [w64];decide)|omega) ?_)
 refine eX [.ptr 3 0] (An ⟨by first|decide|omega,by first|rfl|decide⟩ ?_)
 refine eN (eN (eN (An (fun g=>absurd g (by decide)) (fun _=> ?_))))
 cases h
 exact (r3 trivial)
theorem c_config_Validate' (p0:api_Config) (r:Int) (h:config_Validate p0=r):Contract Tryz.prog 112 [.agg (enc_api_Config p0)] [] (iI r) []:=by
 refine C0 Tryz.func112 Tryz.call112 1 ?_
 delta config_Validate at h
 refine eN (eN (eN (eN (eN (eN (eN (eX (some (⟨Int×Bool,fun q=> [tM 1 (.ptr 1 0),tM 3 (.ptr 257 0),tM 4 (.clo 231 [] [.ptr 257 0]),tM 5 (iI (1048576:Int)),tB 1 [iI p0.Kind,iI q.1,iI p0.W,iI p0.K,iI p0.Cap,iI p0.P,iI p0.Chains,iI p0.Max],tB 257 [.sb q.2]],fun q=>config_Validate_j5 p0 q.1 q.2=r,fun _=>0⟩,1000000)) (An ?_ ?_))))))))
 refine eN (cD h (fun g1 h=> ?_) (fun g1 h=> ?_))
 refine eN (cK (An (cW (c_config_in' p0.P (0:Int) (4:Int) _ rfl) (r3 trivial)) (r1 ?_)))
 refine eX (CK.gen [(1542,0,1),(257,0,1),(1,5,1)] none _ _ none) (An (ContractT.wk (c_config_Validate_1_i1' (config_in p0.P (0:Int) (4:Int)) true p0.P _ rfl) (r3 trivial)) (An rfl (An rfl ?_)))
 refine eN (eN (eX (some (⟨Int×Bool,fun q=> [tM 1 (.ptr 1 0),tM 3 (.ptr 257 0),tB 1 [iI p0.Kind,iI p0.Agg,iI q.1,iI p0.K,iI p0.Cap,iI (config_Validate_1_i1 (config_in p0.P (0:Int) (4:Int)) true p0.P).2,iI p0.Chains,iI p0.Max],tB 257 [.sb q.2]],fun q=>config_Validate_j23_2 p0 (config_Validate_1_i1 (config_in p0.P (0:Int) (4:Int)) true p0.P) q.1 q.2=r,fun _=>0⟩,1000000)) (An ?_ ?_)))
 refine cD h (fun g2 h=> ?_) (fun g2 h=> ?_)
 refine eN (eX (some (⟨Unit,fun _=> [tM 1 (.ptr 1 0),tM 3 (.ptr 257 0),tB 1 [iI p0.Kind,iI p0.Agg,iI p0.W,iI p0.K,iI p0.Cap,iI (config_Validate_1_i1 (config_in p0.P (0:Int) (4:Int)) true p0.P).2,iI p0.Chains,iI p0.Max],tB 257 [.sb ((config_Validate_1_i1 (config_in p0.P (0:Int) (4:Int)) true p0.P).1&&(config_in p0.W (1:Int) (0:Int)))]],fun _=>True,fun _=>0⟩,1000000)) (An ?_ (fun _ _=> ?_)))
 refine An (fun g3=> ?_) (fun g3=> ?_)
 refine cK (An (cW (c_config_in' p0.W (1:Int) (0:Int) _ rfl) (r3 trivial)) (r1 ?_))
 exact jU (An trivial (r8 (r1 (An (Eq.symm (aR g3 rfl)) trivial))))
 exact jU (An trivial (r8 (r1 (An (Eq.symm (aL g3)) trivial))))
 exact eN (jT ((0:Int),((config_Validate_1_i1 (config_in p0.P (0:Int) (4:Int)) true p0.P).1&&(config_in p0.W (1:Int) (0:Int)))) (An h (r8 (r2 trivial))))
 exact jT (p0.W,(config_Validate_1_i1 (config_in p0.P (0:Int) (4:Int)) true p0.P).1) (An h (r8 (r2 trivial)))
 clear h
 refine fun q h=> ?_
 obtain ⟨a,b⟩:=q
 replace h:config_Validate_j23_2 p0 (config_Validate_1_i1 (config_in p0.P (0:Int) (4:Int)) true p0.P) a b=r:=h
 delta config_Validate_j23_2 at h
 refine eN (eN (An (fun g4=> ?_) (fun g4=> ?_)))
 refine An (fun g5=> ?_) (fun g5=> ?_)
 replace h:=cT (oR g4 g5) h
 cases h
 exact eN (r1 trivial)
 replace h:=cF (oR g4 g5) h
 cases h
 exact eN (r1 trivial)
 replace h:=cT (oL g4) h
 cases h
 exact eN (r1 trivial)
 refine eN (cD h (fun g6 h=> ?_) (fun g6 h=> ?_))
 refine eN (eN (eX (some (⟨Int×Bool,fun q=> [tM 1 (.ptr 1 0),tM 3 (.ptr 257 0),tB 1 [iI p0.Kind,iI p0.Agg,iI q.1,iI p0.K,iI p0.Cap,iI p0.P,iI p0.Chains,iI p0.Max],tB 257 [.sb q.2]],fun q=>config_Validate_j23_3 p0 q.1 q.2=r,fun _=>0⟩,1000000)) (An ?_ ?_)))
 refine cD h (fun g7 h=> ?_) (fun g7 h=> ?_)
 refine eN (eN (cK (An (cW (c_config_in' p0.W (1:Int) (64:Int) _ rfl) (r3 trivial)) (r1 ?_))))
 exact eN (jT ((0:Int),(config_in p0.W (1:Int) (64:Int))) (An h (r8 (r2 trivial))))
 exact jT (p0.W,true) (An h (r8 (r2 trivial)))
 clear h
 refine fun q h=> ?_
 obtain ⟨a,b⟩:=q
 replace h:config_Validate_j23_3 p0 a b=r:=h
 delta config_Validate_j23_3 at h
 refine eN (eN (An (fun g8=> ?_) (fun g8=> ?_)))
 refine An (fun g9=> ?_) (fun g9=> ?_)
 replace h:=cT (oR g8 g9) h
 cases h
 exact eN (r1 trivial)
 replace h:=cF (oR g8 g9) h
 cases h
 exact eN (r1 trivial)
 replace h:=cT (oL g8) h
 cases h
 exact eN (r1 trivial)
 refine eN (cD h (fun g10 h=> ?_) (fun g10 h=> ?_))
 refine eN (eX (some (⟨Unit,fun _=> [tM 1 (.ptr 1 0),tM 3 (.ptr 257 0),tM 5 (iI (1048576:Int)),tB 1 [iI p0.Kind,iI p0.Agg,iI p0.W,iI p0.K,iI (config_Validate_1_i2 ((config_in p0.Chains (1:Int) (16:Int))&&(config_in p0.Cap (1:Int) (64:Int))) true p0.Chains p0.Cap).2.2,iI p0.P,iI (config_Validate_1_i2 ((config_in p0.Chains (1:Int) (16:Int))&&(config_in p0.Cap (1:Int) (64:Int))) true p0.Chains p0.Cap).2.1,iI p0.Max],tB 257 [.sb (config_Validate_1_i2 ((config_in p0.Chains (1:Int) (16:Int))&&(config_in p0.Cap (1:Int) (64:Int))) true p0.Chains p0.Cap).1]],fun _=>True,fun _=>0⟩,1000000)) (An ?_ (fun _ _=> ?_)))
 refine cK (An (cW (c_config_in' p0.Chains (1:Int) (16:Int) _ rfl) (r3 trivial)) (r1 ?_))
 refine An (fun g11=> ?_) (fun g11=> ?_)
 refine cK (An (cW (c_config_in' p0.Cap (1:Int) (64:Int) _ rfl) (r3 trivial)) (r1 ?_))
 refine eX (CK.gen [(2060,0,2),(257,0,1),(1,6,1),(1,4,1)] none _ _ none) (An (ContractT.wk (c_config_Validate_1_i2' ((config_in p0.Chains (1:Int) (16:Int))&&(config_in p0.Cap (1:Int) (64:Int))) true p0.Chains p0.Cap _ rfl) (An (Eq.symm (aR g11 rfl)) (r3 trivial))) (An rfl (An rfl ?_)))
 exact jU (An trivial (r8 (r3 trivial)))
 refine eX (CK.gen [(2060,0,2),(257,0,1),(1,6,1),(1,4,1)] none _ _ none) (An (ContractT.wk (c_config_Validate_1_i2' ((config_in p0.Chains (1:Int) (16:Int))&&(config_in p0.Cap (1:Int) (64:Int))) true p0.Chains p0.Cap _ rfl) (An (Eq.symm (aL g11)) (r3 trivial))) (An rfl (An rfl ?_)))
 exact jU (An trivial (r8 (r3 trivial)))
 refine eN (eX (some (⟨Int×Bool,fun q=> [tM 1 (.ptr 1 0),tM 3 (.ptr 257 0),tB 1 [iI p0.Kind,iI p0.Agg,iI q.1,iI p0.K,iI (config_Validate_1_i2 ((config_in p0.Chains (1:Int) (16:Int))&&(config_in p0.Cap (1:Int) (64:Int))) true p0.Chains p0.Cap).2.2,iI p0.P,iI (config_Validate_1_i2 ((config_in p0.Chains (1:Int) (16:Int))&&(config_in p0.Cap (1:Int) (64:Int))) true p0.Chains p0.Cap).2.1,iI p0.Max],tB 257 [.sb q.2]],fun q=>config_Validate_j23_4 p0 (config_Validate_1_i2 ((config_in p0.Chains (1:Int) (16:Int))&&(config_in p0.Cap (1:Int) (64:Int))) true p0.Chains p0.Cap) q.1 q.2=r,fun _=>0⟩,2000000)) (An ?_ ?_))
 refine cD h (fun g12 h=> ?_) (fun g12 h=> ?_)
 refine eN (eX (some (⟨Unit,fun _=> [tM 1 (.ptr 1 0),tM 3 (.ptr 257 0),tB 1 [iI p0.Kind,iI p0.Agg,iI p0.W,iI p0.K,iI (config_Validate_1_i2 ((config_in p0.Chains (1:Int) (16:Int))&&(config_in p0.Cap (1:Int) (64:Int))) true p0.Chains p0.Cap).2.2,iI p0.P,iI (config_Validate_1_i2 ((config_in p0.Chains (1:Int) (16:Int))&&(config_in p0.Cap (1:Int) (64:Int))) true p0.Chains p0.Cap).2.1,iI p0.Max],tB 257 [.sb ((config_Validate_1_i2 ((config_in p0.Chains (1:Int) (16:Int))&&(config_in p0.Cap (1:Int) (64:Int))) true p0.Chains p0.Cap).1&&(config_in p0.W (1:Int) (1048576:Int)))]],fun _=>True,fun _=>0⟩,2000000)) (An ?_ (fun _ _=> ?_)))
 refine An (fun g13=> ?_) (fun g13=> ?_)
 refine cK (An (cW (c_config_in' p0.W (1:Int) (1048576:Int) _ rfl) (r3 trivial)) (r1 ?_))
 exact jU (An trivial (r8 (r1 (An (Eq.symm (aR g13 rfl)) trivial))))
 exact jU (An trivial (r8 (r1 (An (Eq.symm (aL g13)) trivial))))
 exact eN (jT ((0:Int),((config_Validate_1_i2 ((config_in p0.Chains (1:Int) (16:Int))&&(config_in p0.Cap (1:Int) (64:Int))) true p0.Chains p0.Cap).1&&(config_in p0.W (1:Int) (1048576:Int)))) (An h (r8 (r2 trivial))))
 exact jT (p0.W,(config_Validate_1_i2 ((config_in p0.Chains (1:Int) (16:Int))&&(config_in p0.Cap (1:Int) (64:Int))) true p0.Chains p0.Cap).1) (An h (r8 (r2 trivial)))
 clear h
 refine fun q h=> ?_
 obtain ⟨a,b⟩:=q
 replace h:config_Validate_j23_4 p0 (config_Validate_1_i2 ((config_in p0.Chains (1:Int) (16:Int))&&(config_in p0.Cap (1:Int) (64:Int))) true p0.Chains p0.Cap) a b=r:=h
 delta config_Validate_j23_4 at h
 refine eN (eN (An (fun g14=> ?_) (fun g14=> ?_)))
 refine An (fun g15=> ?_) (fun g15=> ?_)
 replace h:=cT (oR g14 g15) h
 cases h
 exact eN (r1 trivial)
 replace h:=cF (oR g14 g15) h
 cases h
 exact eN (r1 trivial)
 replace h:=cT (oL g14) h
 cases h
 exact eN (r1 trivial)
 refine eN (cD h (fun g16 h=> ?_) (fun g16 h=> ?_))
 refine eN (eX (some (⟨Unit,fun _=> [tM 1 (.ptr 1 0),tM 3 (.ptr 257 0),tB 1 [iI p0.Kind,iI p0.Agg,iI p0.W,iI (config_Validate_1_i2 ((config_in p0.K (1:Int) (64:Int))&&(config_in p0.Cap (2:Int) (65536:Int))) true p0.K p0.Cap).2.1,iI (config_Validate_1_i2 ((config_in p0.K (1:Int) (64:Int))&&(config_in p0.Cap (2:Int) (65536:Int))) true p0.K p0.Cap).2.2,iI p0.P,iI p0.Chains,iI p0.Max],tB 257 [.sb (config_Validate_1_i2 ((config_in p0.K (1:Int) (64:Int))&&(config_in p0.Cap (2:Int) (65536:Int))) true p0.K p0.Cap).1]],fun _=>True,fun _=>0⟩,1000000)) (An ?_ (fun _ _=> ?_)))
 refine cK (An (cW (c_config_in' p0.K (1:Int) (64:Int) _ rfl) (r3 trivial)) (r1 ?_))
 refine An (fun g17=> ?_) (fun g17=> ?_)
 refine cK (An (cW (c_config_in' p0.Cap (2:Int) (65536:Int) _ rfl) (r3 trivial)) (r1 ?_))
 refine eX (CK.gen [(2316,0,2),(257,0,1),(1,3,1),(1,4,1)] none _ _ none) (An (ContractT.wk (c_config_Validate_1_i2' ((config_in p0.K (1:Int) (64:Int))&&(config_in p0.Cap (2:Int) (65536:Int))) true p0.K p0.Cap _ rfl) (An (Eq.symm (aR g17 rfl)) (r3 trivial))) (An rfl (An rfl ?_)))
 exact jU (An trivial (r8 (r2 trivial)))
 refine eX (CK.gen [(2316,0,2),(257,0,1),(1,3,1),(1,4,1)] none _ _ none) (An (ContractT.wk (c_config_Validate_1_i2' ((config_in p0.K (1:Int) (64:Int))&&(config_in p0.Cap (2:Int) (65536:Int))) true p0.K p0.Cap _ rfl) (An (Eq.symm (aL g17)) (r3 trivial))) (An rfl (An rfl ?_)))
 exact jU (An trivial (r8 (r2 trivial)))
 refine eN (eN (eX (some (⟨Int×Bool,fun q=> [tM 1 (.ptr 1 0),tM 3 (.ptr 257 0),tB 1 [iI p0.Kind,iI p0.Agg,iI q.1,iI (config_Validate_1_i2 ((config_in p0.K (1:Int) (64:Int))&&(config_in p0.Cap (2:Int) (65536:Int))) true p0.K p0.Cap).2.1,iI (config_Validate_1_i2 ((config_in p0.K (1:Int) (64:Int))&&(config_in p0.Cap (2:Int) (65536:Int))) true p0.K p0.Cap).2.2,iI p0.P,iI p0.Chains,iI p0.Max],tB 257 [.sb q.2]],fun q=>config_Validate_j23_5 p0 (config_Validate_1_i2 ((config_in p0.K (1:Int) (64:Int))&&(config_in p0.Cap (2:Int) (65536:Int))) true p0.K p0.Cap) q.1 q.2=r,fun _=>0⟩,2000000)) (An ?_ ?_)))
 refine cD h (fun g18 h=> ?_) (fun g18 h=> ?_)
 refine eN (eX (some (⟨Unit,fun _=> [tM 1 (.ptr 1 0),tM 3 (.ptr 257 0),tB 1 [iI p0.Kind,iI p0.Agg,iI p0.W,iI (config_Validate_1_i2 ((config_in p0.K (1:Int) (64:Int))&&(config_in p0.Cap (2:Int) (65536:Int))) true p0.K p0.Cap).2.1,iI (config_Validate_1_i2 ((config_in p0.K (1:Int) (64:Int))&&(config_in p0.Cap (2:Int) (65536:Int))) true p0.K p0.Cap).2.2,iI p0.P,iI p0.Chains,iI p0.Max],tB 257 [.sb ((config_Validate_1_i2 ((config_in p0.K (1:Int) (64:Int))&&(config_in p0.Cap (2:Int) (65536:Int))) true p0.K p0.Cap).1&&(config_in p0.W (1:Int) (0:Int)))]],fun _=>True,fun _=>0⟩,2000000)) (An ?_ (fun _ _=> ?_)))
 refine An (fun g19=> ?_) (fun g19=> ?_)
 refine cK (An (cW (c_config_in' p0.W (1:Int) (0:Int) _ rfl) (r3 trivial)) (r1 ?_))
 exact jU (An trivial (r8 (r1 (An (Eq.symm (aR g19 rfl)) trivial))))
 exact jU (An trivial (r8 (r1 (An (Eq.symm (aL g19)) trivial))))
 exact eN (jT ((0:Int),((config_Validate_1_i2 ((config_in p0.K (1:Int) (64:Int))&&(config_in p0.Cap (2:Int) (65536:Int))) true p0.K p0.Cap).1&&(config_in p0.W (1:Int) (0:Int)))) (An h (r8 (r2 trivial))))
 exact jT (p0.W,(config_Validate_1_i2 ((config_in p0.K (1:Int) (64:Int))&&(config_in p0.Cap (2:Int) (65536:Int))) true p0.K p0.Cap).1) (An h (r8 (r2 trivial)))
 clear h
 refine fun q h=> ?_
 obtain ⟨a,b⟩:=q
 replace h:config_Validate_j23_5 p0 (config_Validate_1_i2 ((config_in p0.K (1:Int) (64:Int))&&(config_in p0.Cap (2:Int) (65536:Int))) true p0.K p0.Cap) a b=r:=h
 delta config_Validate_j23_5 at h
 refine eN (eN (An (fun g20=> ?_) (fun g20=> ?_)))
 refine An (fun g21=> ?_) (fun g21=> ?_)
 replace h:=cT (oR g20 g21) h
 cases h
 exact eN (r1 trivial)
 replace h:=cF (oR g20 g21) h
 cases h
 exact eN (r1 trivial)
 replace h:=cT (oL g20) h
 cases h
 exact eN (r1 trivial)
 refine eN (cD h (fun g22 h=> ?_) (fun g22 h=> ?_))
 refine eN (cK (An (cW (c_config_in' p0.Max (1:Int) (1024:Int) _ rfl) (r3 trivial)) (r1 ?_)))
 refine eN (eN (cK (An (cW (c_config_in' p0.K (1:Int) (64:Int) _ rfl) (r3 trivial)) (r1 ?_))))
 refine eX (CK.gen [(3078,0,1),(257,0,1),(1,3,1)] none _ _ none) (An (ContractT.wk (c_config_Validate_1_i1' (config_in p0.K (1:Int) (64:Int)) (config_in p0.Max (1:Int) (1024:Int)) p0.K _ rfl) (r3 trivial)) (An rfl (An rfl ?_)))
 refine eN (cK (An (cW (c_config_in' p0.Cap (1:Int) (65536:Int) _ rfl) (r3 trivial)) (r1 ?_)))
 refine eX (CK.gen [(3334,0,1),(257,0,1),(1,4,1)] none _ _ none) (An (ContractT.wk (c_config_Validate_1_i1' (config_in p0.Cap (1:Int) (65536:Int)) (config_Validate_1_i1 (config_in p0.K (1:Int) (64:Int)) (config_in p0.Max (1:Int) (1024:Int)) p0.K).1 p0.Cap _ rfl) (r3 trivial)) (An rfl (An rfl ?_)))
 refine eN (eX (some (⟨Int×Bool,fun q=> [tM 1 (.ptr 1 0),tM 3 (.ptr 257 0),tB 1 [iI p0.Kind,iI p0.Agg,iI q.1,iI (config_Validate_1_i1 (config_in p0.K (1:Int) (64:Int)) (config_in p0.Max (1:Int) (1024:Int)) p0.K).2,iI (config_Validate_1_i1 (config_in p0.Cap (1:Int) (65536:Int)) (config_Validate_1_i1 (config_in p0.K (1:Int) (64:Int)) (config_in p0.Max (1:Int) (1024:Int)) p0.K).1 p0.Cap).2,iI p0.P,iI p0.Chains,iI (0:Int)],tB 257 [.sb q.2]],fun q=>config_Validate_j23_6 p0 (config_Validate_1_i1 (config_in p0.K (1:Int) (64:Int)) (config_in p0.Max (1:Int) (1024:Int)) p0.K) (config_Validate_1_i1 (config_in p0.Cap (1:Int) (65536:Int)) (config_Validate_1_i1 (config_in p0.K (1:Int) (64:Int)) (config_in p0.Max (1:Int) (1024:Int)) p0.K).1 p0.Cap) q.1 q.2=r,fun _=>0⟩,1000000)) (An ?_ ?_))
 refine cD h (fun g23 h=> ?_) (fun g23 h=> ?_)
 refine eN (eX (some (⟨Unit,fun _=> [tM 1 (.ptr 1 0),tM 3 (.ptr 257 0),tB 1 [iI p0.Kind,iI p0.Agg,iI p0.W,iI (config_Validate_1_i1 (config_in p0.K (1:Int) (64:Int)) (config_in p0.Max (1:Int) (1024:Int)) p0.K).2,iI (config_Validate_1_i1 (config_in p0.Cap (1:Int) (65536:Int)) (config_Validate_1_i1 (config_in p0.K (1:Int) (64:Int)) (config_in p0.Max (1:Int) (1024:Int)) p0.K).1 p0.Cap).2,iI p0.P,iI p0.Chains,iI (0:Int)],tB 257 [.sb ((config_Validate_1_i1 (config_in p0.Cap (1:Int) (65536:Int)) (config_Validate_1_i1 (config_in p0.K (1:Int) (64:Int)) (config_in p0.Max (1:Int) (1024:Int)) p0.K).1 p0.Cap).1&&(config_in p0.W (1:Int) (1048576:Int)))]],fun _=>True,fun _=>0⟩,1000000)) (An ?_ (fun _ _=> ?_)))
 refine An (fun g24=> ?_) (fun g24=> ?_)
 refine cK (An (cW (c_config_in' p0.W (1:Int) (1048576:Int) _ rfl) (r3 trivial)) (r1 ?_))
 exact jU (An trivial (r8 (r1 (An (Eq.symm (aR g24 rfl)) trivial))))
 exact jU (An trivial (r8 (r1 (An (Eq.symm (aL g24)) trivial))))
 exact eN (jT ((0:Int),((config_Validate_1_i1 (config_in p0.Cap (1:Int) (65536:Int)) (config_Validate_1_i1 (config_in p0.K (1:Int) (64:Int)) (config_in p0.Max (1:Int) (1024:Int)) p0.K).1 p0.Cap).1&&(config_in p0.W (1:Int) (1048576:Int)))) (An h (r8 (r2 trivial))))
 exact jT (p0.W,(config_Validate_1_i1 (config_in p0.Cap (1:Int) (65536:Int)) (config_Validate_1_i1 (config_in p0.K (1:Int) (64:Int)) (config_in p0.Max (1:Int) (1024:Int)) p0.K).1 p0.Cap).1) (An h (r8 (r2 trivial)))
 clear h
 refine fun q h=> ?_
 obtain ⟨a,b⟩:=q
 replace h:config_Validate_j23_6 p0 (config_Validate_1_i1 (config_in p0.K (1:Int) (64:Int)) (config_in p0.Max (1:Int) (1024:Int)) p0.K) (config_Validate_1_i1 (config_in p0.Cap (1:Int) (65536:Int)) (config_Validate_1_i1 (config_in p0.K (1:Int) (64:Int)) (config_in p0.Max (1:Int) (1024:Int)) p0.K).1 p0.Cap) a b=r:=h
 delta config_Validate_j23_6 at h
 refine eN (eN (An (fun g25=> ?_) (fun g25=> ?_)))
 refine An (fun g26=> ?_) (fun g26=> ?_)
 replace h:=cT (oR g25 g26) h
 cases h
 exact eN (r1 trivial)
 replace h:=cF (oR g25 g26) h
 cases h
 exact eN (r1 trivial)
 replace h:=cT (oL g25) h
 cases h
 exact eN (r1 trivial)
 refine eN (cD h (fun g27 h=> ?_) (fun g27 h=> ?_))
 refine eN (cK (An (cW (c_config_in' p0.Agg (1:Int) (4:Int) _ rfl) (r3 trivial)) (r1 ?_)))
 refine eX (CK.gen [(2822,0,1),(257,0,1),(1,1,1)] none _ _ none) (An (ContractT.wk (c_config_Validate_1_i1' (config_in p0.Agg (1:Int) (4:Int)) true p0.Agg _ rfl) (r3 trivial)) (An rfl (An rfl ?_)))
 exact jT ((config_Validate_1_i1 (config_in p0.Agg (1:Int) (4:Int)) true p0.Agg).2,(config_Validate_1_i1 (config_in p0.Agg (1:Int) (4:Int)) true p0.Agg).1) (An h (r8 (r3 trivial)))
 refine eN (eX (some (⟨Bool,fun e=> [tM 1 (.ptr 1 0),tM 3 (.ptr 257 0),tM 4 (.clo 231 [] [.ptr 257 0]),tM 5 (iI (1048576:Int)),tM 8 (iI p0.Kind),tM 21 (.sb e),tB 1 (enc_api_Config p0),tB 257 [.bool true]],fun e=>config_Validate_j18 p0 e=r,fun _=>0⟩,1000000)) (An ?_ ?_))
 refine cD h (fun g28 h=> ?_) (fun g28 h=> ?_)
 exact jT (p0.Kind==(2:Int)) (An h (r3 (An (Eq.symm g28) (r8 (r1 trivial)))))
 refine eN (eN (cD h (fun g29 h=> ?_) (fun g29 h=> ?_)))
 exact jT (p0.Kind==(5:Int)) (An h (r3 (An (Eq.symm g29) (r8 (r1 trivial)))))
 exact eN (jT (p0.Kind==(11:Int)) (An h (r12 (r1 trivial))))
 clear h
 refine fun e h=> ?_
 replace h:config_Validate_j18 p0 e=r:=h
 delta config_Validate_j18 at h
 refine cD h (fun g30 h=> ?_) (fun g30 h=> ?_)
 exact jT (p0.Agg,true) (An h (r8 (r3 trivial)))
 refine eN (cD h (fun g31 h=> ?_) (fun g31 h=> ?_))
 refine eN (cK (An (cW (c_config_in' p0.Max (0:Int) (1:Int) _ rfl) (r3 trivial)) (r1 ?_)))
 refine eN (eN (cK (An (cW (c_config_in' p0.Cap (1:Int) (65536:Int) _ rfl) (r3 trivial)) (r1 ?_))))
 refine eX (CK.gen [(1000773,0,1),(257,0,1),(1,4,1)] none _ _ none) (An (ContractT.wk (c_config_Validate_1_i1' (config_in p0.Cap (1:Int) (65536:Int)) (config_in p0.Max (0:Int) (1:Int)) p0.Cap _ rfl) (r3 trivial)) (An rfl (An rfl ?_)))
 refine eN (eX (some (⟨Int×Bool,fun q=> [tM 1 (.ptr 1 0),tM 3 (.ptr 257 0),tB 1 [iI p0.Kind,iI p0.Agg,iI q.1,iI p0.K,iI (config_Validate_1_i1 (config_in p0.Cap (1:Int) (65536:Int)) (config_in p0.Max (0:Int) (1:Int)) p0.Cap).2,iI p0.P,iI p0.Chains,iI (0:Int)],tB 257 [.sb q.2]],fun q=>config_Validate_j23_7 p0 (config_Validate_1_i1 (config_in p0.Cap (1:Int) (65536:Int)) (config_in p0.Max (0:Int) (1:Int)) p0.Cap) q.1 q.2=r,fun _=>0⟩,2000000)) (An ?_ ?_))
 refine cD h (fun g32 h=> ?_) (fun g32 h=> ?_)
 refine eN (eX (some (⟨Unit,fun _=> [tM 1 (.ptr 1 0),tM 3 (.ptr 257 0),tB 1 [iI p0.Kind,iI p0.Agg,iI p0.W,iI p0.K,iI (config_Validate_1_i1 (config_in p0.Cap (1:Int) (65536:Int)) (config_in p0.Max (0:Int) (1:Int)) p0.Cap).2,iI p0.P,iI p0.Chains,iI (0:Int)],tB 257 [.sb ((config_Validate_1_i1 (config_in p0.Cap (1:Int) (65536:Int)) (config_in p0.Max (0:Int) (1:Int)) p0.Cap).1&&(config_in p0.W (1:Int) (1048576:Int)))]],fun _=>True,fun _=>0⟩,2000000)) (An ?_ (fun _ _=> ?_)))
 refine An (fun g33=> ?_) (fun g33=> ?_)
 refine cK (An (cW (c_config_in' p0.W (1:Int) (1048576:Int) _ rfl) (r3 trivial)) (r1 ?_))
 exact jU (An trivial (r8 (r1 (An (Eq.symm (aR g33 rfl)) trivial))))
 exact jU (An trivial (r8 (r1 (An (Eq.symm (aL g33)) trivial))))
 exact eN (jT ((0:Int),((config_Validate_1_i1 (config_in p0.Cap (1:Int) (65536:Int)) (config_in p0.Max (0:Int) (1:Int)) p0.Cap).1&&(config_in p0.W (1:Int) (1048576:Int)))) (An h (r8 (r2 trivial))))
 exact jT (p0.W,(config_Validate_1_i1 (config_in p0.Cap (1:Int) (65536:Int)) (config_in p0.Max (0:Int) (1:Int)) p0.Cap).1) (An h (r8 (r2 trivial)))
 clear h
 refine fun q h=> ?_
 obtain ⟨a,b⟩:=q
 replace h:config_Validate_j23_7 p0 (config_Validate_1_i1 (config_in p0.Cap (1:Int) (65536:Int)) (config_in p0.Max (0:Int) (1:Int)) p0.Cap) a b=r:=h
 delta config_Validate_j23_7 at h
 refine eN (eN (An (fun g34=> ?_) (fun g34=> ?_)))
 refine An (fun g35=> ?_) (fun g35=> ?_)
 replace h:=cT (oR g34 g35) h
 cases h
 exact eN (r1 trivial)
 replace h:=cF (oR g34 g35) h
 cases h
 exact eN (r1 trivial)
 replace h:=cT (oL g34) h
 cases h
 exact eN (r1 trivial)
 refine eN (cD h (fun g36 h=> ?_) (fun g36 h=> ?_))
 refine eN (cK (An (cW (c_config_in' p0.Cap (1:Int) (65536:Int) _ rfl) (r3 trivial)) (r1 ?_)))
 refine eX (CK.gen [(1000517,0,1),(257,0,1),(1,4,1)] none _ _ none) (An (ContractT.wk (c_config_Validate_1_i1' (config_in p0.Cap (1:Int) (65536:Int)) true p0.Cap _ rfl) (r3 trivial)) (An rfl (An rfl ?_)))
 refine eN (eX (some (⟨Int×Bool,fun q=> [tM 1 (.ptr 1 0),tM 3 (.ptr 257 0),tB 1 [iI p0.Kind,iI p0.Agg,iI q.1,iI p0.K,iI (config_Validate_1_i1 (config_in p0.Cap (1:Int) (65536:Int)) true p0.Cap).2,iI p0.P,iI p0.Chains,iI p0.Max],tB 257 [.sb q.2]],fun q=>config_Validate_j23_8 p0 (config_Validate_1_i1 (config_in p0.Cap (1:Int) (65536:Int)) true p0.Cap) q.1 q.2=r,fun _=>0⟩,2000000)) (An ?_ ?_))
 refine cD h (fun g37 h=> ?_) (fun g37 h=> ?_)
 refine eN (eX (some (⟨Unit,fun _=> [tM 1 (.ptr 1 0),tM 3 (.ptr 257 0),tB 1 [iI p0.Kind,iI p0.Agg,iI p0.W,iI p0.K,iI (config_Validate_1_i1 (config_in p0.Cap (1:Int) (65536:Int)) true p0.Cap).2,iI p0.P,iI p0.Chains,iI p0.Max],tB 257 [.sb ((config_Validate_1_i1 (config_in p0.Cap (1:Int) (65536:Int)) true p0.Cap).1&&(config_in p0.W (1:Int) (1048576:Int)))]],fun _=>True,fun _=>0⟩,2000000)) (An ?_ (fun _ _=> ?_)))
 refine An (fun g38=> ?_) (fun g38=> ?_)
 refine cK (An (cW (c_config_in' p0.W (1:Int) (1048576:Int) _ rfl) (r3 trivial)) (r1 ?_))
 exact jU (An trivial (r8 (r1 (An (Eq.symm (aR g38 rfl)) trivial))))
 exact jU (An trivial (r8 (r1 (An (Eq.symm (aL g38)) trivial))))
 exact eN (jT ((0:Int),((config_Validate_1_i1 (config_in p0.Cap (1:Int) (65536:Int)) true p0.Cap).1&&(config_in p0.W (1:Int) (1048576:Int)))) (An h (r8 (r2 trivial))))
 exact jT (p0.W,(config_Validate_1_i1 (config_in p0.Cap (1:Int) (65536:Int)) true p0.Cap).1) (An h (r8 (r2 trivial)))
 clear h
 refine fun q h=> ?_
 obtain ⟨a,b⟩:=q
 replace h:config_Validate_j23_8 p0 (config_Validate_1_i1 (config_in p0.Cap (1:Int) (65536:Int)) true p0.Cap) a b=r:=h
 delta config_Validate_j23_8 at h
 refine eN (eN (An (fun g39=> ?_) (fun g39=> ?_)))
 refine An (fun g40=> ?_) (fun g40=> ?_)
 replace h:=cT (oR g39 g40) h
 cases h
 exact eN (r1 trivial)
 replace h:=cF (oR g39 g40) h
 cases h
 exact eN (r1 trivial)
 replace h:=cT (oL g39) h
 cases h
 exact eN (r1 trivial)
 cases h
 exact eN (r1 trivial)
 clear h
 refine fun q h=> ?_
 obtain ⟨d,c⟩:=q
 replace h:config_Validate_j5 p0 d c=r:=h
 delta config_Validate_j5 at h
 refine eN (cK (An (cW (c_config_in' p0.K (1:Int) (64:Int) _ rfl) (r3 trivial)) (r1 ?_)))
 refine eX (CK.gen [(1000005,0,1),(257,0,1),(1,3,1)] none _ _ none) (An (ContractT.wk (c_config_Validate_1_i1' (config_in p0.K (1:Int) (64:Int)) c p0.K _ rfl) (r3 trivial)) (An rfl (An rfl ?_)))
 refine eN (cK (An (cW (c_config_in' p0.Cap (1:Int) (65536:Int) _ rfl) (r3 trivial)) (r1 ?_)))
 refine eX (CK.gen [(1000261,0,1),(257,0,1),(1,4,1)] none _ _ none) (An (ContractT.wk (c_config_Validate_1_i1' (config_in p0.Cap (1:Int) (65536:Int)) (config_Validate_1_i1 (config_in p0.K (1:Int) (64:Int)) c p0.K).1 p0.Cap _ rfl) (r3 trivial)) (An rfl (An rfl ?_)))
 refine eN (eX (some (⟨Int×Bool,fun q=> [tM 1 (.ptr 1 0),tM 3 (.ptr 257 0),tB 1 [iI p0.Kind,iI d,iI q.1,iI (config_Validate_1_i1 (config_in p0.K (1:Int) (64:Int)) c p0.K).2,iI (config_Validate_1_i1 (config_in p0.Cap (1:Int) (65536:Int)) (config_Validate_1_i1 (config_in p0.K (1:Int) (64:Int)) c p0.K).1 p0.Cap).2,iI p0.P,iI p0.Chains,iI p0.Max],tB 257 [.sb q.2]],fun q=>config_Validate_j23 p0 (config_Validate_1_i1 (config_in p0.K (1:Int) (64:Int)) c p0.K) (config_Validate_1_i1 (config_in p0.Cap (1:Int) (65536:Int)) (config_Validate_1_i1 (config_in p0.K (1:Int) (64:Int)) c p0.K).1 p0.Cap) d q.1 q.2=r,fun _=>0⟩,2000000)) (An ?_ ?_))
 refine cD h (fun g41 h=> ?_) (fun g41 h=> ?_)
 refine eN (eX (some (⟨Unit,fun _=> [tM 1 (.ptr 1 0),tM 3 (.ptr 257 0),tB 1 [iI p0.Kind,iI d,iI p0.W,iI (config_Validate_1_i1 (config_in p0.K (1:Int) (64:Int)) c p0.K).2,iI (config_Validate_1_i1 (config_in p0.Cap (1:Int) (65536:Int)) (config_Validate_1_i1 (config_in p0.K (1:Int) (64:Int)) c p0.K).1 p0.Cap).2,iI p0.P,iI p0.Chains,iI p0.Max],tB 257 [.sb ((config_Validate_1_i1 (config_in p0.Cap (1:Int) (65536:Int)) (config_Validate_1_i1 (config_in p0.K (1:Int) (64:Int)) c p0.K).1 p0.Cap).1&&(config_in p0.W (1:Int) (1048576:Int)))]],fun _=>True,fun _=>0⟩,2000000)) (An ?_ (fun _ _=> ?_)))
 refine An (fun g42=> ?_) (fun g42=> ?_)
 refine cK (An (cW (c_config_in' p0.W (1:Int) (1048576:Int) _ rfl) (r3 trivial)) (r1 ?_))
 exact jU (An trivial (r8 (r1 (An (Eq.symm (aR g42 rfl)) trivial))))
 exact jU (An trivial (r8 (r1 (An (Eq.symm (aL g42)) trivial))))
 exact eN (jT ((0:Int),((config_Validate_1_i1 (config_in p0.Cap (1:Int) (65536:Int)) (config_Validate_1_i1 (config_in p0.K (1:Int) (64:Int)) c p0.K).1 p0.Cap).1&&(config_in p0.W (1:Int) (1048576:Int)))) (An h (r8 (r2 trivial))))
 exact jT (p0.W,(config_Validate_1_i1 (config_in p0.Cap (1:Int) (65536:Int)) (config_Validate_1_i1 (config_in p0.K (1:Int) (64:Int)) c p0.K).1 p0.Cap).1) (An h (r8 (r2 trivial)))
 clear h
 refine fun q h=> ?_
 obtain ⟨a,b⟩:=q
 replace h:config_Validate_j23 p0 (config_Validate_1_i1 (config_in p0.K (1:Int) (64:Int)) c p0.K) (config_Validate_1_i1 (config_in p0.Cap (1:Int) (65536:Int)) (config_Validate_1_i1 (config_in p0.K (1:Int) (64:Int)) c p0.K).1 p0.Cap) d a b=r:=h
 delta config_Validate_j23 at h
 refine eN (eN (An (fun g43=> ?_) (fun g43=> ?_)))
 refine An (fun g44=> ?_) (fun g44=> ?_)
 replace h:=cT (oR g43 g44) h
 cases h
 exact eN (r1 trivial)
 replace h:=cF (oR g43 g44) h
 cases h
 exact eN (r1 trivial)
 replace h:=cT (oL g43) h
 cases h
 exact eN (r1 trivial)
theorem c_synopsis_tick' (p0:Int) (r:Bool) (h:synopsis_tick p0=r):Contract Tryz.prog 45 [iI p0] [] (.sb r) []:=by
 refine C0 Tryz.func45 Tryz.call45 1 ?_
 delta synopsis_tick at h
 refine eN (eN (eN (An (fun g1=> ?_) (fun g1=> ?_))))
 cases h
 exact (An (Eq.symm (aR g1 rfl)) trivial)
 cases h
 exact (An (Eq.symm (aL g1)) trivial)
theorem c_recent_good' (p0:Int) (p1:Int) (p2:Int) (r:Bool) (h:recent_good p0 p1 p2=r):Contract Tryz.prog 233 [iI p0,iI p1,iI p2] [] (.sb r) []:=by
 refine C0 Tryz.func233 Tryz.call233 1 ?_
 delta recent_good at h
 refine eN (eN (eN (An (fun g1=> ?_) (fun g1=> ?_))))
 refine An (fun g2=> ?_) (fun g2=> ?_)
 refine An (fun g3=> ?_) (fun g3=> ?_)
 refine An (fun g4=> ?_) (fun g4=> ?_)
 refine An (fun g5=> ?_) (fun g5=> ?_)
 cases h
 exact (An (Eq.symm (aR (aR (aR (aR (aR g1 g2) g3) g4) g5) rfl)) trivial)
 cases h
 exact (An (Eq.symm (aL (aR (aR (aR (aR g1 g2) g3) g4) g5))) trivial)
 cases h
 exact (An (Eq.symm (aL (aL (aR (aR (aR g1 g2) g3) g4)))) trivial)
 cases h
 exact (An (Eq.symm (aL (aL (aL (aR (aR g1 g2) g3))))) trivial)
 cases h
 exact (An (Eq.symm (aL (aL (aL (aL (aR g1 g2)))))) trivial)
 cases h
 exact (An (Eq.symm (aL (aL (aL (aL (aL g1)))))) trivial)
theorem c_recent_New' (p0:Int) (p1:Int) (p2:Int) (r:(api_Recent×Int)) (h:recent_New p0 p1 p2=r):Contract Tryz.prog 113 [iI p0,iI p1,iI p2] [] (.tup [.agg (enc_api_Recent r.1),iI r.2]) []:=by
 refine C0 Tryz.func113 Tryz.call113 1 ?_
 delta recent_New at h
 refine eN (eN (cK (An (cW (c_recent_good' p0 p1 p2 _ rfl) (r3 trivial)) (r1 ?_))))
 refine cD h (fun g1 h=> ?_) (fun g1 h=> ?_)
 cases h
 exact eN (r5 trivial)
 cases h
 exact eN (r5 trivial)
theorem c_count_good' (p0:Int) (p1:Int) (p2:Int) (p3:Int) (r:Bool) (h:count_good p0 p1 p2 p3=r):Contract Tryz.prog 234 [iI p0,iI p1,iI p2,iI p3] [] (.sb r) []:=by
 refine C0 Tryz.func234 Tryz.call234 1 ?_
 delta count_good at h
 refine eN (eN (eN (An (fun g1=> ?_) (fun g1=> ?_))))
 refine An (fun g2=> ?_) (fun g2=> ?_)
 refine An (fun g3=> ?_) (fun g3=> ?_)
 refine An (fun g4=> ?_) (fun g4=> ?_)
 refine An (fun g5=> ?_) (fun g5=> ?_)
 refine An (fun g6=> ?_) (fun g6=> ?_)
 refine An (fun g7=> ?_) (fun g7=> ?_)
 cases h
 exact (An (Eq.symm (aR (aR (aR (aR (aR (aR (aR g1 g2) g3) g4) g5) g6) g7) rfl)) trivial)
 cases h
 exact (An (Eq.symm (aL (aR (aR (aR (aR (aR (aR g1 g2) g3) g4) g5) g6) g7))) trivial)
 cases h
 exact (An (Eq.symm (aL (aL (aR (aR (aR (aR (aR g1 g2) g3) g4) g5) g6)))) trivial)
 cases h
 exact (An (Eq.symm (aL (aL (aL (aR (aR (aR (aR g1 g2) g3) g4) g5))))) trivial)
 cases h
 exact (An (Eq.symm (aL (aL (aL (aL (aR (aR (aR g1 g2) g3) g4)))))) trivial)
 cases h
 exact (An (Eq.symm (aL (aL (aL (aL (aL (aR (aR g1 g2) g3))))))) trivial)
 cases h
 exact (An (Eq.symm (aL (aL (aL (aL (aL (aL (aR g1 g2)))))))) trivial)
 cases h
 exact (An (Eq.symm (aL (aL (aL (aL (aL (aL (aL g1)))))))) trivial)
theorem c_count_New' (p0:Int) (p1:Int) (p2:Int) (p3:Int) (r:(api_Count×Int)) (h:count_New p0 p1 p2 p3=r):Contract Tryz.prog 114 [iI p0,iI p1,iI p2,iI p3] [] (.tup [.agg (enc_api_Count r.1),iI r.2]) []:=by
 refine C0 Tryz.func114 Tryz.call114 1 ?_
 delta count_New at h
 refine eN (eN (cK (An (cW (c_count_good' p0 p1 p2 p3 _ rfl) (r4 trivial)) (r1 ?_))))
 refine cD h (fun g1 h=> ?_) (fun g1 h=> ?_)
 cases h
 exact eN (r6 trivial)
 cases h
 exact eN (r6 trivial)
theorem c_sum_good' (p0:Int) (p1:Int) (p2:Int) (p3:Int) (p4:Int) (r:Bool) (h:sum_good p0 p1 p2 p3 p4=r):Contract Tryz.prog 235 [iI p0,iI p1,iI p2,iI p3,iI p4] [] (.sb r) []:=by
 refine C0 Tryz.func235 Tryz.call235 1 ?_
 delta sum_good at h
 refine eN (eN (eN (An (fun g1=> ?_) (fun g1=> ?_))))
 refine An (fun g2=> ?_) (fun g2=> ?_)
 refine An (fun g3=> ?_) (fun g3=> ?_)
 refine An (fun g4=> ?_) (fun g4=> ?_)
 refine An (fun g5=> ?_) (fun g5=> ?_)
 refine An (fun g6=> ?_) (fun g6=> ?_)
 refine An (fun g7=> ?_) (fun g7=> ?_)
 refine An (fun g8=> ?_) (fun g8=> ?_)
 refine An (fun g9=> ?_) (fun g9=> ?_)
 cases h
 exact (An (Eq.symm (aR (aR (aR (aR (aR (aR (aR (aR (aR g1 g2) g3) g4) g5) g6) g7) g8) g9) rfl)) trivial)
 cases h
 exact (An (Eq.symm (aL (aR (aR (aR (aR (aR (aR (aR (aR g1 g2) g3) g4) g5) g6) g7) g8) g9))) trivial)
 cases h
 exact (An (Eq.symm (aL (aL (aR (aR (aR (aR (aR (aR (aR g1 g2) g3) g4) g5) g6) g7) g8)))) trivial)
 cases h
 exact (An (Eq.symm (aL (aL (aL (aR (aR (aR (aR (aR (aR g1 g2) g3) g4) g5) g6) g7))))) trivial)
 cases h
 exact (An (Eq.symm (aL (aL (aL (aL (aR (aR (aR (aR (aR g1 g2) g3) g4) g5) g6)))))) trivial)
 cases h
 exact (An (Eq.symm (aL (aL (aL (aL (aL (aR (aR (aR (aR g1 g2) g3) g4) g5))))))) trivial)
 cases h
 exact (An (Eq.symm (aL (aL (aL (aL (aL (aL (aR (aR (aR g1 g2) g3) g4)))))))) trivial)
 cases h
 exact (An (Eq.symm (aL (aL (aL (aL (aL (aL (aL (aR (aR g1 g2) g3))))))))) trivial)
 cases h
 exact (An (Eq.symm (aL (aL (aL (aL (aL (aL (aL (aL (aR g1 g2)))))))))) trivial)
 cases h
 exact (An (Eq.symm (aL (aL (aL (aL (aL (aL (aL (aL (aL g1)))))))))) trivial)
theorem c_sum_New' (p0:Int) (p1:Int) (p2:Int) (p3:Int) (p4:Int) (r:(api_Sum×Int)) (h:sum_New p0 p1 p2 p3 p4=r):Contract Tryz.prog 115 [iI p0,iI p1,iI p2,iI p3,iI p4] [] (.tup [.agg (enc_api_Sum r.1),iI r.2]) []:=by
 refine C0 Tryz.func115 Tryz.call115 1 ?_
 delta sum_New at h
 refine eN (eN (cK (An (cW (c_sum_good' p0 p1 p2 p3 p4 _ rfl) (r5 trivial)) (r1 ?_))))
 refine cD h (fun g1 h=> ?_) (fun g1 h=> ?_)
 cases h
 exact eN (r7 trivial)
 cases h
 exact eN (r7 trivial)
theorem c_marks_Good' (p0:Int) (p1:Int) (p2:Int) (p3:Int) (r:Bool) (h:marks_Good p0 p1 p2 p3=r):Contract Tryz.prog 237 [iI p0,iI p1,iI p2,iI p3] [] (.sb r) []:=by
 refine C0 Tryz.func237 Tryz.call237 1 ?_
 delta marks_Good at h
 refine eN (eN (eN (An (fun g1=> ?_) (fun g1=> ?_))))
 refine An (fun g2=> ?_) (fun g2=> ?_)
 refine An (fun g3=> ?_) (fun g3=> ?_)
 refine An (fun g4=> ?_) (fun g4=> ?_)
 refine An (fun g5=> ?_) (fun g5=> ?_)
 refine An (fun g6=> ?_) (fun g6=> ?_)
 refine An (fun g7=> ?_) (fun g7=> ?_)
 cases h
 exact (An (Eq.symm (aR (aR (aR (aR (aR (aR (aR g1 g2) g3) g4) g5) g6) g7) rfl)) trivial)
 cases h
 exact (An (Eq.symm (aL (aR (aR (aR (aR (aR (aR g1 g2) g3) g4) g5) g6) g7))) trivial)
 cases h
 exact (An (Eq.symm (aL (aL (aR (aR (aR (aR (aR g1 g2) g3) g4) g5) g6)))) trivial)
 cases h
 exact (An (Eq.symm (aL (aL (aL (aR (aR (aR (aR g1 g2) g3) g4) g5))))) trivial)
 cases h
 exact (An (Eq.symm (aL (aL (aL (aL (aR (aR (aR g1 g2) g3) g4)))))) trivial)
 cases h
 exact (An (Eq.symm (aL (aL (aL (aL (aL (aR (aR g1 g2) g3))))))) trivial)
 cases h
 exact (An (Eq.symm (aL (aL (aL (aL (aL (aL (aR g1 g2)))))))) trivial)
 cases h
 exact (An (Eq.symm (aL (aL (aL (aL (aL (aL (aL g1)))))))) trivial)
theorem c_smooth_good' (p0:Int) (p1:Int) (p2:Int) (p3:Int) (p4:Int) (r:Bool) (h:smooth_good p0 p1 p2 p3 p4=r):Contract Tryz.prog 236 [iI p0,iI p1,iI p2,iI p3,iI p4] [] (.sb r) []:=by
 refine C0 Tryz.func236 Tryz.call236 1 ?_
 delta smooth_good at h
 refine eN (eN (eN (An (fun g1=> ?_) (fun g1=> ?_))))
 refine An (fun g2=> ?_) (fun g2=> ?_)
 refine cK (An (cW (c_marks_Good' p1 p2 p3 p4 _ rfl) (r4 trivial)) (r1 ?_))
 cases h
 exact (An (Eq.symm (aR (aR g1 g2) rfl)) trivial)
 cases h
 exact (An (Eq.symm (aL (aR g1 g2))) trivial)
 cases h
 exact (An (Eq.symm (aL (aL g1))) trivial)
theorem c_smooth_New' (p0:Int) (p1:Int) (p2:Int) (p3:Int) (p4:Int) (r:(api_Smooth×Int)) (h:smooth_New p0 p1 p2 p3 p4=r):Contract Tryz.prog 116 [iI p0,iI p1,iI p2,iI p3,iI p4] [] (.tup [.agg (enc_api_Smooth r.1),iI r.2]) []:=by
 refine C0 Tryz.func116 Tryz.call116 1 ?_
 delta smooth_New at h
 refine eN (eN (cK (An (cW (c_smooth_good' p0 p1 p2 p3 p4 _ rfl) (r5 trivial)) (r1 ?_))))
 refine cD h (fun g1 h=> ?_) (fun g1 h=> ?_)
 cases h
 exact eN (r8 trivial)
 cases h
 exact eN (r8 trivial)
theorem c_spread_New' (p0:Int) (p1:Int) (p2:Int) (p3:Int) (r:(api_Spread×Int)) (h:spread_New p0 p1 p2 p3=r):Contract Tryz.prog 117 [iI p0,iI p1,iI p2,iI p3] [] (.tup [.agg (enc_api_Spread r.1),iI r.2]) []:=by
 refine C0 Tryz.func117 Tryz.call117 1 ?_
 delta spread_New at h
 refine eN (eN (cK (An (cW (c_marks_Good' p0 p1 p2 p3 _ rfl) (r4 trivial)) (r1 ?_))))
 refine cD h (fun g1 h=> ?_) (fun g1 h=> ?_)
 cases h
 exact eN (r7 trivial)
 cases h
 exact eN (r7 trivial)
theorem c_poly_tick' (p0:Int) (r:Bool) (h:poly_tick p0=r):Contract Tryz.prog 238 [iI p0] [] (.sb r) []:=by
 refine C0 Tryz.func238 Tryz.call238 1 ?_
 delta poly_tick at h
 refine eN (eN (eN (An (fun g1=> ?_) (fun g1=> ?_))))
 cases h
 exact (An (Eq.symm (aR g1 rfl)) trivial)
 cases h
 exact (An (Eq.symm (aL g1)) trivial)
theorem c_poly_New (p0:Int) (p1:Int) (r:(api_Poly×Int)) (h:poly_New p0 p1=some r):Contract Tryz.prog 118 [iI p0,iI p1] [] (.tup [.agg (enc_api_Poly r.1),iI r.2]) []:=by
 refine C0 Tryz.func118 Tryz.call118 1 ?_
 delta poly_New at h
 refine eN (eN (eN (An (fun g1=> ?_) (fun g1=> ?_))))
 refine An (fun g2=> ?_) (fun g2=> ?_)
 refine cK (An (cW (c_poly_tick' p1 _ rfl) (r1 trivial)) (r1 ?_))
 refine An (fun g3=> ?_) (fun g3=> ?_)
 replace h:=cT (oR (oR g1 g2) g3) h
 first|cases h|rw [←oJ h]
 exact eN (r5 trivial)
 replace h:=cF (oR (oR g1 g2) g3) h
 refine eN ?_
 obtain ⟨a,h⟩:=ckS h
 refine An (oD a) ?_
 first|cases h|rw [←oJ h]
 exact (r3 (An ff (An lE (r1 trivial))))
 replace h:=cT (oL (oR g1 g2)) h
 first|cases h|rw [←oJ h]
 exact eN (r5 trivial)
 replace h:=cT (oL (oL g1)) h
 first|cases h|rw [←oJ h]
 exact eN (r5 trivial)
theorem c_halve_New (p0:Int) (p1:Int) (r:(api_Halve×Int)) (h:halve_New p0 p1=some r):Contract Tryz.prog 119 [iI p0,iI p1] [] (.tup [.agg [iI r.1.Now,lF 1 (List.map (eI .i64) r.1.Sums)],iI r.2]) []:=by
 refine C0 Tryz.func119 Tryz.call119 1 ?_
 delta halve_New at h
 refine eN (eN (eN (An (fun g1=> ?_) (fun g1=> ?_))))
 refine An (fun g2=> ?_) (fun g2=> ?_)
 refine An (fun g3=> ?_) (fun g3=> ?_)
 refine An (fun g4=> ?_) (fun g4=> ?_)
 replace h:=cT (oR (oR (oR g1 g2) g3) g4) h
 first|cases h|rw [←oJ h]
 exact eN (r3 trivial)
 replace h:=cF (oR (oR (oR g1 g2) g3) g4) h
 refine eN ?_
 obtain ⟨a,h⟩:=ckS h
 refine An (oD a) ?_
 first|cases h|rw [←oJ h]
 exact (r1 (An ff (An lE (r1 trivial))))
 replace h:=cT (oL (oR (oR g1 g2) g3)) h
 first|cases h|rw [←oJ h]
 exact eN (r3 trivial)
 replace h:=cT (oL (oL (oR g1 g2))) h
 first|cases h|rw [←oJ h]
 exact eN (r3 trivial)
 replace h:=cT (oL (oL (oL g1))) h
 first|cases h|rw [←oJ h]
 exact eN (r3 trivial)
theorem c_extreme_good' (p0:Int) (p1:Int) (p2:Int) (r:Bool) (h:extreme_good p0 p1 p2=r):Contract Tryz.prog 239 [iI p0,iI p1,iI p2] [] (.sb r) []:=by
 refine C0 Tryz.func239 Tryz.call239 1 ?_
 delta extreme_good at h
 refine eN (eN (eN (An (fun g1=> ?_) (fun g1=> ?_))))
 refine An (fun g2=> ?_) (fun g2=> ?_)
 refine An (fun g3=> ?_) (fun g3=> ?_)
 refine An (fun g4=> ?_) (fun g4=> ?_)
 refine An (fun g5=> ?_) (fun g5=> ?_)
 cases h
 exact (An (Eq.symm (aR (aR (aR (aR (aR g1 g2) g3) g4) g5) rfl)) trivial)
 cases h
 exact (An (Eq.symm (aL (aR (aR (aR (aR g1 g2) g3) g4) g5))) trivial)
 cases h
 exact (An (Eq.symm (aL (aL (aR (aR (aR g1 g2) g3) g4)))) trivial)
 cases h
 exact (An (Eq.symm (aL (aL (aL (aR (aR g1 g2) g3))))) trivial)
 cases h
 exact (An (Eq.symm (aL (aL (aL (aL (aR g1 g2)))))) trivial)
 cases h
 exact (An (Eq.symm (aL (aL (aL (aL (aL g1)))))) trivial)
theorem c_extreme_New' (p0:Bool) (p1:Int) (p2:Int) (p3:Int) (r:(api_Extreme×Int)) (h:extreme_New p0 p1 p2 p3=r):Contract Tryz.prog 120 [.sb p0,iI p1,iI p2,iI p3] [] (.tup [.agg (enc_api_Extreme r.1),iI r.2]) []:=by
 refine C0 Tryz.func120 Tryz.call120 1 ?_
 delta extreme_New at h
 refine eN (eN (cK (An (cW (c_extreme_good' p1 p2 p3 _ rfl) (r3 trivial)) (r1 ?_))))
 refine cD h (fun g1 h=> ?_) (fun g1 h=> ?_)
 cases h
 exact eN (r6 trivial)
 cases h
 exact eN (r6 trivial)
theorem c_chain_New' (p0:Int) (p1:Int) (r:(api_Chain×Int)) (h:chain_New p0 p1=r):Contract Tryz.prog 240 [iI p0,iI p1] [] (.tup [.agg (enc_api_Chain r.1),iI r.2]) []:=by
 refine C0 Tryz.func240 Tryz.call240 1 ?_
 delta chain_New at h
 refine eN (eN (eN (An (fun g1=> ?_) (fun g1=> ?_))))
 refine An (fun g2=> ?_) (fun g2=> ?_)
 refine An (fun g3=> ?_) (fun g3=> ?_)
 refine An (fun g4=> ?_) (fun g4=> ?_)
 replace h:=cT (oR (oR (oR g1 g2) g3) g4) h
 cases h
 exact eN (r6 trivial)
 replace h:=cF (oR (oR (oR g1 g2) g3) g4) h
 cases h
 exact eN (r6 trivial)
 replace h:=cT (oL (oR (oR g1 g2) g3)) h
 cases h
 exact eN (r6 trivial)
 replace h:=cT (oL (oL (oR g1 g2))) h
 cases h
 exact eN (r6 trivial)
 replace h:=cT (oL (oL (oL g1))) h
 cases h
 exact eN (r6 trivial)
theorem c_sample_New (p0:Int) (p1:Int) (p2:Int) (r:(api_Sample×Int)) (h:sample_New p0 p1 p2=some r):Contract Tryz.prog 121 [iI p0,iI p1,iI p2] [] (.tup [.agg [lF 5 (List.map enc_api_Chain r.1.Chains)],iI r.2]) []:=by
 refine C0 Tryz.func121 Tryz.call121 1 ?_
 delta sample_New at h
 refine eN (eN (eN (An (fun g1=> ?_) (fun g1=> ?_))))
 refine An (fun g2=> ?_) (fun g2=> ?_)
 replace h:=cT (oR g1 g2) h
 first|cases h|rw [←oJ h]
 exact eN (r2 trivial)
 replace h:=cF (oR g1 g2) h
 refine eN (eN ?_)
 replace h:sample_New_l3 p0 p1 p2 (0:Int) ([]:List api_Chain)=some r:=h
 delta sample_New_l3 at h
 obtain ⟨n1,h⟩:=loopS h
 refine eX (Sum.inl ⟨(Int×(List api_Chain))×Nat,fun q=> [tM 1 (iI p1),tM 2 (iI p2),tM 6 (.ptr 1 0),tM 8 (.ptr 513 0),tM 18 (iI p0),tM 19 (iI q.1.1),tB 1 [.nilS],tB 513 [.own 1024],(.tok 1024, .tok 88 5 (List.map enc_api_Chain q.1.2))],fun q=>loopN (fun (s:(Int×(List api_Chain)))=>sample_New_l3s p0 p1 p2 s.1 s.2) q.2 q.1=some r,fun q=>q.2⟩) (An (eX [(1024,none)] (eX [] (eX (((0:Int),([]:List api_Chain)),n1) (An h (r6 trivial))))) ?_)
 clear h
 refine fun q h=> ?_
 obtain ⟨⟨b,a⟩,n1⟩:=q
 obtain ⟨m1,x1,hm1,h,hl1,hr1⟩:=loopN_step h
 replace hm1:n1=m1+1:=hm1
 subst hm1
 replace h:sample_New_l3s p0 p1 p2 b a=some x1:=h
 delta sample_New_l3s at h
 refine eN (cD h (fun g3 h=> ?_) (fun g3 h=> ?_))
 refine eN (cK (An (cW (c_chain_New' p1 p2 _ rfl) (r2 trivial)) (r1 ?_)))
 refine eN (cD h (fun g4 h=> ?_) (fun g4 h=> ?_))
 cases retS h hr1
 exact eN (r2 trivial)
 refine eN ?_
 obtain ⟨c,h⟩:=ckS h
 refine An (kA (oD c)) ?_
 exact eN (eX [(1024,some 1797)] (eX [] (eX (((w64 (b+(1:Int))),(a++ [(chain_New p1 p2).1])),m1) (An (hl1 ((w64 (b+(1:Int))),(a++ [(chain_New p1 p2).1])) (oJ h).symm) (An (Nat.lt_succ_self m1) (r5 (An lE trivial)))))))
 replace h:=popS h hr1
 first|cases h|rw [←oJ h]
 exact eN (fr (r1 trivial))
 replace h:=cT (oL g1) h
 first|cases h|rw [←oJ h]
 exact eN (r2 trivial)
theorem c_summary_New' (p0:Int) (p1:Int) (r:(api_Summary×Int)) (h:summary_New p0 p1=r):Contract Tryz.prog 122 [iI p0,iI p1] [] (.tup [.agg (enc_api_Summary r.1),iI r.2]) []:=by
 refine C0 Tryz.func122 Tryz.call122 1 ?_
 delta summary_New at h
 refine eN (eN (eN (An (fun g1=> ?_) (fun g1=> ?_))))
 refine An (fun g2=> ?_) (fun g2=> ?_)
 refine An (fun g3=> ?_) (fun g3=> ?_)
 refine An (fun g4=> ?_) (fun g4=> ?_)
 replace h:=cT (oR (oR (oR g1 g2) g3) g4) h
 cases h
 exact eN (r5 trivial)
 replace h:=cF (oR (oR (oR g1 g2) g3) g4) h
 cases h
 exact eN (r5 trivial)
 replace h:=cT (oL (oR (oR g1 g2) g3)) h
 cases h
 exact eN (r5 trivial)
 replace h:=cT (oL (oL (oR g1 g2))) h
 cases h
 exact eN (r5 trivial)
 replace h:=cT (oL (oL (oL g1))) h
 cases h
 exact eN (r5 trivial)
theorem c_quantile_good' (p0:Int) (p1:Int) (p2:Int) (p3:Int) (r:Bool) (h:quantile_good p0 p1 p2 p3=r):Contract Tryz.prog 241 [iI p0,iI p1,iI p2,iI p3] [] (.sb r) []:=by
 refine C0 Tryz.func241 Tryz.call241 1 ?_
 delta quantile_good at h
 refine eN (eN (eN (An (fun g1=> ?_) (fun g1=> ?_))))
 refine An (fun g2=> ?_) (fun g2=> ?_)
 refine An (fun g3=> ?_) (fun g3=> ?_)
 refine An (fun g4=> ?_) (fun g4=> ?_)
 refine An (fun g5=> ?_) (fun g5=> ?_)
 refine An (fun g6=> ?_) (fun g6=> ?_)
 refine An (fun g7=> ?_) (fun g7=> ?_)
 cases h
 exact (An (Eq.symm (aR (aR (aR (aR (aR (aR (aR g1 g2) g3) g4) g5) g6) g7) rfl)) trivial)
 cases h
 exact (An (Eq.symm (aL (aR (aR (aR (aR (aR (aR g1 g2) g3) g4) g5) g6) g7))) trivial)
 cases h
 exact (An (Eq.symm (aL (aL (aR (aR (aR (aR (aR g1 g2) g3) g4) g5) g6)))) trivial)
 cases h
 exact (An (Eq.symm (aL (aL (aL (aR (aR (aR (aR g1 g2) g3) g4) g5))))) trivial)
 cases h
 exact (An (Eq.symm (aL (aL (aL (aL (aR (aR (aR g1 g2) g3) g4)))))) trivial)
 cases h
 exact (An (Eq.symm (aL (aL (aL (aL (aL (aR (aR g1 g2) g3))))))) trivial)
 cases h
 exact (An (Eq.symm (aL (aL (aL (aL (aL (aL (aR g1 g2)))))))) trivial)
 cases h
 exact (An (Eq.symm (aL (aL (aL (aL (aL (aL (aL g1)))))))) trivial)
theorem c_quantile_New' (p0:Int) (p1:Int) (p2:Int) (p3:Int) (r:(api_Quantile×Int)) (h:quantile_New p0 p1 p2 p3=r):Contract Tryz.prog 123 [iI p0,iI p1,iI p2,iI p3] [] (.tup [.agg (enc_api_Quantile r.1),iI r.2]) []:=by
 refine C0 Tryz.func123 Tryz.call123 1 ?_
 delta quantile_New at h
 refine eN (eN (cK (An (cW (c_quantile_good' p0 p1 p2 p3 _ rfl) (r4 trivial)) (r1 ?_))))
 refine cD h (fun g1 h=> ?_) (fun g1 h=> ?_)
 cases h
 exact eN (r6 trivial)
 cases h
 exact eN (r6 trivial)
theorem c_synopsis_New (p0:api_Config) (p1:Int) (r:(api_Synopsis×Int)) (h:synopsis_New p0 p1=some r):Contract Tryz.prog 33 [.agg (enc_api_Config p0),iI p1] [] (.tup [.agg (enc_api_Synopsis r.1),iI r.2]) []:=by
 refine C0 Tryz.func33 Tryz.call33 1 ?_
 delta synopsis_New at h
 refine eN (eN (cK (An (cW (c_config_Validate' p0 _ rfl) (r8 trivial)) (r1 ?_))))
 refine eN (cD h (fun g1 h=> ?_) (fun g1 h=> ?_))
 first|cases h|rw [←oJ h]
 exact eN (r48 (r8 (r2 trivial)))
 refine eN (cK (An (cW (c_synopsis_tick' p1 _ rfl) (r1 trivial)) (r1 ?_)))
 refine cD h (fun g2 h=> ?_) (fun g2 h=> ?_)
 first|cases h|rw [←oJ h]
 exact eN (r48 (r8 (r2 trivial)))
 refine eN (eN (eN (eN (eN (eX (some (⟨Int×api_Recent×api_Count×api_Sum×api_Smooth×api_Spread×api_Poly×Int×(List Int)×api_Extreme×(List api_Chain)×api_Summary×api_Quantile,fun q=> [tM 4 (.ptr 2 0),tM 7 (.ptr 1027 0),tM 8 (iI q.1),tB 2 [iI (0:Int),iI (0:Int),iI (0:Int),iI (0:Int),iI (0:Int),iI (0:Int),iI (0:Int),iI (0:Int),iI (0:Int),iI (0:Int),iI (0:Int), .nilS,iI (0:Int),iI (0:Int),iI (0:Int),iI (0:Int), .nilS,iI (0:Int),iI (0:Int),iI (0:Int),iI (0:Int),iI (0:Int), .nilS,iI (0:Int),iI (0:Int),iI (0:Int),iI (0:Int),iI (0:Int),iI (0:Int), .nilS,iI (0:Int),iI (0:Int),iI (0:Int),iI (0:Int),iI (0:Int), .nilS,iI (0:Int),iI (0:Int),iI (0:Int), .nilS,iI (0:Int), .nilS, .bool false,iI (0:Int),iI (0:Int),iI (0:Int), .nilS, .nilS,iI (0:Int),iI (0:Int),iI (0:Int), .nilS,iI (0:Int),iI (0:Int),iI (0:Int),iI (0:Int), .nilS],tB 1027 (List.append (enc_api_Config p0) (List.append (enc_api_Recent q.2.1) (List.append (enc_api_Count q.2.2.1) (List.append (enc_api_Sum q.2.2.2.1) (List.append (enc_api_Smooth q.2.2.2.2.1) (List.append (enc_api_Spread q.2.2.2.2.2.1) (List.append (enc_api_Poly q.2.2.2.2.2.2.1) (iI q.2.2.2.2.2.2.2.1::(lF 1 (List.map (eI .i64) q.2.2.2.2.2.2.2.2.1)::(List.append (enc_api_Extreme q.2.2.2.2.2.2.2.2.2.1) (lF 5 (List.map enc_api_Chain q.2.2.2.2.2.2.2.2.2.2.1)::(List.append (enc_api_Summary q.2.2.2.2.2.2.2.2.2.2.2.1) (enc_api_Quantile q.2.2.2.2.2.2.2.2.2.2.2.2)))))))))))))],fun q=>synopsis_New_j4 p0 q.1 q.2.1 q.2.2.1 q.2.2.2.1 q.2.2.2.2.1 q.2.2.2.2.2.1 q.2.2.2.2.2.2.1 q.2.2.2.2.2.2.2.1 q.2.2.2.2.2.2.2.2.1 q.2.2.2.2.2.2.2.2.2.1 q.2.2.2.2.2.2.2.2.2.2.1 q.2.2.2.2.2.2.2.2.2.2.2.1 q.2.2.2.2.2.2.2.2.2.2.2.2=some r,fun _=>0⟩,1000000)) (An ?_ ?_))))))
 refine cD h (fun g3 h=> ?_) (fun g3 h=> ?_)
 refine eN (cK (An (cW (c_recent_New' p0.W p0.Cap p1 _ rfl) (r3 trivial)) (r1 ?_)))
 exact jT ((recent_New p0.W p0.Cap p1).2,(recent_New p0.W p0.Cap p1).1,(api_Count.mk (0:Int) (0:Int) (0:Int) (0:Int) ([]:List api_Bucket)),(api_Sum.mk (0:Int) (0:Int) (0:Int) (0:Int) (0:Int) ([]:List api_Bucket)),(api_Smooth.mk (0:Int) (0:Int) (0:Int) (0:Int) (0:Int) (0:Int) ([]:List api_Mark)),(api_Spread.mk (0:Int) (0:Int) (0:Int) (0:Int) (0:Int) ([]:List api_Mark)),(api_Poly.mk (0:Int) (0:Int) (0:Int) ([]:List api_Wide)),(0:Int),([]:List Int),(api_Extreme.mk false (0:Int) (0:Int) (0:Int) ([]:List api_Item)),([]:List api_Chain),(api_Summary.mk (0:Int) (0:Int) (0:Int) ([]:List api_Tuple)),(api_Quantile.mk (0:Int) (0:Int) (0:Int) (0:Int) ([]:List api_Block))) (An h (r48 (r8 (r3 (fr (r32 (r12 (r1 trivial))))))))
 refine eN (eN (cD h (fun g4 h=> ?_) (fun g4 h=> ?_)))
 refine eN (cK (An (cW (c_count_New' p0.W p0.K p0.Cap p1 _ rfl) (r4 trivial)) (r1 ?_)))
 exact jT ((count_New p0.W p0.K p0.Cap p1).2,(api_Recent.mk (0:Int) (0:Int) (0:Int) ([]:List api_Item)),(count_New p0.W p0.K p0.Cap p1).1,(api_Sum.mk (0:Int) (0:Int) (0:Int) (0:Int) (0:Int) ([]:List api_Bucket)),(api_Smooth.mk (0:Int) (0:Int) (0:Int) (0:Int) (0:Int) (0:Int) ([]:List api_Mark)),(api_Spread.mk (0:Int) (0:Int) (0:Int) (0:Int) (0:Int) ([]:List api_Mark)),(api_Poly.mk (0:Int) (0:Int) (0:Int) ([]:List api_Wide)),(0:Int),([]:List Int),(api_Extreme.mk false (0:Int) (0:Int) (0:Int) ([]:List api_Item)),([]:List api_Chain),(api_Summary.mk (0:Int) (0:Int) (0:Int) ([]:List api_Tuple)),(api_Quantile.mk (0:Int) (0:Int) (0:Int) (0:Int) ([]:List api_Block))) (An h (r64 (fr (r32 (r8 trivial)))))
 refine eN (eN (cD h (fun g5 h=> ?_) (fun g5 h=> ?_)))
 refine eN (cK (An (cW (c_sum_New' p0.W p0.K p0.Cap p0.Max p1 _ rfl) (r5 trivial)) (r1 ?_)))
 exact jT ((sum_New p0.W p0.K p0.Cap p0.Max p1).2,(api_Recent.mk (0:Int) (0:Int) (0:Int) ([]:List api_Item)),(api_Count.mk (0:Int) (0:Int) (0:Int) (0:Int) ([]:List api_Bucket)),(sum_New p0.W p0.K p0.Cap p0.Max p1).1,(api_Smooth.mk (0:Int) (0:Int) (0:Int) (0:Int) (0:Int) (0:Int) ([]:List api_Mark)),(api_Spread.mk (0:Int) (0:Int) (0:Int) (0:Int) (0:Int) ([]:List api_Mark)),(api_Poly.mk (0:Int) (0:Int) (0:Int) ([]:List api_Wide)),(0:Int),([]:List Int),(api_Extreme.mk false (0:Int) (0:Int) (0:Int) ([]:List api_Item)),([]:List api_Chain),(api_Summary.mk (0:Int) (0:Int) (0:Int) ([]:List api_Tuple)),(api_Quantile.mk (0:Int) (0:Int) (0:Int) (0:Int) ([]:List api_Block))) (An h (r64 (r6 (fr (r32 (r2 trivial))))))
 refine eN (eN (cD h (fun g6 h=> ?_) (fun g6 h=> ?_)))
 refine eN (cK (An (cW (c_smooth_New' p0.Agg p0.W p0.K p0.Cap p1 _ rfl) (r5 trivial)) (r1 ?_)))
 exact jT ((smooth_New p0.Agg p0.W p0.K p0.Cap p1).2,(api_Recent.mk (0:Int) (0:Int) (0:Int) ([]:List api_Item)),(api_Count.mk (0:Int) (0:Int) (0:Int) (0:Int) ([]:List api_Bucket)),(api_Sum.mk (0:Int) (0:Int) (0:Int) (0:Int) (0:Int) ([]:List api_Bucket)),(smooth_New p0.Agg p0.W p0.K p0.Cap p1).1,(api_Spread.mk (0:Int) (0:Int) (0:Int) (0:Int) (0:Int) ([]:List api_Mark)),(api_Poly.mk (0:Int) (0:Int) (0:Int) ([]:List api_Wide)),(0:Int),([]:List Int),(api_Extreme.mk false (0:Int) (0:Int) (0:Int) ([]:List api_Item)),([]:List api_Chain),(api_Summary.mk (0:Int) (0:Int) (0:Int) ([]:List api_Tuple)),(api_Quantile.mk (0:Int) (0:Int) (0:Int) (0:Int) ([]:List api_Block))) (An h (r64 (r12 (r1 (fr (r24 (r3 trivial)))))))
 refine eN (eN (cD h (fun g7 h=> ?_) (fun g7 h=> ?_)))
 refine eN (cK (An (cW (c_spread_New' p0.W p0.K p0.Cap p1 _ rfl) (r4 trivial)) (r1 ?_)))
 exact jT ((spread_New p0.W p0.K p0.Cap p1).2,(api_Recent.mk (0:Int) (0:Int) (0:Int) ([]:List api_Item)),(api_Count.mk (0:Int) (0:Int) (0:Int) (0:Int) ([]:List api_Bucket)),(api_Sum.mk (0:Int) (0:Int) (0:Int) (0:Int) (0:Int) ([]:List api_Bucket)),(api_Smooth.mk (0:Int) (0:Int) (0:Int) (0:Int) (0:Int) (0:Int) ([]:List api_Mark)),(spread_New p0.W p0.K p0.Cap p1).1,(api_Poly.mk (0:Int) (0:Int) (0:Int) ([]:List api_Wide)),(0:Int),([]:List Int),(api_Extreme.mk false (0:Int) (0:Int) (0:Int) ([]:List api_Item)),([]:List api_Chain),(api_Summary.mk (0:Int) (0:Int) (0:Int) ([]:List api_Tuple)),(api_Quantile.mk (0:Int) (0:Int) (0:Int) (0:Int) ([]:List api_Block))) (An h (r64 (r16 (r3 (fr (r16 (r5 trivial)))))))
 refine eN (eN (cD h (fun g8 h=> ?_) (fun g8 h=> ?_)))
 refine eN ?_
 obtain ⟨k,s,h⟩:=bS h
 refine cK (An (cW (c_poly_New p0.P p1 k s) (r2 trivial)) (r1 ?_))
 exact jT (k.2,(api_Recent.mk (0:Int) (0:Int) (0:Int) ([]:List api_Item)),(api_Count.mk (0:Int) (0:Int) (0:Int) (0:Int) ([]:List api_Bucket)),(api_Sum.mk (0:Int) (0:Int) (0:Int) (0:Int) (0:Int) ([]:List api_Bucket)),(api_Smooth.mk (0:Int) (0:Int) (0:Int) (0:Int) (0:Int) (0:Int) ([]:List api_Mark)),(api_Spread.mk (0:Int) (0:Int) (0:Int) (0:Int) (0:Int) ([]:List api_Mark)),k.1,(0:Int),([]:List Int),(api_Extreme.mk false (0:Int) (0:Int) (0:Int) ([]:List api_Item)),([]:List api_Chain),(api_Summary.mk (0:Int) (0:Int) (0:Int) ([]:List api_Tuple)),(api_Quantile.mk (0:Int) (0:Int) (0:Int) (0:Int) ([]:List api_Block))) (An h (r64 (r16 (r7 (fr (r16 (r1 trivial)))))))
 refine eN (eN (cD h (fun g9 h=> ?_) (fun g9 h=> ?_)))
 refine eN ?_
 obtain ⟨a,t,h⟩:=bS h
 refine cK (An (cW (c_halve_New p0.W p1 a t) (r2 trivial)) (r1 ?_))
 exact jT (a.2,(api_Recent.mk (0:Int) (0:Int) (0:Int) ([]:List api_Item)),(api_Count.mk (0:Int) (0:Int) (0:Int) (0:Int) ([]:List api_Bucket)),(api_Sum.mk (0:Int) (0:Int) (0:Int) (0:Int) (0:Int) ([]:List api_Bucket)),(api_Smooth.mk (0:Int) (0:Int) (0:Int) (0:Int) (0:Int) (0:Int) ([]:List api_Mark)),(api_Spread.mk (0:Int) (0:Int) (0:Int) (0:Int) (0:Int) ([]:List api_Mark)),(api_Poly.mk (0:Int) (0:Int) (0:Int) ([]:List api_Wide)),a.1.Now,a.1.Sums,(api_Extreme.mk false (0:Int) (0:Int) (0:Int) ([]:List api_Item)),([]:List api_Chain),(api_Summary.mk (0:Int) (0:Int) (0:Int) ([]:List api_Tuple)),(api_Quantile.mk (0:Int) (0:Int) (0:Int) (0:Int) ([]:List api_Block))) (An h (r64 (r24 (r1 (fr (r12 (r3 trivial)))))))
 refine eN (eN (cD h (fun g10 h=> ?_) (fun g10 h=> ?_)))
 refine eN (cK (An (cW (c_extreme_New' (p0.Max==(1:Int)) p0.W p0.Cap p1 _ rfl) (r4 trivial)) (r1 ?_)))
 exact jT ((extreme_New (p0.Max==(1:Int)) p0.W p0.Cap p1).2,(api_Recent.mk (0:Int) (0:Int) (0:Int) ([]:List api_Item)),(api_Count.mk (0:Int) (0:Int) (0:Int) (0:Int) ([]:List api_Bucket)),(api_Sum.mk (0:Int) (0:Int) (0:Int) (0:Int) (0:Int) ([]:List api_Bucket)),(api_Smooth.mk (0:Int) (0:Int) (0:Int) (0:Int) (0:Int) (0:Int) ([]:List api_Mark)),(api_Spread.mk (0:Int) (0:Int) (0:Int) (0:Int) (0:Int) ([]:List api_Mark)),(api_Poly.mk (0:Int) (0:Int) (0:Int) ([]:List api_Wide)),(0:Int),([]:List Int),(extreme_New (p0.Max==(1:Int)) p0.W p0.Cap p1).1,([]:List api_Chain),(api_Summary.mk (0:Int) (0:Int) (0:Int) ([]:List api_Tuple)),(api_Quantile.mk (0:Int) (0:Int) (0:Int) (0:Int) ([]:List api_Block))) (An h (r64 (r24 (r6 (fr (r8 (r2 trivial)))))))
 refine eN (eN (cD h (fun g11 h=> ?_) (fun g11 h=> ?_)))
 refine eN ?_
 obtain ⟨l,u,h⟩:=bS h
 refine cK (An (cW (c_sample_New p0.Chains p0.W p0.Cap l u) (r3 trivial)) (r1 ?_))
 exact jT (l.2,(api_Recent.mk (0:Int) (0:Int) (0:Int) ([]:List api_Item)),(api_Count.mk (0:Int) (0:Int) (0:Int) (0:Int) ([]:List api_Bucket)),(api_Sum.mk (0:Int) (0:Int) (0:Int) (0:Int) (0:Int) ([]:List api_Bucket)),(api_Smooth.mk (0:Int) (0:Int) (0:Int) (0:Int) (0:Int) (0:Int) ([]:List api_Mark)),(api_Spread.mk (0:Int) (0:Int) (0:Int) (0:Int) (0:Int) ([]:List api_Mark)),(api_Poly.mk (0:Int) (0:Int) (0:Int) ([]:List api_Wide)),(0:Int),([]:List Int),(api_Extreme.mk false (0:Int) (0:Int) (0:Int) ([]:List api_Item)),l.1.Chains,(api_Summary.mk (0:Int) (0:Int) (0:Int) ([]:List api_Tuple)),(api_Quantile.mk (0:Int) (0:Int) (0:Int) (0:Int) ([]:List api_Block))) (An h (r64 (r24 (r7 (fr (r8 (r1 trivial)))))))
 refine eN (eN (cD h (fun g12 h=> ?_) (fun g12 h=> ?_)))
 refine eN (cK (An (cW (c_summary_New' p0.K p0.Cap _ rfl) (r2 trivial)) (r1 ?_)))
 exact jT ((summary_New p0.K p0.Cap).2,(api_Recent.mk (0:Int) (0:Int) (0:Int) ([]:List api_Item)),(api_Count.mk (0:Int) (0:Int) (0:Int) (0:Int) ([]:List api_Bucket)),(api_Sum.mk (0:Int) (0:Int) (0:Int) (0:Int) (0:Int) ([]:List api_Bucket)),(api_Smooth.mk (0:Int) (0:Int) (0:Int) (0:Int) (0:Int) (0:Int) ([]:List api_Mark)),(api_Spread.mk (0:Int) (0:Int) (0:Int) (0:Int) (0:Int) ([]:List api_Mark)),(api_Poly.mk (0:Int) (0:Int) (0:Int) ([]:List api_Wide)),(0:Int),([]:List Int),(api_Extreme.mk false (0:Int) (0:Int) (0:Int) ([]:List api_Item)),([]:List api_Chain),(summary_New p0.K p0.Cap).1,(api_Quantile.mk (0:Int) (0:Int) (0:Int) (0:Int) ([]:List api_Block))) (An h (r64 (r32 (r3 (fr (r5 trivial))))))
 refine eN (eN (cD h (fun g13 h=> ?_) (fun g13 h=> ?_)))
 refine eN (cK (An (cW (c_quantile_New' p0.W p0.K p0.Cap p1 _ rfl) (r4 trivial)) (r1 ?_)))
 exact jT ((quantile_New p0.W p0.K p0.Cap p1).2,(api_Recent.mk (0:Int) (0:Int) (0:Int) ([]:List api_Item)),(api_Count.mk (0:Int) (0:Int) (0:Int) (0:Int) ([]:List api_Bucket)),(api_Sum.mk (0:Int) (0:Int) (0:Int) (0:Int) (0:Int) ([]:List api_Bucket)),(api_Smooth.mk (0:Int) (0:Int) (0:Int) (0:Int) (0:Int) (0:Int) ([]:List api_Mark)),(api_Spread.mk (0:Int) (0:Int) (0:Int) (0:Int) (0:Int) ([]:List api_Mark)),(api_Poly.mk (0:Int) (0:Int) (0:Int) ([]:List api_Wide)),(0:Int),([]:List Int),(api_Extreme.mk false (0:Int) (0:Int) (0:Int) ([]:List api_Item)),([]:List api_Chain),(api_Summary.mk (0:Int) (0:Int) (0:Int) ([]:List api_Tuple)),(quantile_New p0.W p0.K p0.Cap p1).1) (An h (r64 (r32 (r8 (fr trivial)))))
 exact jT ((0:Int),(api_Recent.mk (0:Int) (0:Int) (0:Int) ([]:List api_Item)),(api_Count.mk (0:Int) (0:Int) (0:Int) (0:Int) ([]:List api_Bucket)),(api_Sum.mk (0:Int) (0:Int) (0:Int) (0:Int) (0:Int) ([]:List api_Bucket)),(api_Smooth.mk (0:Int) (0:Int) (0:Int) (0:Int) (0:Int) (0:Int) ([]:List api_Mark)),(api_Spread.mk (0:Int) (0:Int) (0:Int) (0:Int) (0:Int) ([]:List api_Mark)),(api_Poly.mk (0:Int) (0:Int) (0:Int) ([]:List api_Wide)),(0:Int),([]:List Int),(api_Extreme.mk false (0:Int) (0:Int) (0:Int) ([]:List api_Item)),([]:List api_Chain),(api_Summary.mk (0:Int) (0:Int) (0:Int) ([]:List api_Tuple)),(api_Quantile.mk (0:Int) (0:Int) (0:Int) (0:Int) ([]:List api_Block))) (An h (r64 (r32 (r8 (r1 trivial)))))
 clear h
 refine fun q h=> ?_
 obtain ⟨v,m,b,c,d,e,f,n,o,g,p,i,j⟩:=q
 replace h:synopsis_New_j4 p0 v m b c d e f n o g p i j=some r:=h
 delta synopsis_New_j4 at h
 refine eN (cD h (fun g14 h=> ?_) (fun g14 h=> ?_))
 first|cases h|rw [←oJ h]
 exact eN (r48 (r8 (r2 trivial)))
 first|cases h|rw [←oJ h]
 exact eN (r8 (r3 (fr (r4 (fr (r5 (fr (r6 (fr (r5 (fr (r3 (fr (r1 (fr (r4 (fr (fr (r3 (fr (r4 (fr (r1 trivial)))))))))))))))))))))))
theorem c_exact_tick' (p0:Int) (r:Bool) (h:exact_tick p0=r):Contract Tryz.prog 310 [iI p0] [] (.sb r) []:=by
 refine C0 Tryz.func310 Tryz.call310 1 ?_
 delta exact_tick at h
 refine eN (eN (eN (An (fun g1=> ?_) (fun g1=> ?_))))
 cases h
 exact (An (Eq.symm (aR g1 rfl)) trivial)
 cases h
 exact (An (Eq.symm (aL g1)) trivial)
theorem c_exact_Valid (p0:(List api_Item)) (p1:Int) (r:Bool) (h:exact_Valid p0 p1=some r):Contract Tryz.prog 242 [lF 2 (List.map enc_api_Item p0),iI p1] [] (.sb r) []:=by
 refine C0 Tryz.func242 Tryz.call242 1 ?_
 delta exact_Valid at h
 refine eN (eN (cK (An (cW (c_exact_tick' p1 _ rfl) (r1 trivial)) (r1 ?_))))
 refine cD h (fun g1 h=> ?_) (fun g1 h=> ?_)
 first|cases h|rw [←oJ h]
 exact eN (r1 trivial)
 refine eN (eX [iI (p0.length:Int)] (An (lenS enc_api_Item p0) ?_))
 replace h:exact_Valid_l3 p0 p1 (0:Int)=some r:=h
 delta exact_Valid_l3 at h
 obtain ⟨n1,h⟩:=loopS h
 refine eX (Sum.inl ⟨Int×Nat,fun q=> [tM 0 (lF 2 (List.map enc_api_Item p0)),tM 1 (iI p1),tM 10 (lF 2 (List.map enc_api_Item p0)),tM 11 (iI (p0.length:Int)),tM 12 (iI q.1)],fun q=>loopN (fun (s:Int)=>exact_Valid_l3s p0 p1 s) q.2 q.1=some r,fun q=>q.2⟩) (An (eX [] (eX [] (eX ((0:Int),n1) (An h (r1 (fr (r1 (fr (r2 trivial))))))))) ?_)
 clear h
 refine fun q h=> ?_
 obtain ⟨b,n1⟩:=q
 obtain ⟨m1,x1,hm1,h,hl1,hr1⟩:=loopN_step h
 replace hm1:n1=m1+1:=hm1
 subst hm1
 replace h:exact_Valid_l3s p0 p1 b=some x1:=h
 delta exact_Valid_l3s at h
 refine eN (cD h (fun g2 h=> ?_) (fun g2 h=> ?_))
 refine eN ?_
 obtain ⟨a,e,h⟩:=bS h
 refine eX [iI a.T,iI a.V] (An (idx_map enc_api_Item e) ?_)
 refine eN ?_
 obtain ⟨c,d,h⟩:=bS h
 refine eX (some (⟨Unit,fun _=> [tM 0 (lF 2 (List.map enc_api_Item p0)),tM 1 (iI p1),tM 10 (lF 2 (List.map enc_api_Item p0)),tM 11 (iI (p0.length:Int)),tM 12 (iI b),tM 40 (.sb (((decide (a.T<(0:Int)))||(decide (a.T>p1)))||((decide (b>(0:Int)))&&(decide (c.T>a.T)))))],fun _=>True,fun _=>0⟩,1000000)) (An ?_ (fun _ _=> ?_))
 refine An (fun g3=> ?_) (fun g3=> ?_)
 refine An (fun g4=> ?_) (fun g4=> ?_)
 refine An (fun g5=> ?_) (fun g5=> ?_)
 refine eX [iI c.T,iI c.V] (An (idx_map enc_api_Item (gdT (aR (nE (oR g3 g4)) g5) d)) ?_)
 exact jU (An trivial (r1 (fr (r1 (fr (r2 (An (Eq.symm (oR (oR g3 g4) (aR g5 rfl))) trivial)))))))
 exact jU (An trivial (r1 (fr (r1 (fr (r2 (An (Eq.symm (oR (oR g3 g4) (aL g5))) trivial)))))))
 exact jU (An trivial (r1 (fr (r1 (fr (r2 (An (Eq.symm (oL (oR g3 g4))) trivial)))))))
 exact jU (An trivial (r1 (fr (r1 (fr (r2 (An (Eq.symm (oL (oL g3))) trivial)))))))
 refine cD h (fun g6 h=> ?_) (fun g6 h=> ?_)
 cases retS h hr1
 exact eN (r1 trivial)
 exact eN (jT (_,m1) (An (hl1 _ (oJ h).symm) (An (jL m1) (r1 (fr (r1 (fr (r2 trivial))))))))
 replace h:=popS h hr1
 first|cases h|rw [←oJ h]
 exact eN (r1 trivial)
theorem c_clock_tick' (p0:Int) (r:Bool) (h:clock_tick p0=r):Contract Tryz.prog 243 [iI p0] [] (.sb r) []:=by
 refine C0 Tryz.func243 Tryz.call243 1 ?_
 delta clock_tick at h
 refine eN (eN (eN (An (fun g1=> ?_) (fun g1=> ?_))))
 cases h
 exact (An (Eq.symm (aR g1 rfl)) trivial)
 cases h
 exact (An (Eq.symm (aL g1)) trivial)
theorem c_clock_First' (p0:Int) (p1:Int) (r:Int) (h:clock_First p0 p1=r):Contract Tryz.prog 131 [iI p0,iI p1] [] (iI r) []:=by
 refine C0 Tryz.func131 Tryz.call131 1 ?_
 delta clock_First at h
 refine eN (eN (eN (cK (An (cW (c_clock_tick' p0 _ rfl) (r1 trivial)) (r1 ?_)))))
 refine An (fun g1=> ?_) (fun g1=> ?_)
 refine An (fun g2=> ?_) (fun g2=> ?_)
 refine An (fun g3=> ?_) (fun g3=> ?_)
 replace h:=cT (oR (oR g1 g2) g3) h
 cases h
 exact eN (r1 trivial)
 replace h:=cF (oR (oR g1 g2) g3) h
 cases h
 exact eN (r1 trivial)
 replace h:=cT (oL (oR g1 g2)) h
 cases h
 exact eN (r1 trivial)
 replace h:=cT (oL (oL g1)) h
 cases h
 exact eN (r1 trivial)
theorem c_clock_Live' (p0:Int) (p1:Int) (p2:Int) (r:Bool) (h:clock_Live p0 p1 p2=r):Contract Tryz.prog 139 [iI p0,iI p1,iI p2] [] (.sb r) []:=by
 refine C0 Tryz.func139 Tryz.call139 1 ?_
 delta clock_Live at h
 refine eN (eN (cK (An (cW (c_clock_First' p0 p1 _ rfl) (r2 trivial)) (r1 ?_))))
 refine eN (eN (An (fun g1=> ?_) (fun g1=> ?_)))
 refine cK (An (cW (c_clock_tick' p2 _ rfl) (r1 trivial)) (r1 ?_))
 refine An (fun g2=> ?_) (fun g2=> ?_)
 refine An (fun g3=> ?_) (fun g3=> ?_)
 cases h
 exact (An (Eq.symm (aR (aR (aR g1 g2) g3) rfl)) trivial)
 cases h
 exact (An (Eq.symm (aL (aR (aR g1 g2) g3))) trivial)
 cases h
 exact (An (Eq.symm (aL (aL (aR g1 g2)))) trivial)
 cases h
 exact (An (Eq.symm (aL (aL (aL g1)))) trivial)
theorem c_recent_value' (p0:Int) (r:Bool) (h:recent_value p0=r):Contract Tryz.prog 186 [iI p0] [] (.sb r) []:=by
 refine C0 Tryz.func186 Tryz.call186 1 ?_
 delta recent_value at h
 refine eN (eN (eN (An (fun g1=> ?_) (fun g1=> ?_))))
 cases h
 exact (An (Eq.symm (aR g1 rfl)) trivial)
 cases h
 exact (An (Eq.symm (aL g1)) trivial)
theorem c_recent_Validate (p0:api_Recent) (r:Int) (h:recent_Validate p0=some r):Contract Tryz.prog 126 [.agg (enc_api_Recent p0)] [] (iI r) []:=by
 refine C0 Tryz.func126 Tryz.call126 1 ?_
 delta recent_Validate at h
 refine eN (eN ?_)
 obtain ⟨b,c,h⟩:=bS h
 refine eN (cK (An (cW (c_recent_good' p0.W p0.Cap p0.Now _ rfl) (r3 trivial)) (r1 ?_)))
 refine An (fun g1=> ?_) (fun g1=> ?_)
 refine eX [iI (p0.Items.length:Int)] (An (lenS enc_api_Item p0.Items) ?_)
 refine An (fun g2=> ?_) (fun g2=> ?_)
 refine cK (An (cW (c_exact_Valid p0.Items p0.Now b (gdT (nE (oR g1 g2)) c)) (fr (r1 trivial))) (r1 ?_))
 refine An (fun g3=> ?_) (fun g3=> ?_)
 replace h:=cT (oR (oR g1 g2) g3) h
 first|cases h|rw [←oJ h]
 exact eN (r1 trivial)
 replace h:=cF (oR (oR g1 g2) g3) h
 refine eN (eX [iI (p0.Items.length:Int)] (An (lenS enc_api_Item p0.Items) ?_))
 replace h:recent_Validate_l3 p0 (0:Int)=some r:=h
 delta recent_Validate_l3 at h
 obtain ⟨n1,h⟩:=loopS h
 refine eX (Sum.inl ⟨Int×Nat,fun q=> [tM 1 (.ptr 1 0),tM 30 (lF 2 (List.map enc_api_Item p0.Items)),tM 31 (iI (p0.Items.length:Int)),tM 32 (iI q.1),tB 1 (enc_api_Recent p0)],fun q=>loopN (fun (s:Int)=>recent_Validate_l3s p0 s) q.2 q.1=some r,fun q=>q.2⟩) (An (eX [] (eX [] (eX ((0:Int),n1) (An h (r1 (fr (r5 (fr trivial)))))))) ?_)
 clear h
 refine fun q h=> ?_
 obtain ⟨d,n1⟩:=q
 obtain ⟨m1,x1,hm1,h,hl1,hr1⟩:=loopN_step h
 replace hm1:n1=m1+1:=hm1
 subst hm1
 replace h:recent_Validate_l3s p0 d=some x1:=h
 delta recent_Validate_l3s at h
 refine eN (cD h (fun g4 h=> ?_) (fun g4 h=> ?_))
 refine eN ?_
 obtain ⟨a,e,h⟩:=bS h
 refine eX [iI a.T,iI a.V] (An (idx_map enc_api_Item e) ?_)
 refine eN (eN (cK (An (cW (c_clock_Live' p0.Now p0.W a.T _ rfl) (r3 trivial)) (r1 ?_))))
 refine An (fun g5=> ?_) (fun g5=> ?_)
 refine cK (An (cW (c_recent_value' a.V _ rfl) (r1 trivial)) (r1 ?_))
 refine An (fun g6=> ?_) (fun g6=> ?_)
 replace h:=cT (oR g5 g6) h
 cases retS h hr1
 exact eN (r1 trivial)
 replace h:=cF (oR g5 g6) h
 exact eN (jT (_,m1) (An (hl1 _ (oJ h).symm) (An (jL m1) (r1 (fr (r5 (fr trivial)))))))
 replace h:=cT (oL g5) h
 cases retS h hr1
 exact eN (r1 trivial)
 replace h:=popS h hr1
 first|cases h|rw [←oJ h]
 exact eN (r1 trivial)
 replace h:=cT (oL (oR g1 g2)) h
 first|cases h|rw [←oJ h]
 exact eN (r1 trivial)
 replace h:=cT (oL (oL g1)) h
 first|cases h|rw [←oJ h]
 exact eN (r1 trivial)
theorem c_buckets_tick' (p0:Int) (r:Bool) (h:buckets_tick p0=r):Contract Tryz.prog 311 [iI p0] [] (.sb r) []:=by
 refine C0 Tryz.func311 Tryz.call311 1 ?_
 delta buckets_tick at h
 refine eN (eN (eN (An (fun g1=> ?_) (fun g1=> ?_))))
 cases h
 exact (An (Eq.symm (aR g1 rfl)) trivial)
 cases h
 exact (An (Eq.symm (aL g1)) trivial)
theorem c_buckets_level' (p0:Int) (r:Bool) (h:buckets_level p0=r):Contract Tryz.prog 278 [iI p0] [] (.sb r) []:=by
 refine C0 Tryz.func278 Tryz.call278 1 ?_
 delta buckets_level at h
 refine eN (eN (eN (An (fun g1=> ?_) (fun g1=> ?_))))
 cases h
 exact (An (Eq.symm (aR g1 rfl)) trivial)
 cases h
 exact (An (Eq.symm (aL g1)) trivial)
theorem c_buckets_Valid (p0:(List api_Bucket)) (p1:Int) (r:Bool) (h:buckets_Valid p0 p1=some r):Contract Tryz.prog 244 [lF 2 (List.map enc_api_Bucket p0),iI p1] [] (.sb r) []:=by
 refine C0 Tryz.func244 Tryz.call244 1 ?_
 delta buckets_Valid at h
 refine eN (eN (eN (An (fun g1=> ?_) (fun g1=> ?_))))
 refine An (fun g2=> ?_) (fun g2=> ?_)
 replace h:=cT (oR g1 g2) h
 first|cases h|rw [←oJ h]
 exact eN (r1 trivial)
 replace h:=cF (oR g1 g2) h
 refine eN (eN (eX [iI (p0.length:Int)] (An (lenS enc_api_Bucket p0) ?_)))
 replace h:buckets_Valid_l3 p0 p1 (0:Int) (0:Int) (0:Int) (0:Int) (0:Int) (0:Int) (0:Int) (0:Int) (0:Int) (0:Int) (0:Int) (0:Int) (0:Int) (0:Int) (0:Int) (0:Int) (0:Int) (0:Int) (0:Int) (0:Int) (0:Int) (0:Int) (0:Int) (0:Int) (0:Int) (0:Int) (0:Int) (0:Int) (0:Int) (0:Int) (0:Int) (0:Int)=some r:=h
 delta buckets_Valid_l3 at h
 obtain ⟨n1,h⟩:=loopS h
 refine eX (Sum.inl ⟨(Int×Int×Int×Int×Int×Int×Int×Int×Int×Int×Int×Int×Int×Int×Int×Int×Int×Int×Int×Int×Int×Int×Int×Int×Int×Int×Int×Int×Int×Int×Int×Int)×Nat,fun q=> [tM 0 (lF 2 (List.map enc_api_Bucket p0)),tM 1 (iI p1),tM 5 (.ptr 513 0),tM 16 (lF 2 (List.map enc_api_Bucket p0)),tM 17 (iI (p0.length:Int)),tM 18 (iI q.1.1),tB 513 [iI q.1.2.1,iI q.1.2.2.1,iI q.1.2.2.2.1,iI q.1.2.2.2.2.1,iI q.1.2.2.2.2.2.1,iI q.1.2.2.2.2.2.2.1,iI q.1.2.2.2.2.2.2.2.1,iI q.1.2.2.2.2.2.2.2.2.1,iI q.1.2.2.2.2.2.2.2.2.2.1,iI q.1.2.2.2.2.2.2.2.2.2.2.1,iI q.1.2.2.2.2.2.2.2.2.2.2.2.1,iI q.1.2.2.2.2.2.2.2.2.2.2.2.2.1,iI q.1.2.2.2.2.2.2.2.2.2.2.2.2.2.1,iI q.1.2.2.2.2.2.2.2.2.2.2.2.2.2.2.1,iI q.1.2.2.2.2.2.2.2.2.2.2.2.2.2.2.2.1,iI q.1.2.2.2.2.2.2.2.2.2.2.2.2.2.2.2.2.1,iI q.1.2.2.2.2.2.2.2.2.2.2.2.2.2.2.2.2.2.1,iI q.1.2.2.2.2.2.2.2.2.2.2.2.2.2.2.2.2.2.2.1,iI q.1.2.2.2.2.2.2.2.2.2.2.2.2.2.2.2.2.2.2.2.1,iI q.1.2.2.2.2.2.2.2.2.2.2.2.2.2.2.2.2.2.2.2.2.1,iI q.1.2.2.2.2.2.2.2.2.2.2.2.2.2.2.2.2.2.2.2.2.2.1,iI q.1.2.2.2.2.2.2.2.2.2.2.2.2.2.2.2.2.2.2.2.2.2.2.1,iI q.1.2.2.2.2.2.2.2.2.2.2.2.2.2.2.2.2.2.2.2.2.2.2.2.1,iI q.1.2.2.2.2.2.2.2.2.2.2.2.2.2.2.2.2.2.2.2.2.2.2.2.2.1,iI q.1.2.2.2.2.2.2.2.2.2.2.2.2.2.2.2.2.2.2.2.2.2.2.2.2.2.1,iI q.1.2.2.2.2.2.2.2.2.2.2.2.2.2.2.2.2.2.2.2.2.2.2.2.2.2.2.1,iI q.1.2.2.2.2.2.2.2.2.2.2.2.2.2.2.2.2.2.2.2.2.2.2.2.2.2.2.2.1,iI q.1.2.2.2.2.2.2.2.2.2.2.2.2.2.2.2.2.2.2.2.2.2.2.2.2.2.2.2.2.1,iI q.1.2.2.2.2.2.2.2.2.2.2.2.2.2.2.2.2.2.2.2.2.2.2.2.2.2.2.2.2.2.1,iI q.1.2.2.2.2.2.2.2.2.2.2.2.2.2.2.2.2.2.2.2.2.2.2.2.2.2.2.2.2.2.2.1,iI q.1.2.2.2.2.2.2.2.2.2.2.2.2.2.2.2.2.2.2.2.2.2.2.2.2.2.2.2.2.2.2.2]],fun q=>loopN (fun (s:(Int×Int×Int×Int×Int×Int×Int×Int×Int×Int×Int×Int×Int×Int×Int×Int×Int×Int×Int×Int×Int×Int×Int×Int×Int×Int×Int×Int×Int×Int×Int×Int))=>buckets_Valid_l3s p0 p1 s.1 s.2.1 s.2.2.1 s.2.2.2.1 s.2.2.2.2.1 s.2.2.2.2.2.1 s.2.2.2.2.2.2.1 s.2.2.2.2.2.2.2.1 s.2.2.2.2.2.2.2.2.1 s.2.2.2.2.2.2.2.2.2.1 s.2.2.2.2.2.2.2.2.2.2.1 s.2.2.2.2.2.2.2.2.2.2.2.1 s.2.2.2.2.2.2.2.2.2.2.2.2.1 s.2.2.2.2.2.2.2.2.2.2.2.2.2.1 s.2.2.2.2.2.2.2.2.2.2.2.2.2.2.1 s.2.2.2.2.2.2.2.2.2.2.2.2.2.2.2.1 s.2.2.2.2.2.2.2.2.2.2.2.2.2.2.2.2.1 s.2.2.2.2.2.2.2.2.2.2.2.2.2.2.2.2.2.1 s.2.2.2.2.2.2.2.2.2.2.2.2.2.2.2.2.2.2.1 s.2.2.2.2.2.2.2.2.2.2.2.2.2.2.2.2.2.2.2.1 s.2.2.2.2.2.2.2.2.2.2.2.2.2.2.2.2.2.2.2.2.1 s.2.2.2.2.2.2.2.2.2.2.2.2.2.2.2.2.2.2.2.2.2.1 s.2.2.2.2.2.2.2.2.2.2.2.2.2.2.2.2.2.2.2.2.2.2.1 s.2.2.2.2.2.2.2.2.2.2.2.2.2.2.2.2.2.2.2.2.2.2.2.1 s.2.2.2.2.2.2.2.2.2.2.2.2.2.2.2.2.2.2.2.2.2.2.2.2.1 s.2.2.2.2.2.2.2.2.2.2.2.2.2.2.2.2.2.2.2.2.2.2.2.2.2.1 s.2.2.2.2.2.2.2.2.2.2.2.2.2.2.2.2.2.2.2.2.2.2.2.2.2.2.1 s.2.2.2.2.2.2.2.2.2.2.2.2.2.2.2.2.2.2.2.2.2.2.2.2.2.2.2.1 s.2.2.2.2.2.2.2.2.2.2.2.2.2.2.2.2.2.2.2.2.2.2.2.2.2.2.2.2.1 s.2.2.2.2.2.2.2.2.2.2.2.2.2.2.2.2.2.2.2.2.2.2.2.2.2.2.2.2.2.1 s.2.2.2.2.2.2.2.2.2.2.2.2.2.2.2.2.2.2.2.2.2.2.2.2.2.2.2.2.2.2.1 s.2.2.2.2.2.2.2.2.2.2.2.2.2.2.2.2.2.2.2.2.2.2.2.2.2.2.2.2.2.2.2) q.2 q.1=some r,fun q=>q.2⟩) (An (eX [] (eX [] (eX (((0:Int),(0:Int),(0:Int),(0:Int),(0:Int),(0:Int),(0:Int),(0:Int),(0:Int),(0:Int),(0:Int),(0:Int),(0:Int),(0:Int),(0:Int),(0:Int),(0:Int),(0:Int),(0:Int),(0:Int),(0:Int),(0:Int),(0:Int),(0:Int),(0:Int),(0:Int),(0:Int),(0:Int),(0:Int),(0:Int),(0:Int),(0:Int)),n1) (An h (r1 (fr (r1 (fr (r32 (r1 trivial)))))))))) ?_)
 clear h
 refine fun q h=> ?_
 obtain ⟨⟨L,z,A,B,C,D,E,F,G,H,I,a,b,c,d,e,f,g,i,j,k,l,m,n,o,p,t,u,v,w,x,y⟩,n1⟩:=q
 obtain ⟨m1,x1,hm1,h,hl1,hr1⟩:=loopN_step h
 replace hm1:n1=m1+1:=hm1
 subst hm1
 replace h:buckets_Valid_l3s p0 p1 L z A B C D E F G H I a b c d e f g i j k l m n o p t u v w x y=some x1:=h
 delta buckets_Valid_l3s at h
 refine eN (cD h (fun g3 h=> ?_) (fun g3 h=> ?_))
 refine eN ?_
 obtain ⟨K,a3,h⟩:=bS h
 refine eX [iI K.T,iI K.Level] (An (idx_map enc_api_Bucket a3) ?_)
 refine eN (eN (cK (An (cW (c_buckets_tick' K.T _ rfl) (r1 trivial)) (r1 ?_))))
 refine An (fun g4=> ?_) (fun g4=> ?_)
 refine cK (An (cW (c_buckets_level' K.Level _ rfl) (r1 trivial)) (r1 ?_))
 refine An (fun g5=> ?_) (fun g5=> ?_)
 replace h:=cT (oR g4 g5) h
 cases retS h hr1
 exact eN (r1 trivial)
 replace h:=cF (oR g4 g5) h
 refine eN ?_
 obtain ⟨P,a4,h⟩:=bS h
 obtain ⟨M,U,h⟩:=bS h
 refine eX (some (⟨Unit,fun _=> [tM 0 (lF 2 (List.map enc_api_Bucket p0)),tM 1 (iI p1),tM 5 (.ptr 513 0),tM 7 (.ptr 1284 0),tM 16 (lF 2 (List.map enc_api_Bucket p0)),tM 17 (iI (p0.length:Int)),tM 18 (iI L),tM 56 (.sb ((decide (L>(0:Int)))&&((decide (P.T>K.T))||(decide (M.Level<K.Level))))),tB 513 [iI z,iI A,iI B,iI C,iI D,iI E,iI F,iI G,iI H,iI I,iI a,iI b,iI c,iI d,iI e,iI f,iI g,iI i,iI j,iI k,iI l,iI m,iI n,iI o,iI p,iI t,iI u,iI v,iI w,iI x,iI y],tB 1284 [iI K.T,iI K.Level]],fun _=>True,fun _=>0⟩,1000000)) (An ?_ (fun _ _=> ?_))
 refine An (fun g6=> ?_) (fun g6=> ?_)
 refine eX [iI P.T,iI P.Level] (An (idx_map enc_api_Bucket (gdT g6 a4)) ?_)
 refine An (fun g7=> ?_) (fun g7=> ?_)
 refine eX [iI M.T,iI M.Level] (An (idx_map enc_api_Bucket (gdT (aR g6 (nE g7)) U)) ?_)
 exact jU (An trivial (r1 (fr (r1 (fr (r2 (An (Eq.symm (aR g6 (oR g7 rfl))) (r32 (r1 trivial)))))))))
 exact jU (An trivial (r1 (fr (r1 (fr (r2 (An (Eq.symm (aR g6 (oL g7))) (r32 (r1 trivial)))))))))
 exact jU (An trivial (r1 (fr (r1 (fr (r2 (An (Eq.symm (aL g6)) (r32 (r1 trivial)))))))))
 refine cD h (fun g8 h=> ?_) (fun g8 h=> ?_)
 cases retS h hr1
 exact eN (r1 trivial)
 refine eN ?_
 obtain ⟨a6,V,h⟩:=bS h
 obtain ⟨W,X,h⟩:=bS h
 obtain ⟨a7,Y,h⟩:=bS h
 obtain ⟨a8,Z,h⟩:=bS h
 refine An (idx_lt (eI .u64) V) ?_
 refine eX [iI W] (An (idx_elt (eI .i64) X) ?_)
 refine An (idx_lt (eI .u64) Y) ?_
 refine An (idx_ltN (AV.int .u64) Z) ?_
 exact eN (jT (_,m1) (An (hl1 _ (oJ h).symm) (An (jL m1) (r1 (fr (r1 (fr (r32 (r1 trivial)))))))))
 replace h:=cT (oL g4) h
 cases retS h hr1
 exact eN (r1 trivial)
 replace h:=popS h hr1
 refine eN (eX [iI (p0.length:Int)] (An (lenS enc_api_Bucket p0) ?_))
 refine cD h (fun g9 h=> ?_) (fun g9 h=> ?_)
 first|cases h|rw [←oJ h]
 exact eN (r1 trivial)
 refine eN ?_
 obtain ⟨J,a0,h⟩:=bS h
 refine eX [iI J.T,iI J.Level] (An (idx_map enc_api_Bucket a0) ?_)
 refine eN ?_
 replace h:buckets_Valid_l10 p1 z A B C D E F G H I a b c d e f g i j k l m n o p t u v w x y J (0:Int)=some r:=h
 delta buckets_Valid_l10 at h
 obtain ⟨n1,h⟩:=loopS h
 refine eX (Sum.inl ⟨Int×Nat,fun q=> [tM 1 (iI p1),tM 5 (.ptr 513 0),tM 8 (iI J.Level),tM 9 (iI q.1),tB 513 [iI z,iI A,iI B,iI C,iI D,iI E,iI F,iI G,iI H,iI I,iI a,iI b,iI c,iI d,iI e,iI f,iI g,iI i,iI j,iI k,iI l,iI m,iI n,iI o,iI p,iI t,iI u,iI v,iI w,iI x,iI y]],fun q=>loopN (fun (s:Int)=>buckets_Valid_l10s p1 z A B C D E F G H I a b c d e f g i j k l m n o p t u v w x y J s) q.2 q.1=some r,fun q=>q.2⟩) (An (eX [] (eX [] (eX ((0:Int),n1) (An h (r32 (r3 trivial)))))) ?_)
 clear h
 refine fun q h=> ?_
 obtain ⟨N,n1⟩:=q
 obtain ⟨m1,x1,hm1,h,hl1,hr1⟩:=loopN_step h
 replace hm1:n1=m1+1:=hm1
 subst hm1
 replace h:buckets_Valid_l10s p1 z A B C D E F G H I a b c d e f g i j k l m n o p t u v w x y J N=some x1:=h
 delta buckets_Valid_l10s at h
 refine eN (cD h (fun g10 h=> ?_) (fun g10 h=> ?_))
 refine eN ?_
 obtain ⟨a9,a1,h⟩:=bS h
 obtain ⟨Q,a2,h⟩:=bS h
 obtain ⟨a5,R,h⟩:=bS h
 obtain ⟨O,S,h⟩:=bS h
 refine eX (some (⟨Unit,fun _=> [tM 1 (iI p1),tM 5 (.ptr 513 0),tM 8 (iI J.Level),tM 9 (iI N),tM 93 (.sb ((decide (Q>(w64 (p1+(1:Int)))))||((decide (N<J.Level))&&(decide (O<p1))))),tB 513 [iI z,iI A,iI B,iI C,iI D,iI E,iI F,iI G,iI H,iI I,iI a,iI b,iI c,iI d,iI e,iI f,iI g,iI i,iI j,iI k,iI l,iI m,iI n,iI o,iI p,iI t,iI u,iI v,iI w,iI x,iI y]],fun _=>True,fun _=>0⟩,1000000)) (An ?_ (fun _ _=> ?_))
 refine An (idx_lt (eI .u64) a1) ?_
 refine eX [iI Q] (An (idx_elt (eI .i64) a2) ?_)
 refine An (fun g11=> ?_) (fun g11=> ?_)
 refine An (fun g12=> ?_) (fun g12=> ?_)
 refine An (idx_lt (eI .u64) (gdT (aR (nE g11) g12) R)) ?_
 refine eX [iI O] (An (idx_elt (eI .i64) (gdT (aR (nE g11) g12) S)) ?_)
 exact jU (An trivial (r4 (An (Eq.symm (oR g11 (aR g12 rfl))) (r24 (r7 trivial)))))
 exact jU (An trivial (r4 (An (Eq.symm (oR g11 (aL g12))) (r24 (r7 trivial)))))
 exact jU (An trivial (r4 (An (Eq.symm (oL g11)) (r24 (r7 trivial)))))
 refine cD h (fun g13 h=> ?_) (fun g13 h=> ?_)
 cases retS h hr1
 exact eN (r1 trivial)
 exact eN (jT (_,m1) (An (hl1 _ (oJ h).symm) (An (jL m1) (r32 (r3 trivial)))))
 replace h:=popS h hr1
 first|cases h|rw [←oJ h]
 exact eN (r1 trivial)
 replace h:=cT (oL g1) h
 first|cases h|rw [←oJ h]
 exact eN (r1 trivial)
theorem c_buckets_Total (p0:(List api_Bucket)) (r:Int) (h:buckets_Total p0=some r):Contract Tryz.prog 187 [lF 2 (List.map enc_api_Bucket p0)] [] (iI r) []:=by
 refine C0 Tryz.func187 Tryz.call187 1 ?_
 delta buckets_Total at h
 refine eN (eN (eN (eX [iI (p0.length:Int)] (An (lenS enc_api_Bucket p0) ?_))))
 replace h:buckets_Total_l2 p0 (0:Int) (0:Int)=some r:=h
 delta buckets_Total_l2 at h
 obtain ⟨n1,h⟩:=loopS h
 refine eX (Sum.inl ⟨(Int×Int)×Nat,fun q=> [tM 3 (iI q.1.1),tM 6 (lF 2 (List.map enc_api_Bucket p0)),tM 7 (iI (p0.length:Int)),tM 8 (iI q.1.2)],fun q=>loopN (fun (s:(Int×Int))=>buckets_Total_l2s p0 s.1 s.2) q.2 q.1=some r,fun q=>q.2⟩) (An (eX [] (eX [] (eX (((0:Int),(0:Int)),n1) (An h (r2 (fr (r2 trivial))))))) ?_)
 clear h
 refine fun q h=> ?_
 obtain ⟨⟨b,c⟩,n1⟩:=q
 obtain ⟨m1,x1,hm1,h,hl1,hr1⟩:=loopN_step h
 replace hm1:n1=m1+1:=hm1
 subst hm1
 replace h:buckets_Total_l2s p0 b c=some x1:=h
 delta buckets_Total_l2s at h
 refine eN (cD h (fun g1 h=> ?_) (fun g1 h=> ?_))
 refine eN (eN ?_)
 obtain ⟨a,d,h⟩:=bS h
 refine eX [iI a.T,iI a.Level] (An (idx_map enc_api_Bucket d) ?_)
 refine eN (cK (An (cW (c_buckets_level' a.Level _ rfl) (r1 trivial)) (r1 ?_)))
 refine eN (cD h (fun g2 h=> ?_) (fun g2 h=> ?_))
 refine eN ?_
 obtain ⟨e,h⟩:=ckS h
 refine An (oD e) ?_
 exact eN (jT (_,m1) (An (hl1 _ (oJ h).symm) (An (jL m1) (r2 (fr (r2 trivial))))))
 exact eN (jT (_,m1) (An (hl1 _ (oJ h).symm) (An (jL m1) (r2 (fr (r2 trivial))))))
 replace h:=popS h hr1
 first|cases h|rw [←oJ h]
 exact eN (r1 trivial)
theorem c_count_Validate (p0:api_Count) (r:Int) (h:count_Validate p0=some r):Contract Tryz.prog 129 [.agg (enc_api_Count p0)] [] (iI r) []:=by
 refine C0 Tryz.func129 Tryz.call129 1 ?_
 delta count_Validate at h
 refine eN (eN ?_)
 obtain ⟨b,c,h⟩:=bS h
 obtain ⟨d,e,h⟩:=bS h
 refine eN (cK (An (cW (c_count_good' p0.W p0.K p0.Cap p0.Now _ rfl) (r4 trivial)) (r1 ?_)))
 refine An (fun g1=> ?_) (fun g1=> ?_)
 refine cK (An (cW (c_buckets_Valid p0.Buckets p0.K b (gdT (nE g1) c)) (fr (r1 trivial))) (r1 ?_))
 refine An (fun g2=> ?_) (fun g2=> ?_)
 refine cK (An (cW (c_buckets_Total p0.Buckets d (gdT (nE (oR g1 g2)) e)) (fr trivial)) (r1 ?_))
 refine An (fun g3=> ?_) (fun g3=> ?_)
 replace h:=cT (oR (oR g1 g2) g3) h
 first|cases h|rw [←oJ h]
 exact eN (r1 trivial)
 replace h:=cF (oR (oR g1 g2) g3) h
 refine eN (eX [iI (p0.Buckets.length:Int)] (An (lenS enc_api_Bucket p0.Buckets) ?_))
 replace h:count_Validate_l3 p0 (0:Int)=some r:=h
 delta count_Validate_l3 at h
 obtain ⟨n1,h⟩:=loopS h
 refine eX (Sum.inl ⟨Int×Nat,fun q=> [tM 1 (.ptr 1 0),tM 32 (lF 2 (List.map enc_api_Bucket p0.Buckets)),tM 33 (iI (p0.Buckets.length:Int)),tM 34 (iI q.1),tB 1 (enc_api_Count p0)],fun q=>loopN (fun (s:Int)=>count_Validate_l3s p0 s) q.2 q.1=some r,fun q=>q.2⟩) (An (eX [] (eX [] (eX ((0:Int),n1) (An h (r1 (fr (r6 (fr trivial)))))))) ?_)
 clear h
 refine fun q h=> ?_
 obtain ⟨f,n1⟩:=q
 obtain ⟨m1,x1,hm1,h,hl1,hr1⟩:=loopN_step h
 replace hm1:n1=m1+1:=hm1
 subst hm1
 replace h:count_Validate_l3s p0 f=some x1:=h
 delta count_Validate_l3s at h
 refine eN (cD h (fun g4 h=> ?_) (fun g4 h=> ?_))
 refine eN ?_
 obtain ⟨a,g,h⟩:=bS h
 refine eX [iI a.T,iI a.Level] (An (idx_map enc_api_Bucket g) ?_)
 refine eN (cK (An (cW (c_clock_Live' p0.Now p0.W a.T _ rfl) (r3 trivial)) (r1 ?_)))
 refine cD h (fun g5 h=> ?_) (fun g5 h=> ?_)
 cases retS h hr1
 exact eN (r1 trivial)
 exact eN (jT (_,m1) (An (hl1 _ (oJ h).symm) (An (jL m1) (r1 (fr (r6 (fr trivial)))))))
 replace h:=popS h hr1
 first|cases h|rw [←oJ h]
 exact eN (r1 trivial)
 replace h:=cT (oL (oR g1 g2)) h
 first|cases h|rw [←oJ h]
 exact eN (r1 trivial)
 replace h:=cT (oL (oL g1)) h
 first|cases h|rw [←oJ h]
 exact eN (r1 trivial)
theorem c_sum_Validate (p0:api_Sum) (r:Int) (h:sum_Validate p0=some r):Contract Tryz.prog 132 [.agg (enc_api_Sum p0)] [] (iI r) []:=by
 refine C0 Tryz.func132 Tryz.call132 1 ?_
 delta sum_Validate at h
 refine eN (eN ?_)
 obtain ⟨b,c,h⟩:=bS h
 obtain ⟨d,e,h⟩:=bS h
 refine eN (cK (An (cW (c_sum_good' p0.W p0.K p0.Cap p0.Max p0.Now _ rfl) (r5 trivial)) (r1 ?_)))
 refine An (fun g1=> ?_) (fun g1=> ?_)
 refine cK (An (cW (c_buckets_Valid p0.Buckets p0.K b (gdT (nE g1) c)) (fr (r1 trivial))) (r1 ?_))
 refine An (fun g2=> ?_) (fun g2=> ?_)
 refine cK (An (cW (c_buckets_Total p0.Buckets d (gdT (nE (oR g1 g2)) e)) (fr trivial)) (r1 ?_))
 refine An (fun g3=> ?_) (fun g3=> ?_)
 replace h:=cT (oR (oR g1 g2) g3) h
 first|cases h|rw [←oJ h]
 exact eN (r1 trivial)
 replace h:=cF (oR (oR g1 g2) g3) h
 refine eN (eX [iI (p0.Buckets.length:Int)] (An (lenS enc_api_Bucket p0.Buckets) ?_))
 replace h:sum_Validate_l3 p0 (0:Int)=some r:=h
 delta sum_Validate_l3 at h
 obtain ⟨n1,h⟩:=loopS h
 refine eX (Sum.inl ⟨Int×Nat,fun q=> [tM 1 (.ptr 1 0),tM 34 (lF 2 (List.map enc_api_Bucket p0.Buckets)),tM 35 (iI (p0.Buckets.length:Int)),tM 36 (iI q.1),tB 1 (enc_api_Sum p0)],fun q=>loopN (fun (s:Int)=>sum_Validate_l3s p0 s) q.2 q.1=some r,fun q=>q.2⟩) (An (eX [] (eX [] (eX ((0:Int),n1) (An h (r1 (fr (r7 (fr trivial)))))))) ?_)
 clear h
 refine fun q h=> ?_
 obtain ⟨f,n1⟩:=q
 obtain ⟨m1,x1,hm1,h,hl1,hr1⟩:=loopN_step h
 replace hm1:n1=m1+1:=hm1
 subst hm1
 replace h:sum_Validate_l3s p0 f=some x1:=h
 delta sum_Validate_l3s at h
 refine eN (cD h (fun g4 h=> ?_) (fun g4 h=> ?_))
 refine eN ?_
 obtain ⟨a,g,h⟩:=bS h
 refine eX [iI a.T,iI a.Level] (An (idx_map enc_api_Bucket g) ?_)
 refine eN (cK (An (cW (c_clock_Live' p0.Now p0.W a.T _ rfl) (r3 trivial)) (r1 ?_)))
 refine cD h (fun g5 h=> ?_) (fun g5 h=> ?_)
 cases retS h hr1
 exact eN (r1 trivial)
 exact eN (jT (_,m1) (An (hl1 _ (oJ h).symm) (An (jL m1) (r1 (fr (r7 (fr trivial)))))))
 replace h:=popS h hr1
 first|cases h|rw [←oJ h]
 exact eN (r1 trivial)
 replace h:=cT (oL (oR g1 g2)) h
 first|cases h|rw [←oJ h]
 exact eN (r1 trivial)
 replace h:=cT (oL (oL g1)) h
 first|cases h|rw [←oJ h]
 exact eN (r1 trivial)
theorem c_smooth_least' (p0:Int) (r:Int) (h:smooth_least p0=r):Contract Tryz.prog 190 [iI p0] [] (iI r) []:=by
 refine C0 Tryz.func190 Tryz.call190 1 ?_
 delta smooth_least at h
 refine eN (eN (eN (An (fun g1=> ?_) (fun g1=> ?_))))
 refine An (fun g2=> ?_) (fun g2=> ?_)
 replace h:=cT (oR g1 g2) h
 cases h
 exact eN (r1 trivial)
 replace h:=cF (oR g1 g2) h
 cases h
 exact eN (r1 trivial)
 replace h:=cT (oL g1) h
 cases h
 exact eN (r1 trivial)
theorem c_marks_fits' (p0:Int) (p1:Int) (p2:Int) (p3:Int) (p4:Int) (r:Bool) (h:marks_fits p0 p1 p2 p3 p4=r):Contract Tryz.prog 312 [iI p0,iI p1,iI p2,iI p3,iI p4] [] (.sb r) []:=by
 refine C0 Tryz.func312 Tryz.call312 1 ?_
 delta marks_fits at h
 refine eN (eN (eN (An (fun g1=> ?_) (fun g1=> ?_))))
 refine An (fun g2=> ?_) (fun g2=> ?_)
 refine An (fun g3=> ?_) (fun g3=> ?_)
 refine An (fun g4=> ?_) (fun g4=> ?_)
 cases h
 exact (An (Eq.symm (aR (aR (aR (aR g1 g2) g3) g4) rfl)) trivial)
 cases h
 exact (An (Eq.symm (aL (aR (aR (aR g1 g2) g3) g4))) trivial)
 cases h
 exact (An (Eq.symm (aL (aL (aR (aR g1 g2) g3)))) trivial)
 cases h
 exact (An (Eq.symm (aL (aL (aL (aR g1 g2))))) trivial)
 cases h
 exact (An (Eq.symm (aL (aL (aL (aL g1))))) trivial)
theorem c_marks_Valid (p0:(List api_Mark)) (p1:Int) (p2:Int) (p3:Int) (p4:Int) (p5:Int) (r:Bool) (h:marks_Valid p0 p1 p2 p3 p4 p5=some r):Contract Tryz.prog 245 [lF 7 (List.map enc_api_Mark p0),iI p1,iI p2,iI p3,iI p4,iI p5] [] (.sb r) []:=by
 refine C0 Tryz.func245 Tryz.call245 1 ?_
 delta marks_Valid at h
 refine eN (eN (eN (An (fun g1=> ?_) (fun g1=> ?_))))
 refine An (fun g2=> ?_) (fun g2=> ?_)
 replace h:=cT (oR g1 g2) h
 first|cases h|rw [←oJ h]
 exact eN (r1 trivial)
 replace h:=cF (oR g1 g2) h
 refine eN (eX [iI (p0.length:Int)] (An (lenS enc_api_Mark p0) ?_))
 replace h:marks_Valid_l3 p0 p1 p2 p3 p4 p5 (0:Int)=some r:=h
 delta marks_Valid_l3 at h
 obtain ⟨n1,h⟩:=loopS h
 refine eX (Sum.inl ⟨Int×Nat,fun q=> [tM 0 (lF 7 (List.map enc_api_Mark p0)),tM 1 (iI p1),tM 2 (iI p2),tM 3 (iI p3),tM 4 (iI p4),tM 5 (iI p5),tM 23 (lF 7 (List.map enc_api_Mark p0)),tM 24 (iI (p0.length:Int)),tM 25 (iI q.1)],fun q=>loopN (fun (s:Int)=>marks_Valid_l3s p0 p1 p2 p3 p4 p5 s) q.2 q.1=some r,fun q=>q.2⟩) (An (eX [] (eX [] (eX ((0:Int),n1) (An h (r1 (fr (r5 (fr (r2 trivial))))))))) ?_)
 clear h
 refine fun q h=> ?_
 obtain ⟨c,n1⟩:=q
 obtain ⟨m1,x1,hm1,h,hl1,hr1⟩:=loopN_step h
 replace hm1:n1=m1+1:=hm1
 subst hm1
 replace h:marks_Valid_l3s p0 p1 p2 p3 p4 p5 c=some x1:=h
 delta marks_Valid_l3s at h
 refine eN (cD h (fun g3 h=> ?_) (fun g3 h=> ?_))
 refine eN (eN ?_)
 obtain ⟨a,g,h⟩:=bS h
 refine eX (enc_api_Mark a) (An (idx_map enc_api_Mark g) ?_)
 refine eN (eN (An (fun g4=> ?_) (fun g4=> ?_)))
 refine An (fun g5=> ?_) (fun g5=> ?_)
 refine An (fun g6=> ?_) (fun g6=> ?_)
 refine An (fun g7=> ?_) (fun g7=> ?_)
 refine An (fun g8=> ?_) (fun g8=> ?_)
 refine An (fun g9=> ?_) (fun g9=> ?_)
 replace h:=cT (oR (oR (oR (oR (oR g4 g5) g6) g7) g8) g9) h
 cases retS h hr1
 exact eN (r1 trivial)
 replace h:=cF (oR (oR (oR (oR (oR g4 g5) g6) g7) g8) g9) h
 refine eN (eN (An (fun g10=> ?_) (fun g10=> ?_)))
 refine An (fun g11=> ?_) (fun g11=> ?_)
 refine An (fun g12=> ?_) (fun g12=> ?_)
 refine cK (An (cW (c_marks_fits' a.N a.Min a.Max a.S a.Q _ rfl) (r5 trivial)) (r1 ?_))
 refine An (fun g13=> ?_) (fun g13=> ?_)
 replace h:=cT (oR (oR (oR g10 g11) g12) g13) h
 cases retS h hr1
 exact eN (r1 trivial)
 replace h:=cF (oR (oR (oR g10 g11) g12) g13) h
 refine eN (eX (some (⟨Unit,fun _=> [tM 0 (lF 7 (List.map enc_api_Mark p0)),tM 1 (iI p1),tM 2 (iI p2),tM 3 (iI p3),tM 4 (iI p4),tM 5 (iI p5),tM 13 (iI c),tM 14 (.ptr 1028 0),tM 23 (lF 7 (List.map enc_api_Mark p0)),tM 24 (iI (p0.length:Int)),tM 25 (iI c),tM 110 (.sb (((decide (c>(0:Int)))||((p0.length:Int)==(1:Int)))&&(!(clock_Live p3 p4 a.T)))),tB 1028 (enc_api_Mark a)],fun _=>True,fun _=>0⟩,1000000)) (An ?_ (fun _ _=> ?_)))
 refine An (fun g14=> ?_) (fun g14=> ?_)
 refine eX [iI (p0.length:Int)] (An (lenS enc_api_Mark p0) ?_)
 refine An (fun g15=> ?_) (fun g15=> ?_)
 refine cK (An (cW (c_clock_Live' p3 p4 a.T _ rfl) (r3 trivial)) (r1 ?_))
 exact jU (An trivial (r1 (fr (r6 (fr (r2 (An (Eq.symm (aR (oR g14 g15) rfl)) (r7 trivial))))))))
 exact jU (An trivial (r1 (fr (r6 (fr (r2 (An (Eq.symm (aL (oR g14 g15))) (r7 trivial))))))))
 refine cK (An (cW (c_clock_Live' p3 p4 a.T _ rfl) (r3 trivial)) (r1 ?_))
 exact jU (An trivial (r1 (fr (r6 (fr (r2 (An (Eq.symm (aR (oL g14) rfl)) (r7 trivial))))))))
 refine cD h (fun g16 h=> ?_) (fun g16 h=> ?_)
 cases retS h hr1
 exact eN (r1 trivial)
 refine eN (cD h (fun g17 h=> ?_) (fun g17 h=> ?_))
 exact eN (jT (_,m1) (An (hl1 _ (oJ h).symm) (An (jL m1) (r1 (fr (r5 (fr (r2 trivial))))))))
 refine eN ?_
 obtain ⟨b,d,h⟩:=bS h
 refine eX (enc_api_Mark b) (An (idx_map enc_api_Mark d) ?_)
 refine eN (eN (An (fun g18=> ?_) (fun g18=> ?_)))
 refine An (fun g19=> ?_) (fun g19=> ?_)
 refine An (fun g20=> ?_) (fun g20=> ?_)
 refine An (fun g21=> ?_) (fun g21=> ?_)
 refine cK (An (cW (c_marks_fits' (w64 (b.N-a.N)) b.Min b.Max (w64 (b.S-a.S)) (w64 (b.Q-a.Q)) _ rfl) (r5 trivial)) (r1 ?_))
 refine An (fun g22=> ?_) (fun g22=> ?_)
 replace h:=cT (oR (oR (oR (oR g18 g19) g20) g21) g22) h
 cases retS h hr1
 exact eN (r1 trivial)
 replace h:=cF (oR (oR (oR (oR g18 g19) g20) g21) g22) h
 exact eN (jT (_,m1) (An (hl1 _ (oJ h).symm) (An (jL m1) (r1 (fr (r5 (fr (r2 trivial))))))))
 replace h:=cT (oL (oR (oR (oR g18 g19) g20) g21)) h
 cases retS h hr1
 exact eN (r1 trivial)
 replace h:=cT (oL (oL (oR (oR g18 g19) g20))) h
 cases retS h hr1
 exact eN (r1 trivial)
 replace h:=cT (oL (oL (oL (oR g18 g19)))) h
 cases retS h hr1
 exact eN (r1 trivial)
 replace h:=cT (oL (oL (oL (oL g18)))) h
 cases retS h hr1
 exact eN (r1 trivial)
 replace h:=cT (oL (oR (oR g10 g11) g12)) h
 cases retS h hr1
 exact eN (r1 trivial)
 replace h:=cT (oL (oL (oR g10 g11))) h
 cases retS h hr1
 exact eN (r1 trivial)
 replace h:=cT (oL (oL (oL g10))) h
 cases retS h hr1
 exact eN (r1 trivial)
 replace h:=cT (oL (oR (oR (oR (oR g4 g5) g6) g7) g8)) h
 cases retS h hr1
 exact eN (r1 trivial)
 replace h:=cT (oL (oL (oR (oR (oR g4 g5) g6) g7))) h
 cases retS h hr1
 exact eN (r1 trivial)
 replace h:=cT (oL (oL (oL (oR (oR g4 g5) g6)))) h
 cases retS h hr1
 exact eN (r1 trivial)
 replace h:=cT (oL (oL (oL (oL (oR g4 g5))))) h
 cases retS h hr1
 exact eN (r1 trivial)
 replace h:=cT (oL (oL (oL (oL (oL g4))))) h
 cases retS h hr1
 exact eN (r1 trivial)
 replace h:=popS h hr1
 refine eN (eX [iI (p0.length:Int)] (An (lenS enc_api_Mark p0) ?_))
 refine cD h (fun g23 h=> ?_) (fun g23 h=> ?_)
 first|cases h|rw [←oJ h]
 exact eN (r1 trivial)
 refine eN ?_
 obtain ⟨e,f,h⟩:=bS h
 refine eX [iI (p0.length:Int)] (An (lenS enc_api_Mark p0) ?_)
 refine eX (enc_api_Mark e) (An (idx_map enc_api_Mark f) ?_)
 refine eN (eN (An (fun g24=> ?_) (fun g24=> ?_)))
 refine An (fun g25=> ?_) (fun g25=> ?_)
 refine An (fun g26=> ?_) (fun g26=> ?_)
 first|cases h|rw [←oJ h]
 exact (An (Eq.symm (aR (aR (aR g24 g25) g26) rfl)) trivial)
 first|cases h|rw [←oJ h]
 exact (An (Eq.symm (aL (aR (aR g24 g25) g26))) trivial)
 first|cases h|rw [←oJ h]
 exact (An (Eq.symm (aL (aL (aR g24 g25)))) trivial)
 first|cases h|rw [←oJ h]
 exact (An (Eq.symm (aL (aL (aL g24)))) trivial)
 replace h:=cT (oL g1) h
 first|cases h|rw [←oJ h]
 exact eN (r1 trivial)
theorem c_num_Sub' (p0:Int) (p1:Int) (r:(Int×Bool)) (h:num_Sub p0 p1=r):Contract Tryz.prog 332 [iI p0,iI p1] [] (.tup [iI r.1, .sb r.2]) []:=by
 refine C0 Tryz.func332 Tryz.call332 1 ?_
 delta num_Sub at h
 refine eN (eN (eN (eX (some (⟨Unit,fun _=> [tM 6 (iI (w64 (p0-p1))),tM 21 (.sb ((!((decide (p0≥(0:Int)))==(decide (p1≥(0:Int)))))&&(!((decide ((w64 (p0-p1))≥(0:Int)))==(decide (p0≥(0:Int)))))))],fun _=>True,fun _=>0⟩,1000000)) (An ?_ (fun _ _=> ?_)))))
 refine An (fun g1=> ?_) (fun g1=> ?_)
 exact jU (An trivial (r2 (An (Eq.symm (aR g1 rfl)) trivial)))
 exact jU (An trivial (r2 (An (Eq.symm (aL g1)) trivial)))
 refine cD h (fun g2 h=> ?_) (fun g2 h=> ?_)
 cases h
 exact eN (r2 trivial)
 cases h
 exact eN (r2 trivial)
theorem c_smooth_Of' (p0:api_Mark) (p1:Int) (r:Int) (h:smooth_Of p0 p1=r):Contract Tryz.prog 281 [.agg (enc_api_Mark p0),iI p1] [] (iI r) []:=by
 refine C0 Tryz.func281 Tryz.call281 1 ?_
 delta smooth_Of at h
 refine eN (eN (eN (cD h (fun g1 h=> ?_) (fun g1 h=> ?_))))
 cases h
 exact eN (r1 trivial)
 refine eN (cD h (fun g2 h=> ?_) (fun g2 h=> ?_))
 cases h
 exact eN (r1 trivial)
 refine eN (cD h (fun g3 h=> ?_) (fun g3 h=> ?_))
 cases h
 exact eN (r1 trivial)
 refine eN (cD h (fun g4 h=> ?_) (fun g4 h=> ?_))
 refine eN (cK (An (cW (c_num_Sub' p0.Max p0.Min _ rfl) (r2 trivial)) (r1 ?_)))
 cases h
 exact eN (r1 trivial)
 cases h
 exact eN (r1 trivial)
theorem c_smooth_near' (p0:api_Mark) (p1:api_Mark) (p2:Int) (p3:Int) (r:Bool) (h:smooth_near p0 p1 p2 p3=r):Contract Tryz.prog 194 [.agg (enc_api_Mark p0), .agg (enc_api_Mark p1),iI p2,iI p3] [] (.sb r) []:=by
 refine C0 Tryz.func194 Tryz.call194 1 ?_
 delta smooth_near at h
 refine eN (eN (cK (An (cW (c_smooth_Of' p1 p2 _ rfl) (r8 trivial)) (r1 ?_))))
 refine cK (An (cW (c_smooth_Of' p0 p2 _ rfl) (r8 trivial)) (r1 ?_))
 cases h
 exact (r1 trivial)
theorem c_smooth_Validate (p0:api_Smooth) (r:Int) (h:smooth_Validate p0=some r):Contract Tryz.prog 133 [.agg (enc_api_Smooth p0)] [] (iI r) []:=by
 refine C0 Tryz.func133 Tryz.call133 1 ?_
 delta smooth_Validate at h
 refine eN (eN ?_)
 obtain ⟨f,g,h⟩:=bS h
 refine eN (cK (An (cW (c_smooth_good' p0.Agg p0.W p0.K p0.Cap p0.Now _ rfl) (r5 trivial)) (r1 ?_)))
 refine An (fun g1=> ?_) (fun g1=> ?_)
 refine cK (An (cW (c_smooth_least' p0.Agg _ rfl) (r1 trivial)) (r1 ?_))
 refine cK (An (cW (c_marks_Valid p0.Marks p0.Seq p0.Cap p0.Now p0.W (smooth_least p0.Agg) f (gdT (nE g1) g)) (fr (r5 trivial))) (r1 ?_))
 refine An (fun g2=> ?_) (fun g2=> ?_)
 replace h:=cT (oR g1 g2) h
 first|cases h|rw [←oJ h]
 exact eN (r1 trivial)
 replace h:=cF (oR g1 g2) h
 refine eN (eX [iI (p0.Marks.length:Int)] (An (lenS enc_api_Mark p0.Marks) ?_))
 replace h:smooth_Validate_l3 p0 (0:Int)=some r:=h
 delta smooth_Validate_l3 at h
 obtain ⟨n1,h⟩:=loopS h
 refine eX (Sum.inl ⟨Int×Nat,fun q=> [tM 1 (.ptr 1 0),tM 35 (lF 7 (List.map enc_api_Mark p0.Marks)),tM 36 (iI (p0.Marks.length:Int)),tM 37 (iI q.1),tB 1 (enc_api_Smooth p0)],fun q=>loopN (fun (s:Int)=>smooth_Validate_l3s p0 s) q.2 q.1=some r,fun q=>q.2⟩) (An (eX [] (eX [] (eX ((0:Int),n1) (An h (r1 (fr (r8 (fr trivial)))))))) ?_)
 clear h
 refine fun q h=> ?_
 obtain ⟨a,n1⟩:=q
 obtain ⟨m1,x1,hm1,h,hl1,hr1⟩:=loopN_step h
 replace hm1:n1=m1+1:=hm1
 subst hm1
 replace h:smooth_Validate_l3s p0 a=some x1:=h
 delta smooth_Validate_l3s at h
 refine eN (cD h (fun g3 h=> ?_) (fun g3 h=> ?_))
 refine eN ?_
 obtain ⟨b,j,h⟩:=bS h
 refine eX (enc_api_Mark b) (An (idx_map enc_api_Mark j) ?_)
 refine eN ?_
 obtain ⟨d,k,h⟩:=bS h
 refine eX (some (⟨Unit,fun _=> [tM 1 (.ptr 1 0),tM 3 (iI a),tM 4 (.ptr 1028 0),tM 35 (lF 7 (List.map enc_api_Mark p0.Marks)),tM 36 (iI (p0.Marks.length:Int)),tM 37 (iI a),tM 57 (.sb ((decide (a≥(2:Int)))&&(smooth_near d b p0.Agg p0.K))),tB 1 (enc_api_Smooth p0),tB 1028 (enc_api_Mark b)],fun _=>True,fun _=>0⟩,1000000)) (An ?_ (fun _ _=> ?_))
 refine An (fun g4=> ?_) (fun g4=> ?_)
 refine eX (enc_api_Mark d) (An (idx_map enc_api_Mark (gdT g4 k)) ?_)
 refine cK (An (cW (c_smooth_near' d b p0.Agg p0.K _ rfl) (r16 trivial)) (r1 ?_))
 exact jU (An trivial (r2 (fr (r2 (An (Eq.symm (aR g4 rfl)) (r6 (fr (r7 trivial))))))))
 exact jU (An trivial (r2 (fr (r2 (An (Eq.symm (aL g4)) (r6 (fr (r7 trivial))))))))
 refine cD h (fun g5 h=> ?_) (fun g5 h=> ?_)
 cases retS h hr1
 exact eN (r1 trivial)
 refine eN ?_
 obtain ⟨e,l,h⟩:=bS h
 obtain ⟨c,i,h⟩:=bS h
 refine eX (some (⟨Unit,fun _=> [tM 1 (.ptr 1 0),tM 35 (lF 7 (List.map enc_api_Mark p0.Marks)),tM 36 (iI (p0.Marks.length:Int)),tM 37 (iI a),tM 87 (.sb (((decide (a≥(1:Int)))&&(decide ((w64 (b.Seq-e.Seq))>(1:Int))))&&(!(smooth_near c b p0.Agg p0.K)))),tB 1 (enc_api_Smooth p0)],fun _=>True,fun _=>0⟩,2000000)) (An ?_ (fun _ _=> ?_))
 refine An (fun g6=> ?_) (fun g6=> ?_)
 refine eX (enc_api_Mark e) (An (idx_map enc_api_Mark (gdT g6 l)) ?_)
 refine An (fun g7=> ?_) (fun g7=> ?_)
 refine eX (enc_api_Mark c) (An (idx_map enc_api_Mark (gdT (aR g6 g7) i)) ?_)
 refine cK (An (cW (c_smooth_near' c b p0.Agg p0.K _ rfl) (r16 trivial)) (r1 ?_))
 exact jU (An trivial (r1 (fr (r2 (An (Eq.symm (aR (aR g6 g7) rfl)) (r6 (fr trivial)))))))
 exact jU (An trivial (r1 (fr (r2 (An (Eq.symm (aL (aR g6 g7))) (r6 (fr trivial)))))))
 exact jU (An trivial (r1 (fr (r2 (An (Eq.symm (aL (aL g6))) (r6 (fr trivial)))))))
 refine cD h (fun g8 h=> ?_) (fun g8 h=> ?_)
 cases retS h hr1
 exact eN (r1 trivial)
 exact eN (jT (_,m1) (An (hl1 _ (oJ h).symm) (An (jL m1) (r1 (fr (r8 (fr trivial)))))))
 replace h:=popS h hr1
 first|cases h|rw [←oJ h]
 exact eN (r1 trivial)
 replace h:=cT (oL g1) h
 first|cases h|rw [←oJ h]
 exact eN (r1 trivial)
theorem c_spread_right' (p0:api_Mark) (r:Bool) (h:spread_right p0=r):Contract Tryz.prog 282 [.agg (enc_api_Mark p0)] [] (.sb r) []:=by
 refine C0 Tryz.func282 Tryz.call282 1 ?_
 delta spread_right at h
 refine eN (eN (eN (An (fun g1=> ?_) (fun g1=> ?_))))
 refine An (fun g2=> ?_) (fun g2=> ?_)
 refine An (fun g3=> ?_) (fun g3=> ?_)
 refine An (fun g4=> ?_) (fun g4=> ?_)
 refine An (fun g5=> ?_) (fun g5=> ?_)
 refine An (fun g6=> ?_) (fun g6=> ?_)
 replace h:=cT (oR (oR (oR (oR (oR g1 g2) g3) g4) g5) g6) h
 cases h
 exact eN (r1 trivial)
 replace h:=cF (oR (oR (oR (oR (oR g1 g2) g3) g4) g5) g6) h
 cases h
 exact eN (r1 trivial)
 replace h:=cT (oL (oR (oR (oR (oR g1 g2) g3) g4) g5)) h
 cases h
 exact eN (r1 trivial)
 replace h:=cT (oL (oL (oR (oR (oR g1 g2) g3) g4))) h
 cases h
 exact eN (r1 trivial)
 replace h:=cT (oL (oL (oL (oR (oR g1 g2) g3)))) h
 cases h
 exact eN (r1 trivial)
 replace h:=cT (oL (oL (oL (oL (oR g1 g2))))) h
 cases h
 exact eN (r1 trivial)
 replace h:=cT (oL (oL (oL (oL (oL g1))))) h
 cases h
 exact eN (r1 trivial)
theorem c_spread_top' (p0:api_Mark) (r:Int) (h:spread_top p0=r):Contract Tryz.prog 284 [.agg (enc_api_Mark p0)] [] (iI r) []:=by
 refine C0 Tryz.func284 Tryz.call284 1 ?_
 delta spread_top at h
 cases h
 exact eN (eN (r1 trivial))
theorem c_math_bits_Mul64' (p0:Int) (p1:Int) (r:(Int×Int)) (h:math_bits_Mul64 p0 p1=r):Contract Tryz.prog 333 [iU p0,iU p1] [] (.tup [iU r.1,iU r.2]) []:=by
 refine C0 Tryz.func333 Tryz.call333 1 ?_
 delta math_bits_Mul64 at h
 refine eN (eN (eN (An (by decide) ?_)))
 refine eN (eN (An (by decide) ?_))
 refine eN (eN (An (by decide) ?_))
 refine eN (eN (An (by decide) ?_))
 refine eN (eN (An (by decide) ?_))
 cases h
 exact eN (r2 trivial)
theorem c_wide_Product' (p0:Int) (p1:Int) (r:api_Wide) (h:wide_Product p0 p1=r):Contract Tryz.prog 283 [iU p0,iU p1] [] (.agg [iU r.Hi,iU r.Lo]) []:=by
 refine C0 Tryz.func283 Tryz.call283 1 ?_
 delta wide_Product at h
 refine eN (eN (cK (An (cW (c_math_bits_Mul64' p0 p1 _ rfl) (r2 trivial)) (r1 ?_))))
 cases h
 exact eN (r2 trivial)
theorem c_wide_Of' (p0:Int) (r:api_Wide) (h:wide_Of p0=r):Contract Tryz.prog 199 [iU p0] [] (.agg [iU r.Hi,iU r.Lo]) []:=by
 refine C0 Tryz.func199 Tryz.call199 1 ?_
 delta wide_Of at h
 cases h
 exact eN (eN (r2 trivial))
theorem c_math_bits_Add64 (p0 p1 p2:Int) (r:(Int×Int)) (h:math_bits_Add64 p0 p1 p2=some r):Contract Tryz.prog 285 [iU p0,iU p1,iU p2] [] (.tup [iU r.1,iU r.2]) []:=
 ext_Add64 Tryz.func285 (by kernel_rfl) (by kernel_rfl) (by kernel_rfl) (by kernel_rfl) p0 p1 p2 r h
theorem c_wide_Add (p0:api_Wide) (p1:api_Wide) (r:(api_Wide×Bool)) (h:wide_Add p0 p1=some r):Contract Tryz.prog 200 [.agg [iU p0.Hi,iU p0.Lo], .agg [iU p1.Hi,iU p1.Lo]] [] (.tup [.agg [iU r.1.Hi,iU r.1.Lo], .sb r.2]) []:=by
 refine C0 Tryz.func200 Tryz.call200 1 ?_
 delta wide_Add at h
 refine eN (eN ?_)
 obtain ⟨a,b,h⟩:=bS h
 refine cK (An (cW (c_math_bits_Add64 p0.Lo p1.Lo (0:Int) a b) (r3 trivial)) (r1 ?_))
 refine eN ?_
 obtain ⟨c,d,h⟩:=bS h
 refine cK (An (cW (c_math_bits_Add64 p0.Hi p1.Hi a.2 c d) (r3 trivial)) (r1 ?_))
 refine eN (cD h (fun g1 h=> ?_) (fun g1 h=> ?_))
 first|cases h|rw [←oJ h]
 exact eN (r3 trivial)
 first|cases h|rw [←oJ h]
 exact eN (r3 trivial)
theorem c_wide_Mul (p0:api_Wide) (p1:api_Wide) (r:(api_Wide×Bool)) (h:wide_Mul p0 p1=some r):Contract Tryz.prog 198 [.agg [iU p0.Hi,iU p0.Lo], .agg [iU p1.Hi,iU p1.Lo]] [] (.tup [.agg [iU r.1.Hi,iU r.1.Lo], .sb r.2]) []:=by
 refine C0 Tryz.func198 Tryz.call198 1 ?_
 delta wide_Mul at h
 refine eN (eN (eX (some (⟨Unit,fun _=> [tM 2 (.ptr 1 0),tM 3 (.ptr 2 0),tM 4 (.ptr 3 0),tM 15 (.sb ((p0.Hi !=(0:Int))&&(p1.Hi !=(0:Int)))),tB 1 [iU p0.Hi,iU p0.Lo],tB 2 [iU p1.Hi,iU p1.Lo],tB 3 [iU (0:Int),iU (0:Int)]],fun _=>True,fun _=>0⟩,1000000)) (An ?_ (fun _ _=> ?_))))
 refine An (fun g1=> ?_) (fun g1=> ?_)
 exact jU (An trivial (r1 (An (Eq.symm (aR g1 rfl)) (r6 trivial))))
 exact jU (An trivial (r1 (An (Eq.symm (aL g1)) (r6 trivial))))
 refine cD h (fun g2 h=> ?_) (fun g2 h=> ?_)
 first|cases h|rw [←oJ h]
 exact eN (r3 trivial)
 refine eN (eX (some (⟨Int×Int×Int×Int,fun q=> [tM 2 (.ptr 1 0),tM 3 (.ptr 2 0),tM 4 (.ptr 3 0),tB 1 [iU q.1,iU q.2.1],tB 2 [iU q.2.2.1,iU q.2.2.2],tB 3 [iU (0:Int),iU (0:Int)]],fun q=>wide_Mul_j2 q.1 q.2.1 q.2.2.1 q.2.2.2=some r,fun _=>0⟩,2000000)) (An ?_ ?_))
 refine cD h (fun g3 h=> ?_) (fun g3 h=> ?_)
 exact eN (jT (p1.Hi,p1.Lo,p0.Hi,p0.Lo) (An h (r7 trivial)))
 exact jT (p0.Hi,p0.Lo,p1.Hi,p1.Lo) (An h (r7 trivial))
 clear h
 refine fun q h=> ?_
 obtain ⟨d,a,b,c⟩:=q
 replace h:wide_Mul_j2 d a b c=some r:=h
 delta wide_Mul_j2 at h
 refine eN (cK (An (cW (c_wide_Product' a c _ rfl) (r2 trivial)) (r1 ?_)))
 refine cK (An (cW (c_wide_Product' a b _ rfl) (r2 trivial)) (r1 ?_))
 refine eN (cD h (fun g4 h=> ?_) (fun g4 h=> ?_))
 first|cases h|rw [←oJ h]
 exact eN (r3 trivial)
 refine eN ?_
 obtain ⟨e,f,h⟩:=bS h
 refine cK (An (cW (c_wide_Add (wide_Product a c) (api_Wide.mk (wide_Product a b).Lo (0:Int)) e f) (r4 trivial)) (r1 ?_))
 first|cases h|rw [←oJ h]
 exact (r3 trivial)
theorem c_wide_Compare' (p0:api_Wide) (p1:api_Wide) (r:Int) (h:wide_Compare p0 p1=r):Contract Tryz.prog 246 [.agg [iU p0.Hi,iU p0.Lo], .agg [iU p1.Hi,iU p1.Lo]] [] (iI r) []:=by
 refine C0 Tryz.func246 Tryz.call246 1 ?_
 delta wide_Compare at h
 refine eN (eN (eX (some (⟨Unit,fun _=> [tM 2 (.ptr 1 0),tM 3 (.ptr 2 0),tM 5 (.sb ((decide (p0.Hi<p1.Hi))||((p0.Hi==p1.Hi)&&(decide (p0.Lo<p1.Lo))))),tB 1 [iU p0.Hi,iU p0.Lo],tB 2 [iU p1.Hi,iU p1.Lo]],fun _=>True,fun _=>0⟩,1000000)) (An ?_ (fun _ _=> ?_))))
 refine An (fun g1=> ?_) (fun g1=> ?_)
 refine An (fun g2=> ?_) (fun g2=> ?_)
 exact jU (An trivial (r1 (An (Eq.symm (oR g1 (aR g2 rfl))) (r4 trivial))))
 exact jU (An trivial (r1 (An (Eq.symm (oR g1 (aL g2))) (r4 trivial))))
 exact jU (An trivial (r1 (An (Eq.symm (oL g1)) (r4 trivial))))
 refine cD h (fun g3 h=> ?_) (fun g3 h=> ?_)
 cases h
 exact eN (r1 trivial)
 refine eN (cD h (fun g4 h=> ?_) (fun g4 h=> ?_))
 cases h
 exact eN (r1 trivial)
 cases h
 exact eN (r1 trivial)
theorem c_spread_Close (p0:api_Mark) (p1:api_Mark) (p2:Int) (r:Bool) (h:spread_Close p0 p1 p2=some r):Contract Tryz.prog 196 [.agg (enc_api_Mark p0), .agg (enc_api_Mark p1),iI p2] [] (.sb r) []:=by
 refine C0 Tryz.func196 Tryz.call196 1 ?_
 delta spread_Close at h
 refine eN (eN (eN (cK (An (cW (c_spread_right' p0 _ rfl) (r7 trivial)) (r1 ?_)))))
 refine An (fun g1=> ?_) (fun g1=> ?_)
 refine cK (An (cW (c_spread_right' p1 _ rfl) (r7 trivial)) (r1 ?_))
 refine An (fun g2=> ?_) (fun g2=> ?_)
 refine An (fun g3=> ?_) (fun g3=> ?_)
 refine An (fun g4=> ?_) (fun g4=> ?_)
 replace h:=cT (oR (oR (oR g1 g2) g3) g4) h
 first|cases h|rw [←oJ h]
 exact eN (r1 trivial)
 replace h:=cF (oR (oR (oR g1 g2) g3) g4) h
 refine eN (eN (cD h (fun g5 h=> ?_) (fun g5 h=> ?_)))
 first|cases h|rw [←oJ h]
 exact eN (r1 trivial)
 refine eN ?_
 obtain ⟨a,c,h⟩:=bS h
 refine cK (An (cW (c_spread_top' p1 _ rfl) (r7 trivial)) (r1 ?_))
 refine cK (An (cW (c_wide_Product' (wu64 (spread_top p1)) (wu64 p0.N) _ rfl) (r2 trivial)) (r1 ?_))
 refine cK (An (cW (c_wide_Of' (wu64 (w64 ((6:Int)*p2))) _ rfl) (r1 trivial)) (r1 ?_))
 refine cK (An (cW (c_wide_Mul (wide_Product (wu64 (spread_top p1)) (wu64 p0.N)) (wide_Of (wu64 (w64 ((6:Int)*p2)))) a c) (r4 trivial)) (r1 ?_))
 refine eN ?_
 obtain ⟨b,d,h⟩:=bS h
 refine cK (An (cW (c_spread_top' p0 _ rfl) (r7 trivial)) (r1 ?_))
 refine cK (An (cW (c_wide_Product' (wu64 (spread_top p0)) (wu64 p1.N) _ rfl) (r2 trivial)) (r1 ?_))
 refine cK (An (cW (c_wide_Of' (wu64 (w64 ((w64 ((6:Int)*p2))-(1:Int)))) _ rfl) (r1 trivial)) (r1 ?_))
 refine cK (An (cW (c_wide_Mul (wide_Product (wu64 (spread_top p0)) (wu64 p1.N)) (wide_Of (wu64 (w64 ((w64 ((6:Int)*p2))-(1:Int))))) b d) (r4 trivial)) (r1 ?_))
 refine eN (cK (An (cW (c_wide_Compare' a.1 b.1 _ rfl) (r4 trivial)) (r1 ?_)))
 first|cases h|rw [←oJ h]
 exact (r1 trivial)
 replace h:=cT (oL (oR (oR g1 g2) g3)) h
 first|cases h|rw [←oJ h]
 exact eN (r1 trivial)
 replace h:=cT (oL (oL (oR g1 g2))) h
 first|cases h|rw [←oJ h]
 exact eN (r1 trivial)
 replace h:=cT (oL (oL (oL g1))) h
 first|cases h|rw [←oJ h]
 exact eN (r1 trivial)
theorem c_spread_Validate (p0:api_Spread) (r:Int) (h:spread_Validate p0=some r):Contract Tryz.prog 135 [.agg (enc_api_Spread p0)] [] (iI r) []:=by
 refine C0 Tryz.func135 Tryz.call135 1 ?_
 delta spread_Validate at h
 refine eN (eN ?_)
 obtain ⟨c,d,h⟩:=bS h
 refine eN (cK (An (cW (c_marks_Good' p0.W p0.K p0.Cap p0.Now _ rfl) (r4 trivial)) (r1 ?_)))
 refine An (fun g1=> ?_) (fun g1=> ?_)
 refine cK (An (cW (c_marks_Valid p0.Marks p0.Seq p0.Cap p0.Now p0.W (-4096:Int) c (gdT (nE g1) d)) (fr (r5 trivial))) (r1 ?_))
 refine An (fun g2=> ?_) (fun g2=> ?_)
 replace h:=cT (oR g1 g2) h
 first|cases h|rw [←oJ h]
 exact eN (r1 trivial)
 replace h:=cF (oR g1 g2) h
 refine eN ?_
 replace h:spread_Validate_l3 p0 (2:Int)=some r:=h
 delta spread_Validate_l3 at h
 obtain ⟨n1,h⟩:=loopS h
 refine eX (Sum.inl ⟨Int×Nat,fun q=> [tM 1 (.ptr 1 0),tM 3 (iI q.1),tB 1 (enc_api_Spread p0)],fun q=>loopN (fun (s:Int)=>spread_Validate_l3s p0 s) q.2 q.1=some r,fun q=>q.2⟩) (An (eX [] (eX [] (eX ((2:Int),n1) (An h (r7 (fr trivial)))))) ?_)
 clear h
 refine fun q h=> ?_
 obtain ⟨g,n1⟩:=q
 obtain ⟨m1,x1,hm1,h,hl1,hr1⟩:=loopN_step h
 replace hm1:n1=m1+1:=hm1
 subst hm1
 replace h:spread_Validate_l3s p0 g=some x1:=h
 delta spread_Validate_l3s at h
 refine eN (eX [iI (p0.Marks.length:Int)] (An (lenS enc_api_Mark p0.Marks) ?_))
 refine cD h (fun g3 h=> ?_) (fun g3 h=> ?_)
 refine eN ?_
 obtain ⟨a,i,h⟩:=bS h
 obtain ⟨b,j,h⟩:=bS h
 obtain ⟨e,f,h⟩:=bS h
 refine eX (enc_api_Mark a) (An (idx_map enc_api_Mark i) ?_)
 refine eX (enc_api_Mark b) (An (idx_map enc_api_Mark j) ?_)
 refine cK (An (cW (c_spread_Close a b p0.K e f) (r12 (r3 trivial))) (r1 ?_))
 refine cD h (fun g4 h=> ?_) (fun g4 h=> ?_)
 cases retS h hr1
 exact eN (r1 trivial)
 exact eN (jT (_,m1) (An (hl1 _ (oJ h).symm) (An (jL m1) (r7 (fr trivial)))))
 replace h:=popS h hr1
 first|cases h|rw [←oJ h]
 exact eN (r1 trivial)
 replace h:=cT (oL g1) h
 first|cases h|rw [←oJ h]
 exact eN (r1 trivial)
theorem c_poly_Validate (p0:api_Poly) (r:Int) (h:poly_Validate p0=some r):Contract Tryz.prog 136 [.agg (enc_api_Poly p0)] [] (iI r) []:=by
 refine C0 Tryz.func136 Tryz.call136 1 ?_
 delta poly_Validate at h
 refine eN (eN (eN (An (fun g1=> ?_) (fun g1=> ?_))))
 refine An (fun g2=> ?_) (fun g2=> ?_)
 refine cK (An (cW (c_poly_tick' p0.Now _ rfl) (r1 trivial)) (r1 ?_))
 refine An (fun g3=> ?_) (fun g3=> ?_)
 refine An (fun g4=> ?_) (fun g4=> ?_)
 refine An (fun g5=> ?_) (fun g5=> ?_)
 refine eX [iI (p0.Moments.length:Int)] (An (lenS enc_api_Wide p0.Moments) ?_)
 refine An (fun g6=> ?_) (fun g6=> ?_)
 replace h:=cT (oR (oR (oR (oR (oR g1 g2) g3) g4) g5) g6) h
 first|cases h|rw [←oJ h]
 exact eN (r1 trivial)
 replace h:=cF (oR (oR (oR (oR (oR g1 g2) g3) g4) g5) g6) h
 refine eN (cK (An (cW (c_wide_Of' (wu64 (w64 ((w64 (p0.Now-p0.Land))+(1:Int)))) _ rfl) (r1 trivial)) (r1 ?_)))
 refine eN ?_
 replace h:poly_Validate_l3 p0 (wide_Of (wu64 (w64 ((w64 (p0.Now-p0.Land))+(1:Int))))) (1:Int)=some r:=h
 delta poly_Validate_l3 at h
 obtain ⟨n1,h⟩:=loopS h
 refine eX (Sum.inl ⟨Int×Nat,fun q=> [tM 1 (.ptr 1 0),tM 3 (.ptr 521 0),tM 4 (iI q.1),tB 1 (enc_api_Poly p0),tB 521 [iU (wide_Of (wu64 (w64 ((w64 (p0.Now-p0.Land))+(1:Int))))).Hi,iU (wide_Of (wu64 (w64 ((w64 (p0.Now-p0.Land))+(1:Int))))).Lo]],fun q=>loopN (fun (s:Int)=>poly_Validate_l3s p0 (wide_Of (wu64 (w64 ((w64 (p0.Now-p0.Land))+(1:Int))))) s) q.2 q.1=some r,fun q=>q.2⟩) (An (eX [] (eX [] (eX ((1:Int),n1) (An h (r5 (fr (r2 trivial))))))) ?_)
 clear h
 refine fun q h=> ?_
 obtain ⟨f,n1⟩:=q
 obtain ⟨m1,x1,hm1,h,hl1,hr1⟩:=loopN_step h
 replace hm1:n1=m1+1:=hm1
 subst hm1
 replace h:poly_Validate_l3s p0 (wide_Of (wu64 (w64 ((w64 (p0.Now-p0.Land))+(1:Int))))) f=some x1:=h
 delta poly_Validate_l3s at h
 refine eN (cD h (fun g7 h=> ?_) (fun g7 h=> ?_))
 refine eN ?_
 obtain ⟨c,i,h⟩:=bS h
 obtain ⟨d,j,h⟩:=bS h
 refine eX [iU c.Hi,iU c.Lo] (An (idx_map enc_api_Wide i) ?_)
 refine eX [iU d.Hi,iU d.Lo] (An (idx_map enc_api_Wide j) ?_)
 refine cK (An (cW (c_wide_Compare' c d _ rfl) (r4 trivial)) (r1 ?_))
 refine cD h (fun g8 h=> ?_) (fun g8 h=> ?_)
 cases retS h hr1
 exact eN (r1 trivial)
 refine eN ?_
 obtain ⟨e,k,h⟩:=bS h
 obtain ⟨b,l,h⟩:=bS h
 refine eX [iU e.Hi,iU e.Lo] (An (idx_map enc_api_Wide k) ?_)
 refine cK (An (cW (c_wide_Mul e (wide_Of (wu64 (w64 ((w64 (p0.Now-p0.Land))+(1:Int))))) b l) (r4 trivial)) (r1 ?_))
 refine eN ?_
 obtain ⟨a,g,h⟩:=bS h
 refine eX (some (⟨Unit,fun _=> [tM 1 (.ptr 1 0),tM 3 (.ptr 521 0),tM 4 (iI f),tM 90 (.sb (b.2&&(decide ((wide_Compare a b.1)>(0:Int))))),tB 1 (enc_api_Poly p0),tB 521 [iU (wide_Of (wu64 (w64 ((w64 (p0.Now-p0.Land))+(1:Int))))).Hi,iU (wide_Of (wu64 (w64 ((w64 (p0.Now-p0.Land))+(1:Int))))).Lo]],fun _=>True,fun _=>0⟩,1000000)) (An ?_ (fun _ _=> ?_))
 refine An (fun g9=> ?_) (fun g9=> ?_)
 refine eX [iU a.Hi,iU a.Lo] (An (idx_map enc_api_Wide (gdT g9 g)) ?_)
 refine cK (An (cW (c_wide_Compare' a b.1 _ rfl) (r4 trivial)) (r1 ?_))
 exact jU (An trivial (r2 (An (Eq.symm (aR g9 rfl)) (r3 (fr (r2 trivial))))))
 exact jU (An trivial (r2 (An (Eq.symm (aL g9)) (r3 (fr (r2 trivial))))))
 refine cD h (fun g10 h=> ?_) (fun g10 h=> ?_)
 cases retS h hr1
 exact eN (r1 trivial)
 exact eN (jT (_,m1) (An (hl1 _ (oJ h).symm) (An (jL m1) (r5 (fr (r2 trivial))))))
 replace h:=popS h hr1
 first|cases h|rw [←oJ h]
 exact eN (r1 trivial)
 replace h:=cT (oL (oR (oR (oR (oR g1 g2) g3) g4) g5)) h
 first|cases h|rw [←oJ h]
 exact eN (r1 trivial)
 replace h:=cT (oL (oL (oR (oR (oR g1 g2) g3) g4))) h
 first|cases h|rw [←oJ h]
 exact eN (r1 trivial)
 replace h:=cT (oL (oL (oL (oR (oR g1 g2) g3)))) h
 first|cases h|rw [←oJ h]
 exact eN (r1 trivial)
 replace h:=cT (oL (oL (oL (oL (oR g1 g2))))) h
 first|cases h|rw [←oJ h]
 exact eN (r1 trivial)
 replace h:=cT (oL (oL (oL (oL (oL g1))))) h
 first|cases h|rw [←oJ h]
 exact eN (r1 trivial)
theorem c_halve_Validate (p0:api_Halve) (r:Int) (h:halve_Validate p0=some r):Contract Tryz.prog 137 [.agg [iI p0.Now,lF 1 (List.map (eI .i64) p0.Sums)]] [] (iI r) []:=by
 refine C0 Tryz.func137 Tryz.call137 1 ?_
 delta halve_Validate at h
 refine eN (eN (eN (eX [iI (p0.Sums.length:Int)] (An (lenS (eI .i64) p0.Sums) ?_))))
 refine An (fun g1=> ?_) (fun g1=> ?_)
 refine eX [iI (p0.Sums.length:Int)] (An (lenS (eI .i64) p0.Sums) ?_)
 refine An (fun g2=> ?_) (fun g2=> ?_)
 refine An (fun g3=> ?_) (fun g3=> ?_)
 refine An (fun g4=> ?_) (fun g4=> ?_)
 replace h:=cT (oR (oR (oR g1 g2) g3) g4) h
 first|cases h|rw [←oJ h]
 exact eN (r1 trivial)
 replace h:=cF (oR (oR (oR g1 g2) g3) g4) h
 refine eN (eX [iI (p0.Sums.length:Int)] (An (lenS (eI .i64) p0.Sums) ?_))
 replace h:halve_Validate_l3 p0 (0:Int)=some r:=h
 delta halve_Validate_l3 at h
 obtain ⟨n1,h⟩:=loopS h
 refine eX (Sum.inl ⟨Int×Nat,fun q=> [tM 1 (.ptr 1 0),tM 26 (lF 1 (List.map (eI .i64) p0.Sums)),tM 27 (iI (p0.Sums.length:Int)),tM 28 (iI q.1),tB 1 [iI p0.Now,lF 1 (List.map (eI .i64) p0.Sums)]],fun q=>loopN (fun (s:Int)=>halve_Validate_l3s p0 s) q.2 q.1=some r,fun q=>q.2⟩) (An (eX [] (eX [] (eX ((0:Int),n1) (An h (r1 (fr (r3 (fr trivial)))))))) ?_)
 clear h
 refine fun q h=> ?_
 obtain ⟨a,n1⟩:=q
 obtain ⟨m1,x1,hm1,h,hl1,hr1⟩:=loopN_step h
 replace hm1:n1=m1+1:=hm1
 subst hm1
 replace h:halve_Validate_l3s p0 a=some x1:=h
 delta halve_Validate_l3s at h
 refine eN (cD h (fun g5 h=> ?_) (fun g5 h=> ?_))
 refine eN ?_
 obtain ⟨b,c,h⟩:=bS h
 refine eX [iI b] (An (idx_map (eI .i64) c) ?_)
 refine eN (eX (some (⟨Unit,fun _=> [tM 1 (.ptr 1 0),tM 26 (lF 1 (List.map (eI .i64) p0.Sums)),tM 27 (iI (p0.Sums.length:Int)),tM 28 (iI a),tM 48 (.sb (((decide (b<(0:Int)))||(decide (b>(1099511627776:Int))))||((b !=(0:Int))&&(decide (a>p0.Now))))),tB 1 [iI p0.Now,lF 1 (List.map (eI .i64) p0.Sums)]],fun _=>True,fun _=>0⟩,1000000)) (An ?_ (fun _ _=> ?_)))
 refine An (fun g6=> ?_) (fun g6=> ?_)
 refine An (fun g7=> ?_) (fun g7=> ?_)
 refine An (fun g8=> ?_) (fun g8=> ?_)
 exact jU (An trivial (r1 (fr (r2 (An (Eq.symm (oR (oR g6 g7) (aR g8 rfl))) (r1 (fr trivial)))))))
 exact jU (An trivial (r1 (fr (r2 (An (Eq.symm (oR (oR g6 g7) (aL g8))) (r1 (fr trivial)))))))
 exact jU (An trivial (r1 (fr (r2 (An (Eq.symm (oL (oR g6 g7))) (r1 (fr trivial)))))))
 exact jU (An trivial (r1 (fr (r2 (An (Eq.symm (oL (oL g6))) (r1 (fr trivial)))))))
 refine cD h (fun g9 h=> ?_) (fun g9 h=> ?_)
 cases retS h hr1
 exact eN (r1 trivial)
 exact eN (jT (_,m1) (An (hl1 _ (oJ h).symm) (An (jL m1) (r1 (fr (r3 (fr trivial)))))))
 replace h:=popS h hr1
 first|cases h|rw [←oJ h]
 exact eN (r1 trivial)
 replace h:=cT (oL (oR (oR g1 g2) g3)) h
 first|cases h|rw [←oJ h]
 exact eN (r1 trivial)
 replace h:=cT (oL (oL (oR g1 g2))) h
 first|cases h|rw [←oJ h]
 exact eN (r1 trivial)
 replace h:=cT (oL (oL (oL g1))) h
 first|cases h|rw [←oJ h]
 exact eN (r1 trivial)
theorem c_extreme_beats' (p0:Bool) (p1:Int) (p2:Int) (r:Bool) (h:extreme_beats p0 p1 p2=r):Contract Tryz.prog 201 [.sb p0,iI p1,iI p2] [] (.sb r) []:=by
 refine C0 Tryz.func201 Tryz.call201 1 ?_
 delta extreme_beats at h
 refine eN (eN (cD h (fun g1 h=> ?_) (fun g1 h=> ?_)))
 cases h
 exact eN (r1 trivial)
 cases h
 exact eN (r1 trivial)
theorem c_extreme_Validate (p0:api_Extreme) (r:Int) (h:extreme_Validate p0=some r):Contract Tryz.prog 138 [.agg (enc_api_Extreme p0)] [] (iI r) []:=by
 refine C0 Tryz.func138 Tryz.call138 1 ?_
 delta extreme_Validate at h
 refine eN (eN (eN (cK (An (cW (c_extreme_good' p0.W p0.Cap p0.Now _ rfl) (r3 trivial)) (r1 ?_)))))
 refine An (fun g1=> ?_) (fun g1=> ?_)
 refine eX [iI (p0.Items.length:Int)] (An (lenS enc_api_Item p0.Items) ?_)
 refine An (fun g2=> ?_) (fun g2=> ?_)
 replace h:=cT (oR g1 g2) h
 first|cases h|rw [←oJ h]
 exact eN (r1 trivial)
 replace h:=cF (oR g1 g2) h
 refine eN (eX [iI (p0.Items.length:Int)] (An (lenS enc_api_Item p0.Items) ?_))
 replace h:extreme_Validate_l3 p0 (0:Int)=some r:=h
 delta extreme_Validate_l3 at h
 obtain ⟨n1,h⟩:=loopS h
 refine eX (Sum.inl ⟨Int×Nat,fun q=> [tM 1 (.ptr 1 0),tM 22 (lF 2 (List.map enc_api_Item p0.Items)),tM 23 (iI (p0.Items.length:Int)),tM 24 (iI q.1),tB 1 (enc_api_Extreme p0)],fun q=>loopN (fun (s:Int)=>extreme_Validate_l3s p0 s) q.2 q.1=some r,fun q=>q.2⟩) (An (eX [] (eX [] (eX ((0:Int),n1) (An h (r1 (fr (r6 (fr trivial)))))))) ?_)
 clear h
 refine fun q h=> ?_
 obtain ⟨c,n1⟩:=q
 obtain ⟨m1,x1,hm1,h,hl1,hr1⟩:=loopN_step h
 replace hm1:n1=m1+1:=hm1
 subst hm1
 replace h:extreme_Validate_l3s p0 c=some x1:=h
 delta extreme_Validate_l3s at h
 refine eN (cD h (fun g3 h=> ?_) (fun g3 h=> ?_))
 refine eN ?_
 obtain ⟨a,f,h⟩:=bS h
 refine eX [iI a.T,iI a.V] (An (idx_map enc_api_Item f) ?_)
 refine eN (eN (cK (An (cW (c_clock_Live' p0.Now p0.W a.T _ rfl) (r3 trivial)) (r1 ?_))))
 refine An (fun g4=> ?_) (fun g4=> ?_)
 refine An (fun g5=> ?_) (fun g5=> ?_)
 refine An (fun g6=> ?_) (fun g6=> ?_)
 replace h:=cT (oR (oR g4 g5) g6) h
 cases retS h hr1
 exact eN (r1 trivial)
 replace h:=cF (oR (oR g4 g5) g6) h
 refine eN ?_
 obtain ⟨d,g,h⟩:=bS h
 obtain ⟨b,e,h⟩:=bS h
 refine eX (some (⟨Unit,fun _=> [tM 1 (.ptr 1 0),tM 22 (lF 2 (List.map enc_api_Item p0.Items)),tM 23 (iI (p0.Items.length:Int)),tM 24 (iI c),tM 74 (.sb ((decide (c>(0:Int)))&&((decide (d.T≥a.T))||(extreme_beats p0.Max a.V b.V)))),tB 1 (enc_api_Extreme p0)],fun _=>True,fun _=>0⟩,1000000)) (An ?_ (fun _ _=> ?_))
 refine An (fun g7=> ?_) (fun g7=> ?_)
 refine eX [iI d.T,iI d.V] (An (idx_map enc_api_Item (gdT g7 g)) ?_)
 refine An (fun g8=> ?_) (fun g8=> ?_)
 refine eX [iI b.T,iI b.V] (An (idx_map enc_api_Item (gdT (aR g7 (nE g8)) e)) ?_)
 refine cK (An (cW (c_extreme_beats' p0.Max a.V b.V _ rfl) (r3 trivial)) (r1 ?_))
 exact jU (An trivial (r1 (fr (r2 (An (Eq.symm (aR g7 (oR g8 rfl))) (r4 (fr trivial)))))))
 exact jU (An trivial (r1 (fr (r2 (An (Eq.symm (aR g7 (oL g8))) (r4 (fr trivial)))))))
 exact jU (An trivial (r1 (fr (r2 (An (Eq.symm (aL g7)) (r4 (fr trivial)))))))
 refine cD h (fun g9 h=> ?_) (fun g9 h=> ?_)
 cases retS h hr1
 exact eN (r1 trivial)
 exact eN (jT (_,m1) (An (hl1 _ (oJ h).symm) (An (jL m1) (r1 (fr (r6 (fr trivial)))))))
 replace h:=cT (oL (oR g4 g5)) h
 cases retS h hr1
 exact eN (r1 trivial)
 replace h:=cT (oL (oL g4)) h
 cases retS h hr1
 exact eN (r1 trivial)
 replace h:=popS h hr1
 first|cases h|rw [←oJ h]
 exact eN (r1 trivial)
 replace h:=cT (oL g1) h
 first|cases h|rw [←oJ h]
 exact eN (r1 trivial)
theorem c_chain_Validate (p0:api_Chain) (r:Int) (h:chain_Validate p0=some r):Contract Tryz.prog 286 [.agg (enc_api_Chain p0)] [] (iI r) []:=by
 refine C0 Tryz.func286 Tryz.call286 1 ?_
 delta chain_Validate at h
 refine eN (eN (eN (An (fun g1=> ?_) (fun g1=> ?_))))
 refine An (fun g2=> ?_) (fun g2=> ?_)
 refine An (fun g3=> ?_) (fun g3=> ?_)
 refine An (fun g4=> ?_) (fun g4=> ?_)
 refine An (fun g5=> ?_) (fun g5=> ?_)
 refine An (fun g6=> ?_) (fun g6=> ?_)
 refine eX [iI (p0.Links.length:Int)] (An (lenS enc_api_Link p0.Links) ?_)
 refine An (fun g7=> ?_) (fun g7=> ?_)
 replace h:=cT (oR (oR (oR (oR (oR (oR g1 g2) g3) g4) g5) g6) g7) h
 first|cases h|rw [←oJ h]
 exact eN (r1 trivial)
 replace h:=cF (oR (oR (oR (oR (oR (oR g1 g2) g3) g4) g5) g6) g7) h
 refine eN (cD h (fun g8 h=> ?_) (fun g8 h=> ?_))
 refine eN (eN (eX [iI (p0.Links.length:Int)] (An (lenS enc_api_Link p0.Links) ?_)))
 refine An (fun g9=> ?_) (fun g9=> ?_)
 refine An (fun g10=> ?_) (fun g10=> ?_)
 replace h:=cT (oR g9 g10) h
 first|cases h|rw [←oJ h]
 exact eN (r1 trivial)
 replace h:=cF (oR g9 g10) h
 first|cases h|rw [←oJ h]
 exact eN (r1 trivial)
 replace h:=cT (oL g9) h
 first|cases h|rw [←oJ h]
 exact eN (r1 trivial)
 refine eN (eX [iI (p0.Links.length:Int)] (An (lenS enc_api_Link p0.Links) ?_))
 refine cD h (fun g11 h=> ?_) (fun g11 h=> ?_)
 first|cases h|rw [←oJ h]
 exact eN (r1 trivial)
 refine eN (eX [iI (p0.Links.length:Int)] (An (lenS enc_api_Link p0.Links) ?_))
 replace h:chain_Validate_l6 p0 (0:Int)=some r:=h
 delta chain_Validate_l6 at h
 obtain ⟨n1,h⟩:=loopS h
 refine eX (Sum.inl ⟨Int×Nat,fun q=> [tM 1 (.ptr 1 0),tM 58 (lF 2 (List.map enc_api_Link p0.Links)),tM 59 (iI (p0.Links.length:Int)),tM 60 (iI q.1),tB 1 (enc_api_Chain p0)],fun q=>loopN (fun (s:Int)=>chain_Validate_l6s p0 s) q.2 q.1=some r,fun q=>q.2⟩) (An (eX [] (eX [] (eX ((0:Int),n1) (An h (r1 (fr (r6 (fr trivial)))))))) ?_)
 clear h
 refine fun q h=> ?_
 obtain ⟨c,n1⟩:=q
 obtain ⟨m1,x1,hm1,h,hl1,hr1⟩:=loopN_step h
 replace hm1:n1=m1+1:=hm1
 subst hm1
 replace h:chain_Validate_l6s p0 c=some x1:=h
 delta chain_Validate_l6s at h
 refine eN (cD h (fun g12 h=> ?_) (fun g12 h=> ?_))
 refine eN ?_
 obtain ⟨a,i,h⟩:=bS h
 refine eX [iI a.I,iI a.V] (An (idx_map enc_api_Link i) ?_)
 refine eN (eN (An (fun g13=> ?_) (fun g13=> ?_)))
 refine An (fun g14=> ?_) (fun g14=> ?_)
 refine An (fun g15=> ?_) (fun g15=> ?_)
 refine An (fun g16=> ?_) (fun g16=> ?_)
 refine An (fun g17=> ?_) (fun g17=> ?_)
 replace h:=cT (oR (oR (oR (oR g13 g14) g15) g16) g17) h
 cases retS h hr1
 exact eN (r1 trivial)
 replace h:=cF (oR (oR (oR (oR g13 g14) g15) g16) g17) h
 refine eN ?_
 obtain ⟨d,j,h⟩:=bS h
 obtain ⟨b,f,h⟩:=bS h
 refine eX (some (⟨Unit,fun _=> [tM 1 (.ptr 1 0),tM 58 (lF 2 (List.map enc_api_Link p0.Links)),tM 59 (iI (p0.Links.length:Int)),tM 60 (iI c),tM 123 (.sb ((decide (c>(0:Int)))&&((decide (a.I≤d.I))||(decide (a.I>(w64 (b.I+p0.W))))))),tB 1 (enc_api_Chain p0)],fun _=>True,fun _=>0⟩,1000000)) (An ?_ (fun _ _=> ?_))
 refine An (fun g18=> ?_) (fun g18=> ?_)
 refine eX [iI d.I,iI d.V] (An (idx_map enc_api_Link (gdT g18 j)) ?_)
 refine An (fun g19=> ?_) (fun g19=> ?_)
 refine eX [iI b.I,iI b.V] (An (idx_map enc_api_Link (gdT (aR g18 (nE g19)) f)) ?_)
 exact jU (An trivial (r1 (fr (r2 (An (Eq.symm (aR g18 (oR g19 rfl))) (r4 (fr trivial)))))))
 exact jU (An trivial (r1 (fr (r2 (An (Eq.symm (aR g18 (oL g19))) (r4 (fr trivial)))))))
 exact jU (An trivial (r1 (fr (r2 (An (Eq.symm (aL g18)) (r4 (fr trivial)))))))
 refine cD h (fun g20 h=> ?_) (fun g20 h=> ?_)
 cases retS h hr1
 exact eN (r1 trivial)
 exact eN (jT (_,m1) (An (hl1 _ (oJ h).symm) (An (jL m1) (r1 (fr (r6 (fr trivial)))))))
 replace h:=cT (oL (oR (oR (oR g13 g14) g15) g16)) h
 cases retS h hr1
 exact eN (r1 trivial)
 replace h:=cT (oL (oL (oR (oR g13 g14) g15))) h
 cases retS h hr1
 exact eN (r1 trivial)
 replace h:=cT (oL (oL (oL (oR g13 g14)))) h
 cases retS h hr1
 exact eN (r1 trivial)
 replace h:=cT (oL (oL (oL (oL g13)))) h
 cases retS h hr1
 exact eN (r1 trivial)
 replace h:=popS h hr1
 refine eN ?_
 obtain ⟨e,g,h⟩:=bS h
 refine eN (An (fun g21=> ?_) (fun g21=> ?_))
 refine eX [iI (p0.Links.length:Int)] (An (lenS enc_api_Link p0.Links) ?_)
 refine eX [iI e.I,iI e.V] (An (idx_map enc_api_Link (gdT (nE g21) g)) ?_)
 refine An (fun g22=> ?_) (fun g22=> ?_)
 replace h:=cT (oR g21 g22) h
 first|cases h|rw [←oJ h]
 exact eN (r1 trivial)
 replace h:=cF (oR g21 g22) h
 first|cases h|rw [←oJ h]
 exact eN (r1 trivial)
 replace h:=cT (oL g21) h
 first|cases h|rw [←oJ h]
 exact eN (r1 trivial)
 replace h:=cT (oL (oR (oR (oR (oR (oR g1 g2) g3) g4) g5) g6)) h
 first|cases h|rw [←oJ h]
 exact eN (r1 trivial)
 replace h:=cT (oL (oL (oR (oR (oR (oR g1 g2) g3) g4) g5))) h
 first|cases h|rw [←oJ h]
 exact eN (r1 trivial)
 replace h:=cT (oL (oL (oL (oR (oR (oR g1 g2) g3) g4)))) h
 first|cases h|rw [←oJ h]
 exact eN (r1 trivial)
 replace h:=cT (oL (oL (oL (oL (oR (oR g1 g2) g3))))) h
 first|cases h|rw [←oJ h]
 exact eN (r1 trivial)
 replace h:=cT (oL (oL (oL (oL (oL (oR g1 g2)))))) h
 first|cases h|rw [←oJ h]
 exact eN (r1 trivial)
 replace h:=cT (oL (oL (oL (oL (oL (oL g1)))))) h
 first|cases h|rw [←oJ h]
 exact eN (r1 trivial)
theorem c_sample_Validate (p0:api_Sample) (r:Int) (h:sample_Validate p0=some r):Contract Tryz.prog 202 [.agg [lF 5 (List.map enc_api_Chain p0.Chains)]] [] (iI r) []:=by
 refine C0 Tryz.func202 Tryz.call202 1 ?_
 delta sample_Validate at h
 refine eN (eN (eN (eX [iI (p0.Chains.length:Int)] (An (lenS enc_api_Chain p0.Chains) ?_))))
 refine An (fun g1=> ?_) (fun g1=> ?_)
 refine eX [iI (p0.Chains.length:Int)] (An (lenS enc_api_Chain p0.Chains) ?_)
 refine An (fun g2=> ?_) (fun g2=> ?_)
 replace h:=cT (oR g1 g2) h
 first|cases h|rw [←oJ h]
 exact eN (r1 trivial)
 replace h:=cF (oR g1 g2) h
 refine eN (eX [iI (p0.Chains.length:Int)] (An (lenS enc_api_Chain p0.Chains) ?_))
 replace h:sample_Validate_l3 p0 (0:Int)=some r:=h
 delta sample_Validate_l3 at h
 obtain ⟨n1,h⟩:=loopS h
 refine eX (Sum.inl ⟨Int×Nat,fun q=> [tM 1 (.ptr 1 0),tM 17 (lF 5 (List.map enc_api_Chain p0.Chains)),tM 18 (iI (p0.Chains.length:Int)),tM 19 (iI q.1),tB 1 [lF 5 (List.map enc_api_Chain p0.Chains)]],fun q=>loopN (fun (s:Int)=>sample_Validate_l3s p0 s) q.2 q.1=some r,fun q=>q.2⟩) (An (eX [] (eX [] (eX ((0:Int),n1) (An h (r1 (fr (r2 (fr trivial)))))))) ?_)
 clear h
 refine fun q h=> ?_
 obtain ⟨b,n1⟩:=q
 obtain ⟨m1,x1,hm1,h,hl1,hr1⟩:=loopN_step h
 replace hm1:n1=m1+1:=hm1
 subst hm1
 replace h:sample_Validate_l3s p0 b=some x1:=h
 delta sample_Validate_l3s at h
 refine eN (cD h (fun g3 h=> ?_) (fun g3 h=> ?_))
 refine eN ?_
 obtain ⟨a,c,h⟩:=bS h
 refine eX (enc_api_Chain a) (An (idx_map enc_api_Chain c) ?_)
 refine eN ?_
 obtain ⟨d,e,h⟩:=bS h
 refine eX (enc_api_Chain d) (An (idx_map enc_api_Chain e) ?_)
 refine eN ?_
 obtain ⟨f,g,h⟩:=bS h
 refine eN (cK (An (cW (c_chain_Validate a f g) (r4 (fr trivial))) (r1 ?_)))
 refine An (fun g4=> ?_) (fun g4=> ?_)
 refine An (fun g5=> ?_) (fun g5=> ?_)
 refine An (fun g6=> ?_) (fun g6=> ?_)
 refine An (fun g7=> ?_) (fun g7=> ?_)
 replace h:=cT (oR (oR (oR g4 g5) g6) g7) h
 cases retS h hr1
 exact eN (r1 trivial)
 replace h:=cF (oR (oR (oR g4 g5) g6) g7) h
 exact eN (jT (_,m1) (An (hl1 _ (oJ h).symm) (An (jL m1) (r1 (fr (r2 (fr trivial)))))))
 replace h:=cT (oL (oR (oR g4 g5) g6)) h
 cases retS h hr1
 exact eN (r1 trivial)
 replace h:=cT (oL (oL (oR g4 g5))) h
 cases retS h hr1
 exact eN (r1 trivial)
 replace h:=cT (oL (oL (oL g4))) h
 cases retS h hr1
 exact eN (r1 trivial)
 replace h:=popS h hr1
 first|cases h|rw [←oJ h]
 exact eN (r1 trivial)
 replace h:=cT (oL g1) h
 first|cases h|rw [←oJ h]
 exact eN (r1 trivial)
theorem c_summary_most (p0:Int) (p1:Int) (r:Int) (h:summary_most p0 p1=some r):Contract Tryz.prog 206 [iI p0,iI p1] [] (iI r) []:=by
 refine C0 Tryz.func206 Tryz.call206 1 ?_
 delta summary_most at h
 refine eN (eN ?_)
 obtain ⟨a,h⟩:=ckS h
 refine An (oD a) ?_
 first|cases h|rw [←oJ h]
 exact (r1 trivial)
theorem c_summary_Validate (p0:api_Summary) (r:Int) (h:summary_Validate p0=some r):Contract Tryz.prog 204 [.agg (enc_api_Summary p0)] [] (iI r) []:=by
 refine C0 Tryz.func204 Tryz.call204 1 ?_
 delta summary_Validate at h
 refine eN (eN (eN (An (fun g1=> ?_) (fun g1=> ?_))))
 refine An (fun g2=> ?_) (fun g2=> ?_)
 refine An (fun g3=> ?_) (fun g3=> ?_)
 refine An (fun g4=> ?_) (fun g4=> ?_)
 refine An (fun g5=> ?_) (fun g5=> ?_)
 refine An (fun g6=> ?_) (fun g6=> ?_)
 refine eX [iI (p0.Tuples.length:Int)] (An (lenS enc_api_Tuple p0.Tuples) ?_)
 refine An (fun g7=> ?_) (fun g7=> ?_)
 replace h:=cT (oR (oR (oR (oR (oR (oR g1 g2) g3) g4) g5) g6) g7) h
 first|cases h|rw [←oJ h]
 exact eN (r1 trivial)
 replace h:=cF (oR (oR (oR (oR (oR (oR g1 g2) g3) g4) g5) g6) g7) h
 refine eN (cD h (fun g8 h=> ?_) (fun g8 h=> ?_))
 refine eN (eX [iI (p0.Tuples.length:Int)] (An (lenS enc_api_Tuple p0.Tuples) ?_))
 refine cD h (fun g9 h=> ?_) (fun g9 h=> ?_)
 first|cases h|rw [←oJ h]
 exact eN (r1 trivial)
 first|cases h|rw [←oJ h]
 exact eN (r1 trivial)
 refine eN (eX [iI (p0.Tuples.length:Int)] (An (lenS enc_api_Tuple p0.Tuples) ?_))
 refine cD h (fun g10 h=> ?_) (fun g10 h=> ?_)
 first|cases h|rw [←oJ h]
 exact eN (r1 trivial)
 refine eN ?_
 obtain ⟨c,m,h⟩:=bS h
 refine cK (An (cW (c_summary_most p0.N p0.K c m) (r2 trivial)) (r1 ?_))
 refine eN (eX [iI (p0.Tuples.length:Int)] (An (lenS enc_api_Tuple p0.Tuples) ?_))
 replace h:summary_Validate_l6 p0 c (0:Int) (0:Int)=some r:=h
 delta summary_Validate_l6 at h
 obtain ⟨n1,h⟩:=loopS h
 refine eX (Sum.inl ⟨(Int×Int)×Nat,fun q=> [tM 1 (.ptr 1 0),tM 3 (iI c),tM 4 (iI q.1.1),tM 62 (lF 3 (List.map enc_api_Tuple p0.Tuples)),tM 63 (iI (p0.Tuples.length:Int)),tM 64 (iI q.1.2),tB 1 (enc_api_Summary p0)],fun q=>loopN (fun (s:(Int×Int))=>summary_Validate_l6s p0 c s.1 s.2) q.2 q.1=some r,fun q=>q.2⟩) (An (eX [] (eX [] (eX (((0:Int),(0:Int)),n1) (An h (r3 (fr (r5 (fr trivial)))))))) ?_)
 clear h
 refine fun q h=> ?_
 obtain ⟨⟨g,e⟩,n1⟩:=q
 obtain ⟨m1,x1,hm1,h,hl1,hr1⟩:=loopN_step h
 replace hm1:n1=m1+1:=hm1
 subst hm1
 replace h:summary_Validate_l6s p0 c g e=some x1:=h
 delta summary_Validate_l6s at h
 refine eN (cD h (fun g11 h=> ?_) (fun g11 h=> ?_))
 refine eN ?_
 obtain ⟨a,k,h⟩:=bS h
 refine eX [iI a.V,iI a.G,iI a.D] (An (idx_map enc_api_Tuple k) ?_)
 refine eN ?_
 obtain ⟨b,i,h⟩:=bS h
 refine eX (some (⟨Unit,fun _=> [tM 1 (.ptr 1 0),tM 3 (iI c),tM 4 (iI g),tM 6 (.ptr 1796 0),tM 62 (lF 3 (List.map enc_api_Tuple p0.Tuples)),tM 63 (iI (p0.Tuples.length:Int)),tM 64 (iI e),tM 92 (.sb (((decide (a.V<(-4096:Int)))||(decide (a.V>(4096:Int))))||((decide (e>(0:Int)))&&(decide (b.V>a.V))))),tB 1 (enc_api_Summary p0),tB 1796 [iI a.V,iI a.G,iI a.D]],fun _=>True,fun _=>0⟩,1000000)) (An ?_ (fun _ _=> ?_))
 refine An (fun g12=> ?_) (fun g12=> ?_)
 refine An (fun g13=> ?_) (fun g13=> ?_)
 refine An (fun g14=> ?_) (fun g14=> ?_)
 refine eX [iI b.V,iI b.G,iI b.D] (An (idx_map enc_api_Tuple (gdT (aR (nE (oR g12 g13)) g14) i)) ?_)
 exact jU (An trivial (r3 (fr (r2 (An (Eq.symm (oR (oR g12 g13) (aR g14 rfl))) (r3 (fr (r3 trivial))))))))
 exact jU (An trivial (r3 (fr (r2 (An (Eq.symm (oR (oR g12 g13) (aL g14))) (r3 (fr (r3 trivial))))))))
 exact jU (An trivial (r3 (fr (r2 (An (Eq.symm (oL (oR g12 g13))) (r3 (fr (r3 trivial))))))))
 exact jU (An trivial (r3 (fr (r2 (An (Eq.symm (oL (oL g12))) (r3 (fr (r3 trivial))))))))
 refine cD h (fun g15 h=> ?_) (fun g15 h=> ?_)
 cases retS h hr1
 exact eN (r1 trivial)
 refine eN (eN (An (fun g16=> ?_) (fun g16=> ?_)))
 refine An (fun g17=> ?_) (fun g17=> ?_)
 refine An (fun g18=> ?_) (fun g18=> ?_)
 refine An (fun g19=> ?_) (fun g19=> ?_)
 replace h:=cT (oR (oR (oR g16 g17) g18) g19) h
 cases retS h hr1
 exact eN (r1 trivial)
 replace h:=cF (oR (oR (oR g16 g17) g18) g19) h
 exact eN (eN (jT (_,m1) (An (hl1 _ (oJ h).symm) (An (jL m1) (r3 (fr (r5 (fr trivial))))))))
 replace h:=cT (oL (oR (oR g16 g17) g18)) h
 cases retS h hr1
 exact eN (r1 trivial)
 replace h:=cT (oL (oL (oR g16 g17))) h
 cases retS h hr1
 exact eN (r1 trivial)
 replace h:=cT (oL (oL (oL g16))) h
 cases retS h hr1
 exact eN (r1 trivial)
 replace h:=popS h hr1
 refine eN ?_
 obtain ⟨f,l,h⟩:=bS h
 obtain ⟨d,j,h⟩:=bS h
 refine eX [iI f.V,iI f.G,iI f.D] (An (idx_map enc_api_Tuple l) ?_)
 refine eX [iI (p0.Tuples.length:Int)] (An (lenS enc_api_Tuple p0.Tuples) ?_)
 refine eX [iI d.V,iI d.G,iI d.D] (An (idx_map enc_api_Tuple j) ?_)
 refine eN (eN (An (fun g20=> ?_) (fun g20=> ?_)))
 refine An (fun g21=> ?_) (fun g21=> ?_)
 refine An (fun g22=> ?_) (fun g22=> ?_)
 refine An (fun g23=> ?_) (fun g23=> ?_)
 replace h:=cT (oR (oR (oR g20 g21) g22) g23) h
 first|cases h|rw [←oJ h]
 exact eN (r1 trivial)
 replace h:=cF (oR (oR (oR g20 g21) g22) g23) h
 first|cases h|rw [←oJ h]
 exact eN (r1 trivial)
 replace h:=cT (oL (oR (oR g20 g21) g22)) h
 first|cases h|rw [←oJ h]
 exact eN (r1 trivial)
 replace h:=cT (oL (oL (oR g20 g21))) h
 first|cases h|rw [←oJ h]
 exact eN (r1 trivial)
 replace h:=cT (oL (oL (oL g20))) h
 first|cases h|rw [←oJ h]
 exact eN (r1 trivial)
 replace h:=cT (oL (oR (oR (oR (oR (oR g1 g2) g3) g4) g5) g6)) h
 first|cases h|rw [←oJ h]
 exact eN (r1 trivial)
 replace h:=cT (oL (oL (oR (oR (oR (oR g1 g2) g3) g4) g5))) h
 first|cases h|rw [←oJ h]
 exact eN (r1 trivial)
 replace h:=cT (oL (oL (oL (oR (oR (oR g1 g2) g3) g4)))) h
 first|cases h|rw [←oJ h]
 exact eN (r1 trivial)
 replace h:=cT (oL (oL (oL (oL (oR (oR g1 g2) g3))))) h
 first|cases h|rw [←oJ h]
 exact eN (r1 trivial)
 replace h:=cT (oL (oL (oL (oL (oL (oR g1 g2)))))) h
 first|cases h|rw [←oJ h]
 exact eN (r1 trivial)
 replace h:=cT (oL (oL (oL (oL (oL (oL g1)))))) h
 first|cases h|rw [←oJ h]
 exact eN (r1 trivial)
theorem c_math_bits_Len64 (p0:Int) (r:Int) (h:math_bits_Len64 p0=some r):Contract Tryz.prog 338 [iU p0] [] (iI r) []:=by
 unfold math_bits_Len64 at h
 obtain ⟨k,h⟩:=ckS h
 obtain ⟨k1,k2⟩:=oD k
 cases h
 exact calls_contract1 Tryz.call338 fun w=>walk_Len64 p0 w k1 k2
theorem c_num_Bits (p0:Int) (r:Int) (h:num_Bits p0=some r):Contract Tryz.prog 292 [iI p0] [] (iI r) []:=by
 refine C0 Tryz.func292 Tryz.call292 1 ?_
 delta num_Bits at h
 refine eN (eN (cD h (fun g1 h=> ?_) (fun g1 h=> ?_)))
 first|cases h|rw [←oJ h]
 exact eN (r1 trivial)
 refine eN ?_
 obtain ⟨a,b,h⟩:=bS h
 refine cK (An (cW (c_math_bits_Len64 (wu64 p0) a b) (r1 trivial)) (r1 ?_))
 first|cases h|rw [←oJ h]
 exact (r1 trivial)
theorem c_quantile_Size (p0:Int) (p1:Int) (r:Int) (h:quantile_Size p0 p1=some r):Contract Tryz.prog 209 [iI p0,iI p1] [] (iI r) []:=by
 refine C0 Tryz.func209 Tryz.call209 1 ?_
 delta quantile_Size at h
 refine eN (eN (cK (An (cW (c_quantile_good' (1:Int) p0 p1 (0:Int) _ rfl) (r4 trivial)) (r1 ?_))))
 refine cD h (fun g1 h=> ?_) (fun g1 h=> ?_)
 first|cases h|rw [←oJ h]
 exact eN (r1 trivial)
 refine eN ?_
 obtain ⟨a,b,h⟩:=bS h
 refine cK (An (cW (c_num_Bits p1 a b) (r1 trivial)) (r1 ?_))
 first|cases h|rw [←oJ h]
 exact (r1 trivial)
theorem c_blocks_plain (p0:(List api_Block)) (r:(List api_Bucket)) (h:blocks_plain p0=some r):Contract Tryz.prog 288 [lF 5 (List.map enc_api_Block p0)] [] (lF 2 (List.map enc_api_Bucket r)) []:=by
 refine C0 Tryz.func288 Tryz.call288 1 ?_
 delta blocks_plain at h
 refine eN (eN (eN (eX [iI (p0.length:Int)] (An (lenS enc_api_Block p0) ?_))))
 replace h:blocks_plain_l2 p0 ([]:List api_Bucket) (0:Int)=some r:=h
 delta blocks_plain_l2 at h
 obtain ⟨n1,h⟩:=loopS h
 refine eX (Sum.inl ⟨((List api_Bucket)×Int)×Nat,fun q=> [tM 3 (.own 768),tM 6 (lF 5 (List.map enc_api_Block p0)),tM 7 (iI (p0.length:Int)),tM 8 (iI q.1.2),(.tok 768, .tok 271 2 (List.map enc_api_Bucket q.1.1))],fun q=>loopN (fun (s:((List api_Bucket)×Int))=>blocks_plain_l2s p0 s.1 s.2) q.2 q.1=some r,fun q=>q.2⟩) (An (eX [(768,none)] (eX [] (eX ((([]:List api_Bucket),(0:Int)),n1) (An h (r1 (fr (r3 trivial))))))) ?_)
 clear h
 refine fun q h=> ?_
 obtain ⟨⟨b,c⟩,n1⟩:=q
 obtain ⟨m1,x1,hm1,h,hl1,hr1⟩:=loopN_step h
 replace hm1:n1=m1+1:=hm1
 subst hm1
 replace h:blocks_plain_l2s p0 b c=some x1:=h
 delta blocks_plain_l2s at h
 refine eN (cD h (fun g1 h=> ?_) (fun g1 h=> ?_))
 refine eN ?_
 obtain ⟨a,d,h⟩:=bS h
 refine eX (enc_api_Block a) (An (idx_map enc_api_Block d) ?_)
 refine eN ?_
 obtain ⟨e,h⟩:=ckS h
 refine An (kA (oD e)) ?_
 exact eN (eX [(768,some 1288)] (eX [] (eX (((b++ [(api_Bucket.mk a.T a.Level)]),(w64 (c+(1:Int)))),m1) (An (hl1 ((b++ [(api_Bucket.mk a.T a.Level)]),(w64 (c+(1:Int)))) (oJ h).symm) (An (Nat.lt_succ_self m1) (r1 (fr (r2 (An lE trivial)))))))))
 replace h:=popS h hr1
 first|cases h|rw [←oJ h]
 exact eN (fr trivial)
theorem c_rank_Validate (p0:api_Ranks) (r:Int) (h:rank_Validate p0=some r):Contract Tryz.prog 313 [.agg [iI p0.N,lF 3 (List.map enc_api_Entry p0.Entries)]] [] (iI r) []:=by
 refine C0 Tryz.func313 Tryz.call313 1 ?_
 delta rank_Validate at h
 refine eN (eN (eX [iI (p0.Entries.length:Int)] (An (lenS enc_api_Entry p0.Entries) ?_)))
 refine eN (eN (An (fun g1=> ?_) (fun g1=> ?_)))
 refine An (fun g2=> ?_) (fun g2=> ?_)
 refine An (fun g3=> ?_) (fun g3=> ?_)
 replace h:=cT (oR (oR g1 g2) g3) h
 first|cases h|rw [←oJ h]
 exact eN (r1 trivial)
 replace h:=cF (oR (oR g1 g2) g3) h
 refine eN (eX [iI (p0.Entries.length:Int)] (An (lenS enc_api_Entry p0.Entries) ?_))
 replace h:rank_Validate_l3 p0 (0:Int)=some r:=h
 delta rank_Validate_l3 at h
 obtain ⟨n1,h⟩:=loopS h
 refine eX (Sum.inl ⟨Int×Nat,fun q=> [tM 1 (.ptr 1 0),tM 3 (iI (p0.Entries.length:Int)),tM 27 (lF 3 (List.map enc_api_Entry p0.Entries)),tM 28 (iI (p0.Entries.length:Int)),tM 29 (iI q.1),tB 1 [iI p0.N,lF 3 (List.map enc_api_Entry p0.Entries)]],fun q=>loopN (fun (s:Int)=>rank_Validate_l3s p0 s) q.2 q.1=some r,fun q=>q.2⟩) (An (eX [] (eX [] (eX ((0:Int),n1) (An h (r2 (fr (r3 (fr trivial)))))))) ?_)
 clear h
 refine fun q h=> ?_
 obtain ⟨f,n1⟩:=q
 obtain ⟨m1,x1,hm1,h,hl1,hr1⟩:=loopN_step h
 replace hm1:n1=m1+1:=hm1
 subst hm1
 replace h:rank_Validate_l3s p0 f=some x1:=h
 delta rank_Validate_l3s at h
 refine eN (cD h (fun g4 h=> ?_) (fun g4 h=> ?_))
 refine eN (eN ?_)
 obtain ⟨d,j,h⟩:=bS h
 refine eX [iI d.V,iI d.Min,iI d.Max] (An (idx_map enc_api_Entry j) ?_)
 refine eN (eN (An (fun g5=> ?_) (fun g5=> ?_)))
 refine An (fun g6=> ?_) (fun g6=> ?_)
 refine An (fun g7=> ?_) (fun g7=> ?_)
 replace h:=cT (oR (oR g5 g6) g7) h
 cases retS h hr1
 exact eN (r1 trivial)
 replace h:=cF (oR (oR g5 g6) g7) h
 refine eN (eN (cD h (fun g8 h=> ?_) (fun g8 h=> ?_)))
 refine eN ?_
 obtain ⟨c,g,h⟩:=bS h
 refine eX [iI c.V,iI c.Min,iI c.Max] (An (idx_map enc_api_Entry g) ?_)
 refine eN (eN (An (fun g9=> ?_) (fun g9=> ?_)))
 refine An (fun g10=> ?_) (fun g10=> ?_)
 refine An (fun g11=> ?_) (fun g11=> ?_)
 replace h:=cT (oR (oR g9 g10) g11) h
 cases retS h hr1
 exact eN (r1 trivial)
 replace h:=cF (oR (oR g9 g10) g11) h
 exact eN (jT (_,m1) (An (hl1 _ (oJ h).symm) (An (jL m1) (r2 (fr (r3 (fr trivial)))))))
 replace h:=cT (oL (oR g9 g10)) h
 cases retS h hr1
 exact eN (r1 trivial)
 replace h:=cT (oL (oL g9)) h
 cases retS h hr1
 exact eN (r1 trivial)
 exact eN (jT (_,m1) (An (hl1 _ (oJ h).symm) (An (jL m1) (r2 (fr (r3 (fr trivial)))))))
 replace h:=cT (oL (oR g5 g6)) h
 cases retS h hr1
 exact eN (r1 trivial)
 replace h:=cT (oL (oL g5)) h
 cases retS h hr1
 exact eN (r1 trivial)
 replace h:=popS h hr1
 refine eN ?_
 obtain ⟨b,i,h⟩:=bS h
 obtain ⟨a,e,h⟩:=bS h
 refine eX (some (⟨Unit,fun _=> [tM 100 (.sb ((decide ((p0.Entries.length:Int)>(0:Int)))&&((b.Max !=(1:Int))||(a.Min !=p0.N))))],fun _=>True,fun _=>0⟩,1000000)) (An ?_ (fun _ _=> ?_))
 refine An (fun g12=> ?_) (fun g12=> ?_)
 refine eX [iI b.V,iI b.Min,iI b.Max] (An (idx_map enc_api_Entry (gdT g12 i)) ?_)
 refine An (fun g13=> ?_) (fun g13=> ?_)
 refine eX [iI a.V,iI a.Min,iI a.Max] (An (idx_map enc_api_Entry (gdT (aR g12 (nE g13)) e)) ?_)
 exact jU (An trivial (r1 (An (Eq.symm (aR g12 (oR g13 rfl))) trivial)))
 exact jU (An trivial (r1 (An (Eq.symm (aR g12 (oL g13))) trivial)))
 exact jU (An trivial (r1 (An (Eq.symm (aL g12)) trivial)))
 refine cD h (fun g14 h=> ?_) (fun g14 h=> ?_)
 first|cases h|rw [←oJ h]
 exact eN (r1 trivial)
 first|cases h|rw [←oJ h]
 exact eN (r1 trivial)
 replace h:=cT (oL (oR g1 g2)) h
 first|cases h|rw [←oJ h]
 exact eN (r1 trivial)
 replace h:=cT (oL (oL g1)) h
 first|cases h|rw [←oJ h]
 exact eN (r1 trivial)
theorem c_rank_Gap (p0:api_Ranks) (r:Int) (h:rank_Gap p0=some r):Contract Tryz.prog 314 [.agg [iI p0.N,lF 3 (List.map enc_api_Entry p0.Entries)]] [] (iI r) []:=by
 refine C0 Tryz.func314 Tryz.call314 1 ?_
 delta rank_Gap at h
 refine eN (eN ?_)
 obtain ⟨d,e,h⟩:=bS h
 refine eN (cK (An (cW (c_rank_Validate p0 d e) (r1 (fr trivial))) (r1 ?_)))
 refine An (fun g1=> ?_) (fun g1=> ?_)
 refine eX [iI (p0.Entries.length:Int)] (An (lenS enc_api_Entry p0.Entries) ?_)
 refine An (fun g2=> ?_) (fun g2=> ?_)
 replace h:=cT (oR g1 g2) h
 first|cases h|rw [←oJ h]
 exact eN (r1 trivial)
 replace h:=cF (oR g1 g2) h
 refine eN (eN ?_)
 replace h:rank_Gap_l3 p0 (1:Int) (1:Int)=some r:=h
 delta rank_Gap_l3 at h
 obtain ⟨n1,h⟩:=loopS h
 refine eX (Sum.inl ⟨(Int×Int)×Nat,fun q=> [tM 1 (.ptr 1 0),tM 3 (iI q.1.1),tM 4 (iI q.1.2),tB 1 [iI p0.N,lF 3 (List.map enc_api_Entry p0.Entries)]],fun q=>loopN (fun (s:(Int×Int))=>rank_Gap_l3s p0 s.1 s.2) q.2 q.1=some r,fun q=>q.2⟩) (An (eX [] (eX [] (eX (((1:Int),(1:Int)),n1) (An h (r4 (fr trivial)))))) ?_)
 clear h
 refine fun q h=> ?_
 obtain ⟨⟨f,g⟩,n1⟩:=q
 obtain ⟨m1,x1,hm1,h,hl1,hr1⟩:=loopN_step h
 replace hm1:n1=m1+1:=hm1
 subst hm1
 replace h:rank_Gap_l3s p0 f g=some x1:=h
 delta rank_Gap_l3s at h
 refine eN (eX [iI (p0.Entries.length:Int)] (An (lenS enc_api_Entry p0.Entries) ?_))
 refine cD h (fun g3 h=> ?_) (fun g3 h=> ?_)
 refine eN ?_
 obtain ⟨b,i,h⟩:=bS h
 obtain ⟨a,c,h⟩:=bS h
 refine eX [iI b.V,iI b.Min,iI b.Max] (An (idx_map enc_api_Entry i) ?_)
 refine eX [iI a.V,iI a.Min,iI a.Max] (An (idx_map enc_api_Entry c) ?_)
 exact eN (jT (_,m1) (An (hl1 _ (oJ h).symm) (An (jL m1) (r4 (fr trivial)))))
 replace h:=popS h hr1
 first|cases h|rw [←oJ h]
 exact eN (r1 trivial)
 replace h:=cT (oL g1) h
 first|cases h|rw [←oJ h]
 exact eN (r1 trivial)
theorem c_num_CeilDiv (p0:Int) (p1:Int) (r:(Int×Bool)) (h:num_CeilDiv p0 p1=some r):Contract Tryz.prog 343 [iI p0,iI p1] [] (.tup [iI r.1, .sb r.2]) []:=by
 refine C0 Tryz.func343 Tryz.call343 1 ?_
 delta num_CeilDiv at h
 refine eN (eN (eX (some (⟨Unit,fun _=> [tM 0 (iI p0),tM 1 (iI p1),tM 16 (.sb ((p1==(0:Int))||((p0==(-9223372036854775808:Int))&&(p1==(-1:Int)))))],fun _=>True,fun _=>0⟩,1000000)) (An ?_ (fun _ _=> ?_))))
 refine An (fun g1=> ?_) (fun g1=> ?_)
 refine An (fun g2=> ?_) (fun g2=> ?_)
 exact jU (An trivial (r3 (An (Eq.symm (oR g1 (aR g2 rfl))) trivial)))
 exact jU (An trivial (r3 (An (Eq.symm (oR g1 (aL g2))) trivial)))
 exact jU (An trivial (r3 (An (Eq.symm (oL g1)) trivial)))
 refine cD h (fun g3 h=> ?_) (fun g3 h=> ?_)
 first|cases h|rw [←oJ h]
 exact eN (r2 trivial)
 refine eN ?_
 obtain ⟨a,h⟩:=ckS h
 refine An (oD a) ?_
 refine eN ?_
 obtain ⟨b,h⟩:=ckS h
 refine eX (some (⟨Unit,fun _=> [tM 6 (iI (w64 (Int.tdiv p0 p1))),tM 30 (.sb (((Int.tmod p0 p1) !=(0:Int))&&((decide (p0<(0:Int)))==(decide (p1<(0:Int))))))],fun _=>True,fun _=>0⟩,2000000)) (An ?_ (fun _ _=> ?_))
 refine An (oD b) ?_
 refine An (fun g4=> ?_) (fun g4=> ?_)
 exact jU (An trivial (r2 (An (Eq.symm (aR g4 rfl)) trivial)))
 exact jU (An trivial (r2 (An (Eq.symm (aL g4)) trivial)))
 refine eN (cD h (fun g5 h=> ?_) (fun g5 h=> ?_))
 first|cases h|rw [←oJ h]
 exact eN (eN (r2 trivial))
 first|cases h|rw [←oJ h]
 exact eN (r2 trivial)
theorem c_blocks_Allowed (p0:Int) (p1:Int) (r:Int) (h:blocks_Allowed p0 p1=some r):Contract Tryz.prog 315 [iI p0,iI p1] [] (iI r) []:=by
 refine C0 Tryz.func315 Tryz.call315 1 ?_
 delta blocks_Allowed at h
 refine eN (eN (eN (An (fun g1=> ?_) (fun g1=> ?_))))
 refine An (fun g2=> ?_) (fun g2=> ?_)
 refine An (fun g3=> ?_) (fun g3=> ?_)
 refine An (fun g4=> ?_) (fun g4=> ?_)
 replace h:=cT (oR (oR (oR g1 g2) g3) g4) h
 first|cases h|rw [←oJ h]
 exact eN (r1 trivial)
 replace h:=cF (oR (oR (oR g1 g2) g3) g4) h
 refine eN (eN ?_)
 replace h:blocks_Allowed_l3 p0 p1 (0:Int) (0:Int)=some r:=h
 delta blocks_Allowed_l3 at h
 obtain ⟨n1,h⟩:=loopS h
 refine eX (Sum.inl ⟨(Int×Int)×Nat,fun q=> [tM 0 (iI p0),tM 1 (iI p1),tM 5 (iI q.1.1),tM 6 (iI q.1.2)],fun q=>loopN (fun (s:(Int×Int))=>blocks_Allowed_l3s p0 p1 s.1 s.2) q.2 q.1=some r,fun q=>q.2⟩) (An (eX [] (eX [] (eX (((0:Int),(0:Int)),n1) (An h (r5 trivial))))) ?_)
 clear h
 refine fun q h=> ?_
 obtain ⟨⟨b,a⟩,n1⟩:=q
 obtain ⟨m1,x1,hm1,h,hl1,hr1⟩:=loopN_step h
 replace hm1:n1=m1+1:=hm1
 subst hm1
 replace h:blocks_Allowed_l3s p0 p1 b a=some x1:=h
 delta blocks_Allowed_l3s at h
 refine eN (cD h (fun g5 h=> ?_) (fun g5 h=> ?_))
 refine eN (eN ?_)
 obtain ⟨c,h⟩:=ckS h
 refine An (oD c) ?_
 refine eN (eN (cD h (fun g6 h=> ?_) (fun g6 h=> ?_)))
 refine eN ?_
 obtain ⟨d,e,h⟩:=bS h
 refine cK (An (cW (c_num_CeilDiv (w64 ((ishl .i64 (1:Int) (wu64 a))-(1:Int))) p1 d e) (r2 trivial)) (r1 ?_))
 exact eN (eN (jT (_,m1) (An (hl1 _ (oJ h).symm) (An (jL m1) (r5 trivial)))))
 exact eN (jT (_,m1) (An (hl1 _ (oJ h).symm) (An (jL m1) (r5 trivial))))
 replace h:=popS h hr1
 first|cases h|rw [←oJ h]
 exact eN (r1 trivial)
 replace h:=cT (oL (oR (oR g1 g2) g3)) h
 first|cases h|rw [←oJ h]
 exact eN (r1 trivial)
 replace h:=cT (oL (oL (oR g1 g2))) h
 first|cases h|rw [←oJ h]
 exact eN (r1 trivial)
 replace h:=cT (oL (oL (oL g1))) h
 first|cases h|rw [←oJ h]
 exact eN (r1 trivial)
theorem c_blocks_Valid (p0:(List api_Block)) (p1:Int) (p2:Int) (r:Bool) (h:blocks_Valid p0 p1 p2=some r):Contract Tryz.prog 247 [lF 5 (List.map enc_api_Block p0),iI p1,iI p2] [] (.sb r) []:=by
 refine C0 Tryz.func247 Tryz.call247 1 ?_
 delta blocks_Valid at h
 refine eN (eN ?_)
 obtain ⟨d,n,h⟩:=bS h
 obtain ⟨e,f,h⟩:=bS h
 refine eN (An (fun g1=> ?_) (fun g1=> ?_))
 refine An (fun g2=> ?_) (fun g2=> ?_)
 refine cK (An (cW (c_blocks_plain p0 d (gdT (nE (oR g1 g2)) n)) (fr trivial)) (r1 ?_))
 refine cK (An (cW (c_buckets_Valid d p1 e (gdT (nE (oR g1 g2)) f)) (fr (r1 trivial))) (r1 ?_))
 refine An (fun g3=> ?_) (fun g3=> ?_)
 replace h:=cT (oR (oR g1 g2) g3) h
 first|cases h|rw [←oJ h]
 exact eN (r1 trivial)
 replace h:=cF (oR (oR g1 g2) g3) h
 refine eN (eX [iI (p0.length:Int)] (An (lenS enc_api_Block p0) ?_))
 replace h:blocks_Valid_l3 p0 p2 (0:Int)=some r:=h
 delta blocks_Valid_l3 at h
 obtain ⟨n1,h⟩:=loopS h
 refine eX (Sum.inl ⟨Int×Nat,fun q=> [tM 2 (iI p2),tM 25 (lF 5 (List.map enc_api_Block p0)),tM 26 (iI (p0.length:Int)),tM 27 (iI q.1)],fun q=>loopN (fun (s:Int)=>blocks_Valid_l3s p0 p2 s) q.2 q.1=some r,fun q=>q.2⟩) (An (eX [] (eX [] (eX ((0:Int),n1) (An h (r2 (fr (r2 trivial))))))) ?_)
 clear h
 refine fun q h=> ?_
 obtain ⟨g,n1⟩:=q
 obtain ⟨m1,x1,hm1,h,hl1,hr1⟩:=loopN_step h
 replace hm1:n1=m1+1:=hm1
 subst hm1
 replace h:blocks_Valid_l3s p0 p2 g=some x1:=h
 delta blocks_Valid_l3s at h
 refine eN (cD h (fun g4 h=> ?_) (fun g4 h=> ?_))
 refine eN ?_
 obtain ⟨a,o,h⟩:=bS h
 refine eX (enc_api_Block a) (An (idx_map enc_api_Block o) ?_)
 refine eN (eN ?_)
 obtain ⟨p,t,h⟩:=bS h
 obtain ⟨u,h⟩:=ckS h
 obtain ⟨i,j,h⟩:=bS h
 obtain ⟨k,l,h⟩:=bS h
 refine eN (cK (An (cW (c_rank_Validate a.Ranks p t) (r1 (fr trivial))) (r1 ?_)))
 refine An (fun g5=> ?_) (fun g5=> ?_)
 refine An (oD (gT (nE g5) u)) ?_
 refine An (fun g6=> ?_) (fun g6=> ?_)
 refine eX [iI (a.Ranks.Entries.length:Int)] (An (lenS enc_api_Entry a.Ranks.Entries) ?_)
 refine An (fun g7=> ?_) (fun g7=> ?_)
 refine cK (An (cW (c_rank_Gap a.Ranks i (gdT (nE (oR (oR g5 g6) g7)) j)) (r1 (fr trivial))) (r1 ?_))
 refine cK (An (cW (c_blocks_Allowed a.Level p2 k (gdT (nE (oR (oR g5 g6) g7)) l)) (r2 trivial)) (r1 ?_))
 refine An (fun g8=> ?_) (fun g8=> ?_)
 replace h:=cT (oR (oR (oR g5 g6) g7) g8) h
 cases retS h hr1
 exact eN (r1 trivial)
 replace h:=cF (oR (oR (oR g5 g6) g7) g8) h
 refine eN ?_
 obtain ⟨c,v,h⟩:=bS h
 obtain ⟨b,m,h⟩:=bS h
 refine eX [iI c.V,iI c.Min,iI c.Max] (An (idx_map enc_api_Entry v) ?_)
 refine eX [iI (a.Ranks.Entries.length:Int)] (An (lenS enc_api_Entry a.Ranks.Entries) ?_)
 refine eX [iI b.V,iI b.Min,iI b.Max] (An (idx_map enc_api_Entry m) ?_)
 refine eN (eN (An (fun g9=> ?_) (fun g9=> ?_)))
 refine An (fun g10=> ?_) (fun g10=> ?_)
 refine An (fun g11=> ?_) (fun g11=> ?_)
 refine An (fun g12=> ?_) (fun g12=> ?_)
 replace h:=cT (oR (oR (oR g9 g10) g11) g12) h
 cases retS h hr1
 exact eN (r1 trivial)
 replace h:=cF (oR (oR (oR g9 g10) g11) g12) h
 exact eN (jT (_,m1) (An (hl1 _ (oJ h).symm) (An (jL m1) (r2 (fr (r2 trivial))))))
 replace h:=cT (oL (oR (oR g9 g10) g11)) h
 cases retS h hr1
 exact eN (r1 trivial)
 replace h:=cT (oL (oL (oR g9 g10))) h
 cases retS h hr1
 exact eN (r1 trivial)
 replace h:=cT (oL (oL (oL g9))) h
 cases retS h hr1
 exact eN (r1 trivial)
 replace h:=cT (oL (oR (oR g5 g6) g7)) h
 cases retS h hr1
 exact eN (r1 trivial)
 replace h:=cT (oL (oL (oR g5 g6))) h
 cases retS h hr1
 exact eN (r1 trivial)
 replace h:=cT (oL (oL (oL g5))) h
 cases retS h hr1
 exact eN (r1 trivial)
 replace h:=popS h hr1
 first|cases h|rw [←oJ h]
 exact eN (r1 trivial)
 replace h:=cT (oL (oR g1 g2)) h
 first|cases h|rw [←oJ h]
 exact eN (r1 trivial)
 replace h:=cT (oL (oL g1)) h
 first|cases h|rw [←oJ h]
 exact eN (r1 trivial)
theorem c_blocks_Total (p0:(List api_Block)) (r:Int) (h:blocks_Total p0=some r):Contract Tryz.prog 207 [lF 5 (List.map enc_api_Block p0)] [] (iI r) []:=by
 refine C0 Tryz.func207 Tryz.call207 1 ?_
 delta blocks_Total at h
 refine eN (eN ?_)
 obtain ⟨a,b,h⟩:=bS h
 obtain ⟨c,d,h⟩:=bS h
 refine cK (An (cW (c_blocks_plain p0 a b) (fr trivial)) (r1 ?_))
 refine cK (An (cW (c_buckets_Total a c d) (fr trivial)) (r1 ?_))
 first|cases h|rw [←oJ h]
 exact (r1 trivial)
theorem c_quantile_Validate (p0:api_Quantile) (r:Int) (h:quantile_Validate p0=some r):Contract Tryz.prog 140 [.agg (enc_api_Quantile p0)] [] (iI r) []:=by
 refine C0 Tryz.func140 Tryz.call140 1 ?_
 delta quantile_Validate at h
 refine eN (eN ?_)
 obtain ⟨a,c,h⟩:=bS h
 obtain ⟨d,e,h⟩:=bS h
 obtain ⟨f,g,h⟩:=bS h
 refine eN (cK (An (cW (c_quantile_good' p0.W p0.K p0.Cap p0.Now _ rfl) (r4 trivial)) (r1 ?_)))
 refine An (fun g1=> ?_) (fun g1=> ?_)
 refine cK (An (cW (c_quantile_Size p0.K p0.Cap a (gdT (nE g1) c)) (r2 trivial)) (r1 ?_))
 refine cK (An (cW (c_blocks_Valid p0.Blocks (w64 ((2:Int)*p0.K)) a d (gdT (nE g1) e)) (fr (r2 trivial))) (r1 ?_))
 refine An (fun g2=> ?_) (fun g2=> ?_)
 refine cK (An (cW (c_blocks_Total p0.Blocks f (gdT (nE (oR g1 g2)) g)) (fr trivial)) (r1 ?_))
 refine An (fun g3=> ?_) (fun g3=> ?_)
 replace h:=cT (oR (oR g1 g2) g3) h
 first|cases h|rw [←oJ h]
 exact eN (r1 trivial)
 replace h:=cF (oR (oR g1 g2) g3) h
 refine eN (eX [iI (p0.Blocks.length:Int)] (An (lenS enc_api_Block p0.Blocks) ?_))
 replace h:quantile_Validate_l3 p0 (0:Int)=some r:=h
 delta quantile_Validate_l3 at h
 obtain ⟨n1,h⟩:=loopS h
 refine eX (Sum.inl ⟨Int×Nat,fun q=> [tM 1 (.ptr 1 0),tM 38 (lF 5 (List.map enc_api_Block p0.Blocks)),tM 39 (iI (p0.Blocks.length:Int)),tM 40 (iI q.1),tB 1 (enc_api_Quantile p0)],fun q=>loopN (fun (s:Int)=>quantile_Validate_l3s p0 s) q.2 q.1=some r,fun q=>q.2⟩) (An (eX [] (eX [] (eX ((0:Int),n1) (An h (r1 (fr (r6 (fr trivial)))))))) ?_)
 clear h
 refine fun q h=> ?_
 obtain ⟨i,n1⟩:=q
 obtain ⟨m1,x1,hm1,h,hl1,hr1⟩:=loopN_step h
 replace hm1:n1=m1+1:=hm1
 subst hm1
 replace h:quantile_Validate_l3s p0 i=some x1:=h
 delta quantile_Validate_l3s at h
 refine eN (cD h (fun g4 h=> ?_) (fun g4 h=> ?_))
 refine eN ?_
 obtain ⟨b,j,h⟩:=bS h
 refine eX (enc_api_Block b) (An (idx_map enc_api_Block j) ?_)
 refine eN (cK (An (cW (c_clock_Live' p0.Now p0.W b.T _ rfl) (r3 trivial)) (r1 ?_)))
 refine cD h (fun g5 h=> ?_) (fun g5 h=> ?_)
 cases retS h hr1
 exact eN (r1 trivial)
 exact eN (jT (_,m1) (An (hl1 _ (oJ h).symm) (An (jL m1) (r1 (fr (r6 (fr trivial)))))))
 replace h:=popS h hr1
 first|cases h|rw [←oJ h]
 exact eN (r1 trivial)
 replace h:=cT (oL (oR g1 g2)) h
 first|cases h|rw [←oJ h]
 exact eN (r1 trivial)
 replace h:=cT (oL (oL g1)) h
 first|cases h|rw [←oJ h]
 exact eN (r1 trivial)
theorem c_synopsis_right (p0:api_Synopsis) (r:Bool) (h:synopsis_right p0=some r):Contract Tryz.prog 124 [.agg (enc_api_Synopsis p0)] [] (.sb r) []:=by
 refine C0 Tryz.func124 Tryz.call124 1 ?_
 delta synopsis_right at h
 refine eN (eN (eN (eN (cD h (fun g1 h=> ?_) (fun g1 h=> ?_)))))
 refine eN (eN ?_)
 obtain ⟨y,z,h⟩:=bS h
 refine eN (cK (An (cW (c_recent_Validate p0.Recent y z) (r3 (fr trivial))) (r1 ?_)))
 refine An (fun g2=> ?_) (fun g2=> ?_)
 refine An (fun g3=> ?_) (fun g3=> ?_)
 first|cases h|rw [←oJ h]
 exact (An (Eq.symm (aR (aR g2 g3) rfl)) trivial)
 first|cases h|rw [←oJ h]
 exact (An (Eq.symm (aL (aR g2 g3))) trivial)
 first|cases h|rw [←oJ h]
 exact (An (Eq.symm (aL (aL g2))) trivial)
 refine eN (cD h (fun g4 h=> ?_) (fun g4 h=> ?_))
 refine eN (eN ?_)
 obtain ⟨A,B,h⟩:=bS h
 refine eN (cK (An (cW (c_count_Validate p0.Count A B) (r4 (fr trivial))) (r1 ?_)))
 refine An (fun g5=> ?_) (fun g5=> ?_)
 refine An (fun g6=> ?_) (fun g6=> ?_)
 refine An (fun g7=> ?_) (fun g7=> ?_)
 first|cases h|rw [←oJ h]
 exact (An (Eq.symm (aR (aR (aR g5 g6) g7) rfl)) trivial)
 first|cases h|rw [←oJ h]
 exact (An (Eq.symm (aL (aR (aR g5 g6) g7))) trivial)
 first|cases h|rw [←oJ h]
 exact (An (Eq.symm (aL (aL (aR g5 g6)))) trivial)
 first|cases h|rw [←oJ h]
 exact (An (Eq.symm (aL (aL (aL g5)))) trivial)
 refine eN (cD h (fun g8 h=> ?_) (fun g8 h=> ?_))
 refine eN (eN ?_)
 obtain ⟨e,f,h⟩:=bS h
 refine eN (cK (An (cW (c_sum_Validate p0.Sum e f) (r5 (fr trivial))) (r1 ?_)))
 refine An (fun g9=> ?_) (fun g9=> ?_)
 refine An (fun g10=> ?_) (fun g10=> ?_)
 refine An (fun g11=> ?_) (fun g11=> ?_)
 refine An (fun g12=> ?_) (fun g12=> ?_)
 first|cases h|rw [←oJ h]
 exact (An (Eq.symm (aR (aR (aR (aR g9 g10) g11) g12) rfl)) trivial)
 first|cases h|rw [←oJ h]
 exact (An (Eq.symm (aL (aR (aR (aR g9 g10) g11) g12))) trivial)
 first|cases h|rw [←oJ h]
 exact (An (Eq.symm (aL (aL (aR (aR g9 g10) g11)))) trivial)
 first|cases h|rw [←oJ h]
 exact (An (Eq.symm (aL (aL (aL (aR g9 g10))))) trivial)
 first|cases h|rw [←oJ h]
 exact (An (Eq.symm (aL (aL (aL (aL g9))))) trivial)
 refine eN (cD h (fun g13 h=> ?_) (fun g13 h=> ?_))
 refine eN (eN ?_)
 obtain ⟨g,i,h⟩:=bS h
 refine eN (cK (An (cW (c_smooth_Validate p0.Smooth g i) (r6 (fr trivial))) (r1 ?_)))
 refine An (fun g14=> ?_) (fun g14=> ?_)
 refine An (fun g15=> ?_) (fun g15=> ?_)
 refine An (fun g16=> ?_) (fun g16=> ?_)
 refine An (fun g17=> ?_) (fun g17=> ?_)
 first|cases h|rw [←oJ h]
 exact (An (Eq.symm (aR (aR (aR (aR g14 g15) g16) g17) rfl)) trivial)
 first|cases h|rw [←oJ h]
 exact (An (Eq.symm (aL (aR (aR (aR g14 g15) g16) g17))) trivial)
 first|cases h|rw [←oJ h]
 exact (An (Eq.symm (aL (aL (aR (aR g14 g15) g16)))) trivial)
 first|cases h|rw [←oJ h]
 exact (An (Eq.symm (aL (aL (aL (aR g14 g15))))) trivial)
 first|cases h|rw [←oJ h]
 exact (An (Eq.symm (aL (aL (aL (aL g14))))) trivial)
 refine eN (cD h (fun g18 h=> ?_) (fun g18 h=> ?_))
 refine eN (eN ?_)
 obtain ⟨j,k,h⟩:=bS h
 refine eN (cK (An (cW (c_spread_Validate p0.Spread j k) (r5 (fr trivial))) (r1 ?_)))
 refine An (fun g19=> ?_) (fun g19=> ?_)
 refine An (fun g20=> ?_) (fun g20=> ?_)
 refine An (fun g21=> ?_) (fun g21=> ?_)
 first|cases h|rw [←oJ h]
 exact (An (Eq.symm (aR (aR (aR g19 g20) g21) rfl)) trivial)
 first|cases h|rw [←oJ h]
 exact (An (Eq.symm (aL (aR (aR g19 g20) g21))) trivial)
 first|cases h|rw [←oJ h]
 exact (An (Eq.symm (aL (aL (aR g19 g20)))) trivial)
 first|cases h|rw [←oJ h]
 exact (An (Eq.symm (aL (aL (aL g19)))) trivial)
 refine eN (cD h (fun g22 h=> ?_) (fun g22 h=> ?_))
 refine eN ?_
 obtain ⟨l,m,h⟩:=bS h
 refine eN (cK (An (cW (c_poly_Validate p0.Poly l m) (r3 (fr trivial))) (r1 ?_)))
 refine An (fun g23=> ?_) (fun g23=> ?_)
 first|cases h|rw [←oJ h]
 exact (An (Eq.symm (aR g23 rfl)) trivial)
 first|cases h|rw [←oJ h]
 exact (An (Eq.symm (aL g23)) trivial)
 refine eN (cD h (fun g24 h=> ?_) (fun g24 h=> ?_))
 refine eN ?_
 obtain ⟨n,o,h⟩:=bS h
 refine eN (cK (An (cW (c_halve_Validate p0.Halve n o) (r1 (fr trivial))) (r1 ?_)))
 refine An (fun g25=> ?_) (fun g25=> ?_)
 refine eX [iI (p0.Halve.Sums.length:Int)] (An (lenS (eI .i64) p0.Halve.Sums) ?_)
 first|cases h|rw [←oJ h]
 exact (An (Eq.symm (aR g25 rfl)) trivial)
 first|cases h|rw [←oJ h]
 exact (An (Eq.symm (aL g25)) trivial)
 refine eN (cD h (fun g26 h=> ?_) (fun g26 h=> ?_))
 refine eN (eN ?_)
 obtain ⟨p,q,h⟩:=bS h
 refine eN (cK (An (cW (c_extreme_Validate p0.Extreme p q) (r4 (fr trivial))) (r1 ?_)))
 refine An (fun g27=> ?_) (fun g27=> ?_)
 refine An (fun g28=> ?_) (fun g28=> ?_)
 refine An (fun g29=> ?_) (fun g29=> ?_)
 first|cases h|rw [←oJ h]
 exact (An (Eq.symm (aR (aR (aR g27 g28) g29) rfl)) trivial)
 first|cases h|rw [←oJ h]
 exact (An (Eq.symm (aL (aR (aR g27 g28) g29))) trivial)
 first|cases h|rw [←oJ h]
 exact (An (Eq.symm (aL (aL (aR g27 g28)))) trivial)
 first|cases h|rw [←oJ h]
 exact (An (Eq.symm (aL (aL (aL g27)))) trivial)
 refine eN (cD h (fun g30 h=> ?_) (fun g30 h=> ?_))
 refine eN (eN ?_)
 obtain ⟨s,t,h⟩:=bS h
 obtain ⟨a,b,h⟩:=bS h
 obtain ⟨c,d,h⟩:=bS h
 refine eN (cK (An (cW (c_sample_Validate p0.Sample s t) (fr trivial)) (r1 ?_)))
 refine An (fun g31=> ?_) (fun g31=> ?_)
 refine eX [iI (p0.Sample.Chains.length:Int)] (An (lenS enc_api_Chain p0.Sample.Chains) ?_)
 refine An (fun g32=> ?_) (fun g32=> ?_)
 refine eX (enc_api_Chain a) (An (idx_map enc_api_Chain (gdT (aR g31 g32) b)) ?_)
 refine An (fun g33=> ?_) (fun g33=> ?_)
 refine eX (enc_api_Chain c) (An (idx_map enc_api_Chain (gdT (aR (aR g31 g32) g33) d)) ?_)
 first|cases h|rw [←oJ h]
 exact (An (Eq.symm (aR (aR (aR g31 g32) g33) rfl)) trivial)
 first|cases h|rw [←oJ h]
 exact (An (Eq.symm (aL (aR (aR g31 g32) g33))) trivial)
 first|cases h|rw [←oJ h]
 exact (An (Eq.symm (aL (aL (aR g31 g32)))) trivial)
 first|cases h|rw [←oJ h]
 exact (An (Eq.symm (aL (aL (aL g31)))) trivial)
 refine eN (cD h (fun g34 h=> ?_) (fun g34 h=> ?_))
 refine eN (eN ?_)
 obtain ⟨u,v,h⟩:=bS h
 refine eN (cK (An (cW (c_summary_Validate p0.Summary u v) (r3 (fr trivial))) (r1 ?_)))
 refine An (fun g35=> ?_) (fun g35=> ?_)
 refine An (fun g36=> ?_) (fun g36=> ?_)
 first|cases h|rw [←oJ h]
 exact (An (Eq.symm (aR (aR g35 g36) rfl)) trivial)
 first|cases h|rw [←oJ h]
 exact (An (Eq.symm (aL (aR g35 g36))) trivial)
 first|cases h|rw [←oJ h]
 exact (An (Eq.symm (aL (aL g35))) trivial)
 refine eN (eN ?_)
 obtain ⟨w,x,h⟩:=bS h
 refine eN (cK (An (cW (c_quantile_Validate p0.Quantile w x) (r4 (fr trivial))) (r1 ?_)))
 refine An (fun g37=> ?_) (fun g37=> ?_)
 refine An (fun g38=> ?_) (fun g38=> ?_)
 refine An (fun g39=> ?_) (fun g39=> ?_)
 first|cases h|rw [←oJ h]
 exact (An (Eq.symm (aR (aR (aR g37 g38) g39) rfl)) trivial)
 first|cases h|rw [←oJ h]
 exact (An (Eq.symm (aL (aR (aR g37 g38) g39))) trivial)
 first|cases h|rw [←oJ h]
 exact (An (Eq.symm (aL (aL (aR g37 g38)))) trivial)
 first|cases h|rw [←oJ h]
 exact (An (Eq.symm (aL (aL (aL g37)))) trivial)
theorem c_synopsis_others' (p0:api_Synopsis) (r:Bool) (h:synopsis_others p0=r):Contract Tryz.prog 125 [.agg (enc_api_Synopsis p0)] [] (.sb r) []:=by
 refine C0 Tryz.func125 Tryz.call125 1 ?_
 delta synopsis_others at h
 refine eN (eN (eN (eN (eX (some (⟨Unit,fun _=> [tM 1 (.ptr 1 0),tM 3 (iI p0.Config.Kind),tM 5 (.ptr 524 0),tM 6 (.ptr 525 0),tM 7 (.ptr 526 0),tM 8 (.ptr 527 0),tM 49 (.sb ((p0.Config.Kind !=(1:Int))&&((((p0.Recent.W !=(0:Int))||(p0.Recent.Cap !=(0:Int)))||(p0.Recent.Now !=(0:Int)))||(decide ((p0.Recent.Items.length:Int)>(0:Int)))))),tB 1 (enc_api_Synopsis p0),tB 524 (enc_api_Count p0.Count),tB 525 (enc_api_Sum p0.Sum),tB 526 (enc_api_Smooth p0.Smooth),tB 527 (enc_api_Spread p0.Spread)],fun _=>True,fun _=>0⟩,1000000)) (An ?_ (fun _ _=> ?_))))))
 refine An (fun g1=> ?_) (fun g1=> ?_)
 refine An (fun g2=> ?_) (fun g2=> ?_)
 refine An (fun g3=> ?_) (fun g3=> ?_)
 refine An (fun g4=> ?_) (fun g4=> ?_)
 refine eX [iI (p0.Recent.Items.length:Int)] (An (lenS enc_api_Item p0.Recent.Items) ?_)
 exact jU (An trivial (r2 (An (Eq.symm (aR g1 (oR (oR (oR g2 g3) g4) rfl))) (r8 (r3 (fr (r4 (fr (r5 (fr (r6 (fr (r5 (fr (r3 (fr (r1 (fr (r4 (fr (fr (r3 (fr (r4 (fr (r4 (fr (r5 (fr (r6 (fr (r5 (fr trivial)))))))))))))))))))))))))))))))))
 exact jU (An trivial (r2 (An (Eq.symm (aR g1 (oL (oR (oR g2 g3) g4)))) (r8 (r3 (fr (r4 (fr (r5 (fr (r6 (fr (r5 (fr (r3 (fr (r1 (fr (r4 (fr (fr (r3 (fr (r4 (fr (r4 (fr (r5 (fr (r6 (fr (r5 (fr trivial)))))))))))))))))))))))))))))))))
 exact jU (An trivial (r2 (An (Eq.symm (aR g1 (oL (oL (oR g2 g3))))) (r8 (r3 (fr (r4 (fr (r5 (fr (r6 (fr (r5 (fr (r3 (fr (r1 (fr (r4 (fr (fr (r3 (fr (r4 (fr (r4 (fr (r5 (fr (r6 (fr (r5 (fr trivial)))))))))))))))))))))))))))))))))
 exact jU (An trivial (r2 (An (Eq.symm (aR g1 (oL (oL (oL g2))))) (r8 (r3 (fr (r4 (fr (r5 (fr (r6 (fr (r5 (fr (r3 (fr (r1 (fr (r4 (fr (fr (r3 (fr (r4 (fr (r4 (fr (r5 (fr (r6 (fr (r5 (fr trivial)))))))))))))))))))))))))))))))))
 exact jU (An trivial (r2 (An (Eq.symm (aL g1)) (r8 (r3 (fr (r4 (fr (r5 (fr (r6 (fr (r5 (fr (r3 (fr (r1 (fr (r4 (fr (fr (r3 (fr (r4 (fr (r4 (fr (r5 (fr (r6 (fr (r5 (fr trivial)))))))))))))))))))))))))))))))))
 refine cD h (fun g5 h=> ?_) (fun g5 h=> ?_)
 cases h
 exact eN (r1 trivial)
 refine eN (eX (some (⟨Unit,fun _=> [tM 1 (.ptr 1 0),tM 3 (iI p0.Config.Kind),tM 6 (.ptr 525 0),tM 7 (.ptr 526 0),tM 8 (.ptr 527 0),tM 77 (.sb ((p0.Config.Kind !=(2:Int))&&(((((p0.Count.W !=(0:Int))||(p0.Count.K !=(0:Int)))||(p0.Count.Cap !=(0:Int)))||(p0.Count.Now !=(0:Int)))||(decide ((p0.Count.Buckets.length:Int)>(0:Int)))))),tB 1 (enc_api_Synopsis p0),tB 525 (enc_api_Sum p0.Sum),tB 526 (enc_api_Smooth p0.Smooth),tB 527 (enc_api_Spread p0.Spread)],fun _=>True,fun _=>0⟩,2000000)) (An ?_ (fun _ _=> ?_)))
 refine An (fun g6=> ?_) (fun g6=> ?_)
 refine An (fun g7=> ?_) (fun g7=> ?_)
 refine An (fun g8=> ?_) (fun g8=> ?_)
 refine An (fun g9=> ?_) (fun g9=> ?_)
 refine An (fun g10=> ?_) (fun g10=> ?_)
 refine eX [iI (p0.Count.Buckets.length:Int)] (An (lenS enc_api_Bucket p0.Count.Buckets) ?_)
 exact jU (An trivial (r2 (An (Eq.symm (aR g6 (oR (oR (oR (oR g7 g8) g9) g10) rfl))) (r8 (r3 (fr (r4 (fr (r5 (fr (r6 (fr (r5 (fr (r3 (fr (r1 (fr (r4 (fr (fr (r3 (fr (r4 (fr (r5 (fr (r6 (fr (r5 (fr trivial)))))))))))))))))))))))))))))))
 exact jU (An trivial (r2 (An (Eq.symm (aR g6 (oL (oR (oR (oR g7 g8) g9) g10)))) (r8 (r3 (fr (r4 (fr (r5 (fr (r6 (fr (r5 (fr (r3 (fr (r1 (fr (r4 (fr (fr (r3 (fr (r4 (fr (r5 (fr (r6 (fr (r5 (fr trivial)))))))))))))))))))))))))))))))
 exact jU (An trivial (r2 (An (Eq.symm (aR g6 (oL (oL (oR (oR g7 g8) g9))))) (r8 (r3 (fr (r4 (fr (r5 (fr (r6 (fr (r5 (fr (r3 (fr (r1 (fr (r4 (fr (fr (r3 (fr (r4 (fr (r5 (fr (r6 (fr (r5 (fr trivial)))))))))))))))))))))))))))))))
 exact jU (An trivial (r2 (An (Eq.symm (aR g6 (oL (oL (oL (oR g7 g8)))))) (r8 (r3 (fr (r4 (fr (r5 (fr (r6 (fr (r5 (fr (r3 (fr (r1 (fr (r4 (fr (fr (r3 (fr (r4 (fr (r5 (fr (r6 (fr (r5 (fr trivial)))))))))))))))))))))))))))))))
 exact jU (An trivial (r2 (An (Eq.symm (aR g6 (oL (oL (oL (oL g7)))))) (r8 (r3 (fr (r4 (fr (r5 (fr (r6 (fr (r5 (fr (r3 (fr (r1 (fr (r4 (fr (fr (r3 (fr (r4 (fr (r5 (fr (r6 (fr (r5 (fr trivial)))))))))))))))))))))))))))))))
 exact jU (An trivial (r2 (An (Eq.symm (aL g6)) (r8 (r3 (fr (r4 (fr (r5 (fr (r6 (fr (r5 (fr (r3 (fr (r1 (fr (r4 (fr (fr (r3 (fr (r4 (fr (r5 (fr (r6 (fr (r5 (fr trivial)))))))))))))))))))))))))))))))
 refine cD h (fun g11 h=> ?_) (fun g11 h=> ?_)
 cases h
 exact eN (r1 trivial)
 refine eN (eX (some (⟨Unit,fun _=> [tM 1 (.ptr 1 0),tM 3 (iI p0.Config.Kind),tM 7 (.ptr 526 0),tM 8 (.ptr 527 0),tM 110 (.sb ((p0.Config.Kind !=(3:Int))&&((((((p0.Sum.W !=(0:Int))||(p0.Sum.K !=(0:Int)))||(p0.Sum.Cap !=(0:Int)))||(p0.Sum.Max !=(0:Int)))||(p0.Sum.Now !=(0:Int)))||(decide ((p0.Sum.Buckets.length:Int)>(0:Int)))))),tB 1 (enc_api_Synopsis p0),tB 526 (enc_api_Smooth p0.Smooth),tB 527 (enc_api_Spread p0.Spread)],fun _=>True,fun _=>0⟩,3000000)) (An ?_ (fun _ _=> ?_)))
 refine An (fun g12=> ?_) (fun g12=> ?_)
 refine An (fun g13=> ?_) (fun g13=> ?_)
 refine An (fun g14=> ?_) (fun g14=> ?_)
 refine An (fun g15=> ?_) (fun g15=> ?_)
 refine An (fun g16=> ?_) (fun g16=> ?_)
 refine An (fun g17=> ?_) (fun g17=> ?_)
 refine eX [iI (p0.Sum.Buckets.length:Int)] (An (lenS enc_api_Bucket p0.Sum.Buckets) ?_)
 exact jU (An trivial (r2 (An (Eq.symm (aR g12 (oR (oR (oR (oR (oR g13 g14) g15) g16) g17) rfl))) (r8 (r3 (fr (r4 (fr (r5 (fr (r6 (fr (r5 (fr (r3 (fr (r1 (fr (r4 (fr (fr (r3 (fr (r4 (fr (r6 (fr (r5 (fr trivial)))))))))))))))))))))))))))))
 exact jU (An trivial (r2 (An (Eq.symm (aR g12 (oL (oR (oR (oR (oR g13 g14) g15) g16) g17)))) (r8 (r3 (fr (r4 (fr (r5 (fr (r6 (fr (r5 (fr (r3 (fr (r1 (fr (r4 (fr (fr (r3 (fr (r4 (fr (r6 (fr (r5 (fr trivial)))))))))))))))))))))))))))))
 exact jU (An trivial (r2 (An (Eq.symm (aR g12 (oL (oL (oR (oR (oR g13 g14) g15) g16))))) (r8 (r3 (fr (r4 (fr (r5 (fr (r6 (fr (r5 (fr (r3 (fr (r1 (fr (r4 (fr (fr (r3 (fr (r4 (fr (r6 (fr (r5 (fr trivial)))))))))))))))))))))))))))))
 exact jU (An trivial (r2 (An (Eq.symm (aR g12 (oL (oL (oL (oR (oR g13 g14) g15)))))) (r8 (r3 (fr (r4 (fr (r5 (fr (r6 (fr (r5 (fr (r3 (fr (r1 (fr (r4 (fr (fr (r3 (fr (r4 (fr (r6 (fr (r5 (fr trivial)))))))))))))))))))))))))))))
 exact jU (An trivial (r2 (An (Eq.symm (aR g12 (oL (oL (oL (oL (oR g13 g14))))))) (r8 (r3 (fr (r4 (fr (r5 (fr (r6 (fr (r5 (fr (r3 (fr (r1 (fr (r4 (fr (fr (r3 (fr (r4 (fr (r6 (fr (r5 (fr trivial)))))))))))))))))))))))))))))
 exact jU (An trivial (r2 (An (Eq.symm (aR g12 (oL (oL (oL (oL (oL g13))))))) (r8 (r3 (fr (r4 (fr (r5 (fr (r6 (fr (r5 (fr (r3 (fr (r1 (fr (r4 (fr (fr (r3 (fr (r4 (fr (r6 (fr (r5 (fr trivial)))))))))))))))))))))))))))))
 exact jU (An trivial (r2 (An (Eq.symm (aL g12)) (r8 (r3 (fr (r4 (fr (r5 (fr (r6 (fr (r5 (fr (r3 (fr (r1 (fr (r4 (fr (fr (r3 (fr (r4 (fr (r6 (fr (r5 (fr trivial)))))))))))))))))))))))))))))
 refine cD h (fun g18 h=> ?_) (fun g18 h=> ?_)
 cases h
 exact eN (r1 trivial)
 refine eN (eX (some (⟨Unit,fun _=> [tM 1 (.ptr 1 0),tM 3 (iI p0.Config.Kind),tM 8 (.ptr 527 0),tM 148 (.sb ((p0.Config.Kind !=(4:Int))&&(((((((p0.Smooth.Agg !=(0:Int))||(p0.Smooth.W !=(0:Int)))||(p0.Smooth.K !=(0:Int)))||(p0.Smooth.Cap !=(0:Int)))||(p0.Smooth.Now !=(0:Int)))||(p0.Smooth.Seq !=(0:Int)))||(decide ((p0.Smooth.Marks.length:Int)>(0:Int)))))),tB 1 (enc_api_Synopsis p0),tB 527 (enc_api_Spread p0.Spread)],fun _=>True,fun _=>0⟩,4000000)) (An ?_ (fun _ _=> ?_)))
 refine An (fun g19=> ?_) (fun g19=> ?_)
 refine An (fun g20=> ?_) (fun g20=> ?_)
 refine An (fun g21=> ?_) (fun g21=> ?_)
 refine An (fun g22=> ?_) (fun g22=> ?_)
 refine An (fun g23=> ?_) (fun g23=> ?_)
 refine An (fun g24=> ?_) (fun g24=> ?_)
 refine An (fun g25=> ?_) (fun g25=> ?_)
 refine eX [iI (p0.Smooth.Marks.length:Int)] (An (lenS enc_api_Mark p0.Smooth.Marks) ?_)
 exact jU (An trivial (r2 (An (Eq.symm (aR g19 (oR (oR (oR (oR (oR (oR g20 g21) g22) g23) g24) g25) rfl))) (r8 (r3 (fr (r4 (fr (r5 (fr (r6 (fr (r5 (fr (r3 (fr (r1 (fr (r4 (fr (fr (r3 (fr (r4 (fr (r5 (fr trivial)))))))))))))))))))))))))))
 exact jU (An trivial (r2 (An (Eq.symm (aR g19 (oL (oR (oR (oR (oR (oR g20 g21) g22) g23) g24) g25)))) (r8 (r3 (fr (r4 (fr (r5 (fr (r6 (fr (r5 (fr (r3 (fr (r1 (fr (r4 (fr (fr (r3 (fr (r4 (fr (r5 (fr trivial)))))))))))))))))))))))))))
 exact jU (An trivial (r2 (An (Eq.symm (aR g19 (oL (oL (oR (oR (oR (oR g20 g21) g22) g23) g24))))) (r8 (r3 (fr (r4 (fr (r5 (fr (r6 (fr (r5 (fr (r3 (fr (r1 (fr (r4 (fr (fr (r3 (fr (r4 (fr (r5 (fr trivial)))))))))))))))))))))))))))
 exact jU (An trivial (r2 (An (Eq.symm (aR g19 (oL (oL (oL (oR (oR (oR g20 g21) g22) g23)))))) (r8 (r3 (fr (r4 (fr (r5 (fr (r6 (fr (r5 (fr (r3 (fr (r1 (fr (r4 (fr (fr (r3 (fr (r4 (fr (r5 (fr trivial)))))))))))))))))))))))))))
 exact jU (An trivial (r2 (An (Eq.symm (aR g19 (oL (oL (oL (oL (oR (oR g20 g21) g22))))))) (r8 (r3 (fr (r4 (fr (r5 (fr (r6 (fr (r5 (fr (r3 (fr (r1 (fr (r4 (fr (fr (r3 (fr (r4 (fr (r5 (fr trivial)))))))))))))))))))))))))))
 exact jU (An trivial (r2 (An (Eq.symm (aR g19 (oL (oL (oL (oL (oL (oR g20 g21)))))))) (r8 (r3 (fr (r4 (fr (r5 (fr (r6 (fr (r5 (fr (r3 (fr (r1 (fr (r4 (fr (fr (r3 (fr (r4 (fr (r5 (fr trivial)))))))))))))))))))))))))))
 exact jU (An trivial (r2 (An (Eq.symm (aR g19 (oL (oL (oL (oL (oL (oL g20)))))))) (r8 (r3 (fr (r4 (fr (r5 (fr (r6 (fr (r5 (fr (r3 (fr (r1 (fr (r4 (fr (fr (r3 (fr (r4 (fr (r5 (fr trivial)))))))))))))))))))))))))))
 exact jU (An trivial (r2 (An (Eq.symm (aL g19)) (r8 (r3 (fr (r4 (fr (r5 (fr (r6 (fr (r5 (fr (r3 (fr (r1 (fr (r4 (fr (fr (r3 (fr (r4 (fr (r5 (fr trivial)))))))))))))))))))))))))))
 refine cD h (fun g26 h=> ?_) (fun g26 h=> ?_)
 cases h
 exact eN (r1 trivial)
 refine eN (eX (some (⟨Unit,fun _=> [tM 1 (.ptr 1 0),tM 3 (iI p0.Config.Kind),tM 181 (.sb ((p0.Config.Kind !=(5:Int))&&((((((p0.Spread.W !=(0:Int))||(p0.Spread.K !=(0:Int)))||(p0.Spread.Cap !=(0:Int)))||(p0.Spread.Now !=(0:Int)))||(p0.Spread.Seq !=(0:Int)))||(decide ((p0.Spread.Marks.length:Int)>(0:Int)))))),tB 1 (enc_api_Synopsis p0)],fun _=>True,fun _=>0⟩,5000000)) (An ?_ (fun _ _=> ?_)))
 refine An (fun g27=> ?_) (fun g27=> ?_)
 refine An (fun g28=> ?_) (fun g28=> ?_)
 refine An (fun g29=> ?_) (fun g29=> ?_)
 refine An (fun g30=> ?_) (fun g30=> ?_)
 refine An (fun g31=> ?_) (fun g31=> ?_)
 refine An (fun g32=> ?_) (fun g32=> ?_)
 refine eX [iI (p0.Spread.Marks.length:Int)] (An (lenS enc_api_Mark p0.Spread.Marks) ?_)
 exact jU (An trivial (r2 (An (Eq.symm (aR g27 (oR (oR (oR (oR (oR g28 g29) g30) g31) g32) rfl))) (r8 (r3 (fr (r4 (fr (r5 (fr (r6 (fr (r5 (fr (r3 (fr (r1 (fr (r4 (fr (fr (r3 (fr (r4 (fr trivial)))))))))))))))))))))))))
 exact jU (An trivial (r2 (An (Eq.symm (aR g27 (oL (oR (oR (oR (oR g28 g29) g30) g31) g32)))) (r8 (r3 (fr (r4 (fr (r5 (fr (r6 (fr (r5 (fr (r3 (fr (r1 (fr (r4 (fr (fr (r3 (fr (r4 (fr trivial)))))))))))))))))))))))))
 exact jU (An trivial (r2 (An (Eq.symm (aR g27 (oL (oL (oR (oR (oR g28 g29) g30) g31))))) (r8 (r3 (fr (r4 (fr (r5 (fr (r6 (fr (r5 (fr (r3 (fr (r1 (fr (r4 (fr (fr (r3 (fr (r4 (fr trivial)))))))))))))))))))))))))
 exact jU (An trivial (r2 (An (Eq.symm (aR g27 (oL (oL (oL (oR (oR g28 g29) g30)))))) (r8 (r3 (fr (r4 (fr (r5 (fr (r6 (fr (r5 (fr (r3 (fr (r1 (fr (r4 (fr (fr (r3 (fr (r4 (fr trivial)))))))))))))))))))))))))
 exact jU (An trivial (r2 (An (Eq.symm (aR g27 (oL (oL (oL (oL (oR g28 g29))))))) (r8 (r3 (fr (r4 (fr (r5 (fr (r6 (fr (r5 (fr (r3 (fr (r1 (fr (r4 (fr (fr (r3 (fr (r4 (fr trivial)))))))))))))))))))))))))
 exact jU (An trivial (r2 (An (Eq.symm (aR g27 (oL (oL (oL (oL (oL g28))))))) (r8 (r3 (fr (r4 (fr (r5 (fr (r6 (fr (r5 (fr (r3 (fr (r1 (fr (r4 (fr (fr (r3 (fr (r4 (fr trivial)))))))))))))))))))))))))
 exact jU (An trivial (r2 (An (Eq.symm (aL g27)) (r8 (r3 (fr (r4 (fr (r5 (fr (r6 (fr (r5 (fr (r3 (fr (r1 (fr (r4 (fr (fr (r3 (fr (r4 (fr trivial)))))))))))))))))))))))))
 refine cD h (fun g33 h=> ?_) (fun g33 h=> ?_)
 cases h
 exact eN (r1 trivial)
 refine eN (eN (eX (some (⟨Unit,fun _=> [tM 1 (.ptr 1 0),tM 3 (iI p0.Config.Kind),tM 10 (.ptr 5000011 0),tM 11 (.ptr 5000012 0),tM 12 (.ptr 5000013 0),tM 13 (.ptr 5000014 0),tM 214 (.sb ((p0.Config.Kind !=(6:Int))&&((((p0.Poly.P !=(0:Int))||(p0.Poly.Land !=(0:Int)))||(p0.Poly.Now !=(0:Int)))||(decide ((p0.Poly.Moments.length:Int)>(0:Int)))))),tB 1 (enc_api_Synopsis p0),tB 5000011 [iI p0.Halve.Now,lF 1 (List.map (eI .i64) p0.Halve.Sums)],tB 5000012 (enc_api_Extreme p0.Extreme),tB 5000013 (enc_api_Summary p0.Summary),tB 5000014 (enc_api_Quantile p0.Quantile)],fun _=>True,fun _=>0⟩,6000000)) (An ?_ (fun _ _=> ?_))))
 refine An (fun g34=> ?_) (fun g34=> ?_)
 refine An (fun g35=> ?_) (fun g35=> ?_)
 refine An (fun g36=> ?_) (fun g36=> ?_)
 refine An (fun g37=> ?_) (fun g37=> ?_)
 refine eX [iI (p0.Poly.Moments.length:Int)] (An (lenS enc_api_Wide p0.Poly.Moments) ?_)
 exact jU (An trivial (r2 (An (Eq.symm (aR g34 (oR (oR (oR g35 g36) g37) rfl))) (r8 (r3 (fr (r4 (fr (r5 (fr (r6 (fr (r5 (fr (r3 (fr (r1 (fr (r4 (fr (fr (r3 (fr (r4 (fr (r1 (fr (r4 (fr (r3 (fr (r4 (fr trivial)))))))))))))))))))))))))))))))))
 exact jU (An trivial (r2 (An (Eq.symm (aR g34 (oL (oR (oR g35 g36) g37)))) (r8 (r3 (fr (r4 (fr (r5 (fr (r6 (fr (r5 (fr (r3 (fr (r1 (fr (r4 (fr (fr (r3 (fr (r4 (fr (r1 (fr (r4 (fr (r3 (fr (r4 (fr trivial)))))))))))))))))))))))))))))))))
 exact jU (An trivial (r2 (An (Eq.symm (aR g34 (oL (oL (oR g35 g36))))) (r8 (r3 (fr (r4 (fr (r5 (fr (r6 (fr (r5 (fr (r3 (fr (r1 (fr (r4 (fr (fr (r3 (fr (r4 (fr (r1 (fr (r4 (fr (r3 (fr (r4 (fr trivial)))))))))))))))))))))))))))))))))
 exact jU (An trivial (r2 (An (Eq.symm (aR g34 (oL (oL (oL g35))))) (r8 (r3 (fr (r4 (fr (r5 (fr (r6 (fr (r5 (fr (r3 (fr (r1 (fr (r4 (fr (fr (r3 (fr (r4 (fr (r1 (fr (r4 (fr (r3 (fr (r4 (fr trivial)))))))))))))))))))))))))))))))))
 exact jU (An trivial (r2 (An (Eq.symm (aL g34)) (r8 (r3 (fr (r4 (fr (r5 (fr (r6 (fr (r5 (fr (r3 (fr (r1 (fr (r4 (fr (fr (r3 (fr (r4 (fr (r1 (fr (r4 (fr (r3 (fr (r4 (fr trivial)))))))))))))))))))))))))))))))))
 refine cD h (fun g38 h=> ?_) (fun g38 h=> ?_)
 cases h
 exact eN (r1 trivial)
 refine eN (eX (some (⟨Unit,fun _=> [tM 1 (.ptr 1 0),tM 3 (iI p0.Config.Kind),tM 11 (.ptr 5000012 0),tM 12 (.ptr 5000013 0),tM 13 (.ptr 5000014 0),tM 227 (.sb ((p0.Config.Kind !=(7:Int))&&((p0.Halve.Now !=(0:Int))||(decide ((p0.Halve.Sums.length:Int)>(0:Int)))))),tB 1 (enc_api_Synopsis p0),tB 5000012 (enc_api_Extreme p0.Extreme),tB 5000013 (enc_api_Summary p0.Summary),tB 5000014 (enc_api_Quantile p0.Quantile)],fun _=>True,fun _=>0⟩,7000000)) (An ?_ (fun _ _=> ?_)))
 refine An (fun g39=> ?_) (fun g39=> ?_)
 refine An (fun g40=> ?_) (fun g40=> ?_)
 refine eX [iI (p0.Halve.Sums.length:Int)] (An (lenS (eI .i64) p0.Halve.Sums) ?_)
 exact jU (An trivial (r2 (An (Eq.symm (aR g39 (oR g40 rfl))) (r8 (r3 (fr (r4 (fr (r5 (fr (r6 (fr (r5 (fr (r3 (fr (r1 (fr (r4 (fr (fr (r3 (fr (r4 (fr (r4 (fr (r3 (fr (r4 (fr trivial)))))))))))))))))))))))))))))))
 exact jU (An trivial (r2 (An (Eq.symm (aR g39 (oL g40))) (r8 (r3 (fr (r4 (fr (r5 (fr (r6 (fr (r5 (fr (r3 (fr (r1 (fr (r4 (fr (fr (r3 (fr (r4 (fr (r4 (fr (r3 (fr (r4 (fr trivial)))))))))))))))))))))))))))))))
 exact jU (An trivial (r2 (An (Eq.symm (aL g39)) (r8 (r3 (fr (r4 (fr (r5 (fr (r6 (fr (r5 (fr (r3 (fr (r1 (fr (r4 (fr (fr (r3 (fr (r4 (fr (r4 (fr (r3 (fr (r4 (fr trivial)))))))))))))))))))))))))))))))
 refine cD h (fun g41 h=> ?_) (fun g41 h=> ?_)
 cases h
 exact eN (r1 trivial)
 refine eN (eX (some (⟨Unit,fun _=> [tM 1 (.ptr 1 0),tM 3 (iI p0.Config.Kind),tM 12 (.ptr 5000013 0),tM 13 (.ptr 5000014 0),tM 254 (.sb ((p0.Config.Kind !=(8:Int))&&((((p0.Extreme.Max||(p0.Extreme.W !=(0:Int)))||(p0.Extreme.Cap !=(0:Int)))||(p0.Extreme.Now !=(0:Int)))||(decide ((p0.Extreme.Items.length:Int)>(0:Int)))))),tB 1 (enc_api_Synopsis p0),tB 5000013 (enc_api_Summary p0.Summary),tB 5000014 (enc_api_Quantile p0.Quantile)],fun _=>True,fun _=>0⟩,8000000)) (An ?_ (fun _ _=> ?_)))
 refine An (fun g42=> ?_) (fun g42=> ?_)
 refine An (fun g43=> ?_) (fun g43=> ?_)
 refine An (fun g44=> ?_) (fun g44=> ?_)
 refine An (fun g45=> ?_) (fun g45=> ?_)
 refine An (fun g46=> ?_) (fun g46=> ?_)
 refine eX [iI (p0.Extreme.Items.length:Int)] (An (lenS enc_api_Item p0.Extreme.Items) ?_)
 exact jU (An trivial (r2 (An (Eq.symm (aR g42 (oR (oR (oR (oR g43 g44) g45) g46) rfl))) (r8 (r3 (fr (r4 (fr (r5 (fr (r6 (fr (r5 (fr (r3 (fr (r1 (fr (r4 (fr (fr (r3 (fr (r4 (fr (r3 (fr (r4 (fr trivial)))))))))))))))))))))))))))))
 exact jU (An trivial (r2 (An (Eq.symm (aR g42 (oL (oR (oR (oR g43 g44) g45) g46)))) (r8 (r3 (fr (r4 (fr (r5 (fr (r6 (fr (r5 (fr (r3 (fr (r1 (fr (r4 (fr (fr (r3 (fr (r4 (fr (r3 (fr (r4 (fr trivial)))))))))))))))))))))))))))))
 exact jU (An trivial (r2 (An (Eq.symm (aR g42 (oL (oL (oR (oR g43 g44) g45))))) (r8 (r3 (fr (r4 (fr (r5 (fr (r6 (fr (r5 (fr (r3 (fr (r1 (fr (r4 (fr (fr (r3 (fr (r4 (fr (r3 (fr (r4 (fr trivial)))))))))))))))))))))))))))))
 exact jU (An trivial (r2 (An (Eq.symm (aR g42 (oL (oL (oL (oR g43 g44)))))) (r8 (r3 (fr (r4 (fr (r5 (fr (r6 (fr (r5 (fr (r3 (fr (r1 (fr (r4 (fr (fr (r3 (fr (r4 (fr (r3 (fr (r4 (fr trivial)))))))))))))))))))))))))))))
 exact jU (An trivial (r2 (An (Eq.symm (aR g42 (oL (oL (oL (oL g43)))))) (r8 (r3 (fr (r4 (fr (r5 (fr (r6 (fr (r5 (fr (r3 (fr (r1 (fr (r4 (fr (fr (r3 (fr (r4 (fr (r3 (fr (r4 (fr trivial)))))))))))))))))))))))))))))
 exact jU (An trivial (r2 (An (Eq.symm (aL g42)) (r8 (r3 (fr (r4 (fr (r5 (fr (r6 (fr (r5 (fr (r3 (fr (r1 (fr (r4 (fr (fr (r3 (fr (r4 (fr (r3 (fr (r4 (fr trivial)))))))))))))))))))))))))))))
 refine cD h (fun g47 h=> ?_) (fun g47 h=> ?_)
 cases h
 exact eN (r1 trivial)
 refine eN (eX (some (⟨Unit,fun _=> [tM 3 (iI p0.Config.Kind),tM 12 (.ptr 5000013 0),tM 13 (.ptr 5000014 0),tM 263 (.sb ((p0.Config.Kind !=(9:Int))&&(decide ((p0.Sample.Chains.length:Int)>(0:Int))))),tB 5000013 (enc_api_Summary p0.Summary),tB 5000014 (enc_api_Quantile p0.Quantile)],fun _=>True,fun _=>0⟩,9000000)) (An ?_ (fun _ _=> ?_)))
 refine An (fun g48=> ?_) (fun g48=> ?_)
 refine eX [iI (p0.Sample.Chains.length:Int)] (An (lenS enc_api_Chain p0.Sample.Chains) ?_)
 exact jU (An trivial (r2 (An (Eq.symm (aR g48 rfl)) (r3 (fr (r4 (fr trivial)))))))
 exact jU (An trivial (r2 (An (Eq.symm (aL g48)) (r3 (fr (r4 (fr trivial)))))))
 refine cD h (fun g49 h=> ?_) (fun g49 h=> ?_)
 cases h
 exact eN (r1 trivial)
 refine eN (eX (some (⟨Unit,fun _=> [tM 3 (iI p0.Config.Kind),tM 13 (.ptr 5000014 0),tM 286 (.sb ((p0.Config.Kind !=(10:Int))&&((((p0.Summary.K !=(0:Int))||(p0.Summary.Cap !=(0:Int)))||(p0.Summary.N !=(0:Int)))||(decide ((p0.Summary.Tuples.length:Int)>(0:Int)))))),tB 5000014 (enc_api_Quantile p0.Quantile)],fun _=>True,fun _=>0⟩,10000000)) (An ?_ (fun _ _=> ?_)))
 refine An (fun g50=> ?_) (fun g50=> ?_)
 refine An (fun g51=> ?_) (fun g51=> ?_)
 refine An (fun g52=> ?_) (fun g52=> ?_)
 refine An (fun g53=> ?_) (fun g53=> ?_)
 refine eX [iI (p0.Summary.Tuples.length:Int)] (An (lenS enc_api_Tuple p0.Summary.Tuples) ?_)
 exact jU (An trivial (r2 (An (Eq.symm (aR g50 (oR (oR (oR g51 g52) g53) rfl))) (r4 (fr trivial)))))
 exact jU (An trivial (r2 (An (Eq.symm (aR g50 (oL (oR (oR g51 g52) g53)))) (r4 (fr trivial)))))
 exact jU (An trivial (r2 (An (Eq.symm (aR g50 (oL (oL (oR g51 g52))))) (r4 (fr trivial)))))
 exact jU (An trivial (r2 (An (Eq.symm (aR g50 (oL (oL (oL g51))))) (r4 (fr trivial)))))
 exact jU (An trivial (r2 (An (Eq.symm (aL g50)) (r4 (fr trivial)))))
 refine cD h (fun g54 h=> ?_) (fun g54 h=> ?_)
 cases h
 exact eN (r1 trivial)
 refine eN (eN (An (fun g55=> ?_) (fun g55=> ?_)))
 refine An (fun g56=> ?_) (fun g56=> ?_)
 refine An (fun g57=> ?_) (fun g57=> ?_)
 refine An (fun g58=> ?_) (fun g58=> ?_)
 refine An (fun g59=> ?_) (fun g59=> ?_)
 refine eX [iI (p0.Quantile.Blocks.length:Int)] (An (lenS enc_api_Block p0.Quantile.Blocks) ?_)
 cases h
 exact (An (Eq.symm (oR g55 (aR (aR (aR (aR g56 g57) g58) g59) rfl))) trivial)
 cases h
 exact (An (Eq.symm (oR g55 (aL (aR (aR (aR g56 g57) g58) g59)))) trivial)
 cases h
 exact (An (Eq.symm (oR g55 (aL (aL (aR (aR g56 g57) g58))))) trivial)
 cases h
 exact (An (Eq.symm (oR g55 (aL (aL (aL (aR g56 g57)))))) trivial)
 cases h
 exact (An (Eq.symm (oR g55 (aL (aL (aL (aL g56)))))) trivial)
 cases h
 exact (An (Eq.symm (oL g55)) trivial)
theorem c_synopsis_Validate (p0:api_Synopsis) (r:Int) (h:synopsis_Validate p0=some r):Contract Tryz.prog 35 [.agg (enc_api_Synopsis p0)] [] (iI r) []:=by
 refine C0 Tryz.func35 Tryz.call35 1 ?_
 delta synopsis_Validate at h
 refine eN (eN ?_)
 obtain ⟨a,b,h⟩:=bS h
 refine eN (cK (An (cW (c_config_Validate' p0.Config _ rfl) (r8 trivial)) (r1 ?_)))
 refine An (fun g1=> ?_) (fun g1=> ?_)
 refine cK (An (cW (c_synopsis_right p0 a (gdT (nE g1) b)) (r8 (r3 (fr (r4 (fr (r5 (fr (r6 (fr (r5 (fr (r3 (fr (r1 (fr (r4 (fr (fr (r3 (fr (r4 (fr trivial))))))))))))))))))))))) (r1 ?_))
 refine An (fun g2=> ?_) (fun g2=> ?_)
 refine cK (An (cW (c_synopsis_others' p0 _ rfl) (r8 (r3 (fr (r4 (fr (r5 (fr (r6 (fr (r5 (fr (r3 (fr (r1 (fr (r4 (fr (fr (r3 (fr (r4 (fr trivial))))))))))))))))))))))) (r1 ?_))
 refine An (fun g3=> ?_) (fun g3=> ?_)
 replace h:=cT (oR (oR g1 g2) g3) h
 first|cases h|rw [←oJ h]
 exact eN (r1 trivial)
 replace h:=cF (oR (oR g1 g2) g3) h
 first|cases h|rw [←oJ h]
 exact eN (r1 trivial)
 replace h:=cT (oL (oR g1 g2)) h
 first|cases h|rw [←oJ h]
 exact eN (r1 trivial)
 replace h:=cT (oL (oL g1)) h
 first|cases h|rw [←oJ h]
 exact eN (r1 trivial)
theorem c_synopsis_Records (p0:api_Synopsis) (r:Int) (h:synopsis_Records p0=some r):Contract Tryz.prog 34 [.agg (enc_api_Synopsis p0)] [] (iI r) []:=by
 refine C0 Tryz.func34 Tryz.call34 1 ?_
 delta synopsis_Records at h
 refine eN (eN ?_)
 obtain ⟨g,i,h⟩:=bS h
 refine cK (An (cW (c_synopsis_Validate p0 g i) (r8 (r3 (fr (r4 (fr (r5 (fr (r6 (fr (r5 (fr (r3 (fr (r1 (fr (r4 (fr (fr (r3 (fr (r4 (fr trivial))))))))))))))))))))))) (r1 ?_))
 refine cD h (fun g1 h=> ?_) (fun g1 h=> ?_)
 first|cases h|rw [←oJ h]
 exact eN (r1 trivial)
 refine eN (eX [iI (p0.Recent.Items.length:Int)] (An (lenS enc_api_Item p0.Recent.Items) ?_))
 refine eX [iI (p0.Count.Buckets.length:Int)] (An (lenS enc_api_Bucket p0.Count.Buckets) ?_)
 refine eX [iI (p0.Sum.Buckets.length:Int)] (An (lenS enc_api_Bucket p0.Sum.Buckets) ?_)
 refine eX [iI (p0.Smooth.Marks.length:Int)] (An (lenS enc_api_Mark p0.Smooth.Marks) ?_)
 refine eX [iI (p0.Spread.Marks.length:Int)] (An (lenS enc_api_Mark p0.Spread.Marks) ?_)
 refine eX [iI (p0.Poly.Moments.length:Int)] (An (lenS enc_api_Wide p0.Poly.Moments) ?_)
 refine eX [iI (p0.Halve.Sums.length:Int)] (An (lenS (eI .i64) p0.Halve.Sums) ?_)
 refine eX [iI (p0.Extreme.Items.length:Int)] (An (lenS enc_api_Item p0.Extreme.Items) ?_)
 refine eX [iI (p0.Summary.Tuples.length:Int)] (An (lenS enc_api_Tuple p0.Summary.Tuples) ?_)
 refine eN (eX [iI (p0.Sample.Chains.length:Int)] (An (lenS enc_api_Chain p0.Sample.Chains) ?_))
 replace h:synopsis_Records_l3 p0 (w64 ((w64 ((w64 ((w64 ((w64 ((w64 ((w64 ((w64 ((p0.Recent.Items.length:Int)+(p0.Count.Buckets.length:Int)))+(p0.Sum.Buckets.length:Int)))+(p0.Smooth.Marks.length:Int)))+(p0.Spread.Marks.length:Int)))+(p0.Poly.Moments.length:Int)))+(p0.Halve.Sums.length:Int)))+(p0.Extreme.Items.length:Int)))+(p0.Summary.Tuples.length:Int))) (0:Int)=some r:=h
 delta synopsis_Records_l3 at h
 obtain ⟨n1,h⟩:=loopS h
 refine eX (Sum.inl ⟨(Int×Int)×Nat,fun q=> [tM 1 (.ptr 1 0),tM 3 (iI q.1.1),tM 57 (lF 5 (List.map enc_api_Chain p0.Sample.Chains)),tM 58 (iI (p0.Sample.Chains.length:Int)),tM 59 (iI q.1.2),tB 1 (enc_api_Synopsis p0)],fun q=>loopN (fun (s:(Int×Int))=>synopsis_Records_l3s p0 s.1 s.2) q.2 q.1=some r,fun q=>q.2⟩) (An (eX [] (eX [] (eX (((w64 ((w64 ((w64 ((w64 ((w64 ((w64 ((w64 ((w64 ((p0.Recent.Items.length:Int)+(p0.Count.Buckets.length:Int)))+(p0.Sum.Buckets.length:Int)))+(p0.Smooth.Marks.length:Int)))+(p0.Spread.Marks.length:Int)))+(p0.Poly.Moments.length:Int)))+(p0.Halve.Sums.length:Int)))+(p0.Extreme.Items.length:Int)))+(p0.Summary.Tuples.length:Int))),(0:Int)),n1) (An h (r2 (fr (r12 (r1 (fr (r4 (fr (r5 (fr (r6 (fr (r5 (fr (r3 (fr (r1 (fr (r4 (fr (fr (r3 (fr (r4 (fr trivial)))))))))))))))))))))))))))) ?_)
 clear h
 refine fun q h=> ?_
 obtain ⟨⟨b,d⟩,n1⟩:=q
 obtain ⟨m1,x1,hm1,h,hl1,hr1⟩:=loopN_step h
 replace hm1:n1=m1+1:=hm1
 subst hm1
 replace h:synopsis_Records_l3s p0 b d=some x1:=h
 delta synopsis_Records_l3s at h
 refine eN (cD h (fun g2 h=> ?_) (fun g2 h=> ?_))
 refine eN ?_
 obtain ⟨c,j,h⟩:=bS h
 refine eX (enc_api_Chain c) (An (idx_map enc_api_Chain j) ?_)
 refine eN (eX [iI (c.Links.length:Int)] (An (lenS enc_api_Link c.Links) ?_))
 exact eN (jT (_,m1) (An (hl1 _ (oJ h).symm) (An (jL m1) (r2 (fr (r12 (r1 (fr (r4 (fr (r5 (fr (r6 (fr (r5 (fr (r3 (fr (r1 (fr (r4 (fr (fr (r3 (fr (r4 (fr trivial)))))))))))))))))))))))))))
 replace h:=popS h hr1
 refine eN (eX [iI (p0.Quantile.Blocks.length:Int)] (An (lenS enc_api_Block p0.Quantile.Blocks) ?_))
 replace h:synopsis_Records_l7 p0 b (0:Int)=some r:=h
 delta synopsis_Records_l7 at h
 obtain ⟨n1,h⟩:=loopS h
 refine eX (Sum.inl ⟨(Int×Int)×Nat,fun q=> [tM 3 (iI q.1.1),tM 71 (lF 5 (List.map enc_api_Block p0.Quantile.Blocks)),tM 72 (iI (p0.Quantile.Blocks.length:Int)),tM 73 (iI q.1.2)],fun q=>loopN (fun (s:(Int×Int))=>synopsis_Records_l7s p0 s.1 s.2) q.2 q.1=some r,fun q=>q.2⟩) (An (eX [] (eX [] (eX ((b,(0:Int)),n1) (An h (r2 (fr (r2 trivial))))))) ?_)
 clear h
 refine fun q h=> ?_
 obtain ⟨⟨k,e⟩,n1⟩:=q
 obtain ⟨m1,x1,hm1,h,hl1,hr1⟩:=loopN_step h
 replace hm1:n1=m1+1:=hm1
 subst hm1
 replace h:synopsis_Records_l7s p0 k e=some x1:=h
 delta synopsis_Records_l7s at h
 refine eN (cD h (fun g3 h=> ?_) (fun g3 h=> ?_))
 refine eN ?_
 obtain ⟨a,f,h⟩:=bS h
 refine eX (enc_api_Block a) (An (idx_map enc_api_Block f) ?_)
 refine eN (eX [iI (a.Ranks.Entries.length:Int)] (An (lenS enc_api_Entry a.Ranks.Entries) ?_))
 exact eN (jT (_,m1) (An (hl1 _ (oJ h).symm) (An (jL m1) (r2 (fr (r2 trivial))))))
 replace h:=popS h hr1
 first|cases h|rw [←oJ h]
 exact eN (r1 trivial)
theorem c_law25_awake (r:Bool) (h:law25_awake=some r):Contract Tryz.prog 12 [] [] (.sb r) []:=by
 refine C0 Tryz.func12 Tryz.call12 1 ?_
 delta law25_awake at h
 refine eN (eN ?_)
 obtain ⟨a,b,h⟩:=bS h
 refine cK (An (cW (c_synopsis_New (api_Config.mk (6:Int) (0:Int) (0:Int) (0:Int) (0:Int) (2:Int) (0:Int) (0:Int)) (0:Int) a b) (r8 (r1 trivial))) (r1 ?_))
 refine eN ?_
 obtain ⟨c,d,h⟩:=bS h
 refine eN (An (fun g1=> ?_) (fun g1=> ?_))
 refine cK (An (cW (c_synopsis_Records a.1 c (gdT g1 d)) (r8 (r3 (fr (r4 (fr (r5 (fr (r6 (fr (r5 (fr (r3 (fr (r1 (fr (r4 (fr (fr (r3 (fr (r4 (fr trivial))))))))))))))))))))))) (r1 ?_))
 first|cases h|rw [←oJ h]
 exact (An (Eq.symm (aR g1 rfl)) trivial)
 first|cases h|rw [←oJ h]
 exact (An (Eq.symm (aL g1)) trivial)
theorem c_clock_Advance' (p0:Int) (p1:Int) (r:(Int×Int)) (h:clock_Advance p0 p1=r):Contract Tryz.prog 127 [iI p0,iI p1] [] (.tup [iI r.1,iI r.2]) []:=by
 refine C0 Tryz.func127 Tryz.call127 1 ?_
 delta clock_Advance at h
 refine eN (eN (cK (An (cW (c_clock_tick' p0 _ rfl) (r1 trivial)) (r1 ?_))))
 refine cD h (fun g1 h=> ?_) (fun g1 h=> ?_)
 cases h
 exact eN (r2 trivial)
 refine eN (eN (An (fun g2=> ?_) (fun g2=> ?_)))
 refine An (fun g3=> ?_) (fun g3=> ?_)
 replace h:=cT (oR g2 g3) h
 cases h
 exact eN (r2 trivial)
 replace h:=cF (oR g2 g3) h
 cases h
 exact eN (r2 trivial)
 replace h:=cT (oL g2) h
 cases h
 exact eN (r2 trivial)
theorem c_exact_Live (p0:(List api_Item)) (p1:Int) (p2:Int) (r:(List api_Item)) (h:exact_Live p0 p1 p2=some r):Contract Tryz.prog 128 [lF 2 (List.map enc_api_Item p0),iI p1,iI p2] [] (lF 2 (List.map enc_api_Item r)) []:=by
 refine C0 Tryz.func128 Tryz.call128 1 ?_
 delta exact_Live at h
 refine eN (eN ?_)
 obtain ⟨d,e,h⟩:=bS h
 refine cK (An (cW (c_exact_Valid p0 p1 d e) (fr (r1 trivial))) (r1 ?_))
 refine cD h (fun g1 h=> ?_) (fun g1 h=> ?_)
 first|cases h|rw [←oJ h]
 exact eN (r1 trivial)
 refine eN (eN (eX [iI (p0.length:Int)] (An (lenS enc_api_Item p0) ?_)))
 replace h:exact_Live_l3 p0 p1 p2 ([]:List api_Item) (0:Int)=some r:=h
 delta exact_Live_l3 at h
 obtain ⟨n1,h⟩:=loopS h
 refine eX (Sum.inl ⟨((List api_Item)×Int)×Nat,fun q=> [tM 1 (iI p1),tM 2 (iI p2),tM 7 (.own 1024),tM 14 (lF 2 (List.map enc_api_Item p0)),tM 15 (iI (p0.length:Int)),tM 16 (iI q.1.2),(.tok 1024, .tok 186 2 (List.map enc_api_Item q.1.1))],fun q=>loopN (fun (s:((List api_Item)×Int))=>exact_Live_l3s p0 p1 p2 s.1 s.2) q.2 q.1=some r,fun q=>q.2⟩) (An (eX [(1024,none)] (eX [] (eX ((([]:List api_Item),(0:Int)),n1) (An h (r3 (fr (r3 trivial))))))) ?_)
 clear h
 refine fun q h=> ?_
 obtain ⟨⟨c,b⟩,n1⟩:=q
 obtain ⟨m1,x1,hm1,h,hl1,hr1⟩:=loopN_step h
 replace hm1:n1=m1+1:=hm1
 subst hm1
 replace h:exact_Live_l3s p0 p1 p2 c b=some x1:=h
 delta exact_Live_l3s at h
 refine eN (cD h (fun g2 h=> ?_) (fun g2 h=> ?_))
 refine eN (eN ?_)
 obtain ⟨a,f,h⟩:=bS h
 refine eX [iI a.T,iI a.V] (An (idx_map enc_api_Item f) ?_)
 refine eN (cK (An (cW (c_clock_Live' p1 p2 a.T _ rfl) (r3 trivial)) (r1 ?_)))
 refine eN (cD h (fun g3 h=> ?_) (fun g3 h=> ?_))
 refine eN ?_
 obtain ⟨g,h⟩:=ckS h
 refine An (kA (oD g)) ?_
 exact eN (eX [(1024,some 1796)] (eX [] (eX (((c++ [a]),(w64 (b+(1:Int)))),m1) (An (hl1 ((c++ [a]),(w64 (b+(1:Int)))) (oJ h).symm) (An (Nat.lt_succ_self m1) (r3 (fr (r2 (An lE trivial)))))))))
 exact eN (jT (_,m1) (An (hl1 _ (oJ h).symm) (An (jL m1) (r3 (fr (r3 trivial))))))
 replace h:=popS h hr1
 first|cases h|rw [←oJ h]
 exact eN (fr trivial)
theorem c_recent_Advance (p0:api_Recent) (p1:Int) (r:(api_Recent×Int)) (h:recent_Advance p0 p1=some r):Contract Tryz.prog 36 [.agg (enc_api_Recent p0),iI p1] [] (.tup [.agg (enc_api_Recent r.1),iI r.2]) []:=by
 refine C0 Tryz.func36 Tryz.call36 1 ?_
 delta recent_Advance at h
 refine eN (eN ?_)
 obtain ⟨a,b,h⟩:=bS h
 refine cK (An (cW (c_recent_Validate p0 a b) (r3 (fr trivial))) (r1 ?_))
 refine eN (cD h (fun g1 h=> ?_) (fun g1 h=> ?_))
 first|cases h|rw [←oJ h]
 exact eN (r5 trivial)
 refine eN (cK (An (cW (c_clock_Advance' p0.Now p1 _ rfl) (r2 trivial)) (r1 ?_)))
 refine eN (cD h (fun g2 h=> ?_) (fun g2 h=> ?_))
 first|cases h|rw [←oJ h]
 exact eN (r5 trivial)
 refine eN (eN ?_)
 obtain ⟨c,d,h⟩:=bS h
 refine cK (An (cW (c_exact_Live p0.Items p1 p0.W c d) (fr (r2 trivial))) (r1 ?_))
 first|cases h|rw [←oJ h]
 exact eN (r3 (fr (r1 trivial)))
theorem c_buckets_Expire (p0:(List api_Bucket)) (p1:Int) (r:(List api_Bucket)) (h:buckets_Expire p0 p1=some r):Contract Tryz.prog 130 [lF 2 (List.map enc_api_Bucket p0),iI p1] [] (lF 2 (List.map enc_api_Bucket r)) []:=by
 refine C0 Tryz.func130 Tryz.call130 1 ?_
 delta buckets_Expire at h
 refine eN ?_
 replace h:buckets_Expire_l2 p1 p0=some r:=h
 delta buckets_Expire_l2 at h
 obtain ⟨n1,h⟩:=loopS h
 refine eX (Sum.inl ⟨(List api_Bucket)×Nat,fun q=> [tM 0 (lF 2 (List.map enc_api_Bucket q.1)),tM 1 (iI p1)],fun q=>loopN (fun (s:(List api_Bucket))=>buckets_Expire_l2s p1 s) q.2 q.1=some r,fun q=>q.2⟩) (An (eX [] (eX [] (eX (p0,n1) (An h (r1 (fr (r1 trivial))))))) ?_)
 clear h
 refine fun q h=> ?_
 obtain ⟨a,n1⟩:=q
 obtain ⟨m1,x1,hm1,h,hl1,hr1⟩:=loopN_step h
 replace hm1:n1=m1+1:=hm1
 subst hm1
 replace h:buckets_Expire_l2s p1 a=some x1:=h
 delta buckets_Expire_l2s at h
 refine eN ?_
 obtain ⟨b,c,h⟩:=bS h
 refine eX (some (⟨Unit,fun _=> [tM 0 (lF 2 (List.map enc_api_Bucket a)),tM 1 (iI p1),tM 15 (.sb ((decide ((a.length:Int)>(0:Int)))&&(decide (b.T<p1))))],fun _=>True,fun _=>0⟩,1000000)) (An ?_ (fun _ _=> ?_))
 refine eX [iI (a.length:Int)] (An (lenS enc_api_Bucket a) ?_)
 refine An (fun g1=> ?_) (fun g1=> ?_)
 refine eX [iI b.T,iI b.Level] (An (idx_map enc_api_Bucket (gdT g1 c)) ?_)
 exact jU (An trivial (r1 (fr (r1 (An (Eq.symm (aR g1 rfl)) trivial)))))
 exact jU (An trivial (r1 (fr (r1 (An (Eq.symm (aL g1)) trivial)))))
 refine cD h (fun g2 h=> ?_) (fun g2 h=> ?_)
 refine eN ?_
 obtain ⟨d,h⟩:=ckS h
 refine An (kA (oD d)) ?_
 exact jT (_,m1) (An (hl1 _ (oJ h).symm) (An (jL m1) (r1 (An ff (An lE (r1 trivial))))))
 replace h:=popS h hr1
 refine eN ?_
 obtain ⟨e,h⟩:=ckS h
 refine An (kA (oD e)) ?_
 first|cases h|rw [←oJ h]
 exact (An ff (An lE trivial))
theorem c_count_Advance (p0:api_Count) (p1:Int) (r:(api_Count×Int)) (h:count_Advance p0 p1=some r):Contract Tryz.prog 37 [.agg (enc_api_Count p0),iI p1] [] (.tup [.agg (enc_api_Count r.1),iI r.2]) []:=by
 refine C0 Tryz.func37 Tryz.call37 1 ?_
 delta count_Advance at h
 refine eN (eN ?_)
 obtain ⟨a,b,h⟩:=bS h
 refine cK (An (cW (c_count_Validate p0 a b) (r4 (fr trivial))) (r1 ?_))
 refine eN (cD h (fun g1 h=> ?_) (fun g1 h=> ?_))
 first|cases h|rw [←oJ h]
 exact eN (r6 trivial)
 refine eN (cK (An (cW (c_clock_Advance' p0.Now p1 _ rfl) (r2 trivial)) (r1 ?_)))
 refine eN (cD h (fun g2 h=> ?_) (fun g2 h=> ?_))
 first|cases h|rw [←oJ h]
 exact eN (r6 trivial)
 refine eN (eN ?_)
 obtain ⟨c,d,h⟩:=bS h
 refine cK (An (cW (c_clock_First' p1 p0.W _ rfl) (r2 trivial)) (r1 ?_))
 refine cK (An (cW (c_buckets_Expire p0.Buckets (clock_First p1 p0.W) c d) (fr (r1 trivial))) (r1 ?_))
 first|cases h|rw [←oJ h]
 exact eN (r4 (fr (r1 trivial)))
theorem c_sum_Advance (p0:api_Sum) (p1:Int) (r:(api_Sum×Int)) (h:sum_Advance p0 p1=some r):Contract Tryz.prog 38 [.agg (enc_api_Sum p0),iI p1] [] (.tup [.agg (enc_api_Sum r.1),iI r.2]) []:=by
 refine C0 Tryz.func38 Tryz.call38 1 ?_
 delta sum_Advance at h
 refine eN (eN ?_)
 obtain ⟨a,b,h⟩:=bS h
 refine cK (An (cW (c_sum_Validate p0 a b) (r5 (fr trivial))) (r1 ?_))
 refine eN (cD h (fun g1 h=> ?_) (fun g1 h=> ?_))
 first|cases h|rw [←oJ h]
 exact eN (r7 trivial)
 refine eN (cK (An (cW (c_clock_Advance' p0.Now p1 _ rfl) (r2 trivial)) (r1 ?_)))
 refine eN (cD h (fun g2 h=> ?_) (fun g2 h=> ?_))
 first|cases h|rw [←oJ h]
 exact eN (r7 trivial)
 refine eN (eN ?_)
 obtain ⟨c,d,h⟩:=bS h
 refine cK (An (cW (c_clock_First' p1 p0.W _ rfl) (r2 trivial)) (r1 ?_))
 refine cK (An (cW (c_buckets_Expire p0.Buckets (clock_First p1 p0.W) c d) (fr (r1 trivial))) (r1 ?_))
 first|cases h|rw [←oJ h]
 exact eN (r5 (fr (r1 trivial)))
theorem c_marks_Advance (p0:(List api_Mark)) (p1:Int) (p2:Int) (r:(List api_Mark)) (h:marks_Advance p0 p1 p2=some r):Contract Tryz.prog 134 [lF 7 (List.map enc_api_Mark p0),iI p1,iI p2] [] (lF 7 (List.map enc_api_Mark r)) []:=by
 refine C0 Tryz.func134 Tryz.call134 1 ?_
 delta marks_Advance at h
 refine eN ?_
 replace h:marks_Advance_l2 p1 p2 p0=some r:=h
 delta marks_Advance_l2 at h
 obtain ⟨n1,h⟩:=loopS h
 refine eX (Sum.inl ⟨(List api_Mark)×Nat,fun q=> [tM 0 (lF 7 (List.map enc_api_Mark q.1)),tM 1 (iI p1),tM 2 (iI p2)],fun q=>loopN (fun (s:(List api_Mark))=>marks_Advance_l2s p1 p2 s) q.2 q.1=some r,fun q=>q.2⟩) (An (eX [] (eX [] (eX (p0,n1) (An h (r1 (fr (r2 trivial))))))) ?_)
 clear h
 refine fun q h=> ?_
 obtain ⟨a,n1⟩:=q
 obtain ⟨m1,x1,hm1,h,hl1,hr1⟩:=loopN_step h
 replace hm1:n1=m1+1:=hm1
 subst hm1
 replace h:marks_Advance_l2s p1 p2 a=some x1:=h
 delta marks_Advance_l2s at h
 refine eN ?_
 obtain ⟨b,d,h⟩:=bS h
 refine eX (some (⟨Unit,fun _=> [tM 0 (lF 7 (List.map enc_api_Mark a)),tM 1 (iI p1),tM 2 (iI p2),tM 19 (.sb ((decide ((a.length:Int)>(1:Int)))&&(!(clock_Live p1 p2 b.T))))],fun _=>True,fun _=>0⟩,1000000)) (An ?_ (fun _ _=> ?_))
 refine eX [iI (a.length:Int)] (An (lenS enc_api_Mark a) ?_)
 refine An (fun g1=> ?_) (fun g1=> ?_)
 refine eX (enc_api_Mark b) (An (idx_map enc_api_Mark (gdT g1 d)) ?_)
 refine cK (An (cW (c_clock_Live' p1 p2 b.T _ rfl) (r3 trivial)) (r1 ?_))
 exact jU (An trivial (r1 (fr (r2 (An (Eq.symm (aR g1 rfl)) trivial)))))
 exact jU (An trivial (r1 (fr (r2 (An (Eq.symm (aL g1)) trivial)))))
 refine cD h (fun g2 h=> ?_) (fun g2 h=> ?_)
 refine eN ?_
 obtain ⟨e,h⟩:=ckS h
 refine An (kA (oD e)) ?_
 exact jT (_,m1) (An (hl1 _ (oJ h).symm) (An (jL m1) (r1 (An ff (An lE (r2 trivial))))))
 replace h:=popS h hr1
 refine eN ?_
 obtain ⟨c,f,h⟩:=bS h
 refine eX (some (⟨Unit,fun _=> [tM 0 (lF 7 (List.map enc_api_Mark a)),tM 34 (.sb (((a.length:Int)==(1:Int))&&(!(clock_Live p1 p2 c.T))))],fun _=>True,fun _=>0⟩,2000000)) (An ?_ (fun _ _=> ?_))
 refine eX [iI (a.length:Int)] (An (lenS enc_api_Mark a) ?_)
 refine An (fun g3=> ?_) (fun g3=> ?_)
 refine eX (enc_api_Mark c) (An (idx_map enc_api_Mark (gdT g3 f)) ?_)
 refine cK (An (cW (c_clock_Live' p1 p2 c.T _ rfl) (r3 trivial)) (r1 ?_))
 exact jU (An trivial (r1 (fr (An (Eq.symm (aR g3 rfl)) trivial))))
 exact jU (An trivial (r1 (fr (An (Eq.symm (aL g3)) trivial))))
 refine cD h (fun g4 h=> ?_) (fun g4 h=> ?_)
 first|cases h|rw [←oJ h]
 exact eN (r1 trivial)
 refine eN ?_
 obtain ⟨g,h⟩:=ckS h
 refine An (kA (oD g)) ?_
 first|cases h|rw [←oJ h]
 exact (An ff (An lE trivial))
theorem c_smooth_Advance (p0:api_Smooth) (p1:Int) (r:(api_Smooth×Int)) (h:smooth_Advance p0 p1=some r):Contract Tryz.prog 39 [.agg (enc_api_Smooth p0),iI p1] [] (.tup [.agg (enc_api_Smooth r.1),iI r.2]) []:=by
 refine C0 Tryz.func39 Tryz.call39 1 ?_
 delta smooth_Advance at h
 refine eN (eN ?_)
 obtain ⟨a,b,h⟩:=bS h
 refine cK (An (cW (c_smooth_Validate p0 a b) (r6 (fr trivial))) (r1 ?_))
 refine eN (cD h (fun g1 h=> ?_) (fun g1 h=> ?_))
 first|cases h|rw [←oJ h]
 exact eN (r8 trivial)
 refine eN (cK (An (cW (c_clock_Advance' p0.Now p1 _ rfl) (r2 trivial)) (r1 ?_)))
 refine eN (cD h (fun g2 h=> ?_) (fun g2 h=> ?_))
 first|cases h|rw [←oJ h]
 exact eN (r8 trivial)
 refine eN (eN ?_)
 obtain ⟨c,d,h⟩:=bS h
 refine cK (An (cW (c_marks_Advance p0.Marks p1 p0.W c d) (fr (r2 trivial))) (r1 ?_))
 first|cases h|rw [←oJ h]
 exact eN (r6 (fr (r1 trivial)))
theorem c_spread_Advance (p0:api_Spread) (p1:Int) (r:(api_Spread×Int)) (h:spread_Advance p0 p1=some r):Contract Tryz.prog 40 [.agg (enc_api_Spread p0),iI p1] [] (.tup [.agg (enc_api_Spread r.1),iI r.2]) []:=by
 refine C0 Tryz.func40 Tryz.call40 1 ?_
 delta spread_Advance at h
 refine eN (eN ?_)
 obtain ⟨a,b,h⟩:=bS h
 refine cK (An (cW (c_spread_Validate p0 a b) (r5 (fr trivial))) (r1 ?_))
 refine eN (cD h (fun g1 h=> ?_) (fun g1 h=> ?_))
 first|cases h|rw [←oJ h]
 exact eN (r7 trivial)
 refine eN (cK (An (cW (c_clock_Advance' p0.Now p1 _ rfl) (r2 trivial)) (r1 ?_)))
 refine eN (cD h (fun g2 h=> ?_) (fun g2 h=> ?_))
 first|cases h|rw [←oJ h]
 exact eN (r7 trivial)
 refine eN (eN ?_)
 obtain ⟨c,d,h⟩:=bS h
 refine cK (An (cW (c_marks_Advance p0.Marks p1 p0.W c d) (fr (r2 trivial))) (r1 ?_))
 first|cases h|rw [←oJ h]
 exact eN (r5 (fr (r1 trivial)))
theorem c_poly_Advance (p0:api_Poly) (p1:Int) (r:(api_Poly×Int)) (h:poly_Advance p0 p1=some r):Contract Tryz.prog 41 [.agg (enc_api_Poly p0),iI p1] [] (.tup [.agg (enc_api_Poly r.1),iI r.2]) []:=by
 refine C0 Tryz.func41 Tryz.call41 1 ?_
 delta poly_Advance at h
 refine eN (eN ?_)
 obtain ⟨a,b,h⟩:=bS h
 refine cK (An (cW (c_poly_Validate p0 a b) (r3 (fr trivial))) (r1 ?_))
 refine eN (cD h (fun g1 h=> ?_) (fun g1 h=> ?_))
 first|cases h|rw [←oJ h]
 exact eN (r5 trivial)
 refine eN (cK (An (cW (c_clock_Advance' p0.Now p1 _ rfl) (r2 trivial)) (r1 ?_)))
 refine eN (cD h (fun g2 h=> ?_) (fun g2 h=> ?_))
 first|cases h|rw [←oJ h]
 exact eN (r5 trivial)
 refine eN (eN ?_)
 obtain ⟨c,h⟩:=ckS h
 refine An (kA (oD c)) ?_
 first|cases h|rw [←oJ h]
 exact eN (r3 (An ff (An lE (r1 trivial))))
theorem c_halve_Advance (p0:api_Halve) (p1:Int) (r:(api_Halve×Int)) (h:halve_Advance p0 p1=some r):Contract Tryz.prog 42 [.agg [iI p0.Now,lF 1 (List.map (eI .i64) p0.Sums)],iI p1] [] (.tup [.agg [iI r.1.Now,lF 1 (List.map (eI .i64) r.1.Sums)],iI r.2]) []:=by
 refine C0 Tryz.func42 Tryz.call42 1 ?_
 delta halve_Advance at h
 refine eN (eN ?_)
 obtain ⟨b,c,h⟩:=bS h
 refine cK (An (cW (c_halve_Validate p0 b c) (r1 (fr trivial))) (r1 ?_))
 refine eN (cD h (fun g1 h=> ?_) (fun g1 h=> ?_))
 first|cases h|rw [←oJ h]
 exact eN (r3 trivial)
 refine eN (cK (An (cW (c_clock_Advance' p0.Now p1 _ rfl) (r2 trivial)) (r1 ?_)))
 refine eN (cD h (fun g2 h=> ?_) (fun g2 h=> ?_))
 first|cases h|rw [←oJ h]
 exact eN (r3 trivial)
 refine eN ?_
 obtain ⟨d,h⟩:=ckS h
 refine An (kA (oD d)) ?_
 refine eN (eX [iI ((([]:List Int)++p0.Sums).length:Int)] (An lenD ?_))
 refine eX (some ([], [], [tM 1 (iI p1),tM 2 (.ptr 1 0),tM 4 (.ptr 2 0),tM 9 (.ali 1284),tM 10 (iI (imin (w64 (p1-p0.Now)) ((([]:List Int)++p0.Sums).length:Int))),tB 1 [iI p0.Now,lF 1 (List.map (eI .i64) p0.Sums)],tB 2 [iI (0:Int), .nilS],(.tok 1284, .tok 2 1 (List.map (eI .i64) (([]:List Int)++p0.Sums)))],1000000)) (An (r4 (fr (r1 (An lE trivial)))) ?_)
 obtain ⟨e,h⟩:=ckS h
 refine An (kV (oD e)) ?_
 refine eN ?_
 obtain ⟨a,h⟩:=ckS h
 refine An (kV (oD a)) ?_
 refine eX (some ([], [], [tM 1 (iI p1),tM 4 (.ptr 2 0),tM 9 (.own 1284),tB 2 [iI (0:Int), .nilS],(.tok 1284, .tok 2 1 (List.map (eI .i64) (laid (laid (([]:List Int)++p0.Sums) ((imin (w64 (p1-p0.Now)) ((([]:List Int)++p0.Sums).length:Int))).toNat (p0.Sums.take ((([]:List Int)++p0.Sums).length-((imin (w64 (p1-p0.Now)) ((([]:List Int)++p0.Sums).length:Int))).toNat))) 0 (List.replicate ((imin (w64 (p1-p0.Now)) ((([]:List Int)++p0.Sums).length:Int))).toNat (0:Int)))))],2000000)) (An (r3 (An lE trivial)) ?_)
 first|cases h|rw [←oJ h]
 exact (r1 (fr (r1 trivial)))
theorem c_extreme_Advance (p0:api_Extreme) (p1:Int) (r:(api_Extreme×Int)) (h:extreme_Advance p0 p1=some r):Contract Tryz.prog 43 [.agg (enc_api_Extreme p0),iI p1] [] (.tup [.agg (enc_api_Extreme r.1),iI r.2]) []:=by
 refine C0 Tryz.func43 Tryz.call43 1 ?_
 delta extreme_Advance at h
 refine eN (eN ?_)
 obtain ⟨e,f,h⟩:=bS h
 refine cK (An (cW (c_extreme_Validate p0 e f) (r4 (fr trivial))) (r1 ?_))
 refine eN (cD h (fun g1 h=> ?_) (fun g1 h=> ?_))
 first|cases h|rw [←oJ h]
 exact eN (r6 trivial)
 refine eN (cK (An (cW (c_clock_Advance' p0.Now p1 _ rfl) (r2 trivial)) (r1 ?_)))
 refine eN (cD h (fun g2 h=> ?_) (fun g2 h=> ?_))
 first|cases h|rw [←oJ h]
 exact eN (r6 trivial)
 refine eN (eN ?_)
 replace h:extreme_Advance_l4 p0 p1 p0.Items=some r:=h
 delta extreme_Advance_l4 at h
 obtain ⟨n1,h⟩:=loopS h
 refine eX (Sum.inl ⟨(List api_Item)×Nat,fun q=> [tM 1 (iI p1),tM 2 (.ptr 1 0),tM 4 (.ptr 2 0),tM 9 (lF 2 (List.map enc_api_Item q.1)),tB 1 [.sb p0.Max,iI p0.W,iI p0.Cap,iI p1,lF 2 (List.map enc_api_Item p0.Items)],tB 2 [.bool false,iI (0:Int),iI (0:Int),iI (0:Int), .nilS]],fun q=>loopN (fun (s:(List api_Item))=>extreme_Advance_l4s p0 p1 s) q.2 q.1=some r,fun q=>q.2⟩) (An (eX [] (eX [] (eX (p0.Items,n1) (An h (r2 (fr (r4 (fr (r4 trivial))))))))) ?_)
 clear h
 refine fun q h=> ?_
 obtain ⟨a,n1⟩:=q
 obtain ⟨m1,x1,hm1,h,hl1,hr1⟩:=loopN_step h
 replace hm1:n1=m1+1:=hm1
 subst hm1
 replace h:extreme_Advance_l4s p0 p1 a=some x1:=h
 delta extreme_Advance_l4s at h
 refine eN ?_
 obtain ⟨b,g,h⟩:=bS h
 refine eX (some (⟨Unit,fun _=> [tM 1 (iI p1),tM 2 (.ptr 1 0),tM 4 (.ptr 2 0),tM 9 (lF 2 (List.map enc_api_Item a)),tM 44 (.sb ((decide ((a.length:Int)>(0:Int)))&&(!(clock_Live p1 p0.W b.T)))),tB 1 [.sb p0.Max,iI p0.W,iI p0.Cap,iI p1,lF 2 (List.map enc_api_Item p0.Items)],tB 2 [.bool false,iI (0:Int),iI (0:Int),iI (0:Int), .nilS]],fun _=>True,fun _=>0⟩,1000000)) (An ?_ (fun _ _=> ?_))
 refine eX [iI (a.length:Int)] (An (lenS enc_api_Item a) ?_)
 refine An (fun g3=> ?_) (fun g3=> ?_)
 refine eX [iI b.T,iI b.V] (An (idx_map enc_api_Item (gdT g3 g)) ?_)
 refine cK (An (cW (c_clock_Live' p1 p0.W b.T _ rfl) (r3 trivial)) (r1 ?_))
 exact jU (An trivial (r2 (fr (An (Eq.symm (aR g3 rfl)) (r4 (fr (r4 trivial)))))))
 exact jU (An trivial (r2 (fr (An (Eq.symm (aL g3)) (r4 (fr (r4 trivial)))))))
 refine cD h (fun g4 h=> ?_) (fun g4 h=> ?_)
 refine eN ?_
 obtain ⟨c,h⟩:=ckS h
 refine An (kA (oD c)) ?_
 exact jT (_,m1) (An (hl1 _ (oJ h).symm) (An (jL m1) (r2 (An ff (An lE (r4 (fr (r4 trivial))))))))
 replace h:=popS h hr1
 refine eN ?_
 obtain ⟨d,h⟩:=ckS h
 refine An (kA (oD d)) ?_
 first|cases h|rw [←oJ h]
 exact eN (r4 (An ff (An lE (r1 trivial))))
theorem c_blocks_Expire (p0:(List api_Block)) (p1:Int) (r:(List api_Block)) (h:blocks_Expire p0 p1=some r):Contract Tryz.prog 141 [lF 5 (List.map enc_api_Block p0),iI p1] [] (lF 5 (List.map enc_api_Block r)) []:=by
 refine C0 Tryz.func141 Tryz.call141 1 ?_
 delta blocks_Expire at h
 refine eN ?_
 replace h:blocks_Expire_l2 p1 p0=some r:=h
 delta blocks_Expire_l2 at h
 obtain ⟨n1,h⟩:=loopS h
 refine eX (Sum.inl ⟨(List api_Block)×Nat,fun q=> [tM 0 (lF 5 (List.map enc_api_Block q.1)),tM 1 (iI p1)],fun q=>loopN (fun (s:(List api_Block))=>blocks_Expire_l2s p1 s) q.2 q.1=some r,fun q=>q.2⟩) (An (eX [] (eX [] (eX (p0,n1) (An h (r1 (fr (r1 trivial))))))) ?_)
 clear h
 refine fun q h=> ?_
 obtain ⟨a,n1⟩:=q
 obtain ⟨m1,x1,hm1,h,hl1,hr1⟩:=loopN_step h
 replace hm1:n1=m1+1:=hm1
 subst hm1
 replace h:blocks_Expire_l2s p1 a=some x1:=h
 delta blocks_Expire_l2s at h
 refine eN ?_
 obtain ⟨b,c,h⟩:=bS h
 refine eX (some (⟨Unit,fun _=> [tM 0 (lF 5 (List.map enc_api_Block a)),tM 1 (iI p1),tM 15 (.sb ((decide ((a.length:Int)>(0:Int)))&&(decide (b.T<p1))))],fun _=>True,fun _=>0⟩,1000000)) (An ?_ (fun _ _=> ?_))
 refine eX [iI (a.length:Int)] (An (lenS enc_api_Block a) ?_)
 refine An (fun g1=> ?_) (fun g1=> ?_)
 refine eX (enc_api_Block b) (An (idx_map enc_api_Block (gdT g1 c)) ?_)
 exact jU (An trivial (r1 (fr (r1 (An (Eq.symm (aR g1 rfl)) trivial)))))
 exact jU (An trivial (r1 (fr (r1 (An (Eq.symm (aL g1)) trivial)))))
 refine cD h (fun g2 h=> ?_) (fun g2 h=> ?_)
 refine eN ?_
 obtain ⟨d,h⟩:=ckS h
 refine An (kA (oD d)) ?_
 exact jT (_,m1) (An (hl1 _ (oJ h).symm) (An (jL m1) (r1 (An ff (An lE (r1 trivial))))))
 replace h:=popS h hr1
 refine eN ?_
 obtain ⟨e,h⟩:=ckS h
 refine An (kA (oD e)) ?_
 first|cases h|rw [←oJ h]
 exact (An ff (An lE trivial))
theorem c_quantile_Advance (p0:api_Quantile) (p1:Int) (r:(api_Quantile×Int)) (h:quantile_Advance p0 p1=some r):Contract Tryz.prog 44 [.agg (enc_api_Quantile p0),iI p1] [] (.tup [.agg (enc_api_Quantile r.1),iI r.2]) []:=by
 refine C0 Tryz.func44 Tryz.call44 1 ?_
 delta quantile_Advance at h
 refine eN (eN ?_)
 obtain ⟨a,b,h⟩:=bS h
 refine cK (An (cW (c_quantile_Validate p0 a b) (r4 (fr trivial))) (r1 ?_))
 refine eN (cD h (fun g1 h=> ?_) (fun g1 h=> ?_))
 first|cases h|rw [←oJ h]
 exact eN (r6 trivial)
 refine eN (cK (An (cW (c_clock_Advance' p0.Now p1 _ rfl) (r2 trivial)) (r1 ?_)))
 refine eN (cD h (fun g2 h=> ?_) (fun g2 h=> ?_))
 first|cases h|rw [←oJ h]
 exact eN (r6 trivial)
 refine eN (eN ?_)
 obtain ⟨c,d,h⟩:=bS h
 refine cK (An (cW (c_clock_First' p1 p0.W _ rfl) (r2 trivial)) (r1 ?_))
 refine cK (An (cW (c_blocks_Expire p0.Blocks (clock_First p1 p0.W) c d) (fr (r1 trivial))) (r1 ?_))
 first|cases h|rw [←oJ h]
 exact eN (r4 (fr (r1 trivial)))
theorem c_synopsis_Advance (p0:api_Synopsis) (p1:Int) (r:(api_Synopsis×Int)) (h:synopsis_Advance p0 p1=some r):Contract Tryz.prog 13 [.agg (enc_api_Synopsis p0),iI p1] [] (.tup [.agg (enc_api_Synopsis r.1),iI r.2]) []:=by
 refine C0 Tryz.func13 Tryz.call13 1 ?_
 delta synopsis_Advance at h
 refine eN (eN ?_)
 obtain ⟨w,F,h⟩:=bS h
 refine cK (An (cW (c_synopsis_Validate p0 w F) (r8 (r3 (fr (r4 (fr (r5 (fr (r6 (fr (r5 (fr (r3 (fr (r1 (fr (r4 (fr (fr (r3 (fr (r4 (fr trivial))))))))))))))))))))))) (r1 ?_))
 refine eN (cD h (fun g1 h=> ?_) (fun g1 h=> ?_))
 first|cases h|rw [←oJ h]
 exact eN (r48 (r8 (r2 trivial)))
 refine eN (eN (eN (eX (some (⟨Int×api_Recent×api_Count×api_Sum×api_Smooth×api_Spread×api_Poly×Int×(List Int)×api_Extreme×api_Quantile,fun q=> [tM 2 (.ptr 1 0),tM 4 (.ptr 2 0),tM 6 (iI q.1),tB 1 (List.append (enc_api_Config p0.Config) (List.append (enc_api_Recent q.2.1) (List.append (enc_api_Count q.2.2.1) (List.append (enc_api_Sum q.2.2.2.1) (List.append (enc_api_Smooth q.2.2.2.2.1) (List.append (enc_api_Spread q.2.2.2.2.2.1) (List.append (enc_api_Poly q.2.2.2.2.2.2.1) (iI q.2.2.2.2.2.2.2.1::(lF 1 (List.map (eI .i64) q.2.2.2.2.2.2.2.2.1)::(List.append (enc_api_Extreme q.2.2.2.2.2.2.2.2.2.1) (lF 5 (List.map enc_api_Chain p0.Sample.Chains)::(List.append (enc_api_Summary p0.Summary) (enc_api_Quantile q.2.2.2.2.2.2.2.2.2.2))))))))))))),tB 2 [iI (0:Int),iI (0:Int),iI (0:Int),iI (0:Int),iI (0:Int),iI (0:Int),iI (0:Int),iI (0:Int),iI (0:Int),iI (0:Int),iI (0:Int), .nilS,iI (0:Int),iI (0:Int),iI (0:Int),iI (0:Int), .nilS,iI (0:Int),iI (0:Int),iI (0:Int),iI (0:Int),iI (0:Int), .nilS,iI (0:Int),iI (0:Int),iI (0:Int),iI (0:Int),iI (0:Int),iI (0:Int), .nilS,iI (0:Int),iI (0:Int),iI (0:Int),iI (0:Int),iI (0:Int), .nilS,iI (0:Int),iI (0:Int),iI (0:Int), .nilS,iI (0:Int), .nilS, .bool false,iI (0:Int),iI (0:Int),iI (0:Int), .nilS, .nilS,iI (0:Int),iI (0:Int),iI (0:Int), .nilS,iI (0:Int),iI (0:Int),iI (0:Int),iI (0:Int), .nilS]],fun q=>synopsis_Advance_j3 p0 q.1 q.2.1 q.2.2.1 q.2.2.2.1 q.2.2.2.2.1 q.2.2.2.2.2.1 q.2.2.2.2.2.2.1 q.2.2.2.2.2.2.2.1 q.2.2.2.2.2.2.2.2.1 q.2.2.2.2.2.2.2.2.2.1 q.2.2.2.2.2.2.2.2.2.2=some r,fun _=>0⟩,1000000)) (An ?_ ?_))))
 refine cD h (fun g2 h=> ?_) (fun g2 h=> ?_)
 refine eN ?_
 obtain ⟨v,G,h⟩:=bS h
 refine cK (An (cW (c_recent_Advance p0.Recent p1 v G) (r3 (fr (r1 trivial)))) (r1 ?_))
 exact jT (v.2,v.1,p0.Count,p0.Sum,p0.Smooth,p0.Spread,p0.Poly,p0.Halve.Now,p0.Halve.Sums,p0.Extreme,p0.Quantile) (An h (r12 (r1 (fr (r4 (fr (r5 (fr (r6 (fr (r5 (fr (r3 (fr (r1 (fr (r4 (fr (fr (r3 (fr (r4 (fr (r32 (r12 (r2 trivial))))))))))))))))))))))))))
 refine eN (eN (cD h (fun g3 h=> ?_) (fun g3 h=> ?_)))
 refine eN ?_
 obtain ⟨j,x,h⟩:=bS h
 refine cK (An (cW (c_count_Advance p0.Count p1 j x) (r4 (fr (r1 trivial)))) (r1 ?_))
 exact jT (j.2,p0.Recent,j.1,p0.Sum,p0.Smooth,p0.Spread,p0.Poly,p0.Halve.Now,p0.Halve.Sums,p0.Extreme,p0.Quantile) (An h (r12 (r1 (fr (r4 (fr (r5 (fr (r6 (fr (r5 (fr (r3 (fr (r1 (fr (r4 (fr (fr (r3 (fr (r4 (fr (r32 (r12 (r2 trivial))))))))))))))))))))))))))
 refine eN (eN (cD h (fun g4 h=> ?_) (fun g4 h=> ?_)))
 refine eN ?_
 obtain ⟨k,y,h⟩:=bS h
 refine cK (An (cW (c_sum_Advance p0.Sum p1 k y) (r5 (fr (r1 trivial)))) (r1 ?_))
 exact jT (k.2,p0.Recent,p0.Count,k.1,p0.Smooth,p0.Spread,p0.Poly,p0.Halve.Now,p0.Halve.Sums,p0.Extreme,p0.Quantile) (An h (r12 (r1 (fr (r4 (fr (r5 (fr (r6 (fr (r5 (fr (r3 (fr (r1 (fr (r4 (fr (fr (r3 (fr (r4 (fr (r32 (r12 (r2 trivial))))))))))))))))))))))))))
 refine eN (eN (cD h (fun g5 h=> ?_) (fun g5 h=> ?_)))
 refine eN ?_
 obtain ⟨l,z,h⟩:=bS h
 refine cK (An (cW (c_smooth_Advance p0.Smooth p1 l z) (r6 (fr (r1 trivial)))) (r1 ?_))
 exact jT (l.2,p0.Recent,p0.Count,p0.Sum,l.1,p0.Spread,p0.Poly,p0.Halve.Now,p0.Halve.Sums,p0.Extreme,p0.Quantile) (An h (r12 (r1 (fr (r4 (fr (r5 (fr (r6 (fr (r5 (fr (r3 (fr (r1 (fr (r4 (fr (fr (r3 (fr (r4 (fr (r32 (r12 (r2 trivial))))))))))))))))))))))))))
 refine eN (eN (cD h (fun g6 h=> ?_) (fun g6 h=> ?_)))
 refine eN ?_
 obtain ⟨m,A,h⟩:=bS h
 refine cK (An (cW (c_spread_Advance p0.Spread p1 m A) (r5 (fr (r1 trivial)))) (r1 ?_))
 exact jT (m.2,p0.Recent,p0.Count,p0.Sum,p0.Smooth,m.1,p0.Poly,p0.Halve.Now,p0.Halve.Sums,p0.Extreme,p0.Quantile) (An h (r12 (r1 (fr (r4 (fr (r5 (fr (r6 (fr (r5 (fr (r3 (fr (r1 (fr (r4 (fr (fr (r3 (fr (r4 (fr (r32 (r12 (r2 trivial))))))))))))))))))))))))))
 refine eN (eN (cD h (fun g7 h=> ?_) (fun g7 h=> ?_)))
 refine eN ?_
 obtain ⟨n,B,h⟩:=bS h
 refine cK (An (cW (c_poly_Advance p0.Poly p1 n B) (r3 (fr (r1 trivial)))) (r1 ?_))
 exact jT (n.2,p0.Recent,p0.Count,p0.Sum,p0.Smooth,p0.Spread,n.1,p0.Halve.Now,p0.Halve.Sums,p0.Extreme,p0.Quantile) (An h (r12 (r1 (fr (r4 (fr (r5 (fr (r6 (fr (r5 (fr (r3 (fr (r1 (fr (r4 (fr (fr (r3 (fr (r4 (fr (r32 (r12 (r2 trivial))))))))))))))))))))))))))
 refine eN (eN (cD h (fun g8 h=> ?_) (fun g8 h=> ?_)))
 refine eN ?_
 obtain ⟨a,C,h⟩:=bS h
 refine cK (An (cW (c_halve_Advance p0.Halve p1 a C) (r1 (fr (r1 trivial)))) (r1 ?_))
 exact jT (a.2,p0.Recent,p0.Count,p0.Sum,p0.Smooth,p0.Spread,p0.Poly,a.1.Now,a.1.Sums,p0.Extreme,p0.Quantile) (An h (r12 (r1 (fr (r4 (fr (r5 (fr (r6 (fr (r5 (fr (r3 (fr (r1 (fr (r4 (fr (fr (r3 (fr (r4 (fr (r32 (r12 (r2 trivial))))))))))))))))))))))))))
 refine eN (eN (cD h (fun g9 h=> ?_) (fun g9 h=> ?_)))
 refine eN ?_
 obtain ⟨o,D,h⟩:=bS h
 refine cK (An (cW (c_extreme_Advance p0.Extreme p1 o D) (r4 (fr (r1 trivial)))) (r1 ?_))
 exact jT (o.2,p0.Recent,p0.Count,p0.Sum,p0.Smooth,p0.Spread,p0.Poly,p0.Halve.Now,p0.Halve.Sums,o.1,p0.Quantile) (An h (r12 (r1 (fr (r4 (fr (r5 (fr (r6 (fr (r5 (fr (r3 (fr (r1 (fr (r4 (fr (fr (r3 (fr (r4 (fr (r32 (r12 (r2 trivial))))))))))))))))))))))))))
 refine eN (eN (cD h (fun g10 h=> ?_) (fun g10 h=> ?_)))
 refine eN ?_
 obtain ⟨p,E,h⟩:=bS h
 refine cK (An (cW (c_quantile_Advance p0.Quantile p1 p E) (r4 (fr (r1 trivial)))) (r1 ?_))
 exact jT (p.2,p0.Recent,p0.Count,p0.Sum,p0.Smooth,p0.Spread,p0.Poly,p0.Halve.Now,p0.Halve.Sums,p0.Extreme,p.1) (An h (r12 (r1 (fr (r4 (fr (r5 (fr (r6 (fr (r5 (fr (r3 (fr (r1 (fr (r4 (fr (fr (r3 (fr (r4 (fr (r32 (r12 (r2 trivial))))))))))))))))))))))))))
 refine eN (cK (An (cW (c_synopsis_tick' p1 _ rfl) (r1 trivial)) (r1 ?_)))
 refine eN (cD h (fun g11 h=> ?_) (fun g11 h=> ?_))
 exact eN (jT ((3:Int),p0.Recent,p0.Count,p0.Sum,p0.Smooth,p0.Spread,p0.Poly,p0.Halve.Now,p0.Halve.Sums,p0.Extreme,p0.Quantile) (An h (r12 (r1 (fr (r4 (fr (r5 (fr (r6 (fr (r5 (fr (r3 (fr (r1 (fr (r4 (fr (fr (r3 (fr (r4 (fr (r32 (r12 (r2 trivial)))))))))))))))))))))))))))
 exact jT (w,p0.Recent,p0.Count,p0.Sum,p0.Smooth,p0.Spread,p0.Poly,p0.Halve.Now,p0.Halve.Sums,p0.Extreme,p0.Quantile) (An h (r12 (r1 (fr (r4 (fr (r5 (fr (r6 (fr (r5 (fr (r3 (fr (r1 (fr (r4 (fr (fr (r3 (fr (r4 (fr (r32 (r12 (r2 trivial))))))))))))))))))))))))))
 clear h
 refine fun q h=> ?_
 obtain ⟨H,s,b,c,d,e,f,t,u,g,i⟩:=q
 replace h:synopsis_Advance_j3 p0 H s b c d e f t u g i=some r:=h
 delta synopsis_Advance_j3 at h
 refine eN (cD h (fun g12 h=> ?_) (fun g12 h=> ?_))
 first|cases h|rw [←oJ h]
 exact eN (r48 (r8 (r2 trivial)))
 first|cases h|rw [←oJ h]
 exact eN (r8 (r3 (fr (r4 (fr (r5 (fr (r6 (fr (r5 (fr (r3 (fr (r1 (fr (r4 (fr (fr (r3 (fr (r4 (fr (r1 trivial)))))))))))))))))))))))
theorem c_ref24_Plain' (p0:api_Config) (r:api_Config) (h:ref24_Plain p0=r):Contract Tryz.prog 248 [.agg (enc_api_Config p0)] [] (.agg (enc_api_Config r)) []:=by
 refine C0 Tryz.func248 Tryz.call248 1 ?_
 delta ref24_Plain at h
 refine eN (eN (eN (eN (eN (eX (some (⟨Int×Int×Int×Int×Int×Int×Int,fun q=> [tM 2 (.ptr 2 0),tM 3 (.ptr 260 0),tB 2 [iI (0:Int),iI (0:Int),iI (0:Int),iI (0:Int),iI (0:Int),iI (0:Int),iI (0:Int),iI (0:Int)],tB 260 [iI p0.Kind,iI q.1,iI q.2.1,iI q.2.2.1,iI q.2.2.2.1,iI q.2.2.2.2.1,iI q.2.2.2.2.2.1,iI q.2.2.2.2.2.2]],fun q=>ref24_Plain_j2 p0 q.1 q.2.1 q.2.2.1 q.2.2.2.1 q.2.2.2.2.1 q.2.2.2.2.2.1 q.2.2.2.2.2.2=r,fun _=>0⟩,1000000)) (An ?_ ?_))))))
 refine cD h (fun g1 h=> ?_) (fun g1 h=> ?_)
 exact eN (jT ((0:Int),p0.W,(0:Int),p0.Cap,(0:Int),(0:Int),(0:Int)) (An h (r16 (r1 trivial))))
 refine eN (eX (some (⟨Bool,fun a=> [tM 1 (.ptr 1 0),tM 2 (.ptr 2 0),tM 3 (.ptr 260 0),tM 8 (iI p0.Kind),tM 17 (.sb a),tB 1 (enc_api_Config p0),tB 2 [iI (0:Int),iI (0:Int),iI (0:Int),iI (0:Int),iI (0:Int),iI (0:Int),iI (0:Int),iI (0:Int)],tB 260 [iI p0.Kind,iI (0:Int),iI (0:Int),iI (0:Int),iI (0:Int),iI (0:Int),iI (0:Int),iI (0:Int)]],fun a=>ref24_Plain_j3 p0 a=r,fun _=>0⟩,1000000)) (An ?_ ?_))
 refine cD h (fun g2 h=> ?_) (fun g2 h=> ?_)
 exact jT (p0.Kind==(2:Int)) (An h (r2 (An (Eq.symm g2) (r24 trivial))))
 refine eN (eN (cD h (fun g3 h=> ?_) (fun g3 h=> ?_)))
 exact jT (p0.Kind==(5:Int)) (An h (r2 (An (Eq.symm g3) (r24 trivial))))
 exact eN (jT (p0.Kind==(11:Int)) (An h (r24 (r3 trivial))))
 clear h
 refine fun a h=> ?_
 replace h:ref24_Plain_j3 p0 a=r:=h
 delta ref24_Plain_j3 at h
 refine eN (cD h (fun g4 h=> ?_) (fun g4 h=> ?_))
 exact eN (jT ((0:Int),p0.W,p0.K,p0.Cap,(0:Int),(0:Int),(0:Int)) (An h (r16 (r1 trivial))))
 refine eN (eN (cD h (fun g5 h=> ?_) (fun g5 h=> ?_)))
 exact eN (jT ((0:Int),p0.W,p0.K,p0.Cap,(0:Int),(0:Int),p0.Max) (An h (r16 (r1 trivial))))
 refine eN (eN (cD h (fun g6 h=> ?_) (fun g6 h=> ?_)))
 exact eN (jT (p0.Agg,p0.W,p0.K,p0.Cap,(0:Int),(0:Int),(0:Int)) (An h (r16 (r1 trivial))))
 refine eN (eN (cD h (fun g7 h=> ?_) (fun g7 h=> ?_)))
 exact eN (jT ((0:Int),(0:Int),(0:Int),(0:Int),p0.P,(0:Int),(0:Int)) (An h (r16 (r1 trivial))))
 refine eN (eN (cD h (fun g8 h=> ?_) (fun g8 h=> ?_)))
 exact eN (jT ((0:Int),p0.W,(0:Int),(0:Int),(0:Int),(0:Int),(0:Int)) (An h (r16 (r1 trivial))))
 refine eN (eN (cD h (fun g9 h=> ?_) (fun g9 h=> ?_)))
 exact eN (jT ((0:Int),p0.W,(0:Int),p0.Cap,(0:Int),(0:Int),p0.Max) (An h (r16 (r1 trivial))))
 refine eN (eN (cD h (fun g10 h=> ?_) (fun g10 h=> ?_)))
 exact eN (jT ((0:Int),p0.W,(0:Int),p0.Cap,(0:Int),p0.Chains,(0:Int)) (An h (r16 (r1 trivial))))
 refine eN (eN (cD h (fun g11 h=> ?_) (fun g11 h=> ?_)))
 exact eN (jT ((0:Int),(0:Int),p0.K,p0.Cap,(0:Int),(0:Int),(0:Int)) (An h (r16 (r1 trivial))))
 exact jT ((0:Int),(0:Int),(0:Int),(0:Int),(0:Int),(0:Int),(0:Int)) (An h (r16 (r1 trivial)))
 clear h
 refine fun q h=> ?_
 obtain ⟨b,c,d,e,f,g,i⟩:=q
 replace h:ref24_Plain_j2 p0 b c d e f g i=r:=h
 delta ref24_Plain_j2 at h
 cases h
 exact eN (r8 trivial)
theorem c_ref06_Window' (p0:Int) (r:Bool) (h:ref06_Window p0=r):Contract Tryz.prog 253 [iI p0] [] (.sb r) []:=by
 refine C0 Tryz.func253 Tryz.call253 1 ?_
 delta ref06_Window at h
 refine eN (eN (eN (An (fun g1=> ?_) (fun g1=> ?_))))
 cases h
 exact (An (Eq.symm (aR g1 rfl)) trivial)
 cases h
 exact (An (Eq.symm (aL g1)) trivial)
theorem c_ref06_Tick' (p0:Int) (r:Bool) (h:ref06_Tick p0=r):Contract Tryz.prog 56 [iI p0] [] (.sb r) []:=by
 refine C0 Tryz.func56 Tryz.call56 1 ?_
 delta ref06_Tick at h
 refine eN (eN (eN (An (fun g1=> ?_) (fun g1=> ?_))))
 cases h
 exact (An (Eq.symm (aR g1 rfl)) trivial)
 cases h
 exact (An (Eq.symm (aL g1)) trivial)
theorem c_ref09_May' (p0:Int) (p1:Int) (p2:Int) (r:Bool) (h:ref09_May p0 p1 p2=r):Contract Tryz.prog 250 [iI p0,iI p1,iI p2] [] (.sb r) []:=by
 refine C0 Tryz.func250 Tryz.call250 1 ?_
 delta ref09_May at h
 refine eN (eN (eN (cK (An (cW (c_ref06_Window' p0 _ rfl) (r1 trivial)) (r1 ?_)))))
 refine An (fun g1=> ?_) (fun g1=> ?_)
 refine An (fun g2=> ?_) (fun g2=> ?_)
 refine An (fun g3=> ?_) (fun g3=> ?_)
 refine cK (An (cW (c_ref06_Tick' p2 _ rfl) (r1 trivial)) (r1 ?_))
 cases h
 exact (An (Eq.symm (aR (aR (aR g1 g2) g3) rfl)) trivial)
 cases h
 exact (An (Eq.symm (aL (aR (aR g1 g2) g3))) trivial)
 cases h
 exact (An (Eq.symm (aL (aL (aR g1 g2)))) trivial)
 cases h
 exact (An (Eq.symm (aL (aL (aL g1)))) trivial)
theorem c_ref11_MayK' (p0:Int) (r:Bool) (h:ref11_MayK p0=r):Contract Tryz.prog 257 [iI p0] [] (.sb r) []:=by
 refine C0 Tryz.func257 Tryz.call257 1 ?_
 delta ref11_MayK at h
 refine eN (eN (eN (An (fun g1=> ?_) (fun g1=> ?_))))
 cases h
 exact (An (Eq.symm (aR g1 rfl)) trivial)
 cases h
 exact (An (Eq.symm (aL g1)) trivial)
theorem c_ref13_MayAgg' (p0:Int) (r:Bool) (h:ref13_MayAgg p0=r):Contract Tryz.prog 256 [iI p0] [] (.sb r) []:=by
 refine C0 Tryz.func256 Tryz.call256 1 ?_
 delta ref13_MayAgg at h
 refine eN (eN (eN (An (fun g1=> ?_) (fun g1=> ?_))))
 cases h
 exact (An (Eq.symm (aR g1 rfl)) trivial)
 cases h
 exact (An (Eq.symm (aL g1)) trivial)
theorem c_ref24_ranges' (p0:api_Config) (r:Bool) (h:ref24_ranges p0=r):Contract Tryz.prog 249 [.agg (enc_api_Config p0)] [] (.sb r) []:=by
 refine C0 Tryz.func249 Tryz.call249 1 ?_
 delta ref24_ranges at h
 refine eN (eN (cK (An (cW (c_ref09_May' p0.W p0.Cap (0:Int) _ rfl) (r3 trivial)) (r1 ?_))))
 refine eN (eN (eN (eN (cD h (fun g1 h=> ?_) (fun g1 h=> ?_)))))
 cases h
 exact eN (r1 trivial)
 refine eN (eX (some (⟨Bool,fun a=> [tM 1 (.ptr 1 0),tM 3 (.sb (ref09_May p0.W p0.Cap (0:Int))),tM 10 (iI p0.Kind),tM 14 (.sb a),tB 1 (enc_api_Config p0)],fun a=>ref24_ranges_j3 p0 (ref09_May p0.W p0.Cap (0:Int)) a=r,fun _=>0⟩,1000000)) (An ?_ ?_))
 refine cD h (fun g2 h=> ?_) (fun g2 h=> ?_)
 exact jT (p0.Kind==(2:Int)) (An h (r3 (An (Eq.symm g2) (r8 trivial))))
 refine eN (eN (cD h (fun g3 h=> ?_) (fun g3 h=> ?_)))
 exact jT (p0.Kind==(5:Int)) (An h (r3 (An (Eq.symm g3) (r8 trivial))))
 exact eN (jT (p0.Kind==(11:Int)) (An h (r12 trivial)))
 clear h
 refine fun a h=> ?_
 replace h:ref24_ranges_j3 p0 (ref09_May p0.W p0.Cap (0:Int)) a=r:=h
 delta ref24_ranges_j3 at h
 refine cD h (fun g4 h=> ?_) (fun g4 h=> ?_)
 refine eN (eN (An (fun g5=> ?_) (fun g5=> ?_)))
 refine cK (An (cW (c_ref11_MayK' p0.K _ rfl) (r1 trivial)) (r1 ?_))
 cases h
 exact (An (Eq.symm (aR g5 rfl)) trivial)
 cases h
 exact (An (Eq.symm (aL g5)) trivial)
 refine eN (cD h (fun g6 h=> ?_) (fun g6 h=> ?_))
 refine eN (eN (An (fun g7=> ?_) (fun g7=> ?_)))
 refine cK (An (cW (c_ref11_MayK' p0.K _ rfl) (r1 trivial)) (r1 ?_))
 refine An (fun g8=> ?_) (fun g8=> ?_)
 refine An (fun g9=> ?_) (fun g9=> ?_)
 cases h
 exact (An (Eq.symm (aR (aR (aR g7 g8) g9) rfl)) trivial)
 cases h
 exact (An (Eq.symm (aL (aR (aR g7 g8) g9))) trivial)
 cases h
 exact (An (Eq.symm (aL (aL (aR g7 g8)))) trivial)
 cases h
 exact (An (Eq.symm (aL (aL (aL g7)))) trivial)
 refine eN (cD h (fun g10 h=> ?_) (fun g10 h=> ?_))
 refine eN (eN (An (fun g11=> ?_) (fun g11=> ?_)))
 refine cK (An (cW (c_ref11_MayK' p0.K _ rfl) (r1 trivial)) (r1 ?_))
 refine An (fun g12=> ?_) (fun g12=> ?_)
 refine cK (An (cW (c_ref13_MayAgg' p0.Agg _ rfl) (r1 trivial)) (r1 ?_))
 cases h
 exact (An (Eq.symm (aR (aR g11 g12) rfl)) trivial)
 cases h
 exact (An (Eq.symm (aL (aR g11 g12))) trivial)
 cases h
 exact (An (Eq.symm (aL (aL g11))) trivial)
 refine eN (cD h (fun g13 h=> ?_) (fun g13 h=> ?_))
 refine eN (eN (An (fun g14=> ?_) (fun g14=> ?_)))
 cases h
 exact (An (Eq.symm (aR g14 rfl)) trivial)
 cases h
 exact (An (Eq.symm (aL g14)) trivial)
 refine eN (cD h (fun g15 h=> ?_) (fun g15 h=> ?_))
 refine eN (eN (An (fun g16=> ?_) (fun g16=> ?_)))
 cases h
 exact (An (Eq.symm (aR g16 rfl)) trivial)
 cases h
 exact (An (Eq.symm (aL g16)) trivial)
 refine eN (cD h (fun g17 h=> ?_) (fun g17 h=> ?_))
 refine eN (eN (An (fun g18=> ?_) (fun g18=> ?_)))
 refine An (fun g19=> ?_) (fun g19=> ?_)
 cases h
 exact (An (Eq.symm (aR g18 (oR g19 rfl))) trivial)
 cases h
 exact (An (Eq.symm (aR g18 (oL g19))) trivial)
 cases h
 exact (An (Eq.symm (aL g18)) trivial)
 refine eN (cD h (fun g20 h=> ?_) (fun g20 h=> ?_))
 refine eN (eN (An (fun g21=> ?_) (fun g21=> ?_)))
 refine An (fun g22=> ?_) (fun g22=> ?_)
 refine An (fun g23=> ?_) (fun g23=> ?_)
 refine An (fun g24=> ?_) (fun g24=> ?_)
 refine An (fun g25=> ?_) (fun g25=> ?_)
 cases h
 exact (An (Eq.symm (aR (aR (aR (aR (aR g21 g22) g23) g24) g25) rfl)) trivial)
 cases h
 exact (An (Eq.symm (aL (aR (aR (aR (aR g21 g22) g23) g24) g25))) trivial)
 cases h
 exact (An (Eq.symm (aL (aL (aR (aR (aR g21 g22) g23) g24)))) trivial)
 cases h
 exact (An (Eq.symm (aL (aL (aL (aR (aR g21 g22) g23))))) trivial)
 cases h
 exact (An (Eq.symm (aL (aL (aL (aL (aR g21 g22)))))) trivial)
 cases h
 exact (An (Eq.symm (aL (aL (aL (aL (aL g21)))))) trivial)
 refine eN (cD h (fun g26 h=> ?_) (fun g26 h=> ?_))
 refine eN (eN (cK (An (cW (c_ref11_MayK' p0.K _ rfl) (r1 trivial)) (r1 ?_))))
 refine An (fun g27=> ?_) (fun g27=> ?_)
 refine An (fun g28=> ?_) (fun g28=> ?_)
 cases h
 exact (An (Eq.symm (aR (aR g27 g28) rfl)) trivial)
 cases h
 exact (An (Eq.symm (aL (aR g27 g28))) trivial)
 cases h
 exact (An (Eq.symm (aL (aL g27))) trivial)
 cases h
 exact eN (r1 trivial)
theorem c_ref24_Validate' (p0:api_Config) (r:Int) (h:ref24_Validate p0=r):Contract Tryz.prog 142 [.agg (enc_api_Config p0)] [] (iI r) []:=by
 refine C0 Tryz.func142 Tryz.call142 1 ?_
 delta ref24_Validate at h
 refine eN (eN (eN (cK (An (cW (c_ref24_Plain' p0 _ rfl) (r8 trivial)) (r1 ?_)))))
 refine An (fun g1=> ?_) (fun g1=> ?_)
 refine cK (An (cW (c_ref24_ranges' p0 _ rfl) (r8 trivial)) (r1 ?_))
 refine An (fun g2=> ?_) (fun g2=> ?_)
 replace h:=cT (oR g1 g2) h
 cases h
 exact eN (r1 trivial)
 replace h:=cF (oR g1 g2) h
 cases h
 exact eN (r1 trivial)
 replace h:=cT (oL g1) h
 cases h
 exact eN (r1 trivial)
theorem c_ref08_Valid (p0:(List api_Item)) (p1:Int) (r:Bool) (h:ref08_Valid p0 p1=some r):Contract Tryz.prog 251 [lF 2 (List.map enc_api_Item p0),iI p1] [] (.sb r) []:=by
 refine C0 Tryz.func251 Tryz.call251 1 ?_
 delta ref08_Valid at h
 refine eN (eN (cK (An (cW (c_ref06_Tick' p1 _ rfl) (r1 trivial)) (r1 ?_))))
 refine cD h (fun g1 h=> ?_) (fun g1 h=> ?_)
 first|cases h|rw [←oJ h]
 exact eN (r1 trivial)
 refine eN (eX [iI (p0.length:Int)] (An (lenS enc_api_Item p0) ?_))
 replace h:ref08_Valid_l3 p0 p1 (0:Int)=some r:=h
 delta ref08_Valid_l3 at h
 obtain ⟨n1,h⟩:=loopS h
 refine eX (Sum.inl ⟨Int×Nat,fun q=> [tM 0 (lF 2 (List.map enc_api_Item p0)),tM 1 (iI p1),tM 10 (lF 2 (List.map enc_api_Item p0)),tM 11 (iI (p0.length:Int)),tM 12 (iI q.1)],fun q=>loopN (fun (s:Int)=>ref08_Valid_l3s p0 p1 s) q.2 q.1=some r,fun q=>q.2⟩) (An (eX [] (eX [] (eX ((0:Int),n1) (An h (r1 (fr (r1 (fr (r2 trivial))))))))) ?_)
 clear h
 refine fun q h=> ?_
 obtain ⟨b,n1⟩:=q
 obtain ⟨m1,x1,hm1,h,hl1,hr1⟩:=loopN_step h
 replace hm1:n1=m1+1:=hm1
 subst hm1
 replace h:ref08_Valid_l3s p0 p1 b=some x1:=h
 delta ref08_Valid_l3s at h
 refine eN (cD h (fun g2 h=> ?_) (fun g2 h=> ?_))
 refine eN ?_
 obtain ⟨a,e,h⟩:=bS h
 refine eX [iI a.T,iI a.V] (An (idx_map enc_api_Item e) ?_)
 refine eN ?_
 obtain ⟨c,d,h⟩:=bS h
 refine eX (some (⟨Unit,fun _=> [tM 0 (lF 2 (List.map enc_api_Item p0)),tM 1 (iI p1),tM 10 (lF 2 (List.map enc_api_Item p0)),tM 11 (iI (p0.length:Int)),tM 12 (iI b),tM 40 (.sb (((decide (a.T<(0:Int)))||(decide (a.T>p1)))||((decide (b>(0:Int)))&&(decide (c.T>a.T)))))],fun _=>True,fun _=>0⟩,1000000)) (An ?_ (fun _ _=> ?_))
 refine An (fun g3=> ?_) (fun g3=> ?_)
 refine An (fun g4=> ?_) (fun g4=> ?_)
 refine An (fun g5=> ?_) (fun g5=> ?_)
 refine eX [iI c.T,iI c.V] (An (idx_map enc_api_Item (gdT (aR (nE (oR g3 g4)) g5) d)) ?_)
 exact jU (An trivial (r1 (fr (r1 (fr (r2 (An (Eq.symm (oR (oR g3 g4) (aR g5 rfl))) trivial)))))))
 exact jU (An trivial (r1 (fr (r1 (fr (r2 (An (Eq.symm (oR (oR g3 g4) (aL g5))) trivial)))))))
 exact jU (An trivial (r1 (fr (r1 (fr (r2 (An (Eq.symm (oL (oR g3 g4))) trivial)))))))
 exact jU (An trivial (r1 (fr (r1 (fr (r2 (An (Eq.symm (oL (oL g3))) trivial)))))))
 refine cD h (fun g6 h=> ?_) (fun g6 h=> ?_)
 cases retS h hr1
 exact eN (r1 trivial)
 exact eN (jT (_,m1) (An (hl1 _ (oJ h).symm) (An (jL m1) (r1 (fr (r1 (fr (r2 trivial))))))))
 replace h:=popS h hr1
 first|cases h|rw [←oJ h]
 exact eN (r1 trivial)
theorem c_ref06_Live' (p0:Int) (p1:Int) (p2:Int) (r:Bool) (h:ref06_Live p0 p1 p2=r):Contract Tryz.prog 252 [iI p0,iI p1,iI p2] [] (.sb r) []:=by
 refine C0 Tryz.func252 Tryz.call252 1 ?_
 delta ref06_Live at h
 refine eN (eN (eN (cK (An (cW (c_ref06_Tick' p0 _ rfl) (r1 trivial)) (r1 ?_)))))
 refine An (fun g1=> ?_) (fun g1=> ?_)
 refine cK (An (cW (c_ref06_Window' p1 _ rfl) (r1 trivial)) (r1 ?_))
 refine An (fun g2=> ?_) (fun g2=> ?_)
 refine cK (An (cW (c_ref06_Tick' p2 _ rfl) (r1 trivial)) (r1 ?_))
 refine An (fun g3=> ?_) (fun g3=> ?_)
 refine An (fun g4=> ?_) (fun g4=> ?_)
 cases h
 exact (An (Eq.symm (aR (aR (aR (aR g1 g2) g3) g4) rfl)) trivial)
 cases h
 exact (An (Eq.symm (aL (aR (aR (aR g1 g2) g3) g4))) trivial)
 cases h
 exact (An (Eq.symm (aL (aL (aR (aR g1 g2) g3)))) trivial)
 cases h
 exact (An (Eq.symm (aL (aL (aL (aR g1 g2))))) trivial)
 cases h
 exact (An (Eq.symm (aL (aL (aL (aL g1))))) trivial)
theorem c_ref09_Value' (p0:Int) (r:Bool) (h:ref09_Value p0=r):Contract Tryz.prog 99 [iI p0] [] (.sb r) []:=by
 refine C0 Tryz.func99 Tryz.call99 1 ?_
 delta ref09_Value at h
 refine eN (eN (eN (An (fun g1=> ?_) (fun g1=> ?_))))
 cases h
 exact (An (Eq.symm (aR g1 rfl)) trivial)
 cases h
 exact (An (Eq.symm (aL g1)) trivial)
theorem c_ref09_Validate (p0:api_Recent) (r:Int) (h:ref09_Validate p0=some r):Contract Tryz.prog 145 [.agg (enc_api_Recent p0)] [] (iI r) []:=by
 refine C0 Tryz.func145 Tryz.call145 1 ?_
 delta ref09_Validate at h
 refine eN (eN ?_)
 obtain ⟨b,c,h⟩:=bS h
 refine eN (cK (An (cW (c_ref09_May' p0.W p0.Cap p0.Now _ rfl) (r3 trivial)) (r1 ?_)))
 refine An (fun g1=> ?_) (fun g1=> ?_)
 refine eX [iI (p0.Items.length:Int)] (An (lenS enc_api_Item p0.Items) ?_)
 refine An (fun g2=> ?_) (fun g2=> ?_)
 refine cK (An (cW (c_ref08_Valid p0.Items p0.Now b (gdT (nE (oR g1 g2)) c)) (fr (r1 trivial))) (r1 ?_))
 refine An (fun g3=> ?_) (fun g3=> ?_)
 replace h:=cT (oR (oR g1 g2) g3) h
 first|cases h|rw [←oJ h]
 exact eN (r1 trivial)
 replace h:=cF (oR (oR g1 g2) g3) h
 refine eN (eX [iI (p0.Items.length:Int)] (An (lenS enc_api_Item p0.Items) ?_))
 replace h:ref09_Validate_l3 p0 (0:Int)=some r:=h
 delta ref09_Validate_l3 at h
 obtain ⟨n1,h⟩:=loopS h
 refine eX (Sum.inl ⟨Int×Nat,fun q=> [tM 1 (.ptr 1 0),tM 30 (lF 2 (List.map enc_api_Item p0.Items)),tM 31 (iI (p0.Items.length:Int)),tM 32 (iI q.1),tB 1 (enc_api_Recent p0)],fun q=>loopN (fun (s:Int)=>ref09_Validate_l3s p0 s) q.2 q.1=some r,fun q=>q.2⟩) (An (eX [] (eX [] (eX ((0:Int),n1) (An h (r1 (fr (r5 (fr trivial)))))))) ?_)
 clear h
 refine fun q h=> ?_
 obtain ⟨d,n1⟩:=q
 obtain ⟨m1,x1,hm1,h,hl1,hr1⟩:=loopN_step h
 replace hm1:n1=m1+1:=hm1
 subst hm1
 replace h:ref09_Validate_l3s p0 d=some x1:=h
 delta ref09_Validate_l3s at h
 refine eN (cD h (fun g4 h=> ?_) (fun g4 h=> ?_))
 refine eN ?_
 obtain ⟨a,e,h⟩:=bS h
 refine eX [iI a.T,iI a.V] (An (idx_map enc_api_Item e) ?_)
 refine eN (eN (cK (An (cW (c_ref06_Live' p0.Now p0.W a.T _ rfl) (r3 trivial)) (r1 ?_))))
 refine An (fun g5=> ?_) (fun g5=> ?_)
 refine cK (An (cW (c_ref09_Value' a.V _ rfl) (r1 trivial)) (r1 ?_))
 refine An (fun g6=> ?_) (fun g6=> ?_)
 replace h:=cT (oR g5 g6) h
 cases retS h hr1
 exact eN (r1 trivial)
 replace h:=cF (oR g5 g6) h
 exact eN (jT (_,m1) (An (hl1 _ (oJ h).symm) (An (jL m1) (r1 (fr (r5 (fr trivial)))))))
 replace h:=cT (oL g5) h
 cases retS h hr1
 exact eN (r1 trivial)
 replace h:=popS h hr1
 first|cases h|rw [←oJ h]
 exact eN (r1 trivial)
 replace h:=cT (oL (oR g1 g2)) h
 first|cases h|rw [←oJ h]
 exact eN (r1 trivial)
 replace h:=cT (oL (oL g1)) h
 first|cases h|rw [←oJ h]
 exact eN (r1 trivial)
theorem c_ref10_MayK' (p0:Int) (r:Bool) (h:ref10_MayK p0=r):Contract Tryz.prog 339 [iI p0] [] (.sb r) []:=by
 refine C0 Tryz.func339 Tryz.call339 1 ?_
 delta ref10_MayK at h
 refine eN (eN (eN (An (fun g1=> ?_) (fun g1=> ?_))))
 cases h
 exact (An (Eq.symm (aR g1 rfl)) trivial)
 cases h
 exact (An (Eq.symm (aL g1)) trivial)
theorem c_ref10_Valid (p0:(List api_Bucket)) (p1:Int) (r:Bool) (h:ref10_Valid p0 p1=some r):Contract Tryz.prog 293 [lF 2 (List.map enc_api_Bucket p0),iI p1] [] (.sb r) []:=by
 refine C0 Tryz.func293 Tryz.call293 1 ?_
 delta ref10_Valid at h
 refine eN (eN (cK (An (cW (c_ref10_MayK' p1 _ rfl) (r1 trivial)) (r1 ?_))))
 refine cD h (fun g1 h=> ?_) (fun g1 h=> ?_)
 first|cases h|rw [←oJ h]
 exact eN (r1 trivial)
 refine eN ?_
 obtain ⟨o,h⟩:=ckS h
 refine An (oD o) ?_
 refine eN (eX [iI (p0.length:Int)] (An (lenS enc_api_Bucket p0) ?_))
 replace h:ref10_Valid_l3 p0 p1 (List.replicate ((31:Int)).toNat (0:Int)) (0:Int)=some r:=h
 delta ref10_Valid_l3 at h
 obtain ⟨n1,h⟩:=loopS h
 refine eX (Sum.inl ⟨((List Int)×Int)×Nat,fun q=> [tM 0 (lF 2 (List.map enc_api_Bucket p0)),tM 1 (iI p1),tM 5 (.own 513),tM 14 (lF 2 (List.map enc_api_Bucket p0)),tM 15 (iI (p0.length:Int)),tM 16 (iI q.1.2),(.tok 513, .tok 3 1 (List.map (eI .i64) q.1.1))],fun q=>loopN (fun (s:((List Int)×Int))=>ref10_Valid_l3s p0 p1 s.1 s.2) q.2 q.1=some r,fun q=>q.2⟩) (An (eX [] (eX [] (eX (((List.replicate ((31:Int)).toNat (0:Int)),(0:Int)),n1) (An h (r1 (fr (r1 (fr (r2 (An lE trivial)))))))))) ?_)
 clear h
 refine fun q h=> ?_
 obtain ⟨⟨a,c⟩,n1⟩:=q
 obtain ⟨m1,x1,hm1,h,hl1,hr1⟩:=loopN_step h
 replace hm1:n1=m1+1:=hm1
 subst hm1
 replace h:ref10_Valid_l3s p0 p1 a c=some x1:=h
 delta ref10_Valid_l3s at h
 refine eN (cD h (fun g2 h=> ?_) (fun g2 h=> ?_))
 refine eN ?_
 obtain ⟨b,p,h⟩:=bS h
 refine eX [iI b.T,iI b.Level] (An (idx_map enc_api_Bucket p) ?_)
 refine eN ?_
 obtain ⟨d,j,h⟩:=bS h
 obtain ⟨e,k,h⟩:=bS h
 refine eX (some (⟨Unit,fun _=> [tM 0 (lF 2 (List.map enc_api_Bucket p0)),tM 1 (iI p1),tM 5 (.own 513),tM 7 (.ptr 1284 0),tM 14 (lF 2 (List.map enc_api_Bucket p0)),tM 15 (iI (p0.length:Int)),tM 16 (iI c),tM 60 (.sb ((((!(ref06_Tick b.T))||(decide (b.Level<(0:Int))))||(decide (b.Level>(30:Int))))||((decide (c>(0:Int)))&&((decide (d.T>b.T))||(decide (e.Level<b.Level)))))),tB 1284 [iI b.T,iI b.Level],(.tok 513, .tok 3 1 (List.map (eI .i64) a))],fun _=>True,fun _=>0⟩,1000000)) (An ?_ (fun _ _=> ?_))
 refine cK (An (cW (c_ref06_Tick' b.T _ rfl) (r1 trivial)) (r1 ?_))
 refine An (fun g3=> ?_) (fun g3=> ?_)
 refine An (fun g4=> ?_) (fun g4=> ?_)
 refine An (fun g5=> ?_) (fun g5=> ?_)
 refine An (fun g6=> ?_) (fun g6=> ?_)
 refine eX [iI d.T,iI d.Level] (An (idx_map enc_api_Bucket (gdT (aR (nE (oR (oR g3 g4) g5)) g6) j)) ?_)
 refine An (fun g7=> ?_) (fun g7=> ?_)
 refine eX [iI e.T,iI e.Level] (An (idx_map enc_api_Bucket (gdT (aR (aR (nE (oR (oR g3 g4) g5)) g6) (nE g7)) k)) ?_)
 exact jU (An trivial (r1 (fr (r1 (fr (r2 (An (Eq.symm (oR (oR (oR g3 g4) g5) (aR g6 (oR g7 rfl)))) (r3 trivial))))))))
 exact jU (An trivial (r1 (fr (r1 (fr (r2 (An (Eq.symm (oR (oR (oR g3 g4) g5) (aR g6 (oL g7)))) (r3 trivial))))))))
 exact jU (An trivial (r1 (fr (r1 (fr (r2 (An (Eq.symm (oR (oR (oR g3 g4) g5) (aL g6))) (r3 trivial))))))))
 exact jU (An trivial (r1 (fr (r1 (fr (r2 (An (Eq.symm (oL (oR (oR g3 g4) g5))) (r3 trivial))))))))
 exact jU (An trivial (r1 (fr (r1 (fr (r2 (An (Eq.symm (oL (oL (oR g3 g4)))) (r3 trivial))))))))
 exact jU (An trivial (r1 (fr (r1 (fr (r2 (An (Eq.symm (oL (oL (oL g3)))) (r3 trivial))))))))
 refine cD h (fun g8 h=> ?_) (fun g8 h=> ?_)
 cases retS h hr1
 exact eN (r1 trivial)
 refine eN ?_
 obtain ⟨A,t,h⟩:=bS h
 obtain ⟨u,v,h⟩:=bS h
 obtain ⟨B,w,h⟩:=bS h
 obtain ⟨x,y,h⟩:=bS h
 refine An (idx_lt (eI .i64) t) ?_
 refine eX [iI u] (An (idx_elt (eI .i64) v) ?_)
 refine An (idx_lt (eI .i64) w) ?_
 refine eX [iI x] (An (idx_elt (eI .i64) y) ?_)
 exact eN (jT (_,m1) (An (hl1 _ (oJ h).symm) (An (jL m1) (r1 (fr (r1 (fr (r2 (An lE trivial)))))))))
 replace h:=popS h hr1
 refine eN (eX [iI (a.length:Int)] (An (lenS (eI .i64) a) ?_))
 replace h:ref10_Valid_l8 p0 p1 a (0:Int)=some r:=h
 delta ref10_Valid_l8 at h
 obtain ⟨n1,h⟩:=loopS h
 refine eX (Sum.inl ⟨Int×Nat,fun q=> [tM 0 (lF 2 (List.map enc_api_Bucket p0)),tM 1 (iI p1),tM 69 (.own 513),tM 70 (iI (a.length:Int)),tM 71 (iI q.1),(.tok 513, .tok 3 1 (List.map (eI .i64) a))],fun q=>loopN (fun (s:Int)=>ref10_Valid_l8s p0 p1 a s) q.2 q.1=some r,fun q=>q.2⟩) (An (eX [] (eX [] (eX ((0:Int),n1) (An h (r1 (fr (r4 trivial))))))) ?_)
 clear h
 refine fun q h=> ?_
 obtain ⟨f,n1⟩:=q
 obtain ⟨m1,x1,hm1,h,hl1,hr1⟩:=loopN_step h
 replace hm1:n1=m1+1:=hm1
 subst hm1
 replace h:ref10_Valid_l8s p0 p1 a f=some x1:=h
 delta ref10_Valid_l8s at h
 refine eN (cD h (fun g9 h=> ?_) (fun g9 h=> ?_))
 refine eN ?_
 obtain ⟨z,l,h⟩:=bS h
 obtain ⟨g,m,h⟩:=bS h
 refine An (idx_lt (eI .i64) l) ?_
 refine eX [iI g] (An (idx_elt (eI .i64) m) ?_)
 refine eN ?_
 obtain ⟨i,n,h⟩:=bS h
 refine eX (some (⟨Unit,fun _=> [tM 0 (lF 2 (List.map enc_api_Bucket p0)),tM 1 (iI p1),tM 69 (.own 513),tM 70 (iI (a.length:Int)),tM 71 (iI f),tM 97 (.sb ((decide ((p0.length:Int)>(0:Int)))&&(((decide (f<i.Level))&&(decide (g<p1)))||(decide (g>(w64 (p1+(1:Int)))))))),(.tok 513, .tok 3 1 (List.map (eI .i64) a))],fun _=>True,fun _=>0⟩,1000000)) (An ?_ (fun _ _=> ?_))
 refine eX [iI (p0.length:Int)] (An (lenS enc_api_Bucket p0) ?_)
 refine An (fun g10=> ?_) (fun g10=> ?_)
 refine eX [iI i.T,iI i.Level] (An (idx_map enc_api_Bucket (gdT g10 n)) ?_)
 refine An (fun g11=> ?_) (fun g11=> ?_)
 refine An (fun g12=> ?_) (fun g12=> ?_)
 exact jU (An trivial (r1 (fr (r3 (An (Eq.symm (aR g10 (oR (aR g11 g12) rfl))) (r1 trivial))))))
 exact jU (An trivial (r1 (fr (r3 (An (Eq.symm (aR g10 (oL (aR g11 g12)))) (r1 trivial))))))
 exact jU (An trivial (r1 (fr (r3 (An (Eq.symm (aR g10 (oR (aL g11) rfl))) (r1 trivial))))))
 exact jU (An trivial (r1 (fr (r3 (An (Eq.symm (aL g10)) (r1 trivial))))))
 refine cD h (fun g13 h=> ?_) (fun g13 h=> ?_)
 cases retS h hr1
 exact eN (r1 trivial)
 exact eN (jT (_,m1) (An (hl1 _ (oJ h).symm) (An (jL m1) (r1 (fr (r4 trivial))))))
 replace h:=popS h hr1
 first|cases h|rw [←oJ h]
 exact eN (r1 trivial)
theorem c_ref10_Total (p0:(List api_Bucket)) (r:Int) (h:ref10_Total p0=some r):Contract Tryz.prog 210 [lF 2 (List.map enc_api_Bucket p0)] [] (iI r) []:=by
 refine C0 Tryz.func210 Tryz.call210 1 ?_
 delta ref10_Total at h
 refine eN (eN (eN (eX [iI (p0.length:Int)] (An (lenS enc_api_Bucket p0) ?_))))
 replace h:ref10_Total_l2 p0 (0:Int) (0:Int)=some r:=h
 delta ref10_Total_l2 at h
 obtain ⟨n1,h⟩:=loopS h
 refine eX (Sum.inl ⟨(Int×Int)×Nat,fun q=> [tM 3 (iI q.1.1),tM 6 (lF 2 (List.map enc_api_Bucket p0)),tM 7 (iI (p0.length:Int)),tM 8 (iI q.1.2)],fun q=>loopN (fun (s:(Int×Int))=>ref10_Total_l2s p0 s.1 s.2) q.2 q.1=some r,fun q=>q.2⟩) (An (eX [] (eX [] (eX (((0:Int),(0:Int)),n1) (An h (r2 (fr (r2 trivial))))))) ?_)
 clear h
 refine fun q h=> ?_
 obtain ⟨⟨b,c⟩,n1⟩:=q
 obtain ⟨m1,x1,hm1,h,hl1,hr1⟩:=loopN_step h
 replace hm1:n1=m1+1:=hm1
 subst hm1
 replace h:ref10_Total_l2s p0 b c=some x1:=h
 delta ref10_Total_l2s at h
 refine eN (cD h (fun g1 h=> ?_) (fun g1 h=> ?_))
 refine eN (eN ?_)
 obtain ⟨a,d,h⟩:=bS h
 refine eX [iI a.T,iI a.Level] (An (idx_map enc_api_Bucket d) ?_)
 refine eN (eX (some (⟨Unit,fun _=> [tM 3 (iI b),tM 5 (.ptr 1027 0),tM 6 (lF 2 (List.map enc_api_Bucket p0)),tM 7 (iI (p0.length:Int)),tM 8 (iI c),tM 19 (.sb ((decide (a.Level≥(0:Int)))&&(decide (a.Level≤(30:Int))))),tB 1027 [iI a.T,iI a.Level]],fun _=>True,fun _=>0⟩,1000000)) (An ?_ (fun _ _=> ?_)))
 refine An (fun g2=> ?_) (fun g2=> ?_)
 exact jU (An trivial (r2 (fr (r2 (An (Eq.symm (aR g2 rfl)) (r2 trivial))))))
 exact jU (An trivial (r2 (fr (r2 (An (Eq.symm (aL g2)) (r2 trivial))))))
 refine eN (cD h (fun g3 h=> ?_) (fun g3 h=> ?_))
 refine eN ?_
 obtain ⟨e,h⟩:=ckS h
 refine An (oD e) ?_
 exact eN (jT (_,m1) (An (hl1 _ (oJ h).symm) (An (jL m1) (r2 (fr (r2 trivial))))))
 exact eN (jT (_,m1) (An (hl1 _ (oJ h).symm) (An (jL m1) (r2 (fr (r2 trivial))))))
 replace h:=popS h hr1
 first|cases h|rw [←oJ h]
 exact eN (r1 trivial)
end Go.Proofs.YtmipeaidieflmaaGreat
