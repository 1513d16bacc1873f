/- Pu: chapters 14 to 17: which states are valid: spreads, decayed sums, deques. -/
import Derived.Test.YtmipeaidieflmaaGreatPuSm
set_option linter.unusedVariables false
set_option linter.unusedSimpArgs false
set_option linter.unnecessarySimpa false
set_option linter.unusedSectionVars false
namespace Go.Win
open Go.Vc Go.Dec
theorem u64_of {n:Int} (h:wfI .u64 n):0≤n∧n<18446744073709551616:=by
 simp [wfI,Lit.wf,IntKind.min,IntKind.max,IntKind.signed,IntKind.bits] at h
 omega
theorem compare_eq:wide_Compare=ref02_Compare:=rfl
def rightP (m:api_Mark):Prop:=(1≤m.N∧m.N≤65536)∧(-(m.N*4096)≤m.S∧m.S≤m.N*4096)∧(0≤m.Q∧m.Q≤m.N*16777216)∧m.S*m.S≤m.N*m.Q
theorem right_rng {m:api_Mark} (h1:1≤m.N∧m.N≤65536) (h2: -(m.N*4096)≤m.S∧m.S≤m.N*4096) (h3:0≤m.Q∧m.Q≤m.N*16777216):
  (0≤m.S*m.S∧m.S*m.S≤72057594037927936)∧(0≤m.N*m.Q∧m.N*m.Q≤72057594037927936):=by
 have e2:(m.S.natAbs:Int)*m.S.natAbs=m.S*m.S:=Int.natAbs_mul_self
 have h6:m.S.natAbs*m.S.natAbs≤268435456*268435456:=Nat.mul_le_mul (by omega) (by omega)
 have h7:((m.S.natAbs*m.S.natAbs:Nat):Int)=(m.S.natAbs:Int)*m.S.natAbs:=by rw [Int.natCast_mul]
 have hq:m.N*m.Q≤65536*1099511627776:=Int.mul_le_mul h1.2 (by omega) h3.1 (by omega)
 have hq0:0≤m.N*m.Q:=Int.mul_nonneg (by omega) h3.1
 omega
theorem may14_iff (m:api_Mark):ref14_May m=true↔rightP m:=by
 unfold ref14_May rightP
 by_cases h1:1≤m.N∧m.N≤65536
 ·have e0:IntKind.i64.wrap (0-m.N)= -m.N:=by
   show w64 (0-m.N)=_
   rw [w64_id]<;>omega
  rw [e0,w64_id (n:= -m.N*4096) (by omega) (by omega),w64_id (n:=m.N*4096) (by omega) (by omega),w64_id (n:=m.N*4096*4096) (by omega) (by omega)]
  simp only [Bool.and_eq_true,decide_eq_true_eq]
  constructor
  ·rintro ⟨⟨⟨⟨⟨_,h2⟩,h3⟩,h4⟩,h5⟩,h6⟩
   have:=right_rng h1 (by omega) (by omega)
   rw [w64_id (by omega) (by omega),w64_id (by omega) (by omega)] at h6
   exact ⟨h1,by omega,by omega,h6⟩
  ·rintro ⟨_,h2,h3,h4⟩
   have:=right_rng h1 h2 h3
   rw [w64_id (n:=m.S*m.S) (by omega) (by omega),w64_id (n:=m.N*m.Q) (by omega) (by omega)]
   exact ⟨⟨⟨⟨⟨by omega,by omega⟩,by omega⟩,by omega⟩,by omega⟩,h4⟩
 ·simp only [Bool.and_eq_true,decide_eq_true_eq]
  constructor
  ·rintro ⟨⟨⟨⟨⟨h,_⟩,_⟩,_⟩,_⟩,_⟩;exact absurd h h1
  ·rintro ⟨h,_⟩;exact absurd h h1
theorem right_eq (m:api_Mark):spread_right m=ref14_May m:=by
 unfold spread_right ref14_May
 cases h:((((((decide (m.N<(1:Int)))||(decide (m.N>(65536:Int))))||(decide (m.S<(w64 ((IntKind.i64.wrap (0-m.N))*(4096:Int))))))||(decide (m.S>(w64 (m.N*(4096:Int))))))||(decide (m.Q<(0:Int))))||(decide (m.Q>(w64 ((w64 (m.N*(4096:Int)))*(4096:Int)))))) with
 |true=>
  rw [cond_true]
  symm
  rw [Bool.eq_false_iff]
  intro h2
  simp only [Bool.or_eq_true,decide_eq_true_eq] at h
  simp only [Bool.and_eq_true,decide_eq_true_eq] at h2
  omega
 |false=>
  rw [cond_false]
  simp only [Bool.or_eq_false_iff,decide_eq_false_iff_not] at h
  rw [Bool.eq_iff_iff]
  simp only [Bool.and_eq_true,decide_eq_true_eq]
  omega
theorem wide_mulP {a b:api_Wide} (ha:okW a) (hb:okW b) (h:wv a*wv b<340282366920938463463374607431768211456):wide_Mul a b=some (ofW (wv a*wv b),true):=by
 rw [wide_mul ha hb,if_pos h]
def topP (m:api_Mark):Int:=m.N*m.Q-m.S*m.S
theorem top_rng {m:api_Mark} (h:rightP m):0≤topP m∧topP m≤72057594037927936:=by
 have:=right_rng h.1 h.2.1 h.2.2.1
 have h4:=h.2.2.2
 unfold topP;omega
theorem top_eq {m:api_Mark} (h:rightP m):spread_top m=topP m:=by
 have:=right_rng h.1 h.2.1 h.2.2.1
 have h4:=h.2.2.2
 unfold spread_top topP
 rw [w64_id (n:=m.N*m.Q) (by omega) (by omega),w64_id (n:=m.S*m.S) (by omega) (by omega),w64_id]<;>omega
theorem wu_id {n:Int} (h0:0≤n) (h1:n<18446744073709551616):wu64 n=n:=by rw [wu64_eq];omega
def closeP (a b:api_Mark) (k:Int):Prop:=rightP a∧rightP b∧(1≤k∧k≤64)∧ ¬6*k*b.N<(6*k-1)*a.N∧topP a*b.N*(6*k-1)≤topP b*a.N*(6*k)
theorem mul_rng {a b A B:Int} (h1:0≤a∧a≤A) (h2:0≤b∧b≤B):0≤a*b∧a*b≤A*B:=
 ⟨Int.mul_nonneg h1.1 h2.1,Int.mul_le_mul h1.2 h2.2 h2.1 (Int.le_trans h1.1 h1.2)⟩
theorem wv_product {x y:Int} (hx:0≤x∧x<18446744073709551616) (hy:0≤y∧y<18446744073709551616):okW (ref02_Product x y)∧wv (ref02_Product x y)=x*y:=by
 rw [product_eq hx hy]
 have:=prod_nn hx hy
 exact ⟨ofW_ok this.1 this.2,wv_ofW _⟩
theorem wv_ofS {n:Int} (h:0≤n∧n<18446744073709551616):okW (ref02_Of n)∧wv (ref02_Of n)=n:=by
 refine ⟨of_ok h, ?_⟩
 show 0*18446744073709551616+n=n
 omega
theorem spread_close (a b:api_Mark) (k:Int):spread_Close a b k=some (bOf (closeP a b k)):=by
 unfold spread_Close
 simp only [right_eq]
 by_cases h1:rightP a∧rightP b∧(1≤k∧k≤64)
 ·obtain ⟨ha,hb,hk⟩:=h1
  rw [(may14_iff a).2 ha,(may14_iff b).2 hb]
  have e:(((!true|| !true)||decide (k<1))||decide (k>64))=false:=by simp;omega
  rw [e,cond_false]
  have ea:=ha.1
  have eb:=hb.1
  have n1:=mul_rng (a:=6*k) (A:=384) (b:=b.N) (B:=65536) (by omega) (by omega)
  have n2:=mul_rng (a:=6*k-1) (A:=383) (b:=a.N) (B:=65536) (by omega) (by omega)
  rw [w64_id (n:=6*k) (by omega) (by omega),w64_id (n:=6*k-1) (by omega) (by omega),w64_id (n:=6*k*b.N) (by omega) (by omega),w64_id (n:=(6*k-1)*a.N) (by omega) (by omega)]
  by_cases h2:6*k*b.N<(6*k-1)*a.N
  ·rw [decide_eq_true h2,cond_true,bOf_f fun h=>h.2.2.2.1 h2]
  ·have ta:=top_rng ha
   have tb:=top_rng hb
   rw [decide_eq_false h2,cond_false,top_eq ha,top_eq hb,wu_id (n:=topP b) (by omega) (by omega),wu_id (n:=topP a) (by omega) (by omega),wu_id (n:=a.N) (by omega) (by omega),wu_id (n:=b.N) (by omega) (by omega),
    wu_id (n:=6*k) (by omega) (by omega),wu_id (n:=6*k-1) (by omega) (by omega),wide_product,wide_of]
   have x1:=wv_product (x:=topP b) (y:=a.N) (by omega) (by omega)
   have x2:=wv_ofS (n:=6*k) (by omega)
   have y1:=wv_product (x:=topP a) (y:=b.N) (by omega) (by omega)
   have y2:=wv_ofS (n:=6*k-1) (by omega)
   have m1:=mul_rng (a:=topP b) (b:=a.N) (A:=72057594037927936) (B:=65536) tb (by omega)
   have m2:=mul_rng (a:=topP a) (b:=b.N) (A:=72057594037927936) (B:=65536) ta (by omega)
   have m3:=mul_rng (a:=topP b*a.N) (b:=6*k) (B:=384) m1 (by omega)
   have m4:=mul_rng (a:=topP a*b.N) (b:=6*k-1) (B:=383) m2 (by omega)
   rw [wide_mulP x1.1 x2.1 (by rw [x1.2,x2.2];omega),Option.bind_some,wide_mulP y1.1 y2.1 (by rw [y1.2,y2.2];omega),Option.bind_some,x1.2,x2.2,y1.2,y2.2]
   rw [wide_compare (ofW_ok m3.1 (by omega)) (ofW_ok m4.1 (by omega)),wv_ofW,wv_ofW]
   congr 1
   rw [Bool.eq_iff_iff,bOf_iff,decide_eq_true_eq]
   unfold closeP
   constructor
   ·intro h
    refine ⟨ha,hb,hk,h2, ?_⟩
    split at h
    ·omega
    ·split at h<;>omega
   ·rintro ⟨_,_,_,_,h⟩
    split
    ·omega
    ·split<;>omega
 ·have e:(((!ref14_May a|| !ref14_May b)||decide (k<1))||decide (k>64))=true:=by
   rw [Bool.or_eq_true,Bool.or_eq_true,Bool.or_eq_true,Bool.not_eq_true',Bool.not_eq_true',Bool.eq_false_iff,Bool.eq_false_iff,Ne,Ne,may14_iff,may14_iff,decide_eq_true_eq,decide_eq_true_eq]
   by_cases g1:rightP a
   ·by_cases g2:rightP b
    ·have: ¬(1≤k∧k≤64):=fun h=>h1 ⟨g1,g2,h⟩
     omega
    ·exact .inl (.inl (.inr g2))
   ·exact .inl (.inl (.inl g1))
  rw [e,cond_true,bOf_f fun h=>h1 ⟨h.1,h.2.1,h.2.2.1⟩]
theorem ref14_close (a b:api_Mark) (k:Int):ref14_Close a b k=bOf (closeP a b k):=by
 unfold ref14_Close
 simp only []
 by_cases h1:rightP a∧rightP b∧(1≤k∧k≤64)
 ·obtain ⟨ha,hb,hk⟩:=h1
  rw [(may14_iff a).2 ha,(may14_iff b).2 hb,(mayK_iff k).2 hk]
  have ea:=ha.1
  have eb:=hb.1
  have n1:=mul_rng (a:=6*k) (A:=384) (b:=b.N) (B:=65536) (by omega) (by omega)
  have n2:=mul_rng (a:=6*k-1) (A:=383) (b:=a.N) (B:=65536) (by omega) (by omega)
  have n3:=mul_rng (a:=6*k) (A:=384) (b:=a.N) (B:=65536) (by omega) (by omega)
  have n4:=mul_rng (a:=6*k-1) (A:=383) (b:=b.N) (B:=65536) (by omega) (by omega)
  rw [w64_id (n:=6*k) (by omega) (by omega),w64_id (n:=6*k-1) (by omega) (by omega),w64_id (n:=6*k*b.N) (by omega) (by omega),w64_id (n:=(6*k-1)*a.N) (by omega) (by omega),
   w64_id (n:=6*k*a.N) (by omega) (by omega),w64_id (n:=(6*k-1)*b.N) (by omega) (by omega)]
  by_cases h2:6*k*b.N<(6*k-1)*a.N
  ·rw [decide_eq_true h2,bOf_f fun h=>h.2.2.2.1 h2];rfl
  ·have ta:=top_rng ha
   have tb:=top_rng hb
   rw [decide_eq_false h2]
   have et: ∀m,rightP m→w64 (w64 (m.N*m.Q)-w64 (m.S*m.S))=topP m:=fun m hm=>top_eq hm
   have ec:(((!true|| !true)|| !true)||false)=false:=rfl
   rw [ec,cond_false,et a ha,et b hb,wu_id (n:=topP b) (by omega) (by omega),wu_id (n:=topP a) (by omega) (by omega),wu_id (n:=6*k*a.N) (by omega) (by omega),wu_id (n:=(6*k-1)*b.N) (by omega) (by omega)]
   have x1:=wv_product (x:=topP b) (y:=6*k*a.N) (by omega) (by omega)
   have y1:=wv_product (x:=topP a) (y:=(6*k-1)*b.N) (by omega) (by omega)
   rw [←compare_eq,wide_compare x1.1 y1.1,x1.2,y1.2]
   have q1:topP b*(6*k*a.N)=topP b*a.N*(6*k):=by rw [Int.mul_comm (6*k) a.N,Int.mul_assoc]
   have q2:topP a*((6*k-1)*b.N)=topP a*b.N*(6*k-1):=by rw [Int.mul_comm (6*k-1) b.N,Int.mul_assoc]
   rw [q1,q2,Bool.eq_iff_iff,bOf_iff,decide_eq_true_eq]
   unfold closeP
   constructor
   ·intro h
    refine ⟨ha,hb,hk,h2, ?_⟩
    split at h
    ·omega
    ·split at h<;>omega
   ·rintro ⟨_,_,_,_,h⟩
    split
    ·omega
    ·split<;>omega
 ·have e:((!ref14_May a|| !ref14_May b)|| !ref11_MayK k)=true:=by
   rw [Bool.or_eq_true,Bool.or_eq_true,Bool.not_eq_true',Bool.not_eq_true',Bool.not_eq_true',Bool.eq_false_iff,Bool.eq_false_iff,Bool.eq_false_iff,Ne,Ne,Ne,may14_iff,may14_iff,mayK_iff]
   by_cases g1:rightP a
   ·by_cases g2:rightP b
    ·exact .inr fun h=>h1 ⟨g1,g2,h⟩
    ·exact .inl (.inr g2)
   ·exact .inl (.inl g1)
  rw [e,bOf_f fun h=>h1 ⟨h.1,h.2.1,h.2.2.1⟩]
  rfl
def okSp (x:api_Spread):Prop:=parP x.W x.K x.Cap x.Now∧okMarks x.Marks x.Seq x.Cap x.Now x.W (-4096)∧
 ∀i,2≤i→i<x.Marks.length→ ¬closeP (el x.Marks (i-2)) (el x.Marks i) x.K
theorem loop_two {R:Type} {f:Int→Option (Int⊕R)} (n:Nat) (bad:Nat→Prop) (E:R) (A:Option R)
  (hs: ∀i:Nat,2≤i→i<n→(bad i→f (i:Int)=some (.inr E))∧(¬bad i→f (i:Int)=some (.inl ((i+1:Nat):Int))))
  (hd: ∀i:Nat,n≤i→f (i:Int)=Option.map Sum.inr A):
  ((∃i,2≤i∧i<n∧bad i)→loop f 2=some E)∧((∀i,2≤i→i<n→ ¬bad i)→loop f 2=A):=by
 by_cases h:2≤n
 ·exact loop_st (f:=f) (fun i=>(i:Int)) 2 n h bad E A (fun i h1 h2 _=>hs i h1 h2) (fun _=>hd n (Nat.le_refl _))
 ·refine ⟨fun ⟨i,h1,h2,_⟩=>by omega,fun _=> ?_⟩
  have:=hd 2 (by omega)
  rw [loop_eq]
  rw [show ((2:Nat):Int)=2 from rfl] at this
  rw [this]
  cases A<;>rfl
theorem spread_validate (x:api_Spread) (hl:x.Marks.length≤maxLen):spread_Validate x=some (vOf (okSp x)):=by
 unfold spread_Validate
 simp only []
 by_cases h1:parP x.W x.K x.Cap x.Now
 ·rw [(good13 _ _ _ _).2 h1,marks_valid _ _ _ _ _ _ hl]
  simp only [Bool.not_true,Bool.not_false,gd_true,Option.bind_some,Bool.false_or]
  by_cases h2:okMarks x.Marks x.Seq x.Cap x.Now x.W (-4096)
  ·rw [bOf_t h2,Bool.not_true,cond_false]
   unfold spread_Validate_l3
   have H:=loop_two (f:=fun s:Int=>spread_Validate_l3s x s) x.Marks.length (fun i=>closeP (el x.Marks (i-2)) (el x.Marks i) x.K) 2 (some 0)
    (fun i h2 hi=>by
     unfold spread_Validate_l3s
     have:w64 ((i:Int)-2)=((i-2:Nat):Int):=by rw [maxLen_eq] at hl;rw [w64_id]<;>omega
     rw [decide_eq_true (by omega:(i:Int)<(x.Marks.length:Int)),cond_true,this,el_idx hi,el_idx (by omega),Option.bind_some,Option.bind_some,spread_close,Option.bind_some,succW hi hl]
     exact step_iff bOf_iff)
    (fun i hi=>by
     unfold spread_Validate_l3s
     rw [decide_eq_false (by omega: ¬(i:Int)<(x.Marks.length:Int)),cond_false])
   by_cases h3: ∀i,2≤i→i<x.Marks.length→ ¬closeP (el x.Marks (i-2)) (el x.Marks i) x.K
   ·rw [H.2 h3,vOf_t ⟨h1,h2,h3⟩]
   ·rw [H.1,vOf_f fun h=>h3 h.2.2]
    exact Classical.byContradiction fun hn=>h3 fun i a b c=>hn ⟨i,a,b,c⟩
  ·rw [bOf_f h2,vOf_f fun h=>h2 h.2.1]
   rfl
 ·rw [Bool.eq_false_iff.2 fun h=>h1 ((good13 _ _ _ _).1 h),vOf_f fun h=>h1 h.1]
  rfl
theorem ref14_validate (x:api_Spread) (hl:x.Marks.length≤maxLen):ref14_Validate x=some (vOf (okSp x)):=by
 unfold ref14_Validate
 simp only []
 by_cases h1:parP x.W x.K x.Cap x.Now
 ·have e2:ref09_May x.W x.Cap x.Now=true:=(may_iff _ _ _).2 ⟨h1.1,h1.2.1,h1.2.2.1⟩
  have e3:ref11_MayK x.K=true:=(mayK_iff _).2 h1.2.2.2
  have e4:smooth_least 4= -4096:=rfl
  rw [e2,e3,ref13_marks _ _ _ _ _ _ (by decide) h1.2.1.2 h1.2.2.1.2 hl,e4]
  simp only [Bool.not_true,Bool.not_false,gd_true,Option.bind_some,Bool.or_false,Bool.false_or]
  by_cases h2:okMarks x.Marks x.Seq x.Cap x.Now x.W (-4096)
  ·rw [bOf_t h2,Bool.not_true,cond_false]
   unfold ref14_Validate_l3
   have H:=loop_two (f:=fun s:Int=>ref14_Validate_l3s x s) x.Marks.length (fun i=>closeP (el x.Marks (i-2)) (el x.Marks i) x.K) 2 (some 0)
    (fun i h2 hi=>by
     unfold ref14_Validate_l3s
     have:w64 ((i:Int)-2)=((i-2:Nat):Int):=by rw [maxLen_eq] at hl;rw [w64_id]<;>omega
     rw [decide_eq_true (by omega:(i:Int)<(x.Marks.length:Int)),cond_true,this,el_idx hi,el_idx (by omega),Option.bind_some,Option.bind_some]
     simp only [ref14_close,succW hi hl]
     exact step_iff bOf_iff)
    (fun i hi=>by
     unfold ref14_Validate_l3s
     rw [decide_eq_false (by omega: ¬(i:Int)<(x.Marks.length:Int)),cond_false])
   by_cases h3: ∀i,2≤i→i<x.Marks.length→ ¬closeP (el x.Marks (i-2)) (el x.Marks i) x.K
   ·rw [H.2 h3,vOf_t ⟨h1,h2,h3⟩]
   ·rw [H.1,vOf_f fun h=>h3 h.2.2]
    exact Classical.byContradiction fun hn=>h3 fun i a b c=>hn ⟨i,a,b,c⟩
  ·rw [bOf_f h2,vOf_f fun h=>h2 h.2.1]
   rfl
 ·have e1:(!ref09_May x.W x.Cap x.Now|| !ref11_MayK x.K)=true:=by
   rw [Bool.or_eq_true,Bool.not_eq_true',Bool.not_eq_true',Bool.eq_false_iff,Bool.eq_false_iff,Ne,Ne,may_iff,mayK_iff]
   unfold parP at h1
   omega
  rw [e1,vOf_f fun h=>h1 h.1]
  rfl
def okPl (x:api_Poly):Prop:=((0≤x.P∧x.P≤4)∧(0≤x.Now∧x.Now≤16777216)∧(0≤x.Land∧x.Land≤x.Now)∧(x.Moments.length:Int)=x.P+1)∧
 ∀i:Nat,1≤i→(i:Int)≤x.P→wv (el x.Moments (i-1))≤wv (el x.Moments i)∧
  (wv (el x.Moments (i-1))*(x.Now-x.Land+1)<340282366920938463463374607431768211456→wv (el x.Moments i)≤wv (el x.Moments (i-1))*(x.Now-x.Land+1))
theorem poly_head (x:api_Poly):((((((decide (x.P<(0:Int)))||(decide (x.P>(4:Int))))||(!(ref06_Tick x.Now)))||(decide (x.Land<(0:Int))))||(decide (x.Land>x.Now)))||((x.Moments.length:Int) !=(w64 (x.P+(1:Int)))))=true↔
  ¬((0≤x.P∧x.P≤4)∧(0≤x.Now∧x.Now≤16777216)∧(0≤x.Land∧x.Land≤x.Now)∧(x.Moments.length:Int)=x.P+1):=by
 simp only [Bool.or_eq_true,decide_eq_true_eq,Bool.not_eq_true',bne_iff_ne]
 rw [Bool.eq_false_iff,Ne,tick_iffP]
 by_cases h:0≤x.P∧x.P≤4
 ·rw [w64_id (by omega) (by omega)];omega
 ·omega
theorem loop_one {R:Type} {f:Int→Option (Int⊕R)} (P:Nat) (bad:Nat→Prop) (E:R) (A:Option R)
  (hs: ∀i:Nat,1≤i→i≤P→(bad i→f (i:Int)=some (.inr E))∧(¬bad i→f (i:Int)=some (.inl ((i+1:Nat):Int))))
  (hd:f ((P+1:Nat):Int)=Option.map Sum.inr A):
  ((∃i,1≤i∧i≤P∧bad i)→loop f 1=some E)∧((∀i,1≤i→i≤P→ ¬bad i)→loop f 1=A):=by
 have:=loop_st (f:=f) (fun i=>(i:Int)) 1 (P+1) (by omega) bad E A (fun i h1 h2 _=>hs i h1 (by omega)) (fun _=>hd)
 exact ⟨fun ⟨i,h1,h2,h3⟩=>this.1 ⟨i,h1,by omega,h3⟩,fun h=>this.2 fun i h1 h2=>h i h1 (by omega)⟩
theorem cmp_gt {a b:api_Wide} (ha:okW a) (hb:okW b):decide (ref02_Compare a b>0)=decide (wv b<wv a):=by
 rw [←compare_eq,wide_compare ha hb,Bool.eq_iff_iff,decide_eq_true_eq,decide_eq_true_eq]
 split
 ·omega
 ·split<;>omega
theorem cmp_lt {a b:api_Wide} (ha:okW a) (hb:okW b):decide (ref02_Compare a b<0)=decide (wv a<wv b):=by
 rw [←compare_eq,wide_compare ha hb,Bool.eq_iff_iff,decide_eq_true_eq,decide_eq_true_eq]
 split
 ·omega
 ·split<;>omega
theorem wcmp_gt {a b:api_Wide} (ha:okW a) (hb:okW b):decide (wide_Compare a b>0)=decide (wv b<wv a):=cmp_gt ha hb
def badPl (x:api_Poly) (i:Nat):Prop:= ¬(wv (el x.Moments (i-1))≤wv (el x.Moments i)∧
  (wv (el x.Moments (i-1))*(x.Now-x.Land+1)<340282366920938463463374607431768211456→wv (el x.Moments i)≤wv (el x.Moments (i-1))*(x.Now-x.Land+1)))
theorem poly_age {x:api_Poly} (h1:(0≤x.P∧x.P≤4)∧(0≤x.Now∧x.Now≤16777216)∧(0≤x.Land∧x.Land≤x.Now)∧(x.Moments.length:Int)=x.P+1):
  okW (ref02_Of (wu64 (w64 (w64 (x.Now-x.Land)+1))))∧wv (ref02_Of (wu64 (w64 (w64 (x.Now-x.Land)+1))))=x.Now-x.Land+1:=by
 rw [w64_id (n:=x.Now-x.Land) (by omega) (by omega),w64_id (by omega) (by omega),wu_id (by omega) (by omega)]
 exact wv_ofS (by omega)
theorem mul_some {a b:api_Wide} (ha:okW a) (hb:okW b): ∃r,wide_Mul a b=some r∧ref02_Mul a b=some r∧r.2=decide (wv a*wv b<340282366920938463463374607431768211456)∧okW r.1∧(r.2=true→wv r.1=wv a*wv b):=by
 by_cases h:wv a*wv b<340282366920938463463374607431768211456
 ·refine ⟨(ofW (wv a*wv b),true),by rw [wide_mul ha hb,if_pos h],by rw [ref_mul ha hb,if_pos h],(decide_eq_true h).symm,ofW_ok (mul_nn ha hb) h,fun _=>wv_ofW _⟩
 ·exact ⟨(⟨0,0⟩,false),by rw [wide_mul ha hb,if_neg h],by rw [ref_mul ha hb,if_neg h],(decide_eq_false h).symm,by unfold okW;simp,fun h=>by cases h⟩
theorem poly_validate (x:api_Poly) (hw: ∀w∈x.Moments,okW w):poly_Validate x=some (vOf (okPl x)):=by
 unfold poly_Validate
 have et:poly_tick x.Now=ref06_Tick x.Now:=rfl
 simp only [et]
 by_cases h1:(0≤x.P∧x.P≤4)∧(0≤x.Now∧x.Now≤16777216)∧(0≤x.Land∧x.Land≤x.Now)∧(x.Moments.length:Int)=x.P+1
 ·rw [Bool.eq_false_iff.2 fun h=>(poly_head x).1 h h1,cond_false]
  unfold poly_Validate_l3
  have hp:x.P=(x.P.toNat:Int):=by omega
  have H:=loop_one (f:=fun s:Int=>poly_Validate_l3s x (wide_Of (wu64 (w64 (w64 (x.Now-x.Land)+1)))) s) x.P.toNat (badPl x) 2 (some 0)
   (fun i g1 g2=>by
    unfold poly_Validate_l3s
    have ew:w64 ((i:Int)-1)=((i-1:Nat):Int):=by rw [w64_id]<;>omega
    have es:w64 ((i:Int)+1)=((i+1:Nat):Int):=by rw [w64_id]<;>omega
    obtain ⟨o1,o2⟩:=poly_age h1
    have oi:=hw _ (el_mem (show i<x.Moments.length by omega))
    have oj:=hw _ (el_mem (show i-1<x.Moments.length by omega))
    obtain ⟨r,m1,m2,m3,m4,m5⟩:=mul_some oj o1
    rw [decide_eq_true (by omega:(i:Int)≤x.P),cond_true,ew,es,el_idx (by omega),el_idx (by omega),wide_of]
    simp only [Option.bind_some,m1,wcmp_gt oj oi]
    rw [o2] at m3 m5
    unfold badPl
    by_cases q1:wv (el x.Moments (i-1))≤wv (el x.Moments i)
    ·rw [decide_eq_false (by omega),cond_false,m3]
     by_cases q2:wv (el x.Moments (i-1))*(x.Now-x.Land+1)<340282366920938463463374607431768211456
     ·have q3:=m5 (by rw [m3];exact decide_eq_true q2)
      rw [decide_eq_true q2]
      simp only [gd_true,Option.bind_some,Bool.true_and,wcmp_gt oi m4,q3]
      refine step_iff ?_
      rw [decide_eq_true_eq]
      simp only [q1,q2,true_and,true_implies,forall_const]
      omega
     ·rw [decide_eq_false q2]
      simp only [gd_false,Option.bind_some,Bool.false_and,cond_false]
      exact ⟨fun h=>absurd ⟨q1,fun h=>absurd h q2⟩ h,fun _=>trivial⟩
    ·rw [decide_eq_true (by omega),cond_true]
     exact ⟨fun _=>rfl,fun h=>absurd (fun h2=>q1 h2.1) h⟩)
   (by
    unfold poly_Validate_l3s
    rw [decide_eq_false (by omega),cond_false])
  by_cases h2: ∀i,1≤i→i≤x.P.toNat→ ¬badPl x i
  ·rw [H.2 h2,vOf_t]
   exact ⟨h1,fun i a b=>Classical.byContradiction fun h=>h2 i a (by omega) h⟩
  ·rw [H.1,vOf_f]
   ·exact fun h=>h2 fun i a b c=>c (h.2 i a (by omega))
   ·exact Classical.byContradiction fun hn=>h2 fun i a b c=>hn ⟨i,a,b,c⟩
 ·rw [(poly_head x).2 h1,cond_true,vOf_f fun h=>h1 h.1]
theorem ref15_validate (x:api_Poly) (hw: ∀w∈x.Moments,okW w):ref15_Validate x=some (vOf (okPl x)):=by
 unfold ref15_Validate
 simp only []
 by_cases h1:(0≤x.P∧x.P≤4)∧(0≤x.Now∧x.Now≤16777216)∧(0≤x.Land∧x.Land≤x.Now)∧(x.Moments.length:Int)=x.P+1
 ·rw [Bool.eq_false_iff.2 fun h=>(poly_head x).1 h h1,cond_false]
  unfold ref15_Validate_l3
  have hp:x.P=(x.P.toNat:Int):=by omega
  have H:=loop_one (f:=fun s:Int=>ref15_Validate_l3s x s) x.P.toNat (badPl x) 2 (some 0)
   (fun i g1 g2=>by
    unfold ref15_Validate_l3s
    have ew:w64 ((i:Int)-1)=((i-1:Nat):Int):=by rw [w64_id]<;>omega
    have es:w64 ((i:Int)+1)=((i+1:Nat):Int):=by rw [w64_id]<;>omega
    obtain ⟨o1,o2⟩:=poly_age h1
    have oi:=hw _ (el_mem (show i<x.Moments.length by omega))
    have oj:=hw _ (el_mem (show i-1<x.Moments.length by omega))
    obtain ⟨r,m1,m2,m3,m4,m5⟩:=mul_some oj o1
    rw [decide_eq_true (by omega:(i:Int)≤x.P),cond_true,ew,es,el_idx (by omega),el_idx (by omega),Option.bind_some]
    simp only [m2,Option.bind_some,cmp_lt oi oj]
    rw [o2] at m3 m5
    unfold badPl
    by_cases q1:wv (el x.Moments (i-1))≤wv (el x.Moments i)
    ·rw [decide_eq_false (by omega),m3]
     by_cases q2:wv (el x.Moments (i-1))*(x.Now-x.Land+1)<340282366920938463463374607431768211456
     ·have q3:=m5 (by rw [m3];exact decide_eq_true q2)
      rw [decide_eq_true q2]
      simp only [Bool.not_false,gd_true,Option.bind_some,Bool.true_and,Bool.false_or,cmp_gt oi m4,q3]
      refine step_iff ?_
      rw [decide_eq_true_eq]
      simp only [q1,q2,true_and,true_implies,forall_const]
      omega
     ·rw [decide_eq_false q2]
      simp only [Bool.not_false,Bool.and_false,gd_false,Option.bind_some,Bool.false_and,Bool.or_false,cond_false]
      exact ⟨fun h=>absurd ⟨q1,fun h=>absurd h q2⟩ h,fun _=>trivial⟩
    ·rw [decide_eq_true (by omega)]
     simp only [Bool.not_true,Bool.false_and,gd_false,Option.bind_some,Bool.true_or,cond_true]
     exact ⟨fun _=>trivial,fun h=>absurd (fun h2=>q1 h2.1) h⟩)
   (by
    unfold ref15_Validate_l3s
    rw [decide_eq_false (by omega),cond_false])
  by_cases h2: ∀i,1≤i→i≤x.P.toNat→ ¬badPl x i
  ·rw [H.2 h2,vOf_t]
   exact ⟨h1,fun i a b=>Classical.byContradiction fun h=>h2 i a (by omega) h⟩
  ·rw [H.1,vOf_f]
   ·exact fun h=>h2 fun i a b c=>c (h.2 i a (by omega))
   ·exact Classical.byContradiction fun hn=>h2 fun i a b c=>hn ⟨i,a,b,c⟩
 ·rw [(poly_head x).2 h1,cond_true,vOf_f fun h=>h1 h.1]
theorem wd_refl (l:List api_Wide) (hl:l.length≤maxLen):ref15_SameWide l l=some true:=by
 unfold ref15_SameWide
 rw [bne_self_eq_false,cond_false]
 unfold ref15_SameWide_l3
 refine (loop_prop (f:=fun s:Int=>ref15_SameWide_l3s l l s) l.length (fun _=>False) false (some true) (fun i hi _=>⟨fun h=>h.elim,fun _=> ?_⟩) (fun _=> ?_)).2 fun _ _ h=>h
 ·unfold ref15_SameWide_l3s
  rw [decide_eq_true (by omega:(i:Int)<(l.length:Int)),cond_true,el_idx hi]
  simp [succW hi hl]
 ·unfold ref15_SameWide_l3s
  rw [decide_eq_false (Int.lt_irrefl _),cond_false]
theorem same15_refl (x:api_Poly) (hl:x.Moments.length≤maxLen):ref15_Same x x=some true:=by
 unfold ref15_Same;simp [wd_refl _ hl]
def okHv (x:api_Halve):Prop:=((1≤(x.Sums.length:Int)∧(x.Sums.length:Int)≤64)∧(0≤x.Now∧x.Now≤16777216))∧
 ∀i,i<x.Sums.length→(0≤el x.Sums i∧el x.Sums i≤1099511627776)∧(x.Now<(i:Int)→el x.Sums i=0)
theorem halve_validate (x:api_Halve) (hl:x.Sums.length≤maxLen):halve_Validate x=some (vOf (okHv x)):=by
 unfold halve_Validate
 by_cases h1:(1≤(x.Sums.length:Int)∧(x.Sums.length:Int)≤64)∧(0≤x.Now∧x.Now≤16777216)
 ·have e:((((decide ((x.Sums.length:Int)<(1:Int)))||(decide ((x.Sums.length:Int)>(64:Int))))||(decide (x.Now<(0:Int))))||(decide (x.Now>(16777216:Int))))=false:=by
   rw [Bool.eq_false_iff];simp only [Bool.or_eq_true,decide_eq_true_eq,Ne];omega
  rw [e,cond_false]
  unfold halve_Validate_l3
  have H:=loop_prop (f:=fun s:Int=>halve_Validate_l3s x s) x.Sums.length (fun i=> ¬((0≤el x.Sums i∧el x.Sums i≤1099511627776)∧(x.Now<(i:Int)→el x.Sums i=0))) 2 (some 0)
   (fun i hi _=>by
    unfold halve_Validate_l3s
    rw [decide_eq_true (by omega:(i:Int)<(x.Sums.length:Int)),cond_true,el_idx hi,Option.bind_some,succW hi hl]
    refine step_iff ?_
    simp only [Bool.or_eq_true,Bool.and_eq_true,decide_eq_true_eq,bne_iff_ne]
    omega)
   (fun _=>by
    unfold halve_Validate_l3s
    rw [decide_eq_false (Int.lt_irrefl _),cond_false])
  by_cases h2: ∀i,i<x.Sums.length→(0≤el x.Sums i∧el x.Sums i≤1099511627776)∧(x.Now<(i:Int)→el x.Sums i=0)
  ·rw [H.2 fun i hi hn=>hn (h2 i hi),vOf_t ⟨h1,h2⟩]
  ·rw [H.1 (not_all h2),vOf_f fun h=>h2 h.2]
 ·have e:((((decide ((x.Sums.length:Int)<(1:Int)))||(decide ((x.Sums.length:Int)>(64:Int))))||(decide (x.Now<(0:Int))))||(decide (x.Now>(16777216:Int))))=true:=by
   simp only [Bool.or_eq_true,decide_eq_true_eq];omega
  rw [e,cond_true,vOf_f fun h=>h1 h.1]
theorem ref16_validate (x:api_Halve) (hl:x.Sums.length≤maxLen):ref16_Validate x=some (vOf (okHv x)):=by
 unfold ref16_Validate
 simp only []
 by_cases h1:(1≤(x.Sums.length:Int)∧(x.Sums.length:Int)≤64)∧(0≤x.Now∧x.Now≤16777216)
 ·have e:(((decide ((x.Sums.length:Int)<(1:Int)))||(decide ((x.Sums.length:Int)>(64:Int))))||(!(ref06_Tick x.Now)))=false:=by
   rw [(tick_iffP _).2 h1.2,Bool.eq_false_iff];simp only [Bool.or_eq_true,decide_eq_true_eq,Ne,Bool.not_true,Bool.false_eq_true,or_false,false_or];omega
  rw [e,cond_false]
  unfold ref16_Validate_l3
  have H:=loop_prop (f:=fun s:Int=>ref16_Validate_l3s x s) x.Sums.length (fun i=> ¬((0≤el x.Sums i∧el x.Sums i≤1099511627776)∧(x.Now<(i:Int)→el x.Sums i=0))) 2 (some 0)
   (fun i hi _=>by
    unfold ref16_Validate_l3s
    rw [decide_eq_true (by omega:(i:Int)<(x.Sums.length:Int)),cond_true,el_idx hi,Option.bind_some,succW hi hl]
    refine step_iff ?_
    simp only [Bool.or_eq_true,Bool.and_eq_true,decide_eq_true_eq,bne_iff_ne]
    omega)
   (fun _=>by
    unfold ref16_Validate_l3s
    rw [decide_eq_false (Int.lt_irrefl _),cond_false])
  by_cases h2: ∀i,i<x.Sums.length→(0≤el x.Sums i∧el x.Sums i≤1099511627776)∧(x.Now<(i:Int)→el x.Sums i=0)
  ·rw [H.2 fun i hi hn=>hn (h2 i hi),vOf_t ⟨h1,h2⟩]
  ·rw [H.1 (not_all h2),vOf_f fun h=>h2 h.2]
 ·have e:(((decide ((x.Sums.length:Int)<(1:Int)))||(decide ((x.Sums.length:Int)>(64:Int))))||(!(ref06_Tick x.Now)))=true:=by
   simp only [Bool.or_eq_true,decide_eq_true_eq,Bool.not_eq_true']
   rw [Bool.eq_false_iff,Ne,tick_iffP];omega
  rw [e,cond_true,vOf_f fun h=>h1 h.1]
def okEx (x:api_Extreme):Prop:=(((1≤x.W∧x.W≤1048576)∧(1≤x.Cap∧x.Cap≤65536)∧(0≤x.Now∧x.Now≤16777216))∧(x.Items.length:Int)≤x.Cap)∧
 ∀i,i<x.Items.length→(ref06_Live x.Now x.W (el x.Items i).T=true∧ -4096≤(el x.Items i).V∧(el x.Items i).V≤4096)∧
  (1≤i→(el x.Items (i-1)).T<(el x.Items i).T∧extreme_beats x.Max (el x.Items i).V (el x.Items (i-1)).V=false)
theorem better_beats (m:Bool) (a b:Int):ref17_better m a b= !extreme_beats m b a:=by
 cases m
 ·show (false||decide (a<b))= !decide (b≤a)
  rw [Bool.false_or,Bool.eq_iff_iff];simp
 ·show (decide (a>b)||false)= !decide (b≥a)
  rw [Bool.or_false,Bool.eq_iff_iff];simp
theorem may_eq17 (a b c:Int):extreme_good a b c=ref09_May a b c:=by
 rw [Bool.eq_iff_iff,may_iff];unfold extreme_good;simp;omega
theorem extreme_validate (x:api_Extreme) (hl:x.Items.length≤maxLen):extreme_Validate x=some (vOf (okEx x)):=by
 unfold extreme_Validate
 simp only [may_eq17]
 by_cases h1:((1≤x.W∧x.W≤1048576)∧(1≤x.Cap∧x.Cap≤65536)∧(0≤x.Now∧x.Now≤16777216))∧(x.Items.length:Int)≤x.Cap
 ·rw [(may_iff _ _ _).2 h1.1,decide_eq_false (by omega),Bool.not_true,Bool.false_or,cond_false]
  unfold extreme_Validate_l3
  have H:=loop_prop (f:=fun s:Int=>extreme_Validate_l3s x s) x.Items.length (fun i=> ¬((ref06_Live x.Now x.W (el x.Items i).T=true∧ -4096≤(el x.Items i).V∧(el x.Items i).V≤4096)∧
    (1≤i→(el x.Items (i-1)).T<(el x.Items i).T∧extreme_beats x.Max (el x.Items i).V (el x.Items (i-1)).V=false))) 2 (some 0)
   (fun i hi _=>by
    unfold extreme_Validate_l3s
    rw [decide_eq_true (by omega:(i:Int)<(x.Items.length:Int)),cond_true,el_idx hi,Option.bind_some,succW hi hl]
    simp only [live_eq]
    by_cases g1:ref06_Live x.Now x.W (el x.Items i).T=true∧ -4096≤(el x.Items i).V∧(el x.Items i).V≤4096
    ·have e:(((!(ref06_Live x.Now x.W (el x.Items i).T))||(decide ((el x.Items i).V<(-4096:Int))))||(decide ((el x.Items i).V>(4096:Int))))=false:=by
      rw [g1.1,Bool.eq_false_iff];simp only [Bool.or_eq_true,decide_eq_true_eq,Ne,Bool.not_true,Bool.false_eq_true,or_false,false_or];omega
     rw [e,cond_false]
     rcases i with _|i
     ·have e4:decide (((0:Nat):Int)>0)=false:=rfl
      rw [e4]
      simp only [Bool.false_and,gd_false,Option.bind_some,cond_false]
      exact ⟨fun h=>absurd ⟨g1,fun h=>absurd h (by decide)⟩ h,fun _=>trivial⟩
     ·have e4:decide (((i+1:Nat):Int)>0)=true:=decide_eq_true (by omega)
      rw [e4,predW (by omega) (Nat.le_of_lt hi) hl,Nat.add_sub_cancel,el_idx (by omega)]
      simp only [gd_true,Option.bind_some,Bool.true_and]
      by_cases g2:(el x.Items i).T≥(el x.Items (i+1)).T
      ·simp only [g2,decide_true,Bool.true_or,Bool.not_true,gd_false,Option.bind_some,cond_true]
       refine ⟨fun _=>trivial,fun h=>absurd (fun h2=> ?_) h⟩
       have:=(h2.2 (by omega)).1
       omega
      ·simp only [g2,decide_false,Bool.false_or,Bool.not_false,gd_true,Option.bind_some]
       refine step_iff ?_
       simp only [g1,true_and,show 1≤i+1 from by omega,true_implies]
       have:(el x.Items i).T<(el x.Items (i+1)).T:=by omega
       simp [this]
    ·have e:(((!(ref06_Live x.Now x.W (el x.Items i).T))||(decide ((el x.Items i).V<(-4096:Int))))||(decide ((el x.Items i).V>(4096:Int))))=true:=by
      cases hv:ref06_Live x.Now x.W (el x.Items i).T with
      |false=>rfl
      |true=>rw [hv] at g1;simp only [true_and] at g1;simp only [Bool.or_eq_true,decide_eq_true_eq];omega
     rw [e,cond_true]
     exact ⟨fun _=>rfl,fun h=>absurd (fun h2=>g1 h2.1) h⟩)
   (fun _=>by
    unfold extreme_Validate_l3s
    rw [decide_eq_false (Int.lt_irrefl _),cond_false])
  by_cases h2: ∀i,i<x.Items.length→(ref06_Live x.Now x.W (el x.Items i).T=true∧ -4096≤(el x.Items i).V∧(el x.Items i).V≤4096)∧
    (1≤i→(el x.Items (i-1)).T<(el x.Items i).T∧extreme_beats x.Max (el x.Items i).V (el x.Items (i-1)).V=false)
  ·rw [H.2 fun i hi hn=>hn (h2 i hi),vOf_t ⟨h1,h2⟩]
  ·rw [H.1 (not_all h2),vOf_f fun h=>h2 h.2]
 ·have e:((!(ref09_May x.W x.Cap x.Now))||(decide ((x.Items.length:Int)>x.Cap)))=true:=by
   rw [Bool.or_eq_true,Bool.not_eq_true',Bool.eq_false_iff,Ne,may_iff,decide_eq_true_eq];omega
  rw [e,cond_true,vOf_f fun h=>h1 h.1]
theorem ref17_validate (x:api_Extreme) (hl:x.Items.length≤maxLen):ref17_Validate x=some (vOf (okEx x)):=by
 unfold ref17_Validate
 simp only []
 by_cases h1:((1≤x.W∧x.W≤1048576)∧(1≤x.Cap∧x.Cap≤65536)∧(0≤x.Now∧x.Now≤16777216))∧(x.Items.length:Int)≤x.Cap
 ·rw [(may_iff _ _ _).2 h1.1,decide_eq_false (by omega),Bool.not_true,Bool.false_or,cond_false]
  unfold ref17_Validate_l3
  have H:=loop_prop (f:=fun s:Int=>ref17_Validate_l3s x s) x.Items.length (fun i=> ¬((ref06_Live x.Now x.W (el x.Items i).T=true∧ -4096≤(el x.Items i).V∧(el x.Items i).V≤4096)∧
    (1≤i→(el x.Items (i-1)).T<(el x.Items i).T∧extreme_beats x.Max (el x.Items i).V (el x.Items (i-1)).V=false))) 2 (some 0)
   (fun i hi _=>by
    unfold ref17_Validate_l3s
    rw [decide_eq_true (by omega:(i:Int)<(x.Items.length:Int)),cond_true,el_idx hi,Option.bind_some,succW hi hl]
    simp only [better_beats,Bool.not_not]
    by_cases g1:ref06_Live x.Now x.W (el x.Items i).T=true∧ -4096≤(el x.Items i).V∧(el x.Items i).V≤4096
    ·rw [g1.1,(value_iff _).2 g1.2]
     rcases i with _|i
     ·have e4:decide (((0:Nat):Int)>0)=false:=rfl
      rw [e4]
      simp only [Bool.not_true,Bool.or_false,Bool.not_false,Bool.and_false,Bool.false_and,gd_false,Option.bind_some,cond_false]
      exact ⟨fun h=>absurd ⟨⟨trivial,g1.2⟩,fun h=>absurd h (by decide)⟩ h,fun _=>trivial⟩
     ·have e4:decide (((i+1:Nat):Int)>0)=true:=decide_eq_true (by omega)
      rw [e4,predW (by omega) (Nat.le_of_lt hi) hl,Nat.add_sub_cancel,el_idx (by omega)]
      simp only [Bool.not_true,Bool.or_false,Bool.not_false,gd_true,Option.bind_some,Bool.true_and,Bool.false_or]
      by_cases g2:(el x.Items i).T≥(el x.Items (i+1)).T
      ·simp only [g2,decide_true,Bool.true_or,Bool.not_true,gd_false,Option.bind_some,cond_true]
       refine ⟨fun _=>trivial,fun h=>absurd (fun h2=> ?_) h⟩
       have:=(h2.2 (by omega)).1
       omega
      ·simp only [g2,decide_false,Bool.false_or,Bool.not_false,gd_true,Option.bind_some]
       refine step_iff ?_
       simp only [g1,true_and,show 1≤i+1 from by omega,true_implies]
       have:(el x.Items i).T<(el x.Items (i+1)).T:=by omega
       simp [this]
    ·have e:((!(ref06_Live x.Now x.W (el x.Items i).T))||(!(ref09_Value (el x.Items i).V)))=true:=by
      rw [Bool.or_eq_true,Bool.not_eq_true',Bool.not_eq_true',Bool.eq_false_iff,Bool.eq_false_iff,Ne,Ne,value_iff]
      exact Classical.byContradiction fun h=>g1 ⟨Classical.byContradiction fun h2=>h (.inl h2),Classical.byContradiction fun h2=>h (.inr h2)⟩
     rw [e]
     simp only [Bool.not_true,Bool.false_and,gd_false,Option.bind_some,Bool.true_or,cond_true]
     exact ⟨fun _=>trivial,fun h=>absurd (fun h2=>g1 h2.1) h⟩)
   (fun _=>by
    unfold ref17_Validate_l3s
    rw [decide_eq_false (Int.lt_irrefl _),cond_false])
  by_cases h2: ∀i,i<x.Items.length→(ref06_Live x.Now x.W (el x.Items i).T=true∧ -4096≤(el x.Items i).V∧(el x.Items i).V≤4096)∧
    (1≤i→(el x.Items (i-1)).T<(el x.Items i).T∧extreme_beats x.Max (el x.Items i).V (el x.Items (i-1)).V=false)
  ·rw [H.2 fun i hi hn=>hn (h2 i hi),vOf_t ⟨h1,h2⟩]
  ·rw [H.1 (not_all h2),vOf_f fun h=>h2 h.2]
 ·have e:((!(ref09_May x.W x.Cap x.Now))||(decide ((x.Items.length:Int)>x.Cap)))=true:=by
   rw [Bool.or_eq_true,Bool.not_eq_true',Bool.eq_false_iff,Ne,may_iff,decide_eq_true_eq];omega
  rw [e,cond_true,vOf_f fun h=>h1 h.1]
theorem same17_refl (x:api_Extreme) (hl:x.Items.length≤maxLen):ref17_Same x x=some true:=by
 unfold ref17_Same;simp [items_refl _ hl]
end Go.Win
