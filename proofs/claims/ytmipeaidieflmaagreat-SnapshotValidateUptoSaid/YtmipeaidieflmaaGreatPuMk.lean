/- Pu: chapters 13, 14: which lists of marks are valid. -/
import Derived.Test.YtmipeaidieflmaaGreatPuCt
set_option linter.unusedVariables false
set_option linter.unusedSimpArgs false
set_option linter.unnecessarySimpa false
set_option linter.unusedSectionVars false
namespace Go.Win
open Go.Vc Go.Dec
def mk1 (seq cap now:Int) (m:api_Mark):Prop:=(1≤m.Seq∧m.Seq≤seq)∧m.N=seq-m.Seq+1∧m.N≤cap∧0≤m.T∧m.T≤now
def mk2 (lo:Int) (m:api_Mark):Prop:=lo≤m.Min∧m.Min≤m.Max∧m.Max≤4096∧marks_fits m.N m.Min m.Max m.S m.Q=true
def mk4 (o m:api_Mark):Prop:=o.Seq<m.Seq∧o.T≤m.T∧o.Min≤m.Min∧m.Max≤o.Max∧marks_fits (w64 (o.N-m.N)) o.Min o.Max (w64 (o.S-m.S)) (w64 (o.Q-m.Q))=true
def mkLast (seq:Int) (m:api_Mark):Prop:=m.Seq=seq∧m.Min=m.S∧m.Max=m.S∧m.Q=w64 (m.S*m.S)
def okMk (l:List api_Mark) (seq cap now w lo:Int) (i:Nat):Prop:=
 mk1 seq cap now (el l i)∧mk2 lo (el l i)∧((0<i∨l.length=1)→ref06_Live now w (el l i).T=true)∧(0<i→mk4 (el l (i-1)) (el l i))
def okMarks (l:List api_Mark) (seq cap now w lo:Int):Prop:=
 (0≤seq∧seq≤1099511627776)∧(∀i,i<l.length→okMk l seq cap now w lo i)∧(0<l.length→mkLast seq (el l (l.length-1)))
theorem not_all {n:Nat} {p:Nat→Prop} (h: ¬ ∀i,i<n→p i): ∃i,i<n∧ ¬p i:=
 Classical.byContradiction fun hn=>h fun i hi=>Classical.byContradiction fun hc=>hn ⟨i,hi,hc⟩
theorem mk1_bool {seq cap now:Int} (hs:0≤seq∧seq≤1099511627776) (m:api_Mark):
  (((((decide (m.Seq<1)||decide (m.Seq>seq))||(m.N !=w64 (w64 (seq-m.Seq)+1)))||decide (m.N>cap))||decide (m.T<0))||decide (m.T>now))=true↔ ¬mk1 seq cap now m:=by
 unfold mk1
 by_cases h:1≤m.Seq∧m.Seq≤seq
 ·have e:w64 (w64 (seq-m.Seq)+1)=seq-m.Seq+1:=by rw [w64_id (n:=seq-m.Seq) (by omega) (by omega),w64_id]<;>omega
  simp only [e,Bool.or_eq_true,decide_eq_true_eq,bne_iff_ne]
  omega
 ·simp only [Bool.or_eq_true,decide_eq_true_eq]
  constructor
  ·intro _ h2;exact h h2.1
  ·intro _;omega
theorem okMk_succ (l:List api_Mark) (seq cap now w lo:Int) (i:Nat):okMk l seq cap now w lo (i+1)↔
  mk1 seq cap now (el l (i+1))∧mk2 lo (el l (i+1))∧ref06_Live now w (el l (i+1)).T=true∧mk4 (el l i) (el l (i+1)):=by
 unfold okMk
 rw [Nat.add_sub_cancel]
 constructor
 ·rintro ⟨h1,h2,h3,h4⟩;exact ⟨h1,h2,h3 (.inl (by omega)),h4 (by omega)⟩
 ·rintro ⟨h1,h2,h3,h4⟩;exact ⟨h1,h2,fun _=>h3,fun _=>h4⟩
theorem marks_valid (l:List api_Mark) (seq cap now w lo:Int) (hl:l.length≤maxLen):marks_Valid l seq cap now w lo=some (bOf (okMarks l seq cap now w lo)):=by
 unfold marks_Valid
 by_cases hs:0≤seq∧seq≤1099511627776
 ·have e:(decide (seq<0)||decide (seq>1099511627776))=false:=by simp;omega
  rw [e,cond_false]
  unfold marks_Valid_l3
  have H:=loop_prop (f:=fun s:Int=>marks_Valid_l3s l seq cap now w lo s) l.length (fun i=> ¬okMk l seq cap now w lo i) false (some (bOf (0<l.length→mkLast seq (el l (l.length-1)))))
   (fun i hi _=>by
    unfold marks_Valid_l3s
    rw [decide_eq_true (by omega:(i:Int)<(l.length:Int)),cond_true,el_idx hi,Option.bind_some,succW hi hl]
    simp only [live_eq]
    by_cases h1:mk1 seq cap now (el l i)
    ·have e1:=Bool.eq_false_iff.2 (fun h=>(mk1_bool (cap:=cap) (now:=now) hs (el l i)).1 h h1)
     rw [e1,cond_false]
     by_cases h2:mk2 lo (el l i)
     ·have e2:((((decide ((el l i).Min<lo))||(decide ((el l i).Max>(4096:Int))))||(decide ((el l i).Min>(el l i).Max)))||(!(marks_fits (el l i).N (el l i).Min (el l i).Max (el l i).S (el l i).Q)))=false:=by
       have:=h2.2.2.2
       unfold mk2 at h2
       rw [this]
       simp;omega
      rw [e2,cond_false]
      rcases i with _|i
      ·have e3:(((0:Nat):Int)==0)=true:=rfl
       have e4:decide (((0:Nat):Int)>0)=false:=rfl
       rw [e3,e4,cond_true,Bool.false_or]
       refine step_iff ?_
       unfold okMk
       simp only [Bool.and_eq_true,beq_iff_eq,Bool.not_eq_true',Nat.lt_irrefl,false_or,false_implies,and_true,h1,h2,true_and]
       have:((l.length:Int)=1)↔l.length=1:=by omega
       rw [this,Classical.not_imp,Bool.not_eq_true]
      ·have e3:(((i+1:Nat):Int)==0)=false:=by rw [beq_eq_false_iff_ne];omega
       have e4:decide (((i+1:Nat):Int)>0)=true:=decide_eq_true (by omega)
       rw [e3,e4,cond_false,Bool.true_or,Bool.true_and,predW (by omega) (Nat.le_of_lt hi) hl,Nat.add_sub_cancel,el_idx (by omega),Option.bind_some]
       simp only [cond_merge]
       refine step_iff ?_
       rw [okMk_succ]
       simp only [h1,h2,true_and,Bool.or_eq_true,Bool.not_eq_true',decide_eq_true_eq]
       unfold mk4
       cases ref06_Live now w (el l (i+1)).T with
       |false=>simp
       |true=>
        cases marks_fits (w64 ((el l i).N-(el l (i+1)).N)) (el l i).Min (el l i).Max (w64 ((el l i).S-(el l (i+1)).S)) (w64 ((el l i).Q-(el l (i+1)).Q)) with
        |false=>simp
        |true=>simp;omega
     ·have e2:((((decide ((el l i).Min<lo))||(decide ((el l i).Max>(4096:Int))))||(decide ((el l i).Min>(el l i).Max)))||(!(marks_fits (el l i).N (el l i).Min (el l i).Max (el l i).S (el l i).Q)))=true:=by
       unfold mk2 at h2
       cases hf:marks_fits (el l i).N (el l i).Min (el l i).Max (el l i).S (el l i).Q with
       |false=>simp
       |true=>rw [hf] at h2;simp only [and_true] at h2;simp;omega
      rw [e2,cond_true]
      exact ⟨fun _=>rfl,fun hn=>absurd (fun h=>h2 h.2.1) hn⟩
    ·have e1:=(mk1_bool (cap:=cap) (now:=now) hs (el l i)).2 h1
     rw [e1,cond_true]
     exact ⟨fun _=>rfl,fun hn=>absurd (fun h=>h1 h.1) hn⟩)
   (fun _=>by
    unfold marks_Valid_l3s
    rw [decide_eq_false (Int.lt_irrefl _),cond_false]
    congr 1
    by_cases h0:0<l.length
    ·have e1:((l.length:Int)==0)=false:=by rw [beq_eq_false_iff_ne];omega
     rw [e1,cond_false,predW h0 (Nat.le_refl _) hl,el_idx (by omega),Option.bind_some]
     congr 1
     rw [Bool.eq_iff_iff,bOf_iff]
     unfold mkLast
     simp [h0,and_assoc]
    ·have e1:((l.length:Int)==0)=true:=by
      have:l.length=0:=by omega
      rw [this];rfl
     rw [e1,cond_true,bOf_t]
     exact fun h=>absurd h h0)
  by_cases h: ∀i,i<l.length→okMk l seq cap now w lo i
  ·rw [H.2 fun i hi hn=>hn (h i hi)]
   congr 1
   rw [Bool.eq_iff_iff,bOf_iff,bOf_iff]
   exact ⟨fun h2=>⟨hs,h,h2⟩,fun h2=>h2.2.2⟩
  ·rw [H.1 (not_all h),bOf_f]
   exact fun h2=>h h2.2.1
 ·have e:(decide (seq<0)||decide (seq>1099511627776))=true:=by rw [Bool.eq_iff_iff];simp;omega
  rw [e,cond_true,bOf_f]
  exact fun h=>hs h.1
theorem part_fits (n s q lo hi:Int):ref13_Part n s q lo hi=marks_fits n lo hi s q:=by
 unfold ref13_Part marks_fits
 rfl
theorem fits_iff {n lo hi s q:Int} (hn:0≤n∧n≤65536) (hlo: -4096≤lo∧lo≤4096) (hhi: -4096≤hi∧hi≤4096):
  marks_fits n lo hi s q=true↔n*lo≤s∧s≤n*hi∧0≤q∧q≤n*16777216∧s*s≤n*q:=by
 have b: ∀x:Int,-4096≤x→x≤4096→ -268435456≤n*x∧n*x≤268435456:=by
  intro x h1 h2
  have h3:=Int.mul_le_mul_of_nonneg_left h1 hn.1
  have h4:=Int.mul_le_mul_of_nonneg_left h2 hn.1
  omega
 have b1:=b lo hlo.1 hlo.2
 have b2:=b hi hhi.1 hhi.2
 unfold marks_fits
 rw [w64_id (n:=n*lo) (by omega) (by omega),w64_id (n:=n*hi) (by omega) (by omega),w64_id (n:=n*4096) (by omega) (by omega),w64_id (n:=n*4096*4096) (by omega) (by omega)]
 simp only [Bool.and_eq_true,decide_eq_true_eq]
 have e:n*4096*4096=n*16777216:=by omega
 rw [e]
 constructor
 ·rintro ⟨⟨⟨⟨h1,h2⟩,h3⟩,h4⟩,h5⟩
  have hs:s*s≤268435456*268435456:=by
   have h6:s.natAbs*s.natAbs≤268435456*268435456:=Nat.mul_le_mul (by omega) (by omega)
   have e2:(s.natAbs:Int)*s.natAbs=s*s:=Int.natAbs_mul_self
   have h7:((s.natAbs*s.natAbs:Nat):Int)=(s.natAbs:Int)*s.natAbs:=by rw [Int.natCast_mul]
   omega
  have hs0:0≤s*s:=by
   have e2:(s.natAbs:Int)*s.natAbs=s*s:=Int.natAbs_mul_self
   have:=Int.mul_nonneg (a:=(s.natAbs:Int)) (b:=s.natAbs) (by omega) (by omega)
   omega
  have hq:n*q≤65536*1099511627776:=Int.mul_le_mul hn.2 (by omega) h3 (by omega)
  have hq0:0≤n*q:=Int.mul_nonneg hn.1 h3
  rw [w64_id (by omega) (by omega),w64_id (by omega) (by omega)] at h5
  exact ⟨h1,h2,h3,h4,h5⟩
 ·rintro ⟨h1,h2,h3,h4,h5⟩
  have hs0:0≤s*s:=by
   have e2:(s.natAbs:Int)*s.natAbs=s*s:=Int.natAbs_mul_self
   have:=Int.mul_nonneg (a:=(s.natAbs:Int)) (b:=s.natAbs) (by omega) (by omega)
   omega
  have hq:n*q≤65536*1099511627776:=Int.mul_le_mul hn.2 (by omega) h3 (by omega)
  have hq0:0≤n*q:=Int.mul_nonneg hn.1 h3
  rw [w64_id (n:=s*s) (by omega) (by omega),w64_id (n:=n*q) (by omega) (by omega)]
  exact ⟨⟨⟨⟨h1,h2⟩,h3⟩,h4⟩,h5⟩
theorem least_iff {agg v:Int} (ha:1≤agg∧agg≤4):ref13_Value agg v=true↔smooth_least agg≤v∧v≤4096:=by
 unfold ref13_Value smooth_least
 simp only [Bool.and_eq_true,Bool.or_eq_true,decide_eq_true_eq,beq_iff_eq,value_iff]
 have:agg=1∨agg=2∨agg=3∨agg=4:=by omega
 rcases this with rfl|rfl|rfl|rfl
 ·show _↔(-4096:Int)≤v∧_
  omega
 ·show _↔(0:Int)≤v∧_
  omega
 ·show _↔(0:Int)≤v∧_
  omega
 ·show _↔(-4096:Int)≤v∧_
  omega
theorem least_ge (agg:Int): -4096≤smooth_least agg:=by
 unfold smooth_least
 cases (agg==2||agg==3)<;>decide
theorem mk2_bool {seq cap now agg:Int} (ha:1≤agg∧agg≤4) (hc:cap≤65536) {m:api_Mark} (h1:mk1 seq cap now m):
  ((((((((!(ref13_Value agg m.Min))||(!(ref13_Value agg m.Max)))||(decide (m.Min>m.Max)))||(decide (m.S<(w64 ((IntKind.i64.wrap (0-m.N))*(4096:Int))))))||(decide (m.S>(w64 (m.N*(4096:Int))))))||(decide (m.Q<(0:Int))))||(decide (m.Q>(w64 ((w64 (m.N*(4096:Int)))*(4096:Int))))))||(!(ref13_Part m.N m.S m.Q m.Min m.Max)))=true↔ ¬mk2 (smooth_least agg) m:=by
 unfold mk1 at h1
 have hn:0≤m.N∧m.N≤65536:=by omega
 have e0:IntKind.i64.wrap (0-m.N)= -m.N:=by
  show w64 (0-m.N)=_
  rw [w64_id]<;>omega
 rw [e0,w64_id (n:= -m.N*4096) (by omega) (by omega),w64_id (n:=m.N*4096) (by omega) (by omega),w64_id (n:=m.N*4096*4096) (by omega) (by omega),part_fits]
 simp only [Bool.or_eq_true,Bool.not_eq_true',decide_eq_true_eq]
 unfold mk2
 rw [Bool.eq_false_iff,Bool.eq_false_iff,Bool.eq_false_iff,Ne,Ne,Ne,least_iff ha,least_iff ha]
 have hge:=least_ge agg
 by_cases hv:smooth_least agg≤m.Min∧m.Min≤m.Max∧m.Max≤4096
 ·have:=fits_iff (s:=m.S) (q:=m.Q) hn (lo:=m.Min) (hi:=m.Max) (by omega) (by omega)
  rw [this]
  have h3:=Int.mul_le_mul_of_nonneg_left (show-4096≤m.Min by omega) hn.1
  have h4:=Int.mul_le_mul_of_nonneg_left (show m.Max≤4096 by omega) hn.1
  omega
 ·omega
theorem mk2_boolE {seq cap now agg:Int} (ha:1≤agg∧agg≤4) (hc:cap≤65536) {m:api_Mark} (h1:mk1 seq cap now m):
  ((((((((!(ref13_Value agg m.Min))||(!(ref13_Value agg m.Max)))||(decide (m.Min>m.Max)))||(decide (m.S<(w64 ((IntKind.i64.wrap (0-m.N))*(4096:Int))))))||(decide (m.S>(w64 (m.N*(4096:Int))))))||(decide (m.Q<(0:Int))))||(decide (m.Q>(w64 ((w64 (m.N*(4096:Int)))*(4096:Int))))))||(!(ref13_Part m.N m.S m.Q m.Min m.Max)))=bOf (¬mk2 (smooth_least agg) m):=by
 rw [Bool.eq_iff_iff,bOf_iff]
 exact mk2_bool ha hc h1
theorem ref13_marks (l:List api_Mark) (agg w cap now seq:Int) (ha:1≤agg∧agg≤4) (hc:cap≤65536) (hn:now≤16777216) (hl:l.length≤maxLen):
  ref13_Marks l agg w cap now seq=some (bOf (okMarks l seq cap now w (smooth_least agg))):=by
 unfold ref13_Marks
 by_cases hs:0≤seq∧seq≤1099511627776
 ·have e:(decide (seq<0)||decide (seq>1099511627776))=false:=by simp;omega
  rw [e,cond_false]
  unfold ref13_Marks_l3
  have H:=loop_prop (f:=fun s:Int=>ref13_Marks_l3s l agg w cap now seq s) l.length (fun i=> ¬(okMk l seq cap now w (smooth_least agg) i∧(i=l.length-1→mkLast seq (el l i)))) false (some true)
   (fun i hi _=>by
    unfold ref13_Marks_l3s
    rw [decide_eq_true (by omega:(i:Int)<(l.length:Int)),cond_true,el_idx hi,Option.bind_some,succW hi hl]
    simp only []
    have hlast:w64 ((l.length:Int)-1)=((l.length-1:Nat):Int):=predW (by omega) (Nat.le_refl _) hl
    have elast:((i:Int)==((l.length-1:Nat):Int))=decide (i=l.length-1):=by rw [Bool.eq_iff_iff,beq_iff_eq,decide_eq_true_eq];omega
    rw [hlast,elast]
    have dlast:((((el l i).Seq !=seq||(el l i).Min !=(el l i).S)||(el l i).Max !=(el l i).S)||(el l i).Q !=w64 ((el l i).S*(el l i).S))=bOf (¬mkLast seq (el l i)):=by
     rw [Bool.eq_iff_iff,bOf_iff]
     unfold mkLast
     simp only [Bool.or_eq_true,bne_iff_ne]
     omega
    by_cases h1:(1≤(el l i).Seq∧(el l i).Seq≤seq)∧(el l i).N=seq-(el l i).Seq+1∧(el l i).N≤cap
    ·have e1:(((decide ((el l i).Seq<1)||decide ((el l i).Seq>seq))||((el l i).N !=w64 (w64 (seq-(el l i).Seq)+1)))||decide ((el l i).N>cap))=false:=by
      have e:w64 (w64 (seq-(el l i).Seq)+1)=seq-(el l i).Seq+1:=by rw [w64_id (n:=seq-(el l i).Seq) (by omega) (by omega),w64_id]<;>omega
      rw [e];simp;omega
     rw [e1]
     by_cases h1' :0≤(el l i).T∧(el l i).T≤now
     ·have hm1:mk1 seq cap now (el l i):=by unfold mk1;omega
      have e2:(!ref06_Tick (el l i).T||decide ((el l i).T>now))=false:=by
       have:=(tick_iffP (el l i).T).2 (by omega)
       rw [this];simp;omega
      rw [e2]
      have e3:=mk2_boolE ha hc hm1
      rcases i with _|i
      ·have e4:decide (((0:Nat):Int)>0)=false:=rfl
       rw [e4]
       rw [e3,dlast]
       simp only [Bool.not_false,Bool.and_false,gd_false,Option.bind_some,Bool.false_or,Bool.or_false,Bool.false_and,cond_false,cond_merge]
       refine step_iff ?_
       have e5:(((l.length:Int)==1)=true)↔l.length=1:=by rw [beq_iff_eq];omega
       have e6:(0=l.length-1)↔l.length=1:=by omega
       rw [Bool.or_eq_true,Bool.or_eq_true,Bool.and_eq_true,Bool.and_eq_true,bOf_iff,bOf_iff,e5,decide_eq_true_eq,Bool.not_eq_true',Bool.eq_false_iff,e6]
       unfold okMk
       by_cases g1:mk2 (smooth_least agg) (el l 0)<;>by_cases g2:l.length=1<;>by_cases g3:ref06_Live now w (el l 0).T=true<;>by_cases g5:mkLast seq (el l 0)<;>simp [g1,g2,g3,g5,hm1]
      ·have e4:decide (((i+1:Nat):Int)>0)=true:=decide_eq_true (by omega)
       rw [e4,predW (by omega) (Nat.le_of_lt hi) hl,Nat.add_sub_cancel,el_idx (by omega)]
       rw [e3,dlast]
       simp only [Bool.not_false,Bool.true_and,gd_true,Option.bind_some,Bool.false_or,Bool.true_or,cond_true,cond_merge]
       refine step_iff ?_
       rw [okMk_succ]
       simp only [Bool.or_eq_true,Bool.and_eq_true,bOf_iff,decide_eq_true_eq,Bool.not_eq_true',part_fits]
       unfold mk4
       generalize hf:marks_fits (w64 ((el l i).N-(el l (i+1)).N)) (el l i).Min (el l i).Max (w64 ((el l i).S-(el l (i+1)).S)) (w64 ((el l i).Q-(el l (i+1)).Q))=F
       generalize ref06_Live now w (el l (i+1)).T=V
       generalize mk2 (smooth_least agg) (el l (i+1))=M
       generalize mkLast seq (el l (i+1))=Z
       by_cases g1:M<;>by_cases g2:Z<;>cases F<;>cases V<;>simp [g1,g2,hm1]<;>omega
     ·have e2:(!ref06_Tick (el l i).T||decide ((el l i).T>now))=true:=by
       rw [Bool.or_eq_true,Bool.not_eq_true',Bool.eq_false_iff,Ne,tick_iffP,decide_eq_true_eq];omega
      have hm1: ¬mk1 seq cap now (el l i):=by unfold mk1;omega
      rw [e2]
      simp only [Bool.not_true,Bool.false_and,gd_false,Option.bind_some,Bool.true_or,cond_true]
      rcases i with _|i
      ·have e4:decide (((0:Nat):Int)>0)=false:=rfl
       rw [e4]
       simp only [Bool.and_false,Bool.false_and,gd_false,Option.bind_some,Bool.or_false,cond_false]
       exact ⟨fun _=>trivial,fun hn=>absurd (fun h=>hm1 h.1.1) hn⟩
      ·have e4:decide (((i+1:Nat):Int)>0)=true:=decide_eq_true (by omega)
       rw [e4,predW (by omega) (Nat.le_of_lt hi) hl,Nat.add_sub_cancel,el_idx (by omega)]
       simp only [Bool.not_false,Bool.true_and,gd_true,Option.bind_some,Bool.false_or,ite_self,cond_merge]
       cases decide ((el l i).Seq≥(el l (i+1)).Seq) with
       |false=>exact ⟨fun _=>rfl,fun hn=>absurd (fun h=>hm1 h.1.1) hn⟩
       |true=>exact ⟨fun _=>rfl,fun hn=>absurd (fun h=>hm1 h.1.1) hn⟩
    ·have e1:(((decide ((el l i).Seq<1)||decide ((el l i).Seq>seq))||((el l i).N !=w64 (w64 (seq-(el l i).Seq)+1)))||decide ((el l i).N>cap))=true:=by
      by_cases h:1≤(el l i).Seq∧(el l i).Seq≤seq
      ·have e:w64 (w64 (seq-(el l i).Seq)+1)=seq-(el l i).Seq+1:=by rw [w64_id (n:=seq-(el l i).Seq) (by omega) (by omega),w64_id]<;>omega
       simp only [e,Bool.or_eq_true,decide_eq_true_eq,bne_iff_ne]
       omega
      ·simp only [Bool.or_eq_true,decide_eq_true_eq];omega
     rw [e1]
     simp only [Bool.not_true,Bool.false_and,gd_false,Option.bind_some,Bool.true_or,cond_true]
     refine ⟨fun _=>trivial,fun hn=>absurd (fun h=>h1 ?_) hn⟩
     have:=h.1.1
     unfold mk1 at this
     exact ⟨this.1,this.2.1,this.2.2.1⟩)
   (fun _=>by
    unfold ref13_Marks_l3s
    rw [decide_eq_false (Int.lt_irrefl _),cond_false])
  by_cases h: ∀i,i<l.length→(okMk l seq cap now w (smooth_least agg) i∧(i=l.length-1→mkLast seq (el l i)))
  ·rw [H.2 fun i hi hn=>hn (h i hi),bOf_t]
   exact ⟨hs,fun i hi=>(h i hi).1,fun h0=>(h (l.length-1) (by omega)).2 rfl⟩
  ·rw [H.1 (not_all h),bOf_f]
   rintro ⟨_,h2,h3⟩
   exact h fun i hi=>⟨h2 i hi,fun e=>by subst e;exact h3 (by omega)⟩
 ·have e:(decide (seq<0)||decide (seq>1099511627776))=true:=by rw [Bool.eq_iff_iff];simp;omega
  rw [e,cond_true,bOf_f]
  exact fun h=>hs h.1
end Go.Win
