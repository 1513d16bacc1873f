/- Pu: the package that turns numbers into arguments. -/
import Derived.Test.YtmipeaidieflmaaGreatPu09
set_option linter.unusedVariables false
set_option linter.unusedSimpArgs false
set_option linter.unnecessarySimpa false
set_option linter.unusedSectionVars false
namespace Go.Win
open Go.Vc Go.Dec
theorem validS_iff (l:List api_Item) (n:Int):validS l n=true↔ref06_Tick n=true∧(∀p∈l,0≤p.T∧p.T≤n)∧l.Pairwise (fun a b=>a.T≤b.T):=by
 unfold validS
 rw [Bool.and_eq_true,Bool.not_eq_true']
 constructor
 ·rintro ⟨h1,h2⟩
  have hno: ∀i,i<l.length→badV l n i=false:=fun i hi=>by
   cases h:badV l n i with
   |false=>rfl
   |true=>rw [any_iff.2 ⟨i,hi,h⟩] at h2;cases h2
  refine ⟨h1,fun p hp=> ?_, ?_⟩
  ·obtain ⟨i,hi,rfl⟩:=List.mem_iff_getElem.1 hp
   have:=hno i hi
   simp only [badV,get_some hi,Bool.or_eq_false_iff,decide_eq_false_iff_not] at this
   omega
  ·rw [List.pairwise_iff_getElem]
   intro i j hi hj hij
   have adj: ∀k (hk:k+1<l.length),l[k].T≤l[k+1].T:=fun k hk=>by
    have:=hno (k+1) hk
    simp only [badV,get_some hk,Nat.add_sub_cancel,get_some (show k<l.length by omega),Nat.succ_pos,decide_true,Bool.true_and,Bool.or_eq_false_iff,decide_eq_false_iff_not] at this
    omega
   have key: ∀d (hd:i+d<l.length),l[i].T≤l[i+d].T:=by
    intro d
    induction d with
    |zero=>intro _;exact Int.le_refl _
    |succ d ih=>
     intro hd
     exact Int.le_trans (ih (by omega)) (adj (i+d) hd)
   have:=key (j-i) (by omega)
   have e:i+(j-i)=j:=by omega
   simpa [e] using this
 ·rintro ⟨h1,h2,h3⟩
  refine ⟨h1, ?_⟩
  cases hc:(List.range l.length).any (badV l n) with
  |false=>rfl
  |true=>
   exfalso
   obtain ⟨i,hi,hb⟩:=any_iff.1 hc
   have:=h2 l[i] (List.getElem_mem hi)
   simp only [badV,get_some hi,Bool.or_eq_true,Bool.and_eq_true,decide_eq_true_eq] at hb
   rcases hb with (hb|hb)|⟨hb,hb2⟩
   ·omega
   ·omega
   ·rw [get_some (show i-1<l.length by omega)] at hb2
    simp only [decide_eq_true_eq] at hb2
    have:=List.pairwise_iff_getElem.1 h3 (i-1) i (by omega) hi (by omega)
    omega
theorem okV_iff (x:api_Recent):okV x=true↔(1≤x.W∧x.W≤1048576)∧(1≤x.Cap∧x.Cap≤65536)∧ref06_Tick x.Now=true∧(x.Items.length:Int)≤x.Cap∧(∀p∈x.Items,0≤p.T∧p.T≤x.Now∧p.T>x.Now-x.W∧ref09_Value p.V=true)∧x.Items.Pairwise (fun a b=>a.T≤b.T):=by
 unfold okV
 rw [Bool.and_eq_true,Bool.and_eq_true,Bool.and_eq_true,validS_iff,List.all_eq_true,decide_eq_true_eq]
 have hm:ref09_May x.W x.Cap x.Now=true↔(1≤x.W∧x.W≤1048576)∧(1≤x.Cap∧x.Cap≤65536)∧ref06_Tick x.Now=true:=by
  unfold ref09_May ref06_Window
  simp only [Bool.and_eq_true,decide_eq_true_eq]
  constructor
  ·rintro ⟨⟨⟨⟨a,b⟩,c⟩,d⟩,e⟩;exact ⟨⟨a,b⟩,⟨c,d⟩,e⟩
  ·rintro ⟨⟨a,b⟩,⟨c,d⟩,e⟩;exact ⟨⟨⟨⟨a,b⟩,c⟩,d⟩,e⟩
 rw [hm]
 constructor
 ·rintro ⟨⟨⟨h1,h2,h3⟩,h4⟩,⟨_,h6,h7⟩,h8⟩
  refine ⟨h1,h2,h3,h4,fun p hp=> ?_,h7⟩
  have a:=h6 p hp
  have b:=h8 p hp
  unfold ref06_Live at b
  unfold ref06_Tick at h3
  simp only [Bool.and_eq_true,decide_eq_true_eq] at b h3
  have e:w64 (x.Now-x.W)=x.Now-x.W:=by rw [w64_id]<;>omega
  rw [e] at b
  exact ⟨a.1,a.2,b.1.1.2,b.2⟩
 ·rintro ⟨h1,h2,h3,h4,h5,h6⟩
  refine ⟨⟨⟨h1,h2,h3⟩,h4⟩,⟨h3,fun p hp=>⟨(h5 p hp).1,(h5 p hp).2.1⟩,h6⟩,fun p hp=> ?_⟩
  obtain ⟨a,b,c,d⟩:=h5 p hp
  have h3' :=h3
  unfold ref06_Tick at h3'
  simp only [Bool.and_eq_true,decide_eq_true_eq] at h3'
  have e:w64 (x.Now-x.W)=x.Now-x.W:=by rw [w64_id]<;>omega
  unfold ref06_Live ref06_Window
  rw [e]
  have ht:ref06_Tick p.T=true:=by
   unfold ref06_Tick
   simp only [Bool.and_eq_true,decide_eq_true_eq];omega
  simp only [Bool.and_eq_true,decide_eq_true_eq,h3,ht,d,true_and,and_true]
  omega
end Go.Win
