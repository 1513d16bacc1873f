/- Pu: chapter 27: the bytes of commands, on both sides. -/
import Derived.Test.YtmipeaidieflmaaGreatPuTape
set_option linter.unusedVariables false
set_option linter.unusedSimpArgs false
set_option linter.unnecessarySimpa false
set_option linter.unusedSectionVars false
namespace Go.Win
open Go.Vc Go.Dec
theorem wr_ten {ns:List Int} (h:wfNs ns):(wr ns).length≤10*ns.length:=by
 induction ns with
 |nil=>simp [wr]
 |cons n ns ih=>
  rw [wr_cons,List.length_append,List.length_cons]
  have h1:=code_ten (h n (by simp))
  have h2:=ih fun x hx=>h x (by simp [hx])
  omega
theorem wfNs_app {a b:List Int}:wfNs (a++b)↔wfNs a∧wfNs b:=by
 constructor
 ·intro h
  exact ⟨fun x hx=>h x (List.mem_append.2 (.inl hx)),fun x hx=>h x (List.mem_append.2 (.inr hx))⟩
 ·rintro ⟨h1,h2⟩ x hx
  exact (List.mem_append.1 hx).elim (h1 x) (h2 x)
def Wr (f:List Int→Option (List Int)) (ns:List Int):Prop:=wfNs ns→ ∀b:List Int,b.length+(wr ns).length≤1099511627776→f b=some (b++wr ns)
theorem Wr.done:Wr (fun b=>some b) []:=fun _ b _=>by simp [wr]
theorem Wr.bind {f g:List Int→Option (List Int)} {ns ms:List Int} (hf:Wr f ns) (hg:Wr g ms):Wr (fun b=>Option.bind (f b) g) (ns++ms):=by
 intro hw b hb
 obtain ⟨h1,h2⟩:=wfNs_app.1 hw
 rw [wr_append] at hb⊢
 rw [List.length_append] at hb
 simp only []
 rw [hf h1 b (by omega),Option.bind_some,hg h2 _ (by rw [List.length_append];omega),List.append_assoc]
theorem Wr.int (a n:Int):Wr (fun b=>tape_Tape_Int_i3 b a n) [n]:=by
 intro hw b hb
 have e:wr [n]=code n:=by simp [wr]
 rw [e] at hb⊢
 unfold tape_Tape_Int_i3
 dsimp only
 rw [tape_append (hw n (by simp)) hb,Option.bind_some]
theorem Wr.small (a n:Int):Wr (fun b=>tape_Tape_Small_i3 b a n) [n]:=by
 intro hw b hb
 unfold tape_Tape_Small_i3
 dsimp only
 have h:tape_Tape_Int_i3 b a n=some (b++wr [n]):=Wr.int a n hw b hb
 rw [h,Option.bind_some]
theorem Wr.within (p q a n:Int):Wr (fun b=>tape_Tape_Within_i2 p q b a n) [n]:=by
 intro hw b hb
 unfold tape_Tape_Within_i2
 dsimp only
 have h:tape_Tape_Int_i3 b a n=some (b++wr [n]):=Wr.int a n hw b hb
 rw [h,Option.bind_some]
theorem ref_write {ns:List Int} (h:wfNs ns) (hl:ns.length≤10000000):ref27_Write ns=some (wr ns):=by
 have hb:=wr_ten h
 unfold ref27_Write ref27_Write_l2
 obtain ⟨r,hr,hQ⟩:=loop_ind (f:=fun s:List Int×Int=>ref27_Write_l2s ns s.1 s.2)
  (fun s=> ∃i:Nat,i≤ns.length∧s=(wr (ns.take i),(i:Int))) (fun s=>ns.length-s.2.toNat) (fun r=>r=wr ns) ([],0) ⟨0,by omega,by simp [wr]⟩ (by
   rintro _ ⟨i,hi,rfl⟩
   simp only
   unfold ref27_Write_l2s
   by_cases hlt:i<ns.length
   ·left
    have w:=h ns[i] (List.getElem_mem hlt)
    have e:ns.take (i+1)=ns.take i++ [ns[i]]:=by rw [List.take_add_one];simp [hlt]
    have e2:wr (ns.take (i+1))=wr (ns.take i)++code ns[i]:=by rw [e,wr_append];simp [wr]
    have c10:=code_ten w
    have b2:(wr (ns.take i)).length≤10*i:=by
     have:=wr_ten (ns:=ns.take i) fun x hx=>h x (List.take_subset _ _ hx)
     rw [List.length_take] at this
     omega
    rw [decide_eq_true (by omega),cond_true,idx_get hlt,Option.bind_some,ref_append w (by rw [List.length_nil];omega),Option.bind_some,List.nil_append,ck_pos (by rw [decide_eq_true_eq];omega),←e2]
    refine ⟨_,rfl,⟨i+1,hlt, ?_⟩, ?_⟩
    ·rw [w64_id (by omega) (by omega)];rfl
    ·show _-(w64 ((i:Int)+1)).toNat<_-((i:Int)).toNat
     rw [w64_id (by omega) (by omega)]
     omega
   ·right
    have hi' :i=ns.length:=by omega
    subst hi'
    rw [decide_eq_false (by omega),cond_false,List.take_length]
    exact ⟨_,rfl,rfl⟩)
 rw [hr,hQ]
end Go.Win
