import Derived.Test.YtfnkbbeeilpiiaaK2
namespace Go.Proofs.Ytfnkbbeeilpiiaa
open Go.Vc

/-- One step to the greatest (true) or the least (false) value. -/
def ext (g : Bool) (m : Int) (p : Int × Int) : Int := if (if g then decide (p.2 > m) else decide (p.2 < m)) then p.2 else m

def extV (g : Bool) (l : List (Int × Int)) : Int := l.foldl (ext g) (l.headD (0, 0)).2

theorem fold_next {α β : Type} (f : β → α → β) (b : β) (l : List α) {i : Nat} (h : i < l.length) : (l.take (i + 1)).foldl f b = f ((l.take i).foldl f b) l[i] := by
  rw [List.take_succ_eq_append_getElem h, List.foldl_append]
  rfl

theorem head_get {l : List (Int × Int)} (h : 0 < l.length) : l.headD (0, 0) = l[0] := by
  match l, h with
  | p :: l, _ => rfl

theorem c59 (f : Bool) (l : List (Int × Int)) : Contract Try.prog 59 [.lst 2 f (enc l)] [] (.int .i64 l.length) [] := by
  refine contract_of_vc tab_ok orders_ok Try.func59 Try.call59 (by kernel_rfl) 0 rfl rfl _ rfl ?_
  exact And.intro (by simp) trivial

theorem c19 (f : Bool) (l : List (Int × Int)) : Contract Try.prog 19 [.lst 2 f (enc l)] [] (.tup [.int .i64 (extV false l), .sb (!l.isEmpty)]) [] := by
  refine contract_of_vcL tab_ok orders_ok Try.func19 Try.call19 (by kernel_rfl) 0 rfl rfl _ rfl ?_
  rintro ⟨hl, _⟩
  replace hl : l.length ≤ 9223372036854775807 := by simpa [len1, len0, maxLen] using hl
  refine And.intro (fun h => ?_) (fun h => ?_)
  · have : l = [] := List.eq_nil_of_length_eq_zero (by simpa using h)
    subst this
    exact And.intro rfl (And.intro rfl trivial)
  have hp : 0 < l.length := by
    rcases l with _ | ⟨p, l⟩
    · simp [enc] at h
    · simp
  refine Exists.intro _ (And.intro (And.intro (Int.le_refl 0) (enc_get (l := l) (i := 0) hp)) ?_)
  refine Exists.intro ⟨Nat, fun i => [(.tmp 4, .av (.int .i64 ((l.take i).foldl (ext false) l[0].2))), (.tmp 14, .av (.lst 2 f (enc l))), (.tmp 15, .av (.int .i64 l.length)), (.tmp 16, .av (.int .i64 i))],
    fun i => i ≤ l.length, fun i => l.length - i⟩ (And.intro (Exists.intro [] (Exists.intro 0 (And.intro (Nat.zero_le _) (And.intro rfl ?_)))) ?_)
  · exact And.intro rfl (And.intro id (And.intro rfl (And.intro (show ((enc l).length : Int) = (l.length : Int) by simp) (And.intro rfl trivial))))
  refine fun (i : Nat) (hi : i ≤ l.length) => ?_
  refine And.intro (fun h => ?_) (fun h => ?_)
  · have hlt : i < l.length := by simpa using h
    refine Exists.intro _ (And.intro (And.intro (by omega) (enc_get (l := l) (i := i) hlt)) ?_)
    refine Exists.intro [] (Exists.intro (i + 1) (And.intro hlt (And.intro (by show l.length - (i + 1) < l.length - i; omega) (And.intro rfl ?_))))
    refine And.intro ?_ (And.intro id (And.intro rfl (And.intro rfl (And.intro (by rw [wrap64] <;> push_cast <;> omega) trivial))))
    rw [fold_next _ _ _ hlt]
    simp [ext]
  · have hge : ¬ i < l.length := by simpa using h
    have : i = l.length := by omega
    subst this
    refine And.intro ?_ (And.intro ?_ trivial)
    · unfold extV; rw [head_get hp, List.take_length]
    · cases l <;> simp at hp ⊢

theorem c21 (f : Bool) (l : List (Int × Int)) : Contract Try.prog 21 [.lst 2 f (enc l)] [] (.tup [.int .i64 (extV true l), .sb (!l.isEmpty)]) [] := by
  refine contract_of_vcL tab_ok orders_ok Try.func21 Try.call21 (by kernel_rfl) 0 rfl rfl _ rfl ?_
  rintro ⟨hl, _⟩
  replace hl : l.length ≤ 9223372036854775807 := by simpa [len1, len0, maxLen] using hl
  refine And.intro (fun h => ?_) (fun h => ?_)
  · have : l = [] := List.eq_nil_of_length_eq_zero (by simpa using h)
    subst this
    exact And.intro rfl (And.intro rfl trivial)
  have hp : 0 < l.length := by
    rcases l with _ | ⟨p, l⟩
    · simp [enc] at h
    · simp
  refine Exists.intro _ (And.intro (And.intro (Int.le_refl 0) (enc_get (l := l) (i := 0) hp)) ?_)
  refine Exists.intro ⟨Nat, fun i => [(.tmp 4, .av (.int .i64 ((l.take i).foldl (ext true) l[0].2))), (.tmp 14, .av (.lst 2 f (enc l))), (.tmp 15, .av (.int .i64 l.length)), (.tmp 16, .av (.int .i64 i))],
    fun i => i ≤ l.length, fun i => l.length - i⟩ (And.intro (Exists.intro [] (Exists.intro 0 (And.intro (Nat.zero_le _) (And.intro rfl ?_)))) ?_)
  · exact And.intro rfl (And.intro id (And.intro rfl (And.intro (show ((enc l).length : Int) = (l.length : Int) by simp) (And.intro rfl trivial))))
  refine fun (i : Nat) (hi : i ≤ l.length) => ?_
  refine And.intro (fun h => ?_) (fun h => ?_)
  · have hlt : i < l.length := by simpa using h
    refine Exists.intro _ (And.intro (And.intro (by omega) (enc_get (l := l) (i := i) hlt)) ?_)
    refine Exists.intro [] (Exists.intro (i + 1) (And.intro hlt (And.intro (by show l.length - (i + 1) < l.length - i; omega) (And.intro rfl ?_))))
    refine And.intro ?_ (And.intro id (And.intro rfl (And.intro rfl (And.intro (by rw [wrap64] <;> push_cast <;> omega) trivial))))
    rw [fold_next _ _ _ hlt]
    simp [ext]
  · have hge : ¬ i < l.length := by simpa using h
    have : i = l.length := by omega
    subst this
    refine And.intro ?_ (And.intro ?_ trivial)
    · unfold extV; rw [head_get hp, List.take_length]
    · cases l <;> simp at hp ⊢
theorem c20 (f g : Bool) (l : List (Int × Int)) : Contract Try.prog 20 [.lst 2 f (enc l), .sb g] [] (.tup [.int .i64 (extV g l), .sb (!l.isEmpty)]) [] := by
  refine contract_of_vcL tab_ok orders_ok Try.func20 Try.call20 (by kernel_rfl) 0 rfl rfl _ rfl ?_
  rintro ⟨hl, _⟩
  replace hl : l.length ≤ 9223372036854775807 := by simpa [len1, len0, maxLen] using hl
  refine And.intro (fun h => ?_) (fun h => ?_)
  · have : l = [] := List.eq_nil_of_length_eq_zero (by simpa using h)
    subst this
    exact And.intro rfl (And.intro rfl trivial)
  have hp : 0 < l.length := by
    rcases l with _ | ⟨p, l⟩
    · simp [enc] at h
    · simp
  refine Exists.intro _ (And.intro (And.intro (Int.le_refl 0) (enc_get (l := l) (i := 0) hp)) ?_)
  refine Exists.intro ⟨Nat, fun i => [(.tmp 1, .av (.sb g)), (.tmp 6, .av (.int .i64 ((l.take i).foldl (ext g) l[0].2))), (.tmp 16, .av (.lst 2 f (enc l))), (.tmp 17, .av (.int .i64 l.length)), (.tmp 18, .av (.int .i64 i))],
    fun i => i ≤ l.length, fun i => l.length - i⟩ (And.intro (Exists.intro [] (Exists.intro 0 (And.intro (Nat.zero_le _) (And.intro rfl ?_)))) ?_)
  · exact And.intro rfl (And.intro rfl (And.intro id (And.intro rfl (And.intro (show ((enc l).length : Int) = (l.length : Int) by simp) (And.intro rfl trivial)))))
  refine fun (i : Nat) (hi : i ≤ l.length) => ?_
  refine And.intro (fun h => ?_) (fun h => ?_)
  · have hlt : i < l.length := by simpa using h
    refine Exists.intro none ?_
    refine Exists.intro _ (And.intro (And.intro (by omega) (enc_get (l := l) (i := i) hlt)) ?_)
    -- what a round leaves
    have next : ∀ m : Int, m = ext g ((l.take i).foldl (ext g) l[0].2) l[i] → (m = (l.take (i + 1)).foldl (ext g) l[0].2) := fun m hm => by rw [fold_next _ _ _ hlt]; exact hm
    have hw : IntKind.i64.wrap ((i : Int) + 1) = ((i + 1 : Nat) : Int) := by rw [wrap64] <;> push_cast <;> omega
    have fin : ∀ (m : Int) (b : Bool), b = g → m = ext g ((l.take i).foldl (ext g) l[0].2) l[i] → (b = g ∧ (m = (l.take (i + 1)).foldl (ext g) l[0].2 ∧ ((f = true → f = true) ∧ (enc l = enc l ∧ ((l.length : Int) = l.length ∧ (IntKind.i64.wrap ((i : Int) + 1) = ((i + 1 : Nat) : Int) ∧ True)))))) :=
      fun m b hb hm => ⟨hb, next m hm, id, rfl, rfl, hw, trivial⟩
    have mu : l.length - (i + 1) < l.length - i := by omega
    repeat' (refine And.intro (fun _ => ?_) (fun _ => ?_))
    all_goals exact Exists.intro [] (Exists.intro (i + 1) (And.intro hlt (And.intro mu (And.intro rfl (fin _ _ rfl (by clear fin next hw mu; simp_all [ext] <;> intros <;> omega))))))
  · have hge : ¬ i < l.length := by simpa using h
    have : i = l.length := by omega
    subst this
    refine And.intro ?_ (And.intro ?_ trivial)
    · unfold extV; rw [head_get hp, List.take_length]
    · cases l <;> simp at hp ⊢
end Go.Proofs.Ytfnkbbeeilpiiaa
