import Derived.Test.YtfnkbbeeilpiiaaK2
namespace Go.Proofs.Ytfnkbbeeilpiiaa
open Go.Vc

/-- Whether item i breaks the order, or stands outside. -/
def badAt (l : List (Int × Int)) (now : Int) (i : Nat) : Bool := match l[i]? with
  | none => false
  | some p => decide (p.1 < 0) || (decide (p.1 > now) || (decide (0 < i) && (match l[i - 1]? with
    | some q => decide (q.1 > p.1)
    | none => false)))

theorem badAt_eq {l : List (Int × Int)} {now : Int} {i : Nat} (h : i < l.length) : badAt l now i = (decide (l[i].1 < 0) || (decide (l[i].1 > now) || (decide (0 < i) && decide (l[i - 1].1 > l[i].1)))) := by
  have h1 : i - 1 < l.length := by omega
  simp [badAt, h, h1]

def validB (l : List (Int × Int)) (now : Int) : Bool := tickB now && !(List.range l.length).any (badAt l now)

theorem any_of {n i : Nat} {p : Nat → Bool} (hi : i < n) (h : p i = true) : (List.range n).any p = true := List.any_eq_true.2 ⟨i, by simpa using hi, h⟩

theorem any_no {n : Nat} {p : Nat → Bool} (h : ∀ i, i < n → p i = false) : (List.range n).any p = false := by
  rw [List.any_eq_false]
  intro i hi
  simpa using h i (by simpa using hi)

theorem c34 (f : Bool) (l : List (Int × Int)) (now : Int) : Contract Try.prog 34 [.lst 2 f (enc l), .int .i64 now] [] (.sb (validB l now)) [] := by
  refine contract_of_vcL tab_ok orders_ok Try.func34 Try.call34 (by kernel_rfl) 0 rfl rfl _ rfl ?_
  rintro ⟨hl, _⟩
  replace hl : l.length ≤ 9223372036854775807 := by simpa [len1, len0, maxLen] using hl
  refine Exists.intro _ (Exists.intro _ (And.intro (c67 now) (And.intro rfl ?_)))
  refine And.intro (fun h => And.intro ?_ trivial) (fun hn => ?_)
  · simp_all [validB]
  refine Exists.intro ⟨Nat, fun i => [(.tmp 0, .av (.lst 2 f (enc l))), (.tmp 1, .av (.int .i64 now)), (.tmp 10, .av (.lst 2 f (enc l))), (.tmp 11, .av (.int .i64 l.length)), (.tmp 12, .av (.int .i64 i))],
    fun i => i ≤ l.length ∧ ∀ j, j < i → badAt l now j = false, fun i => l.length - i⟩ (And.intro (Exists.intro [] (Exists.intro 0 (And.intro ⟨by omega, by simp⟩ (And.intro rfl ?_)))) ?_)
  · exact And.intro id (And.intro rfl (And.intro rfl (And.intro id (And.intro rfl (And.intro (show ((enc l).length : Int) = (l.length : Int) by simp) (And.intro rfl trivial))))))
  refine fun (i : Nat) (hij : i ≤ l.length ∧ ∀ j, j < i → badAt l now j = false) => ?_
  obtain ⟨hi, hj⟩ := hij
  -- a bad one
  have bad : i < l.length → badAt l now i = true → validB l now = false := fun h1 h2 => by simp [validB, any_of h1 h2]
  have next : i < l.length → badAt l now i = false → (i + 1 ≤ l.length ∧ ∀ j, j < i + 1 → badAt l now j = false) := fun h1 h2 => ⟨by omega, fun j hj' => by
    by_cases hji : j = i
    · subst hji; exact h2
    · exact hj j (by omega)⟩
  refine And.intro (fun h => ?_) (fun h => ?_)
  · have hlt : i < l.length := by simpa using h
    refine Exists.intro _ (And.intro (And.intro (by omega) (enc_get (l := l) (i := i) hlt)) ?_)
    -- below nought
    refine And.intro (fun h1 => ?_) (fun h1 => And.intro (bad hlt (by rw [badAt_eq hlt]; simp_all)).symm trivial)
    refine And.intro (fun h2 => ?_) (fun h2 => And.intro (bad hlt (by rw [badAt_eq hlt]; simp_all)).symm trivial)
    refine And.intro (fun h3 => ?_) (fun h3 => ?_)
    · have h3' : 0 < i := by simpa using h3
      have hw : IntKind.i64.wrap ((i : Int) - 1) = ((i - 1 : Nat) : Int) := by rw [wrap64] <;> omega
      refine Exists.intro [.int .i64 l[i - 1].1, .int .i64 l[i - 1].2] (And.intro (And.intro (by rw [hw]; omega) (by rw [hw]; exact enc_get (by omega))) ?_)
      have hq : l[i - 1]? = some l[i - 1] := List.getElem?_eq_getElem (by omega)
      refine And.intro (fun h4 => And.intro (bad hlt ?_).symm trivial) (fun h4 => ?_)
      · rw [badAt_eq hlt]; simp_all
      · refine Exists.intro [] (Exists.intro (i + 1) (And.intro (next hlt (by rw [badAt_eq hlt]; simp_all)) (And.intro (by show l.length - (i + 1) < l.length - i; omega) (And.intro rfl ?_))))
        exact And.intro id (And.intro rfl (And.intro rfl (And.intro id (And.intro rfl (And.intro rfl (And.intro (by rw [wrap64] <;> push_cast <;> omega) trivial))))))
    · refine Exists.intro [] (Exists.intro (i + 1) (And.intro (next hlt (by rw [badAt_eq hlt]; simp_all)) (And.intro (by show l.length - (i + 1) < l.length - i; omega) (And.intro rfl ?_))))
      exact And.intro id (And.intro rfl (And.intro rfl (And.intro id (And.intro rfl (And.intro rfl (And.intro (by rw [wrap64] <;> push_cast <;> omega) trivial))))))
  · have hge : ¬ i < l.length := by simpa using h
    refine And.intro ?_ trivial
    have : (List.range l.length).any (badAt l now) = false := any_no fun j hj' => hj j (by omega)
    simp_all [validB]
end Go.Proofs.Ytfnkbbeeilpiiaa
