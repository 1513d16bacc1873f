import Derived.Test.YtfnkbbeeilpiiaaK3
namespace Go.Proofs.Ytfnkbbeeilpiiaa
open Go.Vc

def badItem (w n : Int) (l : List (Int × Int)) (i : Nat) : Bool := match l[i]? with
  | some p => !(liveB n w p.1) || !(valueB p.2)
  | none => false

theorem badItem_eq {w n : Int} {l : List (Int × Int)} {i : Nat} (h : i < l.length) : badItem w n l i = (!(liveB n w l[i].1) || !(valueB l[i].2)) := by
  simp [badItem, h]

def recB (w c n : Int) (l : List (Int × Int)) : Bool := goodB w c n && (!(decide ((l.length : Int) > c)) && (validB l n && !((List.range l.length).any (badItem w n l))))

def recE (w c n : Int) (l : List (Int × Int)) : Int := if recB w c n l then 0 else 2

theorem c27 (w c n : Int) (f : Bool) (l : List (Int × Int)) : Contract Try.prog 27 [.agg [.int .i64 w, .int .i64 c, .int .i64 n, .lst 2 f (enc l)]] [] (.int .i64 (recE w c n l)) [] := by
  refine contract_of_vcL tab_ok orders_ok Try.func27 Try.call27 (by kernel_rfl) 0 rfl rfl _ rfl ?_
  rintro ⟨⟨_, _, _, hl, _⟩, _⟩
  replace hl : l.length ≤ 9223372036854775807 := by simpa [len0, maxLen] using hl
  refine Exists.intro _ (Exists.intro _ (And.intro (c56 w c n) (And.intro rfl ?_)))
  refine And.intro (fun h1 => ?_) (fun h1 => And.intro (by simp_all [recE, recB]) trivial)
  refine And.intro (fun h2 => ?_) (fun h2 => And.intro (by simp_all [recE, recB]) trivial)
  refine Exists.intro _ (Exists.intro _ (And.intro (c34 f l n) (And.intro rfl ?_)))
  refine And.intro (fun h3 => And.intro (by simp_all [recE, recB]) trivial) (fun h3 => ?_)
  refine Exists.intro ⟨Nat, fun i => [(.tmp 1, .av (.ptr 0 0)), (.box 0, .box [.int .i64 w, .int .i64 c, .int .i64 n, .lst 2 f (enc l)]), (.tmp 30, .av (.lst 2 f (enc l))), (.tmp 31, .av (.int .i64 l.length)), (.tmp 32, .av (.int .i64 i))],
    fun i => i ≤ l.length ∧ ∀ j, j < i → badItem w n l j = false, fun i => l.length - i⟩ (And.intro (Exists.intro [] (Exists.intro 0 (And.intro ⟨by omega, by simp⟩ (And.intro rfl ?_)))) ?_)
  · exact And.intro rfl (And.intro rfl (And.intro rfl (And.intro id (And.intro rfl (And.intro id (And.intro rfl (And.intro (show ((enc l).length : Int) = (l.length : Int) by simp) (And.intro rfl trivial))))))))
  refine fun (i : Nat) (hij : i ≤ l.length ∧ ∀ j, j < i → badItem w n l j = false) => ?_
  obtain ⟨hi, hj⟩ := hij
  have bad : i < l.length → badItem w n l i = true → 2 = recE w c n l := fun h1 h2 => by simp [recE, recB, any_of h1 h2]
  have next : i < l.length → badItem w n l i = false → (i + 1 ≤ l.length ∧ ∀ j, j < i + 1 → badItem w n l j = false) := fun h1 h2 => ⟨by omega, fun j hj' => by
    by_cases hji : j = i
    · subst hji; exact h2
    · exact hj j (by omega)⟩
  refine And.intro (fun h => ?_) (fun h => ?_)
  · have hlt : i < l.length := by simpa using h
    refine Exists.intro _ (And.intro (And.intro (by omega) (enc_get (l := l) (i := i) hlt)) ?_)
    refine Exists.intro _ (Exists.intro _ (And.intro (c64 n w l[i].1) (And.intro rfl ?_)))
    refine And.intro (fun h1 => ?_) (fun h1 => And.intro (bad hlt (by rw [badItem_eq hlt]; simp_all)) trivial)
    refine Exists.intro _ (Exists.intro _ (And.intro (c62 l[i].2) (And.intro rfl ?_)))
    refine And.intro (fun h2 => And.intro (bad hlt (by rw [badItem_eq hlt]; simp_all)) trivial) (fun h2 => ?_)
    refine Exists.intro [] (Exists.intro (i + 1) (And.intro (next hlt (by rw [badItem_eq hlt]; simp_all)) (And.intro (by show l.length - (i + 1) < l.length - i; omega) (And.intro rfl ?_))))
    exact And.intro rfl (And.intro rfl (And.intro rfl (And.intro id (And.intro rfl (And.intro id (And.intro rfl (And.intro rfl (And.intro (by rw [wrap64] <;> push_cast <;> omega) trivial))))))))
  · have hge : ¬ i < l.length := by simpa using h
    refine And.intro ?_ trivial
    have : (List.range l.length).any (badItem w n l) = false := any_no fun j hj' => hj j (by omega)
    simp_all [recE, recB]

theorem c16 (w c n w' c' n' : Int) (f g : Bool) (l m : List (Int × Int)) : Contract Try.prog 16 [.agg [.int .i64 w, .int .i64 c, .int .i64 n, .lst 2 f (enc l)], .agg [.int .i64 w', .int .i64 c', .int .i64 n', .lst 2 g (enc m)]] []
    (.sb (decide (w = w' ∧ c = c' ∧ n = n' ∧ l = m))) [] := by
  refine contract_of_vc tab_ok orders_ok Try.func16 Try.call16 (by kernel_rfl) 0 rfl rfl _ rfl ?_
  refine And.intro (fun h1 => ?_) (fun h1 => And.intro (by simp_all) trivial)
  refine And.intro (fun h2 => ?_) (fun h2 => And.intro (by simp_all) trivial)
  refine And.intro (fun h3 => ?_) (fun h3 => And.intro (by simp_all) trivial)
  exact Exists.intro _ (Exists.intro _ (And.intro (c33 f g l m) (And.intro rfl (And.intro (by simp_all) trivial))))
end Go.Proofs.Ytfnkbbeeilpiiaa
