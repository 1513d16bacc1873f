import Derived.Test.YtfnkbbeeilpiiaaK9
namespace Go.Proofs.Ytfnkbbeeilpiiaa
open Go.Vc

theorem signs (a b : Int) : ((decide (a < 0) == decide (b < 0)) = true → a * b = (a.natAbs : Int) * b.natAbs) ∧ ((decide (a < 0) == decide (b < 0)) = false → a * b = -((a.natAbs : Int) * b.natAbs)) := by
  by_cases ha : a < 0 <;> by_cases hb : b < 0
  · rw [show (a.natAbs : Int) = -a by omega, show (b.natAbs : Int) = -b by omega, Int.neg_mul_neg]
    simp [ha, hb]
  · rw [show (a.natAbs : Int) = -a by omega, show (b.natAbs : Int) = b by omega, Int.neg_mul]
    simp [ha, hb]
  · rw [show (a.natAbs : Int) = a by omega, show (b.natAbs : Int) = -b by omega, Int.mul_neg]
    simp [ha, hb]
  · rw [show (a.natAbs : Int) = a by omega, show (b.natAbs : Int) = b by omega]
    simp [ha, hb]

theorem c73 (a b : Int) (ha : in64 a = true) (hb : in64 b = true) : Contract Try.prog 73 [.int .i64 a, .int .i64 b] [] (.tup [.int .i64 (if in64 (a * b) then a * b else 0), .sb (in64 (a * b))]) [] := by
  refine contract_of_vc tab_ok orders_ok Try.func73 Try.call73 (by kernel_rfl) 0 rfl rfl _ rfl ?_
  refine Exists.intro _ (Exists.intro _ (And.intro (c80 a ha) (And.intro rfl ?_)))
  refine Exists.intro _ (Exists.intro _ (And.intro (c80 b hb) (And.intro rfl ?_)))
  simp only [in64, Bool.and_eq_true, decide_eq_true_eq] at ha hb
  refine Exists.intro _ (Exists.intro _ (And.intro (c79 a.natAbs b.natAbs (by omega) (by omega)) (And.intro rfl ?_)))
  obtain ⟨s1, s2⟩ := signs a b
  have hN : 0 ≤ (a.natAbs : Int) * b.natAbs := Int.mul_nonneg (by omega) (by omega)
  generalize (a.natAbs : Int) * b.natAbs = N at *
  generalize a * b = X at *
  repeat' (first | refine And.intro (fun _ => ?_) (fun _ => ?_) | refine Exists.intro none ?_ | fail)
  all_goals refine And.intro ?_ (And.intro ?_ trivial)
  all_goals (simp [in64, IntKind.wrap_i64, wrapU] at *; try omega)
  all_goals trace_state
end Go.Proofs.Ytfnkbbeeilpiiaa
