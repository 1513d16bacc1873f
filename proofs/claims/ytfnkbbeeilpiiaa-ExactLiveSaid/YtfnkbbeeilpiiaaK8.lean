import Derived.Test.YtfnkbbeeilpiiaaK7
namespace Go.Proofs.Ytfnkbbeeilpiiaa
open Go.Vc

def in64 (n : Int) : Bool := decide (-9223372036854775808 ≤ n) && decide (n ≤ 9223372036854775807)

theorem wrapU {n : Int} : IntKind.u64.wrap n = n % 18446744073709551616 := by
  exact IntKind.wrap_u64 n

theorem c74 (a b : Int) (ha : in64 a = true) (hb : in64 b = true) : Contract Try.prog 74 [.int .i64 a, .int .i64 b] [] (.tup [.int .i64 (if in64 (a + b) then a + b else 0), .sb (in64 (a + b))]) [] := by
  refine contract_of_vc tab_ok orders_ok Try.func74 Try.call74 (by kernel_rfl) 0 rfl rfl _ rfl ?_
  simp only [in64, Bool.and_eq_true, decide_eq_true_eq] at ha hb
  repeat' (first | refine And.intro (fun _ => ?_) (fun _ => ?_) | fail)
  all_goals refine And.intro ?_ (And.intro ?_ trivial)
  all_goals (simp [in64, IntKind.wrap_i64] at *; try omega)
  all_goals trace_state

theorem c80 (a : Int) (ha : in64 a = true) : Contract Try.prog 80 [.int .i64 a] [] (.int .u64 a.natAbs) [] := by
  refine contract_of_vc tab_ok orders_ok Try.func80 Try.call80 (by kernel_rfl) 0 rfl rfl _ rfl ?_
  simp only [in64, Bool.and_eq_true, decide_eq_true_eq] at ha
  refine And.intro (fun h => And.intro ?_ trivial) (fun h => And.intro ?_ trivial)
  · simp at h
    rw [wrapU, wrapU]; omega
  · simp at h
    rw [wrapU]; omega
end Go.Proofs.Ytfnkbbeeilpiiaa
