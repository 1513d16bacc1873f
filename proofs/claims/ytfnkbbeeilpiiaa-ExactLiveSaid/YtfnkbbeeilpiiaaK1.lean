import Derived.Test.YtfnkbbeeilpiiaaTab1
namespace Go.Proofs.Ytfnkbbeeilpiiaa
open Go.Vc

def tickB (v : Int) : Bool := decide (v ≥ 0) && decide (v ≤ 16777216)
def valueB (v : Int) : Bool := decide (v ≥ -4096) && decide (v ≤ 4096)
def windowB (v : Int) : Bool := decide (v ≥ 1) && decide (v ≤ 1048576)
def goodB (w c n : Int) : Bool := windowB w && (decide (c ≥ 1) && (decide (c ≤ 65536) && tickB n))

theorem c62 (v : Int) : Contract Try.prog 62 [.int .i64 v] [] (.sb (valueB v)) [] := by
  refine contract_of_vc tab_ok orders_ok Try.func62 Try.call62 (by kernel_rfl) 0 rfl rfl _ rfl ?_
  repeat' (first | refine And.intro (fun _ => ?_) (fun _ => ?_) | exact And.intro (by simp_all [valueB] <;> intros <;> omega) trivial)

theorem c67 (v : Int) : Contract Try.prog 67 [.int .i64 v] [] (.sb (tickB v)) [] := by
  refine contract_of_vc tab_ok orders_ok Try.func67 Try.call67 (by kernel_rfl) 0 rfl rfl _ rfl ?_
  repeat' (first | refine And.intro (fun _ => ?_) (fun _ => ?_) | exact And.intro (by simp_all [tickB] <;> intros <;> omega) trivial)

theorem c68 (v : Int) : Contract Try.prog 68 [.int .i64 v] [] (.sb (tickB v)) [] := by
  refine contract_of_vc tab_ok orders_ok Try.func68 Try.call68 (by kernel_rfl) 0 rfl rfl _ rfl ?_
  repeat' (first | refine And.intro (fun _ => ?_) (fun _ => ?_) | exact And.intro (by simp_all [tickB] <;> intros <;> omega) trivial)

theorem c75 (v : Int) : Contract Try.prog 75 [.int .i64 v] [] (.sb (tickB v)) [] := by
  refine contract_of_vc tab_ok orders_ok Try.func75 Try.call75 (by kernel_rfl) 0 rfl rfl _ rfl ?_
  repeat' (first | refine And.intro (fun _ => ?_) (fun _ => ?_) | exact And.intro (by simp_all [tickB] <;> intros <;> omega) trivial)

theorem c69 (v : Int) : Contract Try.prog 69 [.int .i64 v] [] (.sb (windowB v)) [] := by
  refine contract_of_vc tab_ok orders_ok Try.func69 Try.call69 (by kernel_rfl) 0 rfl rfl _ rfl ?_
  repeat' (first | refine And.intro (fun _ => ?_) (fun _ => ?_) | exact And.intro (by simp_all [windowB] <;> intros <;> omega) trivial)

theorem c56 (w c n : Int) : Contract Try.prog 56 [.int .i64 w, .int .i64 c, .int .i64 n] [] (.sb (goodB w c n)) [] := by
  refine contract_of_vc tab_ok orders_ok Try.func56 Try.call56 (by kernel_rfl) 0 rfl rfl _ rfl ?_
  repeat' (first | refine And.intro (fun _ => ?_) (fun _ => ?_) | exact And.intro (by simp_all [goodB, windowB, tickB] <;> intros <;> omega) trivial)

theorem c57 (w c n : Int) : Contract Try.prog 57 [.int .i64 w, .int .i64 c, .int .i64 n] [] (.sb (goodB w c n)) [] := by
  refine contract_of_vc tab_ok orders_ok Try.func57 Try.call57 (by kernel_rfl) 0 rfl rfl _ rfl ?_
  refine Exists.intro _ (Exists.intro _ (And.intro (c69 w) (And.intro rfl ?_)))
  repeat' (first | refine And.intro (fun _ => ?_) (fun _ => ?_) | exact Exists.intro _ (Exists.intro _ (And.intro (c68 n) (And.intro rfl (And.intro (by simp_all [goodB] <;> intros <;> omega) trivial)))) | exact And.intro (by simp_all [goodB] <;> intros <;> omega) trivial)

/-- A state: its fields. -/
def newW (w c n : Int) : Int := if goodB w c n then w else 0
def newC (w c n : Int) : Int := if goodB w c n then c else 0
def newN (w c n : Int) : Int := if goodB w c n then n else 0
def newE (w c n : Int) : Int := if goodB w c n then 0 else 1

theorem c14 (w c n : Int) : Contract Try.prog 14 [.int .i64 w, .int .i64 c, .int .i64 n] [] (.tup [.agg [.int .i64 (newW w c n), .int .i64 (newC w c n), .int .i64 (newN w c n), .nilS], .int .i64 (newE w c n)]) [] := by
  refine contract_of_vc tab_ok orders_ok Try.func14 Try.call14 (by kernel_rfl) 0 rfl rfl _ rfl ?_
  refine Exists.intro _ (Exists.intro _ (And.intro (c56 w c n) (And.intro rfl ?_)))
  refine And.intro (fun h => ?_) (fun h => ?_)
  · exact And.intro (by simp_all [newW] <;> intros <;> omega) (And.intro (by simp_all [newC] <;> intros <;> omega) (And.intro (by simp_all [newN] <;> intros <;> omega) (And.intro (by simp_all [newE] <;> intros <;> omega) trivial)))
  · exact And.intro (by simp_all [newW] <;> intros <;> omega) (And.intro (by simp_all [newC] <;> intros <;> omega) (And.intro (by simp_all [newN] <;> intros <;> omega) (And.intro (by simp_all [newE] <;> intros <;> omega) trivial)))

theorem c15 (w c n : Int) : Contract Try.prog 15 [.int .i64 w, .int .i64 c, .int .i64 n] [] (.tup [.agg [.int .i64 (newW w c n), .int .i64 (newC w c n), .int .i64 (newN w c n), .nilS], .int .i64 (newE w c n)]) [] := by
  refine contract_of_vc tab_ok orders_ok Try.func15 Try.call15 (by kernel_rfl) 0 rfl rfl _ rfl ?_
  refine Exists.intro _ (Exists.intro _ (And.intro (c57 w c n) (And.intro rfl ?_)))
  refine And.intro (fun h => ?_) (fun h => ?_)
  · exact And.intro (by simp_all [newW] <;> intros <;> omega) (And.intro (by simp_all [newC] <;> intros <;> omega) (And.intro (by simp_all [newN] <;> intros <;> omega) (And.intro (by simp_all [newE] <;> intros <;> omega) trivial)))
  · exact And.intro (by simp_all [newW] <;> intros <;> omega) (And.intro (by simp_all [newC] <;> intros <;> omega) (And.intro (by simp_all [newN] <;> intros <;> omega) (And.intro (by simp_all [newE] <;> intros <;> omega) trivial)))
end Go.Proofs.Ytfnkbbeeilpiiaa
