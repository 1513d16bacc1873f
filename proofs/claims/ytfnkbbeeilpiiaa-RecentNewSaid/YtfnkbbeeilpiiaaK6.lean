import Derived.Test.YtfnkbbeeilpiiaaK5
namespace Go.Proofs.Ytfnkbbeeilpiiaa
open Go.Vc

theorem c17 : Contract Try.prog 17 [] [] (.sb true) [] := by
  refine contract_of_vc tab_ok orders_ok Try.func17 Try.call17 (by kernel_rfl) 0 rfl rfl _ rfl ?_
  refine Exists.intro _ (Exists.intro _ (And.intro (c14 3 2 0) (And.intro rfl ?_)))
  refine Exists.intro _ (Exists.intro _ (And.intro (Contract.wk (c25 (newW 3 2 0) (newC 3 2 0) (newN 3 2 0) false [] 5) (And.intro rfl (And.intro rfl (And.intro rfl (And.intro rfl (And.intro rfl trivial)))))) (And.intro rfl ?_)))
  refine And.intro (fun h1 => ?_) (fun h1 => absurd h1 (by decide))
  refine And.intro (fun h2 => ?_) (fun h2 => absurd h2 (by decide))
  exact And.intro (by decide) trivial

theorem c3 (w c n : Int) : Contract Try.prog 3 [.int .i64 w, .int .i64 c, .int .i64 n] [] (.sb true) [] := by
  refine contract_of_vc tab_ok orders_ok Try.func3 Try.call3 (by kernel_rfl) 0 rfl rfl _ rfl ?_
  refine Exists.intro _ (Exists.intro _ (And.intro (c14 w c n) (And.intro rfl ?_)))
  refine Exists.intro _ (Exists.intro _ (And.intro (c15 w c n) (And.intro rfl ?_)))
  refine Exists.intro _ (Exists.intro _ (And.intro (Contract.wk (c16 (newW w c n) (newC w c n) (newN w c n) (newW w c n) (newC w c n) (newN w c n) false false [] []) (And.intro rfl (And.intro rfl (And.intro rfl (And.intro rfl (And.intro rfl (And.intro rfl (And.intro rfl (And.intro rfl trivial))))))))) (And.intro rfl ?_)))
  refine And.intro (fun h1 => ?_) (fun h1 => absurd h1 (by simp))
  refine And.intro (fun h2 => ?_) (fun h2 => absurd h2 (by simp))
  exact Exists.intro _ (Exists.intro _ (And.intro c17 (And.intro rfl (And.intro rfl trivial))))
end Go.Proofs.Ytfnkbbeeilpiiaa
