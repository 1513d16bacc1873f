import Derived.Test.YtfnkbbeeilpiiaaK11
namespace Go.Proofs.Ytfnkbbeeilpiiaa
open Go.Vc

theorem c4 (f : Bool) (l : List (Int × Int)) : Contract Try.prog 4 [.lst 2 f (enc l)] [] (.sb true) [] := by
  refine contract_of_vc tab_ok orders_ok Try.func4 Try.call4 (by kernel_rfl) 0 rfl rfl _ rfl ?_
  refine And.intro (fun h => Exists.intro _ (Exists.intro _ (And.intro c18 (And.intro rfl (And.intro rfl trivial))))) (fun h => ?_)
  refine Exists.intro _ (Exists.intro _ (And.intro (c19 f l) (And.intro rfl ?_)))
  refine Exists.intro _ (Exists.intro _ (And.intro (c20 f false l) (And.intro rfl ?_)))
  refine Exists.intro _ (Exists.intro _ (And.intro (c21 f l) (And.intro rfl ?_)))
  refine Exists.intro _ (Exists.intro _ (And.intro (c20 f true l) (And.intro rfl ?_)))
  refine And.intro (fun h1 => ?_) (fun h1 => absurd h1 (by simp))
  refine And.intro (fun h1 => ?_) (fun h1 => absurd h1 (by simp))
  refine And.intro (fun h1 => ?_) (fun h1 => absurd h1 (by simp))
  refine And.intro (fun h1 => ?_) (fun h1 => absurd h1 (by simp))
  exact Exists.intro _ (Exists.intro _ (And.intro c18 (And.intro rfl (And.intro rfl trivial))))
end Go.Proofs.Ytfnkbbeeilpiiaa
