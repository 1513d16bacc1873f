import Derived.Test.YtfnkbbeeilpiiaaK4
namespace Go.Proofs.Ytfnkbbeeilpiiaa
open Go.Vc

def addOk (w c n : Int) (l : List (Int × Int)) (v : Int) : Bool := recB w c n l && (valueB v && !decide ((l.length : Int) = c))
def addE (w c n : Int) (l : List (Int × Int)) (v : Int) : Int := if recB w c n l then (if valueB v then (if (l.length : Int) = c then 5 else 0) else 4) else 2
def iff0 (b : Bool) (x : Int) : Int := if b then x else 0
def addL (w c n : Int) (l : List (Int × Int)) (v : Int) : List (Int × Int) := if addOk w c n l v then l ++ [(n, v)] else []

theorem c25 (w c n : Int) (f : Bool) (l : List (Int × Int)) (v : Int) : Contract Try.prog 25 [.agg [.int .i64 w, .int .i64 c, .int .i64 n, .lst 2 f (enc l)], .int .i64 v] []
    (.tup [.agg [.int .i64 (iff0 (addOk w c n l v) w), .int .i64 (iff0 (addOk w c n l v) c), .int .i64 (iff0 (addOk w c n l v) n), .lst 2 false (enc (addL w c n l v))], .int .i64 (addE w c n l v)]) [] := by
  refine contract_of_vc tab_ok orders_ok Try.func25 Try.call25 (by kernel_rfl) 0 rfl rfl _ rfl ?_
  refine Exists.intro _ (Exists.intro _ (And.intro (c27 w c n f l) (And.intro rfl ?_)))
  have leaf : ∀ e, addOk w c n l v = false → e = addE w c n l v → (0 = iff0 (addOk w c n l v) w ∧ (0 = iff0 (addOk w c n l v) c ∧ (0 = iff0 (addOk w c n l v) n ∧ (enc (addL w c n l v) = [] ∧ (e = addE w c n l v ∧ True))))) := by
    intro e h1 h2
    simp [iff0, addL, h1, h2, enc]
  refine And.intro (fun h1 => leaf _ (by simp_all [recE, addOk]) (by simp_all [recE, addE])) (fun h1 => ?_)
  have hr : recB w c n l = true := by simpa [recE] using h1
  refine Exists.intro _ (Exists.intro _ (And.intro (c62 v) (And.intro rfl ?_)))
  refine And.intro (fun h2 => leaf _ (by simp_all [addOk]) (by simp_all [addE])) (fun h2 => ?_)
  refine And.intro (fun h3 => leaf _ (by simp_all [addOk]) (by simp_all [addE])) (fun h3 => ?_)
  have hc : (l.length : Int) ≤ 65536 := by
    simp [recB, goodB] at hr
    omega
  refine And.intro (And.intro (by omega) (And.intro rfl (by simp))) ?_
  refine And.intro (And.intro (by simp) (And.intro (by simp; omega) (by simp; omega))) ?_
  have hok : addOk w c n l v = true := by simp_all [addOk]
  refine And.intro (by simp [iff0, hok]) (And.intro (by simp [iff0, hok]) (And.intro (by simp [iff0, hok]) (And.intro id (And.intro ?_ (And.intro ?_ trivial)))))
  · simp [addL, hok, enc]
    exact List.take_of_length_le (by simp)
  · simp_all [addE]
end Go.Proofs.Ytfnkbbeeilpiiaa
