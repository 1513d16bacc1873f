import Derived.Test.YtfnkbbeeilpiiaaK10
namespace Go.Proofs.Ytfnkbbeeilpiiaa
open Go.Vc

def inItems (l : List (Int × Int)) : Prop := ∀ p ∈ l, in64 p.1 = true ∧ in64 p.2 = true

/-- One step of the sum of squares: none when it does not fit. -/
def sqStep (acc : Option Int) (p : Int × Int) : Option Int := match acc with
  | none => none
  | some s => if in64 (p.2 * p.2) then (if in64 (s + p.2 * p.2) then some (s + p.2 * p.2) else none) else none

def sqV (l : List (Int × Int)) : Option Int := l.foldl sqStep (some 0)

theorem sq_none : ∀ l : List (Int × Int), l.foldl sqStep none = none
  | [] => rfl
  | _ :: l => sq_none l

theorem sq_fail {l : List (Int × Int)} {i : Nat} (h : i < l.length) {s : Int} (h1 : (l.take i).foldl sqStep (some 0) = some s) (h2 : sqStep (some s) l[i] = none) : sqV l = none := by
  have e : (l.take (i + 1)).foldl sqStep (some 0) = none := by rw [fold_next _ _ _ h, h1, h2]
  have : sqV l = (l.drop (i + 1)).foldl sqStep ((l.take (i + 1)).foldl sqStep (some 0)) := by
    unfold sqV
    conv => lhs; rw [← List.take_append_drop (i + 1) l, List.foldl_append]
  rw [this, e, sq_none]

theorem c58 (f : Bool) (l : List (Int × Int)) (hin : inItems l) : Contract Try.prog 58 [.lst 2 f (enc l)] [] (.tup [.int .i64 ((sqV l).getD 0), .sb (sqV l).isSome]) [] := by
  refine contract_of_vcL tab_ok orders_ok Try.func58 Try.call58 (by kernel_rfl) 0 rfl rfl _ rfl ?_
  rintro ⟨hl, _⟩
  replace hl : l.length ≤ 9223372036854775807 := by simpa [len1, len0, maxLen] using hl
  refine Exists.intro ⟨Nat × Int, fun x => [(.tmp 4, .av (.int .i64 x.2)), (.tmp 9, .av (.lst 2 f (enc l))), (.tmp 10, .av (.int .i64 l.length)), (.tmp 11, .av (.int .i64 x.1))],
    fun x => x.1 ≤ l.length ∧ ((l.take x.1).foldl sqStep (some 0) = some x.2 ∧ in64 x.2 = true), fun x => l.length - x.1⟩ (And.intro (Exists.intro [] (Exists.intro (0, 0) (And.intro ⟨Nat.zero_le _, rfl, rfl⟩ (And.intro rfl ?_)))) ?_)
  · exact And.intro rfl (And.intro id (And.intro rfl (And.intro (show ((enc l).length : Int) = (l.length : Int) by simp) (And.intro rfl trivial))))
  rintro ⟨(i : Nat), (s : Int)⟩ (hφ : i ≤ l.length ∧ ((l.take i).foldl sqStep (some 0) = some s ∧ in64 s = true))
  obtain ⟨hi, hs, hin2⟩ := hφ
  refine And.intro (fun h => ?_) (fun h => ?_)
  · have hlt : i < l.length := by simpa using h
    have hv := (hin l[i] (List.getElem_mem hlt)).2
    refine Exists.intro _ (And.intro (And.intro (Int.natCast_nonneg i) (enc_get (l := l) (i := i) hlt)) ?_)
    refine Exists.intro _ (Exists.intro _ (And.intro (c73 l[i].2 l[i].2 hv hv) (And.intro rfl ?_)))
    have fail : sqStep (some s) l[i] = none → (0 = (sqV l).getD 0 ∧ (false = (sqV l).isSome ∧ True)) := fun h => by rw [sq_fail hlt hs h]; exact ⟨rfl, rfl, trivial⟩
    refine And.intro (fun h1 => fail (by simp at h1; simp [sqStep, h1])) (fun h1 => ?_)
    have h1' : in64 (l[i].2 * l[i].2) = true := by simpa using h1
    refine Exists.intro _ (Exists.intro _ (And.intro (c74 s (if in64 (l[i].2 * l[i].2) then l[i].2 * l[i].2 else 0) hin2 (by rw [if_pos h1']; exact h1')) (And.intro rfl ?_)))
    refine And.intro (fun h2 => fail (by rw [if_pos h1'] at h2; simp at h2; simp [sqStep, h2])) (fun h2 => ?_)
    rw [if_pos h1'] at h2
    have h2' : in64 (s + l[i].2 * l[i].2) = true := by simpa using h2
    refine Exists.intro [] (Exists.intro (i + 1, s + l[i].2 * l[i].2) (And.intro ⟨hlt, by rw [fold_next _ _ _ hlt, hs]; simp [sqStep, h1', h2'], h2'⟩ (And.intro (by show l.length - (i + 1) < l.length - i; omega) (And.intro rfl ?_))))
    refine And.intro (by rw [if_pos h1', if_pos h2']) (And.intro id (And.intro rfl (And.intro rfl (And.intro (show IntKind.i64.wrap ((i : Int) + 1) = ((i + 1 : Nat) : Int) by rw [wrap64] <;> push_cast <;> omega) trivial))))
  · have hge : ¬ i < l.length := by simpa using h
    have hil : i = l.length := by omega
    have e : sqV l = some s := by unfold sqV; rw [hil, List.take_length] at hs; exact hs
    rw [e]
    exact And.intro rfl (And.intro rfl trivial)

theorem c18 : Contract Try.prog 18 [] [] (.sb true) [] := by
  refine contract_of_vc tab_ok orders_ok Try.func18 Try.call18 (by kernel_rfl) 0 rfl rfl _ rfl ?_
  refine Exists.intro _ (Exists.intro _ (And.intro (c58 false [(0, 2), (1, 4), (1, 9)] (by intro p hp; simp at hp; rcases hp with rfl | rfl | rfl <;> decide)) (And.intro rfl ?_)))
  refine And.intro (fun h1 => ?_) (fun h1 => absurd h1 (by decide))
  refine And.intro (fun h2 => ?_) (fun h2 => absurd h2 (by decide))
  refine Exists.intro _ (Exists.intro _ (And.intro (c59 false [(0, 2), (1, 4), (1, 9)]) (And.intro rfl ?_)))
  exact And.intro (by decide) trivial
end Go.Proofs.Ytfnkbbeeilpiiaa
