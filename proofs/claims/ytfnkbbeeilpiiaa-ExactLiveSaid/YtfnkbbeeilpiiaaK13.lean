import Derived.Test.YtfnkbbeeilpiiaaK12
import Derived.Test.YtfnkbbeeilpiiaaK3
namespace Go.Proofs.Ytfnkbbeeilpiiaa
open Go.Vc

theorem c35 (f : Bool) (l : List (Int × Int)) (now : Int) : Contract Try.prog 35 [.lst 2 f (enc l), .int .i64 now] [] (.sb (validB l now)) [] := by
  refine contract_of_vcL tab_ok orders_ok Try.func35 Try.call35 (by kernel_rfl) 0 rfl rfl _ rfl ?_
  rintro ⟨hl, _⟩
  replace hl : l.length ≤ 9223372036854775807 := by simpa [len1, len0, maxLen] using hl
  refine Exists.intro _ (Exists.intro _ (And.intro (c68 now) (And.intro rfl ?_)))
  refine And.intro (fun h => And.intro ?_ trivial) (fun hn => ?_)
  · simp_all [validB]
  refine Exists.intro ⟨Nat, fun i => [(.tmp 0, .av (.lst 2 f (enc l))), (.tmp 1, .av (.int .i64 now)), (.tmp 10, .av (.lst 2 f (enc l))), (.tmp 11, .av (.int .i64 l.length)), (.tmp 12, .av (.int .i64 i))],
    fun i => i ≤ l.length ∧ ∀ j, j < i → badAt l now j = false, fun i => l.length - i⟩ (And.intro (Exists.intro [] (Exists.intro 0 (And.intro ⟨by omega, by simp⟩ (And.intro rfl ?_)))) ?_)
  · exact And.intro id (And.intro rfl (And.intro rfl (And.intro id (And.intro rfl (And.intro (show ((enc l).length : Int) = (l.length : Int) by simp) (And.intro rfl trivial))))))
  refine fun (i : Nat) (hij : i ≤ l.length ∧ ∀ j, j < i → badAt l now j = false) => ?_
  obtain ⟨hi, hj⟩ := hij
  -- a bad one
  have bad : i < l.length → badAt l now i = true → validB l now = false := fun h1 h2 => by simp [validB, any_of h1 h2]
  have next : i < l.length → badAt l now i = false → (i + 1 ≤ l.length ∧ ∀ j, j < i + 1 → badAt l now j = false) := fun h1 h2 => ⟨by omega, fun j hj' => by
    by_cases hji : j = i
    · subst hji; exact h2
    · exact hj j (by omega)⟩
  refine And.intro (fun h => ?_) (fun h => ?_)
  · have hlt : i < l.length := by simpa using h
    refine Exists.intro _ (And.intro (And.intro (by omega) (enc_get (l := l) (i := i) hlt)) ?_)
    -- below nought
    refine And.intro (fun h1 => ?_) (fun h1 => And.intro (bad hlt (by rw [badAt_eq hlt]; simp_all)).symm trivial)
    refine And.intro (fun h2 => ?_) (fun h2 => And.intro (bad hlt (by rw [badAt_eq hlt]; simp_all)).symm trivial)
    refine And.intro (fun h3 => ?_) (fun h3 => ?_)
    · have h3' : 0 < i := by simpa using h3
      have hw : IntKind.i64.wrap ((i : Int) - 1) = ((i - 1 : Nat) : Int) := by rw [wrap64] <;> omega
      refine Exists.intro [.int .i64 l[i - 1].1, .int .i64 l[i - 1].2] (And.intro (And.intro (by rw [hw]; omega) (by rw [hw]; exact enc_get (by omega))) ?_)
      have hq : l[i - 1]? = some l[i - 1] := List.getElem?_eq_getElem (by omega)
      refine And.intro (fun h4 => And.intro (bad hlt ?_).symm trivial) (fun h4 => ?_)
      · rw [badAt_eq hlt]; simp_all
      · refine Exists.intro [] (Exists.intro (i + 1) (And.intro (next hlt (by rw [badAt_eq hlt]; simp_all)) (And.intro (by show l.length - (i + 1) < l.length - i; omega) (And.intro rfl ?_))))
        exact And.intro id (And.intro rfl (And.intro rfl (And.intro id (And.intro rfl (And.intro rfl (And.intro (by rw [wrap64] <;> push_cast <;> omega) trivial))))))
    · refine Exists.intro [] (Exists.intro (i + 1) (And.intro (next hlt (by rw [badAt_eq hlt]; simp_all)) (And.intro (by show l.length - (i + 1) < l.length - i; omega) (And.intro rfl ?_))))
      exact And.intro id (And.intro rfl (And.intro rfl (And.intro id (And.intro rfl (And.intro rfl (And.intro (by rw [wrap64] <;> push_cast <;> omega) trivial))))))
  · have hge : ¬ i < l.length := by simpa using h
    refine And.intro ?_ trivial
    have : (List.range l.length).any (badAt l now) = false := any_no fun j hj' => hj j (by omega)
    simp_all [validB]

theorem c65 (n w t : Int) : Contract Try.prog 65 [.int .i64 n, .int .i64 w, .int .i64 t] [] (.sb (liveB n w t)) [] := by
  refine contract_of_vc tab_ok orders_ok Try.func65 Try.call65 (by kernel_rfl) 0 rfl rfl _ rfl ?_
  refine Exists.intro _ (Exists.intro _ (And.intro (c68 n) (And.intro rfl ?_)))
  refine And.intro (fun h1 => ?_) (fun h1 => And.intro (by simp_all [liveB, firstV]) trivial)
  refine Exists.intro _ (Exists.intro _ (And.intro (c69 w) (And.intro rfl ?_)))
  refine And.intro (fun h2 => ?_) (fun h2 => And.intro (by simp_all [liveB, firstV]) trivial)
  refine Exists.intro _ (Exists.intro _ (And.intro (c68 t) (And.intro rfl ?_)))
  refine And.intro (fun h3 => ?_) (fun h3 => And.intro (by simp_all [liveB, firstV]) trivial)
  have hw : IntKind.i64.wrap (n - w) = n - w := by
    simp [tickB, windowB] at h1 h2
    rw [wrap64] <;> omega
  refine And.intro (fun h4 => And.intro ?_ trivial) (fun h4 => And.intro ?_ trivial)
  · rw [hw] at h4
    have e : firstV n w = max 0 (n - w + 1) := by simp [firstV, h1, h2]
    simp [tickB] at h3 h4
    rw [Bool.eq_iff_iff]
    simp only [liveB, e, tickB, Bool.and_eq_true, decide_eq_true_eq]
    omega
  · rw [hw] at h4
    have e : firstV n w = max 0 (n - w + 1) := by simp [firstV, h1, h2]
    simp [tickB] at h3 h4
    rw [Bool.eq_iff_iff]
    simp only [liveB, e, tickB, Bool.and_eq_true, decide_eq_true_eq]
    constructor
    · intro h; cases h
    · intro h; omega

def liveL (l : List (Int × Int)) (n w : Int) : List (Int × Int) := if validB l n then l.filter fun p => liveB n w p.1 else []

theorem c36 (f : Bool) (l : List (Int × Int)) (n w : Int) (h300 : l.length ≤ 100000) : Contract Try.prog 36 [.lst 2 f (enc l), .int .i64 n, .int .i64 w] [] (.lst 2 false (enc (liveL l n w))) [] := by
  refine contract_of_vc tab_ok orders_ok Try.func36 Try.call36 (by kernel_rfl) 0 rfl rfl _ rfl ?_
  refine Exists.intro _ (Exists.intro _ (And.intro (c34 f l n) (And.intro rfl ?_)))
  refine And.intro (fun h => And.intro (by simp at h; simp [liveL, h, enc]) trivial) (fun hv => ?_)
  have hv' : validB l n = true := by simpa using hv
  refine Exists.intro ⟨Nat, fun i => [(.tmp 1, .av (.int .i64 n)), (.tmp 2, .av (.int .i64 w)), (.tmp 7, .av (.own 1)), (.tok 1, .tok 43 2 (enc ((l.take i).filter fun p => liveB n w p.1))), (.tmp 14, .av (.lst 2 f (enc l))), (.tmp 15, .av (.int .i64 l.length)), (.tmp 16, .av (.int .i64 i))],
    fun i => i ≤ l.length, fun i => l.length - i⟩ (And.intro (Exists.intro [(1, none)] (Exists.intro 0 (And.intro (Nat.zero_le _) (And.intro rfl ?_)))) ?_)
  · exact And.intro rfl (And.intro rfl (And.intro rfl (And.intro id (And.intro rfl (And.intro (show ((enc l).length : Int) = (l.length : Int) by simp) (And.intro rfl trivial))))))
  refine fun (i : Nat) (hi : i ≤ l.length) => ?_
  refine And.intro (fun h => ?_) (fun h => ?_)
  · have hlt : i < l.length := by simpa using h
    have hf : ((l.take i).filter fun p => liveB n w p.1).length ≤ 100000 := Nat.le_trans (List.length_filter_le _ _) (by simp; omega)
    have hw : IntKind.i64.wrap ((i : Int) + 1) = ((i + 1 : Nat) : Int) := by rw [wrap64] <;> push_cast <;> omega
    have mu : l.length - (i + 1) < l.length - i := by omega
    refine Exists.intro none ?_
    refine Exists.intro _ (And.intro (And.intro (Int.natCast_nonneg i) (enc_get (l := l) (i := i) hlt)) ?_)
    refine Exists.intro _ (Exists.intro _ (And.intro (c64 n w l[i].1) (And.intro rfl ?_)))
    refine And.intro (fun h1 => ?_) (fun h1 => ?_)
    · refine And.intro (And.intro (by simp; omega) (by simp; omega)) ?_
      refine Exists.intro [(1, some (256 * 8 + 3))] (Exists.intro (i + 1) (And.intro hlt (And.intro mu (And.intro rfl ?_))))
      refine And.intro rfl (And.intro rfl (And.intro ?_ (And.intro id (And.intro rfl (And.intro rfl (And.intro hw trivial))))))
      rw [List.take_succ_eq_append_getElem hlt, List.filter_append]
      simp [enc, h1]
    · refine Exists.intro [] (Exists.intro (i + 1) (And.intro hlt (And.intro mu (And.intro rfl ?_))))
      refine And.intro rfl (And.intro rfl (And.intro ?_ (And.intro id (And.intro rfl (And.intro rfl (And.intro hw trivial))))))
      rw [List.take_succ_eq_append_getElem hlt, List.filter_append]
      simp [h1]
  · have hge : ¬ i < l.length := by simpa using h
    have hil : i = l.length := by omega
    refine And.intro (fun h => by cases h) (And.intro ?_ trivial)
    rw [hil, List.take_length]
    simp [liveL, hv']
end Go.Proofs.Ytfnkbbeeilpiiaa
