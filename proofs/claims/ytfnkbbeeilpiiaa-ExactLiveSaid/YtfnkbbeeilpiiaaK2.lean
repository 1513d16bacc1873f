import Derived.Test.YtfnkbbeeilpiiaaK1
namespace Go.Proofs.Ytfnkbbeeilpiiaa
open Go.Vc

theorem wrap64 {n : Int} (h1 : -9223372036854775808 ≤ n) (h2 : n ≤ 9223372036854775807) : IntKind.i64.wrap n = n := by
  rw [IntKind.wrap_i64]; omega

def firstV (n w : Int) : Int := if tickB n && windowB w then max 0 (n - w + 1) else -1

theorem c76 (n w : Int) : Contract Try.prog 76 [.int .i64 n, .int .i64 w] [] (.int .i64 (firstV n w)) [] := by
  refine contract_of_vc tab_ok orders_ok Try.func76 Try.call76 (by kernel_rfl) 0 rfl rfl _ rfl ?_
  refine Exists.intro _ (Exists.intro _ (And.intro (c75 n) (And.intro rfl ?_)))
  repeat' (first | refine And.intro (fun _ => ?_) (fun _ => ?_) | refine And.intro ?_ trivial)
  · simp_all [firstV, windowB]; intros; omega
  · simp_all [firstV, windowB, tickB, IntKind.wrap_i64]; omega
  · simp_all [firstV, windowB]; intros; omega
  · simp_all [firstV]

def liveB (n w t : Int) : Bool := decide (firstV n w ≥ 0) && (tickB t && (decide (firstV n w ≤ t) && decide (t ≤ n)))

theorem c64 (n w t : Int) : Contract Try.prog 64 [.int .i64 n, .int .i64 w, .int .i64 t] [] (.sb (liveB n w t)) [] := by
  refine contract_of_vc tab_ok orders_ok Try.func64 Try.call64 (by kernel_rfl) 0 rfl rfl _ rfl ?_
  refine Exists.intro _ (Exists.intro _ (And.intro (c76 n w) (And.intro rfl ?_)))
  repeat' (first | refine And.intro (fun _ => ?_) (fun _ => ?_) | refine Exists.intro _ (Exists.intro _ (And.intro (c75 t) (And.intro rfl ?_))) | refine And.intro ?_ trivial)
  all_goals (simp_all [liveB] <;> intros <;> omega)

def enc (l : List (Int × Int)) : List (List AV) := l.map fun p => [.int .i64 p.1, .int .i64 p.2]

@[simp] theorem enc_length (l : List (Int × Int)) : (enc l).length = l.length := by simp [enc]

theorem enc_get {l : List (Int × Int)} {i : Nat} (h : i < l.length) : (enc l)[i]? = some [.int .i64 l[i].1, .int .i64 l[i].2] := by simp [enc, h]

theorem c33 (f g : Bool) (l m : List (Int × Int)) : Contract Try.prog 33 [.lst 2 f (enc l), .lst 2 g (enc m)] [] (.sb (decide (l = m))) [] := by
  refine contract_of_vcL tab_ok orders_ok Try.func33 Try.call33 (by kernel_rfl) 0 rfl rfl _ rfl ?_
  rintro ⟨hl, _⟩
  replace hl : l.length ≤ 9223372036854775807 := by simpa [len1, len0, maxLen] using hl
  refine And.intro (fun h => And.intro ?_ trivial) (fun h => ?_)
  · have hne : l ≠ m := by rintro rfl; simp at h
    simp [hne]
  have hlen : l.length = m.length := by simp at h; omega
  refine Exists.intro ⟨Nat, fun i => [(.tmp 0, .av (.lst 2 f (enc l))), (.tmp 1, .av (.lst 2 g (enc m))), (.tmp 12, .av (.int .i64 l.length)), (.tmp 13, .av (.int .i64 i))],
    fun i => i ≤ l.length ∧ ∀ j, j < i → l[j]? = m[j]?, fun i => l.length - i⟩ (And.intro (Exists.intro [] (Exists.intro 0 (And.intro ⟨by omega, by simp⟩ (And.intro rfl ?_)))) ?_)
  · exact And.intro id (And.intro rfl (And.intro id (And.intro rfl (And.intro (show ((enc l).length : Int) = (l.length : Int) by simp) (And.intro rfl trivial)))))
  refine fun (i : Nat) (hij : i ≤ l.length ∧ ∀ j, j < i → l[j]? = m[j]?) => ?_
  obtain ⟨hi, hj⟩ := hij
  refine And.intro (fun h => ?_) (fun h => ?_)
  · have hlt : i < l.length := by simpa using h
    refine Exists.intro _ (And.intro (And.intro (by omega) (enc_get (l := l) (i := i) hlt)) ?_)
    refine Exists.intro _ (And.intro (And.intro (by omega) (enc_get (l := m) (i := i) (by omega))) ?_)
    refine And.intro (fun h => And.intro ?_ trivial) (fun h => ?_)
    · have hne : l ≠ m := by rintro rfl; simp at h
      simp [hne]
    · refine Exists.intro [] (Exists.intro (i + 1) (And.intro ⟨by omega, fun j hj' => ?_⟩ (And.intro (by show l.length - (i + 1) < l.length - i; omega) (And.intro rfl ?_))))
      · by_cases hji : j = i
        · subst hji
          rw [List.getElem?_eq_getElem hlt, List.getElem?_eq_getElem (by omega)]
          simp at h
          exact congrArg some (Prod.ext h.1 h.2)
        · exact hj j (by omega)
      · exact And.intro id (And.intro rfl (And.intro id (And.intro rfl (And.intro rfl (And.intro (by rw [wrap64] <;> push_cast <;> omega) trivial)))))
  · have hge : ¬ i < l.length := by simpa using h
    refine And.intro ?_ trivial
    have : l = m := List.ext_getElem? (fun j => by
      by_cases hj' : j < i
      · exact hj j hj'
      · rw [List.getElem?_eq_none (by omega), List.getElem?_eq_none (by omega)])
    simp [this]
end Go.Proofs.Ytfnkbbeeilpiiaa
