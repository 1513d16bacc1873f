/- Pu: chapter 25: the laws about new and valid synopses. -/
import Derived.Test.YtinffhpeahlhoaaPuNw
import Derived.Test.YtinffhpeahlhoaaPuMade
set_option linter.unusedVariables false
set_option linter.unusedSimpArgs false
set_option linter.unnecessarySimpa false
set_option linter.unusedSectionVars false
namespace Go.Win
open Go.Vc Go.Dec

theorem el_replicate {α : Type} [Inhabited α] {n : Nat} {a : α} {i : Nat} (h : i < n) : el (List.replicate n a) i = a := by
  rw [el_get (by rw [List.length_replicate]; exact h), List.getElem_replicate]

theorem wv_zero : wv ⟨0, 0⟩ = 0 := rfl

/-- An empty synopsis is valid. -/
theorem newS_ok {c : api_Config} {now : Int} (hc : cfgP c) (hn : 0 ≤ now ∧ now ≤ 16777216) : okSy (newS c now) := by
  have hc' := hc
  unfold cfgP at hc'
  refine ⟨hc, ?_, ?_⟩
  · have : c.Kind = 1 ∨ c.Kind = 2 ∨ c.Kind = 3 ∨ c.Kind = 4 ∨ c.Kind = 5 ∨ c.Kind = 6 ∨ c.Kind = 7 ∨ c.Kind = 8 ∨ c.Kind = 9 ∨ c.Kind = 10 ∨ c.Kind = 11 := by omega
    unfold rightS newS
    have no : ∀ {α : Type} {p : Nat → Prop}, ∀ i, i < ([] : List α).length → p i := fun i h => absurd h (Nat.not_lt_zero i)
    have bk0 : ∀ {k : Int}, 1 ≤ k ∧ k ≤ 128 → okBk [] k := fun h => ⟨h, no, fun h => absurd h (Nat.not_lt_zero 0)⟩
    have mk0 : ∀ {a b d e : Int}, okMarks [] 0 a b d e := ⟨by omega, no, fun h => absurd h (Nat.not_lt_zero 0)⟩
    have w0 : w64 (totS []) = 0 := rfl
    rcases this with h | h | h | h | h | h | h | h | h | h | h <;> simp only [h, Int.reduceEq, if_true, if_false, false_and, false_or, or_false, true_and, and_true]
    · rw [okV_iff]
      refine ⟨by (try dsimp only); omega, by (try dsimp only); omega, (tick_iffP _).2 hn, ?_, fun p hp => (by cases hp), List.Pairwise.nil⟩
      show (0 : Int) ≤ c.Cap
      omega
    · exact ⟨⟨by (try dsimp only); omega, by (try dsimp only); omega, hn, by (try dsimp only); omega⟩, bk0 (by (try dsimp only); omega), by (try dsimp only); rw [w0]; omega, no⟩
    · exact ⟨⟨⟨by (try dsimp only); omega, by (try dsimp only); omega, hn, by (try dsimp only); omega⟩, bk0 (by (try dsimp only); omega), by (try dsimp only); rw [w0]; omega, no⟩, by (try dsimp only); omega⟩
    · exact ⟨by (try dsimp only); omega, ⟨by (try dsimp only); omega, by (try dsimp only); omega, hn, by (try dsimp only); omega⟩, mk0, no⟩
    · exact ⟨⟨by (try dsimp only); omega, by (try dsimp only); omega, hn, by (try dsimp only); omega⟩, mk0, fun i _ h => absurd h (Nat.not_lt_zero i)⟩
    · refine ⟨⟨by (try dsimp only); omega, hn, by (try dsimp only); omega, by (try dsimp only); rw [List.length_replicate]; omega⟩, fun i h1 h2 => ?_⟩
      have h2' : (i : Int) ≤ c.P := h2
      simp only []
      rw [el_replicate (by (try dsimp only); omega), el_replicate (by (try dsimp only); omega), wv_zero]
      omega
    · refine ⟨⟨⟨by (try dsimp only); rw [List.length_replicate]; omega, hn⟩, fun i hi => ?_⟩, by (try dsimp only); rw [List.length_replicate]; omega⟩
      simp only [List.length_replicate] at hi
      simp only []
      rw [el_replicate hi]
      omega
    · exact ⟨⟨⟨by (try dsimp only); omega, by (try dsimp only); omega, hn⟩, by show (0 : Int) ≤ c.Cap; omega⟩, no⟩
    · have h0 : 0 < c.Chains.toNat := by omega
      rw [el_replicate h0, List.length_replicate]
      refine ⟨?_, by omega, rfl, rfl⟩
      unfold okSa sample_Validate
      have e : (decide (((⟨List.replicate c.Chains.toNat ⟨c.W, c.Cap, 0, 0, []⟩⟩ : api_Sample).Chains.length : Int) < 1) || decide (((⟨List.replicate c.Chains.toNat ⟨c.W, c.Cap, 0, 0, []⟩⟩ : api_Sample).Chains.length : Int) > 16)) = false := by
        simp only [List.length_replicate]; simp; omega
      rw [e, cond_false]
      unfold sample_Validate_l3
      refine (loop_prop (f := fun s : Int => sample_Validate_l3s ⟨List.replicate c.Chains.toNat ⟨c.W, c.Cap, 0, 0, []⟩⟩ s) c.Chains.toNat (fun _ => False) 2 (some 0) (fun i hi _ => ⟨fun h => h.elim, fun _ => ?_⟩) (fun _ => ?_)).2 fun _ _ h => h
      · unfold sample_Validate_l3s
        have ec : chain_Validate ⟨c.W, c.Cap, 0, 0, []⟩ = some 0 := by
          unfold chain_Validate
          have : (((((((decide (c.W < (1:Int))) || (decide (c.W > (1048576:Int)))) || (decide (c.Cap < (1:Int)))) || (decide (c.Cap > (64:Int)))) || (decide ((0 : Int) < (0:Int)))) || (decide ((0 : Int) > (1099511627776:Int)))) || (decide ((([] : List api_Link).length : Int) > c.Cap))) = false := by
            rw [Bool.eq_false_iff]; simp only [Bool.or_eq_true, decide_eq_true_eq, Ne, List.length_nil]; omega
          simp only [this, cond_false]
          rfl
        have h16 : c.Chains.toNat ≤ 16 := by omega
        have es : w64 ((i : Int) + 1) = ((i + 1 : Nat) : Int) := by rw [w64_id] <;> omega
        have e1 : idx (List.replicate c.Chains.toNat (⟨c.W, c.Cap, 0, 0, []⟩ : api_Chain)) (i : Int) = some ⟨c.W, c.Cap, 0, 0, []⟩ := by rw [el_idx (by rw [List.length_replicate]; exact hi), el_replicate hi]
        have e0 : idx (List.replicate c.Chains.toNat (⟨c.W, c.Cap, 0, 0, []⟩ : api_Chain)) (0 : Int) = some ⟨c.W, c.Cap, 0, 0, []⟩ := by rw [el_idx0 (by rw [List.length_replicate]; exact h0), el_replicate h0]
        have e2 : decide ((i : Int) < ((List.replicate c.Chains.toNat (⟨c.W, c.Cap, 0, 0, []⟩ : api_Chain)).length : Int)) = true := decide_eq_true (by rw [List.length_replicate]; omega)
        simp only [e2, cond_true, e0, e1, Option.bind_some, ec, bne_self_eq_false, Bool.or_false, cond_false, es]
      · unfold sample_Validate_l3s
        have e2 : decide ((c.Chains.toNat : Int) < ((List.replicate c.Chains.toNat (⟨c.W, c.Cap, 0, 0, []⟩ : api_Chain)).length : Int)) = false := decide_eq_false (by rw [List.length_replicate]; omega)
        simp only [e2, cond_false]
    · exact ⟨⟨by (try dsimp only); omega, by (try dsimp only); omega, by show (0:Int) ≤ 0 ∧ (0:Int) ≤ 1099511627776; omega, by show (0 : Int) ≤ c.Cap; omega⟩, ⟨fun _ => rfl, fun _ => rfl⟩, no, fun h => absurd h (Nat.not_lt_zero 0)⟩
    · refine ⟨⟨by (try dsimp only); omega, by (try dsimp only); omega, hn, by (try dsimp only); omega⟩, fun b hb => ?_, by show w64 (totS []) ≤ c.Cap; rw [w0]; omega, no⟩
      obtain ⟨b', _, b2, b3⟩ := size_eq (k := c.K) (c := c.Cap) (by (try dsimp only); omega) (by (try dsimp only); omega)
      have hb' : ref23_Size c.K c.Cap = some b := hb
      rw [b2] at hb'
      cases hb'
      exact ⟨b3, bk0 (by (try dsimp only); omega), no⟩
  · unfold othersP newS
    refine ⟨?_, ?_, ?_, ?_, ?_, ?_, ?_, ?_, ?_, ?_, ?_⟩
    all_goals
      intro h
      simp only [] at h
      rw [if_neg h]
    · exact ⟨rfl, rfl, rfl, rfl⟩
    · exact ⟨rfl, rfl, rfl, rfl, rfl⟩
    · exact ⟨rfl, rfl, rfl, rfl, rfl, rfl⟩
    · exact ⟨rfl, rfl, rfl, rfl, rfl, rfl, rfl⟩
    · exact ⟨rfl, rfl, rfl, rfl, rfl, rfl⟩
    · exact ⟨rfl, rfl, rfl, rfl⟩
    · exact ⟨rfl, rfl⟩
    · exact ⟨rfl, rfl, rfl, rfl, rfl⟩
    · exact rfl
    · exact ⟨rfl, rfl, rfl, rfl⟩
    · exact ⟨rfl, rfl, rfl, rfl, rfl⟩

end Go.Win

