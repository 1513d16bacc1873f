/- Pu: chapter 25: empty synopses, numbers of records. -/
import Derived.Test.YtinffhpeahlhoaaGreatPuSy
set_option linter.unusedVariables false
set_option linter.unusedSimpArgs false
set_option linter.unnecessarySimpa false
set_option linter.unusedSectionVars false
namespace Go.Win
open Go.Vc Go.Dec

/-- No list is longer than any machine holds. -/
def lenS (s : api_Synopsis) : Prop := s.Recent.Items.length ≤ maxLen ∧ s.Count.Buckets.length ≤ maxLen ∧ s.Sum.Buckets.length ≤ maxLen ∧ s.Smooth.Marks.length ≤ maxLen ∧ s.Spread.Marks.length ≤ maxLen ∧ s.Poly.Moments.length ≤ maxLen ∧ s.Halve.Sums.length ≤ maxLen ∧ s.Extreme.Items.length ≤ maxLen ∧
  (s.Sample.Chains.length ≤ maxLen ∧ ∀ c ∈ s.Sample.Chains, c.Links.length ≤ maxLen) ∧ s.Summary.Tuples.length ≤ maxLen ∧ (s.Quantile.Blocks.length ≤ maxLen ∧ ∀ b ∈ s.Quantile.Blocks, b.Ranks.Entries.length ≤ maxLen)

theorem same25_refl (s : api_Synopsis) (h : lenS s) : ref25_Same s s = some true := by
  obtain ⟨h1, h2, h3, h4, h5, h6, h7, h8, h9, h10, h11⟩ := h
  unfold ref25_Same
  rw [same9_refl _ h1, same11_refl _ h2, same12_refl _ h3, same13_refl _ h4, same14_refl _ h5, same15_refl _ h6, same16_refl _ h7, same17_refl _ h8, same19_refl _ h9.1 h9.2, same20_refl _ h10, same23_refl _ h11.1 h11.2]
  simp

theorem lenS_of (s : api_Synopsis) (w : wfU_api_Synopsis s) : lenS s := by
  obtain ⟨_, w1, w2, w3, w4, w5, w6, w7, w8, w9, w10, w11⟩ := w
  exact ⟨len_max w1.2.2.2.1, len_max w2.2.2.2.2.1, len_max w3.2.2.2.2.2.1, len_max w4.2.2.2.2.2.2.1, len_max w5.2.2.2.2.2.1, len_max w6.2.2.2.1, len_max w7.2.1, len_max w8.2.2.2.2.1,
    ⟨len_max w9.1, fun c hc => len_max (w9.2 c hc).2.2.2.2.1⟩, len_max w10.2.2.2.1, ⟨len_max w11.2.2.2.2.1, fun b hb => len_max (w11.2.2.2.2.2 b hb).2.2.2.2.1⟩⟩

end Go.Win

