/- Pu: chapter 18: each of the last W items is the sample for the same part of all draws (twelve cases, computed). -/
import Derived.Test.YtfnkbbeeilpiiaaPuFuel
namespace Go.Win
open Go.Vc Go.Dec

theorem uni (y1 y2 : Int) (c : api_Chain) (h : law18_ChainUniform_l3F y1 y2 [⟨c, 1⟩] 1 0 = some true) : law18_ChainUniform_l3 y1 y2 [⟨c, 1⟩] 1 0 = some true :=
  law18_ChainUniform_l3F_le y1 y2 [⟨c, 1⟩] 1 0 _ h

theorem uni1 (y2 : Int) (h : y2 = 0 ∨ y2 = 1 ∨ y2 = 2 ∨ y2 = 3) : law18_ChainUniform_l3 0 y2 [⟨⟨1, 64, 0, 0, []⟩, 1⟩] 1 0 = some true := by
  refine uni _ _ _ ?_
  rcases h with rfl | rfl | rfl | rfl <;> decide +kernel

theorem uni2 (y2 : Int) (h : y2 = 0 ∨ y2 = 1 ∨ y2 = 2 ∨ y2 = 3) : law18_ChainUniform_l3 1 y2 [⟨⟨2, 64, 0, 0, []⟩, 1⟩] 1 0 = some true := by
  refine uni _ _ _ ?_
  rcases h with rfl | rfl | rfl | rfl <;> decide +kernel

theorem uni3 (y2 : Int) (h : y2 = 0 ∨ y2 = 1 ∨ y2 = 2 ∨ y2 = 3) : law18_ChainUniform_l3 2 y2 [⟨⟨3, 64, 0, 0, []⟩, 1⟩] 1 0 = some true := by
  refine uni _ _ _ ?_
  rcases h with rfl | rfl | rfl | rfl <;> decide +kernel

theorem law18_ChainUniform_true (p0 p1 : Int) (_ : wfI .i64 p0) (_ : wfI .i64 p1) : law18_ChainUniform p0 p1 = some true := by
  unfold law18_ChainUniform
  obtain ⟨y, hy, hy0, hy1⟩ := mod_ok p0 (n := 3) (by decide) (by decide)
  obtain ⟨z, hz, hz0, hz1⟩ := mod_ok p1 (n := 4) (by decide) (by decide)
  rw [hy, hz]
  simp only [Option.bind_some]
  have hwy : w64 (1 + y) = 1 + y := by rw [w64_id] <;> omega
  have hC : chain_New (1 + y) 64 = (⟨1 + y, 64, 0, 0, []⟩, 0) := by
    unfold chain_New
    have c : ((((decide (1 + y < (1:Int))) || (decide (1 + y > (1048576:Int)))) || (decide ((64:Int) < (1:Int)))) || (decide ((64:Int) > (64:Int)))) = false := by
      simp only [Bool.or_eq_false_iff, decide_eq_false_iff_not]; omega
    rw [c, cond_false]
  rw [hwy, hC]
  simp only [bne_self_eq_false, cond_false]
  have h3 : y = 0 ∨ y = 1 ∨ y = 2 := by omega
  have h4 : z = 0 ∨ z = 1 ∨ z = 2 ∨ z = 3 := by omega
  rcases h3 with rfl | rfl | rfl
  · exact uni1 z h4
  · exact uni2 z h4
  · exact uni3 z h4

end Go.Win
