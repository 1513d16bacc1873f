/- Pu: chapter 30: the script of commands; the statement ScriptJoins. -/
import Derived.Test.YtmipeaidieflmaaPuScr
import Derived.Test.YtmipeaidieflmaaPuDec2
set_option linter.unusedVariables false
set_option linter.unusedSimpArgs false
set_option linter.unnecessarySimpa false
set_option linter.unusedSectionVars false
namespace Go.Win
open Go.Vc Go.Dec

/-- A reader reads these numbers as this value. -/
def Rds {α : Type} (P : Rd α) (ns : List Int) (a : α) : Prop := ∀ rest, P (ns ++ rest) = some (a, rest)

theorem Rds.pure {α : Type} (a : α) : Rds (rpure a) [] a := fun _ => rfl
theorem Rds.bind {α β : Type} {P : Rd α} {f : α → Rd β} {ns ms : List Int} {a : α} {b : β} (h : Rds P ns a) (h' : Rds (f a) ms b) : Rds (rbind P f) (ns ++ ms) b := by
  intro rest
  unfold rbind
  rw [List.append_assoc, h, Option.bind_some]
  exact h' rest
theorem Rds.int (n : Int) : Rds takeInt [n] n := fun _ => rfl

theorem rmany_bytes : ∀ (l rest : List Int), byt l → rmany byteP l.length (l ++ rest) = some (l, rest)
  | [], _, _ => rfl
  | x :: l, rest, h => by
    have hx := h x (by simp)
    show ((byteP (x :: (l ++ rest))).bind fun q => (rmany byteP l.length q.2).bind fun q' => rpure (q.1 :: q'.1) q'.2) = _
    rw [byteP_cons, if_neg (by omega), Option.bind_some]
    simp only []
    rw [rmany_bytes l rest fun y hy => h y (by simp [hy]), Option.bind_some]
    rfl

theorem many_read (n : Nat) (l : List Int) (h : n ≤ l.length) : manyP ((n : Int) :: l) = some ((n : Int), l) := by
  show (if (n : Int) < 0 ∨ (l.length : Int) < (n : Int) then none else some ((n : Int), l)) = _
  rw [if_neg (by omega)]

theorem Rds.list (l : List Int) : Rds (rlist takeInt takeInt) ((l.length : Int) :: l) l := by
  intro rest
  rw [rlist_eq, List.cons_append, many_read _ _ (by rw [List.length_append]; omega), Option.bind_some, Int.toNat_natCast, many_take, if_pos (by rw [List.length_append]; omega), List.take_left, List.drop_left]
theorem Rds.bytes (l : List Int) (h : byt l) : Rds (rlist takeInt byteP) ((l.length : Int) :: l) l := by
  intro rest
  rw [rlist_eq, List.cons_append, many_read _ _ (by rw [List.length_append]; omega), Option.bind_some, Int.toNat_natCast]
  exact rmany_bytes l rest h

theorem Rds.config (c : api_Config) : Rds cfgP (cfgN c) c :=
  Rds.bind (Rds.int c.Kind) (Rds.bind (Rds.int c.Agg) (Rds.bind (Rds.int c.W) (Rds.bind (Rds.int c.K) (Rds.bind (Rds.int c.Cap) (Rds.bind (Rds.int c.P) (Rds.bind (Rds.int c.Chains) (Rds.bind (Rds.int c.Max) (Rds.pure c))))))))

theorem same_numbers (l : List Int) (hl : l.length ≤ 1099511627776) : ref09_SameNumbers l l = some true := by
  unfold ref09_SameNumbers ref09_SameNumbers_l3
  rw [bne_self_eq_false, cond_false]
  have hany : (List.range l.length).any (fun _ => false) = false := by rw [List.any_eq_false]; simp
  have hL : loop (fun s : Int => ref09_SameNumbers_l3s l l s) 0 = cond ((List.range l.length).any fun _ => false) (some false) (some true) := by
    refine loop_all (fun j hj => ?_) ?_
    · unfold ref09_SameNumbers_l3s
      rw [decide_eq_true (by omega), cond_true, idx_get hj, Option.bind_some, Option.bind_some, bne_self_eq_false, cond_false, w64_id (by omega) (by omega)]
      rfl
    · unfold ref09_SameNumbers_l3s
      rw [decide_eq_false (by omega), cond_false]
  rw [hL, hany]
  rfl

end Go.Win

