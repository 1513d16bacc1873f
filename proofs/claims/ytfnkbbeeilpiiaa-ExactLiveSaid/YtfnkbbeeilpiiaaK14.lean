import Derived.Test.YtfnkbbeeilpiiaaK13
namespace Go.Proofs.Ytfnkbbeeilpiiaa
open Go.Vc

theorem c37 (f : Bool) (l : List (Int × Int)) (n w : Int) (h300 : l.length ≤ 100000) : Contract Try.prog 37 [.lst 2 f (enc l), .int .i64 n, .int .i64 w] [] (.lst 2 false (enc (liveL l n w))) [] := by
  refine contract_of_vc tab_ok orders_ok Try.func37 Try.call37 (by kernel_rfl) 0 rfl rfl _ rfl ?_
  refine Exists.intro _ (Exists.intro _ (And.intro (c35 f l n) (And.intro rfl ?_)))
  refine And.intro (fun hv => ?_) (fun h => And.intro (by simp at h; simp [liveL, h, enc]) trivial)
  have hv' : validB l n = true := by simpa using hv
  refine Exists.intro _ (Exists.intro _ (And.intro (c69 w) (And.intro rfl ?_)))
  refine And.intro (fun h => And.intro ?_ trivial) (fun hw0 => ?_)
  · have hf : (l.filter fun p => liveB n w p.1) = [] := List.filter_eq_nil_iff.2 fun p _ => by
      simp at h
      simp [liveB, firstV, h]
    simp [liveL, hv', hf, enc]
  refine Exists.intro ⟨Nat, fun i => [(.tmp 1, .av (.int .i64 n)), (.tmp 2, .av (.int .i64 w)), (.tmp 7, .av (.own 1)), (.tok 1, .tok 43 2 (enc ((l.take i).filter fun p => liveB n w p.1))), (.tmp 19, .av (.lst 2 f (enc l))), (.tmp 20, .av (.int .i64 l.length)), (.tmp 21, .av (.int .i64 i))],
    fun i => i ≤ l.length, fun i => l.length - i⟩ (And.intro (Exists.intro [(1, none)] (Exists.intro 0 (And.intro (Nat.zero_le _) (And.intro rfl ?_)))) ?_)
  · exact And.intro rfl (And.intro rfl (And.intro rfl (And.intro id (And.intro rfl (And.intro (show ((enc l).length : Int) = (l.length : Int) by simp) (And.intro rfl trivial))))))
  refine fun (i : Nat) (hi : i ≤ l.length) => ?_
  refine And.intro (fun h => ?_) (fun h => ?_)
  · have hlt : i < l.length := by simpa using h
    have hf : ((l.take i).filter fun p => liveB n w p.1).length ≤ 100000 := Nat.le_trans (List.length_filter_le _ _) (by simp; omega)
    have hw : IntKind.i64.wrap ((i : Int) + 1) = ((i + 1 : Nat) : Int) := by rw [wrap64] <;> push_cast <;> omega
    have mu : l.length - (i + 1) < l.length - i := by omega
    refine Exists.intro none ?_
    refine Exists.intro _ (And.intro (And.intro (Int.natCast_nonneg i) (enc_get (l := l) (i := i) hlt)) ?_)
    refine Exists.intro _ (Exists.intro _ (And.intro (c65 n w l[i].1) (And.intro rfl ?_)))
    refine And.intro (fun h1 => ?_) (fun h1 => ?_)
    · refine And.intro (And.intro (by simp; omega) (by simp; omega)) ?_
      refine Exists.intro [(1, some (256 * 8 + 3))] (Exists.intro (i + 1) (And.intro hlt (And.intro mu (And.intro rfl ?_))))
      refine And.intro rfl (And.intro rfl (And.intro ?_ (And.intro id (And.intro rfl (And.intro rfl (And.intro hw trivial))))))
      rw [List.take_succ_eq_append_getElem hlt, List.filter_append]
      simp [enc, h1]
    · refine Exists.intro [] (Exists.intro (i + 1) (And.intro hlt (And.intro mu (And.intro rfl ?_))))
      refine And.intro rfl (And.intro rfl (And.intro ?_ (And.intro id (And.intro rfl (And.intro rfl (And.intro hw trivial))))))
      rw [List.take_succ_eq_append_getElem hlt, List.filter_append]
      simp [h1]
  · have hge : ¬ i < l.length := by simpa using h
    have hil : i = l.length := by omega
    refine And.intro (fun h => by cases h) (And.intro ?_ trivial)
    rw [hil, List.take_length]
    simp [liveL, hv']

theorem c7 (f : Bool) (l : List (Int × Int)) (n w : Int) : Contract Try.prog 7 [.lst 2 f (enc l), .int .i64 n, .int .i64 w] [] (.sb true) [] := by
  refine contract_of_vc tab_ok orders_ok Try.func7 Try.call7 (by kernel_rfl) 0 rfl rfl _ rfl ?_
  refine And.intro (fun h => Exists.intro _ (Exists.intro _ (And.intro c18 (And.intro rfl (And.intro rfl trivial))))) (fun h => ?_)
  have h300 : l.length ≤ 100000 := by simp at h; omega
  refine Exists.intro _ (Exists.intro _ (And.intro (c34 f l n) (And.intro rfl ?_)))
  refine Exists.intro _ (Exists.intro _ (And.intro (c35 f l n) (And.intro rfl ?_)))
  refine And.intro (fun h1 => ?_) (fun h1 => absurd h1 (by simp))
  refine Exists.intro _ (Exists.intro _ (And.intro (c36 f l n w h300) (And.intro rfl ?_)))
  refine Exists.intro _ (Exists.intro _ (And.intro (c37 f l n w h300) (And.intro rfl ?_)))
  refine Exists.intro _ (Exists.intro _ (And.intro (c33 false false (liveL l n w) (liveL l n w)) (And.intro rfl ?_)))
  refine And.intro (fun h1 => ?_) (fun h1 => absurd h1 (by simp))
  exact Exists.intro _ (Exists.intro _ (And.intro c18 (And.intro rfl (And.intro rfl trivial))))
end Go.Proofs.Ytfnkbbeeilpiiaa
