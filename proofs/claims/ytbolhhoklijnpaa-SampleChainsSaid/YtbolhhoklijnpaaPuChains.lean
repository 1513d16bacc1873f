/- Pu: chapter 19: the chains of a sample are independent. -/
import Derived.Test.YtbolhhoklijnpaaPuLive
import Derived.Test.YtbolhhoklijnpaaPu19
namespace Go.Win
open Go.Vc Go.Dec

/-- One item for all chains: one after the other, each with its own draws. -/
def treeS (v : Int) : List api_Chain → DT (Option (List api_Chain))
  | [] => .done (some [])
  | c :: cs => bindT (treeC c v) fun o => match o with
    | none => .done none
    | some c' => bindT (treeS v cs) fun o2 => .done (o2.map (c' :: ·))

def okC (W : Int) (i : Nat) (c : api_Chain) : Prop := VC c ∧ c.W = W ∧ c.Cap = 64 ∧ c.I = (i : Int)

theorem okC_len {W : Int} {i : Nat} {c : api_Chain} (h : okC W i c) : c.Links.length ≤ maxLen := by
  have := h.1.1
  unfold rngC at this
  rw [maxLen_eq]; omega

theorem asks_bind {R S : Type} (b : Int) (f : R → DT S) (hf : ∀ r, asksLe b (f r)) : ∀ (t : DT R), asksLe b t → asksLe b (bindT t f)
  | .done r, _ => hf r
  | .ask _ k, h => ⟨h.1, fun d => asks_bind b f hf (k d) (h.2 d)⟩

theorem all_bind {R S : Type} {P : R → Prop} {Q : S → Prop} (f : R → DT S) (hf : ∀ r, P r → allT Q (f r)) : ∀ (t : DT R), allT P t → allT Q (bindT t f)
  | .done r, h => hf r h
  | .ask _ k, h => fun d h0 h1 => all_bind f hf (k d) (h d h0 h1)

theorem fits_treeS (W : Int) (i : Nat) (v : Int) : ∀ cs : List api_Chain, (∀ c ∈ cs, okC W i c) → fits (2 * cs.length) (treeS v cs)
  | [], _ => trivial
  | c :: cs, h => by
    have hc := h c (by simp)
    have r := hc.1.1
    unfold rngC at r
    rw [show 2 * (c :: cs).length = 2 + (2 * cs.length + 0) by simp; omega]
    refine fits_bind _ _ ?_ 2 _ (fits_tree c (by omega) (by omega) v)
    intro o
    cases o with
    | none => cases (2 * cs.length + 0) <;> trivial
    | some c' => exact fits_bind (fun o2 => .done (o2.map (c' :: ·))) 0 (fun _ => trivial) _ _ (fits_treeS W i v cs fun d hd => h d (by simp [hd]))

theorem asks_treeS (W : Int) (i : Nat) (v : Int) : ∀ cs : List api_Chain, (∀ c ∈ cs, okC W i c) → asksLe 1099511627776 (treeS v cs)
  | [], _ => trivial
  | c :: cs, h => by
    have hc := h c (by simp)
    have r := hc.1.1
    unfold rngC at r
    refine asks_bind _ _ ?_ _ (asks_tree c v (by omega))
    intro o
    cases o with
    | none => trivial
    | some c' => exact asks_bind _ (fun o2 => .done (o2.map (c' :: ·))) (fun _ => trivial) _ (asks_treeS W i v cs fun d hd => h d (by simp [hd]))

theorem all_treeS (W : Int) (i : Nat) (v : Int) (hi : i < 1000) (hv : -4096 ≤ v ∧ v ≤ 4096) : ∀ cs : List api_Chain, (∀ c ∈ cs, okC W i c) →
    allT (fun o => ∀ cs', o = some cs' → cs'.length = cs.length ∧ ∀ c ∈ cs', okC W (i + 1) c) (treeS v cs)
  | [], _ => by intro cs' h; cases h; simp
  | c :: cs, h => by
    have hc := h c (by simp)
    refine all_bind _ ?_ _ (tree_valid c v hc.1 hv (by have := hc.2.2.2; omega))
    intro o ho
    cases o with
    | none => intro cs' h; cases h
    | some c' =>
      refine all_bind (P := fun o => ∀ cs', o = some cs' → cs'.length = cs.length ∧ ∀ c ∈ cs', okC W (i + 1) c) _ ?_ _ (all_treeS W i v hi hv cs fun d hd => h d (by simp [hd]))
      intro o2 h2 cs' h3
      cases o2 with
      | none => cases h3
      | some cs2 =>
        cases h3
        have h4 := h2 cs2 rfl
        obtain ⟨n1, n2, n3, n4, _⟩ := ho c' rfl
        refine ⟨by simp [h4.1], fun d hd => ?_⟩
        rcases List.mem_cons.1 hd with rfl | hd
        · exact ⟨n1, by rw [n3, hc.2.1], by rw [n4, hc.2.2.1], by rw [n2, hc.2.2.2]; simp⟩
        · exact h4.2 d hd

theorem run_cons (v : Int) (c : api_Chain) (cs : List api_Chain) (ds : List Int) (a : Nat) :
    run (treeS v (c :: cs)) ds a = bindR (run (treeC c v) ds a) fun o a' => match o with
      | none => .ok none a'
      | some c' => bindR (run (treeS v cs) ds a') fun o2 a2 => .ok (o2.map (c' :: ·)) a2 := by
  show run (bindT _ _) ds a = _
  rw [run_bind]
  congr 1
  funext o a'
  cases o with
  | none => rfl
  | some c' =>
    show run (bindT _ _) ds a' = _
    rw [run_bind]
    rfl

theorem valid19 (W : Int) (i : Nat) (S : List api_Chain) (h : ∀ c ∈ S, okC W i c) (h1 : 1 ≤ S.length) (h2 : S.length ≤ 16) : sample_Validate ⟨S⟩ = some 0 := by
  unfold sample_Validate
  have c0 : (decide ((S.length : Int) < 1) || decide ((S.length : Int) > 16)) = false := by
    simp only [Bool.or_eq_false_iff, decide_eq_false_iff_not]; omega
  simp only [c0, cond_false]
  unfold sample_Validate_l3
  have := loop_all (f := fun s : Int => sample_Validate_l3s ⟨S⟩ s) (n := S.length) (bad := fun _ => false) (E := 2) (A := some 0) (fun k hk => ?_) ?_
  · rw [this, show (List.range S.length).any (fun _ => false) = false by simp]
    rfl
  · unfold sample_Validate_l3s
    have hc := h S[k] (List.getElem_mem hk)
    have h0 := h (S[0]'(by omega)) (List.getElem_mem (by omega))
    have i0 : idx S (0 : Int) = some (S[0]'(by omega)) := by
      have := get_some (show 0 < S.length by omega)
      simp [idx, this]
    have e : ((((0:Int) != (0:Int)) || (S[k].W != (S[0]'(by omega)).W)) || (S[k].Cap != (S[0]'(by omega)).Cap) || (S[k].I != (S[0]'(by omega)).I)) = false := by
      simp only [Bool.or_eq_false_iff, bne_eq_false_iff_eq]
      exact ⟨⟨⟨trivial, by rw [hc.2.1, h0.2.1]⟩, by rw [hc.2.2.1, h0.2.2.1]⟩, by rw [hc.2.2.2, h0.2.2.2]⟩
    have sk := succ_nat hk (show S.length ≤ maxLen by rw [maxLen_eq]; omega)
    simp only [Int.ofNat_lt, hk, decide_true, cond_true, idx_nat, get_some hk, Option.bind_some, i0, vc_valid _ hc.1, e, cond_false, sk]
  · unfold sample_Validate_l3s
    simp only [Int.lt_irrefl, decide_false, cond_false]
    first | done | rfl

theorem needs_loop (W : Int) (i : Nat) (v : Int) (ds : List Int) (hi : i < 1000) (hv : -4096 ≤ v ∧ v ≤ 4096) (hd : ds.length ≤ maxLen) (S : List api_Chain) (h : ∀ c ∈ S, okC W i c) (hS : S.length ≤ 16) :
    ∀ (cs pre : List api_Chain) (a : Nat), S = pre ++ cs → sample_Needs_l3 ⟨S⟩ v ds (a : Int) (pre.length : Int) = some (outN (run (treeS v cs) ds a))
  | [], pre, a, e => by
    unfold sample_Needs_l3
    rw [List.append_nil] at e
    rw [loop_inr (r := (0, false))]
    · rfl
    · unfold sample_Needs_l3s
      have : ¬ ((pre.length : Int) < (S.length : Int)) := by rw [e]; omega
      simp only [this, decide_false, cond_false]
      rfl
  | c :: cs, pre, a, e => by
    have ih := fun a' => needs_loop W i v ds hi hv hd S h hS cs (pre ++ [c]) a' (by rw [e]; simp)
    have hc := h c (by rw [e]; simp)
    have hlt : pre.length < S.length := by rw [e]; simp
    have hg : S[pre.length]? = some c := by rw [e]; simp
    have sk := succ_nat hlt (show S.length ≤ maxLen by rw [maxLen_eq]; omega)
    have hcI : c.I < 1099511627776 := by have := hc.2.2.2; omega
    have nr := needs_run c v ds a hc.1 hv hcI hd
    have ar := add_run c v ds a hc.1 hv hcI hd
    rw [run_cons]
    unfold sample_Needs_l3 at ih ⊢
    have lt : decide ((pre.length : Int) < (S.length : Int)) = true := by rw [decide_eq_true_eq]; omega
    cases hr : run (treeC c v) ds a with
    | need m a' =>
      rw [hr] at nr
      rw [loop_inr (r := (m, true))]
      · rfl
      · simp only [sample_Needs_l3s, lt, cond_true, idx_nat, hg, Option.bind_some, nr, outN]
    | bad m a' =>
      rw [hr] at nr ar
      rw [loop_inr (r := (0, false))]
      · rfl
      · simp only [sample_Needs_l3s, lt, cond_true, idx_nat, hg, Option.bind_some, nr, ar, outN, outA, cond_false]
        rfl
    | ok o a' =>
      rw [hr] at nr ar
      cases o with
      | none =>
        rw [loop_inr (r := (0, false))]
        · rfl
        · simp only [sample_Needs_l3s, lt, cond_true, idx_nat, hg, Option.bind_some, nr, ar, outN, outA, cond_false]
          rfl
      | some c' =>
        rw [loop_inl (s' := ((a' : Int), ((pre ++ [c]).length : Int)))]
        · rw [ih a']
          simp only [bindR]
          cases run (treeS v cs) ds a' <;> rfl
        · simp only [sample_Needs_l3s, lt, cond_true, idx_nat, hg, Option.bind_some, nr, ar, outN, outA, cond_false, bne_self_eq_false, sk]
          simp

def outSm (n : Nat) (acc : List api_Chain) : RR (Option (List api_Chain)) → api_Sample × Int
  | .ok (some cs) a => if a < n then (⟨[]⟩, 8) else (⟨acc ++ cs⟩, 0)
  | .ok none _ => (⟨[]⟩, 9)
  | .need _ _ => (⟨[]⟩, 8)
  | .bad _ _ => (⟨[]⟩, 8)

theorem add_loop (W : Int) (i : Nat) (v : Int) (ds : List Int) (hi : i < 1000) (hv : -4096 ≤ v ∧ v ≤ 4096) (hd : ds.length ≤ maxLen) (S : List api_Chain) (h : ∀ c ∈ S, okC W i c) (hS : S.length ≤ 16) :
    ∀ (cs pre acc : List api_Chain) (a : Nat), S = pre ++ cs → acc.length = pre.length → sample_Add_l3 ⟨S⟩ v ds (a : Int) (pre.length : Int) acc = some (outSm ds.length acc (run (treeS v cs) ds a))
  | [], pre, acc, a, e, _ => by
    unfold sample_Add_l3
    rw [List.append_nil] at e
    have : ¬ ((pre.length : Int) < (S.length : Int)) := by rw [e]; omega
    by_cases hc : a < ds.length
    · rw [loop_inr (r := (⟨[]⟩, 8))]
      · show _ = some (if a < ds.length then ((⟨[]⟩ : api_Sample), (8:Int)) else (⟨acc ++ []⟩, 0))
        rw [if_pos hc]
      · simp only [sample_Add_l3s, this, decide_false, cond_false, Int.ofNat_lt, hc, decide_true, cond_true]
        rfl
    · rw [loop_inr (r := (⟨acc⟩, 0))]
      · show _ = some (if a < ds.length then ((⟨[]⟩ : api_Sample), (8:Int)) else (⟨acc ++ []⟩, 0))
        rw [if_neg hc, List.append_nil]
      · simp only [sample_Add_l3s, this, decide_false, cond_false, Int.ofNat_lt, hc]
        rfl
  | c :: cs, pre, acc, a, e, ea => by
    have ih := fun acc' a' h' => add_loop W i v ds hi hv hd S h hS cs (pre ++ [c]) acc' a' (by rw [e]; simp) h'
    have hc := h c (by rw [e]; simp)
    have hlt : pre.length < S.length := by rw [e]; simp
    have hg : S[pre.length]? = some c := by rw [e]; simp
    have sk := succ_nat hlt (show S.length ≤ maxLen by rw [maxLen_eq]; omega)
    have hcI : c.I < 1099511627776 := by have := hc.2.2.2; omega
    have ar := add_run c v ds a hc.1 hv hcI hd
    rw [run_cons]
    unfold sample_Add_l3 at ih ⊢
    have lt : decide ((pre.length : Int) < (S.length : Int)) = true := by rw [decide_eq_true_eq]; omega
    cases hr : run (treeC c v) ds a with
    | need m a' =>
      rw [hr] at ar
      rw [loop_inr (r := (⟨[]⟩, 8))]
      · rfl
      · simp only [sample_Add_l3s, lt, cond_true, idx_nat, hg, Option.bind_some, ar, outA]
        rfl
    | bad m a' =>
      rw [hr] at ar
      rw [loop_inr (r := (⟨[]⟩, 8))]
      · rfl
      · simp only [sample_Add_l3s, lt, cond_true, idx_nat, hg, Option.bind_some, ar, outA]
        rfl
    | ok o a' =>
      rw [hr] at ar
      cases o with
      | none =>
        rw [loop_inr (r := (⟨[]⟩, 9))]
        · rfl
        · simp only [sample_Add_l3s, lt, cond_true, idx_nat, hg, Option.bind_some, ar, outA]
          rfl
      | some c' =>
        rw [loop_inl (s' := ((a' : Int), ((pre ++ [c]).length : Int), acc ++ [c']))]
        · rw [ih (acc ++ [c']) a' (by simp [ea])]
          simp only [bindR]
          cases run (treeS v cs) ds a' with
          | need m a2 => rfl
          | bad m a2 => rfl
          | ok o2 a2 =>
            cases o2 with
            | none => rfl
            | some cs2 =>
              show some (if a2 < ds.length then ((⟨[]⟩ : api_Sample), (8:Int)) else (⟨acc ++ [c'] ++ cs2⟩, 0)) = some (if a2 < ds.length then ((⟨[]⟩ : api_Sample), (8:Int)) else (⟨acc ++ (c' :: cs2)⟩, 0))
              simp
        · have hk : decide ((acc.length + [c'].length) * 56 ≤ 140737488355328) = true := by
            rw [decide_eq_true_eq, List.length_singleton]; omega
          simp only [sample_Add_l3s, lt, cond_true, idx_nat, hg, Option.bind_some, ar, outA, cond_false, bne_self_eq_false, sk, hk, ck_true]
          simp

end Go.Win
