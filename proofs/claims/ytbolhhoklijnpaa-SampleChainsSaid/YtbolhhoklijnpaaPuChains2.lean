/- Pu: chapter 19: the law of the chains. -/
import Derived.Test.YtbolhhoklijnpaaPuChains
namespace Go.Win
open Go.Vc Go.Dec

theorem alone_loop (W : Int) (i : Nat) (v : Int) (ds : List Int) (hi : i < 1000) (hv : -4096 ≤ v ∧ v ≤ 4096) (hd : ds.length ≤ maxLen) (S : List api_Chain) (h : ∀ c ∈ S, okC W i c) (hS : S.length ≤ 16)
    (all : List api_Chain) (hall : ref19_Same ⟨all⟩ ⟨all⟩ = some true) (k : Int) (L : List Int) (At : Int) :
    ∀ (cs pre new cs' : List api_Chain) (a : Nat), S = pre ++ cs → new.length = pre.length → run (treeS v cs) ds a = .ok (some cs') ds.length → new ++ cs' = all →
      law19_SampleChains_l17 v (⟨all⟩, 0) S k ds L At (new ++ cs) (a : Int) (pre.length : Int) = some (.inl (0, all, w64 (k + 1), all, L, At))
  | [], pre, new, cs', a, e, en, hr, ha => by
    rw [List.append_nil] at e
    have h1 : cs' = [] ∧ a = ds.length := by
      unfold treeS run at hr
      cases hr
      exact ⟨rfl, rfl⟩
    obtain ⟨rfl, rfl⟩ := h1
    rw [List.append_nil] at ha ⊢
    subst ha
    unfold law19_SampleChains_l17
    rw [loop_inr (r := .inl (0, new, w64 (k + 1), new, L, At))]
    have : ¬ ((pre.length : Int) < (S.length : Int)) := by rw [e]; omega
    simp only [law19_SampleChains_l17s, this, decide_false, cond_false, bne_self_eq_false, Bool.or_self, Bool.not_false, gd_true, hall, Option.bind_some, Bool.not_true]
    rfl
  | c :: cs, pre, new, cs', a, e, en, hr, ha => by
    have ih := fun new' cs2 a' h1 h2 h3 => alone_loop W i v ds hi hv hd S h hS all hall k L At cs (pre ++ [c]) new' cs2 a' (by rw [e]; simp) h1 h2 h3
    have hc := h c (by rw [e]; simp)
    have hlt : pre.length < S.length := by rw [e]; simp
    have hlt2 : new.length < (new ++ c :: cs).length := by simp
    have sk := succ_nat hlt (show S.length ≤ maxLen by rw [maxLen_eq]; omega)
    have hcI : c.I < 1099511627776 := by have := hc.2.2.2; omega
    have ar := add_run c v ds a hc.1 hv hcI hd
    have lt : decide ((pre.length : Int) < (S.length : Int)) = true := by rw [decide_eq_true_eq]; omega
    have hg : (new ++ c :: cs)[pre.length]? = some c := by rw [← en]; simp
    rw [run_cons] at hr
    unfold law19_SampleChains_l17 at ih ⊢
    cases hq : run (treeC c v) ds a with
    | need m a' => rw [hq] at hr; cases hr
    | bad m a' => rw [hq] at hr; cases hr
    | ok o a' =>
      rw [hq] at hr ar
      cases o with
      | none => cases hr
      | some c' =>
        simp only [bindR] at hr
        cases hq2 : run (treeS v cs) ds a' with
        | need m a2 => rw [hq2] at hr; cases hr
        | bad m a2 => rw [hq2] at hr; cases hr
        | ok o2 a2 =>
          rw [hq2] at hr
          cases o2 with
          | none => cases hr
          | some cs2 =>
            simp only [Option.map_some, RR.ok.injEq, Option.some.injEq] at hr
            obtain ⟨rfl, rfl⟩ := hr
            rw [loop_inl (s' := (new ++ [c'] ++ cs, (a' : Int), ((pre ++ [c]).length : Int)))]
            · exact ih (new ++ [c']) cs2 a' (by simp [en]) hq2 (by rw [← ha]; simp)
            · have set : (new ++ c :: cs).set ((pre.length : Int)).toNat c' = new ++ [c'] ++ cs := by
                rw [Int.toNat_natCast, ← en]; simp
              simp only [law19_SampleChains_l17s, lt, cond_true, idx_nat, hg, Option.bind_some, ar, outA, bne_self_eq_false, cond_false, set, sk]
              simp

/-- What a round of the law leaves. -/
def RoundOk (W : Int) (n i : Nat) (L : List Int) (r : (Int × List api_Chain × Int × List api_Chain × List Int × Int) ⊕ Bool) : Prop :=
  r = .inr true ∨ ∃ (S : List api_Chain) (At : Nat), S.length = n ∧ (∀ c ∈ S, okC W (i + 1) c) ∧ At ≤ L.length ∧ r = .inl (0, S, ((i + 1 : Nat) : Int), S, L, (At : Int))

theorem round_end (W : Int) (i : Nat) (v : Int) (ds : List Int) (hi : i < 1000) (hv : -4096 ≤ v ∧ v ≤ 4096) (hd : ds.length ≤ maxLen) (S : List api_Chain) (h : ∀ c ∈ S, okC W i c) (h1 : 1 ≤ S.length) (hS : S.length ≤ 16)
    (o : Option (List api_Chain)) (haft : after (treeS v S) ds = some (.done o)) (L : List Int) (At : Nat) (hA : At ≤ L.length) :
    ∃ r, law19_SampleChains_j10 v S (i : Int) S ds L (At : Int) = some r ∧ RoundOk W S.length i L r := by
  have hr := run_done haft
  have ad := add_loop W i v ds hi hv hd S h hS S [] [] 0 rfl rfl
  rw [hr] at ad
  have val := valid19 W i S h h1 hS
  have sadd : sample_Add ⟨S⟩ v ds = some (outSm ds.length [] (.ok o ds.length)) := by
    unfold sample_Add
    rw [val]
    simp only [Option.bind_some, bne_self_eq_false, cond_false]
    exact ad
  unfold law19_SampleChains_j10
  rw [sadd]
  simp only [Option.bind_some]
  cases o with
  | none =>
    have e : outSm ds.length [] (RR.ok (none : Option (List api_Chain)) ds.length) = (⟨[]⟩, 9) := rfl
    rw [e]
    simp only [beq_self_eq_true, cond_true, awake19, Option.bind_some]
    exact ⟨_, rfl, .inl rfl⟩
  | some cs =>
    have e : outSm ds.length [] (RR.ok (some cs) ds.length) = (⟨cs⟩, 0) := by
      show (if ds.length < ds.length then ((⟨[]⟩ : api_Sample), (8:Int)) else (⟨[] ++ cs⟩, 0)) = _
      rw [if_neg (by omega)]; rfl
    rw [e]
    have c2 : ((0:Int) == 9) = false := by decide
    simp only [c2, cond_false]
    have la := run_all ds _ (all_treeS W i v hi hv S h) _ _ _ hr cs rfl
    have same : ref19_Same ⟨cs⟩ ⟨cs⟩ = some true := same19_refl ⟨cs⟩ (by show cs.length ≤ maxLen; rw [maxLen_eq]; omega) fun c hc => okC_len (la.2 c hc)
    have al := alone_loop W i v ds hi hv hd S h hS cs same (i : Int) L (At : Int) S [] [] cs 0 rfl rfl hr rfl
    refine ⟨_, al, .inr ⟨cs, At, la.1, la.2, hA, ?_⟩⟩
    rw [w64_id (by omega) (by omega)]
    rfl

theorem round_ok (W : Int) (i : Nat) (v : Int) (hi : i < 1000) (hv : -4096 ≤ v ∧ v ≤ 4096) (S : List api_Chain) (h : ∀ c ∈ S, okC W i c) (h1 : 1 ≤ S.length) (hS : S.length ≤ 4)
    (L : List Int) (At : Nat) (hL : L.length ≤ maxLen) (hA : At ≤ L.length) :
    ∃ r, law19_SampleChains_l11 v S (i : Int) S [] L (At : Int) = some r ∧ RoundOk W S.length i L r := by
  unfold law19_SampleChains_l11
  refine loop_ind (f := fun s : List Int × List Int × Int => law19_SampleChains_l11s v S (i : Int) S s.1 s.2.1 s.2.2)
    (fun s => ∃ (At' : Nat) (t' : DT (Option (List api_Chain))), At' ≤ L.length ∧ s.2.1 = L ∧ s.2.2 = (At' : Int) ∧ after (treeS v S) s.1 = some t')
    (fun s => 8 - s.1.length) (RoundOk W S.length i L) ([], L, (At : Int))
    ⟨At, treeS v S, hA, rfl, rfl, after_nil _⟩ ?_
  rintro ⟨ds, L', a'⟩ ⟨At', t', hA', rfl, rfl, haft⟩
  simp only at haft ⊢
  have ft := after_fits ds _ _ t' (fits_treeS W i v S h) haft
  have hd : ds.length ≤ maxLen := by rw [maxLen_eq]; omega
  have nl := needs_loop W i v ds hi hv hd S h (by omega) S [] 0 rfl
  have val := valid19 W i S h h1 (by omega)
  have sn : sample_Needs ⟨S⟩ v ds = some (outN (run (treeS v S) ds 0)) := by
    unfold sample_Needs
    rw [val]
    simp only [Option.bind_some, bne_self_eq_false, cond_false]
    exact nl
  unfold law19_SampleChains_l11s
  have c0 : decide ((ds.length : Int) < 40) = true := by rw [decide_eq_true_eq]; omega
  rw [c0, cond_true, sn]
  simp only [Option.bind_some]
  cases t' with
  | done o =>
    right
    rw [run_done haft]
    have e : outN (RR.ok o ds.length) = (0, false) := rfl
    rw [e]
    simp only [Bool.not_false, Bool.true_or, cond_true]
    obtain ⟨r, e1, e2⟩ := round_end W i v ds hi hv hd S h h1 (by omega) o haft L' At' hA'
    rw [e1]
    exact ⟨r, rfl, e2⟩
  | ask m k =>
    left
    rw [run_ask haft]
    have e : outN (RR.need m ds.length : RR (Option (List api_Chain))) = (m, true) := rfl
    rw [e]
    have hfm : 1 ≤ m ∧ m ≤ 1099511627776 ∧ ds.length < 8 := by
      have f2 := ft.2
      cases hn : 2 * S.length - ds.length with
      | zero => rw [hn] at f2; exact f2.elim
      | succ n =>
        rw [hn] at f2
        exact ⟨f2.1, (after_asks _ ds _ _ (asks_treeS W i v S h) haft).1, by omega⟩
    have c1 : decide (m < 1) = false := by rw [decide_eq_false_iff_not]; omega
    simp only [Bool.not_true, c1, Bool.or_self, cond_false]
    obtain ⟨d, At2, e1, e2, e3, e4⟩ := tape_next L' At' m hfm.1 (by omega) hL hA'
    rw [e1]
    simp only [Option.bind_some]
    have hk : decide ((ds.length + [d].length) * 8 ≤ 140737488355328) = true := by rw [decide_eq_true_eq, List.length_singleton]; omega
    rw [hk, ck_true]
    refine ⟨_, rfl, ⟨At2, k d, e4, rfl, rfl, ?_⟩, by simp; omega⟩
    rw [after_append ds _ _ d haft]
    show after (.ask m k) [d] = _
    unfold after
    rw [if_pos ⟨e2, e3⟩, after_nil]

theorem rounds_ok (W : Int) (p0 L : List Int) (hl0 : p0.length ≤ maxLen) (hL : L.length ≤ maxLen) (S0 : List api_Chain) (h : ∀ c ∈ S0, okC W 0 c) (h1 : 1 ≤ S0.length) (hS : S0.length ≤ 4) :
    law19_SampleChains_l7 p0 0 S0 0 S0 L 0 = some true := by
  unfold law19_SampleChains_l7
  obtain ⟨q, hq, hQ⟩ := loop_ind (f := fun s : Int × List api_Chain × Int × List api_Chain × List Int × Int => law19_SampleChains_l7s p0 s.1 s.2.1 s.2.2.1 s.2.2.2.1 s.2.2.2.2.1 s.2.2.2.2.2)
    (fun s => ∃ (i At : Nat) (S : List api_Chain), i ≤ 20 ∧ i ≤ p0.length ∧ At ≤ L.length ∧ S.length = S0.length ∧ (∀ c ∈ S, okC W i c) ∧ s = (0, S, (i : Int), S, L, (At : Int)))
    (fun s => 20 - s.2.2.1.toNat) (fun q => q = true) (0, S0, 0, S0, L, 0)
    ⟨0, 0, S0, by omega, Nat.zero_le _, Nat.zero_le _, rfl, h, rfl⟩ (by
      rintro _ ⟨i, At, S, hi, hip, hA, hn, hS', rfl⟩
      simp only
      unfold law19_SampleChains_l7s
      by_cases hlt : i < p0.length ∧ i < 20
      · have c1 : ((decide ((i : Int) < (p0.length : Int))) && (decide ((i : Int) < (20:Int)))) = true := by
          simp only [Bool.and_eq_true, decide_eq_true_eq]; omega
        rw [c1, cond_true, idx_nat, get_some hlt.1]
        simp only [Option.bind_some]
        obtain ⟨v, hv, hv2⟩ := value_ok p0[i]
        rw [hv]
        simp only [Option.bind_some]
        have hvr : -4096 ≤ v ∧ v ≤ 4096 := by
          unfold ref09_Value at hv2
          simp only [Bool.and_eq_true, decide_eq_true_eq] at hv2
          omega
        obtain ⟨r, e1, e2⟩ := round_ok W i v (by omega) hvr S hS' (by omega) (by omega) L At hL hA
        rw [e1]
        rcases e2 with rfl | ⟨S', At', s1, s2, s3, rfl⟩
        · right
          exact ⟨_, rfl, rfl⟩
        · left
          exact ⟨_, rfl, ⟨i + 1, At', S', by omega, by omega, s3, by omega, s2, rfl⟩, by show 20 - (((i + 1 : Nat) : Int)).toNat < 20 - (i : Int).toNat; omega⟩
      · right
        have c1 : ((decide ((i : Int) < (p0.length : Int))) && (decide ((i : Int) < (20:Int)))) = false := by
          simp only [Bool.and_eq_false_iff, decide_eq_false_iff_not]; omega
        rw [c1, cond_false]
        simp only [beq_self_eq_true, gd_true, awake19, Option.bind_some, Bool.and_self]
        exact ⟨_, rfl, rfl⟩)
  rw [hq, hQ]

theorem law19_SampleChains_true (p0 p1 : List Int) (p2 p3 : Int) (w0 : wfL (wfI .i64) p0) (w1 : wfL (wfI .i64) p1) (_ : wfI .i64 p2) (_ : wfI .i64 p3) : law19_SampleChains p0 p1 p2 p3 = some true := by
  unfold law19_SampleChains made_Int
  obtain ⟨n, hn, hn0, hn1⟩ := mod_ok p2 (n := 4) (by decide) (by decide)
  obtain ⟨y, hy, hy0, hy1⟩ := mod_ok p3 (n := 6) (by decide) (by decide)
  rw [hn, hy]
  simp only [Option.bind_some]
  have hwn : w64 (1 + n) = 1 + n := by rw [w64_id] <;> omega
  have hwy : w64 (1 + y) = 1 + y := by rw [w64_id] <;> omega
  have hC : chain_New (1 + y) 64 = (⟨1 + y, 64, 0, 0, []⟩, 0) := by
    unfold chain_New
    have c : ((((decide (1 + y < (1:Int))) || (decide (1 + y > (1048576:Int)))) || (decide ((64:Int) < (1:Int)))) || (decide ((64:Int) > (64:Int)))) = false := by
      simp only [Bool.or_eq_false_iff, decide_eq_false_iff_not]; omega
    rw [c, cond_false]
  have hS : sample_New (1 + n) (1 + y) 64 = some (⟨List.replicate (1 + n).toNat ⟨1 + y, 64, 0, 0, []⟩⟩, 0) := by
    unfold sample_New
    have c : ((decide (1 + n < (1:Int))) || (decide (1 + n > (16:Int)))) = false := by
      simp only [Bool.or_eq_false_iff, decide_eq_false_iff_not]; omega
    rw [c, cond_false, new19 _ _ _ (by omega) (by omega), hC]
    rfl
  rw [hwn, hwy, hS]
  simp only [Option.bind_some]
  have hR : ref18_New (1 + y) 64 = (⟨1 + y, 64, 0, 0, []⟩, 0) := by rw [← new18_eq]; exact hC
  have hok : ∀ c ∈ List.replicate (1 + n).toNat (⟨1 + y, 64, 0, 0, []⟩ : api_Chain), okC (1 + y) 0 c := by
    intro c hc
    have := List.eq_of_mem_replicate hc
    subst this
    exact ⟨⟨⟨by show 1 ≤ 1 + y; omega, by show 1 + y ≤ _; omega, by show (1:Int) ≤ 64; decide, by show (64:Int) ≤ 64; decide, by show (0:Int) ≤ 0; decide, by show (0:Int) ≤ _; decide, by show ((0 : Nat) : Int) ≤ 64; decide⟩, .inl ⟨rfl, rfl, rfl⟩⟩, rfl, rfl, rfl⟩
  unfold law19_SampleChains_l2
  obtain ⟨q, hq, hQ⟩ := loop_ind (f := fun s : List api_Chain × Int => law19_SampleChains_l2s p0 p1 n y (⟨List.replicate (1 + n).toNat ⟨1 + y, 64, 0, 0, []⟩⟩, 0) s.1 s.2)
    (fun s => ∃ i : Nat, (i : Int) ≤ 1 + n ∧ s = (List.replicate i (⟨1 + y, 64, 0, 0, []⟩ : api_Chain), (i : Int)))
    (fun s => (1 + n - s.2).toNat) (fun q => q = true) ([], 0) ⟨0, by omega, rfl⟩ (by
      rintro _ ⟨i, hi, rfl⟩
      simp only
      unfold law19_SampleChains_l2s
      rw [hwn, hwy, hR]
      by_cases hlt : (i : Int) < 1 + n
      · left
        have hk : decide (((List.replicate i (⟨1 + y, 64, 0, 0, []⟩ : api_Chain)).length + [(⟨1 + y, 64, 0, 0, []⟩ : api_Chain)].length) * 56 ≤ 140737488355328) = true := by
          rw [decide_eq_true_eq, List.length_singleton, List.length_replicate]; omega
        have hsi : w64 ((i : Int) + 1) = ((i + 1 : Nat) : Int) := by rw [w64_id] <;> omega
        simp only [hlt, decide_true, cond_true, bne_self_eq_false, cond_false, hk, ck_true, hsi]
        refine ⟨_, rfl, ⟨i + 1, by omega, ?_⟩, by show (1 + n - ((i + 1 : Nat) : Int)).toNat < (1 + n - (i : Int)).toNat; omega⟩
        rw [List.replicate_succ']
      · right
        have hi2 : i = (1 + n).toNat := by omega
        subst hi2
        simp only [hlt, decide_false, cond_false]
        unfold made_New
        simp only
        rw [rounds_ok (1 + y) p0 p1 w0.1 w1.1 _ hok (by rw [List.length_replicate]; omega) (by rw [List.length_replicate]; omega)]
        exact ⟨_, rfl, rfl⟩)
  rw [hq, hQ]

end Go.Win
