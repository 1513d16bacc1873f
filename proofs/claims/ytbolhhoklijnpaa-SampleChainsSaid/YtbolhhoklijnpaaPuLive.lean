/- Pu: chapter 18: a chain that is fed has always one of the last W items. -/
import Derived.Test.YtbolhhoklijnpaaPuValid
import Derived.Test.YtbolhhoklijnpaaPuMade
namespace Go.Win
open Go.Vc Go.Dec

theorem tape_next (L : List Int) (At : Nat) (m : Int) (hm : 1 ≤ m) (hm2 : m ≤ 4611686018427387904) (hL : L.length ≤ maxLen) (hA : At ≤ L.length) :
    ∃ d At', made_Tape_Next ⟨L, (At : Int)⟩ m = some (d, ⟨L, ((At' : Nat) : Int)⟩) ∧ 0 ≤ d ∧ d < m ∧ At' ≤ L.length := by
  unfold made_Tape_Next
  by_cases h : At < L.length
  · have c : decide ((At : Int) ≥ (L.length : Int)) = false := by rw [decide_eq_false_iff_not]; omega
    simp only [c, cond_false]
    rw [succ_nat h hL]
    have e : w64 ((At : Int) + 1 - 1) = (At : Int) := by rw [maxLen_eq] at hL; rw [w64_id] <;> omega
    rw [e, idx_nat, get_some h]
    simp only [Option.bind_some]
    obtain ⟨d, h1, h2, h3⟩ := mod_ok L[At] hm hm2
    rw [h1]
    exact ⟨d, At + 1, rfl, h2, h3, h⟩
  · have c : decide ((At : Int) ≥ (L.length : Int)) = true := by rw [decide_eq_true_eq]; omega
    simp only [c, cond_true]
    exact ⟨0, At, rfl, by omega, by omega, hA⟩

theorem after_nil {R : Type} (t : DT R) : after t [] = some t := by
  unfold after
  cases t <;> rfl

def asksLe {R : Type} (b : Int) : DT R → Prop
  | .done _ => True
  | .ask m k => m ≤ b ∧ ∀ d, asksLe b (k d)

theorem after_asks {R : Type} (b : Int) : ∀ (ds : List Int) (t t' : DT R), asksLe b t → after t ds = some t' → asksLe b t'
  | [], t, t', hb, h => by
    unfold after at h
    cases t <;> (simp at h; subst h; exact hb)
  | d :: ds, .done r, t', hb, h => by simp [after] at h
  | d :: ds, .ask m k, t', hb, h => by
    unfold after at h
    split at h
    · exact after_asks b ds (k d) t' (hb.2 d) h
    · cases h

theorem asks_tk (x : api_Chain) (v : Int) (hW : x.W ≤ 1048576) (links : List api_Link) (b : Bool) : asksLe 1099511627776 (tkT x v links b) := by
  cases b with
  | false => trivial
  | true =>
    unfold tkT
    by_cases h : ((links ++ [api_Link.mk (x.I + 1) v]).length : Int) > x.Cap
    · rw [if_pos h]; trivial
    · rw [if_neg h]; exact ⟨by omega, fun d => trivial⟩

theorem asks_tree (x : api_Chain) (v : Int) (hW : x.W ≤ 1048576) : asksLe 1099511627776 (treeC x v) := by
  unfold treeC
  split
  · exact asks_tk x v hW _ _
  · refine ⟨by split <;> omega, fun d => ?_⟩
    show asksLe _ (if d = 0 then _ else _)
    split
    · exact asks_tk x v hW _ _
    · exact asks_tk x v hW _ _

theorem askBound (x : api_Chain) (v : Int) (hW : x.W ≤ 1048576) (ds : List Int) (m : Int) (k : Int → DT (Option api_Chain)) (h : after (treeC x v) ds = some (.ask m k)) : m ≤ 1099511627776 :=
  (after_asks _ ds _ _ (asks_tree x v hW) h).1

theorem supply_ok (x : api_Chain) (v : Int) (L : List Int) (At : Nat) (h : VC x) (hv : -4096 ≤ v ∧ v ≤ 4096) (hI : x.I < 1099511627776) (hL : L.length ≤ maxLen) (hA : At ≤ L.length) :
    ∃ (c : api_Chain) (code : Int) (At' : Nat), law18_supply x v ⟨L, (At : Int)⟩ = some (c, code, ⟨L, (At' : Int)⟩) ∧ At' ≤ L.length ∧ (code = 9 ∨ (code = 0 ∧ nextC x v (some c))) := by
  have r := h.1
  unfold rngC at r
  unfold law18_supply law18_supply_l2
  obtain ⟨q, hq, hQ⟩ := loop_ind (f := fun s : List Int × List Int × Int => law18_supply_l2s x v s.1 s.2.1 s.2.2)
    (fun s => ∃ (At' : Nat) (t' : DT (Option api_Chain)), At' ≤ L.length ∧ s.2.1 = L ∧ s.2.2 = (At' : Int) ∧ after (treeC x v) s.1 = some t')
    (fun s => 2 - s.1.length)
    (fun q => ∃ (At' : Nat), q.2.2 = ⟨L, (At' : Int)⟩ ∧ At' ≤ L.length ∧ (q.2.1 = 9 ∨ (q.2.1 = 0 ∧ nextC x v (some q.1)))) ([], L, (At : Int))
    ⟨At, treeC x v, hA, rfl, rfl, after_nil _⟩ (by
      rintro ⟨ds, L', a'⟩ ⟨At', t', hA', rfl, rfl, haft⟩
      simp only at haft ⊢
      have ft := after_fits ds 2 _ t' (fits_tree x (by omega) (by omega) v) haft
      have hd : ds.length ≤ maxLen := by rw [maxLen_eq]; omega
      have nd := needs_run x v ds 0 h hv hI hd
      have ad := add_run x v ds 0 h hv hI hd
      unfold law18_supply_l2s
      cases t' with
      | done o =>
        right
        rw [run_done haft] at nd ad
        have nd' : chain_Needs x v ds 0 = some (0, false) := nd
        have ad' : chain_Add x v ds 0 = some (outA (.ok o ds.length)) := ad
        rw [nd', ad']
        simp only [Option.bind_some, Bool.not_false, Bool.true_or, cond_true]
        have lv := run_all ds _ (tree_valid x v h hv hI) _ _ _ (run_done haft)
        cases o with
        | none => exact ⟨_, rfl, At', rfl, hA', .inl rfl⟩
        | some c => exact ⟨_, rfl, At', rfl, hA', .inr ⟨rfl, lv⟩⟩
      | ask m k =>
        left
        rw [run_ask haft] at nd
        have nd' : chain_Needs x v ds 0 = some (m, true) := nd
        have hfm : 1 ≤ m ∧ m ≤ 1099511627776 ∧ ds.length < 2 := by
          have f2 := ft.2
          cases hn : 2 - ds.length with
          | zero => rw [hn] at f2; exact f2.elim
          | succ n =>
            rw [hn] at f2
            refine ⟨f2.1, ?_, by omega⟩
            exact askBound x v r.2.1 ds m k haft
        rw [nd']
        have c1 : decide (m < 1) = false := by rw [decide_eq_false_iff_not]; omega
        have c2 : decide ((ds.length : Int) > 4) = false := by rw [decide_eq_false_iff_not]; omega
        simp only [Option.bind_some, Bool.not_true, c1, c2, Bool.or_self, cond_false]
        obtain ⟨d, At2, e1, e2, e3, e4⟩ := tape_next L' At' m hfm.1 (by omega) hL hA'
        rw [e1]
        simp only [Option.bind_some]
        have hk : decide ((ds.length + [d].length) * 8 ≤ 140737488355328) = true := by rw [decide_eq_true_eq, List.length_singleton]; omega
        rw [hk, ck_true]
        refine ⟨_, rfl, ⟨At2, k d, e4, rfl, rfl, ?_⟩, by simp; omega⟩
        rw [after_append ds _ _ d haft]
        show after (.ask m k) [d] = _
        unfold after
        rw [if_pos ⟨e2, e3⟩, after_nil])
  obtain ⟨At', h1, h2, h3⟩ := hQ
  exact ⟨q.1, q.2.1, At', by rw [hq, ← h1], h2, h3⟩

/-- Where the links of a chain come from. -/
def fromP (p0 : List Int) (i : Nat) (links : List api_Link) : Prop := ∀ p ∈ links, ∃ j : Nat, j < i ∧ p.I = (j : Int) + 1 ∧ ∃ a, p0[j]? = some a ∧ made_Value a = some p.V

theorem law18_ChainLive_true (p0 p1 : List Int) (p2 : Int) (w0 : wfL (wfI .i64) p0) (w1 : wfL (wfI .i64) p1) (_ : wfI .i64 p2) : law18_ChainLive p0 p1 p2 = some true := by
  have hl0 := w0.1
  have hl1 := w1.1
  unfold law18_ChainLive
  obtain ⟨y, hy, hy0, hy1⟩ := mod_ok p2 (n := 12) (by decide) (by decide)
  rw [hy]
  simp only [Option.bind_some]
  have hw : w64 (1 + y) = 1 + y := by rw [w64_id] <;> omega
  have hn : chain_New (1 + y) 64 = (⟨1 + y, 64, 0, 0, []⟩, 0) := by
    unfold chain_New
    have c : ((((decide (1 + y < (1:Int))) || (decide (1 + y > (1048576:Int)))) || (decide ((64:Int) < (1:Int)))) || (decide ((64:Int) > (64:Int)))) = false := by
      simp only [Bool.or_eq_false_iff, decide_eq_false_iff_not]; omega
    rw [c, cond_false]
  rw [hw, hn]
  simp only
  unfold law18_ChainLive_l2 made_New
  obtain ⟨q, hq, hQ⟩ := loop_ind (f := fun s : Int × Int × Int × Int × Int × List api_Link × List Int × Int => law18_ChainLive_l2s p0 y (⟨1 + y, 64, 0, 0, []⟩, 0) s.1 s.2.1 s.2.2.1 s.2.2.2.1 s.2.2.2.2.1 s.2.2.2.2.2.1 s.2.2.2.2.2.2.1 s.2.2.2.2.2.2.2)
    (fun s => ∃ (i At : Nat) (c : api_Chain), i ≤ 60 ∧ i ≤ p0.length ∧ At ≤ p1.length ∧ VC c ∧ c.W = 1 + y ∧ c.I = (i : Int) ∧ fromP p0 i c.Links ∧ s = ((i : Int), c.W, c.Cap, c.I, c.Next, c.Links, p1, (At : Int)))
    (fun s => 60 - s.1.toNat)
    (fun q => q = true) (0, 1 + y, 64, 0, 0, [], p1, 0)
    ⟨0, 0, ⟨1 + y, 64, 0, 0, []⟩, by omega, Nat.zero_le _, Nat.zero_le _, ⟨⟨by show 1 ≤ 1 + y; omega, by show 1 + y ≤ _; omega, by show (1:Int) ≤ 64; decide, by show (64:Int) ≤ 64; decide, by show (0:Int) ≤ 0; decide, by show (0:Int) ≤ _; decide, by show ((0 : Nat) : Int) ≤ 64; decide⟩, .inl ⟨rfl, rfl, rfl⟩⟩, rfl, rfl, by intro p hp; simp at hp, rfl⟩ (by
      rintro _ ⟨i, At, c, hi, hip, hA, hc, hcW, hcI, hfr, rfl⟩
      simp only
      have ec : (⟨c.W, c.Cap, c.I, c.Next, c.Links⟩ : api_Chain) = c := rfl
      unfold law18_ChainLive_l2s
      by_cases hlt : i < p0.length ∧ i < 60
      · have c1 : ((decide ((i : Int) < (p0.length : Int))) && (decide ((i : Int) < (60:Int)))) = true := by
          simp only [Bool.and_eq_true, decide_eq_true_eq]; omega
        rw [c1, cond_true, idx_nat, get_some hlt.1]
        simp only [Option.bind_some]
        obtain ⟨v, hv, hv2⟩ := value_ok p0[i]
        rw [hv]
        simp only [Option.bind_some, ec]
        have hvr : -4096 ≤ v ∧ v ≤ 4096 := by
          unfold ref09_Value at hv2
          simp only [Bool.and_eq_true, decide_eq_true_eq] at hv2
          omega
        obtain ⟨d, code, At', e1, e2, e3⟩ := supply_ok c v p1 At hc hvr (by omega) hl1 hA
        rw [e1]
        simp only [Option.bind_some]
        rcases e3 with e3 | ⟨e3, e4⟩
        · right
          subst e3
          simp only [beq_self_eq_true, cond_true, awake18, Option.bind_some]
          exact ⟨_, rfl, rfl⟩
        · left
          subst e3
          obtain ⟨vd, dI, dW, dC, dL⟩ := e4 d rfl
          have hdv := vc_valid d vd
          obtain ⟨rd, hd⟩ := vd
          unfold rngC at rd
          rcases hd with ⟨h1, _, _⟩ | ⟨h1, l, ls, h2, h3, h4, h5, h6⟩
          · omega
          · have lok := h3 l (by rw [h2]; simp)
            unfold okLk at lok
            have hsi : w64 ((i : Int) + 1) = (i : Int) + 1 := by rw [w64_id] <;> omega
            have len : ((d.Links.length : Int) == 0) = false := by rw [beq_eq_false_iff_ne, h2, List.length_cons]; omega
            have i0 : idx d.Links 0 = some l := by rw [h2]; rfl
            have ask : chain_Ask d = some (l.V, 0) := by
              unfold chain_Ask
              rw [hdv]
              simp only [Option.bind_some, bne_self_eq_false, cond_false, len, i0]
            have c2 : ((0:Int) == 9) = false := by decide
            have c3 : (d.I != (i : Int) + 1) = false := by rw [bne_eq_false_iff_eq]; omega
            simp only [c2, cond_false, ask, Option.bind_some, bne_self_eq_false, Bool.or_self, hsi, c3, len, Bool.not_false, gd_true, hdv, i0]
            have w2 : w64 (d.I - w64 (1 + y)) = d.I - (1 + y) := by rw [hw, w64_id] <;> omega
            have c4 : (((decide (l.I < (1:Int))) || (decide (l.I ≤ (w64 (d.I - (w64 ((1:Int) + y))))))) || (decide (l.I > d.I))) = false := by
              rw [w2]
              simp only [Bool.or_eq_false_iff, decide_eq_false_iff_not]; omega
            have fr : ∀ p ∈ d.Links, ∃ j : Nat, j < i + 1 ∧ p.I = (j : Int) + 1 ∧ ∃ a, p0[j]? = some a ∧ made_Value a = some p.V := by
              intro p hp
              rcases dL p hp with hp | rfl
              · obtain ⟨j, j1, j2, j3⟩ := hfr p hp
                exact ⟨j, by omega, j2, j3⟩
              · exact ⟨i, by omega, by show c.I + 1 = _; omega, p0[i], get_some hlt.1, hv⟩
            obtain ⟨j, j1, j2, a, j3, j4⟩ := fr l (by rw [h2]; simp)
            have w3 : w64 (l.I - 1) = (j : Int) := by rw [w64_id] <;> omega
            rw [c4]
            simp only [Bool.not_false, gd_true, w3, idx_nat, j3, Option.bind_some, j4, bne_self_eq_false, Bool.or_self, cond_false]
            exact ⟨_, rfl, ⟨i + 1, At', d, by omega, by omega, e2, ⟨rd, .inr ⟨h1, l, ls, h2, h3, h4, h5, h6⟩⟩, by omega, by omega, fr, rfl⟩, by show 60 - ((i : Int) + 1).toNat < 60 - (i : Int).toNat; omega⟩
      · right
        have c1 : ((decide ((i : Int) < (p0.length : Int))) && (decide ((i : Int) < (60:Int)))) = false := by
          simp only [Bool.and_eq_false_iff, decide_eq_false_iff_not]; omega
        rw [c1, cond_false, awake18]
        exact ⟨_, rfl, rfl⟩)
  rw [hq, hQ]

end Go.Win
