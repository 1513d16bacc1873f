/- Vc, part 27: a function's contract out of its code's verification condition. -/
import Derived.Test.YtfnkbbeeilpiiaaVc26
namespace Go.Vc
open Go.RowKit

/-! ### The way in -/

def argRows : Nat → List AV → St
  | _, [] => []
  | i, v :: r => (.tmp i, .av v) :: argRows (i + 1) r

def boxRows : Nat → List (List AV) → St
  | _, [] => []
  | i, cs :: r => (.box i, .box cs) :: boxRows (i + 1) r

def initSt (args : List AV) (bx : List (List AV)) : St := argRows 0 args ++ boxRows 0 bx

theorem get_boxRows (l : Loc) : ∀ (bx : List (List AV)) (i : Nat), St.get (boxRows i bx) l = match l with
    | .box j => if i ≤ j then bxAS bx (.box (j - i)) else .none
    | _ => .none
  | [], i => by cases l <;> simp [boxRows, St.get, bxAS]
  | cs :: r, i => by
    have ih := get_boxRows l r (i + 1)
    simp only [boxRows, St.get]
    cases l with
    | tmp t => simp only [Loc.beq]; simpa using ih
    | tok t => simp only [Loc.beq]; simpa using ih
    | box j =>
      simp only [Loc.beq]
      by_cases hj : j = i
      · subst hj
        simp [bxAS]
      · simp only [nbeq_ne hj, ih]
        by_cases h1 : i ≤ j
        · have h2 : i + 1 ≤ j := by omega
          simp only [h1, h2, if_true, bxAS]
          rw [show j - i = (j - (i + 1)) + 1 by omega, List.getElem?_cons_succ]
        · have h2 : ¬ i + 1 ≤ j := by omega
          simp [h1, h2]

theorem get_argRows (l : Loc) (s : St) : ∀ (args : List AV) (i : Nat), St.get (argRows i args ++ s) l = match l with
    | .tmp j => if i ≤ j then (match args[j - i]? with
      | some v => .av v
      | none => St.get s l) else St.get s l
    | _ => St.get s l
  | [], i => by cases l <;> simp [argRows]
  | v :: r, i => by
    have ih := get_argRows l s r (i + 1)
    simp only [argRows, List.cons_append, St.get]
    cases l with
    | box t => simp only [Loc.beq]; simpa using ih
    | tok t => simp only [Loc.beq]; simpa using ih
    | tmp j =>
      simp only [Loc.beq]
      by_cases hj : j = i
      · subst hj
        simp
      · simp only [nbeq_ne hj, ih]
        by_cases h1 : i ≤ j
        · have h2 : i + 1 ≤ j := by omega
          simp only [h1, h2, if_true]
          rw [show j - i = (j - (i + 1)) + 1 by omega, List.getElem?_cons_succ]
        · have h2 : ¬ i + 1 ≤ j := by omega
          simp [h1, h2]

theorem init_box (args : List AV) (bx : List (List AV)) (i : Nat) : St.get (initSt args bx) (.box i) = bxAS bx (.box i) := by
  unfold initSt
  rw [get_argRows, ]
  simp [get_boxRows]

theorem init_tok (args : List AV) (bx : List (List AV)) (i : Nat) : St.get (initSt args bx) (.tok i) = .none := by
  unfold initSt
  rw [get_argRows]
  simp [get_boxRows]

theorem init_tmp (args : List AV) (bx : List (List AV)) (i : Nat) : St.get (initSt args bx) (.tmp i) = match args[i]? with
    | some v => .av v
    | none => .none := by
  unfold initSt
  rw [get_argRows]
  simp [get_boxRows]

theorem mr_congr {s s' : AS} (hb : ∀ i, s' (.box i) = s (.box i)) (ht : ∀ i, s' (.tok i) = s (.tok i)) {β τ A ok w} (hm : MR ⟨s, β, τ, A, ok, w⟩) : Ext ⟨s, β, τ, A, ok, w⟩ ⟨s', β, τ, A, ok, w⟩ ∧ MR ⟨s', β, τ, A, ok, w⟩ := by
  have e1 : Ext ⟨s, β, τ, A, ok, w⟩ ⟨s', β, τ, A, ok, w⟩ := ⟨fun t e sz xs' hs _ => ⟨xs', (ht t).symm.trans hs, rfl, rfl⟩, fun i cs' hs _ => ⟨⟨cs', (hb i).symm.trans hs⟩, rfl⟩, fun _ h => h, fun _ h => h, fun _ _ _ => rfl⟩
  have hb' : ∀ i c, s' (.box i) = .box c → s (.box i) = .box c := fun i c hc => by rw [← hb i]; exact hc
  have ht' : ∀ i e sz xs, s' (.tok i) = .tok e sz xs → s (.tok i) = .tok e sz xs := fun i e sz xs hc => by rw [← ht i]; exact hc
  refine ⟨e1, hm.okLt, fun i c hc => ?_, fun t e sz xs hs => hm.tok t e sz xs (ht' t e sz xs hs), fun i j ci cj hi hj hne => hm.sepB i j ci cj (hb' i ci hi) (hb' j cj hj) hne,
    fun i j ei ej si sj xi xj p q hi hj hp hq hne => hm.sepT i j ei ej si sj xi xj p q (ht' _ _ _ _ hi) (ht' _ _ _ _ hj) hp hq hne, fun i j ci ej sj xj q hi hj hq => hm.sepM i j ci ej sj xj q (hb' i ci hi) (ht' _ _ _ _ hj) hq⟩
  obtain ⟨h1, h2, cur, e, h3, h4, h5⟩ := hm.box i c (hb' i c hc)
  exact ⟨h1, h2, cur, e, h3, h4, fun j c hj => let ⟨u, g1, g2, g3⟩ := h5 j c hj; ⟨u, g1, g2, g3.ext e1⟩⟩

theorem bxAS_lt {bx : List (List AV)} {i : Nat} {cs : List AV} (h : bxAS bx (.box i) = .box cs) : bx[i]? = some cs := by
  simp only [bxAS] at h
  split at h
  · cases h; assumption
  · cases h

theorem init_stR {P : Program} {N : Nat} {args : List AV} {bx : List (List AV)} {w : World} {β : Nat → Nat} {ok : Nat → Prop} {vs : Array Value} (hN : args.length ≤ N) (hm : MR (cMem bx β ok w)) (hl : vs.size = args.length)
    (hv : ∀ (i : Nat) (c : AV), args[i]? = some c → ∃ u, vs[i]? = some u ∧ VR1 (cMem bx β ok w) c u) :
    StR ⟨P, N, w, ok, β, bx.length⟩ (fun i => i < bx.length) (St.get (initSt args bx)) { tmps := vs ++ Array.replicate (N - vs.size) undef, defers := [] } w := by
  obtain ⟨e1, hm'⟩ := mr_congr (s := bxAS bx) (s' := St.get (initSt args bx)) (init_box args bx) (init_tok args bx) hm
  refine ⟨β, fun _ => none, ok, hm', rfl, by simp; omega, fun l v hl' => ?_, ⟨rfl, rfl, rfl, Nat.le_refl _, fun _ _ _ => rfl, fun _ => rfl⟩, fun _ _ => rfl, fun _ h => h, fun id cs hs hge => ?_, fun t e sz xs p ht => ?_, fun _ h => h, fun _ h => .inl h⟩
  · have hl2 : St.get (initSt args bx) (.tmp l) = .av v := hl'
    rw [init_tmp] at hl2
    cases hq : args[l]? with
    | none => rw [hq] at hl2; cases hl2
    | some c =>
      rw [hq] at hl2
      cases hl2
      obtain ⟨u, h1, h2⟩ := hv l _ hq
      have : (vs ++ Array.replicate (N - vs.size) undef).getD l undef = u := by
        have hlt : l < vs.size := (Array.getElem?_eq_some_iff.1 h1).1
        rw [Array.getD_eq_getD_getElem?, Array.getElem?_append_left hlt, h1]
        rfl
      show VR _ _ ((vs ++ Array.replicate (N - vs.size) undef).getD l undef)
      rw [this]
      exact (vr1_vr h2).ext e1
  · exfalso
    have hs' : St.get (initSt args bx) (.box id) = .box cs := hs
    rw [init_box] at hs'
    have := (List.getElem?_eq_some_iff.1 (bxAS_lt hs')).1
    have hge' : bx.length ≤ id := hge
    omega
  · exfalso
    have ht' : St.get (initSt args bx) (.tok t) = .tok e sz xs := ht
    rw [init_tok] at ht'
    cases ht'

/-! ### The way out -/

def ptrs : Nat → Nat → List AV
  | _, 0 => []
  | k, m + 1 => .ptr k 0 :: ptrs (k + 1) m

def wkLL (nx : Nat) : List (List AV) → List (List AV) → Prop → Prop
  | [], [], K => K
  | cs :: a, cs' :: b, K => wkL [] nx cs cs' (wkLL nx a b K)
  | _, _, _ => False

def wkVs (nx : Nat) : List AV → List AV → Prop → Prop
  | [], [], K => K
  | v :: a, v' :: b, K => wkV [] nx v v' (wkVs nx a b K)
  | _, _, _ => False

def wkT (nx : Nat) (as : List AV) (r : AV) (K : Prop) : Prop := match as with
  | [v] => wkV [] nx v r K
  | as => match r with
    | .tup rs => wkVs nx as rs K
    | _ => False

def retOk (T : Tab) (m : Nat) (rs : List ResultVar) (r : AV) (bx' : List (List AV)) (st : St) : Prop := match resList T (St.get st) rs with
  | none => False
  | some vs => match callSem (St.get st) (ptrs 0 m ++ vs) with
    | .bad => False
    | .go as _ bx _ _ => wkT bx'.length (as.drop m) r (wkLL bx'.length bx bx' True)

def retK (T : Tab) (m : Nat) (rs : List ResultVar) (r : AV) (bx' : List (List AV)) : KT := fun e _ st => match e with
  | .normal => retOk T m rs r bx' st
  | .ret => retOk T m rs r bx' st
  | _ => False

theorem wkLL_get {nx : Nat} : ∀ {a b : List (List AV)} {K : Prop}, wkLL nx a b K → a.length = b.length ∧ ∀ (j : Nat) (cs' : List AV), b[j]? = some cs' → ∃ cs K', a[j]? = some cs ∧ wkL [] nx cs cs' K'
  | [], [], _, h => by simp
  | cs :: a, cs' :: b, K, h => by
    obtain ⟨h1, h2⟩ := wkLL_get (wkL_k h)
    refine ⟨by simp [h1], fun j x hj => ?_⟩
    cases j with
    | zero => cases hj; exact ⟨cs, _, rfl, h⟩
    | succ j => simpa using h2 j x (by simpa using hj)
  | [], _ :: _, _, h => h.elim
  | _ :: _, [], _, h => h.elim

theorem wkVs_get {nx : Nat} : ∀ {a b : List AV} {K : Prop}, wkVs nx a b K → K ∧ a.length = b.length ∧ ∀ (j : Nat) (c' : AV), b[j]? = some c' → ∃ c K', a[j]? = some c ∧ wkV [] nx c c' K'
  | [], [], _, h => by simp [wkVs] at h; simp [h]
  | cs :: a, cs' :: b, K, h => by
    obtain ⟨h0, h1, h2⟩ := wkVs_get (wkV_k h)
    refine ⟨h0, by simp [h1], fun j x hj => ?_⟩
    cases j with
    | zero => cases hj; exact ⟨cs, _, rfl, h⟩
    | succ j => simpa using h2 j x (by simpa using hj)
  | [], _ :: _, _, h => h.elim
  | _ :: _, [], _, h => h.elim

theorem viewArgs_ptrs {s : AS} : ∀ (m k n : Nat) {vs as : List AV} {bs : List (Nat × List AV)} {ka kb : List Nat}, viewArgs s n (ptrs k m ++ vs) = some (as, bs, ka, kb) →
    (∀ j, j < m → (bs.map (·.1))[j]? = some (k + j))
  | 0, _, _, _, _, _, _, _, _ => by intro j hj; omega
  | m + 1, k, n, vs, as, bs, ka, kb, h => by
    simp only [ptrs, List.cons_append, viewArgs] at h
    split at h
    · split at h
      · split at h
        · rename_i as' bs' ka' kb' hq
          cases h
          have ih := viewArgs_ptrs m (k + 1) (n + 1) hq
          intro j hj
          cases j with
          | zero => rfl
          | succ j =>
            have := ih j (by omega)
            simp only [List.map_cons, List.getElem?_cons_succ, this]
            congr 1
            omega
        · cases h
      · cases h
    · cases h

theorem ptrs_length : ∀ (m k : Nat), (ptrs k m).length = m
  | 0, _ => rfl
  | m + 1, k => by simp [ptrs, ptrs_length m]

theorem ptrs_get : ∀ (m k j : Nat) (c : AV), (ptrs k m)[j]? = some c → c = .ptr (k + j) 0 ∧ j < m
  | 0, k, j, c, h => by simp [ptrs] at h
  | m + 1, k, j, c, h => by
    cases j with
    | zero => simp [ptrs] at h; exact ⟨h.symm, by omega⟩
    | succ j =>
      simp only [ptrs, List.getElem?_cons_succ] at h
      obtain ⟨h1, h2⟩ := ptrs_get m (k + 1) j c h
      refine ⟨?_, by omega⟩
      rw [h1]
      congr 1
      omega

/-- The boxes, held more weakly. -/
theorem wk_boxes {bx bx' : List (List AV)} {β : Nat → Nat} {ok : Nat → Prop} {w : World} {K : Prop} (hm : MR (cMem bx β ok w)) (h : wkLL bx'.length bx bx' K) :
    WkM [] bx'.length (cMem bx β ok w) (cMem bx' β ok w) ∧ MR (cMem bx' β ok w) := by
  obtain ⟨hl, hg⟩ := wkLL_get h
  have key : ∀ j cs', bxAS bx' (.box j) = .box cs' → ∃ cs K', bxAS bx (.box j) = .box cs ∧ wkL [] bx'.length cs cs' K' := fun j cs' hj => by
    obtain ⟨cs, K', h1, h2⟩ := hg j cs' (bxAS_lt hj)
    exact ⟨cs, K', by simp only [bxAS, h1], h2⟩
  have hM : WkM [] bx'.length (cMem bx β ok w) (cMem bx' β ok w) := ⟨rfl, rfl, rfl, fun i' i h => by cases h; rfl, fun i' i h => by cases h; rfl, fun _ _ => rfl, fun t' e sz xs ht => absurd (show Cont.none = Cont.tok e sz xs from ht) (by simp), fun i' cs' hs => by
      obtain ⟨cs, _, h1, _⟩ := key i' cs' hs
      exact ⟨i', cs, rfl, h1⟩⟩
  refine ⟨hM, hm.okLt, fun j cs' hs => ?_, fun t e sz xs ht => ?_, fun i j ci cj hi hj hne => ?_, fun i j ei ej si sj xi xj p q hi => ?_, fun i j ci ej sj xj q hi hj => ?_⟩
  · obtain ⟨cs, K', h1, h2⟩ := key j cs' hs
    obtain ⟨g1, g2, cur, e, g3, g4, g5⟩ := hm.box j cs h1
    obtain ⟨q1, q2⟩ := wkL_get h2
    refine ⟨by show j < bx'.length; have : j < bx.length := g1; omega, g2, cur, e, g3, by rw [g4, q1], fun k c' hk => ?_⟩
    obtain ⟨c, K', p1, p2⟩ := q2 k c' hk
    obtain ⟨u, o1, o2, o3⟩ := g5 k c p1
    exact ⟨u, o1, o2, wkC_vr0 hM p2 o3⟩
  · have ht' : Cont.none = Cont.tok e sz xs := ht
    cases ht'
  · obtain ⟨c1, _, h1, _⟩ := key i ci hi
    obtain ⟨c2, _, h2, _⟩ := key j cj hj
    exact hm.sepB i j c1 c2 h1 h2 hne
  · have hi' : Cont.none = Cont.tok ei si xi := hi
    cases hi'
  · have hj' : Cont.none = Cont.tok ej sj xj := hj
    cases hj'

theorem ret_sound {P : Program} {N : Nat} {T : Tab} (hT : TabOk P T) {bx : List (List AV)} {β : Nat → Nat} {ok : Nat → Prop} {w : World} {fn : Func} {r : AV} {bx' : List (List AV)} {st : St} {a : Act} {w' : World} {A : Nat → Prop}
    (hs : StR ⟨P, N, w, ok, β, bx.length⟩ A (St.get st) a w') (h : retOk T bx.length fn.results.toList r bx' st) :
    a.defers = [] ∧ ∃ v, (results fn a.tmps).run P w' = .ok v w' ∧ Post P bx β ok w r bx' (.returned v) w' := by
  obtain ⟨β1, τ1, ok1, hx⟩ := hs
  unfold retOk at h
  split at h
  · exact h.elim
  rename_i vs hvs
  split at h
  · exact h.elim
  rename_i as ids bx2 ka kb hc
  obtain ⟨us, hrun, hul, huv⟩ := resList_run hx hT hvs
  obtain ⟨bs, hv, hnd, rfl, rfl⟩ := callSem_spec hc
  obtain ⟨m1, h1, h2, h3, h4, h5, h6⟩ := hx.kills (kb ++ ka)
  have hpt := viewArgs_ptrs bx.length 0 0 hv
  have hβ : ∀ (j i : Nat), (bs.map (·.1))[j]? = some i → β1 ((bs.map (·.1)).getD j 0) = β1 i := fun j i hj => by
    rw [List.getD_eq_getElem?_getD, hj]; rfl
  -- the values: pointers to the boxes that came in, then the results
  obtain ⟨⟨v1, v2⟩, v3⟩ := viewArgs_vr h5 h6 (cMem (bs.map (·.2)) (fun j => β1 ((bs.map (·.1)).getD j 0)) m1.ok m1.w) rfl rfl (bs.map (·.1)) hβ
    (fun j i hj => by
      have : j < (bs.map (·.1)).length := (List.getElem?_eq_some_iff.1 hj).1
      show j < (bs.map (·.2)).length
      simpa using this)
    _ 0 as bs ka kb ((List.range bx.length).map (fun j => Value.pointer (some ⟨β1 j, 0, none⟩)) ++ us) hv (fun t ht => by simp [ht]) (fun t ht => by simp [ht]) (fun j => by simp) (by simp [ptrs_length, hul])
    (fun i c hi => by
      by_cases hlt : i < bx.length
      · rw [List.getElem?_append_left (by rw [ptrs_length]; exact hlt)] at hi
        obtain ⟨rfl, _⟩ := ptrs_get _ _ _ _ hi
        refine ⟨.pointer (some ⟨β1 i, 0, none⟩), ?_, ?_⟩
        · rw [List.getElem?_append_left (by simpa using hlt)]
          simp [hlt]
        · rw [Nat.zero_add]
          exact ⟨hx.parA i hlt, rfl, fun _ => rfl⟩
      · rw [List.getElem?_append_right (by rw [ptrs_length]; omega), ptrs_length] at hi
        obtain ⟨u, e1, e2⟩ := huv _ c hi
        refine ⟨u, ?_, e2⟩
        rw [List.getElem?_append_right (by simp; omega)]
        simpa using e1)
  have hmr := handed_mr hx.mr h1 h2 h3 h5 h6 hnd v3
  have hKK : ∃ K, wkLL bx'.length (bs.map (·.2)) bx' K := by
    unfold wkT at h
    split at h
    · exact ⟨_, wkV_k h⟩
    · split at h
      · exact ⟨_, (wkVs_get h).1⟩
      · exact h.elim
  obtain ⟨KK, hLL⟩ := hKK
  obtain ⟨hM, hmr2⟩ := wk_boxes hmr hLL
  have hlen := (wkLL_get hLL).1
  have hw1 : m1.w = w' := h3
  refine ⟨hx.defers, _, run_results hrun, _, fun j => β1 ((bs.map (·.1)).getD j 0), m1.ok, rfl, hw1 ▸ hmr2, ?_, ⟨hx.keep.os, hx.keep.tape, hx.keep.output, hx.keep.size, hx.keep.block, hx.keep.fz⟩, fun j hj => ?_, fun j hj hj' => ?_, h1.ok0, h1.okNew⟩
  · rw [← hw1]
    -- the results
    have hdl : (as.drop bx.length).length = us.length := by
      simp only [List.length_drop, v1, List.length_append, ptrs_length, hul]; omega
    have hd : ∀ (i : Nat) (c : AV), (as.drop bx.length)[i]? = some c → ∃ u, us[i]? = some u ∧ VR1 (cMem (bs.map (·.2)) (fun j => β1 ((bs.map (·.1)).getD j 0)) m1.ok m1.w) c u := fun i c hi => by
      rw [List.getElem?_drop] at hi
      obtain ⟨u, e1, e2⟩ := v2 _ c hi
      refine ⟨u, ?_, e2⟩
      rw [List.getElem?_append_right (by simp)] at e1
      simpa using e1
    generalize as.drop bx.length = ds at h hdl hd
    unfold wkT at h
    split at h
    · rename_i v
      match us, hdl with
      | [u], _ =>
        obtain ⟨u', e1, e2⟩ := hd 0 v rfl
        cases e1
        exact wkV_vr hM h (vr1_vr e2)
    · rename_i hone
      split at h
      · rename_i rs
        obtain ⟨_, g1, g2⟩ := wkVs_get h
        have hne : us.toArray.size ≠ 1 := by
          intro he
          have : ds.length = 1 := by rw [hdl]; simpa using he
          match ds, this with
          | [v], _ => exact hone v rfl
        rw [dif_neg hne]
        refine ⟨us.toArray, rfl, by simp [← hdl, g1], fun j c' hj => ?_⟩
        obtain ⟨c, K', q1, q2⟩ := g2 j c' hj
        obtain ⟨u, p1, p2⟩ := hd j c q1
        exact ⟨u, by simpa using p1, wkV_vr1 hM q2 (vr1_vr p2)⟩
      · exact h.elim
  · show β1 ((bs.map (·.1)).getD j 0) = β j
    have := hpt j hj
    rw [hβ j _ this, Nat.zero_add]
    exact hx.par j hj
  · have hjl : j < bs.length := by rw [← hlen] at hj'; simpa using hj'
    obtain ⟨⟨i, cs⟩, hi⟩ : ∃ p, bs[j]? = some p := ⟨bs[j], by simp [hjl]⟩
    have hij : (bs.map (·.1))[j]? = some i := by rw [List.getElem?_map, hi]; rfl
    show w.heap.size ≤ β1 ((bs.map (·.1)).getD j 0)
    rw [hβ j i hij]
    obtain ⟨cs0, _, q1, _⟩ := v3 j i cs hi
    refine hx.newB i cs0 q1 ?_
    show bx.length ≤ i
    rcases Nat.lt_or_ge i bx.length with hlt | hge
    · have := hpt i hlt
      rw [Nat.zero_add] at this
      have := nodup_get hnd this hij
      omega
    · exact hge

/-! ### The contract -/

def bodyOf (fn : Func) : Code := match fn.body with
  | some c => c
  | none => .skip

def hasBody (fn : Func) : Bool := match fn.body with
  | some _ => true
  | none => false

theorem contract_of_vc {P : Program} {T : Tab} (hT : TabOk P T) (hm : P.follows .mixedOrders = true) {f : FuncId} {fn : Func} (hf : P.funcs[f]? = some fn)
    (hcall : ∀ (vs : Array Value) (w : World), (callFunc f vs).run P w = .ok (.enter f vs) w) (hst : (hasBody fn && okCode fn.ntmps (bodyOf fn)) = true)
    {args : List AV} {bx : List (List AV)} {r : AV} {bx' : List (List AV)} (m : Nat) (hmm : bx.length = m) (hargs : Nat.ble args.length fn.ntmps = true) (st0 : St) (h0 : initSt args bx = st0)
    (h : vc P T m (bodyOf fn) m st0 (retK T m fn.results.toList r bx')) : Contract P f args bx r bx' := by
  subst hmm h0
  simp only [Bool.and_eq_true] at hst
  refine ⟨hcall, fun w β ok vs hmr hl hv => ?_⟩
  have hb : fn.body = some (bodyOf fn) := by
    have := hst.1
    unfold hasBody at this
    unfold bodyOf
    split at this
    · rename_i hc; rw [hc]
    · cases this
  refine calls_of_wp hf hb (wp_mono (vc_sound (F := ⟨P, fn.ntmps, w, ok, β, bx.length⟩) hT hm (bodyOf fn) bx.length (initSt args bx) _ hst.2 h _ w _ (init_stR (Nat.le_of_ble_eq_true hargs) hmr hl hv) (fun _ h => h)) ?_)
  rintro e a w' ⟨nx, st, A, hs, _, hk⟩
  cases e with
  | normal => exact ret_sound hT hs hk
  | ret => exact ret_sound hT hs hk
  | _ => exact hk.elim

/-! ### What is known of arguments: how long slices may be -/

def len0 : AV → Prop
  | .lst _ _ xs => xs.length ≤ maxLen
  | _ => True

def lenL : List AV → Prop
  | [] => True
  | c :: r => len0 c ∧ lenL r

def len1 : AV → Prop
  | .agg cs => lenL cs
  | c => len0 c

def lenAll : List AV → Prop
  | [] => True
  | c :: r => len1 c ∧ lenAll r

theorem len0_of {m : Mem} {c : AV} {u : Value} (h : VR0 m c u) : len0 c := by
  cases c <;> try trivial
  case lst sz f xs =>
    have h' : PR m.w m.ok (.lst sz f xs) u := h
    cases h' with
    | lst _ _ _ a cap u' hcap hmax => exact Nat.le_trans hcap hmax

theorem lenL_of {m : Mem} : ∀ (cs : List AV), (∀ (j : Nat) (c : AV), cs[j]? = some c → ∃ u, VR0 m c u) → lenL cs
  | [], _ => trivial
  | c :: r, h => ⟨let ⟨_, hu⟩ := h 0 c rfl; len0_of hu, lenL_of r fun j c hj => h (j + 1) c (by simpa using hj)⟩

theorem len1_of {m : Mem} {c : AV} {u : Value} (h : VR1 m c u) : len1 c := by
  cases c
  case agg cs =>
    obtain ⟨vs, _, _, h3⟩ := h
    exact lenL_of (m := m) cs fun j c hj => let ⟨u, _, _, g⟩ := h3 j c hj; ⟨u, g⟩
  all_goals exact len0_of (m := m) (vr1_vr0 h (by simp))

theorem lenAll_of {m : Mem} : ∀ (cs : List AV), (∀ (j : Nat) (c : AV), cs[j]? = some c → ∃ u, VR1 m c u) → lenAll cs
  | [], _ => trivial
  | c :: r, h => ⟨let ⟨_, hu⟩ := h 0 c rfl; len1_of hu, lenAll_of r fun j c hj => h (j + 1) c (by simpa using hj)⟩

theorem contract_of_vcL {P : Program} {T : Tab} (hT : TabOk P T) (hm : P.follows .mixedOrders = true) {f : FuncId} {fn : Func} (hf : P.funcs[f]? = some fn)
    (hcall : ∀ (vs : Array Value) (w : World), (callFunc f vs).run P w = .ok (.enter f vs) w) (hst : (hasBody fn && okCode fn.ntmps (bodyOf fn)) = true)
    {args : List AV} {bx : List (List AV)} {r : AV} {bx' : List (List AV)} (m : Nat) (hmm : bx.length = m) (hargs : Nat.ble args.length fn.ntmps = true) (st0 : St) (h0 : initSt args bx = st0)
    (h : lenAll args → vc P T m (bodyOf fn) m st0 (retK T m fn.results.toList r bx')) : Contract P f args bx r bx' :=
  ⟨hcall, fun w β ok vs hmr hl hv => (contract_of_vc hT hm hf hcall hst m hmm hargs st0 h0 (h (lenAll_of (m := cMem bx β ok w) args fun j c hj => let ⟨u, _, g⟩ := hv j c hj; ⟨u, g⟩))).body w β ok vs hmr hl hv⟩

/-- A contract at arguments that say more. -/
theorem Contract.wk {P : Program} {f : FuncId} {as as' : List AV} {bx bx2 : List (List AV)} {r : AV} {bx' : List (List AV)} (h : Contract P f as' bx2 r bx') (hw : wkVs bx2.length as as' (wkLL bx2.length bx bx2 True)) : Contract P f as bx r bx' := by
  obtain ⟨hb, hl, hg⟩ := wkVs_get hw
  have hlen := (wkLL_get hb).1
  refine ⟨h.call, fun w β ok vs hmr hsz hv => ?_⟩
  obtain ⟨hM, hmr2⟩ := wk_boxes hmr hb
  refine (h.body w β ok vs hmr2 (hsz.trans hl) (fun i c' hi => ?_)).mono ?_
  · obtain ⟨c, K', q1, q2⟩ := hg i c' hi
    obtain ⟨u, p1, p2⟩ := hv i c q1
    exact ⟨u, p1, wkV_vr1 hM q2 (vr1_vr p2)⟩
  · rintro e w' ⟨u, β', ok', h1, h2, h3, h4, h5, h6, h7, h8⟩
    refine ⟨u, β', ok', h1, h2, h3, ⟨h4.os, h4.tape, h4.output, h4.size, fun k hk hj => h4.block k hk (fun j hjl => hj j (by show j < bx.length; have : j < bx2.length := hjl; omega)), h4.fz⟩, fun j hj => h5 j (by omega), fun j hj hj' => h6 j (by omega) hj', h7, h8⟩

end Go.Vc
