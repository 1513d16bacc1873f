/- Vc, part 18: a call by contract, in the caller's state. -/
import Derived.Test.YtfnkbbeeilpiiaaVc17
namespace Go.Vc
open Go.RowKit

theorem kills_box (s : AS) (i : Nat) : ∀ ks : List Nat, (s.apply (kills ks)) (.box i) = s (.box i)
  | [] => rfl
  | _ :: ts => kills_box s i ts

theorem kills_tmp (s : AS) (i : Nat) : ∀ ks : List Nat, (s.apply (kills ks)) (.tmp i) = s (.tmp i)
  | [] => rfl
  | _ :: ts => kills_tmp s i ts

theorem layBoxes_tmp (s : AS) (id i : Nat) : ∀ (ids : List Nat) (bx : List (List AV)), (s.apply (layBoxes id ids bx)) (.tmp i) = s (.tmp i)
  | [], [] => rfl
  | [], [_] => rfl
  | [], _ :: _ :: _ => rfl
  | _ :: _, [] => rfl
  | _ :: is, _ :: r => layBoxes_tmp s id i is r

theorem layBoxes_tok (s : AS) (id i : Nat) : ∀ (ids : List Nat) (bx : List (List AV)), (s.apply (layBoxes id ids bx)) (.tok i) = s (.tok i)
  | [], [] => rfl
  | [], [_] => rfl
  | [], _ :: _ :: _ => rfl
  | _ :: _, [] => rfl
  | _ :: is, _ :: r => layBoxes_tok s id i is r

/-- Which box stands where behind a call. -/
theorem layBoxes_box (s : AS) (id i : Nat) (c : List AV) : ∀ (ids : List Nat) (bx : List (List AV)), (s.apply (layBoxes id ids bx)) (.box i) = .box c → bx.length = ids.length ∨ bx.length = ids.length + 1 →
    (∃ j : Nat, ids[j]? = some i ∧ bx[j]? = some c) ∨ (i = id ∧ bx[ids.length]? = some c ∧ bx.length = ids.length + 1) ∨ (i ∉ ids ∧ s (.box i) = .box c ∧ (bx.length = ids.length + 1 → i ≠ id))
  | [], [], h, _ => .inr (.inr ⟨by simp, h, by simp⟩)
  | [], [d], h, _ => by
    have h' : (s.put (.box id) (.box d)) (.box i) = .box c := h
    by_cases hi : i = id
    · subst hi
      rw [put_box_same] at h'
      cases h'
      exact .inr (.inl ⟨rfl, rfl, rfl⟩)
    · rw [put_box_ne _ _ _ _ hi] at h'
      exact .inr (.inr ⟨by simp, h', fun _ => hi⟩)
  | [], _ :: _ :: _, _, hl => by simp at hl
  | _ :: _, [], _, hl => by simp at hl
  | k :: is, d :: r, h, hl => by
    have h' : ((s.apply (layBoxes id is r)).put (.box k) (.box d)) (.box i) = .box c := h
    by_cases hi : i = k
    · subst hi
      rw [put_box_same] at h'
      cases h'
      exact .inl ⟨0, rfl, rfl⟩
    · rw [put_box_ne _ _ _ _ hi] at h'
      rcases layBoxes_box s id i c is r h' (by simpa using hl) with ⟨j, h1, h2⟩ | ⟨h1, h2, h3⟩ | ⟨h1, h2, h3⟩
      · exact .inl ⟨j + 1, by simpa using h1, by simpa using h2⟩
      · exact .inr (.inl ⟨h1, by simpa using h2, by simpa using h3⟩)
      · exact .inr (.inr ⟨by simp [hi, h1], h2, fun h => h3 (by simpa using h)⟩)

theorem layBoxes_live (s : AS) (id : Nat) (i : Nat) : ∀ (ids : List Nat) (bx : List (List AV)), i ∈ ids → bx.length = ids.length ∨ bx.length = ids.length + 1 → ∃ c, (s.apply (layBoxes id ids bx)) (.box i) = .box c
  | [], _, h, _ => by simp at h
  | _ :: _, [], _, hl => by simp at hl
  | k :: is, d :: r, h, hl => by
    by_cases hi : i = k
    · subst hi; exact ⟨d, put_box_same _ _ _⟩
    · obtain ⟨c, hc⟩ := layBoxes_live s id i is r (by simpa [hi] using h) (by simpa using hl)
      exact ⟨c, by show (AS.put _ (.box k) _) (.box i) = _; rw [put_box_ne _ _ _ _ hi]; exact hc⟩

theorem layBoxes_new (s : AS) (id : Nat) (h0 : ∀ c, s (.box id) ≠ .box c) : ∀ (ids : List Nat) (bx : List (List AV)) (c : List AV), id ∉ ids → bx[ids.length]? = some c → bx.length = ids.length + 1 → (s.apply (layBoxes id ids bx)) (.box id) = .box c
  | [], [d], c, _, h, _ => by cases h; exact put_box_same _ _ _
  | [], [], _, _, h, _ => by simp at h
  | [], _ :: _ :: _, _, _, _, hl => by simp at hl
  | _ :: _, [], _, _, _, hl => by simp at hl
  | k :: is, d :: r, c, hn, h, hl => by
    have hne : id ≠ k := by rintro rfl; exact hn (by simp)
    show (AS.put _ (.box k) _) (.box id) = _
    rw [put_box_ne _ _ _ _ hne]
    exact layBoxes_new s id h0 is r c (fun h => hn (by simp [h])) (by simpa using h) (by simpa using hl)

theorem boxCell_vr {m m' : Mem} {c : AV} {u : Value} (hc : boxCell c = true) (h : VR0 m c u) (hp : ∀ x v, PR m.w m.ok x v → PR m'.w m'.ok x v) : VR0 m' c u := by
  cases c <;> first | exact h | exact hp _ _ h | (simp [boxCell] at hc)

theorem nodup_get : ∀ {l : List Nat}, nodup l = true → ∀ {i j : Nat} {x : Nat}, l[i]? = some x → l[j]? = some x → i = j
  | [], _, i, j, x, h, _ => by simp at h
  | a :: l, hn, i, j, x, hi, hj => by
    simp only [nodup, Bool.and_eq_true, Bool.not_eq_true'] at hn
    obtain ⟨h1, h2⟩ := hn
    have hno : ∀ y ∈ l, y ≠ a := by
      rintro y hy rfl
      have : l.any (Nat.beq y) = true := List.any_eq_true.2 ⟨y, hy, nbeq_self y⟩
      rw [this] at h1; cases h1
    cases i with
    | zero =>
      cases j with
      | zero => rfl
      | succ j => cases hi; exact absurd rfl (hno _ (List.mem_of_getElem? (by simpa using hj)))
    | succ i =>
      cases j with
      | zero => cases hj; exact absurd rfl (hno _ (List.mem_of_getElem? (by simpa using hi)))
      | succ j => exact congrArg (· + 1) (nodup_get (x := x) h2 (by simpa using hi) (by simpa using hj))


/-- What the caller's memory is behind a call that may change boxes. -/
theorem call_boxes {F : Fr} {a : Act} {m1 : Mem} (h : StX F a m1) (id : Nat) (hA : ¬ m1.A id) (ids : List Nat) (hnd : nodup ids = true) (hlive : ∀ i ∈ ids, ∃ c, m1.s (.box i) = .box c)
    (bx bx' : List (List AV)) (hbl : bx.length = ids.length) (r : AV) (hfit : boxesFit ids r bx' = true) (βc : Nat → Nat) (hβc : ∀ (j i : Nat), ids[j]? = some i → βc j = m1.β i)
    (u : Value) (β' : Nat → Nat) (ok' : Nat → Prop) (w' : World) (hm' : MR (cMem bx' β' ok' w')) (hu : VR (cMem bx' β' ok' w') r u) (hk : Keep (cFr F.P bx βc m1.ok m1.w) w')
    (hβ' : ∀ j, j < bx.length → β' j = βc j) (hnew : ∀ j, bx.length ≤ j → j < bx'.length → m1.w.heap.size ≤ β' j) (hok1 : ∀ b, m1.ok b → ok' b) (hok2 : ∀ b, ok' b → m1.ok b ∨ m1.w.heap.size ≤ b) :
    ∃ m3, StX F a m3 ∧ m3.s = m1.s.apply (layBoxes id ids bx') ∧ m3.w = w' ∧ m3.A = (fun i => m1.A i ∨ i = id) ∧ VR m3 (back ids id r) u := by
  have hm := h.mr
  simp only [boxesFit, Bool.and_eq_true, Bool.or_eq_true] at hfit
  obtain ⟨hlen0, hcells0, hret⟩ := hfit
  have hlen : bx'.length = ids.length ∨ bx'.length = ids.length + 1 := hlen0.imp (fun h => Nat.eq_of_beq_eq_true h) (fun h => Nat.eq_of_beq_eq_true h)
  have hcells : ∀ cs ∈ bx', ∀ c ∈ cs, boxCell c = true := fun cs hcs c hc => List.all_eq_true.1 (List.all_eq_true.1 hcells0 cs hcs) c hc
  have hidn : id ∉ ids := fun hi => by obtain ⟨c, hc⟩ := hlive id hi; exact hA (hm.box id c hc).1
  have hβi : ∀ (j i : Nat), ids[j]? = some i → β' j = m1.β i := fun j i hj => by
    have hlt : j < ids.length := (List.getElem?_eq_some_iff.1 hj).1
    rw [hβ' j (by omega), hβc j i hj]
  have hsz : m1.w.heap.size ≤ w'.heap.size := hk.size
  -- a block that is neither new nor one of the boxes handed over
  have hblk : ∀ k, k < m1.w.heap.size → (∀ i ∈ ids, k ≠ m1.β i) → w'.heap[k]? = m1.w.heap[k]? := fun k hk1 hk2 => hk.block k hk1 (fun j hj => by
    have hj' : j < bx.length := hj
    obtain ⟨i, hi⟩ : ∃ i, ids[j]? = some i := ⟨_, List.getElem?_eq_getElem (by omega)⟩
    show k ≠ βc j
    rw [hβc j i hi]
    exact hk2 i (List.mem_of_getElem? hi))
  have hcell : ∀ b off, m1.ok b → w'.cell? ⟨b, off, none⟩ = m1.w.cell? ⟨b, off, none⟩ := fun b off hb =>
    World.cell?_of_block (w := m1.w) (a := ⟨b, off, none⟩) (hblk b (hm.okLt b hb) (fun i hi => by
      obtain ⟨c, hc⟩ := hlive i hi
      rintro rfl
      exact (hm.box i c hc).2.1 hb))
  let m3 : Mem := ⟨m1.s.apply (layBoxes id ids bx'), upd m1.β id (β' ids.length), m1.τ, fun i => m1.A i ∨ i = id, ok', w'⟩
  have hbox3 : ∀ i c, m3.s (.box i) = .box c → (∃ j : Nat, ids[j]? = some i ∧ bx'[j]? = some c) ∨ (i = id ∧ bx'[ids.length]? = some c ∧ bx'.length = ids.length + 1) ∨ (i ∉ ids ∧ i ≠ id ∧ m1.s (.box i) = .box c) := by
    intro i c hc
    rcases layBoxes_box m1.s id i c ids bx' hc hlen with h1 | h1 | ⟨h1, h2, _⟩
    · exact .inl h1
    · exact .inr (.inl h1)
    · exact .inr (.inr ⟨h1, by rintro rfl; exact hA (hm.box _ c h2).1, h2⟩)
  have htok3 : ∀ t, m3.s (.tok t) = m1.s (.tok t) := fun t => layBoxes_tok m1.s id t ids bx'
  have hneid : ∀ i, m1.A i → i ≠ id := fun i hi => by rintro rfl; exact hA hi
  have he : Ext m1 m3 :=
    { tok := fun t e sz xs' hs _ => ⟨xs', (htok3 t) ▸ hs, rfl, rfl⟩
      box := fun i cs' hs hi => by
        refine ⟨?_, upd_ne _ _ (hneid i hi)⟩
        rcases hbox3 i cs' hs with ⟨j, h1, _⟩ | ⟨h1, _⟩ | ⟨_, _, h2⟩
        · exact hlive i (List.mem_of_getElem? h1)
        · exact absurd h1 (hneid i hi)
        · exact ⟨cs', h2⟩
      A := fun _ h => .inl h
      ok := hok1
      cell := hcell }
  have hpr : ∀ x v, PR (cMem bx' β' ok' w').w (cMem bx' β' ok' w').ok x v → PR m3.w m3.ok x v := fun x v h => h
  -- the place of each box
  have hβ3 : ∀ i c, m3.s (.box i) = .box c → (∃ j : Nat, bx'[j]? = some c ∧ m3.β i = β' j ∧ ((ids[j]? = some i ∧ m3.β i = m1.β i) ∨ (i = id ∧ j = ids.length ∧ m1.w.heap.size ≤ m3.β i))) ∨ (i ∉ ids ∧ i ≠ id ∧ m1.s (.box i) = .box c ∧ m3.β i = m1.β i) := by
    intro i c hc
    rcases hbox3 i c hc with ⟨j, h1, h2⟩ | ⟨rfl, h2, h3⟩ | ⟨h1, h2, h3⟩
    · obtain ⟨c0, hc0⟩ := hlive i (List.mem_of_getElem? h1)
      have hn := hneid i (hm.box i c0 hc0).1
      have e1 : m3.β i = m1.β i := upd_ne _ _ hn
      exact .inl ⟨j, h2, by rw [e1, hβi j i h1], .inl ⟨h1, e1⟩⟩
    · have e1 : m3.β i = β' ids.length := upd_same _ _ _
      exact .inl ⟨ids.length, h2, e1, .inr ⟨rfl, rfl, by rw [e1]; exact hnew _ (by omega) (by omega)⟩⟩
    · exact .inr ⟨h1, h2, h3, upd_ne _ _ h2⟩
  have hm3 : MR m3 := by
    refine ⟨hm'.okLt, fun i c hc => ?_, fun t e sz xs ht => ?_, fun i j ci cj hi hj hne => ?_, fun i j ei ej si sj xi xj p q hi hj hp hq hne => ?_, fun i j ci ej sj xj q hi hj hq => ?_⟩
    · rcases hβ3 i c hc with ⟨j, h1, h2, h3⟩ | ⟨h1, h2, h3, h4⟩
      · have hcj : (cMem bx' β' ok' w').s (.box j) = .box c := by show bxAS bx' (.box j) = _; simp [bxAS, h1]
        obtain ⟨_, g2, cur, e, g3, g4, g5⟩ := hm'.box j c hcj
        refine ⟨?_, by rw [h2]; exact g2, cur, e, by rw [h2]; exact g3, g4, fun k x hk' => ?_⟩
        · rcases h3 with ⟨h3, _⟩ | ⟨h3, _⟩
          · obtain ⟨c0, hc0⟩ := hlive i (List.mem_of_getElem? h3)
            exact .inl (hm.box i c0 hc0).1
          · exact .inr h3
        · obtain ⟨v, q1, q2, q3⟩ := g5 k x hk'
          exact ⟨v, q1, q2, boxCell_vr (hcells c (List.mem_of_getElem? h1) x (List.mem_of_getElem? hk')) q3 hpr⟩
      · obtain ⟨g1, g2, cur, e, g3, g4, g5⟩ := hm.box i c h3
        have hlt := mr_box_lt hm h3
        refine ⟨.inl g1, ?_, cur, e, ?_, g4, fun k x hk' => ?_⟩
        · rw [h4]; intro hb
          rcases hok2 _ hb with hb | hb
          · exact g2 hb
          · omega
        · rw [h4]
          refine (hblk _ hlt (fun i' hi' => ?_)).trans g3
          obtain ⟨c', hc'⟩ := hlive i' hi'
          exact hm.sepB i i' c c' h3 hc' (by rintro rfl; exact h1 hi')
        · obtain ⟨v, q1, q2, q3⟩ := g5 k x hk'
          exact ⟨v, q1, q2, q3.ext he⟩
    · rw [htok3] at ht
      obtain ⟨g1, g2, g3, g4, g5⟩ := hm.tok t e sz xs ht
      refine ⟨.inl g1, g2, g3, g4, fun b o cap hb => ?_⟩
      obtain ⟨q1, q2, q3, cur, q4, q5, q6⟩ := g5 b o cap hb
      have hlt := mr_tok_lt hm ht hb
      refine ⟨fun hbo => ?_, q2, q3, cur, ?_, q5, fun i j c x hi hj => ?_⟩
      · rcases hok2 _ hbo with h1 | h1
        · exact q1 h1
        · have : b < m1.w.heap.size := hlt
          omega
      · refine (hblk b hlt (fun i hi => ?_)).trans q4
        obtain ⟨c, hc⟩ := hlive i hi
        exact fun e' => hm.sepM i t c e sz xs _ hc ht hb e'.symm
      · obtain ⟨v, p1, p2⟩ := q6 i j c x hi hj
        exact ⟨v, p1, ext_ok he p2⟩
    · -- boxes apart
      have old : ∀ i c, m3.s (.box i) = .box c → i ≠ id → (∃ c', m1.s (.box i) = .box c') ∧ m3.β i = m1.β i := by
        intro i c hc hn
        rcases hβ3 i c hc with ⟨j, h1, h2, ⟨h3, h4⟩ | ⟨h3, _⟩⟩ | ⟨_, _, h3, h4⟩
        · exact ⟨hlive i (List.mem_of_getElem? h3), h4⟩
        · exact absurd h3 hn
        · exact ⟨⟨c, h3⟩, h4⟩
      have new : ∀ c, m3.s (.box id) = .box c → m1.w.heap.size ≤ m3.β id := by
        intro c hc
        rcases hβ3 id c hc with ⟨j, h1, h2, ⟨h3, h4⟩ | ⟨_, _, h4⟩⟩ | ⟨_, h2, _⟩
        · exact absurd (List.mem_of_getElem? h3) hidn
        · exact h4
        · exact absurd rfl h2
      by_cases hi' : i = id
      · subst hi'
        obtain ⟨⟨c', hc'⟩, h2⟩ := old j cj hj (fun e => hne e.symm)
        have h3 := new ci hi
        have h4 := mr_box_lt hm hc'
        rw [h2]; omega
      · obtain ⟨⟨c', hc'⟩, h2⟩ := old i ci hi hi'
        by_cases hj' : j = id
        · subst hj'
          have h3 := new cj hj
          have h4 := mr_box_lt hm hc'
          rw [h2]; omega
        · obtain ⟨⟨c2, hc2⟩, h3⟩ := old j cj hj hj'
          rw [h2, h3]
          exact hm.sepB i j c' c2 hc' hc2 hne
    · rw [htok3] at hi hj
      exact hm.sepT i j ei ej si sj xi xj p q hi hj hp hq hne
    · rw [htok3] at hj
      have hlt := mr_tok_lt hm hj hq
      rcases hβ3 i ci hi with ⟨j', h1, h2, ⟨h3, h4⟩ | ⟨_, _, h4⟩⟩ | ⟨_, _, h3, h4⟩
      · obtain ⟨c', hc'⟩ := hlive i (List.mem_of_getElem? h3)
        rw [h4]
        exact hm.sepM i j c' ej sj xj q hc' hj hq
      · omega
      · rw [h4]
        exact hm.sepM i j ci ej sj xj q h3 hj hq
  have hFm : F.m ≤ id := by
    rcases Nat.lt_or_ge id F.m with h1 | h1
    · exact absurd (h.parA id h1) hA
    · exact h1
  refine ⟨m3, h.mem hm3 he (fun l => layBoxes_tmp m1.s id l ids bx') ⟨hk.os.trans h.keep.os, hk.tape.trans h.keep.tape, hk.output.trans h.keep.output, Nat.le_trans h.keep.size hsz, fun k hk1 hk2 => ?_, fun a => (hk.fz a).trans (h.keep.fz a)⟩
    (fun j hj => upd_ne _ _ (by omega)) (fun i c hc hi => ?_) (fun t e sz xs p ht hp => ?_) (fun b hb => ?_), rfl, rfl, rfl, ?_⟩
  · have := h.keep.size
    refine (hblk k (by omega) (fun i hi => ?_)).trans (h.keep.block k hk1 hk2)
    obtain ⟨c, hc⟩ := hlive i hi
    rcases Nat.lt_or_ge i F.m with h1 | h1
    · rw [h.par i h1]; exact hk2 i h1
    · have := h.newB i c hc h1; omega
  · rcases hβ3 i c hc with ⟨j, h1, h2, ⟨h3, h4⟩ | ⟨_, _, h4⟩⟩ | ⟨_, _, h3, h4⟩
    · obtain ⟨c', hc'⟩ := hlive i (List.mem_of_getElem? h3)
      rw [h4]; exact h.newB i c' hc' hi
    · have := h.keep.size; omega
    · rw [h4]; exact h.newB i c h3 hi
  · rw [htok3] at ht
    exact h.newT t e sz xs p ht hp
  · rcases hok2 b hb with h1 | h1
    · exact .inl h1
    · exact .inr (Nat.le_trans h.keep.size h1)
  · -- the result
    have r0 : ∀ c v, retCell c = true → VR0 (cMem bx' β' ok' w') c v → VR0 m3 (back0 ids id c) v := by
      intro c v hc hv
      cases c with
      | ptr j o =>
        obtain ⟨h1, h2, h3⟩ := hv
        have hj : j < bx'.length := h1
        have hlv : ∃ cs, (cMem bx' β' ok' w').s (.box j) = .box cs := ⟨bx'[j], by show bxAS bx' (.box j) = _; simp [bxAS, hj]⟩
        have hve := h3 hlv
        have hve' : v = .pointer (some ⟨β' j, o, none⟩) := hve
        simp only [back0]
        split
        · rename_i i hi
          obtain ⟨c0, hc0⟩ := hlive i (List.mem_of_getElem? hi)
          have hAi := (hm.box i c0 hc0).1
          refine ⟨.inl hAi, h2, fun _ => ?_⟩
          rw [hve']
          show _ = Value.pointer (some ⟨upd m1.β id (β' ids.length) i, o, none⟩)
          rw [upd_ne _ _ (hneid i hAi), hβi j i hi]
        · rename_i hi
          have hge : ids.length ≤ j := List.getElem?_eq_none_iff.1 hi
          have hjj : j = ids.length := by omega
          refine ⟨.inr rfl, h2, fun _ => ?_⟩
          rw [hve', hjj]
          show _ = Value.pointer (some ⟨upd m1.β id (β' ids.length) id, o, none⟩)
          rw [upd_same]
      | _ => exact boxCell_vr hc hv hpr
    have r1 : ∀ c v, ret1 c = true → VR1 (cMem bx' β' ok' w') c v → VR1 m3 (back1 ids id c) v := by
      intro c v hc hv
      by_cases hagg : ∃ cs, c = .agg cs
      · obtain ⟨cs, rfl⟩ := hagg
        obtain ⟨vs, h1, h2, h3⟩ := hv
        refine ⟨vs, h1, by simpa using h2, fun j c hj => ?_⟩
        simp only [List.getElem?_map] at hj
        cases hq : cs[j]? with
        | none => rw [hq] at hj; cases hj
        | some d =>
          rw [hq] at hj
          cases hj
          obtain ⟨v', q1, q2, q3⟩ := h3 j d hq
          exact ⟨v', q1, q2, r0 d v' (List.all_eq_true.1 hc d (List.mem_of_getElem? hq)) q3⟩
      · have hna : ∀ cs, c ≠ .agg cs := fun cs e => hagg ⟨cs, e⟩
        have e1 : ret1 c = retCell c := by cases c <;> first | rfl | exact absurd rfl (hna _)
        have e2 : back1 ids id c = back0 ids id c := by cases c <;> first | rfl | exact absurd rfl (hna _)
        rw [e1] at hc
        rw [e2]
        exact vr0_vr1 (r0 c v hc (vr1_vr0 hv hna))
    by_cases htup : ∃ cs, r = .tup cs
    · obtain ⟨cs, rfl⟩ := htup
      obtain ⟨vs, h1, h2, h3⟩ := hu
      refine ⟨vs, h1, by simpa using h2, fun j c hj => ?_⟩
      simp only [List.getElem?_map] at hj
      cases hq : cs[j]? with
      | none => rw [hq] at hj; cases hj
      | some d =>
        rw [hq] at hj
        cases hj
        obtain ⟨v', q1, q3⟩ := h3 j d hq
        exact ⟨v', q1, r1 d v' (List.all_eq_true.1 hret d (List.mem_of_getElem? hq)) q3⟩
    · have hna : ∀ cs, r ≠ .tup cs := fun cs e => htup ⟨cs, e⟩
      have e1 : retFit r = ret1 r := by cases r <;> first | rfl | exact absurd rfl (hna _)
      have e2 : back ids id r = back1 ids id r := by cases r <;> first | rfl | exact absurd rfl (hna _)
      rw [e1] at hret
      rw [e2]
      exact vr1_vr (r1 r u hret (vr_vr1 hu hna))

end Go.Vc
