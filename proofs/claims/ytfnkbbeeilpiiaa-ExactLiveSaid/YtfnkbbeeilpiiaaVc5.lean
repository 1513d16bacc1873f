/- Vc, part 5: slices of the call's own: let go, taken over, made, opened to reading. -/
import Derived.Test.YtfnkbbeeilpiiaaVc4
namespace Go.Vc
open Go.RowKit

/-- A token is let go. -/
def Mem.dropTok (m : Mem) (k : Nat) : Mem := { m with s := m.s.put (.tok k) .none }

theorem dropTok_tok {m : Mem} {k t : Nat} {e sz xs} (h : (m.dropTok k).s (.tok t) = .tok e sz xs) : t ≠ k ∧ m.s (.tok t) = .tok e sz xs := by
  have h' : (m.s.put (.tok k) .none) (.tok t) = .tok e sz xs := h
  by_cases ht : t = k
  · subst ht
    rw [put_tok_same] at h'
    cases h'
  · rw [put_tok_ne _ _ _ _ ht] at h'
    exact ⟨ht, h'⟩

theorem ext_dropTok (m : Mem) (k : Nat) : Ext m (m.dropTok k) where
  tok := fun _ _ _ xs' h _ => ⟨xs', (dropTok_tok h).2, rfl, rfl⟩
  box := fun _ cs' h _ => ⟨⟨cs', h⟩, rfl⟩
  A := fun _ h => h
  ok := fun _ h => h
  cell := fun _ _ _ => rfl

theorem mr_dropTok {m : Mem} (hm : MR m) (k : Nat) : MR (m.dropTok k) where
  okLt := hm.okLt
  box := fun i cs h => by
    obtain ⟨h1, h2, cur, e, h3, h4, h5⟩ := hm.box i cs h
    exact ⟨h1, h2, cur, e, h3, h4, fun j c hj => let ⟨u, g1, g2, g3⟩ := h5 j c hj; ⟨u, g1, g2, g3.ext (ext_dropTok m k)⟩⟩
  tok := fun t e sz xs h => hm.tok t e sz xs (dropTok_tok h).2
  sepB := hm.sepB
  sepT := fun i j ei ej si sj xi xj p q hi hj hp hq hne => hm.sepT i j ei ej si sj xi xj p q (dropTok_tok hi).2 (dropTok_tok hj).2 hp hq hne
  sepM := fun i j ci ej sj xj q hi hj hq => hm.sepM i j ci ej sj xj q hi (dropTok_tok hj).2 hq

theorem StX.dropTok {F : Fr} {a : Act} {m : Mem} (h : StX F a m) (k : Nat) : StX F a (m.dropTok k) :=
  h.mem (mr_dropTok h.mr k) (ext_dropTok m k) (fun _ => rfl) h.keep (fun _ _ => rfl) h.newB (fun t e sz xs p ht hp => h.newT t e sz xs p (dropTok_tok ht).2 hp) (fun _ hb => .inl hb)

/-- The block is nobody's. -/
structure Free (m : Mem) (b : Nat) : Prop where
  ok : ¬ m.ok b
  box : ∀ i cs, m.s (.box i) = .box cs → m.β i ≠ b
  tok : ∀ t e sz xs p, m.s (.tok t) = .tok e sz xs → m.τ t = some p → p.1 ≠ b

/-- A token is laid on a block that is nobody's; the world may have changed there and at its end. -/
def Mem.claim (m : Mem) (id : Nat) (p : Option (Nat × Nat × Nat)) (e sz : Nat) (xs : List (List AV)) (w' : World) : Mem :=
  { s := m.s.put (.tok id) (.tok e sz xs), β := m.β, τ := upd m.τ id p, A := fun i => m.A i ∨ i = id, ok := m.ok, w := w' }

/-- The world has changed at block b (and at its end) alone. -/
structure At (w w' : World) (b : Nat) : Prop where
  size : w.heap.size ≤ w'.heap.size
  block : ∀ k, k < w.heap.size → k ≠ b → w'.heap[k]? = w.heap[k]?

theorem At.refl (w : World) (b : Nat) : At w w b := ⟨Nat.le_refl _, fun _ _ _ => rfl⟩
theorem At.alloc (w : World) (o : Obj) (b : Nat) : At w (w.alloc o) b := ⟨by simp, fun k hk _ => Below.heap_alloc _ _ _ hk⟩
theorem At.drewAlloc (w : World) (o : Obj) (b : Nat) : At w (w.drew.alloc o) b := ⟨by simp, fun k hk _ => Below.heap_alloc w.drew _ _ hk⟩
theorem At.setRow (w : World) (b : Nat) (cs : Array Value) : At w (w.setRow b cs) b := ⟨by simp, fun k _ hne => setRow_other _ _ _ _ hne⟩

theorem At.cell {w w' : World} {b k off : Nat} (h : At w w' b) (hk : k < w.heap.size) (hne : k ≠ b) : w'.cell? ⟨k, off, none⟩ = w.cell? ⟨k, off, none⟩ :=
  World.cell?_of_block (w := w) (a := ⟨k, off, none⟩) (h.block k hk hne)

theorem mr_box_lt {m : Mem} (hm : MR m) {i : Nat} {cs : List AV} (h : m.s (.box i) = .box cs) : m.β i < m.w.heap.size := by
  obtain ⟨_, _, cur', e', h3, _⟩ := hm.box i cs h
  exact (Array.getElem?_eq_some_iff.1 h3).1

theorem mr_tok_lt {m : Mem} (hm : MR m) {t : Nat} {e sz xs p} (h : m.s (.tok t) = .tok e sz xs) (hp : m.τ t = some p) : p.1 < m.w.heap.size := by
  obtain ⟨_, _, _, _, h5⟩ := hm.tok t e sz xs h
  obtain ⟨b, o, cap⟩ := p
  obtain ⟨_, _, _, cur', h3, _⟩ := h5 b o cap hp
  exact (Array.getElem?_eq_some_iff.1 h3).1

theorem claim_tok {m : Mem} {id : Nat} {p e sz xs w' t et szt xt} (h : (m.claim id p e sz xs w').s (.tok t) = .tok et szt xt) :
    (t = id ∧ et = e ∧ szt = sz ∧ xt = xs) ∨ (t ≠ id ∧ m.s (.tok t) = .tok et szt xt) := by
  have h' : (m.s.put (.tok id) (.tok e sz xs)) (.tok t) = .tok et szt xt := h
  by_cases ht : t = id
  · subst ht
    rw [put_tok_same] at h'
    cases h'
    exact .inl ⟨rfl, rfl, rfl, rfl⟩
  · rw [put_tok_ne _ _ _ _ ht] at h'
    exact .inr ⟨ht, h'⟩

theorem ext_claim {m : Mem} (hm : MR m) {id : Nat} {p : Option (Nat × Nat × Nat)} {e sz : Nat} {xs : List (List AV)} {w' : World} {b : Nat} (hA : ¬ m.A id)
    (hat : At m.w w' b) (hf : ¬ m.ok b) : Ext m (m.claim id p e sz xs w') where
  tok := fun t e' sz' xs' h ht => by
    rcases claim_tok h with ⟨rfl, _⟩ | ⟨hne, h'⟩
    · exact absurd ht hA
    · exact ⟨xs', h', rfl, upd_ne _ _ hne⟩
  box := fun _ cs' h _ => ⟨⟨cs', h⟩, rfl⟩
  A := fun _ h => .inl h
  ok := fun _ h => h
  cell := fun k _ hk => hat.cell (hm.okLt k hk) (by rintro rfl; exact hf hk)

theorem StX.claim {F : Fr} {a : Act} {m : Mem} (h : StX F a m) (id : Nat) (b o cap e sz : Nat) (xs : List (List AV)) (w' : World) (cur : Array Value) (hA : ¬ m.A id)
    (hat : At m.w w' b) (hf : Free m b) (hk : Keep F w') (hbB : F.w0.heap.size ≤ b)
    (hsz : 0 < sz) (hxs : ∀ c ∈ xs, c.length = sz) (hcap : xs.length ≤ cap) (hmax : cap ≤ maxLen) (hcur : w'.heap[b]? = some (.cells cur e (0, 0))) (hfit : o + cap * sz ≤ cur.size)
    (hc : ∀ (i j : Nat) (c : List AV) (x : AV), xs[i]? = some c → c[j]? = some x → ∃ u, cur[o + (i * sz + j)]? = some u ∧ PR m.w m.ok x u) :
    StX F a (m.claim id (some (b, o, cap)) e sz xs w') := by
  have hm := h.mr
  have he := ext_claim (p := some (b, o, cap)) (e := e) (sz := sz) (xs := xs) hm hA hat hf.ok
  refine h.mem ⟨fun k hk' => ?_, fun i cs' hi => ?_, fun t et szt xt ht => ?_, hm.sepB, fun i j ei ej si sj xi xj p q hi hj hp hq hne => ?_, fun i j ci ej sj xj q hi hj hq => ?_⟩ he (fun _ => rfl) hk
    (fun _ _ => rfl) h.newB (fun t et szt xt p ht hp => ?_) (fun _ hb => .inl hb)
  · have := hm.okLt k hk'
    have := hat.size
    show k < w'.heap.size
    omega
  · obtain ⟨h1, h2, cur', e', h3, h4, h5⟩ := hm.box i cs' hi
    refine ⟨.inl h1, h2, cur', e', ?_, h4, fun j c hj => ?_⟩
    · exact (hat.block _ (mr_box_lt hm hi) (hf.box i cs' hi)).trans h3
    · obtain ⟨u, g1, g2, g3⟩ := h5 j c hj
      exact ⟨u, g1, g2, g3.ext he⟩
  · rcases claim_tok ht with ⟨rfl, rfl, rfl, rfl⟩ | ⟨hne, h'⟩
    · refine ⟨.inr rfl, hsz, hxs, fun hn => ?_, fun b' o' cap' hb' => ?_⟩
      · have hn' : upd m.τ t (some (b, o, cap)) t = none := hn
        rw [upd_same] at hn'
        cases hn'
      · have hb'' : upd m.τ t (some (b, o, cap)) t = some (b', o', cap') := hb'
        rw [upd_same] at hb''
        cases hb''
        refine ⟨hf.ok, hcap, hmax, cur, hcur, hfit, fun i j c x hi hj => ?_⟩
        obtain ⟨u, g1, g2⟩ := hc i j c x hi hj
        exact ⟨u, g1, g2.ext he.ok he.cell⟩
    · obtain ⟨h1, h2, h3, h4, h5⟩ := hm.tok t et szt xt h'
      have hτ : (m.claim id (some (b, o, cap)) e sz xs w').τ t = m.τ t := upd_ne _ _ hne
      refine ⟨.inl h1, h2, h3, fun hn => h4 (hτ ▸ hn), fun b' o' cap' hb' => ?_⟩
      rw [hτ] at hb'
      obtain ⟨g1, g2, g3, cur', g4, g5, g6⟩ := h5 b' o' cap' hb'
      refine ⟨g1, g2, g3, cur', ?_, g5, fun i j c x hi hj => ?_⟩
      · exact (hat.block _ (mr_tok_lt hm h' hb') (hf.tok t et szt xt _ h' hb')).trans g4
      · obtain ⟨u, q1, q2⟩ := g6 i j c x hi hj
        exact ⟨u, q1, q2.ext he.ok he.cell⟩
  · have hp' : upd m.τ id (some (b, o, cap)) i = some p := hp
    have hq' : upd m.τ id (some (b, o, cap)) j = some q := hq
    rcases claim_tok hi with ⟨rfl, rfl, rfl, rfl⟩ | ⟨h1, h1'⟩ <;> rcases claim_tok hj with ⟨rfl, rfl, rfl, rfl⟩ | ⟨h2, h2'⟩
    · exact absurd rfl hne
    · rw [upd_same] at hp'
      rw [upd_ne _ _ h2] at hq'
      cases hp'
      exact fun e => hf.tok j ej sj xj q h2' hq' e.symm
    · rw [upd_same] at hq'
      rw [upd_ne _ _ h1] at hp'
      cases hq'
      exact hf.tok i ei si xi p h1' hp'
    · rw [upd_ne _ _ h1] at hp'
      rw [upd_ne _ _ h2] at hq'
      exact hm.sepT i j ei ej si sj xi xj p q h1' h2' hp' hq' hne
  · have hq' : upd m.τ id (some (b, o, cap)) j = some q := hq
    rcases claim_tok hj with ⟨rfl, rfl, rfl, rfl⟩ | ⟨h2, h2'⟩
    · rw [upd_same] at hq'
      cases hq'
      exact hf.box i ci hi
    · rw [upd_ne _ _ h2] at hq'
      exact hm.sepM i j ci ej sj xj q hi h2' hq'
  · have hp' : upd m.τ id (some (b, o, cap)) t = some p := hp
    rcases claim_tok ht with ⟨rfl, rfl, rfl, rfl⟩ | ⟨h2, h2'⟩
    · rw [upd_same] at hp'
      cases hp'
      exact hbB
    · rw [upd_ne _ _ h2] at hp'
      exact h.newT t et szt xt p h2' hp'

/-- A token for a nil slice. -/
theorem StX.claimNil {F : Fr} {a : Act} {m : Mem} (h : StX F a m) (id : Nat) (e sz : Nat) (hA : ¬ m.A id) (hsz : 0 < sz) :
    StX F a (m.claim id none e sz [] m.w) := by
  have hm := h.mr
  have he : Ext m (m.claim id none e sz [] m.w) :=
    { tok := fun t e' sz' xs' h ht => by
        rcases claim_tok h with ⟨rfl, _⟩ | ⟨hne, h'⟩
        · exact absurd ht hA
        · exact ⟨xs', h', rfl, upd_ne _ _ hne⟩
      box := fun _ cs' h _ => ⟨⟨cs', h⟩, rfl⟩
      A := fun _ h => .inl h
      ok := fun _ h => h
      cell := fun _ _ _ => rfl }
  refine h.mem ⟨hm.okLt, fun i cs' hi => ?_, fun t et szt xt ht => ?_, hm.sepB, fun i j ei ej si sj xi xj p q hi hj hp hq hne => ?_, fun i j ci ej sj xj q hi hj hq => ?_⟩ he (fun _ => rfl) h.keep
    (fun _ _ => rfl) h.newB (fun t et szt xt p ht hp => ?_) (fun _ hb => .inl hb)
  · obtain ⟨h1, h2, cur', e', h3, h4, h5⟩ := hm.box i cs' hi
    refine ⟨.inl h1, h2, cur', e', h3, h4, fun j c hj => ?_⟩
    obtain ⟨u, g1, g2, g3⟩ := h5 j c hj
    exact ⟨u, g1, g2, g3.ext he⟩
  · rcases claim_tok ht with ⟨rfl, rfl, rfl, rfl⟩ | ⟨hne, h'⟩
    · refine ⟨.inr rfl, hsz, by simp, fun _ => rfl, fun b' o' cap' hb' => ?_⟩
      have hb'' : upd m.τ t none t = some (b', o', cap') := hb'
      rw [upd_same] at hb''
      cases hb''
    · obtain ⟨h1, h2, h3, h4, h5⟩ := hm.tok t et szt xt h'
      have hτ : (m.claim id none e sz [] m.w).τ t = m.τ t := upd_ne _ _ hne
      exact ⟨.inl h1, h2, h3, fun hn => h4 (hτ ▸ hn), fun b' o' cap' hb' => h5 b' o' cap' (hτ ▸ hb')⟩
  · have hp' : upd m.τ id none i = some p := hp
    have hq' : upd m.τ id none j = some q := hq
    rcases claim_tok hi with ⟨rfl, rfl, rfl, rfl⟩ | ⟨h1, h1'⟩
    · rw [upd_same] at hp'; cases hp'
    rcases claim_tok hj with ⟨rfl, rfl, rfl, rfl⟩ | ⟨h2, h2'⟩
    · rw [upd_same] at hq'; cases hq'
    rw [upd_ne _ _ h1] at hp'
    rw [upd_ne _ _ h2] at hq'
    exact hm.sepT i j ei ej si sj xi xj p q h1' h2' hp' hq' hne
  · have hq' : upd m.τ id none j = some q := hq
    rcases claim_tok hj with ⟨rfl, rfl, rfl, rfl⟩ | ⟨h2, h2'⟩
    · rw [upd_same] at hq'; cases hq'
    · rw [upd_ne _ _ h2] at hq'
      exact hm.sepM i j ci ej sj xj q hi h2' hq'
  · have hp' : upd m.τ id none t = some p := hp
    rcases claim_tok ht with ⟨rfl, rfl, rfl, rfl⟩ | ⟨h2, h2'⟩
    · rw [upd_same] at hp'; cases hp'
    · rw [upd_ne _ _ h2] at hp'
      exact h.newT t et szt xt p h2' hp'

theorem fresh_free {m : Mem} (hm : MR m) : Free m m.w.heap.size where
  ok := fun h => by have := hm.okLt _ h; omega
  box := fun i cs h => by have := mr_box_lt hm h; omega
  tok := fun t e sz xs p h hp => by have := mr_tok_lt hm h hp; omega

/-- The block of a token that is let go is nobody's. -/
theorem drop_free {m : Mem} (hm : MR m) {k e sz xs b o cap} (hk : m.s (.tok k) = .tok e sz xs) (hp : m.τ k = some (b, o, cap)) : Free (m.dropTok k) b where
  ok := ((hm.tok k e sz xs hk).2.2.2.2 b o cap hp).1
  box := fun i cs h => hm.sepM i k cs e sz xs (b, o, cap) h hk hp
  tok := fun t et szt xt p h hpt => hm.sepT t k et e szt sz xt xs p (b, o, cap) (dropTok_tok h).2 hk hpt hp (dropTok_tok h).1

/-- A block that is nobody's may be read from now on. -/
def Mem.openB (m : Mem) (b : Nat) : Mem := { m with ok := fun k => m.ok k ∨ k = b }

theorem ext_openB (m : Mem) (b : Nat) : Ext m (m.openB b) where
  tok := fun _ _ _ xs' h _ => ⟨xs', h, rfl, rfl⟩
  box := fun _ cs' h _ => ⟨⟨cs', h⟩, rfl⟩
  A := fun _ h => h
  ok := fun _ h => .inl h
  cell := fun _ _ _ => rfl

theorem StX.openB {F : Fr} {a : Act} {m : Mem} (h : StX F a m) (b : Nat) (hf : Free m b) (hb : b < m.w.heap.size) (hB : F.w0.heap.size ≤ b) : StX F a (m.openB b) := by
  have hm := h.mr
  have he := ext_openB m b
  refine h.mem ⟨fun k hk => ?_, fun i cs' hi => ?_, fun t et szt xt ht => ?_, hm.sepB, hm.sepT, hm.sepM⟩ he (fun _ => rfl) h.keep (fun _ _ => rfl) h.newB h.newT (fun k hk => ?_)
  · rcases hk with hk | rfl
    · exact hm.okLt k hk
    · exact hb
  · obtain ⟨h1, h2, cur', e', h3, h4, h5⟩ := hm.box i cs' hi
    refine ⟨h1, fun hk => hk.elim h2 (hf.box i cs' hi), cur', e', h3, h4, fun j c hj => ?_⟩
    obtain ⟨u, g1, g2, g3⟩ := h5 j c hj
    exact ⟨u, g1, g2, g3.ext he⟩
  · obtain ⟨h1, h2, h3, h4, h5⟩ := hm.tok t et szt xt ht
    refine ⟨h1, h2, h3, h4, fun b' o' cap' hb' => ?_⟩
    obtain ⟨g1, g2, g3, cur', g4, g5, g6⟩ := h5 b' o' cap' hb'
    refine ⟨fun hk => hk.elim g1 (hf.tok t et szt xt _ ht hb'), g2, g3, cur', g4, g5, fun i j c x hi hj => ?_⟩
    obtain ⟨u, q1, q2⟩ := g6 i j c x hi hj
    exact ⟨u, q1, q2.ext he.ok he.cell⟩
  · rcases hk with hk | rfl
    · exact .inl hk
    · exact .inr hB

end Go.Vc
