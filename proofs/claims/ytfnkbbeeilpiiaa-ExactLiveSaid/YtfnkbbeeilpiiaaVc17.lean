/- Vc, part 17: calls by contract. -/
import Derived.Test.YtfnkbbeeilpiiaaVc16
namespace Go.Vc
open Go.RowKit

/-- The boxes of a contract. -/
def bxAS (bx : List (List AV)) : AS := fun l => match l with
  | .box j => match bx[j]? with
    | some cs => .box cs
    | none => .none
  | _ => .none

def cMem (bx : List (List AV)) (β : Nat → Nat) (ok : Nat → Prop) (w : World) : Mem := ⟨bxAS bx, β, fun _ => none, fun i => i < bx.length, ok, w⟩

def cFr (P : Program) (bx : List (List AV)) (β : Nat → Nat) (ok : Nat → Prop) (w : World) : Fr := ⟨P, 0, w, ok, β, bx.length⟩

/-- What a call leaves. -/
def Post (P : Program) (bx : List (List AV)) (β : Nat → Nat) (ok : Nat → Prop) (w : World) (r : AV) (bx' : List (List AV)) (e : Ending) (w' : World) : Prop :=
  ∃ u β' ok', e = .returned u ∧ MR (cMem bx' β' ok' w') ∧ VR (cMem bx' β' ok' w') r u ∧ Keep (cFr P bx β ok w) w' ∧ (∀ j, j < bx.length → β' j = β j) ∧
    (∀ j, bx.length ≤ j → j < bx'.length → w.heap.size ≤ β' j) ∧ (∀ b, ok b → ok' b) ∧ (∀ b, ok' b → ok b ∨ w.heap.size ≤ b)

/-- THE CONTRACT OF A FUNCTION at abstract arguments: it returns r, and the boxes that came in hold bx'. -/
structure Contract (P : Program) (f : FuncId) (args : List AV) (bx : List (List AV)) (r : AV) (bx' : List (List AV)) : Prop where
  call : ∀ (vs : Array Value) (w : World), (callFunc f vs).run P w = .ok (.enter f vs) w
  body : ∀ (w : World) (β : Nat → Nat) (ok : Nat → Prop) (vs : Array Value), MR (cMem bx β ok w) → vs.size = args.length →
    (∀ (i : Nat) (c : AV), args[i]? = some c → ∃ u, vs[i]? = some u ∧ VR1 (cMem bx β ok w) c u) → Calls P f vs w (Post P bx β ok w r bx')

/-- The world has grown: nothing that was there has turned. -/
theorem StX.grow {F : Fr} {a : Act} {m : Mem} (h : StX F a m) (w' : World) (hs : m.w.heap.size ≤ w'.heap.size) (hb : ∀ k, k < m.w.heap.size → w'.heap[k]? = m.w.heap[k]?)
    (hz : ∀ a, w'.frozen? a = m.w.frozen? a)
    (ho : w'.os = m.w.os) (ht : w'.tape = m.w.tape) (hu : w'.output = m.w.output) : StX F a { m with w := w' } := by
  have hm := h.mr
  have he : Ext m { m with w := w' } := ⟨fun _ _ _ xs' h _ => ⟨xs', h, rfl, rfl⟩, fun _ cs' h _ => ⟨⟨cs', h⟩, rfl⟩, fun _ h => h, fun _ h => h,
    fun b off hk => World.cell?_of_block (w := m.w) (a := ⟨b, off, none⟩) (hb b (hm.okLt b hk))⟩
  refine h.mem ⟨fun k hk => ?_, fun i cs hi => ?_, fun t e sz xs ht' => ?_, hm.sepB, hm.sepT, hm.sepM⟩ he (fun _ => rfl) ⟨ho.trans h.keep.os, ht.trans h.keep.tape, hu.trans h.keep.output, Nat.le_trans h.keep.size hs, fun k hk hj => ?_, fun a => (hz a).trans (h.keep.fz a)⟩
    (fun _ _ => rfl) h.newB h.newT (fun _ hb => .inl hb)
  · exact Nat.lt_of_lt_of_le (hm.okLt k hk) hs
  · obtain ⟨h1, h2, cur, e, h3, h4, h5⟩ := hm.box i cs hi
    exact ⟨h1, h2, cur, e, (hb _ (mr_box_lt hm hi)).trans h3, h4, fun j c hj => let ⟨u, g1, g2, g3⟩ := h5 j c hj; ⟨u, g1, g2, g3.ext he⟩⟩
  · obtain ⟨h1, h2, h3, h4, h5⟩ := hm.tok t e sz xs ht'
    refine ⟨h1, h2, h3, h4, fun b o cap hk => ?_⟩
    obtain ⟨g1, g2, g3, cur, g4, g5, g6⟩ := h5 b o cap hk
    exact ⟨g1, g2, g3, cur, (hb _ (mr_tok_lt hm ht' hk)).trans g4, g5, fun i j c x hi hj => let ⟨u, q1, q2⟩ := g6 i j c x hi hj; ⟨u, q1, ext_ok he q2⟩⟩
  · have := h.keep.size
    rw [hb k (by omega)]
    exact h.keep.block k hk hj

/-! ### What is handed over -/

theorem view0_vr {m m' : Mem} (he : Ext m m') {ks : List Nat} (hk : ∀ t ∈ ks, ∀ e sz xs v, m.s (.tok t) = .tok e sz xs → VR0 m (.own t) v → PR m'.w m'.ok (.lst sz false xs) v)
    {c d : AV} {k : List Nat} {u : Value} (h : view0 m.s c = some (d, k)) (hsub : ∀ t ∈ k, t ∈ ks) (hv : VR0 m c u) (m2 : Mem) (hw : m2.w = m'.w) (hok : m2.ok = m'.ok) : VR0 m2 d u := by
  unfold view0 at h
  split at h
  · cases h
  · cases h; exact hv
  · have := persist_pr he hk h hsub hv
    rw [← hw, ← hok] at this
    exact this.vr0

theorem viewAll_vr {m m' : Mem} (he : Ext m m') {ks : List Nat} (hk : ∀ t ∈ ks, ∀ e sz xs v, m.s (.tok t) = .tok e sz xs → VR0 m (.own t) v → PR m'.w m'.ok (.lst sz false xs) v) (m2 : Mem) (hw : m2.w = m'.w) (hok : m2.ok = m'.ok) :
    ∀ (cs ds : List AV) (k : List Nat) (us : List Value), viewAll m.s cs = some (ds, k) → (∀ t ∈ k, t ∈ ks) → us.length = cs.length →
      (∀ (j : Nat) (c : AV), cs[j]? = some c → ∃ u, us[j]? = some u ∧ u.oneCell' = true ∧ VR0 m c u) →
      ds.length = cs.length ∧ ∀ (j : Nat) (x : AV), ds[j]? = some x → ∃ u, us[j]? = some u ∧ u.oneCell' = true ∧ VR0 m2 x u
  | [], ds, k, us, h, _, _, _ => by
    simp only [viewAll, Option.some.injEq, Prod.mk.injEq] at h
    obtain ⟨rfl, _⟩ := h
    simp
  | c :: cs, ds, k, us, h, hsub, hl, hv => by
    simp only [viewAll] at h
    split at h
    · rename_i d k1 hp
      split at h
      · rename_i ds' k2 hq
        cases h
        match us, hl with
        | u :: us, hl =>
          obtain ⟨u', e1, e2, e3⟩ := hv 0 c rfl
          cases e1
          obtain ⟨g1, g2⟩ := viewAll_vr he hk m2 hw hok cs ds' k2 us hq (fun t ht => hsub t (by simp [ht])) (by simpa using hl) (fun j c hj => by simpa using hv (j + 1) c (by simpa using hj))
          refine ⟨by simp [g1], fun j x hj => ?_⟩
          cases j with
          | zero => cases hj; exact ⟨u, rfl, e2, view0_vr he hk hp (fun t ht => hsub t (by simp [ht])) e3 m2 hw hok⟩
          | succ j => simpa using g2 j x (by simpa using hj)
      · cases h
    · cases h

theorem vr_vr1 {m : Mem} {c : AV} {u : Value} (h : VR m c u) (hc : ∀ vs, c ≠ .tup vs) : VR1 m c u := by
  cases c <;> first | exact h | exact absurd rfl (hc _)

theorem vr1_vr0 {m : Mem} {c : AV} {u : Value} (h : VR1 m c u) (hc : ∀ vs, c ≠ .agg vs) : VR0 m c u := by
  cases c <;> first | exact h | exact absurd rfl (hc _)

theorem vr0_vr1 {m : Mem} {c : AV} {u : Value} (h : VR0 m c u) : VR1 m c u := by
  cases c <;> first | exact h | exact (show False from h).elim

theorem vr1_vr {m : Mem} {c : AV} {u : Value} (h : VR1 m c u) : VR m c u := by
  cases c <;> first | exact h | exact (show False from h).elim

theorem view_vr {m m' : Mem} (he : Ext m m') {ks : List Nat} (hk : ∀ t ∈ ks, ∀ e sz xs v, m.s (.tok t) = .tok e sz xs → VR0 m (.own t) v → PR m'.w m'.ok (.lst sz false xs) v)
    {c d : AV} {k : List Nat} {u : Value} (h : view m.s c = some (d, k)) (hsub : ∀ t ∈ k, t ∈ ks) (hv : VR m c u) (m2 : Mem) (hw : m2.w = m'.w) (hok : m2.ok = m'.ok) : VR1 m2 d u := by
  unfold view at h
  split at h
  · rename_i cs
    split at h
    · rename_i ds k' hq
      cases h
      obtain ⟨vs, rfl, h2, h3⟩ := hv
      obtain ⟨g1, g2⟩ := viewAll_vr he hk m2 hw hok cs ds k vs.toList hq hsub (by simpa using h2) (fun j c hj => by simpa using h3 j c hj)
      exact ⟨vs, rfl, by rw [g1]; exact h2, fun j c hj => by simpa using g2 j c hj⟩
    · cases h
  · rename_i hna
    refine vr0_vr1 (view0_vr he hk h hsub ?_ m2 hw hok)
    refine vr1_vr0 (vr_vr1 hv ?_) hna
    rintro vs rfl
    simp [view0, persist] at h


/-- All the arguments of a call, as the callee sees them. -/
theorem viewArgs_vr {m m' : Mem} (he : Ext m m') {ks : List Nat} (hk : ∀ t ∈ ks, ∀ e sz xs v, m.s (.tok t) = .tok e sz xs → VR0 m (.own t) v → PR m'.w m'.ok (.lst sz false xs) v)
    (m2 : Mem) (hw : m2.w = m'.w) (hok : m2.ok = m'.ok) (ids : List Nat) (hβ : ∀ (j id : Nat), ids[j]? = some id → m2.β j = m.β id) (hA : ∀ (j id : Nat), ids[j]? = some id → m2.A j) :
    ∀ (args : List AV) (n : Nat) (as : List AV) (bs : List (Nat × List AV)) (ka kb : List Nat) (us : List Value), viewArgs m.s n args = some (as, bs, ka, kb) → (∀ t ∈ ka, t ∈ ks) → (∀ t ∈ kb, t ∈ ks) →
      (∀ (j : Nat), ids[n + j]? = (bs.map (·.1))[j]?) → us.length = args.length → (∀ (i : Nat) (c : AV), args[i]? = some c → ∃ u, us[i]? = some u ∧ VR m c u) →
      (as.length = args.length ∧ ∀ (i : Nat) (c : AV), as[i]? = some c → ∃ u, us[i]? = some u ∧ VR1 m2 c u) ∧
        ∀ (j id : Nat) (ds : List AV), bs[j]? = some (id, ds) → ∃ cs k, m.s (.box id) = .box cs ∧ persistAll m.s cs = some (ds, k) ∧ ∀ t ∈ k, t ∈ ks
  | [], n, as, bs, ka, kb, us, h, _, _, _, _, _ => by
    simp only [viewArgs, Option.some.injEq, Prod.mk.injEq] at h
    obtain ⟨rfl, rfl, _⟩ := h
    simp
  | c :: args, n, as, bs, ka, kb, us, h, hka, hkb, hids, hl, hv => by
    match us, hl with
    | u :: us, hl =>
      obtain ⟨u', e1, e2⟩ := hv 0 c rfl
      cases e1
      have hv' : ∀ (i : Nat) (c : AV), args[i]? = some c → ∃ u, us[i]? = some u ∧ VR m c u := fun i c hi => by simpa using hv (i + 1) c (by simpa using hi)
      -- a plain argument
      have plain : ∀ d k as' bs' ka' kb', view m.s c = some (d, k) → viewArgs m.s n args = some (as', bs', ka', kb') → as = d :: as' → bs = bs' → ka = k ++ ka' → kb = kb' →
          (as.length = (c :: args).length ∧ ∀ (i : Nat) (c : AV), as[i]? = some c → ∃ w, (u :: us)[i]? = some w ∧ VR1 m2 c w) ∧
          ∀ (j id : Nat) (ds : List AV), bs[j]? = some (id, ds) → ∃ cs k, m.s (.box id) = .box cs ∧ persistAll m.s cs = some (ds, k) ∧ ∀ t ∈ k, t ∈ ks := by
        intro d k as' bs' ka' kb' h1 h2 h3 h4 h5 h6
        subst h3 h4 h5 h6
        obtain ⟨⟨g1, g2⟩, g3⟩ := viewArgs_vr he hk m2 hw hok ids hβ hA args n as' bs ka' kb us h2 (fun t ht => hka t (by simp [ht])) hkb hids (by simpa using hl) hv'
        refine ⟨⟨by simp [g1], fun i c hi => ?_⟩, g3⟩
        cases i with
        | zero => cases hi; exact ⟨u, rfl, view_vr he hk h1 (fun t ht => hka t (by simp [ht])) e2 m2 hw hok⟩
        | succ i => simpa using g2 i c (by simpa using hi)
      obtain ⟨N, hN⟩ : ∃ N, N = n := ⟨n, rfl⟩
      unfold viewArgs at h
      split at h
      · rename_i heq; cases heq
      · rename_i id r heq
        cases heq
        subst hN
        split at h
        · rename_i cs hb
          split at h
          · rename_i ds k hp
            split at h
            · rename_i as' bs' ka' kb' hr
              cases h
              have hids' : ∀ j, ids[N + 1 + j]? = (bs'.map (·.1))[j]? := fun j => by
                have := hids (j + 1)
                simpa [Nat.add_assoc, Nat.add_comm 1 j] using this
              obtain ⟨⟨g1, g2⟩, g3⟩ := viewArgs_vr he hk m2 hw hok ids hβ hA args (N + 1) as' bs' ka kb' us hr hka (fun t ht => hkb t (by simp [ht])) hids' (by simpa using hl) hv'
              have hn : ids[N]? = some id := by have := hids 0; simpa using this
              refine ⟨⟨by simp [g1], fun i c hi => ?_⟩, fun j id' ds' hj => ?_⟩
              · cases i with
                | zero =>
                  cases hi
                  have e2' : VR0 m (.ptr id 0) u := e2
                  refine ⟨u, rfl, hA N id hn, e2'.2.1, fun _ => ?_⟩
                  rw [hβ N id hn]
                  exact e2'.2.2 ⟨cs, hb⟩
                | succ i => simpa using g2 i c (by simpa using hi)
              · cases j with
                | zero => cases hj; exact ⟨cs, k, hb, hp, fun t ht => hkb t (by simp [ht])⟩
                | succ j => exact g3 j id' ds' (by simpa using hj)
            · cases h
          · cases h
        · cases h
      · rename_i v r hnp heq
        cases heq
        subst hN
        split at h
        · rename_i d k hvw
          split at h
          · rename_i as' bs' ka' kb' hr
            cases h
            exact plain d k as' bs ka' kb hvw hr rfl rfl rfl rfl
          · cases h
        · cases h

end Go.Vc
