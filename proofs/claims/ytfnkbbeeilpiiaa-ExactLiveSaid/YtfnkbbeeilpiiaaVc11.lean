/- Vc, part 11: slices of the call's own: read, made, appended to, cut. -/
import Derived.Test.YtfnkbbeeilpiiaaVc10
namespace Go.Vc
open Go.RowKit

/-- What is known of a slice that can be read. -/
structure Reads (m : Mem) (xs : List (List AV)) (v : Value) (sz : Nat) (ad : Option Addr) (cap : Nat) (news : List Value) : Prop where
  eq : v = .slice ad xs.length cap
  fr : FR (PR m.w m.ok) sz xs news
  cell : ∀ a, ad = some a → ∀ (j : Nat) (u : Value), news[j]? = some u → m.w.cell? (a.add j) = some u
  nil : ad = Option.none → xs = []
  le : xs.length ≤ cap

theorem div_mod_lt {k n sz : Nat} (h : k < n * sz) : k / sz < n ∧ k % sz < sz ∧ k / sz * sz + k % sz = k := by
  have hsz : 0 < sz := by
    rcases Nat.eq_zero_or_pos sz with h0 | h0
    · subst h0; simp at h
    · exact h0
  exact ⟨Nat.div_lt_of_lt_mul (by rw [Nat.mul_comm]; exact h), Nat.mod_lt _ hsz, Nat.div_add_mod' k sz⟩

theorem addr_add {a : Addr} (h : a.spot = none) (j : Nat) : a.add j = ⟨a.block, a.off + j, none⟩ := by
  obtain ⟨b, o, sp⟩ := a
  simp only at h
  subst h
  exact add_none b o j

/-- A plain list reads. -/
theorem reads_lst {m : Mem} {sz : Nat} {f : Bool} {xs : List (List AV)} {v : Value} (h : PR m.w m.ok (.lst sz f xs) v) :
    ∃ ad cap news, Reads m xs v sz ad cap news ∧ (f = true → cap = xs.length) := by
  cases h with
  | lst sz full xs a cap u hcap hmax hfull hsz hnone hcell hrec =>
    refine ⟨a, cap, (List.range (xs.length * sz)).map (fun k => u (k / sz) (k % sz)), ⟨rfl, ⟨by simp, hsz, fun i j c x hi hj => ?_⟩, fun ad hA j w hj => ?_, fun hA => ?_, hcap⟩, hfull⟩
    · have hjlt : j < c.length := (List.getElem?_eq_some_iff.1 hj).1
      have hc := hsz c (List.mem_of_getElem? hi)
      have hilt : i < xs.length := (List.getElem?_eq_some_iff.1 hi).1
      have hlt : i * sz + j < xs.length * sz := by
        have : (i + 1) * sz ≤ xs.length * sz := Nat.mul_le_mul_right sz hilt
        rw [Nat.add_mul] at this
        omega
      have e1 : (i * sz + j) / sz = i := by
        rw [Nat.add_comm, Nat.add_mul_div_right _ _ (by omega), Nat.div_eq_of_lt (by omega)]; omega
      have e2 : (i * sz + j) % sz = j := by
        rw [Nat.add_comm, Nat.add_mul_mod_self_right, Nat.mod_eq_of_lt (by omega)]
      refine ⟨u i j, ?_, hrec i j c x hi hj⟩
      rw [List.getElem?_map, List.getElem?_range hlt]
      simp [e1, e2]
    · rw [List.getElem?_map] at hj
      have hlt : j < xs.length * sz := by
        rcases Nat.lt_or_ge j (xs.length * sz) with h1 | h1
        · exact h1
        · rw [List.getElem?_eq_none (by simpa using h1)] at hj; cases hj
      rw [List.getElem?_range hlt] at hj
      simp only [Option.map_some, Option.some.injEq] at hj
      obtain ⟨d1, d2, d3⟩ := div_mod_lt hlt
      have hi := List.getElem?_eq_getElem d1
      have hc := hsz _ (List.getElem_mem d1)
      obtain ⟨h1, h2, h3⟩ := hcell _ (j % sz) _ _ hi (List.getElem?_eq_getElem (by omega)) ad hA
      rw [addr_add h1]
      rw [d3, hj] at h3
      exact h3
    · have := hnone hA
      have : xs.length = 0 := by omega
      exact List.eq_nil_of_length_eq_zero this

/-- A slice of the call's own reads. -/
theorem reads_own {m : Mem} (hm : MR m) {k : Nat} {v : Value} (h : VR0 m (.own k) v) {e sz : Nat} {xs : List (List AV)} (hs : m.s (.tok k) = .tok e sz xs) :
    (m.τ k = none ∧ v = .slice none 0 0 ∧ xs = []) ∨ ∃ b o cap cur, m.τ k = some (b, o, cap) ∧ v = .slice (some ⟨b, o, none⟩) xs.length cap ∧ m.w.heap[b]? = some (.cells cur e (0, 0)) ∧ o + cap * sz ≤ cur.size ∧
      xs.length ≤ cap ∧ cap ≤ maxLen ∧ Reads m xs v sz (some ⟨b, o, none⟩) cap ((cur.toList.drop o).take (xs.length * sz)) := by
  obtain ⟨_, _, h2⟩ := h
  obtain ⟨g1, g2⟩ := h2 e sz xs hs
  obtain ⟨_, t1, t2, t3, t4⟩ := hm.tok k e sz xs hs
  cases hτ : m.τ k with
  | none => exact .inl ⟨rfl, g1 hτ, t3 hτ⟩
  | some p =>
    obtain ⟨b, o, cap⟩ := p
    obtain ⟨_, c1, c2, cur, c3, c4, c5⟩ := t4 b o cap hτ
    have hv := g2 b o cap hτ
    have hmul : xs.length * sz ≤ cap * sz := Nat.mul_le_mul_right sz c1
    refine .inr ⟨b, o, cap, cur, rfl, hv, c3, c4, c1, c2, hv, ⟨?_, t2, fun i j c x hi hj => ?_⟩, fun a ha j u hj => ?_, (fun hn => by cases hn), c1⟩
    · simp; omega
    · obtain ⟨u, q1, q2⟩ := c5 i j c x hi hj
      have hilt : i < xs.length := (List.getElem?_eq_some_iff.1 hi).1
      have hjlt : j < c.length := (List.getElem?_eq_some_iff.1 hj).1
      rw [t2 c (List.mem_of_getElem? hi)] at hjlt
      have : (i + 1) * sz ≤ xs.length * sz := Nat.mul_le_mul_right sz hilt
      rw [Nat.add_mul] at this
      refine ⟨u, ?_, q2⟩
      rw [List.getElem?_take, if_pos (by omega), List.getElem?_drop]
      simpa using q1
    · cases ha
      rw [add_none, cell_of_row m.w b _ cur e _ c3]
      rw [List.getElem?_take] at hj
      split at hj
      · rw [List.getElem?_drop] at hj; simpa using hj
      · cases hj

/-- Whatever can be read. -/
theorem reads_elems {F : Fr} {a : Act} {m : Mem} (hx : StX F a m) {y : AV} {v : Value} (hv : VR m y v) {sz : Nat} {ys : List (List AV)} (h : elemsSz m.s sz y = some ys) :
    ∃ ad cap news, Reads m ys v sz ad cap news := by
  cases y <;> simp only [elemsSz] at h <;> try cases h
  case lst sz' f xs =>
    split at h
    · rename_i hb
      cases h
      have := Nat.eq_of_beq_eq_true hb
      subst this
      obtain ⟨ad, cap, news, h1, _⟩ := reads_lst (m := m) hv
      exact ⟨ad, cap, news, h1⟩
    · cases h
  case nilS =>
    have : v = .slice none 0 0 := hv
    exact ⟨none, 0, [], this, FR.nil _ _, by simp, fun _ => rfl, Nat.le_refl _⟩
  case own k =>
    split at h
    · rename_i e sz' xs hs
      split at h
      · rename_i hb
        cases h
        have := Nat.eq_of_beq_eq_true hb
        subst this
        rcases reads_own hx.mr hv hs with ⟨_, rfl, rfl⟩ | ⟨b, o, cap, cur, _, _, _, _, _, _, hr⟩
        · exact ⟨none, 0, [], rfl, FR.nil _ _, by simp, fun _ => rfl, Nat.le_refl _⟩
        · exact ⟨_, _, _, hr⟩
      · cases h
    · cases h

/-! ### append: the run -/

theorem Reads.first {m : Mem} {xs : List (List AV)} {v : Value} {sz : Nat} {ad : Option Addr} {cap : Nat} {news : List Value} (h : Reads m xs v sz ad cap news) (P : Program) (w : World)
    (hcell : ∀ a, ad = some a → ∀ (j : Nat) (u : Value), news[j]? = some u → w.cell? (a.add j) = some u) :
    (Builtin.firstCells sz xs.length v).run P w = .ok news.toArray w := by
  rw [h.eq]
  cases ad with
  | none =>
    have := h.nil rfl
    subst this
    have hn : news = [] := List.eq_nil_of_length_eq_zero (by simpa using h.fr.len)
    subst hn
    rfl
  | some a => exact run_firstCells_some (P := P) w sz xs.length a xs.length cap news (by simpa using h.fr.len) (hcell a rfl)

/-- There is room. -/
theorem run_append_in {P : Program} (w : World) (t ty e : TypeId) (ei : TI) (ht : P.underlying t = some (.slice e)) (he : TIok P e ei) (g o sLen sCap : Nat) (cur : Array Value)
    (hg : w.heap[g]? = some (.cells cur e (0, 0))) (y : Value) (n : Nat) (news : List Value) (hlen : (Builtin.lenOf y).run P w = .ok n w) (hf : (Builtin.firstCells ei.size n y).run P w = .ok news.toArray w)
    (h1 : ∀ u ∈ news, u.oneCell' = true) (hroom : sLen + n ≤ sCap) (hfit : o + (sLen * ei.size + news.length) ≤ cur.size) :
    (Builtin.append_ #[t, t] ty #[.slice (some ⟨g, o, none⟩) sLen sCap, y]).run P w =
      .ok (.slice (some ⟨g, o, none⟩) (sLen + n) sCap) (w.setRow g (cur.toList.take (o + sLen * ei.size) ++ news ++ cur.toList.drop (o + sLen * ei.size + news.length)).toArray) := by
  have hst := run_storeCells_at P g (o + sLen * ei.size) e news 0 cur w hg (by omega) h1
  simp only [Nat.add_zero] at hst
  have hs := he.size w
  simp [Builtin.append_, run_underlying ht, hs, hlen, hroom, hf, Addr.add_lit, hst]

theorem run_append_none {P : Program} (w : World) (t ty e : TypeId) (ei : TI) (ht : P.underlying t = some (.slice e)) (he : TIok P e ei) (y : Value)
    (hlen : (Builtin.lenOf y).run P w = .ok 0 w) (hf : (Builtin.firstCells ei.size 0 y).run P w = .ok #[] w) :
    (Builtin.append_ #[t, t] ty #[.slice none 0 0, y]).run P w = .ok (.slice none 0 0) w := by
  have hs := he.size w
  simp [Builtin.append_, run_underlying ht, hs, hlen, hf]

theorem grown_len {P : Program} {e : TypeId} {ei : TI} (he : TIok P e ei) (z : Value) (i : TypeInfo) (hi : P.info? e = some i) (hz : i.zero = some z) (olds news : List Value) (w : World) (need old : Nat)
    (hl : olds.length + news.length = need * ei.size) :
    (olds.toArray ++ news.toArray ++ Builtin.zeroCells z.cells (grownCap w need old e - need)).size = grownCap w need old e * ei.size := by
  obtain ⟨i', i1, i2, _, z', i4, z1, _⟩ := he.info
  rw [hi] at i1; cases i1
  rw [hz] at i4; cases i4
  have hge := grownCap_ge w need old e
  simp only [Array.size_append, List.size_toArray, size_zeroCells, z1]
  rw [hl, ← Nat.add_mul]
  congr 1
  omega

end Go.Vc
