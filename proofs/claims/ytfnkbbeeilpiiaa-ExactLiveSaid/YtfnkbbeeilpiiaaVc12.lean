/- Vc, part 12: append, make, cutting, elements. -/
import Derived.Test.YtfnkbbeeilpiiaaVc11
namespace Go.Vc
open Go.RowKit

/-- An operation behind which a token stands for the value. -/
theorem opOk_own {F : Fr} {A : Nat → Prop} {id : Nat} {o : Oper} {s : AS} (hd : ∀ k, o.dst = some k → k < F.N) (es : Eff)
    (h : ∀ a m, StX F a m → m.s = s → m.A = A → ¬ A id → ∃ v m', (execOp a.eval o).run F.P m.w = .ok (.value v) m'.w ∧ StX F a m' ∧ m'.s = s.apply es ∧ m'.A = (fun i => A i ∨ i = id) ∧ VR m' (.own id) v) :
    OpOk F A id o s (dst o.dst (.own id) ++ es) :=
  opOk_value fun a m hx hs hA hid => by
    obtain ⟨v, m', h1, h2, h3, h4, h5⟩ := h a m hx hs hA hid
    refine ⟨v, m'.w, h1, ?_⟩
    have h6 := h2.dst o.dst _ _ hd h5
    cases hod : o.dst with
    | none =>
      rw [hod] at h6
      refine ⟨m'.β, m'.τ, m'.ok, ?_⟩
      have : (⟨s.apply (dst none (.own id) ++ es), m'.β, m'.τ, fun i => A i ∨ i = id, m'.ok, m'.w⟩ : Mem) = { m' with s := m'.s.apply (dst none (.own id)) } := by
        rw [h3, ← h4]; rfl
      rw [this]; exact h6
    | some d =>
      rw [hod] at h6
      refine ⟨m'.β, m'.τ, m'.ok, ?_⟩
      have : (⟨s.apply (dst (some d) (.own id) ++ es), m'.β, m'.τ, fun i => A i ∨ i = id, m'.ok, m'.w⟩ : Mem) = { m' with s := m'.s.apply (dst (some d) (.own id)) } := by
        rw [← h4]; simp only [dst, AS.apply, List.cons_append, List.nil_append, h3]
      rw [this]; exact h6

theorem own_vr {m : Mem} {id : Nat} {e sz : Nat} {xs : List (List AV)} {w' : World} {b o cap : Nat} :
    VR (m.claim id (some (b, o, cap)) e sz xs w') (.own id) (.slice (some ⟨b, o, none⟩) xs.length cap) := by
  refine ⟨Or.inr rfl, rfl, fun e' sz' xs' hs => ?_⟩
  rcases claim_tok hs with ⟨_, rfl, rfl, rfl⟩ | ⟨hne, _⟩
  · refine ⟨fun hn => ?_, fun b' o' cap' hb => ?_⟩
    · have hn' : upd m.τ id (some (b, o, cap)) id = none := hn
      rw [upd_same] at hn'; cases hn'
    · have hb' : upd m.τ id (some (b, o, cap)) id = some (b', o', cap') := hb
      rw [upd_same] at hb'; cases hb'; rfl
  · exact absurd rfl hne

theorem own_vr_nil {m : Mem} {id : Nat} {e sz : Nat} {w' : World} : VR (m.claim id none e sz [] w') (.own id) (.slice none 0 0) := by
  refine ⟨Or.inr rfl, rfl, fun e' sz' xs' hs => ?_⟩
  refine ⟨fun _ => rfl, fun b' o' cap' hb => ?_⟩
  have hb' : upd m.τ id none id = some (b', o', cap') := hb
  rw [upd_same] at hb'; cases hb'

theorem fr_one {m : Mem} {sz : Nat} {xs : List (List AV)} {news : List Value} (h : FR (PR m.w m.ok) sz xs news) : ∀ u ∈ news, u.oneCell' = true := by
  intro u hu
  obtain ⟨j, hj, rfl⟩ := List.mem_iff_getElem.1 hu
  rw [h.len] at hj
  obtain ⟨d1, d2, d3⟩ := div_mod_lt hj
  have hc := h.esz _ (List.getElem_mem d1)
  obtain ⟨u, q1, q2⟩ := h.at_ (j / sz) (j % sz) _ _ (List.getElem?_eq_getElem d1) (List.getElem?_eq_getElem (by omega))
  rw [d3] at q1
  have : u = news[j] := by
    have h2 := List.getElem?_eq_some_iff.1 q1
    exact h2.2.symm
  rw [← this]
  exact q2.oneCell

/-- What claim asks of the row, out of a flat reading of a part of it. -/
theorem claim_cells {R : AV → Value → Prop} {sz : Nat} {xs : List (List AV)} {cells : List Value} (h : FR R sz xs cells) (cur : Array Value) (o : Nat) (hc : ∀ (j : Nat) (u : Value), cells[j]? = some u → cur[o + j]? = some u) :
    ∀ (i j : Nat) (c : List AV) (x : AV), xs[i]? = some c → c[j]? = some x → ∃ u, cur[o + (i * sz + j)]? = some u ∧ R x u := fun i j c x hi hj => by
  obtain ⟨u, q1, q2⟩ := h.at_ i j c x hi hj
  exact ⟨u, hc _ _ q1, q2⟩

theorem lenOf_slice (P : Program) (w : World) (a : Option Addr) (n c : Nat) : (Builtin.lenOf (.slice a n c)).run P w = .ok n w := rfl

/-- A new row behind an append that grew. -/
theorem grown_claim {F : Fr} {a : Act} {m : Mem} (h : StX F a m) (id e : Nat) (ei : TI) (hp : 0 < ei.size) (xs : List (List AV)) (cells : List Value) (hfr : FR (PR m.w m.ok) ei.size xs cells)
    (need cap : Nat) (hneed : need = xs.length) (hcap : need ≤ cap) (hmax : cap ≤ maxLen) (row : Array Value) (hrow : row.size = cap * ei.size) (hpre : ∀ (j : Nat) (u : Value), cells[j]? = some u → row[j]? = some u) (hA : ¬ m.A id) :
    StX F a (m.claim id (some (m.w.heap.size, 0, cap)) e ei.size xs (m.w.drew.alloc (.cells row e))) :=
  h.claim id m.w.heap.size 0 cap e ei.size xs (m.w.drew.alloc (.cells row e)) row hA (At.drewAlloc _ _ _) (fresh_free h.mr) (h.keep.drew.alloc _ _) h.keep.size hp hfr.esz (by omega) hmax
    (heap_alloc_new m.w.drew _) (by omega) (claim_cells hfr row 0 (fun j u hj => by simpa using hpre j u hj))

theorem append_prefix (l : List Value) (r : Array Value) (j : Nat) (u : Value) (h : l[j]? = some u) : (l.toArray ++ r)[j]? = some u := by
  have hlt := (List.getElem?_eq_some_iff.1 h).1
  rw [Array.getElem?_append_left (by simpa using hlt)]
  simpa using h

theorem ok_append {F : Fr} {A : Nat → Prop} {id : Nat} {o : Oper} {s : AS} (hd : ∀ k, o.dst = some k → k < F.N) (x y : Operand) (t e : TypeId)
    (ho : o.op = .call { callee := .builtin .append, args := #[x, y], argTypes := #[t, t] }) (ht : F.P.underlying t = some (.slice e)) (ei : TI) (he : TIok F.P e ei) (hp : 0 < ei.size)
    (ys : List (List AV)) (hy : elemsSz s ei.size (s.val y) = some ys) (xs : List (List AV)) (es : Eff)
    (hb1 : (xs.length + ys.length) * ei.bytes ≤ 140737488355328) (hb2 : xs.length + ys.length ≤ 140737488355328)
    (hx : (∃ k, s.val x = .own k ∧ s (.tok k) = .tok e ei.size xs ∧ es = [(.tok id, .tok e ei.size (xs ++ ys)), (.tok k, .none)]) ∨
      (s.val x = .nilS ∧ xs = [] ∧ es = [(.tok id, .tok e ei.size ys)]) ∨
      (s.val x = .lst ei.size true xs ∧ ys ≠ [] ∧ es = [(.tok id, .tok e ei.size (xs ++ ys))])) :
    OpOk F A id o s (dst o.dst (.own id) ++ es) :=
  opOk_own hd es fun a m h hs hA hid => by
    subst hs hA
    obtain ⟨i, i1, i2, i3, z, i4, z1, z2, z3⟩ := he.info
    obtain ⟨yad, ycap, news, hr⟩ := reads_elems h (h.val y) hy
    have hnl : news.length = ys.length * ei.size := hr.fr.len
    have hone := fr_one hr.fr
    have hexec : ∀ v w', (Builtin.append_ #[t, t] o.type #[a.eval x, a.eval y]).run F.P m.w = .ok v w' → (execOp a.eval o).run F.P m.w = .ok (.value v) w' := by
      intro v w' hv
      simp only [execOp, ho, resolve, invoke, builtin, Sem.run_bind, Sem.run_pure, Result.andThen_ok, List.map_toArray, List.map_cons, List.map_nil, hv]
    -- an append that grows, out of a row that reads
    have grow : ∀ (m1 : Mem), StX F a m1 → m1.w = m.w → m1.ok = m.ok → m1.A = m.A → ∀ (xad : Addr) (xcap : Nat) (olds : List Value), a.eval x = .slice (some xad) xs.length xcap → FR (PR m.w m.ok) ei.size xs olds →
        (∀ (j : Nat) (u : Value), olds[j]? = some u → m.w.cell? (xad.add j) = some u) → xcap < xs.length + ys.length → xs.length ≤ xcap →
        ∃ cap row, (execOp a.eval o).run F.P m.w = .ok (.value (.slice (some ⟨m.w.heap.size, 0, none⟩) (xs.length + ys.length) cap)) (m.w.drew.alloc (.cells row e)) ∧
          StX F a (m1.claim id (some (m.w.heap.size, 0, cap)) e ei.size (xs ++ ys) (m.w.drew.alloc (.cells row e))) := by
      intro m1 h1 hw1 hok1 hA1 xad xcap olds hxv hfo hco hgr hle
      have hyne : ∃ yad', yad = some yad' := by
        cases hya : yad with
        | some q => exact ⟨q, rfl⟩
        | none => have := hr.nil hya; subst this; simp at hgr; omega
      obtain ⟨yad', rfl⟩ := hyne
      have hrun := run_append_grow (P := F.P) m.w t o.type e i z ht i1 i4 xad xs.length xcap olds (by rw [i2]; exact hfo.len) hco yad' ys.length ycap news (by rw [i2]; exact hnl) (hr.cell yad' rfl) hgr (by omega) (by rw [i3]; exact growslice_fits hgr hb1)
      rw [← hxv, ← hr.eq] at hrun
      refine ⟨_, _, hexec _ _ hrun, ?_⟩
      have hfr : FR (PR m1.w m1.ok) ei.size (xs ++ ys) (olds ++ news) := by rw [hw1, hok1]; exact hfo.append hr.fr
      rw [← hw1]
      refine grown_claim h1 id e ei hp (xs ++ ys) (olds ++ news) hfr (xs.length + ys.length) _ (by simp) (grownCap_ge _ _ _ _) (grownCap_le_maxLen _ _ _ _ (by unfold maxLen; omega)) _ ?_ ?_ (by rw [hA1]; exact hid)
      · rw [hw1]
        exact grown_len he z i i1 i4 olds news m.w _ _ (by rw [hfo.len, hnl, Nat.add_mul])
      · intro j u hj
        have hap : olds.toArray ++ news.toArray = (olds ++ news).toArray := by simp
        rw [hap]
        exact append_prefix _ _ _ _ hj
    -- an append to nil
    have fromNil : ∀ (m1 : Mem), StX F a m1 → m1.w = m.w → m1.ok = m.ok → m1.A = m.A → a.eval x = .slice none 0 0 →
        ∃ v m', (execOp a.eval o).run F.P m.w = .ok (.value v) m'.w ∧ StX F a m' ∧ m'.s = m1.s.put (.tok id) (.tok e ei.size ys) ∧ m'.A = (fun i => m.A i ∨ i = id) ∧ VR m' (.own id) v := by
      intro m1 h1 hw1 hok1 hA1 hxv
      by_cases hy0 : ys = []
      · subst hy0
        have hn0 : news = [] := List.eq_nil_of_length_eq_zero (by simpa using hnl)
        subst hn0
        have hf := hr.first F.P m.w hr.cell
        have hrun := run_append_none (P := F.P) m.w t o.type e ei ht he (a.eval y) (by rw [hr.eq]; rfl) (by simpa using hf)
        rw [← hxv] at hrun
        refine ⟨.slice none 0 0, m1.claim id none e ei.size [] m1.w, ?_, h1.claimNil id e ei.size (by rw [hA1]; exact hid) hp, rfl, by rw [← hA1]; rfl, ?_⟩
        · rw [hexec _ _ hrun, hxv]; show Result.ok _ _ = Result.ok _ m1.w; rw [hw1]
        · exact own_vr_nil
      · have hpos : 0 < ys.length := List.length_pos_iff.2 hy0
        obtain ⟨yad', rfl⟩ : ∃ q, yad = some q := by
          cases hya : yad with
          | some q => exact ⟨q, rfl⟩
          | none => exact absurd (hr.nil hya) hy0
        have hle' : ys.length * ei.bytes ≤ (xs.length + ys.length) * ei.bytes := Nat.mul_le_mul_right _ (by omega)
        have hrun := run_append_nil (P := F.P) m.w t o.type e i z ht i1 i4 yad' ys.length ycap news (by rw [i2]; exact hnl) (hr.cell yad' rfl) hpos (by omega) (by rw [i3]; omega)
        rw [← hxv, ← hr.eq] at hrun
        have hfr : FR (PR m1.w m1.ok) ei.size ys news := by rw [hw1, hok1]; exact hr.fr
        have hclaim := grown_claim h1 id e ei hp ys news hfr ys.length (grownCap m.w ys.length 0 e) rfl (grownCap_ge _ _ _ _) (grownCap_le_maxLen _ _ _ _ (by unfold maxLen; omega))
          (news.toArray ++ Builtin.zeroCells z.cells (grownCap m.w ys.length 0 e - ys.length)) (by
            have := grown_len he z i i1 i4 [] news m.w ys.length 0 (by simpa using hnl)
            simpa using this) (fun j u hj => append_prefix _ _ _ _ hj) (by rw [hA1]; exact hid)
        refine ⟨_, _, ?_, hclaim, rfl, by rw [← hA1]; rfl, own_vr⟩
        rw [hexec _ _ hrun, ← hw1]
        rfl
    rcases hx with ⟨k, hx1, hx2, rfl⟩ | ⟨hx1, rfl, rfl⟩ | ⟨hx1, hx2, rfl⟩
    · have hv := h.val x
      rw [hx1] at hv
      rcases reads_own h.mr hv hx2 with ⟨_, hv', rfl⟩ | ⟨b, oo, cap, cur, hτ, hv', hcur, hfit, hle, hmax, hrx⟩
      · obtain ⟨v, m', h1, h2, h3, h4, h5⟩ := fromNil (m.dropTok k) (h.dropTok k) rfl rfl rfl hv'
        exact ⟨v, m', h1, h2, h3, h4, h5⟩
      · by_cases hroom : xs.length + ys.length ≤ cap
        · have hm1 : (xs.length + ys.length) * ei.size ≤ cap * ei.size := Nat.mul_le_mul_right _ hroom
          rw [Nat.add_mul] at hm1
          have hf := hr.first F.P m.w hr.cell
          have hrun := run_append_in (P := F.P) m.w t o.type e ei ht he b oo xs.length cap cur hcur (a.eval y) ys.length news (by rw [hr.eq]; rfl) hf hone hroom (by omega)
          rw [← hv'] at hrun
          have hfr : FR (PR m.w m.ok) ei.size (xs ++ ys) ((cur.toList.drop oo).take (xs.length * ei.size) ++ news) := hrx.fr.append hr.fr
          have hlt : b < m.w.heap.size := mr_tok_lt h.mr hx2 hτ
          have hrl : ((cur.toList.drop oo).take (xs.length * ei.size)).length = xs.length * ei.size := hrx.fr.len
          have hclaim := (h.dropTok k).claim id b oo cap e ei.size (xs ++ ys) (m.w.setRow b (cur.toList.take (oo + xs.length * ei.size) ++ news ++ cur.toList.drop (oo + xs.length * ei.size + news.length)).toArray)
            (cur.toList.take (oo + xs.length * ei.size) ++ news ++ cur.toList.drop (oo + xs.length * ei.size + news.length)).toArray hid (At.setRow _ _ _) (drop_free h.mr hx2 hτ)
            (h.keep.setRow _ _ (.inl (h.newT k e ei.size xs _ hx2 hτ))) (h.newT k e ei.size xs _ hx2 hτ) hp hfr.esz (by simpa using hroom) hmax (setRow_heap _ _ _ _ _ _ hcur)
            (by simp; omega)
            (claim_cells hfr _ oo (fun j u hj => by
              simp only [List.getElem?_toArray]
              rw [List.append_assoc]
              by_cases hj1 : j < xs.length * ei.size
              · rw [List.getElem?_append_left (by omega)] at hj
                rw [List.getElem?_take, if_pos hj1, List.getElem?_drop] at hj
                rw [List.getElem?_append_left (by simp; omega), List.getElem?_take, if_pos (by omega)]
                exact hj
              · rw [List.getElem?_append_right (by omega), hrl] at hj
                have hjn : j - xs.length * ei.size < news.length := (List.getElem?_eq_some_iff.1 hj).1
                rw [List.getElem?_append_right (by simp; omega), List.getElem?_append_left (by simp; omega)]
                simp only [List.length_take, Array.length_toList]
                rw [show oo + j - min (oo + xs.length * ei.size) cur.size = j - xs.length * ei.size by omega]
                exact hj))
          refine ⟨_, _, hexec _ _ hrun, hclaim, rfl, rfl, ?_⟩
          have := own_vr (m := m.dropTok k) (id := id) (e := e) (sz := ei.size) (xs := xs ++ ys) (w' := (m.w.setRow b (cur.toList.take (oo + xs.length * ei.size) ++ news ++ cur.toList.drop (oo + xs.length * ei.size + news.length)).toArray)) (b := b) (o := oo) (cap := cap)
          rw [List.length_append] at this
          exact this
        · obtain ⟨cap', row, h1, h2⟩ := grow (m.dropTok k) (h.dropTok k) rfl rfl rfl ⟨b, oo, none⟩ cap _ hv' hrx.fr (hrx.cell _ rfl) (by omega) hle
          refine ⟨_, _, h1, h2, rfl, rfl, ?_⟩
          have := own_vr (m := m.dropTok k) (id := id) (e := e) (sz := ei.size) (xs := xs ++ ys) (w' := m.w.drew.alloc (.cells row e)) (b := m.w.heap.size) (o := 0) (cap := cap')
          rw [List.length_append] at this
          exact this
    · have hv := h.val x
      rw [hx1] at hv
      exact fromNil m h rfl rfl rfl hv
    · have hv := h.val x
      rw [hx1] at hv
      obtain ⟨xad, xcap, olds, hrx, hfull⟩ := reads_lst (m := m) hv
      have hcapx := hfull rfl
      have hpos : 0 < ys.length := List.length_pos_iff.2 hx2
      cases hxa : xad with
      | none =>
        subst hxa
        have hx0 := hrx.nil rfl
        subst hx0
        have hv' : a.eval x = .slice none 0 0 := by rw [hrx.eq, hcapx]; rfl
        obtain ⟨v, m', h1, h2, h3, h4, h5⟩ := fromNil m h rfl rfl rfl hv'
        exact ⟨v, m', h1, h2, h3, h4, h5⟩
      | some xad' =>
        subst hxa
        obtain ⟨cap', row, h1, h2⟩ := grow m h rfl rfl rfl xad' xcap olds hrx.eq hrx.fr (hrx.cell _ rfl) (by omega) (by omega)
        refine ⟨_, _, h1, h2, rfl, rfl, ?_⟩
        have := own_vr (m := m) (id := id) (e := e) (sz := ei.size) (xs := xs ++ ys) (w' := m.w.drew.alloc (.cells row e)) (b := m.w.heap.size) (o := 0) (cap := cap')
        rw [List.length_append] at this
        exact this

end Go.Vc
