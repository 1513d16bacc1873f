/- Vc, part 13: slices frozen; slices built of parts, made, cut; elements. -/
import Derived.Test.YtfnkbbeeilpiiaaVc12
namespace Go.Vc
open Go.RowKit

theorem Ext.refl (m : Mem) : Ext m m := ⟨fun _ _ _ xs' h _ => ⟨xs', h, rfl, rfl⟩, fun _ cs' h _ => ⟨⟨cs', h⟩, rfl⟩, fun _ h => h, fun _ h => h, fun _ _ _ => rfl⟩

theorem Ext.trans {a b c : Mem} (h : Ext a b) (k : Ext b c) : Ext a c where
  tok := fun t e sz xs' hs hA => by
    obtain ⟨x1, g1, g2, g3⟩ := k.tok t e sz xs' hs (h.A _ hA)
    obtain ⟨x2, q1, q2, q3⟩ := h.tok t e sz x1 g1 hA
    exact ⟨x2, q1, q2.trans g2, g3.trans q3⟩
  box := fun id cs' hs hA => by
    obtain ⟨⟨c1, g1⟩, g2⟩ := k.box id cs' hs (h.A _ hA)
    obtain ⟨c2, q2⟩ := h.box id c1 g1 hA
    exact ⟨c2, g2.trans q2⟩
  A := fun i hi => k.A _ (h.A _ hi)
  ok := fun b hb => k.ok _ (h.ok _ hb)
  cell := fun b off hb => (k.cell b off (h.ok _ hb)).trans (h.cell b off hb)

theorem ext_ok {m m' : Mem} (h : Ext m m') {x : AV} {v : Value} (hp : PR m.w m.ok x v) : PR m'.w m'.ok x v := hp.ext h.ok h.cell

/-- A flat row gives a list value. -/
theorem pr_of_row {w : World} {ok : Nat → Prop} {sz : Nat} {xs : List (List AV)} {b o cap : Nat} {f : Bool} (hcap : xs.length ≤ cap) (hmax : cap ≤ maxLen) (hf : f = true → cap = xs.length) (hsz : ∀ c ∈ xs, c.length = sz) (hok : ok b)
    (h : ∀ (i j : Nat) (c : List AV) (x : AV), xs[i]? = some c → c[j]? = some x → ∃ u, w.cell? ⟨b, o + (i * sz + j), none⟩ = some u ∧ PR w ok x u) :
    PR w ok (.lst sz f xs) (.slice (some ⟨b, o, none⟩) xs.length cap) := by
  refine .lst sz f xs (some ⟨b, o, none⟩) cap (fun i j => (w.cell? ⟨b, o + (i * sz + j), none⟩).getD undef) hcap hmax hf hsz (by simp) (fun i j c x hi hj ad ha => ?_) (fun i j c x hi hj => ?_)
  · cases ha
    obtain ⟨u, h1, _⟩ := h i j c x hi hj
    exact ⟨rfl, hok, by simp [h1]⟩
  · obtain ⟨u, h1, h2⟩ := h i j c x hi hj
    simp only [h1, Option.getD_some]
    exact h2

/-- One token is frozen: its slice can be read for ever. -/
theorem StX.freeze {F : Fr} {a : Act} {m : Mem} (h : StX F a m) (t : Nat) : ∃ m', StX F a m' ∧ m'.s = m.s.put (.tok t) .none ∧ m'.w = m.w ∧ m'.A = m.A ∧ Ext m m' ∧
    ∀ e sz xs v, m.s (.tok t) = .tok e sz xs → VR0 m (.own t) v → PR m'.w m'.ok (.lst sz false xs) v := by
  by_cases hl : ∃ e sz xs b o cap, m.s (.tok t) = .tok e sz xs ∧ m.τ t = some (b, o, cap)
  · obtain ⟨e, sz, xs, b, o, cap, hs, hτ⟩ := hl
    have hlt : b < m.w.heap.size := mr_tok_lt h.mr hs hτ
    obtain ⟨_, _, t2, _, t4⟩ := h.mr.tok t e sz xs hs
    obtain ⟨_, c1, c2, cur, c3, c4, c5⟩ := t4 b o cap hτ
    refine ⟨(m.dropTok t).openB b, (h.dropTok t).openB b (drop_free h.mr hs hτ) hlt (h.newT t e sz xs _ hs hτ), rfl, rfl, rfl, (ext_dropTok m t).trans (ext_openB _ b), fun e' sz' xs' v hs' hv => ?_⟩
    rw [hs] at hs'; cases hs'
    obtain ⟨_, _, hv2⟩ := hv
    have hve := (hv2 e sz xs hs).2 b o cap hτ
    rw [hve]
    refine pr_of_row c1 c2 (by simp) t2 (Or.inr rfl) (fun i j c x hi hj => ?_)
    obtain ⟨u, q1, q2⟩ := c5 i j c x hi hj
    exact ⟨u, by show m.w.cell? _ = _; rw [cell_of_row m.w b _ cur e _ c3]; exact q1, ext_ok ((ext_dropTok m t).trans (ext_openB _ b)) q2⟩
  · refine ⟨m.dropTok t, h.dropTok t, rfl, rfl, rfl, ext_dropTok m t, fun e sz xs v hs hv => ?_⟩
    have hτ : m.τ t = none := by
      cases hτ : m.τ t with
      | none => rfl
      | some p => obtain ⟨b, o, cap⟩ := p; exact absurd ⟨e, sz, xs, b, o, cap, hs, hτ⟩ hl
    obtain ⟨_, _, hv2⟩ := hv
    have hve := (hv2 e sz xs hs).1 hτ
    obtain ⟨_, _, _, t3, _⟩ := h.mr.tok t e sz xs hs
    have := t3 hτ
    subst this
    rw [hve]
    exact .lst sz false [] none 0 (fun _ _ => undef) (Nat.le_refl _) (by simp [maxLen]) (by simp) (by simp) (fun _ => rfl) (by simp) (by simp)

theorem StX.kills {F : Fr} {a : Act} : ∀ (ks : List Nat) {m : Mem}, StX F a m → ∃ m', StX F a m' ∧ m'.s = m.s.apply (kills ks) ∧ m'.w = m.w ∧ m'.A = m.A ∧ Ext m m' ∧
    ∀ t ∈ ks, ∀ e sz xs v, m.s (.tok t) = .tok e sz xs → VR0 m (.own t) v → PR m'.w m'.ok (.lst sz false xs) v
  | [], m, h => ⟨m, h, rfl, rfl, rfl, Ext.refl m, by simp⟩
  | t :: ts, m, h => by
    obtain ⟨m1, h1, h2, h3, h4, h5, h6⟩ := StX.kills ts h
    obtain ⟨m2, k1, k2, k3, k4, k5, k6⟩ := h1.freeze t
    refine ⟨m2, k1, by rw [k2, h2]; rfl, k3.trans h3, k4.trans h4, h5.trans k5, fun t' ht' e sz xs v hs hv => ?_⟩
    by_cases hmem : t' ∈ ts
    · exact ext_ok k5 (h6 t' hmem e sz xs v hs hv)
    · have htt : t' = t := by rcases List.mem_cons.1 ht' with h | h; exact h; exact absurd h hmem
      subst htt
      have hsame : m1.s (.tok t') = m.s (.tok t') := by
        rw [h2]
        clear h2 h6 h1 k1 k2 k6 hs ht'
        induction ts with
        | nil => rfl
        | cons q qs ih =>
          have hq : t' ≠ q := by rintro rfl; exact hmem (by simp)
          show (AS.put _ (.tok q) .none) (.tok t') = _
          rw [put_tok_ne _ _ _ _ hq]
          exact ih (fun h => hmem (by simp [h]))
      exact k6 e sz xs v (hsame.trans hs) (VR0.ext h5 hv)

/-- What a persistent copy of a value is worth, once its tokens are frozen. -/
theorem persist_pr {m m' : Mem} (he : Ext m m') {ks : List Nat} (hk : ∀ t ∈ ks, ∀ e sz xs v, m.s (.tok t) = .tok e sz xs → VR0 m (.own t) v → PR m'.w m'.ok (.lst sz false xs) v)
    {c d : AV} {k : List Nat} {u : Value} (h : persist m.s c = some (d, k)) (hsub : ∀ t ∈ k, t ∈ ks) (hv : VR0 m c u) : PR m'.w m'.ok d u := by
  unfold persist at h
  split at h
  · cases h; have h' : u = _ := hv; subst h'; exact .int _ _
  · cases h; have h' : u = _ := hv; subst h'; exact .sb _
  · cases h; have h' : u = _ := hv; subst h'; exact .sb _
  · cases h; exact ext_ok he hv
  · split at h
    · rename_i hs; cases h; exact hk _ (hsub _ (by simp)) _ _ _ _ hs hv
    · cases h
  · cases h; have h' : u = _ := hv; subst h'; exact .nilp
  · cases h; have h' : u = _ := hv; subst h'; exact .nilS
  · cases h

theorem persistAll_pr {m m' : Mem} (he : Ext m m') {ks : List Nat} (hk : ∀ t ∈ ks, ∀ e sz xs v, m.s (.tok t) = .tok e sz xs → VR0 m (.own t) v → PR m'.w m'.ok (.lst sz false xs) v) :
    ∀ (cs ds : List AV) (k : List Nat) (us : List Value), persistAll m.s cs = some (ds, k) → (∀ t ∈ k, t ∈ ks) → us.length = cs.length → (∀ (j : Nat) (c : AV), cs[j]? = some c → ∃ u, us[j]? = some u ∧ VR0 m c u) →
      ds.length = cs.length ∧ ∀ (j : Nat) (x : AV), ds[j]? = some x → ∃ u, us[j]? = some u ∧ PR m'.w m'.ok x u
  | [], ds, k, us, h, _, _, _ => by
    simp only [persistAll, Option.some.injEq, Prod.mk.injEq] at h
    obtain ⟨rfl, _⟩ := h
    simp
  | c :: cs, ds, k, us, h, hsub, hl, hv => by
    simp only [persistAll] at h
    split at h
    · rename_i d k1 hp
      split at h
      · rename_i ds' k2 hq
        cases h
        match us, hl with
        | u :: us, hl =>
          obtain ⟨u', e1, e2⟩ := hv 0 c rfl
          cases e1
          obtain ⟨g1, g2⟩ := persistAll_pr he hk cs ds' k2 us hq (fun t ht => hsub t (by simp [ht])) (by simpa using hl) (fun j c hj => by simpa using hv (j + 1) c (by simpa using hj))
          refine ⟨by simp [g1], fun j x hj => ?_⟩
          cases j with
          | zero => cases hj; exact ⟨u, rfl, persist_pr he hk hp (fun t ht => hsub t (by simp [ht])) e2⟩
          | succ j => simpa using g2 j x (by simpa using hj)
      · cases h
    · cases h

theorem zero_pr {w : World} {ok : Nat → Prop} {c : AV} {u : Value} (h : ZR c u) (hs : c ≠ .junk) : PR w ok c u := by
  unfold ZR at h
  split at h
  · subst h; exact .int _ _
  · subst h; exact .bool _
  · subst h; exact .nilS
  · subst h; exact .nilp
  · exact absurd rfl hs
  · exact h.elim

theorem solid_junk : ∀ (cs : List AV), solid cs = true → ∀ c ∈ cs, c ≠ .junk
  | [], _, c, hc => by simp at hc
  | d :: cs, h, c, hc => by
    rcases List.mem_cons.1 hc with rfl | hc
    · rintro rfl; simp [solid] at h
    · refine solid_junk cs ?_ c hc
      cases d <;> simp_all [solid]

/-- The row of zero cells. -/
theorem zero_row {P : Program} {e : TypeId} {ei : TI} (he : TIok P e ei) (hsol : solid ei.zero = true) {z : Value} (hz : ∃ i, P.info? e = some i ∧ i.zero = some z) (w : World) (ok : Nat → Prop) (n : Nat) :
    FR (PR w ok) ei.size (List.replicate n ei.zero) (madeCells z.cells (n * ei.size)).toList := by
  obtain ⟨i, i1, i4⟩ := hz
  obtain ⟨i', j1, _, _, z', j4, z1, z2, z3⟩ := he.info
  rw [i1] at j1; cases j1
  rw [i4] at j4; cases j4
  refine ⟨by simp [size_madeCells], fun c hc => by rw [(List.mem_replicate.1 hc).2]; exact z2, fun k j c x hk hj => ?_⟩
  have hkl : k < n := by have := (List.getElem?_eq_some_iff.1 hk).1; simpa using this
  rw [List.getElem?_replicate, if_pos hkl] at hk
  cases hk
  have hjl : j < ei.size := by rw [← z2]; exact (List.getElem?_eq_some_iff.1 hj).1
  obtain ⟨u, q1, _, q3⟩ := z3 j x hj
  have hb : k * ei.size + j < n * ei.size := by
    have : (k + 1) * ei.size ≤ n * ei.size := Nat.mul_le_mul_right _ hkl
    rw [Nat.add_mul] at this
    omega
  refine ⟨u, ?_, zero_pr q3 (solid_junk _ hsol x (List.mem_of_getElem? hj))⟩
  have hjz : j < z.cells.size := by omega
  have hm : (k * ei.size + j) % z.cells.size = j := by rw [z1, Nat.add_comm, Nat.add_mul_mod_self_right, Nat.mod_eq_of_lt hjl]
  have hzj : z.cells[j]! = u := by
    rw [getElem!_pos z.cells j hjz]
    exact (Array.getElem?_eq_some_iff.1 q1).2
  simp only [madeCells, Array.toList_map, Array.toList_range, List.getElem?_map, List.getElem?_range hb, Option.map_some, hm, hzj]

theorem persistAll_solid (s : AS) : ∀ (cs ds : List AV) (k : List Nat), persistAll s cs = some (ds, k) → solid cs = true
  | [], _, _, _ => rfl
  | c :: cs, ds, k, h => by
    simp only [persistAll] at h
    split at h
    · rename_i d k1 hp1
      split at h
      · rename_i ds' k2 hp2
        have := persistAll_solid s cs _ _ hp2
        cases c <;> simp_all [solid, persist]
      · cases h
    · cases h

theorem run_buildSlice0 {P : Program} (w : World) (t e : TypeId) (len : Nat) (parts : Array (Nat × Value)) (cells : Array Value) (ie : TypeInfo) (z : Value)
    (hu : P.underlying t = some (.slice e)) (hie : P.info? e = some ie) (hz : ie.zero = some z) (hsmall : ¬ len * ie.size > 2 ^ 24)
    (h : Instr.fill (fun i => some (i * ie.size, ie.size)) (madeCells z.cells (len * ie.size)) parts.toList = some cells) :
    (Instr.buildSlice t len parts).run P w = .ok (.slice (some ⟨w.heap.size, 0, none⟩) len len) (w.alloc (.cells cells e)) := by
  have hsmall' : ¬ (len * ie.size > 16777216) := by simpa using hsmall
  by_cases h0 : len * ie.size = 0
  · have hm : madeCells z.cells (len * ie.size) = #[] := by rw [h0]; simp [madeCells]
    have hm2 : (Array.range 0).map (fun _ => (default : Value)) = #[] := by simp
    rw [hm] at h
    simp only [Instr.buildSlice, Sem.run_bind, run_underlying hu, Result.andThen_ok, sizeOf, typeInfo, run_program, hie, Sem.run_pure, h0, if_true]
    simp [hm2, h, newRow]
  · unfold madeCells at h
    simp [Instr.buildSlice, run_underlying hu, sizeOf, typeInfo, zeroValue, hie, hz, hsmall', h0]
    simp [h, newRow]

theorem fill_row {F : Fr} {a : Act} {m m' : Mem} (hx : StX F a m) (he : Ext m m') {KS : List Nat} (hk : ∀ t ∈ KS, ∀ e sz xs v, m.s (.tok t) = .tok e sz xs → VR0 m (.own t) v → PR m'.w m'.ok (.lst sz false xs) v) (sz : Nat) :
    ∀ (parts : List (Nat × Operand)) (xs : List (List AV)) (ks : List Nat) (cells : Array Value) (xs' : List (List AV)) (ks' : List Nat), FR (PR m'.w m'.ok) sz xs cells.toList →
      fillRow sz xs ks m.s parts = some (xs', ks') → (∀ t ∈ ks', t ∈ KS) →
      ∃ cells', Instr.fill (fun i => some (i * sz, sz)) cells (parts.map fun p => (p.1, a.eval p.2)) = some cells' ∧ FR (PR m'.w m'.ok) sz xs' cells'.toList ∧ xs'.length = xs.length ∧ (∀ t ∈ ks, t ∈ ks')
  | [], xs, ks, cells, xs', ks', hfr, h, _ => by
    simp only [fillRow, Option.some.injEq, Prod.mk.injEq] at h
    obtain ⟨rfl, rfl⟩ := h
    exact ⟨cells, rfl, hfr, rfl, fun _ h => h⟩
  | (i, x) :: r, xs, ks, cells, xs', ks', hfr, h, hsub => by
    simp only [fillRow] at h
    split at h
    · rename_i cs k hp
      split at h
      · rename_i hb
        split at h
        · rename_i hi
          have hcl := Nat.eq_of_beq_eq_true hb
          have hil : i < xs.length := by simpa [Nat.blt_eq] using hi
          have hsolid : (a.eval x).cells.size = (m.s.val x).cells.length ∧ ∀ (j : Nat) (c : AV), (m.s.val x).cells[j]? = some c → ∃ u, (a.eval x).cells[j]? = some u ∧ u.oneCell' = true ∧ VR0 m c u := by
            exact solid_vr (hx.val x) (persistAll_solid _ _ _ _ hp)
          obtain ⟨g1, g2⟩ := hsolid
          -- the tokens of this part are among the frozen ones
          have hih : ∀ cells2, FR (PR m'.w m'.ok) sz (xs.set i cs) (Array.toList cells2) → ∃ cells', Instr.fill (fun i => some (i * sz, sz)) cells2 (r.map fun p => (p.1, a.eval p.2)) = some cells' ∧ FR (PR m'.w m'.ok) sz xs' cells'.toList ∧ xs'.length = (xs.set i cs).length ∧ (∀ t ∈ ks ++ k, t ∈ ks') :=
            fun cells2 h2 => fill_row hx he hk sz r (xs.set i cs) (ks ++ k) cells2 xs' ks' h2 h hsub
          have hkk : ∀ t ∈ k, t ∈ KS := by
            have : ∀ t ∈ ks ++ k, t ∈ ks' := by
              have key : ∀ (r : List (Nat × Operand)) (xs : List (List AV)) (ks : List Nat), fillRow sz xs ks m.s r = some (xs', ks') → ∀ t ∈ ks, t ∈ ks' := by
                intro r
                induction r with
                | nil => intro xs ks h t ht; simp only [fillRow, Option.some.injEq, Prod.mk.injEq] at h; rw [← h.2]; exact ht
                | cons p r ih =>
                  intro xs ks h t ht
                  obtain ⟨i, x⟩ := p
                  simp only [fillRow] at h
                  split at h
                  · split at h
                    · split at h
                      · exact ih _ _ h t (by simp [ht])
                      · cases h
                    · cases h
                  · cases h
              exact key r _ _ h
            exact fun t ht => hsub t (this t (by simp [ht]))
          obtain ⟨p1, p2⟩ := persistAll_pr he hk _ cs k (a.eval x).cells.toList hp hkk (by simpa using g1) (fun j c hj => let ⟨u, q1, _, q3⟩ := g2 j c hj; ⟨u, by simpa using q1, q3⟩)
          have hul : (a.eval x).cells.toList.length = sz := by simp; omega
          have hfit : i * sz + sz ≤ cells.size := by
            have h1 := hfr.len
            have h2 : (i + 1) * sz ≤ xs.length * sz := Nat.mul_le_mul_right _ hil
            rw [Nat.add_mul] at h2
            simp at h1
            omega
          obtain ⟨cells', q1, q2, q3, q4⟩ := hih (cells.toList.take (i * sz) ++ (a.eval x).cells.toList ++ cells.toList.drop (i * sz + (a.eval x).cells.toList.length)).toArray
            (hfr.set i hil cs _ hcl hul p2)
          refine ⟨cells', ?_, q2, by simpa using q3, fun t ht => q4 t (by simp [ht])⟩
          have hsz2 : (a.eval x).cells.size = sz := by simpa using hul
          rw [List.map_cons, fill_step _ cells i (i * sz) (a.eval x) _ (by rw [hsz2]) (by omega)]
          exact q1
        · cases h
      · cases h
    · cases h

theorem ok_buildSlice {F : Fr} {A : Nat → Prop} {id : Nat} {o : Oper} {s : AS} (hd : ∀ k, o.dst = some k → k < F.N) (t e n : Nat) (parts : Array (Nat × Operand)) (ho : o.op = .buildSlice t n parts)
    (ht : F.P.underlying t = some (.slice e)) (ei : TI) (he : TIok F.P e ei) (xs : List (List AV)) (ks : List Nat) (hf : fillRow ei.size (List.replicate n ei.zero) [] s parts.toList = some (xs, ks))
    (hn : n * ei.size ≤ 16777216) (hp : 0 < ei.size) (hsol : solid ei.zero = true) : OpOk F A id o s (dst o.dst (.own id) ++ ((.tok id, .tok e ei.size xs) :: kills ks)) :=
  opOk_own hd _ fun a m hx hs hA hid => by
    subst hs hA
    obtain ⟨i, i1, i2, i3, z, i4, z1, z2, z3⟩ := he.info
    obtain ⟨m1, h1, h2, h3, h4, h5, h6⟩ := hx.kills ks
    have hzr := zero_row he hsol ⟨i, i1, i4⟩ m1.w m1.ok n
    obtain ⟨cells', q1, q2, q3, _⟩ := fill_row hx h5 h6 ei.size parts.toList _ [] _ xs ks hzr hf (fun t ht => ht)
    have hlen : xs.length = n := by simpa using q3
    have hrun := run_buildSlice0 (P := F.P) m.w t e n (parts.map fun (i, x) => (i, a.eval x)) cells' i z ht i1 i4 (by rw [i2]; omega) (by
        rw [i2]
        simpa using q1)
    have hcl := q2.len
    simp only [Array.length_toList] at hcl
    have hclaim := h1.claim id m1.w.heap.size 0 n e ei.size xs (m1.w.alloc (.cells cells' e)) cells' (by rw [h4]; exact hid) (At.alloc _ _ _) (fresh_free h1.mr) (h1.keep.alloc _ _) h1.keep.size hp q2.esz (by omega)
      (by unfold maxLen; have : n ≤ n * ei.size := Nat.le_mul_of_pos_right _ hp; omega) (heap_alloc_new _ _) (by rw [hcl, hlen]; omega) (claim_cells q2 cells' 0 (fun j u hj => by simpa using hj))
    refine ⟨_, _, ?_, hclaim, by (show m1.s.put _ _ = _; rw [h2]; rfl), by rw [← h4]; rfl, own_vr⟩
    simp only [execOp, ho, Sem.run_bind, hrun, Result.andThen_ok]
    rw [h3, hlen]
    rfl

end Go.Vc
