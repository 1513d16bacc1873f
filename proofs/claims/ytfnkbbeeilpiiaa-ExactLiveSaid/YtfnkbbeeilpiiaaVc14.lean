/- Vc, part 14: make, cutting, elements, lengths. -/
import Derived.Test.YtfnkbbeeilpiiaaVc13
namespace Go.Vc
open Go.RowKit

theorem ok_makeSlice {F : Fr} {A : Nat → Prop} {id : Nat} {o : Oper} {s : AS} (hd : ∀ k, o.dst = some k → k < F.N) (t e : Nat) (l c : Operand) (ho : o.op = .makeSlice t l c)
    (ht : F.P.underlying t = some (.slice e)) (ei : TI) (he : TIok F.P e ei) (k k' : IntKind) (n q : Int) (hl : s.val l = .int k n) (hc : s.val c = .int k' q) (zs : List AV)
    (hz : persistAll (fun _ => .none) ei.zero = some (zs, [])) (hzl : zs.length = ei.size) (h0 : 0 ≤ n) (hnq : n ≤ q) (hb : q * ei.bytes ≤ 140737488355328) (hq : q ≤ 140737488355328) (hp : 0 < ei.size) :
    OpOk F A id o s (dst o.dst (.own id) ++ [(.tok id, .tok e ei.size (List.replicate n.toNat zs))]) :=
  opOk_own hd _ fun a m hx hs hA hid => by
    subst hs hA
    obtain ⟨i, i1, i2, i3, z, i4, z1, z2, z3⟩ := he.info
    have hsol := persistAll_solid _ _ _ _ hz
    have hlv : a.eval l = .int k n := by have := hx.val l; rw [hl] at this; exact this
    have hcv : a.eval c = .int k' q := by have := hx.val c; rw [hc] at this; exact this
    have hrun := run_make (P := F.P) m.w t e i z ht i1 i4 k k' n q h0 hnq (by rw [i3, Int.mul_comm]; omega) (by omega)
    have hfr := zero_row he hsol ⟨i, i1, i4⟩ m.w m.ok q.toNat
    -- the zeros, as they persist
    have hpz := persistAll_pr (m := { m with s := fun _ => .none }) (Ext.refl _) (ks := []) (by simp) ei.zero zs [] (z.cells.toList) hz (by simp) (by simp [z1, z2]) (fun j c hj => let ⟨u, g1, _, g3⟩ := z3 j c hj; ⟨u, by simpa using g1, g3.vr⟩)
    have hnn : n.toNat ≤ q.toNat := Int.toNat_le_toNat hnq
    have hmul : n.toNat * ei.size ≤ q.toNat * ei.size := Nat.mul_le_mul_right _ hnn
    have hfr2 : FR (PR m.w m.ok) ei.size (List.replicate n.toNat zs) ((madeCells z.cells (q.toNat * ei.size)).toList.take (n.toNat * ei.size)) := by
      refine ⟨by rw [List.length_take, Array.length_toList, size_madeCells, Nat.min_eq_left hmul, List.length_replicate], fun c hc => by rw [(List.mem_replicate.1 hc).2]; exact hzl, fun i j c x hi hj => ?_⟩
      have hil : i < n.toNat := by have := (List.getElem?_eq_some_iff.1 hi).1; simpa using this
      rw [List.getElem?_replicate, if_pos hil] at hi
      cases hi
      have hjl : j < ei.size := by rw [← hzl]; exact (List.getElem?_eq_some_iff.1 hj).1
      obtain ⟨u, q1, q2⟩ := hpz.2 j x hj
      have hb1 : i * ei.size + j < n.toNat * ei.size := by
        have : (i + 1) * ei.size ≤ n.toNat * ei.size := Nat.mul_le_mul_right _ hil
        rw [Nat.add_mul] at this
        omega
      refine ⟨u, ?_, q2⟩
      have hjz : j < z.cells.size := by omega
      have hm : (i * ei.size + j) % z.cells.size = j := by rw [z1, Nat.add_comm, Nat.add_mul_mod_self_right, Nat.mod_eq_of_lt hjl]
      have hzj : z.cells[j]! = u := by
        rw [getElem!_pos z.cells j hjz]
        have : z.cells[j]? = some u := by simpa using q1
        exact (Array.getElem?_eq_some_iff.1 this).2
      rw [List.getElem?_take, if_pos hb1]
      simp only [madeCells, Array.toList_map, Array.toList_range, List.getElem?_map, List.getElem?_range (show i * ei.size + j < q.toNat * ei.size by omega), Option.map_some, hm, hzj]
    have hclaim := hx.claim id m.w.heap.size 0 q.toNat e ei.size (List.replicate n.toNat zs) (m.w.alloc (.cells (madeCells z.cells (q.toNat * i.size)) e)) (madeCells z.cells (q.toNat * i.size)) hid (At.alloc _ _ _) (fresh_free hx.mr)
      (hx.keep.alloc _ _) hx.keep.size hp hfr2.esz (by simpa using hnn) (by unfold maxLen; omega) (heap_alloc_new _ _) (by rw [size_madeCells, i2]; omega)
      (claim_cells hfr2 _ 0 (fun j u hj => by
        rw [List.getElem?_take] at hj
        split at hj
        · rw [i2]; simpa using hj
        · cases hj))
    refine ⟨.slice (some ⟨m.w.heap.size, 0, none⟩) n.toNat q.toNat, _, ?_, hclaim, rfl, rfl, ?_⟩
    · show _ = Result.ok _ (m.w.alloc (.cells (madeCells z.cells (q.toNat * i.size)) e))
      simp only [execOp, ho, hlv, hcv, Sem.run_bind, hrun, Result.andThen_ok]
      rfl
    · have := own_vr (m := m) (id := id) (e := e) (sz := ei.size) (xs := List.replicate n.toNat zs) (w' := m.w.alloc (.cells (madeCells z.cells (q.toNat * i.size)) e)) (b := m.w.heap.size) (o := 0) (cap := q.toNat)
      rw [List.length_replicate] at this
      exact this

/-! ### Lengths, least and greatest -/

theorem ok_len {F : Fr} {A : Nat → Prop} {id : Nat} {o : Oper} {s : AS} (hd : ∀ k, o.dst = some k → k < F.N) (x : Operand) (ts : Array TypeId)
    (ho : o.op = .call { callee := .builtin .len, args := #[x], argTypes := ts }) (t e : TypeId) (hts : ts[0]? = some t) (ht : F.P.underlying t = some (.slice e)) (xs : List (List AV)) (hx : elems s (s.val x) = some xs) :
    OpOk F A id o s (dst o.dst (.int .i64 xs.length)) :=
  opOk_pure hd fun a m h hs => by
    subst hs
    have hv := h.val x
    have key : ∃ ad cap, a.eval x = .slice ad xs.length cap := by
      generalize m.s.val x = y at hx hv
      generalize a.eval x = v at hv ⊢
      cases y <;> simp only [elems] at hx <;> try cases hx
      case lst sz f =>
        have hv' : PR m.w m.ok (.lst sz f xs) v := hv
        cases hv'
        exact ⟨_, _, rfl⟩
      case nilS => exact ⟨_, _, hv⟩
      case own k =>
        split at hx
        · rename_i e' sz xs' hs
          cases hx
          rcases reads_own h.mr hv hs with ⟨_, h1, rfl⟩ | ⟨b, o, cap, _, _, h1, _⟩
          · exact ⟨_, _, h1⟩
          · exact ⟨_, _, h1⟩
        · cases hx
    obtain ⟨ad, cap, hk⟩ := key
    refine ⟨.int .i64 xs.length, ?_, rfl⟩
    simp only [execOp, ho, resolve, invoke, builtin, Sem.run_bind, Sem.run_pure, Result.andThen_ok, List.map_toArray, List.map_cons, List.map_nil, Builtin.len_, hts, hk]
    simp [run_underlying ht, goInt]

theorem ok_minmax {F : Fr} {A : Nat → Prop} {id : Nat} {o : Oper} {s : AS} (hd : ∀ k, o.dst = some k → k < F.N) (b : Builtin) (hb : b = .min ∨ b = .max) (x y : Operand) (ts : Array TypeId)
    (ho : o.op = .call { callee := .builtin b, args := #[x, y], argTypes := ts }) (k : IntKind) (p q : Int) (hx : s.val x = .int k p) (hy : s.val y = .int k q) :
    OpOk F A id o s (dst o.dst (.int k (match b with | .min => (if q < p then q else p) | _ => (if q > p then q else p)))) :=
  opOk_pure hd fun a m h hs => by
    subst hs
    have h1 : a.eval x = .int k p := by have := h.val x; rw [hx] at this; exact this
    have h2 : a.eval y = .int k q := by have := h.val y; rw [hy] at this; exact this
    rcases hb with rfl | rfl
    · refine ⟨_, ?_, rfl⟩
      simp only [execOp, ho, resolve, invoke, builtin, Sem.run_bind, Sem.run_pure, Result.andThen_ok, List.map_toArray, List.map_cons, List.map_nil, h1, h2, Builtin.min_]
      simp [Builtin.min2]
    · refine ⟨_, ?_, rfl⟩
      simp only [execOp, ho, resolve, invoke, builtin, Sem.run_bind, Sem.run_pure, Result.andThen_ok, List.map_toArray, List.map_cons, List.map_nil, h1, h2, Builtin.max_]
      simp [Builtin.max2]

/-! ### Elements -/

theorem run_indexAt {P : Program} (w : World) (t e : TypeId) (ht : P.underlying t = some (.slice e)) (ei : TI) (he : TIok P e ei) (ad : Addr) (n cap : Nat) (k : IntKind) (i : Int) (h0 : 0 ≤ i) (h1 : i < n) :
    (Instr.indexAt t (.slice (some ad) n cap) (.int k i)).run P w = .ok (.pointer (some (ad.add (i.toNat * ei.size)))) w := by
  have hs := he.size w
  simp [Instr.indexAt, asIntOf, run_underlying ht, h0, h1, hs]

theorem ok_indexLst {F : Fr} {A : Nat → Prop} {id : Nat} {o : Oper} {s : AS} (hd : ∀ k, o.dst = some k → k < F.N) (t e : TypeId) (x i : Operand) (ho : o.op = .indexAddr t x i) (ht : F.P.underlying t = some (.slice e))
    (ei : TI) (he : TIok F.P e ei) (f : Bool) (xs : List (List AV)) (hx : s.val x = .lst ei.size f xs) (k : IntKind) (n : Int) (hi : s.val i = .int k n) (c : List AV) (h0 : 0 ≤ n) (hc : xs[n.toNat]? = some c) (hp : 0 < ei.size) :
    OpOk F A id o s (dst o.dst (.rp c)) :=
  opOk_pure hd fun a m h hs => by
    subst hs
    have h1 : PR m.w m.ok (.lst ei.size f xs) (a.eval x) := by have := h.val x; rw [hx] at this; exact this
    have h2 : a.eval i = .int k n := by have := h.val i; rw [hi] at this; exact this
    have hlt : n.toNat < xs.length := (List.getElem?_eq_some_iff.1 hc).1
    generalize hv : a.eval x = v at h1
    cases h1 with
    | lst sz full xs ad cap u hcap hmax hfull hsz hnone hcell hrec =>
      cases ad with
      | none => have := hnone rfl; omega
      | some ad =>
        refine ⟨.pointer (some (ad.add (n.toNat * ei.size))), ?_, ?_⟩
        · simp only [execOp, ho, hv, h2, Sem.run_bind, run_indexAt m.w t e ht ei he ad xs.length cap k n h0 (by omega), Result.andThen_ok]
          rfl
        · have hcl : 0 < c.length := by rw [hsz c (List.mem_of_getElem? hc)]; exact hp
          · obtain ⟨p1, p2, _⟩ := hcell n.toNat 0 c c[0] hc (by simp [hcl]) ad rfl
            rw [addr_add p1]
            refine ⟨_, rfl, rfl, fun j x hj => ?_⟩
            obtain ⟨_, _, p3⟩ := hcell n.toNat j c x hc hj ad rfl
            refine ⟨p2, u n.toNat j, ?_, hrec n.toNat j c x hc hj⟩
            rw [show ad.off + n.toNat * ei.size + j = ad.off + (n.toNat * ei.size + j) by omega]
            exact p3


theorem ok_indexOwn {F : Fr} {A : Nat → Prop} {id : Nat} {o : Oper} {s : AS} (hd : ∀ k, o.dst = some k → k < F.N) (t e : TypeId) (x i : Operand) (ho : o.op = .indexAddr t x i) (ht : F.P.underlying t = some (.slice e))
    (ei : TI) (he : TIok F.P e ei) (q e' : Nat) (xs : List (List AV)) (hx : s.val x = .own q) (hq : s (.tok q) = .tok e' ei.size xs) (k : IntKind) (n : Int) (hi : s.val i = .int k n) (h0 : 0 ≤ n) (h1 : n < xs.length) :
    OpOk F A id o s (dst o.dst (.elt q n.toNat 0)) :=
  opOk_pure hd fun a m h hs => by
    subst hs
    have hv : VR0 m (.own q) (a.eval x) := by have := h.val x; rw [hx] at this; exact this
    have h2 : a.eval i = .int k n := by have := h.val i; rw [hi] at this; exact this
    rcases reads_own h.mr hv hq with ⟨_, _, rfl⟩ | ⟨b, o, cap, cur, hτ, hv', _⟩
    · simp at h1; omega
    · refine ⟨.pointer (some ((⟨b, o, none⟩ : Addr).add (n.toNat * ei.size))), ?_, ?_⟩
      · simp only [execOp, ho, hv', h2, Sem.run_bind, run_indexAt m.w t e ht ei he ⟨b, o, none⟩ xs.length cap k n h0 h1, Result.andThen_ok]
        rfl
      · rw [add_none]
        refine ⟨hv.1, rfl, fun e2 sz2 xs2 hs2 => ?_⟩
        rw [hq] at hs2; cases hs2
        refine ⟨by omega, fun b' o' cap' hτ' => ?_⟩
        rw [hτ] at hτ'; cases hτ'
        rfl

/-- An element of a slice of the call's own, in memory. -/
theorem elt_cells {m : Mem} (hm : MR m) {q i j : Nat} {v : Value} (hv : VR0 m (.elt q i j) v) {e sz : Nat} {xs : List (List AV)} (hs : m.s (.tok q) = .tok e sz xs) :
    ∃ b o cap cur, m.τ q = some (b, o, cap) ∧ v = .pointer (some ⟨b, o + (i * sz + j), none⟩) ∧ m.w.heap[b]? = some (.cells cur e (0, 0)) ∧ o + cap * sz ≤ cur.size ∧ xs.length ≤ cap ∧ i < xs.length ∧ 0 < sz ∧
      (∀ c ∈ xs, c.length = sz) ∧ ¬ m.ok b ∧ cap ≤ maxLen ∧
      ∀ (i j : Nat) (c : List AV) (x : AV), xs[i]? = some c → c[j]? = some x → ∃ u, cur[o + (i * sz + j)]? = some u ∧ PR m.w m.ok x u := by
  obtain ⟨_, _, h2⟩ := hv
  obtain ⟨g1, g2⟩ := h2 e sz xs hs
  obtain ⟨_, t0, t1, t2, t3⟩ := hm.tok q e sz xs hs
  cases hτ : m.τ q with
  | none => have := t2 hτ; subst this; simp at g1
  | some p =>
    obtain ⟨b, o, cap⟩ := p
    obtain ⟨c0, c1, c2, cur, c3, c4, c5⟩ := t3 b o cap hτ
    exact ⟨b, o, cap, cur, rfl, g2 b o cap hτ, c3, c4, c1, g1, t0, t1, c0, c2, c5⟩

theorem ok_loadElt {F : Fr} {A : Nat → Prop} {id : Nat} {o : Oper} {s : AS} (hd : ∀ k, o.dst = some k → k < F.N) (t : TypeId) (x : Operand) (ho : o.op = .load t x) (ti : TI) (ht : TIok F.P t ti)
    (q i j e sz : Nat) (xs : List (List AV)) (hx : s.val x = .elt q i j) (hq : s (.tok q) = .tok e sz xs) (hf : j + ti.size ≤ sz) (hp : 0 < ti.size) (c : List AV) (hc : xs[i]? = some c) :
    OpOk F A id o s (dst o.dst (ofCells ti ((c.drop j).take ti.size))) :=
  opOk_pure hd fun a m h hs => by
    subst hs
    have hv : VR0 m (.elt q i j) (a.eval x) := by have := h.val x; rw [hx] at this; exact this
    obtain ⟨b, oo, cap, cur, hτ, hv', hcur, hfit, hle, hi, hsz, hesz, _, _, hcells⟩ := elt_cells h.mr hv hq
    have hcl := hesz c (List.mem_of_getElem? hc)
    have hlen : ((c.drop j).take ti.size).length = ti.size := by simp; omega
    have hb : i * sz + sz ≤ cap * sz := by
      have : (i + 1) * sz ≤ cap * sz := Nat.mul_le_mul_right _ (by omega)
      rw [Nat.add_mul] at this
      omega
    have hlen2 : ((cur.toList.drop (oo + (i * sz + j))).take ti.size).length = ti.size := by simp; omega
    refine ⟨_, ?_, ofCells_vr _ hlen hp ((cur.toList.drop (oo + (i * sz + j))).take ti.size) (hlen2.trans hlen.symm) (fun k y hk => ?_)⟩
    · simp only [execOp, ho, hv', Instr.loadAt, Instr.sureAddr, Sem.run_bind, Sem.run_pure, Result.andThen_ok]
      rw [run_loadVar_cells ht m.w _ hp _ hlen2 (fun k u hk => by
        rw [add_none, cell_of_row m.w _ _ cur e _ hcur]
        rw [List.getElem?_take] at hk
        split at hk
        · rw [List.getElem?_drop] at hk; simpa using hk
        · cases hk)]
      rfl
    · rw [List.getElem?_take] at hk ⊢
      split at hk
      · rename_i hlt
        rw [List.getElem?_drop] at hk
        rw [if_pos hlt, List.getElem?_drop]
        obtain ⟨u, e1, e2⟩ := hcells i (j + k) c y hc hk
        refine ⟨u, ?_, e2.oneCell, e2.vr0⟩
        rw [show oo + (i * sz + j) + k = oo + (i * sz + (j + k)) by omega]
        simpa using e1
      · cases hk

/-- The row of a token is written: the same number of elements. -/
theorem StX.setTok {F : Fr} {a : Act} {m : Mem} (h : StX F a m) (q b o cap e sz : Nat) (xs xs' : List (List AV)) (cur cur' : Array Value) (hq : m.s (.tok q) = .tok e sz xs) (hτ : m.τ q = some (b, o, cap))
    (hcur : m.w.heap[b]? = some (.cells cur e (0, 0))) (hl : xs'.length = xs.length) (hesz : ∀ c ∈ xs', c.length = sz) (hsize : cur'.size = cur.size)
    (hc : ∀ (i j : Nat) (c : List AV) (x : AV), xs'[i]? = some c → c[j]? = some x → ∃ u, cur'[o + (i * sz + j)]? = some u ∧ PR m.w m.ok x u) :
    StX F a { m with s := m.s.put (.tok q) (.tok e sz xs'), w := m.w.setRow b cur' } := by
  have hm := h.mr
  obtain ⟨tA, t0, t1, t2, t3⟩ := hm.tok q e sz xs hq
  obtain ⟨c0, c1, c2, cur0, c3, c4, c5⟩ := t3 b o cap hτ
  rw [hcur] at c3; cases c3
  have htok : ∀ t et szt xt, (m.s.put (.tok q) (.tok e sz xs')) (.tok t) = .tok et szt xt → (t = q ∧ et = e ∧ szt = sz ∧ xt = xs') ∨ (t ≠ q ∧ m.s (.tok t) = .tok et szt xt) := by
    intro t et szt xt ht
    by_cases htq : t = q
    · subst htq
      rw [put_tok_same] at ht; cases ht
      exact .inl ⟨rfl, rfl, rfl, rfl⟩
    · rw [put_tok_ne _ _ _ _ htq] at ht
      exact .inr ⟨htq, ht⟩
  have hlive : ∀ t et szt xt, (m.s.put (.tok q) (.tok e sz xs')) (.tok t) = .tok et szt xt → ∃ x0, m.s (.tok t) = .tok et szt x0 := by
    intro t et szt xt ht
    rcases htok t et szt xt ht with ⟨rfl, rfl, rfl, rfl⟩ | ⟨_, h2⟩
    · exact ⟨xs, hq⟩
    · exact ⟨xt, h2⟩
  have he : Ext m { m with s := m.s.put (.tok q) (.tok e sz xs'), w := m.w.setRow b cur' } :=
    { tok := fun t et szt xt ht _ => by
        rcases htok t et szt xt ht with ⟨rfl, rfl, rfl, rfl⟩ | ⟨_, h2⟩
        · exact ⟨xs, hq, hl.symm, rfl⟩
        · exact ⟨xt, h2, rfl, rfl⟩
      box := fun _ cs' h _ => ⟨⟨cs', h⟩, rfl⟩
      A := fun _ h => h
      ok := fun _ h => h
      cell := fun k off hk => cell_setRow_ne _ _ _ _ _ (by rintro rfl; exact c0 hk) }
  refine h.mem ⟨fun k hk => ?_, fun i cs' hi => ?_, fun t et szt xt ht => ?_, hm.sepB, fun i j ei ej si sj xi xj p q' hi hj hp hq' hne => ?_, fun i j ci ej sj xj q' hi hj hq' => ?_⟩ he (fun _ => rfl)
    (h.keep.setRow _ _ (.inl (h.newT q e sz xs _ hq hτ))) (fun _ _ => rfl) h.newB (fun t et szt xt p ht hp => ?_) (fun _ hb => .inl hb)
  · show k < (m.w.setRow _ _).heap.size
    rw [size_setRow]; exact hm.okLt k hk
  · obtain ⟨h1, h2, cur1, e1, h3, h4, h5⟩ := hm.box i cs' hi
    refine ⟨h1, h2, cur1, e1, ?_, h4, fun j c hj => ?_⟩
    · show (m.w.setRow _ _).heap[m.β i]? = _
      rw [setRow_other _ _ _ _ (hm.sepM i q cs' e sz xs (b, o, cap) hi hq hτ)]
      exact h3
    · obtain ⟨u, g1, g2, g3⟩ := h5 j c hj
      exact ⟨u, g1, g2, g3.ext he⟩
  · rcases htok t et szt xt ht with ⟨rfl, rfl, rfl, rfl⟩ | ⟨hne, h2⟩
    · refine ⟨tA, t0, hesz, fun hn => ?_, fun b' o' cap' hb' => ?_⟩
      · have hn' : m.τ t = none := hn
        rw [hτ] at hn'; cases hn'
      · have hb'' : m.τ t = some (b', o', cap') := hb'
        rw [hτ] at hb''; cases hb''
        refine ⟨c0, by omega, c2, cur', setRow_heap _ _ _ _ _ _ hcur, by omega, fun i j c x hi hj => ?_⟩
        obtain ⟨u, q1, q2⟩ := hc i j c x hi hj
        exact ⟨u, q1, ext_ok he q2⟩
    · obtain ⟨h1, h3, h4, h5, h6⟩ := hm.tok t et szt xt h2
      refine ⟨h1, h3, h4, h5, fun b' o' cap' hb' => ?_⟩
      obtain ⟨g1, g2, g3, cur1, g4, g5, g6⟩ := h6 b' o' cap' hb'
      refine ⟨g1, g2, g3, cur1, ?_, g5, fun i j c x hi hj => ?_⟩
      · show (m.w.setRow _ _).heap[b']? = _
        have hbb : b' ≠ b := hm.sepT t q et e szt sz xt xs _ _ h2 hq hb' hτ hne
        rw [setRow_other _ _ _ _ hbb]
        exact g4
      · obtain ⟨u, q1, q2⟩ := g6 i j c x hi hj
        exact ⟨u, q1, ext_ok he q2⟩
  · obtain ⟨x1, hx1⟩ := hlive i ei si xi hi
    obtain ⟨x2, hx2⟩ := hlive j ej sj xj hj
    exact hm.sepT i j ei ej si sj x1 x2 p q' hx1 hx2 hp hq' hne
  · obtain ⟨x2, hx2⟩ := hlive j ej sj xj hj
    exact hm.sepM i j ci ej sj x2 q' hi hx2 hq'
  · obtain ⟨x2, hx2⟩ := hlive t et szt xt ht
    exact h.newT t et szt x2 p hx2 hp

end Go.Vc
