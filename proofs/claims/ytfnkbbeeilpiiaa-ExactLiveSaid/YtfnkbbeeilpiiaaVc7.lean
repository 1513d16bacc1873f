/- Vc, part 7: structs compared. -/
import Derived.Test.YtfnkbbeeilpiiaaVc6
namespace Go.Vc
open Go.RowKit

theorem eqCells_int (ks : List Bool) (k k' : IntKind) (a b : Int) (as bs : List AV) (r : Bool) (h : eqCells (true :: ks) (.int k a :: as) (.int k' b :: bs) = some r) :
    k = k' ∧ ∃ r', eqCells ks as bs = some r' ∧ r = (a == b && r') := by
  simp only [eqCells] at h
  split at h
  · rename_i r' h1 h2
    cases h
    exact ⟨by simpa using h1, r', h2, rfl⟩
  · cases h

theorem eqCells_bool (ks : List Bool) (a b : AV) (as bs : List AV) (r : Bool) (h : eqCells (false :: ks) (a :: as) (b :: bs) = some r) :
    ∃ x y r', boolOf a = some x ∧ boolOf b = some y ∧ eqCells ks as bs = some r' ∧ r = ((x == y) && r') := by
  simp only [eqCells] at h
  split at h
  · rename_i x y r' h1 h2 h3
    cases h
    exact ⟨x, y, r', h1, h2, h3, rfl⟩
  · cases h

/-- What the shape must be. -/
theorem eqCells_shape (k : Bool) (ks : List Bool) (as bs : List AV) (r : Bool) (h : eqCells (k :: ks) as bs = some r) :
    ∃ a as' b bs', as = a :: as' ∧ bs = b :: bs' ∧ ((k = true ∧ ∃ κ p κ' q, a = .int κ p ∧ b = .int κ' q) ∨ k = false) := by
  cases k with
  | true =>
    cases as with
    | nil => simp [eqCells] at h
    | cons a as =>
      cases bs with
      | nil => cases a <;> simp [eqCells] at h
      | cons b bs =>
        refine ⟨a, as, b, bs, rfl, rfl, .inl ⟨rfl, ?_⟩⟩
        cases a <;> cases b <;> first | exact ⟨_, _, _, _, rfl, rfl⟩ | (simp [eqCells] at h)
  | false =>
    cases as with
    | nil => simp [eqCells] at h
    | cons a as =>
      cases bs with
      | nil => simp [eqCells] at h
      | cons b bs => exact ⟨a, as, b, bs, rfl, rfl, .inr rfl⟩

theorem eqCells_nil (as bs : List AV) (r : Bool) (h : eqCells [] as bs = some r) : as = [] ∧ bs = [] ∧ r = true := by
  cases as <;> cases bs <;> simp [eqCells] at h
  simp [h]

theorem eqCells_len : ∀ (ks : List Bool) (as bs : List AV) (r : Bool), eqCells ks as bs = some r → as.length = ks.length ∧ bs.length = ks.length
  | [], as, bs, r, h => by obtain ⟨rfl, rfl, _⟩ := eqCells_nil as bs r h; simp
  | k :: ks, as, bs, r, h => by
    obtain ⟨a, as', b, bs', rfl, rfl, hk⟩ := eqCells_shape k ks as bs r h
    rcases hk with ⟨rfl, κ, p, κ', q, rfl, rfl⟩ | rfl
    · obtain ⟨_, r', h1, _⟩ := eqCells_int _ _ _ _ _ _ _ _ h
      have := eqCells_len _ _ _ _ h1
      simp [this.1, this.2]
    · obtain ⟨_, _, r', _, _, h1, _⟩ := eqCells_bool _ _ _ _ _ _ h
      have := eqCells_len _ _ _ _ h1
      simp [this.1, this.2]

theorem eqCells_append : ∀ (k1 k2 : List Bool) (as bs : List AV) (r : Bool), eqCells (k1 ++ k2) as bs = some r →
    ∃ r1 r2, eqCells k1 (as.take k1.length) (bs.take k1.length) = some r1 ∧ eqCells k2 (as.drop k1.length) (bs.drop k1.length) = some r2 ∧ r = (r1 && r2)
  | [], k2, as, bs, r, h => ⟨true, r, by simp [eqCells], by simpa using h, by simp⟩
  | k :: k1, k2, as, bs, r, h => by
    simp only [List.cons_append] at h
    obtain ⟨a, as', b, bs', rfl, rfl, hk⟩ := eqCells_shape k _ as bs r h
    rcases hk with ⟨rfl, κ, p, κ', q, rfl, rfl⟩ | rfl
    · obtain ⟨rfl, r', h1, rfl⟩ := eqCells_int _ _ _ _ _ _ _ _ h
      obtain ⟨r1, r2, g1, g2, rfl⟩ := eqCells_append _ _ _ _ _ h1
      exact ⟨(p == q && r1), r2, by simp [eqCells, g1], by simpa using g2, by simp [Bool.and_assoc]⟩
    · obtain ⟨x, y, r', hx, hy, h1, rfl⟩ := eqCells_bool _ _ _ _ _ _ h
      obtain ⟨r1, r2, g1, g2, rfl⟩ := eqCells_append _ _ _ _ _ h1
      exact ⟨((x == y) && r1), r2, by simp [eqCells, g1, hx, hy], by simpa using g2, by simp [Bool.and_assoc]⟩

/-- The cells of a concrete value, from n on, are as these. -/
def CR (m : Mem) (as : List AV) (vs : Array Value) (n : Nat) : Prop := ∀ (j : Nat) (c : AV), as[j]? = some c → ∃ u, vs[n + j]? = some u ∧ VR0 m c u

/-- The value of a type, out of cells. -/
def Vals (P : Program) (m : Mem) (t : TypeId) (as : List AV) (u : Value) : Prop :=
  ((∃ vs, u = .agg vs ∧ CR m as vs 0 ∧ vs.size = as.length) ∧ ∃ fs, P.underlying t = some (.struct fs)) ∨
  ((∃ c, as = [c] ∧ VR0 m c u) ∧ ∃ d, P.underlying t = some d ∧ (match d with | .struct _ | .array _ _ => true | _ => false) = false)

theorem run_part {P : Program} {m : Mem} {w : World} {t : TypeId} {n : Nat} {as : List AV} {vs : Array Value} (hi : (P.info? t).map (·.size) = some as.length)
    (hk : (∃ fs, P.underlying t = some (.struct fs)) ∨ (as.length = 1 ∧ ∃ d, P.underlying t = some d ∧ (match d with | .struct _ | .array _ _ => true | _ => false) = false))
    (h : CR m as vs n) (hn : n + as.length ≤ vs.size) : ∃ u, (part t vs n).run P w = .ok u w ∧ Vals P m t as u := by
  rcases hk with ⟨fs, hf⟩ | ⟨h1, d, hd, hd'⟩
  · cases hin : P.info? t with
    | none => rw [hin] at hi; cases hi
    | some i =>
      rw [hin] at hi
      simp only [Option.map_some, Option.some.injEq] at hi
      refine ⟨.agg (vs.extract n (n + as.length)), ?_, .inl ⟨⟨_, rfl, fun j c hj => ?_, ?_⟩, fs, hf⟩⟩
      · simp [part, isAgg, run_underlying hf, sizeOf, typeInfo, hin, hi]
      · obtain ⟨u, g1, g2⟩ := h j c hj
        have hlt : j < as.length := (List.getElem?_eq_some_iff.1 hj).1
        refine ⟨u, ?_, g2⟩
        rw [Array.getElem?_extract]
        simp only [Nat.zero_add]
        rw [if_pos (by omega)]
        exact g1
      · simp; omega
  · match as, h1 with
    | [c], _ =>
      obtain ⟨u, g1, g2⟩ := h 0 c rfl
      refine ⟨u, ?_, .inr ⟨⟨c, rfl, g2⟩, d, hd, hd'⟩⟩
      simp only [part, isAgg, Sem.run_bind, run_underlying hd, Result.andThen_ok]
      simp only [Nat.add_zero] at g1
      cases d <;> simp_all

theorem run_eqFields {P : Program} {w : World} {m : Mem} {d : Nat} {xs ys : Array Value} : ∀ (fs : List Field) (kss : List (List Bool)) (n : Nat) (as bs : List AV) (r : Bool), kss.length = fs.length →
    (∀ (j : Nat) (f : Field) (ks : List Bool), fs[j]? = some f → kss[j]? = some ks → f.name ≠ "_" ∧ f.offset = n + (kss.take j).flatten.length ∧ (P.info? f.type).map (·.size) = some ks.length ∧
      ((∃ fs, P.underlying f.type = some (.struct fs)) ∨ (ks.length = 1 ∧ ∃ d, P.underlying f.type = some d ∧ (match d with | .struct _ | .array _ _ => true | _ => false) = false)) ∧
      ∀ (as bs : List AV) (r : Bool) (u v : Value), eqCells ks as bs = some r → Vals P m f.type as u → Vals P m f.type bs v → (Op.equalIn d f.type u v).run P w = .ok r w) →
    CR m as xs n → CR m bs ys n → n + as.length ≤ xs.size → n + bs.length ≤ ys.size → eqCells kss.flatten as bs = some r → (Op.eqFields d xs ys fs).run P w = .ok r w
  | [], kss, n, as, bs, r, hl, _, _, _, _, _, h => by
    have : kss = [] := List.eq_nil_of_length_eq_zero (by simpa using hl)
    subst this
    obtain ⟨_, _, rfl⟩ := eqCells_nil as bs r h
    rfl
  | f :: fs, [], n, as, bs, r, hl, _, _, _, _, _, h => by simp at hl
  | f :: fs, ks :: kss, n, as, bs, r, hl, hf, ha, hb, hna, hnb, h => by
    rw [List.flatten_cons] at h
    obtain ⟨la, lb⟩ := eqCells_len _ _ _ _ h
    rw [List.length_append] at la lb
    obtain ⟨r1, r2, g1, g2, rfl⟩ := eqCells_append _ _ _ _ _ h
    obtain ⟨f1, f2, f3, f4, f5⟩ := hf 0 f ks rfl rfl
    simp only [List.take_zero, List.flatten_nil, List.length_nil, Nat.add_zero] at f2
    have hta : (as.take ks.length).length = ks.length := by simp; omega
    have htb : (bs.take ks.length).length = ks.length := by simp; omega
    have ca : CR m (as.take ks.length) xs n := fun j c hj => ha j c (by
      rw [List.getElem?_take] at hj
      split at hj
      · exact hj
      · cases hj)
    have cb : CR m (bs.take ks.length) ys n := fun j c hj => hb j c (by
      rw [List.getElem?_take] at hj
      split at hj
      · exact hj
      · cases hj)
    obtain ⟨u, p1, p2⟩ := run_part (P := P) (w := w) (t := f.type) (by rw [hta]; exact f3) (by rw [hta]; exact f4) ca (by omega)
    obtain ⟨v, q1, q2⟩ := run_part (P := P) (w := w) (t := f.type) (by rw [htb]; exact f3) (by rw [htb]; exact f4) cb (by omega)
    have he := f5 _ _ _ u v g1 p2 q2
    have ih := run_eqFields (P := P) (w := w) (m := m) (d := d) (xs := xs) (ys := ys) fs kss (n + ks.length) (as.drop ks.length) (bs.drop ks.length) r2 (by simpa using hl)
      (fun j g kg hj hk => by
        obtain ⟨e1, e2, e3⟩ := hf (j + 1) g kg (by simpa using hj) (by simpa using hk)
        refine ⟨e1, ?_, e3⟩
        rw [e2, List.take_succ_cons, List.flatten_cons, List.length_append]
        omega)
      (fun j c hj => by rw [List.getElem?_drop] at hj; obtain ⟨x, e1, e2⟩ := ha _ c hj; exact ⟨x, by rw [show n + ks.length + j = n + (ks.length + j) by omega]; exact e1, e2⟩)
      (fun j c hj => by rw [List.getElem?_drop] at hj; obtain ⟨x, e1, e2⟩ := hb _ c hj; exact ⟨x, by rw [show n + ks.length + j = n + (ks.length + j) by omega]; exact e1, e2⟩)
      (by simp; omega) (by simp; omega) g2
    simp only [Op.eqFields, f1, ne_eq, not_false_eq_true, if_true, Sem.run_bind, f2, p1, q1, he, Result.andThen_ok]
    cases r1
    · simp
    · simpa using ih

theorem EqT.kind {P : Program} {t : TypeId} {ks : List Bool} {d : Nat} (h : EqT P t ks d) :
    (∃ fs, P.underlying t = some (.struct fs)) ∨ (ks.length = 1 ∧ ∃ d, P.underlying t = some d ∧ (match d with | .struct _ | .array _ _ => true | _ => false) = false) := by
  cases h with
  | int _ k d hu => exact .inr ⟨rfl, _, hu, rfl⟩
  | bool _ d hu => exact .inr ⟨rfl, _, hu, rfl⟩
  | struct _ d kss hu => exact .inl ⟨_, hu⟩

theorem eq_run {P : Program} {t : TypeId} {ks : List Bool} {D : Nat} (h : EqT P t ks D) : ∀ (d : Nat), D ≤ d → ∀ (w : World) (m : Mem) (as bs : List AV) (r : Bool) (u v : Value), eqCells ks as bs = some r →
    Vals P m t as u → Vals P m t bs v → (Op.equalIn d t u v).run P w = .ok r w := by
  induction h with
  | int t k D hu =>
    intro d hd w m as bs r u v he ha hb
    obtain ⟨a, as', b, bs', rfl, rfl, hk⟩ := eqCells_shape _ _ as bs r he
    rcases hk with ⟨_, κ, p, κ', q, rfl, rfl⟩ | hk
    · obtain ⟨rfl, r', h1, rfl⟩ := eqCells_int _ _ _ _ _ _ _ _ he
      obtain ⟨rfl, rfl, rfl⟩ := eqCells_nil _ _ _ h1
      rcases ha with ⟨_, fs, hf⟩ | ⟨⟨c, hc, ha⟩, _⟩
      · rw [hu] at hf; cases hf
      rcases hb with ⟨_, fs, hf⟩ | ⟨⟨c', hc', hb⟩, _⟩
      · rw [hu] at hf; cases hf
      cases hc; cases hc'
      have ha' : u = .int κ p := ha
      have hb' : v = .int κ q := hb
      subst ha' hb'
      obtain ⟨d', rfl⟩ : ∃ d', d = d' + 1 := ⟨d - 1, by omega⟩
      rw [run_equalIn_int w d' t κ k p q hu]
      simp
    · cases hk
  | bool t D hu =>
    intro d hd w m as bs r u v he ha hb
    obtain ⟨a, as', b, bs', rfl, rfl, hk⟩ := eqCells_shape _ _ as bs r he
    obtain ⟨x, y, r', hx, hy, h1, rfl⟩ := eqCells_bool _ _ _ _ _ _ he
    obtain ⟨rfl, rfl, rfl⟩ := eqCells_nil _ _ _ h1
    rcases ha with ⟨_, fs, hf⟩ | ⟨⟨c, hc, ha⟩, _⟩
    · rw [hu] at hf; cases hf
    rcases hb with ⟨_, fs, hf⟩ | ⟨⟨c', hc', hb⟩, _⟩
    · rw [hu] at hf; cases hf
    cases hc; cases hc'
    have ha' : u = .bool x := by cases a <;> simp only [boolOf, Option.some.injEq] at hx <;> first | (subst hx; exact ha) | cases hx
    have hb' : v = .bool y := by cases b <;> simp only [boolOf, Option.some.injEq] at hy <;> first | (subst hy; exact hb) | cases hy
    subst ha' hb'
    obtain ⟨d', rfl⟩ : ∃ d', d = d' + 1 := ⟨d - 1, by omega⟩
    rw [run_equalIn_bool' w d' t x y hu]
    simp
  | struct t D kss hu hs hl hn hf ih =>
    intro d hd w m as bs r u v he ha hb
    obtain ⟨xs, rfl, ca, na⟩ : ∃ vs, u = .agg vs ∧ CR m as vs 0 ∧ vs.size = as.length := by
      rcases ha with ⟨h1, _⟩ | ⟨_, d', hd', hd''⟩
      · exact h1
      · rw [hu] at hd'; cases hd'; cases hd''
    obtain ⟨ys, rfl, cb, nb⟩ : ∃ vs, v = .agg vs ∧ CR m bs vs 0 ∧ vs.size = bs.length := by
      rcases hb with ⟨h1, _⟩ | ⟨_, d', hd', hd''⟩
      · exact h1
      · rw [hu] at hd'; cases hd'; cases hd''
    obtain ⟨d', rfl⟩ : ∃ d', d = d' + 1 := ⟨d - 1, by omega⟩
    rw [run_equalIn_agg w d' t xs ys hu hs]
    exact run_eqFields _ kss 0 as bs r hl (fun j f ks hj hk => by
      obtain ⟨h1, h2, h3⟩ := hn j f ks hj hk
      exact ⟨h1, by rw [h2, Nat.zero_add], h3, (hf j f ks hj hk).kind, fun as bs r u v he ha hb => ih j f ks hj hk d' (by omega) w m as bs r u v he ha hb⟩) ca cb (by omega) (by omega) he

theorem ok_aggEq {F : Fr} {A : Nat → Prop} {id : Nat} {o : Oper} {s : AS} (hd : ∀ k, o.dst = some k → k < F.N) (op : BinOp) (t : TypeId) (x y : Operand) (t' : TypeId) (ho : o.op = .binOp op t x y t')
    (ti : TI) (ht : TIok F.P t ti) (as bs : List AV) (hx : s.val x = .agg as) (hy : s.val y = .agg bs) (r : Bool) (hr : eqCells ti.plain as bs = some r) (hne : ti.plain ≠ []) (hop : op = .eql ∨ op = .neq) :
    OpOk F A id o s (dst o.dst (.sb (match op with | .eql => r | _ => !r))) :=
  opOk_pure hd fun a m h hs => by
    have h1 := h.val x
    have h2 := h.val y
    rw [hs, hx] at h1
    rw [hs, hy] at h2
    obtain ⟨vs, g1, g2, g3⟩ := h1
    obtain ⟨us, k1, k2, k3⟩ := h2
    obtain ⟨p1, p2, p3⟩ := ht.plain hne
    have hst : ∃ fs, F.P.underlying t = some (.struct fs) := by
      cases hp : ti.plain with
      | nil => exact absurd hp hne
      | cons k ks =>
        rcases p3.kind with h | ⟨_, d, hd, hd'⟩
        · exact h
        · have hk := ht.kind
          unfold TI.agg at p2
          cases hki : ti.kind <;> rw [hki] at hk p2 <;> simp only [KindOk] at hk <;> first | cases p2 | skip
          · obtain ⟨fl, hk, _⟩ := hk; exact ⟨fl, hk⟩
          · rw [hk] at hd; cases hd; cases hd'
    have he := eq_run p3 10000 (by omega) m.w m as bs r (.agg vs) (.agg us) hr
      (.inl ⟨⟨vs, rfl, fun j c hj => let ⟨u, e1, _, e3⟩ := g3 j c hj; ⟨u, by simpa using e1, e3⟩, g2⟩, hst⟩)
      (.inl ⟨⟨us, rfl, fun j c hj => let ⟨u, e1, _, e3⟩ := k3 j c hj; ⟨u, by simpa using e1, e3⟩, k2⟩, hst⟩)
    rcases hop with rfl | rfl
    · refine ⟨.bool r, ?_, rfl⟩
      simp only [execOp, ho, g1, k1, Sem.run_bind, run_eqGuard_agg _ _ _ _ _ _ _ p1, Result.andThen_ok, run_eql_struct, he]
      rfl
    · refine ⟨.bool (!r), ?_, rfl⟩
      simp only [execOp, ho, g1, k1, Sem.run_bind, run_eqGuard_agg _ _ _ _ _ _ _ p1, Result.andThen_ok, run_neq_struct, he]
      rfl

theorem ok_boolEq {F : Fr} {A : Nat → Prop} {id : Nat} {o : Oper} {s : AS} (hd : ∀ k, o.dst = some k → k < F.N) (op : BinOp) (t : TypeId) (x y : Operand) (t' : TypeId) (ho : o.op = .binOp op t x y t')
    (p q : Bool) (hx : boolOf (s.val x) = some p) (hy : boolOf (s.val y) = some q) (hu : F.P.underlying t = some .bool) (hop : op = .eql ∨ op = .neq) :
    OpOk F A id o s (dst o.dst (.sb (match op with | .eql => p == q | _ => !(p == q)))) :=
  opOk_pure hd fun a m h hs => by
    have h1 : a.eval x = .bool p := boolOf_vr (m := m) hx (hs ▸ h.val x)
    have h2 : a.eval y = .bool q := boolOf_vr (m := m) hy (hs ▸ h.val y)
    rcases hop with rfl | rfl
    · refine ⟨.bool (p == q), ?_, rfl⟩
      simp [execOp, ho, h1, h2, eqGuard, binOp, Op.equal, Op.maxDepth, run_equalIn_bool' m.w _ t p q hu]
    · refine ⟨.bool (!(p == q)), ?_, rfl⟩
      simp [execOp, ho, h1, h2, eqGuard, binOp, Op.equal, Op.maxDepth, run_equalIn_bool' m.w _ t p q hu]

end Go.Vc
