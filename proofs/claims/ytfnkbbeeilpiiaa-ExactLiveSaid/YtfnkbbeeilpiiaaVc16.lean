/- Vc, part 16: every operation does what opSem says. -/
import Derived.Test.YtfnkbbeeilpiiaaVc15
namespace Go.Vc
open Go.RowKit

def ResOk (F : Fr) (A : Nat → Prop) (id : Nat) (o : Oper) (s : AS) : OpRes → Prop
  | .ok e => OpOk F A id o s e
  | .side p e => p → OpOk F A id o s e
  | .elem xs i f => ∀ c, 0 ≤ i → xs[i.toNat]? = some c → OpOk F A id o s (f c)
  | .call f args d => ∃ fop as ts, o.op = .call { callee := .value fop, args := as, argTypes := ts } ∧ s.val fop = .fn f ∧ args = as.toList.map s.val ∧ d = o.dst
  | .bad => True

theorem blt_lt {a b : Nat} (h : Nat.blt a b = true) : a < b := by simpa [Nat.blt_eq] using h

theorem list_args {c : Array Operand} {f : Operand → AV} {l : List AV} (h : c.toList.map f = l) : c.size = l.length := by
  rw [← h]; simp

theorem args1 {c : Array Operand} {f : Operand → AV} {x : AV} (h : c.toList.map f = [x]) : ∃ a, c = #[a] ∧ f a = x := by
  obtain ⟨l⟩ := c
  match l, h with
  | [a], h => exact ⟨a, rfl, by simpa using h⟩

theorem args2 {c : Array Operand} {f : Operand → AV} {x y : AV} (h : c.toList.map f = [x, y]) : ∃ a b, c = #[a, b] ∧ f a = x ∧ f b = y := by
  obtain ⟨l⟩ := c
  match l, h with
  | [a, b], h =>
    simp only [List.map_cons, List.map_nil, List.cons.injEq, and_true] at h
    exact ⟨a, b, rfl, h.1, h.2⟩

section
variable {F : Fr} {A : Nat → Prop} {id : Nat} {o : Oper} {s : AS} {T : Tab} (hT : TabOk F.P T) (hd : ∀ k, o.dst = some k → k < F.N)
include hT hd

theorem bin_sound (op : BinOp) (t : TypeId) (x y : Operand) (t' : TypeId) (ho : o.op = .binOp op t x y t') : ResOk F A id o s (binSem T op t o.dst (s.val x) (s.val y)) := by
  unfold binSem
  split
  · rename_i k a k' b hx hy
    split
    · exact fun h => ok_shift hd .shl t x y t' ho k k' a b hx hy h (.inl rfl)
    · exact fun h => ok_shift hd .shr t x y t' ho k k' a b hx hy h (.inr rfl)
    · split
      · rename_i hk
        have hk' : k = k' := by simpa using hk
        subst hk'
        exact fun h => ok_div hd .quo t x y t' ho k a b hx hy h (.inl rfl)
      · trivial
    · split
      · rename_i hk
        have hk' : k = k' := by simpa using hk
        subst hk'
        exact fun h => ok_div hd .rem t x y t' ho k a b hx hy h (.inr rfl)
      · trivial
    · split
      · rename_i v hk hv
        have hk' : k = k' := by simpa using hk
        subst hk'
        exact ok_intBin hd _ t x y t' ho k a b hx hy v hv
      · trivial
  · rename_i as bs hx hy
    split
    · rename_i ti hti
      split
      · rename_i k ks r hp hr
        exact ok_aggEq hd .eql t x y t' ho ti (hT _ _ hti) as bs hx hy r hr (by rw [hp]; simp) (.inl rfl)
      · rename_i k ks r hp hr
        exact ok_aggEq hd .neq t x y t' ho ti (hT _ _ hti) as bs hx hy r hr (by rw [hp]; simp) (.inr rfl)
      · trivial
    · trivial
  · split
    · rename_i p q ti hp hq hti
      have hk := (hT _ _ hti).kind
      split
      · rename_i hki
        rw [hki] at hk
        exact ok_boolEq hd .eql t x y t' ho p q hp hq hk (.inl rfl)
      · rename_i hki
        rw [hki] at hk
        exact ok_boolEq hd .neq t x y t' ho p q hp hq hk (.inr rfl)
      · trivial
    · trivial

omit hT in
theorem un_sound (op : UnOp) (t : TypeId) (x : Operand) (ho : o.op = .unOp op t x) : ResOk F A id o s (unSem op o.dst (s.val x)) := by
  unfold unSem
  split
  · rename_i b hx
    exact ok_un hd .not t x ho (.bool (!b)) (fun m u hu => by
      rw [hx] at hu
      have hu' : u = .bool b := hu
      subst hu'
      exact ⟨.bool (!b), fun P w => ⟨rfl, rfl⟩⟩)
  · rename_i b hx
    exact ok_un hd .not t x ho (.sb (!b)) (fun m u hu => by
      rw [hx] at hu
      have hu' : u = .bool b := hu
      subst hu'
      exact ⟨.bool (!b), fun P w => ⟨rfl, rfl⟩⟩)
  · rename_i k n hx
    exact ok_un hd .neg t x ho _ (fun m u hu => by
      rw [hx] at hu
      have hu' : u = .int k n := hu
      subst hu'
      exact ⟨_, fun P w => ⟨rfl, rfl⟩⟩)
  · rename_i k n hx
    exact ok_un hd .xor t x ho _ (fun m u hu => by
      rw [hx] at hu
      have hu' : u = .int k n := hu
      subst hu'
      exact ⟨_, fun P w => ⟨rfl, rfl⟩⟩)
  · trivial

omit hd in
theorem slice_kind {t e : Nat} {ti : TI} (hti : Tab.find T t = some ti) (hk : ti.kind = .slice e) : F.P.underlying t = some (.slice e) := by
  have := (hT _ _ hti).kind
  rw [hk] at this
  exact this

theorem append_sound (x y : Operand) (t : TypeId) (ho : o.op = .call { callee := .builtin .append, args := #[x, y], argTypes := #[t, t] }) : ResOk F A id o s (appendSem s T id o.dst t (s.val x) (s.val y)) := by
  unfold appendSem
  split
  · rename_i ti hti
    split
    · rename_i e hk
      have ht := slice_kind hT hti hk
      split
      · rename_i ei hei
        have he := hT _ _ hei
        split
        · rename_i ys hp hy
          have hp' := blt_lt hp
          split
          · rename_i k hx
            split
            · rename_i e' sz xs hs
              split
              · rename_i hc
                simp only [Bool.and_eq_true] at hc
                have h1 := Nat.eq_of_beq_eq_true hc.1
                have h2 := Nat.eq_of_beq_eq_true hc.2
                subst h1 h2
                exact fun ⟨h3, h4⟩ => ok_append hd x y t e' ho ht ei he hp' ys hy xs _ h3 h4 (.inl ⟨k, hx, hs, rfl⟩)
              · trivial
            · trivial
          · rename_i hx
            exact fun ⟨h3, h4⟩ => ok_append hd x y t e ho ht ei he hp' ys hy [] _ (by simpa using h3) (by simpa using h4) (.inr (.inl ⟨hx, rfl, rfl⟩))
          · rename_i sz xs hx
            split
            · rename_i hc
              have h1 := Nat.eq_of_beq_eq_true hc
              subst h1
              exact fun ⟨h2, h3, h4⟩ => ok_append hd x y t e ho ht ei he hp' ys hy xs _ h3 h4 (.inr (.inr ⟨hx, h2, rfl⟩))
            · trivial
          · trivial
        · trivial
      · trivial
    · trivial
  · trivial

theorem builtin_sound (b : Builtin) (args : Array Operand) (ts : Array TypeId) (ho : o.op = .call { callee := .builtin b, args := args, argTypes := ts }) :
    ResOk F A id o s (builtinSem s T id o.dst b ts (args.toList.map s.val)) := by
  unfold builtinSem
  split
  · split
    · rename_i x t hx ht
      obtain ⟨a, rfl, rfl⟩ := args1 hx
      split
      · rename_i ti xs hti hxs
        split
        · rename_i e hk
          exact ok_len hd a ts ho t e (by
            obtain ⟨l⟩ := ts
            simp only at ht
            rw [ht]
            rfl) (slice_kind hT hti hk) xs hxs
        · trivial
      · trivial
    · trivial
  · split
    · rename_i k a k' b hx
      obtain ⟨p, q, rfl, hp, hq⟩ := args2 hx
      split
      · rename_i hk
        have hk' : k = k' := by simpa using hk
        subst hk'
        exact ok_minmax hd .min (.inl rfl) p q ts ho k a b hp hq
      · trivial
    · trivial
  · split
    · rename_i k a k' b hx
      obtain ⟨p, q, rfl, hp, hq⟩ := args2 hx
      split
      · rename_i hk
        have hk' : k = k' := by simpa using hk
        subst hk'
        exact ok_minmax hd .max (.inr rfl) p q ts ho k a b hp hq
      · trivial
    · trivial
  · split
    · rename_i x y t t' hx ht
      obtain ⟨p, q, rfl, rfl, rfl⟩ := args2 hx
      split
      · rename_i hk
        have hk' := Nat.eq_of_beq_eq_true hk
        subst hk'
        have hts : ts = #[t, t] := by
          obtain ⟨l⟩ := ts
          simp only at ht
          rw [ht]
        subst hts
        exact append_sound hT hd p q t ho
      · trivial
    · trivial
  · trivial

theorem slice_sound (t e : TypeId) (ti ei : TI) (hti : Tab.find T t = some ti) (hk : ti.kind = .slice e) (hei : Tab.find T e = some ei) (x : Operand) (lo hi mx : Option Operand) (ho : o.op = .slice t x lo hi mx) :
    ResOk F A id o s (sliceSem s id o.dst ei.size (s.val x) (lo.map s.val) (hi.map s.val) (mx.map s.val)) := by
  have ht := slice_kind hT hti hk
  have he := hT _ _ hei
  unfold sliceSem
  split
  · rename_i sz f xs hx
    split
    · rename_i hb
      have := Nat.eq_of_beq_eq_true hb
      subst this
      split
      · rename_i k h h1 h2 h3
        cases lo <;> cases hi <;> cases mx <;> simp at h1 h2 h3
        rename_i y
        exact fun ⟨p, q⟩ => ok_sliceLst hd t e x _ _ _ ho ht ei he f xs hx _ (.inl ⟨y, k, h, rfl, rfl, rfl, h2, p, q, rfl⟩)
      · rename_i k l h1 h2 h3
        cases lo <;> cases hi <;> cases mx <;> simp at h1 h2 h3
        rename_i y
        exact fun ⟨p, q⟩ => ok_sliceLst hd t e x _ _ _ ho ht ei he f xs hx _ (.inr (.inl ⟨y, k, l, rfl, rfl, rfl, h1, p, q, rfl⟩))
      · rename_i k l k' h h1 h2 h3
        cases lo <;> cases hi <;> cases mx <;> simp at h1 h2 h3
        rename_i y y'
        exact fun ⟨p, q, r⟩ => ok_sliceLst hd t e x _ _ _ ho ht ei he f xs hx _ (.inr (.inr (.inl ⟨y, y', k, k', l, h, rfl, rfl, rfl, h1, h2, p, q, r, rfl⟩)))
      · rename_i k h k' q h1 h2 h3
        cases lo <;> cases hi <;> cases mx <;> simp at h1 h2 h3
        rename_i y y'
        exact fun ⟨p, r, u⟩ => ok_sliceLst hd t e x _ _ _ ho ht ei he f xs hx _ (.inr (.inr (.inr ⟨y, y', k, k', h, q, rfl, rfl, rfl, h2, h3, p, r, u, rfl⟩)))
      · trivial
    · trivial
  · rename_i k hx
    split
    · rename_i e' sz xs hs
      split
      · rename_i hb
        have := Nat.eq_of_beq_eq_true hb
        subst this
        split
        · rename_i kk h h1 h2 h3
          cases lo <;> cases hi <;> cases mx <;> simp at h1 h2 h3
          rename_i y
          exact fun ⟨p, q⟩ => ok_sliceOwn hd t e x _ _ _ ho ht ei he k e' xs hx hs _ (.inl ⟨y, kk, h, rfl, rfl, rfl, h2, p, q, rfl⟩)
        · rename_i kk l h1 h2 h3
          cases lo <;> cases hi <;> cases mx <;> simp at h1 h2 h3
          rename_i y
          exact fun ⟨p, q⟩ => ok_sliceOwn hd t e x _ _ _ ho ht ei he k e' xs hx hs _ (.inr ⟨y, kk, l, rfl, rfl, rfl, h1, p, q, rfl⟩)
        · trivial
      · trivial
    · trivial
  · trivial

theorem op_sound : ResOk F A id o s (opSem T id s o) := by
  unfold opSem
  split
  · rename_i x ho
    exact ok_move hd x (.inl ho)
  · rename_i x ho
    exact ok_move hd x (.inr ho)
  · rename_i c x y ho
    split
    · rename_i hc
      have := ok_pick (A := A) (id := id) hd c x y ho true hc
      exact this
    · rename_i hc
      have := ok_pick (A := A) (id := id) hd c x y ho false hc
      exact this
    · trivial
  · rename_i t ho
    split
    · rename_i ti hti; exact ok_alloc hd t ho ti (hT _ _ hti)
    · trivial
  · rename_i t x ho
    split
    · rename_i hs; exact ok_box hd t x ho hs
    · trivial
  · rename_i t ps ho
    split
    · rename_i ti hti
      split
      · rename_i fs hk
        split
        · rename_i cs hf; exact ok_build hd t ps ho ti (hT _ _ hti) fs hk cs hf
        · trivial
      · trivial
    · trivial
  · rename_i t n ps ho
    split
    · rename_i ti hti
      split
      · rename_i e hk
        split
        · rename_i ei hei
          split
          · rename_i xs ks hf
            split
            · rename_i hc
              simp only [Bool.and_eq_true] at hc
              exact ok_buildSlice hd t e n ps ho (slice_kind hT hti hk) ei (hT _ _ hei) xs ks hf (Nat.le_of_ble_eq_true hc.1) (blt_lt hc.2.1) hc.2.2
            · trivial
          · trivial
        · trivial
      · trivial
    · trivial
  · rename_i t x ho
    split
    · rename_i ti hti
      split
      · rename_i b off hx
        split
        · rename_i cs hb
          split
          · rename_i hc
            simp only [Bool.and_eq_true] at hc
            exact ok_loadBox hd t x ho ti (hT _ _ hti) b off hx cs hb (Nat.le_of_ble_eq_true hc.1) (blt_lt hc.2)
          · trivial
        · trivial
      · rename_i cs hx
        split
        · rename_i hc
          simp only [Bool.and_eq_true] at hc
          exact ok_loadRp hd t x ho ti (hT _ _ hti) cs hx (Nat.le_of_ble_eq_true hc.1) (blt_lt hc.2)
        · trivial
      · rename_i q i j hx
        split
        · rename_i e sz xs hs
          split
          · rename_i hc
            simp only [Bool.and_eq_true] at hc
            exact fun c _ h1 => ok_loadElt hd t x ho ti (hT _ _ hti) q i j e sz xs hx hs (Nat.le_of_ble_eq_true hc.1) (blt_lt hc.2) c h1
          · trivial
        · trivial
      · trivial
    · trivial
  · rename_i t x y ho
    split
    · rename_i ti hti
      split
      · rename_i hc
        simp only [Bool.and_eq_true] at hc
        have hl := Nat.eq_of_beq_eq_true hc.1
        split
        · rename_i b off hx
          split
          · rename_i cs hb
            split
            · rename_i hc2
              exact ok_storeBox hd t x y ho ti (hT _ _ hti) b off hx cs hb hc.2 hl (Nat.le_of_ble_eq_true hc2)
            · trivial
          · trivial
        · rename_i q i j hx
          split
          · rename_i e sz xs ds hs hds
            split
            · rename_i hc2
              exact fun c _ h1 => ok_storeElt hd t x y ho ti (hT _ _ hti) q i j e sz xs hx hs (Nat.le_of_ble_eq_true hc2) ds hds hl c h1
            · trivial
          · trivial
        · trivial
      · trivial
    · trivial
  · rename_i x ho
    split
    · rename_i i j hx
      split
      · rename_i cs hb
        have := ok_nilCheck (A := A) (id := id) hd x ho (.inl ⟨i, j, cs, hx, hb⟩)
        rw [hx] at this
        exact this
      · trivial
    · rename_i cs hx
      have := ok_nilCheck (A := A) (id := id) hd x ho (.inr (.inl ⟨cs, hx⟩))
      rw [hx] at this
      exact this
    · rename_i f hx
      have := ok_nilCheck (A := A) (id := id) hd x ho (.inr (.inr ⟨f, hx⟩))
      rw [hx] at this
      exact this
    · trivial
  · rename_i op t x y t' ho
    exact bin_sound hT hd op t x y t' ho
  · rename_i op t x ho
    exact un_sound hd op t x ho
  · rename_i a b x ho
    split
    · rename_i k n ta ti hx hta hti
      split
      · rename_i k' hk
        have h1 := (hT _ _ hti).kind
        rw [hk] at h1
        obtain ⟨d, hd'⟩ : ∃ d, F.P.underlying a = some d := by
          have h2 := (hT _ _ hta).kind
          cases hka : ta.kind <;> rw [hka] at h2 <;> simp only [KindOk] at h2
          case struct => obtain ⟨fl, h2, _⟩ := h2; exact ⟨_, h2⟩
          case other => obtain ⟨d, h2, _⟩ := h2; exact ⟨d, h2⟩
          all_goals exact ⟨_, h2⟩
        exact ok_convert hd a b x ho k' k n hx d hd' h1
      · trivial
    · trivial
  · rename_i t l c ho
    split
    · rename_i ti k n k' q hti hl hc
      split
      · rename_i e hk
        split
        · rename_i ei zs hei hz
          split
          · rename_i hch
            simp only [Bool.and_eq_true] at hch
            rw [hei] at hz
            exact fun ⟨h1, h2, h3, h4⟩ => ok_makeSlice hd t e l c ho (slice_kind hT hti hk) ei (hT _ _ hei) k k' n q hl hc zs hz (Nat.eq_of_beq_eq_true hch.1.2) h1 h2 h3 h4 (blt_lt hch.1.1)
          · trivial
        · trivial
      · trivial
    · trivial
  · rename_i t x lo hi mx ho
    split
    · rename_i ti hti
      split
      · rename_i e hk
        split
        · rename_i ei hei
          exact slice_sound hT hd t e ti ei hti hk hei x lo hi mx ho
        · trivial
      · trivial
    · trivial
  · rename_i t x f ho
    split
    · rename_i ti hti
      split
      · rename_i fo sz hf
        split
        · rename_i i j hp hx
          split
          · rename_i cs hb
            exact ok_fieldAddr hd t x f ho ti (hT _ _ hti) fo sz hf (blt_lt hp) _ (.inl ⟨i, j, cs, hx, hb, rfl⟩)
          · trivial
        · rename_i cs hp hx
          exact ok_fieldAddr hd t x f ho ti (hT _ _ hti) fo sz hf (blt_lt hp) _ (.inr (.inl ⟨cs, hx, rfl⟩))
        · rename_i q i j hp hx
          split
          · rename_i e szz xs hs
            exact ok_fieldAddr hd t x f ho ti (hT _ _ hti) fo sz hf (blt_lt hp) _ (.inr (.inr ⟨q, i, j, e, szz, xs, hx, hs, rfl⟩))
          · trivial
        · trivial
      · trivial
    · trivial
  · rename_i t x i ho
    split
    · rename_i ti hti
      split
      · rename_i e hk
        split
        · rename_i ei sz f xs k n hei hx hi
          split
          · rename_i hc
            simp only [Bool.and_eq_true] at hc
            have := Nat.eq_of_beq_eq_true hc.1
            subst this
            exact fun c h0 h1 => ok_indexLst hd t e x i ho (slice_kind hT hti hk) ei (hT _ _ hei) f xs hx k n hi c h0 h1 (blt_lt hc.2)
          · trivial
        · rename_i ei q k n hei hx hi
          split
          · rename_i e' sz xs hs
            split
            · rename_i hc
              have := Nat.eq_of_beq_eq_true hc
              subst this
              exact fun ⟨h0, h1⟩ => ok_indexOwn hd t e x i ho (slice_kind hT hti hk) ei (hT _ _ hei) q e' xs hx hs k n hi h0 h1
            · trivial
          · trivial
        · trivial
      · trivial
    · trivial
  · rename_i x i ho
    split
    · rename_i vs hx
      split
      · rename_i v hv
        exact ok_extract hd x i ho vs hx v hv
      · trivial
    · trivial
  · rename_i c ho
    obtain ⟨callee, args, ts⟩ := c
    split
    · rename_i b hb
      simp only at hb
      subst hb
      exact builtin_sound hT hd b args ts ho
    · rename_i fop hfop
      simp only at hfop
      subst hfop
      split
      · rename_i f hf
        exact ⟨fop, args, ts, ho, hf, rfl, rfl⟩
      · trivial
    · trivial
  · trivial
end

end Go.Vc
