/- Vc, part 15: stores into elements; cutting. -/
import Derived.Test.YtfnkbbeeilpiiaaVc14
namespace Go.Vc
open Go.RowKit

theorem idx_splice {α : Type} (cur us : List α) (off k : Nat) (h : off + us.length ≤ cur.length) :
    (cur.take off ++ us ++ cur.drop (off + us.length))[k]? = if k < off then cur[k]? else if k < off + us.length then us[k - off]? else cur[k]? := by
  have htl : (cur.take off).length = off := by simp; omega
  rw [List.append_assoc]
  by_cases h1 : k < off
  · rw [if_pos h1, List.getElem?_append_left (by omega), List.getElem?_take, if_pos h1]
  · rw [if_neg h1, List.getElem?_append_right (by omega), htl]
    by_cases h2 : k < off + us.length
    · rw [if_pos h2, List.getElem?_append_left (by omega)]
    · rw [if_neg h2, List.getElem?_append_right (by omega), List.getElem?_drop]
      congr 1
      omega

theorem ok_storeElt {F : Fr} {A : Nat → Prop} {id : Nat} {o : Oper} {s : AS} (hd : ∀ k, o.dst = some k → k < F.N) (t : TypeId) (x y : Operand) (ho : o.op = .store t x y) (ti : TI) (ht : TIok F.P t ti)
    (q i j e sz : Nat) (xs : List (List AV)) (hx : s.val x = .elt q i j) (hq : s (.tok q) = .tok e sz xs) (hf : j + ti.size ≤ sz) (ds : List AV) (hds : persistAll s (s.val y).cells = some (ds, []))
    (hl : (s.val y).cells.length = ti.size) (c : List AV) (hc : xs[i]? = some c) :
    OpOk F A id o s (dst o.dst .junk ++ [(.tok q, .tok e sz (xs.set i (splice c j ds)))]) := by
  rintro a w ⟨β, τ, ok, hx0⟩ hA next Q hn
  generalize hm : (⟨s, β, τ, A, ok, w⟩ : Mem) = m at hx0
  have hs : m.s = s := by rw [← hm]
  have hw : m.w = w := by rw [← hm]
  have hAA : m.A = A := by rw [← hm]
  subst hs
  have hv : VR0 m (.elt q i j) (a.eval x) := by have := hx0.val x; rw [hx] at this; exact this
  obtain ⟨b, oo, cap, cur, hτ, hv', hcur, hfit, hle, hi, hsz, hesz, _, _, hcells⟩ := elt_cells hx0.mr hv hq
  obtain ⟨g1, g2⟩ := solid_vr (hx0.val y) (persistAll_solid _ _ _ _ hds)
  obtain ⟨p1, p2⟩ := persistAll_pr (Ext.refl m) (ks := []) (by simp) _ ds [] (a.eval y).cells.toList hds (by simp) (by simpa using g1) (fun j c hj => let ⟨u, q1, _, q3⟩ := g2 j c hj; ⟨u, by simpa using q1, q3⟩)
  have hcl := hesz c (List.mem_of_getElem? hc)
  have hb : i * sz + sz ≤ cap * sz := by
    have : (i + 1) * sz ≤ cap * sz := Nat.mul_le_mul_right _ (by omega)
    rw [Nat.add_mul] at this
    omega
  have hvl : (a.eval y).cells.toList.length = ti.size := by simp; omega
  have hone : ∀ u ∈ (a.eval y).cells.toList, u.oneCell' = true := by
    intro u hu
    obtain ⟨k, hk, rfl⟩ := List.mem_iff_getElem.1 hu
    have hk' : k < (m.s.val y).cells.length := by omega
    obtain ⟨x', q1, q2, _⟩ := g2 k _ (List.getElem?_eq_getElem hk')
    have : (a.eval y).cells[k]? = some (a.eval y).cells.toList[k] := by simp at hk ⊢
    rw [this] at q1; cases q1
    exact q2
  have hfit2 : oo + (i * sz + j) + ti.size ≤ cur.size := by omega
  have hrun : (execOp a.eval o).run F.P w = .ok .skip (w.setRow b (cur.toList.take (oo + (i * sz + j)) ++ (a.eval y).cells.toList ++ cur.toList.drop (oo + (i * sz + j) + (a.eval y).cells.toList.length)).toArray) := by
    rw [← hw]
    simp only [execOp, ho, hv', Instr.storeAt, Instr.sureAddr, Sem.run_bind, Sem.run_pure, Result.andThen_ok]
    rw [run_storeVar_at ht m.w b _ e cur hcur (a.eval y) (g1.trans hl) hone hfit2]
    simp
  simp only [Oper.wp, hrun, Oper.upon_skip]
  apply hn
  have hdl : ds.length = ti.size := p1.trans hl
  have h4 := hx0.setTok q b oo cap e sz xs (xs.set i (splice c j ds)) cur
    (cur.toList.take (oo + (i * sz + j)) ++ (a.eval y).cells.toList ++ cur.toList.drop (oo + (i * sz + j) + (a.eval y).cells.toList.length)).toArray hq hτ hcur (by simp)
    (fun d hd => by
      rcases List.mem_or_eq_of_mem_set hd with hd | rfl
      · exact hesz d hd
      · rw [splice_length _ _ _ (by omega)]; exact hcl)
    (by simp; omega)
    (fun i' j' c' x' hi' hj' => by
      simp only [List.getElem?_toArray]
      rw [idx_splice _ _ _ _ (by rw [hvl, Array.length_toList]; exact hfit2)]
      have hj'l : j' < c'.length := (List.getElem?_eq_some_iff.1 hj').1
      by_cases hii : i' = i
      · subst hii
        rw [List.getElem?_set_self hi] at hi'
        cases hi'
        rw [splice_length _ _ _ (by omega)] at hj'l
        have hj2 : (c.take j ++ ds ++ c.drop (j + ds.length))[j']? = some x' := by rw [List.append_assoc]; exact hj'
        rw [idx_splice _ _ _ _ (by omega)] at hj2
        by_cases h1 : j' < j
        · rw [if_pos h1] at hj2
          rw [if_pos (by omega)]
          obtain ⟨u, e1, e2⟩ := hcells i' j' c x' hc hj2
          exact ⟨u, by simpa using e1, e2⟩
        · rw [if_neg h1] at hj2
          rw [if_neg (by omega)]
          by_cases h2 : j' < j + ds.length
          · rw [if_pos h2] at hj2
            rw [if_pos (by omega)]
            obtain ⟨u, e1, e2⟩ := p2 _ x' hj2
            exact ⟨u, by rw [show oo + (i' * sz + j') - (oo + (i' * sz + j)) = j' - j by omega]; exact e1, e2⟩
          · rw [if_neg h2] at hj2
            rw [if_neg (by omega)]
            obtain ⟨u, e1, e2⟩ := hcells i' j' c x' hc hj2
            exact ⟨u, by simpa using e1, e2⟩
      · rw [List.getElem?_set_ne (by omega)] at hi'
        have hdl' := hesz c' (List.mem_of_getElem? hi')
        obtain ⟨u, e1, e2⟩ := hcells i' j' c' x' hi' hj'
        refine ⟨u, ?_, e2⟩
        have hrng : oo + (i' * sz + j') < oo + (i * sz + j) ∨ ¬ (oo + (i' * sz + j') < oo + (i * sz + j) + (a.eval y).cells.toList.length) := by
          rcases Nat.lt_or_gt_of_ne hii with hlt | hgt
          · have h2 : (i' + 1) * sz ≤ i * sz := Nat.mul_le_mul_right sz hlt
            rw [Nat.add_mul] at h2
            left; omega
          · have h2 : (i + 1) * sz ≤ i' * sz := Nat.mul_le_mul_right sz hgt
            rw [Nat.add_mul] at h2
            right; omega
        rcases hrng with h1 | h1
        · rw [if_pos h1]; simpa using e1
        · by_cases h3 : oo + (i' * sz + j') < oo + (i * sz + j)
          · rw [if_pos h3]; simpa using e1
          · rw [if_neg h3, if_neg h1]; simpa using e1)
  have h5 := (h4.mono (fun i => A i ∨ i = id) (fun i hi => Or.inl (by rw [← hAA]; exact hi))).dst o.dst .junk undef hd trivial
  rw [← hw]
  cases hod : o.dst with
  | none => rw [hod] at h5; exact ⟨_, _, _, h5⟩
  | some d => rw [hod] at h5; exact ⟨_, _, _, h5⟩

/-! ### Cutting: the runs -/

theorem map_add_zero (a : Option Addr) : a.map (·.add 0) = a := by cases a <;> simp [Addr.add]

section
variable {P : Program} (w : World) (t e : TypeId) (ht : P.underlying t = some (.slice e)) (ei : TI) (he : TIok P e ei) (a : Option Addr) (len cap : Nat) (hlc : len ≤ cap)
include ht he

include hlc in
theorem run_cut_hi (k : IntKind) (h : Int) (h0 : 0 ≤ h) (h1 : h ≤ len) : (Instr.sliceAt t (.slice a len cap) none (some (.int k h)) none).run P w = .ok (.slice a h.toNat cap) w := by
  have hs := he.size w
  have h2 : h ≤ (cap : Int) := by omega
  simp [Instr.sliceAt, Instr.slice, Instr.sliceBounds, Instr.sliceBound, asIntOf, run_underlying ht, h0, h2, hs, map_add_zero]

theorem run_cut_lo (k : IntKind) (l : Int) (h0 : 0 ≤ l) (h1 : l ≤ len) :
    (Instr.sliceAt t (.slice a len cap) (some (.int k l)) none none).run P w = .ok (.slice (if cap = l.toNat then a else a.map (·.add (l.toNat * ei.size))) (len - l.toNat) (cap - l.toNat)) w := by
  have hs := he.size w
  simp [Instr.sliceAt, Instr.slice, Instr.sliceBounds, Instr.sliceBound, asIntOf, run_underlying ht, h0, h1, hs]

include hlc in
theorem run_cut_lohi (k k' : IntKind) (l h : Int) (h0 : 0 ≤ l) (h1 : l ≤ h) (h2 : h ≤ len) :
    (Instr.sliceAt t (.slice a len cap) (some (.int k l)) (some (.int k' h)) none).run P w = .ok (.slice (if cap = l.toNat then a else a.map (·.add (l.toNat * ei.size))) (h.toNat - l.toNat) (cap - l.toNat)) w := by
  have hs := he.size w
  have h3 : h ≤ (cap : Int) := by omega
  have h4 : 0 ≤ h := by omega
  have hm : max h 0 = h := by omega
  simp [Instr.sliceAt, Instr.slice, Instr.sliceBounds, Instr.sliceBound, asIntOf, run_underlying ht, h0, h3, h4, hm, h1, hs]

include hlc in
theorem run_cut_full (k k' : IntKind) (h q : Int) (h0 : 0 ≤ h) (h1 : h = q) (h2 : h ≤ len) :
    (Instr.sliceAt t (.slice a len cap) none (some (.int k h)) (some (.int k' q))).run P w = .ok (.slice a h.toNat h.toNat) w := by
  have hs := he.size w
  subst h1
  have h3 : h ≤ (cap : Int) := by omega
  have hm : max h 0 = h := by omega
  simp [Instr.sliceAt, Instr.slice, Instr.sliceBounds, Instr.sliceBound, asIntOf, run_underlying ht, h0, h3, hm, hs, map_add_zero]
end

/-! ### Cutting: the lists -/

theorem pr_take {w : World} {ok : Nat → Prop} {sz : Nat} {f : Bool} {xs : List (List AV)} {a : Option Addr} {cap : Nat} (h : PR w ok (.lst sz f xs) (.slice a xs.length cap)) (n : Nat) (hn : n ≤ xs.length) (f' : Bool) (cap' : Nat)
    (hc : n ≤ cap') (hcc : cap' ≤ cap) (hf : f' = true → cap' = n) : PR w ok (.lst sz f' (xs.take n)) (.slice a n cap') := by
  cases h with
  | lst sz full xs a cap u hcap hmax hfull hsz hnone hcell hrec =>
    have hl : (xs.take n).length = n := by simp; omega
    have key : ∀ (i j : Nat) (c : List AV), (xs.take n)[i]? = some c → xs[i]? = some c := fun i j c hi => by
      rw [List.getElem?_take] at hi
      split at hi
      · exact hi
      · cases hi
    have := PR.lst (w := w) (ok := ok) sz f' (xs.take n) a cap' u (by omega) (by omega) (by rw [hl]; exact hf) (fun c hc => hsz c (List.mem_of_mem_take hc)) (fun ha => by have := hnone ha; omega)
      (fun i j c x hi hj => hcell i j c x (key i j c hi) hj) (fun i j c x hi hj => hrec i j c x (key i j c hi) hj)
    rw [hl] at this
    exact this

theorem pr_drop {w : World} {ok : Nat → Prop} {sz : Nat} {f : Bool} {xs : List (List AV)} {a : Option Addr} {cap : Nat} (h : PR w ok (.lst sz f xs) (.slice a xs.length cap)) (n : Nat) (hn : n ≤ xs.length) :
    PR w ok (.lst sz false (xs.drop n)) (.slice (if cap = n then a else a.map (·.add (n * sz))) (xs.length - n) (cap - n)) := by
  cases h with
  | lst sz full xs a cap u hcap hmax hfull hsz hnone hcell hrec =>
    have hl : (xs.drop n).length = xs.length - n := by simp
    have := PR.lst (w := w) (ok := ok) sz false (xs.drop n) (if cap = n then a else a.map (·.add (n * sz))) (cap - n) (fun i j => u (n + i) j) (by omega) (by omega) (by simp) (fun c hc => hsz c (List.mem_of_mem_drop hc))
      (fun ha => by
        split at ha
        · omega
        · cases a with
          | none => have := hnone rfl; omega
          | some ad => cases ha)
      (fun i j c x hi hj ad had => by
        rw [List.getElem?_drop] at hi
        have hlt : n + i < xs.length := (List.getElem?_eq_some_iff.1 hi).1
        rw [if_neg (by omega)] at had
        cases a with
        | none => cases had
        | some ad0 =>
          cases had
          obtain ⟨h1, h2, h3⟩ := hcell (n + i) j c x hi hj ad0 rfl
          show (ad0.add (n * sz)).spot = none ∧ ok (ad0.add (n * sz)).block ∧ w.cell? ⟨(ad0.add (n * sz)).block, (ad0.add (n * sz)).off + (i * sz + j), none⟩ = some (u (n + i) j)
          rw [addr_add h1]
          refine ⟨rfl, h2, ?_⟩
          rw [show ad0.off + n * sz + (i * sz + j) = ad0.off + ((n + i) * sz + j) by rw [Nat.add_mul]; omega]
          exact h3)
      (fun i j c x hi hj => by rw [List.getElem?_drop] at hi; exact hrec (n + i) j c x hi hj)
    rw [hl] at this
    exact this


theorem lst_shape {w : World} {ok : Nat → Prop} {sz : Nat} {f : Bool} {xs : List (List AV)} {v : Value} (h : PR w ok (.lst sz f xs) v) : ∃ a cap, v = .slice a xs.length cap ∧ xs.length ≤ cap := by
  cases h with
  | lst sz full xs a cap u hcap => exact ⟨a, cap, rfl, hcap⟩

/-- A cut of a plain list. -/
theorem ok_sliceLst {F : Fr} {A : Nat → Prop} {id : Nat} {o : Oper} {s : AS} (hd : ∀ k, o.dst = some k → k < F.N) (t e : TypeId) (x : Operand) (lo hi mx : Option Operand) (ho : o.op = .slice t x lo hi mx)
    (ht : F.P.underlying t = some (.slice e)) (ei : TI) (he : TIok F.P e ei) (f : Bool) (xs : List (List AV)) (hx : s.val x = .lst ei.size f xs) (r : AV)
    (hr : (∃ y k h, lo = none ∧ hi = some y ∧ mx = none ∧ s.val y = .int k h ∧ 0 ≤ h ∧ h ≤ xs.length ∧ r = .lst ei.size false (xs.take h.toNat)) ∨
      (∃ y k l, lo = some y ∧ hi = none ∧ mx = none ∧ s.val y = .int k l ∧ 0 ≤ l ∧ l ≤ xs.length ∧ r = .lst ei.size false (xs.drop l.toNat)) ∨
      (∃ y y' k k' l h, lo = some y ∧ hi = some y' ∧ mx = none ∧ s.val y = .int k l ∧ s.val y' = .int k' h ∧ 0 ≤ l ∧ l ≤ h ∧ h ≤ xs.length ∧ r = .lst ei.size false ((xs.take h.toNat).drop l.toNat)) ∨
      (∃ y y' k k' h q, lo = none ∧ hi = some y ∧ mx = some y' ∧ s.val y = .int k h ∧ s.val y' = .int k' q ∧ 0 ≤ h ∧ h = q ∧ h ≤ xs.length ∧ r = .lst ei.size true (xs.take h.toNat))) :
    OpOk F A id o s (dst o.dst r) :=
  opOk_pure hd fun a m hh hs => by
    subst hs
    have hv : PR m.w m.ok (.lst ei.size f xs) (a.eval x) := by have := hh.val x; rw [hx] at this; exact this
    obtain ⟨ad, cap, hv', hcap⟩ := lst_shape hv
    rw [hv'] at hv
    have val : ∀ y k n, m.s.val y = .int k n → a.eval y = .int k n := fun y k n hy => by have := hh.val y; rw [hy] at this; exact this
    rcases hr with ⟨y, k, h, rfl, rfl, rfl, hy, h0, h1, rfl⟩ | ⟨y, k, l, rfl, rfl, rfl, hy, h0, h1, rfl⟩ | ⟨y, y', k, k', l, h, rfl, rfl, rfl, hy, hy', h0, h1, h2, rfl⟩ | ⟨y, y', k, k', h, q, rfl, rfl, rfl, hy, hy', h0, h1, h2, rfl⟩
    · refine ⟨_, ?_, pr_take hv h.toNat (by omega) false cap (by omega) (Nat.le_refl _) (by simp)⟩
      simp only [execOp, ho, hv', Option.map_some, Option.map_none, val y k h hy, Sem.run_bind, run_cut_hi m.w t e ht ei he ad xs.length cap hcap k h h0 h1, Result.andThen_ok]
      rfl
    · refine ⟨_, ?_, pr_drop hv l.toNat (by omega)⟩
      simp only [execOp, ho, hv', Option.map_some, Option.map_none, val y k l hy, Sem.run_bind, run_cut_lo m.w t e ht ei he ad xs.length cap k l h0 h1, Result.andThen_ok]
      rfl
    · have h3 := pr_take hv h.toNat (by omega) false cap (by omega) (Nat.le_refl _) (by simp)
      have hl : (xs.take h.toNat).length = h.toNat := by simp; omega
      have h3' : PR m.w m.ok (.lst ei.size false (xs.take h.toNat)) (.slice ad (xs.take h.toNat).length cap) := by rw [hl]; exact h3
      have h4 := pr_drop h3' l.toNat (by rw [hl]; omega)
      rw [hl] at h4
      refine ⟨_, ?_, h4⟩
      simp only [execOp, ho, hv', Option.map_some, Option.map_none, val y k l hy, val y' k' h hy', Sem.run_bind, run_cut_lohi m.w t e ht ei he ad xs.length cap hcap k k' l h h0 h1 h2, Result.andThen_ok]
      rfl
    · refine ⟨_, ?_, pr_take hv h.toNat (by omega) true h.toNat (Nat.le_refl _) (by omega) (fun _ => rfl)⟩
      simp only [execOp, ho, hv', Option.map_some, Option.map_none, val y k h hy, val y' k' q hy', Sem.run_bind, run_cut_full m.w t e ht ei he ad xs.length cap hcap k k' h q h0 h1 h2, Result.andThen_ok]
      rfl

/-- A cut of a slice of the call's own. -/
theorem ok_sliceOwn {F : Fr} {A : Nat → Prop} {id : Nat} {o : Oper} {s : AS} (hd : ∀ k, o.dst = some k → k < F.N) (t e : TypeId) (x : Operand) (lo hi mx : Option Operand) (ho : o.op = .slice t x lo hi mx)
    (ht : F.P.underlying t = some (.slice e)) (ei : TI) (he : TIok F.P e ei) (q e' : Nat) (xs : List (List AV)) (hx : s.val x = .own q) (hq : s (.tok q) = .tok e' ei.size xs) (xs' : List (List AV))
    (hr : (∃ y k h, lo = none ∧ hi = some y ∧ mx = none ∧ s.val y = .int k h ∧ 0 ≤ h ∧ h ≤ xs.length ∧ xs' = xs.take h.toNat) ∨
      (∃ y k l, lo = some y ∧ hi = none ∧ mx = none ∧ s.val y = .int k l ∧ 0 ≤ l ∧ l ≤ xs.length ∧ xs' = xs.drop l.toNat)) :
    OpOk F A id o s (dst o.dst (.own id) ++ [(.tok id, .tok e' ei.size xs'), (.tok q, .none)]) :=
  opOk_own hd _ fun a m hh hs hA hid => by
    subst hs hA
    have hv : VR0 m (.own q) (a.eval x) := by have := hh.val x; rw [hx] at this; exact this
    have val : ∀ y k n, m.s.val y = .int k n → a.eval y = .int k n := fun y k n hy => by have := hh.val y; rw [hy] at this; exact this
    obtain ⟨_, t0, t1, _, t3⟩ := hh.mr.tok q e' ei.size xs hq
    have hkeep := hh.dropTok q
    rcases reads_own hh.mr hv hq with ⟨_, hv', rfl⟩ | ⟨b, oo, cap, cur, hτ, hv', hcur, hfit, hle, hmax, hrx⟩
    · -- nil
      refine ⟨.slice none 0 0, (m.dropTok q).claim id none e' ei.size [] m.w, ?_, hkeep.claimNil id e' ei.size hid t0, ?_, rfl, own_vr_nil⟩
      · rcases hr with ⟨y, k, h, rfl, rfl, rfl, hy, h0, h1, rfl⟩ | ⟨y, k, l, rfl, rfl, rfl, hy, h0, h1, rfl⟩
        · have hh0 : h = 0 := by simp at h1; omega
          subst hh0
          simp only [execOp, ho, hv', Option.map_some, Option.map_none, val y k 0 hy, Sem.run_bind, run_cut_hi m.w t e ht ei he none 0 0 (Nat.le_refl _) k 0 h0 h1, Result.andThen_ok]
          rfl
        · have hl0 : l = 0 := by simp at h1; omega
          subst hl0
          simp only [execOp, ho, hv', Option.map_some, Option.map_none, val y k 0 hy, Sem.run_bind, run_cut_lo m.w t e ht ei he none 0 0 k 0 h0 h1, Result.andThen_ok]
          rfl
      · have : xs' = [] := by
          rcases hr with ⟨y, k, h, _, _, _, _, _, _, rfl⟩ | ⟨y, k, l, _, _, _, _, _, _, rfl⟩ <;> simp
        subst this
        rfl
    · rcases hr with ⟨y, k, h, rfl, rfl, rfl, hy, h0, h1, rfl⟩ | ⟨y, k, l, rfl, rfl, rfl, hy, h0, h1, rfl⟩
      · have hn : h.toNat ≤ xs.length := by omega
        have hl : (xs.take h.toNat).length = h.toNat := by simp; omega
        obtain ⟨_, _, _, cur', c3', c4', c5'⟩ := t3 b oo cap hτ
        rw [hcur] at c3'; cases c3'
        have hclaim := hkeep.claim id b oo cap e' ei.size (xs.take h.toNat) m.w cur hid (At.refl _ _) (drop_free hh.mr hq hτ) hh.keep (hh.newT q e' ei.size xs _ hq hτ) t0 (fun c hc => t1 c (List.mem_of_mem_take hc)) (by omega) hmax hcur hfit
          (fun i j c x hi hj => c5' i j c x (by
            rw [List.getElem?_take] at hi
            split at hi
            · exact hi
            · cases hi) hj)
        refine ⟨.slice (some ⟨b, oo, none⟩) h.toNat cap, _, ?_, hclaim, rfl, rfl, ?_⟩
        · simp only [execOp, ho, hv', Option.map_some, Option.map_none, val y k h hy, Sem.run_bind, run_cut_hi m.w t e ht ei he (some ⟨b, oo, none⟩) xs.length cap hle k h h0 h1, Result.andThen_ok]
          rfl
        · have := own_vr (m := m.dropTok q) (id := id) (e := e') (sz := ei.size) (xs := xs.take h.toNat) (w' := m.w) (b := b) (o := oo) (cap := cap)
          rw [hl] at this
          exact this
      · have hn : l.toNat ≤ xs.length := by omega
        have hl : (xs.drop l.toNat).length = xs.length - l.toNat := by simp
        obtain ⟨_, _, _, cur', c3', c4', c5'⟩ := t3 b oo cap hτ
        rw [hcur] at c3'; cases c3'
        have hmul : l.toNat * ei.size ≤ cap * ei.size := Nat.mul_le_mul_right _ (by omega)
        have hclaim := hkeep.claim id b (if cap = l.toNat then oo else oo + l.toNat * ei.size) (cap - l.toNat) e' ei.size (xs.drop l.toNat) m.w cur hid (At.refl _ _) (drop_free hh.mr hq hτ) hh.keep (hh.newT q e' ei.size xs _ hq hτ) t0
          (fun c hc => t1 c (List.mem_of_mem_drop hc)) (by omega) (by omega) hcur
          (by
            rw [Nat.sub_mul]
            split <;> omega)
          (fun i j c x hi hj => by
            rw [List.getElem?_drop] at hi
            have hlt : l.toNat + i < xs.length := (List.getElem?_eq_some_iff.1 hi).1
            rw [if_neg (by omega)]
            obtain ⟨u, q1, q2⟩ := c5' (l.toNat + i) j c x hi hj
            exact ⟨u, by rw [show oo + l.toNat * ei.size + (i * ei.size + j) = oo + ((l.toNat + i) * ei.size + j) by rw [Nat.add_mul]; omega]; exact q1, q2⟩)
        refine ⟨.slice (some ⟨b, if cap = l.toNat then oo else oo + l.toNat * ei.size, none⟩) (xs.length - l.toNat) (cap - l.toNat), _, ?_, hclaim, rfl, rfl, ?_⟩
        · simp only [execOp, ho, hv', Option.map_some, Option.map_none, val y k l hy, Sem.run_bind, run_cut_lo m.w t e ht ei he (some ⟨b, oo, none⟩) xs.length cap k l h0 h1, Result.andThen_ok]
          have : (if cap = l.toNat then some (⟨b, oo, none⟩ : Addr) else some ((⟨b, oo, none⟩ : Addr).add (l.toNat * ei.size))) = some ⟨b, if cap = l.toNat then oo else oo + l.toNat * ei.size, none⟩ := by
            split <;> simp [add_none]
          rw [this]
          rfl
        · have := own_vr (m := m.dropTok q) (id := id) (e := e') (sz := ei.size) (xs := xs.drop l.toNat) (w' := m.w) (b := b) (o := if cap = l.toNat then oo else oo + l.toNat * ei.size) (cap := cap - l.toNat)
          rw [hl] at this
          exact this

end Go.Vc
