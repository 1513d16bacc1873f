/- Vc, part 29: arguments that are slices of rows of integers, opened. -/
import Derived.Test.YtfnkbbeeilpiiaaVc28
import Derived.ProofKit
namespace Go.Vc
open Go.RowKit Go.ChangeShapes Go.WideShapes Go.ChangeAt

theorem cell_spot {w : World} {a : Addr} {v : Value} (h : w.cell? a = some v) : a.spot = none ∧ a.block < w.heap.size := by
  unfold World.cell? at h
  split at h
  · rename_i c _ _ hb
    refine ⟨?_, (Array.getElem?_eq_some_iff.1 hb).1⟩
    cases hs : a.spot with
    | none => rfl
    | some s => rw [hs] at h; simp at h
  · cases h

/-- The memory of a law: whatever the world holds may be read. -/
def lawMem (w : World) : Mem := cMem [] (fun _ => 0) (fun b => b < w.heap.size) w

/-- A slice of structs of two integers. -/
def pairs (k0 k1 : IntKind) (l : List (Int × Int)) : List (List AV) := l.map fun p => [.int k0 p.1, .int k1 p.2]

theorem open_pairs {H : Type} {enc : TypeId × Value → H} {P : Program} {w : World} {base : Nat} {spare : Nat → Bool} {held : Bool} {t e : TypeId} {f0 f1 : Field} {k0 k1 : IntKind} {fuel : Nat} {v : Value} {x : DataW H × List MemPlace}
    (ht : P.underlying t = some (.slice e)) (he : P.underlying e = some (.struct #[f0, f1])) (h0 : P.underlying f0.type = some (.int k0)) (h1 : P.underlying f1.type = some (.int k1))
    (hc : P.cellsOf e = 2) (hc0 : P.cellsOf f0.type = 1) (hc1 : P.cellsOf f1.type = 1) (ho0 : f0.offset = 0) (ho1 : f1.offset = 1)
    (h : DataW.trod enc P w base spare held fuel t [v] = some x) :
    ∃ l : List (Int × Int), VR1 (lawMem w) (.lst 2 false (pairs k0 k1 l)) v ∧ ∀ p ∈ l, (Lit.int k0 p.1).wf = true ∧ (Lit.int k1 p.2).wf = true := by
  rcases DataW.trod_slice ht h with ⟨hcs, _⟩ | ⟨a, len, cap, elems, rest, n, _, hcs, _, hb, hl, hm, hlen, hel, _, _⟩
  · cases hcs
    refine ⟨[], ?_, by simp⟩
    show PR w _ (.lst 2 false []) (.slice none 0 0)
    exact .lst 2 false [] none 0 (fun _ _ => .bool false) (Nat.le_refl _) (by simp) (fun _ => rfl) (by simp) (fun _ => rfl) (fun i j c x hi => by simp at hi) (fun i j c x hi => by simp at hi)
  · cases hcs
    have hp : ∀ i, ∃ p : Int × Int, i < len → w.cells? base (a.add (i * 2)) 2 = some [.int k0 p.1, .int k1 p.2] ∧ (Lit.int k0 p.1).wf = true ∧ (Lit.int k1 p.2).wf = true := by
      intro i
      by_cases hi : i < len
      · have hy := hel i hi
        rw [List.getElem?_eq_getElem (by omega), hc, Option.bind_eq_some_iff] at hy
        obtain ⟨cs, hcs, hy⟩ := hy
        obtain ⟨y0, y1, m, _, hl2, g0, g1⟩ := trod_struct2 he hy
        rw [hc] at hl2
        match cs, hl2 with
        | [c0, c1], _ =>
          rw [ho0, hc0] at g0
          rw [ho1, hc1] at g1
          obtain ⟨n0, e0, _, w0⟩ := DataW.trod_int h0 g0
          obtain ⟨n1, e1, _, w1⟩ := DataW.trod_int h1 g1
          simp at e0 e1
          subst e0 e1
          exact ⟨(n0, n1), fun _ => ⟨hcs, w0, w1⟩⟩
      · exact ⟨(0, 0), fun h => absurd h hi⟩
    obtain ⟨g, hg⟩ := Classical.axiomOfChoice hp
    refine ⟨(List.range len).map g, ?_, fun p hpm => ?_⟩
    · show PR w _ (.lst 2 false (pairs k0 k1 ((List.range len).map g))) (.slice (some a) len cap)
      have hlen2 : (pairs k0 k1 ((List.range len).map g)).length = len := by simp [pairs]
      have key : PR w (fun b => b < w.heap.size) (.lst 2 false (pairs k0 k1 ((List.range len).map g))) (.slice (some a) (pairs k0 k1 ((List.range len).map g)).length cap) := by
        have at_ : ∀ (i j : Nat) (c : List AV) (y : AV), (pairs k0 k1 ((List.range len).map g))[i]? = some c → c[j]? = some y →
            i < len ∧ ((j = 0 ∧ y = .int k0 (g i).1) ∨ (j = 1 ∧ y = .int k1 (g i).2)) := by
          intro i j c y hi hj
          have hil : i < len := by have := (List.getElem?_eq_some_iff.1 hi).1; omega
          simp [pairs, hil] at hi
          subst hi
          refine ⟨hil, ?_⟩
          match j, hj with
          | 0, hj => exact .inl ⟨rfl, by simpa using hj.symm⟩
          | 1, hj => exact .inr ⟨rfl, by simpa using hj.symm⟩
          | j + 2, hj => simp at hj
        refine .lst 2 false _ (some a) cap (fun i j => if j = 0 then .int k0 (g i).1 else .int k1 (g i).2) (by omega) hm (by simp) (by simp [pairs]) (by simp) (fun i j c y hi hj ad had => ?_) (fun i j c y hi hj => ?_)
        · cases had
          obtain ⟨hil, hjj⟩ := at_ i j c y hi hj
          obtain ⟨hcs, _⟩ := hg i hil
          have hcell := World.cells?_some hcs
          have h2 : j < 2 := by rcases hjj with ⟨rfl, _⟩ | ⟨rfl, _⟩ <;> omega
          have hcj : w.cell? ((a.add (i * 2)).add j) = some (if j = 0 then .int k0 (g i).1 else .int k1 (g i).2) := by
            rw [hcell.2.2 j h2]
            rcases hjj with ⟨rfl, _⟩ | ⟨rfl, _⟩ <;> rfl
          have hz := (World.cells?_some (hg 0 (by omega)).1).2.2 0 (by omega)
          have ez : (a.add (0 * 2)).add 0 = a := by simp [Addr.add]
          rw [ez] at hz
          obtain ⟨s1, s2⟩ := cell_spot (v := .int k0 (g 0).1) hz
          refine ⟨s1, s2, ?_⟩
          have ea : (⟨a.block, a.off + (i * 2 + j), none⟩ : Addr) = (a.add (i * 2)).add j := by
            obtain ⟨bl, of, sp⟩ := a
            simp only at s1
            subst s1
            simp only [Addr.add]
            by_cases h3 : i * 2 = 0 <;> by_cases h4 : j = 0 <;> simp [h3, h4, Nat.add_assoc]
          rw [ea, hcj]
        · obtain ⟨hil, hjj⟩ := at_ i j c y hi hj
          rcases hjj with ⟨rfl, rfl⟩ | ⟨rfl, rfl⟩
          · exact .int _ _
          · exact .int _ _
      rw [hlen2] at key
      exact key
    · obtain ⟨i, hi, rfl⟩ := List.mem_map.1 hpm
      exact (hg i (by simpa using hi)).2
/-- A law by its contract: it answers true; nothing that was there has turned. -/
theorem Contract.law2 {P : Program} {f : FuncId} {as : List AV} (h : Contract P f as [] (.sb true) []) (w : World) (vs : Array Value) (hl : vs.size = as.length)
    (hv : ∀ (i : Nat) (c : AV), as[i]? = some c → ∃ u, vs[i]? = some u ∧ VR1 (lawMem w) c u) :
    Calls P f vs w fun e w' => e = .returned (.bool true) ∧ (Grown w w' ∧ Below w.heap.size w w') := by
  refine (h.body w (fun _ => 0) (fun b => b < w.heap.size) vs ⟨fun _ hb => hb, fun i cs hs => ?_, fun t e sz xs ht => ?_, fun i j ci cj hi => ?_, fun i j ei ej si sj xi xj p q hi => ?_, fun i j ci ej sj xj q hi => ?_⟩ hl hv).mono ?_
  · simp [cMem, bxAS] at hs
  · simp [cMem, bxAS] at ht
  · simp [cMem, bxAS] at hi
  · simp [cMem, bxAS] at hi
  · simp [cMem, bxAS] at hi
  · rintro e w' ⟨u, β', ok', rfl, _, hr, hk, _⟩
    have hu : u = .bool true := hr
    subst hu
    have hbl : ∀ k, k < w.heap.size → w'.heap[k]? = w.heap[k]? := fun k hk' => hk.block k hk' (fun j hj => absurd (show j < 0 from hj) (by omega))
    refine ⟨rfl, ⟨⟨hk.os, hk.output, fun i hi => ?_⟩, hk.fz, hk.size⟩, ⟨hk.os, hk.tape, hk.output, hk.size, hbl⟩⟩
    rw [hbl i hi]
    generalize w.heap[i]? = o
    cases o with
    | none => rfl
    | some o => cases o <;> first | rfl | exact ⟨rfl, rfl, rfl, fun _ _ => rfl⟩ | exact .inr ⟨rfl, rfl⟩

/-- An argument that is read stands as it stood. -/
theorem arg_stays {H : Type} {enc : TypeId × Value → H} {P : Program} {t : TypeId} (hl : laidOutB P = true) (hr : P.readableRec t = true) (hrow : t < P.types.size) {W W' : World} {sp : Nat → Bool} {v : Value} {d : DataW H} {ps : List MemPlace}
    (h : DataW.Trod enc P W 0 (fun _ => true) true t v d ps) (hb : Below W.heap.size W W') (hlt : ∀ x ∈ ps, x.block < W.heap.size) (hs : ∀ x ∈ ps, sp x.block = true) : DataW.Trod enc P W' 0 sp true t v d ps :=
  WideElems.Trod_stays hl hr hrow h (fun x hx => hb.same (hlt x hx)) hs

end Go.Vc
