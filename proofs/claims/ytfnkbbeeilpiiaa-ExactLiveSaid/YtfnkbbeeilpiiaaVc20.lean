/- Vc, part 20: an operation looks at its operands, and at what these name, alone. -/
import Derived.Test.YtfnkbbeeilpiiaaVc19
namespace Go.Vc

def ids0 : AV → List Nat
  | .own t => [t]
  | .ptr i _ => [i]
  | .elt t _ _ => [t]
  | _ => []

def ids : AV → List Nat
  | .agg cs => cs.flatMap ids0
  | v => ids0 v

/-- Two states that agree on what these numbers name. -/
def AgreeOn (R : List Nat) (s s' : AS) : Prop := ∀ i ∈ R, s (.box i) = s' (.box i) ∧ s (.tok i) = s' (.tok i)

theorem AgreeOn.mono {R R' : List Nat} {s s' : AS} (h : AgreeOn R s s') (hs : ∀ i ∈ R', i ∈ R) : AgreeOn R' s s' := fun i hi => h i (hs i hi)

section
variable {s s' : AS}

theorem persist_local (c : AV) (h : AgreeOn (ids0 c) s s') : persist s c = persist s' c := by
  cases c <;> try rfl
  case own t => simp only [persist, (h t (by simp [ids0])).2]

theorem persistAll_local : ∀ (cs : List AV), AgreeOn (cs.flatMap ids0) s s' → persistAll s cs = persistAll s' cs
  | [], _ => rfl
  | c :: cs, h => by
    simp only [persistAll, persist_local c (h.mono fun i hi => by simp [hi]), persistAll_local cs (h.mono fun i hi => by simp only [List.flatMap_cons, List.mem_append]; exact .inr hi)]

theorem view0_local (c : AV) (h : AgreeOn (ids0 c) s s') : view0 s c = view0 s' c := by
  cases c <;> simp only [view0, persist_local _ h]

theorem viewAll_local : ∀ (cs : List AV), AgreeOn (cs.flatMap ids0) s s' → viewAll s cs = viewAll s' cs
  | [], _ => rfl
  | c :: cs, h => by
    simp only [viewAll, view0_local c (h.mono fun i hi => by simp [hi]), viewAll_local cs (h.mono fun i hi => by simp only [List.flatMap_cons, List.mem_append]; exact .inr hi)]

theorem view_local (c : AV) (h : AgreeOn (ids c) s s') : view s c = view s' c := by
  cases c
  case agg cs => simp only [view, viewAll_local cs h]
  all_goals simp only [view]; exact view0_local _ h

theorem elems_local (c : AV) (h : AgreeOn (ids c) s s') : elems s c = elems s' c := by
  cases c <;> try rfl
  case own t => simp only [elems, (h t (by simp [ids, ids0])).2]

theorem elemsSz_local (sz : Nat) (c : AV) (h : AgreeOn (ids c) s s') : elemsSz s sz c = elemsSz s' sz c := by
  cases c <;> try rfl
  case own t => simp only [elemsSz, (h t (by simp [ids, ids0])).2]

theorem cells_ids (c : AV) : c.cells.flatMap ids0 = ids c := by
  cases c <;> simp [AV.cells, ids]

/-- What the boxes hold that are handed over is looked at, too. -/
def boxIds (s : AS) : AV → List Nat
  | .ptr i _ => match s (.box i) with
    | .box cs => cs.flatMap ids0
    | _ => []
  | _ => []

theorem viewArgs_local : ∀ (n : Nat) (args : List AV), AgreeOn (args.flatMap ids) s s' → AgreeOn (args.flatMap (boxIds s)) s s' → viewArgs s n args = viewArgs s' n args
  | n, [], _, _ => by simp [viewArgs]
  | n, c :: r, h, h' => by
    have hr : ∀ k, viewArgs s k r = viewArgs s' k r := fun k => viewArgs_local k r (h.mono fun i hi => by simp only [List.flatMap_cons, List.mem_append]; exact .inr hi) (h'.mono fun i hi => by simp only [List.flatMap_cons, List.mem_append]; exact .inr hi)
    have hc : AgreeOn (ids c) s s' := h.mono fun i hi => by simp [hi]
    by_cases hp : ∃ id, c = .ptr id 0
    · obtain ⟨id, rfl⟩ := hp
      have hb := (hc id (by simp [ids, ids0])).1
      simp only [viewArgs, ← hb, hr]
      cases hcs : s (.box id) <;> try rfl
      rename_i cs
      have hpl : persistAll s cs = persistAll s' cs := persistAll_local cs (h'.mono fun i hi => by simp only [List.flatMap_cons, List.mem_append]; exact .inl (by simp [boxIds, hcs]; simpa using hi))
      simp only [hpl]
    · have hv := view_local c hc
      have e : ∀ (t : AS), viewArgs t n (c :: r) = match view t c with
          | some (d, ks) => match viewArgs t n r with
            | some (as, bs, ka, kb) => some (d :: as, bs, ks ++ ka, kb)
            | none => none
          | none => none := by
        intro t
        cases c <;> try rfl
        case ptr id o =>
          cases o with
          | zero => exact absurd ⟨id, rfl⟩ hp
          | succ o => rfl
      rw [e, e, hv, hr]


theorem fillStruct_local (t : TI) : ∀ (ps : List (Nat × Operand)) (cs : List AV), (∀ p ∈ ps, s.val p.2 = s'.val p.2) → fillStruct t cs s ps = fillStruct t cs s' ps
  | [], _, _ => rfl
  | (i, x) :: r, cs, h => by
    have hx := h (i, x) (by simp)
    have ih := fun cs => fillStruct_local t r cs (fun p hp => h p (by simp [hp]))
    simp only [fillStruct, hx, ih]

theorem fillRow_local (sz : Nat) : ∀ (ps : List (Nat × Operand)) (xs : List (List AV)) (ks : List Nat), (∀ p ∈ ps, s.val p.2 = s'.val p.2) → AgreeOn (ps.flatMap fun p => ids (s.val p.2)) s s' → fillRow sz xs ks s ps = fillRow sz xs ks s' ps
  | [], _, _, _, _ => rfl
  | (i, x) :: r, xs, ks, h, ha => by
    have hx := h (i, x) (by simp)
    have hp : persistAll s (s.val x).cells = persistAll s' (s.val x).cells := persistAll_local _ (by rw [cells_ids]; exact ha.mono fun i hi => by simp [hi])
    have ih := fun xs ks => fillRow_local sz r xs ks (fun p hp => h p (by simp [hp])) (ha.mono fun i hi => by simp only [List.flatMap_cons, List.mem_append]; exact .inr hi)
    simp only [fillRow, ← hx, hp, ih]

theorem appendSem_local (T : Tab) (id : Nat) (d : Option Tmp) (t : TypeId) (x y : AV) (hx : AgreeOn (ids x) s s') (hy : AgreeOn (ids y) s s') : appendSem s T id d t x y = appendSem s' T id d t x y := by
  have h1 := fun sz => elemsSz_local (s := s) (s' := s') sz y hy
  cases x
  case own k => simp only [appendSem, h1, (hx k (by simp [ids, ids0])).2]
  case lst sz f xs => cases f <;> simp only [appendSem, h1]
  all_goals simp only [appendSem, h1]

theorem sliceSem_local (id : Nat) (d : Option Tmp) (esz : Nat) (x : AV) (lo hi mx : Option AV) (hx : AgreeOn (ids x) s s') : sliceSem s id d esz x lo hi mx = sliceSem s' id d esz x lo hi mx := by
  cases x <;> try rfl
  case own k => simp only [sliceSem, (hx k (by simp [ids, ids0])).2]

theorem builtinSem_local (T : Tab) (id : Nat) (d : Option Tmp) (b : Builtin) (ts : Array TypeId) (args : List AV) (h : AgreeOn (args.flatMap ids) s s') : builtinSem s T id d b ts args = builtinSem s' T id d b ts args := by
  unfold builtinSem
  cases b <;> try rfl
  case len =>
    rcases args with _ | ⟨x, _ | ⟨y, r⟩⟩
    · rfl
    · have := elems_local (s := s) (s' := s') x (h.mono fun i hi => by simp [hi])
      generalize ts.toList = l
      rcases l with _ | ⟨t, _ | ⟨t', l⟩⟩ <;> try rfl
      simp only [this]
    · rfl
  case append =>
    rcases args with _ | ⟨x, _ | ⟨y, _ | ⟨z, r⟩⟩⟩
    · rfl
    · rfl
    · have := fun t => appendSem_local (s := s) (s' := s') T id d t x y (h.mono fun i hi => by simp [hi]) (h.mono fun i hi => by simp [hi])
      generalize ts.toList = l
      rcases l with _ | ⟨t, _ | ⟨t', _ | ⟨t2, l⟩⟩⟩ <;> try rfl
      simp only [this]
    · rfl

theorem callSem_local (args : List AV) (h : AgreeOn (args.flatMap ids) s s') (h' : AgreeOn (args.flatMap (boxIds s)) s s') : callSem s args = callSem s' args := by
  simp only [callSem, viewArgs_local 0 args h h']
end

/-- What an operation's operands name. -/
def refs (s : AS) (o : Oper) : List Nat := o.op.operands.toList.flatMap fun x => ids (s.val x) ++ boxIds s (s.val x)

theorem refs_ids {s : AS} {o : Oper} {x : Operand} (hx : x ∈ o.op.operands.toList) : ∀ i ∈ ids (s.val x), i ∈ refs s o := fun i hi => by
  simp only [refs, List.mem_flatMap]
  exact ⟨x, hx, by simp [hi]⟩

theorem refs_boxIds {s : AS} {o : Oper} {x : Operand} (hx : x ∈ o.op.operands.toList) : ∀ i ∈ boxIds s (s.val x), i ∈ refs s o := fun i hi => by
  simp only [refs, List.mem_flatMap]
  exact ⟨x, hx, by simp [hi]⟩

theorem opSem_local {s s' : AS} (T : Tab) (id : Nat) (o : Oper) (hv : ∀ x ∈ o.op.operands.toList, s.val x = s'.val x) (ha : AgreeOn (refs s o) s s') : opSem T id s o = opSem T id s' o := by
  have hi : ∀ x ∈ o.op.operands.toList, AgreeOn (ids (s.val x)) s s' := fun x hx => ha.mono (refs_ids hx)
  unfold opSem
  cases ho : o.op <;> simp only [ho, Op.operands] at hv hi <;> try rfl
  case move x => simp only [hv x (by simp)]
  case assign x => simp only [hv x (by simp)]
  case pick c a b => simp only [hv c (by simp), hv a (by simp), hv b (by simp)]
  case box t x => simp only [hv x (by simp)]
  case build t ps =>
    have h : ∀ p ∈ ps.toList, s.val p.2 = s'.val p.2 := fun p hp => hv p.2 (by simp; exact ⟨p.1, by simpa using hp⟩)
    simp only [fun t cs => fillStruct_local (s := s) (s' := s') t ps.toList cs h]
  case buildSlice t n ps =>
    have h : ∀ p ∈ ps.toList, s.val p.2 = s'.val p.2 := fun p hp => hv p.2 (by simp; exact ⟨p.1, by simpa using hp⟩)
    have h2 : AgreeOn (ps.toList.flatMap fun p => ids (s.val p.2)) s s' := by
      intro i hi'
      obtain ⟨p, hp, hi2⟩ := List.mem_flatMap.1 hi'
      exact hi p.2 (by simp; exact ⟨p.1, by simpa using hp⟩) i hi2
    simp only [fun sz xs ks => fillRow_local (s := s) (s' := s') sz ps.toList xs ks h h2]
  case load t x =>
    have h1 := hv x (by simp)
    have h2 := hi x (by simp)
    simp only [← h1]
    cases hx : s.val x <;> try rfl
    case ptr b off => rw [hx] at h2; simp only [(h2 b (by simp [ids, ids0])).1]
    case elt q i j => rw [hx] at h2; simp only [(h2 q (by simp [ids, ids0])).2]
  case store t x y =>
    have h1 := hv x (by simp)
    have h2 := hi x (by simp)
    have h3 := hv y (by simp)
    have h4 := hi y (by simp)
    have h5 : persistAll s (s.val y).cells = persistAll s' (s.val y).cells := persistAll_local _ (by rw [cells_ids]; exact h4)
    simp only [← h1, ← h3]
    cases hx : s.val x <;> try rfl
    case ptr b off => rw [hx] at h2; simp only [(h2 b (by simp [ids, ids0])).1]
    case elt q i j => rw [hx] at h2; simp only [(h2 q (by simp [ids, ids0])).2, h5]
  case nilCheck x =>
    have h1 := hv x (by simp)
    have h2 := hi x (by simp)
    simp only [← h1]
    cases hx : s.val x <;> try rfl
    case ptr b off => rw [hx] at h2; simp only [(h2 b (by simp [ids, ids0])).1]
  case binOp op t x y t' => simp only [hv x (by simp), hv y (by simp)]
  case unOp op t x => simp only [hv x (by simp)]
  case convert a b x => simp only [hv x (by simp)]
  case makeSlice t l c => simp only [hv l (by simp), hv c (by simp)]
  case slice t x lo hi' mx =>
    have h1 := hv x (by simp)
    have h2 := hi x (by simp)
    have h3 : lo.map s.val = lo.map s'.val := by cases lo with | none => rfl | some y => simp [hv y (by simp)]
    have h4 : hi'.map s.val = hi'.map s'.val := by cases hi' with | none => rfl | some y => simp [hv y (by simp)]
    have h5 : mx.map s.val = mx.map s'.val := by cases mx with | none => rfl | some y => simp [hv y (by simp)]
    simp only [← h1, ← h3, ← h4, ← h5, fun d esz => sliceSem_local (s := s) (s' := s') id d esz (s.val x) (lo.map s.val) (hi'.map s.val) (mx.map s.val) h2]
  case fieldAddr t x f =>
    have h1 := hv x (by simp)
    have h2 := hi x (by simp)
    simp only [← h1]
    cases Tab.find T t <;> try rfl
    rename_i ti
    simp only
    cases fieldOf ti f <;> try rfl
    rename_i p
    obtain ⟨fo, sz⟩ := p
    simp only
    cases Nat.blt 0 sz
    · cases s.val x <;> rfl
    · cases hx : s.val x <;> try rfl
      case ptr b off => rw [hx] at h2; simp only [(h2 b (by simp [ids, ids0])).1]
      case elt q i j => rw [hx] at h2; simp only [(h2 q (by simp [ids, ids0])).2]
  case indexAddr t x i =>
    have h1 := hv x (by simp)
    have h2 := hi x (by simp)
    simp only [← h1, hv i (by simp)]
    cases Tab.find T t <;> try rfl
    rename_i ti
    simp only
    cases ti.kind <;> try rfl
    rename_i e
    simp only
    cases Tab.find T e <;> try rfl
    rename_i ei
    cases hx : s.val x <;> try rfl
    case lst => cases s'.val i <;> rfl
    case own q =>
      rw [hx] at h2
      cases s'.val i <;> try rfl
      simp only [(h2 q (by simp [ids, ids0])).2]
  case extract x i => simp only [hv x (by simp)]
  case call c =>
    obtain ⟨callee, args, ts⟩ := c
    have hargs : args.toList.map s.val = args.toList.map s'.val := List.map_congr_left fun x hx => hv x (by simp [Call.operands]; exact .inr (by simpa using hx))
    cases callee
    case value f => simp only [hv f (by simp [Call.operands]), hargs]
    case invoke => rfl
    case builtin b =>
      simp only [← hargs]
      refine builtinSem_local T id o.dst b ts _ ?_
      intro i hi'
      obtain ⟨v, hv1, hv2⟩ := List.mem_flatMap.1 hi'
      obtain ⟨x, hx1, rfl⟩ := List.mem_map.1 hv1
      exact hi x (by simp [Call.operands]; simpa using hx1) i hv2

end Go.Vc
