/- Pu: chapter 27: the bytes of commands, on both sides. -/
import Derived.Test.YtmipeaidieflmaaPuTape
set_option linter.unusedVariables false
set_option linter.unusedSimpArgs false
set_option linter.unnecessarySimpa false
set_option linter.unusedSectionVars false
namespace Go.Win
open Go.Vc Go.Dec

theorem wf_u8 {n : Int} : wfI .u8 n ↔ 0 ≤ n ∧ n ≤ 255 := by
  simp [wfI, Lit.wf, IntKind.min, IntKind.max, IntKind.signed, IntKind.bits]

theorem wr_ten {ns : List Int} (h : wfNs ns) : (wr ns).length ≤ 10 * ns.length := by
  induction ns with
  | nil => simp [wr]
  | cons n ns ih =>
    rw [wr_cons, List.length_append, List.length_cons]
    have h1 := code_ten (h n (by simp))
    have h2 := ih fun x hx => h x (by simp [hx])
    omega

theorem wfNs_app {a b : List Int} : wfNs (a ++ b) ↔ wfNs a ∧ wfNs b := by
  constructor
  · intro h
    exact ⟨fun x hx => h x (List.mem_append.2 (.inl hx)), fun x hx => h x (List.mem_append.2 (.inr hx))⟩
  · rintro ⟨h1, h2⟩ x hx
    exact (List.mem_append.1 hx).elim (h1 x) (h2 x)
theorem wfNs_cons {a : Int} {b : List Int} : wfNs (a :: b) ↔ wfI .i64 a ∧ wfNs b := by
  constructor
  · intro h
    exact ⟨h a (by simp), fun x hx => h x (by simp [hx])⟩
  · rintro ⟨h1, h2⟩ x hx
    rcases List.mem_cons.1 hx with h | h
    · subst h; exact h1
    · exact h2 x h
theorem wfNs_nil : wfNs [] := fun _ h => by cases h

/-- A step that writes these numbers behind what it is handed. -/
def Wr (f : List Int → Option (List Int)) (ns : List Int) : Prop := wfNs ns → ∀ b : List Int, b.length + (wr ns).length ≤ 1099511627776 → f b = some (b ++ wr ns)

theorem Wr.done : Wr (fun b => some b) [] := fun _ b _ => by simp [wr]
theorem Wr.bind {f g : List Int → Option (List Int)} {ns ms : List Int} (hf : Wr f ns) (hg : Wr g ms) : Wr (fun b => Option.bind (f b) g) (ns ++ ms) := by
  intro hw b hb
  obtain ⟨h1, h2⟩ := wfNs_app.1 hw
  rw [wr_append] at hb ⊢
  rw [List.length_append] at hb
  simp only []
  rw [hf h1 b (by omega), Option.bind_some, hg h2 _ (by rw [List.length_append]; omega), List.append_assoc]

theorem Wr.int (a n : Int) : Wr (fun b => tape_Tape_Int_i3 b a n) [n] := by
  intro hw b hb
  have e : wr [n] = code n := by simp [wr]
  rw [e] at hb ⊢
  unfold tape_Tape_Int_i3
  dsimp only
  rw [tape_append (hw n (by simp)) hb, Option.bind_some]
theorem Wr.small (a n : Int) : Wr (fun b => tape_Tape_Small_i3 b a n) [n] := by
  intro hw b hb
  unfold tape_Tape_Small_i3
  dsimp only
  have h : tape_Tape_Int_i3 b a n = some (b ++ wr [n]) := Wr.int a n hw b hb
  rw [h, Option.bind_some]
theorem Wr.within (p q a n : Int) : Wr (fun b => tape_Tape_Within_i2 p q b a n) [n] := by
  intro hw b hb
  unfold tape_Tape_Within_i2
  dsimp only
  have h : tape_Tape_Int_i3 b a n = some (b ++ wr [n]) := Wr.int a n hw b hb
  rw [h, Option.bind_some]

/-- The elements of a list, one by one. -/
theorem wr_list {α : Type} (l : List α) (g : α → List Int) (f : Int × List Int → Option ((Int × List Int) ⊕ List Int)) (hl : l.length ≤ 1099511627776)
    (hs : ∀ (i : Nat) (hi : i < l.length) (b : List Int), b.length + (wr (g l[i])).length ≤ 1099511627776 → f ((i : Int), b) = some (.inl (((i + 1 : Nat) : Int), b ++ wr (g l[i]))))
    (hd : ∀ b, f ((l.length : Int), b) = some (.inr b)) (b : List Int) (hb : b.length + (wr (l.flatMap g)).length ≤ 1099511627776) : loop f (0, b) = some (b ++ wr (l.flatMap g)) := by
  have key : ∀ (k i : Nat) (b : List Int), i + k = l.length → b.length + (wr ((l.drop i).flatMap g)).length ≤ 1099511627776 → loop f ((i : Int), b) = some (b ++ wr ((l.drop i).flatMap g)) := by
    intro k
    induction k with
    | zero =>
      intro i b hi _
      have hi : i = l.length := by omega
      subst hi
      rw [loop_inr (hd b), List.drop_length]
      simp [wr]
    | succ k ih =>
      intro i b hi hb
      have hlt : i < l.length := by omega
      have e : l.drop i = l[i] :: l.drop (i + 1) := List.drop_eq_getElem_cons hlt
      rw [e, List.flatMap_cons, wr_append] at hb ⊢
      rw [List.length_append] at hb
      rw [loop_inl (hs i hlt b (by omega)), ih (i + 1) _ (by omega) (by rw [List.length_append]; omega), List.append_assoc]
  have := key l.length 0 b (by omega) (by simpa using hb)
  simpa using this

theorem single_flat (l : List Int) : l.flatMap (fun x => [x]) = l := by induction l with
  | nil => rfl
  | cons a l ih => simp [List.flatMap_cons, ih]

theorem Wr.ints (a : Int) (l : List Int) (hl : l.length ≤ 1099511627776) : Wr (fun b => tape_Tape_Ints_i1 b a l) ((l.length : Int) :: l) := by
  intro hw b hb
  obtain ⟨w1, w2⟩ := wfNs_cons.1 hw
  rw [wr_cons] at hb ⊢
  rw [List.length_append] at hb
  have e1 : wr [(l.length : Int)] = code (l.length : Int) := by simp [wr]
  unfold tape_Tape_Ints_i1 tape_List_int64__i3
  dsimp only
  have h1 : tape_Tape_Within_i2 0 (w64 ((b.length : Int) - a)) b a (l.length : Int) = some (b ++ wr [(l.length : Int)]) := Wr.within 0 _ a _ (fun x hx => by simp at hx; subst hx; exact w1) b (by rw [e1]; omega)
  rw [h1, Option.bind_some, e1]
  unfold tape_List_int64__i3_l3
  rw [wr_list l (fun x => [x]) _ hl (fun i hi c hc => ?_) (fun c => ?_) _ (by rw [single_flat, List.length_append]; omega), single_flat, Option.bind_some, List.append_assoc]
  · unfold tape_List_int64__i3_l3s
    have h2 : tape_Tape_Int_i3 c a l[i] = some (c ++ wr [l[i]]) := Wr.int a _ (fun x hx => by simp at hx; subst hx; exact w2 _ (List.getElem_mem hi)) c hc
    simp only []
    rw [decide_eq_true (by omega), cond_true, idx_get hi, Option.bind_some, h2, Option.bind_some, w64_id (by omega) (by omega)]
    rfl
  · unfold tape_List_int64__i3_l3s
    simp only []
    rw [decide_eq_false (by omega), cond_false]; rfl

theorem Wr.text (a : Int) (l : List Int) (hl : l.length ≤ 1099511627776) (hy : byt l) : Wr (fun b => tape_Tape_Text_i1 b a l) ((l.length : Int) :: l) := by
  intro hw b hb
  obtain ⟨w1, w2⟩ := wfNs_cons.1 hw
  rw [wr_cons] at hb ⊢
  rw [List.length_append] at hb
  have e1 : wr [(l.length : Int)] = code (l.length : Int) := by simp [wr]
  unfold tape_Tape_Text_i1 tape_List_byte__i3
  dsimp only
  have h1 : tape_Tape_Within_i2 0 (w64 ((b.length : Int) - a)) b a (l.length : Int) = some (b ++ wr [(l.length : Int)]) := Wr.within 0 _ a _ (fun x hx => by simp at hx; subst hx; exact w1) b (by rw [e1]; omega)
  rw [h1, Option.bind_some, e1]
  unfold tape_List_byte__i3_l3
  rw [wr_list l (fun x => [x]) _ hl (fun i hi c hc => ?_) (fun c => ?_) _ (by rw [single_flat, List.length_append]; omega), single_flat, Option.bind_some, List.append_assoc]
  · unfold tape_List_byte__i3_l3s tape_Tape_Text_1_i1
    have hx := hy l[i] (List.getElem_mem hi)
    have h2 : tape_Tape_Within_i2 0 255 c a (w64 l[i]) = some (c ++ wr [l[i]]) := by
      rw [w64_id (by omega) (by omega)]
      exact Wr.within 0 255 a _ (fun x hx => by simp at hx; subst hx; exact w2 _ (List.getElem_mem hi)) c hc
    simp only []
    rw [decide_eq_true (by omega), cond_true, idx_get hi, Option.bind_some, h2, Option.bind_some, Option.bind_some, w64_id (n := (i : Int) + 1) (by omega) (by omega)]
    rfl
  · unfold tape_List_byte__i3_l3s
    simp only []
    rw [decide_eq_false (by omega), cond_false]; rfl

/-- The numbers of a configuration; of a command. -/
def cfgN (c : api_Config) : List Int := [c.Kind, c.Agg, c.W, c.K, c.Cap, c.P, c.Chains, c.Max]
def cmdN (c : api_Command) : List Int := [c.Op] ++ ([c.ID] ++ (cfgN c.Config ++ ([c.T] ++ ([c.V] ++ (((c.Draws.length : Int) :: c.Draws) ++ ([c.Query.Op] ++ ([c.Query.A] ++ ([c.Query.B] ++ (((c.Bytes.length : Int) :: c.Bytes) ++ [])))))))))

theorem Wr.config (a : Int) (c : api_Config) : Wr (fun b => tape_Tape_Config_i1 b a c) (cfgN c) := by
  have := Wr.bind (Wr.small a c.Kind) (Wr.bind (Wr.small a c.Agg) (Wr.bind (Wr.int a c.W) (Wr.bind (Wr.small a c.K) (Wr.bind (Wr.small a c.Cap) (Wr.bind (Wr.small a c.P) (Wr.bind (Wr.small a c.Chains) (Wr.bind (Wr.int a c.Max) Wr.done)))))))
  exact this

theorem small_i2 (a n : Int) : tape_Tape_Small_i2 a n = tape_Tape_Small_i3 [] a n := rfl

theorem cmd_step (a : Int) (c : api_Command) (h1 : c.Draws.length ≤ 1099511627776) (h2 : c.Bytes.length ≤ 1099511627776) (hy : byt c.Bytes) :
    ∃ f, codec_command_i1 a c = f [] ∧ Wr f (cmdN c) := by
  refine ⟨_, ?_, Wr.bind (Wr.small a c.Op) (Wr.bind (Wr.int a c.ID) (Wr.bind (Wr.config a c.Config) (Wr.bind (Wr.int a c.T) (Wr.bind (Wr.int a c.V) (Wr.bind (Wr.ints a c.Draws h1) (Wr.bind (Wr.small a c.Query.Op) (Wr.bind (Wr.int a c.Query.A) (Wr.bind (Wr.int a c.Query.B) (Wr.bind (Wr.text a c.Bytes h2 hy) Wr.done)))))))))⟩
  unfold codec_command_i1
  rw [small_i2]

/-- What an encoder answers. -/
def encR (b : List Int) : List Int × Int := if b.length ≤ 1048576 then (b, 0) else ([], 5)

/-- A command whose lists are short. -/
structure CmdOk (c : api_Command) : Prop where
  ns : wfNs (cmdN c)
  by_ : byt c.Bytes
  dr : c.Draws.length ≤ 100000
  bl : c.Bytes.length ≤ 100000

theorem cmdN_length (c : api_Command) : (cmdN c).length = 17 + c.Draws.length + c.Bytes.length := by
  unfold cmdN cfgN
  simp
  omega

theorem cmd_bound {c : api_Command} (h : CmdOk c) : (wr (cmdN c)).length ≤ 10000000 := by
  have h1 := wr_ten h.ns
  have h2 := h.dr
  have h3 := h.bl
  rw [cmdN_length] at h1
  omega

theorem enc_cmd {c : api_Command} (h : CmdOk c) : codec_EncodeCommand c = some (encR (wr (cmdN c))) := by
  have hb := cmd_bound h
  have hd := h.dr
  have hl := h.bl
  obtain ⟨f, e, hf⟩ := cmd_step 0 c (by omega) (by omega) h.by_
  unfold codec_EncodeCommand
  rw [e, hf h.ns [] (by rw [List.length_nil]; omega), Option.bind_some, List.nil_append]
  unfold codec_written encR
  simp only []
  by_cases hc : (wr (cmdN c)).length ≤ 1048576
  · rw [decide_eq_false (by omega), if_pos hc]; rfl
  · rw [decide_eq_true (by omega), if_neg hc]; rfl

theorem ref_write {ns : List Int} (h : wfNs ns) (hl : ns.length ≤ 10000000) : ref27_Write ns = some (wr ns) := by
  have hb := wr_ten h
  unfold ref27_Write ref27_Write_l2
  obtain ⟨r, hr, hQ⟩ := loop_ind (f := fun s : List Int × Int => ref27_Write_l2s ns s.1 s.2)
    (fun s => ∃ i : Nat, i ≤ ns.length ∧ s = (wr (ns.take i), (i : Int))) (fun s => ns.length - s.2.toNat) (fun r => r = wr ns) ([], 0) ⟨0, by omega, by simp [wr]⟩ (by
      rintro _ ⟨i, hi, rfl⟩
      simp only
      unfold ref27_Write_l2s
      by_cases hlt : i < ns.length
      · left
        have w := h ns[i] (List.getElem_mem hlt)
        have e : ns.take (i + 1) = ns.take i ++ [ns[i]] := by rw [List.take_add_one]; simp [hlt]
        have e2 : wr (ns.take (i + 1)) = wr (ns.take i) ++ code ns[i] := by rw [e, wr_append]; simp [wr]
        have c10 := code_ten w
        have b2 : (wr (ns.take i)).length ≤ 10 * i := by
          have := wr_ten (ns := ns.take i) fun x hx => h x (List.take_subset _ _ hx)
          rw [List.length_take] at this
          omega
        rw [decide_eq_true (by omega), cond_true, idx_get hlt, Option.bind_some, ref_append w (by rw [List.length_nil]; omega), Option.bind_some, List.nil_append, ck_pos (by rw [decide_eq_true_eq]; omega), ← e2]
        refine ⟨_, rfl, ⟨i + 1, hlt, ?_⟩, ?_⟩
        · rw [w64_id (by omega) (by omega)]; rfl
        · show _ - (w64 ((i : Int) + 1)).toNat < _ - ((i : Int)).toNat
          rw [w64_id (by omega) (by omega)]
          omega
      · right
        have hi' : i = ns.length := by omega
        subst hi'
        rw [decide_eq_false (by omega), cond_false, List.take_length]
        exact ⟨_, rfl, rfl⟩)
  rw [hr, hQ]

theorem ref_encode {ns : List Int} (h : wfNs ns) (hl : ns.length ≤ 10000000) : ref27_encode ns = some (encR (wr ns)) := by
  unfold ref27_encode encR
  rw [ref_write h hl, Option.bind_some]
  by_cases hc : (wr ns).length ≤ 1048576
  · rw [decide_eq_false (by omega), if_pos hc]; rfl
  · rw [decide_eq_true (by omega), if_neg hc]; rfl

theorem ref_list {l : List Int} (hl : l.length ≤ 1099511627776) : ref27_List l = some ((l.length : Int) :: l) := by
  unfold ref27_List
  rw [ck_pos (by rw [decide_eq_true_eq, List.length_singleton]; omega)]
  rfl

theorem ref_bytes {l : List Int} (hl : l.length ≤ 1099511627776) (hy : byt l) : ref27_Bytes l = some ((l.length : Int) :: l) := by
  unfold ref27_Bytes ref27_Bytes_l2
  obtain ⟨r, hr, hQ⟩ := loop_ind (f := fun s : List Int × Int => ref27_Bytes_l2s l s.1 s.2)
    (fun s => ∃ i : Nat, i ≤ l.length ∧ s = ((l.length : Int) :: l.take i, (i : Int))) (fun s => l.length - s.2.toNat) (fun r => r = (l.length : Int) :: l) ([(l.length : Int)], 0) ⟨0, by omega, by simp⟩ (by
      rintro _ ⟨i, hi, rfl⟩
      simp only
      unfold ref27_Bytes_l2s
      by_cases hlt : i < l.length
      · left
        have hx := hy l[i] (List.getElem_mem hlt)
        have e : l.take (i + 1) = l.take i ++ [l[i]] := by rw [List.take_add_one]; simp [hlt]
        rw [decide_eq_true (by omega), cond_true, idx_get hlt, Option.bind_some, w64_id (n := l[i]) (by omega) (by omega), ck_pos (by rw [decide_eq_true_eq, List.length_singleton, List.length_cons, List.length_take]; omega), List.cons_append, ← e]
        refine ⟨_, rfl, ⟨i + 1, hlt, ?_⟩, ?_⟩
        · rw [w64_id (by omega) (by omega)]; rfl
        · show _ - (w64 ((i : Int) + 1)).toNat < _ - ((i : Int)).toNat
          rw [w64_id (by omega) (by omega)]
          omega
      · right
        have hi' : i = l.length := by omega
        subst hi'
        rw [decide_eq_false (by omega), cond_false, List.take_length]
        exact ⟨_, rfl, rfl⟩)
  rw [hr, hQ]

theorem ref_command {c : api_Command} (h : CmdOk c) : ref27_Command c = some (cmdN c) := by
  have hd := h.dr
  have hl := h.bl
  unfold ref27_Command ref27_Config
  simp only []
  have e : ([c.Op, c.ID] ++ [c.Config.Kind, c.Config.Agg, c.Config.W, c.Config.K, c.Config.Cap, c.Config.P, c.Config.Chains, c.Config.Max] ++ [c.T, c.V] ++ ((c.Draws.length : Int) :: c.Draws) ++ [c.Query.Op, c.Query.A, c.Query.B] ++ ((c.Bytes.length : Int) :: c.Bytes)) = cmdN c := by
    unfold cmdN cfgN; simp
  rw [ref_list (by omega), ref_bytes (by omega) h.by_]
  simp only [Option.bind_some]
  rw [e]
  rw [ck_pos (by rw [decide_eq_true_eq]; simp only [List.length_append, List.length_cons, List.length_nil]; omega), ck_pos (by rw [decide_eq_true_eq]; simp only [List.length_append, List.length_cons, List.length_nil]; omega), ck_pos (by rw [decide_eq_true_eq]; simp only [List.length_append, List.length_cons, List.length_nil]; omega), ck_pos (by rw [decide_eq_true_eq]; simp only [List.length_append, List.length_cons, List.length_nil]; omega), ck_pos (by rw [decide_eq_true_eq]; simp only [List.length_append, List.length_cons, List.length_nil]; omega)]

theorem ref_enc_cmd {c : api_Command} (h : CmdOk c) : ref27_EncodeCommand c = some (encR (wr (cmdN c))) := by
  have hd := h.dr
  have hl := h.bl
  unfold ref27_EncodeCommand
  rw [ref_command h, Option.bind_some, ref_encode h.ns (by rw [cmdN_length]; omega)]
  rfl

end Go.Win

