/- Pu: chapter 30: the script of commands; the statement ScriptJoins. -/
import Derived.Test.YtmipeaidieflmaaPuScr
import Derived.Test.YtmipeaidieflmaaPuDec2
set_option linter.unusedVariables false
set_option linter.unusedSimpArgs false
set_option linter.unnecessarySimpa false
set_option linter.unusedSectionVars false
namespace Go.Win
open Go.Vc Go.Dec

/-- A reader reads these numbers as this value. -/
def Rds {α : Type} (P : Rd α) (ns : List Int) (a : α) : Prop := ∀ rest, P (ns ++ rest) = some (a, rest)

theorem Rds.pure {α : Type} (a : α) : Rds (rpure a) [] a := fun _ => rfl
theorem Rds.bind {α β : Type} {P : Rd α} {f : α → Rd β} {ns ms : List Int} {a : α} {b : β} (h : Rds P ns a) (h' : Rds (f a) ms b) : Rds (rbind P f) (ns ++ ms) b := by
  intro rest
  unfold rbind
  rw [List.append_assoc, h, Option.bind_some]
  exact h' rest
theorem Rds.int (n : Int) : Rds takeInt [n] n := fun _ => rfl

theorem rmany_bytes : ∀ (l rest : List Int), byt l → rmany byteP l.length (l ++ rest) = some (l, rest)
  | [], _, _ => rfl
  | x :: l, rest, h => by
    have hx := h x (by simp)
    show ((byteP (x :: (l ++ rest))).bind fun q => (rmany byteP l.length q.2).bind fun q' => rpure (q.1 :: q'.1) q'.2) = _
    rw [byteP_cons, if_neg (by omega), Option.bind_some]
    simp only []
    rw [rmany_bytes l rest fun y hy => h y (by simp [hy]), Option.bind_some]
    rfl

theorem many_read (n : Nat) (l : List Int) (h : n ≤ l.length) : manyP ((n : Int) :: l) = some ((n : Int), l) := by
  show (if (n : Int) < 0 ∨ (l.length : Int) < (n : Int) then none else some ((n : Int), l)) = _
  rw [if_neg (by omega)]

theorem Rds.list (l : List Int) : Rds (rlist takeInt takeInt) ((l.length : Int) :: l) l := by
  intro rest
  rw [rlist_eq, List.cons_append, many_read _ _ (by rw [List.length_append]; omega), Option.bind_some, Int.toNat_natCast, many_take, if_pos (by rw [List.length_append]; omega), List.take_left, List.drop_left]
theorem Rds.bytes (l : List Int) (h : byt l) : Rds (rlist takeInt byteP) ((l.length : Int) :: l) l := by
  intro rest
  rw [rlist_eq, List.cons_append, many_read _ _ (by rw [List.length_append]; omega), Option.bind_some, Int.toNat_natCast]
  exact rmany_bytes l rest h

theorem Rds.config (c : api_Config) : Rds cfgP (cfgN c) c :=
  Rds.bind (Rds.int c.Kind) (Rds.bind (Rds.int c.Agg) (Rds.bind (Rds.int c.W) (Rds.bind (Rds.int c.K) (Rds.bind (Rds.int c.Cap) (Rds.bind (Rds.int c.P) (Rds.bind (Rds.int c.Chains) (Rds.bind (Rds.int c.Max) (Rds.pure c))))))))

theorem Rds.cmd (c : api_Command) (h : byt c.Bytes) : Rds cmdP (cmdN c) c :=
  Rds.bind (Rds.int c.Op) (Rds.bind (Rds.int c.ID) (Rds.bind (Rds.config c.Config) (Rds.bind (Rds.int c.T) (Rds.bind (Rds.int c.V) (Rds.bind (Rds.list c.Draws) (Rds.bind (Rds.int c.Query.Op) (Rds.bind (Rds.int c.Query.A) (Rds.bind (Rds.int c.Query.B) (Rds.bind (Rds.bytes c.Bytes h) (Rds.pure c))))))))))

theorem cmd_read (c : api_Command) (h : byt c.Bytes) : cmdP (cmdN c) = some (c, []) := by
  have := Rds.cmd c h []
  rwa [List.append_nil] at this

theorem decode_code {c : api_Command} (h : CmdOk c) (hl : (wr (cmdN c)).length ≤ 1048576) : ref27_DecodeCommand (wr (cmdN c)) = some (c, 0) := by
  obtain ⟨r, h1, h2⟩ := ref_decode_cmd (wr_byt (cmdN c)) hl
  rw [h1]
  rcases h2 with ⟨a, ns, w, e, p, rfl⟩ | ⟨_, q⟩
  · have : cmdN c = ns := wr_inj h.ns w e
    rw [← this, cmd_read c h.by_] at p
    rw [(Prod.mk.inj (Option.some.inj p)).1]
  · exact absurd (cmd_read c h.by_) (q c (cmdN c) h.ns rfl)

theorem same_numbers (l : List Int) (hl : l.length ≤ 1099511627776) : ref09_SameNumbers l l = some true := by
  unfold ref09_SameNumbers ref09_SameNumbers_l3
  rw [bne_self_eq_false, cond_false]
  have hany : (List.range l.length).any (fun _ => false) = false := by rw [List.any_eq_false]; simp
  have hL : loop (fun s : Int => ref09_SameNumbers_l3s l l s) 0 = cond ((List.range l.length).any fun _ => false) (some false) (some true) := by
    refine loop_all (fun j hj => ?_) ?_
    · unfold ref09_SameNumbers_l3s
      rw [decide_eq_true (by omega), cond_true, idx_get hj, Option.bind_some, Option.bind_some, bne_self_eq_false, cond_false, w64_id (by omega) (by omega)]
      rfl
    · unfold ref09_SameNumbers_l3s
      rw [decide_eq_false (by omega), cond_false]
  rw [hL, hany]
  rfl

theorem same_command {c : api_Command} (h : CmdOk c) : ref27_SameCommand c c = some true := by
  have h1 := cmdN_length c
  have h2 := h.dr
  have h3 := h.bl
  unfold ref27_SameCommand
  rw [ref_command h, Option.bind_some, Option.bind_some, same_numbers _ (by omega)]
  rfl

def encC (c : api_Command) : List Int := wr (cmdN c)

theorem joins {cs : List api_Command} (h : ∀ c ∈ cs, CmdOk c ∧ (encC c).length ≤ 10000) (hl : cs.length ≤ 20) :
    script_Join cs = some (cs.flatMap fun c => frameB (encC c), 0) ∧ ref30_Join cs = some (cs.flatMap fun c => frameB (encC c), 0) := by
  have hf : ∀ c ∈ cs, (frameB (encC c)).length ≤ 10010 := fun c hc => by
    have := (h c hc).2
    have := code_ten (n := ((encC c).length : Int)) (wf_i64.2 (by omega))
    unfold frameB
    rw [List.length_append]
    omega
  have hb : ∀ i, i ≤ cs.length → ((cs.take i).flatMap fun c => frameB (encC c)).length ≤ 10010 * i := by
    intro i
    induction i with
    | zero => intro _; simp
    | succ i ih =>
      intro hi
      have e : cs.take (i + 1) = cs.take i ++ [cs[i]] := by rw [List.take_add_one]; simp [show i < cs.length by omega]
      rw [e, List.flatMap_append, List.length_append]
      have := ih (by omega)
      have := hf cs[i] (List.getElem_mem (by omega))
      rw [List.flatMap_cons, List.flatMap_nil, List.append_nil]
      omega
  have hs : ∀ (i : Nat) (hi : i < cs.length), ((cs.take (i + 1)).flatMap fun c => frameB (encC c)) = ((cs.take i).flatMap fun c => frameB (encC c)) ++ frameB (encC cs[i]) := fun i hi => by
    have e : cs.take (i + 1) = cs.take i ++ [cs[i]] := by rw [List.take_add_one]; simp [hi]
    rw [e, List.flatMap_append]
    simp
  constructor
  · unfold script_Join script_Join_l2
    obtain ⟨r, hr, hQ⟩ := loop_ind (f := fun s : List Int × Int => script_Join_l2s cs s.1 s.2)
      (fun s => ∃ i : Nat, i ≤ cs.length ∧ s = ((cs.take i).flatMap fun c => frameB (encC c), (i : Int))) (fun s => cs.length - s.2.toNat) (fun r => r = (cs.flatMap fun c => frameB (encC c), 0)) ([], 0) ⟨0, by omega, by simp⟩ (by
        rintro _ ⟨i, hi, rfl⟩
        simp only
        unfold script_Join_l2s
        by_cases hlt : i < cs.length
        · left
          obtain ⟨w1, w2⟩ := h cs[i] (List.getElem_mem hlt)
          have b1 := hb i hi
          have e : encR (wr (cmdN cs[i])) = (encC cs[i], 0) := by
            have : (wr (cmdN cs[i])).length ≤ 10000 := w2
            unfold encR; rw [if_pos (by omega)]; rfl
          rw [decide_eq_true (by omega), cond_true, idx_get hlt, Option.bind_some, enc_cmd w1, Option.bind_some, e]
          simp only [bne_self_eq_false, cond_false]
          rw [frame_prog (by omega), Option.bind_some, ← hs i hlt]
          refine ⟨_, rfl, ⟨i + 1, hlt, ?_⟩, ?_⟩
          · rw [w64_id (by omega) (by omega)]; rfl
          · show _ - (w64 ((i : Int) + 1)).toNat < _ - ((i : Int)).toNat
            rw [w64_id (by omega) (by omega)]
            omega
        · right
          have hi' : i = cs.length := by omega
          subst hi'
          rw [decide_eq_false (by omega), cond_false, List.take_length]
          exact ⟨_, rfl, rfl⟩)
    rw [hr, hQ]
  · unfold ref30_Join ref30_Join_l2
    obtain ⟨r, hr, hQ⟩ := loop_ind (f := fun s : List Int × Int => ref30_Join_l2s cs s.1 s.2)
      (fun s => ∃ i : Nat, i ≤ cs.length ∧ s = ((cs.take i).flatMap fun c => frameB (encC c), (i : Int))) (fun s => cs.length - s.2.toNat) (fun r => r = (cs.flatMap fun c => frameB (encC c), 0)) ([], 0) ⟨0, by omega, by simp⟩ (by
        rintro _ ⟨i, hi, rfl⟩
        simp only
        unfold ref30_Join_l2s
        by_cases hlt : i < cs.length
        · left
          obtain ⟨w1, w2⟩ := h cs[i] (List.getElem_mem hlt)
          have b1 := hb i hi
          have b2 := hf cs[i] (List.getElem_mem hlt)
          have e : encR (wr (cmdN cs[i])) = (encC cs[i], 0) := by
            have : (wr (cmdN cs[i])).length ≤ 10000 := w2
            unfold encR; rw [if_pos (by omega)]; rfl
          rw [decide_eq_true (by omega), cond_true, idx_get hlt, Option.bind_some, ref_enc_cmd w1, Option.bind_some, e]
          simp only [bne_self_eq_false, cond_false]
          rw [frame_ref (by omega), Option.bind_some, ck_pos (by rw [decide_eq_true_eq]; omega), ← hs i hlt]
          refine ⟨_, rfl, ⟨i + 1, hlt, ?_⟩, ?_⟩
          · rw [w64_id (by omega) (by omega)]; rfl
          · show _ - (w64 ((i : Int) + 1)).toNat < _ - ((i : Int)).toNat
            rw [w64_id (by omega) (by omega)]
            omega
        · right
          have hi' : i = cs.length := by omega
          subst hi'
          rw [decide_eq_false (by omega), cond_false, List.take_length]
          exact ⟨_, rfl, rfl⟩)
    rw [hr, hQ]

theorem frames_byt {es : List (List Int)} (h : ∀ e ∈ es, byt e) : byt (es.flatMap frameB) := by
  intro x hx
  obtain ⟨e, he, hxe⟩ := List.mem_flatMap.1 hx
  exact byt_app (code_byt _) (h e he) x hxe

theorem split_frames : ∀ (es : List (List Int)) (pre : List Int) (out : List (List Int)), byt pre → (∀ e ∈ es, byt e ∧ e.length ≤ 1048576) → (pre ++ es.flatMap frameB).length ≤ 100000000 → out.length ≤ pre.length →
    script_Split_l2 (pre ++ es.flatMap frameB) out pre.length = some (out ++ es, [])
  | [], pre, out, hp, _, hl, ho => by
    have hd : (pre ++ ([] : List (List Int)).flatMap frameB) = pre := by simp
    rw [hd] at hl ⊢
    have e : rdA pre pre.length = (0, 0, false) := by unfold rdA; rw [List.drop_length]; rfl
    unfold script_Split_l2
    refine loop_inr ?_
    unfold script_Split_l2s
    simp only []
    rw [codec_read hp (by omega) (Nat.le_refl _), e, Option.bind_some]
    simp only [Bool.not_false, Bool.true_or, cond_true]
    rw [ck_pos (by rw [decide_eq_true_eq]; omega), Int.toNat_natCast, List.drop_length, ck_pos (by decide)]
    simp
  | e :: es, pre, out, hp, h, hl, ho => by
    have he := h e (by simp)
    have hes : ∀ e ∈ es, byt e ∧ e.length ≤ 1048576 := fun x hx => h x (by simp [hx])
    have w : wfI .i64 (e.length : Int) := wf_i64.2 (by omega)
    have hL : pre ++ (e :: es).flatMap frameB = (pre ++ frameB e) ++ es.flatMap frameB := by rw [List.flatMap_cons, List.append_assoc]
    have hpre : byt (pre ++ frameB e) := byt_app hp (byt_app (code_byt _) he.1)
    have hlen : (pre ++ frameB e).length = pre.length + (code (e.length : Int)).length + e.length := by unfold frameB; rw [List.length_append, List.length_append]; omega
    have ih := split_frames es (pre ++ frameB e) (out ++ [e]) hpre hes (by rw [← hL]; exact hl) (by rw [List.length_append, List.length_singleton, hlen]; have := code_len (e.length : Int); omega)
    rw [← hL, List.append_assoc] at ih
    rw [show out ++ e :: es = out ++ ([e] ++ es) from rfl, ← ih]
    have hdrop : (pre ++ (e :: es).flatMap frameB).drop pre.length = code (e.length : Int) ++ (e ++ es.flatMap frameB) := by
      rw [List.drop_left, List.flatMap_cons]; unfold frameB; rw [List.append_assoc]
    have hbl : byt (pre ++ (e :: es).flatMap frameB) := byt_app hp (frames_byt fun x hx => (h x hx).1)
    have hge : pre.length + (code (e.length : Int)).length + e.length ≤ (pre ++ (e :: es).flatMap frameB).length := by rw [hL, List.length_append, hlen]; omega
    have hA : rdA (pre ++ (e :: es).flatMap frameB) pre.length = ((e.length : Int), ((pre.length + (code (e.length : Int)).length : Nat) : Int), true) := by
      unfold rdA; rw [hdrop, rd_code w]
    generalize hk : (code (e.length : Int)).length = k at *
    generalize hW : pre ++ (e :: es).flatMap frameB = W at *
    have hfr : (W.take (pre.length + k + e.length)).drop (pre.length + k) = e := by
      have e1 : W.drop (pre.length + k) = e ++ es.flatMap frameB := by rw [← List.drop_drop, hdrop, ← hk, List.drop_left]
      rw [List.drop_take, e1, show pre.length + k + e.length - (pre.length + k) = e.length by omega, List.take_left]
    have s1 : w64 (((pre.length + k : Nat) : Int) + (e.length : Int)) = ((pre.length + k + e.length : Nat) : Int) := by rw [w64_id] <;> omega
    have s2 : w64 ((W.length : Int) - ((pre.length + k : Nat) : Int)) = (W.length : Int) - ((pre.length + k : Nat) : Int) := by rw [w64_id] <;> omega
    have c1 : ((((!true) || decide ((e.length : Int) < 0)) || decide ((e.length : Int) > 1048576)) || decide ((e.length : Int) > (W.length : Int) - ((pre.length + k : Nat) : Int))) = false := by
      simp only [Bool.not_true, Bool.false_or, Bool.or_eq_false_iff, decide_eq_false_iff_not]; omega
    rw [show (((pre ++ frameB e).length : Nat) : Int) = ((pre.length + k + e.length : Nat) : Int) by rw [hlen]]
    unfold script_Split_l2
    refine loop_inl ?_
    unfold script_Split_l2s
    simp only []
    rw [codec_read hbl (by omega) (by omega), hA, Option.bind_some]
    simp only []
    rw [s2, c1, cond_false, s1, ck_pos (by rw [decide_eq_true_eq]; omega), Int.toNat_natCast, Int.toNat_natCast, hfr, List.nil_append,
      ck_pos (by rw [decide_eq_true_eq, List.length_nil]; omega), ck_pos (by rw [decide_eq_true_eq, List.length_singleton]; omega)]

theorem few_eq (cs : List api_Command) (hl : cs.length ≤ maxLen) : law30_few cs = some (!((List.range cs.length).any fun i => decide ((cs.getD i listC).Draws.length > 60) || decide ((cs.getD i listC).Bytes.length > 600)) && decide (cs.length ≤ 20)) := by
  have hm := maxLen_eq
  unfold law30_few law30_few_l2
  have hL : loop (fun s : Int => law30_few_l2s cs s) 0 = cond ((List.range cs.length).any fun i => decide ((cs.getD i listC).Draws.length > 60) || decide ((cs.getD i listC).Bytes.length > 600)) (some false) (some (decide (cs.length ≤ 20))) := by
    refine loop_all (fun j hj => ?_) ?_
    · have e : cs.getD j listC = cs[j] := by rw [List.getD_eq_getElem?_getD, List.getElem?_eq_getElem hj]; rfl
      unfold law30_few_l2s
      rw [e, decide_eq_true (by omega), cond_true, idx_get hj, Option.bind_some, w64_id (by omega) (by omega)]
      have e1 : decide ((cs[j].Draws.length : Int) > 60) = decide (cs[j].Draws.length > 60) := by rw [decide_eq_decide]; omega
      have e2 : decide ((cs[j].Bytes.length : Int) > 600) = decide (cs[j].Bytes.length > 600) := by rw [decide_eq_decide]; omega
      rw [e1, e2]
    · unfold law30_few_l2s
      rw [decide_eq_false (by omega), cond_false]
      have e1 : decide ((cs.length : Int) ≤ 20) = decide (cs.length ≤ 20) := by rw [decide_eq_decide]; omega
      rw [e1]
  rw [hL]
  cases (List.range cs.length).any fun i => decide ((cs.getD i listC).Draws.length > 60) || decide ((cs.getD i listC).Bytes.length > 600) <;> rfl

theorem cmd_ok {c : api_Command} (w : wf_api_Command c) (h1 : c.Draws.length ≤ 60) (h2 : c.Bytes.length ≤ 600) : CmdOk c ∧ (encC c).length ≤ 10000 := by
  obtain ⟨w1, w2, ⟨c1, c2, c3, c4, c5, c6, c7, c8⟩, w3, w4, w5, ⟨q1, q2, q3⟩, w6⟩ := w
  have hb := wfL_byt w6
  have ns : wfNs (cmdN c) := by
    unfold cmdN cfgN
    simp only [wfNs_app, wfNs_cons]
    refine ⟨⟨w1, wfNs_nil⟩, ⟨w2, wfNs_nil⟩, ⟨c1, c2, c3, c4, c5, c6, c7, c8, wfNs_nil⟩, ⟨w3, wfNs_nil⟩, ⟨w4, wfNs_nil⟩, ⟨wf_i64.2 (by omega), w5.2⟩, ⟨q1, wfNs_nil⟩, ⟨q2, wfNs_nil⟩, ⟨q3, wfNs_nil⟩, ⟨wf_i64.2 (by omega), fun x hx => wf_i64.2 (by have := hb x hx; omega)⟩, wfNs_nil⟩
  refine ⟨⟨ns, hb, by omega, by omega⟩, ?_⟩
  have h3 := wr_ten ns
  rw [cmdN_length] at h3
  unfold encC
  omega

theorem law30_ScriptJoins_true (p0 : List api_Command) (h0 : wfL wf_api_Command p0) : law30_ScriptJoins p0 = some true := by
  unfold law30_ScriptJoins
  rw [few_eq p0 h0.1, Option.bind_some, law30_awake_true]
  cases hany : (List.range p0.length).any fun i => decide ((p0.getD i listC).Draws.length > 60) || decide ((p0.getD i listC).Bytes.length > 600) with
  | true => simp
  | false =>
    by_cases h20 : p0.length ≤ 20
    · rw [decide_eq_true h20]
      simp only [Bool.not_false, Bool.and_self, Bool.not_true, cond_false]
      have hc : ∀ c ∈ p0, CmdOk c ∧ (encC c).length ≤ 10000 := by
        intro c hc
        obtain ⟨i, hi, rfl⟩ := List.getElem_of_mem hc
        have := List.any_eq_false.1 hany i (List.mem_range.2 hi)
        have e : p0.getD i listC = p0[i] := by rw [List.getD_eq_getElem?_getD, List.getElem?_eq_getElem hi]; rfl
        rw [e, Bool.or_eq_true, not_or, decide_eq_true_eq, decide_eq_true_eq] at this
        exact cmd_ok (h0.2 _ (List.getElem_mem hi)) (by omega) (by omega)
      obtain ⟨j1, j2⟩ := joins hc h20
      rw [j1, j2]
      simp only [Option.bind_some, same_refl, Bool.not_true, bne_self_eq_false, Bool.or_self, cond_false, Bool.false_or]
      have hfm : (p0.flatMap fun c => frameB (encC c)) = (p0.map encC).flatMap frameB := by rw [List.flatMap_map]
      have hlen : ((p0.map encC).flatMap frameB).length ≤ 100000000 := by
        have : ∀ cs : List api_Command, (∀ c ∈ cs, CmdOk c ∧ (encC c).length ≤ 10000) → ((cs.map encC).flatMap frameB).length ≤ 10010 * cs.length := by
          intro cs
          induction cs with
          | nil => intro _; simp
          | cons c cs ih =>
            intro h
            have h1 := ih fun x hx => h x (by simp [hx])
            have h2 := (h c (by simp)).2
            have h3 := code_ten (n := ((encC c).length : Int)) (wf_i64.2 (by omega))
            rw [List.map_cons, List.flatMap_cons, List.length_append, List.length_cons]
            have h4 : (frameB (encC c)).length ≤ 10010 := by unfold frameB; rw [List.length_append]; omega
            omega
        have := this p0 hc
        omega
      have hsp : script_Split ((p0.map encC).flatMap frameB) = some (p0.map encC, []) := by
        have := split_frames (p0.map encC) [] [] (fun _ h => by cases h) (fun e he => by
          obtain ⟨c, c1, rfl⟩ := List.mem_map.1 he
          exact ⟨wr_byt _, by have := (hc c c1).2; omega⟩) (by rw [List.nil_append]; exact hlen) (Nat.le_refl _)
        rw [List.nil_append, List.nil_append] at this
        exact this
      rw [hfm, hsp]
      simp only [Option.bind_some, List.length_nil, List.length_map, bne_self_eq_false, Bool.or_self, cond_false]
      have hz : ((((0 : Nat) : Int) != 0) : Bool) = false := rfl
      simp only [hz, cond_false]
      unfold law30_ScriptJoins_l5
      have hany : (List.range p0.length).any (fun _ => false) = false := by rw [List.any_eq_false]; simp
      have hL : loop (fun s : Int => law30_ScriptJoins_l5s p0 (p0.map encC, []) s) 0 = cond ((List.range p0.length).any fun _ => false) (some false) (some true) := by
        refine loop_all (fun j hj => ?_) ?_
        · obtain ⟨w1, w2⟩ := hc p0[j] (List.getElem_mem hj)
          have hx : idx (p0.map encC) (j : Int) = some (encC p0[j]) := by rw [idx_nat, List.getElem?_map, List.getElem?_eq_getElem hj]; rfl
          have hd : ref27_DecodeCommand (encC p0[j]) = some (p0[j], 0) := decode_code w1 (by have : (wr (cmdN p0[j])).length ≤ 10000 := w2; omega)
          unfold law30_ScriptJoins_l5s
          simp only [List.length_map]
          rw [decide_eq_true (by omega), cond_true, hx, Option.bind_some, hd, Option.bind_some]
          simp only [bne_self_eq_false, Bool.not_false, gd_true]
          rw [idx_get hj, Option.bind_some, same_command w1, Option.bind_some, w64_id (by omega) (by omega)]
          rfl
        · unfold law30_ScriptJoins_l5s
          simp only [List.length_map]
          rw [decide_eq_false (by omega), cond_false, law30_awake_true]
          rfl
      rw [hL, hany]
      rfl
    · rw [decide_eq_false h20]
      simp

end Go.Win

