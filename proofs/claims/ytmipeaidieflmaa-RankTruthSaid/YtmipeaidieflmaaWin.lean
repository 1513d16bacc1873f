/- The functions of the program and of the statements, as functions on plain data: made by program out of the translated code. -/
import Derived.Test.YtmipeaidieflmaaVc
set_option linter.unusedVariables false
namespace Go.Win
open Go.Vc Go.Dec

structure api_Ratio where
  Num : Int
  Den : Int
  deriving Inhabited
def enc_api_Ratio (p : api_Ratio) : List AV := [.int .i64 p.Num, .int .i64 p.Den]
def wf_api_Ratio (p : api_Ratio) : Prop := (wfI .i64) p.Num ∧ (wfI .i64) p.Den
def wfU_api_Ratio (p : api_Ratio) : Prop := (wfI .i64) p.Num ∧ (wfI .i64) p.Den

structure api_Bounds where
  Lo : api_Ratio
  Est : api_Ratio
  Hi : api_Ratio
  deriving Inhabited
def enc_api_Bounds (p : api_Bounds) : List AV := [.int .i64 p.Lo.Num, .int .i64 p.Lo.Den, .int .i64 p.Est.Num, .int .i64 p.Est.Den, .int .i64 p.Hi.Num, .int .i64 p.Hi.Den]
def wf_api_Bounds (p : api_Bounds) : Prop := wf_api_Ratio p.Lo ∧ wf_api_Ratio p.Est ∧ wf_api_Ratio p.Hi
def wfU_api_Bounds (p : api_Bounds) : Prop := wfU_api_Ratio p.Lo ∧ wfU_api_Ratio p.Est ∧ wfU_api_Ratio p.Hi

structure api_Entry where
  V : Int
  Min : Int
  Max : Int
  deriving Inhabited
def enc_api_Entry (p : api_Entry) : List AV := [.int .i64 p.V, .int .i64 p.Min, .int .i64 p.Max]
def wf_api_Entry (p : api_Entry) : Prop := (wfI .i64) p.V ∧ (wfI .i64) p.Min ∧ (wfI .i64) p.Max
def wfU_api_Entry (p : api_Entry) : Prop := (wfI .i64) p.V ∧ (wfI .i64) p.Min ∧ (wfI .i64) p.Max

structure api_Item where
  T : Int
  V : Int
  deriving Inhabited
def enc_api_Item (p : api_Item) : List AV := [.int .i64 p.T, .int .i64 p.V]
def wf_api_Item (p : api_Item) : Prop := (wfI .i64) p.T ∧ (wfI .i64) p.V
def wfU_api_Item (p : api_Item) : Prop := (wfI .i64) p.T ∧ (wfI .i64) p.V

structure api_Ranks where
  N : Int
  Entries : (List api_Entry)
  deriving Inhabited
def enc_api_Ranks (p : api_Ranks) : List AV := [.int .i64 p.N, .lst 3 false (List.map enc_api_Entry p.Entries)]
def wf_api_Ranks (p : api_Ranks) : Prop := (wfI .i64) p.N ∧ (wfL wf_api_Entry) p.Entries
def wfU_api_Ranks (p : api_Ranks) : Prop := (wfI .i64) p.N ∧ (wfLU wfU_api_Entry) p.Entries

structure api_Wide where
  Hi : Int
  Lo : Int
  deriving Inhabited
def enc_api_Wide (p : api_Wide) : List AV := [.int .u64 p.Hi, .int .u64 p.Lo]
def wf_api_Wide (p : api_Wide) : Prop := (wfI .u64) p.Hi ∧ (wfI .u64) p.Lo
def wfU_api_Wide (p : api_Wide) : Prop := (wfI .u64) p.Hi ∧ (wfI .u64) p.Lo

noncomputable def ratio_Of (p0 : Int) : api_Ratio :=
  (api_Ratio.mk p0 (1:Int))

noncomputable def bounds_Whole (p0 : Int) (p1 : Int) : (api_Bounds × Bool) :=
  cond (decide (p0 > p1)) (
    ((api_Bounds.mk (api_Ratio.mk (0:Int) (0:Int)) (api_Ratio.mk (0:Int) (0:Int)) (api_Ratio.mk (0:Int) (0:Int))), false)) <|
  let a := (ratio_Of p0);
  let b := (ratio_Of (w64 ((iand .i64 p0 p1) + (ishr .i64 (ixor .i64 p0 p1) (1:Int)))));
  let c := (ratio_Of p1);
  ((api_Bounds.mk a b c), true)

noncomputable def exact_Below_l2s (p0 : (List api_Item)) (p1 : Int) (b : Int) (a : Int) : Option ((Int × Int) ⊕ Int) :=
  cond (decide (a < (p0.length : Int))) (
    Option.bind (idx p0 a) fun c =>
    cond (decide (c.V < p1)) (
      some (.inl ((w64 (b + (1:Int))), (w64 (a + (1:Int)))))) <|
    some (.inl (b, (w64 (a + (1:Int)))))) <|
  Option.map Sum.inr (some b)

noncomputable def exact_Below_l2 (p0 : (List api_Item)) (p1 : Int) (b : Int) (a : Int) : Option Int :=
  loop (fun (s : (Int × Int)) => exact_Below_l2s p0 p1 s.1 s.2) (b, a)

noncomputable def exact_Below (p0 : (List api_Item)) (p1 : Int) : Option Int :=
  exact_Below_l2 p0 p1 (0:Int) (0:Int)

noncomputable def exact_Rank_l2s (p0 : (List api_Item)) (p1 : Int) (b : Int) (a : Int) : Option ((Int × Int) ⊕ Int) :=
  cond (decide (a < (p0.length : Int))) (
    Option.bind (idx p0 a) fun c =>
    cond (decide (c.V ≤ p1)) (
      some (.inl ((w64 (b + (1:Int))), (w64 (a + (1:Int)))))) <|
    some (.inl (b, (w64 (a + (1:Int)))))) <|
  Option.map Sum.inr (some b)

noncomputable def exact_Rank_l2 (p0 : (List api_Item)) (p1 : Int) (b : Int) (a : Int) : Option Int :=
  loop (fun (s : (Int × Int)) => exact_Rank_l2s p0 p1 s.1 s.2) (b, a)

noncomputable def exact_Rank (p0 : (List api_Item)) (p1 : Int) : Option Int :=
  exact_Rank_l2 p0 p1 (0:Int) (0:Int)

noncomputable def rank_Of_l3s (p0 : (List Int)) (a : Int) (b : (List api_Entry)) : Option ((Int × (List api_Entry)) ⊕ (api_Ranks × Int)) :=
  cond (decide (a < ((sortZ p0).length : Int))) (
    Option.bind (idx (sortZ p0) a) fun d =>
    Option.bind (idx (sortZ p0) a) fun c =>
    ck (decide ((b.length + [(api_Entry.mk c (w64 (a + (1:Int))) (w64 (a + (1:Int))))].length) * 24 ≤ 140737488355328)) <|
    some (.inl ((w64 (a + (1:Int))), (b ++ [(api_Entry.mk c (w64 (a + (1:Int))) (w64 (a + (1:Int))))])))) <|
  Option.map Sum.inr (some ((api_Ranks.mk ((sortZ p0).length : Int) b), (0:Int)))


noncomputable def rank_Of_l3 (p0 : (List Int)) (b : Int) (a : (List api_Entry)) : Option (api_Ranks × Int) :=
  loop (fun (s : (Int × (List api_Entry))) => rank_Of_l3s p0 s.1 s.2) (b, a)


noncomputable def rank_Of (p0 : (List Int)) : Option (api_Ranks × Int) :=
  cond (decide ((p0.length : Int) > (65536:Int))) (
    some ((api_Ranks.mk (0:Int) ([] : List api_Entry)), (5:Int))) <|
  ck (decide (p0.length * 8 ≤ 140737488355328)) <|
  ck (decide (p0.length < 4611686018427387904)) <|
  rank_Of_l3 p0 (0:Int) ([] : List api_Entry)

noncomputable def law21_awake : Option Bool :=
  Option.bind (rank_Of [(3:Int), (1:Int)]) fun a =>
  Option.bind (gd (((a.2 == (0:Int)) && (a.1.N == (2:Int))) && ((a.1.Entries.length : Int) == (2:Int))) (idx a.1.Entries (0:Int))) fun b =>
  some ((((a.2 == (0:Int)) && (a.1.N == (2:Int))) && ((a.1.Entries.length : Int) == (2:Int))) && (b.V == (1:Int)))

noncomputable def rank_Validate_l3s (p0 : api_Ranks) (a : Int) : Option (Int ⊕ Int) :=
  cond (decide (a < (p0.Entries.length : Int))) (
    Option.bind (idx p0.Entries a) fun b =>
    cond (((decide (b.Min < (1:Int))) || (decide (b.Min > b.Max))) || (decide (b.Max > p0.N))) (
      some (.inr (2:Int))) <|
    cond (decide (a > (0:Int))) (
      Option.bind (idx p0.Entries (w64 (a - (1:Int)))) fun c =>
      cond (((decide (c.V > b.V)) || (decide (c.Min ≥ b.Min))) || (decide (c.Max ≥ b.Max))) (
        some (.inr (2:Int))) <|
      some (.inl (w64 (a + (1:Int))))) <|
    some (.inl (w64 (a + (1:Int))))) <|
  Option.map Sum.inr (Option.bind (gd (decide ((p0.Entries.length : Int) > (0:Int))) (idx p0.Entries (0:Int))) fun d =>
  Option.bind (gd ((decide ((p0.Entries.length : Int) > (0:Int))) && (!(d.Max != (1:Int)))) (idx p0.Entries (w64 ((p0.Entries.length : Int) - (1:Int))))) fun e =>
  cond ((decide ((p0.Entries.length : Int) > (0:Int))) && ((d.Max != (1:Int)) || (e.Min != p0.N))) (
    some (2:Int)) <|
  some (0:Int))


noncomputable def rank_Validate_l3 (p0 : api_Ranks) (a : Int) : Option Int :=
  loop (fun (s : Int) => rank_Validate_l3s p0 s) a


noncomputable def rank_Validate (p0 : api_Ranks) : Option Int :=
  cond (((decide (p0.N < (0:Int))) || (decide (p0.N > (1099511627776:Int)))) || (!(((p0.Entries.length : Int) == (0:Int)) == (p0.N == (0:Int))))) (
    some (2:Int)) <|
  rank_Validate_l3 p0 (0:Int)

noncomputable def rank_between_j1 (p0 : api_Entry) (p1 : (List api_Entry)) (p2 : Int) (p3 : Int) (a : Int) : Option api_Entry :=
  cond (decide (p2 < (p1.length : Int))) (
    Option.bind (idx p1 p2) fun b =>
    some (api_Entry.mk p0.V a (w64 (p0.Max + (w64 (b.Max - (1:Int))))))) <|
  some (api_Entry.mk p0.V a (w64 (p0.Max + p3)))


noncomputable def rank_between (p0 : api_Entry) (p1 : (List api_Entry)) (p2 : Int) (p3 : Int) : Option api_Entry :=
  cond (decide (p2 > (0:Int))) (
    Option.bind (idx p1 (w64 (p2 - (1:Int)))) fun a =>
    rank_between_j1 p0 p1 p2 p3 (w64 (p0.Min + a.Min))) <|
  rank_between_j1 p0 p1 p2 p3 p0.Min

noncomputable def rank_copied (p0 : api_Ranks) : Option api_Ranks :=
  ck (decide ((([] : List api_Entry).length + p0.Entries.length) * 24 ≤ 140737488355328)) <|
  some (api_Ranks.mk p0.N (([] : List api_Entry) ++ p0.Entries))

noncomputable def rank_Merge_j10 (b : (List api_Entry)) (c : Int) (d : Int) (a : api_Entry) : Option ((Int × Int × (List api_Entry)) ⊕ (api_Ranks × Int)) :=
  ck (decide ((b.length + [a].length) * 24 ≤ 140737488355328)) <|
  some (.inl (c, d, (b ++ [a])))


noncomputable def rank_Merge_l7s (p0 : api_Ranks) (p1 : api_Ranks) (a : Int) (b : Int) (c : (List api_Entry)) : Option ((Int × Int × (List api_Entry)) ⊕ (api_Ranks × Int)) :=
  cond ((decide (a < (p0.Entries.length : Int))) || (decide (b < (p1.Entries.length : Int)))) (
    Option.bind (gd ((!(b == (p1.Entries.length : Int))) && (decide (a < (p0.Entries.length : Int)))) (idx p0.Entries a)) fun d =>
    Option.bind (gd ((!(b == (p1.Entries.length : Int))) && (decide (a < (p0.Entries.length : Int)))) (idx p1.Entries b)) fun e =>
    cond ((b == (p1.Entries.length : Int)) || ((decide (a < (p0.Entries.length : Int))) && (decide (d.V ≤ e.V)))) (
      Option.bind (idx p0.Entries a) fun f =>
      Option.bind (rank_between f p1.Entries b p1.N) fun g =>
      rank_Merge_j10 c (w64 (a + (1:Int))) b g) <|
    Option.bind (idx p1.Entries b) fun h =>
    Option.bind (rank_between h p0.Entries a p0.N) fun i =>
    rank_Merge_j10 c a (w64 (b + (1:Int))) i) <|
  Option.map Sum.inr (some ((api_Ranks.mk (w64 (p0.N + p1.N)) c), (0:Int)))


noncomputable def rank_Merge_l7 (p0 : api_Ranks) (p1 : api_Ranks) (b : Int) (c : Int) (a : (List api_Entry)) : Option (api_Ranks × Int) :=
  loop (fun (s : (Int × Int × (List api_Entry))) => rank_Merge_l7s p0 p1 s.1 s.2.1 s.2.2) (b, c, a)


noncomputable def rank_Merge (p0 : api_Ranks) (p1 : api_Ranks) : Option (api_Ranks × Int) :=
  Option.bind (rank_Validate p0) fun a =>
  cond (a != (0:Int)) (
    some ((api_Ranks.mk (0:Int) ([] : List api_Entry)), a)) <|
  Option.bind (rank_Validate p1) fun b =>
  cond (b != (0:Int)) (
    some ((api_Ranks.mk (0:Int) ([] : List api_Entry)), b)) <|
  cond (decide (p0.N > (w64 ((1099511627776:Int) - p1.N)))) (
    some ((api_Ranks.mk (0:Int) ([] : List api_Entry)), (5:Int))) <|
  cond (p0.N == (0:Int)) (
    Option.bind (rank_copied p1) fun c =>
    some (c, (0:Int))) <|
  cond (p1.N == (0:Int)) (
    Option.bind (rank_copied p0) fun d =>
    some (d, (0:Int))) <|
  rank_Merge_l7 p0 p1 (0:Int) (0:Int) ([] : List api_Entry)

noncomputable def rank_far (p0 : api_Entry) (p1 : Int) : Int :=
  (imax (w64 (p1 - p0.Min)) (w64 (p0.Max - p1)))

noncomputable def rank_place_l2s (p0 : (List api_Entry)) (p1 : Int) (a : Int) : Option (Int ⊕ Int) :=
  Option.bind (gd (decide ((w64 (a + (1:Int))) < (p0.length : Int))) (idx p0 (w64 (a + (1:Int))))) fun e =>
  let b := (rank_far e p1);
  Option.bind (gd (decide ((w64 (a + (1:Int))) < (p0.length : Int))) (idx p0 a)) fun c =>
  let d := (rank_far c p1);
  cond ((decide ((w64 (a + (1:Int))) < (p0.length : Int))) && (decide (b < d))) (
    some (.inl (w64 (a + (1:Int))))) <|
  Option.map Sum.inr (some a)


noncomputable def rank_place_l2 (p0 : (List api_Entry)) (p1 : Int) (a : Int) : Option Int :=
  loop (fun (s : Int) => rank_place_l2s p0 p1 s) a


noncomputable def rank_place (p0 : (List api_Entry)) (p1 : Int) (p2 : Int) : Option Int :=
  rank_place_l2 p0 p1 p2

noncomputable def rank_Prune_l5s (p0 : api_Ranks) (p1 : Int) (e : Int) (f : Int) (c : Int) (a : (List api_Entry)) : Option ((Int × Int × Int × (List api_Entry)) ⊕ (api_Ranks × Int)) :=
  cond (decide (c ≤ p1)) (
    ck (decide (p1 ≠ 0)) <|
    Option.bind (rank_place p0.Entries (w64 ((1:Int) + (w64 (Int.tdiv (w64 (c * (w64 (p0.N - (1:Int))))) p1)))) f) fun b =>
    cond (b != e) (
      Option.bind (idx p0.Entries b) fun d =>
      ck (decide ((a.length + [d].length) * 24 ≤ 140737488355328)) <|
      some (.inl (b, b, (w64 (c + (1:Int))), (a ++ [d])))) <|
    some (.inl (e, b, (w64 (c + (1:Int))), a))) <|
  Option.map Sum.inr (some ((api_Ranks.mk p0.N a), (0:Int)))


noncomputable def rank_Prune_l5 (p0 : api_Ranks) (p1 : Int) (c : Int) (d : Int) (b : Int) (a : (List api_Entry)) : Option (api_Ranks × Int) :=
  loop (fun (s : (Int × Int × Int × (List api_Entry))) => rank_Prune_l5s p0 p1 s.1 s.2.1 s.2.2.1 s.2.2.2) (c, d, b, a)


noncomputable def rank_Prune (p0 : api_Ranks) (p1 : Int) : Option (api_Ranks × Int) :=
  Option.bind (rank_Validate p0) fun a =>
  cond (a != (0:Int)) (
    some ((api_Ranks.mk (0:Int) ([] : List api_Entry)), a)) <|
  cond ((decide (p1 < (1:Int))) || (decide (p1 > (65536:Int)))) (
    some ((api_Ranks.mk (0:Int) ([] : List api_Entry)), (1:Int))) <|
  cond (decide ((p0.Entries.length : Int) ≤ (w64 (p1 + (1:Int))))) (
    Option.bind (rank_copied p0) fun b =>
    some (b, (0:Int))) <|
  rank_Prune_l5 p0 p1 (-1:Int) (0:Int) (0:Int) ([] : List api_Entry)

noncomputable def law21_tree (fu : Nat) (p0 : (List Int)) (p1 : Int) : Option (api_Ranks × Bool) := match fu with
  | 0 => none
  | fu + 1 =>
  cond (decide ((p0.length : Int) ≤ (2:Int))) (
    Option.bind (rank_Of p0) fun a =>
    some (a.1, (a.2 == (0:Int)))) <|
  ck (decide (0 ≤ (w64 (Int.tdiv (p0.length : Int) (2:Int))) ∧ (w64 (Int.tdiv (p0.length : Int) (2:Int))) ≤ (p0.length : Int))) <|
  Option.bind (law21_tree fu (p0.take ((w64 (Int.tdiv (p0.length : Int) (2:Int)))).toNat) p1) fun b =>
  ck (decide (0 ≤ (w64 (Int.tdiv (p0.length : Int) (2:Int))) ∧ (w64 (Int.tdiv (p0.length : Int) (2:Int))) ≤ (p0.length : Int))) <|
  Option.bind (law21_tree fu (p0.drop ((w64 (Int.tdiv (p0.length : Int) (2:Int)))).toNat) p1) fun c =>
  Option.bind (rank_Merge b.1 c.1) fun d =>
  Option.bind (rank_Prune d.1 p1) fun e =>
  some (e.1, (((b.2 && c.2) && (d.2 == (0:Int))) && (e.2 == (0:Int))))

noncomputable def made_Mod (p0 : Int) (p1 : Int) : Option Int :=
  ck (decide (p1 ≠ 0)) <|
  cond (decide ((Int.tmod p0 p1) < (0:Int))) (
    some (w64 ((Int.tmod p0 p1) + p1))) <|
  some (Int.tmod p0 p1)

noncomputable def made_Int (p0 : Int) (p1 : Int) : Option Int :=
  Option.bind (made_Mod p0 p1) fun a =>
  some a

noncomputable def made_Value (p0 : Int) : Option Int :=
  Option.bind (made_Mod p0 (8:Int)) fun a =>
  cond (a == (0:Int)) (
    Option.bind (made_Mod (w64 (Int.tdiv p0 (8:Int))) (8193:Int)) fun b =>
    some (w64 (b - (4096:Int)))) <|
  cond (a == (1:Int)) (
    Option.bind (made_Mod (w64 (Int.tdiv p0 (8:Int))) (2:Int)) fun c =>
    some (w64 ((4096:Int) * (w64 ((w64 ((2:Int) * c)) - (1:Int)))))) <|
  Option.bind (made_Mod (w64 (Int.tdiv p0 (8:Int))) (13:Int)) fun d =>
  some (w64 (d - (6:Int)))

noncomputable def rank_Rank_j2 (b : Int) (c : Int) : Option (api_Bounds × Int) :=
  let a := (bounds_Whole b c);
  some (a.1, (0:Int))


noncomputable def rank_Rank_l3s (p0 : api_Ranks) (p1 : Int) (c : Int) (a : Int) : Option ((Int × Int) ⊕ (api_Bounds × Int)) :=
  cond (decide (a < (p0.Entries.length : Int))) (
    Option.bind (idx p0.Entries a) fun b =>
    cond (decide (b.V > p1)) (
      Option.map Sum.inr (rank_Rank_j2 c (w64 (b.Max - (1:Int))))) <|
    some (.inl (b.Min, (w64 (a + (1:Int)))))) <|
  Option.map Sum.inr (rank_Rank_j2 c p0.N)


noncomputable def rank_Rank_l3 (p0 : api_Ranks) (p1 : Int) (b : Int) (a : Int) : Option (api_Bounds × Int) :=
  loop (fun (s : (Int × Int)) => rank_Rank_l3s p0 p1 s.1 s.2) (b, a)


noncomputable def rank_Rank (p0 : api_Ranks) (p1 : Int) : Option (api_Bounds × Int) :=
  Option.bind (rank_Validate p0) fun a =>
  cond (a != (0:Int)) (
    some ((api_Bounds.mk (api_Ratio.mk (0:Int) (0:Int)) (api_Ratio.mk (0:Int) (0:Int)) (api_Ratio.mk (0:Int) (0:Int))), a)) <|
  rank_Rank_l3 p0 p1 (0:Int) (0:Int)

noncomputable def ref08_Below_l2s (p0 : (List api_Item)) (p1 : Int) (b : Int) (a : Int) : Option ((Int × Int) ⊕ Int) :=
  cond (decide (a < (p0.length : Int))) (
    Option.bind (idx p0 a) fun c =>
    cond (decide (c.V < p1)) (
      some (.inl ((w64 (b + (1:Int))), (w64 (a + (1:Int)))))) <|
    some (.inl (b, (w64 (a + (1:Int)))))) <|
  Option.map Sum.inr (some b)


noncomputable def ref08_Below_l2 (p0 : (List api_Item)) (p1 : Int) (b : Int) (a : Int) : Option Int :=
  loop (fun (s : (Int × Int)) => ref08_Below_l2s p0 p1 s.1 s.2) (b, a)


noncomputable def ref08_Below (p0 : (List api_Item)) (p1 : Int) : Option Int :=
  ref08_Below_l2 p0 p1 (0:Int) (0:Int)

noncomputable def ref08_Rank_l2s (p0 : (List api_Item)) (p1 : Int) (b : Int) (a : Int) : Option ((Int × Int) ⊕ Int) :=
  cond (decide (a < (p0.length : Int))) (
    Option.bind (idx p0 a) fun c =>
    cond (decide (c.V ≤ p1)) (
      some (.inl ((w64 (b + (1:Int))), (w64 (a + (1:Int)))))) <|
    some (.inl (b, (w64 (a + (1:Int)))))) <|
  Option.map Sum.inr (some b)


noncomputable def ref08_Rank_l2 (p0 : (List api_Item)) (p1 : Int) (b : Int) (a : Int) : Option Int :=
  loop (fun (s : (Int × Int)) => ref08_Rank_l2s p0 p1 s.1 s.2) (b, a)


noncomputable def ref08_Rank (p0 : (List api_Item)) (p1 : Int) : Option Int :=
  ref08_Rank_l2 p0 p1 (0:Int) (0:Int)

noncomputable def law21_RankTruth_l7s (p2 : Int) (e : (List api_Item)) (f : (api_Ranks × Bool)) (d : Int) : Option (Int ⊕ Bool) :=
  cond (decide (d < (f.1.Entries.length : Int))) (
    Option.bind (idx f.1.Entries d) fun b =>
    Option.bind (ref08_Below e b.V) fun g =>
    Option.bind (ref08_Rank e b.V) fun h =>
    cond (((decide ((w64 (g + (1:Int))) > h)) || (decide ((w64 (g + (1:Int))) > b.Max))) || (decide (h < b.Min))) (
      some (.inr false)) <|
    some (.inl (w64 (d + (1:Int))))) <|
  Option.map Sum.inr (Option.bind (rank_Rank f.1 p2) fun a =>
  Option.bind (ref08_Rank e p2) fun c =>
  Option.bind (gd (((a.2 == (0:Int)) && (decide (a.1.Lo.Num ≤ c))) && (decide (c ≤ a.1.Hi.Num))) law21_awake) fun i =>
  some ((((a.2 == (0:Int)) && (decide (a.1.Lo.Num ≤ c))) && (decide (c ≤ a.1.Hi.Num))) && i))


noncomputable def law21_RankTruth_l7 (p2 : Int) (b : (List api_Item)) (c : (api_Ranks × Bool)) (a : Int) : Option Bool :=
  loop (fun (s : Int) => law21_RankTruth_l7s p2 b c s) a


noncomputable def law21_RankTruth_l2s (p0 : (List Int)) (p2 : Int) (i : Int) (b : (List Int)) (d : (List api_Item)) (c : Int) : Option (((List Int) × (List api_Item) × Int) ⊕ Bool) :=
  cond ((decide (c < (p0.length : Int))) && (decide (c < (150:Int)))) (
    Option.bind (idx p0 c) fun j =>
    Option.bind (made_Value j) fun f =>
    ck (decide ((b.length + [f].length) * 8 ≤ 140737488355328)) <|
    Option.bind (idx p0 c) fun g =>
    Option.bind (made_Value g) fun e =>
    ck (decide ((d.length + [(api_Item.mk (0:Int) e)].length) * 16 ≤ 140737488355328)) <|
    some (.inl ((b ++ [f]), (d ++ [(api_Item.mk (0:Int) e)]), (w64 (c + (1:Int)))))) <|
  Option.map Sum.inr (Option.bind (law21_tree 200 b (w64 ((1:Int) + i))) fun a =>
  Option.bind (gd (!((!a.2) || (a.1.N != (b.length : Int)))) (rank_Validate a.1)) fun h =>
  cond (((!a.2) || (a.1.N != (b.length : Int))) || (h != (0:Int))) (
    some false) <|
  law21_RankTruth_l7 p2 d a (0:Int))


noncomputable def law21_RankTruth_l2 (p0 : (List Int)) (p2 : Int) (a : Int) (b : (List Int)) (c : (List api_Item)) (d : Int) : Option Bool :=
  loop (fun (s : ((List Int) × (List api_Item) × Int)) => law21_RankTruth_l2s p0 p2 a s.1 s.2.1 s.2.2) (b, c, d)


noncomputable def law21_RankTruth (p0 : (List Int)) (p1 : Int) (p2 : Int) : Option Bool :=
  Option.bind (made_Int p1 (20:Int)) fun a =>
  law21_RankTruth_l2 p0 p2 a ([] : List Int) ([] : List api_Item) (0:Int)

noncomputable def ref09_Value (p0 : Int) : Bool :=
  ((decide (p0 ≥ (-4096:Int))) && (decide (p0 ≤ (4096:Int))))

noncomputable def ref20_For_l2s (p0 : (List api_Entry)) (p1 : Int) (b : Int) (a : Int) : Option ((Int × Int) ⊕ Int) :=
  cond (decide (a < (p0.length : Int))) (
    Option.bind (idx p0 a) fun c =>
    Option.bind (idx p0 b) fun d =>
    Option.bind (idx p0 b) fun e =>
    cond (decide ((imax (w64 (p1 - c.Min)) (w64 (c.Max - p1))) < (imax (w64 (p1 - d.Min)) (w64 (e.Max - p1))))) (
      some (.inl (a, (w64 (a + (1:Int)))))) <|
    some (.inl (b, (w64 (a + (1:Int)))))) <|
  Option.map Sum.inr (some b)

noncomputable def ref20_For_l2 (p0 : (List api_Entry)) (p1 : Int) (b : Int) (a : Int) : Option Int :=
  loop (fun (s : (Int × Int)) => ref20_For_l2s p0 p1 s.1 s.2) (b, a)

noncomputable def ref20_For (p0 : (List api_Entry)) (p1 : Int) : Option Int :=
  ref20_For_l2 p0 p1 (0:Int) (0:Int)

end Go.Win
