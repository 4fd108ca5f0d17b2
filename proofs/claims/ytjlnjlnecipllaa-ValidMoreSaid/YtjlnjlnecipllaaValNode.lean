/- Plain lemmas: which nodes may be, by the program. No program in sight. -/
import Derived.Test.YtjlnjlnecipllaaGra
import Derived.Test.YtjlnjlnecipllaaPAllx2
import Derived.Test.YtjlnjlnecipllaaPAllx1
import Derived.Test.YtjlnjlnecipllaaPAllx1
import Derived.Test.YtjlnjlnecipllaaPAllx1
namespace Go.Proofs.Ytjlnjlnecipllaa.Pure
open Go.RowKit Go.Proofs.Ytjlnjlnecipllaa.PAll Go.Proofs.YtjlnjlnecipllaaW.PrintWords Go.Proofs.YtjlnjlnecipllaaW.PrintLast Go.Proofs.YtjlnjlnecipllaaW.PrintMore
set_option linter.unusedVariables false
set_option linter.unusedSimpArgs false

/-- May a node of a kind be? -/
def kindP (k a b d : Int) : Prop :=
  if k = 1 ∨ k = 11 then a = 0 ∧ b = 0 ∧ d = 0 else
  if k = 2 then 1 ≤ a ∧ a ≤ 5 ∧ -1000 ≤ b ∧ b ≤ 1000 ∧ (a = 3 → 1 ≤ b) else
  if k = 3 then 1 ≤ a ∧ a ≤ 4 ∧ -1000 ≤ b ∧ b ≤ 1000 ∧ (a = 3 → 1 ≤ b) else
  if k = 4 ∨ k = 5 then a = 0 ∧ b = 0 else
  if k = 6 then 1 ≤ a ∧ a ≤ 4 ∧ b = 0 else
  if k = 7 then 1 ≤ a ∧ a ≤ 20 ∧ 1 ≤ b ∧ b ≤ a ∧ d = 0 else
  if k = 8 then a = 0 ∧ b = 0 ∧ 0 < d else
  if k = 9 then a = 0 ∧ b = 0 ∧ d < 3 else
  if k = 10 then b = 0 ∧ 1 ≤ a ∧ a ≤ 6 ∧ 0 < d else False
def nodeP (k a b d : Int) : Prop := 0 ≤ d ∧ d ≤ 3 ∧ kindP k a b d
instance (k a b d : Int) : Decidable (kindP k a b d) := by unfold kindP; infer_instance
instance (k a b d : Int) : Decidable (nodeP k a b d) := by unfold nodeP; infer_instance
theorem small_s (b : Int) (c : Bool) : fn_small.f b c = some (decide (-1000 ≤ b ∧ b ≤ 1000 ∧ (c = true → 1 ≤ b))) := by
  unfold fn_small.f
  by_cases h1 : b ≥ -1000
  · rw [if_pos h1]
    by_cases h2 : b ≤ 1000
    · rw [if_pos h2]
      cases c with
      | true => rw [if_pos rfl]; congr 1; rw [decide_eq_decide]; exact ⟨fun h => ⟨h1, h2, fun _ => h⟩, fun h => h.2.2 rfl⟩
      | false => rw [if_neg (by simp)]; congr 1; symm; rw [decide_eq_true_eq]; exact ⟨h1, h2, fun h => by cases h⟩
    · rw [if_neg h2]; congr 1; symm; rw [decide_eq_false_iff_not]; exact fun h => h2 h.2.1
  · rw [if_neg h1]; congr 1; symm; rw [decide_eq_false_iff_not]; exact fun h => h1 h.1
theorem mayMap_s (a b : Int) : fn_MayMap.f a b = some (decide (1 ≤ a ∧ a ≤ 5 ∧ -1000 ≤ b ∧ b ≤ 1000 ∧ (a = 3 → 1 ≤ b))) := by
  unfold fn_MayMap.f
  rw [small_s]
  simp only [Option.bind_some, beq_iff_eq]
  repeat' split
  all_goals simp only [Option.some.injEq]; first | (rw [decide_eq_decide]; omega) | (symm; rw [decide_eq_false_iff_not]; omega)
theorem mayFilter_s (a b : Int) : fn_MayFilter.f a b = some (decide (1 ≤ a ∧ a ≤ 4 ∧ -1000 ≤ b ∧ b ≤ 1000 ∧ (a = 3 → 1 ≤ b))) := by
  unfold fn_MayFilter.f
  rw [small_s]
  simp only [Option.bind_some, beq_iff_eq]
  repeat' split
  all_goals simp only [Option.some.injEq]; first | (rw [decide_eq_decide]; omega) | (symm; rw [decide_eq_false_iff_not]; omega)
theorem within_s (x l m : Int) : window_within.f x l m = some (decide (l ≤ x ∧ x ≤ m)) := by
  unfold window_within.f
  split
  all_goals simp only [Option.some.injEq]; first | (rw [decide_eq_decide]; omega) | (symm; rw [decide_eq_false_iff_not]; omega)
theorem mayWin_s (a b : Int) : window_May.f a b = some (decide (1 ≤ a ∧ a ≤ 20 ∧ 1 ≤ b ∧ b ≤ a)) := by
  unfold window_May.f
  rw [within_s, within_s]
  simp only [Option.bind_some, decide_eq_true_eq]
  split
  all_goals simp only [Option.some.injEq]; first | (rw [decide_eq_decide]; omega) | (symm; rw [decide_eq_false_iff_not]; omega)
theorem bool_eq {p q : Prop} [Decidable p] [Decidable q] (h : p ↔ q) : decide p = decide q := decide_eq_decide.2 h
theorem node_j3 (k a b d : Int) (x3 : Bool) (h3 : x3 = true ↔ a = 0 ∧ b = 0) (h0 : 0 ≤ d) (h1 : d ≤ 3) (n1 : ¬ (k = 1 ∨ k = 11)) (n2 : k ≠ 2) (n3 : k ≠ 3) (x45 : Bool) (h45 : x45 = true ↔ k = 4 ∨ k = 5) : Ev (fun n => valid_Node.j3 n x3 k x45 k a b d) (decide (nodeP k a b d)) := by
  have e : nodeP k a b d ↔ (if k = 4 ∨ k = 5 then a = 0 ∧ b = 0 else if k = 6 then 1 ≤ a ∧ a ≤ 4 ∧ b = 0 else if k = 7 then 1 ≤ a ∧ a ≤ 20 ∧ 1 ≤ b ∧ b ≤ a ∧ d = 0 else if k = 8 then a = 0 ∧ b = 0 ∧ 0 < d else if k = 9 then a = 0 ∧ b = 0 ∧ d < 3 else if k = 10 then b = 0 ∧ 1 ≤ a ∧ a ≤ 6 ∧ 0 < d else False) := by
    unfold nodeP kindP
    rw [if_neg n1, if_neg n2, if_neg n3]
    exact ⟨fun h => h.2.2, fun h => ⟨h0, h1, h⟩⟩
  rw [bool_eq e]
  refine Ev.step (fun n => valid_Node.j3.eq_2 _ _ _ _ _ _ _ n) ?_
  by_cases c : x45 = true
  · refine ev_pos c (ev_some ?_)
    simp only [if_pos (h45.1 c)]
    rw [Bool.eq_iff_iff, h3, decide_eq_true_eq]
  refine ev_neg c ?_
  simp only [if_neg (show ¬ (k = 4 ∨ k = 5) from fun h => c (h45.2 h))]
  by_cases c6 : k = 6
  · simp only [if_pos c6]
    refine ev_bind (show fn_MayReduce.f a = some (decide (1 ≤ a ∧ a ≤ 4)) from rfl) ?_
    by_cases q : 1 ≤ a ∧ a ≤ 4
    · refine ev_pos (decide_eq_true q) (ev_some ?_)
      rw [Bool.eq_iff_iff, beq_iff_eq, decide_eq_true_eq]; omega
    · refine ev_neg (by simpa using q) (ev_some (decide_eq_false ?_).symm); omega
  simp only [if_neg c6]
  by_cases c7 : k = 7
  · simp only [if_pos c7]
    refine ev_bind (mayWin_s a b) ?_
    by_cases q : 1 ≤ a ∧ a ≤ 20 ∧ 1 ≤ b ∧ b ≤ a
    · refine ev_pos (decide_eq_true q) (ev_some ?_)
      rw [Bool.eq_iff_iff, beq_iff_eq, decide_eq_true_eq]; omega
    · refine ev_neg (by simpa using q) (ev_some (decide_eq_false ?_).symm); omega
  simp only [if_neg c7]
  by_cases c8 : k = 8
  · simp only [if_pos c8]
    by_cases q : x3 = true
    · have := h3.1 q
      refine ev_pos q (ev_some (bool_eq ?_)); omega
    · have q' : ¬ (a = 0 ∧ b = 0) := fun h => q (h3.2 h)
      refine ev_neg q (ev_some (decide_eq_false ?_).symm); omega
  simp only [if_neg c8]
  by_cases c9 : k = 9
  · simp only [if_pos c9]
    by_cases q : x3 = true
    · have := h3.1 q
      refine ev_pos q (ev_some (bool_eq ?_)); omega
    · have q' : ¬ (a = 0 ∧ b = 0) := fun h => q (h3.2 h)
      refine ev_neg q (ev_some (decide_eq_false ?_).symm); omega
  simp only [if_neg c9]
  by_cases c10 : k = 10
  · simp only [if_pos c10]
    by_cases q1 : b = 0
    · refine ev_pos q1 ?_
      by_cases q2 : a ≥ 1
      · refine ev_pos q2 ?_
        by_cases q3 : a ≤ 6
        · refine ev_pos q3 (ev_some (bool_eq ?_)); omega
        · refine ev_neg q3 (ev_some (decide_eq_false ?_).symm); omega
      · refine ev_neg q2 (ev_some (decide_eq_false ?_).symm); omega
    · refine ev_neg q1 (ev_some (decide_eq_false ?_).symm); omega
  · simp only [if_neg c10]
    exact ev_some (decide_eq_false (fun h => h)).symm
theorem node_j2 (k a b d : Int) (x3 : Bool) (h3 : x3 = true ↔ a = 0 ∧ b = 0) (h0 : 0 ≤ d) (h1 : d ≤ 3) (x22 : Bool) (h22 : x22 = true ↔ k = 1 ∨ k = 11) : Ev (fun n => valid_Node.j2 n x3 k x22 k a b d) (decide (nodeP k a b d)) := by
  refine Ev.step (fun n => valid_Node.j2.eq_2 _ _ _ _ _ _ _ n) ?_
  by_cases c : x22 = true
  · have hk := h22.1 c
    have e : nodeP k a b d ↔ a = 0 ∧ b = 0 ∧ d = 0 := by unfold nodeP kindP; rw [if_pos hk]; omega
    rw [bool_eq e]
    refine ev_pos c ?_
    by_cases q : x3 = true
    · have := h3.1 q
      refine ev_pos q (ev_some ?_)
      rw [Bool.eq_iff_iff, beq_iff_eq, decide_eq_true_eq]; omega
    · have q' : ¬ (a = 0 ∧ b = 0) := fun h => q (h3.2 h)
      refine ev_neg q (ev_some (decide_eq_false ?_).symm); omega
  have hk : ¬ (k = 1 ∨ k = 11) := fun h => c (h22.2 h)
  refine ev_neg c ?_
  by_cases c2 : k = 2
  · refine ev_pos c2 (ev_bind (mayMap_s a b) (ev_some (bool_eq ?_)))
    unfold nodeP kindP; rw [if_neg hk, if_pos c2]
    exact ⟨fun h => ⟨h0, h1, h⟩, fun h => h.2.2⟩
  refine ev_neg c2 ?_
  by_cases c3 : k = 3
  · refine ev_pos c3 (ev_bind (mayFilter_s a b) (ev_some (bool_eq ?_)))
    unfold nodeP kindP; rw [if_neg hk, if_neg c2, if_pos c3]
    exact ⟨fun h => ⟨h0, h1, h⟩, fun h => h.2.2⟩
  refine ev_neg c3 ?_
  by_cases c4 : k = 4
  · refine ev_pos c4 (node_j3 k a b d x3 h3 h0 h1 hk c2 c3 _ ?_)
    simp [c4]
  · refine ev_neg c4 (node_j3 k a b d x3 h3 h0 h1 hk c2 c3 _ ?_)
    simp [c4]
theorem node_j0 (k a b d : Int) (x3 : Bool) (h3 : x3 = true ↔ a = 0 ∧ b = 0) : Ev (fun n => valid_Node.j0 n x3 k a b d) (decide (nodeP k a b d)) := by
  have bad : ¬ (0 ≤ d ∧ d ≤ 3) → Ev (fun n => valid_Node.j1 n x3 true k a b d) (decide (nodeP k a b d)) := fun h =>
    Ev.step (fun n => valid_Node.j1.eq_2 _ _ _ _ _ _ n) (ev_pos rfl (ev_some (decide_eq_false (fun hp => h ⟨hp.1, hp.2.1⟩)).symm))
  refine Ev.step (fun n => valid_Node.j0.eq_2 _ _ _ _ _ n) ?_
  by_cases d0 : d < 0
  · exact ev_pos d0 (bad (by omega))
  refine ev_neg d0 ?_
  by_cases d3 : d > 3
  · rw [decide_eq_true d3]; exact bad (by omega)
  rw [decide_eq_false d3]
  refine Ev.step (fun n => valid_Node.j1.eq_2 _ _ _ _ _ _ n) (ev_neg (by simp) ?_)
  by_cases c1 : k = 1
  · refine ev_pos c1 (node_j2 k a b d x3 h3 (by omega) (by omega) _ ?_)
    simp [c1]
  · refine ev_neg c1 (node_j2 k a b d x3 h3 (by omega) (by omega) _ ?_)
    simp [c1]
theorem node_s (k a b d : Int) : Ev (fun n => valid_Node.f n k a b d) (decide (nodeP k a b d)) := by
  unfold valid_Node.f
  by_cases ha : a = 0
  · refine ev_pos ha (node_j0 k a b d _ ?_)
    simp [ha]
  · refine ev_neg ha (node_j0 k a b d _ ?_)
    simp [ha]
theorem nodeP_depth {k a b d : Int} (h : nodeP k a b d) : 0 ≤ d ∧ d ≤ 3 := ⟨h.1, h.2.1⟩

end Go.Proofs.Ytjlnjlnecipllaa.Pure
