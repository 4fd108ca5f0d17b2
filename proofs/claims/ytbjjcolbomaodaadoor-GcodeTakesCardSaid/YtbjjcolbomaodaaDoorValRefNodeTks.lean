/- Plain lemmas: which nodes may be, by the document. No program in sight. -/
import Derived.Test.YtbjjcolbomaodaaDoorValNodeTks
import Derived.Test.YtbjjcolbomaodaaDoorPTksx15
import Derived.Test.YtbjjcolbomaodaaDoorPTksx14
import Derived.Test.YtbjjcolbomaodaaDoorPTksx14
import Derived.Test.YtbjjcolbomaodaaDoorPTksx14
import Derived.Test.YtbjjcolbomaodaaDoorPTksx14
namespace Go.Proofs.YtbjjcolbomaodaaDoor.Pure
open Go.RowKit Go.Proofs.YtbjjcolbomaodaaDoor.PTks Go.Proofs.YtbjjcolbomaodaaDoorW.PrintWords Go.Proofs.YtbjjcolbomaodaaDoorW.PrintLast Go.Proofs.YtbjjcolbomaodaaDoorW.PrintMore
set_option linter.unusedVariables false
set_option linter.unusedSimpArgs false

theorem rsmall_s (b : Int) : meanderref06_small.f b = some (decide (-1000 ≤ b ∧ b ≤ 1000)) := by
  unfold meanderref06_small.f
  split
  all_goals simp only [Option.some.injEq]; first | (rw [decide_eq_decide]; omega) | (symm; rw [decide_eq_false_iff_not]; omega)
theorem rmayMap_s (a b : Int) : meanderref06_MayMap.f a b = some (decide (1 ≤ a ∧ a ≤ 5 ∧ -1000 ≤ b ∧ b ≤ 1000 ∧ (a = 3 → 1 ≤ b))) := by
  unfold meanderref06_MayMap.f
  rw [rsmall_s]
  simp only [Option.bind_some, decide_eq_true_eq]
  repeat' split
  all_goals simp only [Option.some.injEq]; first | (rw [decide_eq_decide]; omega) | (symm; rw [decide_eq_false_iff_not]; omega) | (symm; rw [decide_eq_true_eq]; omega)
theorem rmayFilter_s (a b : Int) : meanderref06_MayFilter.f a b = some (decide (1 ≤ a ∧ a ≤ 4 ∧ -1000 ≤ b ∧ b ≤ 1000 ∧ (a = 3 → 1 ≤ b))) := by
  unfold meanderref06_MayFilter.f
  rw [rsmall_s]
  simp only [Option.bind_some, decide_eq_true_eq]
  repeat' split
  all_goals simp only [Option.some.injEq]; first | (rw [decide_eq_decide]; omega) | (symm; rw [decide_eq_false_iff_not]; omega) | (symm; rw [decide_eq_true_eq]; omega)
theorem rmayReduce_s (a : Int) : meanderref06_MayReduce.f a = some (decide (1 ≤ a ∧ a ≤ 4)) := by
  unfold meanderref06_MayReduce.f
  split
  all_goals simp only [Option.some.injEq]; first | (rw [decide_eq_decide]; omega) | (symm; rw [decide_eq_false_iff_not]; omega)
theorem rmayWin_s (a b : Int) : meanderref07_May.f a b = some (decide (1 ≤ a ∧ a ≤ 20 ∧ 1 ≤ b ∧ b ≤ a)) := by
  unfold meanderref07_May.f
  repeat' split
  all_goals simp only [Option.some.injEq]; first | (rw [decide_eq_decide]; omega) | (symm; rw [decide_eq_false_iff_not]; omega)
theorem rnode_j3 (k a b d : Int) (x3 : Bool) (h3 : x3 = true ↔ a = 0 ∧ b = 0) (h0 : 0 ≤ d) (h1 : d ≤ 3) (n1 : ¬ (k = 1 ∨ k = 11)) (n2 : k ≠ 2) (n3 : k ≠ 3) (x45 : Bool) (h45 : x45 = true ↔ k = 4 ∨ k = 5) : Ev (fun n => meanderref09_Node.j3 n x3 k x45 k a b d) (decide (nodeP k a b d)) := by
  have e : nodeP k a b d ↔ (if k = 4 ∨ k = 5 then a = 0 ∧ b = 0 else if k = 6 then 1 ≤ a ∧ a ≤ 4 ∧ b = 0 else if k = 7 then 1 ≤ a ∧ a ≤ 20 ∧ 1 ≤ b ∧ b ≤ a ∧ d = 0 else if k = 8 then a = 0 ∧ b = 0 ∧ 0 < d else if k = 9 then a = 0 ∧ b = 0 ∧ d < 3 else if k = 10 then b = 0 ∧ 1 ≤ a ∧ a ≤ 6 ∧ 0 < d else False) := by
    unfold nodeP kindP
    rw [if_neg n1, if_neg n2, if_neg n3]
    exact ⟨fun h => h.2.2, fun h => ⟨h0, h1, h⟩⟩
  rw [bool_eq e]
  refine Ev.step (fun n => meanderref09_Node.j3.eq_2 _ _ _ _ _ _ _ n) ?_
  by_cases c : x45 = true
  · refine ev_pos c (ev_some ?_)
    simp only [if_pos (h45.1 c)]
    rw [Bool.eq_iff_iff, h3, decide_eq_true_eq]
  refine ev_neg c ?_
  simp only [if_neg (show ¬ (k = 4 ∨ k = 5) from fun h => c (h45.2 h))]
  by_cases c6 : k = 6
  · simp only [if_pos c6]
    refine ev_bind (rmayReduce_s a) ?_
    by_cases q : 1 ≤ a ∧ a ≤ 4
    · refine ev_pos (decide_eq_true q) (ev_some ?_)
      rw [Bool.eq_iff_iff, beq_iff_eq, decide_eq_true_eq]; omega
    · refine ev_neg (by simpa using q) (ev_some (decide_eq_false ?_).symm); omega
  simp only [if_neg c6]
  by_cases c7 : k = 7
  · simp only [if_pos c7]
    refine ev_bind (rmayWin_s a b) ?_
    by_cases q : 1 ≤ a ∧ a ≤ 20 ∧ 1 ≤ b ∧ b ≤ a
    · refine ev_pos (decide_eq_true q) (ev_some ?_)
      rw [Bool.eq_iff_iff, beq_iff_eq, decide_eq_true_eq]; omega
    · refine ev_neg (by simpa using q) (ev_some (decide_eq_false ?_).symm); omega
  simp only [if_neg c7]
  by_cases c8 : k = 8
  · simp only [if_pos c8]
    by_cases q : x3 = true
    · have := h3.1 q
      refine ev_pos q (ev_some (bool_eq ?_)); omega
    · have q' : ¬ (a = 0 ∧ b = 0) := fun h => q (h3.2 h)
      refine ev_neg q (ev_some (decide_eq_false ?_).symm); omega
  simp only [if_neg c8]
  by_cases c9 : k = 9
  · simp only [if_pos c9]
    by_cases q : x3 = true
    · have := h3.1 q
      refine ev_pos q (ev_some (bool_eq ?_)); omega
    · have q' : ¬ (a = 0 ∧ b = 0) := fun h => q (h3.2 h)
      refine ev_neg q (ev_some (decide_eq_false ?_).symm); omega
  simp only [if_neg c9]
  by_cases c10 : k = 10
  · simp only [if_pos c10]
    by_cases q1 : d > 0
    · refine ev_pos q1 ?_
      by_cases q2 : a ≥ 1
      · refine ev_pos q2 ?_
        by_cases q3 : a ≤ 6
        · refine ev_pos q3 (ev_some ?_)
          rw [Bool.eq_iff_iff, beq_iff_eq, decide_eq_true_eq]; omega
        · refine ev_neg q3 (ev_some (decide_eq_false ?_).symm); omega
      · refine ev_neg q2 (ev_some (decide_eq_false ?_).symm); omega
    · refine ev_neg q1 (ev_some (decide_eq_false ?_).symm); omega
  · simp only [if_neg c10]
    exact ev_some (decide_eq_false (fun h => h)).symm
theorem rnode_j2 (k a b d : Int) (x3 : Bool) (h3 : x3 = true ↔ a = 0 ∧ b = 0) (h0 : 0 ≤ d) (h1 : d ≤ 3) (x22 : Bool) (h22 : x22 = true ↔ k = 1 ∨ k = 11) : Ev (fun n => meanderref09_Node.j2 n x3 k x22 k a b d) (decide (nodeP k a b d)) := by
  refine Ev.step (fun n => meanderref09_Node.j2.eq_2 _ _ _ _ _ _ _ n) ?_
  by_cases c : x22 = true
  · have hk := h22.1 c
    have e : nodeP k a b d ↔ a = 0 ∧ b = 0 ∧ d = 0 := by unfold nodeP kindP; rw [if_pos hk]; omega
    rw [bool_eq e]
    refine ev_pos c ?_
    by_cases q : x3 = true
    · have := h3.1 q
      refine ev_pos q (ev_some ?_)
      rw [Bool.eq_iff_iff, beq_iff_eq, decide_eq_true_eq]; omega
    · have q' : ¬ (a = 0 ∧ b = 0) := fun h => q (h3.2 h)
      refine ev_neg q (ev_some (decide_eq_false ?_).symm); omega
  have hk : ¬ (k = 1 ∨ k = 11) := fun h => c (h22.2 h)
  refine ev_neg c ?_
  by_cases c2 : k = 2
  · refine ev_pos c2 (ev_bind (rmayMap_s a b) (ev_some (bool_eq ?_)))
    unfold nodeP kindP; rw [if_neg hk, if_pos c2]
    exact ⟨fun h => ⟨h0, h1, h⟩, fun h => h.2.2⟩
  refine ev_neg c2 ?_
  by_cases c3 : k = 3
  · refine ev_pos c3 (ev_bind (rmayFilter_s a b) (ev_some (bool_eq ?_)))
    unfold nodeP kindP; rw [if_neg hk, if_neg c2, if_pos c3]
    exact ⟨fun h => ⟨h0, h1, h⟩, fun h => h.2.2⟩
  refine ev_neg c3 ?_
  by_cases c4 : k = 4
  · refine ev_pos c4 (rnode_j3 k a b d x3 h3 h0 h1 hk c2 c3 _ ?_)
    simp [c4]
  · refine ev_neg c4 (rnode_j3 k a b d x3 h3 h0 h1 hk c2 c3 _ ?_)
    simp [c4]
theorem rnode_s (k a b d : Int) : Ev (fun n => meanderref09_Node.f n k a b d) (decide (nodeP k a b d)) := by
  have bad : ¬ (0 ≤ d ∧ d ≤ 3) → Ev (fun n => meanderref09_Node.j0 n true k a b d) (decide (nodeP k a b d)) := fun h =>
    Ev.step (fun n => meanderref09_Node.j0.eq_2 _ _ _ _ _ n) (ev_pos rfl (ev_some (decide_eq_false (fun hp => h ⟨hp.1, hp.2.1⟩)).symm))
  unfold meanderref09_Node.f
  by_cases d0 : d < 0
  · exact ev_pos d0 (bad (by omega))
  refine ev_neg d0 ?_
  by_cases d3 : d > 3
  · rw [decide_eq_true d3]; exact bad (by omega)
  rw [decide_eq_false d3]
  have j1 : ∀ x3 : Bool, (x3 = true ↔ a = 0 ∧ b = 0) → Ev (fun n => meanderref09_Node.j1 n x3 k a b d) (decide (nodeP k a b d)) := by
    intro x3 h3
    refine Ev.step (fun n => meanderref09_Node.j1.eq_2 _ _ _ _ _ n) ?_
    by_cases c1 : k = 1
    · refine ev_pos c1 (rnode_j2 k a b d x3 h3 (by omega) (by omega) _ ?_)
      simp [c1]
    · refine ev_neg c1 (rnode_j2 k a b d x3 h3 (by omega) (by omega) _ ?_)
      simp [c1]
  refine Ev.step (fun n => meanderref09_Node.j0.eq_2 _ _ _ _ _ n) (ev_neg (by simp) ?_)
  by_cases ha : a = 0
  · refine ev_pos ha (j1 _ ?_)
    simp [ha]
  · refine ev_neg ha (j1 _ ?_)
    simp [ha]
end Go.Proofs.YtbjjcolbomaodaaDoor.Pure
