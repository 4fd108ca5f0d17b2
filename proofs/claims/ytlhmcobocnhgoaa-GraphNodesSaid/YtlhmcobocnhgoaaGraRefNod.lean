/- Plain lemmas: what the references of layers 2 and 8 come to, of nodes. No program in sight. -/
import Derived.Test.YtlhmcobocnhgoaaGraInnerNod
import Derived.Test.YtlhmcobocnhgoaaPNodx5
import Derived.Test.YtlhmcobocnhgoaaPNodx3
import Derived.Test.YtlhmcobocnhgoaaPNodx3
import Derived.Test.YtlhmcobocnhgoaaPNodx3
import Derived.Test.YtlhmcobocnhgoaaPNodx5
namespace Go.Proofs.Ytlhmcobocnhgoaa.Pure
open Go.RowKit Go.Proofs.Ytlhmcobocnhgoaa.PNod Go.Proofs.YtlhmcobocnhgoaaW.PrintWords Go.Proofs.YtlhmcobocnhgoaaW.PrintLast Go.Proofs.YtlhmcobocnhgoaaW.PrintMore
set_option linter.unusedVariables false
set_option linter.unusedSimpArgs false

theorem rins_s (k : Int) : meanderref08_Ins.f k = some (insS k) := by
  unfold meanderref08_Ins.f insS
  by_cases h : k = 4
  · rw [if_pos h, if_pos h]
  · rw [if_neg h, if_neg h]
    by_cases h2 : 2 ≤ k ∧ k ≤ 11
    · rw [if_pos h2.1, if_pos h2.2, if_pos h2]
    · rw [if_neg h2]
      split
      · rw [if_neg (by omega)]
      · rfl
theorem rhas_s (k : Int) : meanderref08_HasOut.f k = some (decide (1 ≤ k ∧ k ≤ 10)) := by
  unfold meanderref08_HasOut.f
  by_cases h : k ≥ 1
  · rw [if_pos h]; simp only [Option.some.injEq, decide_eq_decide]; omega
  · rw [if_neg h]; simp only [Option.some.injEq]; exact (decide_eq_false (by omega)).symm
theorem rin_s (k a b d : Int) (h : -1000000 ≤ d ∧ d ≤ 1000000) : meanderref08_InDepth.f k a b d = some (inS k d) := by
  unfold meanderref08_InDepth.f inS
  rw [w_id (by omega) (by omega), w_id (by omega) (by omega)]
  split
  · rfl
  · split
    · rfl
    · rfl
theorem rdepth_s (d : Int) : meanderref02_depth.f d = some (decide (0 ≤ d ∧ d ≤ 3)) := by
  unfold meanderref02_depth.f
  by_cases h : d ≥ 0
  · rw [if_pos h]; simp only [Option.some.injEq, decide_eq_decide]; omega
  · rw [if_neg h]; simp only [Option.some.injEq]; exact (decide_eq_false (by omega)).symm
theorem rsame_s (d : Int) : meanderref02_Same.f d = some (sameS d) := by
  unfold meanderref02_Same.f sameS
  rw [rdepth_s]
  by_cases h : 0 ≤ d ∧ d ≤ 3
  · simp only [Option.bind_some, decide_eq_true h, if_true, if_pos h]
  · simp only [Option.bind_some, decide_eq_false h, if_neg h]; rfl
theorem renter_s (d : Int) (hd : -1000000 ≤ d ∧ d ≤ 1000000) : meanderref02_Enter.f d = some (enterS d) := by
  unfold meanderref02_Enter.f enterS
  rw [rdepth_s, w_id (by omega) (by omega)]
  by_cases h : 0 ≤ d ∧ d ≤ 3
  · simp only [Option.bind_some, decide_eq_true h, if_true]
    by_cases h3 : d = 3
    · rw [if_pos h3, if_neg (by omega)]; rfl
    · rw [if_neg h3, if_pos (by omega)]
  · simp only [Option.bind_some, decide_eq_false h]
    rw [if_neg (by simp), if_neg (by omega)]; rfl
theorem rleave_s (d : Int) (hd : -1000000 ≤ d ∧ d ≤ 1000000) : meanderref02_Leave.f d = some (leaveS d) := by
  unfold meanderref02_Leave.f leaveS
  rw [rdepth_s, w_id (by omega) (by omega)]
  by_cases h : 0 ≤ d ∧ d ≤ 3
  · simp only [Option.bind_some, decide_eq_true h, if_true]
    by_cases h3 : d = 0
    · rw [if_pos h3, if_neg (by omega)]; rfl
    · rw [if_neg h3, if_pos (by omega)]
  · simp only [Option.bind_some, decide_eq_false h]
    rw [if_neg (by simp), if_neg (by omega)]; rfl
theorem rfeed_s (d : Int) : meanderref02_Feed.f d = some (feedS d) := by
  unfold meanderref02_Feed.f
  rw [rsame_s]
  unfold sameS feedS
  by_cases h1 : d = 1
  · subst h1; rfl
  · by_cases h2 : d = 2
    · subst h2; rfl
    · by_cases h3 : d = 3
      · subst h3; rfl
      · rw [if_neg h1, if_neg h2, if_neg h3]
        by_cases h : 0 ≤ d ∧ d ≤ 3
        · obtain rfl : d = 0 := by omega
          rfl
        · rw [if_neg h]; rfl
theorem rinner_s (k a b d : Int) (h : -100000 ≤ d ∧ d ≤ 100000) : meanderref08_Inner.f k a b d = some (innerS k d) := by
  unfold meanderref08_Inner.f
  rw [rin_s k a b d (by omega)]
  unfold innerS inS
  by_cases h8 : k = 8
  · subst h8; simp only [Option.bind_some, if_true, renter_s (d - 1) (by omega)]
  · by_cases h9 : k = 9
    · subst h9; simp only [Option.bind_some, if_neg h8, if_true, rleave_s (d + 1) (by omega)]
    · simp only [if_neg h8, if_neg h9, Option.bind_some, rfeed_s, rsame_s]
      by_cases h10 : k = 10
      · rw [if_pos h10, if_pos h10]
      · rw [if_neg h10, if_neg h10]
        by_cases h2 : 2 ≤ k ∧ k ≤ 7
        · rw [if_pos h2.1, if_pos h2.2, if_pos h2]
        · rw [if_neg h2]
          split
          · rw [if_neg (by omega)]; rfl
          · rfl
theorem rorder_s (a0 a1 b0 b1 : Int) : meanderref08_Order.f a0 a1 b0 b1 = some (ordS a0 a1 b0 b1) := by
  unfold meanderref08_Order.f ordS
  have e : ((a0 == b0 && (a1 == b1)) = true) = (a0 = b0 ∧ a1 = b1) := by simp
  simp only [e]
  repeat' split
  all_goals first | rfl | omega
end Go.Proofs.Ytlhmcobocnhgoaa.Pure
