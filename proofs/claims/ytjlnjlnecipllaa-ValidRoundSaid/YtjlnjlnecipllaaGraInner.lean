/- Plain lemmas on what nodes do to times. No program in sight. -/
import Derived.Test.YtjlnjlnecipllaaGra
import Derived.Test.YtjlnjlnecipllaaPAllx17
import Derived.Test.YtjlnjlnecipllaaPAllx17
namespace Go.Proofs.Ytjlnjlnecipllaa.Pure
open Go.RowKit Go.Proofs.Ytjlnjlnecipllaa.PAll Go.Proofs.YtjlnjlnecipllaaW.PrintWords Go.Proofs.YtjlnjlnecipllaaW.PrintLast Go.Proofs.YtjlnjlnecipllaaW.PrintMore
set_option linter.unusedVariables false
set_option linter.unusedSimpArgs false

/-- A summary's seven numbers. -/
abbrev Su : Type := Int × Int × Int × Int × Int × Int × Int
def suZ : Su := (0, 0, 0, 0, 0, 0, 0)
def sameS (d : Int) : Su := if 0 ≤ d ∧ d ≤ 3 then (d, d, d, 0, 0, 0, 0) else suZ
def enterS (d : Int) : Su := if 0 ≤ d ∧ d ≤ 2 then (d, d + 1, d, 0, 0, 0, 0) else suZ
def leaveS (d : Int) : Su := if 1 ≤ d ∧ d ≤ 3 then (d, d - 1, d - 1, 0, 0, 0, 0) else suZ
def feedS (d : Int) : Su := if d = 1 then (1, 1, 1, 0, 1, 0, 0) else if d = 2 then (2, 2, 2, 0, 0, 1, 0) else if d = 3 then (3, 3, 3, 0, 0, 0, 1) else suZ
def innerS (k d : Int) : Su := if k = 8 then enterS (d - 1) else if k = 9 then leaveS (d + 1) else if k = 10 then feedS d else if 2 ≤ k ∧ k ≤ 7 then sameS d else suZ
theorem made_s (a b c : Int) : summary_made.f a b c = some (if 0 ≤ a ∧ a ≤ 3 ∧ 0 ≤ b ∧ b ≤ 3 then (a, b, c, 0, 0, 0, 0) else suZ) := by
  unfold summary_made.f
  by_cases h : 0 ≤ a ∧ a ≤ 3 ∧ 0 ≤ b ∧ b ≤ 3
  · rw [if_pos h, if_neg (by unfold mn; split <;> omega), if_neg (by unfold mx; split <;> omega)]
  · rw [if_neg h]
    by_cases h1 : mn a b < 0
    · rw [if_pos h1]; rfl
    · rw [if_neg h1, if_pos]
      · rfl
      · revert h1; unfold mn mx; split <;> split <;> omega
theorem same_s (d : Int) : summary_Same.f d = some (sameS d) := by
  unfold summary_Same.f
  rw [made_s]
  unfold sameS
  by_cases h : 0 ≤ d ∧ d ≤ 3
  · rw [if_pos ⟨h.1, h.2, h.1, h.2⟩, if_pos h]; rfl
  · rw [if_neg (by omega), if_neg h]; rfl
theorem enter_s (d : Int) (h : -1000000 ≤ d ∧ d ≤ 1000000) : summary_Enter.f d = some (enterS d) := by
  unfold summary_Enter.f enterS
  rw [w_id (by omega) (by omega), made_s]
  by_cases h1 : d > 3
  · rw [if_pos h1, if_neg (by omega)]; rfl
  · rw [if_neg h1]
    by_cases h2 : 0 ≤ d ∧ d ≤ 2
    · rw [if_pos h2, if_pos (by omega)]; rfl
    · rw [if_neg h2, if_neg (by omega)]; rfl
theorem leave_s (d : Int) (h : -1000000 ≤ d ∧ d ≤ 1000000) : summary_Leave.f d = some (leaveS d) := by
  unfold summary_Leave.f leaveS
  rw [w_id (by omega) (by omega), made_s]
  by_cases h1 : d < 1
  · rw [if_pos h1, if_neg (by omega)]; rfl
  · rw [if_neg h1]
    by_cases h2 : 1 ≤ d ∧ d ≤ 3
    · rw [if_pos h2, if_pos (by omega)]; rfl
    · rw [if_neg h2, if_neg (by omega)]; rfl
theorem feed_s (d : Int) : summary_Feed.f d = some (feedS d) := by
  unfold summary_Feed.f
  rw [same_s]
  unfold sameS feedS
  by_cases h1 : d = 1
  · subst h1; rfl
  · by_cases h2 : d = 2
    · subst h2; rfl
    · by_cases h3 : d = 3
      · subst h3; rfl
      · rw [if_neg h1, if_neg h2, if_neg h3]
        by_cases h : 0 ≤ d ∧ d ≤ 3
        · obtain rfl : d = 0 := by omega
          rfl
        · rw [if_neg h]; rfl
theorem inner_s (k a b d : Int) (h : -100000 ≤ d ∧ d ≤ 100000) : graph_Inner.f k a b d = some (innerS k d) := by
  unfold graph_Inner.f
  rw [in_s k a b d (by omega)]
  unfold innerS inS
  by_cases h8 : k = 8
  · subst h8; simp only [Option.bind_some, if_true, enter_s (d - 1) (by omega)]
  · by_cases h9 : k = 9
    · subst h9; simp only [Option.bind_some, if_neg h8, if_true, leave_s (d + 1) (by omega)]
    · simp only [if_neg h8, if_neg h9, Option.bind_some, feed_s, same_s]
      by_cases h10 : k = 10
      · rw [if_pos h10, if_pos h10]
      · rw [if_neg h10, if_neg h10]
        by_cases h2 : 2 ≤ k ∧ k ≤ 7
        · rw [if_pos h2]
          have : k = 2 ∨ k = 3 ∨ k = 4 ∨ k = 5 ∨ k = 6 ∨ k = 7 := by omega
          rcases this with rfl | rfl | rfl | rfl | rfl | rfl <;> rfl
        · rw [if_neg h2, if_neg (by omega), if_neg (by omega), if_neg (by omega), if_neg (by omega), if_neg (by omega), if_neg (by omega)]; rfl
end Go.Proofs.Ytjlnjlnecipllaa.Pure
