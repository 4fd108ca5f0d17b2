/- Plain lemmas: what the reference of layer 8 comes to, of nodes. No program in sight. -/
import Derived.Test.YtbjjcolbomaodaaDoorGraTks
import Derived.Test.YtbjjcolbomaodaaDoorPTksx16
import Derived.Test.YtbjjcolbomaodaaDoorPTksx16
import Derived.Test.YtbjjcolbomaodaaDoorPTksx16
namespace Go.Proofs.YtbjjcolbomaodaaDoor.Pure
open Go.RowKit Go.Proofs.YtbjjcolbomaodaaDoor.PTks Go.Proofs.YtbjjcolbomaodaaDoorW.PrintWords Go.Proofs.YtbjjcolbomaodaaDoorW.PrintLast Go.Proofs.YtbjjcolbomaodaaDoorW.PrintMore
set_option linter.unusedVariables false
set_option linter.unusedSimpArgs false

theorem rins_s (k : Int) : meanderref08_Ins.f k = some (insS k) := by
  unfold meanderref08_Ins.f insS
  by_cases h : k = 4
  · rw [if_pos h, if_pos h]
  · rw [if_neg h, if_neg h]
    by_cases h2 : 2 ≤ k ∧ k ≤ 11
    · rw [if_pos h2.1, if_pos h2.2, if_pos h2]
    · rw [if_neg h2]
      split
      · rw [if_neg (by omega)]
      · rfl
theorem rhas_s (k : Int) : meanderref08_HasOut.f k = some (decide (1 ≤ k ∧ k ≤ 10)) := by
  unfold meanderref08_HasOut.f
  by_cases h : k ≥ 1
  · rw [if_pos h]; simp only [Option.some.injEq, decide_eq_decide]; omega
  · rw [if_neg h]; simp only [Option.some.injEq]; exact (decide_eq_false (by omega)).symm
theorem rin_s (k a b d : Int) (h : -1000000 ≤ d ∧ d ≤ 1000000) : meanderref08_InDepth.f k a b d = some (inS k d) := by
  unfold meanderref08_InDepth.f inS
  rw [w_id (by omega) (by omega), w_id (by omega) (by omega)]
  split
  · rfl
  · split
    · rfl
    · rfl
end Go.Proofs.YtbjjcolbomaodaaDoor.Pure
