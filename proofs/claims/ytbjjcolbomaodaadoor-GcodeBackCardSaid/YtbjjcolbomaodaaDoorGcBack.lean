/- What GcodeBack computes is true. Plain lists. -/
import Derived.Test.YtbjjcolbomaodaaDoorGcTake
import Derived.Test.YtbjjcolbomaodaaDoorPAllx7
namespace Go.Proofs.YtbjjcolbomaodaaDoor.Pure
open Classical Go.RowKit Go.Proofs.YtbjjcolbomaodaaDoor.PAll Go.Proofs.YtbjjcolbomaodaaDoorW.PrintWords Go.Proofs.YtbjjcolbomaodaaDoorW.PrintLast Go.Proofs.YtbjjcolbomaodaaDoorW.PrintMore
set_option linter.unusedVariables false
set_option linter.unusedSimpArgs false
theorem back_s (ns : List S40) (es : List S42) (at_ m : Int) (hm : 0 ≤ m ∧ m ≤ 255) : ∃ k, meanderlaw10_GcodeBack.f k ns es at_ m = some true := by
  obtain ⟨ns', hn⟩ : ∃ x, x = ns.take 260 := ⟨_, rfl⟩
  obtain ⟨es', he⟩ : ∃ x, x = es.take 260 := ⟨_, rfl⟩
  have q1 := few_s ns es
  have a : ns'.length ≤ 1000 := by rw [hn]; simp; omega
  have b : es'.length ≤ 1000 := by rw [he]; simp; omega
  rw [← hn, ← he] at q1
  clear hn he
  have q3 := put_s ns' es' a b
  have q5 := same_s ns' es' ns' es' a b
  obtain ⟨k, hk⟩ : ∃ k, k = ns'.length + 1 + (es'.length + 1) := ⟨_, rfl⟩
  rw [← hk] at q5
  clear hk
  refine ⟨k + 1, ?_⟩
  unfold meanderlaw10_GcodeBack.f
  simp only [shown_s, q1, Option.bind_some, q3]
  rcases Bool.eq_false_or_eq_true (gcode_Put.b2 ns' es' es'.length) with h | h
  · rw [h]
    simp
  · have t1 := take_laid h
    have t2 := take_longer h m hm
    have hlen := gcode_Put.p2_len ns' es' es'.length
    rw [List.take_of_length_le (Nat.le_refl _)] at hlen
    simp only [h, Bool.false_eq_true, if_false, t1, Option.bind_some, q5, List.nil_append, List.length_nil, Nat.zero_add, if_true]
    rw [if_pos (by omega), if_pos (by omega)]
    simp only [t2, Option.bind_some]
    simp only [and_self, decide_true, if_true, bne_self_eq_false]
    rw [meanderlaw10_GcodeBack.j0, if_neg (by simp)]
    by_cases c1 : at_ < 0
    · rw [if_pos c1]
    · rw [if_neg c1]
      by_cases c2 : at_ ≥ ((gcode_Put.p2 ns' es' es'.length).length : Int)
      · rw [if_pos c2]
      · rw [if_neg c2, if_pos (by omega), if_pos (by omega), take_shorter h at_.toNat (by omega)]
        rfl
end Go.Proofs.YtbjjcolbomaodaaDoor.Pure
