/- What GcodeSizes computes is true. Plain lists. -/
import Derived.Test.YtbjjcolbomaodaaDoorGcSame
import Derived.Test.YtbjjcolbomaodaaDoorPAllx5
namespace Go.Proofs.YtbjjcolbomaodaaDoor.Pure
open Classical Go.RowKit Go.Proofs.YtbjjcolbomaodaaDoor.PAll Go.Proofs.YtbjjcolbomaodaaDoorW.PrintWords Go.Proofs.YtbjjcolbomaodaaDoorW.PrintLast Go.Proofs.YtbjjcolbomaodaaDoorW.PrintMore
set_option linter.unusedVariables false
set_option linter.unusedSimpArgs false
theorem sizes_s (ns : List S40) (es : List S42) (ms : List S40) (fs : List S42) : ∃ k, meanderlaw10_GcodeSizes.f k ns es ms fs = some true := by
  obtain ⟨ns', hn⟩ : ∃ x, x = ns.take 260 := ⟨_, rfl⟩
  obtain ⟨es', he⟩ : ∃ x, x = es.take 260 := ⟨_, rfl⟩
  obtain ⟨ms', hm⟩ : ∃ x, x = ms.take 260 := ⟨_, rfl⟩
  obtain ⟨fs', hf⟩ : ∃ x, x = fs.take 260 := ⟨_, rfl⟩
  have q1 := few_s ns es
  have q2 := few_s ms fs
  have a : ns'.length ≤ 1000 := by rw [hn]; simp; omega
  have b : es'.length ≤ 1000 := by rw [he]; simp; omega
  have c : ms'.length ≤ 1000 := by rw [hm]; simp; omega
  have d : fs'.length ≤ 1000 := by rw [hf]; simp; omega
  rw [← hn, ← he] at q1
  rw [← hm, ← hf] at q2
  clear hn he hm hf
  have q3 := put_s ns' es' a b
  have q4 := put_s ms' fs' c d
  have q5 := same_s ns' es' ms' fs' a b
  generalize ns'.length + 1 + (es'.length + 1) + 1 = k at q5
  refine ⟨k, ?_⟩
  unfold meanderlaw10_GcodeSizes.f
  simp only [shown_s, q1, q2, Option.bind_some, q3, q4, q5, str_list]
  clear q1 q2 q3 q4 q5
  rcases Bool.eq_false_or_eq_true (gcode_Put.b2 ns' es' es'.length) with h | h
  · rw [h]; simp
  · rcases Bool.eq_false_or_eq_true (gcode_Put.b2 ms' fs' fs'.length) with h' | h'
    · rw [h, h']; simp
    · rw [h, h']
      obtain ⟨a1, a2, a3, a4⟩ := b2_parts h
      have e1 := gcode_Put.p2_len ns' es' es'.length
      rw [List.take_of_length_le (Nat.le_refl _)] at e1
      simp only [Bool.false_eq_true, if_false, if_true]
      have w1 : wrap64 (6 * (ns'.length : Int)) = 6 * (ns'.length : Int) := w_id (by omega) (by omega)
      have w2 : wrap64 (3 * (es'.length : Int)) = 3 * (es'.length : Int) := w_id (by omega) (by omega)
      have w3 : wrap64 (4 + 6 * (ns'.length : Int)) = 4 + 6 * (ns'.length : Int) := w_id (by omega) (by omega)
      have w4 : wrap64 (4 + 6 * (ns'.length : Int) + 3 * (es'.length : Int)) = 4 + 6 * (ns'.length : Int) + 3 * (es'.length : Int) := w_id (by omega) (by omega)
      have e3 : ((gcode_Put.p2 ns' es' es'.length).length : Int) = 4 + 6 * (ns'.length : Int) + 3 * (es'.length : Int) := by omega
      rw [w1, w2, w3, w4, if_pos e3]
      congr 1
      rw [beq_iff_eq, Bool.eq_iff_iff, beq_iff_eq, decide_eq_true_iff]
      constructor
      · intro e
        exact p2_inj h h' (u8_inj _ _ (p2_range _ _) (p2_range _ _) e)
      · rintro ⟨rfl, rfl⟩
        rfl
end Go.Proofs.YtbjjcolbomaodaaDoor.Pure
