/- What GcodeTakes computes is true. Plain lists. -/
import Derived.Test.YtbjjcolbomaodaaDoorGcRefTTks
import Derived.Test.YtbjjcolbomaodaaDoorValRefTks
import Derived.Test.YtbjjcolbomaodaaDoorPTksx14
import Derived.Test.YtbjjcolbomaodaaDoorPTksx22
namespace Go.Proofs.YtbjjcolbomaodaaDoor.GPure
open Classical Go.RowKit Go.Proofs.YtbjjcolbomaodaaDoor.PTks Go.Proofs.YtbjjcolbomaodaaDoorW.PrintWords Go.Proofs.YtbjjcolbomaodaaDoorW.PrintLast Go.Proofs.YtbjjcolbomaodaaDoorW.PrintMore
set_option linter.unusedVariables false
set_option linter.unusedSimpArgs false
theorem same_le (ns : List S40) (es : List S42) (hn : ns.length ≤ 1000) (he : es.length ≤ 1000) :
    ∃ K, ∀ k, K ≤ k → meanderref08_SameGraph.f k ns es ns es = some true := by
  refine ⟨(ns.length + 1 + (es.length + 1)) + 1, fun k hk => ?_⟩
  obtain ⟨d, rfl⟩ := Nat.exists_eq_add_of_le hk
  induction d with
  | zero => exact (same_s ns es ns es hn he).trans (by simp)
  | succ d ih => exact meanderref08_SameGraph.mono ns es ns es _ _ (ih (by omega))
theorem takes_j (l : List Int) (hx : ∀ x ∈ l, 0 ≤ x ∧ x ≤ 255) (hl : l.length ≤ 1000) : ∃ k, meanderlaw10_GcodeTakes.j0 k l true = some true := by
  have hlen : l.length < 140737488355328 := by omega
  obtain ⟨K0, h0⟩ := reft_s l hx hl
  obtain ⟨ns, es, e, ht, hn, he⟩ : ∃ ns es e, gcode_Take.f l = some (ns, es, e) ∧ ns.length ≤ 255 ∧ es.length ≤ 255 := by
    unfold gcode_Take.f
    rw [if_pos (range_all hx)]
    rcases Bool.eq_false_or_eq_true ((gcode_Take.q (gcode_Take.p l)).1 || !(gcode_Take.q (gcode_Take.p l)).2.1.isEmpty) with e | e
    · rw [if_pos e]
      exact ⟨_, _, _, rfl, by simp, by simp⟩
    · rw [if_neg (by rw [e]; simp)]
      rw [Bool.or_eq_false_iff] at e
      obtain ⟨b1, b2, _⟩ := laid_again l hx e.1 (by simpa using e.2)
      exact ⟨_, _, _, rfl, b1, b2⟩
  obtain ⟨K1, h1⟩ := Pure.graph_s ns es
  obtain ⟨K2, h2⟩ := Pure.rgraph_s ns es
  obtain ⟨K3, h3⟩ := same_le ns es (by omega) (by omega)
  obtain ⟨K4, h4⟩ := same_le [] [] (by simp) (by simp)
  have g0 := h0 (K0 + K1 + K2 + K3 + K4) (by omega)
  have g1 := h1 (K0 + K1 + K2 + K3 + K4) (by omega)
  have g2 := h2 (K0 + K1 + K2 + K3 + K4) (by omega)
  have g3 := h3 (K0 + K1 + K2 + K3 + K4) (by omega)
  have g4 := h4 (K0 + K1 + K2 + K3 + K4) (by omega)
  generalize K0 + K1 + K2 + K3 + K4 = k at g0 g1 g2 g3 g4
  clear h0 h1 h2 h3 h4
  rw [ht] at g0
  refine ⟨k + 1, ?_⟩
  rw [meanderlaw10_GcodeTakes.j0]
  have hL : ∃ ms fs d, gcode_Load.f k l = some (ms, fs, d) ∧ meanderref10_Load.f k l = some (ms, fs, d) ∧ meanderref08_SameGraph.f k ms fs ms fs = some true := by
    unfold gcode_Load.f meanderref10_Load.f
    simp only [ht, g0, Option.bind_some]
    by_cases c : e = 0
    · rw [if_pos c, if_pos c]
      simp only [g1, g2, Option.bind_some]
      by_cases c2 : Pure.graphS ns es = 0
      · rw [if_pos c2]
        exact ⟨_, _, _, rfl, rfl, g3⟩
      · rw [if_neg c2]
        exact ⟨_, _, _, rfl, rfl, g4⟩
    · rw [if_neg c, if_neg c]
      exact ⟨_, _, _, rfl, rfl, g4⟩
  obtain ⟨ms, fs, d, l1, l2, l3⟩ := hL
  simp only [Option.bind_some, List.nil_append, List.length_nil, Nat.zero_add, hlen, if_true, ht, g0, l1, l2, l3, g3, beq_self_eq_true]
theorem takes_s (l : List Int) (hx : ∀ x ∈ l, 0 ≤ x ∧ x ≤ 255) : ∃ k, meanderlaw10_GcodeTakes.f k l = some true := by
  unfold meanderlaw10_GcodeTakes.f
  by_cases h : (l.length : Int) > 1000
  · obtain ⟨k, hk⟩ := takes_j (l.take 1000) (fun x hm => hx x (List.mem_of_mem_take hm)) (by rw [List.length_take]; omega)
    refine ⟨k, ?_⟩
    rw [shown_s, Option.bind_some, if_pos h, if_pos (by omega)]
    exact hk
  · obtain ⟨k, hk⟩ := takes_j l hx (by omega)
    refine ⟨k, ?_⟩
    rw [shown_s, Option.bind_some, if_neg h]
    exact hk
end Go.Proofs.YtbjjcolbomaodaaDoor.GPure
