/- What GcodeLoads computes is true. Plain lists. -/
import Derived.Test.YtbjjcolbomaodaaDoorGcLaidLdp
import Derived.Test.YtbjjcolbomaodaaDoorValRefLdp
import Derived.Test.YtbjjcolbomaodaaDoorPLdpx12
import Derived.Test.YtbjjcolbomaodaaDoorPLdpx20
namespace Go.Proofs.YtbjjcolbomaodaaDoor.GPure
open Classical Go.RowKit Go.Proofs.YtbjjcolbomaodaaDoor.PLdp Go.Proofs.YtbjjcolbomaodaaDoorW.PrintWords Go.Proofs.YtbjjcolbomaodaaDoorW.PrintLast Go.Proofs.YtbjjcolbomaodaaDoorW.PrintMore
set_option linter.unusedVariables false
set_option linter.unusedSimpArgs false
theorem same_le (ns : List S40) (es : List S42) (ms : List S40) (fs : List S42) (hn : ns.length ≤ 1000) (he : es.length ≤ 1000) :
    ∃ K, ∀ k, K ≤ k → meanderref08_SameGraph.f k ns es ms fs = some (decide (ns = ms ∧ es = fs)) := by
  refine ⟨(ns.length + 1 + (es.length + 1)) + 1, fun k hk => ?_⟩
  obtain ⟨d, rfl⟩ := Nat.exists_eq_add_of_le hk
  induction d with
  | zero => exact same_s ns es ms fs hn he
  | succ d ih => exact meanderref08_SameGraph.mono ns es ms fs _ _ (ih (by omega))
theorem loads_j (l : List Int) (hx : ∀ x ∈ l, 0 ≤ x ∧ x ≤ 255) (hl : l.length ≤ 1000) : ∃ k, meanderlaw10_GcodeLoads.j0 k l true = some true := by
  have hlen : l.length < 140737488355328 := by omega
  rcases Bool.eq_false_or_eq_true ((gcode_Take.q (gcode_Take.p l)).1 || !(gcode_Take.q (gcode_Take.p l)).2.1.isEmpty) with e | e
  · have ht : gcode_Take.f l = some ([], [], 2) := by
      unfold gcode_Take.f
      rw [if_pos (range_all hx), if_pos e]
    refine ⟨0 + 1, ?_⟩
    rw [meanderlaw10_GcodeLoads.j0]
    simp only [Option.bind_some, List.nil_append, List.length_nil, Nat.zero_add, hlen, if_true, gcode_Load.f, ht]
    simp
  · rw [Bool.or_eq_false_iff] at e
    have hr : (gcode_Take.q (gcode_Take.p l)).2.1 = [] := by simpa using e.2
    obtain ⟨b1, b2, b3, b4⟩ := laid_again l hx e.1 hr
    have ht : gcode_Take.f l = some ((gcode_Take.p l).2.2, (gcode_Take.q (gcode_Take.p l)).2.2, 0) := by
      unfold gcode_Take.f
      rw [if_pos (range_all hx), if_neg (by rw [e.1, e.2]; simp)]
    generalize (gcode_Take.p l).2.2 = ns at ht b1 b3 b4
    generalize (gcode_Take.q (gcode_Take.p l)).2.2 = es at ht b2 b3 b4
    clear e hr
    obtain ⟨K1, h1⟩ := Pure.graph_s ns es
    obtain ⟨K2, h2⟩ := Pure.rgraph_s ns es
    obtain ⟨K3, h3⟩ := same_le ns es ns es (by omega) (by omega)
    obtain ⟨K4, h4⟩ := same_le ns es [] [] (by omega) (by omega)
    have g1 := h1 (K1 + K2 + K3 + K4) (by omega)
    have g2 := h2 (K1 + K2 + K3 + K4) (by omega)
    have g3 := h3 (K1 + K2 + K3 + K4) (by omega)
    have g4 := h4 (K1 + K2 + K3 + K4) (by omega)
    have g5 := put_s ns es (by omega) (by omega)
    rw [b3] at g5
    generalize K1 + K2 + K3 + K4 = k at g1 g2 g3 g4
    clear h1 h2 h3 h4
    refine ⟨k + 1, ?_⟩
    rw [meanderlaw10_GcodeLoads.j0]
    by_cases hg : Pure.graphS ns es = 0
    · have hL : gcode_Load.f k l = some (ns, es, 0) := by
        unfold gcode_Load.f
        simp only [ht, Option.bind_some, if_true, g1]
        rw [if_pos hg]
      simp only [Option.bind_some, List.nil_append, List.length_nil, Nat.zero_add, hlen, if_true, ht, hL, g3, g5, g2, and_self, decide_true]
      rw [if_pos hg.symm]
      simp [b4]
    · have hL : gcode_Load.f k l = some ([], [], Pure.graphS ns es) := by
        unfold gcode_Load.f
        simp only [ht, Option.bind_some, if_true, g1]
        rw [if_neg hg]
      simp only [Option.bind_some, List.nil_append, List.length_nil, Nat.zero_add, hlen, if_true, ht, hL, g4, g5, g2]
      rw [if_neg hg]
      simp [b4]
theorem loads_s (l : List Int) (hx : ∀ x ∈ l, 0 ≤ x ∧ x ≤ 255) : ∃ k, meanderlaw10_GcodeLoads.f k l = some true := by
  unfold meanderlaw10_GcodeLoads.f
  by_cases h : (l.length : Int) > 1000
  · obtain ⟨k, hk⟩ := loads_j (l.take 1000) (fun x hm => hx x (List.mem_of_mem_take hm)) (by rw [List.length_take]; omega)
    refine ⟨k, ?_⟩
    rw [shown_s, Option.bind_some, if_pos h, if_pos (by omega)]
    exact hk
  · obtain ⟨k, hk⟩ := loads_j l hx (by omega)
    refine ⟨k, ?_⟩
    rw [shown_s, Option.bind_some, if_neg h]
    exact hk
end Go.Proofs.YtbjjcolbomaodaaDoor.GPure
