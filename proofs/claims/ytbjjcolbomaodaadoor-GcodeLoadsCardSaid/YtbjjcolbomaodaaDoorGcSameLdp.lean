/- Like graphs; how many bytes a graph has; unlike bytes, unlike graphs. Plain lists; no program in sight. -/
import Derived.Test.YtbjjcolbomaodaaDoorGcBaseLdp
import Derived.Test.YtbjjcolbomaodaaDoorPLdpx12
namespace Go.Proofs.YtbjjcolbomaodaaDoor.GPure
open Classical Go.RowKit Go.Proofs.YtbjjcolbomaodaaDoor.PLdp Go.Proofs.YtbjjcolbomaodaaDoorW.PrintWords Go.Proofs.YtbjjcolbomaodaaDoorW.PrintLast Go.Proofs.YtbjjcolbomaodaaDoorW.PrintMore
set_option linter.unusedVariables false
set_option linter.unusedSimpArgs false
theorem same_l1 (ns : List S40) (es : List S42) (ms : List S40) (fs : List S42) (hl : es.length = fs.length) (he : es.length ≤ 1000) (n i : Nat) (hn : es.length - i = n) (hi : i ≤ es.length) (K : Nat) :
    meanderref08_SameGraph.l1 (n + 1 + K) (i : Int) ns es ms fs = some (decide (es.drop i = fs.drop i)) := by
  induction n generalizing i with
  | zero =>
    obtain rfl : i = es.length := by omega
    rw [Nat.zero_add, Nat.add_comm, meanderref08_SameGraph.l1, if_neg (by omega), List.drop_of_length_le (Nat.le_refl _), List.drop_of_length_le (by omega)]
    simp
  | succ n ih =>
    have h1 : i < es.length := by omega
    have h2 : i < fs.length := by omega
    rw [show n + 1 + 1 + K = (n + 1 + K) + 1 from by omega, meanderref08_SameGraph.l1, if_pos (by omega), if_pos (by omega), if_pos (by omega)]
    rw [List.drop_eq_getElem_cons h1, List.drop_eq_getElem_cons h2]
    simp only [rdE es i h1, rdE fs i h2]
    rw [w_nat i es.length h1 he, ih (i + 1) (by omega) (by omega)]
    obtain ⟨a0, a1, a2⟩ := es[i]
    obtain ⟨b0, b1, b2⟩ := fs[i]
    by_cases c0 : a0 = b0 <;> by_cases c1 : a1 = b1 <;> by_cases c2 : a2 = b2 <;> simp [c0, c1, c2]
theorem same_l0 (ns : List S40) (es : List S42) (ms : List S40) (fs : List S42) (hl : ns.length = ms.length) (he : ns.length ≤ 1000) (n i : Nat) (hn : ns.length - i = n) (hi : i ≤ ns.length) (K : Nat) :
    meanderref08_SameGraph.l0 (n + 1 + K) (i : Int) ns es ms fs = if ns.drop i = ms.drop i then meanderref08_SameGraph.l1 K 0 ns es ms fs else some false := by
  induction n generalizing i with
  | zero =>
    obtain rfl : i = ns.length := by omega
    rw [Nat.zero_add, Nat.add_comm, meanderref08_SameGraph.l0, if_neg (by omega), List.drop_of_length_le (Nat.le_refl _), List.drop_of_length_le (by omega), if_pos rfl]
  | succ n ih =>
    have h1 : i < ns.length := by omega
    have h2 : i < ms.length := by omega
    rw [show n + 1 + 1 + K = (n + 1 + K) + 1 from by omega, meanderref08_SameGraph.l0, if_pos (by omega), if_pos (by omega), if_pos (by omega)]
    rw [List.drop_eq_getElem_cons h1, List.drop_eq_getElem_cons h2]
    simp only [rdN ns i h1, rdN ms i h2]
    rw [w_nat i ns.length h1 he, ih (i + 1) (by omega) (by omega)]
    obtain ⟨a0, a1, a2, a3⟩ := ns[i]
    obtain ⟨b0, b1, b2, b3⟩ := ms[i]
    by_cases c0 : a0 = b0 <;> by_cases c1 : a1 = b1 <;> by_cases c2 : a2 = b2 <;> by_cases c3 : a3 = b3 <;> simp [c0, c1, c2, c3]
theorem same_s (ns : List S40) (es : List S42) (ms : List S40) (fs : List S42) (hn : ns.length ≤ 1000) (he : es.length ≤ 1000) :
    meanderref08_SameGraph.f ((ns.length + 1 + (es.length + 1)) + 1) ns es ms fs = some (decide (ns = ms ∧ es = fs)) := by
  unfold meanderref08_SameGraph.f
  by_cases c1 : ns.length = ms.length
  · rw [if_pos (by omega), meanderref08_SameGraph.j0]
    by_cases c2 : es.length = fs.length
    · rw [if_neg (by simp; omega)]
      have h0 := same_l0 ns es ms fs c1 hn ns.length 0 rfl (Nat.zero_le _) (es.length + 1)
      have h1 := same_l1 ns es ms fs c2 he es.length 0 rfl (Nat.zero_le _) 0
      simp only [List.drop_zero, Nat.add_zero, Int.ofNat_zero, Int.natCast_zero] at h0 h1
      rw [h0, h1]
      by_cases c3 : ns = ms <;> simp [c3]
    · rw [if_pos (by simp; omega)]
      have : ¬ (ns = ms ∧ es = fs) := fun h => c2 (by rw [h.2])
      rw [decide_eq_false this]
  · rw [if_neg (by omega), meanderref08_SameGraph.j0, if_pos rfl]
    have : ¬ (ns = ms ∧ es = fs) := fun h => c1 (by rw [h.1])
    rw [decide_eq_false this]
theorem flat_range {α : Type} (g : α → List Int) (hg : ∀ a, ∀ x ∈ g a, 0 ≤ x ∧ x ≤ 255) (xs : List α) : ∀ x ∈ xs.flatMap g, 0 ≤ x ∧ x ≤ 255 := by
  intro x hx
  obtain ⟨a, _, ha⟩ := List.mem_flatMap.1 hx
  exact hg a x ha
theorem nb_range (n : S40) : ∀ x ∈ nb n, 0 ≤ x ∧ x ≤ 255 := by
  intro x hx
  simp only [nb, gcode_Put.nb, List.mem_cons, List.not_mem_nil, or_false] at hx
  omega
theorem eb_range (n : S42) : ∀ x ∈ eb n, 0 ≤ x ∧ x ≤ 255 := by
  intro x hx
  simp only [eb, gcode_Put.eb, List.mem_cons, List.not_mem_nil, or_false] at hx
  omega
theorem p2_eq (ns : List S40) (es : List S42) : gcode_Put.p2 ns es es.length = [77, 71, (ns.length : Int) % 256] ++ (ns.flatMap nb ++ ([(es.length : Int) % 256] ++ es.flatMap eb)) := by
  unfold gcode_Put.p2 gcode_Put.p1
  rw [List.take_of_length_le (Nat.le_refl _), List.take_of_length_le (Nat.le_refl _)]
  simp
theorem p2_range (ns : List S40) (es : List S42) : ∀ x ∈ gcode_Put.p2 ns es es.length, 0 ≤ x ∧ x ≤ 255 := by
  intro x hx
  rw [p2_eq, List.mem_append, List.mem_append, List.mem_append] at hx
  rcases hx with h | h | h | h
  · simp only [List.mem_cons, List.not_mem_nil, or_false] at h
    omega
  · exact flat_range nb nb_range ns x h
  · simp only [List.mem_cons, List.not_mem_nil, or_false] at h
    omega
  · exact flat_range eb eb_range es x h
theorem b2_parts {ns : List S40} {es : List S42} (h : gcode_Put.b2 ns es es.length = false) : ns.length ≤ 255 ∧ es.length ≤ 255 ∧ ns.any nbad = false ∧ es.any ebad = false := by
  unfold gcode_Put.b2 gcode_Put.b1 at h
  rw [List.take_of_length_le (Nat.le_refl _), List.take_of_length_le (Nat.le_refl _), bad1_nat, bad1_nat] at h
  simp only [Bool.or_eq_false_iff, decide_eq_false_iff_not] at h
  obtain ⟨⟨⟨⟨_, h1⟩, h2⟩, h3⟩, h4⟩ := h
  exact ⟨by omega, by omega, h2, h4⟩
end Go.Proofs.YtbjjcolbomaodaaDoor.GPure
