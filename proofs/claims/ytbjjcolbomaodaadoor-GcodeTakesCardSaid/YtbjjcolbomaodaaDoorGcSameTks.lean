/- Like graphs; how many bytes a graph has; unlike bytes, unlike graphs. Plain lists; no program in sight. -/
import Derived.Test.YtbjjcolbomaodaaDoorGcBaseTks
import Derived.Test.YtbjjcolbomaodaaDoorPTksx22
namespace Go.Proofs.YtbjjcolbomaodaaDoor.GPure
open Classical Go.RowKit Go.Proofs.YtbjjcolbomaodaaDoor.PTks Go.Proofs.YtbjjcolbomaodaaDoorW.PrintWords Go.Proofs.YtbjjcolbomaodaaDoorW.PrintLast Go.Proofs.YtbjjcolbomaodaaDoorW.PrintMore
set_option linter.unusedVariables false
set_option linter.unusedSimpArgs false

theorem same_l1 (ns : List S40) (es : List S42) (ms : List S40) (fs : List S42) (hl : es.length = fs.length) (he : es.length ≤ 1000) (n i : Nat) (hn : es.length - i = n) (hi : i ≤ es.length) (K : Nat) :
    meanderref08_SameGraph.l1 (n + 1 + K) (i : Int) ns es ms fs = some (decide (es.drop i = fs.drop i)) := by
  induction n generalizing i with
  | zero =>
    obtain rfl : i = es.length := by omega
    rw [Nat.zero_add, Nat.add_comm, meanderref08_SameGraph.l1, if_neg (by omega), List.drop_of_length_le (Nat.le_refl _), List.drop_of_length_le (by omega)]
    simp
  | succ n ih =>
    have h1 : i < es.length := by omega
    have h2 : i < fs.length := by omega
    rw [show n + 1 + 1 + K = (n + 1 + K) + 1 from by omega, meanderref08_SameGraph.l1, if_pos (by omega), if_pos (by omega), if_pos (by omega)]
    rw [List.drop_eq_getElem_cons h1, List.drop_eq_getElem_cons h2]
    simp only [rdE es i h1, rdE fs i h2]
    rw [w_nat i es.length h1 he, ih (i + 1) (by omega) (by omega)]
    obtain ⟨a0, a1, a2⟩ := es[i]
    obtain ⟨b0, b1, b2⟩ := fs[i]
    by_cases c0 : a0 = b0 <;> by_cases c1 : a1 = b1 <;> by_cases c2 : a2 = b2 <;> simp [c0, c1, c2]

theorem same_l0 (ns : List S40) (es : List S42) (ms : List S40) (fs : List S42) (hl : ns.length = ms.length) (he : ns.length ≤ 1000) (n i : Nat) (hn : ns.length - i = n) (hi : i ≤ ns.length) (K : Nat) :
    meanderref08_SameGraph.l0 (n + 1 + K) (i : Int) ns es ms fs = if ns.drop i = ms.drop i then meanderref08_SameGraph.l1 K 0 ns es ms fs else some false := by
  induction n generalizing i with
  | zero =>
    obtain rfl : i = ns.length := by omega
    rw [Nat.zero_add, Nat.add_comm, meanderref08_SameGraph.l0, if_neg (by omega), List.drop_of_length_le (Nat.le_refl _), List.drop_of_length_le (by omega), if_pos rfl]
  | succ n ih =>
    have h1 : i < ns.length := by omega
    have h2 : i < ms.length := by omega
    rw [show n + 1 + 1 + K = (n + 1 + K) + 1 from by omega, meanderref08_SameGraph.l0, if_pos (by omega), if_pos (by omega), if_pos (by omega)]
    rw [List.drop_eq_getElem_cons h1, List.drop_eq_getElem_cons h2]
    simp only [rdN ns i h1, rdN ms i h2]
    rw [w_nat i ns.length h1 he, ih (i + 1) (by omega) (by omega)]
    obtain ⟨a0, a1, a2, a3⟩ := ns[i]
    obtain ⟨b0, b1, b2, b3⟩ := ms[i]
    by_cases c0 : a0 = b0 <;> by_cases c1 : a1 = b1 <;> by_cases c2 : a2 = b2 <;> by_cases c3 : a3 = b3 <;> simp [c0, c1, c2, c3]

theorem same_s (ns : List S40) (es : List S42) (ms : List S40) (fs : List S42) (hn : ns.length ≤ 1000) (he : es.length ≤ 1000) :
    meanderref08_SameGraph.f ((ns.length + 1 + (es.length + 1)) + 1) ns es ms fs = some (decide (ns = ms ∧ es = fs)) := by
  unfold meanderref08_SameGraph.f
  by_cases c1 : ns.length = ms.length
  · rw [if_pos (by omega), meanderref08_SameGraph.j0]
    by_cases c2 : es.length = fs.length
    · rw [if_neg (by simp; omega)]
      have h0 := same_l0 ns es ms fs c1 hn ns.length 0 rfl (Nat.zero_le _) (es.length + 1)
      have h1 := same_l1 ns es ms fs c2 he es.length 0 rfl (Nat.zero_le _) 0
      simp only [List.drop_zero, Nat.add_zero, Int.ofNat_zero, Int.natCast_zero] at h0 h1
      rw [h0, h1]
      by_cases c3 : ns = ms <;> simp [c3]
    · rw [if_pos (by simp; omega)]
      have : ¬ (ns = ms ∧ es = fs) := fun h => c2 (by rw [h.2])
      rw [decide_eq_false this]
  · rw [if_neg (by omega), meanderref08_SameGraph.j0, if_pos rfl]
    have : ¬ (ns = ms ∧ es = fs) := fun h => c1 (by rw [h.1])
    rw [decide_eq_false this]

theorem nb_inj {n m : S40} (hn : nbad n = false) (hm : nbad m = false) (h : nb n = nb m) : n = m := by
  obtain ⟨a0, a1, a2, a3⟩ := n
  obtain ⟨b0, b1, b2, b3⟩ := m
  simp only [nbad, gcode_Put.nbad, Gc.bad1, Gc.bad2, Bool.or_eq_false_iff, decide_eq_false_iff_not] at hn hm
  simp only [nb, gcode_Put.nb, List.cons.injEq, and_true] at h
  have e0 : a0 = b0 := by omega
  have e1 : a1 = b1 := by omega
  have e2 : a2 = b2 := by omega
  have e3 : a3 = b3 := by omega
  rw [e0, e1, e2, e3]
theorem eb_inj {n m : S42} (hn : ebad n = false) (hm : ebad m = false) (h : eb n = eb m) : n = m := by
  obtain ⟨a0, a1, a2⟩ := n
  obtain ⟨b0, b1, b2⟩ := m
  simp only [ebad, gcode_Put.ebad, Gc.bad1, Gc.bad2, Bool.or_eq_false_iff, decide_eq_false_iff_not] at hn hm
  simp only [eb, gcode_Put.eb, List.cons.injEq, and_true] at h
  have e0 : a0 = b0 := by omega
  have e1 : a1 = b1 := by omega
  have e2 : a2 = b2 := by omega
  rw [e0, e1, e2]
theorem flat_inj {α : Type} (g : α → List Int) (bad : α → Bool) (k : Nat) (hk : ∀ a, (g a).length = k) (hinj : ∀ a b, bad a = false → bad b = false → g a = g b → a = b) :
    ∀ xs ys : List α, xs.length = ys.length → xs.any bad = false → ys.any bad = false → xs.flatMap g = ys.flatMap g → xs = ys
  | [], [], _, _, _, _ => rfl
  | [], _ :: _, h, _, _, _ => by cases h
  | _ :: _, [], h, _, _, _ => by cases h
  | x :: xs, y :: ys, h, hx, hy, he => by
    rw [List.any_cons, Bool.or_eq_false_iff] at hx hy
    rw [List.flatMap_cons, List.flatMap_cons] at he
    obtain ⟨h1, h2⟩ := List.append_inj he (by rw [hk, hk])
    rw [hinj x y hx.1 hy.1 h1, flat_inj g bad k hk hinj xs ys (by simpa using h) hx.2 hy.2 h2]

/-- All of what is laid are bytes. -/
theorem flat_range {α : Type} (g : α → List Int) (hg : ∀ a, ∀ x ∈ g a, 0 ≤ x ∧ x ≤ 255) (xs : List α) : ∀ x ∈ xs.flatMap g, 0 ≤ x ∧ x ≤ 255 := by
  intro x hx
  obtain ⟨a, _, ha⟩ := List.mem_flatMap.1 hx
  exact hg a x ha
theorem nb_range (n : S40) : ∀ x ∈ nb n, 0 ≤ x ∧ x ≤ 255 := by
  intro x hx
  simp only [nb, gcode_Put.nb, List.mem_cons, List.not_mem_nil, or_false] at hx
  omega
theorem eb_range (n : S42) : ∀ x ∈ eb n, 0 ≤ x ∧ x ≤ 255 := by
  intro x hx
  simp only [eb, gcode_Put.eb, List.mem_cons, List.not_mem_nil, or_false] at hx
  omega
theorem p2_eq (ns : List S40) (es : List S42) : gcode_Put.p2 ns es es.length = [77, 71, (ns.length : Int) % 256] ++ (ns.flatMap nb ++ ([(es.length : Int) % 256] ++ es.flatMap eb)) := by
  unfold gcode_Put.p2 gcode_Put.p1
  rw [List.take_of_length_le (Nat.le_refl _), List.take_of_length_le (Nat.le_refl _)]
  simp
theorem p2_range (ns : List S40) (es : List S42) : ∀ x ∈ gcode_Put.p2 ns es es.length, 0 ≤ x ∧ x ≤ 255 := by
  intro x hx
  rw [p2_eq, List.mem_append, List.mem_append, List.mem_append] at hx
  rcases hx with h | h | h | h
  · simp only [List.mem_cons, List.not_mem_nil, or_false] at h
    omega
  · exact flat_range nb nb_range ns x h
  · simp only [List.mem_cons, List.not_mem_nil, or_false] at h
    omega
  · exact flat_range eb eb_range es x h
theorem u8_inj : ∀ xs ys : List Int, (∀ x ∈ xs, 0 ≤ x ∧ x ≤ 255) → (∀ x ∈ ys, 0 ≤ x ∧ x ≤ 255) → (xs.map fun n => UInt8.ofNat n.toNat) = (ys.map fun n => UInt8.ofNat n.toNat) → xs = ys
  | [], [], _, _, _ => rfl
  | [], _ :: _, _, _, h => by cases h
  | _ :: _, [], _, _, h => by cases h
  | x :: xs, y :: ys, hx, hy, h => by
    rw [List.map_cons, List.map_cons, List.cons.injEq] at h
    have h1 := hx x (List.mem_cons_self ..)
    have h2 := hy y (List.mem_cons_self ..)
    have h3 := congrArg UInt8.toNat h.1
    rw [UInt8.toNat_ofNat', UInt8.toNat_ofNat'] at h3
    have : x = y := by omega
    rw [this, u8_inj xs ys (fun z hz => hx z (List.mem_cons_of_mem _ hz)) (fun z hz => hy z (List.mem_cons_of_mem _ hz)) h.2]
theorem b2_parts {ns : List S40} {es : List S42} (h : gcode_Put.b2 ns es es.length = false) : ns.length ≤ 255 ∧ es.length ≤ 255 ∧ ns.any nbad = false ∧ es.any ebad = false := by
  unfold gcode_Put.b2 gcode_Put.b1 at h
  rw [List.take_of_length_le (Nat.le_refl _), List.take_of_length_le (Nat.le_refl _), bad1_nat, bad1_nat] at h
  simp only [Bool.or_eq_false_iff, decide_eq_false_iff_not] at h
  obtain ⟨⟨⟨⟨_, h1⟩, h2⟩, h3⟩, h4⟩ := h
  exact ⟨by omega, by omega, h2, h4⟩
theorem p2_inj {ns ms : List S40} {es fs : List S42} (h : gcode_Put.b2 ns es es.length = false) (h' : gcode_Put.b2 ms fs fs.length = false) (e : gcode_Put.p2 ns es es.length = gcode_Put.p2 ms fs fs.length) : ns = ms ∧ es = fs := by
  obtain ⟨a1, a2, a3, a4⟩ := b2_parts h
  obtain ⟨b1, b2, b3, b4⟩ := b2_parts h'
  rw [p2_eq, p2_eq] at e
  obtain ⟨e1, e2⟩ := List.append_inj e rfl
  simp only [List.cons.injEq, and_true, true_and] at e1
  have l1 : ns.length = ms.length := by omega
  have fl : ∀ l : List S40, (l.flatMap nb).length = 6 * l.length := by
    intro l
    induction l with
    | nil => rfl
    | cons x l ih => rw [List.flatMap_cons, List.length_append, ih, List.length_cons]; simp [nb, gcode_Put.nb]; omega
  obtain ⟨e3, e4⟩ := List.append_inj e2 (by rw [fl, fl, l1])
  obtain ⟨e5, e6⟩ := List.append_inj e4 rfl
  simp only [List.cons.injEq, and_true] at e5
  have l2 : es.length = fs.length := by omega
  exact ⟨flat_inj nb nbad 6 (fun _ => rfl) (fun _ _ => nb_inj) ns ms l1 a3 b3 e3, flat_inj eb ebad 3 (fun _ => rfl) (fun _ _ => eb_inj) es fs l2 a4 b4 e6⟩
end Go.Proofs.YtbjjcolbomaodaaDoor.GPure
