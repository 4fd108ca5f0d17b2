/- The document's Take answers as gcode.Take does. Plain lists; no program in sight. -/
import Derived.Test.YtbjjcolbomaodaaDoorGcLaidTks
import Derived.Test.YtbjjcolbomaodaaDoorPTksx7
namespace Go.Proofs.YtbjjcolbomaodaaDoor.GPure
open Classical Go.RowKit Go.Proofs.YtbjjcolbomaodaaDoor.PTks Go.Proofs.YtbjjcolbomaodaaDoorW.PrintWords Go.Proofs.YtbjjcolbomaodaaDoorW.PrintLast Go.Proofs.YtbjjcolbomaodaaDoorW.PrintMore
set_option linter.unusedVariables false
set_option linter.unusedSimpArgs false
/-- Enough bytes: it is never bad, and so many are read. -/
theorem nodes_len : ∀ (n : Nat) (xs : List Int) (acc : List S40), 6 * n ≤ xs.length → (gcode_Take.nodes n false xs acc).1 = false ∧ (gcode_Take.nodes n false xs acc).2.1 = xs.drop (6 * n) := by
  intro n
  induction n with
  | zero => intro xs acc _; exact ⟨rfl, rfl⟩
  | succ n ih =>
    intro xs acc h
    rcases six xs with ⟨a, b, c, d, e, f, t, rfl⟩ | h6
    · rw [nodes_step]
      have h1 : 6 * n ≤ t.length := by simp only [List.length_cons] at h; omega
      have h2 := ih t (acc ++ [⟨a, Gc.num2 c d, Gc.num2 e f, b⟩]) h1
      refine ⟨h2.1, h2.2.trans ?_⟩
      rw [show 6 * (n + 1) = 6 * n + 6 from by omega]
      rfl
    · exfalso
      match xs, h, h6 with
      | a :: b :: c :: d :: e :: f :: t, _, h6 => cases h6
theorem edges_len : ∀ (n : Nat) (xs : List Int) (acc : List S42), 3 * n ≤ xs.length → (gcode_Take.edges n false xs acc).1 = false ∧ (gcode_Take.edges n false xs acc).2.1 = xs.drop (3 * n) := by
  intro n
  induction n with
  | zero => intro xs acc _; exact ⟨rfl, rfl⟩
  | succ n ih =>
    intro xs acc h
    rcases three xs with ⟨a, b, c, t, rfl⟩ | h6
    · rw [edges_step]
      have h1 : 3 * n ≤ t.length := by simp only [List.length_cons] at h; omega
      have h2 := ih t (acc ++ [⟨a, b, c⟩]) h1
      refine ⟨h2.1, h2.2.trans ?_⟩
      rw [show 3 * (n + 1) = 3 * n + 3 from by omega]
      rfl
    · exfalso
      match xs, h, h6 with
      | a :: b :: c :: t, _, h6 => cases h6
theorem number_s (l : List Int) (hx : ∀ x ∈ l, 0 ≤ x ∧ x ≤ 255) (hl : l.length ≤ 3000) (i : Nat) (h : i + 1 < l.length) : meanderref10_number.f l (i : Int) = some (Gc.num2 (rd l (i : Int)) (rd l ((i : Int) + 1))) := by
  have r : ∀ j : Nat, j < l.length → 0 ≤ rd l (j : Int) ∧ rd l (j : Int) ≤ 255 := fun j hj => by
    have e : rd l (j : Int) = l[j] := by simp [rd, hj]
    rw [e]
    exact hx _ (List.getElem_mem hj)
  obtain ⟨a0, a1⟩ := r i (by omega)
  obtain ⟨b0, b1⟩ := r (i + 1) h
  have e1 : ((i + 1 : Nat) : Int) = (i : Int) + 1 := rfl
  rw [e1] at b0 b1
  have w1 : wrap64 ((i : Int) + 1) = (i : Int) + 1 := w_id (by omega) (by omega)
  unfold meanderref10_number.f
  rw [if_pos (by omega), if_pos (by omega), w1, if_pos (by omega), if_pos (by omega)]
  generalize rd l (i : Int) = x at a0 a1
  generalize rd l ((i : Int) + 1) = y at b0 b1
  have w2 : wrap64 x = x := w_id (by omega) (by omega)
  have w3 : wrap64 y = y := w_id (by omega) (by omega)
  have w4 : wrap64 (256 * x) = 256 * x := w_id (by omega) (by omega)
  have w5 : wrap64 (256 * x + y) = 256 * x + y := w_id (by omega) (by omega)
  have w6 : wrap64 (256 * x + y - 65536) = 256 * x + y - 65536 := w_id (by omega) (by omega)
  simp only [w2, w3, w4, w5, w6]
  unfold Gc.num2
  by_cases c : 128 ≤ x
  · rw [if_pos (by omega), if_pos c]
    exact congrArg some (by omega)
  · rw [if_neg (by omega), if_neg c]
    exact congrArg some (by omega)
theorem flat_get {α : Type} (g : α → List Int) (k : Nat) (hk : ∀ a, (g a).length = k) : ∀ (xs : List α) (i c : Nat) (h : i < xs.length), c < k → (xs.flatMap g)[k * i + c]? = (g xs[i])[c]?
  | [], i, c, h, _ => absurd h (Nat.not_lt_zero _)
  | x :: xs, 0, c, h, hc => by
    rw [List.flatMap_cons, Nat.mul_zero, Nat.zero_add, List.getElem?_append_left (by rw [hk]; exact hc)]
    rfl
  | x :: xs, i + 1, c, h, hc => by
    have hi : i < xs.length := by simpa using h
    rw [List.flatMap_cons, List.getElem?_append_right (by rw [hk, Nat.mul_succ]; omega), hk, show k * (i + 1) + c - k = k * i + c from by rw [Nat.mul_succ]; omega, flat_get g k hk xs i c hi hc]
    rfl
theorem flat_len {α : Type} (g : α → List Int) (k : Nat) (hk : ∀ a, (g a).length = k) : ∀ (xs : List α), (xs.flatMap g).length = k * xs.length
  | [] => rfl
  | x :: xs => by rw [List.flatMap_cons, List.length_append, hk, flat_len g k hk xs, List.length_cons, Nat.mul_succ, Nat.add_comm]
theorem mid_get (pre mid post : List Int) (j : Nat) (h : j < mid.length) : (pre ++ (mid ++ post))[pre.length + j]? = mid[j]? := by
  rw [List.getElem?_append_right (by omega), Nat.add_sub_cancel_left, List.getElem?_append_left h]
theorem rd_of {l : List Int} {j : Nat} {x : Int} (h : l[j]? = some x) : rd l (j : Int) = x := by
  unfold rd
  rw [List.getD_eq_getElem?_getD, Int.toNat_natCast, h]
  rfl
/-- What is read where, of bytes that were laid down. -/
theorem laid_reads (ns : List S40) (es : List S42) (hb : gcode_Put.b2 ns es es.length = false) :
    (gcode_Put.p2 ns es es.length).length = 4 + 6 * ns.length + 3 * es.length ∧ rd (gcode_Put.p2 ns es es.length) 0 = 77 ∧ rd (gcode_Put.p2 ns es es.length) 1 = 71 ∧ rd (gcode_Put.p2 ns es es.length) 2 = (ns.length : Int) ∧ rd (gcode_Put.p2 ns es es.length) ((3 + 6 * ns.length : Nat) : Int) = (es.length : Int) ∧
    (∀ (j : Nat) (h : j < ns.length), rd (gcode_Put.p2 ns es es.length) ((3 + 6 * j : Nat) : Int) = ns[j].f0 ∧ rd (gcode_Put.p2 ns es es.length) ((3 + 6 * j + 1 : Nat) : Int) = ns[j].f3 ∧ Gc.num2 (rd (gcode_Put.p2 ns es es.length) ((3 + 6 * j + 2 : Nat) : Int)) (rd (gcode_Put.p2 ns es es.length) ((3 + 6 * j + 3 : Nat) : Int)) = ns[j].f1 ∧ Gc.num2 (rd (gcode_Put.p2 ns es es.length) ((3 + 6 * j + 4 : Nat) : Int)) (rd (gcode_Put.p2 ns es es.length) ((3 + 6 * j + 5 : Nat) : Int)) = ns[j].f2) ∧
    (∀ (j : Nat) (h : j < es.length), rd (gcode_Put.p2 ns es es.length) ((4 + 6 * ns.length + 3 * j : Nat) : Int) = es[j].f0 ∧ rd (gcode_Put.p2 ns es es.length) ((4 + 6 * ns.length + 3 * j + 1 : Nat) : Int) = es[j].f1 ∧ rd (gcode_Put.p2 ns es es.length) ((4 + 6 * ns.length + 3 * j + 2 : Nat) : Int) = es[j].f2) := by
  obtain ⟨a1, a2, a3, a4⟩ := b2_parts hb
  have e1 : (ns.length : Int) % 256 = ns.length := by omega
  have e2 : (es.length : Int) % 256 = es.length := by omega
  have fN : (ns.flatMap nb).length = 6 * ns.length := flat_len nb 6 (fun _ => rfl) ns
  have fE : (es.flatMap eb).length = 3 * es.length := flat_len eb 3 (fun _ => rfl) es
  have el : gcode_Put.p2 ns es es.length = [77, 71, (ns.length : Int)] ++ (ns.flatMap nb ++ ((es.length : Int) :: es.flatMap eb)) := by
    rw [p2_eq, e1, e2]
    rfl
  have el2 : gcode_Put.p2 ns es es.length = ([77, 71, (ns.length : Int)] ++ ns.flatMap nb) ++ ([(es.length : Int)] ++ es.flatMap eb) := by
    rw [el, List.append_assoc]
    rfl
  have el3 : gcode_Put.p2 ns es es.length = (([77, 71, (ns.length : Int)] ++ ns.flatMap nb) ++ [(es.length : Int)]) ++ (es.flatMap eb ++ []) := by
    rw [el2, List.append_nil]
    simp only [List.append_assoc]
  have gN : ∀ (j c : Nat) (h : j < ns.length), c < 6 → (gcode_Put.p2 ns es es.length)[3 + 6 * j + c]? = (nb ns[j])[c]? := fun j c h hc => by
    rw [el, show 3 + 6 * j + c = [77, 71, (ns.length : Int)].length + (6 * j + c) from by simp; omega, mid_get _ _ _ _ (by rw [fN]; omega)]
    exact flat_get nb 6 (fun _ => rfl) ns j c h hc
  have gE : ∀ (j c : Nat) (h : j < es.length), c < 3 → (gcode_Put.p2 ns es es.length)[4 + 6 * ns.length + 3 * j + c]? = (eb es[j])[c]? := fun j c h hc => by
    rw [el3, show 4 + 6 * ns.length + 3 * j + c = ([77, 71, (ns.length : Int)] ++ ns.flatMap nb ++ [(es.length : Int)]).length + (3 * j + c) from by simp only [List.length_append, fN, List.length_cons, List.length_nil]; omega, mid_get _ _ _ _ (by rw [fE]; omega)]
    exact flat_get eb 3 (fun _ => rfl) es j c h hc
  refine ⟨?_, ?_, ?_, ?_, ?_, fun j h => ?_, fun j h => ?_⟩
  · rw [el2, List.length_append, List.length_append, List.length_append, fN, fE]
    simp only [List.length_cons, List.length_nil]
    omega
  · rw [el]; rfl
  · rw [el]; rfl
  · rw [el]; rfl
  · refine rd_of ?_
    rw [el2, List.getElem?_append_right (by rw [List.length_append, fN]; simp only [List.length_cons, List.length_nil]; omega), List.length_append, fN, show 3 + 6 * ns.length - ([77, 71, (ns.length : Int)].length + 6 * ns.length) = 0 from by simp only [List.length_cons, List.length_nil]; omega]
    rfl
  · have h3 := List.any_eq_false.1 a3 _ (List.getElem_mem h)
    rw [Bool.not_eq_true] at h3
    simp only [nbad, gcode_Put.nbad, Bool.or_eq_false_iff] at h3
    obtain ⟨⟨⟨h10, h11⟩, h12⟩, h13⟩ := h3
    have r0 := rd_of (gN j 0 h (by decide))
    have r1 := rd_of (gN j 1 h (by decide))
    have r2 := rd_of (gN j 2 h (by decide))
    have r3 := rd_of (gN j 3 h (by decide))
    have r4 := rd_of (gN j 4 h (by decide))
    have r5 := rd_of (gN j 5 h (by decide))
    rw [Nat.add_zero] at r0
    rw [r0, r1, r2, r3, r4, r5]
    exact ⟨one_back _ h10, one_back _ h11, num2_back _ h12, num2_back _ h13⟩
  · have h3 := List.any_eq_false.1 a4 _ (List.getElem_mem h)
    rw [Bool.not_eq_true] at h3
    simp only [ebad, gcode_Put.ebad, Bool.or_eq_false_iff] at h3
    obtain ⟨⟨h10, h11⟩, h12⟩ := h3
    have r0 := rd_of (gE j 0 h (by decide))
    have r1 := rd_of (gE j 1 h (by decide))
    have r2 := rd_of (gE j 2 h (by decide))
    rw [Nat.add_zero] at r0
    rw [r0, r1, r2]
    exact ⟨one_back _ h10, one_back _ h11, one_back _ h12⟩
theorem rd_range {l : List Int} (hx : ∀ x ∈ l, 0 ≤ x ∧ x ≤ 255) (j : Nat) (hj : j < l.length) : 0 ≤ rd l (j : Int) ∧ rd l (j : Int) ≤ 255 := by
  rw [rd_of (List.getElem?_eq_getElem hj)]
  exact hx _ (List.getElem_mem hj)
theorem rt_l1 (l : List Int) (hx : ∀ x ∈ l, 0 ≤ x ∧ x ≤ 255) (n m : Nat) (ns : List S40) (es : List S42) (hm : es.length = m) (hn : n ≤ 255) (hm2 : m ≤ 255) (hlen : l.length = 4 + 6 * n + 3 * m)
    (hE : ∀ (j : Nat) (h : j < es.length), rd l ((4 + 6 * n + 3 * j : Nat) : Int) = es[j].f0 ∧ rd l ((4 + 6 * n + 3 * j + 1 : Nat) : Int) = es[j].f1 ∧ rd l ((4 + 6 * n + 3 * j + 2 : Nat) : Int) = es[j].f2) (K : Nat) :
    ∀ (d i : Nat), m - i = d → i ≤ m → meanderref10_Take.l1 (d + 1 + K) l (n : Int) (m : Int) (i : Int) ns (es.take i) = some (ns, es, 0) := by
  intro d
  induction d with
  | zero =>
    intro i h1 h2
    obtain rfl : i = m := by omega
    rw [Nat.zero_add, Nat.add_comm, meanderref10_Take.l1, if_neg (by omega), List.take_of_length_le (by omega)]
  | succ d ih =>
    intro i h1 h2
    have hi : i < es.length := by omega
    obtain ⟨r0, r1, r2⟩ := hE i hi
    have b0 := rd_range hx (4 + 6 * n + 3 * i) (by omega)
    have b1 := rd_range hx (4 + 6 * n + 3 * i + 1) (by omega)
    have b2 := rd_range hx (4 + 6 * n + 3 * i + 2) (by omega)
    have hl : (es.take i).length < 5864062014805 := by rw [List.length_take]; exact Nat.lt_of_le_of_lt (Nat.min_le_left _ _) (by omega)
    have e : es.take i ++ [(⟨es[i].f0, es[i].f1, es[i].f2⟩ : S42)] = es.take (i + 1) := by rw [List.take_succ_eq_append_getElem hi]
    have ih' := ih (i + 1) (by omega) (by omega)
    have c1 : (i : Int) < (m : Int) := by omega
    have c2 : (0 : Int) ≤ ((4 + 6 * n + 3 * i : Nat) : Int) ∧ ((4 + 6 * n + 3 * i : Nat) : Int) < (l.length : Int) := by omega
    have c3 : (0 : Int) ≤ ((4 + 6 * n + 3 * i + 1 : Nat) : Int) ∧ ((4 + 6 * n + 3 * i + 1 : Nat) : Int) < (l.length : Int) := by omega
    have c4 : (0 : Int) ≤ ((4 + 6 * n + 3 * i + 2 : Nat) : Int) ∧ ((4 + 6 * n + 3 * i + 2 : Nat) : Int) < (l.length : Int) := by omega
    have hw : wrap64 (6 * (n : Int)) = 6 * (n : Int) ∧ wrap64 (4 + 6 * (n : Int)) = 4 + 6 * (n : Int) ∧ wrap64 (3 * (i : Int)) = 3 * (i : Int) ∧ wrap64 (4 + 6 * (n : Int) + 3 * (i : Int)) = ((4 + 6 * n + 3 * i : Nat) : Int) ∧ wrap64 (((4 + 6 * n + 3 * i : Nat) : Int) + 1) = ((4 + 6 * n + 3 * i + 1 : Nat) : Int) ∧ wrap64 (((4 + 6 * n + 3 * i : Nat) : Int) + 2) = ((4 + 6 * n + 3 * i + 2 : Nat) : Int) ∧ wrap64 ((i : Int) + 1) = ((i + 1 : Nat) : Int) ∧ wrap64 (rd l ((4 + 6 * n + 3 * i : Nat) : Int)) = es[i].f0 ∧ wrap64 (rd l ((4 + 6 * n + 3 * i + 1 : Nat) : Int)) = es[i].f1 ∧ wrap64 (rd l ((4 + 6 * n + 3 * i + 2 : Nat) : Int)) = es[i].f2 :=
      ⟨w_id (by omega) (by omega), w_id (by omega) (by omega), w_id (by omega) (by omega), (w_id (by omega) (by omega)).trans (by omega), w_id (by omega) (by omega), w_id (by omega) (by omega), w_id (by omega) (by omega), (w_id (by omega) (by omega)).trans r0, (w_id (by omega) (by omega)).trans r1, (w_id (by omega) (by omega)).trans r2⟩
    obtain ⟨w1, w2, w3, w4, w5, w6, w7, v0, v1, v2⟩ := hw
    rw [show d + 1 + 1 + K = (d + 1 + K) + 1 from Nat.add_right_comm _ _ _, meanderref10_Take.l1, w1, w2, w3, w4, w5, w6, w7, v0, v1, v2, e]
    generalize 5864062014805 = Z at hl ⊢
    rw [if_pos c1, if_pos c2.1, if_pos c2.2, if_pos c3.1, if_pos c3.2, if_pos c4.1, if_pos c4.2, if_pos hl]
    exact ih'
theorem rt_l0 (l : List Int) (hx : ∀ x ∈ l, 0 ≤ x ∧ x ≤ 255) (hl0 : l.length ≤ 3000) (n m : Nat) (ns : List S40) (X : Option (List S40 × List S42 × Int)) (hns : ns.length = n) (hn : n ≤ 255) (hlen : 4 + 6 * n ≤ l.length)
    (hN : ∀ (j : Nat) (h : j < ns.length), rd l ((3 + 6 * j : Nat) : Int) = ns[j].f0 ∧ rd l ((3 + 6 * j + 1 : Nat) : Int) = ns[j].f3 ∧ Gc.num2 (rd l ((3 + 6 * j + 2 : Nat) : Int)) (rd l ((3 + 6 * j + 3 : Nat) : Int)) = ns[j].f1 ∧ Gc.num2 (rd l ((3 + 6 * j + 4 : Nat) : Int)) (rd l ((3 + 6 * j + 5 : Nat) : Int)) = ns[j].f2) (K : Nat)
    (hX : meanderref10_Take.l1 K l (n : Int) (m : Int) 0 ns [] = X) :
    ∀ (d i : Nat), n - i = d → i ≤ n → meanderref10_Take.l0 (d + 1 + K) l (n : Int) (m : Int) (i : Int) (ns.take i) = X := by
  intro d
  induction d with
  | zero =>
    intro i h1 h2
    obtain rfl : i = n := by omega
    rw [Nat.zero_add, Nat.add_comm, meanderref10_Take.l0, if_neg (by omega), List.take_of_length_le (by omega)]
    exact hX
  | succ d ih =>
    intro i h1 h2
    have hi : i < ns.length := by omega
    obtain ⟨r0, r1, r2, r3⟩ := hN i hi
    have b0 := rd_range hx (3 + 6 * i) (by omega)
    have b1 := rd_range hx (3 + 6 * i + 1) (by omega)
    have n1 : meanderref10_number.f l ((3 + 6 * i + 2 : Nat) : Int) = some ns[i].f1 := (number_s l hx hl0 (3 + 6 * i + 2) (by omega)).trans (congrArg some r2)
    have n2 : meanderref10_number.f l ((3 + 6 * i + 4 : Nat) : Int) = some ns[i].f2 := (number_s l hx hl0 (3 + 6 * i + 4) (by omega)).trans (congrArg some r3)
    have hl : (ns.take i).length < 4398046511104 := by rw [List.length_take]; exact Nat.lt_of_le_of_lt (Nat.min_le_left _ _) (by omega)
    have e : ns.take i ++ [(⟨ns[i].f0, ns[i].f1, ns[i].f2, ns[i].f3⟩ : S40)] = ns.take (i + 1) := by rw [List.take_succ_eq_append_getElem hi]
    have ih' := ih (i + 1) (by omega) (by omega)
    have c1 : (i : Int) < (n : Int) := by omega
    have c2 : (0 : Int) ≤ ((3 + 6 * i : Nat) : Int) ∧ ((3 + 6 * i : Nat) : Int) < (l.length : Int) := by omega
    have c3 : (0 : Int) ≤ ((3 + 6 * i + 1 : Nat) : Int) ∧ ((3 + 6 * i + 1 : Nat) : Int) < (l.length : Int) := by omega
    have hw : wrap64 (6 * (i : Int)) = 6 * (i : Int) ∧ wrap64 (3 + 6 * (i : Int)) = ((3 + 6 * i : Nat) : Int) ∧ wrap64 (((3 + 6 * i : Nat) : Int) + 1) = ((3 + 6 * i + 1 : Nat) : Int) ∧ wrap64 (((3 + 6 * i : Nat) : Int) + 2) = ((3 + 6 * i + 2 : Nat) : Int) ∧ wrap64 (((3 + 6 * i : Nat) : Int) + 4) = ((3 + 6 * i + 4 : Nat) : Int) ∧ wrap64 ((i : Int) + 1) = ((i + 1 : Nat) : Int) ∧ wrap64 (rd l ((3 + 6 * i : Nat) : Int)) = ns[i].f0 ∧ wrap64 (rd l ((3 + 6 * i + 1 : Nat) : Int)) = ns[i].f3 :=
      ⟨w_id (by omega) (by omega), (w_id (by omega) (by omega)).trans (by omega), w_id (by omega) (by omega), w_id (by omega) (by omega), w_id (by omega) (by omega), w_id (by omega) (by omega), (w_id (by omega) (by omega)).trans r0, (w_id (by omega) (by omega)).trans r1⟩
    obtain ⟨w1, w2, w5, w6, w8, w7, v0, v1⟩ := hw
    rw [show d + 1 + 1 + K = (d + 1 + K) + 1 from Nat.add_right_comm _ _ _, meanderref10_Take.l0, w1, w2, w5, w6, w7, w8, v0, v1, n1, n2, Option.bind_some, Option.bind_some, e]
    generalize 4398046511104 = Z at hl ⊢
    rw [if_pos c1, if_pos c2.1, if_pos c2.2, if_pos c3.1, if_pos c3.2, if_pos hl]
    exact ih'
/-- The document takes these bytes. -/
def Taken (l : List Int) : Prop := 4 ≤ l.length ∧ rd l 0 = 77 ∧ rd l 1 = 71 ∧ 4 + 6 * rd l 2 ≤ (l.length : Int) ∧ (l.length : Int) = 4 + 6 * rd l 2 + 3 * rd l (3 + 6 * rd l 2)
theorem reft_no (l : List Int) (hx : ∀ x ∈ l, 0 ≤ x ∧ x ≤ 255) (h : ¬ Taken l) (k : Nat) : meanderref10_Take.f (k + 1) l = some ([], [], 2) := by
  have hj : ∀ b : Bool, b = true → meanderref10_Take.j0 (k + 1) l b = some ([], [], 2) := fun b hb => by rw [meanderref10_Take.j0, if_pos hb]
  unfold meanderref10_Take.f
  by_cases c1 : (l.length : Int) < 4
  · rw [if_pos c1]; exact hj _ rfl
  rw [if_neg c1, if_pos (by omega)]
  by_cases c2 : rd l 0 = 77
  · rw [if_pos c2, if_pos (by omega)]
    by_cases c3 : rd l 1 = 71
    · rw [show (rd l 1 != 71) = false from by simp [c3], meanderref10_Take.j0, if_neg (by simp), if_pos (by omega)]
      have b2 : 0 ≤ rd l 2 ∧ rd l 2 ≤ 255 := rd_range hx 2 (by omega)
      have hw : wrap64 (rd l 2) = rd l 2 ∧ wrap64 (6 * rd l 2) = 6 * rd l 2 ∧ wrap64 (4 + 6 * rd l 2) = 4 + 6 * rd l 2 ∧ wrap64 (3 + 6 * rd l 2) = 3 + 6 * rd l 2 := ⟨w_id (by omega) (by omega), w_id (by omega) (by omega), w_id (by omega) (by omega), w_id (by omega) (by omega)⟩
      by_cases c4 : (l.length : Int) < 4 + 6 * rd l 2
      · rw [hw.1, hw.2.1, hw.2.2.1, if_pos c4]
      · have b3 := rd_range hx (3 + 6 * rd l 2).toNat (by omega)
        rw [show (((3 + 6 * rd l 2).toNat : Nat) : Int) = 3 + 6 * rd l 2 from by omega] at b3
        have d1 : (0 : Int) ≤ 3 + 6 * rd l 2 := by omega
        have d2 : 3 + 6 * rd l 2 < (l.length : Int) := by omega
        have c5 : ¬ (l.length : Int) = 4 + 6 * rd l 2 + 3 * rd l (3 + 6 * rd l 2) := fun c5 => h ⟨by omega, c2, c3, by omega, c5⟩
        have hv : wrap64 (rd l (3 + 6 * rd l 2)) = rd l (3 + 6 * rd l 2) ∧ wrap64 (3 * rd l (3 + 6 * rd l 2)) = 3 * rd l (3 + 6 * rd l 2) ∧ wrap64 (4 + 6 * rd l 2 + 3 * rd l (3 + 6 * rd l 2)) = 4 + 6 * rd l 2 + 3 * rd l (3 + 6 * rd l 2) := by
          clear hw
          exact ⟨w_id (by omega) (by omega), w_id (by omega) (by omega), w_id (by omega) (by omega)⟩
        rw [hw.1, hw.2.1, hw.2.2.1, hw.2.2.2, hv.1, hv.2.1, hv.2.2, if_neg c4, if_pos d1, if_pos d2, if_neg c5]
    · rw [show (rd l 1 != 71) = true from by simp [c3]]
      exact hj _ rfl
  · rw [if_neg c2]; exact hj _ rfl
theorem taken_ok (l : List Int) (hx : ∀ x ∈ l, 0 ≤ x ∧ x ≤ 255) (h : Taken l) : ((gcode_Take.q (gcode_Take.p l)).1 || !(gcode_Take.q (gcode_Take.p l)).2.1.isEmpty) = false := by
  obtain ⟨h0, h1, h2, h3, h4⟩ := h
  match l, h0, h1, h2, h3, h4, hx with
  | a :: b :: x :: t, h0, h1, h2, h3, h4, hx =>
    have ea : a = 77 := h1
    have eb' : b = 71 := h2
    have ex : rd (a :: b :: x :: t) 2 = x := rfl
    rw [ex] at h3 h4
    have hx0 := hx x (by simp)
    simp only [List.length_cons] at h3 h4
    have e3 : rd (a :: b :: x :: t) (3 + 6 * x) = rd t (6 * x) := by
      unfold rd
      rw [show (3 + 6 * x).toNat = (6 * x).toNat + 1 + 1 + 1 from by omega]
      rfl
    rw [e3] at h4
    subst ea eb'
    have p1 : gcode_Take.p (77 :: 71 :: x :: t) = gcode_Take.nodes x.toNat false t [] := rfl
    have n1 := nodes_len x.toNat t [] (by omega)
    obtain ⟨y, u, hyu⟩ : ∃ y u, t.drop (6 * x.toNat) = y :: u := by
      cases hd : t.drop (6 * x.toNat) with
      | nil =>
        have := congrArg List.length hd
        rw [List.length_drop] at this
        simp only [List.length_nil] at this
        omega
      | cons y u => exact ⟨y, u, rfl⟩
    have ey : rd t (6 * x) = y := by
      have : t[6 * x.toNat]? = some y := by
        have h5 := List.getElem?_drop (xs := t) (i := 6 * x.toNat) (j := 0)
        rw [hyu, Nat.add_zero] at h5
        exact h5.symm
      rw [show 6 * x = ((6 * x.toNat : Nat) : Int) from by omega]
      exact rd_of this
    rw [ey] at h4
    have hlu : t.length = 6 * x.toNat + 1 + u.length := by
      have := congrArg List.length hyu
      rw [List.length_drop] at this
      simp only [List.length_cons] at this
      omega
    have q1 : gcode_Take.q (gcode_Take.p (77 :: 71 :: x :: t)) = gcode_Take.edges y.toNat false u [] := by
      unfold gcode_Take.q
      rw [p1, n1.1, n1.2, hyu]
      rfl
    have n2 := edges_len y.toNat u [] (by omega)
    rw [q1, n2.1, n2.2, List.drop_of_length_le (by omega)]
    rfl
theorem reft_s (l : List Int) (hx : ∀ x ∈ l, 0 ≤ x ∧ x ≤ 255) (hl : l.length ≤ 1000) : ∃ K, ∀ k, K ≤ k → meanderref10_Take.f k l = gcode_Take.f l := by
  rcases Bool.eq_false_or_eq_true ((gcode_Take.q (gcode_Take.p l)).1 || !(gcode_Take.q (gcode_Take.p l)).2.1.isEmpty) with e | e
  · have ht : gcode_Take.f l = some ([], [], 2) := by
      unfold gcode_Take.f
      rw [if_pos (range_all hx), if_pos e]
    refine ⟨1, fun k hk => ?_⟩
    obtain ⟨d, rfl⟩ := Nat.exists_eq_add_of_le hk
    rw [ht, Nat.add_comm 1 d]
    refine reft_no l hx (fun h => ?_) d
    have := taken_ok l hx h
    rw [e] at this
    cases this
  · rw [Bool.or_eq_false_iff] at e
    have hr : (gcode_Take.q (gcode_Take.p l)).2.1 = [] := by simpa using e.2
    obtain ⟨b1, b2, b3, b4⟩ := laid_again l hx e.1 hr
    have ht : gcode_Take.f l = some ((gcode_Take.p l).2.2, (gcode_Take.q (gcode_Take.p l)).2.2, 0) := by
      unfold gcode_Take.f
      rw [if_pos (range_all hx), if_neg (by rw [e.1, e.2]; simp)]
    generalize (gcode_Take.p l).2.2 = ns at ht b1 b3 b4
    generalize (gcode_Take.q (gcode_Take.p l)).2.2 = es at ht b2 b3 b4
    clear e hr
    obtain ⟨c0, c1, c2, c3, c4, c5, c6⟩ := laid_reads ns es b3
    rw [b4] at c0 c1 c2 c3 c4 c5 c6
    refine ⟨(ns.length + 1 + (es.length + 1)) + 1, fun k hk => ?_⟩
    obtain ⟨d, rfl⟩ := Nat.exists_eq_add_of_le hk
    rw [ht, show ns.length + 1 + (es.length + 1) + 1 + d = (ns.length + 1 + (es.length + 1 + d)) + 1 from by omega]
    have k1 := rt_l1 l hx ns.length es.length ns es rfl (by omega) (by omega) c0 c6 d es.length 0 rfl (Nat.zero_le _)
    have k0 := rt_l0 l hx (by omega) ns.length es.length ns _ rfl (by omega) (by omega) c5 (es.length + 1 + d) k1 ns.length 0 rfl (Nat.zero_le _)
    have z1 : ¬ (l.length : Int) < 4 := by omega
    have z2 : (0 : Int) < (l.length : Int) ∧ (1 : Int) < (l.length : Int) ∧ (2 : Int) < (l.length : Int) := by omega
    have z3 : ¬ (l.length : Int) < 4 + 6 * (ns.length : Int) := by omega
    have z4 : (0 : Int) ≤ ((3 + 6 * ns.length : Nat) : Int) ∧ ((3 + 6 * ns.length : Nat) : Int) < (l.length : Int) := by omega
    have z5 : (l.length : Int) = 4 + 6 * (ns.length : Int) + 3 * (es.length : Int) := by omega
    clear b4 c5 c6 k1
    have hw : wrap64 (ns.length : Int) = ns.length ∧ wrap64 (6 * (ns.length : Int)) = 6 * (ns.length : Int) ∧ wrap64 (4 + 6 * (ns.length : Int)) = 4 + 6 * (ns.length : Int) ∧ wrap64 (3 + 6 * (ns.length : Int)) = ((3 + 6 * ns.length : Nat) : Int) ∧ wrap64 (es.length : Int) = es.length ∧ wrap64 (3 * (es.length : Int)) = 3 * (es.length : Int) ∧ wrap64 (4 + 6 * (ns.length : Int) + 3 * (es.length : Int)) = 4 + 6 * (ns.length : Int) + 3 * (es.length : Int) :=
      ⟨w_id (by omega) (by omega), w_id (by omega) (by omega), w_id (by omega) (by omega), (w_id (by omega) (by omega)).trans (by omega), w_id (by omega) (by omega), w_id (by omega) (by omega), w_id (by omega) (by omega)⟩
    obtain ⟨w1, w2, w3, w4, w5, w6, w7⟩ := hw
    unfold meanderref10_Take.f
    rw [if_neg z1, if_pos z2.1, if_pos c1, if_pos z2.2.1, c2, show ((71 : Int) != 71) = false from rfl, meanderref10_Take.j0, if_neg Bool.false_ne_true, if_pos z2.2.2, c3, w1, w2, w3, w4, c4, w5, w6, w7, if_neg z3, if_pos z4.1, if_pos z4.2, if_pos z5]
    exact k0
end Go.Proofs.YtbjjcolbomaodaaDoor.GPure
