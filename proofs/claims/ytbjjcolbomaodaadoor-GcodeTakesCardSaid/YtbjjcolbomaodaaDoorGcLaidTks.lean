/- Bytes that are taken as a graph are those that it is laid down as. Plain lists; no program in sight. -/
import Derived.Test.YtbjjcolbomaodaaDoorGcTakeTks
namespace Go.Proofs.YtbjjcolbomaodaaDoor.GPure
open Classical Go.RowKit Go.Proofs.YtbjjcolbomaodaaDoor.PTks Go.Proofs.YtbjjcolbomaodaaDoorW.PrintWords Go.Proofs.YtbjjcolbomaodaaDoorW.PrintLast Go.Proofs.YtbjjcolbomaodaaDoorW.PrintMore
set_option linter.unusedVariables false
set_option linter.unusedSimpArgs false
theorem num2_range {c d : Int} (hc : 0 ≤ c ∧ c ≤ 255) (hd : 0 ≤ d ∧ d ≤ 255) : Gc.bad2 (Gc.num2 c d) = false ∧ Gc.num2 c d / 256 % 256 = c ∧ Gc.num2 c d % 256 = d := by
  unfold Gc.bad2 Gc.num2
  simp only [Bool.or_eq_false_iff, decide_eq_false_iff_not]
  split <;> refine ⟨⟨?_, ?_⟩, ?_, ?_⟩ <;> omega
theorem bad1_range {a : Int} (ha : 0 ≤ a ∧ a ≤ 255) : Gc.bad1 a = false ∧ a % 256 = a := by
  unfold Gc.bad1
  simp only [Bool.or_eq_false_iff, decide_eq_false_iff_not]
  refine ⟨⟨?_, ?_⟩, ?_⟩ <;> omega
theorem nodes_laid : ∀ (n : Nat) (xs : List Int) (acc rest : List Int) (as0 bs : List S40), (∀ x ∈ xs, 0 ≤ x ∧ x ≤ 255) → gcode_Take.nodes n false xs as0 = (false, rest, bs) →
    ∃ ns, bs = as0 ++ ns ∧ ns.length = n ∧ xs = ns.flatMap nb ++ rest ∧ ns.any nbad = false := by
  intro n
  induction n with
  | zero =>
    intro xs _ rest as0 bs _ h
    simp only [gcode_Take.nodes, Prod.mk.injEq, true_and] at h
    exact ⟨[], by simp [h.2], rfl, by simp [h.1], rfl⟩
  | succ n ih =>
    intro xs _ rest as0 bs hx h
    rcases six xs with ⟨a, b, c, d, e, f, t, rfl⟩ | h6
    · rw [nodes_step] at h
      obtain ⟨ns, h1, h2, h3, h4⟩ := ih t [] rest _ bs (fun x hm => hx x (by simp [hm])) h
      obtain ⟨ra, ea⟩ := bad1_range (hx a (by simp))
      obtain ⟨rb, eb_⟩ := bad1_range (hx b (by simp))
      obtain ⟨r1, e1, e2⟩ := num2_range (hx c (by simp)) (hx d (by simp))
      obtain ⟨r2, e3, e4⟩ := num2_range (hx e (by simp)) (hx f (by simp))
      refine ⟨⟨a, Gc.num2 c d, Gc.num2 e f, b⟩ :: ns, by rw [h1]; simp, by simp [h2], ?_, ?_⟩
      · rw [List.flatMap_cons]
        simp only [nb, gcode_Put.nb, ea, eb_, e1, e2, e3, e4, List.cons_append, List.nil_append]
        rw [h3]
      · rw [List.any_cons, h4]
        simp [nbad, gcode_Put.nbad, ra, rb, r1, r2]
    · rw [nodes_false n xs as0 h6] at h
      cases h
theorem edges_laid : ∀ (n : Nat) (xs : List Int) (rest : List Int) (as0 bs : List S42), (∀ x ∈ xs, 0 ≤ x ∧ x ≤ 255) → gcode_Take.edges n false xs as0 = (false, rest, bs) →
    ∃ ns, bs = as0 ++ ns ∧ ns.length = n ∧ xs = ns.flatMap eb ++ rest ∧ ns.any ebad = false := by
  intro n
  induction n with
  | zero =>
    intro xs rest as0 bs _ h
    simp only [gcode_Take.edges, Prod.mk.injEq, true_and] at h
    exact ⟨[], by simp [h.2], rfl, by simp [h.1], rfl⟩
  | succ n ih =>
    intro xs rest as0 bs hx h
    rcases three xs with ⟨a, b, c, t, rfl⟩ | h6
    · rw [edges_step] at h
      obtain ⟨ns, h1, h2, h3, h4⟩ := ih t rest _ bs (fun x hm => hx x (by simp [hm])) h
      obtain ⟨ra, ea⟩ := bad1_range (hx a (by simp))
      obtain ⟨rb, eb_⟩ := bad1_range (hx b (by simp))
      obtain ⟨rc, ec⟩ := bad1_range (hx c (by simp))
      refine ⟨⟨a, b, c⟩ :: ns, by rw [h1]; simp, by simp [h2], ?_, ?_⟩
      · rw [List.flatMap_cons]
        simp only [eb, gcode_Put.eb, ea, eb_, ec, List.cons_append, List.nil_append]
        rw [h3]
      · rw [List.any_cons, h4]
        simp [ebad, gcode_Put.ebad, ra, rb, rc]
    · rw [edges_false n xs as0 h6] at h
      cases h
/-- What was taken, laid down again. -/
theorem laid_again (l : List Int) (hx : ∀ x ∈ l, 0 ≤ x ∧ x ≤ 255) (h : (gcode_Take.q (gcode_Take.p l)).1 = false) (hr : (gcode_Take.q (gcode_Take.p l)).2.1 = []) :
    (gcode_Take.p l).2.2.length ≤ 255 ∧ (gcode_Take.q (gcode_Take.p l)).2.2.length ≤ 255 ∧ gcode_Put.b2 (gcode_Take.p l).2.2 (gcode_Take.q (gcode_Take.p l)).2.2 (gcode_Take.q (gcode_Take.p l)).2.2.length = false ∧ gcode_Put.p2 (gcode_Take.p l).2.2 (gcode_Take.q (gcode_Take.p l)).2.2 (gcode_Take.q (gcode_Take.p l)).2.2.length = l := by
  have hp1 : (gcode_Take.p l).1 = false ∧ (gcode_Take.p l).2.1.isEmpty = false := by
    rcases Bool.eq_false_or_eq_true ((gcode_Take.p l).1 || (gcode_Take.p l).2.1.isEmpty) with e | e
    · unfold gcode_Take.q at h
      rw [e, edges_bad] at h
      cases h
    · simpa [Bool.or_eq_false_iff] using e
  have hm : Gc.isMG l = true ∧ (Gc.restMG l).isEmpty = false := by
    have h0 := hp1.1
    unfold gcode_Take.p at h0
    rcases Bool.eq_false_or_eq_true (!(Gc.isMG l) || (Gc.restMG l).isEmpty) with e | e
    · rw [e, nodes_bad] at h0
      cases h0
    · simpa [Bool.or_eq_false_iff] using e
  have h2 : l.take 2 = [77, 71] := of_decide_eq_true hm.1
  have hrm : Gc.restMG l = l.drop 2 := by unfold Gc.restMG; rw [if_pos hm.1]
  obtain ⟨x, t, hxt⟩ : ∃ x t, l.drop 2 = x :: t := by
    have h3 := hm.2
    rw [hrm] at h3
    cases hd : l.drop 2 with
    | nil => rw [hd] at h3; cases h3
    | cons x t => exact ⟨x, t, rfl⟩
  have hl : l = 77 :: 71 :: x :: t := by
    have := List.take_append_drop 2 l
    rw [h2, hxt] at this
    exact this.symm
  have p1 : gcode_Take.p l = gcode_Take.nodes x.toNat false t [] := by
    unfold gcode_Take.p
    rw [hrm, hxt, hm.1]
    rfl
  obtain ⟨y, u, hyu⟩ : ∃ y u, (gcode_Take.p l).2.1 = y :: u := by
    have h3 := hp1.2
    cases hd : (gcode_Take.p l).2.1 with
    | nil => rw [hd] at h3; cases h3
    | cons x t => exact ⟨x, t, rfl⟩
  have q1 : gcode_Take.q (gcode_Take.p l) = gcode_Take.edges y.toNat false u [] := by
    unfold gcode_Take.q
    rw [hyu, hp1.1]
    rfl
  have hx0 : 0 ≤ x ∧ x ≤ 255 := hx x (by rw [hl]; simp)
  obtain ⟨ns, n1, n2, n3, n4⟩ := nodes_laid x.toNat t [] (y :: u) [] (gcode_Take.p l).2.2 (fun z hz => hx z (by rw [hl]; simp [hz])) (by rw [← p1, ← hyu, ← hp1.1])
  have hy0 : 0 ≤ y ∧ y ≤ 255 := hx y (by rw [hl, n3]; simp)
  obtain ⟨es, e1, e2, e3, e4⟩ := edges_laid y.toNat u [] [] (gcode_Take.q (gcode_Take.p l)).2.2 (fun z hz => hx z (by rw [hl, n3]; simp [hz])) (by rw [← q1, ← hr, ← h])
  rw [List.nil_append] at n1 e1
  rw [n1, e1]
  have ln : (ns.length : Int) = x := by omega
  have le : (es.length : Int) = y := by omega
  refine ⟨by omega, by omega, ?_, ?_⟩
  · unfold gcode_Put.b2 gcode_Put.b1
    rw [List.take_of_length_le (Nat.le_refl _), List.take_of_length_le (Nat.le_refl _), bad1_nat, bad1_nat, ln, le, decide_eq_false (by omega), decide_eq_false (by omega)]
    have n4' : ns.any gcode_Put.nbad = false := n4
    have e4' : es.any gcode_Put.ebad = false := e4
    rw [n4', e4']
    rfl
  · rw [p2_eq, ln, le, show x % 256 = x from by omega, show y % 256 = y from by omega, hl, n3, e3]
    simp
end Go.Proofs.YtbjjcolbomaodaaDoor.GPure
