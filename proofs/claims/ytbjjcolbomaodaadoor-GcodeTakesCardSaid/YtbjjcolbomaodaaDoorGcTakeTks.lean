/- What taking a graph off bytes computes: of bytes that were laid down the graph, all of them read; more bytes are left over; of fewer there are none too few that pass. Plain lists; no program in sight. -/
import Derived.Test.YtbjjcolbomaodaaDoorGcSameTks
import Derived.Test.YtbjjcolbomaodaaDoorPTksx5
namespace Go.Proofs.YtbjjcolbomaodaaDoor.GPure
open Classical Go.RowKit Go.Proofs.YtbjjcolbomaodaaDoor.PTks Go.Proofs.YtbjjcolbomaodaaDoorW.PrintWords Go.Proofs.YtbjjcolbomaodaaDoorW.PrintLast Go.Proofs.YtbjjcolbomaodaaDoorW.PrintMore
set_option linter.unusedVariables false
set_option linter.unusedSimpArgs false

theorem nodes_bad (n : Nat) (xs : List Int) (acc : List S40) : gcode_Take.nodes n true xs acc = (true, xs, acc) := by
  cases n with
  | zero => rfl
  | succ n => rw [gcode_Take.nodes, if_pos rfl]
theorem edges_bad (n : Nat) (xs : List Int) (acc : List S42) : gcode_Take.edges n true xs acc = (true, xs, acc) := by
  cases n with
  | zero => rfl
  | succ n => rw [gcode_Take.edges, if_pos rfl]
theorem nodes_step (n : Nat) (a b c d e f : Int) (t : List Int) (acc : List S40) :
    gcode_Take.nodes (n + 1) false (a :: b :: c :: d :: e :: f :: t) acc = gcode_Take.nodes n false t (acc ++ [⟨a, Gc.num2 c d, Gc.num2 e f, b⟩]) := by
  rw [gcode_Take.nodes, if_neg (by simp)]
  rfl
theorem edges_step (n : Nat) (a b c : Int) (t : List Int) (acc : List S42) :
    gcode_Take.edges (n + 1) false (a :: b :: c :: t) acc = gcode_Take.edges n false t (acc ++ [⟨a, b, c⟩]) := by
  rw [gcode_Take.edges, if_neg (by simp)]
  rfl
/-- Six bytes there are, or it is bad. -/
theorem six (xs : List Int) : (∃ a b c d e f t, xs = a :: b :: c :: d :: e :: f :: t) ∨ gcode_Take.bad6 false xs = true := by
  match xs with
  | [] => exact .inr rfl
  | [_] => exact .inr rfl
  | [_, _] => exact .inr rfl
  | [_, _, _] => exact .inr rfl
  | [_, _, _, _] => exact .inr rfl
  | [_, _, _, _, _] => exact .inr rfl
  | a :: b :: c :: d :: e :: f :: t => exact .inl ⟨a, b, c, d, e, f, t, rfl⟩
theorem three (xs : List Int) : (∃ a b c t, xs = a :: b :: c :: t) ∨ gcode_Take.bad3 false xs = true := by
  match xs with
  | [] => exact .inr rfl
  | [_] => exact .inr rfl
  | [_, _] => exact .inr rfl
  | a :: b :: c :: t => exact .inl ⟨a, b, c, t, rfl⟩
theorem nodes_false (n : Nat) (xs : List Int) (acc : List S40) (h : gcode_Take.bad6 false xs = true) : gcode_Take.nodes (n + 1) false xs acc = (true, xs.tail.tail.tail.tail.tail.tail, acc ++ [gcode_Take.node xs]) := by
  rw [gcode_Take.nodes, if_neg (by simp), h, nodes_bad]
theorem edges_false (n : Nat) (xs : List Int) (acc : List S42) (h : gcode_Take.bad3 false xs = true) : gcode_Take.edges (n + 1) false xs acc = (true, xs.tail.tail.tail, acc ++ [gcode_Take.edge xs]) := by
  rw [gcode_Take.edges, if_neg (by simp), h, edges_bad]
/-- More bytes behind: they are left over. -/
theorem nodes_more (s : List Int) : ∀ (n : Nat) (xs : List Int) (acc : List S40), (gcode_Take.nodes n false xs acc).1 = false →
    gcode_Take.nodes n false (xs ++ s) acc = (false, (gcode_Take.nodes n false xs acc).2.1 ++ s, (gcode_Take.nodes n false xs acc).2.2) := by
  intro n
  induction n with
  | zero => intro xs acc _; rfl
  | succ n ih =>
    intro xs acc h
    rcases six xs with ⟨a, b, c, d, e, f, t, rfl⟩ | h6
    · rw [nodes_step] at h ⊢
      exact (nodes_step n a b c d e f (t ++ s) acc).trans (ih t _ h)
    · rw [nodes_false n xs acc h6] at h
      cases h
theorem edges_more (s : List Int) : ∀ (n : Nat) (xs : List Int) (acc : List S42), (gcode_Take.edges n false xs acc).1 = false →
    gcode_Take.edges n false (xs ++ s) acc = (false, (gcode_Take.edges n false xs acc).2.1 ++ s, (gcode_Take.edges n false xs acc).2.2) := by
  intro n
  induction n with
  | zero => intro xs acc _; rfl
  | succ n ih =>
    intro xs acc h
    rcases three xs with ⟨a, b, c, t, rfl⟩ | h6
    · rw [edges_step] at h ⊢
      exact (edges_step n a b c (t ++ s) acc).trans (ih t _ h)
    · rw [edges_false n xs acc h6] at h
      cases h
theorem take_more (l s : List Int) (h : (gcode_Take.q (gcode_Take.p l)).1 = false) :
    gcode_Take.p (l ++ s) = (false, (gcode_Take.p l).2.1 ++ s, (gcode_Take.p l).2.2) ∧ gcode_Take.q (gcode_Take.p (l ++ s)) = (false, (gcode_Take.q (gcode_Take.p l)).2.1 ++ s, (gcode_Take.q (gcode_Take.p l)).2.2) := by
  have hp1 : (gcode_Take.p l).1 = false ∧ (gcode_Take.p l).2.1.isEmpty = false := by
    rcases Bool.eq_false_or_eq_true ((gcode_Take.p l).1 || (gcode_Take.p l).2.1.isEmpty) with e | e
    · unfold gcode_Take.q at h
      rw [e, edges_bad] at h
      cases h
    · simpa [Bool.or_eq_false_iff] using e
  have hm : Gc.isMG l = true ∧ (Gc.restMG l).isEmpty = false := by
    have h0 := hp1.1
    unfold gcode_Take.p at h0
    rcases Bool.eq_false_or_eq_true (!(Gc.isMG l) || (Gc.restMG l).isEmpty) with e | e
    · rw [e, nodes_bad] at h0
      cases h0
    · simpa [Bool.or_eq_false_iff] using e
  have h2 : l.take 2 = [77, 71] := of_decide_eq_true hm.1
  have hl : 2 ≤ l.length := by
    have := congrArg List.length h2
    rw [List.length_take] at this
    simp at this
    omega
  have hm' : Gc.isMG (l ++ s) = true := by
    unfold Gc.isMG
    rw [List.take_append_of_le_length hl, h2]
    rfl
  have hr : Gc.restMG l = l.drop 2 := by unfold Gc.restMG; rw [if_pos hm.1]
  have hr' : Gc.restMG (l ++ s) = l.drop 2 ++ s := by unfold Gc.restMG; rw [if_pos hm', List.drop_append_of_le_length hl]
  obtain ⟨x, t, hxt⟩ : ∃ x t, l.drop 2 = x :: t := by
    have h3 := hm.2
    rw [hr] at h3
    cases hd : l.drop 2 with
    | nil => rw [hd] at h3; cases h3
    | cons x t => exact ⟨x, t, rfl⟩
  have p1 : gcode_Take.p l = gcode_Take.nodes x.toNat false t [] := by
    unfold gcode_Take.p
    rw [hr, hxt, hm.1]
    rfl
  have p2 : gcode_Take.p (l ++ s) = gcode_Take.nodes x.toNat false (t ++ s) [] := by
    unfold gcode_Take.p
    rw [hr', hxt, hm']
    rfl
  have p3 : gcode_Take.p (l ++ s) = (false, (gcode_Take.p l).2.1 ++ s, (gcode_Take.p l).2.2) := by
    rw [p2, p1]
    exact nodes_more s _ _ _ (by rw [← p1]; exact hp1.1)
  refine ⟨p3, ?_⟩
  obtain ⟨y, u, hyu⟩ : ∃ y u, (gcode_Take.p l).2.1 = y :: u := by
    have h3 := hp1.2
    cases hd : (gcode_Take.p l).2.1 with
    | nil => rw [hd] at h3; cases h3
    | cons x t => exact ⟨x, t, rfl⟩
  have q1 : gcode_Take.q (gcode_Take.p l) = gcode_Take.edges y.toNat false u [] := by
    unfold gcode_Take.q
    rw [hyu, hp1.1]
    rfl
  have q2 : gcode_Take.q (gcode_Take.p (l ++ s)) = gcode_Take.edges y.toNat false (u ++ s) [] := by
    rw [p3, hyu]
    rfl
  rw [q2, q1]
  exact edges_more s _ _ _ (by rw [← q1]; exact h)

theorem num2_back (x : Int) (h : Gc.bad2 x = false) : Gc.num2 (x / 256 % 256) (x % 256) = x := by
  unfold Gc.bad2 at h
  simp only [Bool.or_eq_false_iff, decide_eq_false_iff_not] at h
  unfold Gc.num2
  split <;> omega
theorem one_back (x : Int) (h : Gc.bad1 x = false) : x % 256 = x := by
  unfold Gc.bad1 at h
  simp only [Bool.or_eq_false_iff, decide_eq_false_iff_not] at h
  omega
theorem nodes_back (rest : List Int) : ∀ (ns : List S40) (acc : List S40), ns.any nbad = false → gcode_Take.nodes ns.length false (ns.flatMap nb ++ rest) acc = (false, rest, acc ++ ns)
  | [], acc, _ => by simp [gcode_Take.nodes]
  | n :: ns, acc, h => by
    rw [List.any_cons, Bool.or_eq_false_iff] at h
    have h1 := h.1
    simp only [nbad, gcode_Put.nbad, Bool.or_eq_false_iff] at h1
    obtain ⟨⟨⟨h10, h11⟩, h12⟩, h13⟩ := h1
    rw [List.flatMap_cons]
    have e : nb n ++ ns.flatMap nb ++ rest = (n.f0 % 256) :: (n.f3 % 256) :: (n.f1 / 256 % 256) :: (n.f1 % 256) :: (n.f2 / 256 % 256) :: (n.f2 % 256) :: (ns.flatMap nb ++ rest) := rfl
    rw [e, List.length_cons, nodes_step, num2_back _ h12, num2_back _ h13, one_back _ h10, one_back _ h11, nodes_back rest ns _ h.2]
    simp
theorem edges_back (rest : List Int) : ∀ (ns : List S42) (acc : List S42), ns.any ebad = false → gcode_Take.edges ns.length false (ns.flatMap eb ++ rest) acc = (false, rest, acc ++ ns)
  | [], acc, _ => by simp [gcode_Take.edges]
  | n :: ns, acc, h => by
    rw [List.any_cons, Bool.or_eq_false_iff] at h
    have h1 := h.1
    simp only [ebad, gcode_Put.ebad, Bool.or_eq_false_iff] at h1
    obtain ⟨⟨h10, h11⟩, h12⟩ := h1
    rw [List.flatMap_cons]
    have e : eb n ++ ns.flatMap eb ++ rest = (n.f0 % 256) :: (n.f1 % 256) :: (n.f2 % 256) :: (ns.flatMap eb ++ rest) := rfl
    rw [e, List.length_cons, edges_step, one_back _ h10, one_back _ h11, one_back _ h12, edges_back rest ns _ h.2]
    simp

theorem laid_p {ns : List S40} {es : List S42} (h : gcode_Put.b2 ns es es.length = false) : gcode_Take.p (gcode_Put.p2 ns es es.length) = (false, (es.length : Int) :: es.flatMap eb, ns) := by
  obtain ⟨a1, a2, a3, a4⟩ := b2_parts h
  have e1 : (ns.length : Int) % 256 = ns.length := by omega
  have e2 : (es.length : Int) % 256 = es.length := by omega
  have e : gcode_Put.p2 ns es es.length = 77 :: 71 :: (ns.length : Int) :: (ns.flatMap nb ++ ((es.length : Int) :: es.flatMap eb)) := by
    rw [p2_eq, e1, e2]
    rfl
  rw [e]
  show gcode_Take.nodes ((ns.length : Int)).toNat false (ns.flatMap nb ++ ((es.length : Int) :: es.flatMap eb)) [] = _
  rw [Int.toNat_natCast, nodes_back _ ns [] a3]
  rfl
theorem laid_q {ns : List S40} {es : List S42} (h : gcode_Put.b2 ns es es.length = false) : gcode_Take.q (gcode_Take.p (gcode_Put.p2 ns es es.length)) = (false, [], es) := by
  obtain ⟨a1, a2, a3, a4⟩ := b2_parts h
  rw [laid_p h]
  show gcode_Take.edges ((es.length : Int)).toNat false (es.flatMap eb) [] = _
  have := edges_back [] es [] a4
  rw [List.append_nil] at this
  rw [Int.toNat_natCast, this]
  rfl
theorem range_all {l : List Int} (h : ∀ x ∈ l, 0 ≤ x ∧ x ≤ 255) : (l.all fun x => decide (0 ≤ x) && decide (x ≤ 255)) = true :=
  List.all_eq_true.2 fun x hx => by simpa using h x hx
theorem take_laid {ns : List S40} {es : List S42} (h : gcode_Put.b2 ns es es.length = false) : gcode_Take.f (gcode_Put.p2 ns es es.length) = some (ns, es, 0) := by
  unfold gcode_Take.f
  rw [if_pos (range_all (p2_range ns es)), laid_q h, laid_p h]
  rfl
theorem take_longer {ns : List S40} {es : List S42} (h : gcode_Put.b2 ns es es.length = false) (m : Int) (hm : 0 ≤ m ∧ m ≤ 255) : gcode_Take.f (gcode_Put.p2 ns es es.length ++ [m]) = some ([], [], 2) := by
  have h1 := (take_more (gcode_Put.p2 ns es es.length) [m] (by rw [laid_q h])).2
  rw [laid_q h] at h1
  unfold gcode_Take.f
  rw [if_pos (range_all (fun x hx => ?_)), h1]
  · rfl
  · rcases List.mem_append.1 hx with hx | hx
    · exact p2_range ns es x hx
    · rw [List.mem_singleton.1 hx]; exact hm
theorem take_shorter {ns : List S40} {es : List S42} (h : gcode_Put.b2 ns es es.length = false) (n : Nat) (hn : n < (gcode_Put.p2 ns es es.length).length) : gcode_Take.f ((gcode_Put.p2 ns es es.length).take n) = some ([], [], 2) := by
  have hr : ∀ x ∈ (gcode_Put.p2 ns es es.length).take n, 0 ≤ x ∧ x ≤ 255 := fun x hx => p2_range ns es x (List.mem_of_mem_take hx)
  unfold gcode_Take.f
  rw [if_pos (range_all hr)]
  rcases Bool.eq_false_or_eq_true ((gcode_Take.q (gcode_Take.p ((gcode_Put.p2 ns es es.length).take n))).1 || !(gcode_Take.q (gcode_Take.p ((gcode_Put.p2 ns es es.length).take n))).2.1.isEmpty) with e | e
  · rw [if_pos e]
  · exfalso
    rw [Bool.or_eq_false_iff] at e
    have h1 := (take_more _ ((gcode_Put.p2 ns es es.length).drop n) e.1).2
    rw [List.take_append_drop, laid_q h] at h1
    have h2 := congrArg (fun z => z.2.1) h1
    have h3 : (gcode_Put.p2 ns es es.length).drop n = [] := (List.append_eq_nil_iff.1 h2.symm).2
    have h4 := List.length_drop (l := gcode_Put.p2 ns es es.length) (i := n)
    rw [h3] at h4
    simp at h4
    omega
end Go.Proofs.YtbjjcolbomaodaaDoor.GPure
