/- What laying a graph down computes, and that the document's answer, the count of bytes and likeness of graphs agree with it. Plain lists; no program in sight. -/
import Derived.Test.YtbjjcolbomaodaaDoorPAllx3
import Derived.Test.YtbjjcolbomaodaaDoorPAllx3
import Derived.Test.YtbjjcolbomaodaaDoorPAllx4
import Derived.Test.YtbjjcolbomaodaaDoorPAllx5
namespace Go.Proofs.YtbjjcolbomaodaaDoor.Pure
open Go.RowKit Go.Proofs.YtbjjcolbomaodaaDoor.PAll Go.Proofs.YtbjjcolbomaodaaDoorW.PrintWords Go.Proofs.YtbjjcolbomaodaaDoorW.PrintLast Go.Proofs.YtbjjcolbomaodaaDoorW.PrintMore
set_option linter.unusedVariables false
set_option linter.unusedSimpArgs false

theorem w_id {x : Int} (h : -9223372036854775808 ≤ x) (h' : x ≤ 9223372036854775807) : wrap64 x = x := by unfold wrap64; omega
theorem w_nat (i n : Nat) (h : i < n) (hn : n ≤ 1000) : wrap64 ((i : Int) + 1) = ((i + 1 : Nat) : Int) := by rw [w_id (by omega) (by omega)]; rfl
theorem str_list (xs : List Int) : (strOfNums xs).toList = xs.map fun n => UInt8.ofNat n.toNat := by rw [ByteArray.toList_eq]; exact strOfNums_data xs
theorem rdN (ns : List S40) (i : Nat) (h : i < ns.length) : rd_T40 ns (i : Int) = ns[i] := by simp [rd_T40, h]
theorem rdE (es : List S42) (i : Nat) (h : i < es.length) : rd_T42 es (i : Int) = es[i] := by simp [rd_T42, h]

theorem few_s (ns : List S40) (es : List S42) : meanderlaw10_few.f ns es = some (ns.take 260, es.take 260) := by
  unfold meanderlaw10_few.f
  by_cases h : (ns.length : Int) > 260
  · rw [if_pos h, if_pos (by omega)]
    simp only [Option.bind_some]
    by_cases h' : (es.length : Int) > 260
    · (rw [if_pos h', if_pos (by omega)]; try rfl)
    · (rw [if_neg h', List.take_of_length_le (by omega : es.length ≤ 260)]; try rfl)
  · rw [if_neg h, List.take_of_length_le (by omega : ns.length ≤ 260)]
    by_cases h' : (es.length : Int) > 260
    · (rw [if_pos h', if_pos (by omega)]; try rfl)
    · rw [if_neg h', List.take_of_length_le (by omega : es.length ≤ 260)]

theorem shown_s : meanderlaw10_shown.f = some true := by
  unfold meanderlaw10_shown.f
  simp only [str_list]
  decide +kernel

theorem small_s (x : Int) : meanderref10_small.f x = some (!Gc.bad1 x) := by
  unfold meanderref10_small.f Gc.bad1
  split <;> · (refine congrArg some (Bool.eq_iff_iff.2 ?_)); simp; omega
theorem two_s (x : Int) : meanderref10_two.f x = some (!Gc.bad2 x) := by
  unfold meanderref10_two.f Gc.bad2
  split <;> · (refine congrArg some (Bool.eq_iff_iff.2 ?_)); simp; omega

abbrev nb := gcode_Put.nb
abbrev eb := gcode_Put.eb
abbrev nbad := gcode_Put.nbad
abbrev ebad := gcode_Put.ebad

theorem ref_l1 (ns : List S40) (es : List S42) (he : es.length ≤ 1000) (n i : Nat) (hn : es.length - i = n) (hi : i ≤ es.length) (x : List Int) (hx : x.length + 3 * n ≤ 100000) (K : Nat) :
    meanderref10_Put.l1 (n + 1 + K) x (i : Int) ns es = some (if (es.drop i).any ebad = true then ([], 1) else (x ++ (es.drop i).flatMap eb, 0)) := by
  induction n generalizing i x with
  | zero =>
    obtain rfl : i = es.length := by omega
    rw [Nat.zero_add, Nat.add_comm, meanderref10_Put.l1, if_neg (by omega)]
    simp
  | succ n ih =>
    have hl : i < es.length := by omega
    rw [show n + 1 + 1 + K = (n + 1 + K) + 1 from by omega, meanderref10_Put.l1, if_pos (by omega), if_pos (by omega)]
    rw [List.drop_eq_getElem_cons hl, List.any_cons, List.flatMap_cons]
    simp only [rdE es i hl, small_s, Option.bind_some]
    have hw := w_nat i es.length hl he
    simp only [List.length_cons, List.length_nil]
    rw [if_pos (by omega : x.length + (0 + 1 + 1 + 1) < 140737488355328), hw, ih (i + 1) (by omega) (by omega) _ (by simp; omega)]
    simp only [ebad, gcode_Put.ebad, eb, gcode_Put.eb]
    rcases Bool.eq_false_or_eq_true (Gc.bad1 es[i].f0) with h0 | h0 <;> rcases Bool.eq_false_or_eq_true (Gc.bad1 es[i].f1) with h1 | h1 <;> rcases Bool.eq_false_or_eq_true (Gc.bad1 es[i].f2) with h2 | h2 <;> simp [h0, h1, h2]

theorem ref_l0 (ns : List S40) (es : List S42) (hl : ns.length ≤ 1000) (n i : Nat) (hn : ns.length - i = n) (hi : i ≤ ns.length) (x : List Int) (hx : x.length + 6 * n ≤ 100000) (K : Nat) :
    meanderref10_Put.l0 (n + 1 + K) x (i : Int) ns es = if (ns.drop i).any nbad = true then some ([], 1) else meanderref10_Put.l1 K (x ++ (ns.drop i).flatMap nb ++ [(es.length : Int) % 256]) 0 ns es := by
  induction n generalizing i x with
  | zero =>
    obtain rfl : i = ns.length := by omega
    rw [Nat.zero_add, Nat.add_comm, meanderref10_Put.l0, if_neg (by omega), if_pos (by omega)]
    simp
  | succ n ih =>
    have hl' : i < ns.length := by omega
    rw [show n + 1 + 1 + K = (n + 1 + K) + 1 from by omega, meanderref10_Put.l0, if_pos (by omega), if_pos (by omega)]
    rw [List.drop_eq_getElem_cons hl', List.any_cons, List.flatMap_cons]
    simp only [rdN ns i hl', small_s, two_s, Option.bind_some]
    have hw := w_nat i ns.length hl' hl
    simp only [List.length_cons, List.length_nil]
    rw [if_pos (by omega : x.length + (0 + 1 + 1 + 1 + 1 + 1 + 1) < 140737488355328), hw, ih (i + 1) (by omega) (by omega) _ (by simp; omega)]
    simp only [nbad, gcode_Put.nbad, nb, gcode_Put.nb]
    rcases Bool.eq_false_or_eq_true (Gc.bad1 ns[i].f0) with h0 | h0 <;> rcases Bool.eq_false_or_eq_true (Gc.bad1 ns[i].f3) with h1 | h1 <;> rcases Bool.eq_false_or_eq_true (Gc.bad2 ns[i].f1) with h2 | h2 <;> rcases Bool.eq_false_or_eq_true (Gc.bad2 ns[i].f2) with h3 | h3 <;> simp [h0, h1, h2, h3]

theorem bad1_nat (n : Nat) : Gc.bad1 (n : Int) = decide ((255 : Int) < n) := by unfold Gc.bad1; rw [decide_eq_false (by omega), Bool.false_or]

theorem put_s (ns : List S40) (es : List S42) (hn : ns.length ≤ 1000) (he : es.length ≤ 1000) :
    gcode_Put.f ns es = some (if gcode_Put.b2 ns es es.length = true then ([], 1) else (gcode_Put.p2 ns es es.length, 0)) := by
  unfold gcode_Put.f
  rw [if_pos ⟨hn, he⟩]

theorem ref_s (ns : List S40) (es : List S42) (hn : ns.length ≤ 1000) (he : es.length ≤ 1000) :
    meanderref10_Put.f ((ns.length + 1 + (es.length + 1)) + 1) ns es = some (if gcode_Put.b2 ns es es.length = true then ([], 1) else (gcode_Put.p2 ns es es.length, 0)) := by
  have e2 : gcode_Put.b2 ns es es.length = ((decide ((255 : Int) < ns.length) || ns.any nbad) || (decide ((255 : Int) < es.length) || es.any ebad)) := by
    unfold gcode_Put.b2 gcode_Put.b1
    rw [List.take_of_length_le (Nat.le_refl _), List.take_of_length_le (Nat.le_refl _), bad1_nat, bad1_nat, Bool.false_or, Bool.or_assoc]
  have h0 := ref_l0 ns es hn ns.length 0 rfl (Nat.zero_le _) [77, 71, (ns.length : Int) % 256] (by simp; omega) (es.length + 1)
  have h1 := ref_l1 ns es he es.length 0 rfl (Nat.zero_le _) ([77, 71, (ns.length : Int) % 256] ++ ns.flatMap nb ++ [(es.length : Int) % 256]) (by
    have := gcode_Put.p1_len ns ns.length
    rw [List.take_of_length_le (Nat.le_refl _)] at this
    have e : (gcode_Put.p1 ns ns.length).length = ([77, 71, (ns.length : Int) % 256] ++ ns.flatMap nb).length := by unfold gcode_Put.p1; rw [List.take_of_length_le (Nat.le_refl _)]; simp
    rw [List.length_append, ← e, this]
    simp
    omega) 0
  have ep : gcode_Put.p2 ns es es.length = [77, 71, (ns.length : Int) % 256] ++ ns.flatMap nb ++ [(es.length : Int) % 256] ++ es.flatMap eb := by
    unfold gcode_Put.p2 gcode_Put.p1
    rw [List.take_of_length_le (Nat.le_refl _), List.take_of_length_le (Nat.le_refl _)]
    simp
  simp only [List.drop_zero, Nat.add_zero, Int.ofNat_zero, Int.natCast_zero] at h0 h1
  unfold meanderref10_Put.f
  rw [e2, ep]
  by_cases c1 : (ns.length : Int) > 255
  · rw [if_pos c1, meanderref10_Put.j0, if_pos rfl, decide_eq_true (show (255 : Int) < ns.length from c1)]
    simp
  · rw [if_neg c1, meanderref10_Put.j0, decide_eq_false (show ¬ (255 : Int) < ns.length from c1)]
    by_cases c2 : (es.length : Int) > 255
    · rw [if_pos (by simp; omega), decide_eq_true (show (255 : Int) < es.length from c2)]
      simp
    · rw [if_neg (by simp; omega), decide_eq_false (show ¬ (255 : Int) < es.length from c2), h0, h1]
      cases h3 : ns.any nbad <;> cases h4 : es.any ebad <;> simp

theorem puts_s (ns : List S40) (es : List S42) : ∃ k, meanderlaw10_GcodePuts.f k ns es = some true := by
  refine ⟨((ns.take 260).length + 1 + ((es.take 260).length + 1)) + 1, ?_⟩
  unfold meanderlaw10_GcodePuts.f
  have a : (ns.take 260).length ≤ 1000 := by simp; omega
  have b : (es.take 260).length ≤ 1000 := by simp; omega
  rw [shown_s, few_s]
  simp only [Option.bind_some]
  rw [put_s _ _ a b, ref_s _ _ a b]
  simp
end Go.Proofs.YtbjjcolbomaodaaDoor.Pure
