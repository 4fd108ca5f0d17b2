/- GraphMany: a graph's edges are as many as lead from its nodes together, if each is from one of them: true, for every graph. Conditions: none. -/
import Derived.Test.YtlhmcobocnhgoaaGOpen
import Derived.Test.YtlhmcobocnhgoaaGraNext
namespace Go.Proofs.Ytlhmcobocnhgoaa.Hand
open Go.RowKit Go.Proofs.YtlhmcobocnhgoaaW.PrintWords Go.Proofs.YtlhmcobocnhgoaaW.PrintLast Go.Proofs.YtlhmcobocnhgoaaW.PrintMore Go.Proofs.Ytlhmcobocnhgoaa.PAll Go.Proofs.Ytlhmcobocnhgoaa.Pure
set_option linter.unusedVariables false
/-- How many edges come from a node with a lesser number. -/
def cnt (es : List S35) (i : Int) : Nat := (es.filter (fun e => decide (0 ≤ e.f0 ∧ e.f0 < i))).length
theorem cnt_le (es : List S35) (i : Int) : cnt es i ≤ es.length := List.length_filter_le _ _
theorem cnt_step (es : List S35) (i : Int) (hi : 0 ≤ i) : cnt es (i + 1) = cnt es i + (nextS es i).length := by
  unfold cnt nextS
  rw [List.length_map]
  induction es with
  | nil => rfl
  | cons e es ih =>
    simp only [List.filter_cons, decide_eq_true_eq, beq_iff_eq]
    by_cases h1 : 0 ≤ e.f0 ∧ e.f0 < i
    · rw [if_pos h1, if_pos (by omega), if_neg (by omega)]; simp only [List.length_cons]; omega
    · by_cases h2 : e.f0 = i
      · rw [if_neg h1, if_pos (by omega), if_pos h2]; simp only [List.length_cons]; omega
      · rw [if_neg h1, if_neg (by omega), if_neg h2]; exact ih
theorem cnt_snoc (es : List S35) (e : S35) (i : Int) : cnt (es ++ [e]) i = cnt es i + if 0 ≤ e.f0 ∧ e.f0 < i then 1 else 0 := by
  unfold cnt
  rw [List.filter_append, List.length_append]
  by_cases h : 0 ≤ e.f0 ∧ e.f0 < i
  · rw [if_pos h]; simp [h]
  · rw [if_neg h, List.filter_cons, if_neg (by simpa using h)]; simp
theorem many_l1 (ns : List S38) (es : List S35) (hes : es.length ≤ 40) (m : Nat) : ∀ i : Nat, i ≤ es.length → es.length - i = m →
    Ev (fun k => meanderlaw08_GraphMany.l1 k true (cnt es ns.length : Int) (cnt (es.take i) ns.length : Int) i ns es) true := by
  induction m with
  | zero =>
    intro i hi hd
    obtain rfl : i = es.length := by omega
    exact Ev.step (fun k => meanderlaw08_GraphMany.l1.eq_2 _ _ _ _ _ _ k) (ev_neg (by omega) (ev_pos rfl (ev_some (by rw [List.take_of_length_le (Nat.le_refl _)]; simp))))
  | succ m ih =>
    intro i hi hd
    have hlt : i < es.length := by omega
    have h := ih (i + 1) (by omega) (by omega)
    rw [List.take_succ_eq_append_getElem hlt, cnt_snoc] at h
    have hc := cnt_le (es.take i) ns.length
    rw [List.length_take] at hc
    refine Ev.step (fun k => meanderlaw08_GraphMany.l1.eq_2 _ _ _ _ _ _ k) (ev_pos (by omega) (ev_pos (by omega) ?_))
    rw [rdE hlt, w_id (x := (i : Int) + 1) (by omega) (by omega)]
    by_cases h1 : es[i].f0 ≥ 0
    · refine ev_pos h1 ?_
      by_cases h2 : es[i].f0 < (ns.length : Int)
      · rw [if_pos ⟨h1, h2⟩] at h
        refine ev_pos h2 ?_
        rw [w_id (by omega) (by omega)]
        exact h
      · rw [if_neg (by omega)] at h
        exact ev_neg h2 h
    · rw [if_neg (by omega)] at h
      exact ev_neg h1 h
theorem many_l0 (ns : List S38) (es : List S35) (hns : ns.length ≤ 20) (hes : es.length ≤ 40) (m : Nat) : ∀ i : Nat, i ≤ ns.length → ns.length - i = m →
    Ev (fun k => meanderlaw08_GraphMany.l0 k true (cnt es i : Int) i ns es) true := by
  induction m with
  | zero =>
    intro i hi hd
    obtain rfl : i = ns.length := by omega
    exact Ev.step (fun k => meanderlaw08_GraphMany.l0.eq_2 _ _ _ _ _ k) (ev_neg (by omega) (many_l1 ns es hes _ 0 (by omega) rfl))
  | succ m ih =>
    intro i hi hd
    have h := ih (i + 1) (by omega) (by omega)
    refine Ev.step (fun k => meanderlaw08_GraphMany.l0.eq_2 _ _ _ _ _ k) (ev_pos (by omega) (Ev.bind (next_s ns es i (by omega)) ?_))
    have h1 := cnt_step es i (by omega)
    have h2 := cnt_le es i
    have h3 := nextS_le es i
    rw [w_id (x := (cnt es i : Int) + ((nextS es i).length : Int)) (by omega) (by omega), w_id (x := (i : Int) + 1) (by omega) (by omega), show (cnt es i : Int) + ((nextS es i).length : Int) = (cnt es ((i : Int) + 1) : Int) by rw [h1]; omega]
    exact h
theorem many_s (ns : List S38) (es : List S35) : Ev (fun k => meanderlaw08_GraphMany.f k ns es) true := by
  unfold meanderlaw08_GraphMany.f
  refine Ev.bind shown_s (ev_bind (few_s ns es) ?_)
  have h0 : cnt (es.take 40) ((0 : Nat) : Int) = 0 := by
    unfold cnt
    rw [List.length_eq_zero_iff, List.filter_eq_nil_iff]
    intro e _
    simp only [decide_eq_true_eq]; omega
  have := many_l0 (ns.take 20) (es.take 40) (by rw [List.length_take]; omega) (by rw [List.length_take]; omega) _ 0 (by omega) rfl
  rw [h0] at this
  exact this
theorem many_walk {W : World} (G : GOpen.Graph W) : Calls Try.prog 4 #[G.v] W fun e w' => e = .returned (.bool true) ∧ Below W.heap.size W w' := by
  obtain ⟨k, hk⟩ := (many_s G.l0 G.l1).rounds
  exact meanderlaw08_GraphMany.calls k G.A0 G.c0 G.l0 G.A1 G.c1 G.l1 true W G.r0 G.h0 G.r1 G.h1 hk
end Go.Proofs.Ytlhmcobocnhgoaa.Hand
