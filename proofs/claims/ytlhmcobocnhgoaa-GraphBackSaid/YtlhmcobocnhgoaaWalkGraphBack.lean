/- GraphBack: an edge leads where Next tells, and comes from where Prev does; places are in order, each once; each is one: true, for every graph. Conditions: none. -/
import Derived.Test.YtlhmcobocnhgoaaGOpen
import Derived.Test.YtlhmcobocnhgoaaGraLocs
import Derived.Test.YtlhmcobocnhgoaaPAllx7
namespace Go.Proofs.Ytlhmcobocnhgoaa.Hand
open Go.RowKit Go.Proofs.YtlhmcobocnhgoaaW.PrintWords Go.Proofs.YtlhmcobocnhgoaaW.PrintLast Go.Proofs.YtlhmcobocnhgoaaW.PrintMore Go.Proofs.Ytlhmcobocnhgoaa.PAll Go.Proofs.Ytlhmcobocnhgoaa.Pure
set_option linter.unusedVariables false
theorem back_l1 (n : Int) (x5 : Int) (x7 : List S23) (x8 : List Int) (ns : List S38) (es : List S35) (c0 c1 c2 : Int) (R : Bool) (hx : x7.length ≤ 1000000)
    (h : Ev (fun k => meanderlaw08_GraphBack.l2 k true n x5 x8 true false 0 ns es c0 c1 c2) R) (m : Nat) : ∀ (i : Nat) (found : Bool), i ≤ x7.length → x7.length - i = m → (found = true ∨ ∃ (q : Nat) (hq : q < x7.length), i ≤ q ∧ x7[q] = ⟨c1, c2⟩) →
    Ev (fun k => meanderlaw08_GraphBack.l1 k true n x5 x7 x8 found i ns es c0 c1 c2) R := by
  induction m with
  | zero =>
    intro i found hi hd hf
    obtain rfl : found = true := by
      rcases hf with h | ⟨q, hq, h1, _⟩
      · exact h
      · omega
    exact Ev.step (fun k => meanderlaw08_GraphBack.l1.eq_2 _ _ _ _ _ _ _ _ _ _ _ _ k) (ev_neg (by omega) h)
  | succ m ih =>
    intro i found hi hd hf
    have hlt : i < x7.length := by omega
    refine Ev.step (fun k => meanderlaw08_GraphBack.l1.eq_2 _ _ _ _ _ _ _ _ _ _ _ _ k) (ev_pos (by omega) ?_)
    rw [w_id (by omega) (by omega)]
    by_cases hft : found = true
    · exact ev_pos hft (ih (i + 1) true (by omega) (by omega) (.inl rfl))
    · refine ev_neg hft (ev_pos (by omega) ?_)
      rw [rdL hlt]
      obtain ⟨q, hq, h1, h2⟩ := hf.resolve_left hft
      refine ih (i + 1) _ (by omega) (by omega) ?_
      rcases Nat.eq_or_lt_of_le h1 with h3 | h3
      · left; subst h3; rw [h2]; simp
      · exact .inr ⟨q, hq, h3, h2⟩
theorem back_l2 (n : Int) (x5 : Int) (x8 : List Int) (ns : List S38) (es : List S35) (c0 c1 c2 : Int) (R : Bool) (hx : x8.length ≤ 1000000)
    (h : Ev (fun k => meanderlaw08_GraphBack.l0 k true n (wrap64 (x5 + 1)) ns es) R) (m : Nat) : ∀ (i : Nat) (found : Bool), i ≤ x8.length → x8.length - i = m → (found = true ∨ ∃ (q : Nat) (hq : q < x8.length), i ≤ q ∧ x8[q] = c0) →
    Ev (fun k => meanderlaw08_GraphBack.l2 k true n x5 x8 true found i ns es c0 c1 c2) R := by
  induction m with
  | zero =>
    intro i found hi hd hf
    obtain rfl : found = true := by
      rcases hf with h | ⟨q, hq, h1, _⟩
      · exact h
      · omega
    exact Ev.step (fun k => meanderlaw08_GraphBack.l2.eq_2 _ _ _ _ _ _ _ _ _ _ _ _ k) (ev_neg (by omega) (ev_pos rfl (ev_pos rfl h)))
  | succ m ih =>
    intro i found hi hd hf
    have hlt : i < x8.length := by omega
    refine Ev.step (fun k => meanderlaw08_GraphBack.l2.eq_2 _ _ _ _ _ _ _ _ _ _ _ _ k) (ev_pos (by omega) ?_)
    rw [w_id (by omega) (by omega)]
    by_cases hft : found = true
    · exact ev_pos hft (ih (i + 1) true (by omega) (by omega) (.inl rfl))
    · refine ev_neg hft (ev_pos (by omega) ?_)
      have hr : rd x8 (i : Int) = x8[i] := by unfold rd; rw [List.getD_eq_getElem?_getD]; simp [List.getElem?_eq_getElem hlt]
      rw [hr]
      obtain ⟨q, hq, h1, h2⟩ := hf.resolve_left hft
      refine ih (i + 1) _ (by omega) (by omega) ?_
      rcases Nat.eq_or_lt_of_le h1 with h3 | h3
      · left; subst h3; rw [h2]; simp
      · exact .inr ⟨q, hq, h3, h2⟩
theorem back_l4 (ns : List S38) (es : List S35) (hns : ns.length ≤ 20) (m : Nat) : ∀ i : Nat, i ≤ (locsFrom 0 ns).length → (locsFrom 0 ns).length - i = m →
    Ev (fun k => meanderlaw08_GraphBack.l4 k true ((locsFrom 0 ns).length : Int) (locsFrom 0 ns) i ns es) true := by
  have hle := locsFrom_le ns 0
  have hs := List.pairwise_iff_getElem.1 (locsFrom_sorted ns 0)
  induction m with
  | zero =>
    intro i hi hd
    exact Ev.step (fun k => meanderlaw08_GraphBack.l4.eq_2 _ _ _ _ _ _ k) (ev_neg (by omega) (ev_pos rfl (ev_some (by simp))))
  | succ m ih =>
    intro i hi hd
    have hlt : i < (locsFrom 0 ns).length := by omega
    have h := ih (i + 1) (by omega) (by omega)
    refine Ev.step (fun k => meanderlaw08_GraphBack.l4.eq_2 _ _ _ _ _ _ k) (ev_pos (by omega) (ev_pos (by omega) ?_))
    rw [rdL hlt, w_id (x := (i : Int) + 1) (by omega) (by omega)]
    refine Ev.bind (is_s ns es (locsFrom 0 ns)[i] (by omega) true (by simp)) (ev_pos rfl ?_)
    by_cases h0 : (i : Int) > 0
    · refine ev_pos h0 ?_
      rw [w_id (x := (i : Int) - 1) (by omega) (by omega)]
      refine ev_pos (by omega) (ev_pos (by omega) ?_)
      have e : (i : Int) - 1 = ((i - 1 : Nat) : Int) := by omega
      rw [e, rdL (i := i - 1) (by omega)]
      refine Ev.bind (order_s _ _ _ _) (ev_pos ?_ h)
      exact ord_lt.1 (hs (i - 1) i (by omega) hlt (by omega))
    · exact ev_neg h0 h
theorem locsOf_len (i : Int) (n : S38) : ((locsOf i n).length : Int) = insS n.f0 + if 1 ≤ n.f0 ∧ n.f0 ≤ 10 then 1 else 0 := by
  unfold locsOf headS
  rw [prts_length]
  have := insS_bd n.f0
  split <;> omega
theorem back_l3 (ns : List S38) (es : List S35) (hns : ns.length ≤ 20) (m : Nat) : ∀ i : Nat, i ≤ ns.length → ns.length - i = m →
    Ev (fun k => meanderlaw08_GraphBack.l3 k true ((locsFrom 0 (ns.take i)).length : Int) (locsFrom 0 ns) i ns es) true := by
  induction m with
  | zero =>
    intro i hi hd
    obtain rfl : i = ns.length := by omega
    rw [List.take_of_length_le (Nat.le_refl _)]
    exact Ev.step (fun k => meanderlaw08_GraphBack.l3.eq_2 _ _ _ _ _ _ k) (ev_neg (by omega) (back_l4 ns es hns _ 0 (by omega) rfl))
  | succ m ih =>
    intro i hi hd
    have hlt : i < ns.length := by omega
    have h := ih (i + 1) (by omega) (by omega)
    have hle := locsFrom_le (ns.take i) 0
    have hb := insS_bd ns[i].f0
    have hl := locsOf_len (0 + (ns.take i).length) ns[i]
    rw [List.take_succ_eq_append_getElem hlt, locsFrom_append] at h
    simp only [locsFrom, List.append_nil, List.length_append] at h
    rw [List.length_take] at hle
    refine Ev.step (fun k => meanderlaw08_GraphBack.l3.eq_2 _ _ _ _ _ _ k) (ev_pos (by omega) (ev_pos (by omega) ?_))
    rw [rdN hlt, w_id (x := (i : Int) + 1) (by omega) (by omega)]
    refine ev_bind (ins_s' _) (ev_bind (has_s _) ?_)
    rw [w_id (x := ((locsFrom 0 (ns.take i)).length : Int) + insS ns[i].f0) (by omega) (by omega)]
    by_cases hk : 1 ≤ ns[i].f0 ∧ ns[i].f0 ≤ 10
    · rw [if_pos hk] at hl
      refine ev_pos (decide_eq_true hk) ?_
      rw [w_id (by omega) (by omega)]
      rw [show ((locsFrom 0 (ns.take i)).length : Int) + insS ns[i].f0 + 1 = (((locsFrom 0 (ns.take i)).length + (locsOf (0 + (ns.take i).length) ns[i]).length : Nat) : Int) by omega]
      exact h
    · rw [if_neg hk] at hl
      refine ev_neg (by simpa using hk) ?_
      rw [show ((locsFrom 0 (ns.take i)).length : Int) + insS ns[i].f0 = (((locsFrom 0 (ns.take i)).length + (locsOf (0 + (ns.take i).length) ns[i]).length : Nat) : Int) by omega]
      exact h
theorem back_l0 (ns : List S38) (es : List S35) (hns : ns.length ≤ 20) (hes : es.length ≤ 40) (m : Nat) : ∀ i : Nat, i ≤ es.length → es.length - i = m →
    Ev (fun k => meanderlaw08_GraphBack.l0 k true 0 i ns es) true := by
  induction m with
  | zero =>
    intro i hi hd
    obtain rfl : i = es.length := by omega
    exact Ev.step (fun k => meanderlaw08_GraphBack.l0.eq_2 _ _ _ _ _ k) (ev_neg (by omega) (Ev.bind (locs_s ns es (by omega)) (back_l3 ns es hns _ 0 (by omega) rfl)))
  | succ m ih =>
    intro i hi hd
    have hlt : i < es.length := by omega
    have h := ih (i + 1) (by omega) (by omega)
    have h1 := nextS_le es es[i].f0
    have h2 := prevS_le es es[i].f1 es[i].f2
    refine Ev.step (fun k => meanderlaw08_GraphBack.l0.eq_2 _ _ _ _ _ k) (ev_pos (by omega) (ev_pos (by omega) ?_))
    rw [rdE hlt]
    refine Ev.bind (next_s ns es _ (by omega)) (Ev.bind (prev_s ns es _ _ (by omega)) ?_)
    refine back_l1 0 i _ _ ns es _ _ _ true (by omega) ?_ _ 0 false (by omega) rfl (.inr ?_)
    · refine back_l2 0 i _ ns es _ _ _ true (by omega) (by rw [w_id (by omega) (by omega)]; exact h) _ 0 false (by omega) rfl (.inr ?_)
      have : es[i].f0 ∈ prevS es es[i].f1 es[i].f2 := List.mem_map.2 ⟨es[i], List.mem_filter.2 ⟨List.getElem_mem hlt, by simp⟩, rfl⟩
      obtain ⟨q, hq, h⟩ := List.getElem_of_mem this
      exact ⟨q, hq, by omega, h⟩
    · have : (⟨es[i].f1, es[i].f2⟩ : S23) ∈ nextS es es[i].f0 := List.mem_map.2 ⟨es[i], List.mem_filter.2 ⟨List.getElem_mem hlt, by simp⟩, rfl⟩
      obtain ⟨q, hq, h⟩ := List.getElem_of_mem this
      exact ⟨q, hq, by omega, h⟩
theorem back_s (ns : List S38) (es : List S35) : Ev (fun k => meanderlaw08_GraphBack.f k ns es) true := by
  unfold meanderlaw08_GraphBack.f
  refine Ev.bind shown_s (ev_bind (few_s ns es) ?_)
  exact back_l0 (ns.take 20) (es.take 40) (by rw [List.length_take]; omega) (by rw [List.length_take]; omega) _ 0 (by omega) rfl
theorem back_walk {W : World} (G : GOpen.Graph W) : Calls Try.prog 6 #[G.v] W fun e w' => e = .returned (.bool true) ∧ Below W.heap.size W w' := by
  obtain ⟨k, hk⟩ := (back_s G.l0 G.l1).rounds
  exact meanderlaw08_GraphBack.calls k G.A0 G.c0 G.l0 G.A1 G.c1 G.l1 true W G.r0 G.h0 G.r1 G.h1 hk
end Go.Proofs.Ytlhmcobocnhgoaa.Hand
