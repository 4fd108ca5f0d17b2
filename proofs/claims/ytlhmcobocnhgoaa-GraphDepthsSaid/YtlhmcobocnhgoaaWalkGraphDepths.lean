/- GraphDepths: a place's depth is that of what its node does to times: true, for every graph. Conditions: none. -/
import Derived.Test.YtlhmcobocnhgoaaGOpen
import Derived.Test.YtlhmcobocnhgoaaGraLocs
import Derived.Test.YtlhmcobocnhgoaaGraShown
import Derived.Test.YtlhmcobocnhgoaaGraInner
import Derived.Test.YtlhmcobocnhgoaaPAllx10
namespace Go.Proofs.Ytlhmcobocnhgoaa.Hand
open Go.RowKit Go.Proofs.YtlhmcobocnhgoaaW.PrintWords Go.Proofs.YtlhmcobocnhgoaaW.PrintLast Go.Proofs.YtlhmcobocnhgoaaW.PrintMore Go.Proofs.Ytlhmcobocnhgoaa.PAll Go.Proofs.Ytlhmcobocnhgoaa.Pure
set_option linter.unusedVariables false
theorem mem_port {ns : List S38} {i : Nat} (hi : i < ns.length) {p : Int} : (⟨(i : Int), p⟩ : S23) ∈ locsFrom 0 ns ↔ headS ns[i].f0 ≤ p ∧ p < insS ns[i].f0 := by
  rw [mem_locsFrom]
  constructor
  · rintro ⟨j, hj, h1, h2, h3⟩
    obtain rfl : i = j := by simp at h1; omega
    exact ⟨h2, h3⟩
  · intro h
    exact ⟨i, hi, by simp, h.1, h.2⟩
/-- How deep an input is. -/
theorem depth_in (ns : List S38) (es : List S35) (hns : ns.length ≤ 20) (i : Nat) (hi : i < ns.length) (p : Int) (h0 : 0 ≤ p) (h1 : p < insS ns[i].f0) (hd : -1000000 ≤ ns[i].f3 ∧ ns[i].f3 ≤ 1000000) :
    Ev (fun k => graph_Depth.f k ns es i p) (inS ns[i].f0 ns[i].f3) := by
  unfold graph_Depth.f
  refine Ev.bind (is_s ns es ⟨i, p⟩ (by omega) true ?_) (ev_pos rfl (ev_neg (by omega) (ev_pos (by omega) (ev_pos (by omega) ?_))))
  · simp only [true_iff]
    rw [mem_port hi]
    exact ⟨by unfold headS; split <;> omega, h1⟩
  · rw [rdN hi]
    exact ev_bind (in_s _ _ _ _ hd) (ev_some rfl)
/-- How deep an output is. -/
theorem depth_out (ns : List S38) (es : List S35) (hns : ns.length ≤ 20) (i : Nat) (hi : i < ns.length) :
    Ev (fun k => graph_Depth.f k ns es i (-1)) (if 1 ≤ ns[i].f0 ∧ ns[i].f0 ≤ 10 then ns[i].f3 else -1) := by
  unfold graph_Depth.f
  have hb := insS_bd ns[i].f0
  by_cases h : 1 ≤ ns[i].f0 ∧ ns[i].f0 ≤ 10
  · rw [if_pos h]
    refine Ev.bind (is_s ns es ⟨i, -1⟩ (by omega) true ?_) (ev_pos rfl (ev_pos rfl (ev_pos (by omega) (ev_pos (by omega) (ev_some (by rw [rdN hi]))))))
    simp only [true_iff]
    rw [mem_port hi]
    exact ⟨by unfold headS; rw [if_pos h]; omega, by omega⟩
  · rw [if_neg h]
    refine Ev.bind (is_s ns es ⟨i, -1⟩ (by omega) false ?_) (ev_neg (by simp) (ev_some rfl))
    simp only [Bool.false_eq_true, false_iff]
    rw [mem_port hi]
    unfold headS
    rw [if_neg h]
    omega
theorem inner_ends (k d : Int) (hk : 2 ≤ k) (hk2 : k ≤ 10) (hd : 0 ≤ d ∧ d ≤ 3) (hi : 0 ≤ inS k d ∧ inS k d ≤ 3) : (innerS k d).1 = inS k d ∧ (innerS k d).2.1 = d := by
  unfold inS at *
  unfold innerS
  by_cases h8 : k = 8
  · subst h8
    simp only [if_true] at hi ⊢
    unfold enterS; rw [if_pos (by omega)]; exact ⟨rfl, by show d - 1 + 1 = d; omega⟩
  · rw [if_neg h8] at hi ⊢
    by_cases h9 : k = 9
    · subst h9
      simp only [if_true, if_neg h8] at hi ⊢
      unfold leaveS; rw [if_pos (by omega)]; exact ⟨rfl, by show d + 1 - 1 = d; omega⟩
    · simp only [if_neg h8, if_neg h9] at hi ⊢
      by_cases h10 : k = 10
      · rw [if_pos h10]
        have : d = 0 ∨ d = 1 ∨ d = 2 ∨ d = 3 := by omega
        rcases this with rfl | rfl | rfl | rfl <;> exact ⟨rfl, rfl⟩
      · rw [if_neg h10, if_pos (by omega)]
        unfold sameS; rw [if_pos (by omega)]; exact ⟨rfl, rfl⟩
theorem depths_l1 (ns : List S38) (es : List S35) (hns : ns.length ≤ 20) (i : Nat) (hi : i < ns.length) (hd : 0 ≤ ns[i].f3 ∧ ns[i].f3 ≤ 3) (n : S38) (hn : ns[i] = n)
    (h : Ev (fun k => meanderlaw08_GraphDepths.l0 k true ((i : Int) + 1) ns es) true) (m : Nat) : ∀ p : Int, 0 ≤ p → p ≤ insS n.f0 → insS n.f0 - p = m →
    Ev (fun k => meanderlaw08_GraphDepths.l1 k true i (inS n.f0 n.f3) p ns es n.f0 n.f1 n.f2 n.f3) true := by
  have hb := insS_bd n.f0
  induction m with
  | zero =>
    intro p h0 h1 h2
    refine Ev.step (fun k => meanderlaw08_GraphDepths.l1.eq_2 _ _ _ _ _ _ _ _ _ _ k) (ev_bind (ins_s' n.f0) (ev_neg (by omega) (ev_bind (has_s _) (Ev.bind (depth_out ns es hns i hi) (ev_neg ?_ ?_)))))
    · rw [hn]
      by_cases c : 1 ≤ n.f0 ∧ n.f0 ≤ 10
      · rw [if_pos c]; simp [c]
      · rw [if_neg c]
        have : ¬ (-1 : Int) = n.f3 := by rw [hn] at hd; omega
        simp [c, this]
    · rw [w_id (by omega) (by omega)]; exact h
  | succ m ih =>
    intro p h0 h1 h2
    have hd2 := depth_in ns es hns i hi p h0 (by rw [hn]; omega) (by omega)
    rw [hn] at hd2
    refine Ev.step (fun k => meanderlaw08_GraphDepths.l1.eq_2 _ _ _ _ _ _ _ _ _ _ k) (ev_bind (ins_s' n.f0) (ev_pos (by omega) (Ev.bind hd2 (ev_pos rfl ?_))))
    rw [w_id (by omega) (by omega)]
    exact ih (p + 1) (by omega) (by omega) (by omega)
theorem depths_l0 (ns : List S38) (es : List S35) (hns : ns.length ≤ 20) (hw : ∀ x ∈ ns, GOpen.Wf x.f0 ∧ GOpen.Wf x.f1 ∧ GOpen.Wf x.f2 ∧ GOpen.Wf x.f3) (m : Nat) : ∀ i : Nat, i ≤ ns.length → ns.length - i = m →
    Ev (fun k => meanderlaw08_GraphDepths.l0 k true i ns es) true := by
  induction m with
  | zero =>
    intro i hi hd
    exact Ev.step (fun k => meanderlaw08_GraphDepths.l0.eq_2 _ _ _ _ k) (ev_neg (by omega) (ev_some rfl))
  | succ m ih =>
    intro i hi hd
    have hlt : i < ns.length := by omega
    have h := ih (i + 1) (by omega) (by omega)
    have go : ∀ x6 : Int, Ev (fun k => meanderlaw08_GraphDepths.j1 k true i x6 true ns es ns[i].f0 ns[i].f1 ns[i].f2 ns[i].f3) true := fun x6 =>
      Ev.step (fun k => meanderlaw08_GraphDepths.j1.eq_2 _ _ _ _ _ _ _ _ _ _ k) (ev_pos rfl (by rw [w_id (by omega) (by omega)]; exact h))
    refine Ev.step (fun k => meanderlaw08_GraphDepths.l0.eq_2 _ _ _ _ k) (ev_pos (by omega) (ev_pos (by omega) ?_))
    rw [rdN hlt]
    by_cases h0 : ns[i].f3 < 0
    · refine ev_bind (a := if ns[i].f0 = 8 then wrap64 (ns[i].f3 - 1) else if ns[i].f0 = 9 then wrap64 (ns[i].f3 + 1) else ns[i].f3) ?_ (ev_pos h0 (go _))
      unfold graph_InDepth.f; repeat' split
      all_goals rfl
    by_cases h3 : ns[i].f3 > 3
    · refine ev_bind (a := if ns[i].f0 = 8 then wrap64 (ns[i].f3 - 1) else if ns[i].f0 = 9 then wrap64 (ns[i].f3 + 1) else ns[i].f3) ?_ (ev_neg h0 (ev_pos h3 (go _)))
      unfold graph_InDepth.f; repeat' split
      all_goals rfl
    refine ev_bind (in_s _ _ _ _ (by omega)) (ev_neg h0 (ev_neg h3 ?_))
    by_cases i0 : inS ns[i].f0 ns[i].f3 < 0
    · exact ev_pos i0 (go _)
    refine ev_neg i0 ?_
    by_cases i3 : inS ns[i].f0 ns[i].f3 > 3
    · rw [decide_eq_true i3]; exact go _
    rw [decide_eq_false i3]
    have j2 : Ev (fun k => meanderlaw08_GraphDepths.j2 k true i (inS ns[i].f0 ns[i].f3) false ns es ns[i].f0 ns[i].f1 ns[i].f2 ns[i].f3) true :=
      Ev.step (fun k => meanderlaw08_GraphDepths.j2.eq_2 _ _ _ _ _ _ _ _ _ _ k) (ev_neg (by simp) (depths_l1 ns es hns i hlt (by omega) _ rfl h _ 0 (by omega) (insS_bd _).1 (Int.eq_ofNat_of_zero_le (by have := insS_bd ns[i].f0; omega) |>.choose_spec)))
    refine Ev.step (fun k => meanderlaw08_GraphDepths.j1.eq_2 _ _ _ _ _ _ _ _ _ _ k) (ev_neg (by simp) (ev_bind (inner_s _ _ _ _ (by omega)) (ev_bind (ins_s' _) ?_)))
    by_cases c1 : insS ns[i].f0 > 0
    · refine ev_pos c1 (ev_bind (has_s _) ?_)
      by_cases c2 : 1 ≤ ns[i].f0 ∧ ns[i].f0 ≤ 10
      · refine ev_pos (decide_eq_true c2) ?_
        have hk : 2 ≤ ns[i].f0 := by
          revert c1; unfold insS; intro c1
          repeat' split at c1
          all_goals omega
        have key : (innerS ns[i].f0 ns[i].f3).1 = inS ns[i].f0 ns[i].f3 ∧ (innerS ns[i].f0 ns[i].f3).2.1 = ns[i].f3 := inner_ends _ _ hk c2.2 (by omega) (by omega)
        refine ev_pos key.1 ?_
        rw [key.2]
        simpa using j2
      · exact ev_neg (by simpa using c2) j2
    · exact ev_neg c1 j2
theorem depths_s (ns : List S38) (es : List S35) (hw : ∀ x ∈ ns, GOpen.Wf x.f0 ∧ GOpen.Wf x.f1 ∧ GOpen.Wf x.f2 ∧ GOpen.Wf x.f3) : Ev (fun k => meanderlaw08_GraphDepths.f k ns es) true := by
  unfold meanderlaw08_GraphDepths.f
  refine Ev.bind shown_s (ev_bind (few_s ns es) ?_)
  exact depths_l0 (ns.take 20) (es.take 40) (by rw [List.length_take]; omega) (fun x hx => hw x (List.mem_of_mem_take hx)) _ 0 (by omega) rfl
theorem depths_walk {W : World} (G : GOpen.Graph W) : Calls Try.prog 8 #[G.v] W fun e w' => e = .returned (.bool true) ∧ Below W.heap.size W w' := by
  obtain ⟨k, hk⟩ := (depths_s G.l0 G.l1 G.wf0).rounds
  exact meanderlaw08_GraphDepths.calls k G.A0 G.c0 G.l0 G.A1 G.c1 G.l1 true W G.r0 G.h0 G.r1 G.h1 hk
end Go.Proofs.Ytlhmcobocnhgoaa.Hand
