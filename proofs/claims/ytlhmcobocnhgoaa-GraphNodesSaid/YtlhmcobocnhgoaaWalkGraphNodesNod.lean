/- GraphNodes: what any node has, and does to times, and the order of any two places, is as the document says: true, for every node and places. Conditions: none. -/
import Derived.Test.YtlhmcobocnhgoaaGOpenNod
import Derived.Test.YtlhmcobocnhgoaaGraShownNod
import Derived.Test.YtlhmcobocnhgoaaGraRefNod
import Derived.Test.YtlhmcobocnhgoaaPNodx6
namespace Go.Proofs.Ytlhmcobocnhgoaa.Hand
open Go.RowKit Go.Proofs.YtlhmcobocnhgoaaW.PrintWords Go.Proofs.YtlhmcobocnhgoaaW.PrintLast Go.Proofs.YtlhmcobocnhgoaaW.PrintMore Go.Proofs.Ytlhmcobocnhgoaa.PNod Go.Proofs.Ytlhmcobocnhgoaa.Pure
set_option linter.unusedVariables false
theorem nodes_s (k0 k1 k2 d a0 a1 b0 b1 : Int) : Ev (fun k => meanderlaw08_GraphNodes.f k k0 k1 k2 d a0 a1 b0 b1) true := by
  unfold meanderlaw08_GraphNodes.f
  refine Ev.bind shown_s ?_
  have no : Ev (fun k => meanderlaw08_GraphNodes.j0 k true false k0 k1 k2 d a0 a1 b0 b1) true :=
    Ev.step (fun k => meanderlaw08_GraphNodes.j0.eq_2 _ _ _ _ _ _ _ _ _ _ k) (ev_neg (by simp) (ev_pos rfl (ev_bind (ins_s' _) (ev_bind (rins_s _) (ev_pos rfl (ev_bind (has_s _) (ev_bind (rhas_s _) (ev_some (by simp)))))))))
  by_cases h : d ≥ -1000
  · refine ev_pos h ?_
    by_cases h1 : d ≤ 1000
    · rw [decide_eq_true h1]
      refine Ev.step (fun k => meanderlaw08_GraphNodes.j0.eq_2 _ _ _ _ _ _ _ _ _ _ k) (ev_pos rfl (ev_pos rfl (ev_bind (ins_s' _) (ev_bind (rins_s _) (ev_pos rfl (ev_bind (has_s _) (ev_bind (rhas_s _) (ev_pos (by simp) (ev_bind (in_s _ _ _ _ (by omega)) (ev_bind (rin_s _ _ _ _ (by omega)) (ev_pos rfl ?_)))))))))))
      refine ev_bind (inner_s _ _ _ _ (by omega)) (ev_bind (rinner_s _ _ _ _ (by omega)) (ev_pos (by simp) ?_))
      exact Ev.bind (order_s _ _ _ _) (ev_bind (rorder_s _ _ _ _) (ev_some (by simp)))
    · rw [decide_eq_false h1]; exact no
  · exact ev_neg h no
theorem nodes_walk {W : World} (k0 k1 k2 d : Int) (wn : GOpen.Wf k0 ∧ GOpen.Wf k1 ∧ GOpen.Wf k2 ∧ GOpen.Wf d) (a0 a1 : Int) (wa : GOpen.Wf a0 ∧ GOpen.Wf a1) (b0 b1 : Int) (wb : GOpen.Wf b0 ∧ GOpen.Wf b1) :
    Calls Try.prog 7 #[.agg #[.int .i64 k0, .int .i64 k1, .int .i64 k2, .int .i64 d], .agg #[.int .i64 a0, .int .i64 a1], .agg #[.int .i64 b0, .int .i64 b1]] W fun e w' => e = .returned (.bool true) ∧ Below W.heap.size W w' := by
  obtain ⟨k, hk⟩ := (nodes_s k0 k1 k2 d a0 a1 b0 b1).rounds
  exact meanderlaw08_GraphNodes.calls k k0 k1 k2 d a0 a1 b0 b1 true W hk
end Go.Proofs.Ytlhmcobocnhgoaa.Hand
