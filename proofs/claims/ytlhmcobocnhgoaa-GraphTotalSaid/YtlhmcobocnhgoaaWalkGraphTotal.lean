/- GraphTotal: places are in one order, in which an output stands ahead of its node's inputs: true, for every three places. Conditions: none. -/
import Derived.Test.YtlhmcobocnhgoaaGra
import Derived.Test.YtlhmcobocnhgoaaTotalCalls
namespace Go.Proofs.Ytlhmcobocnhgoaa.Hand
open Go.RowKit Go.Proofs.YtlhmcobocnhgoaaW.PrintWords Go.Proofs.YtlhmcobocnhgoaaW.PrintLast Go.Proofs.YtlhmcobocnhgoaaW.PrintMore Go.Proofs.Ytlhmcobocnhgoaa.PAll Go.Proofs.Ytlhmcobocnhgoaa.Pure
set_option linter.unusedVariables false
theorem total_walk {W : World} (a0 a1 : Int) (wa : GOpen.Wf a0 ∧ GOpen.Wf a1) (b0 b1 : Int) (wb : GOpen.Wf b0 ∧ GOpen.Wf b1) (c0 c1 : Int) (wc : GOpen.Wf c0 ∧ GOpen.Wf c1) :
    Calls Try.prog 3 #[.agg #[.int .i64 a0, .int .i64 a1], .agg #[.int .i64 b0, .int .i64 b1], .agg #[.int .i64 c0, .int .i64 c1]] W fun e w' => e = .returned (.bool true) ∧ Below W.heap.size W w' := by
  obtain ⟨K1, h1⟩ := shown_s
  obtain ⟨K2, h2⟩ := order_s a0 a1 b0 b1
  obtain ⟨K3, h3⟩ := order_s b0 b1 a0 a1
  obtain ⟨K4, h4⟩ := order_s b0 b1 c0 c1
  obtain ⟨K5, h5⟩ := order_s a0 a1 c0 c1
  obtain ⟨K6, h6⟩ := order_s a0 (-1) a0 0
  refine total_calls a0 a1 b0 b1 c0 c1 _ _ _ _ _ W (K1 + K2 + K3 + K4 + K5 + K6) (h1 _ (by omega)) (h2 _ (by omega)) (h3 _ (by omega)) (h4 _ (by omega)) (h5 _ (by omega)) (h6 _ (by omega)) ?_ ?_ ?_ ?_ (order_bd _ _ _ _)
  · unfold ordS; repeat' split
    all_goals omega
  · unfold ordS; repeat' split
    all_goals omega
  · unfold ordS; repeat' split
    all_goals omega
  · unfold ordS; repeat' split
    all_goals omega
end Go.Proofs.Ytlhmcobocnhgoaa.Hand
