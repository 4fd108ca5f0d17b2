/- Whether any windows may be, which ones have any epoch, and where they end, is as the reference says. Conditions: none but the kinds of the arguments. -/
import Derived.Test.YtgolagccgndidaaPAllx2
import Derived.Test.YtgolagccgndidaaWin
namespace Go.Proofs.Ytgolagccgndidaa.Pure
open Go.RowKit Go.Proofs.Ytgolagccgndidaa.PAll Go.Proofs.YtgolagccgndidaaW.PrintWords Go.Proofs.YtgolagccgndidaaW.PrintLast Go.Proofs.YtgolagccgndidaaW.PrintMore
set_option linter.unusedVariables false

theorem WindowOf : meanderlaw07_WindowOf.Pure := by
  intro a b e ha hb he
  have ha := bd ha
  refine Ev.rounds ?_
  unfold meanderlaw07_WindowOf.f
  refine Ev.bind shown_s (Ev.bind (of_s a b e) (Ev.bind (rof_s a b e) (Ev.bind (numbers_s _ (of_length a b e)) (Ev.bind (ends_s a b e ha.1 ha.2) (Ev.bind (rends_s a b e) (Ev.bind (numbers_s _ (ends_length a b e)) (ev_pos rfl ?_)))))))
  exact ev_bind (may_s a b) (ev_bind (rmay_s a b) (ev_pos (by simp) (ev_pos rfl (ev_some rfl))))

end Go.Proofs.Ytgolagccgndidaa.Pure
