/- The first and the last epoch of any window is as the reference says. Conditions: none but the kinds of the arguments. -/
import Derived.Test.YtgolagccgndidaaPAllx2
import Derived.Test.YtgolagccgndidaaWin
namespace Go.Proofs.Ytgolagccgndidaa.Pure
open Go.RowKit Go.Proofs.Ytgolagccgndidaa.PAll Go.Proofs.YtgolagccgndidaaW.PrintWords Go.Proofs.YtgolagccgndidaaW.PrintLast Go.Proofs.YtgolagccgndidaaW.PrintMore
set_option linter.unusedVariables false

theorem WindowSpan : meanderlaw07_WindowSpan.Pure := by
  intro a b k ha hb hk
  have ha := bd ha
  refine Ev.rounds ?_
  unfold meanderlaw07_WindowSpan.f
  refine Ev.bind shown_s (ev_pos rfl (ev_bind (first_s b k) (ev_bind (rfirst_s b k) (ev_pos rfl ?_))))
  exact ev_bind (last_s a b k ha.1 ha.2) (ev_bind (rlast_s a b k) (ev_some (by simp)))

end Go.Proofs.Ytgolagccgndidaa.Pure
