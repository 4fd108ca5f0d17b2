/- Plain lemmas on the heads of layer 8's statements. No program in sight. -/
import Derived.Test.YtlhmcobocnhgoaaGraPlc
import Derived.Test.YtlhmcobocnhgoaaPPlcx3
import Derived.Test.YtlhmcobocnhgoaaPPlcx2
import Derived.Test.YtlhmcobocnhgoaaPPlcx3
import Derived.Test.YtlhmcobocnhgoaaPPlcx3
namespace Go.Proofs.Ytlhmcobocnhgoaa.Pure
open Go.RowKit Go.Proofs.Ytlhmcobocnhgoaa.PPlc Go.Proofs.YtlhmcobocnhgoaaW.PrintWords Go.Proofs.YtlhmcobocnhgoaaW.PrintLast Go.Proofs.YtlhmcobocnhgoaaW.PrintMore
set_option linter.unusedVariables false
set_option linter.unusedSimpArgs false

theorem shown_s : Ev (fun k => meanderlaw08_shown.f k) true := by
  unfold meanderlaw08_shown.f
  refine ev_bind (ins_s 4) (ev_pos (by decide) (ev_bind (has_s 11) (ev_neg (by decide) (ev_bind (has_s 2) (ev_pos (by decide) (ev_bind (a := 1) (by unfold graph_InDepth.f; rw [if_pos rfl, w_id (by omega) (by omega)]; rfl) (ev_pos rfl ?_)))))))
  refine Ev.bind (a := -1) ?_ (ev_some (by decide))
  unfold graph_Depth.f
  refine Ev.bind (a := false) ?_ (ev_neg (by decide) (ev_some rfl))
  unfold graph_Is.f
  refine Ev.bind (a := []) ?_ (ev_pos (by decide) ?_)
  · unfold graph_Locs.f
    exact Ev.step (fun k => graph_Locs.l0.eq_2 _ _ _ _ k) (ev_neg (by decide) (ev_some rfl))
  · exact Ev.step (fun k => graph_Is.l0.eq_2 _ _ _ _ _ k) (ev_neg (by decide) (ev_neg (by decide) (ev_some rfl)))
end Go.Proofs.Ytlhmcobocnhgoaa.Pure
