/- ValidGraphs: what is wrong with any graph is as the document says: true, for every graph. Conditions: none. -/
import Derived.Test.YtjlnjlnecipllaaGOpen
import Derived.Test.YtjlnjlnecipllaaValShown
import Derived.Test.YtjlnjlnecipllaaValFew
import Derived.Test.YtjlnjlnecipllaaValRef
import Derived.Test.YtjlnjlnecipllaaPAllVg
namespace Go.Proofs.Ytjlnjlnecipllaa.Hand
open Go.RowKit Go.Proofs.YtjlnjlnecipllaaW.PrintWords Go.Proofs.YtjlnjlnecipllaaW.PrintLast Go.Proofs.YtjlnjlnecipllaaW.PrintMore Go.Proofs.Ytjlnjlnecipllaa.PAll Go.Proofs.Ytjlnjlnecipllaa.Pure
set_option linter.unusedVariables false
theorem graphs_s (ns : List S23) (es : List S36) : Ev (fun k => meanderlaw09_ValidGraphs_Vg.f k ns es) true := by
  unfold meanderlaw09_ValidGraphs_Vg.f
  refine Ev.bind shown9_s (ev_bind (few9_s ns es) ?_)
  exact ev_pos rfl (Ev.bind (graph_s _ _) (Ev.bind (rgraph_s _ _) (ev_some (by simp))))
theorem graphs_walk {W : World} (G : GOpen.Graph W) : Calls Try.prog 4 #[G.v] W fun e w' => e = .returned (.bool true) ∧ Below W.heap.size W w' := by
  obtain ⟨k, hk⟩ := (graphs_s G.l0 G.l1).rounds
  exact meanderlaw09_ValidGraphs_Vg.calls k G.A0 G.c0 G.l0 G.A1 G.c1 G.l1 true W G.r0 G.h0 G.r1 G.h1 hk
end Go.Proofs.Ytjlnjlnecipllaa.Hand
