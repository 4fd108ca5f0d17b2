/- ValidNodes: whether any node may be is as the document says: true, for every node. Conditions: none. -/
import Derived.Test.YtjlnjlnecipllaaGOpen
import Derived.Test.YtjlnjlnecipllaaValShown
import Derived.Test.YtjlnjlnecipllaaValRefNode
import Derived.Test.YtjlnjlnecipllaaPAllx10
namespace Go.Proofs.Ytjlnjlnecipllaa.Hand
open Go.RowKit Go.Proofs.YtjlnjlnecipllaaW.PrintWords Go.Proofs.YtjlnjlnecipllaaW.PrintLast Go.Proofs.YtjlnjlnecipllaaW.PrintMore Go.Proofs.Ytjlnjlnecipllaa.PAll Go.Proofs.Ytjlnjlnecipllaa.Pure
set_option linter.unusedVariables false
theorem nodes_s (a b c d : Int) : Ev (fun k => meanderlaw09_ValidNodes.f k a b c d) true := by
  unfold meanderlaw09_ValidNodes.f
  exact Ev.bind shown9_s (ev_pos rfl (Ev.bind (node_s a b c d) (Ev.bind (rnode_s a b c d) (ev_some (by simp)))))
theorem nodes_walk {W : World} (a b c d : Int) (wn : GOpen.Wf a ∧ GOpen.Wf b ∧ GOpen.Wf c ∧ GOpen.Wf d) :
    Calls Try.prog 3 #[.agg #[.int .i64 a, .int .i64 b, .int .i64 c, .int .i64 d]] W fun e w' => e = .returned (.bool true) ∧ Below W.heap.size W w' := by
  obtain ⟨k, hk⟩ := (nodes_s a b c d).rounds
  exact meanderlaw09_ValidNodes.calls k a b c d true W hk
end Go.Proofs.Ytjlnjlnecipllaa.Hand
