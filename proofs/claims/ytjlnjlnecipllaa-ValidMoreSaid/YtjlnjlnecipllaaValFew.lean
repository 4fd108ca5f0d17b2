/- Plain lemmas on few nodes and edges, of layer 9's statements. No program in sight. -/
import Derived.Test.YtjlnjlnecipllaaGra
import Derived.Test.YtjlnjlnecipllaaPAllx7
namespace Go.Proofs.Ytjlnjlnecipllaa.Pure
open Go.RowKit Go.Proofs.Ytjlnjlnecipllaa.PAll Go.Proofs.YtjlnjlnecipllaaW.PrintWords Go.Proofs.YtjlnjlnecipllaaW.PrintLast Go.Proofs.YtjlnjlnecipllaaW.PrintMore
set_option linter.unusedVariables false
theorem few9_s (ns : List S23) (es : List S36) : meanderlaw09_few.f ns es = some (ns.take 14, es.take 26) := by
  unfold meanderlaw09_few.f
  by_cases h : (ns.length : Int) > 14
  · rw [if_pos h, if_pos (by omega)]
    simp only [Option.bind_some]
    by_cases h' : (es.length : Int) > 26
    · (rw [if_pos h', if_pos (by omega)]; try rfl)
    · (rw [if_neg h', List.take_of_length_le (by omega : es.length ≤ 26)]; try rfl)
  · rw [if_neg h, List.take_of_length_le (by omega : ns.length ≤ 14)]
    by_cases h' : (es.length : Int) > 26
    · (rw [if_pos h', if_pos (by omega)]; try rfl)
    · rw [if_neg h', List.take_of_length_le (by omega : es.length ≤ 26)]
end Go.Proofs.Ytjlnjlnecipllaa.Pure
