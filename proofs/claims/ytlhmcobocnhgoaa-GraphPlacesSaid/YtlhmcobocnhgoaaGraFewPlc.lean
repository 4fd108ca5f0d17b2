/- Plain lemmas on few nodes and edges, of layer 8's statements. No program in sight. -/
import Derived.Test.YtlhmcobocnhgoaaGraPlc
import Derived.Test.YtlhmcobocnhgoaaPPlcx3
namespace Go.Proofs.Ytlhmcobocnhgoaa.Pure
open Go.RowKit Go.Proofs.Ytlhmcobocnhgoaa.PPlc Go.Proofs.YtlhmcobocnhgoaaW.PrintWords Go.Proofs.YtlhmcobocnhgoaaW.PrintLast Go.Proofs.YtlhmcobocnhgoaaW.PrintMore
set_option linter.unusedVariables false
set_option linter.unusedSimpArgs false

theorem few_s (ns : List S38) (es : List S35) : meanderlaw08_few.f ns es = some (ns.take 20, es.take 40) := by
  unfold meanderlaw08_few.f
  by_cases h : (ns.length : Int) > 20
  · rw [if_pos h, if_pos (by omega)]
    simp only [Option.bind_some]
    by_cases h' : (es.length : Int) > 40
    · (rw [if_pos h', if_pos (by omega)]; try rfl)
    · (rw [if_neg h', List.take_of_length_le (by omega : es.length ≤ 40)]; try rfl)
  · rw [if_neg h, List.take_of_length_le (by omega : ns.length ≤ 20)]
    by_cases h' : (es.length : Int) > 40
    · (rw [if_pos h', if_pos (by omega)]; try rfl)
    · rw [if_neg h', List.take_of_length_le (by omega : es.length ≤ 40)]

end Go.Proofs.Ytlhmcobocnhgoaa.Pure
