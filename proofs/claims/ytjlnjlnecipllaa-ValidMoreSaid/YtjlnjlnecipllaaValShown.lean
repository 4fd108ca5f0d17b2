/- Plain lemmas on the heads of layer 9's statements. No program in sight. -/
import Derived.Test.YtjlnjlnecipllaaGra
import Derived.Test.YtjlnjlnecipllaaPAllx7
namespace Go.Proofs.Ytjlnjlnecipllaa.Pure
open Go.RowKit Go.Proofs.Ytjlnjlnecipllaa.PAll Go.Proofs.YtjlnjlnecipllaaW.PrintWords Go.Proofs.YtjlnjlnecipllaaW.PrintLast Go.Proofs.YtjlnjlnecipllaaW.PrintMore
set_option linter.unusedVariables false
theorem shown9_s : Ev (fun k => meanderlaw09_shown.f k) true := Ev.of (fun k => meanderlaw09_shown.mono k) (k := 60) (by decide +kernel)
end Go.Proofs.Ytjlnjlnecipllaa.Pure
