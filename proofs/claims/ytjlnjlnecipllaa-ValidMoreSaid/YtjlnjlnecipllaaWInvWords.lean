-- Shaken: of the print's words those that this seat's texts name (shake.py of this repo). Not trusted: Lean checks it.
import Derived.Test.YtjlnjlnecipllaaWInv
import Derived.Test.YtjlnjlnecipllaaWFootNe
namespace Go.Proofs.YtjlnjlnecipllaaW.PrintWords
open Go.RowKit
end Go.Proofs.YtjlnjlnecipllaaW.PrintWords
namespace Go.Proofs.YtjlnjlnecipllaaW.PrintLast
section
variable {ops : Array Oper} {a : Act} {o og : Oper} {g : Nat} {t : Tmp} {u : Bool}
end
end Go.Proofs.YtjlnjlnecipllaaW.PrintLast
