-- Shaken: of the print's words those that this seat's texts name (shake.py of this repo). Not trusted: Lean checks it.
import Derived.Test.YtjlnjlnecipllaaWWords
import Derived.Laws.StructEq
/-! ### 53. '==' of structs as_ one Bool -/
namespace Go.Proofs.YtjlnjlnecipllaaW.PrintWords
open Go.RowKit
section
variable {P : Program} {d : Nat} {xs ys : Array Value} {f : Field} {fs : List Field} {a b : Value} {r s : Bool} {w : World}
end
end Go.Proofs.YtjlnjlnecipllaaW.PrintWords
