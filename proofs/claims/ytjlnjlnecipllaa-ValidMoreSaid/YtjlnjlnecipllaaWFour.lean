-- Shaken: of the print's words those that this seat's texts name (shake.py of this repo). Not trusted: Lean checks it.
import Derived.Test.YtjlnjlnecipllaaWTab
/-! ### 56. Four, five, six operations that may come up next, in any order -/
namespace Go.Proofs.YtjlnjlnecipllaaW.PrintLast
section
variable {P : Program} {ops : Array Oper} {Q : Exit → Act → World → Prop} {md : Region.Mode} {S : World → Prop} {ds : List Nat} {T : Bool × List (List Nat × List Nat)}
end
end Go.Proofs.YtjlnjlnecipllaaW.PrintLast
