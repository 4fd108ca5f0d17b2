/-
  No cell of these rows narrows 'for every input' (looked for: loops, veiled, ifaces, maps, wideKeys, modest, calm, conditions, laid).
  DERIVED. THE GIVEN ROWS OF THIS SEAT. 6 by the template 'for every input the law returns true; each argument reads behind the call as it read before'; 0 by the template 'total and deterministic' (their statements: YtjlnjlnecipllaaTotals.lean).
  GIVEN WITH THE SEED: the statements are not yours to turn. If you find one false, say at which input.
  Laid BY PROGRAM, IN A SANDBOX (cutbox-rows.mjs): the forced cells as the released guide's own fill.sh prints them over the translation 863e86874dc69663… (all of the seat's roots in one cut). By AI agents, Wed Nov 11 2026. No macro, syntax, notation, axiom, sorry.
-/
import Derived.Test.YtjlnjlnecipllaaChecked
import GoSem.Claim
import GoSem.ClaimJoined
import GoSem.ClaimMapViews
import Derived.JoinedTies
import Derived.KernelRfl
namespace Go.Proofs.Ytjlnjlnecipllaa
/- THE CELL 'sum', in the pinned program and in every row, IS THE sha256 OF THE DUMP (.gsa) THAT YtjlnjlnecipllaaProg.lean LOADS. Nothing in Lean hashes anything: it is a label: what it is worth is what the hold of that sum in a sandbox is worth. -/
noncomputable def Try.pinned : Pinned := { name := "ytjlnjlnecipllaa", sum := "863e86874dc696635193a1c6a707ef4b65f6ac939027f8f8bd930d31e53695f5", checked := Try.checked }
namespace Rows
def none {H : Type} : Left H := { results := [], args := [] }

/-- 'meanderlaw09.ValidNodes': WHATEVER THE INPUT: true; the input reads as it did. -/
def validNodesSpec : ChangeSpec := { name := "validNodes", fn := fun _ => fun
  | [d] => { results := [.lit (.bool true)], args := [d] }
  | _ => none }
def validNodesRow : OpenClaim := { program := "ytjlnjlnecipllaa", sum := "863e86874dc696635193a1c6a707ef4b65f6ac939027f8f8bd930d31e53695f5", func := "meander/meanderlaw09.ValidNodes", spec := "validNodes", unfollowed := true, recurses := true, apart := false }
def ValidNodesSaid : Prop := validNodesRow.holds Try.pinned (OpenSpec.ofChange validNodesSpec)

/-- ITS FALSE NEIGHBOUR: 'it returns false'. Refute it at one input. -/
def validNodesWrong : ChangeSpec := { name := "validNodes", fn := fun _ => fun
  | [d] => { results := [.lit (.bool false)], args := [d] }
  | _ => none }
def ValidNodesWrongFalsely : Prop := validNodesRow.holds Try.pinned (OpenSpec.ofChange validNodesWrong)

/-- 'meanderlaw09.ValidGraphs': WHATEVER THE INPUT: true; the input reads as it did. -/
def validGraphsSpec : ChangeSpec := { name := "validGraphs", fn := fun _ => fun
  | [d] => { results := [.lit (.bool true)], args := [d] }
  | _ => none }
def validGraphsRow : OpenClaim := { program := "ytjlnjlnecipllaa", sum := "863e86874dc696635193a1c6a707ef4b65f6ac939027f8f8bd930d31e53695f5", func := "meander/meanderlaw09.ValidGraphs", spec := "validGraphs", unfollowed := true, recurses := true, apart := false }
def ValidGraphsSaid : Prop := validGraphsRow.holds Try.pinned (OpenSpec.ofChange validGraphsSpec)

/-- ITS FALSE NEIGHBOUR: 'it returns false'. Refute it at one input. -/
def validGraphsWrong : ChangeSpec := { name := "validGraphs", fn := fun _ => fun
  | [d] => { results := [.lit (.bool false)], args := [d] }
  | _ => none }
def ValidGraphsWrongFalsely : Prop := validGraphsRow.holds Try.pinned (OpenSpec.ofChange validGraphsWrong)

/-- 'meanderlaw09.ValidMore': WHATEVER THE INPUT: true; the input reads as it did. -/
def validMoreSpec : ChangeSpec := { name := "validMore", fn := fun _ => fun
  | [d1, d2, d3] => { results := [.lit (.bool true)], args := [d1, d2, d3] }
  | _ => none }
def validMoreRow : OpenClaim := { program := "ytjlnjlnecipllaa", sum := "863e86874dc696635193a1c6a707ef4b65f6ac939027f8f8bd930d31e53695f5", func := "meander/meanderlaw09.ValidMore", spec := "validMore", unfollowed := true, recurses := true, apart := false }
def ValidMoreSaid : Prop := validMoreRow.holds Try.pinned (OpenSpec.ofChange validMoreSpec)

/-- ITS FALSE NEIGHBOUR: 'it returns false'. Refute it at one input. -/
def validMoreWrong : ChangeSpec := { name := "validMore", fn := fun _ => fun
  | [d1, d2, d3] => { results := [.lit (.bool false)], args := [d1, d2, d3] }
  | _ => none }
def ValidMoreWrongFalsely : Prop := validMoreRow.holds Try.pinned (OpenSpec.ofChange validMoreWrong)

/-- 'meanderlaw09.ValidLoops': WHATEVER THE INPUT: true; the input reads as it did. -/
def validLoopsSpec : ChangeSpec := { name := "validLoops", fn := fun _ => fun
  | [d1, d2] => { results := [.lit (.bool true)], args := [d1, d2] }
  | _ => none }
def validLoopsRow : OpenClaim := { program := "ytjlnjlnecipllaa", sum := "863e86874dc696635193a1c6a707ef4b65f6ac939027f8f8bd930d31e53695f5", func := "meander/meanderlaw09.ValidLoops", spec := "validLoops", unfollowed := true, recurses := true, apart := false }
def ValidLoopsSaid : Prop := validLoopsRow.holds Try.pinned (OpenSpec.ofChange validLoopsSpec)

/-- ITS FALSE NEIGHBOUR: 'it returns false'. Refute it at one input. -/
def validLoopsWrong : ChangeSpec := { name := "validLoops", fn := fun _ => fun
  | [d1, d2] => { results := [.lit (.bool false)], args := [d1, d2] }
  | _ => none }
def ValidLoopsWrongFalsely : Prop := validLoopsRow.holds Try.pinned (OpenSpec.ofChange validLoopsWrong)

/-- 'meanderlaw09.ValidNumbers': WHATEVER THE INPUT: true; the input reads as it did. -/
def validNumbersSpec : ChangeSpec := { name := "validNumbers", fn := fun _ => fun
  | [d1, d2, d3] => { results := [.lit (.bool true)], args := [d1, d2, d3] }
  | _ => none }
def validNumbersRow : OpenClaim := { program := "ytjlnjlnecipllaa", sum := "863e86874dc696635193a1c6a707ef4b65f6ac939027f8f8bd930d31e53695f5", func := "meander/meanderlaw09.ValidNumbers", spec := "validNumbers", unfollowed := true, recurses := true, apart := false }
def ValidNumbersSaid : Prop := validNumbersRow.holds Try.pinned (OpenSpec.ofChange validNumbersSpec)

/-- ITS FALSE NEIGHBOUR: 'it returns false'. Refute it at one input. -/
def validNumbersWrong : ChangeSpec := { name := "validNumbers", fn := fun _ => fun
  | [d1, d2, d3] => { results := [.lit (.bool false)], args := [d1, d2, d3] }
  | _ => none }
def ValidNumbersWrongFalsely : Prop := validNumbersRow.holds Try.pinned (OpenSpec.ofChange validNumbersWrong)

/-- 'meanderlaw09.ValidRound': WHATEVER THE INPUT: true; the input reads as it did. -/
def validRoundSpec : ChangeSpec := { name := "validRound", fn := fun _ => fun
  | [d1, d2, d3] => { results := [.lit (.bool true)], args := [d1, d2, d3] }
  | _ => none }
def validRoundRow : OpenClaim := { program := "ytjlnjlnecipllaa", sum := "863e86874dc696635193a1c6a707ef4b65f6ac939027f8f8bd930d31e53695f5", func := "meander/meanderlaw09.ValidRound", spec := "validRound", unfollowed := true, recurses := true, apart := false }
def ValidRoundSaid : Prop := validRoundRow.holds Try.pinned (OpenSpec.ofChange validRoundSpec)

/-- ITS FALSE NEIGHBOUR: 'it returns false'. Refute it at one input. -/
def validRoundWrong : ChangeSpec := { name := "validRound", fn := fun _ => fun
  | [d1, d2, d3] => { results := [.lit (.bool false)], args := [d1, d2, d3] }
  | _ => none }
def ValidRoundWrongFalsely : Prop := validRoundRow.holds Try.pinned (OpenSpec.ofChange validRoundWrong)

/- THE SECOND FORM. 'bulk': how many values and letters a reading holds, each counted each time it is reached (what is shared counts as often as it is met; a slice's spare places count too). A statement '..UptoSaid' is the law's where the arguments, and the package variables that the reading takes, are together of bulk at most 1048576: NARROWER than '..Said'. Prove '..Said' where nothing that the law and all that it calls make is longer than what came in: it says more and counts as full. Else prove '..UptoSaid'. A law counts once. -/
mutual
def uptoBulk {H : Type} : DataW H → Nat
  | .lit (.string bytes) => bytes.length + 1
  | .lit _ => 1
  | .nil => 1
  | .ptr d => uptoBulk d + 1
  | .slice elems spare => uptoBulkAll elems + uptoBulkAll spare + 1
  | .agg parts => uptoBulkAll parts + 1
  | .iface _ d => uptoBulk d + 1
  | .map entries => uptoBulkEntries entries + 1
  | .held _ => 1
def uptoBulkAll {H : Type} : List (DataW H) → Nat
  | [] => 0
  | d :: r => uptoBulk d + uptoBulkAll r
def uptoBulkEntries {H : Type} : List (Lit × DataW H) → Nat
  | [] => 0
  | x :: r => uptoBulkEntry x + uptoBulkEntries r
def uptoBulkEntry {H : Type} : Lit × DataW H → Nat
  | (.string bytes, d) => bytes.length + uptoBulk d + 1
  | (_, d) => uptoBulk d + 1
 end
def uptoSmall : (H : Type) → List (DataW H) → Bool := fun _ ds => decide (uptoBulkAll ds ≤ 1048576)
def OpenSpec.upto (s : _root_.Go.ChangeSpec) : _root_.Go.OpenSpec := { _root_.Go.OpenSpec.ofChange s with cond := some uptoSmall }

/-- 'meanderlaw09.ValidNodes', WHERE WHAT IT READS IS OF BULK AT MOST 1048576: true; the input reads as it did. -/
def validNodesUptoRow : OpenClaim := { program := "ytjlnjlnecipllaa", sum := "863e86874dc696635193a1c6a707ef4b65f6ac939027f8f8bd930d31e53695f5", func := "meander/meanderlaw09.ValidNodes", spec := "validNodes", unfollowed := true, recurses := true, apart := false, narrowed := true }
def ValidNodesUptoSaid : Prop := validNodesUptoRow.holds Try.pinned (OpenSpec.upto validNodesSpec)

/-- 'meanderlaw09.ValidGraphs', WHERE WHAT IT READS IS OF BULK AT MOST 1048576: true; the input reads as it did. -/
def validGraphsUptoRow : OpenClaim := { program := "ytjlnjlnecipllaa", sum := "863e86874dc696635193a1c6a707ef4b65f6ac939027f8f8bd930d31e53695f5", func := "meander/meanderlaw09.ValidGraphs", spec := "validGraphs", unfollowed := true, recurses := true, apart := false, narrowed := true }
def ValidGraphsUptoSaid : Prop := validGraphsUptoRow.holds Try.pinned (OpenSpec.upto validGraphsSpec)

/-- 'meanderlaw09.ValidMore', WHERE WHAT IT READS IS OF BULK AT MOST 1048576: true; the input reads as it did. -/
def validMoreUptoRow : OpenClaim := { program := "ytjlnjlnecipllaa", sum := "863e86874dc696635193a1c6a707ef4b65f6ac939027f8f8bd930d31e53695f5", func := "meander/meanderlaw09.ValidMore", spec := "validMore", unfollowed := true, recurses := true, apart := false, narrowed := true }
def ValidMoreUptoSaid : Prop := validMoreUptoRow.holds Try.pinned (OpenSpec.upto validMoreSpec)

/-- 'meanderlaw09.ValidLoops', WHERE WHAT IT READS IS OF BULK AT MOST 1048576: true; the input reads as it did. -/
def validLoopsUptoRow : OpenClaim := { program := "ytjlnjlnecipllaa", sum := "863e86874dc696635193a1c6a707ef4b65f6ac939027f8f8bd930d31e53695f5", func := "meander/meanderlaw09.ValidLoops", spec := "validLoops", unfollowed := true, recurses := true, apart := false, narrowed := true }
def ValidLoopsUptoSaid : Prop := validLoopsUptoRow.holds Try.pinned (OpenSpec.upto validLoopsSpec)

/-- 'meanderlaw09.ValidNumbers', WHERE WHAT IT READS IS OF BULK AT MOST 1048576: true; the input reads as it did. -/
def validNumbersUptoRow : OpenClaim := { program := "ytjlnjlnecipllaa", sum := "863e86874dc696635193a1c6a707ef4b65f6ac939027f8f8bd930d31e53695f5", func := "meander/meanderlaw09.ValidNumbers", spec := "validNumbers", unfollowed := true, recurses := true, apart := false, narrowed := true }
def ValidNumbersUptoSaid : Prop := validNumbersUptoRow.holds Try.pinned (OpenSpec.upto validNumbersSpec)

/-- 'meanderlaw09.ValidRound', WHERE WHAT IT READS IS OF BULK AT MOST 1048576: true; the input reads as it did. -/
def validRoundUptoRow : OpenClaim := { program := "ytjlnjlnecipllaa", sum := "863e86874dc696635193a1c6a707ef4b65f6ac939027f8f8bd930d31e53695f5", func := "meander/meanderlaw09.ValidRound", spec := "validRound", unfollowed := true, recurses := true, apart := false, narrowed := true }
def ValidRoundUptoSaid : Prop := validRoundUptoRow.holds Try.pinned (OpenSpec.upto validRoundSpec)

end Rows
end Go.Proofs.Ytjlnjlnecipllaa
