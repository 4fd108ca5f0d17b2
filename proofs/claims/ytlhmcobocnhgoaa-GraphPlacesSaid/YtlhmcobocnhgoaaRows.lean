/-
  No cell of these rows narrows 'for every input' (looked for: loops, veiled, ifaces, maps, wideKeys, modest, calm, conditions, laid).
  DERIVED. THE GIVEN ROWS OF THIS SEAT. 6 by the template 'for every input the law returns true; each argument reads behind the call as it read before'; 0 by the template 'total and deterministic' (their statements: YtlhmcobocnhgoaaTotals.lean).
  GIVEN WITH THE SEED: the statements are not yours to turn. If you find one false, say at which input.
  Laid BY PROGRAM, IN A SANDBOX (cutbox-rows.mjs): the forced cells as the released guide's own fill.sh prints them over the translation da9c4712366e87e3… (all of the seat's roots in one cut). By AI agents, Wed Nov 11 2026. No macro, syntax, notation, axiom, sorry.
-/
import Derived.Test.YtlhmcobocnhgoaaChecked
import GoSem.Claim
import GoSem.ClaimJoined
import GoSem.ClaimMapViews
import Derived.JoinedTies
import Derived.KernelRfl
namespace Go.Proofs.Ytlhmcobocnhgoaa
/- THE CELL 'sum', in the pinned program and in every row, IS THE sha256 OF THE DUMP (.gsa) THAT YtlhmcobocnhgoaaProg.lean LOADS. Nothing in Lean hashes anything: it is a label: what it is worth is what the hold of that sum in a sandbox is worth. -/
noncomputable def Try.pinned : Pinned := { name := "ytlhmcobocnhgoaa", sum := "da9c4712366e87e32a20a00e03cb0cf575e450741910d76b87b89e019fb5f451", checked := Try.checked }
namespace Rows
def none {H : Type} : Left H := { results := [], args := [] }

/-- 'meanderlaw08.GraphTotal': WHATEVER THE INPUT: true; the input reads as it did. -/
def graphTotalSpec : ChangeSpec := { name := "graphTotal", fn := fun _ => fun
  | [d1, d2, d3] => { results := [.lit (.bool true)], args := [d1, d2, d3] }
  | _ => none }
def graphTotalRow : OpenClaim := { program := "ytlhmcobocnhgoaa", sum := "da9c4712366e87e32a20a00e03cb0cf575e450741910d76b87b89e019fb5f451", func := "meander/meanderlaw08.GraphTotal", spec := "graphTotal", unfollowed := true, recurses := true, apart := false }
def GraphTotalSaid : Prop := graphTotalRow.holds Try.pinned (OpenSpec.ofChange graphTotalSpec)

/-- ITS FALSE NEIGHBOUR: 'it returns false'. Refute it at one input. -/
def graphTotalWrong : ChangeSpec := { name := "graphTotal", fn := fun _ => fun
  | [d1, d2, d3] => { results := [.lit (.bool false)], args := [d1, d2, d3] }
  | _ => none }
def GraphTotalWrongFalsely : Prop := graphTotalRow.holds Try.pinned (OpenSpec.ofChange graphTotalWrong)

/-- 'meanderlaw08.GraphMany': WHATEVER THE INPUT: true; the input reads as it did. -/
def graphManySpec : ChangeSpec := { name := "graphMany", fn := fun _ => fun
  | [d] => { results := [.lit (.bool true)], args := [d] }
  | _ => none }
def graphManyRow : OpenClaim := { program := "ytlhmcobocnhgoaa", sum := "da9c4712366e87e32a20a00e03cb0cf575e450741910d76b87b89e019fb5f451", func := "meander/meanderlaw08.GraphMany", spec := "graphMany", unfollowed := true, recurses := true, apart := false }
def GraphManySaid : Prop := graphManyRow.holds Try.pinned (OpenSpec.ofChange graphManySpec)

/-- ITS FALSE NEIGHBOUR: 'it returns false'. Refute it at one input. -/
def graphManyWrong : ChangeSpec := { name := "graphMany", fn := fun _ => fun
  | [d] => { results := [.lit (.bool false)], args := [d] }
  | _ => none }
def GraphManyWrongFalsely : Prop := graphManyRow.holds Try.pinned (OpenSpec.ofChange graphManyWrong)

/-- 'meanderlaw08.GraphPlaces': WHATEVER THE INPUT: true; the input reads as it did. -/
def graphPlacesSpec : ChangeSpec := { name := "graphPlaces", fn := fun _ => fun
  | [d1, d2] => { results := [.lit (.bool true)], args := [d1, d2] }
  | _ => none }
def graphPlacesRow : OpenClaim := { program := "ytlhmcobocnhgoaa", sum := "da9c4712366e87e32a20a00e03cb0cf575e450741910d76b87b89e019fb5f451", func := "meander/meanderlaw08.GraphPlaces", spec := "graphPlaces", unfollowed := true, recurses := true, apart := false }
def GraphPlacesSaid : Prop := graphPlacesRow.holds Try.pinned (OpenSpec.ofChange graphPlacesSpec)

/-- ITS FALSE NEIGHBOUR: 'it returns false'. Refute it at one input. -/
def graphPlacesWrong : ChangeSpec := { name := "graphPlaces", fn := fun _ => fun
  | [d1, d2] => { results := [.lit (.bool false)], args := [d1, d2] }
  | _ => none }
def GraphPlacesWrongFalsely : Prop := graphPlacesRow.holds Try.pinned (OpenSpec.ofChange graphPlacesWrong)

/-- 'meanderlaw08.GraphBack': WHATEVER THE INPUT: true; the input reads as it did. -/
def graphBackSpec : ChangeSpec := { name := "graphBack", fn := fun _ => fun
  | [d] => { results := [.lit (.bool true)], args := [d] }
  | _ => none }
def graphBackRow : OpenClaim := { program := "ytlhmcobocnhgoaa", sum := "da9c4712366e87e32a20a00e03cb0cf575e450741910d76b87b89e019fb5f451", func := "meander/meanderlaw08.GraphBack", spec := "graphBack", unfollowed := true, recurses := true, apart := false }
def GraphBackSaid : Prop := graphBackRow.holds Try.pinned (OpenSpec.ofChange graphBackSpec)

/-- ITS FALSE NEIGHBOUR: 'it returns false'. Refute it at one input. -/
def graphBackWrong : ChangeSpec := { name := "graphBack", fn := fun _ => fun
  | [d] => { results := [.lit (.bool false)], args := [d] }
  | _ => none }
def GraphBackWrongFalsely : Prop := graphBackRow.holds Try.pinned (OpenSpec.ofChange graphBackWrong)

/-- 'meanderlaw08.GraphNodes': WHATEVER THE INPUT: true; the input reads as it did. -/
def graphNodesSpec : ChangeSpec := { name := "graphNodes", fn := fun _ => fun
  | [d1, d2, d3] => { results := [.lit (.bool true)], args := [d1, d2, d3] }
  | _ => none }
def graphNodesRow : OpenClaim := { program := "ytlhmcobocnhgoaa", sum := "da9c4712366e87e32a20a00e03cb0cf575e450741910d76b87b89e019fb5f451", func := "meander/meanderlaw08.GraphNodes", spec := "graphNodes", unfollowed := true, recurses := true, apart := false }
def GraphNodesSaid : Prop := graphNodesRow.holds Try.pinned (OpenSpec.ofChange graphNodesSpec)

/-- ITS FALSE NEIGHBOUR: 'it returns false'. Refute it at one input. -/
def graphNodesWrong : ChangeSpec := { name := "graphNodes", fn := fun _ => fun
  | [d1, d2, d3] => { results := [.lit (.bool false)], args := [d1, d2, d3] }
  | _ => none }
def GraphNodesWrongFalsely : Prop := graphNodesRow.holds Try.pinned (OpenSpec.ofChange graphNodesWrong)

/-- 'meanderlaw08.GraphDepths': WHATEVER THE INPUT: true; the input reads as it did. -/
def graphDepthsSpec : ChangeSpec := { name := "graphDepths", fn := fun _ => fun
  | [d] => { results := [.lit (.bool true)], args := [d] }
  | _ => none }
def graphDepthsRow : OpenClaim := { program := "ytlhmcobocnhgoaa", sum := "da9c4712366e87e32a20a00e03cb0cf575e450741910d76b87b89e019fb5f451", func := "meander/meanderlaw08.GraphDepths", spec := "graphDepths", unfollowed := true, recurses := true, apart := false }
def GraphDepthsSaid : Prop := graphDepthsRow.holds Try.pinned (OpenSpec.ofChange graphDepthsSpec)

/-- ITS FALSE NEIGHBOUR: 'it returns false'. Refute it at one input. -/
def graphDepthsWrong : ChangeSpec := { name := "graphDepths", fn := fun _ => fun
  | [d] => { results := [.lit (.bool false)], args := [d] }
  | _ => none }
def GraphDepthsWrongFalsely : Prop := graphDepthsRow.holds Try.pinned (OpenSpec.ofChange graphDepthsWrong)

/- THE SECOND FORM. 'bulk': how many values and letters a reading holds, each counted each time it is reached (what is shared counts as often as it is met; a slice's spare places count too). A statement '..UptoSaid' is the law's where the arguments, and the package variables that the reading takes, are together of bulk at most 1048576: NARROWER than '..Said'. Prove '..Said' where nothing that the law and all that it calls make is longer than what came in: it says more and counts as full. Else prove '..UptoSaid'. A law counts once. -/
mutual
def uptoBulk {H : Type} : DataW H → Nat
  | .lit (.string bytes) => bytes.length + 1
  | .lit _ => 1
  | .nil => 1
  | .ptr d => uptoBulk d + 1
  | .slice elems spare => uptoBulkAll elems + uptoBulkAll spare + 1
  | .agg parts => uptoBulkAll parts + 1
  | .iface _ d => uptoBulk d + 1
  | .map entries => uptoBulkEntries entries + 1
  | .held _ => 1
def uptoBulkAll {H : Type} : List (DataW H) → Nat
  | [] => 0
  | d :: r => uptoBulk d + uptoBulkAll r
def uptoBulkEntries {H : Type} : List (Lit × DataW H) → Nat
  | [] => 0
  | x :: r => uptoBulkEntry x + uptoBulkEntries r
def uptoBulkEntry {H : Type} : Lit × DataW H → Nat
  | (.string bytes, d) => bytes.length + uptoBulk d + 1
  | (_, d) => uptoBulk d + 1
 end
def uptoSmall : (H : Type) → List (DataW H) → Bool := fun _ ds => decide (uptoBulkAll ds ≤ 1048576)
def OpenSpec.upto (s : _root_.Go.ChangeSpec) : _root_.Go.OpenSpec := { _root_.Go.OpenSpec.ofChange s with cond := some uptoSmall }

/-- 'meanderlaw08.GraphTotal', WHERE WHAT IT READS IS OF BULK AT MOST 1048576: true; the input reads as it did. -/
def graphTotalUptoRow : OpenClaim := { program := "ytlhmcobocnhgoaa", sum := "da9c4712366e87e32a20a00e03cb0cf575e450741910d76b87b89e019fb5f451", func := "meander/meanderlaw08.GraphTotal", spec := "graphTotal", unfollowed := true, recurses := true, apart := false, narrowed := true }
def GraphTotalUptoSaid : Prop := graphTotalUptoRow.holds Try.pinned (OpenSpec.upto graphTotalSpec)

/-- 'meanderlaw08.GraphMany', WHERE WHAT IT READS IS OF BULK AT MOST 1048576: true; the input reads as it did. -/
def graphManyUptoRow : OpenClaim := { program := "ytlhmcobocnhgoaa", sum := "da9c4712366e87e32a20a00e03cb0cf575e450741910d76b87b89e019fb5f451", func := "meander/meanderlaw08.GraphMany", spec := "graphMany", unfollowed := true, recurses := true, apart := false, narrowed := true }
def GraphManyUptoSaid : Prop := graphManyUptoRow.holds Try.pinned (OpenSpec.upto graphManySpec)

/-- 'meanderlaw08.GraphPlaces', WHERE WHAT IT READS IS OF BULK AT MOST 1048576: true; the input reads as it did. -/
def graphPlacesUptoRow : OpenClaim := { program := "ytlhmcobocnhgoaa", sum := "da9c4712366e87e32a20a00e03cb0cf575e450741910d76b87b89e019fb5f451", func := "meander/meanderlaw08.GraphPlaces", spec := "graphPlaces", unfollowed := true, recurses := true, apart := false, narrowed := true }
def GraphPlacesUptoSaid : Prop := graphPlacesUptoRow.holds Try.pinned (OpenSpec.upto graphPlacesSpec)

/-- 'meanderlaw08.GraphBack', WHERE WHAT IT READS IS OF BULK AT MOST 1048576: true; the input reads as it did. -/
def graphBackUptoRow : OpenClaim := { program := "ytlhmcobocnhgoaa", sum := "da9c4712366e87e32a20a00e03cb0cf575e450741910d76b87b89e019fb5f451", func := "meander/meanderlaw08.GraphBack", spec := "graphBack", unfollowed := true, recurses := true, apart := false, narrowed := true }
def GraphBackUptoSaid : Prop := graphBackUptoRow.holds Try.pinned (OpenSpec.upto graphBackSpec)

/-- 'meanderlaw08.GraphNodes', WHERE WHAT IT READS IS OF BULK AT MOST 1048576: true; the input reads as it did. -/
def graphNodesUptoRow : OpenClaim := { program := "ytlhmcobocnhgoaa", sum := "da9c4712366e87e32a20a00e03cb0cf575e450741910d76b87b89e019fb5f451", func := "meander/meanderlaw08.GraphNodes", spec := "graphNodes", unfollowed := true, recurses := true, apart := false, narrowed := true }
def GraphNodesUptoSaid : Prop := graphNodesUptoRow.holds Try.pinned (OpenSpec.upto graphNodesSpec)

/-- 'meanderlaw08.GraphDepths', WHERE WHAT IT READS IS OF BULK AT MOST 1048576: true; the input reads as it did. -/
def graphDepthsUptoRow : OpenClaim := { program := "ytlhmcobocnhgoaa", sum := "da9c4712366e87e32a20a00e03cb0cf575e450741910d76b87b89e019fb5f451", func := "meander/meanderlaw08.GraphDepths", spec := "graphDepths", unfollowed := true, recurses := true, apart := false, narrowed := true }
def GraphDepthsUptoSaid : Prop := graphDepthsUptoRow.holds Try.pinned (OpenSpec.upto graphDepthsSpec)

end Rows
end Go.Proofs.Ytlhmcobocnhgoaa
