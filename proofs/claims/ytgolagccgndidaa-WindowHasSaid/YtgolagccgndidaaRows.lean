/-
  No cell of these rows narrows 'for every input' (looked for: loops, veiled, ifaces, maps, wideKeys, modest, calm, conditions, laid).
  DERIVED. THE GIVEN ROWS OF THIS SEAT. 6 by the template 'for every input the law returns true; each argument reads behind the call as it read before'; 0 by the template 'total and deterministic' (their statements: YtgolagccgndidaaTotals.lean).
  GIVEN WITH THE SEED: the statements are not yours to turn. If you find one false, say at which input.
  Laid BY PROGRAM, IN A SANDBOX (cutbox-rows.mjs): the forced cells as the released guide's own fill.sh prints them over the translation a0b2bcc04fd02b35… (all of the seat's roots in one cut). By AI agents, Wed Nov 11 2026. No macro, syntax, notation, axiom, sorry.
-/
import Derived.Test.YtgolagccgndidaaChecked
import GoSem.Claim
import GoSem.ClaimJoined
import GoSem.ClaimMapViews
import Derived.JoinedTies
import Derived.KernelRfl
namespace Go.Proofs.Ytgolagccgndidaa
/- THE CELL 'sum', in the pinned program and in every row, IS THE sha256 OF THE DUMP (.gsa) THAT YtgolagccgndidaaProg.lean LOADS. Nothing in Lean hashes anything: it is a label: what it is worth is what the hold of that sum in a sandbox is worth. -/
noncomputable def Try.pinned : Pinned := { name := "ytgolagccgndidaa", sum := "a0b2bcc04fd02b3568dcbc533714d8cac27de9710baaef22c7ea80854b1c6cd3", checked := Try.checked }
namespace Rows
def none {H : Type} : Left H := { results := [], args := [] }

/-- 'meanderlaw07.WindowOf': WHATEVER THE INPUT: true; the input reads as it did. -/
def windowOfSpec : ChangeSpec := { name := "windowOf", fn := fun _ => fun
  | [d1, d2, d3] => { results := [.lit (.bool true)], args := [d1, d2, d3] }
  | _ => none }
def windowOfRow : OpenClaim := { program := "ytgolagccgndidaa", sum := "a0b2bcc04fd02b3568dcbc533714d8cac27de9710baaef22c7ea80854b1c6cd3", func := "meander/meanderlaw07.WindowOf", spec := "windowOf", apart := false }
def WindowOfSaid : Prop := windowOfRow.holds Try.pinned (OpenSpec.ofChange windowOfSpec)

/-- ITS FALSE NEIGHBOUR: 'it returns false'. Refute it at one input. -/
def windowOfWrong : ChangeSpec := { name := "windowOf", fn := fun _ => fun
  | [d1, d2, d3] => { results := [.lit (.bool false)], args := [d1, d2, d3] }
  | _ => none }
def WindowOfWrongFalsely : Prop := windowOfRow.holds Try.pinned (OpenSpec.ofChange windowOfWrong)

/-- 'meanderlaw07.WindowSpan': WHATEVER THE INPUT: true; the input reads as it did. -/
def windowSpanSpec : ChangeSpec := { name := "windowSpan", fn := fun _ => fun
  | [d1, d2, d3] => { results := [.lit (.bool true)], args := [d1, d2, d3] }
  | _ => none }
def windowSpanRow : OpenClaim := { program := "ytgolagccgndidaa", sum := "a0b2bcc04fd02b3568dcbc533714d8cac27de9710baaef22c7ea80854b1c6cd3", func := "meander/meanderlaw07.WindowSpan", spec := "windowSpan", apart := false }
def WindowSpanSaid : Prop := windowSpanRow.holds Try.pinned (OpenSpec.ofChange windowSpanSpec)

/-- ITS FALSE NEIGHBOUR: 'it returns false'. Refute it at one input. -/
def windowSpanWrong : ChangeSpec := { name := "windowSpan", fn := fun _ => fun
  | [d1, d2, d3] => { results := [.lit (.bool false)], args := [d1, d2, d3] }
  | _ => none }
def WindowSpanWrongFalsely : Prop := windowSpanRow.holds Try.pinned (OpenSpec.ofChange windowSpanWrong)

/-- 'meanderlaw07.WindowHas': WHATEVER THE INPUT: true; the input reads as it did. -/
def windowHasSpec : ChangeSpec := { name := "windowHas", fn := fun _ => fun
  | [d1, d2, d3] => { results := [.lit (.bool true)], args := [d1, d2, d3] }
  | _ => none }
def windowHasRow : OpenClaim := { program := "ytgolagccgndidaa", sum := "a0b2bcc04fd02b3568dcbc533714d8cac27de9710baaef22c7ea80854b1c6cd3", func := "meander/meanderlaw07.WindowHas", spec := "windowHas", apart := false }
def WindowHasSaid : Prop := windowHasRow.holds Try.pinned (OpenSpec.ofChange windowHasSpec)

/-- ITS FALSE NEIGHBOUR: 'it returns false'. Refute it at one input. -/
def windowHasWrong : ChangeSpec := { name := "windowHas", fn := fun _ => fun
  | [d1, d2, d3] => { results := [.lit (.bool false)], args := [d1, d2, d3] }
  | _ => none }
def WindowHasWrongFalsely : Prop := windowHasRow.holds Try.pinned (OpenSpec.ofChange windowHasWrong)

/-- 'meanderlaw07.WindowSteps': WHATEVER THE INPUT: true; the input reads as it did. -/
def windowStepsSpec : ChangeSpec := { name := "windowSteps", fn := fun _ => fun
  | [d1, d2, d3] => { results := [.lit (.bool true)], args := [d1, d2, d3] }
  | _ => none }
def windowStepsRow : OpenClaim := { program := "ytgolagccgndidaa", sum := "a0b2bcc04fd02b3568dcbc533714d8cac27de9710baaef22c7ea80854b1c6cd3", func := "meander/meanderlaw07.WindowSteps", spec := "windowSteps", apart := false }
def WindowStepsSaid : Prop := windowStepsRow.holds Try.pinned (OpenSpec.ofChange windowStepsSpec)

/-- ITS FALSE NEIGHBOUR: 'it returns false'. Refute it at one input. -/
def windowStepsWrong : ChangeSpec := { name := "windowSteps", fn := fun _ => fun
  | [d1, d2, d3] => { results := [.lit (.bool false)], args := [d1, d2, d3] }
  | _ => none }
def WindowStepsWrongFalsely : Prop := windowStepsRow.holds Try.pinned (OpenSpec.ofChange windowStepsWrong)

/-- 'meanderlaw07.WindowEnds': WHATEVER THE INPUT: true; the input reads as it did. -/
def windowEndsSpec : ChangeSpec := { name := "windowEnds", fn := fun _ => fun
  | [d1, d2, d3] => { results := [.lit (.bool true)], args := [d1, d2, d3] }
  | _ => none }
def windowEndsRow : OpenClaim := { program := "ytgolagccgndidaa", sum := "a0b2bcc04fd02b3568dcbc533714d8cac27de9710baaef22c7ea80854b1c6cd3", func := "meander/meanderlaw07.WindowEnds", spec := "windowEnds", apart := false }
def WindowEndsSaid : Prop := windowEndsRow.holds Try.pinned (OpenSpec.ofChange windowEndsSpec)

/-- ITS FALSE NEIGHBOUR: 'it returns false'. Refute it at one input. -/
def windowEndsWrong : ChangeSpec := { name := "windowEnds", fn := fun _ => fun
  | [d1, d2, d3] => { results := [.lit (.bool false)], args := [d1, d2, d3] }
  | _ => none }
def WindowEndsWrongFalsely : Prop := windowEndsRow.holds Try.pinned (OpenSpec.ofChange windowEndsWrong)

/-- 'meanderlaw07.WindowWhole': WHATEVER THE INPUT: true; the input reads as it did. -/
def windowWholeSpec : ChangeSpec := { name := "windowWhole", fn := fun _ => fun
  | [d1, d2, d3] => { results := [.lit (.bool true)], args := [d1, d2, d3] }
  | _ => none }
def windowWholeRow : OpenClaim := { program := "ytgolagccgndidaa", sum := "a0b2bcc04fd02b3568dcbc533714d8cac27de9710baaef22c7ea80854b1c6cd3", func := "meander/meanderlaw07.WindowWhole", spec := "windowWhole", apart := false }
def WindowWholeSaid : Prop := windowWholeRow.holds Try.pinned (OpenSpec.ofChange windowWholeSpec)

/-- ITS FALSE NEIGHBOUR: 'it returns false'. Refute it at one input. -/
def windowWholeWrong : ChangeSpec := { name := "windowWhole", fn := fun _ => fun
  | [d1, d2, d3] => { results := [.lit (.bool false)], args := [d1, d2, d3] }
  | _ => none }
def WindowWholeWrongFalsely : Prop := windowWholeRow.holds Try.pinned (OpenSpec.ofChange windowWholeWrong)

/- THE SECOND FORM. 'bulk': how many values and letters a reading holds, each counted each time it is reached (what is shared counts as often as it is met; a slice's spare places count too). A statement '..UptoSaid' is the law's where the arguments, and the package variables that the reading takes, are together of bulk at most 1048576: NARROWER than '..Said'. Prove '..Said' where nothing that the law and all that it calls make is longer than what came in: it says more and counts as full. Else prove '..UptoSaid'. A law counts once. -/
mutual
def uptoBulk {H : Type} : DataW H → Nat
  | .lit (.string bytes) => bytes.length + 1
  | .lit _ => 1
  | .nil => 1
  | .ptr d => uptoBulk d + 1
  | .slice elems spare => uptoBulkAll elems + uptoBulkAll spare + 1
  | .agg parts => uptoBulkAll parts + 1
  | .iface _ d => uptoBulk d + 1
  | .map entries => uptoBulkEntries entries + 1
  | .held _ => 1
def uptoBulkAll {H : Type} : List (DataW H) → Nat
  | [] => 0
  | d :: r => uptoBulk d + uptoBulkAll r
def uptoBulkEntries {H : Type} : List (Lit × DataW H) → Nat
  | [] => 0
  | x :: r => uptoBulkEntry x + uptoBulkEntries r
def uptoBulkEntry {H : Type} : Lit × DataW H → Nat
  | (.string bytes, d) => bytes.length + uptoBulk d + 1
  | (_, d) => uptoBulk d + 1
 end
def uptoSmall : (H : Type) → List (DataW H) → Bool := fun _ ds => decide (uptoBulkAll ds ≤ 1048576)
def OpenSpec.upto (s : _root_.Go.ChangeSpec) : _root_.Go.OpenSpec := { _root_.Go.OpenSpec.ofChange s with cond := some uptoSmall }

/-- 'meanderlaw07.WindowOf', WHERE WHAT IT READS IS OF BULK AT MOST 1048576: true; the input reads as it did. -/
def windowOfUptoRow : OpenClaim := { program := "ytgolagccgndidaa", sum := "a0b2bcc04fd02b3568dcbc533714d8cac27de9710baaef22c7ea80854b1c6cd3", func := "meander/meanderlaw07.WindowOf", spec := "windowOf", apart := false, narrowed := true }
def WindowOfUptoSaid : Prop := windowOfUptoRow.holds Try.pinned (OpenSpec.upto windowOfSpec)

/-- 'meanderlaw07.WindowSpan', WHERE WHAT IT READS IS OF BULK AT MOST 1048576: true; the input reads as it did. -/
def windowSpanUptoRow : OpenClaim := { program := "ytgolagccgndidaa", sum := "a0b2bcc04fd02b3568dcbc533714d8cac27de9710baaef22c7ea80854b1c6cd3", func := "meander/meanderlaw07.WindowSpan", spec := "windowSpan", apart := false, narrowed := true }
def WindowSpanUptoSaid : Prop := windowSpanUptoRow.holds Try.pinned (OpenSpec.upto windowSpanSpec)

/-- 'meanderlaw07.WindowHas', WHERE WHAT IT READS IS OF BULK AT MOST 1048576: true; the input reads as it did. -/
def windowHasUptoRow : OpenClaim := { program := "ytgolagccgndidaa", sum := "a0b2bcc04fd02b3568dcbc533714d8cac27de9710baaef22c7ea80854b1c6cd3", func := "meander/meanderlaw07.WindowHas", spec := "windowHas", apart := false, narrowed := true }
def WindowHasUptoSaid : Prop := windowHasUptoRow.holds Try.pinned (OpenSpec.upto windowHasSpec)

/-- 'meanderlaw07.WindowSteps', WHERE WHAT IT READS IS OF BULK AT MOST 1048576: true; the input reads as it did. -/
def windowStepsUptoRow : OpenClaim := { program := "ytgolagccgndidaa", sum := "a0b2bcc04fd02b3568dcbc533714d8cac27de9710baaef22c7ea80854b1c6cd3", func := "meander/meanderlaw07.WindowSteps", spec := "windowSteps", apart := false, narrowed := true }
def WindowStepsUptoSaid : Prop := windowStepsUptoRow.holds Try.pinned (OpenSpec.upto windowStepsSpec)

/-- 'meanderlaw07.WindowEnds', WHERE WHAT IT READS IS OF BULK AT MOST 1048576: true; the input reads as it did. -/
def windowEndsUptoRow : OpenClaim := { program := "ytgolagccgndidaa", sum := "a0b2bcc04fd02b3568dcbc533714d8cac27de9710baaef22c7ea80854b1c6cd3", func := "meander/meanderlaw07.WindowEnds", spec := "windowEnds", apart := false, narrowed := true }
def WindowEndsUptoSaid : Prop := windowEndsUptoRow.holds Try.pinned (OpenSpec.upto windowEndsSpec)

/-- 'meanderlaw07.WindowWhole', WHERE WHAT IT READS IS OF BULK AT MOST 1048576: true; the input reads as it did. -/
def windowWholeUptoRow : OpenClaim := { program := "ytgolagccgndidaa", sum := "a0b2bcc04fd02b3568dcbc533714d8cac27de9710baaef22c7ea80854b1c6cd3", func := "meander/meanderlaw07.WindowWhole", spec := "windowWhole", apart := false, narrowed := true }
def WindowWholeUptoSaid : Prop := windowWholeUptoRow.holds Try.pinned (OpenSpec.upto windowWholeSpec)

end Rows
end Go.Proofs.Ytgolagccgndidaa
