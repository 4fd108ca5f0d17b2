/-
  NARROWER THAN 'FOR EVERY INPUT', by the rows' own cells (each row's printed sentence says how): GcodeTakes: laid · GcodeLoads: laid · GcodePuts: laid · GcodeSizes: laid · GcodeBack: laid.
  DERIVED. THE GIVEN ROWS OF THIS SEAT. 5 by the template 'for every input the law returns true; each argument reads behind the call as it read before'; 0 by the template 'total and deterministic' (their statements: YtbjjcolbomaodaaDoorTotals.lean).
  GIVEN WITH THE SEED: the statements are not yours to turn. If you find one false, say at which input.
  Laid BY PROGRAM, IN A SANDBOX (cutbox-rows.mjs): the forced cells as the released guide's own fill.sh prints them over the translation 73a7d8c9575f9f2f… (all of the seat's roots in one cut). By AI agents, Wed Nov 11 2026. No macro, syntax, notation, axiom, sorry.
-/
import Derived.Test.YtbjjcolbomaodaaDoorChecked
import GoSem.Claim
import GoSem.ClaimJoined
import GoSem.ClaimMapViews
import Derived.JoinedTies
import Derived.KernelRfl
namespace Go.Proofs.YtbjjcolbomaodaaDoor
/- THE CELL 'sum', in the pinned program and in every row, IS THE sha256 OF THE DUMP (.gsa) THAT YtbjjcolbomaodaaDoorProg.lean LOADS. Nothing in Lean hashes anything: it is a label: what it is worth is what the hold of that sum in a sandbox is worth. -/
noncomputable def Tryd.pinned : Pinned := { name := "ytbjjcolbomaodaadoor", sum := "73a7d8c9575f9f2fe306b1cd01108babec07c6d327026dcec56890a23c6a2171", checked := Tryd.checked }
namespace Rows
def none {H : Type} : Left H := { results := [], args := [] }

/- WHAT THE LISTED PACKAGE-LEVEL VARIABLES READ AS WHEN THE CALL BEGINS. Each datum BY PROGRAM (the guide's laid-datum.mjs) off the statement by which the dump's own 'gosem.cut.vars' lays the variable. In a bare row this is a premise. The card (YtbjjcolbomaodaaDoorCards.lean) ties it to the program's text. -/
def laid_bytes_ErrTooLarge {H : Type} : DataW H := .iface "*errors.errorString" (.ptr (.agg [.lit (.string [98, 121, 116, 101, 115, 46, 66, 117, 102, 102, 101, 114, 58, 32, 116, 111, 111, 32, 108, 97, 114, 103, 101])]))

/-- 'meanderlaw10.GcodeTakes': WHATEVER THE INPUT: true; the input reads as it did. -/
def gcodeTakesSpec : ChangeSpec := { name := "gcodeTakes", fn := fun _ => fun
  | [d] => { results := [.lit (.bool true)], args := [d] }
  | _ => none }
def gcodeTakesRow : OpenClaim := { program := "ytbjjcolbomaodaadoor", sum := "73a7d8c9575f9f2fe306b1cd01108babec07c6d327026dcec56890a23c6a2171", func := "meander/meanderlaw10.GcodeTakes", spec := "gcodeTakes", unfollowed := true, recurses := true, named := ["bytes.ErrTooLarge"], apart := false, laid := [("bytes.ErrTooLarge", laid_bytes_ErrTooLarge)] }
def GcodeTakesSaid : Prop := gcodeTakesRow.holds Tryd.pinned (OpenSpec.ofChange gcodeTakesSpec)

/-- ITS FALSE NEIGHBOUR: 'it returns false'. Refute it at one input. -/
def gcodeTakesWrong : ChangeSpec := { name := "gcodeTakes", fn := fun _ => fun
  | [d] => { results := [.lit (.bool false)], args := [d] }
  | _ => none }
def GcodeTakesWrongFalsely : Prop := gcodeTakesRow.holds Tryd.pinned (OpenSpec.ofChange gcodeTakesWrong)

/-- 'meanderlaw10.GcodeLoads': WHATEVER THE INPUT: true; the input reads as it did. -/
def gcodeLoadsSpec : ChangeSpec := { name := "gcodeLoads", fn := fun _ => fun
  | [d] => { results := [.lit (.bool true)], args := [d] }
  | _ => none }
def gcodeLoadsRow : OpenClaim := { program := "ytbjjcolbomaodaadoor", sum := "73a7d8c9575f9f2fe306b1cd01108babec07c6d327026dcec56890a23c6a2171", func := "meander/meanderlaw10.GcodeLoads", spec := "gcodeLoads", unfollowed := true, recurses := true, named := ["bytes.ErrTooLarge"], apart := false, laid := [("bytes.ErrTooLarge", laid_bytes_ErrTooLarge)] }
def GcodeLoadsSaid : Prop := gcodeLoadsRow.holds Tryd.pinned (OpenSpec.ofChange gcodeLoadsSpec)

/-- ITS FALSE NEIGHBOUR: 'it returns false'. Refute it at one input. -/
def gcodeLoadsWrong : ChangeSpec := { name := "gcodeLoads", fn := fun _ => fun
  | [d] => { results := [.lit (.bool false)], args := [d] }
  | _ => none }
def GcodeLoadsWrongFalsely : Prop := gcodeLoadsRow.holds Tryd.pinned (OpenSpec.ofChange gcodeLoadsWrong)

/-- 'meanderlaw10.GcodePuts': WHATEVER THE INPUT: true; the input reads as it did. -/
def gcodePutsSpec : ChangeSpec := { name := "gcodePuts", fn := fun _ => fun
  | [d] => { results := [.lit (.bool true)], args := [d] }
  | _ => none }
def gcodePutsRow : OpenClaim := { program := "ytbjjcolbomaodaadoor", sum := "73a7d8c9575f9f2fe306b1cd01108babec07c6d327026dcec56890a23c6a2171", func := "meander/meanderlaw10.GcodePuts", spec := "gcodePuts", named := ["bytes.ErrTooLarge"], apart := false, laid := [("bytes.ErrTooLarge", laid_bytes_ErrTooLarge)] }
def GcodePutsSaid : Prop := gcodePutsRow.holds Tryd.pinned (OpenSpec.ofChange gcodePutsSpec)

/-- ITS FALSE NEIGHBOUR: 'it returns false'. Refute it at one input. -/
def gcodePutsWrong : ChangeSpec := { name := "gcodePuts", fn := fun _ => fun
  | [d] => { results := [.lit (.bool false)], args := [d] }
  | _ => none }
def GcodePutsWrongFalsely : Prop := gcodePutsRow.holds Tryd.pinned (OpenSpec.ofChange gcodePutsWrong)

/-- 'meanderlaw10.GcodeSizes': WHATEVER THE INPUT: true; the input reads as it did. -/
def gcodeSizesSpec : ChangeSpec := { name := "gcodeSizes", fn := fun _ => fun
  | [d1, d2] => { results := [.lit (.bool true)], args := [d1, d2] }
  | _ => none }
def gcodeSizesRow : OpenClaim := { program := "ytbjjcolbomaodaadoor", sum := "73a7d8c9575f9f2fe306b1cd01108babec07c6d327026dcec56890a23c6a2171", func := "meander/meanderlaw10.GcodeSizes", spec := "gcodeSizes", named := ["bytes.ErrTooLarge"], apart := false, laid := [("bytes.ErrTooLarge", laid_bytes_ErrTooLarge)] }
def GcodeSizesSaid : Prop := gcodeSizesRow.holds Tryd.pinned (OpenSpec.ofChange gcodeSizesSpec)

/-- ITS FALSE NEIGHBOUR: 'it returns false'. Refute it at one input. -/
def gcodeSizesWrong : ChangeSpec := { name := "gcodeSizes", fn := fun _ => fun
  | [d1, d2] => { results := [.lit (.bool false)], args := [d1, d2] }
  | _ => none }
def GcodeSizesWrongFalsely : Prop := gcodeSizesRow.holds Tryd.pinned (OpenSpec.ofChange gcodeSizesWrong)

/-- 'meanderlaw10.GcodeBack': WHATEVER THE INPUT: true; the input reads as it did. -/
def gcodeBackSpec : ChangeSpec := { name := "gcodeBack", fn := fun _ => fun
  | [d1, d2, d3] => { results := [.lit (.bool true)], args := [d1, d2, d3] }
  | _ => none }
def gcodeBackRow : OpenClaim := { program := "ytbjjcolbomaodaadoor", sum := "73a7d8c9575f9f2fe306b1cd01108babec07c6d327026dcec56890a23c6a2171", func := "meander/meanderlaw10.GcodeBack", spec := "gcodeBack", named := ["bytes.ErrTooLarge"], apart := false, laid := [("bytes.ErrTooLarge", laid_bytes_ErrTooLarge)] }
def GcodeBackSaid : Prop := gcodeBackRow.holds Tryd.pinned (OpenSpec.ofChange gcodeBackSpec)

/-- ITS FALSE NEIGHBOUR: 'it returns false'. Refute it at one input. -/
def gcodeBackWrong : ChangeSpec := { name := "gcodeBack", fn := fun _ => fun
  | [d1, d2, d3] => { results := [.lit (.bool false)], args := [d1, d2, d3] }
  | _ => none }
def GcodeBackWrongFalsely : Prop := gcodeBackRow.holds Tryd.pinned (OpenSpec.ofChange gcodeBackWrong)

/- THE SECOND FORM. 'bulk': how many values and letters a reading holds, each counted each time it is reached (what is shared counts as often as it is met; a slice's spare places count too). A statement '..UptoSaid' is the law's where the arguments, and the package variables that the reading takes, are together of bulk at most 1048576: NARROWER than '..Said'. Prove '..Said' where nothing that the law and all that it calls make is longer than what came in: it says more and counts as full. Else prove '..UptoSaid'. A law counts once. -/
mutual
def uptoBulk {H : Type} : DataW H → Nat
  | .lit (.string bytes) => bytes.length + 1
  | .lit _ => 1
  | .nil => 1
  | .ptr d => uptoBulk d + 1
  | .slice elems spare => uptoBulkAll elems + uptoBulkAll spare + 1
  | .agg parts => uptoBulkAll parts + 1
  | .iface _ d => uptoBulk d + 1
  | .map entries => uptoBulkEntries entries + 1
  | .held _ => 1
def uptoBulkAll {H : Type} : List (DataW H) → Nat
  | [] => 0
  | d :: r => uptoBulk d + uptoBulkAll r
def uptoBulkEntries {H : Type} : List (Lit × DataW H) → Nat
  | [] => 0
  | x :: r => uptoBulkEntry x + uptoBulkEntries r
def uptoBulkEntry {H : Type} : Lit × DataW H → Nat
  | (.string bytes, d) => bytes.length + uptoBulk d + 1
  | (_, d) => uptoBulk d + 1
 end
def uptoSmall : (H : Type) → List (DataW H) → Bool := fun _ ds => decide (uptoBulkAll ds ≤ 1048576)
def OpenSpec.upto (s : _root_.Go.ChangeSpec) : _root_.Go.OpenSpec := { _root_.Go.OpenSpec.ofChange s with cond := some uptoSmall }

/-- 'meanderlaw10.GcodeTakes', WHERE WHAT IT READS IS OF BULK AT MOST 1048576: true; the input reads as it did. -/
def gcodeTakesUptoRow : OpenClaim := { program := "ytbjjcolbomaodaadoor", sum := "73a7d8c9575f9f2fe306b1cd01108babec07c6d327026dcec56890a23c6a2171", func := "meander/meanderlaw10.GcodeTakes", spec := "gcodeTakes", unfollowed := true, recurses := true, named := ["bytes.ErrTooLarge"], apart := false, laid := [("bytes.ErrTooLarge", laid_bytes_ErrTooLarge)], narrowed := true }
def GcodeTakesUptoSaid : Prop := gcodeTakesUptoRow.holds Tryd.pinned (OpenSpec.upto gcodeTakesSpec)

/-- 'meanderlaw10.GcodeLoads', WHERE WHAT IT READS IS OF BULK AT MOST 1048576: true; the input reads as it did. -/
def gcodeLoadsUptoRow : OpenClaim := { program := "ytbjjcolbomaodaadoor", sum := "73a7d8c9575f9f2fe306b1cd01108babec07c6d327026dcec56890a23c6a2171", func := "meander/meanderlaw10.GcodeLoads", spec := "gcodeLoads", unfollowed := true, recurses := true, named := ["bytes.ErrTooLarge"], apart := false, laid := [("bytes.ErrTooLarge", laid_bytes_ErrTooLarge)], narrowed := true }
def GcodeLoadsUptoSaid : Prop := gcodeLoadsUptoRow.holds Tryd.pinned (OpenSpec.upto gcodeLoadsSpec)

/-- 'meanderlaw10.GcodePuts', WHERE WHAT IT READS IS OF BULK AT MOST 1048576: true; the input reads as it did. -/
def gcodePutsUptoRow : OpenClaim := { program := "ytbjjcolbomaodaadoor", sum := "73a7d8c9575f9f2fe306b1cd01108babec07c6d327026dcec56890a23c6a2171", func := "meander/meanderlaw10.GcodePuts", spec := "gcodePuts", named := ["bytes.ErrTooLarge"], apart := false, laid := [("bytes.ErrTooLarge", laid_bytes_ErrTooLarge)], narrowed := true }
def GcodePutsUptoSaid : Prop := gcodePutsUptoRow.holds Tryd.pinned (OpenSpec.upto gcodePutsSpec)

/-- 'meanderlaw10.GcodeSizes', WHERE WHAT IT READS IS OF BULK AT MOST 1048576: true; the input reads as it did. -/
def gcodeSizesUptoRow : OpenClaim := { program := "ytbjjcolbomaodaadoor", sum := "73a7d8c9575f9f2fe306b1cd01108babec07c6d327026dcec56890a23c6a2171", func := "meander/meanderlaw10.GcodeSizes", spec := "gcodeSizes", named := ["bytes.ErrTooLarge"], apart := false, laid := [("bytes.ErrTooLarge", laid_bytes_ErrTooLarge)], narrowed := true }
def GcodeSizesUptoSaid : Prop := gcodeSizesUptoRow.holds Tryd.pinned (OpenSpec.upto gcodeSizesSpec)

/-- 'meanderlaw10.GcodeBack', WHERE WHAT IT READS IS OF BULK AT MOST 1048576: true; the input reads as it did. -/
def gcodeBackUptoRow : OpenClaim := { program := "ytbjjcolbomaodaadoor", sum := "73a7d8c9575f9f2fe306b1cd01108babec07c6d327026dcec56890a23c6a2171", func := "meander/meanderlaw10.GcodeBack", spec := "gcodeBack", named := ["bytes.ErrTooLarge"], apart := false, laid := [("bytes.ErrTooLarge", laid_bytes_ErrTooLarge)], narrowed := true }
def GcodeBackUptoSaid : Prop := gcodeBackUptoRow.holds Tryd.pinned (OpenSpec.upto gcodeBackSpec)

end Rows
end Go.Proofs.YtbjjcolbomaodaaDoor
