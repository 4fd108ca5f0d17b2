-- Laid by hprint.py of this repo: the kit's printer, and contracts by hand beside it. Not trusted: Lean checks it.
import Derived.Test.YtgolagccgndidaaProg
import Derived.Below
import Derived.Deep.Draws
import Derived.Deep.AppendLies
import Derived.Maps.AppendAt
import Derived.OwnWalk
import Derived.Laws.BytesArg
import Derived.Laws.MakeOwn
import Derived.Laws.OwnMore
import Derived.Deep.OwnRows
import Derived.Tactics
import Derived.Lib.ConvBytes
import Derived.Laws.Slices
import Derived.WalkKit
import Derived.KernelRfl
import Derived.RowKit3
import Derived.Deep.LoopGhost
import Derived.Deep.QuietTactic
import Derived.BigQuiet
import Derived.WideLaws
import Derived.Deep.DeepCutAuto
import Derived.Deep.CutBlock
import Derived.Deep.RegionHeld3
import Derived.Laws.Rows
import Derived.Lib.AppendStr
import Derived.ArgAppend
import Derived.Laws.IdiomCopy
import Derived.OrdersHeld
import Derived.Laws.BitsLemmas
import Derived.RowKit
import Derived.Test.YtgolagccgndidaaWWords
import Derived.Test.YtgolagccgndidaaWLast
import Derived.Test.YtgolagccgndidaaWTab
import Derived.Test.YtgolagccgndidaaWFour
import Derived.Test.YtgolagccgndidaaWQPut
import Derived.Test.YtgolagccgndidaaWApart
import Derived.Test.YtgolagccgndidaaWArr
import Derived.Test.YtgolagccgndidaaWZeros
import Derived.Test.YtgolagccgndidaaWFoot
import Derived.Test.YtgolagccgndidaaWKept
import Derived.Test.YtgolagccgndidaaWShare
import Derived.Test.YtgolagccgndidaaWN
import Derived.Test.YtgolagccgndidaaWFootNe
import Derived.Test.YtgolagccgndidaaWAt
import Derived.Test.YtgolagccgndidaaWEqStruct
import Derived.Test.YtgolagccgndidaaWRepsOne
import Derived.Test.YtgolagccgndidaaWInv
import Derived.Test.YtgolagccgndidaaWInvWords
import Derived.Test.YtgolagccgndidaaWGuard
import Derived.Test.YtgolagccgndidaaWNEv
import Derived.Test.YtgolagccgndidaaWMore
namespace Go.Proofs.Ytgolagccgndidaa.PAll
open Go.RowKit Go.Proofs.YtgolagccgndidaaW.PrintWords Go.Proofs.YtgolagccgndidaaW.PrintLast Go.Proofs.YtgolagccgndidaaW.PrintMore
attribute [local go_sem] max2_int min2_int max_two min_two max_three min_three max_four min_four   -- for this text's walks alone
set_option linter.unusedVariables false
set_option linter.unusedSimpArgs false



def errW : Option Int → Value
  | none => .nilIface
  | some c => .iface 0 (.int .i64 c)
theorem errW_none : errW none = .nilIface := rfl
theorem errW_some (c : Int) : errW (some c) = .iface 0 (.int .i64 c) := rfl

theorem info3 : (Try.prog.info? 3).map (fun i => (i.zero, i.size, i.bytes)) = some (some (.int .i64 0), 1, 8) := by kernel_rfl
-- the values' own types

end Go.Proofs.Ytgolagccgndidaa.PAll
