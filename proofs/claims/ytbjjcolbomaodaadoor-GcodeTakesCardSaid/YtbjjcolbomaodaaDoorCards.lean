/-
  DERIVED. GIVEN WITH THE SEED: THE CARDS: each row of YtbjjcolbomaodaaDoorRows.lean that lists a variable, with what it lists TIED to the program's text (the seventh form; the later family's looks); each row that meets fmt, with fmt's text TOLD by the authors' own Lean function (tested against real Go, not proved from fmt's source: count such statements apart). THE CARD IS WHAT COUNTS. Prove the row's statement (the work); the ties are given (YtbjjcolbomaodaaDoorTie.lean); close each card by the builder's one call (the guide's Derived/Test/ToyasCard.lean, 'card_holds'). Laid BY PROGRAM, IN A SANDBOX (cutbox-door.mjs). By AI agents, Wed Nov 11 2026. No macro, syntax, notation, axiom, sorry.
-/
import Derived.Test.YtbjjcolbomaodaaDoorRows
import GoSem.ClaimSeven
namespace Go.Proofs.YtbjjcolbomaodaaDoor
namespace Rows

/-- THE TIED CARD OF 'meanderlaw10.GcodeTakes'. -/
def gcodeTakesCard : Claim7 := { stood := { row := gcodeTakesRow, standIns := [], harness := (true, "5ba486668b890c644e4e24ea12e1198e55e8fa7d539db9780e8519cb00575dea"), looks := false }, kinds := [], alts := [], laidByText := true, laidKinds := [.sentinel], laidTests := true, laidLooks := .later }
def GcodeTakesCardSaid : Prop := Claim7.holds Tryd.pinned (.plain (OpenSpec.ofChange gcodeTakesSpec)) gcodeTakesCard

/-- THE TIED CARD OF 'meanderlaw10.GcodeLoads'. -/
def gcodeLoadsCard : Claim7 := { stood := { row := gcodeLoadsRow, standIns := [], harness := (true, "5ba486668b890c644e4e24ea12e1198e55e8fa7d539db9780e8519cb00575dea"), looks := false }, kinds := [], alts := [], laidByText := true, laidKinds := [.sentinel], laidTests := true, laidLooks := .later }
def GcodeLoadsCardSaid : Prop := Claim7.holds Tryd.pinned (.plain (OpenSpec.ofChange gcodeLoadsSpec)) gcodeLoadsCard

/-- THE TIED CARD OF 'meanderlaw10.GcodePuts'. -/
def gcodePutsCard : Claim7 := { stood := { row := gcodePutsRow, standIns := [], harness := (true, "5ba486668b890c644e4e24ea12e1198e55e8fa7d539db9780e8519cb00575dea"), looks := false }, kinds := [], alts := [], laidByText := true, laidKinds := [.sentinel], laidTests := true, laidLooks := .later }
def GcodePutsCardSaid : Prop := Claim7.holds Tryd.pinned (.plain (OpenSpec.ofChange gcodePutsSpec)) gcodePutsCard

/-- THE TIED CARD OF 'meanderlaw10.GcodeSizes'. -/
def gcodeSizesCard : Claim7 := { stood := { row := gcodeSizesRow, standIns := [], harness := (true, "5ba486668b890c644e4e24ea12e1198e55e8fa7d539db9780e8519cb00575dea"), looks := false }, kinds := [], alts := [], laidByText := true, laidKinds := [.sentinel], laidTests := true, laidLooks := .later }
def GcodeSizesCardSaid : Prop := Claim7.holds Tryd.pinned (.plain (OpenSpec.ofChange gcodeSizesSpec)) gcodeSizesCard

/-- THE TIED CARD OF 'meanderlaw10.GcodeBack'. -/
def gcodeBackCard : Claim7 := { stood := { row := gcodeBackRow, standIns := [], harness := (true, "5ba486668b890c644e4e24ea12e1198e55e8fa7d539db9780e8519cb00575dea"), looks := false }, kinds := [], alts := [], laidByText := true, laidKinds := [.sentinel], laidTests := true, laidLooks := .later }
def GcodeBackCardSaid : Prop := Claim7.holds Tryd.pinned (.plain (OpenSpec.ofChange gcodeBackSpec)) gcodeBackCard

/-- THE SECOND FORM's CARD OF 'meanderlaw10.GcodeTakes'. -/
def gcodeTakesUptoCard : Claim7 := { stood := { row := gcodeTakesUptoRow, standIns := [], harness := (true, "5ba486668b890c644e4e24ea12e1198e55e8fa7d539db9780e8519cb00575dea"), looks := false }, kinds := [], alts := [], laidByText := true, laidKinds := [.sentinel], laidTests := true, laidLooks := .later }
def GcodeTakesUptoCardSaid : Prop := Claim7.holds Tryd.pinned (.plain (OpenSpec.upto gcodeTakesSpec)) gcodeTakesUptoCard

/-- THE SECOND FORM's CARD OF 'meanderlaw10.GcodeLoads'. -/
def gcodeLoadsUptoCard : Claim7 := { stood := { row := gcodeLoadsUptoRow, standIns := [], harness := (true, "5ba486668b890c644e4e24ea12e1198e55e8fa7d539db9780e8519cb00575dea"), looks := false }, kinds := [], alts := [], laidByText := true, laidKinds := [.sentinel], laidTests := true, laidLooks := .later }
def GcodeLoadsUptoCardSaid : Prop := Claim7.holds Tryd.pinned (.plain (OpenSpec.upto gcodeLoadsSpec)) gcodeLoadsUptoCard

/-- THE SECOND FORM's CARD OF 'meanderlaw10.GcodePuts'. -/
def gcodePutsUptoCard : Claim7 := { stood := { row := gcodePutsUptoRow, standIns := [], harness := (true, "5ba486668b890c644e4e24ea12e1198e55e8fa7d539db9780e8519cb00575dea"), looks := false }, kinds := [], alts := [], laidByText := true, laidKinds := [.sentinel], laidTests := true, laidLooks := .later }
def GcodePutsUptoCardSaid : Prop := Claim7.holds Tryd.pinned (.plain (OpenSpec.upto gcodePutsSpec)) gcodePutsUptoCard

/-- THE SECOND FORM's CARD OF 'meanderlaw10.GcodeSizes'. -/
def gcodeSizesUptoCard : Claim7 := { stood := { row := gcodeSizesUptoRow, standIns := [], harness := (true, "5ba486668b890c644e4e24ea12e1198e55e8fa7d539db9780e8519cb00575dea"), looks := false }, kinds := [], alts := [], laidByText := true, laidKinds := [.sentinel], laidTests := true, laidLooks := .later }
def GcodeSizesUptoCardSaid : Prop := Claim7.holds Tryd.pinned (.plain (OpenSpec.upto gcodeSizesSpec)) gcodeSizesUptoCard

/-- THE SECOND FORM's CARD OF 'meanderlaw10.GcodeBack'. -/
def gcodeBackUptoCard : Claim7 := { stood := { row := gcodeBackUptoRow, standIns := [], harness := (true, "5ba486668b890c644e4e24ea12e1198e55e8fa7d539db9780e8519cb00575dea"), looks := false }, kinds := [], alts := [], laidByText := true, laidKinds := [.sentinel], laidTests := true, laidLooks := .later }
def GcodeBackUptoCardSaid : Prop := Claim7.holds Tryd.pinned (.plain (OpenSpec.upto gcodeBackSpec)) gcodeBackUptoCard
end Rows
end Go.Proofs.YtbjjcolbomaodaaDoor
