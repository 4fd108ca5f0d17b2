/- What laying a graph down computes. Plain lists; no program in sight. -/
import Derived.Test.YtbjjcolbomaodaaDoorPTksx4
import Derived.Test.YtbjjcolbomaodaaDoorPTksx4
namespace Go.Proofs.YtbjjcolbomaodaaDoor.GPure
open Go.RowKit Go.Proofs.YtbjjcolbomaodaaDoor.PTks Go.Proofs.YtbjjcolbomaodaaDoorW.PrintWords Go.Proofs.YtbjjcolbomaodaaDoorW.PrintLast Go.Proofs.YtbjjcolbomaodaaDoorW.PrintMore
set_option linter.unusedVariables false
set_option linter.unusedSimpArgs false

theorem w_id {x : Int} (h : -9223372036854775808 ≤ x) (h' : x ≤ 9223372036854775807) : wrap64 x = x := by unfold wrap64; omega
theorem w_nat (i n : Nat) (h : i < n) (hn : n ≤ 1000) : wrap64 ((i : Int) + 1) = ((i + 1 : Nat) : Int) := by rw [w_id (by omega) (by omega)]; rfl
theorem str_list (xs : List Int) : (strOfNums xs).toList = xs.map fun n => UInt8.ofNat n.toNat := by rw [ByteArray.toList_eq]; exact strOfNums_data xs
theorem rdN (ns : List S40) (i : Nat) (h : i < ns.length) : rd_T40 ns (i : Int) = ns[i] := by simp [rd_T40, h]
theorem rdE (es : List S42) (i : Nat) (h : i < es.length) : rd_T42 es (i : Int) = es[i] := by simp [rd_T42, h]

theorem shown_s : meanderlaw10_shown.f = some true := by
  unfold meanderlaw10_shown.f
  simp only [str_list]
  decide +kernel

abbrev nb := gcode_Put.nb
abbrev eb := gcode_Put.eb
abbrev nbad := gcode_Put.nbad
abbrev ebad := gcode_Put.ebad

theorem bad1_nat (n : Nat) : Gc.bad1 (n : Int) = decide ((255 : Int) < n) := by unfold Gc.bad1; rw [decide_eq_false (by omega), Bool.false_or]

theorem put_s (ns : List S40) (es : List S42) (hn : ns.length ≤ 1000) (he : es.length ≤ 1000) :
    gcode_Put.f ns es = some (if gcode_Put.b2 ns es es.length = true then ([], 1) else (gcode_Put.p2 ns es es.length, 0)) := by
  unfold gcode_Put.f
  rw [if_pos ⟨hn, he⟩]

end Go.Proofs.YtbjjcolbomaodaaDoor.GPure
