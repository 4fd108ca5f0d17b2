/- Opened: an argument that is a row of bytes: cells as the printed kinds read them. No condition. -/
import Derived.ChangeSlices
import Derived.Deep.Slices
import Derived.Deep.Fields
import Derived.Lib.SmallJoins
import Derived.ChangeSame
import Derived.OpenShut
import Derived.Test.YtbjjcolbomaodaaDoorPTksx0
namespace Go.Proofs.YtbjjcolbomaodaaDoor.GOpen
open Go.RowKit Go.ChangeShapes Go.WideShapes Go.Deep Go.Joins Go.Proofs.YtbjjcolbomaodaaDoorW.PrintWords Go.Proofs.YtbjjcolbomaodaaDoorW.PrintLast Go.Proofs.YtbjjcolbomaodaaDoorW.PrintMore Go.Proofs.YtbjjcolbomaodaaDoor.PTks
set_option linter.unusedVariables false
set_option maxRecDepth 100000
theorem open_bytes0 {H : Type} {enc : TypeId × Value → H} {w : World} {base : Nat} {spare : Nat → Bool} {held : Bool} {fuel : Nat} {v : Value} {x : DataW H × List MemPlace} {P : Program} {t e : TypeId} (ht : P.underlying t = some (.slice e)) (he : P.underlying e = some (.int .u8)) (hc : P.cellsOf e = 1)
    (h : DataW.trod enc P w base spare held fuel t [v] = some x) :
    ∃ (A : Option Addr) (l : List Int) (cap : Nat), v = .slice A l.length cap ∧ l.length ≤ cap ∧ l.length ≤ maxLen ∧ Kd.C (Kd.int .u8) w A l.length l ∧ ∀ n ∈ l, (Lit.int .u8 n).wf = true := by
  rcases Go.ChangeShapes.open_ints ht he hc h with ⟨h0, _⟩ | ⟨a, len, cap, zs, h0, hb, hl, hm, hz, _, hcell, hwf⟩
  · injection h0 with h0 _
    exact ⟨none, [], 0, h0, Nat.le_refl _, Nat.zero_le _, ⟨rfl, by simp, fun h => absurd h (by simp)⟩, fun n hn => by cases hn⟩
  · injection h0 with h0 _
    have hlz : len ≤ zs.length := by rw [hz]; split <;> omega
    have hll : (zs.take len).length = len := by rw [List.length_take]; omega
    refine ⟨some a, zs.take len, cap, by rw [hll]; exact h0, by rw [hll]; exact hl, by rw [hll]; exact Nat.le_trans hl hm, ⟨rfl, by rw [hll]; unfold maxLen at hm; omega, fun hp => ⟨a, rfl, fun j p hjp => ⟨[.int .u8 p], rfl, rfl, fun i u hu => ?_⟩⟩⟩, fun n hn => hwf n (List.mem_of_mem_take hn)⟩
    have hj : j < len := by have := (List.getElem?_eq_some_iff.1 hjp).1; omega
    have hp1 : zs[j]? = some p := by rw [List.getElem?_take] at hjp; rw [if_pos hj] at hjp; exact hjp
    have h1 := hcell j (by omega)
    rw [List.getD_eq_getElem?_getD, hp1] at h1
    match i, hu with
    | 0, hu =>
      simp at hu
      rw [← hu]
      have h2 : w.cell? (a.add (j * 1 + 0)) = some (.int .u8 p) := by rw [Nat.mul_one, Nat.add_zero]; exact h1
      exact h2
    | i + 1, hu => simp at hu
theorem open_bytes {H : Type} {enc : TypeId × Value → H} {w : World} {base b0 : Nat} {spare : Nat → Bool} {held : Bool} {r : Reach} {v : Value} {d : DataW H} {p : List MemPlace} (hv : Value.okWide Tryd.prog w r b0 22 v)
    (h : DataW.Trod enc Tryd.prog w base spare held 22 v d p) :
    ∃ (A : Option Addr) (l : List Int) (cap : Nat), v = .slice A l.length cap ∧ l.length ≤ cap ∧ Kd.C (Kd.int .u8) w A l.length l ∧ ∀ n ∈ l, (Lit.int .u8 n).wf = true := by
  obtain ⟨A0, n0, c0, rfl⟩ := okWide_slice Tryd.underlying22 hv
  obtain ⟨fuel, hf⟩ := h
  simp only [Value.cells] at hf
  obtain ⟨A, l, cap, h1, h2, _, h3, h4⟩ := open_bytes0 Tryd.underlying22 Tryd.underlying5 (by kernel_rfl) hf
  exact ⟨A, l, cap, h1, h2, h3, h4⟩
end Go.Proofs.YtbjjcolbomaodaaDoor.GOpen
