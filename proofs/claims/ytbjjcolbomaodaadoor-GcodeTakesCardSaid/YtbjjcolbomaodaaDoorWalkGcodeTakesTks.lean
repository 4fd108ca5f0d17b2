/- The walk of GcodeTakes at whatever bytes. -/
import Derived.Test.YtbjjcolbomaodaaDoorGcTakesTks
namespace Go.Proofs.YtbjjcolbomaodaaDoor.Hand
open Go.RowKit Go.Proofs.YtbjjcolbomaodaaDoor.PTks Go.Proofs.YtbjjcolbomaodaaDoorW.PrintWords Go.Proofs.YtbjjcolbomaodaaDoorW.PrintLast Go.Proofs.YtbjjcolbomaodaaDoorW.PrintMore
theorem takes_walk {W : World} (A : Option Addr) (l : List Int) (c : Nat) (r : l.length ≤ c) (m : Kd.C (Kd.int .u8) W A l.length l) (w : ∀ n ∈ l, (Lit.int .u8 n).wf = true) :
    Calls Tryd.prog 3 #[.slice A l.length c] W fun e w' => e = .returned (.bool true) ∧ Below W.heap.size W w' := by
  have hx : ∀ x ∈ l, 0 ≤ x ∧ x ≤ 255 := fun x hm => by
    have := w x hm
    simp [Lit.wf, IntKind.min, IntKind.max, IntKind.signed, IntKind.bits] at this
    omega
  obtain ⟨k, hk⟩ := GPure.takes_s l hx
  exact meanderlaw10_GcodeTakes.calls k (fun k_ => k_ < W.heap.size) A c l true W (Kd.V_mk r (Kd.C_F (Kd.heap_int .u8) m)) hk
end Go.Proofs.YtbjjcolbomaodaaDoor.Hand
