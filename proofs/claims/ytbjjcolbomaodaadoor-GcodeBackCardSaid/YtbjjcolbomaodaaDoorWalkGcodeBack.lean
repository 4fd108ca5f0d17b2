/- The walk of GcodeBack at whatever graph, place and byte. -/
import Derived.Test.YtbjjcolbomaodaaDoorGcBack
import Derived.Test.YtbjjcolbomaodaaDoorGOpen
namespace Go.Proofs.YtbjjcolbomaodaaDoor.Hand
open Go.RowKit Go.Proofs.YtbjjcolbomaodaaDoor.PAll
theorem back_walk {W : World} (G : GOpen.Graph W) (a : Int) (_wa : (Lit.int .i64 a).wf = true) (m : Int) (wm : (Lit.int .u8 m).wf = true) : Calls Tryd.prog 7 #[G.v, .int .i64 a, .int .u8 m] W fun e w' => e = .returned (.bool true) ∧ Below W.heap.size W w' := by
  have hm : 0 ≤ m ∧ m ≤ 255 := by
    simp [Lit.wf, IntKind.min, IntKind.max, IntKind.signed, IntKind.bits] at wm
    omega
  obtain ⟨k, hk⟩ := Pure.back_s G.l0 G.l1 a m hm
  exact meanderlaw10_GcodeBack.calls k G.A0 G.c0 G.l0 G.A1 G.c1 G.l1 a m true W G.r0 G.h0 G.r1 G.h1 hk
end Go.Proofs.YtbjjcolbomaodaaDoor.Hand
