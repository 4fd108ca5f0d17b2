/- The walk of GcodeSizes at whatever two graphs. -/
import Derived.Test.YtbjjcolbomaodaaDoorGcSizes
import Derived.Test.YtbjjcolbomaodaaDoorGOpen
namespace Go.Proofs.YtbjjcolbomaodaaDoor.Hand
open Go.RowKit Go.Proofs.YtbjjcolbomaodaaDoor.PAll
theorem sizes_walk {W : World} (G H : GOpen.Graph W) : Calls Tryd.prog 6 #[G.v, H.v] W fun e w' => e = .returned (.bool true) ∧ Below W.heap.size W w' := by
  obtain ⟨k, hk⟩ := Pure.sizes_s G.l0 G.l1 H.l0 H.l1
  exact meanderlaw10_GcodeSizes.calls k G.A0 G.c0 G.l0 G.A1 G.c1 G.l1 H.A0 H.c0 H.l0 H.A1 H.c1 H.l1 true W G.r0 G.h0 G.r1 G.h1 H.r0 H.h0 H.r1 H.h1 hk
end Go.Proofs.YtbjjcolbomaodaaDoor.Hand
