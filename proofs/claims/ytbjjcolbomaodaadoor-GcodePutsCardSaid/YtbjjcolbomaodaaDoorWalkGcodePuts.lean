/- The walk of GcodePuts at whatever graph. -/
import Derived.Test.YtbjjcolbomaodaaDoorGcPure
import Derived.Test.YtbjjcolbomaodaaDoorGOpen
import Derived.Test.YtbjjcolbomaodaaDoorPAllx4
namespace Go.Proofs.YtbjjcolbomaodaaDoor.Hand
open Go.RowKit Go.Proofs.YtbjjcolbomaodaaDoor.PAll
theorem puts_walk {W : World} (G : GOpen.Graph W) : Calls Tryd.prog 5 #[G.v] W fun e w' => e = .returned (.bool true) ∧ Below W.heap.size W w' := by
  obtain ⟨k, hk⟩ := Pure.puts_s G.l0 G.l1
  exact meanderlaw10_GcodePuts.calls k G.A0 G.c0 G.l0 G.A1 G.c1 G.l1 true W G.r0 G.h0 G.r1 G.h1 hk
end Go.Proofs.YtbjjcolbomaodaaDoor.Hand
