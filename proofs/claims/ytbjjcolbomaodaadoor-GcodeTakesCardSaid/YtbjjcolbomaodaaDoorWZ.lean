/- Short names for the print's words, and words that bear their usual proof with them: for smaller texts. Nothing is assumed. -/
import Derived.Test.YtbjjcolbomaodaaDoorWAll
namespace Go.Proofs.YtbjjcolbomaodaaDoorW.PrintWords
open Go Go.RowKit Go.Proofs.YtbjjcolbomaodaaDoorW.PrintLast Go.Proofs.YtbjjcolbomaodaaDoorW.PrintMore
/-- n marks, out of the bits of m. -/
def ZB (n m : Nat) : Array Bool := ((List.range n).map fun i => m.testBit i).toArray
abbrev ZM := @Aside0.mk
abbrev ZC := @World.block_lt_of_cell?
abbrev ZI := @List.setIfInBounds_toArray
abbrev ZJ := @List.set_cons_zero
abbrev ZK := @List.set_cons_succ
abbrev ZF := @blk_frozen
abbrev ZG := @blk_cell
abbrev ZN := @pw_below_drewN
abbrev ZO := @below_alloc
abbrev ZP := @below_drew1
abbrev ZQ := @below_set
abbrev ZR := @blk_drewN
abbrev ZS := @blk_drew
abbrev ZT := @blk_alloc
abbrev ZV := @below_size
abbrev ZW := @below_step
abbrev ZX := @Kd.R_drewN
abbrev ZY := @Kd.R_alloc
abbrev ZZ := @Kd.R_drew
theorem ZBK {w w1 : World} {g : Nat} {o : Obj} (h : w.heap[g]? = some o) (e : w.heap[g]? = some o → w1.heap[g]? = some o := by intro h_; (with_reducible repeat (first | refine blk_drewN ?_ _ | refine blk_drew ?_ | refine blk_alloc ?_ _)); exact h_) : w1.heap[g]? = some o := e h
theorem ZRK {α : Type} {d : Kd α} {e base : Nat} {ok : Nat → Prop} {v : Value} {xs : List α} {w w1 : World} (h : d.R e w base ok v xs) (k : d.R e w base ok v xs → d.R e w1 base ok v xs := by intro h_; (with_reducible repeat (first | apply Kd.R_alloc | apply Kd.R_drewN | apply Kd.R_drew)); exact h_) : d.R e w1 base ok v xs := k h
theorem ZBB {b : Nat} {w w1 w2 : World} (h : Below b w w1) (e : Below b w w1 → Below b w w2 := by intro h_; repeat (first | (with_reducible first | exact h_ | apply below_alloc | apply pw_below_drewN | apply below_drew1 | (refine below_set ?_ (Aside0.out ?_); rotate_left; assumption)) | exact h_)) : Below b w w2 := e h
theorem ZH {α : Type} {a b : α} (h : a = b := by (try simp only [List.map_toArray, List.map_cons, List.map_nil]); first | done | rfl | (simp only [List.length_drop, List.length_take]; rfl)) : a = b := h
theorem ZE {p : Prop} (h : p := by first | rfl | (simp; done) | (simp [*]; done)) : p := h
theorem ZD {w w1 : World} (h : Drawn0 w w1 := by repeat (first | exact Drawn0.refl _ | apply Drawn0.step)) : Drawn0 w w1 := h
theorem ZOD {p : Prop} [Decidable p] (h : decide p = true := by first | (with_reducible assumption) | assumption) : p := of_decide_eq_true h
end Go.Proofs.YtbjjcolbomaodaaDoorW.PrintWords
