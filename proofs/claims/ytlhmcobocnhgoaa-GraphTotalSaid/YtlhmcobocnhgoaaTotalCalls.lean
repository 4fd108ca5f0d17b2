/- The walk of GraphTotal: places are in one order, in which an output stands ahead of its node's inputs: true, for every three places; nothing that was there is turned. -/
import Derived.IntWalk
import Derived.Test.YtlhmcobocnhgoaaGOpen
import Derived.Test.YtlhmcobocnhgoaaPAllx3
namespace Go.Proofs.Ytlhmcobocnhgoaa.PAll
open Go.RowKit Go.Proofs.YtlhmcobocnhgoaaW.PrintWords Go.Proofs.YtlhmcobocnhgoaaW.PrintLast Go.Proofs.YtlhmcobocnhgoaaW.PrintMore
attribute [local go_sem] max2_int min2_int max_two min_two max_three min_three max_four min_four
set_option linter.unusedVariables false
set_option linter.unusedSimpArgs false
/-- What is known of three boxes. -/
def Boxes (w w' : World) (a0 a1 b0 b1 c0 c1 : Int) : Prop := (w'.heap[w.heap.size]? = some (.cells #[.int .i64 a0, .int .i64 a1] 23 (0, 0))) ∧ (w'.heap[w.heap.size + 1]? = some (.cells #[.int .i64 b0, .int .i64 b1] 23 (0, 0))) ∧ (w'.heap[w.heap.size + 2]? = some (.cells #[.int .i64 c0, .int .i64 c1] 23 (0, 0))) ∧ (Below w.heap.size w w')
set_option maxHeartbeats 4000000 in
set_option maxRecDepth 100000 in
theorem total_calls (a0 a1 b0 b1 c0 c1 X Y Z U V : Int) (w : World) (K : Nat) (hs : meanderlaw08_shown.f K = some true) (hX : graph_Order.f K a0 a1 b0 b1 = some X) (hY : graph_Order.f K b0 b1 a0 a1 = some Y) (hZ : graph_Order.f K b0 b1 c0 c1 = some Z) (hU : graph_Order.f K a0 a1 c0 c1 = some U) (hV : graph_Order.f K a0 (-1) a0 0 = some V)
    (e1 : (X = 0) ↔ (a0 = b0 ∧ a1 = b1)) (e2 : X = -Y) (e3 : 0 < X ∨ 0 < Z ∨ U ≤ 0) (e4 : V = -1) (e5 : -1 ≤ Y ∧ Y ≤ 1) :
    Calls Try.prog 3 #[.agg #[.int .i64 a0, .int .i64 a1], .agg #[.int .i64 b0, .int .i64 b1], .agg #[.int .i64 c0, .int .i64 c1]] w fun e w' => e = .returned (.bool true) ∧ Below w.heap.size w w' := by
  have hu23 := Try.underlying23
  have HS := Aside0.mk hs
  have HX := Aside0.mk hX
  have HY := Aside0.mk hY
  have HZ := Aside0.mk hZ
  have HU := Aside0.mk hU
  have HV := Aside0.mk hV
  have E := Aside0.mk (And.intro e1 (And.intro e2 (And.intro e3 (And.intro e4 e5))))
  clear hs hX hY hZ hU hV e1 e2 e3 e4 e5
  go_enter Try.func3, Try.ntmps3
  go_upto_region 2 with (first | (go_at_call 9; (with_reducible refine (meanderlaw08_shown.calls K true _ HS.out).mono ?_); rintro e w1 ⟨rfl, hb⟩; have BA := Aside0.mk (blk_below (blk_alloc (blk_alloc (blk_new w (.cells #[.int .i64 a0, .int .i64 a1] 23)) (.cells #[.int .i64 b0, .int .i64 b1] 23)) (.cells #[.int .i64 c0, .int .i64 c1] 23)) hb); have BB := Aside0.mk (show w1.heap[w.heap.size + 1]? = some (.cells #[.int .i64 b0, .int .i64 b1] 23 (0, 0)) from (by have h := blk_below (blk_alloc (blk_new (w.alloc (.cells #[.int .i64 a0, .int .i64 a1] 23)) (.cells #[.int .i64 b0, .int .i64 b1] 23)) (.cells #[.int .i64 c0, .int .i64 c1] 23)) hb; simpa using h)); have BC := Aside0.mk (show w1.heap[w.heap.size + 2]? = some (.cells #[.int .i64 c0, .int .i64 c1] 23 (0, 0)) from (by have h := blk_below (blk_new ((w.alloc (.cells #[.int .i64 a0, .int .i64 a1] 23)).alloc (.cells #[.int .i64 b0, .int .i64 b1] 23)) (.cells #[.int .i64 c0, .int .i64 c1] 23)) hb; simpa using h)); have HB := Aside0.mk (below_step (below_alloc (below_alloc (below_alloc (Below.refl w.heap.size w) _) _) _) hb); clear hb))
  go_cut [8] (fun v8 wc => v8 = .bool true ∧ Aside0 (wc.heap[w.heap.size]? = some (.cells #[.int .i64 a0, .int .i64 a1] 23 (0, 0))) ∧ Aside0 (wc.heap[w.heap.size + 1]? = some (.cells #[.int .i64 b0, .int .i64 b1] 23 (0, 0))) ∧ Aside0 (wc.heap[w.heap.size + 2]? = some (.cells #[.int .i64 c0, .int .i64 c1] 23 (0, 0))) ∧ Aside0 (Below w.heap.size w wc))
  case first =>
    have ha0 : w1.cell? ⟨w.heap.size, 0, none⟩ = some (.int .i64 a0) := (blk_cell BA.out 0).trans rfl
    have ha1 : w1.cell? ⟨w.heap.size, 1, none⟩ = some (.int .i64 a1) := (blk_cell BA.out 1).trans rfl
    have hb0 : w1.cell? ⟨w.heap.size + 1, 0, none⟩ = some (.int .i64 b0) := (blk_cell BB.out 0).trans rfl
    have hb1 : w1.cell? ⟨w.heap.size + 1, 1, none⟩ = some (.int .i64 b1) := (blk_cell BB.out 1).trans rfl
    have hc0 : w1.cell? ⟨w.heap.size + 2, 0, none⟩ = some (.int .i64 c0) := (blk_cell BC.out 0).trans rfl
    have hc1 : w1.cell? ⟨w.heap.size + 2, 1, none⟩ = some (.int .i64 c1) := (blk_cell BC.out 1).trans rfl
    have e1 := E.out.1
    by_cases p : a0 = b0
    · have p1 : (a0 == b0) = true := beq_iff_eq.mpr p
      by_cases q : a1 = b1
      · have q1 : (a1 == b1) = true := beq_iff_eq.mpr q
        have x1 : (X == 0) = true := beq_iff_eq.mpr (e1.2 ⟨p, q⟩)
        clear e1 p q
        go_region_held3 (fun w' => w'.cell? ⟨w.heap.size, 0, none⟩ = some (.int .i64 a0) ∧ w'.cell? ⟨w.heap.size, 1, none⟩ = some (.int .i64 a1) ∧ w'.cell? ⟨w.heap.size + 1, 0, none⟩ = some (.int .i64 b0) ∧ w'.cell? ⟨w.heap.size + 1, 1, none⟩ = some (.int .i64 b1)) (go_keep)
          (first | (go_at_call_of 10 (Value.agg #[.int .i64 a0, .int .i64 a1]); (with_reducible refine (graph_Order.calls K a0 a1 b0 b1 X _ HX.out).mono ?_); rintro e w1 ⟨rfl, hb⟩; have BA1 := Aside0.mk (blk_below (blk_drew BA.out) hb); have BB1 := Aside0.mk (blk_below (blk_drew BB.out) hb); have BC1 := Aside0.mk (blk_below (blk_drew BC.out) hb); have HB1 := Aside0.mk (below_step (below_drew HB.out) hb); clear BA BB BC HB; have BA := BA1; have BB := BB1; have BC := BC1; have HB := HB1; clear BA1 BB1 BC1 HB1; have ga0 : w1.cell? ⟨w.heap.size, 0, none⟩ = some (.int .i64 a0) := (blk_cell BA.out 0).trans rfl; have ga1 : w1.cell? ⟨w.heap.size, 1, none⟩ = some (.int .i64 a1) := (blk_cell BA.out 1).trans rfl; have gb0 : w1.cell? ⟨w.heap.size + 1, 0, none⟩ = some (.int .i64 b0) := (blk_cell BB.out 0).trans rfl; have gb1 : w1.cell? ⟨w.heap.size + 1, 1, none⟩ = some (.int .i64 b1) := (blk_cell BB.out 1).trans rfl; have gc0 : w1.cell? ⟨w.heap.size + 2, 0, none⟩ = some (.int .i64 c0) := (blk_cell BC.out 0).trans rfl; have gc1 : w1.cell? ⟨w.heap.size + 2, 1, none⟩ = some (.int .i64 c1) := (blk_cell BC.out 1).trans rfl; clear hb))
        go_wp2
        go_meet
        case rel => exact ⟨rfl, BA, BB, BC, HB⟩
      · have q1 : (a1 == b1) = false := beq_eq_false_iff_ne.mpr q
        have x1 : (X == 0) = false := beq_eq_false_iff_ne.mpr (fun h => q (e1.1 h).2)
        clear e1 p q
        go_region_held3 (fun w' => w'.cell? ⟨w.heap.size, 0, none⟩ = some (.int .i64 a0) ∧ w'.cell? ⟨w.heap.size, 1, none⟩ = some (.int .i64 a1) ∧ w'.cell? ⟨w.heap.size + 1, 0, none⟩ = some (.int .i64 b0) ∧ w'.cell? ⟨w.heap.size + 1, 1, none⟩ = some (.int .i64 b1)) (go_keep)
          (first | (go_at_call_of 10 (Value.agg #[.int .i64 a0, .int .i64 a1]); (with_reducible refine (graph_Order.calls K a0 a1 b0 b1 X _ HX.out).mono ?_); rintro e w1 ⟨rfl, hb⟩; have BA1 := Aside0.mk (blk_below (blk_drew BA.out) hb); have BB1 := Aside0.mk (blk_below (blk_drew BB.out) hb); have BC1 := Aside0.mk (blk_below (blk_drew BC.out) hb); have HB1 := Aside0.mk (below_step (below_drew HB.out) hb); clear BA BB BC HB; have BA := BA1; have BB := BB1; have BC := BC1; have HB := HB1; clear BA1 BB1 BC1 HB1; have ga0 : w1.cell? ⟨w.heap.size, 0, none⟩ = some (.int .i64 a0) := (blk_cell BA.out 0).trans rfl; have ga1 : w1.cell? ⟨w.heap.size, 1, none⟩ = some (.int .i64 a1) := (blk_cell BA.out 1).trans rfl; have gb0 : w1.cell? ⟨w.heap.size + 1, 0, none⟩ = some (.int .i64 b0) := (blk_cell BB.out 0).trans rfl; have gb1 : w1.cell? ⟨w.heap.size + 1, 1, none⟩ = some (.int .i64 b1) := (blk_cell BB.out 1).trans rfl; have gc0 : w1.cell? ⟨w.heap.size + 2, 0, none⟩ = some (.int .i64 c0) := (blk_cell BC.out 0).trans rfl; have gc1 : w1.cell? ⟨w.heap.size + 2, 1, none⟩ = some (.int .i64 c1) := (blk_cell BC.out 1).trans rfl; clear hb))
        go_wp2
        go_meet
        case rel => exact ⟨rfl, BA, BB, BC, HB⟩
    · have p1 : (a0 == b0) = false := beq_eq_false_iff_ne.mpr p
      have x1 : (X == 0) = false := beq_eq_false_iff_ne.mpr (fun h => p (e1.1 h).1)
      clear e1 p
      go_region_held3 (fun w' => w'.cell? ⟨w.heap.size, 0, none⟩ = some (.int .i64 a0) ∧ w'.cell? ⟨w.heap.size, 1, none⟩ = some (.int .i64 a1) ∧ w'.cell? ⟨w.heap.size + 1, 0, none⟩ = some (.int .i64 b0) ∧ w'.cell? ⟨w.heap.size + 1, 1, none⟩ = some (.int .i64 b1)) (go_keep)
        (first | (go_at_call_of 10 (Value.agg #[.int .i64 a0, .int .i64 a1]); (with_reducible refine (graph_Order.calls K a0 a1 b0 b1 X _ HX.out).mono ?_); rintro e w1 ⟨rfl, hb⟩; have BA1 := Aside0.mk (blk_below (blk_drew BA.out) hb); have BB1 := Aside0.mk (blk_below (blk_drew BB.out) hb); have BC1 := Aside0.mk (blk_below (blk_drew BC.out) hb); have HB1 := Aside0.mk (below_step (below_drew HB.out) hb); clear BA BB BC HB; have BA := BA1; have BB := BB1; have BC := BC1; have HB := HB1; clear BA1 BB1 BC1 HB1; have ga0 : w1.cell? ⟨w.heap.size, 0, none⟩ = some (.int .i64 a0) := (blk_cell BA.out 0).trans rfl; have ga1 : w1.cell? ⟨w.heap.size, 1, none⟩ = some (.int .i64 a1) := (blk_cell BA.out 1).trans rfl; have gb0 : w1.cell? ⟨w.heap.size + 1, 0, none⟩ = some (.int .i64 b0) := (blk_cell BB.out 0).trans rfl; have gb1 : w1.cell? ⟨w.heap.size + 1, 1, none⟩ = some (.int .i64 b1) := (blk_cell BB.out 1).trans rfl; have gc0 : w1.cell? ⟨w.heap.size + 2, 0, none⟩ = some (.int .i64 c0) := (blk_cell BC.out 0).trans rfl; have gc1 : w1.cell? ⟨w.heap.size + 2, 1, none⟩ = some (.int .i64 c1) := (blk_cell BC.out 1).trans rfl; clear hb))
      go_wp2
      go_meet
      case rel => exact ⟨rfl, BA, BB, BC, HB⟩
  case rest =>
    clear BA BB BC HB
    obtain ⟨rfl, BA, BB, BC, HB⟩ := hcut
    go_upto_region 3 with (fail)
    go_cut [9] (fun v9 wc => v9 = .bool true ∧ Aside0 (wc.heap[w.heap.size]? = some (.cells #[.int .i64 a0, .int .i64 a1] 23 (0, 0))) ∧ Aside0 (wc.heap[w.heap.size + 1]? = some (.cells #[.int .i64 b0, .int .i64 b1] 23 (0, 0))) ∧ Aside0 (wc.heap[w.heap.size + 2]? = some (.cells #[.int .i64 c0, .int .i64 c1] 23 (0, 0))) ∧ Aside0 (Below w.heap.size w wc))
    case first =>
      have ha0 : wc.cell? ⟨w.heap.size, 0, none⟩ = some (.int .i64 a0) := (blk_cell BA.out 0).trans rfl
      have ha1 : wc.cell? ⟨w.heap.size, 1, none⟩ = some (.int .i64 a1) := (blk_cell BA.out 1).trans rfl
      have hb0 : wc.cell? ⟨w.heap.size + 1, 0, none⟩ = some (.int .i64 b0) := (blk_cell BB.out 0).trans rfl
      have hb1 : wc.cell? ⟨w.heap.size + 1, 1, none⟩ = some (.int .i64 b1) := (blk_cell BB.out 1).trans rfl
      have hc0 : wc.cell? ⟨w.heap.size + 2, 0, none⟩ = some (.int .i64 c0) := (blk_cell BC.out 0).trans rfl
      have hc1 : wc.cell? ⟨w.heap.size + 2, 1, none⟩ = some (.int .i64 c1) := (blk_cell BC.out 1).trans rfl
      have BA2 := Aside0.mk (blk_drew BA.out)
      have BB2 := Aside0.mk (blk_drew BB.out)
      have BC2 := Aside0.mk (blk_drew BC.out)
      have HB2 := Aside0.mk (below_drew HB.out)
      clear BA BB BC HB
      have BA := BA2
      have BB := BB2
      have BC := BC2
      have HB := HB2
      clear BA2 BB2 BC2 HB2
      have x2 : (X == -Y) = true := beq_iff_eq.mpr E.out.2.1
      have x3 : IntKind.i64.wrap (-Y) = -Y := IntWalk.i64_in _ (by have := E.out.2.2.2.2; omega)
      have x4 := E.out.2.2.2.2
      go_region_held3 (fun w' => w'.cell? ⟨w.heap.size, 0, none⟩ = some (.int .i64 a0) ∧ w'.cell? ⟨w.heap.size, 1, none⟩ = some (.int .i64 a1) ∧ w'.cell? ⟨w.heap.size + 1, 0, none⟩ = some (.int .i64 b0) ∧ w'.cell? ⟨w.heap.size + 1, 1, none⟩ = some (.int .i64 b1)) (go_keep)
        (first | (go_at_call_of 10 (Value.agg #[.int .i64 a0, .int .i64 a1]); (with_reducible refine (graph_Order.calls K a0 a1 b0 b1 X _ HX.out).mono ?_); rintro e w1 ⟨rfl, hb⟩; have BA1 := Aside0.mk (blk_below BA.out hb); have BB1 := Aside0.mk (blk_below BB.out hb); have BC1 := Aside0.mk (blk_below BC.out hb); have HB1 := Aside0.mk (below_step HB.out hb); clear BA BB BC HB; have BA := BA1; have BB := BB1; have BC := BC1; have HB := HB1; clear BA1 BB1 BC1 HB1; have ga0 : w1.cell? ⟨w.heap.size, 0, none⟩ = some (.int .i64 a0) := (blk_cell BA.out 0).trans rfl; have ga1 : w1.cell? ⟨w.heap.size, 1, none⟩ = some (.int .i64 a1) := (blk_cell BA.out 1).trans rfl; have gb0 : w1.cell? ⟨w.heap.size + 1, 0, none⟩ = some (.int .i64 b0) := (blk_cell BB.out 0).trans rfl; have gb1 : w1.cell? ⟨w.heap.size + 1, 1, none⟩ = some (.int .i64 b1) := (blk_cell BB.out 1).trans rfl; have gc0 : w1.cell? ⟨w.heap.size + 2, 0, none⟩ = some (.int .i64 c0) := (blk_cell BC.out 0).trans rfl; have gc1 : w1.cell? ⟨w.heap.size + 2, 1, none⟩ = some (.int .i64 c1) := (blk_cell BC.out 1).trans rfl; clear hb) | (go_at_call_of 10 (Value.agg #[.int .i64 b0, .int .i64 b1]); (with_reducible refine (graph_Order.calls K b0 b1 a0 a1 Y _ HY.out).mono ?_); rintro e w1 ⟨rfl, hb⟩; have BA1 := Aside0.mk (blk_below BA.out hb); have BB1 := Aside0.mk (blk_below BB.out hb); have BC1 := Aside0.mk (blk_below BC.out hb); have HB1 := Aside0.mk (below_step HB.out hb); clear BA BB BC HB; have BA := BA1; have BB := BB1; have BC := BC1; have HB := HB1; clear BA1 BB1 BC1 HB1; have ga0 : w1.cell? ⟨w.heap.size, 0, none⟩ = some (.int .i64 a0) := (blk_cell BA.out 0).trans rfl; have ga1 : w1.cell? ⟨w.heap.size, 1, none⟩ = some (.int .i64 a1) := (blk_cell BA.out 1).trans rfl; have gb0 : w1.cell? ⟨w.heap.size + 1, 0, none⟩ = some (.int .i64 b0) := (blk_cell BB.out 0).trans rfl; have gb1 : w1.cell? ⟨w.heap.size + 1, 1, none⟩ = some (.int .i64 b1) := (blk_cell BB.out 1).trans rfl; have gc0 : w1.cell? ⟨w.heap.size + 2, 0, none⟩ = some (.int .i64 c0) := (blk_cell BC.out 0).trans rfl; have gc1 : w1.cell? ⟨w.heap.size + 2, 1, none⟩ = some (.int .i64 c1) := (blk_cell BC.out 1).trans rfl; clear hb))
      all_goals go_wp2
      all_goals go_meet
      all_goals (case rel => exact ⟨rfl, BA, BB, BC, HB⟩)
    case rest =>
      clear BA BB BC HB
      obtain ⟨rfl, BA, BB, BC, HB⟩ := hcut
      go_upto_region 4 with (fail)
      go_cut [10] (fun v10 wc => v10 = .bool true ∧ Aside0 (wc.heap[w.heap.size]? = some (.cells #[.int .i64 a0, .int .i64 a1] 23 (0, 0))) ∧ Aside0 (wc.heap[w.heap.size + 1]? = some (.cells #[.int .i64 b0, .int .i64 b1] 23 (0, 0))) ∧ Aside0 (wc.heap[w.heap.size + 2]? = some (.cells #[.int .i64 c0, .int .i64 c1] 23 (0, 0))) ∧ Aside0 (Below w.heap.size w wc))
      case first =>
        have ha0 : wc.cell? ⟨w.heap.size, 0, none⟩ = some (.int .i64 a0) := (blk_cell BA.out 0).trans rfl
        have ha1 : wc.cell? ⟨w.heap.size, 1, none⟩ = some (.int .i64 a1) := (blk_cell BA.out 1).trans rfl
        have hb0 : wc.cell? ⟨w.heap.size + 1, 0, none⟩ = some (.int .i64 b0) := (blk_cell BB.out 0).trans rfl
        have hb1 : wc.cell? ⟨w.heap.size + 1, 1, none⟩ = some (.int .i64 b1) := (blk_cell BB.out 1).trans rfl
        have hc0 : wc.cell? ⟨w.heap.size + 2, 0, none⟩ = some (.int .i64 c0) := (blk_cell BC.out 0).trans rfl
        have hc1 : wc.cell? ⟨w.heap.size + 2, 1, none⟩ = some (.int .i64 c1) := (blk_cell BC.out 1).trans rfl
        have e3 := E.out.2.2.1
        by_cases p : 0 < X
        · have x1 : decide (0 < X) = true := decide_eq_true p
          clear e3 p
          go_wp2_with (first | (go_at_call_of 10 (Value.agg #[.int .i64 a0, .int .i64 a1]); (with_reducible refine (graph_Order.calls K a0 a1 b0 b1 X _ HX.out).mono ?_); rintro e w1 ⟨rfl, hb⟩; have BA1 := Aside0.mk (blk_below BA.out hb); have BB1 := Aside0.mk (blk_below BB.out hb); have BC1 := Aside0.mk (blk_below BC.out hb); have HB1 := Aside0.mk (below_step HB.out hb); clear BA BB BC HB; have BA := BA1; have BB := BB1; have BC := BC1; have HB := HB1; clear BA1 BB1 BC1 HB1; have ga0 : w1.cell? ⟨w.heap.size, 0, none⟩ = some (.int .i64 a0) := (blk_cell BA.out 0).trans rfl; have ga1 : w1.cell? ⟨w.heap.size, 1, none⟩ = some (.int .i64 a1) := (blk_cell BA.out 1).trans rfl; have gb0 : w1.cell? ⟨w.heap.size + 1, 0, none⟩ = some (.int .i64 b0) := (blk_cell BB.out 0).trans rfl; have gb1 : w1.cell? ⟨w.heap.size + 1, 1, none⟩ = some (.int .i64 b1) := (blk_cell BB.out 1).trans rfl; have gc0 : w1.cell? ⟨w.heap.size + 2, 0, none⟩ = some (.int .i64 c0) := (blk_cell BC.out 0).trans rfl; have gc1 : w1.cell? ⟨w.heap.size + 2, 1, none⟩ = some (.int .i64 c1) := (blk_cell BC.out 1).trans rfl; clear hb))
          go_meet
          case rel => exact ⟨rfl, BA, BB, BC, HB⟩
        · have x1 : decide (0 < X) = false := decide_eq_false p
          by_cases q : 0 < Z
          · have x2 : decide (0 < Z) = true := decide_eq_true q
            clear e3 p q
            go_wp2_with (first | (go_at_call_of 10 (Value.agg #[.int .i64 a0, .int .i64 a1]); (with_reducible refine (graph_Order.calls K a0 a1 b0 b1 X _ HX.out).mono ?_); rintro e w1 ⟨rfl, hb⟩; have BA1 := Aside0.mk (blk_below BA.out hb); have BB1 := Aside0.mk (blk_below BB.out hb); have BC1 := Aside0.mk (blk_below BC.out hb); have HB1 := Aside0.mk (below_step HB.out hb); clear BA BB BC HB; have BA := BA1; have BB := BB1; have BC := BC1; have HB := HB1; clear BA1 BB1 BC1 HB1; have ga0 : w1.cell? ⟨w.heap.size, 0, none⟩ = some (.int .i64 a0) := (blk_cell BA.out 0).trans rfl; have ga1 : w1.cell? ⟨w.heap.size, 1, none⟩ = some (.int .i64 a1) := (blk_cell BA.out 1).trans rfl; have gb0 : w1.cell? ⟨w.heap.size + 1, 0, none⟩ = some (.int .i64 b0) := (blk_cell BB.out 0).trans rfl; have gb1 : w1.cell? ⟨w.heap.size + 1, 1, none⟩ = some (.int .i64 b1) := (blk_cell BB.out 1).trans rfl; have gc0 : w1.cell? ⟨w.heap.size + 2, 0, none⟩ = some (.int .i64 c0) := (blk_cell BC.out 0).trans rfl; have gc1 : w1.cell? ⟨w.heap.size + 2, 1, none⟩ = some (.int .i64 c1) := (blk_cell BC.out 1).trans rfl; clear hb) | (go_at_call_of 10 (Value.agg #[.int .i64 b0, .int .i64 b1]); (with_reducible refine (graph_Order.calls K b0 b1 c0 c1 Z _ HZ.out).mono ?_); rintro e w1 ⟨rfl, hb⟩; have BA1 := Aside0.mk (blk_below BA.out hb); have BB1 := Aside0.mk (blk_below BB.out hb); have BC1 := Aside0.mk (blk_below BC.out hb); have HB1 := Aside0.mk (below_step HB.out hb); clear BA BB BC HB; have BA := BA1; have BB := BB1; have BC := BC1; have HB := HB1; clear BA1 BB1 BC1 HB1; have ga0 : w1.cell? ⟨w.heap.size, 0, none⟩ = some (.int .i64 a0) := (blk_cell BA.out 0).trans rfl; have ga1 : w1.cell? ⟨w.heap.size, 1, none⟩ = some (.int .i64 a1) := (blk_cell BA.out 1).trans rfl; have gb0 : w1.cell? ⟨w.heap.size + 1, 0, none⟩ = some (.int .i64 b0) := (blk_cell BB.out 0).trans rfl; have gb1 : w1.cell? ⟨w.heap.size + 1, 1, none⟩ = some (.int .i64 b1) := (blk_cell BB.out 1).trans rfl; have gc0 : w1.cell? ⟨w.heap.size + 2, 0, none⟩ = some (.int .i64 c0) := (blk_cell BC.out 0).trans rfl; have gc1 : w1.cell? ⟨w.heap.size + 2, 1, none⟩ = some (.int .i64 c1) := (blk_cell BC.out 1).trans rfl; clear hb))
            go_meet
            case rel => exact ⟨rfl, BA, BB, BC, HB⟩
          · have x2 : decide (0 < Z) = false := decide_eq_false q
            have x3 : decide (U ≤ 0) = true := decide_eq_true (by omega)
            clear e3 p q
            go_wp2_with (first | (go_at_call_of 10 (Value.agg #[.int .i64 a0, .int .i64 a1]); (with_reducible refine (graph_Order.calls K a0 a1 b0 b1 X _ HX.out).mono ?_); rintro e w1 ⟨rfl, hb⟩; have BA1 := Aside0.mk (blk_below BA.out hb); have BB1 := Aside0.mk (blk_below BB.out hb); have BC1 := Aside0.mk (blk_below BC.out hb); have HB1 := Aside0.mk (below_step HB.out hb); clear BA BB BC HB; have BA := BA1; have BB := BB1; have BC := BC1; have HB := HB1; clear BA1 BB1 BC1 HB1; have ga0 : w1.cell? ⟨w.heap.size, 0, none⟩ = some (.int .i64 a0) := (blk_cell BA.out 0).trans rfl; have ga1 : w1.cell? ⟨w.heap.size, 1, none⟩ = some (.int .i64 a1) := (blk_cell BA.out 1).trans rfl; have gb0 : w1.cell? ⟨w.heap.size + 1, 0, none⟩ = some (.int .i64 b0) := (blk_cell BB.out 0).trans rfl; have gb1 : w1.cell? ⟨w.heap.size + 1, 1, none⟩ = some (.int .i64 b1) := (blk_cell BB.out 1).trans rfl; have gc0 : w1.cell? ⟨w.heap.size + 2, 0, none⟩ = some (.int .i64 c0) := (blk_cell BC.out 0).trans rfl; have gc1 : w1.cell? ⟨w.heap.size + 2, 1, none⟩ = some (.int .i64 c1) := (blk_cell BC.out 1).trans rfl; clear hb) | (go_at_call_of 10 (Value.agg #[.int .i64 b0, .int .i64 b1]); (with_reducible refine (graph_Order.calls K b0 b1 c0 c1 Z _ HZ.out).mono ?_); rintro e w1 ⟨rfl, hb⟩; have BA1 := Aside0.mk (blk_below BA.out hb); have BB1 := Aside0.mk (blk_below BB.out hb); have BC1 := Aside0.mk (blk_below BC.out hb); have HB1 := Aside0.mk (below_step HB.out hb); clear BA BB BC HB; have BA := BA1; have BB := BB1; have BC := BC1; have HB := HB1; clear BA1 BB1 BC1 HB1; have ga0 : w1.cell? ⟨w.heap.size, 0, none⟩ = some (.int .i64 a0) := (blk_cell BA.out 0).trans rfl; have ga1 : w1.cell? ⟨w.heap.size, 1, none⟩ = some (.int .i64 a1) := (blk_cell BA.out 1).trans rfl; have gb0 : w1.cell? ⟨w.heap.size + 1, 0, none⟩ = some (.int .i64 b0) := (blk_cell BB.out 0).trans rfl; have gb1 : w1.cell? ⟨w.heap.size + 1, 1, none⟩ = some (.int .i64 b1) := (blk_cell BB.out 1).trans rfl; have gc0 : w1.cell? ⟨w.heap.size + 2, 0, none⟩ = some (.int .i64 c0) := (blk_cell BC.out 0).trans rfl; have gc1 : w1.cell? ⟨w.heap.size + 2, 1, none⟩ = some (.int .i64 c1) := (blk_cell BC.out 1).trans rfl; clear hb) | (go_at_call_of 10 (Value.agg #[.int .i64 a0, .int .i64 a1]); (with_reducible refine (graph_Order.calls K a0 a1 c0 c1 U _ HU.out).mono ?_); rintro e w1 ⟨rfl, hb⟩; have BA1 := Aside0.mk (blk_below BA.out hb); have BB1 := Aside0.mk (blk_below BB.out hb); have BC1 := Aside0.mk (blk_below BC.out hb); have HB1 := Aside0.mk (below_step HB.out hb); clear BA BB BC HB; have BA := BA1; have BB := BB1; have BC := BC1; have HB := HB1; clear BA1 BB1 BC1 HB1; have ga0 : w1.cell? ⟨w.heap.size, 0, none⟩ = some (.int .i64 a0) := (blk_cell BA.out 0).trans rfl; have ga1 : w1.cell? ⟨w.heap.size, 1, none⟩ = some (.int .i64 a1) := (blk_cell BA.out 1).trans rfl; have gb0 : w1.cell? ⟨w.heap.size + 1, 0, none⟩ = some (.int .i64 b0) := (blk_cell BB.out 0).trans rfl; have gb1 : w1.cell? ⟨w.heap.size + 1, 1, none⟩ = some (.int .i64 b1) := (blk_cell BB.out 1).trans rfl; have gc0 : w1.cell? ⟨w.heap.size + 2, 0, none⟩ = some (.int .i64 c0) := (blk_cell BC.out 0).trans rfl; have gc1 : w1.cell? ⟨w.heap.size + 2, 1, none⟩ = some (.int .i64 c1) := (blk_cell BC.out 1).trans rfl; clear hb))
            go_meet
            case rel => exact ⟨rfl, BA, BB, BC, HB⟩
      case rest =>
        clear BA BB BC HB
        obtain ⟨rfl, BA, BB, BC, HB⟩ := hcut
        have ha0 : wc.cell? ⟨w.heap.size, 0, none⟩ = some (.int .i64 a0) := (blk_cell BA.out 0).trans rfl
        have ha1 : wc.cell? ⟨w.heap.size, 1, none⟩ = some (.int .i64 a1) := (blk_cell BA.out 1).trans rfl
        have hb0 : wc.cell? ⟨w.heap.size + 1, 0, none⟩ = some (.int .i64 b0) := (blk_cell BB.out 0).trans rfl
        have hb1 : wc.cell? ⟨w.heap.size + 1, 1, none⟩ = some (.int .i64 b1) := (blk_cell BB.out 1).trans rfl
        have hc0 : wc.cell? ⟨w.heap.size + 2, 0, none⟩ = some (.int .i64 c0) := (blk_cell BC.out 0).trans rfl
        have hc1 : wc.cell? ⟨w.heap.size + 2, 1, none⟩ = some (.int .i64 c1) := (blk_cell BC.out 1).trans rfl
        have x5 : (V == -1) = true := beq_iff_eq.mpr E.out.2.2.2.1
        go_wp2_with (first | (go_at_call 10; (with_reducible refine (graph_Order.calls K a0 (-1) a0 0 V _ HV.out).mono ?_); rintro e w1 ⟨rfl, hb⟩; have HB1 := Aside0.mk (below_step HB.out hb); clear hb))
        go_ret
        exact ⟨rfl, HB1.out⟩
end Go.Proofs.Ytlhmcobocnhgoaa.PAll
