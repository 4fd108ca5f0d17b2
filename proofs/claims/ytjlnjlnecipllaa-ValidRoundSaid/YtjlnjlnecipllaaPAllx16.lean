-- Laid by hprint.py of this repo: the kit's printer, and contracts by hand beside it. Not trusted: Lean checks it.
import Derived.Test.YtjlnjlnecipllaaPAllx0
import Derived.Test.YtjlnjlnecipllaaPAllx7
import Derived.Test.YtjlnjlnecipllaaPAllx8
namespace Go.Proofs.Ytjlnjlnecipllaa.PAll
open Go.RowKit Go.Proofs.YtjlnjlnecipllaaW.PrintWords Go.Proofs.YtjlnjlnecipllaaW.PrintLast Go.Proofs.YtjlnjlnecipllaaW.PrintMore
attribute [local go_sem] max2_int min2_int max_two min_two max_three min_three max_four min_four   -- for this text's walks alone
set_option linter.unusedVariables false
set_option linter.unusedSimpArgs false

/-! ### meanderref02_depth: function 34 -/
def meanderref02_depth.f (a0 : Int) : Option (Bool) := if a0 ≥ 0 then (some (decide (a0 ≤ 3))) else (some false)
set_option maxHeartbeats 8000000 in
set_option maxRecDepth 100000 in
theorem meanderref02_depth.calls (a0 : Int) (r : Bool) (w : World) (h : meanderref02_depth.f a0 = some r) :
  Calls Try.prog 34 #[.int .i64 a0] w fun e w' => e = .returned (.bool r) ∧ Drawn0 w w' := by
 have H : (if a0 ≥ 0 then (some (decide (a0 ≤ 3))) else (some false)) = some r := h
 clear h
 by_cases c2 : a0 ≥ 0
 ·rw [if_pos c2] at H
  have c2b0 : decide (0 ≤ a0) = true := decide_eq_true c2
  clear c2
  obtain rfl := Option.some.inj H
  go_enter Try.func34, Try.ntmps34
  go_wp2
  go_ret
  exact ⟨by first | rfl | (simp; done) | (simp [*]; done), by repeat (first | exact Drawn0.refl _ | apply Drawn0.step)⟩
 ·rw [if_neg c2] at H
  have c2b0 : decide (0 ≤ a0) = false := decide_eq_false c2
  clear c2
  obtain rfl := Option.some.inj H
  go_enter Try.func34, Try.ntmps34
  go_wp2
  go_ret
  exact ⟨by first | rfl | (simp; done) | (simp [*]; done), by repeat (first | exact Drawn0.refl _ | apply Drawn0.step)⟩

/-! ### meanderref02_Same: function 16 -/
def meanderref02_Same.f (a0 : Int) : Option (Int × Int × Int × Int × Int × Int × Int) := (meanderref02_depth.f a0).bind fun t301 => (if t301 = true then (some (a0, a0, a0, 0, 0, 0, 0)) else (some (0, 0, 0, 0, 0, 0, 0)))
set_option maxHeartbeats 8000000 in
set_option maxRecDepth 100000 in
theorem meanderref02_Same.calls (a0 : Int) (r1 : Int) (r2 : Int) (r3 : Int) (r4 : Int) (r5 : Int) (r6 : Int) (r7 : Int) (w : World) (h : meanderref02_Same.f a0 = some (r1, r2, r3, r4, r5, r6, r7)) :
  Calls Try.prog 16 #[.int .i64 a0] w fun e w' => e = .returned (.agg #[.int .i64 r1, .int .i64 r2, .int .i64 r3, .int .i64 r4, .int .i64 r5, .int .i64 r6, .int .i64 r7]) ∧ Below w.heap.size w w' := by
 have hu42 := Try.underlying42
 have HB := Aside0.mk (Below.refl w.heap.size w)
 have H : ((meanderref02_depth.f a0).bind fun t301 => (if t301 = true then (some (a0, a0, a0, 0, 0, 0, 0)) else (some (0, 0, 0, 0, 0, 0, 0)))) = some (r1, r2, r3, r4, r5, r6, r7) := h
 clear h
 replace H := Option.bind_eq_some_iff.mp H
 obtain ⟨t301, A20, H⟩ := H
 replace H : (if t301 = true then (some (a0, a0, a0, 0, 0, 0, 0)) else (some (0, 0, 0, 0, 0, 0, 0))) = some (r1, r2, r3, r4, r5, r6, r7) := H
 have A2 := Aside0.mk A20
 clear A20
 by_cases c3 : t301 = true
 ·subst c3
  have H1 : (some (a0, a0, a0, 0, 0, 0, 0)) = some (r1, r2, r3, r4, r5, r6, r7) := by rw [if_pos rfl] at H; exact H
  clear H
  have H := H1
  clear H1
  simp only [Option.some.injEq, Prod.mk.injEq] at H
  obtain ⟨rfl, rfl, rfl, rfl, rfl, rfl, rfl⟩ := H
  go_enter Try.func16, Try.ntmps16
  go_wp2_with (first | ((with_reducible refine gate_dst (N := 2) rfl ?_); refine box_event ?hg (N := 2) ?hd (cs := #[.int .i64 0, .int .i64 0, .int .i64 0, .int .i64 0, .int .i64 0, .int .i64 0, .int .i64 0]) (t := 42) ?hr ?_; (case hd => rfl); (case hg => rfl); (case hr => first | (go_simp; done) | (go_simp; rfl)); intro gb300 hg w4 hbox hb; have n0_ := Aside0.mk (below_step (by repeat (first | (with_reducible first | exact HB.out | apply below_alloc | apply pw_below_drewN | apply below_drew1) | exact HB.out)) hb); have n1_ := Aside0.mk (hbox); have n2_ := Aside0.mk ((by rw [hg]; exact (below_size (by repeat (first | (with_reducible first | exact HB.out | apply below_alloc | apply pw_below_drewN | apply below_drew1) | exact HB.out))) : w.heap.size ≤ gb300)); have n3_ := Aside0.mk ((by rw [hg]; exact (below_size (by repeat (first | (with_reducible first | exact HB.out | apply below_alloc | apply pw_below_drewN | apply below_drew1) | exact HB.out))) : w.heap.size ≤ gb300)); clear HB; have HB := n0_; have BK300 := n1_; have GW300 := n2_; have GE300 := n3_; clear n0_ n1_ n2_ n3_; clear hb hbox hg) | ((with_reducible refine gate_callee (f := 34) rfl ?_); refine goesL_ (some 4) rfl rfl Try.func34 (by kernel_rfl) rfl #[.int .i64 a0] rfl (by (try simp only [List.map_toArray, List.map_cons, List.map_nil]); first | done | rfl | (simp only [List.length_drop, List.length_take]; rfl)) ?_; (with_reducible refine (meanderref02_depth.calls a0 true _ A2.out).mono ?_); rintro e w' ⟨rfl, ⟨nd, rfl⟩⟩; refine ⟨_, rfl, ?_⟩; (try (rw [drewN_self w4]; generalize hq_ : World.drewN w4 _ = w4; have n0_ : Aside0 (w4.heap[gb300]? = some (.cells #[.int .i64 0, .int .i64 0, .int .i64 0, .int .i64 0, .int .i64 0, .int .i64 0, .int .i64 0] 42 (0, 0))) := ⟨by rw [← hq_]; exact (by (with_reducible repeat (first | refine blk_drewN ?_ _ | refine blk_drew ?_ | refine blk_alloc ?_ _)); exact BK300.out)⟩; have n1_ : Aside0 (Below w.heap.size w w4) := ⟨by rw [← hq_]; exact (by repeat (first | (with_reducible first | exact HB.out | apply below_alloc | apply pw_below_drewN | apply below_drew1 | refine below_set ?_ GE300.out) | exact HB.out))⟩; clear BK300 HB hq_; have BK300 := n0_; have HB := n1_; clear n0_ n1_)); have hcz5_0 : w4.cell? ⟨gb300, 0, none⟩ = some (.int .i64 0) := (blk_cell BK300.out 0).trans rfl; have hcz5_1 : w4.cell? ⟨gb300, 1, none⟩ = some (.int .i64 0) := (blk_cell BK300.out 1).trans rfl; have hcz5_2 : w4.cell? ⟨gb300, 2, none⟩ = some (.int .i64 0) := (blk_cell BK300.out 2).trans rfl; have hcz5_3 : w4.cell? ⟨gb300, 3, none⟩ = some (.int .i64 0) := (blk_cell BK300.out 3).trans rfl; have hcz5_4 : w4.cell? ⟨gb300, 4, none⟩ = some (.int .i64 0) := (blk_cell BK300.out 4).trans rfl; have hcz5_5 : w4.cell? ⟨gb300, 5, none⟩ = some (.int .i64 0) := (blk_cell BK300.out 5).trans rfl; have hcz5_6 : w4.cell? ⟨gb300, 6, none⟩ = some (.int .i64 0) := (blk_cell BK300.out 6).trans rfl; have hfz5_0 := blk_frozen BK300.out 0; have hfz5_1 := blk_frozen BK300.out 1; have hfz5_2 := blk_frozen BK300.out 2; have hfz5_3 := blk_frozen BK300.out 3; have hfz5_4 := blk_frozen BK300.out 4; have hfz5_5 := blk_frozen BK300.out 5; have hfz5_6 := blk_frozen BK300.out 6))
  refine bodyPost_ret (results_cell_row rfl _ _ gb300 42 #[.int .i64 a0, .int .i64 a0, .int .i64 a0, .int .i64 0, .int .i64 0, .int .i64 0, .int .i64 0] (0, 0) _ rfl (by (with_reducible repeat (first | refine blk_drewN ?_ _ | refine blk_drew ?_ | refine blk_alloc ?_ _)); refine blk_put (cs := #[.int .i64 a0, .int .i64 a0, .int .i64 a0, .int .i64 0, .int .i64 0, .int .i64 0, .int .i64 0]) ?_ 6 _ rfl; (with_reducible repeat (first | refine blk_drewN ?_ _ | refine blk_drew ?_ | refine blk_alloc ?_ _)); refine blk_put (cs := #[.int .i64 a0, .int .i64 a0, .int .i64 a0, .int .i64 0, .int .i64 0, .int .i64 0, .int .i64 0]) ?_ 5 _ rfl; (with_reducible repeat (first | refine blk_drewN ?_ _ | refine blk_drew ?_ | refine blk_alloc ?_ _)); refine blk_put (cs := #[.int .i64 a0, .int .i64 a0, .int .i64 a0, .int .i64 0, .int .i64 0, .int .i64 0, .int .i64 0]) ?_ 4 _ rfl; (with_reducible repeat (first | refine blk_drewN ?_ _ | refine blk_drew ?_ | refine blk_alloc ?_ _)); refine blk_put (cs := #[.int .i64 a0, .int .i64 a0, .int .i64 a0, .int .i64 0, .int .i64 0, .int .i64 0, .int .i64 0]) ?_ 3 _ rfl; (with_reducible repeat (first | refine blk_drewN ?_ _ | refine blk_drew ?_ | refine blk_alloc ?_ _)); refine blk_put (cs := #[.int .i64 a0, .int .i64 a0, .int .i64 0, .int .i64 0, .int .i64 0, .int .i64 0, .int .i64 0]) ?_ 2 _ rfl; (with_reducible repeat (first | refine blk_drewN ?_ _ | refine blk_drew ?_ | refine blk_alloc ?_ _)); refine blk_put (cs := #[.int .i64 a0, .int .i64 0, .int .i64 0, .int .i64 0, .int .i64 0, .int .i64 0, .int .i64 0]) ?_ 1 _ rfl; (with_reducible repeat (first | refine blk_drewN ?_ _ | refine blk_drew ?_ | refine blk_alloc ?_ _)); refine blk_put (cs := #[.int .i64 0, .int .i64 0, .int .i64 0, .int .i64 0, .int .i64 0, .int .i64 0, .int .i64 0]) ?_ 0 _ rfl; (with_reducible repeat (first | refine blk_drewN ?_ _ | refine blk_drew ?_ | refine blk_alloc ?_ _)); exact BK300.out) Try.underlying42 rfl (by kernel_rfl)) rfl ?_
  exact ⟨by first | rfl | (simp [errW_none, errW_some] <;> rfl) | (simp [*, errW_none, errW_some] <;> rfl), by repeat (first | (with_reducible first | exact HB.out | apply below_alloc | apply pw_below_drewN | apply below_drew1 | refine below_set ?_ GE300.out) | exact HB.out)⟩
 ·replace c3 := Bool.eq_false_iff.mpr c3
  subst c3
  have H1 : (some (0, 0, 0, 0, 0, 0, 0)) = some (r1, r2, r3, r4, r5, r6, r7) := by rw [if_neg (show ¬ (false = true) by decide)] at H; exact H
  clear H
  have H := H1
  clear H1
  simp only [Option.some.injEq, Prod.mk.injEq] at H
  obtain ⟨rfl, rfl, rfl, rfl, rfl, rfl, rfl⟩ := H
  go_enter Try.func16, Try.ntmps16
  go_wp2_with (first | ((with_reducible refine gate_dst (N := 2) rfl ?_); refine box_event ?hg (N := 2) ?hd (cs := #[.int .i64 0, .int .i64 0, .int .i64 0, .int .i64 0, .int .i64 0, .int .i64 0, .int .i64 0]) (t := 42) ?hr ?_; (case hd => rfl); (case hg => rfl); (case hr => first | (go_simp; done) | (go_simp; rfl)); intro gb300 hg w6 hbox hb; have n0_ := Aside0.mk (below_step (by repeat (first | (with_reducible first | exact HB.out | apply below_alloc | apply pw_below_drewN | apply below_drew1) | exact HB.out)) hb); have n1_ := Aside0.mk (hbox); have n2_ := Aside0.mk ((by rw [hg]; exact (below_size (by repeat (first | (with_reducible first | exact HB.out | apply below_alloc | apply pw_below_drewN | apply below_drew1) | exact HB.out))) : w.heap.size ≤ gb300)); have n3_ := Aside0.mk ((by rw [hg]; exact (below_size (by repeat (first | (with_reducible first | exact HB.out | apply below_alloc | apply pw_below_drewN | apply below_drew1) | exact HB.out))) : w.heap.size ≤ gb300)); clear HB; have HB := n0_; have BK300 := n1_; have GW300 := n2_; have GE300 := n3_; clear n0_ n1_ n2_ n3_; clear hb hbox hg) | ((with_reducible refine gate_callee (f := 34) rfl ?_); refine goesL_ (some 4) rfl rfl Try.func34 (by kernel_rfl) rfl #[.int .i64 a0] rfl (by (try simp only [List.map_toArray, List.map_cons, List.map_nil]); first | done | rfl | (simp only [List.length_drop, List.length_take]; rfl)) ?_; (with_reducible refine (meanderref02_depth.calls a0 false _ A2.out).mono ?_); rintro e w' ⟨rfl, ⟨nd, rfl⟩⟩; refine ⟨_, rfl, ?_⟩; (try (rw [drewN_self w6]; generalize hq_ : World.drewN w6 _ = w6; have n0_ : Aside0 (w6.heap[gb300]? = some (.cells #[.int .i64 0, .int .i64 0, .int .i64 0, .int .i64 0, .int .i64 0, .int .i64 0, .int .i64 0] 42 (0, 0))) := ⟨by rw [← hq_]; exact (by (with_reducible repeat (first | refine blk_drewN ?_ _ | refine blk_drew ?_ | refine blk_alloc ?_ _)); exact BK300.out)⟩; have n1_ : Aside0 (Below w.heap.size w w6) := ⟨by rw [← hq_]; exact (by repeat (first | (with_reducible first | exact HB.out | apply below_alloc | apply pw_below_drewN | apply below_drew1 | refine below_set ?_ GE300.out) | exact HB.out))⟩; clear BK300 HB hq_; have BK300 := n0_; have HB := n1_; clear n0_ n1_)); have hcz7_0 : w6.cell? ⟨gb300, 0, none⟩ = some (.int .i64 0) := (blk_cell BK300.out 0).trans rfl; have hcz7_1 : w6.cell? ⟨gb300, 1, none⟩ = some (.int .i64 0) := (blk_cell BK300.out 1).trans rfl; have hcz7_2 : w6.cell? ⟨gb300, 2, none⟩ = some (.int .i64 0) := (blk_cell BK300.out 2).trans rfl; have hcz7_3 : w6.cell? ⟨gb300, 3, none⟩ = some (.int .i64 0) := (blk_cell BK300.out 3).trans rfl; have hcz7_4 : w6.cell? ⟨gb300, 4, none⟩ = some (.int .i64 0) := (blk_cell BK300.out 4).trans rfl; have hcz7_5 : w6.cell? ⟨gb300, 5, none⟩ = some (.int .i64 0) := (blk_cell BK300.out 5).trans rfl; have hcz7_6 : w6.cell? ⟨gb300, 6, none⟩ = some (.int .i64 0) := (blk_cell BK300.out 6).trans rfl; have hfz7_0 := blk_frozen BK300.out 0; have hfz7_1 := blk_frozen BK300.out 1; have hfz7_2 := blk_frozen BK300.out 2; have hfz7_3 := blk_frozen BK300.out 3; have hfz7_4 := blk_frozen BK300.out 4; have hfz7_5 := blk_frozen BK300.out 5; have hfz7_6 := blk_frozen BK300.out 6))
  refine bodyPost_ret (results_cell_row rfl _ _ gb300 42 #[.int .i64 0, .int .i64 0, .int .i64 0, .int .i64 0, .int .i64 0, .int .i64 0, .int .i64 0] (0, 0) _ rfl (by (with_reducible repeat (first | refine blk_drewN ?_ _ | refine blk_drew ?_ | refine blk_alloc ?_ _)); refine blk_put (cs := #[.int .i64 0, .int .i64 0, .int .i64 0, .int .i64 0, .int .i64 0, .int .i64 0, .int .i64 0]) ?_ 6 _ rfl; (with_reducible repeat (first | refine blk_drewN ?_ _ | refine blk_drew ?_ | refine blk_alloc ?_ _)); refine blk_put (cs := #[.int .i64 0, .int .i64 0, .int .i64 0, .int .i64 0, .int .i64 0, .int .i64 0, .int .i64 0]) ?_ 5 _ rfl; (with_reducible repeat (first | refine blk_drewN ?_ _ | refine blk_drew ?_ | refine blk_alloc ?_ _)); refine blk_put (cs := #[.int .i64 0, .int .i64 0, .int .i64 0, .int .i64 0, .int .i64 0, .int .i64 0, .int .i64 0]) ?_ 4 _ rfl; (with_reducible repeat (first | refine blk_drewN ?_ _ | refine blk_drew ?_ | refine blk_alloc ?_ _)); refine blk_put (cs := #[.int .i64 0, .int .i64 0, .int .i64 0, .int .i64 0, .int .i64 0, .int .i64 0, .int .i64 0]) ?_ 3 _ rfl; (with_reducible repeat (first | refine blk_drewN ?_ _ | refine blk_drew ?_ | refine blk_alloc ?_ _)); refine blk_put (cs := #[.int .i64 0, .int .i64 0, .int .i64 0, .int .i64 0, .int .i64 0, .int .i64 0, .int .i64 0]) ?_ 2 _ rfl; (with_reducible repeat (first | refine blk_drewN ?_ _ | refine blk_drew ?_ | refine blk_alloc ?_ _)); refine blk_put (cs := #[.int .i64 0, .int .i64 0, .int .i64 0, .int .i64 0, .int .i64 0, .int .i64 0, .int .i64 0]) ?_ 1 _ rfl; (with_reducible repeat (first | refine blk_drewN ?_ _ | refine blk_drew ?_ | refine blk_alloc ?_ _)); refine blk_put (cs := #[.int .i64 0, .int .i64 0, .int .i64 0, .int .i64 0, .int .i64 0, .int .i64 0, .int .i64 0]) ?_ 0 _ rfl; (with_reducible repeat (first | refine blk_drewN ?_ _ | refine blk_drew ?_ | refine blk_alloc ?_ _)); exact BK300.out) Try.underlying42 rfl (by kernel_rfl)) rfl ?_
  exact ⟨by first | rfl | (simp [errW_none, errW_some] <;> rfl) | (simp [*, errW_none, errW_some] <;> rfl), by repeat (first | (with_reducible first | exact HB.out | apply below_alloc | apply pw_below_drewN | apply below_drew1 | refine below_set ?_ GE300.out) | exact HB.out)⟩

/-! ### meanderref02_May: function 38 -/
def meanderref02_May.P (s1 s2 s3 s4 s5 s6 s7 : Int) : Prop := 0 ≤ s1 ∧ s1 ≤ 3 ∧ 0 ≤ s2 ∧ s2 ≤ 3 ∧ 0 ≤ s3 ∧ s3 ≤ s1 ∧ s3 ≤ s2 ∧ 0 ≤ s4 ∧ s4 ≤ 1048576 ∧ 0 ≤ s5 ∧ s5 ≤ 1000 ∧ 0 ≤ s6 ∧ s6 ≤ 1000 ∧ 0 ≤ s7 ∧ s7 ≤ 1000 ∧ (s2 ≤ 0 → s5 = 0) ∧ (s2 ≤ 1 → s6 = 0) ∧ (s2 ≤ 2 → s7 = 0)
instance (s1 s2 s3 s4 s5 s6 s7 : Int) : Decidable (meanderref02_May.P s1 s2 s3 s4 s5 s6 s7) := by unfold meanderref02_May.P; infer_instance
/-- Where it is true (elsewhere nothing is told). -/
def meanderref02_May.f (s1 s2 s3 s4 s5 s6 s7 : Int) : Option Bool := if meanderref02_May.P s1 s2 s3 s4 s5 s6 s7 then some true else none
set_option maxHeartbeats 8000000 in
set_option maxRecDepth 100000 in
theorem meanderref02_May.calls (s1 : Int) (s2 : Int) (s3 : Int) (s4 : Int) (s5 : Int) (s6 : Int) (s7 : Int) (r : Bool) (w : World) (h : meanderref02_May.f s1 s2 s3 s4 s5 s6 s7 = some r) :
    Calls Try.prog 38 #[.agg #[.int .i64 s1, .int .i64 s2, .int .i64 s3, .int .i64 s4, .int .i64 s5, .int .i64 s6, .int .i64 s7]] w fun e w' => e = .returned (.bool r) ∧ Below w.heap.size w w' := by
  have hu1 := Try.underlying42
  have hu2 := Try.underlying40
  unfold meanderref02_May.f at h
  have hP : meanderref02_May.P s1 s2 s3 s4 s5 s6 s7 := by
    by_cases c : meanderref02_May.P s1 s2 s3 s4 s5 s6 s7
    · exact c
    · rw [if_neg c] at h; cases h
  rw [if_pos hP] at h
  obtain rfl := Option.some.inj h
  clear h
  unfold meanderref02_May.P at hP
  have HP := Aside0.mk hP
  have D1 := Aside0.mk (show meanderref02_depth.f s1 = some true from by unfold meanderref02_depth.f; rw [if_pos hP.1]; exact congrArg some (decide_eq_true hP.2.1))
  have D2 := Aside0.mk (show meanderref02_depth.f s2 = some true from by unfold meanderref02_depth.f; rw [if_pos hP.2.2.1]; exact congrArg some (decide_eq_true hP.2.2.2.1))
  obtain ⟨g, hgq⟩ : ∃ g : Nat, g = w.heap.size := ⟨_, rfl⟩
  have HQ := Aside0.mk hgq
  have HB := Aside0.mk (below_alloc (Below.refl w.heap.size w) (.cells #[.int .i64 s1, .int .i64 s2, .int .i64 s3, .int .i64 s4, .int .i64 s5, .int .i64 s6, .int .i64 s7] 42))
  have BG := Aside0.mk (show (w.alloc (.cells #[.int .i64 s1, .int .i64 s2, .int .i64 s3, .int .i64 s4, .int .i64 s5, .int .i64 s6, .int .i64 s7] 42)).heap[g]? = some (.cells #[.int .i64 s1, .int .i64 s2, .int .i64 s3, .int .i64 s4, .int .i64 s5, .int .i64 s6, .int .i64 s7] 42 (0, 0)) from by rw [hgq]; exact blk_new _ _)
  have f1 : decide (s3 < 0) = false := decide_eq_false (by omega)
  have f2 : decide (s1 < s3) = false := decide_eq_false (by omega)
  have f3 : decide (s2 < s3) = false := decide_eq_false (by omega)
  have f4 : decide (s4 < 0) = false := decide_eq_false (by omega)
  have f5 : decide (1048576 < s4) = false := decide_eq_false (by omega)
  clear hgq hP
  go_enter Try.func38, Try.ntmps38
  go_wp2_with (first
    | (go_at_call 34; (with_reducible refine (meanderref02_depth.calls s1 true _ D1.out).mono ?_); rintro e w1 ⟨rfl, ⟨nd, rfl⟩⟩)
    | (go_at_call 34; (with_reducible refine (meanderref02_depth.calls s2 true _ D2.out).mono ?_); rintro e w1 ⟨rfl, ⟨nd, rfl⟩⟩))
  (try rw [← HQ.out])
  go_loopw [3] (fun v3 w' => ∃ i : Nat, v3 = .int .i64 i ∧ Aside0 (i ≤ 3) ∧ Aside0 (w'.heap[g]? = some (.cells #[.int .i64 s1, .int .i64 s2, .int .i64 s3, .int .i64 s4, .int .i64 s5, .int .i64 s6, .int .i64 s7] 42 (0, 0))) ∧ Aside0 (Below w.heap.size w w')) (fun v3 _ => 3 - (intOf v3).toNat)
  case atStart => exact ⟨0, rfl, ⟨by omega⟩, ⟨by (with_reducible repeat (first | refine blk_drewN ?_ _ | refine blk_drew ?_)); exact BG.out⟩, ⟨by repeat (first | exact HB.out | apply pw_below_drewN | apply below_drew1)⟩⟩
  case round =>
    clear BG HB f1 f2 f3 f4 f5 D1 D2
    obtain ⟨i, rfl, HI, BG, HB⟩ := hrel
    have hc1 : wr.cell? ⟨g, 1, none⟩ = some (.int .i64 s2) := (blk_cell BG.out 1).trans rfl
    have hc4 : wr.cell? ⟨g, 4, none⟩ = some (.int .i64 s5) := (blk_cell BG.out 4).trans rfl
    have hc5 : wr.cell? ⟨g, 5, none⟩ = some (.int .i64 s6) := (blk_cell BG.out 5).trans rfl
    have hc6 : wr.cell? ⟨g, 6, none⟩ = some (.int .i64 s7) := (blk_cell BG.out 6).trans rfl
    have i3 : i = 0 ∨ i = 1 ∨ i = 2 ∨ i = 3 := by have := HI.out; omega
    rcases i3 with rfl | rfl | rfl | rfl
    · have hP := HP.out
      have a1 : decide (s5 < 0) = false := decide_eq_false (by omega)
      have a2 : decide (1000 < s5) = false := decide_eq_false (by omega)
      by_cases c : s2 ≤ 0
      · have a3 : decide (s2 ≤ 0) = true := decide_eq_true c
        have e : s5 = 0 := by omega
        have a4 : (s5 != 0) = false := bne_eq_false_iff_eq.mpr e
        have a5 : (s5 == 0) = true := beq_iff_eq.mpr e
        clear hP c e
        go_wp2
        go_roundw
        case rel => exact ⟨1, rfl, ⟨by omega⟩, BG, HB⟩
        case measure => simp [intOf]
      · have a3 : decide (s2 ≤ 0) = false := decide_eq_false c
        clear hP c
        go_wp2
        go_roundw
        case rel => exact ⟨1, rfl, ⟨by omega⟩, BG, HB⟩
        case measure => simp [intOf]
    · have hP := HP.out
      have a1 : decide (s6 < 0) = false := decide_eq_false (by omega)
      have a2 : decide (1000 < s6) = false := decide_eq_false (by omega)
      by_cases c : s2 ≤ 1
      · have a3 : decide (s2 ≤ 1) = true := decide_eq_true c
        have e : s6 = 0 := by omega
        have a4 : (s6 != 0) = false := bne_eq_false_iff_eq.mpr e
        have a5 : (s6 == 0) = true := beq_iff_eq.mpr e
        clear hP c e
        go_wp2
        go_roundw
        case rel => exact ⟨2, rfl, ⟨by omega⟩, BG, HB⟩
        case measure => simp [intOf]
      · have a3 : decide (s2 ≤ 1) = false := decide_eq_false c
        clear hP c
        go_wp2
        go_roundw
        case rel => exact ⟨2, rfl, ⟨by omega⟩, BG, HB⟩
        case measure => simp [intOf]
    · have hP := HP.out
      have a1 : decide (s7 < 0) = false := decide_eq_false (by omega)
      have a2 : decide (1000 < s7) = false := decide_eq_false (by omega)
      by_cases c : s2 ≤ 2
      · have a3 : decide (s2 ≤ 2) = true := decide_eq_true c
        have e : s7 = 0 := by omega
        have a4 : (s7 != 0) = false := bne_eq_false_iff_eq.mpr e
        have a5 : (s7 == 0) = true := beq_iff_eq.mpr e
        clear hP c e
        go_wp2
        go_roundw
        case rel => exact ⟨3, rfl, ⟨by omega⟩, BG, HB⟩
        case measure => simp [intOf]
      · have a3 : decide (s2 ≤ 2) = false := decide_eq_false c
        clear hP c
        go_wp2
        go_roundw
        case rel => exact ⟨3, rfl, ⟨by omega⟩, BG, HB⟩
        case measure => simp [intOf]
    · go_wp2
      go_ret
      exact ⟨rfl, HB.out⟩

/-! ### meanderref02_Then: function 18 -/
def meanderref02_Then.g (s1 : Int) (s2 : Int) (s3 : Int) (s4 : Int) (s5 : Int) (s6 : Int) (s7 : Int) (r1 : Int) (r2 : Int) (r3 : Int) (r4 : Int) (r5 : Int) (r6 : Int) (r7 : Int) : Int × Int × Int × Int × Int × Int × Int := (s1, r2, (if r3 < s3 then r3 else s3), (s4 + r4), (if 0 < r2 then (if 0 < r3 then s5 + r5 else r5) else 0), (if 1 < r2 then (if 1 < r3 then s6 + r6 else r6) else 0), (if 2 < r2 then (if 2 < r3 then s7 + r7 else r7) else 0))
def meanderref02_Then.cs (s1 r2 kp ep o0 o1 o2 : Int) : Nat → Array Value
  | 0 => #[.int .i64 s1, .int .i64 r2, .int .i64 kp, .int .i64 ep, .int .i64 0, .int .i64 0, .int .i64 0]
  | 1 => #[.int .i64 s1, .int .i64 r2, .int .i64 kp, .int .i64 ep, .int .i64 o0, .int .i64 0, .int .i64 0]
  | 2 => #[.int .i64 s1, .int .i64 r2, .int .i64 kp, .int .i64 ep, .int .i64 o0, .int .i64 o1, .int .i64 0]
  | _ => #[.int .i64 s1, .int .i64 r2, .int .i64 kp, .int .i64 ep, .int .i64 o0, .int .i64 o1, .int .i64 o2]
/-- Where it goes (elsewhere nothing is told). -/
def meanderref02_Then.f (s1 : Int) (s2 : Int) (s3 : Int) (s4 : Int) (s5 : Int) (s6 : Int) (s7 : Int) (r1 : Int) (r2 : Int) (r3 : Int) (r4 : Int) (r5 : Int) (r6 : Int) (r7 : Int) : Option (Int × Int × Int × Int × Int × Int × Int × Int) :=
  if meanderref02_May.P s1 s2 s3 s4 s5 s6 s7 ∧ meanderref02_May.P r1 r2 r3 r4 r5 r6 r7 ∧ s2 = r1 ∧ meanderref02_May.P s1 r2 (if r3 < s3 then r3 else s3) (s4 + r4) (if 0 < r2 then (if 0 < r3 then s5 + r5 else r5) else 0) (if 1 < r2 then (if 1 < r3 then s6 + r6 else r6) else 0) (if 2 < r2 then (if 2 < r3 then s7 + r7 else r7) else 0) then some (s1, r2, (if r3 < s3 then r3 else s3), (s4 + r4), (if 0 < r2 then (if 0 < r3 then s5 + r5 else r5) else 0), (if 1 < r2 then (if 1 < r3 then s6 + r6 else r6) else 0), (if 2 < r2 then (if 2 < r3 then s7 + r7 else r7) else 0), 0) else none
set_option maxHeartbeats 16000000 in
set_option maxRecDepth 100000 in
theorem meanderref02_Then.at (s1 : Int) (s2 : Int) (s3 : Int) (s4 : Int) (s5 : Int) (s6 : Int) (s7 : Int) (r1 : Int) (r2 : Int) (r3 : Int) (r4 : Int) (r5 : Int) (r6 : Int) (r7 : Int) (kp ep o0 o1 o2 : Int) (w : World) (hs : meanderref02_May.P s1 s2 s3 s4 s5 s6 s7) (hr : meanderref02_May.P r1 r2 r3 r4 r5 r6 r7) (he : s2 = r1) (ho : meanderref02_May.P s1 r2 kp ep o0 o1 o2)
    (hk : (if r3 < s3 then r3 else s3) = kp) (hp : IntKind.i64.wrap (s4 + r4) = ep) (h0 : (if 0 < r2 then (if 0 < r3 then s5 + r5 else r5) else 0) = o0) (h1 : (if 1 < r2 then (if 1 < r3 then s6 + r6 else r6) else 0) = o1) (h2 : (if 2 < r2 then (if 2 < r3 then s7 + r7 else r7) else 0) = o2) :
    Calls Try.prog 18 #[.agg #[.int .i64 s1, .int .i64 s2, .int .i64 s3, .int .i64 s4, .int .i64 s5, .int .i64 s6, .int .i64 s7], .agg #[.int .i64 r1, .int .i64 r2, .int .i64 r3, .int .i64 r4, .int .i64 r5, .int .i64 r6, .int .i64 r7]] w fun e w' => e = .returned (.tuple #[.agg #[.int .i64 s1, .int .i64 r2, .int .i64 kp, .int .i64 ep, .int .i64 o0, .int .i64 o1, .int .i64 o2], .int .i64 0]) ∧ Below w.heap.size w w' := by
  have hu1 := Try.underlying42
  have hu2 := Try.underlying40
  have H0 := Aside0.mk h0
  have H1 := Aside0.mk h1
  have H2 := Aside0.mk h2
  have hr' := hr
  unfold meanderref02_May.P at hr'
  have hs' := hs
  unfold meanderref02_May.P at hs'
  have HP := Aside0.mk hr'
  have HPS := Aside0.mk hs'
  have hb : 0 ≤ s5 ∧ s5 ≤ 1000 ∧ 0 ≤ s6 ∧ s6 ≤ 1000 ∧ 0 ≤ s7 ∧ s7 ≤ 1000 ∧ 0 ≤ r5 ∧ r5 ≤ 1000 ∧ 0 ≤ r6 ∧ r6 ≤ 1000 ∧ 0 ≤ r7 ∧ r7 ≤ 1000 := by omega
  have MS := Aside0.mk (show meanderref02_May.f s1 s2 s3 s4 s5 s6 s7 = some true from by unfold meanderref02_May.f; exact if_pos hs)
  have MR := Aside0.mk (show meanderref02_May.f r1 r2 r3 r4 r5 r6 r7 = some true from by unfold meanderref02_May.f; exact if_pos hr)
  have MO := Aside0.mk (show meanderref02_May.f s1 r2 kp ep o0 o1 o2 = some true from by unfold meanderref02_May.f; exact if_pos ho)
  have HK := Aside0.mk hk
  have HE := Aside0.mk hp
  have ne : (s2 != r1) = false := bne_eq_false_iff_eq.mpr he
  have ne2 : (s2 == r1) = true := beq_iff_eq.mpr he
  clear hs hr ho h0 h1 h2 hr' hs' he hk hp
  obtain ⟨g, hgq⟩ : ∃ g : Nat, g = w.heap.size := ⟨_, rfl⟩
  have HQ := Aside0.mk hgq
  obtain ⟨W0, hW0⟩ : ∃ W0 : World, W0 = ((w.alloc (.cells #[.int .i64 s1, .int .i64 s2, .int .i64 s3, .int .i64 s4, .int .i64 s5, .int .i64 s6, .int .i64 s7] 42)).alloc (.cells #[.int .i64 r1, .int .i64 r2, .int .i64 r3, .int .i64 r4, .int .i64 r5, .int .i64 r6, .int .i64 r7] 42)).alloc (.cells #[.int .i64 0, .int .i64 0, .int .i64 0, .int .i64 0, .int .i64 0, .int .i64 0, .int .i64 0] 42) := ⟨_, rfl⟩
  have HB := Aside0.mk (show Below w.heap.size w W0 from by rw [hW0]; exact below_alloc (below_alloc (below_alloc (Below.refl w.heap.size w) _) _) _)
  have B2 := Aside0.mk (show W0.heap[g]? = some (.cells #[.int .i64 s1, .int .i64 s2, .int .i64 s3, .int .i64 s4, .int .i64 s5, .int .i64 s6, .int .i64 s7] 42 (0, 0)) from by rw [hW0, hgq]; exact blk_alloc (blk_alloc (blk_new _ _) _) _)
  have B3 := Aside0.mk (show W0.heap[g + 1]? = some (.cells #[.int .i64 r1, .int .i64 r2, .int .i64 r3, .int .i64 r4, .int .i64 r5, .int .i64 r6, .int .i64 r7] 42 (0, 0)) from by rw [hW0, hgq]; have := blk_alloc (blk_new (w.alloc (.cells #[.int .i64 s1, .int .i64 s2, .int .i64 s3, .int .i64 s4, .int .i64 s5, .int .i64 s6, .int .i64 s7] 42)) (.cells #[.int .i64 r1, .int .i64 r2, .int .i64 r3, .int .i64 r4, .int .i64 r5, .int .i64 r6, .int .i64 r7] 42)) (.cells #[.int .i64 0, .int .i64 0, .int .i64 0, .int .i64 0, .int .i64 0, .int .i64 0, .int .i64 0] 42); simpa using this)
  have B4 := Aside0.mk (show W0.heap[g + 1 + 1]? = some (.cells #[.int .i64 0, .int .i64 0, .int .i64 0, .int .i64 0, .int .i64 0, .int .i64 0, .int .i64 0] 42 (0, 0)) from by rw [hW0, hgq]; have := blk_new ((w.alloc (.cells #[.int .i64 s1, .int .i64 s2, .int .i64 s3, .int .i64 s4, .int .i64 s5, .int .i64 s6, .int .i64 s7] 42)).alloc (.cells #[.int .i64 r1, .int .i64 r2, .int .i64 r3, .int .i64 r4, .int .i64 r5, .int .i64 r6, .int .i64 r7] 42)) (.cells #[.int .i64 0, .int .i64 0, .int .i64 0, .int .i64 0, .int .i64 0, .int .i64 0, .int .i64 0] 42); simpa using this)
  have HW := Aside0.mk hW0
  clear hgq hW0
  go_enter Try.func18, Try.ntmps18
  go_upto_region 1 with (fail)
  (try rw [← HQ.out])
  rw [← HW.out]
  have xa0 : W0.cell? ⟨g, 0, none⟩ = some (.int .i64 s1) := (blk_cell B2.out 0).trans rfl
  have xa1 : W0.cell? ⟨g, 1, none⟩ = some (.int .i64 s2) := (blk_cell B2.out 1).trans rfl
  have xa2 : W0.cell? ⟨g, 2, none⟩ = some (.int .i64 s3) := (blk_cell B2.out 2).trans rfl
  have xa3 : W0.cell? ⟨g, 3, none⟩ = some (.int .i64 s4) := (blk_cell B2.out 3).trans rfl
  have xa4 : W0.cell? ⟨g, 4, none⟩ = some (.int .i64 s5) := (blk_cell B2.out 4).trans rfl
  have xa5 : W0.cell? ⟨g, 5, none⟩ = some (.int .i64 s6) := (blk_cell B2.out 5).trans rfl
  have xa6 : W0.cell? ⟨g, 6, none⟩ = some (.int .i64 s7) := (blk_cell B2.out 6).trans rfl
  have xb0 : W0.cell? ⟨g + 1, 0, none⟩ = some (.int .i64 r1) := (blk_cell B3.out 0).trans rfl
  have xb1 : W0.cell? ⟨g + 1, 1, none⟩ = some (.int .i64 r2) := (blk_cell B3.out 1).trans rfl
  have xb2 : W0.cell? ⟨g + 1, 2, none⟩ = some (.int .i64 r3) := (blk_cell B3.out 2).trans rfl
  have xb3 : W0.cell? ⟨g + 1, 3, none⟩ = some (.int .i64 r4) := (blk_cell B3.out 3).trans rfl
  have xb4 : W0.cell? ⟨g + 1, 4, none⟩ = some (.int .i64 r5) := (blk_cell B3.out 4).trans rfl
  have xb5 : W0.cell? ⟨g + 1, 5, none⟩ = some (.int .i64 r6) := (blk_cell B3.out 5).trans rfl
  have xb6 : W0.cell? ⟨g + 1, 6, none⟩ = some (.int .i64 r7) := (blk_cell B3.out 6).trans rfl
  have hk := HK.out
  have hp := HE.out
  go_wp2_with (first
    | (go_at_call 38; (with_reducible refine (meanderref02_May.calls s1 s2 s3 s4 s5 s6 s7 true _ MS.out).mono ?_); rintro e w1 ⟨rfl, hb⟩; have HB1 := Aside0.mk (below_step HB.out hb); have C2 := Aside0.mk (blk_below B2.out hb); have C3 := Aside0.mk (blk_below B3.out hb); have C4 := Aside0.mk (blk_below B4.out hb); clear hb; have ya0 : w1.cell? ⟨g, 0, none⟩ = some (.int .i64 s1) := (blk_cell C2.out 0).trans rfl; have ya1 : w1.cell? ⟨g, 1, none⟩ = some (.int .i64 s2) := (blk_cell C2.out 1).trans rfl; have ya2 : w1.cell? ⟨g, 2, none⟩ = some (.int .i64 s3) := (blk_cell C2.out 2).trans rfl; have ya3 : w1.cell? ⟨g, 3, none⟩ = some (.int .i64 s4) := (blk_cell C2.out 3).trans rfl; have ya4 : w1.cell? ⟨g, 4, none⟩ = some (.int .i64 s5) := (blk_cell C2.out 4).trans rfl; have ya5 : w1.cell? ⟨g, 5, none⟩ = some (.int .i64 s6) := (blk_cell C2.out 5).trans rfl; have ya6 : w1.cell? ⟨g, 6, none⟩ = some (.int .i64 s7) := (blk_cell C2.out 6).trans rfl; have yb0 : w1.cell? ⟨g + 1, 0, none⟩ = some (.int .i64 r1) := (blk_cell C3.out 0).trans rfl; have yb1 : w1.cell? ⟨g + 1, 1, none⟩ = some (.int .i64 r2) := (blk_cell C3.out 1).trans rfl; have yb2 : w1.cell? ⟨g + 1, 2, none⟩ = some (.int .i64 r3) := (blk_cell C3.out 2).trans rfl; have yb3 : w1.cell? ⟨g + 1, 3, none⟩ = some (.int .i64 r4) := (blk_cell C3.out 3).trans rfl; have yb4 : w1.cell? ⟨g + 1, 4, none⟩ = some (.int .i64 r5) := (blk_cell C3.out 4).trans rfl; have yb5 : w1.cell? ⟨g + 1, 5, none⟩ = some (.int .i64 r6) := (blk_cell C3.out 5).trans rfl; have yb6 : w1.cell? ⟨g + 1, 6, none⟩ = some (.int .i64 r7) := (blk_cell C3.out 6).trans rfl)
    | (go_at_call 38; (with_reducible refine (meanderref02_May.calls r1 r2 r3 r4 r5 r6 r7 true _ MR.out).mono ?_); rintro e w2 ⟨rfl, hb⟩; have HB2 := Aside0.mk (below_step HB1.out hb); have D2 := Aside0.mk (blk_below C2.out hb); have D3 := Aside0.mk (blk_below C3.out hb); have D4 := Aside0.mk (blk_below C4.out hb); clear hb; have za0 : w2.cell? ⟨g, 0, none⟩ = some (.int .i64 s1) := (blk_cell D2.out 0).trans rfl; have za1 : w2.cell? ⟨g, 1, none⟩ = some (.int .i64 s2) := (blk_cell D2.out 1).trans rfl; have za2 : w2.cell? ⟨g, 2, none⟩ = some (.int .i64 s3) := (blk_cell D2.out 2).trans rfl; have za3 : w2.cell? ⟨g, 3, none⟩ = some (.int .i64 s4) := (blk_cell D2.out 3).trans rfl; have za4 : w2.cell? ⟨g, 4, none⟩ = some (.int .i64 s5) := (blk_cell D2.out 4).trans rfl; have za5 : w2.cell? ⟨g, 5, none⟩ = some (.int .i64 s6) := (blk_cell D2.out 5).trans rfl; have za6 : w2.cell? ⟨g, 6, none⟩ = some (.int .i64 s7) := (blk_cell D2.out 6).trans rfl; have zb0 : w2.cell? ⟨g + 1, 0, none⟩ = some (.int .i64 r1) := (blk_cell D3.out 0).trans rfl; have zb1 : w2.cell? ⟨g + 1, 1, none⟩ = some (.int .i64 r2) := (blk_cell D3.out 1).trans rfl; have zb2 : w2.cell? ⟨g + 1, 2, none⟩ = some (.int .i64 r3) := (blk_cell D3.out 2).trans rfl; have zb3 : w2.cell? ⟨g + 1, 3, none⟩ = some (.int .i64 r4) := (blk_cell D3.out 3).trans rfl; have zb4 : w2.cell? ⟨g + 1, 4, none⟩ = some (.int .i64 r5) := (blk_cell D3.out 4).trans rfl; have zb5 : w2.cell? ⟨g + 1, 5, none⟩ = some (.int .i64 r6) := (blk_cell D3.out 5).trans rfl; have zb6 : w2.cell? ⟨g + 1, 6, none⟩ = some (.int .i64 r7) := (blk_cell D3.out 6).trans rfl))
  obtain ⟨p, hpq⟩ : ∃ p : Nat, p = w2.heap.size := ⟨_, rfl⟩
  have lt2 : g < p := by rw [hpq]; exact blk_lt D2.out
  have lt3 : g + 1 < p := by rw [hpq]; exact blk_lt D3.out
  have lt4 : g + 1 + 1 < p := by rw [hpq]; exact blk_lt D4.out
  have LT := Aside0.mk (And.intro lt2 (And.intro lt3 lt4))
  have GW := Aside0.mk (show w.heap.size ≤ g from by rw [HQ.out]; exact Nat.le_refl _)
  have GP := Aside0.mk (show w.heap.size ≤ p from by have := GW.out; omega)
  have E2 := Aside0.mk (blk_alloc D2.out (.cells #[.int .i64 s1, .int .i64 r2, .int .i64 kp, .int .i64 ep, .int .i64 0, .int .i64 0, .int .i64 0] 42))
  have E3 := Aside0.mk (blk_alloc D3.out (.cells #[.int .i64 s1, .int .i64 r2, .int .i64 kp, .int .i64 ep, .int .i64 0, .int .i64 0, .int .i64 0] 42))
  have E4 := Aside0.mk (blk_alloc D4.out (.cells #[.int .i64 s1, .int .i64 r2, .int .i64 kp, .int .i64 ep, .int .i64 0, .int .i64 0, .int .i64 0] 42))
  have EP := Aside0.mk (show (w2.alloc (.cells #[.int .i64 s1, .int .i64 r2, .int .i64 kp, .int .i64 ep, .int .i64 0, .int .i64 0, .int .i64 0] 42)).heap[p]? = some (.cells #[.int .i64 s1, .int .i64 r2, .int .i64 kp, .int .i64 ep, .int .i64 0, .int .i64 0, .int .i64 0] 42 (0, 0)) from by rw [hpq]; exact blk_new _ _)
  have HPQ := Aside0.mk hpq
  clear hpq lt2 lt3 lt4 hk hp
  (try rw [← HPQ.out])
  go_loopw [9] (fun v9 w' => ∃ i : Nat, v9 = .int .i64 i ∧ Aside0 (i ≤ 3) ∧ Aside0 (w'.heap[g]? = some (.cells #[.int .i64 s1, .int .i64 s2, .int .i64 s3, .int .i64 s4, .int .i64 s5, .int .i64 s6, .int .i64 s7] 42 (0, 0))) ∧ Aside0 (w'.heap[g + 1]? = some (.cells #[.int .i64 r1, .int .i64 r2, .int .i64 r3, .int .i64 r4, .int .i64 r5, .int .i64 r6, .int .i64 r7] 42 (0, 0))) ∧ Aside0 (w'.heap[g + 1 + 1]? = some (.cells #[.int .i64 0, .int .i64 0, .int .i64 0, .int .i64 0, .int .i64 0, .int .i64 0, .int .i64 0] 42 (0, 0))) ∧ Aside0 (w'.heap[p]? = some (.cells (meanderref02_Then.cs s1 r2 kp ep o0 o1 o2 i) 42 (0, 0))) ∧ Aside0 (Below w.heap.size w w')) (fun v9 _ => 3 - (intOf v9).toNat)
  case atStart => exact ⟨0, rfl, ⟨by omega⟩, E2, E3, E4, EP, ⟨below_alloc HB2.out _⟩⟩
  case round =>
    clear E2 E3 E4 EP HB2 HB1 HB D2 D3 D4 C2 C3 C4 B2 B3 B4 xa0 xb0 za0 zb0 xa1 xb1 za1 zb1 xa2 xb2 za2 zb2 xa3 xb3 za3 zb3 xa4 xb4 za4 zb4 xa5 xb5 za5 zb5 xa6 xb6 za6 zb6
    obtain ⟨i, rfl, HI, E2, E3, E4, EP, HB⟩ := hrel
    have i3 : i = 0 ∨ i = 1 ∨ i = 2 ∨ i = 3 := by have := HI.out; omega
    have M1 := Aside0.mk (show g ≠ p from by have := LT.out; omega)
    have M2 := Aside0.mk (show g + 1 ≠ p from by have := LT.out; omega)
    have M3 := Aside0.mk (show g + 1 + 1 ≠ p from by have := LT.out; omega)
    have n1 : (g = p) = False := eq_false (by have := LT.out; omega)
    have n2 : (g + 1 = p) = False := eq_false (by have := LT.out; omega)
    have n3 : (p = g) = False := eq_false (by have := LT.out; omega)
    have n4 : (p = g + 1) = False := eq_false (by have := LT.out; omega)
    have hb1 : wr.cell? ⟨g + 1, 1, none⟩ = some (.int .i64 r2) := (blk_cell E3.out 1).trans rfl
    have hb2 : wr.cell? ⟨g + 1, 2, none⟩ = some (.int .i64 r3) := (blk_cell E3.out 2).trans rfl
    rcases i3 with rfl | rfl | rfl | rfl
    · have EP' := Aside0.mk (show wr.heap[p]? = some (.cells #[.int .i64 s1, .int .i64 r2, .int .i64 kp, .int .i64 ep, .int .i64 0, .int .i64 0, .int .i64 0] 42 (0, 0)) from EP.out)
      by_cases c : 0 < r2
      · have c1 : decide (0 < r2) = true := decide_eq_true c
        have hbx : wr.cell? ⟨g + 1, 4, none⟩ = some (.int .i64 r5) := (blk_cell E3.out 4).trans rfl
        have hax : wr.cell? ⟨g, 4, none⟩ = some (.int .i64 s5) := (blk_cell E2.out 4).trans rfl
        have hpx : wr.cell? ⟨p, 4, none⟩ = some (.int .i64 0) := (blk_cell EP'.out 4).trans rfl
        have hpf := blk_frozen EP'.out 4
        by_cases d : 0 < r3
        · have d1 : decide (0 < r3) = true := decide_eq_true d
          have ho : o0 = s5 + r5 := by rw [← H0.out, if_pos c, if_pos d]
          have hw64 : IntKind.i64.wrap (s5 + r5) = s5 + r5 := IntWalk.i64_in _ (by omega)
          have hw65 : wrap64 (s5 + r5) = s5 + r5 := by unfold wrap64; omega
          have HO := Aside0.mk ho
          clear c d ho
          go_wp2_with (fail)
          obtain ⟨w5, hw5⟩ : ∃ w5 : World, w5 = wr.setCell ⟨p, 4, none⟩ (.int .i64 r5) := ⟨_, rfl⟩
          rw [← hw5]
          have G2 := Aside0.mk (show w5.heap[g]? = some (.cells #[.int .i64 s1, .int .i64 s2, .int .i64 s3, .int .i64 s4, .int .i64 s5, .int .i64 s6, .int .i64 s7] 42 (0, 0)) from by rw [hw5]; exact blk_far E2.out M1.out _)
          have G3 := Aside0.mk (show w5.heap[g + 1]? = some (.cells #[.int .i64 r1, .int .i64 r2, .int .i64 r3, .int .i64 r4, .int .i64 r5, .int .i64 r6, .int .i64 r7] 42 (0, 0)) from by rw [hw5]; exact blk_far E3.out M2.out _)
          have G4 := Aside0.mk (show w5.heap[g + 1 + 1]? = some (.cells #[.int .i64 0, .int .i64 0, .int .i64 0, .int .i64 0, .int .i64 0, .int .i64 0, .int .i64 0] 42 (0, 0)) from by rw [hw5]; exact blk_far E4.out M3.out _)
          have GQ := Aside0.mk (show w5.heap[p]? = some (.cells #[.int .i64 s1, .int .i64 r2, .int .i64 kp, .int .i64 ep, .int .i64 r5, .int .i64 0, .int .i64 0] 42 (0, 0)) from by rw [hw5]; exact blk_put EP'.out 4 _ rfl)
          have HB5 := Aside0.mk (show Below w.heap.size w w5 from by rw [hw5]; exact below_set HB.out GP.out)
          clear hw5 hbx hax hpx hpf E2 E3 E4 EP EP' HB hb1 hb2
          have hbx : w5.cell? ⟨g + 1, 4, none⟩ = some (.int .i64 r5) := (blk_cell G3.out 4).trans rfl
          have hax : w5.cell? ⟨g, 4, none⟩ = some (.int .i64 s5) := (blk_cell G2.out 4).trans rfl
          have hpx : w5.drew.cell? ⟨p, 4, none⟩ = some (.int .i64 r5) := (blk_cell (blk_drew GQ.out) 4).trans rfl
          have hbx' : w5.drew.cell? ⟨g + 1, 4, none⟩ = some (.int .i64 r5) := (blk_cell (blk_drew G3.out) 4).trans rfl
          have hax' : w5.drew.cell? ⟨g, 4, none⟩ = some (.int .i64 s5) := (blk_cell (blk_drew G2.out) 4).trans rfl
          have hpf := blk_frozen (blk_drew GQ.out) 4
          go_still_tail 12, (by kernel_rfl)
          change wpList _ _ _ _ _ w5.drew
          go_wp2
          go_roundw
          (case rel => exact ⟨1, rfl, ⟨by omega⟩, ⟨by (with_reducible repeat (first | refine blk_drewN ?_ _ | refine blk_drew ?_ | first | refine blk_far ?_ M1.out _ | refine blk_far ?_ M2.out _ | refine blk_far ?_ M3.out _)); exact G2.out⟩, ⟨by (with_reducible repeat (first | refine blk_drewN ?_ _ | refine blk_drew ?_ | first | refine blk_far ?_ M1.out _ | refine blk_far ?_ M2.out _ | refine blk_far ?_ M3.out _)); exact G3.out⟩, ⟨by (with_reducible repeat (first | refine blk_drewN ?_ _ | refine blk_drew ?_ | first | refine blk_far ?_ M1.out _ | refine blk_far ?_ M2.out _ | refine blk_far ?_ M3.out _)); exact G4.out⟩, ⟨by rw [show meanderref02_Then.cs s1 r2 kp ep o0 o1 o2 1 = #[.int .i64 s1, .int .i64 r2, .int .i64 kp, .int .i64 ep, .int .i64 o0, .int .i64 0, .int .i64 0] from rfl, HO.out]; (with_reducible repeat (first | refine blk_drewN ?_ _ | refine blk_drew ?_)); first | exact blk_put GQ.out 4 _ rfl | exact blk_put (blk_put GQ.out 4 _ rfl) 4 _ rfl | (refine blk_put ?_ 4 _ ?_; rotate_left; (with_reducible repeat (first | refine blk_drewN ?_ _ | refine blk_drew ?_)); exact blk_put GQ.out 4 _ rfl; rfl)⟩, ⟨by repeat (first | exact HB5.out | apply pw_below_drewN | apply below_drew1 | (refine below_set ?_ GP.out))⟩⟩)
          (case measure => simp [intOf])
        · have d1 : decide (0 < r3) = false := decide_eq_false d
          have ho : o0 = r5 := by rw [← H0.out, if_pos c, if_neg d]
          have HO := Aside0.mk ho
          clear c d ho
          go_wp2_with (fail)
          go_roundw
          case rel => exact ⟨1, rfl, ⟨by omega⟩, ⟨by (with_reducible repeat (first | refine blk_drewN ?_ _ | refine blk_drew ?_ | first | refine blk_far ?_ M1.out _ | refine blk_far ?_ M2.out _ | refine blk_far ?_ M3.out _)); exact E2.out⟩, ⟨by (with_reducible repeat (first | refine blk_drewN ?_ _ | refine blk_drew ?_ | first | refine blk_far ?_ M1.out _ | refine blk_far ?_ M2.out _ | refine blk_far ?_ M3.out _)); exact E3.out⟩, ⟨by (with_reducible repeat (first | refine blk_drewN ?_ _ | refine blk_drew ?_ | first | refine blk_far ?_ M1.out _ | refine blk_far ?_ M2.out _ | refine blk_far ?_ M3.out _)); exact E4.out⟩, ⟨by rw [show meanderref02_Then.cs s1 r2 kp ep o0 o1 o2 1 = #[.int .i64 s1, .int .i64 r2, .int .i64 kp, .int .i64 ep, .int .i64 o0, .int .i64 0, .int .i64 0] from rfl, HO.out]; (with_reducible repeat (first | refine blk_drewN ?_ _ | refine blk_drew ?_)); first | exact blk_put EP'.out 4 _ rfl | exact blk_put (blk_put EP'.out 4 _ rfl) 4 _ rfl | (refine blk_put ?_ 4 _ ?_; rotate_left; (with_reducible repeat (first | refine blk_drewN ?_ _ | refine blk_drew ?_)); exact blk_put EP'.out 4 _ rfl; rfl)⟩, ⟨by repeat (first | exact HB.out | apply pw_below_drewN | apply below_drew1 | (refine below_set ?_ GP.out))⟩⟩
          case measure => simp [intOf]
      · have c1 : decide (0 < r2) = false := decide_eq_false c
        have hr := HP.out
        have z0 : o0 = 0 := by rw [← H0.out, if_neg (by omega)]
        have z1 : o1 = 0 := by rw [← H1.out, if_neg (by omega)]
        have z2 : o2 = 0 := by rw [← H2.out, if_neg (by omega)]
        clear hr c
        subst z0 z1 z2
        have hp0 : wr.cell? ⟨p, 0, none⟩ = some (.int .i64 s1) := (blk_cell EP'.out 0).trans rfl
        have hp1 : wr.cell? ⟨p, 1, none⟩ = some (.int .i64 r2) := (blk_cell EP'.out 1).trans rfl
        have hp2 : wr.cell? ⟨p, 2, none⟩ = some (.int .i64 kp) := (blk_cell EP'.out 2).trans rfl
        have hp3 : wr.cell? ⟨p, 3, none⟩ = some (.int .i64 ep) := (blk_cell EP'.out 3).trans rfl
        have hp4 : wr.cell? ⟨p, 4, none⟩ = some (.int .i64 0) := (blk_cell EP'.out 4).trans rfl
        have hp5 : wr.cell? ⟨p, 5, none⟩ = some (.int .i64 0) := (blk_cell EP'.out 5).trans rfl
        have hp6 : wr.cell? ⟨p, 6, none⟩ = some (.int .i64 0) := (blk_cell EP'.out 6).trans rfl
        have hz := E4.out
        clear hz
        have hq0 : wr.cell? ⟨g + 1 + 1, 0, none⟩ = some (.int .i64 0) := (blk_cell E4.out 0).trans rfl
        have hq1 : wr.cell? ⟨g + 1 + 1, 1, none⟩ = some (.int .i64 0) := (blk_cell E4.out 1).trans rfl
        have hq2 : wr.cell? ⟨g + 1 + 1, 2, none⟩ = some (.int .i64 0) := (blk_cell E4.out 2).trans rfl
        have hq3 : wr.cell? ⟨g + 1 + 1, 3, none⟩ = some (.int .i64 0) := (blk_cell E4.out 3).trans rfl
        have hq4 : wr.cell? ⟨g + 1 + 1, 4, none⟩ = some (.int .i64 0) := (blk_cell E4.out 4).trans rfl
        have hq5 : wr.cell? ⟨g + 1 + 1, 5, none⟩ = some (.int .i64 0) := (blk_cell E4.out 5).trans rfl
        have hq6 : wr.cell? ⟨g + 1 + 1, 6, none⟩ = some (.int .i64 0) := (blk_cell E4.out 6).trans rfl
        go_wp2_with (first | (go_at_call 38; (with_reducible refine (meanderref02_May.calls s1 r2 kp ep 0 0 0 true _ MO.out).mono ?_); rintro e w3 ⟨rfl, hb⟩; have HB3 := Aside0.mk (below_step HB.out hb); have F4 := Aside0.mk (blk_below E4.out hb); have FP := Aside0.mk (blk_below EP'.out hb); clear hb; have fp0 : w3.cell? ⟨p, 0, none⟩ = some (.int .i64 s1) := (blk_cell FP.out 0).trans rfl; have fz0 : w3.cell? ⟨g + 1 + 1, 0, none⟩ = some (.int .i64 0) := (blk_cell F4.out 0).trans rfl; have ff0 := blk_frozen F4.out 0; have fp1 : w3.cell? ⟨p, 1, none⟩ = some (.int .i64 r2) := (blk_cell FP.out 1).trans rfl; have fz1 : w3.cell? ⟨g + 1 + 1, 1, none⟩ = some (.int .i64 0) := (blk_cell F4.out 1).trans rfl; have ff1 := blk_frozen F4.out 1; have fp2 : w3.cell? ⟨p, 2, none⟩ = some (.int .i64 kp) := (blk_cell FP.out 2).trans rfl; have fz2 : w3.cell? ⟨g + 1 + 1, 2, none⟩ = some (.int .i64 0) := (blk_cell F4.out 2).trans rfl; have ff2 := blk_frozen F4.out 2; have fp3 : w3.cell? ⟨p, 3, none⟩ = some (.int .i64 ep) := (blk_cell FP.out 3).trans rfl; have fz3 : w3.cell? ⟨g + 1 + 1, 3, none⟩ = some (.int .i64 0) := (blk_cell F4.out 3).trans rfl; have ff3 := blk_frozen F4.out 3; have fp4 : w3.cell? ⟨p, 4, none⟩ = some (.int .i64 0) := (blk_cell FP.out 4).trans rfl; have fz4 : w3.cell? ⟨g + 1 + 1, 4, none⟩ = some (.int .i64 0) := (blk_cell F4.out 4).trans rfl; have ff4 := blk_frozen F4.out 4; have fp5 : w3.cell? ⟨p, 5, none⟩ = some (.int .i64 0) := (blk_cell FP.out 5).trans rfl; have fz5 : w3.cell? ⟨g + 1 + 1, 5, none⟩ = some (.int .i64 0) := (blk_cell F4.out 5).trans rfl; have ff5 := blk_frozen F4.out 5; have fp6 : w3.cell? ⟨p, 6, none⟩ = some (.int .i64 0) := (blk_cell FP.out 6).trans rfl; have fz6 : w3.cell? ⟨g + 1 + 1, 6, none⟩ = some (.int .i64 0) := (blk_cell F4.out 6).trans rfl; have ff6 := blk_frozen F4.out 6))
        obtain ⟨w9, hw9⟩ : ∃ w9 : World, w9 = (World.setCell (World.setCell (World.setCell (World.setCell (World.setCell (World.setCell (World.setCell w3 ⟨g + 1 + 1, 0, none⟩ (.int .i64 s1)) ⟨g + 1 + 1, 1, none⟩ (.int .i64 r2)) ⟨g + 1 + 1, 2, none⟩ (.int .i64 kp)) ⟨g + 1 + 1, 3, none⟩ (.int .i64 ep)) ⟨g + 1 + 1, 4, none⟩ (.int .i64 0)) ⟨g + 1 + 1, 5, none⟩ (.int .i64 0)) ⟨g + 1 + 1, 6, none⟩ (.int .i64 0)) := ⟨_, rfl⟩
        rw [← hw9]
        have hge : w.heap.size ≤ g + 1 + 1 := by have := GW.out; omega
        have R9 : w9.heap[g + 1 + 1]? = some (.cells #[.int .i64 s1, .int .i64 r2, .int .i64 kp, .int .i64 ep, .int .i64 0, .int .i64 0, .int .i64 0] 42 (0, 0)) := by rw [hw9]; refine blk_put (cs := #[.int .i64 s1, .int .i64 r2, .int .i64 kp, .int .i64 ep, .int .i64 0, .int .i64 0, .int .i64 0]) ?_ 6 _ rfl; refine blk_put (cs := #[.int .i64 s1, .int .i64 r2, .int .i64 kp, .int .i64 ep, .int .i64 0, .int .i64 0, .int .i64 0]) ?_ 5 _ rfl; refine blk_put (cs := #[.int .i64 s1, .int .i64 r2, .int .i64 kp, .int .i64 ep, .int .i64 0, .int .i64 0, .int .i64 0]) ?_ 4 _ rfl; refine blk_put (cs := #[.int .i64 s1, .int .i64 r2, .int .i64 kp, .int .i64 0, .int .i64 0, .int .i64 0, .int .i64 0]) ?_ 3 _ rfl; refine blk_put (cs := #[.int .i64 s1, .int .i64 r2, .int .i64 0, .int .i64 0, .int .i64 0, .int .i64 0, .int .i64 0]) ?_ 2 _ rfl; refine blk_put (cs := #[.int .i64 s1, .int .i64 0, .int .i64 0, .int .i64 0, .int .i64 0, .int .i64 0, .int .i64 0]) ?_ 1 _ rfl; refine blk_put (cs := #[.int .i64 0, .int .i64 0, .int .i64 0, .int .i64 0, .int .i64 0, .int .i64 0, .int .i64 0]) ?_ 0 _ rfl; exact F4.out
        have B9 : Below w.heap.size w w9 := by rw [hw9]; exact below_set (below_set (below_set (below_set (below_set (below_set (below_set HB3.out hge) hge) hge) hge) hge) hge) hge
        clear hw9 hge fp0 fz0 ff0 fp1 fz1 ff1 fp2 fz2 ff2 fp3 fz3 ff3 fp4 fz4 ff4 fp5 fz5 ff5 fp6 fz6 ff6
        exact bodyPost_ret (results_ct rfl _ _ (g + 1 + 1) 42 #[.int .i64 s1, .int .i64 r2, .int .i64 kp, .int .i64 ep, .int .i64 0, .int .i64 0, .int .i64 0] (0, 0) _ rfl R9 hu1 rfl (by kernel_rfl)) rfl ⟨rfl, B9⟩
    · have EP' := Aside0.mk (show wr.heap[p]? = some (.cells #[.int .i64 s1, .int .i64 r2, .int .i64 kp, .int .i64 ep, .int .i64 o0, .int .i64 0, .int .i64 0] 42 (0, 0)) from EP.out)
      by_cases c : 1 < r2
      · have c1 : decide (1 < r2) = true := decide_eq_true c
        have hbx : wr.cell? ⟨g + 1, 5, none⟩ = some (.int .i64 r6) := (blk_cell E3.out 5).trans rfl
        have hax : wr.cell? ⟨g, 5, none⟩ = some (.int .i64 s6) := (blk_cell E2.out 5).trans rfl
        have hpx : wr.cell? ⟨p, 5, none⟩ = some (.int .i64 0) := (blk_cell EP'.out 5).trans rfl
        have hpf := blk_frozen EP'.out 5
        by_cases d : 1 < r3
        · have d1 : decide (1 < r3) = true := decide_eq_true d
          have ho : o1 = s6 + r6 := by rw [← H1.out, if_pos c, if_pos d]
          have hw64 : IntKind.i64.wrap (s6 + r6) = s6 + r6 := IntWalk.i64_in _ (by omega)
          have hw65 : wrap64 (s6 + r6) = s6 + r6 := by unfold wrap64; omega
          have HO := Aside0.mk ho
          clear c d ho
          go_wp2_with (fail)
          obtain ⟨w5, hw5⟩ : ∃ w5 : World, w5 = wr.setCell ⟨p, 5, none⟩ (.int .i64 r6) := ⟨_, rfl⟩
          rw [← hw5]
          have G2 := Aside0.mk (show w5.heap[g]? = some (.cells #[.int .i64 s1, .int .i64 s2, .int .i64 s3, .int .i64 s4, .int .i64 s5, .int .i64 s6, .int .i64 s7] 42 (0, 0)) from by rw [hw5]; exact blk_far E2.out M1.out _)
          have G3 := Aside0.mk (show w5.heap[g + 1]? = some (.cells #[.int .i64 r1, .int .i64 r2, .int .i64 r3, .int .i64 r4, .int .i64 r5, .int .i64 r6, .int .i64 r7] 42 (0, 0)) from by rw [hw5]; exact blk_far E3.out M2.out _)
          have G4 := Aside0.mk (show w5.heap[g + 1 + 1]? = some (.cells #[.int .i64 0, .int .i64 0, .int .i64 0, .int .i64 0, .int .i64 0, .int .i64 0, .int .i64 0] 42 (0, 0)) from by rw [hw5]; exact blk_far E4.out M3.out _)
          have GQ := Aside0.mk (show w5.heap[p]? = some (.cells #[.int .i64 s1, .int .i64 r2, .int .i64 kp, .int .i64 ep, .int .i64 o0, .int .i64 r6, .int .i64 0] 42 (0, 0)) from by rw [hw5]; exact blk_put EP'.out 5 _ rfl)
          have HB5 := Aside0.mk (show Below w.heap.size w w5 from by rw [hw5]; exact below_set HB.out GP.out)
          clear hw5 hbx hax hpx hpf E2 E3 E4 EP EP' HB hb1 hb2
          have hbx : w5.cell? ⟨g + 1, 5, none⟩ = some (.int .i64 r6) := (blk_cell G3.out 5).trans rfl
          have hax : w5.cell? ⟨g, 5, none⟩ = some (.int .i64 s6) := (blk_cell G2.out 5).trans rfl
          have hpx : w5.drew.cell? ⟨p, 5, none⟩ = some (.int .i64 r6) := (blk_cell (blk_drew GQ.out) 5).trans rfl
          have hbx' : w5.drew.cell? ⟨g + 1, 5, none⟩ = some (.int .i64 r6) := (blk_cell (blk_drew G3.out) 5).trans rfl
          have hax' : w5.drew.cell? ⟨g, 5, none⟩ = some (.int .i64 s6) := (blk_cell (blk_drew G2.out) 5).trans rfl
          have hpf := blk_frozen (blk_drew GQ.out) 5
          go_still_tail 12, (by kernel_rfl)
          change wpList _ _ _ _ _ w5.drew
          go_wp2
          go_roundw
          (case rel => exact ⟨2, rfl, ⟨by omega⟩, ⟨by (with_reducible repeat (first | refine blk_drewN ?_ _ | refine blk_drew ?_ | first | refine blk_far ?_ M1.out _ | refine blk_far ?_ M2.out _ | refine blk_far ?_ M3.out _)); exact G2.out⟩, ⟨by (with_reducible repeat (first | refine blk_drewN ?_ _ | refine blk_drew ?_ | first | refine blk_far ?_ M1.out _ | refine blk_far ?_ M2.out _ | refine blk_far ?_ M3.out _)); exact G3.out⟩, ⟨by (with_reducible repeat (first | refine blk_drewN ?_ _ | refine blk_drew ?_ | first | refine blk_far ?_ M1.out _ | refine blk_far ?_ M2.out _ | refine blk_far ?_ M3.out _)); exact G4.out⟩, ⟨by rw [show meanderref02_Then.cs s1 r2 kp ep o0 o1 o2 2 = #[.int .i64 s1, .int .i64 r2, .int .i64 kp, .int .i64 ep, .int .i64 o0, .int .i64 o1, .int .i64 0] from rfl, HO.out]; (with_reducible repeat (first | refine blk_drewN ?_ _ | refine blk_drew ?_)); first | exact blk_put GQ.out 5 _ rfl | exact blk_put (blk_put GQ.out 5 _ rfl) 5 _ rfl | (refine blk_put ?_ 5 _ ?_; rotate_left; (with_reducible repeat (first | refine blk_drewN ?_ _ | refine blk_drew ?_)); exact blk_put GQ.out 5 _ rfl; rfl)⟩, ⟨by repeat (first | exact HB5.out | apply pw_below_drewN | apply below_drew1 | (refine below_set ?_ GP.out))⟩⟩)
          (case measure => simp [intOf])
        · have d1 : decide (1 < r3) = false := decide_eq_false d
          have ho : o1 = r6 := by rw [← H1.out, if_pos c, if_neg d]
          have HO := Aside0.mk ho
          clear c d ho
          go_wp2_with (fail)
          go_roundw
          case rel => exact ⟨2, rfl, ⟨by omega⟩, ⟨by (with_reducible repeat (first | refine blk_drewN ?_ _ | refine blk_drew ?_ | first | refine blk_far ?_ M1.out _ | refine blk_far ?_ M2.out _ | refine blk_far ?_ M3.out _)); exact E2.out⟩, ⟨by (with_reducible repeat (first | refine blk_drewN ?_ _ | refine blk_drew ?_ | first | refine blk_far ?_ M1.out _ | refine blk_far ?_ M2.out _ | refine blk_far ?_ M3.out _)); exact E3.out⟩, ⟨by (with_reducible repeat (first | refine blk_drewN ?_ _ | refine blk_drew ?_ | first | refine blk_far ?_ M1.out _ | refine blk_far ?_ M2.out _ | refine blk_far ?_ M3.out _)); exact E4.out⟩, ⟨by rw [show meanderref02_Then.cs s1 r2 kp ep o0 o1 o2 2 = #[.int .i64 s1, .int .i64 r2, .int .i64 kp, .int .i64 ep, .int .i64 o0, .int .i64 o1, .int .i64 0] from rfl, HO.out]; (with_reducible repeat (first | refine blk_drewN ?_ _ | refine blk_drew ?_)); first | exact blk_put EP'.out 5 _ rfl | exact blk_put (blk_put EP'.out 5 _ rfl) 5 _ rfl | (refine blk_put ?_ 5 _ ?_; rotate_left; (with_reducible repeat (first | refine blk_drewN ?_ _ | refine blk_drew ?_)); exact blk_put EP'.out 5 _ rfl; rfl)⟩, ⟨by repeat (first | exact HB.out | apply pw_below_drewN | apply below_drew1 | (refine below_set ?_ GP.out))⟩⟩
          case measure => simp [intOf]
      · have c1 : decide (1 < r2) = false := decide_eq_false c
        have hr := HP.out
        have z1 : o1 = 0 := by rw [← H1.out, if_neg (by omega)]
        have z2 : o2 = 0 := by rw [← H2.out, if_neg (by omega)]
        clear hr c
        subst z1 z2
        have hp0 : wr.cell? ⟨p, 0, none⟩ = some (.int .i64 s1) := (blk_cell EP'.out 0).trans rfl
        have hp1 : wr.cell? ⟨p, 1, none⟩ = some (.int .i64 r2) := (blk_cell EP'.out 1).trans rfl
        have hp2 : wr.cell? ⟨p, 2, none⟩ = some (.int .i64 kp) := (blk_cell EP'.out 2).trans rfl
        have hp3 : wr.cell? ⟨p, 3, none⟩ = some (.int .i64 ep) := (blk_cell EP'.out 3).trans rfl
        have hp4 : wr.cell? ⟨p, 4, none⟩ = some (.int .i64 o0) := (blk_cell EP'.out 4).trans rfl
        have hp5 : wr.cell? ⟨p, 5, none⟩ = some (.int .i64 0) := (blk_cell EP'.out 5).trans rfl
        have hp6 : wr.cell? ⟨p, 6, none⟩ = some (.int .i64 0) := (blk_cell EP'.out 6).trans rfl
        have hz := E4.out
        clear hz
        have hq0 : wr.cell? ⟨g + 1 + 1, 0, none⟩ = some (.int .i64 0) := (blk_cell E4.out 0).trans rfl
        have hq1 : wr.cell? ⟨g + 1 + 1, 1, none⟩ = some (.int .i64 0) := (blk_cell E4.out 1).trans rfl
        have hq2 : wr.cell? ⟨g + 1 + 1, 2, none⟩ = some (.int .i64 0) := (blk_cell E4.out 2).trans rfl
        have hq3 : wr.cell? ⟨g + 1 + 1, 3, none⟩ = some (.int .i64 0) := (blk_cell E4.out 3).trans rfl
        have hq4 : wr.cell? ⟨g + 1 + 1, 4, none⟩ = some (.int .i64 0) := (blk_cell E4.out 4).trans rfl
        have hq5 : wr.cell? ⟨g + 1 + 1, 5, none⟩ = some (.int .i64 0) := (blk_cell E4.out 5).trans rfl
        have hq6 : wr.cell? ⟨g + 1 + 1, 6, none⟩ = some (.int .i64 0) := (blk_cell E4.out 6).trans rfl
        go_wp2_with (first | (go_at_call 38; (with_reducible refine (meanderref02_May.calls s1 r2 kp ep o0 0 0 true _ MO.out).mono ?_); rintro e w3 ⟨rfl, hb⟩; have HB3 := Aside0.mk (below_step HB.out hb); have F4 := Aside0.mk (blk_below E4.out hb); have FP := Aside0.mk (blk_below EP'.out hb); clear hb; have fp0 : w3.cell? ⟨p, 0, none⟩ = some (.int .i64 s1) := (blk_cell FP.out 0).trans rfl; have fz0 : w3.cell? ⟨g + 1 + 1, 0, none⟩ = some (.int .i64 0) := (blk_cell F4.out 0).trans rfl; have ff0 := blk_frozen F4.out 0; have fp1 : w3.cell? ⟨p, 1, none⟩ = some (.int .i64 r2) := (blk_cell FP.out 1).trans rfl; have fz1 : w3.cell? ⟨g + 1 + 1, 1, none⟩ = some (.int .i64 0) := (blk_cell F4.out 1).trans rfl; have ff1 := blk_frozen F4.out 1; have fp2 : w3.cell? ⟨p, 2, none⟩ = some (.int .i64 kp) := (blk_cell FP.out 2).trans rfl; have fz2 : w3.cell? ⟨g + 1 + 1, 2, none⟩ = some (.int .i64 0) := (blk_cell F4.out 2).trans rfl; have ff2 := blk_frozen F4.out 2; have fp3 : w3.cell? ⟨p, 3, none⟩ = some (.int .i64 ep) := (blk_cell FP.out 3).trans rfl; have fz3 : w3.cell? ⟨g + 1 + 1, 3, none⟩ = some (.int .i64 0) := (blk_cell F4.out 3).trans rfl; have ff3 := blk_frozen F4.out 3; have fp4 : w3.cell? ⟨p, 4, none⟩ = some (.int .i64 o0) := (blk_cell FP.out 4).trans rfl; have fz4 : w3.cell? ⟨g + 1 + 1, 4, none⟩ = some (.int .i64 0) := (blk_cell F4.out 4).trans rfl; have ff4 := blk_frozen F4.out 4; have fp5 : w3.cell? ⟨p, 5, none⟩ = some (.int .i64 0) := (blk_cell FP.out 5).trans rfl; have fz5 : w3.cell? ⟨g + 1 + 1, 5, none⟩ = some (.int .i64 0) := (blk_cell F4.out 5).trans rfl; have ff5 := blk_frozen F4.out 5; have fp6 : w3.cell? ⟨p, 6, none⟩ = some (.int .i64 0) := (blk_cell FP.out 6).trans rfl; have fz6 : w3.cell? ⟨g + 1 + 1, 6, none⟩ = some (.int .i64 0) := (blk_cell F4.out 6).trans rfl; have ff6 := blk_frozen F4.out 6))
        obtain ⟨w9, hw9⟩ : ∃ w9 : World, w9 = (World.setCell (World.setCell (World.setCell (World.setCell (World.setCell (World.setCell (World.setCell w3 ⟨g + 1 + 1, 0, none⟩ (.int .i64 s1)) ⟨g + 1 + 1, 1, none⟩ (.int .i64 r2)) ⟨g + 1 + 1, 2, none⟩ (.int .i64 kp)) ⟨g + 1 + 1, 3, none⟩ (.int .i64 ep)) ⟨g + 1 + 1, 4, none⟩ (.int .i64 o0)) ⟨g + 1 + 1, 5, none⟩ (.int .i64 0)) ⟨g + 1 + 1, 6, none⟩ (.int .i64 0)) := ⟨_, rfl⟩
        rw [← hw9]
        have hge : w.heap.size ≤ g + 1 + 1 := by have := GW.out; omega
        have R9 : w9.heap[g + 1 + 1]? = some (.cells #[.int .i64 s1, .int .i64 r2, .int .i64 kp, .int .i64 ep, .int .i64 o0, .int .i64 0, .int .i64 0] 42 (0, 0)) := by rw [hw9]; refine blk_put (cs := #[.int .i64 s1, .int .i64 r2, .int .i64 kp, .int .i64 ep, .int .i64 o0, .int .i64 0, .int .i64 0]) ?_ 6 _ rfl; refine blk_put (cs := #[.int .i64 s1, .int .i64 r2, .int .i64 kp, .int .i64 ep, .int .i64 o0, .int .i64 0, .int .i64 0]) ?_ 5 _ rfl; refine blk_put (cs := #[.int .i64 s1, .int .i64 r2, .int .i64 kp, .int .i64 ep, .int .i64 0, .int .i64 0, .int .i64 0]) ?_ 4 _ rfl; refine blk_put (cs := #[.int .i64 s1, .int .i64 r2, .int .i64 kp, .int .i64 0, .int .i64 0, .int .i64 0, .int .i64 0]) ?_ 3 _ rfl; refine blk_put (cs := #[.int .i64 s1, .int .i64 r2, .int .i64 0, .int .i64 0, .int .i64 0, .int .i64 0, .int .i64 0]) ?_ 2 _ rfl; refine blk_put (cs := #[.int .i64 s1, .int .i64 0, .int .i64 0, .int .i64 0, .int .i64 0, .int .i64 0, .int .i64 0]) ?_ 1 _ rfl; refine blk_put (cs := #[.int .i64 0, .int .i64 0, .int .i64 0, .int .i64 0, .int .i64 0, .int .i64 0, .int .i64 0]) ?_ 0 _ rfl; exact F4.out
        have B9 : Below w.heap.size w w9 := by rw [hw9]; exact below_set (below_set (below_set (below_set (below_set (below_set (below_set HB3.out hge) hge) hge) hge) hge) hge) hge
        clear hw9 hge fp0 fz0 ff0 fp1 fz1 ff1 fp2 fz2 ff2 fp3 fz3 ff3 fp4 fz4 ff4 fp5 fz5 ff5 fp6 fz6 ff6
        exact bodyPost_ret (results_ct rfl _ _ (g + 1 + 1) 42 #[.int .i64 s1, .int .i64 r2, .int .i64 kp, .int .i64 ep, .int .i64 o0, .int .i64 0, .int .i64 0] (0, 0) _ rfl R9 hu1 rfl (by kernel_rfl)) rfl ⟨rfl, B9⟩
    · have EP' := Aside0.mk (show wr.heap[p]? = some (.cells #[.int .i64 s1, .int .i64 r2, .int .i64 kp, .int .i64 ep, .int .i64 o0, .int .i64 o1, .int .i64 0] 42 (0, 0)) from EP.out)
      by_cases c : 2 < r2
      · have c1 : decide (2 < r2) = true := decide_eq_true c
        have hbx : wr.cell? ⟨g + 1, 6, none⟩ = some (.int .i64 r7) := (blk_cell E3.out 6).trans rfl
        have hax : wr.cell? ⟨g, 6, none⟩ = some (.int .i64 s7) := (blk_cell E2.out 6).trans rfl
        have hpx : wr.cell? ⟨p, 6, none⟩ = some (.int .i64 0) := (blk_cell EP'.out 6).trans rfl
        have hpf := blk_frozen EP'.out 6
        by_cases d : 2 < r3
        · have d1 : decide (2 < r3) = true := decide_eq_true d
          have ho : o2 = s7 + r7 := by rw [← H2.out, if_pos c, if_pos d]
          have hw64 : IntKind.i64.wrap (s7 + r7) = s7 + r7 := IntWalk.i64_in _ (by omega)
          have hw65 : wrap64 (s7 + r7) = s7 + r7 := by unfold wrap64; omega
          have HO := Aside0.mk ho
          clear c d ho
          go_wp2_with (fail)
          obtain ⟨w5, hw5⟩ : ∃ w5 : World, w5 = wr.setCell ⟨p, 6, none⟩ (.int .i64 r7) := ⟨_, rfl⟩
          rw [← hw5]
          have G2 := Aside0.mk (show w5.heap[g]? = some (.cells #[.int .i64 s1, .int .i64 s2, .int .i64 s3, .int .i64 s4, .int .i64 s5, .int .i64 s6, .int .i64 s7] 42 (0, 0)) from by rw [hw5]; exact blk_far E2.out M1.out _)
          have G3 := Aside0.mk (show w5.heap[g + 1]? = some (.cells #[.int .i64 r1, .int .i64 r2, .int .i64 r3, .int .i64 r4, .int .i64 r5, .int .i64 r6, .int .i64 r7] 42 (0, 0)) from by rw [hw5]; exact blk_far E3.out M2.out _)
          have G4 := Aside0.mk (show w5.heap[g + 1 + 1]? = some (.cells #[.int .i64 0, .int .i64 0, .int .i64 0, .int .i64 0, .int .i64 0, .int .i64 0, .int .i64 0] 42 (0, 0)) from by rw [hw5]; exact blk_far E4.out M3.out _)
          have GQ := Aside0.mk (show w5.heap[p]? = some (.cells #[.int .i64 s1, .int .i64 r2, .int .i64 kp, .int .i64 ep, .int .i64 o0, .int .i64 o1, .int .i64 r7] 42 (0, 0)) from by rw [hw5]; exact blk_put EP'.out 6 _ rfl)
          have HB5 := Aside0.mk (show Below w.heap.size w w5 from by rw [hw5]; exact below_set HB.out GP.out)
          clear hw5 hbx hax hpx hpf E2 E3 E4 EP EP' HB hb1 hb2
          have hbx : w5.cell? ⟨g + 1, 6, none⟩ = some (.int .i64 r7) := (blk_cell G3.out 6).trans rfl
          have hax : w5.cell? ⟨g, 6, none⟩ = some (.int .i64 s7) := (blk_cell G2.out 6).trans rfl
          have hpx : w5.drew.cell? ⟨p, 6, none⟩ = some (.int .i64 r7) := (blk_cell (blk_drew GQ.out) 6).trans rfl
          have hbx' : w5.drew.cell? ⟨g + 1, 6, none⟩ = some (.int .i64 r7) := (blk_cell (blk_drew G3.out) 6).trans rfl
          have hax' : w5.drew.cell? ⟨g, 6, none⟩ = some (.int .i64 s7) := (blk_cell (blk_drew G2.out) 6).trans rfl
          have hpf := blk_frozen (blk_drew GQ.out) 6
          go_still_tail 12, (by kernel_rfl)
          change wpList _ _ _ _ _ w5.drew
          go_wp2
          go_roundw
          (case rel => exact ⟨3, rfl, ⟨by omega⟩, ⟨by (with_reducible repeat (first | refine blk_drewN ?_ _ | refine blk_drew ?_ | first | refine blk_far ?_ M1.out _ | refine blk_far ?_ M2.out _ | refine blk_far ?_ M3.out _)); exact G2.out⟩, ⟨by (with_reducible repeat (first | refine blk_drewN ?_ _ | refine blk_drew ?_ | first | refine blk_far ?_ M1.out _ | refine blk_far ?_ M2.out _ | refine blk_far ?_ M3.out _)); exact G3.out⟩, ⟨by (with_reducible repeat (first | refine blk_drewN ?_ _ | refine blk_drew ?_ | first | refine blk_far ?_ M1.out _ | refine blk_far ?_ M2.out _ | refine blk_far ?_ M3.out _)); exact G4.out⟩, ⟨by rw [show meanderref02_Then.cs s1 r2 kp ep o0 o1 o2 3 = #[.int .i64 s1, .int .i64 r2, .int .i64 kp, .int .i64 ep, .int .i64 o0, .int .i64 o1, .int .i64 o2] from rfl, HO.out]; (with_reducible repeat (first | refine blk_drewN ?_ _ | refine blk_drew ?_)); first | exact blk_put GQ.out 6 _ rfl | exact blk_put (blk_put GQ.out 6 _ rfl) 6 _ rfl | (refine blk_put ?_ 6 _ ?_; rotate_left; (with_reducible repeat (first | refine blk_drewN ?_ _ | refine blk_drew ?_)); exact blk_put GQ.out 6 _ rfl; rfl)⟩, ⟨by repeat (first | exact HB5.out | apply pw_below_drewN | apply below_drew1 | (refine below_set ?_ GP.out))⟩⟩)
          (case measure => simp [intOf])
        · have d1 : decide (2 < r3) = false := decide_eq_false d
          have ho : o2 = r7 := by rw [← H2.out, if_pos c, if_neg d]
          have HO := Aside0.mk ho
          clear c d ho
          go_wp2_with (fail)
          go_roundw
          case rel => exact ⟨3, rfl, ⟨by omega⟩, ⟨by (with_reducible repeat (first | refine blk_drewN ?_ _ | refine blk_drew ?_ | first | refine blk_far ?_ M1.out _ | refine blk_far ?_ M2.out _ | refine blk_far ?_ M3.out _)); exact E2.out⟩, ⟨by (with_reducible repeat (first | refine blk_drewN ?_ _ | refine blk_drew ?_ | first | refine blk_far ?_ M1.out _ | refine blk_far ?_ M2.out _ | refine blk_far ?_ M3.out _)); exact E3.out⟩, ⟨by (with_reducible repeat (first | refine blk_drewN ?_ _ | refine blk_drew ?_ | first | refine blk_far ?_ M1.out _ | refine blk_far ?_ M2.out _ | refine blk_far ?_ M3.out _)); exact E4.out⟩, ⟨by rw [show meanderref02_Then.cs s1 r2 kp ep o0 o1 o2 3 = #[.int .i64 s1, .int .i64 r2, .int .i64 kp, .int .i64 ep, .int .i64 o0, .int .i64 o1, .int .i64 o2] from rfl, HO.out]; (with_reducible repeat (first | refine blk_drewN ?_ _ | refine blk_drew ?_)); first | exact blk_put EP'.out 6 _ rfl | exact blk_put (blk_put EP'.out 6 _ rfl) 6 _ rfl | (refine blk_put ?_ 6 _ ?_; rotate_left; (with_reducible repeat (first | refine blk_drewN ?_ _ | refine blk_drew ?_)); exact blk_put EP'.out 6 _ rfl; rfl)⟩, ⟨by repeat (first | exact HB.out | apply pw_below_drewN | apply below_drew1 | (refine below_set ?_ GP.out))⟩⟩
          case measure => simp [intOf]
      · have c1 : decide (2 < r2) = false := decide_eq_false c
        have hr := HP.out
        have z2 : o2 = 0 := by rw [← H2.out, if_neg (by omega)]
        clear hr c
        subst z2
        have hp0 : wr.cell? ⟨p, 0, none⟩ = some (.int .i64 s1) := (blk_cell EP'.out 0).trans rfl
        have hp1 : wr.cell? ⟨p, 1, none⟩ = some (.int .i64 r2) := (blk_cell EP'.out 1).trans rfl
        have hp2 : wr.cell? ⟨p, 2, none⟩ = some (.int .i64 kp) := (blk_cell EP'.out 2).trans rfl
        have hp3 : wr.cell? ⟨p, 3, none⟩ = some (.int .i64 ep) := (blk_cell EP'.out 3).trans rfl
        have hp4 : wr.cell? ⟨p, 4, none⟩ = some (.int .i64 o0) := (blk_cell EP'.out 4).trans rfl
        have hp5 : wr.cell? ⟨p, 5, none⟩ = some (.int .i64 o1) := (blk_cell EP'.out 5).trans rfl
        have hp6 : wr.cell? ⟨p, 6, none⟩ = some (.int .i64 0) := (blk_cell EP'.out 6).trans rfl
        have hz := E4.out
        clear hz
        have hq0 : wr.cell? ⟨g + 1 + 1, 0, none⟩ = some (.int .i64 0) := (blk_cell E4.out 0).trans rfl
        have hq1 : wr.cell? ⟨g + 1 + 1, 1, none⟩ = some (.int .i64 0) := (blk_cell E4.out 1).trans rfl
        have hq2 : wr.cell? ⟨g + 1 + 1, 2, none⟩ = some (.int .i64 0) := (blk_cell E4.out 2).trans rfl
        have hq3 : wr.cell? ⟨g + 1 + 1, 3, none⟩ = some (.int .i64 0) := (blk_cell E4.out 3).trans rfl
        have hq4 : wr.cell? ⟨g + 1 + 1, 4, none⟩ = some (.int .i64 0) := (blk_cell E4.out 4).trans rfl
        have hq5 : wr.cell? ⟨g + 1 + 1, 5, none⟩ = some (.int .i64 0) := (blk_cell E4.out 5).trans rfl
        have hq6 : wr.cell? ⟨g + 1 + 1, 6, none⟩ = some (.int .i64 0) := (blk_cell E4.out 6).trans rfl
        go_wp2_with (first | (go_at_call 38; (with_reducible refine (meanderref02_May.calls s1 r2 kp ep o0 o1 0 true _ MO.out).mono ?_); rintro e w3 ⟨rfl, hb⟩; have HB3 := Aside0.mk (below_step HB.out hb); have F4 := Aside0.mk (blk_below E4.out hb); have FP := Aside0.mk (blk_below EP'.out hb); clear hb; have fp0 : w3.cell? ⟨p, 0, none⟩ = some (.int .i64 s1) := (blk_cell FP.out 0).trans rfl; have fz0 : w3.cell? ⟨g + 1 + 1, 0, none⟩ = some (.int .i64 0) := (blk_cell F4.out 0).trans rfl; have ff0 := blk_frozen F4.out 0; have fp1 : w3.cell? ⟨p, 1, none⟩ = some (.int .i64 r2) := (blk_cell FP.out 1).trans rfl; have fz1 : w3.cell? ⟨g + 1 + 1, 1, none⟩ = some (.int .i64 0) := (blk_cell F4.out 1).trans rfl; have ff1 := blk_frozen F4.out 1; have fp2 : w3.cell? ⟨p, 2, none⟩ = some (.int .i64 kp) := (blk_cell FP.out 2).trans rfl; have fz2 : w3.cell? ⟨g + 1 + 1, 2, none⟩ = some (.int .i64 0) := (blk_cell F4.out 2).trans rfl; have ff2 := blk_frozen F4.out 2; have fp3 : w3.cell? ⟨p, 3, none⟩ = some (.int .i64 ep) := (blk_cell FP.out 3).trans rfl; have fz3 : w3.cell? ⟨g + 1 + 1, 3, none⟩ = some (.int .i64 0) := (blk_cell F4.out 3).trans rfl; have ff3 := blk_frozen F4.out 3; have fp4 : w3.cell? ⟨p, 4, none⟩ = some (.int .i64 o0) := (blk_cell FP.out 4).trans rfl; have fz4 : w3.cell? ⟨g + 1 + 1, 4, none⟩ = some (.int .i64 0) := (blk_cell F4.out 4).trans rfl; have ff4 := blk_frozen F4.out 4; have fp5 : w3.cell? ⟨p, 5, none⟩ = some (.int .i64 o1) := (blk_cell FP.out 5).trans rfl; have fz5 : w3.cell? ⟨g + 1 + 1, 5, none⟩ = some (.int .i64 0) := (blk_cell F4.out 5).trans rfl; have ff5 := blk_frozen F4.out 5; have fp6 : w3.cell? ⟨p, 6, none⟩ = some (.int .i64 0) := (blk_cell FP.out 6).trans rfl; have fz6 : w3.cell? ⟨g + 1 + 1, 6, none⟩ = some (.int .i64 0) := (blk_cell F4.out 6).trans rfl; have ff6 := blk_frozen F4.out 6))
        obtain ⟨w9, hw9⟩ : ∃ w9 : World, w9 = (World.setCell (World.setCell (World.setCell (World.setCell (World.setCell (World.setCell (World.setCell w3 ⟨g + 1 + 1, 0, none⟩ (.int .i64 s1)) ⟨g + 1 + 1, 1, none⟩ (.int .i64 r2)) ⟨g + 1 + 1, 2, none⟩ (.int .i64 kp)) ⟨g + 1 + 1, 3, none⟩ (.int .i64 ep)) ⟨g + 1 + 1, 4, none⟩ (.int .i64 o0)) ⟨g + 1 + 1, 5, none⟩ (.int .i64 o1)) ⟨g + 1 + 1, 6, none⟩ (.int .i64 0)) := ⟨_, rfl⟩
        rw [← hw9]
        have hge : w.heap.size ≤ g + 1 + 1 := by have := GW.out; omega
        have R9 : w9.heap[g + 1 + 1]? = some (.cells #[.int .i64 s1, .int .i64 r2, .int .i64 kp, .int .i64 ep, .int .i64 o0, .int .i64 o1, .int .i64 0] 42 (0, 0)) := by rw [hw9]; refine blk_put (cs := #[.int .i64 s1, .int .i64 r2, .int .i64 kp, .int .i64 ep, .int .i64 o0, .int .i64 o1, .int .i64 0]) ?_ 6 _ rfl; refine blk_put (cs := #[.int .i64 s1, .int .i64 r2, .int .i64 kp, .int .i64 ep, .int .i64 o0, .int .i64 0, .int .i64 0]) ?_ 5 _ rfl; refine blk_put (cs := #[.int .i64 s1, .int .i64 r2, .int .i64 kp, .int .i64 ep, .int .i64 0, .int .i64 0, .int .i64 0]) ?_ 4 _ rfl; refine blk_put (cs := #[.int .i64 s1, .int .i64 r2, .int .i64 kp, .int .i64 0, .int .i64 0, .int .i64 0, .int .i64 0]) ?_ 3 _ rfl; refine blk_put (cs := #[.int .i64 s1, .int .i64 r2, .int .i64 0, .int .i64 0, .int .i64 0, .int .i64 0, .int .i64 0]) ?_ 2 _ rfl; refine blk_put (cs := #[.int .i64 s1, .int .i64 0, .int .i64 0, .int .i64 0, .int .i64 0, .int .i64 0, .int .i64 0]) ?_ 1 _ rfl; refine blk_put (cs := #[.int .i64 0, .int .i64 0, .int .i64 0, .int .i64 0, .int .i64 0, .int .i64 0, .int .i64 0]) ?_ 0 _ rfl; exact F4.out
        have B9 : Below w.heap.size w w9 := by rw [hw9]; exact below_set (below_set (below_set (below_set (below_set (below_set (below_set HB3.out hge) hge) hge) hge) hge) hge) hge
        clear hw9 hge fp0 fz0 ff0 fp1 fz1 ff1 fp2 fz2 ff2 fp3 fz3 ff3 fp4 fz4 ff4 fp5 fz5 ff5 fp6 fz6 ff6
        exact bodyPost_ret (results_ct rfl _ _ (g + 1 + 1) 42 #[.int .i64 s1, .int .i64 r2, .int .i64 kp, .int .i64 ep, .int .i64 o0, .int .i64 o1, .int .i64 0] (0, 0) _ rfl R9 hu1 rfl (by kernel_rfl)) rfl ⟨rfl, B9⟩
    · have EP' := Aside0.mk (show wr.heap[p]? = some (.cells #[.int .i64 s1, .int .i64 r2, .int .i64 kp, .int .i64 ep, .int .i64 o0, .int .i64 o1, .int .i64 o2] 42 (0, 0)) from EP.out)
      have c1 : decide (3 < r2) = false := decide_eq_false (by have := HP.out; omega)
      have hr := HP.out
      clear hr
      have hp0 : wr.cell? ⟨p, 0, none⟩ = some (.int .i64 s1) := (blk_cell EP'.out 0).trans rfl
      have hp1 : wr.cell? ⟨p, 1, none⟩ = some (.int .i64 r2) := (blk_cell EP'.out 1).trans rfl
      have hp2 : wr.cell? ⟨p, 2, none⟩ = some (.int .i64 kp) := (blk_cell EP'.out 2).trans rfl
      have hp3 : wr.cell? ⟨p, 3, none⟩ = some (.int .i64 ep) := (blk_cell EP'.out 3).trans rfl
      have hp4 : wr.cell? ⟨p, 4, none⟩ = some (.int .i64 o0) := (blk_cell EP'.out 4).trans rfl
      have hp5 : wr.cell? ⟨p, 5, none⟩ = some (.int .i64 o1) := (blk_cell EP'.out 5).trans rfl
      have hp6 : wr.cell? ⟨p, 6, none⟩ = some (.int .i64 o2) := (blk_cell EP'.out 6).trans rfl
      have hz := E4.out
      clear hz
      have hq0 : wr.cell? ⟨g + 1 + 1, 0, none⟩ = some (.int .i64 0) := (blk_cell E4.out 0).trans rfl
      have hq1 : wr.cell? ⟨g + 1 + 1, 1, none⟩ = some (.int .i64 0) := (blk_cell E4.out 1).trans rfl
      have hq2 : wr.cell? ⟨g + 1 + 1, 2, none⟩ = some (.int .i64 0) := (blk_cell E4.out 2).trans rfl
      have hq3 : wr.cell? ⟨g + 1 + 1, 3, none⟩ = some (.int .i64 0) := (blk_cell E4.out 3).trans rfl
      have hq4 : wr.cell? ⟨g + 1 + 1, 4, none⟩ = some (.int .i64 0) := (blk_cell E4.out 4).trans rfl
      have hq5 : wr.cell? ⟨g + 1 + 1, 5, none⟩ = some (.int .i64 0) := (blk_cell E4.out 5).trans rfl
      have hq6 : wr.cell? ⟨g + 1 + 1, 6, none⟩ = some (.int .i64 0) := (blk_cell E4.out 6).trans rfl
      go_wp2_with (first | (go_at_call 38; (with_reducible refine (meanderref02_May.calls s1 r2 kp ep o0 o1 o2 true _ MO.out).mono ?_); rintro e w3 ⟨rfl, hb⟩; have HB3 := Aside0.mk (below_step HB.out hb); have F4 := Aside0.mk (blk_below E4.out hb); have FP := Aside0.mk (blk_below EP'.out hb); clear hb; have fp0 : w3.cell? ⟨p, 0, none⟩ = some (.int .i64 s1) := (blk_cell FP.out 0).trans rfl; have fz0 : w3.cell? ⟨g + 1 + 1, 0, none⟩ = some (.int .i64 0) := (blk_cell F4.out 0).trans rfl; have ff0 := blk_frozen F4.out 0; have fp1 : w3.cell? ⟨p, 1, none⟩ = some (.int .i64 r2) := (blk_cell FP.out 1).trans rfl; have fz1 : w3.cell? ⟨g + 1 + 1, 1, none⟩ = some (.int .i64 0) := (blk_cell F4.out 1).trans rfl; have ff1 := blk_frozen F4.out 1; have fp2 : w3.cell? ⟨p, 2, none⟩ = some (.int .i64 kp) := (blk_cell FP.out 2).trans rfl; have fz2 : w3.cell? ⟨g + 1 + 1, 2, none⟩ = some (.int .i64 0) := (blk_cell F4.out 2).trans rfl; have ff2 := blk_frozen F4.out 2; have fp3 : w3.cell? ⟨p, 3, none⟩ = some (.int .i64 ep) := (blk_cell FP.out 3).trans rfl; have fz3 : w3.cell? ⟨g + 1 + 1, 3, none⟩ = some (.int .i64 0) := (blk_cell F4.out 3).trans rfl; have ff3 := blk_frozen F4.out 3; have fp4 : w3.cell? ⟨p, 4, none⟩ = some (.int .i64 o0) := (blk_cell FP.out 4).trans rfl; have fz4 : w3.cell? ⟨g + 1 + 1, 4, none⟩ = some (.int .i64 0) := (blk_cell F4.out 4).trans rfl; have ff4 := blk_frozen F4.out 4; have fp5 : w3.cell? ⟨p, 5, none⟩ = some (.int .i64 o1) := (blk_cell FP.out 5).trans rfl; have fz5 : w3.cell? ⟨g + 1 + 1, 5, none⟩ = some (.int .i64 0) := (blk_cell F4.out 5).trans rfl; have ff5 := blk_frozen F4.out 5; have fp6 : w3.cell? ⟨p, 6, none⟩ = some (.int .i64 o2) := (blk_cell FP.out 6).trans rfl; have fz6 : w3.cell? ⟨g + 1 + 1, 6, none⟩ = some (.int .i64 0) := (blk_cell F4.out 6).trans rfl; have ff6 := blk_frozen F4.out 6))
      obtain ⟨w9, hw9⟩ : ∃ w9 : World, w9 = (World.setCell (World.setCell (World.setCell (World.setCell (World.setCell (World.setCell (World.setCell w3 ⟨g + 1 + 1, 0, none⟩ (.int .i64 s1)) ⟨g + 1 + 1, 1, none⟩ (.int .i64 r2)) ⟨g + 1 + 1, 2, none⟩ (.int .i64 kp)) ⟨g + 1 + 1, 3, none⟩ (.int .i64 ep)) ⟨g + 1 + 1, 4, none⟩ (.int .i64 o0)) ⟨g + 1 + 1, 5, none⟩ (.int .i64 o1)) ⟨g + 1 + 1, 6, none⟩ (.int .i64 o2)) := ⟨_, rfl⟩
      rw [← hw9]
      have hge : w.heap.size ≤ g + 1 + 1 := by have := GW.out; omega
      have R9 : w9.heap[g + 1 + 1]? = some (.cells #[.int .i64 s1, .int .i64 r2, .int .i64 kp, .int .i64 ep, .int .i64 o0, .int .i64 o1, .int .i64 o2] 42 (0, 0)) := by rw [hw9]; refine blk_put (cs := #[.int .i64 s1, .int .i64 r2, .int .i64 kp, .int .i64 ep, .int .i64 o0, .int .i64 o1, .int .i64 0]) ?_ 6 _ rfl; refine blk_put (cs := #[.int .i64 s1, .int .i64 r2, .int .i64 kp, .int .i64 ep, .int .i64 o0, .int .i64 0, .int .i64 0]) ?_ 5 _ rfl; refine blk_put (cs := #[.int .i64 s1, .int .i64 r2, .int .i64 kp, .int .i64 ep, .int .i64 0, .int .i64 0, .int .i64 0]) ?_ 4 _ rfl; refine blk_put (cs := #[.int .i64 s1, .int .i64 r2, .int .i64 kp, .int .i64 0, .int .i64 0, .int .i64 0, .int .i64 0]) ?_ 3 _ rfl; refine blk_put (cs := #[.int .i64 s1, .int .i64 r2, .int .i64 0, .int .i64 0, .int .i64 0, .int .i64 0, .int .i64 0]) ?_ 2 _ rfl; refine blk_put (cs := #[.int .i64 s1, .int .i64 0, .int .i64 0, .int .i64 0, .int .i64 0, .int .i64 0, .int .i64 0]) ?_ 1 _ rfl; refine blk_put (cs := #[.int .i64 0, .int .i64 0, .int .i64 0, .int .i64 0, .int .i64 0, .int .i64 0, .int .i64 0]) ?_ 0 _ rfl; exact F4.out
      have B9 : Below w.heap.size w w9 := by rw [hw9]; exact below_set (below_set (below_set (below_set (below_set (below_set (below_set HB3.out hge) hge) hge) hge) hge) hge) hge
      clear hw9 hge fp0 fz0 ff0 fp1 fz1 ff1 fp2 fz2 ff2 fp3 fz3 ff3 fp4 fz4 ff4 fp5 fz5 ff5 fp6 fz6 ff6
      exact bodyPost_ret (results_ct rfl _ _ (g + 1 + 1) 42 #[.int .i64 s1, .int .i64 r2, .int .i64 kp, .int .i64 ep, .int .i64 o0, .int .i64 o1, .int .i64 o2] (0, 0) _ rfl R9 hu1 rfl (by kernel_rfl)) rfl ⟨rfl, B9⟩
theorem meanderref02_Then.calls (s1 : Int) (s2 : Int) (s3 : Int) (s4 : Int) (s5 : Int) (s6 : Int) (s7 : Int) (r1 : Int) (r2 : Int) (r3 : Int) (r4 : Int) (r5 : Int) (r6 : Int) (r7 : Int) (q1 : Int) (q2 : Int) (q3 : Int) (q4 : Int) (q5 : Int) (q6 : Int) (q7 : Int) (q8 : Int) (w : World) (h : meanderref02_Then.f s1 s2 s3 s4 s5 s6 s7 r1 r2 r3 r4 r5 r6 r7 = some (q1, q2, q3, q4, q5, q6, q7, q8)) :
    Calls Try.prog 18 #[.agg #[.int .i64 s1, .int .i64 s2, .int .i64 s3, .int .i64 s4, .int .i64 s5, .int .i64 s6, .int .i64 s7], .agg #[.int .i64 r1, .int .i64 r2, .int .i64 r3, .int .i64 r4, .int .i64 r5, .int .i64 r6, .int .i64 r7]] w fun e w' => e = .returned (.tuple #[.agg #[.int .i64 q1, .int .i64 q2, .int .i64 q3, .int .i64 q4, .int .i64 q5, .int .i64 q6, .int .i64 q7], .int .i64 q8]) ∧ Below w.heap.size w w' := by
  unfold meanderref02_Then.f at h
  by_cases c : meanderref02_May.P s1 s2 s3 s4 s5 s6 s7 ∧ meanderref02_May.P r1 r2 r3 r4 r5 r6 r7 ∧ s2 = r1 ∧ meanderref02_May.P s1 r2 (if r3 < s3 then r3 else s3) (s4 + r4) (if 0 < r2 then (if 0 < r3 then s5 + r5 else r5) else 0) (if 1 < r2 then (if 1 < r3 then s6 + r6 else r6) else 0) (if 2 < r2 then (if 2 < r3 then s7 + r7 else r7) else 0)
  · rw [if_pos c] at h
    obtain ⟨hs, hr, he, ho⟩ := c
    have hp : IntKind.i64.wrap (s4 + r4) = s4 + r4 := by
      refine IntWalk.i64_in _ ?_
      have h' := ho
      unfold meanderref02_May.P at h'
      omega
    have := meanderref02_Then.at s1 s2 s3 s4 s5 s6 s7 r1 r2 r3 r4 r5 r6 r7 _ _ _ _ _ w hs hr he ho rfl hp rfl rfl rfl
    simp only [Option.some.injEq, Prod.mk.injEq] at h
    obtain ⟨rfl, rfl, rfl, rfl, rfl, rfl, rfl, rfl⟩ := h
    exact this
  · rw [if_neg c] at h; cases h

/-! ### summary_made: function 66 -/
def summary_made.f (a0 : Int) (a1 : Int) (a2 : Int) : Option (Int × Int × Int × Int × Int × Int × Int) := if (mn a0 a1) < 0 then (some (0, 0, 0, 0, 0, 0, 0)) else (if (mx a0 a1) > 3 then (some (0, 0, 0, 0, 0, 0, 0)) else (some (a0, a1, a2, 0, 0, 0, 0)))
set_option maxHeartbeats 8000000 in
set_option maxRecDepth 100000 in
theorem summary_made.calls (a0 : Int) (a1 : Int) (a2 : Int) (r1 : Int) (r2 : Int) (r3 : Int) (r4 : Int) (r5 : Int) (r6 : Int) (r7 : Int) (w : World) (h : summary_made.f a0 a1 a2 = some (r1, r2, r3, r4, r5, r6, r7)) :
  Calls Try.prog 66 #[.int .i64 a0, .int .i64 a1, .int .i64 a2] w fun e w' => e = .returned (.agg #[.int .i64 r1, .int .i64 r2, .int .i64 r3, .int .i64 r4, .int .i64 r5, .int .i64 r6, .int .i64 r7]) ∧ Below w.heap.size w w' := by
 have hu42 := Try.underlying42
 have HB := Aside0.mk (Below.refl w.heap.size w)
 have H : (if (mn a0 a1) < 0 then (some (0, 0, 0, 0, 0, 0, 0)) else (if (mx a0 a1) > 3 then (some (0, 0, 0, 0, 0, 0, 0)) else (some (a0, a1, a2, 0, 0, 0, 0)))) = some (r1, r2, r3, r4, r5, r6, r7) := h
 clear h
 obtain ⟨ji4, hji4⟩ : ∃ j_ : Int, (mn a0 a1) = j_ := ⟨_, rfl⟩
 replace H : (if (ji4) < 0 then (some (0, 0, 0, 0, 0, 0, 0)) else (if (mx a0 a1) > 3 then (some (0, 0, 0, 0, 0, 0, 0)) else (some (a0, a1, a2, 0, 0, 0, 0)))) = some (r1, r2, r3, r4, r5, r6, r7) := by first | (rw [hji4] at H; exact H) | (simp only [hji4] at H ⊢; exact H)
 have hji4_ : (if a1 < a0 then a1 else a0) = ji4 := hji4
 by_cases c5 : (ji4) < 0
 ·rw [if_pos c5] at H
  have c5b0 : decide ((ji4) < 0) = true := decide_eq_true c5
  clear c5
  simp only [Option.some.injEq, Prod.mk.injEq] at H
  obtain ⟨rfl, rfl, rfl, rfl, rfl, rfl, rfl⟩ := H
  go_enter Try.func66, Try.ntmps66
  go_wp2_with (first | ((with_reducible refine gate_dst (N := 6) rfl ?_); (try (refine gate_guard (by rfl) ?_; dsimp only)); refine box_event ?hg (N := 6) ?hd (cs := #[.int .i64 0, .int .i64 0, .int .i64 0, .int .i64 0, .int .i64 0, .int .i64 0, .int .i64 0]) (t := 42) ?hr ?_; (case hd => rfl); (case hg => rfl); (case hr => first | (go_simp; done) | (go_simp; rfl)); intro gb302 hg w6 hbox hb; have n0_ := Aside0.mk (below_step (by repeat (first | (with_reducible first | exact HB.out | apply below_alloc | apply pw_below_drewN | apply below_drew1) | exact HB.out)) hb); have n1_ := Aside0.mk (hbox); have n2_ := Aside0.mk ((by rw [hg]; exact (below_size (by repeat (first | (with_reducible first | exact HB.out | apply below_alloc | apply pw_below_drewN | apply below_drew1) | exact HB.out))) : w.heap.size ≤ gb302)); have n3_ := Aside0.mk ((by rw [hg]; exact (below_size (by repeat (first | (with_reducible first | exact HB.out | apply below_alloc | apply pw_below_drewN | apply below_drew1) | exact HB.out))) : w.heap.size ≤ gb302)); clear HB; have HB := n0_; have BK302 := n1_; have GW302 := n2_; have GE302 := n3_; clear n0_ n1_ n2_ n3_; clear hb hbox hg; have hcz7_0 : w6.cell? ⟨gb302, 0, none⟩ = some (.int .i64 0) := (blk_cell BK302.out 0).trans rfl; have hcz7_1 : w6.cell? ⟨gb302, 1, none⟩ = some (.int .i64 0) := (blk_cell BK302.out 1).trans rfl; have hcz7_2 : w6.cell? ⟨gb302, 2, none⟩ = some (.int .i64 0) := (blk_cell BK302.out 2).trans rfl; have hcz7_3 : w6.cell? ⟨gb302, 3, none⟩ = some (.int .i64 0) := (blk_cell BK302.out 3).trans rfl; have hcz7_4 : w6.cell? ⟨gb302, 4, none⟩ = some (.int .i64 0) := (blk_cell BK302.out 4).trans rfl; have hcz7_5 : w6.cell? ⟨gb302, 5, none⟩ = some (.int .i64 0) := (blk_cell BK302.out 5).trans rfl; have hcz7_6 : w6.cell? ⟨gb302, 6, none⟩ = some (.int .i64 0) := (blk_cell BK302.out 6).trans rfl; have hfz7_0 := blk_frozen BK302.out 0; have hfz7_1 := blk_frozen BK302.out 1; have hfz7_2 := blk_frozen BK302.out 2; have hfz7_3 := blk_frozen BK302.out 3; have hfz7_4 := blk_frozen BK302.out 4; have hfz7_5 := blk_frozen BK302.out 5; have hfz7_6 := blk_frozen BK302.out 6))
  refine bodyPost_ret (results_cell_row rfl _ _ gb302 42 #[.int .i64 0, .int .i64 0, .int .i64 0, .int .i64 0, .int .i64 0, .int .i64 0, .int .i64 0] (0, 0) _ rfl (by (with_reducible repeat (first | refine blk_drewN ?_ _ | refine blk_drew ?_ | refine blk_alloc ?_ _)); refine blk_put (cs := #[.int .i64 0, .int .i64 0, .int .i64 0, .int .i64 0, .int .i64 0, .int .i64 0, .int .i64 0]) ?_ 6 _ rfl; (with_reducible repeat (first | refine blk_drewN ?_ _ | refine blk_drew ?_ | refine blk_alloc ?_ _)); refine blk_put (cs := #[.int .i64 0, .int .i64 0, .int .i64 0, .int .i64 0, .int .i64 0, .int .i64 0, .int .i64 0]) ?_ 5 _ rfl; (with_reducible repeat (first | refine blk_drewN ?_ _ | refine blk_drew ?_ | refine blk_alloc ?_ _)); refine blk_put (cs := #[.int .i64 0, .int .i64 0, .int .i64 0, .int .i64 0, .int .i64 0, .int .i64 0, .int .i64 0]) ?_ 4 _ rfl; (with_reducible repeat (first | refine blk_drewN ?_ _ | refine blk_drew ?_ | refine blk_alloc ?_ _)); refine blk_put (cs := #[.int .i64 0, .int .i64 0, .int .i64 0, .int .i64 0, .int .i64 0, .int .i64 0, .int .i64 0]) ?_ 3 _ rfl; (with_reducible repeat (first | refine blk_drewN ?_ _ | refine blk_drew ?_ | refine blk_alloc ?_ _)); refine blk_put (cs := #[.int .i64 0, .int .i64 0, .int .i64 0, .int .i64 0, .int .i64 0, .int .i64 0, .int .i64 0]) ?_ 2 _ rfl; (with_reducible repeat (first | refine blk_drewN ?_ _ | refine blk_drew ?_ | refine blk_alloc ?_ _)); refine blk_put (cs := #[.int .i64 0, .int .i64 0, .int .i64 0, .int .i64 0, .int .i64 0, .int .i64 0, .int .i64 0]) ?_ 1 _ rfl; (with_reducible repeat (first | refine blk_drewN ?_ _ | refine blk_drew ?_ | refine blk_alloc ?_ _)); refine blk_put (cs := #[.int .i64 0, .int .i64 0, .int .i64 0, .int .i64 0, .int .i64 0, .int .i64 0, .int .i64 0]) ?_ 0 _ rfl; (with_reducible repeat (first | refine blk_drewN ?_ _ | refine blk_drew ?_ | refine blk_alloc ?_ _)); exact BK302.out) Try.underlying42 rfl (by kernel_rfl)) rfl ?_
  exact ⟨by first | rfl | (simp [errW_none, errW_some] <;> rfl) | (simp only [← hji4]; first | rfl | (simp [errW_none, errW_some] <;> rfl)) | (simp [*, errW_none, errW_some] <;> rfl), by repeat (first | (with_reducible first | exact HB.out | apply below_alloc | apply pw_below_drewN | apply below_drew1 | refine below_set ?_ GE302.out) | exact HB.out)⟩
 ·rw [if_neg c5] at H
  have c5b0 : decide ((ji4) < 0) = false := decide_eq_false c5
  clear c5
  obtain ⟨ji8, hji8⟩ : ∃ j_ : Int, (mx a0 a1) = j_ := ⟨_, rfl⟩
  replace H : (if (ji8) > 3 then (some (0, 0, 0, 0, 0, 0, 0)) else (some (a0, a1, a2, 0, 0, 0, 0))) = some (r1, r2, r3, r4, r5, r6, r7) := by first | (rw [hji8] at H; exact H) | (simp only [hji8] at H ⊢; exact H)
  have hji8_ : (if a0 < a1 then a1 else a0) = ji8 := hji8
  by_cases c9 : (ji8) > 3
  ·rw [if_pos c9] at H
   have c9b0 : decide (3 < (ji8)) = true := decide_eq_true c9
   clear c9
   simp only [Option.some.injEq, Prod.mk.injEq] at H
   obtain ⟨rfl, rfl, rfl, rfl, rfl, rfl, rfl⟩ := H
   go_enter Try.func66, Try.ntmps66
   go_wp2_with (first | ((with_reducible refine gate_dst (N := 6) rfl ?_); (try (refine gate_guard (by rfl) ?_; dsimp only)); refine box_event ?hg (N := 6) ?hd (cs := #[.int .i64 0, .int .i64 0, .int .i64 0, .int .i64 0, .int .i64 0, .int .i64 0, .int .i64 0]) (t := 42) ?hr ?_; (case hd => rfl); (case hg => rfl); (case hr => first | (go_simp; done) | (go_simp; rfl)); intro gb302 hg w10 hbox hb; have n0_ := Aside0.mk (below_step (by repeat (first | (with_reducible first | exact HB.out | apply below_alloc | apply pw_below_drewN | apply below_drew1) | exact HB.out)) hb); have n1_ := Aside0.mk (hbox); have n2_ := Aside0.mk ((by rw [hg]; exact (below_size (by repeat (first | (with_reducible first | exact HB.out | apply below_alloc | apply pw_below_drewN | apply below_drew1) | exact HB.out))) : w.heap.size ≤ gb302)); have n3_ := Aside0.mk ((by rw [hg]; exact (below_size (by repeat (first | (with_reducible first | exact HB.out | apply below_alloc | apply pw_below_drewN | apply below_drew1) | exact HB.out))) : w.heap.size ≤ gb302)); clear HB; have HB := n0_; have BK302 := n1_; have GW302 := n2_; have GE302 := n3_; clear n0_ n1_ n2_ n3_; clear hb hbox hg; have hcz11_0 : w10.cell? ⟨gb302, 0, none⟩ = some (.int .i64 0) := (blk_cell BK302.out 0).trans rfl; have hcz11_1 : w10.cell? ⟨gb302, 1, none⟩ = some (.int .i64 0) := (blk_cell BK302.out 1).trans rfl; have hcz11_2 : w10.cell? ⟨gb302, 2, none⟩ = some (.int .i64 0) := (blk_cell BK302.out 2).trans rfl; have hcz11_3 : w10.cell? ⟨gb302, 3, none⟩ = some (.int .i64 0) := (blk_cell BK302.out 3).trans rfl; have hcz11_4 : w10.cell? ⟨gb302, 4, none⟩ = some (.int .i64 0) := (blk_cell BK302.out 4).trans rfl; have hcz11_5 : w10.cell? ⟨gb302, 5, none⟩ = some (.int .i64 0) := (blk_cell BK302.out 5).trans rfl; have hcz11_6 : w10.cell? ⟨gb302, 6, none⟩ = some (.int .i64 0) := (blk_cell BK302.out 6).trans rfl; have hfz11_0 := blk_frozen BK302.out 0; have hfz11_1 := blk_frozen BK302.out 1; have hfz11_2 := blk_frozen BK302.out 2; have hfz11_3 := blk_frozen BK302.out 3; have hfz11_4 := blk_frozen BK302.out 4; have hfz11_5 := blk_frozen BK302.out 5; have hfz11_6 := blk_frozen BK302.out 6))
   refine bodyPost_ret (results_cell_row rfl _ _ gb302 42 #[.int .i64 0, .int .i64 0, .int .i64 0, .int .i64 0, .int .i64 0, .int .i64 0, .int .i64 0] (0, 0) _ rfl (by (with_reducible repeat (first | refine blk_drewN ?_ _ | refine blk_drew ?_ | refine blk_alloc ?_ _)); refine blk_put (cs := #[.int .i64 0, .int .i64 0, .int .i64 0, .int .i64 0, .int .i64 0, .int .i64 0, .int .i64 0]) ?_ 6 _ rfl; (with_reducible repeat (first | refine blk_drewN ?_ _ | refine blk_drew ?_ | refine blk_alloc ?_ _)); refine blk_put (cs := #[.int .i64 0, .int .i64 0, .int .i64 0, .int .i64 0, .int .i64 0, .int .i64 0, .int .i64 0]) ?_ 5 _ rfl; (with_reducible repeat (first | refine blk_drewN ?_ _ | refine blk_drew ?_ | refine blk_alloc ?_ _)); refine blk_put (cs := #[.int .i64 0, .int .i64 0, .int .i64 0, .int .i64 0, .int .i64 0, .int .i64 0, .int .i64 0]) ?_ 4 _ rfl; (with_reducible repeat (first | refine blk_drewN ?_ _ | refine blk_drew ?_ | refine blk_alloc ?_ _)); refine blk_put (cs := #[.int .i64 0, .int .i64 0, .int .i64 0, .int .i64 0, .int .i64 0, .int .i64 0, .int .i64 0]) ?_ 3 _ rfl; (with_reducible repeat (first | refine blk_drewN ?_ _ | refine blk_drew ?_ | refine blk_alloc ?_ _)); refine blk_put (cs := #[.int .i64 0, .int .i64 0, .int .i64 0, .int .i64 0, .int .i64 0, .int .i64 0, .int .i64 0]) ?_ 2 _ rfl; (with_reducible repeat (first | refine blk_drewN ?_ _ | refine blk_drew ?_ | refine blk_alloc ?_ _)); refine blk_put (cs := #[.int .i64 0, .int .i64 0, .int .i64 0, .int .i64 0, .int .i64 0, .int .i64 0, .int .i64 0]) ?_ 1 _ rfl; (with_reducible repeat (first | refine blk_drewN ?_ _ | refine blk_drew ?_ | refine blk_alloc ?_ _)); refine blk_put (cs := #[.int .i64 0, .int .i64 0, .int .i64 0, .int .i64 0, .int .i64 0, .int .i64 0, .int .i64 0]) ?_ 0 _ rfl; (with_reducible repeat (first | refine blk_drewN ?_ _ | refine blk_drew ?_ | refine blk_alloc ?_ _)); exact BK302.out) Try.underlying42 rfl (by kernel_rfl)) rfl ?_
   exact ⟨by first | rfl | (simp [errW_none, errW_some] <;> rfl) | (simp only [← hji4, ← hji8]; first | rfl | (simp [errW_none, errW_some] <;> rfl)) | (simp [*, errW_none, errW_some] <;> rfl), by repeat (first | (with_reducible first | exact HB.out | apply below_alloc | apply pw_below_drewN | apply below_drew1 | refine below_set ?_ GE302.out) | exact HB.out)⟩
  ·rw [if_neg c9] at H
   have c9b0 : decide (3 < (ji8)) = false := decide_eq_false c9
   clear c9
   simp only [Option.some.injEq, Prod.mk.injEq] at H
   obtain ⟨rfl, rfl, rfl, rfl, rfl, rfl, rfl⟩ := H
   go_enter Try.func66, Try.ntmps66
   go_wp2_with (first | ((with_reducible refine gate_dst (N := 6) rfl ?_); (try (refine gate_guard (by rfl) ?_; dsimp only)); refine box_event ?hg (N := 6) ?hd (cs := #[.int .i64 0, .int .i64 0, .int .i64 0, .int .i64 0, .int .i64 0, .int .i64 0, .int .i64 0]) (t := 42) ?hr ?_; (case hd => rfl); (case hg => rfl); (case hr => first | (go_simp; done) | (go_simp; rfl)); intro gb302 hg w12 hbox hb; have n0_ := Aside0.mk (below_step (by repeat (first | (with_reducible first | exact HB.out | apply below_alloc | apply pw_below_drewN | apply below_drew1) | exact HB.out)) hb); have n1_ := Aside0.mk (hbox); have n2_ := Aside0.mk ((by rw [hg]; exact (below_size (by repeat (first | (with_reducible first | exact HB.out | apply below_alloc | apply pw_below_drewN | apply below_drew1) | exact HB.out))) : w.heap.size ≤ gb302)); have n3_ := Aside0.mk ((by rw [hg]; exact (below_size (by repeat (first | (with_reducible first | exact HB.out | apply below_alloc | apply pw_below_drewN | apply below_drew1) | exact HB.out))) : w.heap.size ≤ gb302)); clear HB; have HB := n0_; have BK302 := n1_; have GW302 := n2_; have GE302 := n3_; clear n0_ n1_ n2_ n3_; clear hb hbox hg; have hcz13_0 : w12.cell? ⟨gb302, 0, none⟩ = some (.int .i64 0) := (blk_cell BK302.out 0).trans rfl; have hcz13_1 : w12.cell? ⟨gb302, 1, none⟩ = some (.int .i64 0) := (blk_cell BK302.out 1).trans rfl; have hcz13_2 : w12.cell? ⟨gb302, 2, none⟩ = some (.int .i64 0) := (blk_cell BK302.out 2).trans rfl; have hcz13_3 : w12.cell? ⟨gb302, 3, none⟩ = some (.int .i64 0) := (blk_cell BK302.out 3).trans rfl; have hcz13_4 : w12.cell? ⟨gb302, 4, none⟩ = some (.int .i64 0) := (blk_cell BK302.out 4).trans rfl; have hcz13_5 : w12.cell? ⟨gb302, 5, none⟩ = some (.int .i64 0) := (blk_cell BK302.out 5).trans rfl; have hcz13_6 : w12.cell? ⟨gb302, 6, none⟩ = some (.int .i64 0) := (blk_cell BK302.out 6).trans rfl; have hfz13_0 := blk_frozen BK302.out 0; have hfz13_1 := blk_frozen BK302.out 1; have hfz13_2 := blk_frozen BK302.out 2; have hfz13_3 := blk_frozen BK302.out 3; have hfz13_4 := blk_frozen BK302.out 4; have hfz13_5 := blk_frozen BK302.out 5; have hfz13_6 := blk_frozen BK302.out 6))
   refine bodyPost_ret (results_cell_row rfl _ _ gb302 42 #[.int .i64 a0, .int .i64 a1, .int .i64 a2, .int .i64 0, .int .i64 0, .int .i64 0, .int .i64 0] (0, 0) _ rfl (by (with_reducible repeat (first | refine blk_drewN ?_ _ | refine blk_drew ?_ | refine blk_alloc ?_ _)); refine blk_put (cs := #[.int .i64 a0, .int .i64 a1, .int .i64 a2, .int .i64 0, .int .i64 0, .int .i64 0, .int .i64 0]) ?_ 6 _ rfl; (with_reducible repeat (first | refine blk_drewN ?_ _ | refine blk_drew ?_ | refine blk_alloc ?_ _)); refine blk_put (cs := #[.int .i64 a0, .int .i64 a1, .int .i64 a2, .int .i64 0, .int .i64 0, .int .i64 0, .int .i64 0]) ?_ 5 _ rfl; (with_reducible repeat (first | refine blk_drewN ?_ _ | refine blk_drew ?_ | refine blk_alloc ?_ _)); refine blk_put (cs := #[.int .i64 a0, .int .i64 a1, .int .i64 a2, .int .i64 0, .int .i64 0, .int .i64 0, .int .i64 0]) ?_ 4 _ rfl; (with_reducible repeat (first | refine blk_drewN ?_ _ | refine blk_drew ?_ | refine blk_alloc ?_ _)); refine blk_put (cs := #[.int .i64 a0, .int .i64 a1, .int .i64 a2, .int .i64 0, .int .i64 0, .int .i64 0, .int .i64 0]) ?_ 3 _ rfl; (with_reducible repeat (first | refine blk_drewN ?_ _ | refine blk_drew ?_ | refine blk_alloc ?_ _)); refine blk_put (cs := #[.int .i64 a0, .int .i64 a1, .int .i64 0, .int .i64 0, .int .i64 0, .int .i64 0, .int .i64 0]) ?_ 2 _ rfl; (with_reducible repeat (first | refine blk_drewN ?_ _ | refine blk_drew ?_ | refine blk_alloc ?_ _)); refine blk_put (cs := #[.int .i64 a0, .int .i64 0, .int .i64 0, .int .i64 0, .int .i64 0, .int .i64 0, .int .i64 0]) ?_ 1 _ rfl; (with_reducible repeat (first | refine blk_drewN ?_ _ | refine blk_drew ?_ | refine blk_alloc ?_ _)); refine blk_put (cs := #[.int .i64 0, .int .i64 0, .int .i64 0, .int .i64 0, .int .i64 0, .int .i64 0, .int .i64 0]) ?_ 0 _ rfl; (with_reducible repeat (first | refine blk_drewN ?_ _ | refine blk_drew ?_ | refine blk_alloc ?_ _)); exact BK302.out) Try.underlying42 rfl (by kernel_rfl)) rfl ?_
   exact ⟨by first | rfl | (simp [errW_none, errW_some] <;> rfl) | (simp only [← hji4, ← hji8]; first | rfl | (simp [errW_none, errW_some] <;> rfl)) | (simp [*, errW_none, errW_some] <;> rfl), by repeat (first | (with_reducible first | exact HB.out | apply below_alloc | apply pw_below_drewN | apply below_drew1 | refine below_set ?_ GE302.out) | exact HB.out)⟩

end Go.Proofs.Ytjlnjlnecipllaa.PAll
