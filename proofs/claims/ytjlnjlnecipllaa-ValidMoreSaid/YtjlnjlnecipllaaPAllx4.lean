-- Laid by hprint.py of this repo: the kit's printer, and contracts by hand beside it. Not trusted: Lean checks it.
import Derived.Test.YtjlnjlnecipllaaPAllx0
import Derived.Test.YtjlnjlnecipllaaPAllx3
namespace Go.Proofs.Ytjlnjlnecipllaa.PAll
open Go.RowKit Go.Proofs.YtjlnjlnecipllaaW.PrintWords Go.Proofs.YtjlnjlnecipllaaW.PrintLast Go.Proofs.YtjlnjlnecipllaaW.PrintMore
attribute [local go_sem] max2_int min2_int max_two min_two max_three min_three max_four min_four   -- for this text's walks alone
set_option linter.unusedVariables false
set_option linter.unusedSimpArgs false

/-! ### graph_Order: function 77 -/
def graph_Order.f (k : Nat) (a0_0 : Int) (a0_1 : Int) (a1_0 : Int) (a1_1 : Int) : Option (Int) := (cmp_Compare_int.f a0_0 a1_0).bind fun t126 => ((cmp_Compare_int.f a0_1 a1_1).bind fun t127 => ((cmp_Or_int.f k (([t126, t127] : List Int))).bind fun t131 => (some t131)))
theorem graph_Order.mono : ∀ a0 a1 a2 a3 k, LeO (graph_Order.f k a0 a1 a2 a3) (graph_Order.f (k + 1) a0 a1 a2 a3) := by
 intro a0 a1 a2 a3 k
 unfold graph_Order.f
 repeat' first
   | (with_reducible exact cmp_Or_int.mono _ _)
   | (with_reducible exact LeO.refl _)
   | (with_reducible exact LeO.none _)
   | (with_reducible refine LeO.ite ?_ ?_)
   | (with_reducible refine LeO.bind ?_ (fun _ => ?_))
   | exact cmp_Or_int.mono _ _
   | exact LeO.none _
   | refine LeO.ite ?_ ?_
   | refine LeO.bind ?_ (fun _ => ?_)
def graph_Order.T1 : Bool × List (List Nat × List Nat) := (true, [([], []), ([0], [0]), ([], []), ([2], [2]), ([1, 3], [1, 3]), ([], []), ([5], [5]), ([], []), ([7], [7]), ([6, 8, 4], [6, 8]), ([4, 9], [4, 9]), ([10, 9], [10]), ([11, 11, 0, 1, 2, 3, 4, 5, 6, 7, 8, 9, 10, 11], [11])])
def graph_Order.B1 : List Nat := [0, 1, 0, 4, 15, 0, 32, 0, 128, 511, 1023, 2047, 4095]
theorem graph_Order.tab1 : rtab .any (opsOf Try.f77 1) = graph_Order.T1 := by kernel_rfl
theorem graph_Order.bits1 : waitsOk graph_Order.T1.2 graph_Order.B1 = true := by kernel_rfl
set_option maxHeartbeats 8000000 in
set_option maxRecDepth 100000 in
theorem graph_Order.calls (k : Nat) (a0_0 : Int) (a0_1 : Int) (a1_0 : Int) (a1_1 : Int) (r : Int) (w : World) (h : graph_Order.f k a0_0 a0_1 a1_0 a1_1 = some r) :
  Calls Try.prog 77 #[.agg #[.int .i64 a0_0, .int .i64 a0_1], .agg #[.int .i64 a1_0, .int .i64 a1_1]] w fun e w' => e = .returned (.int .i64 r) ∧ Below w.heap.size w w' := by
 have hu47 := Try.underlying47
 have HB := Aside0.mk (Below.refl w.heap.size w)
 have H : ((cmp_Compare_int.f a0_0 a1_0).bind fun t126 => ((cmp_Compare_int.f a0_1 a1_1).bind fun t127 => ((cmp_Or_int.f k (([t126, t127] : List Int))).bind fun t131 => (some t131)))) = some r := h
 clear h
 replace H := Option.bind_eq_some_iff.mp H
 obtain ⟨t126, A30, H⟩ := H
 replace H : ((cmp_Compare_int.f a0_1 a1_1).bind fun t127 => ((cmp_Or_int.f k (([t126, t127] : List Int))).bind fun t131 => (some t131))) = some r := H
 have A3 := Aside0.mk A30
 clear A30
 replace H := Option.bind_eq_some_iff.mp H
 obtain ⟨t127, A40, H⟩ := H
 replace H : ((cmp_Or_int.f k (([t126, t127] : List Int))).bind fun t131 => (some t131)) = some r := H
 have A4 := Aside0.mk A40
 clear A40
 obtain ⟨y128, hy128⟩ : ∃ y_ : List Int, y_ = (([t126, t127] : List Int)) := ⟨_, rfl⟩
 replace H : ((cmp_Or_int.f k y128).bind fun t131 => (some t131)) = some r := by first | (rw [hy128]; with_reducible exact H) | (have H2_ := (Option.bind_some _ _).symm.trans H; rw [hy128]; with_reducible exact H2_) | (have H2_ := (Option.bind_some _ _).symm.trans H; with_reducible exact H2_) | with_reducible exact H | (rw [hy128]; exact H) | exact H
 have Ny128 := Aside0.mk hy128
 clear hy128
 replace H := Option.bind_eq_some_iff.mp H
 obtain ⟨t131, A50, H⟩ := H
 replace H : (some t131) = some r := H
 have A5 := Aside0.mk A50
 clear A50
 obtain rfl := Option.some.inj H
 go_enter Try.func77, Try.ntmps77
 try go_wp2_with (first | ((with_reducible refine gate_dst (N := 2) rfl ?_); refine box_event ?hg (N := 2) ?hd (cs := #[.int .i64 a0_0, .int .i64 a0_1]) (t := 47) ?hr ?_; (case hd => rfl); (case hg => rfl); (case hr => first | (go_simp; done) | (go_simp; rfl)); intro gb124 hg w6 hbox hb; have n0_ := Aside0.mk (below_step (by repeat (first | (with_reducible first | exact HB.out | apply below_alloc | apply pw_below_drewN | apply below_drew1) | exact HB.out)) hb); have n1_ := Aside0.mk (hbox); have n2_ := Aside0.mk ((by rw [hg]; exact (below_size (by repeat (first | (with_reducible first | exact HB.out | apply below_alloc | apply pw_below_drewN | apply below_drew1) | exact HB.out))) : w.heap.size ≤ gb124)); have n3_ := Aside0.mk ((by rw [hg]; exact (below_size (by repeat (first | (with_reducible first | exact HB.out | apply below_alloc | apply pw_below_drewN | apply below_drew1) | exact HB.out))) : w.heap.size ≤ gb124)); clear HB; have HB := n0_; have BK124 := n1_; have GW124 := n2_; have GE124 := n3_; clear n0_ n1_ n2_ n3_; clear hb hbox hg) | ((with_reducible refine gate_dst (N := 3) rfl ?_); refine box_event ?hg (N := 3) ?hd (cs := #[.int .i64 a1_0, .int .i64 a1_1]) (t := 47) ?hr ?_; (case hd => rfl); (case hg => rfl); (case hr => first | (go_simp; done) | (go_simp; rfl)); intro gb125 hg w7 hbox hb; have n0_ := Aside0.mk (blk_below (g := gb124) (o := .cells #[.int .i64 a0_0, .int .i64 a0_1] 47 (0, 0)) (by (with_reducible repeat (first | refine blk_drewN ?_ _ | refine blk_drew ?_ | refine blk_alloc ?_ _)); exact BK124.out) hb); have n1_ := Aside0.mk (below_step (by repeat (first | (with_reducible first | exact HB.out | apply below_alloc | apply pw_below_drewN | apply below_drew1 | refine below_set ?_ GE124.out) | exact HB.out)) hb); have n2_ := Aside0.mk (hbox); have n3_ := Aside0.mk ((by rw [hg]; exact (below_size (by repeat (first | (with_reducible first | exact HB.out | apply below_alloc | apply pw_below_drewN | apply below_drew1 | refine below_set ?_ GE124.out) | exact HB.out))) : w.heap.size ≤ gb125)); have n4_ := Aside0.mk ((by rw [hg]; exact (below_size (by repeat (first | (with_reducible first | exact HB.out | apply below_alloc | apply pw_below_drewN | apply below_drew1 | refine below_set ?_ GE124.out) | exact HB.out))) : w.heap.size ≤ gb125)); have n5_ := Aside0.mk ((by rw [hg]; exact Nat.ne_of_lt (blk_lt (g := gb124) (o := .cells #[.int .i64 a0_0, .int .i64 a0_1] 47 (0, 0)) (by (with_reducible repeat (first | refine blk_drewN ?_ _ | refine blk_drew ?_ | refine blk_alloc ?_ _)); exact BK124.out)) : gb124 ≠ gb125)); have n6_ := Aside0.mk ((by rw [hg]; exact Nat.ne_of_gt (blk_lt (g := gb124) (o := .cells #[.int .i64 a0_0, .int .i64 a0_1] 47 (0, 0)) (by (with_reducible repeat (first | refine blk_drewN ?_ _ | refine blk_drew ?_ | refine blk_alloc ?_ _)); exact BK124.out)) : gb125 ≠ gb124)); clear BK124; clear HB; have BK124 := n0_; have HB := n1_; have BK125 := n2_; have GW125 := n3_; have GE125 := n4_; have NB124_125 := n5_; have NB125_124 := n6_; clear n0_ n1_ n2_ n3_ n4_ n5_ n6_; clear hb hbox hg))
 have n0_ := Aside0.mk (blk_drew BK124.out)
 have n1_ := Aside0.mk (blk_drew BK125.out)
 have n2_ := Aside0.mk (below_drew1 HB.out)
 clear BK124
 clear BK125
 clear HB
 have BK124 := n0_
 have BK125 := n1_
 have HB := n2_
 clear n0_ n1_ n2_
 refine start_ (n := 13) (S := fun w' => w'.cell? ⟨gb124, 0, none⟩ = some (.int .i64 a0_0) ∧ w'.cell? ⟨gb124, 1, none⟩ = some (.int .i64 a0_1) ∧ w'.cell? ⟨gb125, 0, none⟩ = some (.int .i64 a1_0) ∧ w'.cell? ⟨gb125, 1, none⟩ = some (.int .i64 a1_1)) (ds := []) #[false, false, false, false, false, false, false, false, false, false, false, false, false] (by kernel_rfl) rfl rfl ⟨(blk_cell BK124.out 0).trans rfl, (blk_cell BK124.out 1).trans rfl, (blk_cell BK125.out 0).trans rfl, (blk_cell BK125.out 1).trans rfl⟩ (fun hHeld => ?_); refine with_tabW graph_Order.tab1 graph_Order.bits1 (fun HT_ HW_ => ?_)
 generalize w7.drew = w8 at BK124 BK125 HB hHeld ⊢
 refine pure_ (i := 0) (N := some 5) (v := ?_) (a' := ?_) #[true, false, false, false, false, false, false, false, false, false, false, false, false] rfl rfl (any_of HT_.out (by kernel_rfl)) (fun _ _ _ h => h) (Or.inl ⟨by rfl, ?_⟩) ?_ ?_
 rotate_left
 ·intro w'
  go_simp
  with_reducible rfl
 rotate_left
 ·simp only [Act.put, List.setIfInBounds_toArray, List.set_cons_zero, List.set_cons_succ, i64_w, i32_w]
  rfl
 refine pure_ (i := 2) (N := some 7) (v := ?_) (a' := ?_) #[true, false, true, false, false, false, false, false, false, false, false, false, false] rfl rfl (any_of HT_.out (by kernel_rfl)) (fun _ _ _ h => h) (Or.inl ⟨by rfl, ?_⟩) ?_ ?_
 rotate_left
 ·intro w'
  go_simp
  with_reducible rfl
 rotate_left
 ·simp only [Act.put, List.setIfInBounds_toArray, List.set_cons_zero, List.set_cons_succ, i64_w, i32_w]
  rfl
 refine pure_ (i := 5) (N := some 10) (v := ?_) (a' := ?_) #[true, false, true, false, false, true, false, false, false, false, false, false, false] rfl rfl (any_of HT_.out (by kernel_rfl)) (fun _ _ _ h => h) (Or.inl ⟨by rfl, ?_⟩) ?_ ?_
 rotate_left
 ·intro w'
  go_simp
  with_reducible rfl
 rotate_left
 ·simp only [Act.put, List.setIfInBounds_toArray, List.set_cons_zero, List.set_cons_succ, i64_w, i32_w]
  rfl
 refine pure_ (i := 7) (N := some 12) (v := ?_) (a' := ?_) #[true, false, true, false, false, true, false, true, false, false, false, false, false] rfl rfl (any_of HT_.out (by kernel_rfl)) (fun _ _ _ h => h) (Or.inl ⟨by rfl, ?_⟩) ?_ ?_
 rotate_left
 ·intro w'
  go_simp
  with_reducible rfl
 rotate_left
 ·simp only [Act.put, List.setIfInBounds_toArray, List.set_cons_zero, List.set_cons_succ, i64_w, i32_w]
  rfl
 refine take_ (i := 1) (N := some 6) (v := ?_) (a' := ?_) #[true, true, true, false, false, true, false, true, false, false, false, false, false] rfl rfl (take_ofW HT_.out HW_.out (by kernel_rfl)) (fun _ _ _ h => h) (Or.inl ⟨by rfl, ?_⟩) hHeld ?_ ?_
 rotate_left
 ·rintro w' ⟨s0, s1, s2, s3⟩
  go_simp
  with_reducible rfl
 rotate_left
 ·simp only [Act.put, List.setIfInBounds_toArray, List.set_cons_zero, List.set_cons_succ, i64_w, i32_w]
  rfl
 refine take_ (i := 3) (N := some 8) (v := ?_) (a' := ?_) #[true, true, true, true, false, true, false, true, false, false, false, false, false] rfl rfl (take_ofW HT_.out HW_.out (by kernel_rfl)) (fun _ _ _ h => h) (Or.inl ⟨by rfl, ?_⟩) hHeld ?_ ?_
 rotate_left
 ·rintro w' ⟨s0, s1, s2, s3⟩
  go_simp
  with_reducible rfl
 rotate_left
 ·simp only [Act.put, List.setIfInBounds_toArray, List.set_cons_zero, List.set_cons_succ, i64_w, i32_w]
  rfl
 refine take_ (i := 6) (N := some 11) (v := ?_) (a' := ?_) #[true, true, true, true, false, true, true, true, false, false, false, false, false] rfl rfl (take_ofW HT_.out HW_.out (by kernel_rfl)) (fun _ _ _ h => h) (Or.inl ⟨by rfl, ?_⟩) hHeld ?_ ?_
 rotate_left
 ·rintro w' ⟨s0, s1, s2, s3⟩
  go_simp
  with_reducible rfl
 rotate_left
 ·simp only [Act.put, List.setIfInBounds_toArray, List.set_cons_zero, List.set_cons_succ, i64_w, i32_w]
  rfl
 refine take_ (i := 8) (N := some 13) (v := ?_) (a' := ?_) #[true, true, true, true, false, true, true, true, true, false, false, false, false] rfl rfl (take_ofW HT_.out HW_.out (by kernel_rfl)) (fun _ _ _ h => h) (Or.inl ⟨by rfl, ?_⟩) hHeld ?_ ?_
 rotate_left
 ·rintro w' ⟨s0, s1, s2, s3⟩
  go_simp
  with_reducible rfl
 rotate_left
 ·simp only [Act.put, List.setIfInBounds_toArray, List.set_cons_zero, List.set_cons_succ, i64_w, i32_w]
  rfl
 refine one_ (i := 4) (N := some 9) #[true, true, true, true, true, true, true, true, true, false, false, false, false] rfl rfl (one_of HT_.out (by kernel_rfl)) (by decide) (fun K hK => ?_)
 refine goes_ Try.func82 (by kernel_rfl) rfl #[.int .i64 a0_0, .int .i64 a1_0] (by rfl) rfl rfl (by (try simp only [List.map_toArray, List.map_cons, List.map_nil]); first | done | rfl | (simp only [List.length_drop, List.length_take]; rfl)) ?_
 with_reducible refine (cmp_Compare_int.calls a0_0 a1_0 t126 _ A3.out).mono ?_
 rintro e w' ⟨rfl, ⟨nd, rfl⟩⟩
 refine ⟨_, rfl, ?_⟩
 refine hK.out _ _ ⟨(blk_cell BK124.out 0).trans rfl, (blk_cell BK124.out 1).trans rfl, (blk_cell BK125.out 0).trans rfl, (blk_cell BK125.out 1).trans rfl⟩ (fun hHeld => ?_)
 clear hK K
 refine norm_ (a' := ?_) ?_ ?_
 rotate_left
 ·show Act.put _ (some 9) _ = _
  simp only [Act.put, List.setIfInBounds_toArray, List.set_cons_zero, List.set_cons_succ, i64_w, i32_w]
  rfl
 refine one_ (i := 9) (N := some 14) #[true, true, true, true, true, true, true, true, true, true, false, false, false] rfl rfl (one_of HT_.out (by kernel_rfl)) (by decide) (fun K hK => ?_)
 refine goes_ Try.func82 (by kernel_rfl) rfl #[.int .i64 a0_1, .int .i64 a1_1] (by rfl) rfl rfl (by (try simp only [List.map_toArray, List.map_cons, List.map_nil]); first | done | rfl | (simp only [List.length_drop, List.length_take]; rfl)) ?_
 with_reducible refine (cmp_Compare_int.calls a0_1 a1_1 t127 _ A4.out).mono ?_
 rintro e w' ⟨rfl, ⟨nd, rfl⟩⟩
 refine ⟨_, rfl, ?_⟩
 refine hK.out _ _ ⟨(blk_cell BK124.out 0).trans rfl, (blk_cell BK124.out 1).trans rfl, (blk_cell BK125.out 0).trans rfl, (blk_cell BK125.out 1).trans rfl⟩ (fun hHeld => ?_)
 clear hK K
 refine norm_ (a' := ?_) ?_ ?_
 rotate_left
 ·show Act.put _ (some 14) _ = _
  simp only [Act.put, List.setIfInBounds_toArray, List.set_cons_zero, List.set_cons_succ, i64_w, i32_w]
  rfl
 refine one_ (i := 10) (N := some 15) #[true, true, true, true, true, true, true, true, true, true, true, false, false] rfl rfl (one_of HT_.out (by kernel_rfl)) (by decide) (fun K hK => ?_)
 refine Kd.R_lit_step (Kd.int .i64) _ 3 ?hg (N := 15) ?hd (xs := ([t126, t127] : List Int)) (inner := [.int .i64 t126, .int .i64 t127]) (ok := fun _ => True) (okp := fun _ => True) ?hr ?hp (fun _ hk => hk) trivial (Below.refl _ _) (Nat.le_refl _) (by simp) ?_; (case hd => rfl); (case hg => rfl); (case hr => first | (go_simp; done) | (go_simp; rfl)); (case hp => exact (Reps.one (show Kd.M (Kd.int .i64) _ _ _ t126 [.int .i64 t126] from rfl) (Reps.one (show Kd.M (Kd.int .i64) _ _ _ t127 [.int .i64 t127] from rfl) (Reps.none _ _))))
 intro v129 w9 ho10 hb hg_ hnew_
 clear hg_ hnew_
 (first | rw [← Ny128.out] at ho10 | (simp only [Int.reduceToNat] at ho10; rw [← Ny128.out] at ho10))
 have n0_ := Aside0.mk (Kd.R_lower ho10 (below_size (by repeat (first | (with_reducible first | exact HB.out | apply below_alloc | apply pw_below_drewN | apply below_drew1 | refine below_set ?_ GE124.out | refine below_set ?_ GE125.out) | exact HB.out))))
 have n1_ := Aside0.mk (blk_below (g := gb124) (o := .cells #[.int .i64 a0_0, .int .i64 a0_1] 47 (0, 0)) (by (with_reducible repeat (first | refine blk_drewN ?_ _ | refine blk_drew ?_ | refine blk_alloc ?_ _)); exact BK124.out) hb)
 have n2_ := Aside0.mk (blk_below (g := gb125) (o := .cells #[.int .i64 a1_0, .int .i64 a1_1] 47 (0, 0)) (by (with_reducible repeat (first | refine blk_drewN ?_ _ | refine blk_drew ?_ | refine blk_alloc ?_ _)); exact BK125.out) hb)
 have n3_ := Aside0.mk (below_step (by repeat (first | (with_reducible first | exact HB.out | apply below_alloc | apply pw_below_drewN | apply below_drew1 | refine below_set ?_ GE124.out | refine below_set ?_ GE125.out) | exact HB.out)) hb)
 clear BK124
 clear BK125
 clear HB
 have HO130 := n0_
 have BK124 := n1_
 have BK125 := n2_
 have HB := n3_
 clear n0_ n1_ n2_ n3_
 clear hb ho10
 obtain ⟨Ao11, co11, eo11⟩ := Kd.R_slice HO130.out
 (first | subst eo11 | (injection eo11 with f1_ f2_ f3_; have f4_ := f1_.symm; have f5_ := f3_.symm; clear f1_ f2_ f3_; subst f4_; subst f5_))
 refine hK.out _ _ ⟨(blk_cell BK124.out 0).trans rfl, (blk_cell BK124.out 1).trans rfl, (blk_cell BK125.out 0).trans rfl, (blk_cell BK125.out 1).trans rfl⟩ (fun hHeld => ?_)
 clear hK K
 refine norm_ (a' := ?_) ?_ ?_
 rotate_left
 ·show Act.put _ (some 15) _ = _
  simp only [Act.put, List.setIfInBounds_toArray, List.set_cons_zero, List.set_cons_succ, i64_w, i32_w]
  rfl
 refine one_ (i := 11) (N := some 16) #[true, true, true, true, true, true, true, true, true, true, true, true, false] rfl rfl (one_of HT_.out (by kernel_rfl)) (by decide) (fun K hK => ?_)
 refine goes_ Try.func81 (by kernel_rfl) rfl #[.slice Ao11 y128.length co11] (by rfl) rfl rfl (by (try simp only [List.map_toArray, List.map_cons, List.map_nil]); first | done | rfl | (simp only [List.length_drop, List.length_take]; rfl)) ?_
 with_reducible refine (cmp_Or_int.calls k _ _ y128 t131 _ ?side1 ?side2 A5.out).mono ?_
 (case side1 => repeat (first | exact (Kd.R_reads' HO130.out).2.2 | (with_reducible refine Kd.C_alloc ?_ _) | (with_reducible refine Kd.C_drewN ?_ _) | (with_reducible refine Kd.C_drew ?_)))
 (case side2 => exact (Kd.R_reads' HO130.out).2.1)
 rintro e w' ⟨rfl, ⟨nd, rfl⟩⟩
 refine ⟨_, rfl, ?_⟩
 refine hK.out _ _ ⟨(blk_cell BK124.out 0).trans rfl, (blk_cell BK124.out 1).trans rfl, (blk_cell BK125.out 0).trans rfl, (blk_cell BK125.out 1).trans rfl⟩ (fun hHeld => ?_)
 clear hK K
 refine norm_ (a' := ?_) ?_ ?_
 rotate_left
 ·show Act.put _ (some 16) _ = _
  simp only [Act.put, List.setIfInBounds_toArray, List.set_cons_zero, List.set_cons_succ, i64_w, i32_w]
  rfl
 refine pure_ (i := 12) (N := some 4) (v := ?_) (a' := ?_) #[true, true, true, true, true, true, true, true, true, true, true, true, true] rfl rfl (any_of HT_.out (by kernel_rfl)) (fun _ _ _ h => h) (Or.inl ⟨by rfl, ?_⟩) ?_ ?_
 rotate_left
 ·intro w'
  go_simp
  with_reducible rfl
 rotate_left
 ·simp only [Act.put, List.setIfInBounds_toArray, List.set_cons_zero, List.set_cons_succ, i64_w, i32_w]
  rfl
 refine done_ (done_of HT_.out (by kernel_rfl)) ?_
 try go_wp2
 go_ret
 exact ⟨by first | rfl | (simp [errW_none, errW_some] <;> rfl) | (simp [*, errW_none, errW_some] <;> rfl), by repeat (first | (with_reducible first | exact HB.out | apply below_alloc | apply pw_below_drewN | apply below_drew1 | refine below_set ?_ GE124.out | refine below_set ?_ GE125.out) | exact HB.out)⟩

/-! ### graph_Is: function 55 -/
def graph_Is.l0 : Nat → List (S47) → Int → Int → Int → Int → Option Bool
  | 0, _, _, _, _, _ => none
  | k + 1, xs, t0, t1, i, j => if i < j then (if 0 ≤ i ∧ j ≤ (xs.length : Int) then (graph_Order.f k (rd_T47 xs ((i + j) / 2)).f0 (rd_T47 xs ((i + j) / 2)).f1 t0 t1).bind fun c => (if c < 0 then graph_Is.l0 k xs t0 t1 ((i + j) / 2 + 1) j else graph_Is.l0 k xs t0 t1 i ((i + j) / 2)) else none)
    else (if i < (xs.length : Int) then (if 0 ≤ i then (graph_Order.f k (rd_T47 xs i).f0 (rd_T47 xs i).f1 t0 t1).bind fun c => some (c == 0) else none) else some false)
def graph_Is.f (k : Nat) (l0_0 : List (S23)) (l0_1 : List (S36)) (a1_0 : Int) (a1_1 : Int) : Option Bool := (graph_Locs.f k l0_0 l0_1).bind fun xs => if xs.length ≤ 140737488355328 then graph_Is.l0 k xs a1_0 a1_1 0 (xs.length : Int) else none
theorem graph_Is.mono_l : ∀ k, (∀ y0 y1 y2 y3 y4, LeO (graph_Is.l0 k y0 y1 y2 y3 y4) (graph_Is.l0 (k + 1) y0 y1 y2 y3 y4))
  | 0 => fun _ _ _ _ _ r h => by simp [graph_Is.l0] at h
  | k + 1 => by
    have ih0 := graph_Is.mono_l k
    intro y0 y1 y2 y3 y4
    unfold graph_Is.l0
    repeat' first
      | (with_reducible exact ih0 _ _ _ _ _)
      | (with_reducible exact graph_Order.mono _ _ _ _ _)
      | (with_reducible exact graph_Locs.mono _ _ _)
      | (with_reducible exact LeO.refl _)
      | (with_reducible exact LeO.none _)
      | (with_reducible refine LeO.ite ?_ ?_)
      | (with_reducible refine LeO.bind ?_ (fun _ => ?_))
theorem graph_Is.mono : ∀ a0 a1 a2 a3 k, LeO (graph_Is.f k a0 a1 a2 a3) (graph_Is.f (k + 1) a0 a1 a2 a3) := by
  intro a0 a1 a2 a3 k
  have ih0 := graph_Is.mono_l k
  unfold graph_Is.f
  repeat' first
      | (with_reducible exact ih0 _ _ _ _ _)
      | (with_reducible exact graph_Order.mono _ _ _ _ _)
      | (with_reducible exact graph_Locs.mono _ _ _)
      | (with_reducible exact LeO.refl _)
      | (with_reducible refine LeO.ite ?_ ?_)
      | (with_reducible refine LeO.bind ?_ (fun _ => ?_))
set_option maxHeartbeats 4000000 in
set_option maxRecDepth 100000 in
theorem bs_calls (k : Nat) (A : Option Addr) (c : Nat) (xs : List (S47)) (t0 t1 : Int) (r : Bool) (w : World)
    (hr : Kd.C k47 w A xs.length xs) (hl : xs.length ≤ 140737488355328) (h : graph_Is.l0 k xs t0 t1 0 (xs.length : Int) = some r) :
    Calls Try.prog 76 #[.slice A xs.length c, .agg #[.int .i64 t0, .int .i64 t1], .func (.func 77) #[] #[]] w fun e w' => (∃ pos : Int, e = .returned (.tuple #[.int .i64 pos, .bool r])) ∧ Below w.heap.size w w' := by
  have hu23 := Try.underlying47
  have HR := Aside0.mk hr
  have H' := Aside0.mk h
  have HL := Aside0.mk hl
  clear hr h hl
  go_enter Try.func76, Try.ntmps76
  go_wp2_with (fail)
  go_loopg [9, 10] k (fun kq v9 v10 w' => ∃ (i j : Int), v9 = .int .i64 i ∧ v10 = .int .i64 j ∧ Aside0 (graph_Is.l0 kq xs t0 t1 i j = some r) ∧ Aside0 (kq ≤ k) ∧ Aside0 (0 ≤ i ∧ i ≤ j ∧ j ≤ (xs.length : Int)) ∧ Aside0 (w'.heap[w.heap.size]? = some (.cells #[.int .i64 t0, .int .i64 t1] 47 (0, 0))) ∧ Aside0 (Below w.heap.size w w'))
  case atStart => exact ⟨0, _, rfl, rfl, H', ⟨Nat.le_refl _⟩, ⟨by omega, by omega, by omega⟩, ⟨blk_new _ _⟩, ⟨below_alloc (Below.refl _ _) _⟩⟩
  case round =>
    clear H'
    obtain ⟨i, j, rfl, rfl, HA, HK1, HI, BK, HB⟩ := hrel
    cases gk with
    | zero => exact absurd HA.out (by simp [graph_Is.l0])
    | succ k1 =>
      have H := HA.out
      clear HA
      simp only [graph_Is.l0] at H
      have hI := HI.out
      have hL := HL.out
      by_cases c6 : i < j
      · rw [if_pos c6, if_pos ⟨hI.1, hI.2.2⟩] at H
        obtain ⟨cc, HO, H⟩ := Option.bind_eq_some_iff.mp H
        have HO1 := Aside0.mk HO
        clear HO
        have hsum : IntKind.i64.wrap (i + j) = i + j := by rw [IntKind.wrap_i64]; omega
        have hsum2 : wrap64 (i + j) = i + j := by unfold wrap64; omega
        have c6b0 : decide (i < j) = true := decide_eq_true c6
        have HB' := HB.out
        obtain ⟨ad, e168, hx0, hx1⟩ := at_T47 HR.out ((i + j) / 2) (by omega) (by omega)
        cases e168
        replace hx0 := (HB'.cell (World.block_lt_of_cell? w _ hx0)).trans hx0
        replace hx1 := (HB'.cell (World.block_lt_of_cell? w _ hx1)).trans hx1
        have ht0 : wr.cell? ⟨w.heap.size, 0, none⟩ = some (.int .i64 t0) := (blk_cell BK.out 0).trans rfl
        have ht1 : wr.cell? ⟨w.heap.size, 1, none⟩ = some (.int .i64 t1) := (blk_cell BK.out 1).trans rfl
        have p0 : (0 ≤ (i + j) / 2) = True := eq_true (by omega)
        have p1 : ((i + j) / 2 < (xs.length : Int)) = True := eq_true (by omega)
        have p0b : decide (0 ≤ (i + j) / 2) = true := decide_eq_true (by omega)
        have p1b : decide ((i + j) / 2 < (xs.length : Int)) = true := decide_eq_true (by omega)
        have hmid : i ≤ (i + j) / 2 ∧ (i + j) / 2 < j := by omega
        have HM := Aside0.mk hmid
        have HH := Aside0.mk H
        have hs3 : IntKind.i64.wrap ((i + j) / 2 + 1) = (i + j) / 2 + 1 := by rw [IntKind.wrap_i64]; omega
        have hs4 : wrap64 ((i + j) / 2 + 1) = (i + j) / 2 + 1 := by unfold wrap64; omega
        clear H HB' c6 hmid
        by_cases c9 : cc < 0
        · have c9b : decide (cc < 0) = true := decide_eq_true c9
          clear c9
          go_wp2_with (fail)
          go_region_held3 (fun w' => w'.cell? (ad.add (((i + j) / 2).toNat * 2)) = some (.int .i64 (rd_T47 xs ((i + j) / 2)).f0) ∧ w'.cell? ⟨(ad.add (((i + j) / 2).toNat * 2)).block, (ad.add (((i + j) / 2).toNat * 2)).off + 1, none⟩ = some (.int .i64 (rd_T47 xs ((i + j) / 2)).f1) ∧ w'.cell? ⟨w.heap.size, 0, none⟩ = some (.int .i64 t0) ∧ w'.cell? ⟨w.heap.size, 1, none⟩ = some (.int .i64 t1)) (go_keep)
            (first | (go_at_call 77; (with_reducible refine (graph_Order.calls k1 (rd_T47 xs ((i + j) / 2)).f0 (rd_T47 xs ((i + j) / 2)).f1 t0 t1 cc _ HO1.out).mono ?_); rintro e w1 ⟨rfl, hb⟩; have q0 := (hb.cell (World.block_lt_of_cell? _ _ (show wr.drew.cell? _ = _ from hx0))).trans hx0; have q1 := (hb.cell (World.block_lt_of_cell? _ _ (show wr.drew.cell? _ = _ from hx1))).trans hx1; have q2 := (hb.cell (World.block_lt_of_cell? _ _ (show wr.drew.cell? _ = _ from ht0))).trans ht0; have q3 := (hb.cell (World.block_lt_of_cell? _ _ (show wr.drew.cell? _ = _ from ht1))).trans ht1; have HB1 := Aside0.mk (below_step (below_drew HB.out) hb); have BK1 := Aside0.mk (blk_below (blk_drew BK.out) hb); clear hb))
          go_wp2
          go_roundg k1
          case measure => have := HK1.out; omega
          case rel =>
            have hM := HM.out
            have H := HH.out
            rw [if_pos (of_decide_eq_true c9b)] at H
            exact ⟨_, _, rfl, rfl, ⟨H⟩, ⟨by have := HK1.out; omega⟩, ⟨by omega, by omega, by omega⟩, BK1, HB1⟩
        · have c9b : decide (cc < 0) = false := decide_eq_false c9
          clear c9
          go_wp2_with (fail)
          go_region_held3 (fun w' => w'.cell? (ad.add (((i + j) / 2).toNat * 2)) = some (.int .i64 (rd_T47 xs ((i + j) / 2)).f0) ∧ w'.cell? ⟨(ad.add (((i + j) / 2).toNat * 2)).block, (ad.add (((i + j) / 2).toNat * 2)).off + 1, none⟩ = some (.int .i64 (rd_T47 xs ((i + j) / 2)).f1) ∧ w'.cell? ⟨w.heap.size, 0, none⟩ = some (.int .i64 t0) ∧ w'.cell? ⟨w.heap.size, 1, none⟩ = some (.int .i64 t1)) (go_keep)
            (first | (go_at_call 77; (with_reducible refine (graph_Order.calls k1 (rd_T47 xs ((i + j) / 2)).f0 (rd_T47 xs ((i + j) / 2)).f1 t0 t1 cc _ HO1.out).mono ?_); rintro e w1 ⟨rfl, hb⟩; have q0 := (hb.cell (World.block_lt_of_cell? _ _ (show wr.drew.cell? _ = _ from hx0))).trans hx0; have q1 := (hb.cell (World.block_lt_of_cell? _ _ (show wr.drew.cell? _ = _ from hx1))).trans hx1; have q2 := (hb.cell (World.block_lt_of_cell? _ _ (show wr.drew.cell? _ = _ from ht0))).trans ht0; have q3 := (hb.cell (World.block_lt_of_cell? _ _ (show wr.drew.cell? _ = _ from ht1))).trans ht1; have HB1 := Aside0.mk (below_step (below_drew HB.out) hb); have BK1 := Aside0.mk (blk_below (blk_drew BK.out) hb); clear hb))
          go_wp2
          go_roundg k1
          case measure => have := HK1.out; omega
          case rel =>
            have hM := HM.out
            have H := HH.out
            rw [if_neg (of_decide_eq_false c9b)] at H
            exact ⟨_, _, rfl, rfl, ⟨H⟩, ⟨by have := HK1.out; omega⟩, ⟨by omega, by omega, by omega⟩, BK1, HB1⟩
      · have c6b0 : decide (i < j) = false := decide_eq_false c6
        rw [if_neg c6] at H
        have HB' := HB.out
        clear c6
        by_cases c7 : i < (xs.length : Int)
        · rw [if_pos c7, if_pos hI.1] at H
          obtain ⟨cc, HO, H⟩ := Option.bind_eq_some_iff.mp H
          obtain rfl := Option.some.inj H
          have HO1 := Aside0.mk HO
          clear HO
          obtain ⟨ad, e168, hx0, hx1⟩ := at_T47 HR.out i hI.1 c7
          cases e168
          replace hx0 := (HB'.cell (World.block_lt_of_cell? w _ hx0)).trans hx0
          replace hx1 := (HB'.cell (World.block_lt_of_cell? w _ hx1)).trans hx1
          have ht0 : wr.cell? ⟨w.heap.size, 0, none⟩ = some (.int .i64 t0) := (blk_cell BK.out 0).trans rfl
          have ht1 : wr.cell? ⟨w.heap.size, 1, none⟩ = some (.int .i64 t1) := (blk_cell BK.out 1).trans rfl
          have p0 : (0 ≤ i) = True := eq_true hI.1
          have p0b : decide (0 ≤ i) = true := decide_eq_true hI.1
          have p1b : decide (i < (xs.length : Int)) = true := decide_eq_true c7
          have p1 : (i < (xs.length : Int)) = True := eq_true c7
          clear c7 hI HB'
          go_wp2_with (fail)
          go_region_held3 (fun w' => w'.cell? (ad.add (i.toNat * 2)) = some (.int .i64 (rd_T47 xs i).f0) ∧ w'.cell? ⟨(ad.add (i.toNat * 2)).block, (ad.add (i.toNat * 2)).off + 1, none⟩ = some (.int .i64 (rd_T47 xs i).f1) ∧ w'.cell? ⟨w.heap.size, 0, none⟩ = some (.int .i64 t0) ∧ w'.cell? ⟨w.heap.size, 1, none⟩ = some (.int .i64 t1)) (go_keep)
            (first | (go_at_call 77; (with_reducible refine (graph_Order.calls k1 (rd_T47 xs i).f0 (rd_T47 xs i).f1 t0 t1 cc _ HO1.out).mono ?_); rintro e w1 ⟨rfl, hb⟩; have q0 := (hb.cell (World.block_lt_of_cell? _ _ (show wr.drew.cell? _ = _ from hx0))).trans hx0; have q1 := (hb.cell (World.block_lt_of_cell? _ _ (show wr.drew.cell? _ = _ from hx1))).trans hx1; have q2 := (hb.cell (World.block_lt_of_cell? _ _ (show wr.drew.cell? _ = _ from ht0))).trans ht0; have q3 := (hb.cell (World.block_lt_of_cell? _ _ (show wr.drew.cell? _ = _ from ht1))).trans ht1; have HB1 := Aside0.mk (below_step (below_drew HB.out) hb); clear hb))
          go_wp2
          go_ret2
          exact ⟨⟨_, rfl⟩, HB1.out⟩
        · rw [if_neg c7] at H
          obtain rfl := Option.some.inj H
          have p1b : decide (i < (xs.length : Int)) = false := decide_eq_false c7
          clear c7 hI HB'
          go_wp2_with (fail)
          go_quiet (fail)
          go_wp2
          go_ret2
          exact ⟨⟨_, rfl⟩, pw_below_drewN HB.out _⟩
set_option maxHeartbeats 8000000 in
set_option maxRecDepth 100000 in
theorem graph_Is.calls (k : Nat) (A0_0 : Option Addr) (c0_0 : Nat) (l0_0 : List (S23)) (A0_1 : Option Addr) (c0_1 : Nat) (l0_1 : List (S36)) (a1_0 : Int) (a1_1 : Int) (r : Bool) (w : World) (hr0_0 : Kd.C k23 w A0_0 l0_0.length l0_0) (hc0_0 : l0_0.length ≤ c0_0) (hr0_1 : Kd.C k36 w A0_1 l0_1.length l0_1) (hc0_1 : l0_1.length ≤ c0_1) (h : graph_Is.f k l0_0 l0_1 a1_0 a1_1 = some r) :
    Calls Try.prog 55 #[.agg #[.slice A0_0 l0_0.length c0_0, .slice A0_1 l0_1.length c0_1], .agg #[.int .i64 a1_0, .int .i64 a1_1]] w fun e w' => e = .returned (.bool r) ∧ Below w.heap.size w w' := by
  have hu30 := Try.underlying29
  have hu23 := Try.underlying47
  have H : ((graph_Locs.f k l0_0 l0_1).bind fun xs => if xs.length ≤ 140737488355328 then graph_Is.l0 k xs a1_0 a1_1 0 (xs.length : Int) else none) = some r := h
  clear h
  obtain ⟨xs, H1, H2⟩ := Option.bind_eq_some_iff.mp H
  clear H
  have hlen : xs.length ≤ 140737488355328 := by
    rcases Nat.lt_or_ge 140737488355328 xs.length with h | h
    · rw [if_neg (by omega)] at H2; cases H2
    · exact h
  rw [if_pos hlen] at H2
  have HL := Aside0.mk H1
  have HI := Aside0.mk H2
  have HN := Aside0.mk hlen
  have HR0 := Aside0.mk hr0_0
  have HC0 := Aside0.mk hc0_0
  have HR1 := Aside0.mk hr0_1
  have HC1 := Aside0.mk hc0_1
  clear H1 H2 hlen hr0_0 hc0_0 hr0_1 hc0_1
  obtain ⟨W0, hW0⟩ : ∃ W0 : World, W0 = (w.alloc (.cells #[.slice A0_0 l0_0.length c0_0, .slice A0_1 l0_1.length c0_1] 29)).alloc (.cells #[.int .i64 a1_0, .int .i64 a1_1] 47) := ⟨_, rfl⟩
  have HB := Aside0.mk (show Below w.heap.size w W0 from by rw [hW0]; exact below_alloc (below_alloc (Below.refl w.heap.size w) _) _)
  have B2 := Aside0.mk (show W0.heap[w.heap.size]? = some (.cells #[.slice A0_0 l0_0.length c0_0, .slice A0_1 l0_1.length c0_1] 29 (0, 0)) from by rw [hW0]; exact blk_alloc (blk_new _ _) _)
  have B3 := Aside0.mk (show W0.heap[w.heap.size + 1]? = some (.cells #[.int .i64 a1_0, .int .i64 a1_1] 47 (0, 0)) from by rw [hW0]; have := blk_new (w.alloc (.cells #[.slice A0_0 l0_0.length c0_0, .slice A0_1 l0_1.length c0_1] 29)) (.cells #[.int .i64 a1_0, .int .i64 a1_1] 47); simpa using this)
  have HW := Aside0.mk hW0
  clear hW0
  go_enter Try.func55, Try.ntmps55
  go_wp2_with (fail)
  rw [← HW.out]
  have hx0 : W0.cell? ⟨w.heap.size, 0, none⟩ = some (.slice A0_0 l0_0.length c0_0) := (blk_cell B2.out 0).trans rfl
  have hx1 : W0.cell? ⟨w.heap.size, 1, none⟩ = some (.slice A0_1 l0_1.length c0_1) := (blk_cell B2.out 1).trans rfl
  have ht0 : W0.cell? ⟨w.heap.size + 1, 0, none⟩ = some (.int .i64 a1_0) := (blk_cell B3.out 0).trans rfl
  have ht1 : W0.cell? ⟨w.heap.size + 1, 1, none⟩ = some (.int .i64 a1_1) := (blk_cell B3.out 1).trans rfl
  go_region_held3 (fun w' => w'.cell? ⟨w.heap.size, 0, none⟩ = some (.slice A0_0 l0_0.length c0_0) ∧ w'.cell? ⟨w.heap.size, 1, none⟩ = some (.slice A0_1 l0_1.length c0_1) ∧ w'.cell? ⟨w.heap.size + 1, 0, none⟩ = some (.int .i64 a1_0) ∧ w'.cell? ⟨w.heap.size + 1, 1, none⟩ = some (.int .i64 a1_1)) (go_keep)
    (first
      | (go_at_call 52; (with_reducible refine (graph_Locs.calls k A0_0 c0_0 l0_0 A0_1 c0_1 l0_1 xs _ (Kd.C_below HR0.out (below_drew HB.out)) HC0.out (Kd.C_below HR1.out (below_drew HB.out)) HC1.out HL.out).mono ?_); rintro e w1 ⟨v0, rfl, ho, hb⟩; obtain ⟨Ao, co, eo⟩ := Kd.R_slice ho; subst eo; have HO := Aside0.mk (Kd.R_reads' ho).2.2; have HOc := Aside0.mk (Kd.R_reads' ho).2.1; clear ho; have q0 := (hb.cell (World.block_lt_of_cell? _ _ (show W0.drew.cell? _ = _ from hx0))).trans hx0; have q1 := (hb.cell (World.block_lt_of_cell? _ _ (show W0.drew.cell? _ = _ from hx1))).trans hx1; have q2 := (hb.cell (World.block_lt_of_cell? _ _ (show W0.drew.cell? _ = _ from ht0))).trans ht0; have q3 := (hb.cell (World.block_lt_of_cell? _ _ (show W0.drew.cell? _ = _ from ht1))).trans ht1; have HB1 := Aside0.mk (below_step (below_drew HB.out) hb); clear hb)
      | (go_at_call 76; (with_reducible refine (bs_calls k Ao co xs a1_0 a1_1 r _ HO.out HN.out HI.out).mono ?_); rintro e w2 ⟨⟨pos, rfl⟩, hb⟩; have r0 := (hb.cell (World.block_lt_of_cell? _ _ q0)).trans q0; have r1 := (hb.cell (World.block_lt_of_cell? _ _ q1)).trans q1; have r2 := (hb.cell (World.block_lt_of_cell? _ _ q2)).trans q2; have r3 := (hb.cell (World.block_lt_of_cell? _ _ q3)).trans q3; have HB2 := Aside0.mk (below_step HB1.out hb); clear hb))
  go_wp2
  go_ret
  exact ⟨rfl, HB2.out⟩

/-! ### graph_Next: function 17 -/
def graph_Next.l0 : Nat → List (S36) → Int → List (S47) → Int → Option (List (S47))
  | 0, _, _, _, _ => none
  | k + 1, es, x1, x5, x6 => if x6 < (es.length : Int) then (if 0 ≤ x6 then (if (rd_T36 es x6).f0 = x1 then (if x5.length < 8796093022208 then graph_Next.l0 k es x1 (x5 ++ [(⟨(rd_T36 es x6).f1, (rd_T36 es x6).f2⟩ : S47)]) (wrap64 (x6 + 1)) else none) else graph_Next.l0 k es x1 x5 (wrap64 (x6 + 1))) else none) else some x5
def graph_Next.f (k : Nat) (l0_0 : List (S23)) (l0_1 : List (S36)) (a1 : Int) : Option (List (S47)) := graph_Next.l0 k l0_1 a1 [] 0
theorem graph_Next.mono_l : ∀ k, (∀ y0 y1 y2 y3, LeO (graph_Next.l0 k y0 y1 y2 y3) (graph_Next.l0 (k + 1) y0 y1 y2 y3))
  | 0 => fun _ _ _ _ r h => by simp [graph_Next.l0] at h
  | k + 1 => by
    have ih0 := graph_Next.mono_l k
    intro y0 y1 y2 y3
    unfold graph_Next.l0
    repeat' first
      | (with_reducible exact ih0 _ _ _ _)
      | (with_reducible exact LeO.refl _)
      | (with_reducible exact LeO.none _)
      | (with_reducible refine LeO.ite ?_ ?_)
      | (with_reducible refine LeO.bind ?_ (fun _ => ?_))
theorem graph_Next.mono : ∀ a0 a1 a2 k, LeO (graph_Next.f k a0 a1 a2) (graph_Next.f (k + 1) a0 a1 a2) := by
  intro a0 a1 a2 k
  have ih0 := graph_Next.mono_l k
  unfold graph_Next.f
  repeat' first
      | (with_reducible exact ih0 _ _ _ _)
      | (with_reducible exact LeO.refl _)
      | (with_reducible refine LeO.ite ?_ ?_)
      | (with_reducible refine LeO.bind ?_ (fun _ => ?_))
theorem bcell {W w1 : World} (hb : Below W.heap.size W w1) : (∀ b o, b < W.heap.size → w1.cell? ⟨b, o, none⟩ = W.cell? ⟨b, o, none⟩) ∧ (∀ b o, b < W.heap.size → w1.frozen? ⟨b, o, none⟩ = W.frozen? ⟨b, o, none⟩) :=
  ⟨fun b o h => hb.cell (p := ⟨b, o, none⟩) h, fun b o h => hb.frozen (p := ⟨b, o, none⟩) h⟩
set_option maxHeartbeats 2000000 in
set_option maxRecDepth 100000 in
theorem next1_calls (e0 e1 e2 node : Int) (g : Nat) (w : World) (hg : w.heap[g]? = some (.cells #[.int .i64 node] 3 (0, 0))) :
    Calls Try.prog 36 #[.agg #[.int .i64 e0, .int .i64 e1, .int .i64 e2], .pointer (some ⟨g, 0, none⟩)] w fun e w' => e = .returned (.tuple #[.agg #[.int .i64 e1, .int .i64 e2], .bool (e0 == node)]) ∧ Below w.heap.size w w' := by
  have hu35 := Try.underlying36
  have hu23 := Try.underlying47
  have hgl : g < w.heap.size := blk_lt hg
  have hcg : w.cell? ⟨g, 0, none⟩ = some (.int .i64 node) := (blk_cell hg 0).trans rfl
  have hz : graph_end.f e0 e1 e2 = some (e1, e2) := rfl
  have HZ := Aside0.mk hz
  clear hz
  have HG := Aside0.mk hg
  clear hg
  have hne1 : (g = w.heap.size) = False := eq_false (by omega)
  have hne2 : (g = w.heap.size + 1) = False := eq_false (by omega)
  have hne3 : (w.heap.size = g) = False := eq_false (by omega)
  have hne4 : (w.heap.size + 1 = g) = False := eq_false (by omega)
  go_enter Try.func36, Try.ntmps36
  go_wp2
  go_region_held3 (fun w' => w'.cell? ⟨w.heap.size, 0, none⟩ = some (.int .i64 e0) ∧ w'.cell? ⟨w.heap.size, 1, none⟩ = some (.int .i64 e1) ∧ w'.cell? ⟨w.heap.size, 2, none⟩ = some (.int .i64 e2) ∧ w'.cell? ⟨g, 0, none⟩ = some (.int .i64 node)) (go_keep)
    (first | (go_at_call 37; (with_reducible refine (graph_end.calls e0 e1 e2 e1 e2 _ HZ.out).mono ?_); rintro e w1 ⟨rfl, hb⟩; obtain ⟨hc, hf⟩ := bcell hb; have q0 : w1.cell? ⟨w.heap.size, 0, none⟩ = some (.int .i64 e0) := (hc w.heap.size 0 (by simp <;> omega)).trans ((blk_cell (blk_drew (blk_alloc (blk_new w _) _)) 0).trans rfl); have q1 : w1.cell? ⟨w.heap.size, 1, none⟩ = some (.int .i64 e1) := (hc w.heap.size 1 (by simp <;> omega)).trans ((blk_cell (blk_drew (blk_alloc (blk_new w _) _)) 1).trans rfl); have q2 : w1.cell? ⟨w.heap.size, 2, none⟩ = some (.int .i64 e2) := (hc w.heap.size 2 (by simp <;> omega)).trans ((blk_cell (blk_drew (blk_alloc (blk_new w _) _)) 2).trans rfl); have q3 : w1.cell? ⟨g, 0, none⟩ = some (.int .i64 node) := (hc g 0 (by simp <;> omega)).trans (by go_simp); have q4 : w1.cell? ⟨w.heap.size + 1, 0, none⟩ = some (.int .i64 0) := (hc (w.heap.size + 1) 0 (by simp <;> omega)).trans (by go_simp); have q5 : w1.cell? ⟨w.heap.size + 1, 1, none⟩ = some (.int .i64 0) := (hc (w.heap.size + 1) 1 (by simp <;> omega)).trans (by go_simp); have f4 : w1.frozen? ⟨w.heap.size + 1, 0, none⟩ = false := (hf (w.heap.size + 1) 0 (by simp <;> omega)).trans (by go_simp); have f5 : w1.frozen? ⟨w.heap.size + 1, 1, none⟩ = false := (hf (w.heap.size + 1) 1 (by simp <;> omega)).trans (by go_simp); clear hc hf; have B3 := Aside0.mk (show w1.heap[w.heap.size + 1]? = some (.cells #[.int .i64 0, .int .i64 0] 47 (0, 0)) from blk_below (blk_drew (by have := blk_new (w.alloc (.cells #[.int .i64 e0, .int .i64 e1, .int .i64 e2] 36)) (.cells #[.int .i64 0, .int .i64 0] 47); simpa using this)) hb); have HBB := Aside0.mk (below_step (below_drew (below_alloc (below_alloc (Below.refl w.heap.size w) _) _)) hb); clear hb))
  go_wp2
  refine bodyPost_ret (results_ct rfl _ _ (w.heap.size + 1) 47 #[.int .i64 e1, .int .i64 e2] (0, 0) _ rfl (blk_put (cs := #[.int .i64 e1, .int .i64 0]) (blk_put (cs := #[.int .i64 0, .int .i64 0]) B3.out 0 _ rfl) 1 _ rfl) Try.underlying47 rfl (by kernel_rfl)) rfl ?_
  exact ⟨rfl, below_set (below_set HBB.out (by omega)) (by omega)⟩
set_option maxHeartbeats 4000000 in
set_option maxRecDepth 100000 in
theorem each_loc (k : Nat) (A0 : Option Addr) (c0 : Nat) (l0 : List (S23)) (A1 : Option Addr) (c1 : Nat) (l1 : List (S36)) (node : Int) (g : Nat) (r : List (S47)) (w : World)
    (hr1 : Kd.C k36 w A1 l1.length l1) (hg : w.heap[g]? = some (.cells #[.int .i64 node] 3 (0, 0))) (h : graph_Next.l0 k l1 node [] 0 = some r) :
    Calls Try.prog 35 #[.agg #[.slice A0 l0.length c0, .slice A1 l1.length c1], .func (.func 36) #[] #[.pointer (some ⟨g, 0, none⟩)]] w fun e w' => ∃ v0_ : Value, e = .returned (v0_) ∧ Kd.R k47 47 w' w.heap.size (fun _ => True) v0_ r ∧ Below w.heap.size w w' := by
  have hu30 := Try.underlying29
  have hu35 := Try.underlying36
  have hu23 := Try.underlying47
  have HR := Aside0.mk hr1
  have HG := Aside0.mk hg
  have H' := Aside0.mk h
  have HB := Aside0.mk (Below.refl w.heap.size w)
  clear hr1 hg h
  go_enter Try.func35, Try.ntmps35
  go_wp2_with (fail)
  go_loopg [5, 13] k (fun kq v5 v13 w' => ∃ (x5 : List (S47)) (i : Int), v13 = .int .i64 i ∧ Aside0 (graph_Next.l0 kq l1 node x5 i = some r) ∧ Aside0 (kq ≤ k) ∧ Aside0 (Kd.R k47 47 w' w.heap.size (fun _ => True) v5 x5) ∧ Aside0 (Below w.heap.size w w'))
  case atStart => exact ⟨[], 0, rfl, H', ⟨Nat.le_refl _⟩, ⟨Kd.R_nil _ _ _ _ _⟩, ⟨below_alloc HB.out _⟩⟩
  case round =>
    clear H' HB
    obtain ⟨x5, i, rfl, HA, HK1, HO, HB⟩ := hrel
    cases gk with
    | zero => exact absurd HA.out (by simp [graph_Next.l0])
    | succ k1 =>
      have H := HA.out
      clear HA
      simp only [graph_Next.l0] at H
      by_cases c6 : i < (l1.length : Int)
      · rw [if_pos c6] at H
        by_cases c7 : 0 ≤ i
        · rw [if_pos c7] at H
          have c6b0 : decide (i < (l1.length : Int)) = true := decide_eq_true c6
          have c7b0 : decide (0 ≤ i) = true := decide_eq_true c7
          obtain ⟨ad, e168, hx0, hx1, hx2⟩ := at_T36 HR.out i c7 c6
          cases e168
          replace hx0 := (HB.out.cell (World.block_lt_of_cell? w _ hx0)).trans hx0
          replace hx1 := (HB.out.cell (World.block_lt_of_cell? w _ hx1)).trans hx1
          replace hx2 := (HB.out.cell (World.block_lt_of_cell? w _ hx2)).trans hx2
          have HH := Aside0.mk H
          clear H
          replace c6 := eq_true c6
          replace c7 := eq_true c7
          have HGr := Aside0.mk (blk_below HG.out HB.out)
          go_upto_region 5 with (fail)
          go_cut [8, 9] (fun v8 v9 wc => ∃ b : Nat, v8 = .pointer (some ⟨b, 0, none⟩) ∧ v9 = .bool ((rd_T36 l1 i).f0 == node) ∧ Aside0 (wc.heap[b]? = some (.cells #[.int .i64 (rd_T36 l1 i).f1, .int .i64 (rd_T36 l1 i).f2] 47 (0, 0))) ∧ Aside0 (Below wr.heap.size wr wc))
          case first =>
            go_wp2_with (first | (go_at_call 36; (with_reducible refine (next1_calls (rd_T36 l1 i).f0 (rd_T36 l1 i).f1 (rd_T36 l1 i).f2 node g _ (blk_alloc HGr.out _)).mono ?_); rintro e w1 ⟨rfl, hb⟩; have HBr := Aside0.mk (below_step (below_alloc (Below.refl wr.heap.size wr) _) hb); clear hb))
            go_meet
            case rel => exact ⟨_, rfl, rfl, ⟨blk_new _ _⟩, ⟨below_alloc HBr.out _⟩⟩
          case rest =>
            obtain ⟨b, rfl, rfl, BK, HBr⟩ := hcut
            have hcb0 : wc.cell? ⟨b, 0, none⟩ = some (.int .i64 (rd_T36 l1 i).f1) := (blk_cell BK.out 0).trans rfl
            have hcb1 : wc.cell? ⟨b, 1, none⟩ = some (.int .i64 (rd_T36 l1 i).f2) := (blk_cell BK.out 1).trans rfl
            have HO2 := Aside0.mk (Kd.R_below HO.out HBr.out)
            have HB2 := Aside0.mk (below_step HB.out HBr.out)
            clear HO HB hx0 hx1 hx2
            have H := HH.out
            clear HH
            by_cases c8 : (rd_T36 l1 i).f0 = node
            · rw [if_pos c8] at H
              have c8b0 : ((rd_T36 l1 i).f0 == node) = true := beq_iff_eq.mpr c8
              clear c8
              by_cases c9 : x5.length < 8796093022208
              · rw [if_pos c9] at H
                have LM := Aside0.mk c9
                clear c9
                have H' := Aside0.mk H
                clear H
                go_wp2_with (first | ((with_reducible refine gate_builtin (b := .append) (xs := #[.tmp 24, .tmp 26]) rfl ?_); at_builtin; refine Kd.R_append k47 (w0 := w) w.heap.size rfl (.tmp 24) (.tmp 26) 44 47 (.agg #[(.int .i64 0), (.int .i64 0)]) 16 rfl Try.underlying44 info47 rfl (by decide) (by omega) u5 x5 (⟨(rd_T36 l1 i).f1, (rd_T36 l1 i).f2⟩ : S47) [.int .i64 ((rd_T36 l1 i).f1), .int .i64 ((rd_T36 l1 i).f2)] (fun _ => True) (fun _ => False) rfl rfl ?aP (fun _ hk => hk.elim) ?aF ?aO ?aB ?aS ?aL ?_; (case aP => exact k47_mkM _ _ _ (⟨(rd_T36 l1 i).f1, (rd_T36 l1 i).f2⟩ : S47)); (case aB => exact HB2.out); (case aF => exact (fun _ _ => trivial)); (case aO => exact HO2.out); (case aS => exact below_size HB2.out); (case aL => have := LM.out; omega); intro v146 w13 ho hb hg hat; have HO3 := Aside0.mk ho; have HB3 := Aside0.mk hb; clear ho hb hg hat))
                go_roundg k1
                case measure => have := HK1.out; omega
                case rel => exact ⟨_, _, rfl, H', ⟨by have := HK1.out; omega⟩, HO3, HB3⟩
              · rw [if_neg c9] at H
                exact absurd H (by simp)
            · rw [if_neg c8] at H
              have c8b0 : ((rd_T36 l1 i).f0 == node) = false := beq_eq_false_iff_ne.mpr c8
              clear c8
              have H' := Aside0.mk H
              clear H
              go_wp2
              go_roundg k1
              case measure => have := HK1.out; omega
              case rel => exact ⟨_, _, rfl, H', ⟨by have := HK1.out; omega⟩, HO2, HB2⟩
        · rw [if_neg c7] at H
          exact absurd H (by simp)
      · rw [if_neg c6] at H
        obtain rfl := Option.some.inj H
        have c6b0 : decide (i < (l1.length : Int)) = false := decide_eq_false c6
        clear c6
        obtain ⟨Ao, co, eo⟩ := Kd.R_slice HO.out
        subst eo
        go_wp2
        go_ret
        exact ⟨_, rfl, HO.out, HB.out⟩
set_option maxHeartbeats 8000000 in
set_option maxRecDepth 100000 in
theorem graph_Next.calls (k : Nat) (A0_0 : Option Addr) (c0_0 : Nat) (l0_0 : List (S23)) (A0_1 : Option Addr) (c0_1 : Nat) (l0_1 : List (S36)) (a1 : Int) (r : List (S47)) (w : World) (hr0_0 : Kd.C k23 w A0_0 l0_0.length l0_0) (hc0_0 : l0_0.length ≤ c0_0) (hr0_1 : Kd.C k36 w A0_1 l0_1.length l0_1) (hc0_1 : l0_1.length ≤ c0_1) (h : graph_Next.f k l0_0 l0_1 a1 = some r) :
    Calls Try.prog 17 #[.agg #[.slice A0_0 l0_0.length c0_0, .slice A0_1 l0_1.length c0_1], .int .i64 a1] w fun e w' => ∃ v0_ : Value, e = .returned (v0_) ∧ Kd.R k47 47 w' w.heap.size (fun _ => True) v0_ r ∧ Below w.heap.size w w' := by
  have hu30 := Try.underlying29
  have HR := Aside0.mk hr0_1
  have H' := Aside0.mk (show graph_Next.l0 k l0_1 a1 [] 0 = some r from h)
  clear hr0_0 hc0_0 hr0_1 hc0_1 h
  have BK := Aside0.mk (show ((w.alloc (.cells #[.slice A0_0 l0_0.length c0_0, .slice A0_1 l0_1.length c0_1] 29)).alloc (.cells #[.int .i64 a1] 3)).heap[w.heap.size + 1]? = some (.cells #[.int .i64 a1] 3 (0, 0)) from by
    have := blk_new (w.alloc (.cells #[.slice A0_0 l0_0.length c0_0, .slice A0_1 l0_1.length c0_1] 29)) (.cells #[.int .i64 a1] 3); simpa using this)
  have HB := Aside0.mk (below_alloc (below_alloc (Below.refl w.heap.size w) (.cells #[.slice A0_0 l0_0.length c0_0, .slice A0_1 l0_1.length c0_1] 29)) (.cells #[.int .i64 a1] 3))
  go_enter Try.func17, Try.ntmps17
  go_wp2_with (first | (go_at_call 35; (with_reducible refine (each_loc k A0_0 c0_0 l0_0 A0_1 c0_1 l0_1 a1 (w.heap.size + 1) r _ (Kd.C_below HR.out HB.out) BK.out H'.out).mono ?_); rintro e w1 ⟨v0, rfl, ho, hb⟩; have HO := Aside0.mk (Kd.R_lower ho (below_size HB.out)); have HB1 := Aside0.mk (below_step HB.out hb); clear ho hb))
  go_ret
  exact ⟨_, rfl, HO.out, HB1.out⟩

/-! ### valid_low: function 78 -/
def valid_low.f (a0_0 : Int) (a0_1 : Int) (a0_2 : Int) (a0_3 : Int) : Option (Int) := (graph_InDepth.f a0_0 a0_1 a0_2 a0_3).bind fun t133 => (some (mn t133 a0_3))
set_option maxHeartbeats 8000000 in
set_option maxRecDepth 100000 in
theorem valid_low.calls (a0_0 : Int) (a0_1 : Int) (a0_2 : Int) (a0_3 : Int) (r : Int) (w : World) (h : valid_low.f a0_0 a0_1 a0_2 a0_3 = some r) :
  Calls Try.prog 78 #[.agg #[.int .i64 a0_0, .int .i64 a0_1, .int .i64 a0_2, .int .i64 a0_3]] w fun e w' => e = .returned (.int .i64 r) ∧ Below w.heap.size w w' := by
 have hu23 := Try.underlying23
 have HB := Aside0.mk (Below.refl w.heap.size w)
 have H : ((graph_InDepth.f a0_0 a0_1 a0_2 a0_3).bind fun t133 => (some (mn t133 a0_3))) = some r := h
 clear h
 replace H := Option.bind_eq_some_iff.mp H
 obtain ⟨t133, A20, H⟩ := H
 replace H : (some (mn t133 a0_3)) = some r := H
 have A2 := Aside0.mk A20
 clear A20
 obtain ⟨ji3, hji3⟩ : ∃ j_ : Int, (mn t133 a0_3) = j_ := ⟨_, rfl⟩
 replace H : (some ji3) = some r := by first | (rw [hji3] at H; exact H) | (simp only [hji3] at H ⊢; exact H)
 (try rw [hji3] at A2)
 have hji3_ : (if a0_3 < t133 then a0_3 else t133) = ji3 := hji3
 obtain rfl := Option.some.inj H
 go_enter Try.func78, Try.ntmps78
 try go_wp2_with (first | ((with_reducible refine gate_dst (N := 1) rfl ?_); refine box_event ?hg (N := 1) ?hd (cs := #[.int .i64 a0_0, .int .i64 a0_1, .int .i64 a0_2, .int .i64 a0_3]) (t := 23) ?hr ?_; (case hd => rfl); (case hg => rfl); (case hr => first | (go_simp; done) | (go_simp; rfl)); intro gb132 hg w4 hbox hb; have n0_ := Aside0.mk (below_step (by repeat (first | (with_reducible first | exact HB.out | apply below_alloc | apply pw_below_drewN | apply below_drew1) | exact HB.out)) hb); have n1_ := Aside0.mk (hbox); have n2_ := Aside0.mk ((by rw [hg]; exact (below_size (by repeat (first | (with_reducible first | exact HB.out | apply below_alloc | apply pw_below_drewN | apply below_drew1) | exact HB.out))) : w.heap.size ≤ gb132)); have n3_ := Aside0.mk ((by rw [hg]; exact (below_size (by repeat (first | (with_reducible first | exact HB.out | apply below_alloc | apply pw_below_drewN | apply below_drew1) | exact HB.out))) : w.heap.size ≤ gb132)); clear HB; have HB := n0_; have BK132 := n1_; have GW132 := n2_; have GE132 := n3_; clear n0_ n1_ n2_ n3_; clear hb hbox hg))
 have n0_ := Aside0.mk (blk_drew BK132.out)
 have n1_ := Aside0.mk (below_drew1 HB.out)
 clear BK132
 clear HB
 have BK132 := n0_
 have HB := n1_
 clear n0_ n1_
 refine start_ (n := 6) (S := fun w' => w'.cell? ⟨gb132, 0, none⟩ = some (.int .i64 a0_0) ∧ w'.cell? ⟨gb132, 1, none⟩ = some (.int .i64 a0_1) ∧ w'.cell? ⟨gb132, 2, none⟩ = some (.int .i64 a0_2) ∧ w'.cell? ⟨gb132, 3, none⟩ = some (.int .i64 a0_3)) (ds := []) #[false, false, false, false, false, false] (by kernel_rfl) rfl rfl ⟨(blk_cell BK132.out 0).trans rfl, (blk_cell BK132.out 1).trans rfl, (blk_cell BK132.out 2).trans rfl, (blk_cell BK132.out 3).trans rfl⟩ (fun hHeld => ?_)
 generalize w4.drew = w5 at BK132 HB hHeld ⊢
 refine pure_ (i := 2) (N := some 5) (v := ?_) (a' := ?_) #[false, false, true, false, false, false] rfl rfl (by kernel_rfl) (fun _ _ _ h => h) (Or.inl ⟨by rfl, ?_⟩) ?_ ?_
 rotate_left
 ·intro w'
  go_simp
  with_reducible rfl
 rotate_left
 ·simp only [Act.put, List.setIfInBounds_toArray, List.set_cons_zero, List.set_cons_succ, i64_w, i32_w]
  rfl
 refine take_ (i := 0) (N := some 3) (v := ?_) (a' := ?_) #[true, false, true, false, false, false] rfl rfl (by kernel_rfl) (fun _ _ _ h => h) (Or.inl ⟨by rfl, ?_⟩) hHeld ?_ ?_
 rotate_left
 ·rintro w' ⟨s0, s1, s2, s3⟩
  go_simp
  with_reducible rfl
 rotate_left
 ·simp only [Act.put, List.setIfInBounds_toArray, List.set_cons_zero, List.set_cons_succ, i64_w, i32_w]
  rfl
 refine take_ (i := 3) (N := some 6) (v := ?_) (a' := ?_) #[true, false, true, true, false, false] rfl rfl (by kernel_rfl) (fun _ _ _ h => h) (Or.inl ⟨by rfl, ?_⟩) hHeld ?_ ?_
 rotate_left
 ·rintro w' ⟨s0, s1, s2, s3⟩
  go_simp
  with_reducible rfl
 rotate_left
 ·simp only [Act.put, List.setIfInBounds_toArray, List.set_cons_zero, List.set_cons_succ, i64_w, i32_w]
  rfl
 refine one_ (i := 1) (N := some 4) #[true, true, true, true, false, false] rfl rfl (by kernel_rfl) (by decide) (fun K hK => ?_)
 refine goes_ Try.func39 (by kernel_rfl) rfl #[.agg #[.int .i64 a0_0, .int .i64 a0_1, .int .i64 a0_2, .int .i64 a0_3]] (by rfl) rfl rfl (by (try simp only [List.map_toArray, List.map_cons, List.map_nil]); first | done | rfl | (simp only [List.length_drop, List.length_take]; rfl)) ?_
 with_reducible refine (graph_InDepth.calls a0_0 a0_1 a0_2 a0_3 t133 _ A2.out).mono ?_
 rintro e w6 ⟨rfl, hb⟩
 refine ⟨_, rfl, ?_⟩
 have n0_ := Aside0.mk (blk_below (g := gb132) (o := .cells #[.int .i64 a0_0, .int .i64 a0_1, .int .i64 a0_2, .int .i64 a0_3] 23 (0, 0)) (by (with_reducible repeat (first | refine blk_drewN ?_ _ | refine blk_drew ?_ | refine blk_alloc ?_ _)); exact BK132.out) hb)
 have n1_ := Aside0.mk (below_step (by repeat (first | (with_reducible first | exact HB.out | apply below_alloc | apply pw_below_drewN | apply below_drew1 | refine below_set ?_ GE132.out) | exact HB.out)) hb)
 clear BK132
 clear HB
 have BK132 := n0_
 have HB := n1_
 clear n0_ n1_
 (try clear hb)
 (try clear hb2)
 (try clear hk)
 (try clear hi)
 refine hK.out _ _ ⟨(blk_cell BK132.out 0).trans rfl, (blk_cell BK132.out 1).trans rfl, (blk_cell BK132.out 2).trans rfl, (blk_cell BK132.out 3).trans rfl⟩ (fun hHeld => ?_)
 clear hK K
 refine norm_ (a' := ?_) ?_ ?_
 rotate_left
 ·show Act.put _ (some 4) _ = _
  simp only [Act.put, List.setIfInBounds_toArray, List.set_cons_zero, List.set_cons_succ, i64_w, i32_w]
  rfl
 refine pure_ (i := 4) (N := some 7) (v := ?_) (a' := ?_) #[true, true, true, true, true, false] rfl rfl (by kernel_rfl) (fun _ _ _ h => h) (Or.inl ⟨by rfl, ?_⟩) ?_ ?_
 rotate_left
 ·intro w'
  go_simp
  with_reducible rfl
 rotate_left
 ·simp only [Act.put, List.setIfInBounds_toArray, List.set_cons_zero, List.set_cons_succ, i64_w, i32_w]
  rfl
 refine pure_ (i := 5) (N := some 2) (v := ?_) (a' := ?_) #[true, true, true, true, true, true] rfl rfl (by kernel_rfl) (fun _ _ _ h => h) (Or.inl ⟨by rfl, ?_⟩) ?_ ?_
 rotate_left
 ·intro w'
  go_simp
  with_reducible rfl
 rotate_left
 ·simp only [Act.put, List.setIfInBounds_toArray, List.set_cons_zero, List.set_cons_succ, i64_w, i32_w]
  rfl
 refine done_ (by kernel_rfl) ?_
 try go_wp2
 go_ret
 exact ⟨by first | rfl | (simp [errW_none, errW_some] <;> rfl) | (simp only [← hji3]; first | rfl | (simp [errW_none, errW_some] <;> rfl)) | (simp [*, errW_none, errW_some] <;> rfl), by repeat (first | (with_reducible first | exact HB.out | apply below_alloc | apply pw_below_drewN | apply below_drew1 | refine below_set ?_ GE132.out) | exact HB.out)⟩

end Go.Proofs.Ytjlnjlnecipllaa.PAll
