-- Grafted by graft.py of this repo out of a print of the kit's printer. Not trusted: Lean checks it.
import Derived.Test.YtjlnjlnecipllaaPAllx0
import Derived.Test.YtjlnjlnecipllaaPAllx7
import Derived.Test.YtjlnjlnecipllaaPAllx8
import Derived.Test.YtjlnjlnecipllaaWExtra
namespace Go.Proofs.Ytjlnjlnecipllaa.PAll
open Go.RowKit Go.Proofs.YtjlnjlnecipllaaW.PrintWords Go.Proofs.YtjlnjlnecipllaaW.PrintLast Go.Proofs.YtjlnjlnecipllaaW.PrintMore
attribute [local go_sem] max2_int min2_int max_two min_two max_three min_three max_four min_four   -- for this text's walks alone
set_option linter.unusedVariables false
set_option linter.unusedSimpArgs false

/-! ### meanderlaw09_ValidLoops_Lop: function 6 -/
def meanderlaw09_ValidLoops_Lop.l0 : Nat → Bool → Bool → Int → Int → Int → List (S23) → List (S36) → Option (Bool)
 | 0, _, _, _, _, _, _, _ => none
 | k + 1, x1, x5, x6, x8, x9, x189000, x189001 => if x9 < x6 then (if x9 = (wrap64 (x6 - 1)) then (if x1 = true then (if x189000.length < 4398046511104 then ((some (x189000 ++ [(⟨10, 2, 0, 1⟩ : S23)] : List (S23))).bind fun y190 => (if x189001.length < 5864062014805 then (meanderlaw09_ValidLoops_Lop.l0 k x1 x5 x6 (wrap64 ((y190.length : Int) - 1)) (wrap64 (x9 + 1)) y190 (x189001 ++ [(⟨x8, wrap64 ((y190.length : Int) - 1), 0⟩ : S36)])) else (none))) else (none)) else (if x189000.length < 4398046511104 then ((some (x189000 ++ [(⟨5, 0, 0, 1⟩ : S23)] : List (S23))).bind fun y196 => (if x189001.length < 5864062014805 then (meanderlaw09_ValidLoops_Lop.l0 k x1 x5 x6 (wrap64 ((y196.length : Int) - 1)) (wrap64 (x9 + 1)) y196 (x189001 ++ [(⟨x8, wrap64 ((y196.length : Int) - 1), 0⟩ : S36)])) else (none))) else (none))) else (if x189000.length < 4398046511104 then ((some (x189000 ++ [(⟨5, 0, 0, 1⟩ : S23)] : List (S23))).bind fun y202 => (if x189001.length < 5864062014805 then (meanderlaw09_ValidLoops_Lop.l0 k x1 x5 x6 (wrap64 ((y202.length : Int) - 1)) (wrap64 (x9 + 1)) y202 (x189001 ++ [(⟨x8, wrap64 ((y202.length : Int) - 1), 0⟩ : S36)])) else (none))) else (none))) else (if x189001.length < 5864062014805 then ((some (x189001 ++ [(⟨x8, 2, 1⟩ : S36)] : List (S36))).bind fun y208 => (if x1 = true then (if x5 = true then ((valid_Graph.f k x189000 y208).bind fun t211 => (some (t211 == 0))) else (none)) else (if x5 = true then ((valid_Graph.f k x189000 y208).bind fun t212 => (some (t212 == 14))) else (none)))) else (none))
def meanderlaw09_ValidLoops_Lop.f (k : Nat) (a0 : Int) (a1 : Bool) : Option (Bool) := (meanderlaw09_shown.f k).bind fun t181 => (meanderlaw09_ValidLoops_Lop.l0 k a1 t181 (wrap64 (1 + (Go.bits .and .i64 a0 3))) 2 0 (([(⟨1, 0, 0, 0⟩ : S23), (⟨8, 0, 0, 1⟩ : S23), (⟨4, 0, 0, 1⟩ : S23)] : List (S23))) (([(⟨0, 1, 0⟩ : S36), (⟨1, 2, 0⟩ : S36)] : List (S36))))
theorem meanderlaw09_ValidLoops_Lop.mono_l : ∀ k, (∀ y0 y1 y2 y3 y4 y5 y6, LeO (meanderlaw09_ValidLoops_Lop.l0 k y0 y1 y2 y3 y4 y5 y6) (meanderlaw09_ValidLoops_Lop.l0 (k + 1) y0 y1 y2 y3 y4 y5 y6))
 | 0 => fun _ _ _ _ _ _ _ r h => by simp [meanderlaw09_ValidLoops_Lop.l0] at h
 | k + 1 => by
  have ih0 := meanderlaw09_ValidLoops_Lop.mono_l k
  ·intro y0 y1 y2 y3 y4 y5 y6
   unfold meanderlaw09_ValidLoops_Lop.l0
   repeat' first
   | (with_reducible exact ih0 _ _ _ _ _ _ _)
   | (with_reducible exact meanderlaw09_shown.mono _)
   | (with_reducible exact valid_Graph.mono _ _ _)
   | (with_reducible exact LeO.refl _)
   | (with_reducible exact LeO.none _)
   | (with_reducible refine LeO.ite ?_ ?_)
   | (with_reducible refine LeO.bind ?_ (fun _ => ?_))
   | exact ih0 _ _ _ _ _ _ _
   | exact meanderlaw09_shown.mono _
   | exact valid_Graph.mono _ _ _
   | exact LeO.none _
   | refine LeO.ite ?_ ?_
   | refine LeO.bind ?_ (fun _ => ?_)
theorem meanderlaw09_ValidLoops_Lop.mono : ∀ a0 a1 k, LeO (meanderlaw09_ValidLoops_Lop.f k a0 a1) (meanderlaw09_ValidLoops_Lop.f (k + 1) a0 a1) := by
 intro a0 a1 k
 have ih0 := meanderlaw09_ValidLoops_Lop.mono_l k
 unfold meanderlaw09_ValidLoops_Lop.f
 repeat' first
   | (with_reducible exact ih0 _ _ _ _ _ _ _)
   | (with_reducible exact meanderlaw09_shown.mono _)
   | (with_reducible exact valid_Graph.mono _ _ _)
   | (with_reducible exact LeO.refl _)
   | (with_reducible exact LeO.none _)
   | (with_reducible refine LeO.ite ?_ ?_)
   | (with_reducible refine LeO.bind ?_ (fun _ => ?_))
   | exact ih0 _ _ _ _ _ _ _
   | exact meanderlaw09_shown.mono _
   | exact valid_Graph.mono _ _ _
   | exact LeO.none _
   | refine LeO.ite ?_ ?_
   | refine LeO.bind ?_ (fun _ => ?_)
set_option maxHeartbeats 8000000 in
set_option maxRecDepth 100000 in
theorem meanderlaw09_ValidLoops_Lop.calls (k : Nat) (a0 : Int) (a1 : Bool) (r : Bool) (w : World) (h : meanderlaw09_ValidLoops_Lop.f k a0 a1 = some r) :
  Calls Try.prog 6 #[.int .i64 a0, .bool a1] w fun e w' => e = .returned (.bool r) ∧ Below w.heap.size w w' := by
 have hu23 := Try.underlying23
 have hu36 := Try.underlying36
 have hu29 := Try.underlying29
 have HB := Aside0.mk (Below.refl w.heap.size w)
 have H : ((meanderlaw09_shown.f k).bind fun t181 => (meanderlaw09_ValidLoops_Lop.l0 k a1 t181 (wrap64 (1 + (Go.bits .and .i64 a0 3))) 2 0 (([(⟨1, 0, 0, 0⟩ : S23), (⟨8, 0, 0, 1⟩ : S23), (⟨4, 0, 0, 1⟩ : S23)] : List (S23))) (([(⟨0, 1, 0⟩ : S36), (⟨1, 2, 0⟩ : S36)] : List (S36))))) = some r := h
 clear h
 replace H := Option.bind_eq_some_iff.mp H
 obtain ⟨t181, A30, H⟩ := H
 replace H : (meanderlaw09_ValidLoops_Lop.l0 k a1 t181 (wrap64 (1 + (Go.bits .and .i64 a0 3))) 2 0 (([(⟨1, 0, 0, 0⟩ : S23), (⟨8, 0, 0, 1⟩ : S23), (⟨4, 0, 0, 1⟩ : S23)] : List (S23))) (([(⟨0, 1, 0⟩ : S36), (⟨1, 2, 0⟩ : S36)] : List (S36)))) = some r := H
 have A3 := Aside0.mk A30
 clear A30
 obtain ⟨y182, hy182⟩ : ∃ y_ : List (S23), y_ = (([(⟨1, 0, 0, 0⟩ : S23), (⟨8, 0, 0, 1⟩ : S23), (⟨4, 0, 0, 1⟩ : S23)] : List (S23))) := ⟨_, rfl⟩
 replace H : (meanderlaw09_ValidLoops_Lop.l0 k a1 t181 (wrap64 (1 + (Go.bits .and .i64 a0 3))) 2 0 y182 (([(⟨0, 1, 0⟩ : S36), (⟨1, 2, 0⟩ : S36)] : List (S36)))) = some r := by first | (rw [hy182]; with_reducible exact H) | (have H2_ := (Option.bind_some _ _).symm.trans H; rw [hy182]; with_reducible exact H2_) | (have H2_ := (Option.bind_some _ _).symm.trans H; with_reducible exact H2_) | with_reducible exact H | (rw [hy182]; exact H) | exact H
 have Ny182 := Aside0.mk hy182
 clear hy182
 obtain ⟨y185, hy185⟩ : ∃ y_ : List (S36), y_ = (([(⟨0, 1, 0⟩ : S36), (⟨1, 2, 0⟩ : S36)] : List (S36))) := ⟨_, rfl⟩
 replace H : (meanderlaw09_ValidLoops_Lop.l0 k a1 t181 (wrap64 (1 + (Go.bits .and .i64 a0 3))) 2 0 y182 y185) = some r := by first | (rw [hy185]; with_reducible exact H) | (have H2_ := (Option.bind_some _ _).symm.trans H; rw [hy185]; with_reducible exact H2_) | (have H2_ := (Option.bind_some _ _).symm.trans H; with_reducible exact H2_) | with_reducible exact H | (rw [hy185]; exact H) | exact H
 have Ny185 := Aside0.mk hy185
 clear hy185
 have H' := Aside0.mk H
 clear H
 go_enter Try.func6, Try.ntmps6
 go_wp2_with (first | ((with_reducible refine gate_callee (f := 9) rfl ?_); refine goesL_ (some 12) rfl rfl Try.func9 (by kernel_rfl) rfl #[] rfl (by (try simp only [List.map_toArray, List.map_cons, List.map_nil]); first | done | rfl | (simp only [List.length_drop, List.length_take]; rfl)) ?_; (with_reducible refine (meanderlaw09_shown.calls k  t181 _ A3.out).mono ?_); rintro e w4 ⟨rfl, hb⟩; refine ⟨_, rfl, ?_⟩; have n0_ := Aside0.mk (below_step (by repeat (first | (with_reducible first | exact HB.out | apply below_alloc | apply pw_below_drewN | apply below_drew1) | exact HB.out)) hb); clear HB; have HB := n0_; clear n0_; (try clear hb); (try clear hb2); (try clear hk); (try clear hi)) | ((with_reducible refine gate_dst (N := 19) rfl ?_); refine Kd.R_lit k23 _ 23 ?hg (N := 19) ?hd (xs := ([(⟨1, 0, 0, 0⟩ : S23), (⟨8, 0, 0, 1⟩ : S23), (⟨4, 0, 0, 1⟩ : S23)] : List (S23))) (inner := [.int .i64 1, .int .i64 0, .int .i64 0, .int .i64 0, .int .i64 8, .int .i64 0, .int .i64 0, .int .i64 1, .int .i64 4, .int .i64 0, .int .i64 0, .int .i64 1]) (ok := fun _ => True) (okp := fun _ => True) ?hr ?hp (fun _ hk => hk) trivial (Below.refl _ _) (Nat.le_refl _) (by simp) ?_; (case hd => rfl); (case hg => rfl); (case hr => first | (go_simp; done) | (go_simp; rfl)); (case hp => exact (Reps.c4 (show Kd.M k23 _ _ _ (⟨1, 0, 0, 0⟩ : S23) [.int .i64 1, .int .i64 0, .int .i64 0, .int .i64 0] from (k23_mkM _ _ _ (⟨1, 0, 0, 0⟩ : S23) )) (Reps.c4 (show Kd.M k23 _ _ _ (⟨8, 0, 0, 1⟩ : S23) [.int .i64 8, .int .i64 0, .int .i64 0, .int .i64 1] from (k23_mkM _ _ _ (⟨8, 0, 0, 1⟩ : S23) )) (Reps.c4 (show Kd.M k23 _ _ _ (⟨4, 0, 0, 1⟩ : S23) [.int .i64 4, .int .i64 0, .int .i64 0, .int .i64 1] from (k23_mkM _ _ _ (⟨4, 0, 0, 1⟩ : S23) )) (Reps.none _ _))))); intro v183 w5 ho6 hb hg_ hnew_; clear hg_ hnew_; (first | rw [← Ny182.out] at ho6 | (simp only [Int.reduceToNat] at ho6; rw [← Ny182.out] at ho6)); have n0_ := Aside0.mk (Kd.R_lower ho6 (below_size (by repeat (first | (with_reducible first | exact HB.out | apply below_alloc | apply pw_below_drewN | apply below_drew1) | exact HB.out)))); have n1_ := Aside0.mk (below_step (by repeat (first | (with_reducible first | exact HB.out | apply below_alloc | apply pw_below_drewN | apply below_drew1) | exact HB.out)) hb); clear HB; have HO184 := n0_; have HB := n1_; clear n0_ n1_; clear hb ho6) | ((with_reducible refine gate_dst (N := 22) rfl ?_); refine Kd.R_lit k36 _ 36 ?hg (N := 22) ?hd (xs := ([(⟨0, 1, 0⟩ : S36), (⟨1, 2, 0⟩ : S36)] : List (S36))) (inner := [.int .i64 0, .int .i64 1, .int .i64 0, .int .i64 1, .int .i64 2, .int .i64 0]) (ok := fun _ => True) (okp := fun _ => True) ?hr ?hp (fun _ hk => hk) trivial (Below.refl _ _) (Nat.le_refl _) (by simp) ?_; (case hd => rfl); (case hg => rfl); (case hr => first | (go_simp; done) | (go_simp; rfl)); (case hp => exact (Reps.c3 (show Kd.M k36 _ _ _ (⟨0, 1, 0⟩ : S36) [.int .i64 0, .int .i64 1, .int .i64 0] from (k36_mkM _ _ _ (⟨0, 1, 0⟩ : S36) )) (Reps.c3 (show Kd.M k36 _ _ _ (⟨1, 2, 0⟩ : S36) [.int .i64 1, .int .i64 2, .int .i64 0] from (k36_mkM _ _ _ (⟨1, 2, 0⟩ : S36) )) (Reps.none _ _)))); intro v186 w7 ho8 hb hg_ hnew_; clear hg_ hnew_; (first | rw [← Ny185.out] at ho8 | (simp only [Int.reduceToNat] at ho8; rw [← Ny185.out] at ho8)); have n0_ := Aside0.mk (Kd.R_below (by (with_reducible repeat (first | apply Kd.R_alloc | apply Kd.R_drewN | apply Kd.R_drew)); exact HO184.out) hb); have n1_ := Aside0.mk (Kd.R_lower ho8 (below_size (by repeat (first | (with_reducible first | exact HB.out | apply below_alloc | apply pw_below_drewN | apply below_drew1) | exact HB.out)))); have n2_ := Aside0.mk (below_step (by repeat (first | (with_reducible first | exact HB.out | apply below_alloc | apply pw_below_drewN | apply below_drew1) | exact HB.out)) hb); clear HO184; clear HB; have HO184 := n0_; have HO187 := n1_; have HB := n2_; clear n0_ n1_ n2_; clear hb ho8; obtain ⟨Ao9, co9, eo9⟩ := Kd.R_slice HO187.out; subst eo9; obtain ⟨Ao10, co10, eo10⟩ := Kd.R_slice HO184.out; subst eo10) | ((with_reducible refine gate_dst (N := 7) rfl ?_); refine box_event ?hg (N := 7) ?hd (cs := #[.slice none 0 0, .slice none 0 0]) (t := 29) ?hr ?_; (case hd => rfl); (case hg => rfl); (case hr => first | (go_simp; done) | (go_simp; rfl)); intro gb188 hg w11 hbox hb; have n0_ := Aside0.mk (Kd.R_below (by (with_reducible repeat (first | apply Kd.R_alloc | apply Kd.R_drewN | apply Kd.R_drew)); exact HO184.out) hb); have n1_ := Aside0.mk (Kd.R_below (by (with_reducible repeat (first | apply Kd.R_alloc | apply Kd.R_drewN | apply Kd.R_drew)); exact HO187.out) hb); have n2_ := Aside0.mk (below_step (by repeat (first | (with_reducible first | exact HB.out | apply below_alloc | apply pw_below_drewN | apply below_drew1) | exact HB.out)) hb); have n3_ := Aside0.mk (hbox); have n4_ := Aside0.mk ((by rw [hg]; exact (below_size (by repeat (first | (with_reducible first | exact HB.out | apply below_alloc | apply pw_below_drewN | apply below_drew1) | exact HB.out))) : w.heap.size ≤ gb188)); have n5_ := Aside0.mk ((by rw [hg]; exact (below_size (by repeat (first | (with_reducible first | exact HB.out | apply below_alloc | apply pw_below_drewN | apply below_drew1) | exact HB.out))) : w.heap.size ≤ gb188)); clear HO184; clear HO187; clear HB; have HO184 := n0_; have HO187 := n1_; have HB := n2_; have BK188 := n3_; have GW188 := n4_; have GE188 := n5_; clear n0_ n1_ n2_ n3_ n4_ n5_; clear hb hbox hg; have hcz12_0 : w11.cell? ⟨gb188, 0, none⟩ = some (.slice none 0 0) := (blk_cell BK188.out 0).trans rfl; have hcz12_1 : w11.cell? ⟨gb188, 1, none⟩ = some (.slice none 0 0) := (blk_cell BK188.out 1).trans rfl; have hfz12_0 := blk_frozen BK188.out 0; have hfz12_1 := blk_frozen BK188.out 1))
 generalize (wrap64 (1 + (Go.bits .and .i64 a0 3))) = nn at H' ⊢
 go_loopg [8, 9] k (fun kq v8 v9 w' => ∃ (x8_1 : Int) (x9_1 : Int) (x189000_1 : List (S23)) (x189001_1 : List (S36)) (u189000 : Value) (u189001 : Value), v8 = .int .i64 x8_1 ∧ v9 = .int .i64 x9_1 ∧ Aside0 (meanderlaw09_ValidLoops_Lop.l0 kq a1 t181 nn x8_1 x9_1 x189000_1 x189001_1 = some r) ∧ Aside0 (kq ≤ k) ∧ Aside0 (Kd.R k23 23 w' w.heap.size (fun _ => True) u189000 x189000_1) ∧ Aside0 (Kd.R k36 36 w' w.heap.size (fun _ => True) u189001 x189001_1) ∧ Aside0 (w'.heap[gb188]? = some (.cells #[u189000, u189001] 29 (0, 0))) ∧ Aside0 (Below w.heap.size w w'))
 case atStart => exact ⟨(2), (0), (y182), (y185), (.slice Ao10 y182.length co10), (.slice Ao9 y185.length co9), (by first | rfl | (simp; done) | (simp [*]; done)), (by first | rfl | (simp; done) | (simp [*]; done)), H', ⟨Nat.le_refl _⟩, ⟨by (with_reducible repeat (first | apply Kd.R_alloc | apply Kd.R_drewN | apply Kd.R_drew)); exact Kd.R_mono (Kd.R_far (p := ⟨gb188, 1, none⟩) (Kd.R_far (p := ⟨gb188, 0, none⟩) (Kd.R_types HO184.out BK188.out (by decide)) (fun _ hk => hk.2) (.slice Ao10 y182.length co10)) (fun _ hk => hk.2) (.slice Ao9 y185.length co9)) (fun _ hk => trivial)⟩, ⟨by (with_reducible repeat (first | apply Kd.R_alloc | apply Kd.R_drewN | apply Kd.R_drew)); exact Kd.R_mono (Kd.R_far (p := ⟨gb188, 1, none⟩) (Kd.R_far (p := ⟨gb188, 0, none⟩) (Kd.R_types HO187.out BK188.out (by decide)) (fun _ hk => hk.2) (.slice Ao10 y182.length co10)) (fun _ hk => hk.2) (.slice Ao9 y185.length co9)) (fun _ hk => trivial)⟩, ⟨by (with_reducible repeat (first | refine blk_drewN ?_ _ | refine blk_drew ?_ | refine blk_alloc ?_ _)); refine blk_put (cs := #[.slice Ao10 y182.length co10, .slice none 0 0]) ?_ 1 _ rfl; (with_reducible repeat (first | refine blk_drewN ?_ _ | refine blk_drew ?_ | refine blk_alloc ?_ _)); refine blk_put (cs := #[.slice none 0 0, .slice none 0 0]) ?_ 0 _ rfl; (with_reducible repeat (first | refine blk_drewN ?_ _ | refine blk_drew ?_ | refine blk_alloc ?_ _)); exact BK188.out⟩, ⟨by repeat (first | (with_reducible first | exact HB.out | apply below_alloc | apply pw_below_drewN | apply below_drew1 | refine below_set ?_ GE188.out) | exact HB.out)⟩⟩
 case round =>
  clear H'
  try clear p2
  try clear c3
  try clear c4
  try clear c6
  try clear p6
  try clear c9
  try clear hcz12_0
  try clear hcz12_1
  try clear hfz12_0
  try clear hfz12_1
  obtain ⟨x8_1, x9_1, x189000_1, x189001_1, u189000, u189001, rfl, rfl, HA, HK1, HO_189000, HO_189001, BK188, HB⟩ := hrel
  cases gk with
  | zero => exact absurd HA.out (by simp [meanderlaw09_ValidLoops_Lop.l0])
  | succ k1 =>
   have H := HA.out
   clear HA
   simp only [meanderlaw09_ValidLoops_Lop.l0] at H
   by_cases c13 : x9_1 < nn
   ·rw [if_pos c13] at H
    have c13b0 : decide (x9_1 < nn) = true := decide_eq_true c13
    clear c13
    by_cases c14 : x9_1 = (wrap64 (nn - 1))
    ·rw [if_pos c14] at H
     have c14b0 : (x9_1 == (wrap64 (nn - 1))) = true := beq_iff_eq.mpr c14
     have c14b1 : (x9_1 != (wrap64 (nn - 1))) = false := bne_eq_false_iff_eq.mpr c14
     clear c14
     by_cases c15 : a1 = true
     ·subst c15
      have H1 : (if x189000_1.length < 4398046511104 then ((some (x189000_1 ++ [(⟨10, 2, 0, 1⟩ : S23)] : List (S23))).bind fun y190 => (if x189001_1.length < 5864062014805 then (meanderlaw09_ValidLoops_Lop.l0 k1 true t181 nn (wrap64 ((y190.length : Int) - 1)) (wrap64 (x9_1 + 1)) y190 (x189001_1 ++ [(⟨x8_1, wrap64 ((y190.length : Int) - 1), 0⟩ : S36)])) else (none))) else (none)) = some r := by rw [if_pos rfl] at H; exact H
      clear H
      have H := H1
      clear H1
      by_cases c16 : x189000_1.length < 4398046511104
      ·rw [if_pos c16] at H
       have LMc16 := Aside0.mk c16
       clear c16
       obtain ⟨y190, hy190⟩ : ∃ y_ : List (S23), y_ = (x189000_1 ++ [(⟨10, 2, 0, 1⟩ : S23)]) := ⟨_, rfl⟩
       replace H : (if x189001_1.length < 5864062014805 then (meanderlaw09_ValidLoops_Lop.l0 k1 true t181 nn (wrap64 ((y190.length : Int) - 1)) (wrap64 (x9_1 + 1)) y190 (x189001_1 ++ [(⟨x8_1, wrap64 ((y190.length : Int) - 1), 0⟩ : S36)])) else (none)) = some r := by first | (rw [hy190]; with_reducible exact H) | (have H2_ := (Option.bind_some _ _).symm.trans H; rw [hy190]; with_reducible exact H2_) | (have H2_ := (Option.bind_some _ _).symm.trans H; with_reducible exact H2_) | with_reducible exact H | (rw [hy190]; exact H) | exact H
       have Ny190 := Aside0.mk hy190
       clear hy190
       by_cases c17 : x189001_1.length < 5864062014805
       ·rw [if_pos c17] at H
        have LMc17 := Aside0.mk c17
        clear c17
        obtain ⟨y193, hy193⟩ : ∃ y_ : List (S36), y_ = (x189001_1 ++ [(⟨x8_1, wrap64 ((y190.length : Int) - 1), 0⟩ : S36)]) := ⟨_, rfl⟩
        replace H : (meanderlaw09_ValidLoops_Lop.l0 k1 true t181 nn (wrap64 ((y190.length : Int) - 1)) (wrap64 (x9_1 + 1)) y190 y193) = some r := by first | (rw [hy193]; with_reducible exact H) | (have H2_ := (Option.bind_some _ _).symm.trans H; rw [hy193]; with_reducible exact H2_) | (have H2_ := (Option.bind_some _ _).symm.trans H; with_reducible exact H2_) | with_reducible exact H | (rw [hy193]; exact H) | exact H
        have Ny193 := Aside0.mk hy193
        clear hy193
        have H' := Aside0.mk H
        clear H
        have hcn0 : ∀ o_, (wr.alloc o_).cell? ⟨gb188, 0, none⟩ = some u189000 := fun o_ => (blk_cell (blk_alloc BK188.out o_) 0).trans rfl
        have hcn1 : ∀ o_, (wr.alloc o_).cell? ⟨gb188, 1, none⟩ = some u189001 := fun o_ => (blk_cell (blk_alloc BK188.out o_) 1).trans rfl
        have hcf0 : ∀ o_, _ := fun o_ => blk_frozen (blk_alloc BK188.out o_) 0
        go_wp2_with (first | ((with_reducible refine gate_builtin (b := .append) (xs := #[.tmp 39, .tmp 41]) rfl ?_); at_builtin; refine Kd.R_append k23 (w0 := w) w.heap.size rfl (.tmp 39) (.tmp 41) 26 23 (.agg #[(.int .i64 0), (.int .i64 0), (.int .i64 0), (.int .i64 0)]) 32 rfl Try.underlying26 info23 rfl (by decide) (by omega) u189000 x189000_1 (⟨10, 2, 0, 1⟩ : S23) [.int .i64 10, .int .i64 2, .int .i64 0, .int .i64 1] (fun _ => True) (fun _ => False) rfl (by first | (go_simp; done) | (go_simp; rfl)) ?aP (fun _ hk => hk.elim) ?aF ?aO ?aB ?aS ?aL ?_; (case aP => exact k23_mkM _ _ _ (⟨10, 2, 0, 1⟩ : S23)); (case aB => exact (by repeat (first | (with_reducible first | exact HB.out | apply below_alloc | apply pw_below_drewN | apply below_drew1 | refine below_set ?_ GE188.out) | exact HB.out))); (case aF => exact (fun _ _ => trivial)); (case aO => exact (by (with_reducible repeat (first | apply Kd.R_alloc | apply Kd.R_drewN | apply Kd.R_drew)); exact HO_189000.out)); (case aS => exact (below_size (by repeat (first | (with_reducible first | exact HB.out | apply below_alloc | apply pw_below_drewN | apply below_drew1 | refine below_set ?_ GE188.out) | exact HB.out)))); (case aL => have := LMc16.out; omega); intro v191 w22 ho hb hg hat; rw [← Ny190.out] at ho; have n0_ := Aside0.mk (Kd.R_over' (by (with_reducible repeat (first | apply Kd.R_alloc | apply Kd.R_drewN | apply Kd.R_drew)); exact HO_189001.out) (Kd.R_typed (by (with_reducible repeat (first | apply Kd.R_alloc | apply Kd.R_drewN | apply Kd.R_drew)); exact HO_189000.out)) (by decide) hg); have n1_ := Aside0.mk (blk_grown (g := gb188) (o := .cells #[u189000, u189001] 29 (0, 0)) (by (with_reducible repeat (first | refine blk_drewN ?_ _ | refine blk_drew ?_ | refine blk_alloc ?_ _)); exact BK188.out) hg (Kd.R_ne HO_189000.out BK188.out (by decide))); have n3_ := Aside0.mk (hb); have n4_ := Aside0.mk (ho); clear HO_189001; clear BK188; clear HB; clear HO_189000; have HO_189001 := n0_; have BK188 := n1_; have HB := n3_; have HO192 := n4_; clear n0_ n1_ n3_ n4_; clear ho hb hg hat; obtain ⟨Ao23, co23, eo23⟩ := Kd.R_slice HO192.out; subst eo23; have hcz24_0 : w22.cell? ⟨gb188, 0, none⟩ = some (u189000) := (blk_cell BK188.out 0).trans rfl; have hcz24_1 : w22.cell? ⟨gb188, 1, none⟩ = some (u189001) := (blk_cell BK188.out 1).trans rfl; have hfz24_0 := blk_frozen BK188.out 0; have hfz24_1 := blk_frozen BK188.out 1) | ((with_reducible refine gate_builtin (b := .append) (xs := #[.tmp 45, .tmp 52]) rfl ?_); at_builtin; refine Kd.R_append k36 (w0 := w) w.heap.size rfl (.tmp 45) (.tmp 52) 27 36 (.agg #[(.int .i64 0), (.int .i64 0), (.int .i64 0)]) 24 rfl Try.underlying27 info36 rfl (by decide) (by omega) u189001 x189001_1 (⟨x8_1, wrap64 ((y190.length : Int) - 1), 0⟩ : S36) [.int .i64 x8_1, .int .i64 (wrap64 ((y190.length : Int) - 1)), .int .i64 0] (fun _ => True) (fun _ => False) rfl (by first | (go_simp; done) | (go_simp; rfl)) ?aP (fun _ hk => hk.elim) ?aF ?aO ?aB ?aS ?aL ?_; (case aP => exact k36_mkM _ _ _ (⟨x8_1, wrap64 ((y190.length : Int) - 1), 0⟩ : S36)); (case aB => exact (by repeat (first | (with_reducible first | exact HB.out | apply below_alloc | apply pw_below_drewN | apply below_drew1 | refine below_set ?_ GE188.out) | exact HB.out))); (case aF => exact (fun _ _ => trivial)); (case aO => exact (by (with_reducible repeat (first | apply Kd.R_alloc | apply Kd.R_drewN | apply Kd.R_drew)); exact Kd.R_mono (Kd.R_far (p := ⟨gb188, 0, none⟩) (Kd.R_types HO_189001.out BK188.out (by decide)) (fun _ hk => hk.2) (.slice Ao23 y190.length co23)) (fun _ hk => trivial))); (case aS => exact (below_size (by repeat (first | (with_reducible first | exact HB.out | apply below_alloc | apply pw_below_drewN | apply below_drew1 | refine below_set ?_ GE188.out) | exact HB.out)))); (case aL => have := LMc17.out; omega); intro v194 w25 ho hb hg hat; rw [← Ny193.out] at ho; have n0_ := Aside0.mk (blk_grown (g := gb188) (o := .cells #[.slice Ao23 y190.length co23, u189001] 29 (0, 0)) (by (with_reducible repeat (first | refine blk_drewN ?_ _ | refine blk_drew ?_ | refine blk_alloc ?_ _)); refine blk_put (cs := #[u189000, u189001]) ?_ 0 _ rfl; (with_reducible repeat (first | refine blk_drewN ?_ _ | refine blk_drew ?_ | refine blk_alloc ?_ _)); exact BK188.out) hg (Kd.R_ne HO_189001.out BK188.out (by decide))); have n2_ := Aside0.mk (Kd.R_over' (by (with_reducible repeat (first | apply Kd.R_alloc | apply Kd.R_drewN | apply Kd.R_drew)); exact (Kd.R_mono (Kd.R_far (p := ⟨gb188, 0, none⟩) (Kd.R_types HO192.out BK188.out (by decide)) (fun _ hk => hk.2) (.slice Ao23 y190.length co23)) (fun _ h_ => h_.1))) (Kd.R_typed (by (with_reducible repeat (first | apply Kd.R_alloc | apply Kd.R_drewN | apply Kd.R_drew)); exact (Kd.R_mono (Kd.R_far (p := ⟨gb188, 0, none⟩) (Kd.R_types HO_189001.out BK188.out (by decide)) (fun _ hk => hk.2) (.slice Ao23 y190.length co23)) (fun _ h_ => h_.1)))) (by decide) hg); have n3_ := Aside0.mk (hb); have n4_ := Aside0.mk (ho); clear BK188; clear HO192; clear HB; clear HO_189001; have BK188 := n0_; have HO192 := n2_; have HB := n3_; have HO195 := n4_; clear n0_ n2_ n3_ n4_; clear ho hb hg hat; obtain ⟨Ao26, co26, eo26⟩ := Kd.R_slice HO195.out; subst eo26; have hcz27_0 : w25.cell? ⟨gb188, 0, none⟩ = some (.slice Ao23 y190.length co23) := (blk_cell BK188.out 0).trans rfl; have hcz27_1 : w25.cell? ⟨gb188, 1, none⟩ = some (u189001) := (blk_cell BK188.out 1).trans rfl; have hfz27_0 := blk_frozen BK188.out 0; have hfz27_1 := blk_frozen BK188.out 1))
        go_roundg k1
        case measure => have := HK1.out; omega
        case rel => exact ⟨(wrap64 ((y190.length : Int) - 1)), (wrap64 (x9_1 + 1)), (y190), (y193), (.slice Ao23 y190.length co23), (.slice Ao26 y193.length co26), (by first | rfl | (simp; done) | (simp [*]; done)), (by first | rfl | (simp; done) | (simp [*]; done)), H', ⟨by have := HK1.out; omega⟩, ⟨by (with_reducible repeat (first | apply Kd.R_alloc | apply Kd.R_drewN | apply Kd.R_drew)); exact Kd.R_mono (Kd.R_far (p := ⟨gb188, 1, none⟩) (Kd.R_types HO192.out BK188.out (by decide)) (fun _ hk => hk.2) (.slice Ao26 y193.length co26)) (fun _ hk => trivial)⟩, ⟨by (with_reducible repeat (first | apply Kd.R_alloc | apply Kd.R_drewN | apply Kd.R_drew)); exact Kd.R_mono (Kd.R_far (p := ⟨gb188, 1, none⟩) (Kd.R_types HO195.out BK188.out (by decide)) (fun _ hk => hk.2) (.slice Ao26 y193.length co26)) (fun _ hk => trivial)⟩, ⟨by (with_reducible repeat (first | refine blk_drewN ?_ _ | refine blk_drew ?_ | refine blk_alloc ?_ _)); refine blk_put (cs := #[.slice Ao23 y190.length co23, u189001]) ?_ 1 _ rfl; (with_reducible repeat (first | refine blk_drewN ?_ _ | refine blk_drew ?_ | refine blk_alloc ?_ _)); exact BK188.out⟩, ⟨by repeat (first | (with_reducible first | exact HB.out | apply below_alloc | apply pw_below_drewN | apply below_drew1 | refine below_set ?_ GE188.out) | exact HB.out)⟩⟩
       ·rw [if_neg c17] at H
        exact absurd H (by simp)
      ·rw [if_neg c16] at H
       exact absurd H (by simp)
     ·replace c15 := Bool.eq_false_iff.mpr c15
      subst c15
      have H1 : (if x189000_1.length < 4398046511104 then ((some (x189000_1 ++ [(⟨5, 0, 0, 1⟩ : S23)] : List (S23))).bind fun y196 => (if x189001_1.length < 5864062014805 then (meanderlaw09_ValidLoops_Lop.l0 k1 false t181 nn (wrap64 ((y196.length : Int) - 1)) (wrap64 (x9_1 + 1)) y196 (x189001_1 ++ [(⟨x8_1, wrap64 ((y196.length : Int) - 1), 0⟩ : S36)])) else (none))) else (none)) = some r := by rw [if_neg (show ¬ (false = true) by decide)] at H; exact H
      clear H
      have H := H1
      clear H1
      by_cases c28 : x189000_1.length < 4398046511104
      ·rw [if_pos c28] at H
       have LMc28 := Aside0.mk c28
       clear c28
       obtain ⟨y196, hy196⟩ : ∃ y_ : List (S23), y_ = (x189000_1 ++ [(⟨5, 0, 0, 1⟩ : S23)]) := ⟨_, rfl⟩
       replace H : (if x189001_1.length < 5864062014805 then (meanderlaw09_ValidLoops_Lop.l0 k1 false t181 nn (wrap64 ((y196.length : Int) - 1)) (wrap64 (x9_1 + 1)) y196 (x189001_1 ++ [(⟨x8_1, wrap64 ((y196.length : Int) - 1), 0⟩ : S36)])) else (none)) = some r := by first | (rw [hy196]; with_reducible exact H) | (have H2_ := (Option.bind_some _ _).symm.trans H; rw [hy196]; with_reducible exact H2_) | (have H2_ := (Option.bind_some _ _).symm.trans H; with_reducible exact H2_) | with_reducible exact H | (rw [hy196]; exact H) | exact H
       have Ny196 := Aside0.mk hy196
       clear hy196
       by_cases c29 : x189001_1.length < 5864062014805
       ·rw [if_pos c29] at H
        have LMc29 := Aside0.mk c29
        clear c29
        obtain ⟨y199, hy199⟩ : ∃ y_ : List (S36), y_ = (x189001_1 ++ [(⟨x8_1, wrap64 ((y196.length : Int) - 1), 0⟩ : S36)]) := ⟨_, rfl⟩
        replace H : (meanderlaw09_ValidLoops_Lop.l0 k1 false t181 nn (wrap64 ((y196.length : Int) - 1)) (wrap64 (x9_1 + 1)) y196 y199) = some r := by first | (rw [hy199]; with_reducible exact H) | (have H2_ := (Option.bind_some _ _).symm.trans H; rw [hy199]; with_reducible exact H2_) | (have H2_ := (Option.bind_some _ _).symm.trans H; with_reducible exact H2_) | with_reducible exact H | (rw [hy199]; exact H) | exact H
        have Ny199 := Aside0.mk hy199
        clear hy199
        have H' := Aside0.mk H
        clear H
        have hcn0 : ∀ o_, (wr.alloc o_).cell? ⟨gb188, 0, none⟩ = some u189000 := fun o_ => (blk_cell (blk_alloc BK188.out o_) 0).trans rfl
        have hcn1 : ∀ o_, (wr.alloc o_).cell? ⟨gb188, 1, none⟩ = some u189001 := fun o_ => (blk_cell (blk_alloc BK188.out o_) 1).trans rfl
        have hcf0 : ∀ o_, _ := fun o_ => blk_frozen (blk_alloc BK188.out o_) 0
        go_wp2_with (first | ((with_reducible refine gate_builtin (b := .append) (xs := #[.tmp 39, .tmp 41]) rfl ?_); at_builtin; refine Kd.R_append k23 (w0 := w) w.heap.size rfl (.tmp 39) (.tmp 41) 26 23 (.agg #[(.int .i64 0), (.int .i64 0), (.int .i64 0), (.int .i64 0)]) 32 rfl Try.underlying26 info23 rfl (by decide) (by omega) u189000 x189000_1 (⟨5, 0, 0, 1⟩ : S23) [.int .i64 5, .int .i64 0, .int .i64 0, .int .i64 1] (fun _ => True) (fun _ => False) rfl (by first | (go_simp; done) | (go_simp; rfl)) ?aP (fun _ hk => hk.elim) ?aF ?aO ?aB ?aS ?aL ?_; (case aP => exact k23_mkM _ _ _ (⟨5, 0, 0, 1⟩ : S23)); (case aB => exact (by repeat (first | (with_reducible first | exact HB.out | apply below_alloc | apply pw_below_drewN | apply below_drew1 | refine below_set ?_ GE188.out) | exact HB.out))); (case aF => exact (fun _ _ => trivial)); (case aO => exact (by (with_reducible repeat (first | apply Kd.R_alloc | apply Kd.R_drewN | apply Kd.R_drew)); exact HO_189000.out)); (case aS => exact (below_size (by repeat (first | (with_reducible first | exact HB.out | apply below_alloc | apply pw_below_drewN | apply below_drew1 | refine below_set ?_ GE188.out) | exact HB.out)))); (case aL => have := LMc28.out; omega); intro v197 w34 ho hb hg hat; rw [← Ny196.out] at ho; have n0_ := Aside0.mk (Kd.R_over' (by (with_reducible repeat (first | apply Kd.R_alloc | apply Kd.R_drewN | apply Kd.R_drew)); exact HO_189001.out) (Kd.R_typed (by (with_reducible repeat (first | apply Kd.R_alloc | apply Kd.R_drewN | apply Kd.R_drew)); exact HO_189000.out)) (by decide) hg); have n1_ := Aside0.mk (blk_grown (g := gb188) (o := .cells #[u189000, u189001] 29 (0, 0)) (by (with_reducible repeat (first | refine blk_drewN ?_ _ | refine blk_drew ?_ | refine blk_alloc ?_ _)); exact BK188.out) hg (Kd.R_ne HO_189000.out BK188.out (by decide))); have n3_ := Aside0.mk (hb); have n4_ := Aside0.mk (ho); clear HO_189001; clear BK188; clear HB; clear HO_189000; have HO_189001 := n0_; have BK188 := n1_; have HB := n3_; have HO198 := n4_; clear n0_ n1_ n3_ n4_; clear ho hb hg hat; obtain ⟨Ao35, co35, eo35⟩ := Kd.R_slice HO198.out; subst eo35; have hcz36_0 : w34.cell? ⟨gb188, 0, none⟩ = some (u189000) := (blk_cell BK188.out 0).trans rfl; have hcz36_1 : w34.cell? ⟨gb188, 1, none⟩ = some (u189001) := (blk_cell BK188.out 1).trans rfl; have hfz36_0 := blk_frozen BK188.out 0; have hfz36_1 := blk_frozen BK188.out 1) | ((with_reducible refine gate_builtin (b := .append) (xs := #[.tmp 45, .tmp 52]) rfl ?_); at_builtin; refine Kd.R_append k36 (w0 := w) w.heap.size rfl (.tmp 45) (.tmp 52) 27 36 (.agg #[(.int .i64 0), (.int .i64 0), (.int .i64 0)]) 24 rfl Try.underlying27 info36 rfl (by decide) (by omega) u189001 x189001_1 (⟨x8_1, wrap64 ((y196.length : Int) - 1), 0⟩ : S36) [.int .i64 x8_1, .int .i64 (wrap64 ((y196.length : Int) - 1)), .int .i64 0] (fun _ => True) (fun _ => False) rfl (by first | (go_simp; done) | (go_simp; rfl)) ?aP (fun _ hk => hk.elim) ?aF ?aO ?aB ?aS ?aL ?_; (case aP => exact k36_mkM _ _ _ (⟨x8_1, wrap64 ((y196.length : Int) - 1), 0⟩ : S36)); (case aB => exact (by repeat (first | (with_reducible first | exact HB.out | apply below_alloc | apply pw_below_drewN | apply below_drew1 | refine below_set ?_ GE188.out) | exact HB.out))); (case aF => exact (fun _ _ => trivial)); (case aO => exact (by (with_reducible repeat (first | apply Kd.R_alloc | apply Kd.R_drewN | apply Kd.R_drew)); exact Kd.R_mono (Kd.R_far (p := ⟨gb188, 0, none⟩) (Kd.R_types HO_189001.out BK188.out (by decide)) (fun _ hk => hk.2) (.slice Ao35 y196.length co35)) (fun _ hk => trivial))); (case aS => exact (below_size (by repeat (first | (with_reducible first | exact HB.out | apply below_alloc | apply pw_below_drewN | apply below_drew1 | refine below_set ?_ GE188.out) | exact HB.out)))); (case aL => have := LMc29.out; omega); intro v200 w37 ho hb hg hat; rw [← Ny199.out] at ho; have n0_ := Aside0.mk (blk_grown (g := gb188) (o := .cells #[.slice Ao35 y196.length co35, u189001] 29 (0, 0)) (by (with_reducible repeat (first | refine blk_drewN ?_ _ | refine blk_drew ?_ | refine blk_alloc ?_ _)); refine blk_put (cs := #[u189000, u189001]) ?_ 0 _ rfl; (with_reducible repeat (first | refine blk_drewN ?_ _ | refine blk_drew ?_ | refine blk_alloc ?_ _)); exact BK188.out) hg (Kd.R_ne HO_189001.out BK188.out (by decide))); have n2_ := Aside0.mk (Kd.R_over' (by (with_reducible repeat (first | apply Kd.R_alloc | apply Kd.R_drewN | apply Kd.R_drew)); exact (Kd.R_mono (Kd.R_far (p := ⟨gb188, 0, none⟩) (Kd.R_types HO198.out BK188.out (by decide)) (fun _ hk => hk.2) (.slice Ao35 y196.length co35)) (fun _ h_ => h_.1))) (Kd.R_typed (by (with_reducible repeat (first | apply Kd.R_alloc | apply Kd.R_drewN | apply Kd.R_drew)); exact (Kd.R_mono (Kd.R_far (p := ⟨gb188, 0, none⟩) (Kd.R_types HO_189001.out BK188.out (by decide)) (fun _ hk => hk.2) (.slice Ao35 y196.length co35)) (fun _ h_ => h_.1)))) (by decide) hg); have n3_ := Aside0.mk (hb); have n4_ := Aside0.mk (ho); clear BK188; clear HO198; clear HB; clear HO_189001; have BK188 := n0_; have HO198 := n2_; have HB := n3_; have HO201 := n4_; clear n0_ n2_ n3_ n4_; clear ho hb hg hat; obtain ⟨Ao38, co38, eo38⟩ := Kd.R_slice HO201.out; subst eo38; have hcz39_0 : w37.cell? ⟨gb188, 0, none⟩ = some (.slice Ao35 y196.length co35) := (blk_cell BK188.out 0).trans rfl; have hcz39_1 : w37.cell? ⟨gb188, 1, none⟩ = some (u189001) := (blk_cell BK188.out 1).trans rfl; have hfz39_0 := blk_frozen BK188.out 0; have hfz39_1 := blk_frozen BK188.out 1))
        go_roundg k1
        case measure => have := HK1.out; omega
        case rel => exact ⟨(wrap64 ((y196.length : Int) - 1)), (wrap64 (x9_1 + 1)), (y196), (y199), (.slice Ao35 y196.length co35), (.slice Ao38 y199.length co38), (by first | rfl | (simp; done) | (simp [*]; done)), (by first | rfl | (simp; done) | (simp [*]; done)), H', ⟨by have := HK1.out; omega⟩, ⟨by (with_reducible repeat (first | apply Kd.R_alloc | apply Kd.R_drewN | apply Kd.R_drew)); exact Kd.R_mono (Kd.R_far (p := ⟨gb188, 1, none⟩) (Kd.R_types HO198.out BK188.out (by decide)) (fun _ hk => hk.2) (.slice Ao38 y199.length co38)) (fun _ hk => trivial)⟩, ⟨by (with_reducible repeat (first | apply Kd.R_alloc | apply Kd.R_drewN | apply Kd.R_drew)); exact Kd.R_mono (Kd.R_far (p := ⟨gb188, 1, none⟩) (Kd.R_types HO201.out BK188.out (by decide)) (fun _ hk => hk.2) (.slice Ao38 y199.length co38)) (fun _ hk => trivial)⟩, ⟨by (with_reducible repeat (first | refine blk_drewN ?_ _ | refine blk_drew ?_ | refine blk_alloc ?_ _)); refine blk_put (cs := #[.slice Ao35 y196.length co35, u189001]) ?_ 1 _ rfl; (with_reducible repeat (first | refine blk_drewN ?_ _ | refine blk_drew ?_ | refine blk_alloc ?_ _)); exact BK188.out⟩, ⟨by repeat (first | (with_reducible first | exact HB.out | apply below_alloc | apply pw_below_drewN | apply below_drew1 | refine below_set ?_ GE188.out) | exact HB.out)⟩⟩
       ·rw [if_neg c29] at H
        exact absurd H (by simp)
      ·rw [if_neg c28] at H
       exact absurd H (by simp)
    ·rw [if_neg c14] at H
     have c14b0 : (x9_1 == (wrap64 (nn - 1))) = false := beq_eq_false_iff_ne.mpr c14
     have c14b1 : (x9_1 != (wrap64 (nn - 1))) = true := bne_iff_ne.mpr c14
     by_cases c40 : x189000_1.length < 4398046511104
     ·rw [if_pos c40] at H
      have LMc40 := Aside0.mk c40
      clear c40
      obtain ⟨y202, hy202⟩ : ∃ y_ : List (S23), y_ = (x189000_1 ++ [(⟨5, 0, 0, 1⟩ : S23)]) := ⟨_, rfl⟩
      replace H : (if x189001_1.length < 5864062014805 then (meanderlaw09_ValidLoops_Lop.l0 k1 a1 t181 nn (wrap64 ((y202.length : Int) - 1)) (wrap64 (x9_1 + 1)) y202 (x189001_1 ++ [(⟨x8_1, wrap64 ((y202.length : Int) - 1), 0⟩ : S36)])) else (none)) = some r := by first | (rw [hy202]; with_reducible exact H) | (have H2_ := (Option.bind_some _ _).symm.trans H; rw [hy202]; with_reducible exact H2_) | (have H2_ := (Option.bind_some _ _).symm.trans H; with_reducible exact H2_) | with_reducible exact H | (rw [hy202]; exact H) | exact H
      have Ny202 := Aside0.mk hy202
      clear hy202
      by_cases c41 : x189001_1.length < 5864062014805
      ·rw [if_pos c41] at H
       have LMc41 := Aside0.mk c41
       clear c41
       obtain ⟨y205, hy205⟩ : ∃ y_ : List (S36), y_ = (x189001_1 ++ [(⟨x8_1, wrap64 ((y202.length : Int) - 1), 0⟩ : S36)]) := ⟨_, rfl⟩
       replace H : (meanderlaw09_ValidLoops_Lop.l0 k1 a1 t181 nn (wrap64 ((y202.length : Int) - 1)) (wrap64 (x9_1 + 1)) y202 y205) = some r := by first | (rw [hy205]; with_reducible exact H) | (have H2_ := (Option.bind_some _ _).symm.trans H; rw [hy205]; with_reducible exact H2_) | (have H2_ := (Option.bind_some _ _).symm.trans H; with_reducible exact H2_) | with_reducible exact H | (rw [hy205]; exact H) | exact H
       have Ny205 := Aside0.mk hy205
       clear hy205
       have H' := Aside0.mk H
       clear H
       have hcn0 : ∀ o_, (wr.alloc o_).cell? ⟨gb188, 0, none⟩ = some u189000 := fun o_ => (blk_cell (blk_alloc BK188.out o_) 0).trans rfl
       have hcn1 : ∀ o_, (wr.alloc o_).cell? ⟨gb188, 1, none⟩ = some u189001 := fun o_ => (blk_cell (blk_alloc BK188.out o_) 1).trans rfl
       have hcf0 : ∀ o_, _ := fun o_ => blk_frozen (blk_alloc BK188.out o_) 0
       go_wp2_with (first | ((with_reducible refine gate_builtin (b := .append) (xs := #[.tmp 39, .tmp 41]) rfl ?_); at_builtin; refine Kd.R_append k23 (w0 := w) w.heap.size rfl (.tmp 39) (.tmp 41) 26 23 (.agg #[(.int .i64 0), (.int .i64 0), (.int .i64 0), (.int .i64 0)]) 32 rfl Try.underlying26 info23 rfl (by decide) (by omega) u189000 x189000_1 (⟨5, 0, 0, 1⟩ : S23) [.int .i64 5, .int .i64 0, .int .i64 0, .int .i64 1] (fun _ => True) (fun _ => False) rfl (by first | (go_simp; done) | (go_simp; rfl)) ?aP (fun _ hk => hk.elim) ?aF ?aO ?aB ?aS ?aL ?_; (case aP => exact k23_mkM _ _ _ (⟨5, 0, 0, 1⟩ : S23)); (case aB => exact (by repeat (first | (with_reducible first | exact HB.out | apply below_alloc | apply pw_below_drewN | apply below_drew1 | refine below_set ?_ GE188.out) | exact HB.out))); (case aF => exact (fun _ _ => trivial)); (case aO => exact (by (with_reducible repeat (first | apply Kd.R_alloc | apply Kd.R_drewN | apply Kd.R_drew)); exact HO_189000.out)); (case aS => exact (below_size (by repeat (first | (with_reducible first | exact HB.out | apply below_alloc | apply pw_below_drewN | apply below_drew1 | refine below_set ?_ GE188.out) | exact HB.out)))); (case aL => have := LMc40.out; omega); intro v203 w46 ho hb hg hat; rw [← Ny202.out] at ho; have n0_ := Aside0.mk (Kd.R_over' (by (with_reducible repeat (first | apply Kd.R_alloc | apply Kd.R_drewN | apply Kd.R_drew)); exact HO_189001.out) (Kd.R_typed (by (with_reducible repeat (first | apply Kd.R_alloc | apply Kd.R_drewN | apply Kd.R_drew)); exact HO_189000.out)) (by decide) hg); have n1_ := Aside0.mk (blk_grown (g := gb188) (o := .cells #[u189000, u189001] 29 (0, 0)) (by (with_reducible repeat (first | refine blk_drewN ?_ _ | refine blk_drew ?_ | refine blk_alloc ?_ _)); exact BK188.out) hg (Kd.R_ne HO_189000.out BK188.out (by decide))); have n3_ := Aside0.mk (hb); have n4_ := Aside0.mk (ho); clear HO_189001; clear BK188; clear HB; clear HO_189000; have HO_189001 := n0_; have BK188 := n1_; have HB := n3_; have HO204 := n4_; clear n0_ n1_ n3_ n4_; clear ho hb hg hat; obtain ⟨Ao47, co47, eo47⟩ := Kd.R_slice HO204.out; subst eo47; have hcz48_0 : w46.cell? ⟨gb188, 0, none⟩ = some (u189000) := (blk_cell BK188.out 0).trans rfl; have hcz48_1 : w46.cell? ⟨gb188, 1, none⟩ = some (u189001) := (blk_cell BK188.out 1).trans rfl; have hfz48_0 := blk_frozen BK188.out 0; have hfz48_1 := blk_frozen BK188.out 1) | ((with_reducible refine gate_builtin (b := .append) (xs := #[.tmp 45, .tmp 52]) rfl ?_); at_builtin; refine Kd.R_append k36 (w0 := w) w.heap.size rfl (.tmp 45) (.tmp 52) 27 36 (.agg #[(.int .i64 0), (.int .i64 0), (.int .i64 0)]) 24 rfl Try.underlying27 info36 rfl (by decide) (by omega) u189001 x189001_1 (⟨x8_1, wrap64 ((y202.length : Int) - 1), 0⟩ : S36) [.int .i64 x8_1, .int .i64 (wrap64 ((y202.length : Int) - 1)), .int .i64 0] (fun _ => True) (fun _ => False) rfl (by first | (go_simp; done) | (go_simp; rfl)) ?aP (fun _ hk => hk.elim) ?aF ?aO ?aB ?aS ?aL ?_; (case aP => exact k36_mkM _ _ _ (⟨x8_1, wrap64 ((y202.length : Int) - 1), 0⟩ : S36)); (case aB => exact (by repeat (first | (with_reducible first | exact HB.out | apply below_alloc | apply pw_below_drewN | apply below_drew1 | refine below_set ?_ GE188.out) | exact HB.out))); (case aF => exact (fun _ _ => trivial)); (case aO => exact (by (with_reducible repeat (first | apply Kd.R_alloc | apply Kd.R_drewN | apply Kd.R_drew)); exact Kd.R_mono (Kd.R_far (p := ⟨gb188, 0, none⟩) (Kd.R_types HO_189001.out BK188.out (by decide)) (fun _ hk => hk.2) (.slice Ao47 y202.length co47)) (fun _ hk => trivial))); (case aS => exact (below_size (by repeat (first | (with_reducible first | exact HB.out | apply below_alloc | apply pw_below_drewN | apply below_drew1 | refine below_set ?_ GE188.out) | exact HB.out)))); (case aL => have := LMc41.out; omega); intro v206 w49 ho hb hg hat; rw [← Ny205.out] at ho; have n0_ := Aside0.mk (blk_grown (g := gb188) (o := .cells #[.slice Ao47 y202.length co47, u189001] 29 (0, 0)) (by (with_reducible repeat (first | refine blk_drewN ?_ _ | refine blk_drew ?_ | refine blk_alloc ?_ _)); refine blk_put (cs := #[u189000, u189001]) ?_ 0 _ rfl; (with_reducible repeat (first | refine blk_drewN ?_ _ | refine blk_drew ?_ | refine blk_alloc ?_ _)); exact BK188.out) hg (Kd.R_ne HO_189001.out BK188.out (by decide))); have n2_ := Aside0.mk (Kd.R_over' (by (with_reducible repeat (first | apply Kd.R_alloc | apply Kd.R_drewN | apply Kd.R_drew)); exact (Kd.R_mono (Kd.R_far (p := ⟨gb188, 0, none⟩) (Kd.R_types HO204.out BK188.out (by decide)) (fun _ hk => hk.2) (.slice Ao47 y202.length co47)) (fun _ h_ => h_.1))) (Kd.R_typed (by (with_reducible repeat (first | apply Kd.R_alloc | apply Kd.R_drewN | apply Kd.R_drew)); exact (Kd.R_mono (Kd.R_far (p := ⟨gb188, 0, none⟩) (Kd.R_types HO_189001.out BK188.out (by decide)) (fun _ hk => hk.2) (.slice Ao47 y202.length co47)) (fun _ h_ => h_.1)))) (by decide) hg); have n3_ := Aside0.mk (hb); have n4_ := Aside0.mk (ho); clear BK188; clear HO204; clear HB; clear HO_189001; have BK188 := n0_; have HO204 := n2_; have HB := n3_; have HO207 := n4_; clear n0_ n2_ n3_ n4_; clear ho hb hg hat; obtain ⟨Ao50, co50, eo50⟩ := Kd.R_slice HO207.out; subst eo50; have hcz51_0 : w49.cell? ⟨gb188, 0, none⟩ = some (.slice Ao47 y202.length co47) := (blk_cell BK188.out 0).trans rfl; have hcz51_1 : w49.cell? ⟨gb188, 1, none⟩ = some (u189001) := (blk_cell BK188.out 1).trans rfl; have hfz51_0 := blk_frozen BK188.out 0; have hfz51_1 := blk_frozen BK188.out 1))
       go_roundg k1
       case measure => have := HK1.out; omega
       case rel => exact ⟨(wrap64 ((y202.length : Int) - 1)), (wrap64 (x9_1 + 1)), (y202), (y205), (.slice Ao47 y202.length co47), (.slice Ao50 y205.length co50), (by first | rfl | (simp; done) | (simp [*]; done)), (by first | rfl | (simp; done) | (simp [*]; done)), H', ⟨by have := HK1.out; omega⟩, ⟨by (with_reducible repeat (first | apply Kd.R_alloc | apply Kd.R_drewN | apply Kd.R_drew)); exact Kd.R_mono (Kd.R_far (p := ⟨gb188, 1, none⟩) (Kd.R_types HO204.out BK188.out (by decide)) (fun _ hk => hk.2) (.slice Ao50 y205.length co50)) (fun _ hk => trivial)⟩, ⟨by (with_reducible repeat (first | apply Kd.R_alloc | apply Kd.R_drewN | apply Kd.R_drew)); exact Kd.R_mono (Kd.R_far (p := ⟨gb188, 1, none⟩) (Kd.R_types HO207.out BK188.out (by decide)) (fun _ hk => hk.2) (.slice Ao50 y205.length co50)) (fun _ hk => trivial)⟩, ⟨by (with_reducible repeat (first | refine blk_drewN ?_ _ | refine blk_drew ?_ | refine blk_alloc ?_ _)); refine blk_put (cs := #[.slice Ao47 y202.length co47, u189001]) ?_ 1 _ rfl; (with_reducible repeat (first | refine blk_drewN ?_ _ | refine blk_drew ?_ | refine blk_alloc ?_ _)); exact BK188.out⟩, ⟨by repeat (first | (with_reducible first | exact HB.out | apply below_alloc | apply pw_below_drewN | apply below_drew1 | refine below_set ?_ GE188.out) | exact HB.out)⟩⟩
      ·rw [if_neg c41] at H
       exact absurd H (by simp)
     ·rw [if_neg c40] at H
      exact absurd H (by simp)
   ·rw [if_neg c13] at H
    have c13b0 : decide (x9_1 < nn) = false := decide_eq_false c13
    clear c13
    by_cases c52 : x189001_1.length < 5864062014805
    ·rw [if_pos c52] at H
     have LMc52 := Aside0.mk c52
     clear c52
     obtain ⟨y208, hy208⟩ : ∃ y_ : List (S36), y_ = (x189001_1 ++ [(⟨x8_1, 2, 1⟩ : S36)]) := ⟨_, rfl⟩
     replace H : (if a1 = true then (if t181 = true then ((valid_Graph.f k1 x189000_1 y208).bind fun t211 => (some (t211 == 0))) else (none)) else (if t181 = true then ((valid_Graph.f k1 x189000_1 y208).bind fun t212 => (some (t212 == 14))) else (none))) = some r := by first | (rw [hy208]; with_reducible exact H) | (have H2_ := (Option.bind_some _ _).symm.trans H; rw [hy208]; with_reducible exact H2_) | (have H2_ := (Option.bind_some _ _).symm.trans H; with_reducible exact H2_) | with_reducible exact H | (rw [hy208]; exact H) | exact H
     have Ny208 := Aside0.mk hy208
     clear hy208
     by_cases c53 : a1 = true
     ·subst c53
      have H1 : (if t181 = true then ((valid_Graph.f k1 x189000_1 y208).bind fun t211 => (some (t211 == 0))) else (none)) = some r := by rw [if_pos rfl] at H; exact H
      clear H
      have H := H1
      clear H1
      by_cases c54 : t181 = true
      ·subst c54
       have H1 : ((valid_Graph.f k1 x189000_1 y208).bind fun t211 => (some (t211 == 0))) = some r := by rw [if_pos rfl] at H; exact H
       clear H
       have H := H1
       clear H1
       replace H := Option.bind_eq_some_iff.mp H
       obtain ⟨t211, A550, H⟩ := H
       replace H : (some (t211 == 0)) = some r := H
       have A55 := Aside0.mk A550
       clear A550
       obtain rfl := Option.some.inj H
       have hcz56_0 : wr.cell? ⟨gb188, 0, none⟩ = some (u189000) := (blk_cell BK188.out 0).trans rfl
       have hcz56_1 : wr.cell? ⟨gb188, 1, none⟩ = some (u189001) := (blk_cell BK188.out 1).trans rfl
       have hfz56_0 := blk_frozen BK188.out 0
       have hfz56_1 := blk_frozen BK188.out 1
       go_wp2_with (first | ((with_reducible refine gate_builtin (b := .append) (xs := #[.tmp 60, .tmp 63]) rfl ?_); at_builtin; refine Kd.R_append k36 (w0 := w) w.heap.size rfl (.tmp 60) (.tmp 63) 27 36 (.agg #[(.int .i64 0), (.int .i64 0), (.int .i64 0)]) 24 rfl Try.underlying27 info36 rfl (by decide) (by omega) u189001 x189001_1 (⟨x8_1, 2, 1⟩ : S36) [.int .i64 x8_1, .int .i64 2, .int .i64 1] (fun _ => True) (fun _ => False) rfl rfl ?aP (fun _ hk => hk.elim) ?aF ?aO ?aB ?aS ?aL ?_; (case aP => exact k36_mkM _ _ _ (⟨x8_1, 2, 1⟩ : S36)); (case aB => exact (by repeat (first | (with_reducible first | exact HB.out | apply below_alloc | apply pw_below_drewN | apply below_drew1 | refine below_set ?_ GE188.out) | exact HB.out))); (case aF => exact (fun _ _ => trivial)); (case aO => exact (by (with_reducible repeat (first | apply Kd.R_alloc | apply Kd.R_drewN | apply Kd.R_drew)); exact HO_189001.out)); (case aS => exact (below_size (by repeat (first | (with_reducible first | exact HB.out | apply below_alloc | apply pw_below_drewN | apply below_drew1 | refine below_set ?_ GE188.out) | exact HB.out)))); (case aL => have := LMc52.out; omega); intro v209 w57 ho hb hg hat; rw [← Ny208.out] at ho; have n0_ := Aside0.mk (Kd.R_over' (by (with_reducible repeat (first | apply Kd.R_alloc | apply Kd.R_drewN | apply Kd.R_drew)); exact HO_189000.out) (Kd.R_typed (by (with_reducible repeat (first | apply Kd.R_alloc | apply Kd.R_drewN | apply Kd.R_drew)); exact HO_189001.out)) (by decide) hg); have n1_ := Aside0.mk (blk_grown (g := gb188) (o := .cells #[u189000, u189001] 29 (0, 0)) (by (with_reducible repeat (first | refine blk_drewN ?_ _ | refine blk_drew ?_ | refine blk_alloc ?_ _)); exact BK188.out) hg (Kd.R_ne HO_189001.out BK188.out (by decide))); have n2_ := Aside0.mk (hb); have n3_ := Aside0.mk (ho); clear HO_189000; clear BK188; clear HB; clear HO_189001; have HO_189000 := n0_; have BK188 := n1_; have HB := n2_; have HO210 := n3_; clear n0_ n1_ n2_ n3_; clear ho hb hg hat; obtain ⟨Ao58, co58, eo58⟩ := Kd.R_slice HO210.out; subst eo58; have hcz59_0 : w57.cell? ⟨gb188, 0, none⟩ = some (u189000) := (blk_cell BK188.out 0).trans rfl; have hcz59_1 : w57.cell? ⟨gb188, 1, none⟩ = some (u189001) := (blk_cell BK188.out 1).trans rfl; have hfz59_0 := blk_frozen BK188.out 0; have hfz59_1 := blk_frozen BK188.out 1; obtain ⟨Ao60, co60, eo60⟩ := Kd.R_slice HO_189000.out; subst eo60) | (go_at_call 13; (with_reducible refine (valid_Graph.calls k1 _ _ x189000_1 _ _ y208 t211 _ ?side1 ?side2 ?side3 ?side4 A55.out).mono ?_); (case side1 => refine (Kd.R_reads' (e := 23) (base := w.heap.size) (ok := fun k_ => True) (n := x189000_1.length) (c := co60) ?_).2.2; exact (by (with_reducible repeat (first | apply Kd.R_alloc | apply Kd.R_drewN | apply Kd.R_drew)); exact (Kd.R_mono (Kd.R_far (p := ⟨gb188, 1, none⟩) (Kd.R_types HO_189000.out BK188.out (by decide)) (fun _ hk => hk.2) (.slice Ao58 y208.length co58)) (fun _ h_ => h_.1)))); (case side2 => exact (Kd.R_reads' HO_189000.out).2.1); (case side3 => refine (Kd.R_reads' (e := 36) (base := w.heap.size) (ok := fun k_ => True) (n := y208.length) (c := co58) ?_).2.2; exact (by (with_reducible repeat (first | apply Kd.R_alloc | apply Kd.R_drewN | apply Kd.R_drew)); exact (Kd.R_mono (Kd.R_far (p := ⟨gb188, 1, none⟩) (Kd.R_types HO210.out BK188.out (by decide)) (fun _ hk => hk.2) (.slice Ao58 y208.length co58)) (fun _ h_ => h_.1)))); (case side4 => exact (Kd.R_reads' HO210.out).2.1); rintro e w61 ⟨rfl, hb⟩; have n0_ := Aside0.mk (Kd.R_below (by (with_reducible repeat (first | apply Kd.R_alloc | apply Kd.R_drewN | apply Kd.R_drew)); exact (Kd.R_mono (Kd.R_far (p := ⟨gb188, 1, none⟩) (Kd.R_types HO_189000.out BK188.out (by decide)) (fun _ hk => hk.2) (.slice Ao58 y208.length co58)) (fun _ h_ => h_.1))) hb); have n1_ := Aside0.mk (Kd.R_below (by (with_reducible repeat (first | apply Kd.R_alloc | apply Kd.R_drewN | apply Kd.R_drew)); exact (Kd.R_mono (Kd.R_far (p := ⟨gb188, 1, none⟩) (Kd.R_types HO210.out BK188.out (by decide)) (fun _ hk => hk.2) (.slice Ao58 y208.length co58)) (fun _ h_ => h_.1))) hb); have n2_ := Aside0.mk (blk_below (g := gb188) (o := .cells #[.slice Ao60 x189000_1.length co60, .slice Ao58 y208.length co58] 29 (0, 0)) (by (with_reducible repeat (first | refine blk_drewN ?_ _ | refine blk_drew ?_ | refine blk_alloc ?_ _)); refine blk_put (cs := #[.slice Ao60 x189000_1.length co60, u189001]) ?_ 1 _ rfl; (with_reducible repeat (first | refine blk_drewN ?_ _ | refine blk_drew ?_ | refine blk_alloc ?_ _)); exact BK188.out) hb); have n3_ := Aside0.mk (below_step (by repeat (first | (with_reducible first | exact HB.out | apply below_alloc | apply pw_below_drewN | apply below_drew1 | refine below_set ?_ GE188.out) | exact HB.out)) hb); clear HO_189000; clear HO210; clear BK188; clear HB; have HO_189000 := n0_; have HO210 := n1_; have BK188 := n2_; have HB := n3_; clear n0_ n1_ n2_ n3_; (try clear hb); (try clear hb2); (try clear hk); (try clear hi)))
       go_ret
       exact ⟨by first | rfl | (simp [errW_none, errW_some] <;> rfl) | (simp [*, errW_none, errW_some] <;> rfl), by repeat (first | (with_reducible first | exact HB.out | apply below_alloc | apply pw_below_drewN | apply below_drew1 | refine below_set ?_ GE188.out) | exact HB.out)⟩
      ·replace c54 := Bool.eq_false_iff.mpr c54
       subst c54
       have H1 : (none) = some r := by rw [if_neg (show ¬ (false = true) by decide)] at H; exact H
       clear H
       have H := H1
       clear H1
       exact absurd H (by simp)
     ·replace c53 := Bool.eq_false_iff.mpr c53
      subst c53
      have H1 : (if t181 = true then ((valid_Graph.f k1 x189000_1 y208).bind fun t212 => (some (t212 == 14))) else (none)) = some r := by rw [if_neg (show ¬ (false = true) by decide)] at H; exact H
      clear H
      have H := H1
      clear H1
      by_cases c62 : t181 = true
      ·subst c62
       have H1 : ((valid_Graph.f k1 x189000_1 y208).bind fun t212 => (some (t212 == 14))) = some r := by rw [if_pos rfl] at H; exact H
       clear H
       have H := H1
       clear H1
       replace H := Option.bind_eq_some_iff.mp H
       obtain ⟨t212, A630, H⟩ := H
       replace H : (some (t212 == 14)) = some r := H
       have A63 := Aside0.mk A630
       clear A630
       obtain rfl := Option.some.inj H
       have hcz64_0 : wr.cell? ⟨gb188, 0, none⟩ = some (u189000) := (blk_cell BK188.out 0).trans rfl
       have hcz64_1 : wr.cell? ⟨gb188, 1, none⟩ = some (u189001) := (blk_cell BK188.out 1).trans rfl
       have hfz64_0 := blk_frozen BK188.out 0
       have hfz64_1 := blk_frozen BK188.out 1
       go_wp2_with (first | ((with_reducible refine gate_builtin (b := .append) (xs := #[.tmp 60, .tmp 63]) rfl ?_); at_builtin; refine Kd.R_append k36 (w0 := w) w.heap.size rfl (.tmp 60) (.tmp 63) 27 36 (.agg #[(.int .i64 0), (.int .i64 0), (.int .i64 0)]) 24 rfl Try.underlying27 info36 rfl (by decide) (by omega) u189001 x189001_1 (⟨x8_1, 2, 1⟩ : S36) [.int .i64 x8_1, .int .i64 2, .int .i64 1] (fun _ => True) (fun _ => False) rfl rfl ?aP (fun _ hk => hk.elim) ?aF ?aO ?aB ?aS ?aL ?_; (case aP => exact k36_mkM _ _ _ (⟨x8_1, 2, 1⟩ : S36)); (case aB => exact (by repeat (first | (with_reducible first | exact HB.out | apply below_alloc | apply pw_below_drewN | apply below_drew1 | refine below_set ?_ GE188.out) | exact HB.out))); (case aF => exact (fun _ _ => trivial)); (case aO => exact (by (with_reducible repeat (first | apply Kd.R_alloc | apply Kd.R_drewN | apply Kd.R_drew)); exact HO_189001.out)); (case aS => exact (below_size (by repeat (first | (with_reducible first | exact HB.out | apply below_alloc | apply pw_below_drewN | apply below_drew1 | refine below_set ?_ GE188.out) | exact HB.out)))); (case aL => have := LMc52.out; omega); intro v209 w65 ho hb hg hat; rw [← Ny208.out] at ho; have n0_ := Aside0.mk (Kd.R_over' (by (with_reducible repeat (first | apply Kd.R_alloc | apply Kd.R_drewN | apply Kd.R_drew)); exact HO_189000.out) (Kd.R_typed (by (with_reducible repeat (first | apply Kd.R_alloc | apply Kd.R_drewN | apply Kd.R_drew)); exact HO_189001.out)) (by decide) hg); have n1_ := Aside0.mk (blk_grown (g := gb188) (o := .cells #[u189000, u189001] 29 (0, 0)) (by (with_reducible repeat (first | refine blk_drewN ?_ _ | refine blk_drew ?_ | refine blk_alloc ?_ _)); exact BK188.out) hg (Kd.R_ne HO_189001.out BK188.out (by decide))); have n2_ := Aside0.mk (hb); have n3_ := Aside0.mk (ho); clear HO_189000; clear BK188; clear HB; clear HO_189001; have HO_189000 := n0_; have BK188 := n1_; have HB := n2_; have HO210 := n3_; clear n0_ n1_ n2_ n3_; clear ho hb hg hat; obtain ⟨Ao66, co66, eo66⟩ := Kd.R_slice HO210.out; subst eo66; have hcz67_0 : w65.cell? ⟨gb188, 0, none⟩ = some (u189000) := (blk_cell BK188.out 0).trans rfl; have hcz67_1 : w65.cell? ⟨gb188, 1, none⟩ = some (u189001) := (blk_cell BK188.out 1).trans rfl; have hfz67_0 := blk_frozen BK188.out 0; have hfz67_1 := blk_frozen BK188.out 1; obtain ⟨Ao68, co68, eo68⟩ := Kd.R_slice HO_189000.out; subst eo68) | (go_at_call 13; (with_reducible refine (valid_Graph.calls k1 _ _ x189000_1 _ _ y208 t212 _ ?side1 ?side2 ?side3 ?side4 A63.out).mono ?_); (case side1 => refine (Kd.R_reads' (e := 23) (base := w.heap.size) (ok := fun k_ => True) (n := x189000_1.length) (c := co68) ?_).2.2; exact (by (with_reducible repeat (first | apply Kd.R_alloc | apply Kd.R_drewN | apply Kd.R_drew)); exact (Kd.R_mono (Kd.R_far (p := ⟨gb188, 1, none⟩) (Kd.R_types HO_189000.out BK188.out (by decide)) (fun _ hk => hk.2) (.slice Ao66 y208.length co66)) (fun _ h_ => h_.1)))); (case side2 => exact (Kd.R_reads' HO_189000.out).2.1); (case side3 => refine (Kd.R_reads' (e := 36) (base := w.heap.size) (ok := fun k_ => True) (n := y208.length) (c := co66) ?_).2.2; exact (by (with_reducible repeat (first | apply Kd.R_alloc | apply Kd.R_drewN | apply Kd.R_drew)); exact (Kd.R_mono (Kd.R_far (p := ⟨gb188, 1, none⟩) (Kd.R_types HO210.out BK188.out (by decide)) (fun _ hk => hk.2) (.slice Ao66 y208.length co66)) (fun _ h_ => h_.1)))); (case side4 => exact (Kd.R_reads' HO210.out).2.1); rintro e w69 ⟨rfl, hb⟩; have n0_ := Aside0.mk (Kd.R_below (by (with_reducible repeat (first | apply Kd.R_alloc | apply Kd.R_drewN | apply Kd.R_drew)); exact (Kd.R_mono (Kd.R_far (p := ⟨gb188, 1, none⟩) (Kd.R_types HO_189000.out BK188.out (by decide)) (fun _ hk => hk.2) (.slice Ao66 y208.length co66)) (fun _ h_ => h_.1))) hb); have n1_ := Aside0.mk (Kd.R_below (by (with_reducible repeat (first | apply Kd.R_alloc | apply Kd.R_drewN | apply Kd.R_drew)); exact (Kd.R_mono (Kd.R_far (p := ⟨gb188, 1, none⟩) (Kd.R_types HO210.out BK188.out (by decide)) (fun _ hk => hk.2) (.slice Ao66 y208.length co66)) (fun _ h_ => h_.1))) hb); have n2_ := Aside0.mk (blk_below (g := gb188) (o := .cells #[.slice Ao68 x189000_1.length co68, .slice Ao66 y208.length co66] 29 (0, 0)) (by (with_reducible repeat (first | refine blk_drewN ?_ _ | refine blk_drew ?_ | refine blk_alloc ?_ _)); refine blk_put (cs := #[.slice Ao68 x189000_1.length co68, u189001]) ?_ 1 _ rfl; (with_reducible repeat (first | refine blk_drewN ?_ _ | refine blk_drew ?_ | refine blk_alloc ?_ _)); exact BK188.out) hb); have n3_ := Aside0.mk (below_step (by repeat (first | (with_reducible first | exact HB.out | apply below_alloc | apply pw_below_drewN | apply below_drew1 | refine below_set ?_ GE188.out) | exact HB.out)) hb); clear HO_189000; clear HO210; clear BK188; clear HB; have HO_189000 := n0_; have HO210 := n1_; have BK188 := n2_; have HB := n3_; clear n0_ n1_ n2_ n3_; (try clear hb); (try clear hb2); (try clear hk); (try clear hi)))
       go_ret
       exact ⟨by first | rfl | (simp [errW_none, errW_some] <;> rfl) | (simp [*, errW_none, errW_some] <;> rfl), by repeat (first | (with_reducible first | exact HB.out | apply below_alloc | apply pw_below_drewN | apply below_drew1 | refine below_set ?_ GE188.out) | exact HB.out)⟩
      ·replace c62 := Bool.eq_false_iff.mpr c62
       subst c62
       have H1 : (none) = some r := by rw [if_neg (show ¬ (false = true) by decide)] at H; exact H
       clear H
       have H := H1
       clear H1
       exact absurd H (by simp)
    ·rw [if_neg c52] at H
     exact absurd H (by simp)

end Go.Proofs.Ytjlnjlnecipllaa.PAll
