-- Laid by hprint.py of this repo: the kit's printer, and contracts by hand beside it. Not trusted: Lean checks it.
import Derived.Test.YtbjjcolbomaodaaDoorWZ
import Derived.Test.YtbjjcolbomaodaaDoorPLdpx0
namespace Go.Proofs.YtbjjcolbomaodaaDoor.PLdp
open Go.RowKit Go.Proofs.YtbjjcolbomaodaaDoorW.PrintWords Go.Proofs.YtbjjcolbomaodaaDoorW.PrintLast Go.Proofs.YtbjjcolbomaodaaDoorW.PrintMore
attribute [local go_sem] max2_int min2_int max_two min_two max_three min_three max_four min_four   -- for this text's walks alone
set_option linter.unusedVariables false
set_option linter.unusedSimpArgs false

/-! ### meanderref08_Prev: function 47 -/
def meanderref08_Prev.l0 : Nat → List Int → Int → List (S40) → List (S42) → Int → Int → Option (List Int)
 | 0, _, _, _, _, _, _ => none
 | k + 1, x5, x6, x228000, x228001, x229000, x229001 => if x6 < (x228001.length : Int) then (if 0 ≤ x6 then (if ((rd_T42 x228001 x6).f1) = x229000 then (if ((rd_T42 x228001 x6).f2) = x229001 then (if x5.length < 17592186044416 then (meanderref08_Prev.l0 k (x5 ++ [(rd_T42 x228001 x6).f0]) (wrap64 (x6 + 1)) x228000 x228001 x229000 x229001) else (none)) else (meanderref08_Prev.l0 k x5 (wrap64 (x6 + 1)) x228000 x228001 x229000 x229001)) else (meanderref08_Prev.l0 k x5 (wrap64 (x6 + 1)) x228000 x228001 x229000 x229001)) else (none)) else (some x5)
def meanderref08_Prev.f (k : Nat) (l0_0 : List (S40)) (l0_1 : List (S42)) (a1_0 : Int) (a1_1 : Int) : Option (List Int) := meanderref08_Prev.l0 k (([] : List Int)) 0 l0_0 l0_1 a1_0 a1_1
theorem meanderref08_Prev.mono_l : ∀ k, (∀ y0 y1 y2 y3 y4 y5, LeO (meanderref08_Prev.l0 k y0 y1 y2 y3 y4 y5) (meanderref08_Prev.l0 (k + 1) y0 y1 y2 y3 y4 y5))
 | 0 => fun _ _ _ _ _ _ r h => by simp [meanderref08_Prev.l0] at h
 | k + 1 => by
  have ih0 := meanderref08_Prev.mono_l k
  ·intro y0 y1 y2 y3 y4 y5
   unfold meanderref08_Prev.l0
   repeat' first
   | (with_reducible exact ih0 _ _ _ _ _ _)
   | (with_reducible exact LeO.refl _)
   | (with_reducible exact LeO.none _)
   | (with_reducible refine LeO.ite ?_ ?_)
   | (with_reducible refine LeO.bind ?_ (fun _ => ?_))
   | exact ih0 _ _ _ _ _ _
   | exact LeO.none _
   | refine LeO.ite ?_ ?_
   | refine LeO.bind ?_ (fun _ => ?_)
theorem meanderref08_Prev.mono : ∀ a0 a1 a2 a3 k, LeO (meanderref08_Prev.f k a0 a1 a2 a3) (meanderref08_Prev.f (k + 1) a0 a1 a2 a3) := by
 intro a0 a1 a2 a3 k
 have ih0 := meanderref08_Prev.mono_l k
 unfold meanderref08_Prev.f
 repeat' first
   | (with_reducible exact ih0 _ _ _ _ _ _)
   | (with_reducible exact LeO.refl _)
   | (with_reducible exact LeO.none _)
   | (with_reducible refine LeO.ite ?_ ?_)
   | (with_reducible refine LeO.bind ?_ (fun _ => ?_))
   | exact ih0 _ _ _ _ _ _
   | exact LeO.none _
   | refine LeO.ite ?_ ?_
   | refine LeO.bind ?_ (fun _ => ?_)
set_option maxHeartbeats 8000000 in
set_option maxRecDepth 100000 in
theorem meanderref08_Prev.calls (k : Nat) (A0_0 : Option Addr) (c0_0 : Nat) (l0_0 : List (S40)) (A0_1 : Option Addr) (c0_1 : Nat) (l0_1 : List (S42)) (a1_0 : Int) (a1_1 : Int) (r : List Int) (w : World) (hr0_0 : Kd.C k40 w A0_0 l0_0.length l0_0) (hc0_0 : l0_0.length ≤ c0_0) (hr0_1 : Kd.C k42 w A0_1 l0_1.length l0_1) (hc0_1 : l0_1.length ≤ c0_1) (h : meanderref08_Prev.f k l0_0 l0_1 a1_0 a1_1 = some r) :
  Calls Tryd.prog 47 #[.agg #[.slice A0_0 l0_0.length c0_0, .slice A0_1 l0_1.length c0_1], .agg #[.int .i64 a1_0, .int .i64 a1_1]] w fun e w' => ∃ v0_ : Value, e = .returned (v0_) ∧ Kd.R (Kd.int .i64) 3 w' w.heap.size (fun _ => True) v0_ r ∧ Below w.heap.size w w' := by
 have hu27 := Tryd.underlying27
 have hu82 := Tryd.underlying82
 have HR0_0 := ZM hr0_0
 have HC0_0 := ZM hc0_0
 clear hr0_0 hc0_0
 have HR0_1 := ZM hr0_1
 have HC0_1 := ZM hc0_1
 clear hr0_1 hc0_1
 have HB := ZM (Below.refl w.heap.size w)
 have H : (meanderref08_Prev.l0 k (([] : List Int)) 0 l0_0 l0_1 a1_0 a1_1) = some r := h
 clear h
 obtain ⟨y229, hy229⟩ : ∃ y_ : List Int, y_ = (([] : List Int)) := ⟨_, rfl⟩
 replace H : (meanderref08_Prev.l0 k y229 0 l0_0 l0_1 a1_0 a1_1) = some r := by first | (rw [hy229]; with_reducible exact H) | (have H2_ := (Option.bind_some _ _).symm.trans H; rw [hy229]; with_reducible exact H2_) | (have H2_ := (Option.bind_some _ _).symm.trans H; with_reducible exact H2_) | with_reducible exact H | (rw [hy229]; exact H) | exact H
 have Ny229 := ZM hy229
 clear hy229
 have H' := ZM H
 clear H
 go_enter Tryd.func47, Tryd.ntmps47
 go_wp2_with (first | ((with_reducible refine gate_dst (N := 2) rfl ?_); refine box_event ?hg (N := 2) ?hd (cs := #[.slice A0_0 l0_0.length c0_0, .slice A0_1 l0_1.length c0_1]) (t := 27) ?hr ?_; (case hd => rfl); (case hg => rfl); (case hr => first | (go_simp; done) | (go_simp; rfl)); intro gb227 hg w3 hbox hb; have n0_ := ZM (ZW (ZBB HB.out) hb); have n1_ := ZM (hbox); have n2_ := ZM ((by rw [hg]; exact (ZV (ZBB HB.out)) : w.heap.size ≤ gb227)); have n3_ := ZM ((by rw [hg]; exact (ZV (ZBB HB.out)) : w.heap.size ≤ gb227)); clear HB; have HB := n0_; have BK227 := n1_; have GW227 := n2_; have GE227 := n3_; clear n0_ n1_ n2_ n3_; clear hb hbox hg) | ((with_reducible refine gate_dst (N := 3) rfl ?_); refine box_event ?hg (N := 3) ?hd (cs := #[.int .i64 a1_0, .int .i64 a1_1]) (t := 82) ?hr ?_; (case hd => rfl); (case hg => rfl); (case hr => first | (go_simp; done) | (go_simp; rfl)); intro gb228 hg w4 hbox hb; have n0_ := ZM (blk_below (g := gb227) (o := .cells #[.slice A0_0 l0_0.length c0_0, .slice A0_1 l0_1.length c0_1] 27 (0, 0)) (ZBK BK227.out) hb); have n1_ := ZM (ZW (ZBB HB.out) hb); have n2_ := ZM (hbox); have n3_ := ZM ((by rw [hg]; exact (ZV (ZBB HB.out)) : w.heap.size ≤ gb228)); have n4_ := ZM ((by rw [hg]; exact (ZV (ZBB HB.out)) : w.heap.size ≤ gb228)); have n5_ := ZM ((by rw [hg]; exact Nat.ne_of_lt (blk_lt (g := gb227) (o := .cells #[.slice A0_0 l0_0.length c0_0, .slice A0_1 l0_1.length c0_1] 27 (0, 0)) (ZBK BK227.out)) : gb227 ≠ gb228)); have n6_ := ZM ((by rw [hg]; exact Nat.ne_of_gt (blk_lt (g := gb227) (o := .cells #[.slice A0_0 l0_0.length c0_0, .slice A0_1 l0_1.length c0_1] 27 (0, 0)) (ZBK BK227.out)) : gb228 ≠ gb227)); clear BK227; clear HB; have BK227 := n0_; have HB := n1_; have BK228 := n2_; have GW228 := n3_; have GE228 := n4_; have NB227_228 := n5_; have NB228_227 := n6_; clear n0_ n1_ n2_ n3_ n4_ n5_ n6_; clear hb hbox hg) | ((with_reducible refine gate_dst (N := 7) rfl ?_); refine Kd.R_lit (Kd.int .i64) _ 3 ?hg (N := 7) ?hd (xs := ([] : List Int)) (inner := []) (ok := fun _ => True) (okp := fun _ => True) ?hr ?hp (fun _ hk => hk) trivial (Below.refl _ _) (Nat.le_refl _) (by simp) ?_; (case hd => rfl); (case hg => rfl); (case hr => first | (go_simp; done) | (go_simp; rfl)); (case hp => exact (Reps.none _ _)); intro v230 w5 ho6 hb hg_ hnew_; clear hg_ hnew_; (first | rw [← Ny229.out] at ho6 | (simp only [Int.reduceToNat] at ho6; rw [← Ny229.out] at ho6)); have n0_ := ZM (Kd.R_lower ho6 (ZV (ZBB HB.out))); have n1_ := ZM (blk_below (g := gb227) (o := .cells #[.slice A0_0 l0_0.length c0_0, .slice A0_1 l0_1.length c0_1] 27 (0, 0)) (ZBK BK227.out) hb); have n2_ := ZM (blk_below (g := gb228) (o := .cells #[.int .i64 a1_0, .int .i64 a1_1] 82 (0, 0)) (ZBK BK228.out) hb); have n3_ := ZM (ZW (ZBB HB.out) hb); clear BK227; clear BK228; clear HB; have HO231 := n0_; have BK227 := n1_; have BK228 := n2_; have HB := n3_; clear n0_ n1_ n2_ n3_; clear hb ho6))
 repeat (go_quiet (first | ((with_reducible refine gate_dst (N := 2) rfl ?_); refine box_event ?hg (N := 2) ?hd (cs := #[.slice A0_0 l0_0.length c0_0, .slice A0_1 l0_1.length c0_1]) (t := 27) ?hr ?_; (case hd => rfl); (case hg => rfl); (case hr => first | (go_simp; done) | (go_simp; rfl)); intro gb227 hg w3 hbox hb; have n0_ := ZM (ZW (ZBB HB.out) hb); have n1_ := ZM (hbox); have n2_ := ZM ((by rw [hg]; exact (ZV (ZBB HB.out)) : w.heap.size ≤ gb227)); have n3_ := ZM ((by rw [hg]; exact (ZV (ZBB HB.out)) : w.heap.size ≤ gb227)); clear HB; have HB := n0_; have BK227 := n1_; have GW227 := n2_; have GE227 := n3_; clear n0_ n1_ n2_ n3_; clear hb hbox hg) | ((with_reducible refine gate_dst (N := 3) rfl ?_); refine box_event ?hg (N := 3) ?hd (cs := #[.int .i64 a1_0, .int .i64 a1_1]) (t := 82) ?hr ?_; (case hd => rfl); (case hg => rfl); (case hr => first | (go_simp; done) | (go_simp; rfl)); intro gb228 hg w4 hbox hb; have n0_ := ZM (blk_below (g := gb227) (o := .cells #[.slice A0_0 l0_0.length c0_0, .slice A0_1 l0_1.length c0_1] 27 (0, 0)) (ZBK BK227.out) hb); have n1_ := ZM (ZW (ZBB HB.out) hb); have n2_ := ZM (hbox); have n3_ := ZM ((by rw [hg]; exact (ZV (ZBB HB.out)) : w.heap.size ≤ gb228)); have n4_ := ZM ((by rw [hg]; exact (ZV (ZBB HB.out)) : w.heap.size ≤ gb228)); have n5_ := ZM ((by rw [hg]; exact Nat.ne_of_lt (blk_lt (g := gb227) (o := .cells #[.slice A0_0 l0_0.length c0_0, .slice A0_1 l0_1.length c0_1] 27 (0, 0)) (ZBK BK227.out)) : gb227 ≠ gb228)); have n6_ := ZM ((by rw [hg]; exact Nat.ne_of_gt (blk_lt (g := gb227) (o := .cells #[.slice A0_0 l0_0.length c0_0, .slice A0_1 l0_1.length c0_1] 27 (0, 0)) (ZBK BK227.out)) : gb228 ≠ gb227)); clear BK227; clear HB; have BK227 := n0_; have HB := n1_; have BK228 := n2_; have GW228 := n3_; have GE228 := n4_; have NB227_228 := n5_; have NB228_227 := n6_; clear n0_ n1_ n2_ n3_ n4_ n5_ n6_; clear hb hbox hg) | ((with_reducible refine gate_dst (N := 7) rfl ?_); refine Kd.R_lit (Kd.int .i64) _ 3 ?hg (N := 7) ?hd (xs := ([] : List Int)) (inner := []) (ok := fun _ => True) (okp := fun _ => True) ?hr ?hp (fun _ hk => hk) trivial (Below.refl _ _) (Nat.le_refl _) (by simp) ?_; (case hd => rfl); (case hg => rfl); (case hr => first | (go_simp; done) | (go_simp; rfl)); (case hp => exact (Reps.none _ _)); intro v230 w5 ho6 hb hg_ hnew_; clear hg_ hnew_; (first | rw [← Ny229.out] at ho6 | (simp only [Int.reduceToNat] at ho6; rw [← Ny229.out] at ho6)); have n0_ := ZM (Kd.R_lower ho6 (ZV (ZBB HB.out))); have n1_ := ZM (blk_below (g := gb227) (o := .cells #[.slice A0_0 l0_0.length c0_0, .slice A0_1 l0_1.length c0_1] 27 (0, 0)) (ZBK BK227.out) hb); have n2_ := ZM (blk_below (g := gb228) (o := .cells #[.int .i64 a1_0, .int .i64 a1_1] 82 (0, 0)) (ZBK BK228.out) hb); have n3_ := ZM (ZW (ZBB HB.out) hb); clear BK227; clear BK228; clear HB; have HO231 := n0_; have BK227 := n1_; have BK228 := n2_; have HB := n3_; clear n0_ n1_ n2_ n3_; clear hb ho6)); try go_wp2_with (first | ((with_reducible refine gate_dst (N := 2) rfl ?_); refine box_event ?hg (N := 2) ?hd (cs := #[.slice A0_0 l0_0.length c0_0, .slice A0_1 l0_1.length c0_1]) (t := 27) ?hr ?_; (case hd => rfl); (case hg => rfl); (case hr => first | (go_simp; done) | (go_simp; rfl)); intro gb227 hg w3 hbox hb; have n0_ := ZM (ZW (ZBB HB.out) hb); have n1_ := ZM (hbox); have n2_ := ZM ((by rw [hg]; exact (ZV (ZBB HB.out)) : w.heap.size ≤ gb227)); have n3_ := ZM ((by rw [hg]; exact (ZV (ZBB HB.out)) : w.heap.size ≤ gb227)); clear HB; have HB := n0_; have BK227 := n1_; have GW227 := n2_; have GE227 := n3_; clear n0_ n1_ n2_ n3_; clear hb hbox hg) | ((with_reducible refine gate_dst (N := 3) rfl ?_); refine box_event ?hg (N := 3) ?hd (cs := #[.int .i64 a1_0, .int .i64 a1_1]) (t := 82) ?hr ?_; (case hd => rfl); (case hg => rfl); (case hr => first | (go_simp; done) | (go_simp; rfl)); intro gb228 hg w4 hbox hb; have n0_ := ZM (blk_below (g := gb227) (o := .cells #[.slice A0_0 l0_0.length c0_0, .slice A0_1 l0_1.length c0_1] 27 (0, 0)) (ZBK BK227.out) hb); have n1_ := ZM (ZW (ZBB HB.out) hb); have n2_ := ZM (hbox); have n3_ := ZM ((by rw [hg]; exact (ZV (ZBB HB.out)) : w.heap.size ≤ gb228)); have n4_ := ZM ((by rw [hg]; exact (ZV (ZBB HB.out)) : w.heap.size ≤ gb228)); have n5_ := ZM ((by rw [hg]; exact Nat.ne_of_lt (blk_lt (g := gb227) (o := .cells #[.slice A0_0 l0_0.length c0_0, .slice A0_1 l0_1.length c0_1] 27 (0, 0)) (ZBK BK227.out)) : gb227 ≠ gb228)); have n6_ := ZM ((by rw [hg]; exact Nat.ne_of_gt (blk_lt (g := gb227) (o := .cells #[.slice A0_0 l0_0.length c0_0, .slice A0_1 l0_1.length c0_1] 27 (0, 0)) (ZBK BK227.out)) : gb228 ≠ gb227)); clear BK227; clear HB; have BK227 := n0_; have HB := n1_; have BK228 := n2_; have GW228 := n3_; have GE228 := n4_; have NB227_228 := n5_; have NB228_227 := n6_; clear n0_ n1_ n2_ n3_ n4_ n5_ n6_; clear hb hbox hg) | ((with_reducible refine gate_dst (N := 7) rfl ?_); refine Kd.R_lit (Kd.int .i64) _ 3 ?hg (N := 7) ?hd (xs := ([] : List Int)) (inner := []) (ok := fun _ => True) (okp := fun _ => True) ?hr ?hp (fun _ hk => hk) trivial (Below.refl _ _) (Nat.le_refl _) (by simp) ?_; (case hd => rfl); (case hg => rfl); (case hr => first | (go_simp; done) | (go_simp; rfl)); (case hp => exact (Reps.none _ _)); intro v230 w5 ho6 hb hg_ hnew_; clear hg_ hnew_; (first | rw [← Ny229.out] at ho6 | (simp only [Int.reduceToNat] at ho6; rw [← Ny229.out] at ho6)); have n0_ := ZM (Kd.R_lower ho6 (ZV (ZBB HB.out))); have n1_ := ZM (blk_below (g := gb227) (o := .cells #[.slice A0_0 l0_0.length c0_0, .slice A0_1 l0_1.length c0_1] 27 (0, 0)) (ZBK BK227.out) hb); have n2_ := ZM (blk_below (g := gb228) (o := .cells #[.int .i64 a1_0, .int .i64 a1_1] 82 (0, 0)) (ZBK BK228.out) hb); have n3_ := ZM (ZW (ZBB HB.out) hb); clear BK227; clear BK228; clear HB; have HO231 := n0_; have BK227 := n1_; have BK228 := n2_; have HB := n3_; clear n0_ n1_ n2_ n3_; clear hb ho6)))
 go_loopg [5, 6] k (fun kq v5 v6 w' => ∃ (x5_1 : List Int) (x6_1 : Int), v6 = .int .i64 x6_1 ∧ Aside0 (meanderref08_Prev.l0 kq x5_1 x6_1 l0_0 l0_1 a1_0 a1_1 = some r) ∧ Aside0 (kq ≤ k) ∧ Aside0 (Kd.R (Kd.int .i64) 3 w' w.heap.size (fun _ => True) v5 x5_1) ∧ Aside0 (w'.heap[gb227]? = some (.cells #[(.slice A0_0 l0_0.length c0_0), (.slice A0_1 l0_1.length c0_1)] 27 (0, 0))) ∧ Aside0 (w'.heap[gb228]? = some (.cells #[.int .i64 a1_0, .int .i64 a1_1] 82 (0, 0))) ∧ Aside0 (Below w.heap.size w w'))
 case atStart => exact ⟨(y229), (0), (by first | rfl | (simp; done) | (simp [*]; done)), H', ⟨Nat.le_refl _⟩, ⟨ZRK HO231.out⟩, ⟨ZBK BK227.out⟩, ⟨ZBK BK228.out⟩, ⟨ZBB HB.out⟩⟩
 case round =>
  clear H'
  obtain ⟨x5_1, x6_1, rfl, HA, HK1, HO_5, BK227, BK228, HB⟩ := hrel
  cases gk with
  | zero => exact absurd HA.out (by simp [meanderref08_Prev.l0])
  | succ k1 =>
   have H := HA.out
   clear HA
   simp only [meanderref08_Prev.l0] at H
   by_cases c7 : x6_1 < (l0_1.length : Int)
   ·rw [if_pos c7] at H
    have c7b0 : decide (x6_1 < (l0_1.length : Int)) = true := decide_eq_true c7
    clear c7
    by_cases c8 : 0 ≤ x6_1
    case neg =>
     rw [if_neg c8] at H
     exact absurd H (by simp)
    rw [if_pos c8] at H
    have c8b0 : decide (0 ≤ x6_1) = true := decide_eq_true c8
    clear c8
    by_cases c9 : ((rd_T42 l0_1 x6_1).f1) = a1_0
    ·rw [if_pos c9] at H
     have c9b0 : (((rd_T42 l0_1 x6_1).f1) == a1_0) = true := beq_iff_eq.mpr c9
     have c9b1 : (((rd_T42 l0_1 x6_1).f1) != a1_0) = false := bne_eq_false_iff_eq.mpr c9
     clear c9
     by_cases c10 : ((rd_T42 l0_1 x6_1).f2) = a1_1
     ·rw [if_pos c10] at H
      have c10b0 : (((rd_T42 l0_1 x6_1).f2) == a1_1) = true := beq_iff_eq.mpr c10
      have c10b1 : (((rd_T42 l0_1 x6_1).f2) != a1_1) = false := bne_eq_false_iff_eq.mpr c10
      clear c10
      by_cases c11 : x5_1.length < 17592186044416
      case neg =>
       rw [if_neg c11] at H
       exact absurd H (by simp)
      rw [if_pos c11] at H
      have LMc11 := ZM c11
      clear c11
      obtain ⟨y235, hy235⟩ : ∃ y_ : List Int, y_ = (x5_1 ++ [(rd_T42 l0_1 x6_1).f0]) := ⟨_, rfl⟩
      replace H : (meanderref08_Prev.l0 k1 y235 (wrap64 (x6_1 + 1)) l0_0 l0_1 a1_0 a1_1) = some r := by first | (rw [hy235]; with_reducible exact H) | (have H2_ := (Option.bind_some _ _).symm.trans H; rw [hy235]; with_reducible exact H2_) | (have H2_ := (Option.bind_some _ _).symm.trans H; with_reducible exact H2_) | with_reducible exact H | (rw [hy235]; exact H) | exact H
      have Ny235 := ZM hy235
      clear hy235
      have H' := ZM H
      clear H
      have hnb12 := NB227_228.out
      have hnc12 := NB228_227.out
      have hcz13_0 : wr.cell? ⟨gb227, 0, none⟩ = some (.slice A0_0 l0_0.length c0_0) := (ZG BK227.out 0).trans rfl
      have hcz13_1 : wr.cell? ⟨gb227, 1, none⟩ = some (.slice A0_1 l0_1.length c0_1) := (ZG BK227.out 1).trans rfl
      have hfz13_0 := ZF BK227.out 0
      have hfz13_1 := ZF BK227.out 1
      have p232 : 0 ≤ (x6_1 : Int) := ZOD
      have q232 : x6_1 < (l0_1.length : Int) := ZOD
      obtain ⟨ad232, e232, hx232_0, hx232_1, hx232_2⟩ := at_T42 HR0_1.out x6_1 p232 q232
      cases e232
      replace hx232_0 := (HB.out.cell (ZC w _ hx232_0)).trans hx232_0
      replace hx232_1 := (HB.out.cell (ZC w _ hx232_1)).trans hx232_1
      replace hx232_2 := (HB.out.cell (ZC w _ hx232_2)).trans hx232_2
      replace p232 := eq_true p232
      replace q232 := eq_true q232
      have hcz14_0 : wr.cell? ⟨gb228, 0, none⟩ = some (.int .i64 a1_0) := (ZG BK228.out 0).trans rfl
      have hcz14_1 : wr.cell? ⟨gb228, 1, none⟩ = some (.int .i64 a1_1) := (ZG BK228.out 1).trans rfl
      have hfz14_0 := ZF BK228.out 0
      have hfz14_1 := ZF BK228.out 1
      have p233 : 0 ≤ (x6_1 : Int) := ZOD
      have q233 : x6_1 < (l0_1.length : Int) := ZOD
      obtain ⟨ad233, e233, hx233_0, hx233_1, hx233_2⟩ := at_T42 HR0_1.out x6_1 p233 q233
      obtain rfl : ad232 = ad233 := (by injection e233)
      replace hx233_0 := (HB.out.cell (ZC w _ hx233_0)).trans hx233_0
      replace hx233_1 := (HB.out.cell (ZC w _ hx233_1)).trans hx233_1
      replace hx233_2 := (HB.out.cell (ZC w _ hx233_2)).trans hx233_2
      replace p233 := eq_true p233
      replace q233 := eq_true q233
      have p234 : 0 ≤ (x6_1 : Int) := ZOD
      have q234 : x6_1 < (l0_1.length : Int) := ZOD
      obtain ⟨ad234, e234, hx234_0, hx234_1, hx234_2⟩ := at_T42 HR0_1.out x6_1 p234 q234
      obtain rfl : ad232 = ad234 := (by injection e234)
      replace hx234_0 := (HB.out.cell (ZC w _ hx234_0)).trans hx234_0
      replace hx234_1 := (HB.out.cell (ZC w _ hx234_1)).trans hx234_1
      replace hx234_2 := (HB.out.cell (ZC w _ hx234_2)).trans hx234_2
      replace p234 := eq_true p234
      replace q234 := eq_true q234
      go_wp2_with (first | ((with_reducible refine gate_builtin (b := .append) (xs := #[.tmp 35, .tmp 42]) rfl ?_); at_builtin; refine Kd.R_append (Kd.int .i64) (w0 := w) w.heap.size rfl (.tmp 35) (.tmp 42) 61 3 (.int .i64 0) 8 rfl Tryd.underlying61 info3 rfl (by decide) (by omega) u5 x5_1 ((rd_T42 l0_1 x6_1).f0) [.int .i64 ((rd_T42 l0_1 x6_1).f0)] (fun _ => True) (fun _ => False) rfl rfl ?aP (fun _ hk => hk.elim) ?aF ?aO ?aB ?aS ?aL ?_; (case aP => exact rfl); (case aB => exact (ZBB HB.out)); (case aF => exact (fun _ _ => trivial)); (case aO => exact (ZRK HO_5.out)); (case aS => exact (ZV (ZBB HB.out))); (case aL => have := LMc11.out; omega); intro v236 w15 ho hb hg hat; rw [← Ny235.out] at ho; have n0_ := ZM (blk_grown (g := gb227) (o := .cells #[.slice A0_0 l0_0.length c0_0, .slice (some ad232) l0_1.length c0_1] 27 (0, 0)) (ZBK BK227.out) hg (Kd.R_ne HO_5.out BK227.out (by decide))); have n1_ := ZM (blk_grown (g := gb228) (o := .cells #[.int .i64 a1_0, .int .i64 a1_1] 82 (0, 0)) (ZBK BK228.out) hg (Kd.R_ne HO_5.out BK228.out (by decide))); have n2_ := ZM (hb); have n3_ := ZM (ho); clear BK227; clear BK228; clear HB; clear HO_5; have BK227 := n0_; have BK228 := n1_; have HB := n2_; have HO237 := n3_; clear n0_ n1_ n2_ n3_; clear ho hb hg hat))
      repeat (go_quiet (first | ((with_reducible refine gate_builtin (b := .append) (xs := #[.tmp 35, .tmp 42]) rfl ?_); at_builtin; refine Kd.R_append (Kd.int .i64) (w0 := w) w.heap.size rfl (.tmp 35) (.tmp 42) 61 3 (.int .i64 0) 8 rfl Tryd.underlying61 info3 rfl (by decide) (by omega) u5 x5_1 ((rd_T42 l0_1 x6_1).f0) [.int .i64 ((rd_T42 l0_1 x6_1).f0)] (fun _ => True) (fun _ => False) rfl rfl ?aP (fun _ hk => hk.elim) ?aF ?aO ?aB ?aS ?aL ?_; (case aP => exact rfl); (case aB => exact (ZBB HB.out)); (case aF => exact (fun _ _ => trivial)); (case aO => exact (ZRK HO_5.out)); (case aS => exact (ZV (ZBB HB.out))); (case aL => have := LMc11.out; omega); intro v236 w15 ho hb hg hat; rw [← Ny235.out] at ho; have n0_ := ZM (blk_grown (g := gb227) (o := .cells #[.slice A0_0 l0_0.length c0_0, .slice (some ad232) l0_1.length c0_1] 27 (0, 0)) (ZBK BK227.out) hg (Kd.R_ne HO_5.out BK227.out (by decide))); have n1_ := ZM (blk_grown (g := gb228) (o := .cells #[.int .i64 a1_0, .int .i64 a1_1] 82 (0, 0)) (ZBK BK228.out) hg (Kd.R_ne HO_5.out BK228.out (by decide))); have n2_ := ZM (hb); have n3_ := ZM (ho); clear BK227; clear BK228; clear HB; clear HO_5; have BK227 := n0_; have BK228 := n1_; have HB := n2_; have HO237 := n3_; clear n0_ n1_ n2_ n3_; clear ho hb hg hat)); try go_wp2_with (first | ((with_reducible refine gate_builtin (b := .append) (xs := #[.tmp 35, .tmp 42]) rfl ?_); at_builtin; refine Kd.R_append (Kd.int .i64) (w0 := w) w.heap.size rfl (.tmp 35) (.tmp 42) 61 3 (.int .i64 0) 8 rfl Tryd.underlying61 info3 rfl (by decide) (by omega) u5 x5_1 ((rd_T42 l0_1 x6_1).f0) [.int .i64 ((rd_T42 l0_1 x6_1).f0)] (fun _ => True) (fun _ => False) rfl rfl ?aP (fun _ hk => hk.elim) ?aF ?aO ?aB ?aS ?aL ?_; (case aP => exact rfl); (case aB => exact (ZBB HB.out)); (case aF => exact (fun _ _ => trivial)); (case aO => exact (ZRK HO_5.out)); (case aS => exact (ZV (ZBB HB.out))); (case aL => have := LMc11.out; omega); intro v236 w15 ho hb hg hat; rw [← Ny235.out] at ho; have n0_ := ZM (blk_grown (g := gb227) (o := .cells #[.slice A0_0 l0_0.length c0_0, .slice (some ad232) l0_1.length c0_1] 27 (0, 0)) (ZBK BK227.out) hg (Kd.R_ne HO_5.out BK227.out (by decide))); have n1_ := ZM (blk_grown (g := gb228) (o := .cells #[.int .i64 a1_0, .int .i64 a1_1] 82 (0, 0)) (ZBK BK228.out) hg (Kd.R_ne HO_5.out BK228.out (by decide))); have n2_ := ZM (hb); have n3_ := ZM (ho); clear BK227; clear BK228; clear HB; clear HO_5; have BK227 := n0_; have BK228 := n1_; have HB := n2_; have HO237 := n3_; clear n0_ n1_ n2_ n3_; clear ho hb hg hat)))
      go_roundg k1
      case measure => have := HK1.out; omega
      case rel => exact ⟨(y235), (wrap64 (x6_1 + 1)), (by first | rfl | (simp; done) | (simp [*]; done)), H', ⟨by have := HK1.out; omega⟩, ⟨ZRK HO237.out⟩, ⟨ZBK BK227.out⟩, ⟨ZBK BK228.out⟩, ⟨ZBB HB.out⟩⟩
     ·rw [if_neg c10] at H
      have c10b0 : (((rd_T42 l0_1 x6_1).f2) == a1_1) = false := beq_eq_false_iff_ne.mpr c10
      have c10b1 : (((rd_T42 l0_1 x6_1).f2) != a1_1) = true := bne_iff_ne.mpr c10
      have H' := ZM H
      clear H
      have hnb16 := NB227_228.out
      have hnc16 := NB228_227.out
      have hcz17_0 : wr.cell? ⟨gb227, 0, none⟩ = some (.slice A0_0 l0_0.length c0_0) := (ZG BK227.out 0).trans rfl
      have hcz17_1 : wr.cell? ⟨gb227, 1, none⟩ = some (.slice A0_1 l0_1.length c0_1) := (ZG BK227.out 1).trans rfl
      have hfz17_0 := ZF BK227.out 0
      have hfz17_1 := ZF BK227.out 1
      have p232 : 0 ≤ (x6_1 : Int) := ZOD
      have q232 : x6_1 < (l0_1.length : Int) := ZOD
      obtain ⟨ad232, e232, hx232_0, hx232_1, hx232_2⟩ := at_T42 HR0_1.out x6_1 p232 q232
      cases e232
      replace hx232_0 := (HB.out.cell (ZC w _ hx232_0)).trans hx232_0
      replace hx232_1 := (HB.out.cell (ZC w _ hx232_1)).trans hx232_1
      replace hx232_2 := (HB.out.cell (ZC w _ hx232_2)).trans hx232_2
      replace p232 := eq_true p232
      replace q232 := eq_true q232
      have hcz18_0 : wr.cell? ⟨gb228, 0, none⟩ = some (.int .i64 a1_0) := (ZG BK228.out 0).trans rfl
      have hcz18_1 : wr.cell? ⟨gb228, 1, none⟩ = some (.int .i64 a1_1) := (ZG BK228.out 1).trans rfl
      have hfz18_0 := ZF BK228.out 0
      have hfz18_1 := ZF BK228.out 1
      have p233 : 0 ≤ (x6_1 : Int) := ZOD
      have q233 : x6_1 < (l0_1.length : Int) := ZOD
      obtain ⟨ad233, e233, hx233_0, hx233_1, hx233_2⟩ := at_T42 HR0_1.out x6_1 p233 q233
      obtain rfl : ad232 = ad233 := (by injection e233)
      replace hx233_0 := (HB.out.cell (ZC w _ hx233_0)).trans hx233_0
      replace hx233_1 := (HB.out.cell (ZC w _ hx233_1)).trans hx233_1
      replace hx233_2 := (HB.out.cell (ZC w _ hx233_2)).trans hx233_2
      replace p233 := eq_true p233
      replace q233 := eq_true q233
      go_wp2
      repeat (go_quiet (fail); try go_wp2)
      go_roundg k1
      case measure => have := HK1.out; omega
      case rel => exact ⟨(x5_1), (wrap64 (x6_1 + 1)), (by first | rfl | (simp; done) | (simp [*]; done)), H', ⟨by have := HK1.out; omega⟩, ⟨ZRK HO_5.out⟩, ⟨ZBK BK227.out⟩, ⟨ZBK BK228.out⟩, ⟨ZBB HB.out⟩⟩
    ·rw [if_neg c9] at H
     have c9b0 : (((rd_T42 l0_1 x6_1).f1) == a1_0) = false := beq_eq_false_iff_ne.mpr c9
     have c9b1 : (((rd_T42 l0_1 x6_1).f1) != a1_0) = true := bne_iff_ne.mpr c9
     have H' := ZM H
     clear H
     have hnb19 := NB227_228.out
     have hnc19 := NB228_227.out
     have hcz20_0 : wr.cell? ⟨gb227, 0, none⟩ = some (.slice A0_0 l0_0.length c0_0) := (ZG BK227.out 0).trans rfl
     have hcz20_1 : wr.cell? ⟨gb227, 1, none⟩ = some (.slice A0_1 l0_1.length c0_1) := (ZG BK227.out 1).trans rfl
     have hfz20_0 := ZF BK227.out 0
     have hfz20_1 := ZF BK227.out 1
     have p232 : 0 ≤ (x6_1 : Int) := ZOD
     have q232 : x6_1 < (l0_1.length : Int) := ZOD
     obtain ⟨ad232, e232, hx232_0, hx232_1, hx232_2⟩ := at_T42 HR0_1.out x6_1 p232 q232
     cases e232
     replace hx232_0 := (HB.out.cell (ZC w _ hx232_0)).trans hx232_0
     replace hx232_1 := (HB.out.cell (ZC w _ hx232_1)).trans hx232_1
     replace hx232_2 := (HB.out.cell (ZC w _ hx232_2)).trans hx232_2
     replace p232 := eq_true p232
     replace q232 := eq_true q232
     have hcz21_0 : wr.cell? ⟨gb228, 0, none⟩ = some (.int .i64 a1_0) := (ZG BK228.out 0).trans rfl
     have hcz21_1 : wr.cell? ⟨gb228, 1, none⟩ = some (.int .i64 a1_1) := (ZG BK228.out 1).trans rfl
     have hfz21_0 := ZF BK228.out 0
     have hfz21_1 := ZF BK228.out 1
     go_wp2
     repeat (go_quiet (fail); try go_wp2)
     go_roundg k1
     case measure => have := HK1.out; omega
     case rel => exact ⟨(x5_1), (wrap64 (x6_1 + 1)), (by first | rfl | (simp; done) | (simp [*]; done)), H', ⟨by have := HK1.out; omega⟩, ⟨ZRK HO_5.out⟩, ⟨ZBK BK227.out⟩, ⟨ZBK BK228.out⟩, ⟨ZBB HB.out⟩⟩
   ·rw [if_neg c7] at H
    have c7b0 : decide (x6_1 < (l0_1.length : Int)) = false := decide_eq_false c7
    clear c7
    obtain rfl := Option.some.inj H
    have hnb22 := NB227_228.out
    have hnc22 := NB228_227.out
    have hcz23_0 : wr.cell? ⟨gb227, 0, none⟩ = some (.slice A0_0 l0_0.length c0_0) := (ZG BK227.out 0).trans rfl
    have hcz23_1 : wr.cell? ⟨gb227, 1, none⟩ = some (.slice A0_1 l0_1.length c0_1) := (ZG BK227.out 1).trans rfl
    have hfz23_0 := ZF BK227.out 0
    have hfz23_1 := ZF BK227.out 1
    go_wp2
    repeat (go_quiet (fail); try go_wp2)
    go_ret
    exact ⟨_, by first | rfl | (simp [errW_none, errW_some] <;> rfl) | (simp [*, errW_none, errW_some] <;> rfl), ZRK HO_5.out, ZBB HB.out⟩

end Go.Proofs.YtbjjcolbomaodaaDoor.PLdp
