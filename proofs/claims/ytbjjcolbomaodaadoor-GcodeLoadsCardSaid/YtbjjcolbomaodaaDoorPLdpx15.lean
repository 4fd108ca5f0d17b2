-- Laid by hprint.py of this repo: the kit's printer, and contracts by hand beside it. Not trusted: Lean checks it.
import Derived.Test.YtbjjcolbomaodaaDoorWZ
import Derived.Test.YtbjjcolbomaodaaDoorPLdpx0
import Derived.Test.YtbjjcolbomaodaaDoorPLdpx14
namespace Go.Proofs.YtbjjcolbomaodaaDoor.PLdp
open Go.RowKit Go.Proofs.YtbjjcolbomaodaaDoorW.PrintWords Go.Proofs.YtbjjcolbomaodaaDoorW.PrintLast Go.Proofs.YtbjjcolbomaodaaDoorW.PrintMore
attribute [local go_sem] max2_int min2_int max_two min_two max_three min_three max_four min_four   -- for this text's walks alone
set_option linter.unusedVariables false
set_option linter.unusedSimpArgs false

/-! ### meanderref09_edges: function 28 -/
mutual
def meanderref09_edges.l0 : Nat → Int → List (S40) → List (S42) → Option (Int)
 | 0, _, _, _ => none
 | k + 1, x3, x218000, x218001 => if x3 < (x218001.length : Int) then (if 0 ≤ x3 then ((meanderref08_Is.f k x218000 x218001 ((rd_T42 x218001 x3).f0) (-1)).bind fun t220 => ((meanderref08_Is.f k x218000 x218001 ((rd_T42 x218001 x3).f1) ((rd_T42 x218001 x3).f2)).bind fun t221 => (if t220 = true then (if t221 = true then (if ((rd_T42 x218001 x3).f2) = (-1) then (some 11) else (meanderref09_edges.l0 k (wrap64 (x3 + 1)) x218000 x218001)) else (some 11)) else (some 11)))) else (none)) else (meanderref09_edges.l1 k 0 x218000 x218001)
def meanderref09_edges.l1 : Nat → Int → List (S40) → List (S42) → Option (Int)
 | 0, _, _, _ => none
 | k + 1, x7, x218000, x218001 => if x7 < (x218001.length : Int) then (if 0 ≤ x7 then (if 0 ≤ ((rd_T42 x218001 x7).f0) then (if ((rd_T42 x218001 x7).f0) < (x218000.length : Int) then (if 0 ≤ ((rd_T42 x218001 x7).f1) then (if ((rd_T42 x218001 x7).f1) < (x218000.length : Int) then ((meanderref08_InDepth.f ((rd_T40 x218000 ((rd_T42 x218001 x7).f1)).f0) ((rd_T40 x218000 ((rd_T42 x218001 x7).f1)).f1) ((rd_T40 x218000 ((rd_T42 x218001 x7).f1)).f2) ((rd_T40 x218000 ((rd_T42 x218001 x7).f1)).f3)).bind fun t226 => (if ((rd_T40 x218000 ((rd_T42 x218001 x7).f0)).f3) = t226 then (meanderref09_edges.l1 k (wrap64 (x7 + 1)) x218000 x218001) else (some 12))) else (none)) else (none)) else (none)) else (none)) else (none)) else (some 0)
end
def meanderref09_edges.f (k : Nat) (l0_0 : List (S40)) (l0_1 : List (S42)) : Option (Int) := meanderref09_edges.l0 k 0 l0_0 l0_1
theorem meanderref09_edges.mono_l : ∀ k, (∀ y0 y1 y2, LeO (meanderref09_edges.l0 k y0 y1 y2) (meanderref09_edges.l0 (k + 1) y0 y1 y2)) ∧ (∀ y0 y1 y2, LeO (meanderref09_edges.l1 k y0 y1 y2) (meanderref09_edges.l1 (k + 1) y0 y1 y2))
 | 0 => ⟨fun _ _ _ r h => by simp [meanderref09_edges.l0] at h, fun _ _ _ r h => by simp [meanderref09_edges.l1] at h⟩
 | k + 1 => by
  obtain ⟨ih0, ih1⟩ := meanderref09_edges.mono_l k
  refine ⟨?_, ?_⟩
  ·intro y0 y1 y2
   unfold meanderref09_edges.l0
   repeat' first
   | (with_reducible exact ih0 _ _ _)
   | (with_reducible exact ih1 _ _ _)
   | (with_reducible exact meanderref08_Is.mono _ _ _ _ _)
   | (with_reducible exact LeO.refl _)
   | (with_reducible exact LeO.none _)
   | (with_reducible refine LeO.ite ?_ ?_)
   | (with_reducible refine LeO.bind ?_ (fun _ => ?_))
   | exact ih0 _ _ _
   | exact ih1 _ _ _
   | exact meanderref08_Is.mono _ _ _ _ _
   | exact LeO.none _
   | refine LeO.ite ?_ ?_
   | refine LeO.bind ?_ (fun _ => ?_)
  ·intro y0 y1 y2
   unfold meanderref09_edges.l1
   repeat' first
   | (with_reducible exact ih0 _ _ _)
   | (with_reducible exact ih1 _ _ _)
   | (with_reducible exact meanderref08_Is.mono _ _ _ _ _)
   | (with_reducible exact LeO.refl _)
   | (with_reducible exact LeO.none _)
   | (with_reducible refine LeO.ite ?_ ?_)
   | (with_reducible refine LeO.bind ?_ (fun _ => ?_))
   | exact ih0 _ _ _
   | exact ih1 _ _ _
   | exact meanderref08_Is.mono _ _ _ _ _
   | exact LeO.none _
   | refine LeO.ite ?_ ?_
   | refine LeO.bind ?_ (fun _ => ?_)
theorem meanderref09_edges.mono : ∀ a0 a1 k, LeO (meanderref09_edges.f k a0 a1) (meanderref09_edges.f (k + 1) a0 a1) := by
 intro a0 a1 k
 obtain ⟨ih0, ih1⟩ := meanderref09_edges.mono_l k
 unfold meanderref09_edges.f
 repeat' first
   | (with_reducible exact ih0 _ _ _)
   | (with_reducible exact ih1 _ _ _)
   | (with_reducible exact meanderref08_Is.mono _ _ _ _ _)
   | (with_reducible exact LeO.refl _)
   | (with_reducible exact LeO.none _)
   | (with_reducible refine LeO.ite ?_ ?_)
   | (with_reducible refine LeO.bind ?_ (fun _ => ?_))
   | exact ih0 _ _ _
   | exact ih1 _ _ _
   | exact meanderref08_Is.mono _ _ _ _ _
   | exact LeO.none _
   | refine LeO.ite ?_ ?_
   | refine LeO.bind ?_ (fun _ => ?_)
def meanderref09_edges.T13 : Bool × List (List Nat × List Nat) := (true, [([], []), ([0], [0]), ([], []), ([2], [2]), ([1, 3], [1, 3]), ([4], [4]), ([5], [5]), ([], []), ([7], [7]), ([], []), ([9], [9]), ([8, 10], [8, 10]), ([11], [11]), ([12], [12]), ([6, 13], [6, 13])])
def meanderref09_edges.B13 : List Nat := [0, 1, 0, 4, 15, 31, 63, 0, 128, 0, 512, 1920, 3968, 8064, 16383]
theorem meanderref09_edges.tab13 : rtab .any (opsOf Tryd.f28 13) = meanderref09_edges.T13 := by kernel_rfl
theorem meanderref09_edges.bits13 : waitsOk meanderref09_edges.T13.2 meanderref09_edges.B13 = true := by kernel_rfl
set_option maxHeartbeats 8000000 in
set_option maxRecDepth 100000 in
theorem meanderref09_edges.calls (k : Nat) (A0_0 : Option Addr) (c0_0 : Nat) (l0_0 : List (S40)) (A0_1 : Option Addr) (c0_1 : Nat) (l0_1 : List (S42)) (r : Int) (w : World) (hr0_0 : Kd.C k40 w A0_0 l0_0.length l0_0) (hc0_0 : l0_0.length ≤ c0_0) (hr0_1 : Kd.C k42 w A0_1 l0_1.length l0_1) (hc0_1 : l0_1.length ≤ c0_1) (h : meanderref09_edges.f k l0_0 l0_1 = some r) :
  Calls Tryd.prog 28 #[.agg #[.slice A0_0 l0_0.length c0_0, .slice A0_1 l0_1.length c0_1]] w fun e w' => e = .returned (.int .i64 r) ∧ Below w.heap.size w w' := by
 have hu27 := Tryd.underlying27
 have hu42 := Tryd.underlying42
 have hu82 := Tryd.underlying82
 have hu40 := Tryd.underlying40
 have HR0_0 := ZM hr0_0
 have HC0_0 := ZM hc0_0
 clear hr0_0 hc0_0
 have HR0_1 := ZM hr0_1
 have HC0_1 := ZM hc0_1
 clear hr0_1 hc0_1
 have HB := ZM (Below.refl w.heap.size w)
 have H : (meanderref09_edges.l0 k 0 l0_0 l0_1) = some r := h
 clear h
 have H' := ZM H
 clear H
 go_enter Tryd.func28, Tryd.ntmps28
 go_wp2_with (first | ((with_reducible refine gate_dst (N := 1) rfl ?_); refine box_event ?hg (N := 1) ?hd (cs := #[.slice A0_0 l0_0.length c0_0, .slice A0_1 l0_1.length c0_1]) (t := 27) ?hr ?_; (case hd => rfl); (case hg => rfl); (case hr => first | (go_simp; done) | (go_simp; rfl)); intro gb217 hg w2 hbox hb; have n0_ := ZM (ZW (ZBB HB.out) hb); have n1_ := ZM (hbox); have n2_ := ZM ((by rw [hg]; exact (ZV (ZBB HB.out)) : w.heap.size ≤ gb217)); have n3_ := ZM ((by rw [hg]; exact (ZV (ZBB HB.out)) : w.heap.size ≤ gb217)); clear HB; have HB := n0_; have BK217 := n1_; have GW217 := n2_; have GE217 := n3_; clear n0_ n1_ n2_ n3_; clear hb hbox hg))
 go_loopg [3] k (fun kq v3 w' => ∃ (x3_1 : Int), v3 = .int .i64 x3_1 ∧ Aside0 (meanderref09_edges.l0 kq x3_1 l0_0 l0_1 = some r) ∧ Aside0 (kq ≤ k) ∧ Aside0 (w'.heap[gb217]? = some (.cells #[(.slice A0_0 l0_0.length c0_0), (.slice A0_1 l0_1.length c0_1)] 27 (0, 0))) ∧ Aside0 (Below w.heap.size w w'))
 case atStart => exact ⟨(0), (by first | rfl | (simp; done) | (simp [*]; done)), H', ⟨Nat.le_refl _⟩, ⟨ZBK BK217.out⟩, ⟨ZBB HB.out⟩⟩
 case round =>
  clear H'
  obtain ⟨x3_1, rfl, HA, HK1, BK217, HB⟩ := hrel
  cases gk with
  | zero => exact absurd HA.out (by simp [meanderref09_edges.l0])
  | succ k1 =>
   have H := HA.out
   clear HA
   simp only [meanderref09_edges.l0] at H
   by_cases c3 : x3_1 < (l0_1.length : Int)
   ·rw [if_pos c3] at H
    have c3b0 : decide (x3_1 < (l0_1.length : Int)) = true := decide_eq_true c3
    clear c3
    by_cases c4 : 0 ≤ x3_1
    case neg =>
     rw [if_neg c4] at H
     exact absurd H (by simp)
    rw [if_pos c4] at H
    have c4b0 : decide (0 ≤ x3_1) = true := decide_eq_true c4
    clear c4
    replace H := Option.bind_eq_some_iff.mp H
    obtain ⟨t220, A50, H⟩ := H
    replace H : ((meanderref08_Is.f k1 l0_0 l0_1 ((rd_T42 l0_1 x3_1).f1) ((rd_T42 l0_1 x3_1).f2)).bind fun t221 => (if t220 = true then (if t221 = true then (if ((rd_T42 l0_1 x3_1).f2) = (-1) then (some 11) else (meanderref09_edges.l0 k1 (wrap64 (x3_1 + 1)) l0_0 l0_1)) else (some 11)) else (some 11))) = some r := H
    have A5 := ZM A50
    clear A50
    replace H := Option.bind_eq_some_iff.mp H
    obtain ⟨t221, A60, H⟩ := H
    replace H : (if t220 = true then (if t221 = true then (if ((rd_T42 l0_1 x3_1).f2) = (-1) then (some 11) else (meanderref09_edges.l0 k1 (wrap64 (x3_1 + 1)) l0_0 l0_1)) else (some 11)) else (some 11)) = some r := H
    have A6 := ZM A60
    clear A60
    by_cases c7 : t220 = true
    ·subst c7
     have H1 : (if t221 = true then (if ((rd_T42 l0_1 x3_1).f2) = (-1) then (some 11) else (meanderref09_edges.l0 k1 (wrap64 (x3_1 + 1)) l0_0 l0_1)) else (some 11)) = some r := by rw [if_pos rfl] at H; exact H
     clear H
     have H := H1
     clear H1
     by_cases c8 : t221 = true
     ·subst c8
      have H1 : (if ((rd_T42 l0_1 x3_1).f2) = (-1) then (some 11) else (meanderref09_edges.l0 k1 (wrap64 (x3_1 + 1)) l0_0 l0_1)) = some r := by rw [if_pos rfl] at H; exact H
      clear H
      have H := H1
      clear H1
      by_cases c9 : ((rd_T42 l0_1 x3_1).f2) = (-1)
      ·rw [if_pos c9] at H
       have c9b0 : (((rd_T42 l0_1 x3_1).f2) == (-1)) = true := beq_iff_eq.mpr c9
       have c9b1 : (((rd_T42 l0_1 x3_1).f2) != (-1)) = false := bne_eq_false_iff_eq.mpr c9
       clear c9
       obtain rfl := Option.some.inj H
       have hcz10_0 : wr.cell? ⟨gb217, 0, none⟩ = some (.slice A0_0 l0_0.length c0_0) := (ZG BK217.out 0).trans rfl
       have hcz10_1 : wr.cell? ⟨gb217, 1, none⟩ = some (.slice A0_1 l0_1.length c0_1) := (ZG BK217.out 1).trans rfl
       have hfz10_0 := ZF BK217.out 0
       have hfz10_1 := ZF BK217.out 1
       have p218 : 0 ≤ (x3_1 : Int) := ZOD
       have q218 : x3_1 < (l0_1.length : Int) := ZOD
       obtain ⟨ad218, e218, hx218_0, hx218_1, hx218_2⟩ := at_T42 HR0_1.out x3_1 p218 q218
       cases e218
       replace hx218_0 := (HB.out.cell (ZC w _ hx218_0)).trans hx218_0
       replace hx218_1 := (HB.out.cell (ZC w _ hx218_1)).trans hx218_1
       replace hx218_2 := (HB.out.cell (ZC w _ hx218_2)).trans hx218_2
       replace p218 := eq_true p218
       replace q218 := eq_true q218
       go_wp2_with (first | ((with_reducible refine gate_dst (N := 4) rfl ?_); refine box_event ?hg (N := 4) ?hd (cs := #[.int .i64 0, .int .i64 0, .int .i64 0]) (t := 42) ?hr ?_; (case hd => rfl); (case hg => rfl); (case hr => first | (go_simp; done) | (go_simp; rfl)); intro gb219 hg w11 hbox hb; have n0_ := ZM (blk_below (g := gb217) (o := .cells #[.slice A0_0 l0_0.length c0_0, .slice (some ad218) l0_1.length c0_1] 27 (0, 0)) (ZBK BK217.out) hb); have n1_ := ZM (ZW (ZBB HB.out) hb); have n2_ := ZM (hbox); have n3_ := ZM ((by rw [hg]; exact (ZV (ZBB HB.out)) : w.heap.size ≤ gb219)); have n4_ := ZM ((by rw [hg]; exact (ZV (ZBB HB.out)) : w.heap.size ≤ gb219)); have n5_ := ZM ((by rw [hg]; exact Nat.ne_of_lt (blk_lt (g := gb217) (o := .cells #[.slice A0_0 l0_0.length c0_0, .slice (some ad218) l0_1.length c0_1] 27 (0, 0)) (ZBK BK217.out)) : gb217 ≠ gb219)); have n6_ := ZM ((by rw [hg]; exact Nat.ne_of_gt (blk_lt (g := gb217) (o := .cells #[.slice A0_0 l0_0.length c0_0, .slice (some ad218) l0_1.length c0_1] 27 (0, 0)) (ZBK BK217.out)) : gb219 ≠ gb217)); clear BK217; clear HB; have BK217 := n0_; have HB := n1_; have BK219 := n2_; have GW219 := n3_; have GE219 := n4_; have NB217_219 := n5_; have NB219_217 := n6_; clear n0_ n1_ n2_ n3_ n4_ n5_ n6_; clear hb hbox hg; have hnb12 := NB219_217.out; have hnc12 := NB217_219.out; have hcz13_0 : w11.cell? ⟨gb219, 0, none⟩ = some (.int .i64 0) := (ZG BK219.out 0).trans rfl; have hcz13_1 : w11.cell? ⟨gb219, 1, none⟩ = some (.int .i64 0) := (ZG BK219.out 1).trans rfl; have hcz13_2 : w11.cell? ⟨gb219, 2, none⟩ = some (.int .i64 0) := (ZG BK219.out 2).trans rfl; have hfz13_0 := ZF BK219.out 0; have hfz13_1 := ZF BK219.out 1; have hfz13_2 := ZF BK219.out 2; have hcz14_0 : w11.cell? ⟨gb217, 0, none⟩ = some (.slice A0_0 l0_0.length c0_0) := (ZG BK217.out 0).trans rfl; have hcz14_1 : w11.cell? ⟨gb217, 1, none⟩ = some (.slice (some ad218) l0_1.length c0_1) := (ZG BK217.out 1).trans rfl; have hfz14_0 := ZF BK217.out 0; have hfz14_1 := ZF BK217.out 1) | ((with_reducible refine gate_callee (f := 44) rfl ?_); refine goesL_ (some 25) rfl rfl Tryd.func44 (by kernel_rfl) rfl #[.agg #[.slice A0_0 l0_0.length c0_0, .slice (some ad218) l0_1.length c0_1], .agg #[.int .i64 ((rd_T42 l0_1 x3_1).f0), .int .i64 (-1)]] rfl ZH ?_; (with_reducible refine (meanderref08_Is.calls k1 _ _ l0_0 _ _ l0_1 ((rd_T42 l0_1 x3_1).f0) (-1) true _ ?side1 ?side2 ?side3 ?side4 A5.out).mono ?_); (case side1 => exact Kd.C_below HR0_0.out (ZBB HB.out)); (case side2 => exact HC0_0.out); (case side3 => exact Kd.C_below HR0_1.out (ZBB HB.out)); (case side4 => exact HC0_1.out); rintro e w15 ⟨rfl, hb⟩; refine ⟨_, rfl, ?_⟩; have n0_ := ZM (blk_below (g := gb217) (o := .cells #[.slice A0_0 l0_0.length c0_0, .slice (some ad218) l0_1.length c0_1] 27 (0, 0)) (by (with_reducible repeat (first | refine ZR ?_ _ | refine ZS ?_ | refine ZT ?_ _)); refine blk_far ?_ NB217_219.out _; (with_reducible repeat (first | refine ZR ?_ _ | refine ZS ?_ | refine ZT ?_ _)); refine blk_far ?_ NB217_219.out _; (with_reducible repeat (first | refine ZR ?_ _ | refine ZS ?_ | refine ZT ?_ _)); refine blk_far ?_ NB217_219.out _; (with_reducible repeat (first | refine ZR ?_ _ | refine ZS ?_ | refine ZT ?_ _)); exact BK217.out) hb); have n1_ := ZM (blk_below (g := gb219) (o := .cells #[.int .i64 ((rd_T42 l0_1 x3_1).f0), .int .i64 ((rd_T42 l0_1 x3_1).f1), .int .i64 ((rd_T42 l0_1 x3_1).f2)] 42 (0, 0)) (by (with_reducible repeat (first | refine ZR ?_ _ | refine ZS ?_ | refine ZT ?_ _)); refine blk_put (cs := #[.int .i64 ((rd_T42 l0_1 x3_1).f0), .int .i64 ((rd_T42 l0_1 x3_1).f1), .int .i64 0]) ?_ 2 _ rfl; (with_reducible repeat (first | refine ZR ?_ _ | refine ZS ?_ | refine ZT ?_ _)); refine blk_put (cs := #[.int .i64 ((rd_T42 l0_1 x3_1).f0), .int .i64 0, .int .i64 0]) ?_ 1 _ rfl; (with_reducible repeat (first | refine ZR ?_ _ | refine ZS ?_ | refine ZT ?_ _)); refine blk_put (cs := #[.int .i64 0, .int .i64 0, .int .i64 0]) ?_ 0 _ rfl; (with_reducible repeat (first | refine ZR ?_ _ | refine ZS ?_ | refine ZT ?_ _)); exact BK219.out) hb); have n2_ := ZM (ZW (ZBB HB.out) hb); clear BK217; clear BK219; clear HB; have BK217 := n0_; have BK219 := n1_; have HB := n2_; clear n0_ n1_ n2_; (try clear hb); (try clear hb2); (try clear hk); (try clear hi); have hcz16_0 : w15.cell? ⟨gb217, 0, none⟩ = some (.slice A0_0 l0_0.length c0_0) := (ZG BK217.out 0).trans rfl; have hcz16_1 : w15.cell? ⟨gb217, 1, none⟩ = some (.slice (some ad218) l0_1.length c0_1) := (ZG BK217.out 1).trans rfl; have hfz16_0 := ZF BK217.out 0; have hfz16_1 := ZF BK217.out 1; have hcz17_0 : w15.cell? ⟨gb219, 0, none⟩ = some (.int .i64 ((rd_T42 l0_1 x3_1).f0)) := (ZG BK219.out 0).trans rfl; have hcz17_1 : w15.cell? ⟨gb219, 1, none⟩ = some (.int .i64 ((rd_T42 l0_1 x3_1).f1)) := (ZG BK219.out 1).trans rfl; have hcz17_2 : w15.cell? ⟨gb219, 2, none⟩ = some (.int .i64 ((rd_T42 l0_1 x3_1).f2)) := (ZG BK219.out 2).trans rfl; have hfz17_0 := ZF BK219.out 0; have hfz17_1 := ZF BK219.out 1; have hfz17_2 := ZF BK219.out 2) | ((with_reducible refine gate_callee (f := 44) rfl ?_); refine goesL_ (some 32) rfl rfl Tryd.func44 (by kernel_rfl) rfl #[.agg #[.slice A0_0 l0_0.length c0_0, .slice (some ad218) l0_1.length c0_1], .agg #[.int .i64 ((rd_T42 l0_1 x3_1).f1), .int .i64 ((rd_T42 l0_1 x3_1).f2)]] rfl ZH ?_; (with_reducible refine (meanderref08_Is.calls k1 _ _ l0_0 _ _ l0_1 ((rd_T42 l0_1 x3_1).f1) ((rd_T42 l0_1 x3_1).f2) true _ ?side1 ?side2 ?side3 ?side4 A6.out).mono ?_); (case side1 => repeat (first | exact (Kd.C_below HR0_0.out HB.out) | (with_reducible refine Kd.C_alloc ?_ _) | (with_reducible refine Kd.C_drewN ?_ _) | (with_reducible refine Kd.C_drew ?_))); (case side2 => exact HC0_0.out); (case side3 => repeat (first | exact (Kd.C_below HR0_1.out HB.out) | (with_reducible refine Kd.C_alloc ?_ _) | (with_reducible refine Kd.C_drewN ?_ _) | (with_reducible refine Kd.C_drew ?_))); (case side4 => exact HC0_1.out); rintro e w18 ⟨rfl, hb⟩; refine ⟨_, rfl, ?_⟩; have n0_ := ZM (blk_below (g := gb217) (o := .cells #[.slice A0_0 l0_0.length c0_0, .slice (some ad218) l0_1.length c0_1] 27 (0, 0)) (ZBK BK217.out) hb); have n1_ := ZM (blk_below (g := gb219) (o := .cells #[.int .i64 ((rd_T42 l0_1 x3_1).f0), .int .i64 ((rd_T42 l0_1 x3_1).f1), .int .i64 ((rd_T42 l0_1 x3_1).f2)] 42 (0, 0)) (ZBK BK219.out) hb); have n2_ := ZM (ZW (ZBB HB.out) hb); clear BK217; clear BK219; clear HB; have BK217 := n0_; have BK219 := n1_; have HB := n2_; clear n0_ n1_ n2_; (try clear hb); (try clear hb2); (try clear hk); (try clear hi); have hcz19_0 : w18.cell? ⟨gb219, 0, none⟩ = some (.int .i64 ((rd_T42 l0_1 x3_1).f0)) := (ZG BK219.out 0).trans rfl; have hcz19_1 : w18.cell? ⟨gb219, 1, none⟩ = some (.int .i64 ((rd_T42 l0_1 x3_1).f1)) := (ZG BK219.out 1).trans rfl; have hcz19_2 : w18.cell? ⟨gb219, 2, none⟩ = some (.int .i64 ((rd_T42 l0_1 x3_1).f2)) := (ZG BK219.out 2).trans rfl; have hfz19_0 := ZF BK219.out 0; have hfz19_1 := ZF BK219.out 1; have hfz19_2 := ZF BK219.out 2))
       go_ret
       exact ⟨by first | rfl | (simp [errW_none, errW_some] <;> rfl) | (simp [*, errW_none, errW_some] <;> rfl), ZBB HB.out⟩
      ·rw [if_neg c9] at H
       have c9b0 : (((rd_T42 l0_1 x3_1).f2) == (-1)) = false := beq_eq_false_iff_ne.mpr c9
       have c9b1 : (((rd_T42 l0_1 x3_1).f2) != (-1)) = true := bne_iff_ne.mpr c9
       have H' := ZM H
       clear H
       have hcz20_0 : wr.cell? ⟨gb217, 0, none⟩ = some (.slice A0_0 l0_0.length c0_0) := (ZG BK217.out 0).trans rfl
       have hcz20_1 : wr.cell? ⟨gb217, 1, none⟩ = some (.slice A0_1 l0_1.length c0_1) := (ZG BK217.out 1).trans rfl
       have hfz20_0 := ZF BK217.out 0
       have hfz20_1 := ZF BK217.out 1
       have p218 : 0 ≤ (x3_1 : Int) := ZOD
       have q218 : x3_1 < (l0_1.length : Int) := ZOD
       obtain ⟨ad218, e218, hx218_0, hx218_1, hx218_2⟩ := at_T42 HR0_1.out x3_1 p218 q218
       cases e218
       replace hx218_0 := (HB.out.cell (ZC w _ hx218_0)).trans hx218_0
       replace hx218_1 := (HB.out.cell (ZC w _ hx218_1)).trans hx218_1
       replace hx218_2 := (HB.out.cell (ZC w _ hx218_2)).trans hx218_2
       replace p218 := eq_true p218
       replace q218 := eq_true q218
       go_wp2_with (first | ((with_reducible refine gate_dst (N := 4) rfl ?_); refine box_event ?hg (N := 4) ?hd (cs := #[.int .i64 0, .int .i64 0, .int .i64 0]) (t := 42) ?hr ?_; (case hd => rfl); (case hg => rfl); (case hr => first | (go_simp; done) | (go_simp; rfl)); intro gb219 hg w21 hbox hb; have n0_ := ZM (blk_below (g := gb217) (o := .cells #[.slice A0_0 l0_0.length c0_0, .slice (some ad218) l0_1.length c0_1] 27 (0, 0)) (ZBK BK217.out) hb); have n1_ := ZM (ZW (ZBB HB.out) hb); have n2_ := ZM (hbox); have n3_ := ZM ((by rw [hg]; exact (ZV (ZBB HB.out)) : w.heap.size ≤ gb219)); have n4_ := ZM ((by rw [hg]; exact (ZV (ZBB HB.out)) : w.heap.size ≤ gb219)); have n5_ := ZM ((by rw [hg]; exact Nat.ne_of_lt (blk_lt (g := gb217) (o := .cells #[.slice A0_0 l0_0.length c0_0, .slice (some ad218) l0_1.length c0_1] 27 (0, 0)) (ZBK BK217.out)) : gb217 ≠ gb219)); have n6_ := ZM ((by rw [hg]; exact Nat.ne_of_gt (blk_lt (g := gb217) (o := .cells #[.slice A0_0 l0_0.length c0_0, .slice (some ad218) l0_1.length c0_1] 27 (0, 0)) (ZBK BK217.out)) : gb219 ≠ gb217)); clear BK217; clear HB; have BK217 := n0_; have HB := n1_; have BK219 := n2_; have GW219 := n3_; have GE219 := n4_; have NB217_219 := n5_; have NB219_217 := n6_; clear n0_ n1_ n2_ n3_ n4_ n5_ n6_; clear hb hbox hg; have hnb22 := NB219_217.out; have hnc22 := NB217_219.out; have hcz23_0 : w21.cell? ⟨gb219, 0, none⟩ = some (.int .i64 0) := (ZG BK219.out 0).trans rfl; have hcz23_1 : w21.cell? ⟨gb219, 1, none⟩ = some (.int .i64 0) := (ZG BK219.out 1).trans rfl; have hcz23_2 : w21.cell? ⟨gb219, 2, none⟩ = some (.int .i64 0) := (ZG BK219.out 2).trans rfl; have hfz23_0 := ZF BK219.out 0; have hfz23_1 := ZF BK219.out 1; have hfz23_2 := ZF BK219.out 2; have hcz24_0 : w21.cell? ⟨gb217, 0, none⟩ = some (.slice A0_0 l0_0.length c0_0) := (ZG BK217.out 0).trans rfl; have hcz24_1 : w21.cell? ⟨gb217, 1, none⟩ = some (.slice (some ad218) l0_1.length c0_1) := (ZG BK217.out 1).trans rfl; have hfz24_0 := ZF BK217.out 0; have hfz24_1 := ZF BK217.out 1) | ((with_reducible refine gate_callee (f := 44) rfl ?_); refine goesL_ (some 25) rfl rfl Tryd.func44 (by kernel_rfl) rfl #[.agg #[.slice A0_0 l0_0.length c0_0, .slice (some ad218) l0_1.length c0_1], .agg #[.int .i64 ((rd_T42 l0_1 x3_1).f0), .int .i64 (-1)]] rfl ZH ?_; (with_reducible refine (meanderref08_Is.calls k1 _ _ l0_0 _ _ l0_1 ((rd_T42 l0_1 x3_1).f0) (-1) true _ ?side1 ?side2 ?side3 ?side4 A5.out).mono ?_); (case side1 => exact Kd.C_below HR0_0.out (ZBB HB.out)); (case side2 => exact HC0_0.out); (case side3 => exact Kd.C_below HR0_1.out (ZBB HB.out)); (case side4 => exact HC0_1.out); rintro e w25 ⟨rfl, hb⟩; refine ⟨_, rfl, ?_⟩; have n0_ := ZM (blk_below (g := gb217) (o := .cells #[.slice A0_0 l0_0.length c0_0, .slice (some ad218) l0_1.length c0_1] 27 (0, 0)) (by (with_reducible repeat (first | refine ZR ?_ _ | refine ZS ?_ | refine ZT ?_ _)); refine blk_far ?_ NB217_219.out _; (with_reducible repeat (first | refine ZR ?_ _ | refine ZS ?_ | refine ZT ?_ _)); refine blk_far ?_ NB217_219.out _; (with_reducible repeat (first | refine ZR ?_ _ | refine ZS ?_ | refine ZT ?_ _)); refine blk_far ?_ NB217_219.out _; (with_reducible repeat (first | refine ZR ?_ _ | refine ZS ?_ | refine ZT ?_ _)); exact BK217.out) hb); have n1_ := ZM (blk_below (g := gb219) (o := .cells #[.int .i64 ((rd_T42 l0_1 x3_1).f0), .int .i64 ((rd_T42 l0_1 x3_1).f1), .int .i64 ((rd_T42 l0_1 x3_1).f2)] 42 (0, 0)) (by (with_reducible repeat (first | refine ZR ?_ _ | refine ZS ?_ | refine ZT ?_ _)); refine blk_put (cs := #[.int .i64 ((rd_T42 l0_1 x3_1).f0), .int .i64 ((rd_T42 l0_1 x3_1).f1), .int .i64 0]) ?_ 2 _ rfl; (with_reducible repeat (first | refine ZR ?_ _ | refine ZS ?_ | refine ZT ?_ _)); refine blk_put (cs := #[.int .i64 ((rd_T42 l0_1 x3_1).f0), .int .i64 0, .int .i64 0]) ?_ 1 _ rfl; (with_reducible repeat (first | refine ZR ?_ _ | refine ZS ?_ | refine ZT ?_ _)); refine blk_put (cs := #[.int .i64 0, .int .i64 0, .int .i64 0]) ?_ 0 _ rfl; (with_reducible repeat (first | refine ZR ?_ _ | refine ZS ?_ | refine ZT ?_ _)); exact BK219.out) hb); have n2_ := ZM (ZW (ZBB HB.out) hb); clear BK217; clear BK219; clear HB; have BK217 := n0_; have BK219 := n1_; have HB := n2_; clear n0_ n1_ n2_; (try clear hb); (try clear hb2); (try clear hk); (try clear hi); have hcz26_0 : w25.cell? ⟨gb217, 0, none⟩ = some (.slice A0_0 l0_0.length c0_0) := (ZG BK217.out 0).trans rfl; have hcz26_1 : w25.cell? ⟨gb217, 1, none⟩ = some (.slice (some ad218) l0_1.length c0_1) := (ZG BK217.out 1).trans rfl; have hfz26_0 := ZF BK217.out 0; have hfz26_1 := ZF BK217.out 1; have hcz27_0 : w25.cell? ⟨gb219, 0, none⟩ = some (.int .i64 ((rd_T42 l0_1 x3_1).f0)) := (ZG BK219.out 0).trans rfl; have hcz27_1 : w25.cell? ⟨gb219, 1, none⟩ = some (.int .i64 ((rd_T42 l0_1 x3_1).f1)) := (ZG BK219.out 1).trans rfl; have hcz27_2 : w25.cell? ⟨gb219, 2, none⟩ = some (.int .i64 ((rd_T42 l0_1 x3_1).f2)) := (ZG BK219.out 2).trans rfl; have hfz27_0 := ZF BK219.out 0; have hfz27_1 := ZF BK219.out 1; have hfz27_2 := ZF BK219.out 2) | ((with_reducible refine gate_callee (f := 44) rfl ?_); refine goesL_ (some 32) rfl rfl Tryd.func44 (by kernel_rfl) rfl #[.agg #[.slice A0_0 l0_0.length c0_0, .slice (some ad218) l0_1.length c0_1], .agg #[.int .i64 ((rd_T42 l0_1 x3_1).f1), .int .i64 ((rd_T42 l0_1 x3_1).f2)]] rfl ZH ?_; (with_reducible refine (meanderref08_Is.calls k1 _ _ l0_0 _ _ l0_1 ((rd_T42 l0_1 x3_1).f1) ((rd_T42 l0_1 x3_1).f2) true _ ?side1 ?side2 ?side3 ?side4 A6.out).mono ?_); (case side1 => repeat (first | exact (Kd.C_below HR0_0.out HB.out) | (with_reducible refine Kd.C_alloc ?_ _) | (with_reducible refine Kd.C_drewN ?_ _) | (with_reducible refine Kd.C_drew ?_))); (case side2 => exact HC0_0.out); (case side3 => repeat (first | exact (Kd.C_below HR0_1.out HB.out) | (with_reducible refine Kd.C_alloc ?_ _) | (with_reducible refine Kd.C_drewN ?_ _) | (with_reducible refine Kd.C_drew ?_))); (case side4 => exact HC0_1.out); rintro e w28 ⟨rfl, hb⟩; refine ⟨_, rfl, ?_⟩; have n0_ := ZM (blk_below (g := gb217) (o := .cells #[.slice A0_0 l0_0.length c0_0, .slice (some ad218) l0_1.length c0_1] 27 (0, 0)) (ZBK BK217.out) hb); have n1_ := ZM (blk_below (g := gb219) (o := .cells #[.int .i64 ((rd_T42 l0_1 x3_1).f0), .int .i64 ((rd_T42 l0_1 x3_1).f1), .int .i64 ((rd_T42 l0_1 x3_1).f2)] 42 (0, 0)) (ZBK BK219.out) hb); have n2_ := ZM (ZW (ZBB HB.out) hb); clear BK217; clear BK219; clear HB; have BK217 := n0_; have BK219 := n1_; have HB := n2_; clear n0_ n1_ n2_; (try clear hb); (try clear hb2); (try clear hk); (try clear hi); have hcz29_0 : w28.cell? ⟨gb219, 0, none⟩ = some (.int .i64 ((rd_T42 l0_1 x3_1).f0)) := (ZG BK219.out 0).trans rfl; have hcz29_1 : w28.cell? ⟨gb219, 1, none⟩ = some (.int .i64 ((rd_T42 l0_1 x3_1).f1)) := (ZG BK219.out 1).trans rfl; have hcz29_2 : w28.cell? ⟨gb219, 2, none⟩ = some (.int .i64 ((rd_T42 l0_1 x3_1).f2)) := (ZG BK219.out 2).trans rfl; have hfz29_0 := ZF BK219.out 0; have hfz29_1 := ZF BK219.out 1; have hfz29_2 := ZF BK219.out 2))
       go_roundg k1
       case measure => have := HK1.out; omega
       case rel => exact ⟨(wrap64 (x3_1 + 1)), (by first | rfl | (simp; done) | (simp [*]; done)), H', ⟨by have := HK1.out; omega⟩, ⟨ZBK BK217.out⟩, ⟨ZBB HB.out⟩⟩
     ·replace c8 := Bool.eq_false_iff.mpr c8
      subst c8
      have H1 : (some 11) = some r := by rw [if_neg (show ¬ (false = true) by decide)] at H; exact H
      clear H
      have H := H1
      clear H1
      obtain rfl := Option.some.inj H
      have hcz30_0 : wr.cell? ⟨gb217, 0, none⟩ = some (.slice A0_0 l0_0.length c0_0) := (ZG BK217.out 0).trans rfl
      have hcz30_1 : wr.cell? ⟨gb217, 1, none⟩ = some (.slice A0_1 l0_1.length c0_1) := (ZG BK217.out 1).trans rfl
      have hfz30_0 := ZF BK217.out 0
      have hfz30_1 := ZF BK217.out 1
      have p218 : 0 ≤ (x3_1 : Int) := ZOD
      have q218 : x3_1 < (l0_1.length : Int) := ZOD
      obtain ⟨ad218, e218, hx218_0, hx218_1, hx218_2⟩ := at_T42 HR0_1.out x3_1 p218 q218
      cases e218
      replace hx218_0 := (HB.out.cell (ZC w _ hx218_0)).trans hx218_0
      replace hx218_1 := (HB.out.cell (ZC w _ hx218_1)).trans hx218_1
      replace hx218_2 := (HB.out.cell (ZC w _ hx218_2)).trans hx218_2
      replace p218 := eq_true p218
      replace q218 := eq_true q218
      go_wp2_with (first | ((with_reducible refine gate_dst (N := 4) rfl ?_); refine box_event ?hg (N := 4) ?hd (cs := #[.int .i64 0, .int .i64 0, .int .i64 0]) (t := 42) ?hr ?_; (case hd => rfl); (case hg => rfl); (case hr => first | (go_simp; done) | (go_simp; rfl)); intro gb219 hg w31 hbox hb; have n0_ := ZM (blk_below (g := gb217) (o := .cells #[.slice A0_0 l0_0.length c0_0, .slice (some ad218) l0_1.length c0_1] 27 (0, 0)) (ZBK BK217.out) hb); have n1_ := ZM (ZW (ZBB HB.out) hb); have n2_ := ZM (hbox); have n3_ := ZM ((by rw [hg]; exact (ZV (ZBB HB.out)) : w.heap.size ≤ gb219)); have n4_ := ZM ((by rw [hg]; exact (ZV (ZBB HB.out)) : w.heap.size ≤ gb219)); have n5_ := ZM ((by rw [hg]; exact Nat.ne_of_lt (blk_lt (g := gb217) (o := .cells #[.slice A0_0 l0_0.length c0_0, .slice (some ad218) l0_1.length c0_1] 27 (0, 0)) (ZBK BK217.out)) : gb217 ≠ gb219)); have n6_ := ZM ((by rw [hg]; exact Nat.ne_of_gt (blk_lt (g := gb217) (o := .cells #[.slice A0_0 l0_0.length c0_0, .slice (some ad218) l0_1.length c0_1] 27 (0, 0)) (ZBK BK217.out)) : gb219 ≠ gb217)); clear BK217; clear HB; have BK217 := n0_; have HB := n1_; have BK219 := n2_; have GW219 := n3_; have GE219 := n4_; have NB217_219 := n5_; have NB219_217 := n6_; clear n0_ n1_ n2_ n3_ n4_ n5_ n6_; clear hb hbox hg; have hnb32 := NB219_217.out; have hnc32 := NB217_219.out; have hcz33_0 : w31.cell? ⟨gb219, 0, none⟩ = some (.int .i64 0) := (ZG BK219.out 0).trans rfl; have hcz33_1 : w31.cell? ⟨gb219, 1, none⟩ = some (.int .i64 0) := (ZG BK219.out 1).trans rfl; have hcz33_2 : w31.cell? ⟨gb219, 2, none⟩ = some (.int .i64 0) := (ZG BK219.out 2).trans rfl; have hfz33_0 := ZF BK219.out 0; have hfz33_1 := ZF BK219.out 1; have hfz33_2 := ZF BK219.out 2; have hcz34_0 : w31.cell? ⟨gb217, 0, none⟩ = some (.slice A0_0 l0_0.length c0_0) := (ZG BK217.out 0).trans rfl; have hcz34_1 : w31.cell? ⟨gb217, 1, none⟩ = some (.slice (some ad218) l0_1.length c0_1) := (ZG BK217.out 1).trans rfl; have hfz34_0 := ZF BK217.out 0; have hfz34_1 := ZF BK217.out 1) | ((with_reducible refine gate_callee (f := 44) rfl ?_); refine goesL_ (some 25) rfl rfl Tryd.func44 (by kernel_rfl) rfl #[.agg #[.slice A0_0 l0_0.length c0_0, .slice (some ad218) l0_1.length c0_1], .agg #[.int .i64 ((rd_T42 l0_1 x3_1).f0), .int .i64 (-1)]] rfl ZH ?_; (with_reducible refine (meanderref08_Is.calls k1 _ _ l0_0 _ _ l0_1 ((rd_T42 l0_1 x3_1).f0) (-1) true _ ?side1 ?side2 ?side3 ?side4 A5.out).mono ?_); (case side1 => exact Kd.C_below HR0_0.out (ZBB HB.out)); (case side2 => exact HC0_0.out); (case side3 => exact Kd.C_below HR0_1.out (ZBB HB.out)); (case side4 => exact HC0_1.out); rintro e w35 ⟨rfl, hb⟩; refine ⟨_, rfl, ?_⟩; have n0_ := ZM (blk_below (g := gb217) (o := .cells #[.slice A0_0 l0_0.length c0_0, .slice (some ad218) l0_1.length c0_1] 27 (0, 0)) (by (with_reducible repeat (first | refine ZR ?_ _ | refine ZS ?_ | refine ZT ?_ _)); refine blk_far ?_ NB217_219.out _; (with_reducible repeat (first | refine ZR ?_ _ | refine ZS ?_ | refine ZT ?_ _)); refine blk_far ?_ NB217_219.out _; (with_reducible repeat (first | refine ZR ?_ _ | refine ZS ?_ | refine ZT ?_ _)); refine blk_far ?_ NB217_219.out _; (with_reducible repeat (first | refine ZR ?_ _ | refine ZS ?_ | refine ZT ?_ _)); exact BK217.out) hb); have n1_ := ZM (blk_below (g := gb219) (o := .cells #[.int .i64 ((rd_T42 l0_1 x3_1).f0), .int .i64 ((rd_T42 l0_1 x3_1).f1), .int .i64 ((rd_T42 l0_1 x3_1).f2)] 42 (0, 0)) (by (with_reducible repeat (first | refine ZR ?_ _ | refine ZS ?_ | refine ZT ?_ _)); refine blk_put (cs := #[.int .i64 ((rd_T42 l0_1 x3_1).f0), .int .i64 ((rd_T42 l0_1 x3_1).f1), .int .i64 0]) ?_ 2 _ rfl; (with_reducible repeat (first | refine ZR ?_ _ | refine ZS ?_ | refine ZT ?_ _)); refine blk_put (cs := #[.int .i64 ((rd_T42 l0_1 x3_1).f0), .int .i64 0, .int .i64 0]) ?_ 1 _ rfl; (with_reducible repeat (first | refine ZR ?_ _ | refine ZS ?_ | refine ZT ?_ _)); refine blk_put (cs := #[.int .i64 0, .int .i64 0, .int .i64 0]) ?_ 0 _ rfl; (with_reducible repeat (first | refine ZR ?_ _ | refine ZS ?_ | refine ZT ?_ _)); exact BK219.out) hb); have n2_ := ZM (ZW (ZBB HB.out) hb); clear BK217; clear BK219; clear HB; have BK217 := n0_; have BK219 := n1_; have HB := n2_; clear n0_ n1_ n2_; (try clear hb); (try clear hb2); (try clear hk); (try clear hi); have hcz36_0 : w35.cell? ⟨gb217, 0, none⟩ = some (.slice A0_0 l0_0.length c0_0) := (ZG BK217.out 0).trans rfl; have hcz36_1 : w35.cell? ⟨gb217, 1, none⟩ = some (.slice (some ad218) l0_1.length c0_1) := (ZG BK217.out 1).trans rfl; have hfz36_0 := ZF BK217.out 0; have hfz36_1 := ZF BK217.out 1; have hcz37_0 : w35.cell? ⟨gb219, 0, none⟩ = some (.int .i64 ((rd_T42 l0_1 x3_1).f0)) := (ZG BK219.out 0).trans rfl; have hcz37_1 : w35.cell? ⟨gb219, 1, none⟩ = some (.int .i64 ((rd_T42 l0_1 x3_1).f1)) := (ZG BK219.out 1).trans rfl; have hcz37_2 : w35.cell? ⟨gb219, 2, none⟩ = some (.int .i64 ((rd_T42 l0_1 x3_1).f2)) := (ZG BK219.out 2).trans rfl; have hfz37_0 := ZF BK219.out 0; have hfz37_1 := ZF BK219.out 1; have hfz37_2 := ZF BK219.out 2) | ((with_reducible refine gate_callee (f := 44) rfl ?_); refine goesL_ (some 32) rfl rfl Tryd.func44 (by kernel_rfl) rfl #[.agg #[.slice A0_0 l0_0.length c0_0, .slice (some ad218) l0_1.length c0_1], .agg #[.int .i64 ((rd_T42 l0_1 x3_1).f1), .int .i64 ((rd_T42 l0_1 x3_1).f2)]] rfl ZH ?_; (with_reducible refine (meanderref08_Is.calls k1 _ _ l0_0 _ _ l0_1 ((rd_T42 l0_1 x3_1).f1) ((rd_T42 l0_1 x3_1).f2) false _ ?side1 ?side2 ?side3 ?side4 A6.out).mono ?_); (case side1 => repeat (first | exact (Kd.C_below HR0_0.out HB.out) | (with_reducible refine Kd.C_alloc ?_ _) | (with_reducible refine Kd.C_drewN ?_ _) | (with_reducible refine Kd.C_drew ?_))); (case side2 => exact HC0_0.out); (case side3 => repeat (first | exact (Kd.C_below HR0_1.out HB.out) | (with_reducible refine Kd.C_alloc ?_ _) | (with_reducible refine Kd.C_drewN ?_ _) | (with_reducible refine Kd.C_drew ?_))); (case side4 => exact HC0_1.out); rintro e w38 ⟨rfl, hb⟩; refine ⟨_, rfl, ?_⟩; have n0_ := ZM (blk_below (g := gb217) (o := .cells #[.slice A0_0 l0_0.length c0_0, .slice (some ad218) l0_1.length c0_1] 27 (0, 0)) (ZBK BK217.out) hb); have n1_ := ZM (blk_below (g := gb219) (o := .cells #[.int .i64 ((rd_T42 l0_1 x3_1).f0), .int .i64 ((rd_T42 l0_1 x3_1).f1), .int .i64 ((rd_T42 l0_1 x3_1).f2)] 42 (0, 0)) (ZBK BK219.out) hb); have n2_ := ZM (ZW (ZBB HB.out) hb); clear BK217; clear BK219; clear HB; have BK217 := n0_; have BK219 := n1_; have HB := n2_; clear n0_ n1_ n2_; (try clear hb); (try clear hb2); (try clear hk); (try clear hi)))
      go_ret
      exact ⟨by first | rfl | (simp [errW_none, errW_some] <;> rfl) | (simp [*, errW_none, errW_some] <;> rfl), ZBB HB.out⟩
    ·replace c7 := Bool.eq_false_iff.mpr c7
     subst c7
     have H1 : (some 11) = some r := by rw [if_neg (show ¬ (false = true) by decide)] at H; exact H
     clear H
     have H := H1
     clear H1
     obtain rfl := Option.some.inj H
     have hcz39_0 : wr.cell? ⟨gb217, 0, none⟩ = some (.slice A0_0 l0_0.length c0_0) := (ZG BK217.out 0).trans rfl
     have hcz39_1 : wr.cell? ⟨gb217, 1, none⟩ = some (.slice A0_1 l0_1.length c0_1) := (ZG BK217.out 1).trans rfl
     have hfz39_0 := ZF BK217.out 0
     have hfz39_1 := ZF BK217.out 1
     have p218 : 0 ≤ (x3_1 : Int) := ZOD
     have q218 : x3_1 < (l0_1.length : Int) := ZOD
     obtain ⟨ad218, e218, hx218_0, hx218_1, hx218_2⟩ := at_T42 HR0_1.out x3_1 p218 q218
     cases e218
     replace hx218_0 := (HB.out.cell (ZC w _ hx218_0)).trans hx218_0
     replace hx218_1 := (HB.out.cell (ZC w _ hx218_1)).trans hx218_1
     replace hx218_2 := (HB.out.cell (ZC w _ hx218_2)).trans hx218_2
     replace p218 := eq_true p218
     replace q218 := eq_true q218
     go_wp2_with (first | ((with_reducible refine gate_dst (N := 4) rfl ?_); refine box_event ?hg (N := 4) ?hd (cs := #[.int .i64 0, .int .i64 0, .int .i64 0]) (t := 42) ?hr ?_; (case hd => rfl); (case hg => rfl); (case hr => first | (go_simp; done) | (go_simp; rfl)); intro gb219 hg w40 hbox hb; have n0_ := ZM (blk_below (g := gb217) (o := .cells #[.slice A0_0 l0_0.length c0_0, .slice (some ad218) l0_1.length c0_1] 27 (0, 0)) (ZBK BK217.out) hb); have n1_ := ZM (ZW (ZBB HB.out) hb); have n2_ := ZM (hbox); have n3_ := ZM ((by rw [hg]; exact (ZV (ZBB HB.out)) : w.heap.size ≤ gb219)); have n4_ := ZM ((by rw [hg]; exact (ZV (ZBB HB.out)) : w.heap.size ≤ gb219)); have n5_ := ZM ((by rw [hg]; exact Nat.ne_of_lt (blk_lt (g := gb217) (o := .cells #[.slice A0_0 l0_0.length c0_0, .slice (some ad218) l0_1.length c0_1] 27 (0, 0)) (ZBK BK217.out)) : gb217 ≠ gb219)); have n6_ := ZM ((by rw [hg]; exact Nat.ne_of_gt (blk_lt (g := gb217) (o := .cells #[.slice A0_0 l0_0.length c0_0, .slice (some ad218) l0_1.length c0_1] 27 (0, 0)) (ZBK BK217.out)) : gb219 ≠ gb217)); clear BK217; clear HB; have BK217 := n0_; have HB := n1_; have BK219 := n2_; have GW219 := n3_; have GE219 := n4_; have NB217_219 := n5_; have NB219_217 := n6_; clear n0_ n1_ n2_ n3_ n4_ n5_ n6_; clear hb hbox hg; have hnb41 := NB219_217.out; have hnc41 := NB217_219.out; have hcz42_0 : w40.cell? ⟨gb219, 0, none⟩ = some (.int .i64 0) := (ZG BK219.out 0).trans rfl; have hcz42_1 : w40.cell? ⟨gb219, 1, none⟩ = some (.int .i64 0) := (ZG BK219.out 1).trans rfl; have hcz42_2 : w40.cell? ⟨gb219, 2, none⟩ = some (.int .i64 0) := (ZG BK219.out 2).trans rfl; have hfz42_0 := ZF BK219.out 0; have hfz42_1 := ZF BK219.out 1; have hfz42_2 := ZF BK219.out 2; have hcz43_0 : w40.cell? ⟨gb217, 0, none⟩ = some (.slice A0_0 l0_0.length c0_0) := (ZG BK217.out 0).trans rfl; have hcz43_1 : w40.cell? ⟨gb217, 1, none⟩ = some (.slice (some ad218) l0_1.length c0_1) := (ZG BK217.out 1).trans rfl; have hfz43_0 := ZF BK217.out 0; have hfz43_1 := ZF BK217.out 1) | ((with_reducible refine gate_callee (f := 44) rfl ?_); refine goesL_ (some 25) rfl rfl Tryd.func44 (by kernel_rfl) rfl #[.agg #[.slice A0_0 l0_0.length c0_0, .slice (some ad218) l0_1.length c0_1], .agg #[.int .i64 ((rd_T42 l0_1 x3_1).f0), .int .i64 (-1)]] rfl ZH ?_; (with_reducible refine (meanderref08_Is.calls k1 _ _ l0_0 _ _ l0_1 ((rd_T42 l0_1 x3_1).f0) (-1) false _ ?side1 ?side2 ?side3 ?side4 A5.out).mono ?_); (case side1 => exact Kd.C_below HR0_0.out (ZBB HB.out)); (case side2 => exact HC0_0.out); (case side3 => exact Kd.C_below HR0_1.out (ZBB HB.out)); (case side4 => exact HC0_1.out); rintro e w44 ⟨rfl, hb⟩; refine ⟨_, rfl, ?_⟩; have n0_ := ZM (blk_below (g := gb217) (o := .cells #[.slice A0_0 l0_0.length c0_0, .slice (some ad218) l0_1.length c0_1] 27 (0, 0)) (by (with_reducible repeat (first | refine ZR ?_ _ | refine ZS ?_ | refine ZT ?_ _)); refine blk_far ?_ NB217_219.out _; (with_reducible repeat (first | refine ZR ?_ _ | refine ZS ?_ | refine ZT ?_ _)); refine blk_far ?_ NB217_219.out _; (with_reducible repeat (first | refine ZR ?_ _ | refine ZS ?_ | refine ZT ?_ _)); refine blk_far ?_ NB217_219.out _; (with_reducible repeat (first | refine ZR ?_ _ | refine ZS ?_ | refine ZT ?_ _)); exact BK217.out) hb); have n1_ := ZM (blk_below (g := gb219) (o := .cells #[.int .i64 ((rd_T42 l0_1 x3_1).f0), .int .i64 ((rd_T42 l0_1 x3_1).f1), .int .i64 ((rd_T42 l0_1 x3_1).f2)] 42 (0, 0)) (by (with_reducible repeat (first | refine ZR ?_ _ | refine ZS ?_ | refine ZT ?_ _)); refine blk_put (cs := #[.int .i64 ((rd_T42 l0_1 x3_1).f0), .int .i64 ((rd_T42 l0_1 x3_1).f1), .int .i64 0]) ?_ 2 _ rfl; (with_reducible repeat (first | refine ZR ?_ _ | refine ZS ?_ | refine ZT ?_ _)); refine blk_put (cs := #[.int .i64 ((rd_T42 l0_1 x3_1).f0), .int .i64 0, .int .i64 0]) ?_ 1 _ rfl; (with_reducible repeat (first | refine ZR ?_ _ | refine ZS ?_ | refine ZT ?_ _)); refine blk_put (cs := #[.int .i64 0, .int .i64 0, .int .i64 0]) ?_ 0 _ rfl; (with_reducible repeat (first | refine ZR ?_ _ | refine ZS ?_ | refine ZT ?_ _)); exact BK219.out) hb); have n2_ := ZM (ZW (ZBB HB.out) hb); clear BK217; clear BK219; clear HB; have BK217 := n0_; have BK219 := n1_; have HB := n2_; clear n0_ n1_ n2_; (try clear hb); (try clear hb2); (try clear hk); (try clear hi); have hcz45_0 : w44.cell? ⟨gb217, 0, none⟩ = some (.slice A0_0 l0_0.length c0_0) := (ZG BK217.out 0).trans rfl; have hcz45_1 : w44.cell? ⟨gb217, 1, none⟩ = some (.slice (some ad218) l0_1.length c0_1) := (ZG BK217.out 1).trans rfl; have hfz45_0 := ZF BK217.out 0; have hfz45_1 := ZF BK217.out 1; have hcz46_0 : w44.cell? ⟨gb219, 0, none⟩ = some (.int .i64 ((rd_T42 l0_1 x3_1).f0)) := (ZG BK219.out 0).trans rfl; have hcz46_1 : w44.cell? ⟨gb219, 1, none⟩ = some (.int .i64 ((rd_T42 l0_1 x3_1).f1)) := (ZG BK219.out 1).trans rfl; have hcz46_2 : w44.cell? ⟨gb219, 2, none⟩ = some (.int .i64 ((rd_T42 l0_1 x3_1).f2)) := (ZG BK219.out 2).trans rfl; have hfz46_0 := ZF BK219.out 0; have hfz46_1 := ZF BK219.out 1; have hfz46_2 := ZF BK219.out 2) | ((with_reducible refine gate_callee (f := 44) rfl ?_); refine goesL_ (some 32) rfl rfl Tryd.func44 (by kernel_rfl) rfl #[.agg #[.slice A0_0 l0_0.length c0_0, .slice (some ad218) l0_1.length c0_1], .agg #[.int .i64 ((rd_T42 l0_1 x3_1).f1), .int .i64 ((rd_T42 l0_1 x3_1).f2)]] rfl ZH ?_; (with_reducible refine (meanderref08_Is.calls k1 _ _ l0_0 _ _ l0_1 ((rd_T42 l0_1 x3_1).f1) ((rd_T42 l0_1 x3_1).f2) t221 _ ?side1 ?side2 ?side3 ?side4 A6.out).mono ?_); (case side1 => repeat (first | exact (Kd.C_below HR0_0.out HB.out) | (with_reducible refine Kd.C_alloc ?_ _) | (with_reducible refine Kd.C_drewN ?_ _) | (with_reducible refine Kd.C_drew ?_))); (case side2 => exact HC0_0.out); (case side3 => repeat (first | exact (Kd.C_below HR0_1.out HB.out) | (with_reducible refine Kd.C_alloc ?_ _) | (with_reducible refine Kd.C_drewN ?_ _) | (with_reducible refine Kd.C_drew ?_))); (case side4 => exact HC0_1.out); rintro e w47 ⟨rfl, hb⟩; refine ⟨_, rfl, ?_⟩; have n0_ := ZM (blk_below (g := gb217) (o := .cells #[.slice A0_0 l0_0.length c0_0, .slice (some ad218) l0_1.length c0_1] 27 (0, 0)) (ZBK BK217.out) hb); have n1_ := ZM (blk_below (g := gb219) (o := .cells #[.int .i64 ((rd_T42 l0_1 x3_1).f0), .int .i64 ((rd_T42 l0_1 x3_1).f1), .int .i64 ((rd_T42 l0_1 x3_1).f2)] 42 (0, 0)) (ZBK BK219.out) hb); have n2_ := ZM (ZW (ZBB HB.out) hb); clear BK217; clear BK219; clear HB; have BK217 := n0_; have BK219 := n1_; have HB := n2_; clear n0_ n1_ n2_; (try clear hb); (try clear hb2); (try clear hk); (try clear hi)))
     go_ret
     exact ⟨by first | rfl | (simp [errW_none, errW_some] <;> rfl) | (simp [*, errW_none, errW_some] <;> rfl), ZBB HB.out⟩
   ·rw [if_neg c3] at H
    have c3b0 : decide (x3_1 < (l0_1.length : Int)) = false := decide_eq_false c3
    clear c3
    have H' := ZM H
    clear H
    have hcz48_0 : wr.cell? ⟨gb217, 0, none⟩ = some (.slice A0_0 l0_0.length c0_0) := (ZG BK217.out 0).trans rfl
    have hcz48_1 : wr.cell? ⟨gb217, 1, none⟩ = some (.slice A0_1 l0_1.length c0_1) := (ZG BK217.out 1).trans rfl
    have hfz48_0 := ZF BK217.out 0
    have hfz48_1 := ZF BK217.out 1
    go_wp2
    go_loopg [7] k1 (fun kq v7 w' => ∃ (x7_2 : Int), v7 = .int .i64 x7_2 ∧ Aside0 (meanderref09_edges.l1 kq x7_2 l0_0 l0_1 = some r) ∧ Aside0 (kq ≤ k1) ∧ Aside0 (w'.heap[gb217]? = some (.cells #[(.slice A0_0 l0_0.length c0_0), (.slice A0_1 l0_1.length c0_1)] 27 (0, 0))) ∧ Aside0 (Below w.heap.size w w'))
    case atStart => exact ⟨(0), (by first | rfl | (simp; done) | (simp [*]; done)), H', ⟨Nat.le_refl _⟩, ⟨ZBK BK217.out⟩, ⟨ZBB HB.out⟩⟩
    case round =>
     clear H'
     try clear c3
     try clear c3b0
     try clear c4
     try clear c4b0
     try clear c7
     try clear c8
     try clear c9
     try clear c9b0
     try clear c9b1
     try clear hcz10_0
     try clear hcz10_1
     try clear hcz13_0
     try clear hcz13_1
     try clear hcz13_2
     try clear hcz14_0
     try clear hcz14_1
     try clear hcz16_0
     try clear hcz16_1
     try clear hcz17_0
     try clear hcz17_1
     try clear hcz17_2
     try clear hcz19_0
     try clear hcz19_1
     try clear hcz19_2
     try clear hcz20_0
     try clear hcz20_1
     try clear hcz23_0
     try clear hcz23_1
     try clear hcz23_2
     try clear hcz24_0
     try clear hcz24_1
     try clear hcz26_0
     try clear hcz26_1
     try clear hcz27_0
     try clear hcz27_1
     try clear hcz27_2
     try clear hcz29_0
     try clear hcz29_1
     try clear hcz29_2
     try clear hcz30_0
     try clear hcz30_1
     try clear hcz33_0
     try clear hcz33_1
     try clear hcz33_2
     try clear hcz34_0
     try clear hcz34_1
     try clear hcz36_0
     try clear hcz36_1
     try clear hcz37_0
     try clear hcz37_1
     try clear hcz37_2
     try clear hcz39_0
     try clear hcz39_1
     try clear hcz42_0
     try clear hcz42_1
     try clear hcz42_2
     try clear hcz43_0
     try clear hcz43_1
     try clear hcz45_0
     try clear hcz45_1
     try clear hcz46_0
     try clear hcz46_1
     try clear hcz46_2
     try clear hcz48_0
     try clear hcz48_1
     try clear hfz10_0
     try clear hfz10_1
     try clear hfz13_0
     try clear hfz13_1
     try clear hfz13_2
     try clear hfz14_0
     try clear hfz14_1
     try clear hfz16_0
     try clear hfz16_1
     try clear hfz17_0
     try clear hfz17_1
     try clear hfz17_2
     try clear hfz19_0
     try clear hfz19_1
     try clear hfz19_2
     try clear hfz20_0
     try clear hfz20_1
     try clear hfz23_0
     try clear hfz23_1
     try clear hfz23_2
     try clear hfz24_0
     try clear hfz24_1
     try clear hfz26_0
     try clear hfz26_1
     try clear hfz27_0
     try clear hfz27_1
     try clear hfz27_2
     try clear hfz29_0
     try clear hfz29_1
     try clear hfz29_2
     try clear hfz30_0
     try clear hfz30_1
     try clear hfz33_0
     try clear hfz33_1
     try clear hfz33_2
     try clear hfz34_0
     try clear hfz34_1
     try clear hfz36_0
     try clear hfz36_1
     try clear hfz37_0
     try clear hfz37_1
     try clear hfz37_2
     try clear hfz39_0
     try clear hfz39_1
     try clear hfz42_0
     try clear hfz42_1
     try clear hfz42_2
     try clear hfz43_0
     try clear hfz43_1
     try clear hfz45_0
     try clear hfz45_1
     try clear hfz46_0
     try clear hfz46_1
     try clear hfz46_2
     try clear hfz48_0
     try clear hfz48_1
     try clear hx218_0
     try clear hx218_1
     try clear hx218_2
     try clear p218
     try clear q218
     obtain ⟨x7_2, rfl, HA, HK2, BK217, HB⟩ := hrel
     cases gk with
     | zero => exact absurd HA.out (by simp [meanderref09_edges.l1])
     | succ k2 =>
      have H := HA.out
      clear HA
      simp only [meanderref09_edges.l1] at H
      by_cases c49 : x7_2 < (l0_1.length : Int)
      ·rw [if_pos c49] at H
       have c49b0 : decide (x7_2 < (l0_1.length : Int)) = true := decide_eq_true c49
       clear c49
       by_cases c50 : 0 ≤ x7_2
       case neg =>
        rw [if_neg c50] at H
        exact absurd H (by simp)
       rw [if_pos c50] at H
       have c50b0 : decide (0 ≤ x7_2) = true := decide_eq_true c50
       clear c50
       by_cases c51 : 0 ≤ ((rd_T42 l0_1 x7_2).f0)
       case neg =>
        rw [if_neg c51] at H
        exact absurd H (by simp)
       rw [if_pos c51] at H
       have c51b0 : decide (0 ≤ ((rd_T42 l0_1 x7_2).f0)) = true := decide_eq_true c51
       clear c51
       by_cases c52 : ((rd_T42 l0_1 x7_2).f0) < (l0_0.length : Int)
       case neg =>
        rw [if_neg c52] at H
        exact absurd H (by simp)
       rw [if_pos c52] at H
       have c52b0 : decide (((rd_T42 l0_1 x7_2).f0) < (l0_0.length : Int)) = true := decide_eq_true c52
       clear c52
       by_cases c53 : 0 ≤ ((rd_T42 l0_1 x7_2).f1)
       case neg =>
        rw [if_neg c53] at H
        exact absurd H (by simp)
       rw [if_pos c53] at H
       have c53b0 : decide (0 ≤ ((rd_T42 l0_1 x7_2).f1)) = true := decide_eq_true c53
       clear c53
       by_cases c54 : ((rd_T42 l0_1 x7_2).f1) < (l0_0.length : Int)
       case neg =>
        rw [if_neg c54] at H
        exact absurd H (by simp)
       rw [if_pos c54] at H
       have c54b0 : decide (((rd_T42 l0_1 x7_2).f1) < (l0_0.length : Int)) = true := decide_eq_true c54
       clear c54
       replace H := Option.bind_eq_some_iff.mp H
       obtain ⟨t226, A550, H⟩ := H
       replace H : (if ((rd_T40 l0_0 ((rd_T42 l0_1 x7_2).f0)).f3) = t226 then (meanderref09_edges.l1 k2 (wrap64 (x7_2 + 1)) l0_0 l0_1) else (some 12)) = some r := H
       have A55 := ZM A550
       clear A550
       by_cases c56 : ((rd_T40 l0_0 ((rd_T42 l0_1 x7_2).f0)).f3) = t226
       ·rw [if_pos c56] at H
        have c56b0 : (((rd_T40 l0_0 ((rd_T42 l0_1 x7_2).f0)).f3) == t226) = true := beq_iff_eq.mpr c56
        have c56b1 : (((rd_T40 l0_0 ((rd_T42 l0_1 x7_2).f0)).f3) != t226) = false := bne_eq_false_iff_eq.mpr c56
        clear c56
        have H' := ZM H
        clear H
        have hcz57_0 : wr.cell? ⟨gb217, 0, none⟩ = some (.slice A0_0 l0_0.length c0_0) := (ZG BK217.out 0).trans rfl
        have hcz57_1 : wr.cell? ⟨gb217, 1, none⟩ = some (.slice A0_1 l0_1.length c0_1) := (ZG BK217.out 1).trans rfl
        have hfz57_0 := ZF BK217.out 0
        have hfz57_1 := ZF BK217.out 1
        have p222 : 0 ≤ (x7_2 : Int) := ZOD
        have q222 : x7_2 < (l0_1.length : Int) := ZOD
        obtain ⟨ad222, e222, hx222_0, hx222_1, hx222_2⟩ := at_T42 HR0_1.out x7_2 p222 q222
        cases e222
        replace hx222_0 := (HB.out.cell (ZC w _ hx222_0)).trans hx222_0
        replace hx222_1 := (HB.out.cell (ZC w _ hx222_1)).trans hx222_1
        replace hx222_2 := (HB.out.cell (ZC w _ hx222_2)).trans hx222_2
        replace p222 := eq_true p222
        replace q222 := eq_true q222
        try go_wp2_with (first | ((with_reducible refine gate_dst (N := 8) rfl ?_); refine box_event ?hg (N := 8) ?hd (cs := #[.int .i64 0, .int .i64 0, .int .i64 0]) (t := 42) ?hr ?_; (case hd => rfl); (case hg => rfl); (case hr => first | (go_simp; done) | (go_simp; rfl)); intro gb223 hg w58 hbox hb; have n0_ := ZM (blk_below (g := gb217) (o := .cells #[.slice A0_0 l0_0.length c0_0, .slice (some ad222) l0_1.length c0_1] 27 (0, 0)) (ZBK BK217.out) hb); have n1_ := ZM (ZW (ZBB HB.out) hb); have n2_ := ZM (hbox); have n3_ := ZM ((by rw [hg]; exact (ZV (ZBB HB.out)) : w.heap.size ≤ gb223)); have n4_ := ZM ((by rw [hg]; exact (ZV (ZBB HB.out)) : w.heap.size ≤ gb223)); have n5_ := ZM ((by rw [hg]; exact Nat.ne_of_lt (blk_lt (g := gb217) (o := .cells #[.slice A0_0 l0_0.length c0_0, .slice (some ad222) l0_1.length c0_1] 27 (0, 0)) (ZBK BK217.out)) : gb217 ≠ gb223)); have n6_ := ZM ((by rw [hg]; exact Nat.ne_of_gt (blk_lt (g := gb217) (o := .cells #[.slice A0_0 l0_0.length c0_0, .slice (some ad222) l0_1.length c0_1] 27 (0, 0)) (ZBK BK217.out)) : gb223 ≠ gb217)); clear BK217; clear HB; have BK217 := n0_; have HB := n1_; have BK223 := n2_; have GW223 := n3_; have GE223 := n4_; have NB217_223 := n5_; have NB223_217 := n6_; clear n0_ n1_ n2_ n3_ n4_ n5_ n6_; clear hb hbox hg; have hnb59 := NB223_217.out; have hnc59 := NB217_223.out; have hcz60_0 : w58.cell? ⟨gb223, 0, none⟩ = some (.int .i64 0) := (ZG BK223.out 0).trans rfl; have hcz60_1 : w58.cell? ⟨gb223, 1, none⟩ = some (.int .i64 0) := (ZG BK223.out 1).trans rfl; have hcz60_2 : w58.cell? ⟨gb223, 2, none⟩ = some (.int .i64 0) := (ZG BK223.out 2).trans rfl; have hfz60_0 := ZF BK223.out 0; have hfz60_1 := ZF BK223.out 1; have hfz60_2 := ZF BK223.out 2))
        have n0_ : Aside0 ((((w58.setCell ⟨gb223, 0, none⟩ (.int .i64 ((rd_T42 l0_1 x7_2).f0))).setCell ⟨gb223, 1, none⟩ (.int .i64 ((rd_T42 l0_1 x7_2).f1))).setCell ⟨gb223, 2, none⟩ (.int .i64 ((rd_T42 l0_1 x7_2).f2))).heap[gb217]? = some (.cells #[.slice A0_0 l0_0.length c0_0, .slice (some ad222) l0_1.length c0_1] 27 (0, 0))) := ⟨by (with_reducible repeat (first | refine ZR ?_ _ | refine ZS ?_ | refine ZT ?_ _)); refine blk_far ?_ NB217_223.out _; (with_reducible repeat (first | refine ZR ?_ _ | refine ZS ?_ | refine ZT ?_ _)); refine blk_far ?_ NB217_223.out _; (with_reducible repeat (first | refine ZR ?_ _ | refine ZS ?_ | refine ZT ?_ _)); refine blk_far ?_ NB217_223.out _; (with_reducible repeat (first | refine ZR ?_ _ | refine ZS ?_ | refine ZT ?_ _)); exact BK217.out⟩
        have n1_ : Aside0 ((((w58.setCell ⟨gb223, 0, none⟩ (.int .i64 ((rd_T42 l0_1 x7_2).f0))).setCell ⟨gb223, 1, none⟩ (.int .i64 ((rd_T42 l0_1 x7_2).f1))).setCell ⟨gb223, 2, none⟩ (.int .i64 ((rd_T42 l0_1 x7_2).f2))).heap[gb223]? = some (.cells #[.int .i64 ((rd_T42 l0_1 x7_2).f0), .int .i64 ((rd_T42 l0_1 x7_2).f1), .int .i64 ((rd_T42 l0_1 x7_2).f2)] 42 (0, 0))) := ⟨by (with_reducible repeat (first | refine ZR ?_ _ | refine ZS ?_ | refine ZT ?_ _)); refine blk_put (cs := #[.int .i64 ((rd_T42 l0_1 x7_2).f0), .int .i64 ((rd_T42 l0_1 x7_2).f1), .int .i64 0]) ?_ 2 _ rfl; (with_reducible repeat (first | refine ZR ?_ _ | refine ZS ?_ | refine ZT ?_ _)); refine blk_put (cs := #[.int .i64 ((rd_T42 l0_1 x7_2).f0), .int .i64 0, .int .i64 0]) ?_ 1 _ rfl; (with_reducible repeat (first | refine ZR ?_ _ | refine ZS ?_ | refine ZT ?_ _)); refine blk_put (cs := #[.int .i64 0, .int .i64 0, .int .i64 0]) ?_ 0 _ rfl; (with_reducible repeat (first | refine ZR ?_ _ | refine ZS ?_ | refine ZT ?_ _)); exact BK223.out⟩
        have n2_ : Aside0 (Below w.heap.size w (((w58.setCell ⟨gb223, 0, none⟩ (.int .i64 ((rd_T42 l0_1 x7_2).f0))).setCell ⟨gb223, 1, none⟩ (.int .i64 ((rd_T42 l0_1 x7_2).f1))).setCell ⟨gb223, 2, none⟩ (.int .i64 ((rd_T42 l0_1 x7_2).f2)))) := ⟨ZBB HB.out⟩
        (try clear BK217)
        (try clear BK223)
        (try clear HB)
        generalize (((w58.setCell ⟨gb223, 0, none⟩ (.int .i64 ((rd_T42 l0_1 x7_2).f0))).setCell ⟨gb223, 1, none⟩ (.int .i64 ((rd_T42 l0_1 x7_2).f1))).setCell ⟨gb223, 2, none⟩ (.int .i64 ((rd_T42 l0_1 x7_2).f2))) = w61 at n0_ n1_ n2_ ⊢
        have BK217 := n0_
        have BK223 := n1_
        have HB := n2_
        clear n0_ n1_ n2_
        have n0_ := ZM (ZS BK217.out)
        have n1_ := ZM (ZS BK223.out)
        have n2_ := ZM (ZP HB.out)
        clear BK217
        clear BK223
        clear HB
        have BK217 := n0_
        have BK223 := n1_
        have HB := n2_
        clear n0_ n1_ n2_
        have p224 : 0 ≤ (((rd_T42 l0_1 x7_2).f0) : Int) := ZOD
        have q224 : ((rd_T42 l0_1 x7_2).f0) < (l0_0.length : Int) := ZOD
        obtain ⟨ad224, e224, hx224_0, hx224_1, hx224_2, hx224_3⟩ := at_T40 HR0_0.out ((rd_T42 l0_1 x7_2).f0) p224 q224
        have hw224_3 := hx224_3
        have hw224_2 := hx224_2
        have hw224_1 := hx224_1
        have hw224_0 := hx224_0
        cases e224
        replace hx224_0 := (HB.out.cell (ZC w _ hx224_0)).trans hx224_0
        replace hx224_1 := (HB.out.cell (ZC w _ hx224_1)).trans hx224_1
        replace hx224_2 := (HB.out.cell (ZC w _ hx224_2)).trans hx224_2
        replace hx224_3 := (HB.out.cell (ZC w _ hx224_3)).trans hx224_3
        replace p224 := eq_true p224
        replace q224 := eq_true q224
        have p225 : 0 ≤ (((rd_T42 l0_1 x7_2).f1) : Int) := ZOD
        have q225 : ((rd_T42 l0_1 x7_2).f1) < (l0_0.length : Int) := ZOD
        obtain ⟨ad225, e225, hx225_0, hx225_1, hx225_2, hx225_3⟩ := at_T40 HR0_0.out ((rd_T42 l0_1 x7_2).f1) p225 q225
        have hw225_3 := hx225_3
        have hw225_2 := hx225_2
        have hw225_1 := hx225_1
        have hw225_0 := hx225_0
        obtain rfl : ad224 = ad225 := (by injection e225)
        replace hx225_0 := (HB.out.cell (ZC w _ hx225_0)).trans hx225_0
        replace hx225_1 := (HB.out.cell (ZC w _ hx225_1)).trans hx225_1
        replace hx225_2 := (HB.out.cell (ZC w _ hx225_2)).trans hx225_2
        replace hx225_3 := (HB.out.cell (ZC w _ hx225_3)).trans hx225_3
        replace p225 := eq_true p225
        replace q225 := eq_true q225
        refine start_ (n := 15) (S := fun w' => w'.cell? ⟨gb217, 0, none⟩ = some (.slice (some ad224) l0_0.length c0_0) ∧ w'.cell? ⟨gb217, 1, none⟩ = some (.slice (some ad222) l0_1.length c0_1) ∧ w'.cell? ⟨gb223, 0, none⟩ = some (.int .i64 ((rd_T42 l0_1 x7_2).f0)) ∧ w'.cell? ⟨gb223, 1, none⟩ = some (.int .i64 ((rd_T42 l0_1 x7_2).f1)) ∧ w'.cell? ⟨gb223, 2, none⟩ = some (.int .i64 ((rd_T42 l0_1 x7_2).f2)) ∧ w'.cell? (ad224.add ((((rd_T42 l0_1 x7_2).f0)).toNat * 4)) = some (.int .i64 ((rd_T40 l0_0 ((rd_T42 l0_1 x7_2).f0)).f0)) ∧ w'.cell? ⟨(ad224.add ((((rd_T42 l0_1 x7_2).f0)).toNat * 4)).block, (ad224.add ((((rd_T42 l0_1 x7_2).f0)).toNat * 4)).off + 1, none⟩ = some (.int .i64 ((rd_T40 l0_0 ((rd_T42 l0_1 x7_2).f0)).f1)) ∧ w'.cell? ⟨(ad224.add ((((rd_T42 l0_1 x7_2).f0)).toNat * 4)).block, (ad224.add ((((rd_T42 l0_1 x7_2).f0)).toNat * 4)).off + 2, none⟩ = some (.int .i64 ((rd_T40 l0_0 ((rd_T42 l0_1 x7_2).f0)).f2)) ∧ w'.cell? ⟨(ad224.add ((((rd_T42 l0_1 x7_2).f0)).toNat * 4)).block, (ad224.add ((((rd_T42 l0_1 x7_2).f0)).toNat * 4)).off + 3, none⟩ = some (.int .i64 ((rd_T40 l0_0 ((rd_T42 l0_1 x7_2).f0)).f3)) ∧ w'.cell? (ad224.add ((((rd_T42 l0_1 x7_2).f1)).toNat * 4)) = some (.int .i64 ((rd_T40 l0_0 ((rd_T42 l0_1 x7_2).f1)).f0)) ∧ w'.cell? ⟨(ad224.add ((((rd_T42 l0_1 x7_2).f1)).toNat * 4)).block, (ad224.add ((((rd_T42 l0_1 x7_2).f1)).toNat * 4)).off + 1, none⟩ = some (.int .i64 ((rd_T40 l0_0 ((rd_T42 l0_1 x7_2).f1)).f1)) ∧ w'.cell? ⟨(ad224.add ((((rd_T42 l0_1 x7_2).f1)).toNat * 4)).block, (ad224.add ((((rd_T42 l0_1 x7_2).f1)).toNat * 4)).off + 2, none⟩ = some (.int .i64 ((rd_T40 l0_0 ((rd_T42 l0_1 x7_2).f1)).f2)) ∧ w'.cell? ⟨(ad224.add ((((rd_T42 l0_1 x7_2).f1)).toNat * 4)).block, (ad224.add ((((rd_T42 l0_1 x7_2).f1)).toNat * 4)).off + 3, none⟩ = some (.int .i64 ((rd_T40 l0_0 ((rd_T42 l0_1 x7_2).f1)).f3))) (ds := []) #[false, false, false, false, false, false, false, false, false, false, false, false, false, false, false] (by kernel_rfl) rfl rfl ⟨(ZG BK217.out 0).trans rfl, (ZG BK217.out 1).trans rfl, (ZG BK223.out 0).trans rfl, (ZG BK223.out 1).trans rfl, (ZG BK223.out 2).trans rfl, ((HB.out.cell (ZC w _ hw224_0)).trans hw224_0), ((HB.out.cell (ZC w _ hw224_1)).trans hw224_1), ((HB.out.cell (ZC w _ hw224_2)).trans hw224_2), ((HB.out.cell (ZC w _ hw224_3)).trans hw224_3), ((HB.out.cell (ZC w _ hw225_0)).trans hw225_0), ((HB.out.cell (ZC w _ hw225_1)).trans hw225_1), ((HB.out.cell (ZC w _ hw225_2)).trans hw225_2), ((HB.out.cell (ZC w _ hw225_3)).trans hw225_3)⟩ (fun hHeld => ?_); refine with_tabW meanderref09_edges.tab13 meanderref09_edges.bits13 (fun HT_ HW_ => ?_)
        generalize w61.drew = w62 at BK217 BK223 HB hx224_0 hx224_1 hx224_2 hx224_3 hx225_0 hx225_1 hx225_2 hx225_3 hHeld ⊢
        refine pure_ (i := 0) (N := some 56) (v := ?_) (a' := ?_) (ZB 15 1) rfl rfl (any_of HT_.out (by kernel_rfl)) (fun _ _ _ h => h) (Or.inl ⟨by rfl, ?_⟩) ?_ ?_
        rotate_left
        ·intro w'; go_simp; with_reducible rfl
        rotate_left
        ·simp only [Act.put, ZI, ZJ, ZK, i64_w, i32_w]; rfl
        refine pure_ (i := 2) (N := some 58) (v := ?_) (a' := ?_) (ZB 15 5) rfl rfl (any_of HT_.out (by kernel_rfl)) (fun _ _ _ h => h) (Or.inl ⟨by rfl, ?_⟩) ?_ ?_
        rotate_left
        ·intro w'; go_simp; with_reducible rfl
        rotate_left
        ·simp only [Act.put, ZI, ZJ, ZK, i64_w, i32_w]; rfl
        refine pure_ (i := 7) (N := some 63) (v := ?_) (a' := ?_) (ZB 15 133) rfl rfl (any_of HT_.out (by kernel_rfl)) (fun _ _ _ h => h) (Or.inl ⟨by rfl, ?_⟩) ?_ ?_
        rotate_left
        ·intro w'; go_simp; with_reducible rfl
        rotate_left
        ·simp only [Act.put, ZI, ZJ, ZK, i64_w, i32_w]; rfl
        refine pure_ (i := 9) (N := some 65) (v := ?_) (a' := ?_) (ZB 15 645) rfl rfl (any_of HT_.out (by kernel_rfl)) (fun _ _ _ h => h) (Or.inl ⟨by rfl, ?_⟩) ?_ ?_
        rotate_left
        ·intro w'; go_simp; with_reducible rfl
        rotate_left
        ·simp only [Act.put, ZI, ZJ, ZK, i64_w, i32_w]; rfl
        refine take_ (i := 1) (N := some 57) (v := ?_) (a' := ?_) (ZB 15 647) rfl rfl (take_ofW HT_.out HW_.out (by kernel_rfl)) (fun _ _ _ h => h) (Or.inl ⟨by rfl, ?_⟩) hHeld ?_ ?_
        rotate_left
        ·rintro w' ⟨s0, s1, s2, s3, s4, s5, s6, s7, s8, s9, s10, s11, s12⟩
         go_simp
         with_reducible rfl
        rotate_left
        ·simp only [Act.put, ZI, ZJ, ZK, i64_w, i32_w]; rfl
        refine take_ (i := 3) (N := some 59) (v := ?_) (a' := ?_) (ZB 15 655) rfl rfl (take_ofW HT_.out HW_.out (by kernel_rfl)) (fun _ _ _ h => h) (Or.inl ⟨by rfl, ?_⟩) hHeld ?_ ?_
        rotate_left
        ·rintro w' ⟨s0, s1, s2, s3, s4, s5, s6, s7, s8, s9, s10, s11, s12⟩
         go_simp
         with_reducible rfl
        rotate_left
        ·simp only [Act.put, ZI, ZJ, ZK, i64_w, i32_w]; rfl
        refine pure_ (i := 4) (N := some 60) (v := ?_) (a' := ?_) (ZB 15 671) rfl rfl (any_of HT_.out (by kernel_rfl)) (fun _ _ _ h => h) (Or.inl ⟨by rfl, ?_⟩) ?_ ?_
        rotate_left
        ·intro w'; go_simp; with_reducible rfl
        rotate_left
        ·simp only [Act.put, ZI, ZJ, ZK, i64_w, i32_w]; rfl
        refine pure_ (i := 5) (N := some 61) (v := ?_) (a' := ?_) (ZB 15 703) rfl rfl (any_of HT_.out (by kernel_rfl)) (fun _ _ _ h => h) (Or.inl ⟨by rfl, ?_⟩) ?_ ?_
        rotate_left
        ·intro w'; go_simp; with_reducible rfl
        rotate_left
        ·simp only [Act.put, ZI, ZJ, ZK, i64_w, i32_w]; rfl
        refine take_ (i := 6) (N := some 62) (v := ?_) (a' := ?_) (ZB 15 767) rfl rfl (take_ofW HT_.out HW_.out (by kernel_rfl)) (fun _ _ _ h => h) (Or.inl ⟨by rfl, ?_⟩) hHeld ?_ ?_
        rotate_left
        ·rintro w' ⟨s0, s1, s2, s3, s4, s5, s6, s7, s8, s9, s10, s11, s12⟩
         go_simp
         with_reducible rfl
        rotate_left
        ·simp only [Act.put, ZI, ZJ, ZK, i64_w, i32_w]; rfl
        refine take_ (i := 8) (N := some 64) (v := ?_) (a' := ?_) (ZB 15 1023) rfl rfl (take_ofW HT_.out HW_.out (by kernel_rfl)) (fun _ _ _ h => h) (Or.inl ⟨by rfl, ?_⟩) hHeld ?_ ?_
        rotate_left
        ·rintro w' ⟨s0, s1, s2, s3, s4, s5, s6, s7, s8, s9, s10, s11, s12⟩
         go_simp
         with_reducible rfl
        rotate_left
        ·simp only [Act.put, ZI, ZJ, ZK, i64_w, i32_w]; rfl
        refine take_ (i := 10) (N := some 66) (v := ?_) (a' := ?_) (ZB 15 2047) rfl rfl (take_ofW HT_.out HW_.out (by kernel_rfl)) (fun _ _ _ h => h) (Or.inl ⟨by rfl, ?_⟩) hHeld ?_ ?_
        rotate_left
        ·rintro w' ⟨s0, s1, s2, s3, s4, s5, s6, s7, s8, s9, s10, s11, s12⟩
         go_simp
         with_reducible rfl
        rotate_left
        ·simp only [Act.put, ZI, ZJ, ZK, i64_w, i32_w]; rfl
        refine pure_ (i := 11) (N := some 67) (v := ?_) (a' := ?_) (ZB 15 4095) rfl rfl (any_of HT_.out (by kernel_rfl)) (fun _ _ _ h => h) (Or.inl ⟨by rfl, ?_⟩) ?_ ?_
        rotate_left
        ·intro w'; go_simp; with_reducible rfl
        rotate_left
        ·simp only [Act.put, ZI, ZJ, ZK, i64_w, i32_w]; rfl
        refine take_ (i := 12) (N := some 68) (v := ?_) (a' := ?_) (ZB 15 8191) rfl rfl (take_ofW HT_.out HW_.out (by kernel_rfl)) (fun _ _ _ h => h) (Or.inl ⟨by rfl, ?_⟩) hHeld ?_ ?_
        rotate_left
        ·rintro w' ⟨s0, s1, s2, s3, s4, s5, s6, s7, s8, s9, s10, s11, s12⟩
         go_simp
         with_reducible rfl
        rotate_left
        ·simp only [Act.put, ZI, ZJ, ZK, i64_w, i32_w]; rfl
        refine one_ (i := 13) (N := some 69) (ZB 15 16383) rfl rfl (one_of HT_.out (by kernel_rfl)) (by decide) (fun K hK => ?_)
        refine goes_ Tryd.func45 (by kernel_rfl) rfl #[.agg #[.int .i64 ((rd_T40 l0_0 ((rd_T42 l0_1 x7_2).f1)).f0), .int .i64 ((rd_T40 l0_0 ((rd_T42 l0_1 x7_2).f1)).f1), .int .i64 ((rd_T40 l0_0 ((rd_T42 l0_1 x7_2).f1)).f2), .int .i64 ((rd_T40 l0_0 ((rd_T42 l0_1 x7_2).f1)).f3)]] (by rfl) rfl rfl ZH ?_
        with_reducible refine (meanderref08_InDepth.calls ((rd_T40 l0_0 ((rd_T42 l0_1 x7_2).f1)).f0) ((rd_T40 l0_0 ((rd_T42 l0_1 x7_2).f1)).f1) ((rd_T40 l0_0 ((rd_T42 l0_1 x7_2).f1)).f2) ((rd_T40 l0_0 ((rd_T42 l0_1 x7_2).f1)).f3) t226 _ A55.out).mono ?_
        rintro e w63 ⟨rfl, hb⟩
        refine ⟨_, rfl, ?_⟩
        have n0_ := ZM (blk_below (g := gb217) (o := .cells #[.slice (some ad224) l0_0.length c0_0, .slice (some ad222) l0_1.length c0_1] 27 (0, 0)) (ZBK BK217.out) hb)
        have n1_ := ZM (blk_below (g := gb223) (o := .cells #[.int .i64 ((rd_T42 l0_1 x7_2).f0), .int .i64 ((rd_T42 l0_1 x7_2).f1), .int .i64 ((rd_T42 l0_1 x7_2).f2)] 42 (0, 0)) (ZBK BK223.out) hb)
        have n2_ := ZM (ZW (ZBB HB.out) hb)
        clear BK217
        clear BK223
        clear HB
        have BK217 := n0_
        have BK223 := n1_
        have HB := n2_
        clear n0_ n1_ n2_
        (try clear hb)
        (try clear hb2)
        (try clear hk)
        (try clear hi)
        refine hK.out _ _ ⟨(ZG BK217.out 0).trans rfl, (ZG BK217.out 1).trans rfl, (ZG BK223.out 0).trans rfl, (ZG BK223.out 1).trans rfl, (ZG BK223.out 2).trans rfl, ((HB.out.cell (ZC w _ hw224_0)).trans hw224_0), ((HB.out.cell (ZC w _ hw224_1)).trans hw224_1), ((HB.out.cell (ZC w _ hw224_2)).trans hw224_2), ((HB.out.cell (ZC w _ hw224_3)).trans hw224_3), ((HB.out.cell (ZC w _ hw225_0)).trans hw225_0), ((HB.out.cell (ZC w _ hw225_1)).trans hw225_1), ((HB.out.cell (ZC w _ hw225_2)).trans hw225_2), ((HB.out.cell (ZC w _ hw225_3)).trans hw225_3)⟩ (fun hHeld => ?_)
        clear hK K
        refine norm_ (a' := ?_) ?_ ?_
        rotate_left
        ·show Act.put _ (some 69) _ = _
         simp only [Act.put, ZI, ZJ, ZK, i64_w, i32_w]
         rfl
        refine pure_ (i := 14) (N := some 70) (v := ?_) (a' := ?_) (ZB 15 32767) rfl rfl (any_of HT_.out (by kernel_rfl)) (fun _ _ _ h => h) (Or.inl ⟨by rfl, ?_⟩) ?_ ?_
        rotate_left
        ·intro w'; go_simp; with_reducible rfl
        rotate_left
        ·simp only [Act.put, ZI, ZJ, ZK, i64_w, i32_w]; rfl
        refine done_ (done_of HT_.out (by kernel_rfl)) ?_
        try go_wp2
        go_roundg k2
        case measure => have := HK1.out; have := HK2.out; omega
        case rel => exact ⟨(wrap64 (x7_2 + 1)), (by first | rfl | (simp; done) | (simp [*]; done)), H', ⟨by have := HK1.out; have := HK2.out; omega⟩, ⟨ZBK BK217.out⟩, ⟨ZBB HB.out⟩⟩
       ·rw [if_neg c56] at H
        have c56b0 : (((rd_T40 l0_0 ((rd_T42 l0_1 x7_2).f0)).f3) == t226) = false := beq_eq_false_iff_ne.mpr c56
        have c56b1 : (((rd_T40 l0_0 ((rd_T42 l0_1 x7_2).f0)).f3) != t226) = true := bne_iff_ne.mpr c56
        obtain rfl := Option.some.inj H
        have hcz64_0 : wr.cell? ⟨gb217, 0, none⟩ = some (.slice A0_0 l0_0.length c0_0) := (ZG BK217.out 0).trans rfl
        have hcz64_1 : wr.cell? ⟨gb217, 1, none⟩ = some (.slice A0_1 l0_1.length c0_1) := (ZG BK217.out 1).trans rfl
        have hfz64_0 := ZF BK217.out 0
        have hfz64_1 := ZF BK217.out 1
        have p222 : 0 ≤ (x7_2 : Int) := ZOD
        have q222 : x7_2 < (l0_1.length : Int) := ZOD
        obtain ⟨ad222, e222, hx222_0, hx222_1, hx222_2⟩ := at_T42 HR0_1.out x7_2 p222 q222
        cases e222
        replace hx222_0 := (HB.out.cell (ZC w _ hx222_0)).trans hx222_0
        replace hx222_1 := (HB.out.cell (ZC w _ hx222_1)).trans hx222_1
        replace hx222_2 := (HB.out.cell (ZC w _ hx222_2)).trans hx222_2
        replace p222 := eq_true p222
        replace q222 := eq_true q222
        try go_wp2_with (first | ((with_reducible refine gate_dst (N := 8) rfl ?_); refine box_event ?hg (N := 8) ?hd (cs := #[.int .i64 0, .int .i64 0, .int .i64 0]) (t := 42) ?hr ?_; (case hd => rfl); (case hg => rfl); (case hr => first | (go_simp; done) | (go_simp; rfl)); intro gb223 hg w65 hbox hb; have n0_ := ZM (blk_below (g := gb217) (o := .cells #[.slice A0_0 l0_0.length c0_0, .slice (some ad222) l0_1.length c0_1] 27 (0, 0)) (ZBK BK217.out) hb); have n1_ := ZM (ZW (ZBB HB.out) hb); have n2_ := ZM (hbox); have n3_ := ZM ((by rw [hg]; exact (ZV (ZBB HB.out)) : w.heap.size ≤ gb223)); have n4_ := ZM ((by rw [hg]; exact (ZV (ZBB HB.out)) : w.heap.size ≤ gb223)); have n5_ := ZM ((by rw [hg]; exact Nat.ne_of_lt (blk_lt (g := gb217) (o := .cells #[.slice A0_0 l0_0.length c0_0, .slice (some ad222) l0_1.length c0_1] 27 (0, 0)) (ZBK BK217.out)) : gb217 ≠ gb223)); have n6_ := ZM ((by rw [hg]; exact Nat.ne_of_gt (blk_lt (g := gb217) (o := .cells #[.slice A0_0 l0_0.length c0_0, .slice (some ad222) l0_1.length c0_1] 27 (0, 0)) (ZBK BK217.out)) : gb223 ≠ gb217)); clear BK217; clear HB; have BK217 := n0_; have HB := n1_; have BK223 := n2_; have GW223 := n3_; have GE223 := n4_; have NB217_223 := n5_; have NB223_217 := n6_; clear n0_ n1_ n2_ n3_ n4_ n5_ n6_; clear hb hbox hg; have hnb66 := NB223_217.out; have hnc66 := NB217_223.out; have hcz67_0 : w65.cell? ⟨gb223, 0, none⟩ = some (.int .i64 0) := (ZG BK223.out 0).trans rfl; have hcz67_1 : w65.cell? ⟨gb223, 1, none⟩ = some (.int .i64 0) := (ZG BK223.out 1).trans rfl; have hcz67_2 : w65.cell? ⟨gb223, 2, none⟩ = some (.int .i64 0) := (ZG BK223.out 2).trans rfl; have hfz67_0 := ZF BK223.out 0; have hfz67_1 := ZF BK223.out 1; have hfz67_2 := ZF BK223.out 2))
        have n0_ : Aside0 ((((w65.setCell ⟨gb223, 0, none⟩ (.int .i64 ((rd_T42 l0_1 x7_2).f0))).setCell ⟨gb223, 1, none⟩ (.int .i64 ((rd_T42 l0_1 x7_2).f1))).setCell ⟨gb223, 2, none⟩ (.int .i64 ((rd_T42 l0_1 x7_2).f2))).heap[gb217]? = some (.cells #[.slice A0_0 l0_0.length c0_0, .slice (some ad222) l0_1.length c0_1] 27 (0, 0))) := ⟨by (with_reducible repeat (first | refine ZR ?_ _ | refine ZS ?_ | refine ZT ?_ _)); refine blk_far ?_ NB217_223.out _; (with_reducible repeat (first | refine ZR ?_ _ | refine ZS ?_ | refine ZT ?_ _)); refine blk_far ?_ NB217_223.out _; (with_reducible repeat (first | refine ZR ?_ _ | refine ZS ?_ | refine ZT ?_ _)); refine blk_far ?_ NB217_223.out _; (with_reducible repeat (first | refine ZR ?_ _ | refine ZS ?_ | refine ZT ?_ _)); exact BK217.out⟩
        have n1_ : Aside0 ((((w65.setCell ⟨gb223, 0, none⟩ (.int .i64 ((rd_T42 l0_1 x7_2).f0))).setCell ⟨gb223, 1, none⟩ (.int .i64 ((rd_T42 l0_1 x7_2).f1))).setCell ⟨gb223, 2, none⟩ (.int .i64 ((rd_T42 l0_1 x7_2).f2))).heap[gb223]? = some (.cells #[.int .i64 ((rd_T42 l0_1 x7_2).f0), .int .i64 ((rd_T42 l0_1 x7_2).f1), .int .i64 ((rd_T42 l0_1 x7_2).f2)] 42 (0, 0))) := ⟨by (with_reducible repeat (first | refine ZR ?_ _ | refine ZS ?_ | refine ZT ?_ _)); refine blk_put (cs := #[.int .i64 ((rd_T42 l0_1 x7_2).f0), .int .i64 ((rd_T42 l0_1 x7_2).f1), .int .i64 0]) ?_ 2 _ rfl; (with_reducible repeat (first | refine ZR ?_ _ | refine ZS ?_ | refine ZT ?_ _)); refine blk_put (cs := #[.int .i64 ((rd_T42 l0_1 x7_2).f0), .int .i64 0, .int .i64 0]) ?_ 1 _ rfl; (with_reducible repeat (first | refine ZR ?_ _ | refine ZS ?_ | refine ZT ?_ _)); refine blk_put (cs := #[.int .i64 0, .int .i64 0, .int .i64 0]) ?_ 0 _ rfl; (with_reducible repeat (first | refine ZR ?_ _ | refine ZS ?_ | refine ZT ?_ _)); exact BK223.out⟩
        have n2_ : Aside0 (Below w.heap.size w (((w65.setCell ⟨gb223, 0, none⟩ (.int .i64 ((rd_T42 l0_1 x7_2).f0))).setCell ⟨gb223, 1, none⟩ (.int .i64 ((rd_T42 l0_1 x7_2).f1))).setCell ⟨gb223, 2, none⟩ (.int .i64 ((rd_T42 l0_1 x7_2).f2)))) := ⟨ZBB HB.out⟩
        (try clear BK217)
        (try clear BK223)
        (try clear HB)
        generalize (((w65.setCell ⟨gb223, 0, none⟩ (.int .i64 ((rd_T42 l0_1 x7_2).f0))).setCell ⟨gb223, 1, none⟩ (.int .i64 ((rd_T42 l0_1 x7_2).f1))).setCell ⟨gb223, 2, none⟩ (.int .i64 ((rd_T42 l0_1 x7_2).f2))) = w68 at n0_ n1_ n2_ ⊢
        have BK217 := n0_
        have BK223 := n1_
        have HB := n2_
        clear n0_ n1_ n2_
        have n0_ := ZM (ZS BK217.out)
        have n1_ := ZM (ZS BK223.out)
        have n2_ := ZM (ZP HB.out)
        clear BK217
        clear BK223
        clear HB
        have BK217 := n0_
        have BK223 := n1_
        have HB := n2_
        clear n0_ n1_ n2_
        have p224 : 0 ≤ (((rd_T42 l0_1 x7_2).f0) : Int) := ZOD
        have q224 : ((rd_T42 l0_1 x7_2).f0) < (l0_0.length : Int) := ZOD
        obtain ⟨ad224, e224, hx224_0, hx224_1, hx224_2, hx224_3⟩ := at_T40 HR0_0.out ((rd_T42 l0_1 x7_2).f0) p224 q224
        have hw224_3 := hx224_3
        have hw224_2 := hx224_2
        have hw224_1 := hx224_1
        have hw224_0 := hx224_0
        cases e224
        replace hx224_0 := (HB.out.cell (ZC w _ hx224_0)).trans hx224_0
        replace hx224_1 := (HB.out.cell (ZC w _ hx224_1)).trans hx224_1
        replace hx224_2 := (HB.out.cell (ZC w _ hx224_2)).trans hx224_2
        replace hx224_3 := (HB.out.cell (ZC w _ hx224_3)).trans hx224_3
        replace p224 := eq_true p224
        replace q224 := eq_true q224
        have p225 : 0 ≤ (((rd_T42 l0_1 x7_2).f1) : Int) := ZOD
        have q225 : ((rd_T42 l0_1 x7_2).f1) < (l0_0.length : Int) := ZOD
        obtain ⟨ad225, e225, hx225_0, hx225_1, hx225_2, hx225_3⟩ := at_T40 HR0_0.out ((rd_T42 l0_1 x7_2).f1) p225 q225
        have hw225_3 := hx225_3
        have hw225_2 := hx225_2
        have hw225_1 := hx225_1
        have hw225_0 := hx225_0
        obtain rfl : ad224 = ad225 := (by injection e225)
        replace hx225_0 := (HB.out.cell (ZC w _ hx225_0)).trans hx225_0
        replace hx225_1 := (HB.out.cell (ZC w _ hx225_1)).trans hx225_1
        replace hx225_2 := (HB.out.cell (ZC w _ hx225_2)).trans hx225_2
        replace hx225_3 := (HB.out.cell (ZC w _ hx225_3)).trans hx225_3
        replace p225 := eq_true p225
        replace q225 := eq_true q225
        refine start_ (n := 15) (S := fun w' => w'.cell? ⟨gb217, 0, none⟩ = some (.slice (some ad224) l0_0.length c0_0) ∧ w'.cell? ⟨gb217, 1, none⟩ = some (.slice (some ad222) l0_1.length c0_1) ∧ w'.cell? ⟨gb223, 0, none⟩ = some (.int .i64 ((rd_T42 l0_1 x7_2).f0)) ∧ w'.cell? ⟨gb223, 1, none⟩ = some (.int .i64 ((rd_T42 l0_1 x7_2).f1)) ∧ w'.cell? ⟨gb223, 2, none⟩ = some (.int .i64 ((rd_T42 l0_1 x7_2).f2)) ∧ w'.cell? (ad224.add ((((rd_T42 l0_1 x7_2).f0)).toNat * 4)) = some (.int .i64 ((rd_T40 l0_0 ((rd_T42 l0_1 x7_2).f0)).f0)) ∧ w'.cell? ⟨(ad224.add ((((rd_T42 l0_1 x7_2).f0)).toNat * 4)).block, (ad224.add ((((rd_T42 l0_1 x7_2).f0)).toNat * 4)).off + 1, none⟩ = some (.int .i64 ((rd_T40 l0_0 ((rd_T42 l0_1 x7_2).f0)).f1)) ∧ w'.cell? ⟨(ad224.add ((((rd_T42 l0_1 x7_2).f0)).toNat * 4)).block, (ad224.add ((((rd_T42 l0_1 x7_2).f0)).toNat * 4)).off + 2, none⟩ = some (.int .i64 ((rd_T40 l0_0 ((rd_T42 l0_1 x7_2).f0)).f2)) ∧ w'.cell? ⟨(ad224.add ((((rd_T42 l0_1 x7_2).f0)).toNat * 4)).block, (ad224.add ((((rd_T42 l0_1 x7_2).f0)).toNat * 4)).off + 3, none⟩ = some (.int .i64 ((rd_T40 l0_0 ((rd_T42 l0_1 x7_2).f0)).f3)) ∧ w'.cell? (ad224.add ((((rd_T42 l0_1 x7_2).f1)).toNat * 4)) = some (.int .i64 ((rd_T40 l0_0 ((rd_T42 l0_1 x7_2).f1)).f0)) ∧ w'.cell? ⟨(ad224.add ((((rd_T42 l0_1 x7_2).f1)).toNat * 4)).block, (ad224.add ((((rd_T42 l0_1 x7_2).f1)).toNat * 4)).off + 1, none⟩ = some (.int .i64 ((rd_T40 l0_0 ((rd_T42 l0_1 x7_2).f1)).f1)) ∧ w'.cell? ⟨(ad224.add ((((rd_T42 l0_1 x7_2).f1)).toNat * 4)).block, (ad224.add ((((rd_T42 l0_1 x7_2).f1)).toNat * 4)).off + 2, none⟩ = some (.int .i64 ((rd_T40 l0_0 ((rd_T42 l0_1 x7_2).f1)).f2)) ∧ w'.cell? ⟨(ad224.add ((((rd_T42 l0_1 x7_2).f1)).toNat * 4)).block, (ad224.add ((((rd_T42 l0_1 x7_2).f1)).toNat * 4)).off + 3, none⟩ = some (.int .i64 ((rd_T40 l0_0 ((rd_T42 l0_1 x7_2).f1)).f3))) (ds := []) #[false, false, false, false, false, false, false, false, false, false, false, false, false, false, false] (by kernel_rfl) rfl rfl ⟨(ZG BK217.out 0).trans rfl, (ZG BK217.out 1).trans rfl, (ZG BK223.out 0).trans rfl, (ZG BK223.out 1).trans rfl, (ZG BK223.out 2).trans rfl, ((HB.out.cell (ZC w _ hw224_0)).trans hw224_0), ((HB.out.cell (ZC w _ hw224_1)).trans hw224_1), ((HB.out.cell (ZC w _ hw224_2)).trans hw224_2), ((HB.out.cell (ZC w _ hw224_3)).trans hw224_3), ((HB.out.cell (ZC w _ hw225_0)).trans hw225_0), ((HB.out.cell (ZC w _ hw225_1)).trans hw225_1), ((HB.out.cell (ZC w _ hw225_2)).trans hw225_2), ((HB.out.cell (ZC w _ hw225_3)).trans hw225_3)⟩ (fun hHeld => ?_); refine with_tabW meanderref09_edges.tab13 meanderref09_edges.bits13 (fun HT_ HW_ => ?_)
        generalize w68.drew = w69 at BK217 BK223 HB hx224_0 hx224_1 hx224_2 hx224_3 hx225_0 hx225_1 hx225_2 hx225_3 hHeld ⊢
        refine pure_ (i := 0) (N := some 56) (v := ?_) (a' := ?_) (ZB 15 1) rfl rfl (any_of HT_.out (by kernel_rfl)) (fun _ _ _ h => h) (Or.inl ⟨by rfl, ?_⟩) ?_ ?_
        rotate_left
        ·intro w'; go_simp; with_reducible rfl
        rotate_left
        ·simp only [Act.put, ZI, ZJ, ZK, i64_w, i32_w]; rfl
        refine pure_ (i := 2) (N := some 58) (v := ?_) (a' := ?_) (ZB 15 5) rfl rfl (any_of HT_.out (by kernel_rfl)) (fun _ _ _ h => h) (Or.inl ⟨by rfl, ?_⟩) ?_ ?_
        rotate_left
        ·intro w'; go_simp; with_reducible rfl
        rotate_left
        ·simp only [Act.put, ZI, ZJ, ZK, i64_w, i32_w]; rfl
        refine pure_ (i := 7) (N := some 63) (v := ?_) (a' := ?_) (ZB 15 133) rfl rfl (any_of HT_.out (by kernel_rfl)) (fun _ _ _ h => h) (Or.inl ⟨by rfl, ?_⟩) ?_ ?_
        rotate_left
        ·intro w'; go_simp; with_reducible rfl
        rotate_left
        ·simp only [Act.put, ZI, ZJ, ZK, i64_w, i32_w]; rfl
        refine pure_ (i := 9) (N := some 65) (v := ?_) (a' := ?_) (ZB 15 645) rfl rfl (any_of HT_.out (by kernel_rfl)) (fun _ _ _ h => h) (Or.inl ⟨by rfl, ?_⟩) ?_ ?_
        rotate_left
        ·intro w'; go_simp; with_reducible rfl
        rotate_left
        ·simp only [Act.put, ZI, ZJ, ZK, i64_w, i32_w]; rfl
        refine take_ (i := 1) (N := some 57) (v := ?_) (a' := ?_) (ZB 15 647) rfl rfl (take_ofW HT_.out HW_.out (by kernel_rfl)) (fun _ _ _ h => h) (Or.inl ⟨by rfl, ?_⟩) hHeld ?_ ?_
        rotate_left
        ·rintro w' ⟨s0, s1, s2, s3, s4, s5, s6, s7, s8, s9, s10, s11, s12⟩
         go_simp
         with_reducible rfl
        rotate_left
        ·simp only [Act.put, ZI, ZJ, ZK, i64_w, i32_w]; rfl
        refine take_ (i := 3) (N := some 59) (v := ?_) (a' := ?_) (ZB 15 655) rfl rfl (take_ofW HT_.out HW_.out (by kernel_rfl)) (fun _ _ _ h => h) (Or.inl ⟨by rfl, ?_⟩) hHeld ?_ ?_
        rotate_left
        ·rintro w' ⟨s0, s1, s2, s3, s4, s5, s6, s7, s8, s9, s10, s11, s12⟩
         go_simp
         with_reducible rfl
        rotate_left
        ·simp only [Act.put, ZI, ZJ, ZK, i64_w, i32_w]; rfl
        refine pure_ (i := 4) (N := some 60) (v := ?_) (a' := ?_) (ZB 15 671) rfl rfl (any_of HT_.out (by kernel_rfl)) (fun _ _ _ h => h) (Or.inl ⟨by rfl, ?_⟩) ?_ ?_
        rotate_left
        ·intro w'; go_simp; with_reducible rfl
        rotate_left
        ·simp only [Act.put, ZI, ZJ, ZK, i64_w, i32_w]; rfl
        refine pure_ (i := 5) (N := some 61) (v := ?_) (a' := ?_) (ZB 15 703) rfl rfl (any_of HT_.out (by kernel_rfl)) (fun _ _ _ h => h) (Or.inl ⟨by rfl, ?_⟩) ?_ ?_
        rotate_left
        ·intro w'; go_simp; with_reducible rfl
        rotate_left
        ·simp only [Act.put, ZI, ZJ, ZK, i64_w, i32_w]; rfl
        refine take_ (i := 6) (N := some 62) (v := ?_) (a' := ?_) (ZB 15 767) rfl rfl (take_ofW HT_.out HW_.out (by kernel_rfl)) (fun _ _ _ h => h) (Or.inl ⟨by rfl, ?_⟩) hHeld ?_ ?_
        rotate_left
        ·rintro w' ⟨s0, s1, s2, s3, s4, s5, s6, s7, s8, s9, s10, s11, s12⟩
         go_simp
         with_reducible rfl
        rotate_left
        ·simp only [Act.put, ZI, ZJ, ZK, i64_w, i32_w]; rfl
        refine take_ (i := 8) (N := some 64) (v := ?_) (a' := ?_) (ZB 15 1023) rfl rfl (take_ofW HT_.out HW_.out (by kernel_rfl)) (fun _ _ _ h => h) (Or.inl ⟨by rfl, ?_⟩) hHeld ?_ ?_
        rotate_left
        ·rintro w' ⟨s0, s1, s2, s3, s4, s5, s6, s7, s8, s9, s10, s11, s12⟩
         go_simp
         with_reducible rfl
        rotate_left
        ·simp only [Act.put, ZI, ZJ, ZK, i64_w, i32_w]; rfl
        refine take_ (i := 10) (N := some 66) (v := ?_) (a' := ?_) (ZB 15 2047) rfl rfl (take_ofW HT_.out HW_.out (by kernel_rfl)) (fun _ _ _ h => h) (Or.inl ⟨by rfl, ?_⟩) hHeld ?_ ?_
        rotate_left
        ·rintro w' ⟨s0, s1, s2, s3, s4, s5, s6, s7, s8, s9, s10, s11, s12⟩
         go_simp
         with_reducible rfl
        rotate_left
        ·simp only [Act.put, ZI, ZJ, ZK, i64_w, i32_w]; rfl
        refine pure_ (i := 11) (N := some 67) (v := ?_) (a' := ?_) (ZB 15 4095) rfl rfl (any_of HT_.out (by kernel_rfl)) (fun _ _ _ h => h) (Or.inl ⟨by rfl, ?_⟩) ?_ ?_
        rotate_left
        ·intro w'; go_simp; with_reducible rfl
        rotate_left
        ·simp only [Act.put, ZI, ZJ, ZK, i64_w, i32_w]; rfl
        refine take_ (i := 12) (N := some 68) (v := ?_) (a' := ?_) (ZB 15 8191) rfl rfl (take_ofW HT_.out HW_.out (by kernel_rfl)) (fun _ _ _ h => h) (Or.inl ⟨by rfl, ?_⟩) hHeld ?_ ?_
        rotate_left
        ·rintro w' ⟨s0, s1, s2, s3, s4, s5, s6, s7, s8, s9, s10, s11, s12⟩
         go_simp
         with_reducible rfl
        rotate_left
        ·simp only [Act.put, ZI, ZJ, ZK, i64_w, i32_w]; rfl
        refine one_ (i := 13) (N := some 69) (ZB 15 16383) rfl rfl (one_of HT_.out (by kernel_rfl)) (by decide) (fun K hK => ?_)
        refine goes_ Tryd.func45 (by kernel_rfl) rfl #[.agg #[.int .i64 ((rd_T40 l0_0 ((rd_T42 l0_1 x7_2).f1)).f0), .int .i64 ((rd_T40 l0_0 ((rd_T42 l0_1 x7_2).f1)).f1), .int .i64 ((rd_T40 l0_0 ((rd_T42 l0_1 x7_2).f1)).f2), .int .i64 ((rd_T40 l0_0 ((rd_T42 l0_1 x7_2).f1)).f3)]] (by rfl) rfl rfl ZH ?_
        with_reducible refine (meanderref08_InDepth.calls ((rd_T40 l0_0 ((rd_T42 l0_1 x7_2).f1)).f0) ((rd_T40 l0_0 ((rd_T42 l0_1 x7_2).f1)).f1) ((rd_T40 l0_0 ((rd_T42 l0_1 x7_2).f1)).f2) ((rd_T40 l0_0 ((rd_T42 l0_1 x7_2).f1)).f3) t226 _ A55.out).mono ?_
        rintro e w70 ⟨rfl, hb⟩
        refine ⟨_, rfl, ?_⟩
        have n0_ := ZM (blk_below (g := gb217) (o := .cells #[.slice (some ad224) l0_0.length c0_0, .slice (some ad222) l0_1.length c0_1] 27 (0, 0)) (ZBK BK217.out) hb)
        have n1_ := ZM (blk_below (g := gb223) (o := .cells #[.int .i64 ((rd_T42 l0_1 x7_2).f0), .int .i64 ((rd_T42 l0_1 x7_2).f1), .int .i64 ((rd_T42 l0_1 x7_2).f2)] 42 (0, 0)) (ZBK BK223.out) hb)
        have n2_ := ZM (ZW (ZBB HB.out) hb)
        clear BK217
        clear BK223
        clear HB
        have BK217 := n0_
        have BK223 := n1_
        have HB := n2_
        clear n0_ n1_ n2_
        (try clear hb)
        (try clear hb2)
        (try clear hk)
        (try clear hi)
        refine hK.out _ _ ⟨(ZG BK217.out 0).trans rfl, (ZG BK217.out 1).trans rfl, (ZG BK223.out 0).trans rfl, (ZG BK223.out 1).trans rfl, (ZG BK223.out 2).trans rfl, ((HB.out.cell (ZC w _ hw224_0)).trans hw224_0), ((HB.out.cell (ZC w _ hw224_1)).trans hw224_1), ((HB.out.cell (ZC w _ hw224_2)).trans hw224_2), ((HB.out.cell (ZC w _ hw224_3)).trans hw224_3), ((HB.out.cell (ZC w _ hw225_0)).trans hw225_0), ((HB.out.cell (ZC w _ hw225_1)).trans hw225_1), ((HB.out.cell (ZC w _ hw225_2)).trans hw225_2), ((HB.out.cell (ZC w _ hw225_3)).trans hw225_3)⟩ (fun hHeld => ?_)
        clear hK K
        refine norm_ (a' := ?_) ?_ ?_
        rotate_left
        ·show Act.put _ (some 69) _ = _
         simp only [Act.put, ZI, ZJ, ZK, i64_w, i32_w]
         rfl
        refine pure_ (i := 14) (N := some 70) (v := ?_) (a' := ?_) (ZB 15 32767) rfl rfl (any_of HT_.out (by kernel_rfl)) (fun _ _ _ h => h) (Or.inl ⟨by rfl, ?_⟩) ?_ ?_
        rotate_left
        ·intro w'; go_simp; with_reducible rfl
        rotate_left
        ·simp only [Act.put, ZI, ZJ, ZK, i64_w, i32_w]; rfl
        refine done_ (done_of HT_.out (by kernel_rfl)) ?_
        try go_wp2
        go_ret
        exact ⟨by first | rfl | (simp [errW_none, errW_some] <;> rfl) | (simp [*, errW_none, errW_some] <;> rfl), ZBB HB.out⟩
      ·rw [if_neg c49] at H
       have c49b0 : decide (x7_2 < (l0_1.length : Int)) = false := decide_eq_false c49
       clear c49
       obtain rfl := Option.some.inj H
       have hcz71_0 : wr.cell? ⟨gb217, 0, none⟩ = some (.slice A0_0 l0_0.length c0_0) := (ZG BK217.out 0).trans rfl
       have hcz71_1 : wr.cell? ⟨gb217, 1, none⟩ = some (.slice A0_1 l0_1.length c0_1) := (ZG BK217.out 1).trans rfl
       have hfz71_0 := ZF BK217.out 0
       have hfz71_1 := ZF BK217.out 1
       go_wp2
       go_ret
       exact ⟨by first | rfl | (simp [errW_none, errW_some] <;> rfl) | (simp [*, errW_none, errW_some] <;> rfl), ZBB HB.out⟩

end Go.Proofs.YtbjjcolbomaodaaDoor.PLdp
