-- Laid by hprint.py of this repo: the kit's printer, and contracts by hand beside it. Not trusted: Lean checks it.
import Derived.Test.YtbjjcolbomaodaaDoorWZ
import Derived.Test.YtbjjcolbomaodaaDoorWY
import Derived.Test.YtbjjcolbomaodaaDoorPTksx0
import Derived.Test.YtbjjcolbomaodaaDoorPTksx16
namespace Go.Proofs.YtbjjcolbomaodaaDoor.PTks
open Go.RowKit Go.Proofs.YtbjjcolbomaodaaDoorW.PrintWords Go.Proofs.YtbjjcolbomaodaaDoorW.PrintLast Go.Proofs.YtbjjcolbomaodaaDoorW.PrintMore
attribute [local go_sem] max2_int min2_int max_two min_two max_three min_three max_four min_four   -- for this text's walks alone
set_option linter.unusedVariables false
set_option linter.unusedSimpArgs false

/-! ### meanderref09_edges: function 28 -/
mutual
def meanderref09_edges.l0 : Nat → Int → List (S40) → List (S42) → Option (Int)
 | 0, _, _, _ => none
 | k + 1, x3, x233000, x233001 => if x3 < (x233001.length : Int) then (if 0 ≤ x3 then ((meanderref08_Is.f k x233000 x233001 ((rd_T42 x233001 x3).f0) (-1)).bind fun t235 => ((meanderref08_Is.f k x233000 x233001 ((rd_T42 x233001 x3).f1) ((rd_T42 x233001 x3).f2)).bind fun t236 => (if t235 = true then (if t236 = true then (if ((rd_T42 x233001 x3).f2) = (-1) then (some 11) else (meanderref09_edges.l0 k (wrap64 (x3 + 1)) x233000 x233001)) else (some 11)) else (some 11)))) else (none)) else (meanderref09_edges.l1 k 0 x233000 x233001)
def meanderref09_edges.l1 : Nat → Int → List (S40) → List (S42) → Option (Int)
 | 0, _, _, _ => none
 | k + 1, x7, x233000, x233001 => if x7 < (x233001.length : Int) then (if 0 ≤ x7 then (if 0 ≤ ((rd_T42 x233001 x7).f0) then (if ((rd_T42 x233001 x7).f0) < (x233000.length : Int) then (if 0 ≤ ((rd_T42 x233001 x7).f1) then (if ((rd_T42 x233001 x7).f1) < (x233000.length : Int) then ((meanderref08_InDepth.f ((rd_T40 x233000 ((rd_T42 x233001 x7).f1)).f0) ((rd_T40 x233000 ((rd_T42 x233001 x7).f1)).f1) ((rd_T40 x233000 ((rd_T42 x233001 x7).f1)).f2) ((rd_T40 x233000 ((rd_T42 x233001 x7).f1)).f3)).bind fun t241 => (if ((rd_T40 x233000 ((rd_T42 x233001 x7).f0)).f3) = t241 then (meanderref09_edges.l1 k (wrap64 (x7 + 1)) x233000 x233001) else (some 12))) else (none)) else (none)) else (none)) else (none)) else (none)) else (some 0)
end
def meanderref09_edges.f (k : Nat) (l0_0 : List (S40)) (l0_1 : List (S42)) : Option (Int) := meanderref09_edges.l0 k 0 l0_0 l0_1
theorem meanderref09_edges.mono_l : ∀ k, (∀ y0 y1 y2, LeO (meanderref09_edges.l0 k y0 y1 y2) (meanderref09_edges.l0 (k + 1) y0 y1 y2)) ∧ (∀ y0 y1 y2, LeO (meanderref09_edges.l1 k y0 y1 y2) (meanderref09_edges.l1 (k + 1) y0 y1 y2))
 | 0 => ⟨fun _ _ _ r h => by simp [meanderref09_edges.l0] at h, fun _ _ _ r h => by simp [meanderref09_edges.l1] at h⟩
 | k + 1 => by
  obtain ⟨ih0, ih1⟩ := meanderref09_edges.mono_l k
  refine ⟨?_, ?_⟩
  ·intro y0 y1 y2
   unfold meanderref09_edges.l0
   repeat' first
   | (with_reducible exact ih0 _ _ _)
   | (with_reducible exact ih1 _ _ _)
   | (with_reducible exact meanderref08_Is.mono _ _ _ _ _)
   | (with_reducible exact LeO.refl _)
   | (with_reducible exact LeO.none _)
   | (with_reducible refine LeO.ite ?_ ?_)
   | (with_reducible refine LeO.bind ?_ (fun _ => ?_))
   | exact ih0 _ _ _
   | exact ih1 _ _ _
   | exact meanderref08_Is.mono _ _ _ _ _
   | exact LeO.none _
   | refine LeO.ite ?_ ?_
   | refine LeO.bind ?_ (fun _ => ?_)
  ·intro y0 y1 y2
   unfold meanderref09_edges.l1
   repeat' first
   | (with_reducible exact ih0 _ _ _)
   | (with_reducible exact ih1 _ _ _)
   | (with_reducible exact meanderref08_Is.mono _ _ _ _ _)
   | (with_reducible exact LeO.refl _)
   | (with_reducible exact LeO.none _)
   | (with_reducible refine LeO.ite ?_ ?_)
   | (with_reducible refine LeO.bind ?_ (fun _ => ?_))
   | exact ih0 _ _ _
   | exact ih1 _ _ _
   | exact meanderref08_Is.mono _ _ _ _ _
   | exact LeO.none _
   | refine LeO.ite ?_ ?_
   | refine LeO.bind ?_ (fun _ => ?_)
theorem meanderref09_edges.mono : ∀ a0 a1 k, LeO (meanderref09_edges.f k a0 a1) (meanderref09_edges.f (k + 1) a0 a1) := by
 intro a0 a1 k
 obtain ⟨ih0, ih1⟩ := meanderref09_edges.mono_l k
 unfold meanderref09_edges.f
 repeat' first
   | (with_reducible exact ih0 _ _ _)
   | (with_reducible exact ih1 _ _ _)
   | (with_reducible exact meanderref08_Is.mono _ _ _ _ _)
   | (with_reducible exact LeO.refl _)
   | (with_reducible exact LeO.none _)
   | (with_reducible refine LeO.ite ?_ ?_)
   | (with_reducible refine LeO.bind ?_ (fun _ => ?_))
   | exact ih0 _ _ _
   | exact ih1 _ _ _
   | exact meanderref08_Is.mono _ _ _ _ _
   | exact LeO.none _
   | refine LeO.ite ?_ ?_
   | refine LeO.bind ?_ (fun _ => ?_)
def meanderref09_edges.T13 : Bool × List (List Nat × List Nat) := (true, [([], []), ([0], [0]), ([], []), ([2], [2]), ([1, 3], [1, 3]), ([4], [4]), ([5], [5]), ([], []), ([7], [7]), ([], []), ([9], [9]), ([8, 10], [8, 10]), ([11], [11]), ([12], [12]), ([6, 13], [6, 13])])
def meanderref09_edges.B13 : List Nat := [0, 1, 0, 4, 15, 31, 63, 0, 128, 0, 512, 1920, 3968, 8064, 16383]
theorem meanderref09_edges.tab13 : rtab .any (opsOf Tryd.f28 13) = meanderref09_edges.T13 := by kernel_rfl
theorem meanderref09_edges.bits13 : waitsOk meanderref09_edges.T13.2 meanderref09_edges.B13 = true := by kernel_rfl
set_option maxHeartbeats 8000000 in
set_option maxRecDepth 100000 in
theorem meanderref09_edges.calls (k : Nat) (A0_0 : Option Addr) (c0_0 : Nat) (l0_0 : List (S40)) (A0_1 : Option Addr) (c0_1 : Nat) (l0_1 : List (S42)) (r : Int) (w : World) (hr0_0 : Kd.C k40 w A0_0 l0_0.length l0_0) (hc0_0 : l0_0.length ≤ c0_0) (hr0_1 : Kd.C k42 w A0_1 l0_1.length l0_1) (hc0_1 : l0_1.length ≤ c0_1) (h : meanderref09_edges.f k l0_0 l0_1 = some r) :
  Calls Tryd.prog 28 #[.agg #[.slice A0_0 l0_0.length c0_0, .slice A0_1 l0_1.length c0_1]] w fun e w' => e = .returned (.int .i64 r) ∧ Below w.heap.size w w' := by
 have hu27 := Tryd.underlying27
 have hu42 := Tryd.underlying42
 have hu82 := Tryd.underlying82
 have hu40 := Tryd.underlying40
 have HR0_0 := ZM hr0_0
 have HC0_0 := ZM hc0_0
 clear hr0_0 hc0_0
 have HR0_1 := ZM hr0_1
 have HC0_1 := ZM hc0_1
 clear hr0_1 hc0_1
 have HB := ZM (Below.refl w.heap.size w)
 have H : (meanderref09_edges.l0 k 0 l0_0 l0_1) = some r := h
 clear h
 have H' := ZM H
 clear H
 go_enter Tryd.func28, Tryd.ntmps28
 go_wp2_with (first | ((with_reducible refine gate_dst (N := 1) rfl ?_); refine ZBX 1 (cs := #[.slice A0_0 l0_0.length c0_0, .slice A0_1 l0_1.length c0_1]) (t := 27) ?_; intro gb232 hg w2 hbox hb; have n0_ := ZM (ZW (ZBB HB.out) hb); have n1_ := ZM (hbox); have n2_ := ZM (ZGE hg HB.out); have n3_ := ZM (ZGE hg HB.out); clear HB; have HB := n0_; have BK232 := n1_; have GW232 := n2_; have GE232 := n3_; clear n0_ n1_ n2_ n3_; clear hb hbox hg))
 go_loopg [3] k (fun kq v3 w' => ∃ (x3_1 : Int), v3 = .int .i64 x3_1 ∧ Aside0 (meanderref09_edges.l0 kq x3_1 l0_0 l0_1 = some r) ∧ Aside0 (kq ≤ k) ∧ Aside0 (w'.heap[gb232]? = some (.cells #[(.slice A0_0 l0_0.length c0_0), (.slice A0_1 l0_1.length c0_1)] 27 (0, 0))) ∧ Aside0 (Below w.heap.size w w'))
 case atStart => exact ⟨(0), ZE, H', ⟨Nat.le_refl _⟩, ⟨ZBK BK232.out⟩, ⟨ZBB HB.out⟩⟩
 case round =>
  clear H'
  obtain ⟨x3_1, rfl, HA, HK1, BK232, HB⟩ := hrel
  cases gk with
  | zero => exact absurd HA.out (by simp [meanderref09_edges.l0])
  | succ k1 =>
   have H := HA.out
   clear HA
   simp only [meanderref09_edges.l0] at H
   by_cases c3 : x3_1 < (l0_1.length : Int)
   ·rw [if_pos c3] at H
    have c3b0 : decide (x3_1 < (l0_1.length : Int)) = true := decide_eq_true c3
    clear c3
    by_cases c4 : 0 ≤ x3_1
    case neg =>
     rw [if_neg c4] at H
     exact absurd H (by simp)
    rw [if_pos c4] at H
    have c4b0 : decide (0 ≤ x3_1) = true := decide_eq_true c4
    clear c4
    replace H := Option.bind_eq_some_iff.mp H
    obtain ⟨t235, A50, H⟩ := H
    replace H : ((meanderref08_Is.f k1 l0_0 l0_1 ((rd_T42 l0_1 x3_1).f1) ((rd_T42 l0_1 x3_1).f2)).bind fun t236 => (if t235 = true then (if t236 = true then (if ((rd_T42 l0_1 x3_1).f2) = (-1) then (some 11) else (meanderref09_edges.l0 k1 (wrap64 (x3_1 + 1)) l0_0 l0_1)) else (some 11)) else (some 11))) = some r := H
    have A5 := ZM A50
    clear A50
    replace H := Option.bind_eq_some_iff.mp H
    obtain ⟨t236, A60, H⟩ := H
    replace H : (if t235 = true then (if t236 = true then (if ((rd_T42 l0_1 x3_1).f2) = (-1) then (some 11) else (meanderref09_edges.l0 k1 (wrap64 (x3_1 + 1)) l0_0 l0_1)) else (some 11)) else (some 11)) = some r := H
    have A6 := ZM A60
    clear A60
    by_cases c7 : t235 = true
    ·subst c7
     have H1 : (if t236 = true then (if ((rd_T42 l0_1 x3_1).f2) = (-1) then (some 11) else (meanderref09_edges.l0 k1 (wrap64 (x3_1 + 1)) l0_0 l0_1)) else (some 11)) = some r := by rw [if_pos rfl] at H; exact H
     clear H
     have H := H1
     clear H1
     by_cases c8 : t236 = true
     ·subst c8
      have H1 : (if ((rd_T42 l0_1 x3_1).f2) = (-1) then (some 11) else (meanderref09_edges.l0 k1 (wrap64 (x3_1 + 1)) l0_0 l0_1)) = some r := by rw [if_pos rfl] at H; exact H
      clear H
      have H := H1
      clear H1
      by_cases c9 : ((rd_T42 l0_1 x3_1).f2) = (-1)
      ·rw [if_pos c9] at H
       have c9b0 : (((rd_T42 l0_1 x3_1).f2) == (-1)) = true := beq_iff_eq.mpr c9
       have c9b1 : (((rd_T42 l0_1 x3_1).f2) != (-1)) = false := bne_eq_false_iff_eq.mpr c9
       clear c9
       obtain rfl := Option.some.inj H
       obtain ⟨hcz10_0, hcz10_1, hfz10_0, hfz10_1⟩ := ZC2 BK232.out
       have p233 : 0 ≤ (x3_1 : Int) := ZOD
       have q233 : x3_1 < (l0_1.length : Int) := ZOD
       obtain ⟨ad233, e233, hx233_0, hx233_1, hx233_2⟩ := at_T42 HR0_1.out x3_1 p233 q233
       cases e233
       replace hx233_0 := ZHX HB.out hx233_0
       replace hx233_1 := ZHX HB.out hx233_1
       replace hx233_2 := ZHX HB.out hx233_2
       replace p233 := eq_true p233
       replace q233 := eq_true q233
       go_wp2_with (first | ((with_reducible refine gate_dst (N := 4) rfl ?_); refine ZBX 4 (cs := #[.int .i64 0, .int .i64 0, .int .i64 0]) (t := 42) ?_; intro gb234 hg w11 hbox hb; have n0_ := ZM (blk_below (ZBK BK232.out) hb); have n1_ := ZM (ZW (ZBB HB.out) hb); have n2_ := ZM (hbox); have n3_ := ZM (ZGE hg HB.out); have n4_ := ZM (ZGE hg HB.out); have n5_ := ZM (ZNE hg BK232.out); have n6_ := ZM (ZNG hg BK232.out); clear BK232; clear HB; have BK232 := n0_; have HB := n1_; have BK234 := n2_; have GW234 := n3_; have GE234 := n4_; have NB232_234 := n5_; have NB234_232 := n6_; clear n0_ n1_ n2_ n3_ n4_ n5_ n6_; clear hb hbox hg; have hnb12 := NB234_232.out; have hnc12 := NB232_234.out; obtain ⟨hcz13_0, hcz13_1, hcz13_2, hfz13_0, hfz13_1, hfz13_2⟩ := ZC3 BK234.out; obtain ⟨hcz14_0, hcz14_1, hfz14_0, hfz14_1⟩ := ZC2 BK232.out) | ((with_reducible refine gate_callee (f := 44) rfl ?_); refine goesL_ (some 25) rfl rfl Tryd.func44 (by kernel_rfl) rfl #[.agg #[.slice A0_0 l0_0.length c0_0, .slice (some ad233) l0_1.length c0_1], .agg #[.int .i64 ((rd_T42 l0_1 x3_1).f0), .int .i64 (-1)]] rfl ZH ?_; (with_reducible refine (meanderref08_Is.calls k1 _ _ l0_0 _ _ l0_1 ((rd_T42 l0_1 x3_1).f0) (-1) true _ ?side1 ?side2 ?side3 ?side4 A5.out).mono ?_); (case side1 => exact Kd.C_below HR0_0.out (ZBB HB.out)); (case side2 => exact HC0_0.out); (case side3 => exact Kd.C_below HR0_1.out (ZBB HB.out)); (case side4 => exact HC0_1.out); rintro e w15 ⟨rfl, hb⟩; refine ⟨_, rfl, ?_⟩; have n0_ := ZM (blk_below (g := gb232) (o := .cells #[.slice A0_0 l0_0.length c0_0, .slice (some ad233) l0_1.length c0_1] 27 (0, 0)) (ZBF BK232.out NB232_234.out) hb); have n1_ := ZM (blk_below (g := gb234) (o := .cells #[.int .i64 ((rd_T42 l0_1 x3_1).f0), .int .i64 ((rd_T42 l0_1 x3_1).f1), .int .i64 ((rd_T42 l0_1 x3_1).f2)] 42 (0, 0)) (by (with_reducible repeat (first | refine ZR ?_ _ | refine ZS ?_ | refine ZT ?_ _)); refine blk_put (cs := #[.int .i64 ((rd_T42 l0_1 x3_1).f0), .int .i64 ((rd_T42 l0_1 x3_1).f1), .int .i64 0]) ?_ 2 _ rfl; (with_reducible repeat (first | refine ZR ?_ _ | refine ZS ?_ | refine ZT ?_ _)); refine blk_put (cs := #[.int .i64 ((rd_T42 l0_1 x3_1).f0), .int .i64 0, .int .i64 0]) ?_ 1 _ rfl; (with_reducible repeat (first | refine ZR ?_ _ | refine ZS ?_ | refine ZT ?_ _)); refine blk_put (cs := #[.int .i64 0, .int .i64 0, .int .i64 0]) ?_ 0 _ rfl; (with_reducible repeat (first | refine ZR ?_ _ | refine ZS ?_ | refine ZT ?_ _)); exact BK234.out) hb); have n2_ := ZM (ZW (ZBB HB.out) hb); clear BK232; clear BK234; clear HB; have BK232 := n0_; have BK234 := n1_; have HB := n2_; clear n0_ n1_ n2_; (try clear hb); (try clear hb2); (try clear hk); (try clear hi); obtain ⟨hcz16_0, hcz16_1, hfz16_0, hfz16_1⟩ := ZC2 BK232.out; obtain ⟨hcz17_0, hcz17_1, hcz17_2, hfz17_0, hfz17_1, hfz17_2⟩ := ZC3 BK234.out) | ((with_reducible refine gate_callee (f := 44) rfl ?_); refine goesL_ (some 32) rfl rfl Tryd.func44 (by kernel_rfl) rfl #[.agg #[.slice A0_0 l0_0.length c0_0, .slice (some ad233) l0_1.length c0_1], .agg #[.int .i64 ((rd_T42 l0_1 x3_1).f1), .int .i64 ((rd_T42 l0_1 x3_1).f2)]] rfl ZH ?_; (with_reducible refine (meanderref08_Is.calls k1 _ _ l0_0 _ _ l0_1 ((rd_T42 l0_1 x3_1).f1) ((rd_T42 l0_1 x3_1).f2) true _ ?side1 ?side2 ?side3 ?side4 A6.out).mono ?_); (case side1 => repeat (first | exact (Kd.C_below HR0_0.out HB.out) | (with_reducible refine Kd.C_alloc ?_ _) | (with_reducible refine Kd.C_drewN ?_ _) | (with_reducible refine Kd.C_drew ?_))); (case side2 => exact HC0_0.out); (case side3 => repeat (first | exact (Kd.C_below HR0_1.out HB.out) | (with_reducible refine Kd.C_alloc ?_ _) | (with_reducible refine Kd.C_drewN ?_ _) | (with_reducible refine Kd.C_drew ?_))); (case side4 => exact HC0_1.out); rintro e w18 ⟨rfl, hb⟩; refine ⟨_, rfl, ?_⟩; have n0_ := ZM (blk_below (ZBK BK232.out) hb); have n1_ := ZM (blk_below (ZBK BK234.out) hb); have n2_ := ZM (ZW (ZBB HB.out) hb); clear BK232; clear BK234; clear HB; have BK232 := n0_; have BK234 := n1_; have HB := n2_; clear n0_ n1_ n2_; (try clear hb); (try clear hb2); (try clear hk); (try clear hi); obtain ⟨hcz19_0, hcz19_1, hcz19_2, hfz19_0, hfz19_1, hfz19_2⟩ := ZC3 BK234.out))
       go_ret
       exact ⟨ZEE, ZBB HB.out⟩
      ·rw [if_neg c9] at H
       have c9b0 : (((rd_T42 l0_1 x3_1).f2) == (-1)) = false := beq_eq_false_iff_ne.mpr c9
       have c9b1 : (((rd_T42 l0_1 x3_1).f2) != (-1)) = true := bne_iff_ne.mpr c9
       have H' := ZM H
       clear H
       obtain ⟨hcz20_0, hcz20_1, hfz20_0, hfz20_1⟩ := ZC2 BK232.out
       have p233 : 0 ≤ (x3_1 : Int) := ZOD
       have q233 : x3_1 < (l0_1.length : Int) := ZOD
       obtain ⟨ad233, e233, hx233_0, hx233_1, hx233_2⟩ := at_T42 HR0_1.out x3_1 p233 q233
       cases e233
       replace hx233_0 := ZHX HB.out hx233_0
       replace hx233_1 := ZHX HB.out hx233_1
       replace hx233_2 := ZHX HB.out hx233_2
       replace p233 := eq_true p233
       replace q233 := eq_true q233
       go_wp2_with (first | ((with_reducible refine gate_dst (N := 4) rfl ?_); refine ZBX 4 (cs := #[.int .i64 0, .int .i64 0, .int .i64 0]) (t := 42) ?_; intro gb234 hg w21 hbox hb; have n0_ := ZM (blk_below (ZBK BK232.out) hb); have n1_ := ZM (ZW (ZBB HB.out) hb); have n2_ := ZM (hbox); have n3_ := ZM (ZGE hg HB.out); have n4_ := ZM (ZGE hg HB.out); have n5_ := ZM (ZNE hg BK232.out); have n6_ := ZM (ZNG hg BK232.out); clear BK232; clear HB; have BK232 := n0_; have HB := n1_; have BK234 := n2_; have GW234 := n3_; have GE234 := n4_; have NB232_234 := n5_; have NB234_232 := n6_; clear n0_ n1_ n2_ n3_ n4_ n5_ n6_; clear hb hbox hg; have hnb22 := NB234_232.out; have hnc22 := NB232_234.out; obtain ⟨hcz23_0, hcz23_1, hcz23_2, hfz23_0, hfz23_1, hfz23_2⟩ := ZC3 BK234.out; obtain ⟨hcz24_0, hcz24_1, hfz24_0, hfz24_1⟩ := ZC2 BK232.out) | ((with_reducible refine gate_callee (f := 44) rfl ?_); refine goesL_ (some 25) rfl rfl Tryd.func44 (by kernel_rfl) rfl #[.agg #[.slice A0_0 l0_0.length c0_0, .slice (some ad233) l0_1.length c0_1], .agg #[.int .i64 ((rd_T42 l0_1 x3_1).f0), .int .i64 (-1)]] rfl ZH ?_; (with_reducible refine (meanderref08_Is.calls k1 _ _ l0_0 _ _ l0_1 ((rd_T42 l0_1 x3_1).f0) (-1) true _ ?side1 ?side2 ?side3 ?side4 A5.out).mono ?_); (case side1 => exact Kd.C_below HR0_0.out (ZBB HB.out)); (case side2 => exact HC0_0.out); (case side3 => exact Kd.C_below HR0_1.out (ZBB HB.out)); (case side4 => exact HC0_1.out); rintro e w25 ⟨rfl, hb⟩; refine ⟨_, rfl, ?_⟩; have n0_ := ZM (blk_below (g := gb232) (o := .cells #[.slice A0_0 l0_0.length c0_0, .slice (some ad233) l0_1.length c0_1] 27 (0, 0)) (ZBF BK232.out NB232_234.out) hb); have n1_ := ZM (blk_below (g := gb234) (o := .cells #[.int .i64 ((rd_T42 l0_1 x3_1).f0), .int .i64 ((rd_T42 l0_1 x3_1).f1), .int .i64 ((rd_T42 l0_1 x3_1).f2)] 42 (0, 0)) (by (with_reducible repeat (first | refine ZR ?_ _ | refine ZS ?_ | refine ZT ?_ _)); refine blk_put (cs := #[.int .i64 ((rd_T42 l0_1 x3_1).f0), .int .i64 ((rd_T42 l0_1 x3_1).f1), .int .i64 0]) ?_ 2 _ rfl; (with_reducible repeat (first | refine ZR ?_ _ | refine ZS ?_ | refine ZT ?_ _)); refine blk_put (cs := #[.int .i64 ((rd_T42 l0_1 x3_1).f0), .int .i64 0, .int .i64 0]) ?_ 1 _ rfl; (with_reducible repeat (first | refine ZR ?_ _ | refine ZS ?_ | refine ZT ?_ _)); refine blk_put (cs := #[.int .i64 0, .int .i64 0, .int .i64 0]) ?_ 0 _ rfl; (with_reducible repeat (first | refine ZR ?_ _ | refine ZS ?_ | refine ZT ?_ _)); exact BK234.out) hb); have n2_ := ZM (ZW (ZBB HB.out) hb); clear BK232; clear BK234; clear HB; have BK232 := n0_; have BK234 := n1_; have HB := n2_; clear n0_ n1_ n2_; (try clear hb); (try clear hb2); (try clear hk); (try clear hi); obtain ⟨hcz26_0, hcz26_1, hfz26_0, hfz26_1⟩ := ZC2 BK232.out; obtain ⟨hcz27_0, hcz27_1, hcz27_2, hfz27_0, hfz27_1, hfz27_2⟩ := ZC3 BK234.out) | ((with_reducible refine gate_callee (f := 44) rfl ?_); refine goesL_ (some 32) rfl rfl Tryd.func44 (by kernel_rfl) rfl #[.agg #[.slice A0_0 l0_0.length c0_0, .slice (some ad233) l0_1.length c0_1], .agg #[.int .i64 ((rd_T42 l0_1 x3_1).f1), .int .i64 ((rd_T42 l0_1 x3_1).f2)]] rfl ZH ?_; (with_reducible refine (meanderref08_Is.calls k1 _ _ l0_0 _ _ l0_1 ((rd_T42 l0_1 x3_1).f1) ((rd_T42 l0_1 x3_1).f2) true _ ?side1 ?side2 ?side3 ?side4 A6.out).mono ?_); (case side1 => repeat (first | exact (Kd.C_below HR0_0.out HB.out) | (with_reducible refine Kd.C_alloc ?_ _) | (with_reducible refine Kd.C_drewN ?_ _) | (with_reducible refine Kd.C_drew ?_))); (case side2 => exact HC0_0.out); (case side3 => repeat (first | exact (Kd.C_below HR0_1.out HB.out) | (with_reducible refine Kd.C_alloc ?_ _) | (with_reducible refine Kd.C_drewN ?_ _) | (with_reducible refine Kd.C_drew ?_))); (case side4 => exact HC0_1.out); rintro e w28 ⟨rfl, hb⟩; refine ⟨_, rfl, ?_⟩; have n0_ := ZM (blk_below (ZBK BK232.out) hb); have n1_ := ZM (blk_below (ZBK BK234.out) hb); have n2_ := ZM (ZW (ZBB HB.out) hb); clear BK232; clear BK234; clear HB; have BK232 := n0_; have BK234 := n1_; have HB := n2_; clear n0_ n1_ n2_; (try clear hb); (try clear hb2); (try clear hk); (try clear hi); obtain ⟨hcz29_0, hcz29_1, hcz29_2, hfz29_0, hfz29_1, hfz29_2⟩ := ZC3 BK234.out))
       go_roundg k1
       case measure => have := HK1.out; omega
       case rel => exact ⟨(wrap64 (x3_1 + 1)), ZE, H', ⟨by have := HK1.out; omega⟩, ⟨ZBK BK232.out⟩, ⟨ZBB HB.out⟩⟩
     ·replace c8 := Bool.eq_false_iff.mpr c8
      subst c8
      have H1 : (some 11) = some r := by rw [if_neg (show ¬ (false = true) by decide)] at H; exact H
      clear H
      have H := H1
      clear H1
      obtain rfl := Option.some.inj H
      obtain ⟨hcz30_0, hcz30_1, hfz30_0, hfz30_1⟩ := ZC2 BK232.out
      have p233 : 0 ≤ (x3_1 : Int) := ZOD
      have q233 : x3_1 < (l0_1.length : Int) := ZOD
      obtain ⟨ad233, e233, hx233_0, hx233_1, hx233_2⟩ := at_T42 HR0_1.out x3_1 p233 q233
      cases e233
      replace hx233_0 := ZHX HB.out hx233_0
      replace hx233_1 := ZHX HB.out hx233_1
      replace hx233_2 := ZHX HB.out hx233_2
      replace p233 := eq_true p233
      replace q233 := eq_true q233
      go_wp2_with (first | ((with_reducible refine gate_dst (N := 4) rfl ?_); refine ZBX 4 (cs := #[.int .i64 0, .int .i64 0, .int .i64 0]) (t := 42) ?_; intro gb234 hg w31 hbox hb; have n0_ := ZM (blk_below (ZBK BK232.out) hb); have n1_ := ZM (ZW (ZBB HB.out) hb); have n2_ := ZM (hbox); have n3_ := ZM (ZGE hg HB.out); have n4_ := ZM (ZGE hg HB.out); have n5_ := ZM (ZNE hg BK232.out); have n6_ := ZM (ZNG hg BK232.out); clear BK232; clear HB; have BK232 := n0_; have HB := n1_; have BK234 := n2_; have GW234 := n3_; have GE234 := n4_; have NB232_234 := n5_; have NB234_232 := n6_; clear n0_ n1_ n2_ n3_ n4_ n5_ n6_; clear hb hbox hg; have hnb32 := NB234_232.out; have hnc32 := NB232_234.out; obtain ⟨hcz33_0, hcz33_1, hcz33_2, hfz33_0, hfz33_1, hfz33_2⟩ := ZC3 BK234.out; obtain ⟨hcz34_0, hcz34_1, hfz34_0, hfz34_1⟩ := ZC2 BK232.out) | ((with_reducible refine gate_callee (f := 44) rfl ?_); refine goesL_ (some 25) rfl rfl Tryd.func44 (by kernel_rfl) rfl #[.agg #[.slice A0_0 l0_0.length c0_0, .slice (some ad233) l0_1.length c0_1], .agg #[.int .i64 ((rd_T42 l0_1 x3_1).f0), .int .i64 (-1)]] rfl ZH ?_; (with_reducible refine (meanderref08_Is.calls k1 _ _ l0_0 _ _ l0_1 ((rd_T42 l0_1 x3_1).f0) (-1) true _ ?side1 ?side2 ?side3 ?side4 A5.out).mono ?_); (case side1 => exact Kd.C_below HR0_0.out (ZBB HB.out)); (case side2 => exact HC0_0.out); (case side3 => exact Kd.C_below HR0_1.out (ZBB HB.out)); (case side4 => exact HC0_1.out); rintro e w35 ⟨rfl, hb⟩; refine ⟨_, rfl, ?_⟩; have n0_ := ZM (blk_below (g := gb232) (o := .cells #[.slice A0_0 l0_0.length c0_0, .slice (some ad233) l0_1.length c0_1] 27 (0, 0)) (ZBF BK232.out NB232_234.out) hb); have n1_ := ZM (blk_below (g := gb234) (o := .cells #[.int .i64 ((rd_T42 l0_1 x3_1).f0), .int .i64 ((rd_T42 l0_1 x3_1).f1), .int .i64 ((rd_T42 l0_1 x3_1).f2)] 42 (0, 0)) (by (with_reducible repeat (first | refine ZR ?_ _ | refine ZS ?_ | refine ZT ?_ _)); refine blk_put (cs := #[.int .i64 ((rd_T42 l0_1 x3_1).f0), .int .i64 ((rd_T42 l0_1 x3_1).f1), .int .i64 0]) ?_ 2 _ rfl; (with_reducible repeat (first | refine ZR ?_ _ | refine ZS ?_ | refine ZT ?_ _)); refine blk_put (cs := #[.int .i64 ((rd_T42 l0_1 x3_1).f0), .int .i64 0, .int .i64 0]) ?_ 1 _ rfl; (with_reducible repeat (first | refine ZR ?_ _ | refine ZS ?_ | refine ZT ?_ _)); refine blk_put (cs := #[.int .i64 0, .int .i64 0, .int .i64 0]) ?_ 0 _ rfl; (with_reducible repeat (first | refine ZR ?_ _ | refine ZS ?_ | refine ZT ?_ _)); exact BK234.out) hb); have n2_ := ZM (ZW (ZBB HB.out) hb); clear BK232; clear BK234; clear HB; have BK232 := n0_; have BK234 := n1_; have HB := n2_; clear n0_ n1_ n2_; (try clear hb); (try clear hb2); (try clear hk); (try clear hi); obtain ⟨hcz36_0, hcz36_1, hfz36_0, hfz36_1⟩ := ZC2 BK232.out; obtain ⟨hcz37_0, hcz37_1, hcz37_2, hfz37_0, hfz37_1, hfz37_2⟩ := ZC3 BK234.out) | ((with_reducible refine gate_callee (f := 44) rfl ?_); refine goesL_ (some 32) rfl rfl Tryd.func44 (by kernel_rfl) rfl #[.agg #[.slice A0_0 l0_0.length c0_0, .slice (some ad233) l0_1.length c0_1], .agg #[.int .i64 ((rd_T42 l0_1 x3_1).f1), .int .i64 ((rd_T42 l0_1 x3_1).f2)]] rfl ZH ?_; (with_reducible refine (meanderref08_Is.calls k1 _ _ l0_0 _ _ l0_1 ((rd_T42 l0_1 x3_1).f1) ((rd_T42 l0_1 x3_1).f2) false _ ?side1 ?side2 ?side3 ?side4 A6.out).mono ?_); (case side1 => repeat (first | exact (Kd.C_below HR0_0.out HB.out) | (with_reducible refine Kd.C_alloc ?_ _) | (with_reducible refine Kd.C_drewN ?_ _) | (with_reducible refine Kd.C_drew ?_))); (case side2 => exact HC0_0.out); (case side3 => repeat (first | exact (Kd.C_below HR0_1.out HB.out) | (with_reducible refine Kd.C_alloc ?_ _) | (with_reducible refine Kd.C_drewN ?_ _) | (with_reducible refine Kd.C_drew ?_))); (case side4 => exact HC0_1.out); rintro e w38 ⟨rfl, hb⟩; refine ⟨_, rfl, ?_⟩; have n0_ := ZM (blk_below (ZBK BK232.out) hb); have n1_ := ZM (blk_below (ZBK BK234.out) hb); have n2_ := ZM (ZW (ZBB HB.out) hb); clear BK232; clear BK234; clear HB; have BK232 := n0_; have BK234 := n1_; have HB := n2_; clear n0_ n1_ n2_; (try clear hb); (try clear hb2); (try clear hk); (try clear hi)))
      go_ret
      exact ⟨ZEE, ZBB HB.out⟩
    ·replace c7 := Bool.eq_false_iff.mpr c7
     subst c7
     have H1 : (some 11) = some r := by rw [if_neg (show ¬ (false = true) by decide)] at H; exact H
     clear H
     have H := H1
     clear H1
     obtain rfl := Option.some.inj H
     obtain ⟨hcz39_0, hcz39_1, hfz39_0, hfz39_1⟩ := ZC2 BK232.out
     have p233 : 0 ≤ (x3_1 : Int) := ZOD
     have q233 : x3_1 < (l0_1.length : Int) := ZOD
     obtain ⟨ad233, e233, hx233_0, hx233_1, hx233_2⟩ := at_T42 HR0_1.out x3_1 p233 q233
     cases e233
     replace hx233_0 := ZHX HB.out hx233_0
     replace hx233_1 := ZHX HB.out hx233_1
     replace hx233_2 := ZHX HB.out hx233_2
     replace p233 := eq_true p233
     replace q233 := eq_true q233
     go_wp2_with (first | ((with_reducible refine gate_dst (N := 4) rfl ?_); refine ZBX 4 (cs := #[.int .i64 0, .int .i64 0, .int .i64 0]) (t := 42) ?_; intro gb234 hg w40 hbox hb; have n0_ := ZM (blk_below (ZBK BK232.out) hb); have n1_ := ZM (ZW (ZBB HB.out) hb); have n2_ := ZM (hbox); have n3_ := ZM (ZGE hg HB.out); have n4_ := ZM (ZGE hg HB.out); have n5_ := ZM (ZNE hg BK232.out); have n6_ := ZM (ZNG hg BK232.out); clear BK232; clear HB; have BK232 := n0_; have HB := n1_; have BK234 := n2_; have GW234 := n3_; have GE234 := n4_; have NB232_234 := n5_; have NB234_232 := n6_; clear n0_ n1_ n2_ n3_ n4_ n5_ n6_; clear hb hbox hg; have hnb41 := NB234_232.out; have hnc41 := NB232_234.out; obtain ⟨hcz42_0, hcz42_1, hcz42_2, hfz42_0, hfz42_1, hfz42_2⟩ := ZC3 BK234.out; obtain ⟨hcz43_0, hcz43_1, hfz43_0, hfz43_1⟩ := ZC2 BK232.out) | ((with_reducible refine gate_callee (f := 44) rfl ?_); refine goesL_ (some 25) rfl rfl Tryd.func44 (by kernel_rfl) rfl #[.agg #[.slice A0_0 l0_0.length c0_0, .slice (some ad233) l0_1.length c0_1], .agg #[.int .i64 ((rd_T42 l0_1 x3_1).f0), .int .i64 (-1)]] rfl ZH ?_; (with_reducible refine (meanderref08_Is.calls k1 _ _ l0_0 _ _ l0_1 ((rd_T42 l0_1 x3_1).f0) (-1) false _ ?side1 ?side2 ?side3 ?side4 A5.out).mono ?_); (case side1 => exact Kd.C_below HR0_0.out (ZBB HB.out)); (case side2 => exact HC0_0.out); (case side3 => exact Kd.C_below HR0_1.out (ZBB HB.out)); (case side4 => exact HC0_1.out); rintro e w44 ⟨rfl, hb⟩; refine ⟨_, rfl, ?_⟩; have n0_ := ZM (blk_below (g := gb232) (o := .cells #[.slice A0_0 l0_0.length c0_0, .slice (some ad233) l0_1.length c0_1] 27 (0, 0)) (ZBF BK232.out NB232_234.out) hb); have n1_ := ZM (blk_below (g := gb234) (o := .cells #[.int .i64 ((rd_T42 l0_1 x3_1).f0), .int .i64 ((rd_T42 l0_1 x3_1).f1), .int .i64 ((rd_T42 l0_1 x3_1).f2)] 42 (0, 0)) (by (with_reducible repeat (first | refine ZR ?_ _ | refine ZS ?_ | refine ZT ?_ _)); refine blk_put (cs := #[.int .i64 ((rd_T42 l0_1 x3_1).f0), .int .i64 ((rd_T42 l0_1 x3_1).f1), .int .i64 0]) ?_ 2 _ rfl; (with_reducible repeat (first | refine ZR ?_ _ | refine ZS ?_ | refine ZT ?_ _)); refine blk_put (cs := #[.int .i64 ((rd_T42 l0_1 x3_1).f0), .int .i64 0, .int .i64 0]) ?_ 1 _ rfl; (with_reducible repeat (first | refine ZR ?_ _ | refine ZS ?_ | refine ZT ?_ _)); refine blk_put (cs := #[.int .i64 0, .int .i64 0, .int .i64 0]) ?_ 0 _ rfl; (with_reducible repeat (first | refine ZR ?_ _ | refine ZS ?_ | refine ZT ?_ _)); exact BK234.out) hb); have n2_ := ZM (ZW (ZBB HB.out) hb); clear BK232; clear BK234; clear HB; have BK232 := n0_; have BK234 := n1_; have HB := n2_; clear n0_ n1_ n2_; (try clear hb); (try clear hb2); (try clear hk); (try clear hi); obtain ⟨hcz45_0, hcz45_1, hfz45_0, hfz45_1⟩ := ZC2 BK232.out; obtain ⟨hcz46_0, hcz46_1, hcz46_2, hfz46_0, hfz46_1, hfz46_2⟩ := ZC3 BK234.out) | ((with_reducible refine gate_callee (f := 44) rfl ?_); refine goesL_ (some 32) rfl rfl Tryd.func44 (by kernel_rfl) rfl #[.agg #[.slice A0_0 l0_0.length c0_0, .slice (some ad233) l0_1.length c0_1], .agg #[.int .i64 ((rd_T42 l0_1 x3_1).f1), .int .i64 ((rd_T42 l0_1 x3_1).f2)]] rfl ZH ?_; (with_reducible refine (meanderref08_Is.calls k1 _ _ l0_0 _ _ l0_1 ((rd_T42 l0_1 x3_1).f1) ((rd_T42 l0_1 x3_1).f2) t236 _ ?side1 ?side2 ?side3 ?side4 A6.out).mono ?_); (case side1 => repeat (first | exact (Kd.C_below HR0_0.out HB.out) | (with_reducible refine Kd.C_alloc ?_ _) | (with_reducible refine Kd.C_drewN ?_ _) | (with_reducible refine Kd.C_drew ?_))); (case side2 => exact HC0_0.out); (case side3 => repeat (first | exact (Kd.C_below HR0_1.out HB.out) | (with_reducible refine Kd.C_alloc ?_ _) | (with_reducible refine Kd.C_drewN ?_ _) | (with_reducible refine Kd.C_drew ?_))); (case side4 => exact HC0_1.out); rintro e w47 ⟨rfl, hb⟩; refine ⟨_, rfl, ?_⟩; have n0_ := ZM (blk_below (ZBK BK232.out) hb); have n1_ := ZM (blk_below (ZBK BK234.out) hb); have n2_ := ZM (ZW (ZBB HB.out) hb); clear BK232; clear BK234; clear HB; have BK232 := n0_; have BK234 := n1_; have HB := n2_; clear n0_ n1_ n2_; (try clear hb); (try clear hb2); (try clear hk); (try clear hi)))
     go_ret
     exact ⟨ZEE, ZBB HB.out⟩
   ·rw [if_neg c3] at H
    have c3b0 : decide (x3_1 < (l0_1.length : Int)) = false := decide_eq_false c3
    clear c3
    have H' := ZM H
    clear H
    obtain ⟨hcz48_0, hcz48_1, hfz48_0, hfz48_1⟩ := ZC2 BK232.out
    go_wp2
    go_loopg [7] k1 (fun kq v7 w' => ∃ (x7_2 : Int), v7 = .int .i64 x7_2 ∧ Aside0 (meanderref09_edges.l1 kq x7_2 l0_0 l0_1 = some r) ∧ Aside0 (kq ≤ k1) ∧ Aside0 (w'.heap[gb232]? = some (.cells #[(.slice A0_0 l0_0.length c0_0), (.slice A0_1 l0_1.length c0_1)] 27 (0, 0))) ∧ Aside0 (Below w.heap.size w w'))
    case atStart => exact ⟨(0), ZE, H', ⟨Nat.le_refl _⟩, ⟨ZBK BK232.out⟩, ⟨ZBB HB.out⟩⟩
    case round =>
     clear H'
     try clear c3
     try clear c3b0
     try clear c4
     try clear c4b0
     try clear c7
     try clear c8
     try clear c9
     try clear c9b0
     try clear c9b1
     try clear hcz10_0
     try clear hcz10_1
     try clear hcz13_0
     try clear hcz13_1
     try clear hcz13_2
     try clear hcz14_0
     try clear hcz14_1
     try clear hcz16_0
     try clear hcz16_1
     try clear hcz17_0
     try clear hcz17_1
     try clear hcz17_2
     try clear hcz19_0
     try clear hcz19_1
     try clear hcz19_2
     try clear hcz20_0
     try clear hcz20_1
     try clear hcz23_0
     try clear hcz23_1
     try clear hcz23_2
     try clear hcz24_0
     try clear hcz24_1
     try clear hcz26_0
     try clear hcz26_1
     try clear hcz27_0
     try clear hcz27_1
     try clear hcz27_2
     try clear hcz29_0
     try clear hcz29_1
     try clear hcz29_2
     try clear hcz30_0
     try clear hcz30_1
     try clear hcz33_0
     try clear hcz33_1
     try clear hcz33_2
     try clear hcz34_0
     try clear hcz34_1
     try clear hcz36_0
     try clear hcz36_1
     try clear hcz37_0
     try clear hcz37_1
     try clear hcz37_2
     try clear hcz39_0
     try clear hcz39_1
     try clear hcz42_0
     try clear hcz42_1
     try clear hcz42_2
     try clear hcz43_0
     try clear hcz43_1
     try clear hcz45_0
     try clear hcz45_1
     try clear hcz46_0
     try clear hcz46_1
     try clear hcz46_2
     try clear hcz48_0
     try clear hcz48_1
     try clear hfz10_0
     try clear hfz10_1
     try clear hfz13_0
     try clear hfz13_1
     try clear hfz13_2
     try clear hfz14_0
     try clear hfz14_1
     try clear hfz16_0
     try clear hfz16_1
     try clear hfz17_0
     try clear hfz17_1
     try clear hfz17_2
     try clear hfz19_0
     try clear hfz19_1
     try clear hfz19_2
     try clear hfz20_0
     try clear hfz20_1
     try clear hfz23_0
     try clear hfz23_1
     try clear hfz23_2
     try clear hfz24_0
     try clear hfz24_1
     try clear hfz26_0
     try clear hfz26_1
     try clear hfz27_0
     try clear hfz27_1
     try clear hfz27_2
     try clear hfz29_0
     try clear hfz29_1
     try clear hfz29_2
     try clear hfz30_0
     try clear hfz30_1
     try clear hfz33_0
     try clear hfz33_1
     try clear hfz33_2
     try clear hfz34_0
     try clear hfz34_1
     try clear hfz36_0
     try clear hfz36_1
     try clear hfz37_0
     try clear hfz37_1
     try clear hfz37_2
     try clear hfz39_0
     try clear hfz39_1
     try clear hfz42_0
     try clear hfz42_1
     try clear hfz42_2
     try clear hfz43_0
     try clear hfz43_1
     try clear hfz45_0
     try clear hfz45_1
     try clear hfz46_0
     try clear hfz46_1
     try clear hfz46_2
     try clear hfz48_0
     try clear hfz48_1
     try clear hx233_0
     try clear hx233_1
     try clear hx233_2
     try clear p233
     try clear q233
     obtain ⟨x7_2, rfl, HA, HK2, BK232, HB⟩ := hrel
     cases gk with
     | zero => exact absurd HA.out (by simp [meanderref09_edges.l1])
     | succ k2 =>
      have H := HA.out
      clear HA
      simp only [meanderref09_edges.l1] at H
      by_cases c49 : x7_2 < (l0_1.length : Int)
      ·rw [if_pos c49] at H
       have c49b0 : decide (x7_2 < (l0_1.length : Int)) = true := decide_eq_true c49
       clear c49
       by_cases c50 : 0 ≤ x7_2
       case neg =>
        rw [if_neg c50] at H
        exact absurd H (by simp)
       rw [if_pos c50] at H
       have c50b0 : decide (0 ≤ x7_2) = true := decide_eq_true c50
       clear c50
       by_cases c51 : 0 ≤ ((rd_T42 l0_1 x7_2).f0)
       case neg =>
        rw [if_neg c51] at H
        exact absurd H (by simp)
       rw [if_pos c51] at H
       have c51b0 : decide (0 ≤ ((rd_T42 l0_1 x7_2).f0)) = true := decide_eq_true c51
       clear c51
       by_cases c52 : ((rd_T42 l0_1 x7_2).f0) < (l0_0.length : Int)
       case neg =>
        rw [if_neg c52] at H
        exact absurd H (by simp)
       rw [if_pos c52] at H
       have c52b0 : decide (((rd_T42 l0_1 x7_2).f0) < (l0_0.length : Int)) = true := decide_eq_true c52
       clear c52
       by_cases c53 : 0 ≤ ((rd_T42 l0_1 x7_2).f1)
       case neg =>
        rw [if_neg c53] at H
        exact absurd H (by simp)
       rw [if_pos c53] at H
       have c53b0 : decide (0 ≤ ((rd_T42 l0_1 x7_2).f1)) = true := decide_eq_true c53
       clear c53
       by_cases c54 : ((rd_T42 l0_1 x7_2).f1) < (l0_0.length : Int)
       case neg =>
        rw [if_neg c54] at H
        exact absurd H (by simp)
       rw [if_pos c54] at H
       have c54b0 : decide (((rd_T42 l0_1 x7_2).f1) < (l0_0.length : Int)) = true := decide_eq_true c54
       clear c54
       replace H := Option.bind_eq_some_iff.mp H
       obtain ⟨t241, A550, H⟩ := H
       replace H : (if ((rd_T40 l0_0 ((rd_T42 l0_1 x7_2).f0)).f3) = t241 then (meanderref09_edges.l1 k2 (wrap64 (x7_2 + 1)) l0_0 l0_1) else (some 12)) = some r := H
       have A55 := ZM A550
       clear A550
       by_cases c56 : ((rd_T40 l0_0 ((rd_T42 l0_1 x7_2).f0)).f3) = t241
       ·rw [if_pos c56] at H
        have c56b0 : (((rd_T40 l0_0 ((rd_T42 l0_1 x7_2).f0)).f3) == t241) = true := beq_iff_eq.mpr c56
        have c56b1 : (((rd_T40 l0_0 ((rd_T42 l0_1 x7_2).f0)).f3) != t241) = false := bne_eq_false_iff_eq.mpr c56
        clear c56
        have H' := ZM H
        clear H
        obtain ⟨hcz57_0, hcz57_1, hfz57_0, hfz57_1⟩ := ZC2 BK232.out
        have p237 : 0 ≤ (x7_2 : Int) := ZOD
        have q237 : x7_2 < (l0_1.length : Int) := ZOD
        obtain ⟨ad237, e237, hx237_0, hx237_1, hx237_2⟩ := at_T42 HR0_1.out x7_2 p237 q237
        cases e237
        replace hx237_0 := ZHX HB.out hx237_0
        replace hx237_1 := ZHX HB.out hx237_1
        replace hx237_2 := ZHX HB.out hx237_2
        replace p237 := eq_true p237
        replace q237 := eq_true q237
        try go_wp2_with (first | ((with_reducible refine gate_dst (N := 8) rfl ?_); refine ZBX 8 (cs := #[.int .i64 0, .int .i64 0, .int .i64 0]) (t := 42) ?_; intro gb238 hg w58 hbox hb; have n0_ := ZM (blk_below (ZBK BK232.out) hb); have n1_ := ZM (ZW (ZBB HB.out) hb); have n2_ := ZM (hbox); have n3_ := ZM (ZGE hg HB.out); have n4_ := ZM (ZGE hg HB.out); have n5_ := ZM (ZNE hg BK232.out); have n6_ := ZM (ZNG hg BK232.out); clear BK232; clear HB; have BK232 := n0_; have HB := n1_; have BK238 := n2_; have GW238 := n3_; have GE238 := n4_; have NB232_238 := n5_; have NB238_232 := n6_; clear n0_ n1_ n2_ n3_ n4_ n5_ n6_; clear hb hbox hg; have hnb59 := NB238_232.out; have hnc59 := NB232_238.out; obtain ⟨hcz60_0, hcz60_1, hcz60_2, hfz60_0, hfz60_1, hfz60_2⟩ := ZC3 BK238.out))
        have n0_ : Aside0 ((((w58.setCell ⟨gb238, 0, none⟩ (.int .i64 ((rd_T42 l0_1 x7_2).f0))).setCell ⟨gb238, 1, none⟩ (.int .i64 ((rd_T42 l0_1 x7_2).f1))).setCell ⟨gb238, 2, none⟩ (.int .i64 ((rd_T42 l0_1 x7_2).f2))).heap[gb232]? = some (.cells #[.slice A0_0 l0_0.length c0_0, .slice (some ad237) l0_1.length c0_1] 27 (0, 0))) := ⟨ZBF BK232.out NB232_238.out⟩
        have n1_ : Aside0 ((((w58.setCell ⟨gb238, 0, none⟩ (.int .i64 ((rd_T42 l0_1 x7_2).f0))).setCell ⟨gb238, 1, none⟩ (.int .i64 ((rd_T42 l0_1 x7_2).f1))).setCell ⟨gb238, 2, none⟩ (.int .i64 ((rd_T42 l0_1 x7_2).f2))).heap[gb238]? = some (.cells #[.int .i64 ((rd_T42 l0_1 x7_2).f0), .int .i64 ((rd_T42 l0_1 x7_2).f1), .int .i64 ((rd_T42 l0_1 x7_2).f2)] 42 (0, 0))) := ⟨by (with_reducible repeat (first | refine ZR ?_ _ | refine ZS ?_ | refine ZT ?_ _)); refine blk_put (cs := #[.int .i64 ((rd_T42 l0_1 x7_2).f0), .int .i64 ((rd_T42 l0_1 x7_2).f1), .int .i64 0]) ?_ 2 _ rfl; (with_reducible repeat (first | refine ZR ?_ _ | refine ZS ?_ | refine ZT ?_ _)); refine blk_put (cs := #[.int .i64 ((rd_T42 l0_1 x7_2).f0), .int .i64 0, .int .i64 0]) ?_ 1 _ rfl; (with_reducible repeat (first | refine ZR ?_ _ | refine ZS ?_ | refine ZT ?_ _)); refine blk_put (cs := #[.int .i64 0, .int .i64 0, .int .i64 0]) ?_ 0 _ rfl; (with_reducible repeat (first | refine ZR ?_ _ | refine ZS ?_ | refine ZT ?_ _)); exact BK238.out⟩
        have n2_ : Aside0 (Below w.heap.size w (((w58.setCell ⟨gb238, 0, none⟩ (.int .i64 ((rd_T42 l0_1 x7_2).f0))).setCell ⟨gb238, 1, none⟩ (.int .i64 ((rd_T42 l0_1 x7_2).f1))).setCell ⟨gb238, 2, none⟩ (.int .i64 ((rd_T42 l0_1 x7_2).f2)))) := ⟨ZBB HB.out⟩
        (try clear BK232)
        (try clear BK238)
        (try clear HB)
        generalize (((w58.setCell ⟨gb238, 0, none⟩ (.int .i64 ((rd_T42 l0_1 x7_2).f0))).setCell ⟨gb238, 1, none⟩ (.int .i64 ((rd_T42 l0_1 x7_2).f1))).setCell ⟨gb238, 2, none⟩ (.int .i64 ((rd_T42 l0_1 x7_2).f2))) = w61 at n0_ n1_ n2_ ⊢
        have BK232 := n0_
        have BK238 := n1_
        have HB := n2_
        clear n0_ n1_ n2_
        have n0_ := ZM (ZS BK232.out)
        have n1_ := ZM (ZS BK238.out)
        have n2_ := ZM (ZP HB.out)
        clear BK232
        clear BK238
        clear HB
        have BK232 := n0_
        have BK238 := n1_
        have HB := n2_
        clear n0_ n1_ n2_
        have p239 : 0 ≤ (((rd_T42 l0_1 x7_2).f0) : Int) := ZOD
        have q239 : ((rd_T42 l0_1 x7_2).f0) < (l0_0.length : Int) := ZOD
        obtain ⟨ad239, e239, hx239_0, hx239_1, hx239_2, hx239_3⟩ := at_T40 HR0_0.out ((rd_T42 l0_1 x7_2).f0) p239 q239
        have hw239_3 := hx239_3
        have hw239_2 := hx239_2
        have hw239_1 := hx239_1
        have hw239_0 := hx239_0
        cases e239
        replace hx239_0 := ZHX HB.out hx239_0
        replace hx239_1 := ZHX HB.out hx239_1
        replace hx239_2 := ZHX HB.out hx239_2
        replace hx239_3 := ZHX HB.out hx239_3
        replace p239 := eq_true p239
        replace q239 := eq_true q239
        have p240 : 0 ≤ (((rd_T42 l0_1 x7_2).f1) : Int) := ZOD
        have q240 : ((rd_T42 l0_1 x7_2).f1) < (l0_0.length : Int) := ZOD
        obtain ⟨ad240, e240, hx240_0, hx240_1, hx240_2, hx240_3⟩ := at_T40 HR0_0.out ((rd_T42 l0_1 x7_2).f1) p240 q240
        have hw240_3 := hx240_3
        have hw240_2 := hx240_2
        have hw240_1 := hx240_1
        have hw240_0 := hx240_0
        obtain rfl : ad239 = ad240 := (by injection e240)
        replace hx240_0 := ZHX HB.out hx240_0
        replace hx240_1 := ZHX HB.out hx240_1
        replace hx240_2 := ZHX HB.out hx240_2
        replace hx240_3 := ZHX HB.out hx240_3
        replace p240 := eq_true p240
        replace q240 := eq_true q240
        refine start_ (n := 15) (S := fun w' => w'.cell? ⟨gb232, 0, none⟩ = some (.slice (some ad239) l0_0.length c0_0) ∧ w'.cell? ⟨gb232, 1, none⟩ = some (.slice (some ad237) l0_1.length c0_1) ∧ w'.cell? ⟨gb238, 0, none⟩ = some (.int .i64 ((rd_T42 l0_1 x7_2).f0)) ∧ w'.cell? ⟨gb238, 1, none⟩ = some (.int .i64 ((rd_T42 l0_1 x7_2).f1)) ∧ w'.cell? ⟨gb238, 2, none⟩ = some (.int .i64 ((rd_T42 l0_1 x7_2).f2)) ∧ w'.cell? (ad239.add ((((rd_T42 l0_1 x7_2).f0)).toNat * 4)) = some (.int .i64 ((rd_T40 l0_0 ((rd_T42 l0_1 x7_2).f0)).f0)) ∧ w'.cell? ⟨(ad239.add ((((rd_T42 l0_1 x7_2).f0)).toNat * 4)).block, (ad239.add ((((rd_T42 l0_1 x7_2).f0)).toNat * 4)).off + 1, none⟩ = some (.int .i64 ((rd_T40 l0_0 ((rd_T42 l0_1 x7_2).f0)).f1)) ∧ w'.cell? ⟨(ad239.add ((((rd_T42 l0_1 x7_2).f0)).toNat * 4)).block, (ad239.add ((((rd_T42 l0_1 x7_2).f0)).toNat * 4)).off + 2, none⟩ = some (.int .i64 ((rd_T40 l0_0 ((rd_T42 l0_1 x7_2).f0)).f2)) ∧ w'.cell? ⟨(ad239.add ((((rd_T42 l0_1 x7_2).f0)).toNat * 4)).block, (ad239.add ((((rd_T42 l0_1 x7_2).f0)).toNat * 4)).off + 3, none⟩ = some (.int .i64 ((rd_T40 l0_0 ((rd_T42 l0_1 x7_2).f0)).f3)) ∧ w'.cell? (ad239.add ((((rd_T42 l0_1 x7_2).f1)).toNat * 4)) = some (.int .i64 ((rd_T40 l0_0 ((rd_T42 l0_1 x7_2).f1)).f0)) ∧ w'.cell? ⟨(ad239.add ((((rd_T42 l0_1 x7_2).f1)).toNat * 4)).block, (ad239.add ((((rd_T42 l0_1 x7_2).f1)).toNat * 4)).off + 1, none⟩ = some (.int .i64 ((rd_T40 l0_0 ((rd_T42 l0_1 x7_2).f1)).f1)) ∧ w'.cell? ⟨(ad239.add ((((rd_T42 l0_1 x7_2).f1)).toNat * 4)).block, (ad239.add ((((rd_T42 l0_1 x7_2).f1)).toNat * 4)).off + 2, none⟩ = some (.int .i64 ((rd_T40 l0_0 ((rd_T42 l0_1 x7_2).f1)).f2)) ∧ w'.cell? ⟨(ad239.add ((((rd_T42 l0_1 x7_2).f1)).toNat * 4)).block, (ad239.add ((((rd_T42 l0_1 x7_2).f1)).toNat * 4)).off + 3, none⟩ = some (.int .i64 ((rd_T40 l0_0 ((rd_T42 l0_1 x7_2).f1)).f3))) (ds := []) #[false, false, false, false, false, false, false, false, false, false, false, false, false, false, false] (by kernel_rfl) rfl rfl ⟨(ZG BK232.out 0).trans rfl, (ZG BK232.out 1).trans rfl, (ZG BK238.out 0).trans rfl, (ZG BK238.out 1).trans rfl, (ZG BK238.out 2).trans rfl, ((HB.out.cell (ZC w _ hw239_0)).trans hw239_0), ((HB.out.cell (ZC w _ hw239_1)).trans hw239_1), ((HB.out.cell (ZC w _ hw239_2)).trans hw239_2), ((HB.out.cell (ZC w _ hw239_3)).trans hw239_3), ((HB.out.cell (ZC w _ hw240_0)).trans hw240_0), ((HB.out.cell (ZC w _ hw240_1)).trans hw240_1), ((HB.out.cell (ZC w _ hw240_2)).trans hw240_2), ((HB.out.cell (ZC w _ hw240_3)).trans hw240_3)⟩ (fun hHeld => ?_); refine with_tabW meanderref09_edges.tab13 meanderref09_edges.bits13 (fun HT_ HW_ => ?_)
        generalize w61.drew = w62 at BK232 BK238 HB hx239_0 hx239_1 hx239_2 hx239_3 hx240_0 hx240_1 hx240_2 hx240_3 hHeld ⊢
        refine ZPU (ZB 15 1) HT_.out 0 56 ?_
        refine ZPU (ZB 15 5) HT_.out 2 58 ?_
        refine ZPU (ZB 15 133) HT_.out 7 63 ?_
        refine ZPU (ZB 15 645) HT_.out 9 65 ?_
        refine ZTU (ZB 15 647) HT_.out HW_.out hHeld 1 57 ?_
        refine ZTU (ZB 15 655) HT_.out HW_.out hHeld 3 59 ?_
        refine ZPU (ZB 15 671) HT_.out 4 60 ?_
        refine ZPU (ZB 15 703) HT_.out 5 61 ?_
        refine ZTU (ZB 15 767) HT_.out HW_.out hHeld 6 62 ?_
        refine ZTU (ZB 15 1023) HT_.out HW_.out hHeld 8 64 ?_
        refine ZTU (ZB 15 2047) HT_.out HW_.out hHeld 10 66 ?_
        refine ZPU (ZB 15 4095) HT_.out 11 67 ?_
        refine ZTU (ZB 15 8191) HT_.out HW_.out hHeld 12 68 ?_
        refine one_ (i := 13) (N := some 69) (ZB 15 16383) rfl rfl (one_of HT_.out (by kernel_rfl)) (by decide) (fun K hK => ?_)
        refine goes_ Tryd.func45 (by kernel_rfl) rfl #[.agg #[.int .i64 ((rd_T40 l0_0 ((rd_T42 l0_1 x7_2).f1)).f0), .int .i64 ((rd_T40 l0_0 ((rd_T42 l0_1 x7_2).f1)).f1), .int .i64 ((rd_T40 l0_0 ((rd_T42 l0_1 x7_2).f1)).f2), .int .i64 ((rd_T40 l0_0 ((rd_T42 l0_1 x7_2).f1)).f3)]] (by rfl) rfl rfl ZH ?_
        with_reducible refine (meanderref08_InDepth.calls ((rd_T40 l0_0 ((rd_T42 l0_1 x7_2).f1)).f0) ((rd_T40 l0_0 ((rd_T42 l0_1 x7_2).f1)).f1) ((rd_T40 l0_0 ((rd_T42 l0_1 x7_2).f1)).f2) ((rd_T40 l0_0 ((rd_T42 l0_1 x7_2).f1)).f3) t241 _ A55.out).mono ?_
        rintro e w63 ⟨rfl, hb⟩
        refine ⟨_, rfl, ?_⟩
        have n0_ := ZM (blk_below (ZBK BK232.out) hb)
        have n1_ := ZM (blk_below (ZBK BK238.out) hb)
        have n2_ := ZM (ZW (ZBB HB.out) hb)
        clear BK232
        clear BK238
        clear HB
        have BK232 := n0_
        have BK238 := n1_
        have HB := n2_
        clear n0_ n1_ n2_
        (try clear hb)
        (try clear hb2)
        (try clear hk)
        (try clear hi)
        refine hK.out _ _ ⟨(ZG BK232.out 0).trans rfl, (ZG BK232.out 1).trans rfl, (ZG BK238.out 0).trans rfl, (ZG BK238.out 1).trans rfl, (ZG BK238.out 2).trans rfl, ((HB.out.cell (ZC w _ hw239_0)).trans hw239_0), ((HB.out.cell (ZC w _ hw239_1)).trans hw239_1), ((HB.out.cell (ZC w _ hw239_2)).trans hw239_2), ((HB.out.cell (ZC w _ hw239_3)).trans hw239_3), ((HB.out.cell (ZC w _ hw240_0)).trans hw240_0), ((HB.out.cell (ZC w _ hw240_1)).trans hw240_1), ((HB.out.cell (ZC w _ hw240_2)).trans hw240_2), ((HB.out.cell (ZC w _ hw240_3)).trans hw240_3)⟩ (fun hHeld => ?_)
        clear hK K
        refine norm_ (a' := ?_) ?_ ?_
        rotate_left
        ·show Act.put _ (some 69) _ = _
         simp only [Act.put, ZI, ZJ, ZK, i64_w, i32_w]
         rfl
        refine ZPU (ZB 15 32767) HT_.out 14 70 ?_
        refine done_ (done_of HT_.out (by kernel_rfl)) ?_
        try go_wp2
        go_roundg k2
        case measure => have := HK1.out; have := HK2.out; omega
        case rel => exact ⟨(wrap64 (x7_2 + 1)), ZE, H', ⟨by have := HK1.out; have := HK2.out; omega⟩, ⟨ZBK BK232.out⟩, ⟨ZBB HB.out⟩⟩
       ·rw [if_neg c56] at H
        have c56b0 : (((rd_T40 l0_0 ((rd_T42 l0_1 x7_2).f0)).f3) == t241) = false := beq_eq_false_iff_ne.mpr c56
        have c56b1 : (((rd_T40 l0_0 ((rd_T42 l0_1 x7_2).f0)).f3) != t241) = true := bne_iff_ne.mpr c56
        obtain rfl := Option.some.inj H
        obtain ⟨hcz64_0, hcz64_1, hfz64_0, hfz64_1⟩ := ZC2 BK232.out
        have p237 : 0 ≤ (x7_2 : Int) := ZOD
        have q237 : x7_2 < (l0_1.length : Int) := ZOD
        obtain ⟨ad237, e237, hx237_0, hx237_1, hx237_2⟩ := at_T42 HR0_1.out x7_2 p237 q237
        cases e237
        replace hx237_0 := ZHX HB.out hx237_0
        replace hx237_1 := ZHX HB.out hx237_1
        replace hx237_2 := ZHX HB.out hx237_2
        replace p237 := eq_true p237
        replace q237 := eq_true q237
        try go_wp2_with (first | ((with_reducible refine gate_dst (N := 8) rfl ?_); refine ZBX 8 (cs := #[.int .i64 0, .int .i64 0, .int .i64 0]) (t := 42) ?_; intro gb238 hg w65 hbox hb; have n0_ := ZM (blk_below (ZBK BK232.out) hb); have n1_ := ZM (ZW (ZBB HB.out) hb); have n2_ := ZM (hbox); have n3_ := ZM (ZGE hg HB.out); have n4_ := ZM (ZGE hg HB.out); have n5_ := ZM (ZNE hg BK232.out); have n6_ := ZM (ZNG hg BK232.out); clear BK232; clear HB; have BK232 := n0_; have HB := n1_; have BK238 := n2_; have GW238 := n3_; have GE238 := n4_; have NB232_238 := n5_; have NB238_232 := n6_; clear n0_ n1_ n2_ n3_ n4_ n5_ n6_; clear hb hbox hg; have hnb66 := NB238_232.out; have hnc66 := NB232_238.out; obtain ⟨hcz67_0, hcz67_1, hcz67_2, hfz67_0, hfz67_1, hfz67_2⟩ := ZC3 BK238.out))
        have n0_ : Aside0 ((((w65.setCell ⟨gb238, 0, none⟩ (.int .i64 ((rd_T42 l0_1 x7_2).f0))).setCell ⟨gb238, 1, none⟩ (.int .i64 ((rd_T42 l0_1 x7_2).f1))).setCell ⟨gb238, 2, none⟩ (.int .i64 ((rd_T42 l0_1 x7_2).f2))).heap[gb232]? = some (.cells #[.slice A0_0 l0_0.length c0_0, .slice (some ad237) l0_1.length c0_1] 27 (0, 0))) := ⟨ZBF BK232.out NB232_238.out⟩
        have n1_ : Aside0 ((((w65.setCell ⟨gb238, 0, none⟩ (.int .i64 ((rd_T42 l0_1 x7_2).f0))).setCell ⟨gb238, 1, none⟩ (.int .i64 ((rd_T42 l0_1 x7_2).f1))).setCell ⟨gb238, 2, none⟩ (.int .i64 ((rd_T42 l0_1 x7_2).f2))).heap[gb238]? = some (.cells #[.int .i64 ((rd_T42 l0_1 x7_2).f0), .int .i64 ((rd_T42 l0_1 x7_2).f1), .int .i64 ((rd_T42 l0_1 x7_2).f2)] 42 (0, 0))) := ⟨by (with_reducible repeat (first | refine ZR ?_ _ | refine ZS ?_ | refine ZT ?_ _)); refine blk_put (cs := #[.int .i64 ((rd_T42 l0_1 x7_2).f0), .int .i64 ((rd_T42 l0_1 x7_2).f1), .int .i64 0]) ?_ 2 _ rfl; (with_reducible repeat (first | refine ZR ?_ _ | refine ZS ?_ | refine ZT ?_ _)); refine blk_put (cs := #[.int .i64 ((rd_T42 l0_1 x7_2).f0), .int .i64 0, .int .i64 0]) ?_ 1 _ rfl; (with_reducible repeat (first | refine ZR ?_ _ | refine ZS ?_ | refine ZT ?_ _)); refine blk_put (cs := #[.int .i64 0, .int .i64 0, .int .i64 0]) ?_ 0 _ rfl; (with_reducible repeat (first | refine ZR ?_ _ | refine ZS ?_ | refine ZT ?_ _)); exact BK238.out⟩
        have n2_ : Aside0 (Below w.heap.size w (((w65.setCell ⟨gb238, 0, none⟩ (.int .i64 ((rd_T42 l0_1 x7_2).f0))).setCell ⟨gb238, 1, none⟩ (.int .i64 ((rd_T42 l0_1 x7_2).f1))).setCell ⟨gb238, 2, none⟩ (.int .i64 ((rd_T42 l0_1 x7_2).f2)))) := ⟨ZBB HB.out⟩
        (try clear BK232)
        (try clear BK238)
        (try clear HB)
        generalize (((w65.setCell ⟨gb238, 0, none⟩ (.int .i64 ((rd_T42 l0_1 x7_2).f0))).setCell ⟨gb238, 1, none⟩ (.int .i64 ((rd_T42 l0_1 x7_2).f1))).setCell ⟨gb238, 2, none⟩ (.int .i64 ((rd_T42 l0_1 x7_2).f2))) = w68 at n0_ n1_ n2_ ⊢
        have BK232 := n0_
        have BK238 := n1_
        have HB := n2_
        clear n0_ n1_ n2_
        have n0_ := ZM (ZS BK232.out)
        have n1_ := ZM (ZS BK238.out)
        have n2_ := ZM (ZP HB.out)
        clear BK232
        clear BK238
        clear HB
        have BK232 := n0_
        have BK238 := n1_
        have HB := n2_
        clear n0_ n1_ n2_
        have p239 : 0 ≤ (((rd_T42 l0_1 x7_2).f0) : Int) := ZOD
        have q239 : ((rd_T42 l0_1 x7_2).f0) < (l0_0.length : Int) := ZOD
        obtain ⟨ad239, e239, hx239_0, hx239_1, hx239_2, hx239_3⟩ := at_T40 HR0_0.out ((rd_T42 l0_1 x7_2).f0) p239 q239
        have hw239_3 := hx239_3
        have hw239_2 := hx239_2
        have hw239_1 := hx239_1
        have hw239_0 := hx239_0
        cases e239
        replace hx239_0 := ZHX HB.out hx239_0
        replace hx239_1 := ZHX HB.out hx239_1
        replace hx239_2 := ZHX HB.out hx239_2
        replace hx239_3 := ZHX HB.out hx239_3
        replace p239 := eq_true p239
        replace q239 := eq_true q239
        have p240 : 0 ≤ (((rd_T42 l0_1 x7_2).f1) : Int) := ZOD
        have q240 : ((rd_T42 l0_1 x7_2).f1) < (l0_0.length : Int) := ZOD
        obtain ⟨ad240, e240, hx240_0, hx240_1, hx240_2, hx240_3⟩ := at_T40 HR0_0.out ((rd_T42 l0_1 x7_2).f1) p240 q240
        have hw240_3 := hx240_3
        have hw240_2 := hx240_2
        have hw240_1 := hx240_1
        have hw240_0 := hx240_0
        obtain rfl : ad239 = ad240 := (by injection e240)
        replace hx240_0 := ZHX HB.out hx240_0
        replace hx240_1 := ZHX HB.out hx240_1
        replace hx240_2 := ZHX HB.out hx240_2
        replace hx240_3 := ZHX HB.out hx240_3
        replace p240 := eq_true p240
        replace q240 := eq_true q240
        refine start_ (n := 15) (S := fun w' => w'.cell? ⟨gb232, 0, none⟩ = some (.slice (some ad239) l0_0.length c0_0) ∧ w'.cell? ⟨gb232, 1, none⟩ = some (.slice (some ad237) l0_1.length c0_1) ∧ w'.cell? ⟨gb238, 0, none⟩ = some (.int .i64 ((rd_T42 l0_1 x7_2).f0)) ∧ w'.cell? ⟨gb238, 1, none⟩ = some (.int .i64 ((rd_T42 l0_1 x7_2).f1)) ∧ w'.cell? ⟨gb238, 2, none⟩ = some (.int .i64 ((rd_T42 l0_1 x7_2).f2)) ∧ w'.cell? (ad239.add ((((rd_T42 l0_1 x7_2).f0)).toNat * 4)) = some (.int .i64 ((rd_T40 l0_0 ((rd_T42 l0_1 x7_2).f0)).f0)) ∧ w'.cell? ⟨(ad239.add ((((rd_T42 l0_1 x7_2).f0)).toNat * 4)).block, (ad239.add ((((rd_T42 l0_1 x7_2).f0)).toNat * 4)).off + 1, none⟩ = some (.int .i64 ((rd_T40 l0_0 ((rd_T42 l0_1 x7_2).f0)).f1)) ∧ w'.cell? ⟨(ad239.add ((((rd_T42 l0_1 x7_2).f0)).toNat * 4)).block, (ad239.add ((((rd_T42 l0_1 x7_2).f0)).toNat * 4)).off + 2, none⟩ = some (.int .i64 ((rd_T40 l0_0 ((rd_T42 l0_1 x7_2).f0)).f2)) ∧ w'.cell? ⟨(ad239.add ((((rd_T42 l0_1 x7_2).f0)).toNat * 4)).block, (ad239.add ((((rd_T42 l0_1 x7_2).f0)).toNat * 4)).off + 3, none⟩ = some (.int .i64 ((rd_T40 l0_0 ((rd_T42 l0_1 x7_2).f0)).f3)) ∧ w'.cell? (ad239.add ((((rd_T42 l0_1 x7_2).f1)).toNat * 4)) = some (.int .i64 ((rd_T40 l0_0 ((rd_T42 l0_1 x7_2).f1)).f0)) ∧ w'.cell? ⟨(ad239.add ((((rd_T42 l0_1 x7_2).f1)).toNat * 4)).block, (ad239.add ((((rd_T42 l0_1 x7_2).f1)).toNat * 4)).off + 1, none⟩ = some (.int .i64 ((rd_T40 l0_0 ((rd_T42 l0_1 x7_2).f1)).f1)) ∧ w'.cell? ⟨(ad239.add ((((rd_T42 l0_1 x7_2).f1)).toNat * 4)).block, (ad239.add ((((rd_T42 l0_1 x7_2).f1)).toNat * 4)).off + 2, none⟩ = some (.int .i64 ((rd_T40 l0_0 ((rd_T42 l0_1 x7_2).f1)).f2)) ∧ w'.cell? ⟨(ad239.add ((((rd_T42 l0_1 x7_2).f1)).toNat * 4)).block, (ad239.add ((((rd_T42 l0_1 x7_2).f1)).toNat * 4)).off + 3, none⟩ = some (.int .i64 ((rd_T40 l0_0 ((rd_T42 l0_1 x7_2).f1)).f3))) (ds := []) #[false, false, false, false, false, false, false, false, false, false, false, false, false, false, false] (by kernel_rfl) rfl rfl ⟨(ZG BK232.out 0).trans rfl, (ZG BK232.out 1).trans rfl, (ZG BK238.out 0).trans rfl, (ZG BK238.out 1).trans rfl, (ZG BK238.out 2).trans rfl, ((HB.out.cell (ZC w _ hw239_0)).trans hw239_0), ((HB.out.cell (ZC w _ hw239_1)).trans hw239_1), ((HB.out.cell (ZC w _ hw239_2)).trans hw239_2), ((HB.out.cell (ZC w _ hw239_3)).trans hw239_3), ((HB.out.cell (ZC w _ hw240_0)).trans hw240_0), ((HB.out.cell (ZC w _ hw240_1)).trans hw240_1), ((HB.out.cell (ZC w _ hw240_2)).trans hw240_2), ((HB.out.cell (ZC w _ hw240_3)).trans hw240_3)⟩ (fun hHeld => ?_); refine with_tabW meanderref09_edges.tab13 meanderref09_edges.bits13 (fun HT_ HW_ => ?_)
        generalize w68.drew = w69 at BK232 BK238 HB hx239_0 hx239_1 hx239_2 hx239_3 hx240_0 hx240_1 hx240_2 hx240_3 hHeld ⊢
        refine ZPU (ZB 15 1) HT_.out 0 56 ?_
        refine ZPU (ZB 15 5) HT_.out 2 58 ?_
        refine ZPU (ZB 15 133) HT_.out 7 63 ?_
        refine ZPU (ZB 15 645) HT_.out 9 65 ?_
        refine ZTU (ZB 15 647) HT_.out HW_.out hHeld 1 57 ?_
        refine ZTU (ZB 15 655) HT_.out HW_.out hHeld 3 59 ?_
        refine ZPU (ZB 15 671) HT_.out 4 60 ?_
        refine ZPU (ZB 15 703) HT_.out 5 61 ?_
        refine ZTU (ZB 15 767) HT_.out HW_.out hHeld 6 62 ?_
        refine ZTU (ZB 15 1023) HT_.out HW_.out hHeld 8 64 ?_
        refine ZTU (ZB 15 2047) HT_.out HW_.out hHeld 10 66 ?_
        refine ZPU (ZB 15 4095) HT_.out 11 67 ?_
        refine ZTU (ZB 15 8191) HT_.out HW_.out hHeld 12 68 ?_
        refine one_ (i := 13) (N := some 69) (ZB 15 16383) rfl rfl (one_of HT_.out (by kernel_rfl)) (by decide) (fun K hK => ?_)
        refine goes_ Tryd.func45 (by kernel_rfl) rfl #[.agg #[.int .i64 ((rd_T40 l0_0 ((rd_T42 l0_1 x7_2).f1)).f0), .int .i64 ((rd_T40 l0_0 ((rd_T42 l0_1 x7_2).f1)).f1), .int .i64 ((rd_T40 l0_0 ((rd_T42 l0_1 x7_2).f1)).f2), .int .i64 ((rd_T40 l0_0 ((rd_T42 l0_1 x7_2).f1)).f3)]] (by rfl) rfl rfl ZH ?_
        with_reducible refine (meanderref08_InDepth.calls ((rd_T40 l0_0 ((rd_T42 l0_1 x7_2).f1)).f0) ((rd_T40 l0_0 ((rd_T42 l0_1 x7_2).f1)).f1) ((rd_T40 l0_0 ((rd_T42 l0_1 x7_2).f1)).f2) ((rd_T40 l0_0 ((rd_T42 l0_1 x7_2).f1)).f3) t241 _ A55.out).mono ?_
        rintro e w70 ⟨rfl, hb⟩
        refine ⟨_, rfl, ?_⟩
        have n0_ := ZM (blk_below (ZBK BK232.out) hb)
        have n1_ := ZM (blk_below (ZBK BK238.out) hb)
        have n2_ := ZM (ZW (ZBB HB.out) hb)
        clear BK232
        clear BK238
        clear HB
        have BK232 := n0_
        have BK238 := n1_
        have HB := n2_
        clear n0_ n1_ n2_
        (try clear hb)
        (try clear hb2)
        (try clear hk)
        (try clear hi)
        refine hK.out _ _ ⟨(ZG BK232.out 0).trans rfl, (ZG BK232.out 1).trans rfl, (ZG BK238.out 0).trans rfl, (ZG BK238.out 1).trans rfl, (ZG BK238.out 2).trans rfl, ((HB.out.cell (ZC w _ hw239_0)).trans hw239_0), ((HB.out.cell (ZC w _ hw239_1)).trans hw239_1), ((HB.out.cell (ZC w _ hw239_2)).trans hw239_2), ((HB.out.cell (ZC w _ hw239_3)).trans hw239_3), ((HB.out.cell (ZC w _ hw240_0)).trans hw240_0), ((HB.out.cell (ZC w _ hw240_1)).trans hw240_1), ((HB.out.cell (ZC w _ hw240_2)).trans hw240_2), ((HB.out.cell (ZC w _ hw240_3)).trans hw240_3)⟩ (fun hHeld => ?_)
        clear hK K
        refine norm_ (a' := ?_) ?_ ?_
        rotate_left
        ·show Act.put _ (some 69) _ = _
         simp only [Act.put, ZI, ZJ, ZK, i64_w, i32_w]
         rfl
        refine ZPU (ZB 15 32767) HT_.out 14 70 ?_
        refine done_ (done_of HT_.out (by kernel_rfl)) ?_
        try go_wp2
        go_ret
        exact ⟨ZEE, ZBB HB.out⟩
      ·rw [if_neg c49] at H
       have c49b0 : decide (x7_2 < (l0_1.length : Int)) = false := decide_eq_false c49
       clear c49
       obtain rfl := Option.some.inj H
       obtain ⟨hcz71_0, hcz71_1, hfz71_0, hfz71_1⟩ := ZC2 BK232.out
       go_wp2
       go_ret
       exact ⟨ZEE, ZBB HB.out⟩

end Go.Proofs.YtbjjcolbomaodaaDoor.PTks
