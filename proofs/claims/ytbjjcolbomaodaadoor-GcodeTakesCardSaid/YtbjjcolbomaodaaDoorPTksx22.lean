-- Laid by hprint.py of this repo: the kit's printer, and contracts by hand beside it. Not trusted: Lean checks it.
import Derived.Test.YtbjjcolbomaodaaDoorWZ
import Derived.Test.YtbjjcolbomaodaaDoorWY
import Derived.Test.YtbjjcolbomaodaaDoorPTksx0
import Derived.Test.YtbjjcolbomaodaaDoorPTksx1
import Derived.Test.YtbjjcolbomaodaaDoorPTksx2
import Derived.Test.YtbjjcolbomaodaaDoorPTksx4
import Derived.Test.YtbjjcolbomaodaaDoorPTksx5
import Derived.Test.YtbjjcolbomaodaaDoorPTksx7
import Derived.Test.YtbjjcolbomaodaaDoorPTksx14
import Derived.Test.YtbjjcolbomaodaaDoorPTksx21
namespace Go.Proofs.YtbjjcolbomaodaaDoor.PTks
open Go.RowKit Go.Proofs.YtbjjcolbomaodaaDoorW.PrintWords Go.Proofs.YtbjjcolbomaodaaDoorW.PrintLast Go.Proofs.YtbjjcolbomaodaaDoorW.PrintMore
attribute [local go_sem] max2_int min2_int max_two min_two max_three min_three max_four min_four   -- for this text's walks alone
set_option linter.unusedVariables false
set_option linter.unusedSimpArgs false

attribute [local go_sem high] eqA40 eqA42
/-! ### meanderref08_SameGraph: function 13 -/
mutual
def meanderref08_SameGraph.j0 : Nat → Bool → List (S40) → List (S42) → List (S40) → List (S42) → Option (Bool)
 | 0, _, _, _, _, _ => none
 | k + 1, x22, x307000, x307001, x308000, x308001 => if x22 = true then (some false) else (meanderref08_SameGraph.l0 k 0 x307000 x307001 x308000 x308001)
def meanderref08_SameGraph.l0 : Nat → Int → List (S40) → List (S42) → List (S40) → List (S42) → Option (Bool)
 | 0, _, _, _, _, _ => none
 | k + 1, x5, x307000, x307001, x308000, x308001 => if x5 < (x307000.length : Int) then (if 0 ≤ x5 then (if x5 < (x308000.length : Int) then (if (!(((rd_T40 x307000 x5).f0) == ((rd_T40 x308000 x5).f0)) || (!(((rd_T40 x307000 x5).f1) == ((rd_T40 x308000 x5).f1)) || (!(((rd_T40 x307000 x5).f2) == ((rd_T40 x308000 x5).f2)) || (!(((rd_T40 x307000 x5).f3) == ((rd_T40 x308000 x5).f3)))))) = true then (some false) else (meanderref08_SameGraph.l0 k (wrap64 (x5 + 1)) x307000 x307001 x308000 x308001)) else (none)) else (none)) else (meanderref08_SameGraph.l1 k 0 x307000 x307001 x308000 x308001)
def meanderref08_SameGraph.l1 : Nat → Int → List (S40) → List (S42) → List (S40) → List (S42) → Option (Bool)
 | 0, _, _, _, _, _ => none
 | k + 1, x6, x307000, x307001, x308000, x308001 => if x6 < (x307001.length : Int) then (if 0 ≤ x6 then (if x6 < (x308001.length : Int) then (if (!(((rd_T42 x307001 x6).f0) == ((rd_T42 x308001 x6).f0)) || (!(((rd_T42 x307001 x6).f1) == ((rd_T42 x308001 x6).f1)) || (!(((rd_T42 x307001 x6).f2) == ((rd_T42 x308001 x6).f2))))) = true then (some false) else (meanderref08_SameGraph.l1 k (wrap64 (x6 + 1)) x307000 x307001 x308000 x308001)) else (none)) else (none)) else (some true)
end
def meanderref08_SameGraph.f (k : Nat) (l0_0 : List (S40)) (l0_1 : List (S42)) (l1_0 : List (S40)) (l1_1 : List (S42)) : Option (Bool) := if (l0_0.length : Int) = (l1_0.length : Int) then (meanderref08_SameGraph.j0 k ((l0_1.length : Int) != (l1_1.length : Int)) l0_0 l0_1 l1_0 l1_1) else (meanderref08_SameGraph.j0 k true l0_0 l0_1 l1_0 l1_1)
theorem meanderref08_SameGraph.mono_l : ∀ k, (∀ y0 y1 y2 y3 y4, LeO (meanderref08_SameGraph.j0 k y0 y1 y2 y3 y4) (meanderref08_SameGraph.j0 (k + 1) y0 y1 y2 y3 y4)) ∧ (∀ y0 y1 y2 y3 y4, LeO (meanderref08_SameGraph.l0 k y0 y1 y2 y3 y4) (meanderref08_SameGraph.l0 (k + 1) y0 y1 y2 y3 y4)) ∧ (∀ y0 y1 y2 y3 y4, LeO (meanderref08_SameGraph.l1 k y0 y1 y2 y3 y4) (meanderref08_SameGraph.l1 (k + 1) y0 y1 y2 y3 y4))
 | 0 => ⟨fun _ _ _ _ _ r h => by simp [meanderref08_SameGraph.j0] at h, fun _ _ _ _ _ r h => by simp [meanderref08_SameGraph.l0] at h, fun _ _ _ _ _ r h => by simp [meanderref08_SameGraph.l1] at h⟩
 | k + 1 => by
  obtain ⟨ih0, ih1, ih2⟩ := meanderref08_SameGraph.mono_l k
  refine ⟨?_, ?_, ?_⟩
  ·intro y0 y1 y2 y3 y4
   unfold meanderref08_SameGraph.j0
   repeat' first
   | (with_reducible exact ih0 _ _ _ _ _)
   | (with_reducible exact ih1 _ _ _ _ _)
   | (with_reducible exact ih2 _ _ _ _ _)
   | (with_reducible exact LeO.refl _)
   | (with_reducible exact LeO.none _)
   | (with_reducible refine LeO.ite ?_ ?_)
   | (with_reducible refine LeO.bind ?_ (fun _ => ?_))
   | exact ih0 _ _ _ _ _
   | exact ih1 _ _ _ _ _
   | exact ih2 _ _ _ _ _
   | exact LeO.none _
   | refine LeO.ite ?_ ?_
   | refine LeO.bind ?_ (fun _ => ?_)
  ·intro y0 y1 y2 y3 y4
   unfold meanderref08_SameGraph.l0
   repeat' first
   | (with_reducible exact ih0 _ _ _ _ _)
   | (with_reducible exact ih1 _ _ _ _ _)
   | (with_reducible exact ih2 _ _ _ _ _)
   | (with_reducible exact LeO.refl _)
   | (with_reducible exact LeO.none _)
   | (with_reducible refine LeO.ite ?_ ?_)
   | (with_reducible refine LeO.bind ?_ (fun _ => ?_))
   | exact ih0 _ _ _ _ _
   | exact ih1 _ _ _ _ _
   | exact ih2 _ _ _ _ _
   | exact LeO.none _
   | refine LeO.ite ?_ ?_
   | refine LeO.bind ?_ (fun _ => ?_)
  ·intro y0 y1 y2 y3 y4
   unfold meanderref08_SameGraph.l1
   repeat' first
   | (with_reducible exact ih0 _ _ _ _ _)
   | (with_reducible exact ih1 _ _ _ _ _)
   | (with_reducible exact ih2 _ _ _ _ _)
   | (with_reducible exact LeO.refl _)
   | (with_reducible exact LeO.none _)
   | (with_reducible refine LeO.ite ?_ ?_)
   | (with_reducible refine LeO.bind ?_ (fun _ => ?_))
   | exact ih0 _ _ _ _ _
   | exact ih1 _ _ _ _ _
   | exact ih2 _ _ _ _ _
   | exact LeO.none _
   | refine LeO.ite ?_ ?_
   | refine LeO.bind ?_ (fun _ => ?_)
theorem meanderref08_SameGraph.mono : ∀ a0 a1 a2 a3 k, LeO (meanderref08_SameGraph.f k a0 a1 a2 a3) (meanderref08_SameGraph.f (k + 1) a0 a1 a2 a3) := by
 intro a0 a1 a2 a3 k
 obtain ⟨ih0, ih1, ih2⟩ := meanderref08_SameGraph.mono_l k
 unfold meanderref08_SameGraph.f
 repeat' first
   | (with_reducible exact ih0 _ _ _ _ _)
   | (with_reducible exact ih1 _ _ _ _ _)
   | (with_reducible exact ih2 _ _ _ _ _)
   | (with_reducible exact LeO.refl _)
   | (with_reducible exact LeO.none _)
   | (with_reducible refine LeO.ite ?_ ?_)
   | (with_reducible refine LeO.bind ?_ (fun _ => ?_))
   | exact ih0 _ _ _ _ _
   | exact ih1 _ _ _ _ _
   | exact ih2 _ _ _ _ _
   | exact LeO.none _
   | refine LeO.ite ?_ ?_
   | refine LeO.bind ?_ (fun _ => ?_)
set_option maxHeartbeats 8000000 in
set_option maxRecDepth 100000 in
theorem meanderref08_SameGraph.calls (k : Nat) (A0_0 : Option Addr) (c0_0 : Nat) (l0_0 : List (S40)) (A0_1 : Option Addr) (c0_1 : Nat) (l0_1 : List (S42)) (A1_0 : Option Addr) (c1_0 : Nat) (l1_0 : List (S40)) (A1_1 : Option Addr) (c1_1 : Nat) (l1_1 : List (S42)) (r : Bool) (w : World) (hr0_0 : Kd.C k40 w A0_0 l0_0.length l0_0) (hc0_0 : l0_0.length ≤ c0_0) (hr0_1 : Kd.C k42 w A0_1 l0_1.length l0_1) (hc0_1 : l0_1.length ≤ c0_1) (hr1_0 : Kd.C k40 w A1_0 l1_0.length l1_0) (hc1_0 : l1_0.length ≤ c1_0) (hr1_1 : Kd.C k42 w A1_1 l1_1.length l1_1) (hc1_1 : l1_1.length ≤ c1_1) (h : meanderref08_SameGraph.f k l0_0 l0_1 l1_0 l1_1 = some r) :
  Calls Tryd.prog 13 #[.agg #[.slice A0_0 l0_0.length c0_0, .slice A0_1 l0_1.length c0_1], .agg #[.slice A1_0 l1_0.length c1_0, .slice A1_1 l1_1.length c1_1]] w fun e w' => e = .returned (.bool r) ∧ Below w.heap.size w w' := by
 have hu27 := Tryd.underlying27
 have hu40 := Tryd.underlying40
 have hu42 := Tryd.underlying42
 have HR0_0 := ZM hr0_0
 have HC0_0 := ZM hc0_0
 clear hr0_0 hc0_0
 have HR0_1 := ZM hr0_1
 have HC0_1 := ZM hc0_1
 clear hr0_1 hc0_1
 have HR1_0 := ZM hr1_0
 have HC1_0 := ZM hc1_0
 clear hr1_0 hc1_0
 have HR1_1 := ZM hr1_1
 have HC1_1 := ZM hc1_1
 clear hr1_1 hc1_1
 have HB := ZM (Below.refl w.heap.size w)
 have H : (if (l0_0.length : Int) = (l1_0.length : Int) then (meanderref08_SameGraph.j0 k ((l0_1.length : Int) != (l1_1.length : Int)) l0_0 l0_1 l1_0 l1_1) else (meanderref08_SameGraph.j0 k true l0_0 l0_1 l1_0 l1_1)) = some r := h
 clear h
 have HC3 := ZM H
 clear H
 go_enter Tryd.func13, Tryd.ntmps13
 go_upto_region 1 with (first | ((with_reducible refine gate_dst (N := 2) rfl ?_); (try (refine gate_guard (by rfl) ?_; dsimp only)); refine ZBX 2 (cs := #[.slice A0_0 l0_0.length c0_0, .slice A0_1 l0_1.length c0_1]) (t := 27) ?_; intro gb306 hg w4 hbox hb; have n0_ := ZM (ZW (ZBB HB.out) hb); have n1_ := ZM (hbox); have n2_ := ZM (ZGE hg HB.out); have n3_ := ZM (ZGE hg HB.out); clear HB; have HB := n0_; have BK306 := n1_; have GW306 := n2_; have GE306 := n3_; clear n0_ n1_ n2_ n3_; clear hb hbox hg) | ((with_reducible refine gate_dst (N := 3) rfl ?_); (try (refine gate_guard (by rfl) ?_; dsimp only)); refine ZBX 3 (cs := #[.slice A1_0 l1_0.length c1_0, .slice A1_1 l1_1.length c1_1]) (t := 27) ?_; intro gb307 hg w5 hbox hb; have n0_ := ZM (blk_below (ZBK BK306.out) hb); have n1_ := ZM (ZW (ZBB HB.out) hb); have n2_ := ZM (hbox); have n3_ := ZM (ZGE hg HB.out); have n4_ := ZM (ZGE hg HB.out); have n5_ := ZM (ZNE hg BK306.out); have n6_ := ZM (ZNG hg BK306.out); clear BK306; clear HB; have BK306 := n0_; have HB := n1_; have BK307 := n2_; have GW307 := n3_; have GE307 := n4_; have NB306_307 := n5_; have NB307_306 := n6_; clear n0_ n1_ n2_ n3_ n4_ n5_ n6_; clear hb hbox hg))
 repeat (go_quiet (fail); go_upto_region 1 with (fail))
 (try simp only [Act.put, ZI, ZJ, ZK])
 go_cut [22] (fun v22 wc => ∃ (kq : Nat) (x22_2 : Bool), v22 = .bool x22_2 ∧ Aside0 (meanderref08_SameGraph.j0 kq x22_2 l0_0 l0_1 l1_0 l1_1 = some r) ∧ Aside0 (kq ≤ k) ∧ Aside0 (wc.heap[gb306]? = some (.cells #[(.slice A0_0 l0_0.length c0_0), (.slice A0_1 l0_1.length c0_1)] 27 (0, 0))) ∧ Aside0 (wc.heap[gb307]? = some (.cells #[(.slice A1_0 l1_0.length c1_0), (.slice A1_1 l1_1.length c1_1)] 27 (0, 0))) ∧ Aside0 (Below w.heap.size w wc))
 case first =>
  have H := HC3.out
  clear HC3
  by_cases c6 : (l0_0.length : Int) = (l1_0.length : Int)
  ·rw [if_pos c6] at H
   have c6b0 : ((l0_0.length : Int) == (l1_0.length : Int)) = true := beq_iff_eq.mpr c6
   have c6b1 : ((l0_0.length : Int) != (l1_0.length : Int)) = false := bne_eq_false_iff_eq.mpr c6
   have c6b2 : (l0_0.length == l1_0.length) = true := by first | simpa using c6 | (simp at c6 ⊢; omega)
   clear c6
   (first | rw [c6b0] | (simp only [i64_w, i32_w]; rw [c6b0]) | skip)
   have H' := ZM H
   clear H
   have hnb7 := NB306_307.out
   have hnc7 := NB307_306.out
   obtain ⟨hcz8_0, hcz8_1, hfz8_0, hfz8_1⟩ := ZC2 BK306.out
   obtain ⟨hcz9_0, hcz9_1, hfz9_0, hfz9_1⟩ := ZC2 BK307.out
   go_wp2
   repeat (go_quiet (fail); try go_wp2)
   go_meet
   case rel => exact ⟨_, (((l0_1.length : Int) != (l1_1.length : Int))), ZE, H', ⟨by first | omega | exact Nat.le_refl _⟩, ⟨ZBK BK306.out⟩, ⟨ZBK BK307.out⟩, ⟨ZBB HB.out⟩⟩
  ·rw [if_neg c6] at H
   have c6b0 : ((l0_0.length : Int) == (l1_0.length : Int)) = false := beq_eq_false_iff_ne.mpr c6
   have c6b1 : ((l0_0.length : Int) != (l1_0.length : Int)) = true := bne_iff_ne.mpr c6
   have c6b2 : (l0_0.length == l1_0.length) = false := by first | simpa using c6 | (simp at c6 ⊢; omega)
   (first | rw [c6b0] | (simp only [i64_w, i32_w]; rw [c6b0]) | skip)
   have H' := ZM H
   clear H
   have hnb10 := NB306_307.out
   have hnc10 := NB307_306.out
   obtain ⟨hcz11_0, hcz11_1, hfz11_0, hfz11_1⟩ := ZC2 BK306.out
   obtain ⟨hcz12_0, hcz12_1, hfz12_0, hfz12_1⟩ := ZC2 BK307.out
   go_wp2
   repeat (go_quiet (fail); try go_wp2)
   go_meet
   case rel => exact ⟨_, (true), ZE, H', ⟨by first | omega | exact Nat.le_refl _⟩, ⟨ZBK BK306.out⟩, ⟨ZBK BK307.out⟩, ⟨ZBB HB.out⟩⟩
 case rest =>
  clear HC3
  try clear c6
  try clear c6b0
  try clear c6b1
  try clear c6b2
  try clear hcz11_0
  try clear hcz11_1
  try clear hcz12_0
  try clear hcz12_1
  try clear hcz8_0
  try clear hcz8_1
  try clear hcz9_0
  try clear hcz9_1
  try clear hfz11_0
  try clear hfz11_1
  try clear hfz12_0
  try clear hfz12_1
  try clear hfz8_0
  try clear hfz8_1
  try clear hfz9_0
  try clear hfz9_1
  obtain ⟨kq, x22_2, rfl, HA, HJ2, BK306, BK307, HB⟩ := hcut
  cases kq with
  | zero => exact absurd HA.out (by simp [meanderref08_SameGraph.j0])
  | succ kj2 =>
   have H := HA.out
   clear HA
   simp only [meanderref08_SameGraph.j0] at H
   by_cases c13 : x22_2 = true
   ·subst c13
    have H1 : (some false) = some r := by rw [if_pos rfl] at H; exact H
    clear H
    have H := H1
    clear H1
    obtain rfl := Option.some.inj H
    go_wp2
    repeat (go_quiet (fail); try go_wp2)
    go_ret
    exact ⟨ZEE, ZBB HB.out⟩
   ·replace c13 := Bool.eq_false_iff.mpr c13
    subst c13
    have H1 : (meanderref08_SameGraph.l0 kj2 0 l0_0 l0_1 l1_0 l1_1) = some r := by rw [if_neg (show ¬ (false = true) by decide)] at H; exact H
    clear H
    have H := H1
    clear H1
    have H' := ZM H
    clear H
    go_wp2
    repeat (go_quiet (fail); try go_wp2)
    go_loopg [5] kj2 (fun kq v5 w' => ∃ (x5_2 : Int), v5 = .int .i64 x5_2 ∧ Aside0 (meanderref08_SameGraph.l0 kq x5_2 l0_0 l0_1 l1_0 l1_1 = some r) ∧ Aside0 (kq ≤ kj2) ∧ Aside0 (w'.heap[gb306]? = some (.cells #[(.slice A0_0 l0_0.length c0_0), (.slice A0_1 l0_1.length c0_1)] 27 (0, 0))) ∧ Aside0 (w'.heap[gb307]? = some (.cells #[(.slice A1_0 l1_0.length c1_0), (.slice A1_1 l1_1.length c1_1)] 27 (0, 0))) ∧ Aside0 (Below w.heap.size w w'))
    case atStart => exact ⟨(0), ZE, H', ⟨Nat.le_refl _⟩, ⟨ZBK BK306.out⟩, ⟨ZBK BK307.out⟩, ⟨ZBB HB.out⟩⟩
    case round =>
     clear H'
     try clear c6
     try clear c6b0
     try clear c6b1
     try clear c6b2
     try clear c13
     try clear hcz11_0
     try clear hcz11_1
     try clear hcz12_0
     try clear hcz12_1
     try clear hcz8_0
     try clear hcz8_1
     try clear hcz9_0
     try clear hcz9_1
     try clear hfz11_0
     try clear hfz11_1
     try clear hfz12_0
     try clear hfz12_1
     try clear hfz8_0
     try clear hfz8_1
     try clear hfz9_0
     try clear hfz9_1
     obtain ⟨x5_2, rfl, HA, HK2, BK306, BK307, HB⟩ := hrel
     cases gk with
     | zero => exact absurd HA.out (by simp [meanderref08_SameGraph.l0])
     | succ k2 =>
      have H := HA.out
      clear HA
      simp only [meanderref08_SameGraph.l0] at H
      by_cases c14 : x5_2 < (l0_0.length : Int)
      ·rw [if_pos c14] at H
       have c14b0 : decide (x5_2 < (l0_0.length : Int)) = true := decide_eq_true c14
       clear c14
       by_cases c15 : 0 ≤ x5_2
       case neg =>
        rw [if_neg c15] at H
        exact absurd H (by simp)
       rw [if_pos c15] at H
       have c15b0 : decide (0 ≤ x5_2) = true := decide_eq_true c15
       clear c15
       by_cases c16 : x5_2 < (l1_0.length : Int)
       case neg =>
        rw [if_neg c16] at H
        exact absurd H (by simp)
       rw [if_pos c16] at H
       have c16b0 : decide (x5_2 < (l1_0.length : Int)) = true := decide_eq_true c16
       clear c16
       by_cases c17 : (!(((rd_T40 l0_0 x5_2).f0) == ((rd_T40 l1_0 x5_2).f0)) || (!(((rd_T40 l0_0 x5_2).f1) == ((rd_T40 l1_0 x5_2).f1)) || (!(((rd_T40 l0_0 x5_2).f2) == ((rd_T40 l1_0 x5_2).f2)) || (!(((rd_T40 l0_0 x5_2).f3) == ((rd_T40 l1_0 x5_2).f3)))))) = true
       ·rw [if_pos c17] at H
        have c17b0 : (!(((rd_T40 l0_0 x5_2).f0) == ((rd_T40 l1_0 x5_2).f0)) || (!(((rd_T40 l0_0 x5_2).f1) == ((rd_T40 l1_0 x5_2).f1)) || (!(((rd_T40 l0_0 x5_2).f2) == ((rd_T40 l1_0 x5_2).f2)) || (!(((rd_T40 l0_0 x5_2).f3) == ((rd_T40 l1_0 x5_2).f3)))))) = true := c17
        clear c17
        obtain rfl := Option.some.inj H
        have hnb18 := NB306_307.out
        have hnc18 := NB307_306.out
        obtain ⟨hcz19_0, hcz19_1, hfz19_0, hfz19_1⟩ := ZC2 BK306.out
        have p308 : 0 ≤ (x5_2 : Int) := ZOD
        have q308 : x5_2 < (l0_0.length : Int) := ZOD
        obtain ⟨ad308, e308, hx308_0, hx308_1, hx308_2, hx308_3⟩ := at_T40 HR0_0.out x5_2 p308 q308
        cases e308
        replace hx308_0 := ZHX HB.out hx308_0
        replace hx308_1 := ZHX HB.out hx308_1
        replace hx308_2 := ZHX HB.out hx308_2
        replace hx308_3 := ZHX HB.out hx308_3
        replace p308 := eq_true p308
        replace q308 := eq_true q308
        obtain ⟨hcz20_0, hcz20_1, hfz20_0, hfz20_1⟩ := ZC2 BK307.out
        have p309 : 0 ≤ (x5_2 : Int) := ZOD
        have q309 : x5_2 < (l1_0.length : Int) := ZOD
        obtain ⟨ad309, e309, hx309_0, hx309_1, hx309_2, hx309_3⟩ := at_T40 HR1_0.out x5_2 p309 q309
        cases e309
        replace hx309_0 := ZHX HB.out hx309_0
        replace hx309_1 := ZHX HB.out hx309_1
        replace hx309_2 := ZHX HB.out hx309_2
        replace hx309_3 := ZHX HB.out hx309_3
        replace p309 := eq_true p309
        replace q309 := eq_true q309
        go_wp2
        repeat (go_quiet (fail); try go_wp2)
        go_ret
        exact ⟨ZEE, ZBB HB.out⟩
       ·rw [if_neg c17] at H
        have c17b0 : (!(((rd_T40 l0_0 x5_2).f0) == ((rd_T40 l1_0 x5_2).f0)) || (!(((rd_T40 l0_0 x5_2).f1) == ((rd_T40 l1_0 x5_2).f1)) || (!(((rd_T40 l0_0 x5_2).f2) == ((rd_T40 l1_0 x5_2).f2)) || (!(((rd_T40 l0_0 x5_2).f3) == ((rd_T40 l1_0 x5_2).f3)))))) = false := by simpa using c17
        clear c17
        have H' := ZM H
        clear H
        have hnb21 := NB306_307.out
        have hnc21 := NB307_306.out
        obtain ⟨hcz22_0, hcz22_1, hfz22_0, hfz22_1⟩ := ZC2 BK306.out
        have p308 : 0 ≤ (x5_2 : Int) := ZOD
        have q308 : x5_2 < (l0_0.length : Int) := ZOD
        obtain ⟨ad308, e308, hx308_0, hx308_1, hx308_2, hx308_3⟩ := at_T40 HR0_0.out x5_2 p308 q308
        cases e308
        replace hx308_0 := ZHX HB.out hx308_0
        replace hx308_1 := ZHX HB.out hx308_1
        replace hx308_2 := ZHX HB.out hx308_2
        replace hx308_3 := ZHX HB.out hx308_3
        replace p308 := eq_true p308
        replace q308 := eq_true q308
        obtain ⟨hcz23_0, hcz23_1, hfz23_0, hfz23_1⟩ := ZC2 BK307.out
        have p309 : 0 ≤ (x5_2 : Int) := ZOD
        have q309 : x5_2 < (l1_0.length : Int) := ZOD
        obtain ⟨ad309, e309, hx309_0, hx309_1, hx309_2, hx309_3⟩ := at_T40 HR1_0.out x5_2 p309 q309
        cases e309
        replace hx309_0 := ZHX HB.out hx309_0
        replace hx309_1 := ZHX HB.out hx309_1
        replace hx309_2 := ZHX HB.out hx309_2
        replace hx309_3 := ZHX HB.out hx309_3
        replace p309 := eq_true p309
        replace q309 := eq_true q309
        go_wp2
        repeat (go_quiet (fail); try go_wp2)
        go_roundg k2
        case measure => have := HJ2.out; have := HK2.out; omega
        case rel => exact ⟨(wrap64 (x5_2 + 1)), ZE, H', ⟨by have := HJ2.out; have := HK2.out; omega⟩, ⟨ZBK BK306.out⟩, ⟨ZBK BK307.out⟩, ⟨ZBB HB.out⟩⟩
      ·rw [if_neg c14] at H
       have c14b0 : decide (x5_2 < (l0_0.length : Int)) = false := decide_eq_false c14
       clear c14
       have H' := ZM H
       clear H
       have hnb24 := NB306_307.out
       have hnc24 := NB307_306.out
       obtain ⟨hcz25_0, hcz25_1, hfz25_0, hfz25_1⟩ := ZC2 BK306.out
       go_wp2
       repeat (go_quiet (fail); try go_wp2)
       go_loopg [6] k2 (fun kq v6 w' => ∃ (x6_3 : Int), v6 = .int .i64 x6_3 ∧ Aside0 (meanderref08_SameGraph.l1 kq x6_3 l0_0 l0_1 l1_0 l1_1 = some r) ∧ Aside0 (kq ≤ k2) ∧ Aside0 (w'.heap[gb306]? = some (.cells #[(.slice A0_0 l0_0.length c0_0), (.slice A0_1 l0_1.length c0_1)] 27 (0, 0))) ∧ Aside0 (w'.heap[gb307]? = some (.cells #[(.slice A1_0 l1_0.length c1_0), (.slice A1_1 l1_1.length c1_1)] 27 (0, 0))) ∧ Aside0 (Below w.heap.size w w'))
       case atStart => exact ⟨(0), ZE, H', ⟨Nat.le_refl _⟩, ⟨ZBK BK306.out⟩, ⟨ZBK BK307.out⟩, ⟨ZBB HB.out⟩⟩
       case round =>
        clear H'
        try clear c6
        try clear c6b0
        try clear c6b1
        try clear c6b2
        try clear c13
        try clear c14
        try clear c14b0
        try clear c15
        try clear c15b0
        try clear c16
        try clear c16b0
        try clear c17
        try clear c17b0
        try clear hcz11_0
        try clear hcz11_1
        try clear hcz12_0
        try clear hcz12_1
        try clear hcz19_0
        try clear hcz19_1
        try clear hcz20_0
        try clear hcz20_1
        try clear hcz22_0
        try clear hcz22_1
        try clear hcz23_0
        try clear hcz23_1
        try clear hcz25_0
        try clear hcz25_1
        try clear hcz8_0
        try clear hcz8_1
        try clear hcz9_0
        try clear hcz9_1
        try clear hfz11_0
        try clear hfz11_1
        try clear hfz12_0
        try clear hfz12_1
        try clear hfz19_0
        try clear hfz19_1
        try clear hfz20_0
        try clear hfz20_1
        try clear hfz22_0
        try clear hfz22_1
        try clear hfz23_0
        try clear hfz23_1
        try clear hfz25_0
        try clear hfz25_1
        try clear hfz8_0
        try clear hfz8_1
        try clear hfz9_0
        try clear hfz9_1
        try clear hx308_0
        try clear hx308_1
        try clear hx308_2
        try clear hx308_3
        try clear hx309_0
        try clear hx309_1
        try clear hx309_2
        try clear hx309_3
        try clear p308
        try clear p309
        try clear q308
        try clear q309
        obtain ⟨x6_3, rfl, HA, HK3, BK306, BK307, HB⟩ := hrel
        cases gk with
        | zero => exact absurd HA.out (by simp [meanderref08_SameGraph.l1])
        | succ k3 =>
         have H := HA.out
         clear HA
         simp only [meanderref08_SameGraph.l1] at H
         by_cases c26 : x6_3 < (l0_1.length : Int)
         ·rw [if_pos c26] at H
          have c26b0 : decide (x6_3 < (l0_1.length : Int)) = true := decide_eq_true c26
          clear c26
          by_cases c27 : 0 ≤ x6_3
          case neg =>
           rw [if_neg c27] at H
           exact absurd H (by simp)
          rw [if_pos c27] at H
          have c27b0 : decide (0 ≤ x6_3) = true := decide_eq_true c27
          clear c27
          by_cases c28 : x6_3 < (l1_1.length : Int)
          case neg =>
           rw [if_neg c28] at H
           exact absurd H (by simp)
          rw [if_pos c28] at H
          have c28b0 : decide (x6_3 < (l1_1.length : Int)) = true := decide_eq_true c28
          clear c28
          by_cases c29 : (!(((rd_T42 l0_1 x6_3).f0) == ((rd_T42 l1_1 x6_3).f0)) || (!(((rd_T42 l0_1 x6_3).f1) == ((rd_T42 l1_1 x6_3).f1)) || (!(((rd_T42 l0_1 x6_3).f2) == ((rd_T42 l1_1 x6_3).f2))))) = true
          ·rw [if_pos c29] at H
           have c29b0 : (!(((rd_T42 l0_1 x6_3).f0) == ((rd_T42 l1_1 x6_3).f0)) || (!(((rd_T42 l0_1 x6_3).f1) == ((rd_T42 l1_1 x6_3).f1)) || (!(((rd_T42 l0_1 x6_3).f2) == ((rd_T42 l1_1 x6_3).f2))))) = true := c29
           clear c29
           obtain rfl := Option.some.inj H
           have hnb30 := NB306_307.out
           have hnc30 := NB307_306.out
           obtain ⟨hcz31_0, hcz31_1, hfz31_0, hfz31_1⟩ := ZC2 BK306.out
           have p310 : 0 ≤ (x6_3 : Int) := ZOD
           have q310 : x6_3 < (l0_1.length : Int) := ZOD
           obtain ⟨ad310, e310, hx310_0, hx310_1, hx310_2⟩ := at_T42 HR0_1.out x6_3 p310 q310
           cases e310
           replace hx310_0 := ZHX HB.out hx310_0
           replace hx310_1 := ZHX HB.out hx310_1
           replace hx310_2 := ZHX HB.out hx310_2
           replace p310 := eq_true p310
           replace q310 := eq_true q310
           obtain ⟨hcz32_0, hcz32_1, hfz32_0, hfz32_1⟩ := ZC2 BK307.out
           have p311 : 0 ≤ (x6_3 : Int) := ZOD
           have q311 : x6_3 < (l1_1.length : Int) := ZOD
           obtain ⟨ad311, e311, hx311_0, hx311_1, hx311_2⟩ := at_T42 HR1_1.out x6_3 p311 q311
           cases e311
           replace hx311_0 := ZHX HB.out hx311_0
           replace hx311_1 := ZHX HB.out hx311_1
           replace hx311_2 := ZHX HB.out hx311_2
           replace p311 := eq_true p311
           replace q311 := eq_true q311
           go_wp2
           repeat (go_quiet (fail); try go_wp2)
           go_ret
           exact ⟨ZEE, ZBB HB.out⟩
          ·rw [if_neg c29] at H
           have c29b0 : (!(((rd_T42 l0_1 x6_3).f0) == ((rd_T42 l1_1 x6_3).f0)) || (!(((rd_T42 l0_1 x6_3).f1) == ((rd_T42 l1_1 x6_3).f1)) || (!(((rd_T42 l0_1 x6_3).f2) == ((rd_T42 l1_1 x6_3).f2))))) = false := by simpa using c29
           clear c29
           have H' := ZM H
           clear H
           have hnb33 := NB306_307.out
           have hnc33 := NB307_306.out
           obtain ⟨hcz34_0, hcz34_1, hfz34_0, hfz34_1⟩ := ZC2 BK306.out
           have p310 : 0 ≤ (x6_3 : Int) := ZOD
           have q310 : x6_3 < (l0_1.length : Int) := ZOD
           obtain ⟨ad310, e310, hx310_0, hx310_1, hx310_2⟩ := at_T42 HR0_1.out x6_3 p310 q310
           cases e310
           replace hx310_0 := ZHX HB.out hx310_0
           replace hx310_1 := ZHX HB.out hx310_1
           replace hx310_2 := ZHX HB.out hx310_2
           replace p310 := eq_true p310
           replace q310 := eq_true q310
           obtain ⟨hcz35_0, hcz35_1, hfz35_0, hfz35_1⟩ := ZC2 BK307.out
           have p311 : 0 ≤ (x6_3 : Int) := ZOD
           have q311 : x6_3 < (l1_1.length : Int) := ZOD
           obtain ⟨ad311, e311, hx311_0, hx311_1, hx311_2⟩ := at_T42 HR1_1.out x6_3 p311 q311
           cases e311
           replace hx311_0 := ZHX HB.out hx311_0
           replace hx311_1 := ZHX HB.out hx311_1
           replace hx311_2 := ZHX HB.out hx311_2
           replace p311 := eq_true p311
           replace q311 := eq_true q311
           go_wp2
           repeat (go_quiet (fail); try go_wp2)
           go_roundg k3
           case measure => have := HJ2.out; have := HK2.out; have := HK3.out; omega
           case rel => exact ⟨(wrap64 (x6_3 + 1)), ZE, H', ⟨by have := HJ2.out; have := HK2.out; have := HK3.out; omega⟩, ⟨ZBK BK306.out⟩, ⟨ZBK BK307.out⟩, ⟨ZBB HB.out⟩⟩
         ·rw [if_neg c26] at H
          have c26b0 : decide (x6_3 < (l0_1.length : Int)) = false := decide_eq_false c26
          clear c26
          obtain rfl := Option.some.inj H
          have hnb36 := NB306_307.out
          have hnc36 := NB307_306.out
          obtain ⟨hcz37_0, hcz37_1, hfz37_0, hfz37_1⟩ := ZC2 BK306.out
          go_wp2
          repeat (go_quiet (fail); try go_wp2)
          go_ret
          exact ⟨ZEE, ZBB HB.out⟩

/-! ### meanderlaw10_GcodeTakes: function 3 -/
def meanderlaw10_GcodeTakes.j0 : Nat → List Int → Bool → Option (Bool)
 | 0, _, _ => none
 | k + 1, x0, x3 => (some (([] : List Int) : List Int)).bind fun y318 => (if y318.length + x0.length < 140737488355328 then ((gcode_Take.f (y318 ++ x0)).bind fun bt324 => ((meanderref10_Take.f k x0).bind fun bt332 => ((some (([] : List Int) : List Int)).bind fun y340 => (if y340.length + x0.length < 140737488355328 then ((gcode_Load.f k (y340 ++ x0)).bind fun bt346 => ((meanderref10_Load.f k x0).bind fun bt354 => ((meanderref08_SameGraph.f k bt324.1 bt324.2.1 bt332.1 bt332.2.1).bind fun t362 => ((meanderref08_SameGraph.f k bt346.1 bt346.2.1 bt354.1 bt354.2.1).bind fun t363 => (if x3 = true then (if t362 = true then (if bt324.2.2 = bt332.2.2 then (if t363 = true then (some (bt346.2.2 == bt354.2.2)) else (none)) else (none)) else (none)) else (none)))))) else (none))))) else (none))
def meanderlaw10_GcodeTakes.f (k : Nat) (l0 : List Int) : Option (Bool) := (meanderlaw10_shown.f).bind fun t312 => (if (l0.length : Int) > 1000 then (if 1000 ≤ (l0.length : Int) then (meanderlaw10_GcodeTakes.j0 k (l0.take 1000) t312) else (none)) else (meanderlaw10_GcodeTakes.j0 k l0 t312))
theorem meanderlaw10_GcodeTakes.mono_l : ∀ k, (∀ y0 y1, LeO (meanderlaw10_GcodeTakes.j0 k y0 y1) (meanderlaw10_GcodeTakes.j0 (k + 1) y0 y1))
 | 0 => fun _ _ r h => by simp [meanderlaw10_GcodeTakes.j0] at h
 | k + 1 => by
  have ih0 := meanderlaw10_GcodeTakes.mono_l k
  ·intro y0 y1
   unfold meanderlaw10_GcodeTakes.j0
   repeat' first
   | (with_reducible exact ih0 _ _)
   | (with_reducible exact gcode_Load.mono _ _)
   | (with_reducible exact meanderref08_SameGraph.mono _ _ _ _ _)
   | (with_reducible exact meanderref10_Load.mono _ _)
   | (with_reducible exact meanderref10_Take.mono _ _)
   | (with_reducible exact LeO.refl _)
   | (with_reducible exact LeO.none _)
   | (with_reducible refine LeO.ite ?_ ?_)
   | (with_reducible refine LeO.bind ?_ (fun _ => ?_))
   | exact ih0 _ _
   | exact gcode_Load.mono _ _
   | exact meanderref08_SameGraph.mono _ _ _ _ _
   | exact meanderref10_Load.mono _ _
   | exact meanderref10_Take.mono _ _
   | exact LeO.none _
   | refine LeO.ite ?_ ?_
   | refine LeO.bind ?_ (fun _ => ?_)
theorem meanderlaw10_GcodeTakes.mono : ∀ a0 k, LeO (meanderlaw10_GcodeTakes.f k a0) (meanderlaw10_GcodeTakes.f (k + 1) a0) := by
 intro a0 k
 have ih0 := meanderlaw10_GcodeTakes.mono_l k
 unfold meanderlaw10_GcodeTakes.f
 repeat' first
   | (with_reducible exact ih0 _ _)
   | (with_reducible exact gcode_Load.mono _ _)
   | (with_reducible exact meanderref08_SameGraph.mono _ _ _ _ _)
   | (with_reducible exact meanderref10_Load.mono _ _)
   | (with_reducible exact meanderref10_Take.mono _ _)
   | (with_reducible exact LeO.refl _)
   | (with_reducible exact LeO.none _)
   | (with_reducible refine LeO.ite ?_ ?_)
   | (with_reducible refine LeO.bind ?_ (fun _ => ?_))
   | exact ih0 _ _
   | exact gcode_Load.mono _ _
   | exact meanderref08_SameGraph.mono _ _ _ _ _
   | exact meanderref10_Load.mono _ _
   | exact meanderref10_Take.mono _ _
   | exact LeO.none _
   | refine LeO.ite ?_ ?_
   | refine LeO.bind ?_ (fun _ => ?_)
set_option maxHeartbeats 8000000 in
set_option maxRecDepth 100000 in
theorem meanderlaw10_GcodeTakes.calls (k : Nat) (P0_ : Nat → Prop) (A0 : Option Addr) (c0 : Nat) (l0 : List Int) (r : Bool) (w : World) (hs0 : Kd.V (Kd.int .u8) 5 w w.heap.size (fun k_ => P0_ k_) (.slice A0 l0.length c0) l0) (h : meanderlaw10_GcodeTakes.f k l0 = some r) :
  Calls Tryd.prog 3 #[.slice A0 l0.length c0] w fun e w' => e = .returned (.bool r) ∧ Below w.heap.size w w' := by
 have hu27 := Tryd.underlying27
 have HO0 := ZM (show Kd.V (Kd.int .u8) 5 w w.heap.size (fun k_ => (P0_ k_ ∨ w.heap.size ≤ k_)) (.slice A0 l0.length c0) l0 from Kd.V_mono hs0 (fun k_ hk => .inl hk))
 have HB := ZM (Below.refl w.heap.size w)
 have H : ((meanderlaw10_shown.f).bind fun t312 => (if (l0.length : Int) > 1000 then (if 1000 ≤ (l0.length : Int) then (meanderlaw10_GcodeTakes.j0 k (l0.take 1000) t312) else (none)) else (meanderlaw10_GcodeTakes.j0 k l0 t312))) = some r := h
 clear h
 replace H := Option.bind_eq_some_iff.mp H
 obtain ⟨t312, A20, H⟩ := H
 replace H : (if (l0.length : Int) > 1000 then (if 1000 ≤ (l0.length : Int) then (meanderlaw10_GcodeTakes.j0 k (l0.take 1000) t312) else (none)) else (meanderlaw10_GcodeTakes.j0 k l0 t312)) = some r := H
 have A2 := ZM A20
 clear A20
 have HC3 := ZM H
 clear H
 go_enter Tryd.func3, Tryd.ntmps3
 go_upto_if 17 with (first | ((with_reducible refine gate_callee (f := 8) rfl ?_); refine goesL_ (some 14) rfl rfl Tryd.func8 (by kernel_rfl) rfl #[] rfl ZH ?_; (with_reducible refine (meanderlaw10_shown.calls  t312 _ A2.out).mono ?_); rintro e w4 ⟨rfl, hb⟩; refine ⟨_, rfl, ?_⟩; have n0_ := ZM (Kd.V_below (by (with_reducible repeat (first | apply Kd.V_alloc | apply Kd.V_drewN | apply Kd.V_drew)); exact HO0.out) hb); have n1_ := ZM (ZW (ZBB HB.out) hb); clear HO0; clear HB; have HO0 := n0_; have HB := n1_; clear n0_ n1_; (try clear hb); (try clear hb2); (try clear hk); (try clear hi)))
 (try simp only [Act.put, ZI, ZJ, ZK])
 go_cut [0] (fun v0 wc => ∃ (kq : Nat) (x0_2 : List Int), Aside0 (meanderlaw10_GcodeTakes.j0 kq x0_2 t312 = some r) ∧ Aside0 (kq ≤ k) ∧ Aside0 (Kd.V (Kd.int .u8) 5 wc w.heap.size (fun k_ => (P0_ k_ ∨ w.heap.size ≤ k_)) v0 x0_2) ∧ Aside0 (Below w.heap.size w wc))
 case first =>
  have H := HC3.out
  clear HC3
  by_cases c5 : (l0.length : Int) > 1000
  ·rw [if_pos c5] at H
   have c5b0 : decide (1000 < (l0.length : Int)) = true := decide_eq_true c5
   have c5b1 : decide (1000 < l0.length) = true := decide_eq_true (by omega)
   clear c5
   (first | rw [c5b0] | (simp only [i64_w, i32_w]; rw [c5b0]) | skip)
   by_cases c6 : 1000 ≤ (l0.length : Int)
   case neg =>
    rw [if_neg c6] at H
    exact absurd H (by simp)
   rw [if_pos c6] at H
   have c6b0 := eq_true c6
   have c6b1 : decide (1000 ≤ (l0.length : Int)) = true := decide_eq_true c6
   clear c6
   obtain ⟨y313, hy313⟩ : ∃ y_ : List Int, y_ = (l0.take 1000) := ⟨_, rfl⟩
   replace H : (meanderlaw10_GcodeTakes.j0 k y313 t312) = some r := by first | (rw [hy313]; with_reducible exact H) | (have H2_ := (Option.bind_some _ _).symm.trans H; rw [hy313]; with_reducible exact H2_) | (have H2_ := (Option.bind_some _ _).symm.trans H; with_reducible exact H2_) | with_reducible exact H | (rw [hy313]; exact H) | exact H
   have Ny313 := ZM hy313
   clear hy313
   have H' := ZM H
   clear H
   have q7 : (1000 : Int) ≤ ((l0.length : Int) : Int) := ZOD
   obtain ⟨i07, hi07, _, hsz7, _⟩ := info_parts info5
   have hroom7 : l0.length ≤ c0 := (Kd.V_reads' HO0.out).2.1
   have hC7 : Kd.F (Kd.int .u8) _ _ A0 l0.length l0 := (Kd.V_at (base := w.heap.size) HO0.out).2.2
   have hcut7 := cut_to (P := Tryd.prog) 22 5 .i64 Tryd.underlying22 hi07 A0 l0.length c0 1000 (by omega) q7 hroom7
   have hr7 := Kd.F_take (m := 1000) hC7 (by omega)
   have hy7 : y313.length = (1000 : Int).toNat := (by rw [Ny313.out, List.length_take]; omega)
   rw [← Ny313.out] at hr7
   rw [← hy7] at hcut7
   have HO317 := ZM (show Kd.V (Kd.int .u8) 5 _ w.heap.size _ (.slice A0 y313.length c0) y313 from Kd.V_mk (by omega) hr7)
   have HC317 := ZM (show y313.length ≤ c0 from by omega)
   clear hr7 hC7 hroom7 hi07 hsz7
   have KY7 := ZM hy7
   clear hy7
   replace q7 := eq_true q7
   go_wp2
   go_meet
   case rel => exact ⟨_, (y313), H', ⟨by first | omega | exact Nat.le_refl _⟩, ⟨by (with_reducible repeat (first | apply Kd.V_alloc | apply Kd.V_drewN | apply Kd.V_drew)); exact HO317.out⟩, ⟨ZBB HB.out⟩⟩
  ·rw [if_neg c5] at H
   have c5b0 : decide (1000 < (l0.length : Int)) = false := decide_eq_false c5
   have c5b1 : decide (1000 < l0.length) = false := decide_eq_false (by omega)
   clear c5
   (first | rw [c5b0] | (simp only [i64_w, i32_w]; rw [c5b0]) | skip)
   have H' := ZM H
   clear H
   go_wp2
   go_meet
   case rel => exact ⟨_, (l0), H', ⟨by first | omega | exact Nat.le_refl _⟩, ⟨by (with_reducible repeat (first | apply Kd.V_alloc | apply Kd.V_drewN | apply Kd.V_drew)); exact HO0.out⟩, ⟨ZBB HB.out⟩⟩
 case rest =>
  clear HC3
  try clear c5
  try clear c5b0
  try clear c5b1
  try clear c6
  try clear c6b0
  try clear c6b1
  try clear q7
  try clear q7
  obtain ⟨kq, x0_2, HA, HJ2, HO_0, HB⟩ := hcut
  cases kq with
  | zero => exact absurd HA.out (by simp [meanderlaw10_GcodeTakes.j0])
  | succ kj2 =>
   have H := HA.out
   clear HA
   simp only [meanderlaw10_GcodeTakes.j0] at H
   obtain ⟨y318, hy318⟩ : ∃ y_ : List Int, y_ = (([] : List Int)) := ⟨_, rfl⟩
   replace H : (if y318.length + x0_2.length < 140737488355328 then ((gcode_Take.f (y318 ++ x0_2)).bind fun bt324 => ((meanderref10_Take.f kj2 x0_2).bind fun bt332 => ((some (([] : List Int) : List Int)).bind fun y340 => (if y340.length + x0_2.length < 140737488355328 then ((gcode_Load.f kj2 (y340 ++ x0_2)).bind fun bt346 => ((meanderref10_Load.f kj2 x0_2).bind fun bt354 => ((meanderref08_SameGraph.f kj2 bt324.1 bt324.2.1 bt332.1 bt332.2.1).bind fun t362 => ((meanderref08_SameGraph.f kj2 bt346.1 bt346.2.1 bt354.1 bt354.2.1).bind fun t363 => (if t312 = true then (if t362 = true then (if bt324.2.2 = bt332.2.2 then (if t363 = true then (some (bt346.2.2 == bt354.2.2)) else (none)) else (none)) else (none)) else (none)))))) else (none))))) else (none)) = some r := by first | (rw [hy318]; with_reducible exact H) | (have H2_ := (Option.bind_some _ _).symm.trans H; rw [hy318]; with_reducible exact H2_) | (have H2_ := (Option.bind_some _ _).symm.trans H; with_reducible exact H2_) | with_reducible exact H | (rw [hy318]; exact H) | exact H
   have Ny318 := ZM hy318
   clear hy318
   by_cases c8 : y318.length + x0_2.length < 140737488355328
   case neg =>
    rw [if_neg c8] at H
    exact absurd H (by simp)

   rw [if_pos c8] at H
   have LMc8 := ZM c8
   clear c8
   obtain ⟨y321, hy321⟩ : ∃ y_ : List Int, y_ = (y318 ++ x0_2) := ⟨_, rfl⟩
   replace H : ((gcode_Take.f y321).bind fun bt324 => ((meanderref10_Take.f kj2 x0_2).bind fun bt332 => ((some (([] : List Int) : List Int)).bind fun y340 => (if y340.length + x0_2.length < 140737488355328 then ((gcode_Load.f kj2 (y340 ++ x0_2)).bind fun bt346 => ((meanderref10_Load.f kj2 x0_2).bind fun bt354 => ((meanderref08_SameGraph.f kj2 bt324.1 bt324.2.1 bt332.1 bt332.2.1).bind fun t362 => ((meanderref08_SameGraph.f kj2 bt346.1 bt346.2.1 bt354.1 bt354.2.1).bind fun t363 => (if t312 = true then (if t362 = true then (if bt324.2.2 = bt332.2.2 then (if t363 = true then (some (bt346.2.2 == bt354.2.2)) else (none)) else (none)) else (none)) else (none)))))) else (none))))) = some r := by first | (rw [hy321]; with_reducible exact H) | (have H2_ := (Option.bind_some _ _).symm.trans H; rw [hy321]; with_reducible exact H2_) | (have H2_ := (Option.bind_some _ _).symm.trans H; with_reducible exact H2_) | with_reducible exact H | (rw [hy321]; exact H) | exact H
   have Ny321 := ZM hy321
   clear hy321
   replace H := Option.bind_eq_some_iff.mp H
   obtain ⟨⟨t324, t327, t330⟩, A90, H⟩ := H
   replace H : ((meanderref10_Take.f kj2 x0_2).bind fun bt332 => ((some (([] : List Int) : List Int)).bind fun y340 => (if y340.length + x0_2.length < 140737488355328 then ((gcode_Load.f kj2 (y340 ++ x0_2)).bind fun bt346 => ((meanderref10_Load.f kj2 x0_2).bind fun bt354 => ((meanderref08_SameGraph.f kj2 t324 t327 bt332.1 bt332.2.1).bind fun t362 => ((meanderref08_SameGraph.f kj2 bt346.1 bt346.2.1 bt354.1 bt354.2.1).bind fun t363 => (if t312 = true then (if t362 = true then (if t330 = bt332.2.2 then (if t363 = true then (some (bt346.2.2 == bt354.2.2)) else (none)) else (none)) else (none)) else (none)))))) else (none)))) = some r := H
   have A9 := ZM A90
   clear A90
   replace H := Option.bind_eq_some_iff.mp H
   obtain ⟨⟨t332, t335, t338⟩, A100, H⟩ := H
   replace H : ((some (([] : List Int) : List Int)).bind fun y340 => (if y340.length + x0_2.length < 140737488355328 then ((gcode_Load.f kj2 (y340 ++ x0_2)).bind fun bt346 => ((meanderref10_Load.f kj2 x0_2).bind fun bt354 => ((meanderref08_SameGraph.f kj2 t324 t327 t332 t335).bind fun t362 => ((meanderref08_SameGraph.f kj2 bt346.1 bt346.2.1 bt354.1 bt354.2.1).bind fun t363 => (if t312 = true then (if t362 = true then (if t330 = t338 then (if t363 = true then (some (bt346.2.2 == bt354.2.2)) else (none)) else (none)) else (none)) else (none)))))) else (none))) = some r := H
   have A10 := ZM A100
   clear A100
   obtain ⟨y340, hy340⟩ : ∃ y_ : List Int, y_ = (([] : List Int)) := ⟨_, rfl⟩
   replace H : (if y340.length + x0_2.length < 140737488355328 then ((gcode_Load.f kj2 (y340 ++ x0_2)).bind fun bt346 => ((meanderref10_Load.f kj2 x0_2).bind fun bt354 => ((meanderref08_SameGraph.f kj2 t324 t327 t332 t335).bind fun t362 => ((meanderref08_SameGraph.f kj2 bt346.1 bt346.2.1 bt354.1 bt354.2.1).bind fun t363 => (if t312 = true then (if t362 = true then (if t330 = t338 then (if t363 = true then (some (bt346.2.2 == bt354.2.2)) else (none)) else (none)) else (none)) else (none)))))) else (none)) = some r := by first | (rw [hy340]; with_reducible exact H) | (have H2_ := (Option.bind_some _ _).symm.trans H; rw [hy340]; with_reducible exact H2_) | (have H2_ := (Option.bind_some _ _).symm.trans H; with_reducible exact H2_) | with_reducible exact H | (rw [hy340]; exact H) | exact H
   have Ny340 := ZM hy340
   clear hy340
   by_cases c11 : y340.length + x0_2.length < 140737488355328
   case neg =>
    rw [if_neg c11] at H
    exact absurd H (by simp)
   rw [if_pos c11] at H
   have LMc11 := ZM c11
   clear c11
   obtain ⟨y343, hy343⟩ : ∃ y_ : List Int, y_ = (y340 ++ x0_2) := ⟨_, rfl⟩
   replace H : ((gcode_Load.f kj2 y343).bind fun bt346 => ((meanderref10_Load.f kj2 x0_2).bind fun bt354 => ((meanderref08_SameGraph.f kj2 t324 t327 t332 t335).bind fun t362 => ((meanderref08_SameGraph.f kj2 bt346.1 bt346.2.1 bt354.1 bt354.2.1).bind fun t363 => (if t312 = true then (if t362 = true then (if t330 = t338 then (if t363 = true then (some (bt346.2.2 == bt354.2.2)) else (none)) else (none)) else (none)) else (none)))))) = some r := by first | (rw [hy343]; with_reducible exact H) | (have H2_ := (Option.bind_some _ _).symm.trans H; rw [hy343]; with_reducible exact H2_) | (have H2_ := (Option.bind_some _ _).symm.trans H; with_reducible exact H2_) | with_reducible exact H | (rw [hy343]; exact H) | exact H
   have Ny343 := ZM hy343
   clear hy343
   replace H := Option.bind_eq_some_iff.mp H
   obtain ⟨⟨t346, t349, t352⟩, A120, H⟩ := H
   replace H : ((meanderref10_Load.f kj2 x0_2).bind fun bt354 => ((meanderref08_SameGraph.f kj2 t324 t327 t332 t335).bind fun t362 => ((meanderref08_SameGraph.f kj2 t346 t349 bt354.1 bt354.2.1).bind fun t363 => (if t312 = true then (if t362 = true then (if t330 = t338 then (if t363 = true then (some (t352 == bt354.2.2)) else (none)) else (none)) else (none)) else (none))))) = some r := H
   have A12 := ZM A120
   clear A120
   replace H := Option.bind_eq_some_iff.mp H
   obtain ⟨⟨t354, t357, t360⟩, A130, H⟩ := H
   replace H : ((meanderref08_SameGraph.f kj2 t324 t327 t332 t335).bind fun t362 => ((meanderref08_SameGraph.f kj2 t346 t349 t354 t357).bind fun t363 => (if t312 = true then (if t362 = true then (if t330 = t338 then (if t363 = true then (some (t352 == t360)) else (none)) else (none)) else (none)) else (none)))) = some r := H
   have A13 := ZM A130
   clear A130
   replace H := Option.bind_eq_some_iff.mp H
   obtain ⟨t362, A140, H⟩ := H
   replace H : ((meanderref08_SameGraph.f kj2 t346 t349 t354 t357).bind fun t363 => (if t312 = true then (if t362 = true then (if t330 = t338 then (if t363 = true then (some (t352 == t360)) else (none)) else (none)) else (none)) else (none))) = some r := H
   have A14 := ZM A140
   clear A140
   replace H := Option.bind_eq_some_iff.mp H
   obtain ⟨t363, A150, H⟩ := H
   replace H : (if t312 = true then (if t362 = true then (if t330 = t338 then (if t363 = true then (some (t352 == t360)) else (none)) else (none)) else (none)) else (none)) = some r := H
   have A15 := ZM A150
   clear A150
   by_cases c16 : t312 = true
   ·subst c16
    have H1 : (if t362 = true then (if t330 = t338 then (if t363 = true then (some (t352 == t360)) else (none)) else (none)) else (none)) = some r := by rw [if_pos rfl] at H; exact H
    clear H
    have H := H1
    clear H1
    by_cases c17 : t362 = true
    ·subst c17
     have H1 : (if t330 = t338 then (if t363 = true then (some (t352 == t360)) else (none)) else (none)) = some r := by rw [if_pos rfl] at H; exact H
     clear H
     have H := H1
     clear H1
     by_cases c18 : t330 = t338
     case neg =>
      rw [if_neg c18] at H
      exact absurd H (by simp)
     rw [if_pos c18] at H
     have c18b0 : (t330 == t338) = true := beq_iff_eq.mpr c18
     have c18b1 : (t330 != t338) = false := bne_eq_false_iff_eq.mpr c18
     clear c18
     by_cases c19 : t363 = true
     ·subst c19
      have H1 : (some (t352 == t360)) = some r := by rw [if_pos rfl] at H; exact H
      clear H
      have H := H1
      clear H1
      obtain rfl := Option.some.inj H
      go_wp2_with (first | ((with_reducible refine gate_dst (N := 21) rfl ?_); refine Kd.R_lit (Kd.int .u8) _ 5 ?hg (N := 21) ?hd (xs := ([] : List Int)) (inner := []) (ok := fun _ => True) (okp := fun _ => True) ?hr ?hp (fun _ hk => hk) trivial (Below.refl _ _) (Nat.le_refl _) (by simp) ?_; (case hd => rfl); (case hg => rfl); (case hr => first | (go_simp; done) | (go_simp; rfl)); (case hp => exact (Reps.none _ _)); intro v319 w20 ho21 hb hg_ hnew_; clear hg_ hnew_; (first | rw [← Ny318.out] at ho21 | (simp only [Int.reduceToNat] at ho21; rw [← Ny318.out] at ho21)); have n0_ := ZM (Kd.V_elder' (by (with_reducible repeat (first | apply Kd.V_alloc | apply Kd.V_drewN | apply Kd.V_drew)); exact HO_0.out) (Kd.R_base ho21) hb); have n1_ := ZM (Kd.R_lower (Kd.R_newM (M := fun k_ => (w.heap.size ≤ k_)) ho21 (ZV (ZBB HB.out)) (fun k_ h_ => h_)) (ZV (ZBB HB.out))); have n2_ := ZM (ZW (ZBB HB.out) hb); clear HO_0; clear HB; have HO_0 := n0_; have HO320 := n1_; have HB := n2_; clear n0_ n1_ n2_; clear hb ho21; obtain ⟨Ao23, co23, eo23⟩ := Kd.V_slice HO_0.out; subst eo23) | ((with_reducible refine gate_builtin (b := .append) (xs := #[.tmp 21, .tmp 22]) rfl ?_); at_builtin; refine Kd.R_append_rows (Kd.int .u8) (w0 := w) w.heap.size rfl (.tmp 21) (.tmp 22) 22 5 (.int .u8 0) 1 rfl Tryd.underlying22 info5 rfl (by decide) (by omega) v319 y318 x0_2 _ _ _ (fun k_ => (w.heap.size ≤ k_)) (fun _ => False) rfl rfl ?aO ?aR (fun _ _ h => h) (fun _ h => h.elim) ?aF ?aB ?aS ?aL ?_; (case aR => repeat (first | exact (Kd.V_reads' HO_0.out).2.2 | (with_reducible refine Kd.C_alloc ?_ _) | (with_reducible refine Kd.C_drewN ?_ _) | (with_reducible refine Kd.C_drew ?_))); (case aB => exact (ZBB HB.out)); (case aF => exact (fun k_ hk => (Nat.le_trans (ZV (ZBB HB.out)) hk))); (case aO => exact (by (with_reducible repeat (first | apply ZY | apply ZX | apply ZZ)); exact Kd.R_mono HO320.out (fun _ hk => hk.1))); (case aS => exact (ZV (ZBB HB.out))); (case aL => have := LMc8.out; omega); intro v322 w22 ho hb hg hat; rw [← Ny321.out] at ho; have n0_ := ZM (Kd.V_afterv (ok := (fun k_ => (P0_ k_ ∨ w.heap.size ≤ k_))) (by (with_reducible repeat (first | apply Kd.V_alloc | apply Kd.V_drewN | apply Kd.V_drew)); exact HO_0.out) hg hat); have n1_ := ZM (hb); have n2_ := ZM (ho); clear HO_0; clear HB; clear HO320; have HO_0 := n0_; have HB := n1_; have HO323 := n2_; clear n0_ n1_ n2_; clear ho hb hg hat; obtain ⟨Ao24, co24, eo24⟩ := Kd.R_slice HO323.out; subst eo24) | ((with_reducible refine gate_callee (f := 9) rfl ?_); refine goesL_ (some 24) rfl rfl Tryd.func9 (by kernel_rfl) rfl #[.slice Ao24 y321.length co24] rfl ZH ?_; (with_reducible refine (gcode_Take.calls _ _ y321 t324 t327 t330 _ ?side1 ?side2 A9.out).mono ?_); (case side1 => repeat (first | exact (Kd.R_reads' HO323.out).2.2 | (with_reducible refine Kd.C_alloc ?_ _) | (with_reducible refine Kd.C_drewN ?_ _) | (with_reducible refine Kd.C_drew ?_))); (case side2 => exact (Kd.R_reads' HO323.out).2.1); rintro e w25 ⟨v325, v328, rfl, ho0, ho1, hb⟩; refine ⟨_, rfl, ?_⟩; have n0_ := ZM (Kd.V_mono (Kd.V_told (Kd.V_told (Kd.V_old (by (with_reducible repeat (first | apply Kd.V_alloc | apply Kd.V_drewN | apply Kd.V_drew)); exact HO_0.out) hb) (Kd.R_base ho0)) (Kd.R_base ho1)) (fun _ h_ => h_.1)); have n1_ := ZM (Kd.R_below (ZRK HO323.out) hb); have n2_ := ZM (Kd.R_lower (Kd.R_newM (M := fun k_ => (w.heap.size ≤ k_)) ho0 (ZV (ZBB HB.out)) (fun k_ h_ => h_)) (ZV (ZBB HB.out))); have n3_ := ZM (Kd.R_lower (Kd.R_newM (M := fun k_ => (w.heap.size ≤ k_)) ho1 (ZV (ZBB HB.out)) (fun k_ h_ => h_)) (ZV (ZBB HB.out))); have n4_ := ZM (ZW (ZBB HB.out) hb); clear HO_0; clear HO323; clear HB; have HO_0 := n0_; have HO323 := n1_; have HO326 := n2_; have HO329 := n3_; have HB := n4_; clear n0_ n1_ n2_ n3_ n4_; (try clear hb); (try clear hb2); (try clear hk); (try clear hi); (try clear ho0); (try clear ho1)) | ((with_reducible refine gate_dst (N := 4) rfl ?_); refine ZBX 4 (cs := #[.slice none 0 0, .slice none 0 0]) (t := 27) ?_; intro gb331 hg w26 hbox hb; have n0_ := ZM (Kd.V_below (Kd.V_elderB (by (with_reducible repeat (first | apply Kd.V_alloc | apply Kd.V_drewN | apply Kd.V_drew)); exact HO_0.out) gb331 (Nat.le_of_eq hg.symm)) hb); have n1_ := ZM (Kd.R_below (ZRK HO323.out) hb); have n2_ := ZM (Kd.R_below (ZRK HO326.out) hb); have n3_ := ZM (Kd.R_below (ZRK HO329.out) hb); have n4_ := ZM (ZW (ZBB HB.out) hb); have n5_ := ZM (hbox); have n6_ := ZM (ZGE hg HB.out); have n7_ := ZM (ZGE hg HB.out); clear HO_0; clear HO323; clear HO326; clear HO329; clear HB; have HO_0 := n0_; have HO323 := n1_; have HO326 := n2_; have HO329 := n3_; have HB := n4_; have BK331 := n5_; have GW331 := n6_; have GE331 := n7_; clear n0_ n1_ n2_ n3_ n4_ n5_ n6_ n7_; clear hb hbox hg; obtain ⟨Ao27, co27, eo27⟩ := Kd.R_slice HO326.out; subst eo27; obtain ⟨hcz28_0, hcz28_1, hfz28_0, hfz28_1⟩ := ZC2 BK331.out; obtain ⟨Ao29, co29, eo29⟩ := Kd.R_slice HO329.out; subst eo29) | ((with_reducible refine gate_callee (f := 10) rfl ?_); refine goesL_ (some 29) rfl rfl Tryd.func10 (by kernel_rfl) rfl #[.slice Ao23 x0_2.length co23] rfl ZH ?_; (with_reducible refine (meanderref10_Take.calls kj2 _ _ x0_2 t332 t335 t338 _ ?side1 ?side2 A10.out).mono ?_); (case side1 => refine (Kd.V_reads' (e := 5) (base := w.heap.size) (ok := fun k_ => (((((P0_ k_ ∨ w.heap.size ≤ k_) ∧ some k_ ≠ (.slice Ao24 y321.length co24 : Value).ownBlock) ∧ some k_ ≠ (.slice Ao27 t324.length co27 : Value).ownBlock) ∧ some k_ ≠ (.slice Ao29 t327.length co29 : Value).ownBlock) ∧ k_ ≠ gb331)) (n := x0_2.length) (c := co23) ?_).2.2; exact (by (with_reducible repeat (first | apply Kd.V_alloc | apply Kd.V_drewN | apply Kd.V_drew)); exact (Kd.V_mono (Kd.V_far (p := ⟨gb331, 1, none⟩) (Kd.V_far (p := ⟨gb331, 0, none⟩) (Kd.V_mono HO_0.out (fun k_ hk => (⟨hk, hk.2⟩ : _ ∧ k_ ≠ gb331))) (fun _ hk => hk.2) (.slice Ao27 t324.length co27)) (fun _ hk => hk.2) (.slice Ao29 t327.length co29)) (fun _ h_ => h_.1)))); (case side2 => exact (Kd.V_reads' HO_0.out).2.1); rintro e w30 ⟨v333, v336, rfl, ho0, ho1, hb⟩; refine ⟨_, rfl, ?_⟩; have n0_ := ZM (Kd.V_mono (Kd.V_told (Kd.V_told (Kd.V_old (by (with_reducible repeat (first | apply Kd.V_alloc | apply Kd.V_drewN | apply Kd.V_drew)); exact (Kd.V_mono (Kd.V_far (p := ⟨gb331, 1, none⟩) (Kd.V_far (p := ⟨gb331, 0, none⟩) (Kd.V_mono HO_0.out (fun k_ hk => (⟨hk, hk.2⟩ : _ ∧ k_ ≠ gb331))) (fun _ hk => hk.2) (.slice Ao27 t324.length co27)) (fun _ hk => hk.2) (.slice Ao29 t327.length co29)) (fun _ h_ => h_.1))) hb) (Kd.R_base ho0)) (Kd.R_base ho1)) (fun _ h_ => h_.1)); have n1_ := ZM (Kd.R_below (by (with_reducible repeat (first | apply ZY | apply ZX | apply ZZ)); exact (Kd.R_mono (Kd.R_far (p := ⟨gb331, 1, none⟩) (Kd.R_far (p := ⟨gb331, 0, none⟩) (Kd.R_types HO323.out BK331.out (by decide)) (fun _ hk => hk.2) (.slice Ao27 t324.length co27)) (fun _ hk => hk.2) (.slice Ao29 t327.length co29)) (fun _ h_ => h_.1))) hb); have n2_ := ZM (Kd.R_elder' (by (with_reducible repeat (first | apply ZY | apply ZX | apply ZZ)); exact (Kd.R_mono (Kd.R_far (p := ⟨gb331, 1, none⟩) (Kd.R_far (p := ⟨gb331, 0, none⟩) (Kd.R_types HO326.out BK331.out (by decide)) (fun _ hk => hk.2) (.slice Ao27 t324.length co27)) (fun _ hk => hk.2) (.slice Ao29 t327.length co29)) (fun _ h_ => h_.1))) (Kd.R_base ho0) hb); have n3_ := ZM (Kd.R_elder' (by (with_reducible repeat (first | apply ZY | apply ZX | apply ZZ)); exact (Kd.R_mono (Kd.R_far (p := ⟨gb331, 1, none⟩) (Kd.R_far (p := ⟨gb331, 0, none⟩) (Kd.R_types HO329.out BK331.out (by decide)) (fun _ hk => hk.2) (.slice Ao27 t324.length co27)) (fun _ hk => hk.2) (.slice Ao29 t327.length co29)) (fun _ h_ => h_.1))) (Kd.R_base ho1) hb); have n4_ := ZM (Kd.R_lower (Kd.R_new' (Kd.R_newM (M := fun k_ => (w.heap.size ≤ k_)) ho0 (ZV (ZBB HB.out)) (fun k_ h_ => h_)) (Kd.R_lt (by (with_reducible repeat (first | apply ZY | apply ZX | apply ZZ)); exact (Kd.R_mono (Kd.R_far (p := ⟨gb331, 1, none⟩) (Kd.R_far (p := ⟨gb331, 0, none⟩) (Kd.R_types HO326.out BK331.out (by decide)) (fun _ hk => hk.2) (.slice Ao27 t324.length co27)) (fun _ hk => hk.2) (.slice Ao29 t327.length co29)) (fun _ h_ => h_.1))))) (ZV (ZBB HB.out))); have n5_ := ZM (Kd.R_lower (Kd.R_new' (Kd.R_newM (M := fun k_ => (w.heap.size ≤ k_)) ho1 (ZV (ZBB HB.out)) (fun k_ h_ => h_)) (Kd.R_lt (by (with_reducible repeat (first | apply ZY | apply ZX | apply ZZ)); exact (Kd.R_mono (Kd.R_far (p := ⟨gb331, 1, none⟩) (Kd.R_far (p := ⟨gb331, 0, none⟩) (Kd.R_types HO329.out BK331.out (by decide)) (fun _ hk => hk.2) (.slice Ao27 t324.length co27)) (fun _ hk => hk.2) (.slice Ao29 t327.length co29)) (fun _ h_ => h_.1))))) (ZV (ZBB HB.out))); have n6_ := ZM (blk_below (g := gb331) (o := .cells #[.slice Ao27 t324.length co27, .slice Ao29 t327.length co29] 27 (0, 0)) (by (with_reducible repeat (first | refine ZR ?_ _ | refine ZS ?_ | refine ZT ?_ _)); refine blk_put (cs := #[.slice Ao27 t324.length co27, .slice none 0 0]) ?_ 1 _ rfl; (with_reducible repeat (first | refine ZR ?_ _ | refine ZS ?_ | refine ZT ?_ _)); refine blk_put (cs := #[.slice none 0 0, .slice none 0 0]) ?_ 0 _ rfl; (with_reducible repeat (first | refine ZR ?_ _ | refine ZS ?_ | refine ZT ?_ _)); exact BK331.out) hb); have n7_ := ZM (ZW (ZBB HB.out) hb); clear HO_0; clear HO323; clear HO326; clear HO329; clear BK331; clear HB; have HO_0 := n0_; have HO323 := n1_; have HO326 := n2_; have HO329 := n3_; have HO334 := n4_; have HO337 := n5_; have BK331 := n6_; have HB := n7_; clear n0_ n1_ n2_ n3_ n4_ n5_ n6_ n7_; (try clear hb); (try clear hb2); (try clear hk); (try clear hi); (try clear ho0); (try clear ho1)) | ((with_reducible refine gate_dst (N := 6) rfl ?_); refine ZBX 6 (cs := #[.slice none 0 0, .slice none 0 0]) (t := 27) ?_; intro gb339 hg w31 hbox hb; have n0_ := ZM (Kd.V_below (Kd.V_elderB (by (with_reducible repeat (first | apply Kd.V_alloc | apply Kd.V_drewN | apply Kd.V_drew)); exact HO_0.out) gb339 (Nat.le_of_eq hg.symm)) hb); have n1_ := ZM (Kd.R_below (ZRK HO323.out) hb); have n2_ := ZM (Kd.R_below (ZRK HO326.out) hb); have n3_ := ZM (Kd.R_below (ZRK HO329.out) hb); have n4_ := ZM (Kd.R_below (ZRK HO334.out) hb); have n5_ := ZM (Kd.R_below (ZRK HO337.out) hb); have n6_ := ZM (blk_below (ZBK BK331.out) hb); have n7_ := ZM (ZW (ZBB HB.out) hb); have n8_ := ZM (hbox); have n9_ := ZM (ZGE hg HB.out); have n10_ := ZM (ZGE hg HB.out); have n11_ := ZM (ZNE hg BK331.out); have n12_ := ZM (ZNG hg BK331.out); clear HO_0; clear HO323; clear HO326; clear HO329; clear HO334; clear HO337; clear BK331; clear HB; have HO_0 := n0_; have HO323 := n1_; have HO326 := n2_; have HO329 := n3_; have HO334 := n4_; have HO337 := n5_; have BK331 := n6_; have HB := n7_; have BK339 := n8_; have GW339 := n9_; have GE339 := n10_; have NB331_339 := n11_; have NB339_331 := n12_; clear n0_ n1_ n2_ n3_ n4_ n5_ n6_ n7_ n8_ n9_ n10_ n11_ n12_; clear hb hbox hg; obtain ⟨Ao32, co32, eo32⟩ := Kd.R_slice HO334.out; subst eo32; have hnb33 := NB339_331.out; have hnc33 := NB331_339.out; obtain ⟨hcz34_0, hcz34_1, hfz34_0, hfz34_1⟩ := ZC2 BK339.out; obtain ⟨Ao35, co35, eo35⟩ := Kd.R_slice HO337.out; subst eo35) | ((with_reducible refine gate_dst (N := 33) rfl ?_); refine Kd.R_lit (Kd.int .u8) _ 5 ?hg (N := 33) ?hd (xs := ([] : List Int)) (inner := []) (ok := fun _ => True) (okp := fun _ => True) ?hr ?hp (fun _ hk => hk) trivial (Below.refl _ _) (Nat.le_refl _) (by simp) ?_; (case hd => rfl); (case hg => rfl); (case hr => first | (go_simp; done) | (go_simp; rfl)); (case hp => exact (Reps.none _ _)); intro v341 w36 ho37 hb hg_ hnew_; clear hg_ hnew_; (first | rw [← Ny340.out] at ho37 | (simp only [Int.reduceToNat] at ho37; rw [← Ny340.out] at ho37)); have n0_ := ZM (Kd.V_elder' (by (with_reducible repeat (first | apply Kd.V_alloc | apply Kd.V_drewN | apply Kd.V_drew)); exact (Kd.V_mono (Kd.V_far (p := ⟨gb339, 1, none⟩) (Kd.V_far (p := ⟨gb339, 0, none⟩) (Kd.V_mono HO_0.out (fun k_ hk => (⟨hk, hk.2⟩ : _ ∧ k_ ≠ gb339))) (fun _ hk => hk.2) (.slice Ao32 t332.length co32)) (fun _ hk => hk.2) (.slice Ao35 t335.length co35)) (fun _ h_ => h_.1))) (Kd.R_base ho37) hb); have n1_ := ZM (Kd.R_elder' (by (with_reducible repeat (first | apply ZY | apply ZX | apply ZZ)); exact (Kd.R_mono (Kd.R_far (p := ⟨gb339, 1, none⟩) (Kd.R_far (p := ⟨gb339, 0, none⟩) (Kd.R_types HO323.out BK339.out (by decide)) (fun _ hk => hk.2) (.slice Ao32 t332.length co32)) (fun _ hk => hk.2) (.slice Ao35 t335.length co35)) (fun _ h_ => h_.1))) (Kd.R_base ho37) hb); have n2_ := ZM (Kd.R_below (by (with_reducible repeat (first | apply ZY | apply ZX | apply ZZ)); exact (Kd.R_mono (Kd.R_far (p := ⟨gb339, 1, none⟩) (Kd.R_far (p := ⟨gb339, 0, none⟩) (Kd.R_types HO326.out BK339.out (by decide)) (fun _ hk => hk.2) (.slice Ao32 t332.length co32)) (fun _ hk => hk.2) (.slice Ao35 t335.length co35)) (fun _ h_ => h_.1))) hb); have n3_ := ZM (Kd.R_below (by (with_reducible repeat (first | apply ZY | apply ZX | apply ZZ)); exact (Kd.R_mono (Kd.R_far (p := ⟨gb339, 1, none⟩) (Kd.R_far (p := ⟨gb339, 0, none⟩) (Kd.R_types HO329.out BK339.out (by decide)) (fun _ hk => hk.2) (.slice Ao32 t332.length co32)) (fun _ hk => hk.2) (.slice Ao35 t335.length co35)) (fun _ h_ => h_.1))) hb); have n4_ := ZM (Kd.R_below (by (with_reducible repeat (first | apply ZY | apply ZX | apply ZZ)); exact (Kd.R_mono (Kd.R_far (p := ⟨gb339, 1, none⟩) (Kd.R_far (p := ⟨gb339, 0, none⟩) (Kd.R_types HO334.out BK339.out (by decide)) (fun _ hk => hk.2) (.slice Ao32 t332.length co32)) (fun _ hk => hk.2) (.slice Ao35 t335.length co35)) (fun _ h_ => h_.1))) hb); have n5_ := ZM (Kd.R_below (by (with_reducible repeat (first | apply ZY | apply ZX | apply ZZ)); exact (Kd.R_mono (Kd.R_far (p := ⟨gb339, 1, none⟩) (Kd.R_far (p := ⟨gb339, 0, none⟩) (Kd.R_types HO337.out BK339.out (by decide)) (fun _ hk => hk.2) (.slice Ao32 t332.length co32)) (fun _ hk => hk.2) (.slice Ao35 t335.length co35)) (fun _ h_ => h_.1))) hb); have n6_ := ZM (Kd.R_lower (Kd.R_new' (Kd.R_newM (M := fun k_ => (w.heap.size ≤ k_)) ho37 (ZV (ZBB HB.out)) (fun k_ h_ => h_)) (Kd.R_lt (by (with_reducible repeat (first | apply ZY | apply ZX | apply ZZ)); exact (Kd.R_mono (Kd.R_far (p := ⟨gb339, 1, none⟩) (Kd.R_far (p := ⟨gb339, 0, none⟩) (Kd.R_types HO323.out BK339.out (by decide)) (fun _ hk => hk.2) (.slice Ao32 t332.length co32)) (fun _ hk => hk.2) (.slice Ao35 t335.length co35)) (fun _ h_ => h_.1))))) (ZV (ZBB HB.out))); have n7_ := ZM (blk_below (g := gb331) (o := .cells #[.slice Ao27 t324.length co27, .slice Ao29 t327.length co29] 27 (0, 0)) (ZBF BK331.out NB331_339.out) hb); have n8_ := ZM (blk_below (g := gb339) (o := .cells #[.slice Ao32 t332.length co32, .slice Ao35 t335.length co35] 27 (0, 0)) (by (with_reducible repeat (first | refine ZR ?_ _ | refine ZS ?_ | refine ZT ?_ _)); refine blk_put (cs := #[.slice Ao32 t332.length co32, .slice none 0 0]) ?_ 1 _ rfl; (with_reducible repeat (first | refine ZR ?_ _ | refine ZS ?_ | refine ZT ?_ _)); refine blk_put (cs := #[.slice none 0 0, .slice none 0 0]) ?_ 0 _ rfl; (with_reducible repeat (first | refine ZR ?_ _ | refine ZS ?_ | refine ZT ?_ _)); exact BK339.out) hb); have n9_ := ZM (ZW (ZBB HB.out) hb); clear HO_0; clear HO323; clear HO326; clear HO329; clear HO334; clear HO337; clear BK331; clear BK339; clear HB; have HO_0 := n0_; have HO323 := n1_; have HO326 := n2_; have HO329 := n3_; have HO334 := n4_; have HO337 := n5_; have HO342 := n6_; have BK331 := n7_; have BK339 := n8_; have HB := n9_; clear n0_ n1_ n2_ n3_ n4_ n5_ n6_ n7_ n8_ n9_; clear hb ho37) | ((with_reducible refine gate_builtin (b := .append) (xs := #[.tmp 33, .tmp 34]) rfl ?_); at_builtin; refine Kd.R_append_rows (Kd.int .u8) (w0 := w) w.heap.size rfl (.tmp 33) (.tmp 34) 22 5 (.int .u8 0) 1 rfl Tryd.underlying22 info5 rfl (by decide) (by omega) v341 y340 x0_2 _ _ _ (fun k_ => (w.heap.size ≤ k_) ∧ some k_ ≠ (.slice Ao24 y321.length co24 : Value).ownBlock) (fun _ => False) rfl rfl ?aO ?aR (fun _ _ h => h) (fun _ h => h.elim) ?aF ?aB ?aS ?aL ?_; (case aR => repeat (first | exact (Kd.V_reads' HO_0.out).2.2 | (with_reducible refine Kd.C_alloc ?_ _) | (with_reducible refine Kd.C_drewN ?_ _) | (with_reducible refine Kd.C_drew ?_))); (case aB => exact (ZBB HB.out)); (case aF => exact (fun k_ hk => ⟨(Nat.le_trans (ZV (ZBB HB.out)) hk), Kd.fresh' (Kd.R_lt (ZRK HO323.out)) k_ hk⟩)); (case aO => exact (by (with_reducible repeat (first | apply ZY | apply ZX | apply ZZ)); exact Kd.R_mono HO342.out (fun _ hk => ⟨hk.1.1, hk.2⟩))); (case aS => exact (ZV (ZBB HB.out))); (case aL => have := LMc11.out; omega); intro v344 w38 ho hb hg hat; rw [← Ny343.out] at ho; have n0_ := ZM (Kd.V_afterv (ok := (fun k_ => (P0_ k_ ∨ w.heap.size ≤ k_) ∧ some k_ ≠ (.slice Ao24 y321.length co24 : Value).ownBlock ∧ some k_ ≠ (.slice Ao27 t324.length co27 : Value).ownBlock ∧ some k_ ≠ (.slice Ao29 t327.length co29 : Value).ownBlock ∧ some k_ ≠ (.slice Ao32 t332.length co32 : Value).ownBlock ∧ some k_ ≠ (.slice Ao35 t335.length co35 : Value).ownBlock ∧ k_ ≠ gb331 ∧ k_ ≠ gb339)) (by (with_reducible repeat (first | apply Kd.V_alloc | apply Kd.V_drewN | apply Kd.V_drew)); exact Kd.V_mono HO_0.out (fun _ hk => ⟨⟨hk.1.1.1.1.1.1.1.1, ⟨hk.1.1.1.1.1.1.1.2, ⟨hk.1.1.1.1.1.1.2, ⟨hk.1.1.1.1.1.2, ⟨hk.1.1.1.2, ⟨hk.1.1.2, ⟨hk.1.1.1.1.2, hk.1.2⟩⟩⟩⟩⟩⟩⟩, hk.2⟩)) hg hat); have n1_ := ZM (Kd.R_after (ok := (fun k_ => (w.heap.size ≤ k_))) (ZRK HO323.out) hg hat); have n2_ := ZM (Kd.R_over' (ZRK HO326.out) (Kd.R_typed (ZRK HO342.out)) (by decide) hg); have n3_ := ZM (Kd.R_over' (ZRK HO329.out) (Kd.R_typed (ZRK HO342.out)) (by decide) hg); have n4_ := ZM (blk_grown (g := gb331) (o := .cells #[.slice Ao27 t324.length co27, .slice Ao29 t327.length co29] 27 (0, 0)) (ZBK BK331.out) hg (Kd.R_ne HO342.out BK331.out (by decide))); have n5_ := ZM (Kd.R_over' (ZRK HO334.out) (Kd.R_typed (ZRK HO342.out)) (by decide) hg); have n6_ := ZM (Kd.R_over' (ZRK HO337.out) (Kd.R_typed (ZRK HO342.out)) (by decide) hg); have n7_ := ZM (blk_grown (g := gb339) (o := .cells #[.slice Ao32 t332.length co32, .slice Ao35 t335.length co35] 27 (0, 0)) (ZBK BK339.out) hg (Kd.R_ne HO342.out BK339.out (by decide))); have n8_ := ZM (hb); have n9_ := ZM (ho); clear HO_0; clear HO323; clear HO326; clear HO329; clear BK331; clear HO334; clear HO337; clear BK339; clear HB; clear HO342; have HO_0 := n0_; have HO323 := n1_; have HO326 := n2_; have HO329 := n3_; have BK331 := n4_; have HO334 := n5_; have HO337 := n6_; have BK339 := n7_; have HB := n8_; have HO345 := n9_; clear n0_ n1_ n2_ n3_ n4_ n5_ n6_ n7_ n8_ n9_; clear ho hb hg hat; obtain ⟨Ao39, co39, eo39⟩ := Kd.R_slice HO345.out; subst eo39) | ((with_reducible refine gate_callee (f := 11) rfl ?_); refine goesL_ (some 36) rfl rfl Tryd.func11 (by kernel_rfl) rfl #[.slice Ao39 y343.length co39] rfl ZH ?_; (with_reducible refine (gcode_Load.calls kj2 _ _ y343 t346 t349 t352 _ ?side1 ?side2 A12.out).mono ?_); (case side1 => repeat (first | exact (Kd.R_reads' HO345.out).2.2 | (with_reducible refine Kd.C_alloc ?_ _) | (with_reducible refine Kd.C_drewN ?_ _) | (with_reducible refine Kd.C_drew ?_))); (case side2 => exact (Kd.R_reads' HO345.out).2.1); rintro e w40 ⟨v347, v350, rfl, ho0, ho1, hb⟩; refine ⟨_, rfl, ?_⟩; have n0_ := ZM (Kd.V_mono (Kd.V_told (Kd.V_told (Kd.V_old (by (with_reducible repeat (first | apply Kd.V_alloc | apply Kd.V_drewN | apply Kd.V_drew)); exact HO_0.out) hb) (Kd.R_base ho0)) (Kd.R_base ho1)) (fun _ h_ => h_.1)); have n1_ := ZM (Kd.R_below (ZRK HO323.out) hb); have n2_ := ZM (Kd.R_elder' (ZRK HO326.out) (Kd.R_base ho0) hb); have n3_ := ZM (Kd.R_elder' (ZRK HO329.out) (Kd.R_base ho1) hb); have n4_ := ZM (Kd.R_elder' (ZRK HO334.out) (Kd.R_base ho0) hb); have n5_ := ZM (Kd.R_elder' (ZRK HO337.out) (Kd.R_base ho1) hb); have n6_ := ZM (Kd.R_below (ZRK HO345.out) hb); have n7_ := ZM (Kd.R_lower (Kd.R_new' (Kd.R_new' (Kd.R_newM (M := fun k_ => (w.heap.size ≤ k_)) ho0 (ZV (ZBB HB.out)) (fun k_ h_ => h_)) (Kd.R_lt (ZRK HO326.out))) (Kd.R_lt (ZRK HO334.out))) (ZV (ZBB HB.out))); have n8_ := ZM (Kd.R_lower (Kd.R_new' (Kd.R_new' (Kd.R_newM (M := fun k_ => (w.heap.size ≤ k_)) ho1 (ZV (ZBB HB.out)) (fun k_ h_ => h_)) (Kd.R_lt (ZRK HO329.out))) (Kd.R_lt (ZRK HO337.out))) (ZV (ZBB HB.out))); have n9_ := ZM (blk_below (ZBK BK331.out) hb); have n10_ := ZM (blk_below (ZBK BK339.out) hb); have n11_ := ZM (ZW (ZBB HB.out) hb); clear HO_0; clear HO323; clear HO326; clear HO329; clear HO334; clear HO337; clear HO345; clear BK331; clear BK339; clear HB; have HO_0 := n0_; have HO323 := n1_; have HO326 := n2_; have HO329 := n3_; have HO334 := n4_; have HO337 := n5_; have HO345 := n6_; have HO348 := n7_; have HO351 := n8_; have BK331 := n9_; have BK339 := n10_; have HB := n11_; clear n0_ n1_ n2_ n3_ n4_ n5_ n6_ n7_ n8_ n9_ n10_ n11_; (try clear hb); (try clear hb2); (try clear hk); (try clear hi); (try clear ho0); (try clear ho1)) | ((with_reducible refine gate_dst (N := 8) rfl ?_); refine ZBX 8 (cs := #[.slice none 0 0, .slice none 0 0]) (t := 27) ?_; intro gb353 hg w41 hbox hb; have n0_ := ZM (Kd.V_below (Kd.V_elderB (by (with_reducible repeat (first | apply Kd.V_alloc | apply Kd.V_drewN | apply Kd.V_drew)); exact HO_0.out) gb353 (Nat.le_of_eq hg.symm)) hb); have n1_ := ZM (Kd.R_below (ZRK HO323.out) hb); have n2_ := ZM (Kd.R_below (ZRK HO326.out) hb); have n3_ := ZM (Kd.R_below (ZRK HO329.out) hb); have n4_ := ZM (Kd.R_below (ZRK HO334.out) hb); have n5_ := ZM (Kd.R_below (ZRK HO337.out) hb); have n6_ := ZM (Kd.R_below (ZRK HO345.out) hb); have n7_ := ZM (Kd.R_below (ZRK HO348.out) hb); have n8_ := ZM (Kd.R_below (ZRK HO351.out) hb); have n9_ := ZM (blk_below (ZBK BK331.out) hb); have n10_ := ZM (blk_below (ZBK BK339.out) hb); have n11_ := ZM (ZW (ZBB HB.out) hb); have n12_ := ZM (hbox); have n13_ := ZM (ZGE hg HB.out); have n14_ := ZM (ZGE hg HB.out); have n15_ := ZM (ZNE hg BK331.out); have n16_ := ZM (ZNG hg BK331.out); have n17_ := ZM (ZNE hg BK339.out); have n18_ := ZM (ZNG hg BK339.out); clear HO_0; clear HO323; clear HO326; clear HO329; clear HO334; clear HO337; clear HO345; clear HO348; clear HO351; clear BK331; clear BK339; clear HB; have HO_0 := n0_; have HO323 := n1_; have HO326 := n2_; have HO329 := n3_; have HO334 := n4_; have HO337 := n5_; have HO345 := n6_; have HO348 := n7_; have HO351 := n8_; have BK331 := n9_; have BK339 := n10_; have HB := n11_; have BK353 := n12_; have GW353 := n13_; have GE353 := n14_; have NB331_353 := n15_; have NB353_331 := n16_; have NB339_353 := n17_; have NB353_339 := n18_; clear n0_ n1_ n2_ n3_ n4_ n5_ n6_ n7_ n8_ n9_ n10_ n11_ n12_ n13_ n14_ n15_ n16_ n17_ n18_; clear hb hbox hg; obtain ⟨Ao42, co42, eo42⟩ := Kd.R_slice HO348.out; subst eo42; have hnb43 := NB353_331.out; have hnc43 := NB331_353.out; have hnb44 := NB353_339.out; have hnc44 := NB339_353.out; obtain ⟨hcz45_0, hcz45_1, hfz45_0, hfz45_1⟩ := ZC2 BK353.out; obtain ⟨Ao46, co46, eo46⟩ := Kd.R_slice HO351.out; subst eo46) | ((with_reducible refine gate_callee (f := 12) rfl ?_); refine goesL_ (some 41) rfl rfl Tryd.func12 (by kernel_rfl) rfl #[.slice Ao23 x0_2.length co23] rfl ZH ?_; (with_reducible refine (meanderref10_Load.calls kj2 _ _ x0_2 t354 t357 t360 _ ?side1 ?side2 A13.out).mono ?_); (case side1 => refine (Kd.V_reads' (e := 5) (base := w.heap.size) (ok := fun k_ => ((((((P0_ k_ ∨ w.heap.size ≤ k_) ∧ (some k_ ≠ (.slice Ao24 y321.length co24 : Value).ownBlock ∧ (some k_ ≠ (.slice Ao27 t324.length co27 : Value).ownBlock ∧ (some k_ ≠ (.slice Ao29 t327.length co29 : Value).ownBlock ∧ (some k_ ≠ (.slice Ao32 t332.length co32 : Value).ownBlock ∧ (some k_ ≠ (.slice Ao35 t335.length co35 : Value).ownBlock ∧ (k_ ≠ gb331 ∧ k_ ≠ gb339))))))) ∧ some k_ ≠ (.slice Ao39 y343.length co39 : Value).ownBlock) ∧ some k_ ≠ (.slice Ao42 t346.length co42 : Value).ownBlock) ∧ some k_ ≠ (.slice Ao46 t349.length co46 : Value).ownBlock) ∧ k_ ≠ gb353)) (n := x0_2.length) (c := co23) ?_).2.2; exact (by (with_reducible repeat (first | apply Kd.V_alloc | apply Kd.V_drewN | apply Kd.V_drew)); exact (Kd.V_mono (Kd.V_far (p := ⟨gb353, 1, none⟩) (Kd.V_far (p := ⟨gb353, 0, none⟩) (Kd.V_mono HO_0.out (fun k_ hk => (⟨hk, hk.2⟩ : _ ∧ k_ ≠ gb353))) (fun _ hk => hk.2) (.slice Ao42 t346.length co42)) (fun _ hk => hk.2) (.slice Ao46 t349.length co46)) (fun _ h_ => h_.1)))); (case side2 => exact (Kd.V_reads' HO_0.out).2.1); rintro e w47 ⟨v355, v358, rfl, ho0, ho1, hb⟩; refine ⟨_, rfl, ?_⟩; have n0_ := ZM (Kd.V_mono (Kd.V_told (Kd.V_told (Kd.V_old (by (with_reducible repeat (first | apply Kd.V_alloc | apply Kd.V_drewN | apply Kd.V_drew)); exact (Kd.V_mono (Kd.V_far (p := ⟨gb353, 1, none⟩) (Kd.V_far (p := ⟨gb353, 0, none⟩) (Kd.V_mono HO_0.out (fun k_ hk => (⟨hk, hk.2⟩ : _ ∧ k_ ≠ gb353))) (fun _ hk => hk.2) (.slice Ao42 t346.length co42)) (fun _ hk => hk.2) (.slice Ao46 t349.length co46)) (fun _ h_ => h_.1))) hb) (Kd.R_base ho0)) (Kd.R_base ho1)) (fun _ h_ => h_.1)); have n1_ := ZM (Kd.R_below (by (with_reducible repeat (first | apply ZY | apply ZX | apply ZZ)); exact (Kd.R_mono (Kd.R_far (p := ⟨gb353, 1, none⟩) (Kd.R_far (p := ⟨gb353, 0, none⟩) (Kd.R_types HO323.out BK353.out (by decide)) (fun _ hk => hk.2) (.slice Ao42 t346.length co42)) (fun _ hk => hk.2) (.slice Ao46 t349.length co46)) (fun _ h_ => h_.1))) hb); have n2_ := ZM (Kd.R_elder' (by (with_reducible repeat (first | apply ZY | apply ZX | apply ZZ)); exact (Kd.R_mono (Kd.R_far (p := ⟨gb353, 1, none⟩) (Kd.R_far (p := ⟨gb353, 0, none⟩) (Kd.R_types HO326.out BK353.out (by decide)) (fun _ hk => hk.2) (.slice Ao42 t346.length co42)) (fun _ hk => hk.2) (.slice Ao46 t349.length co46)) (fun _ h_ => h_.1))) (Kd.R_base ho0) hb); have n3_ := ZM (Kd.R_elder' (by (with_reducible repeat (first | apply ZY | apply ZX | apply ZZ)); exact (Kd.R_mono (Kd.R_far (p := ⟨gb353, 1, none⟩) (Kd.R_far (p := ⟨gb353, 0, none⟩) (Kd.R_types HO329.out BK353.out (by decide)) (fun _ hk => hk.2) (.slice Ao42 t346.length co42)) (fun _ hk => hk.2) (.slice Ao46 t349.length co46)) (fun _ h_ => h_.1))) (Kd.R_base ho1) hb); have n4_ := ZM (Kd.R_elder' (by (with_reducible repeat (first | apply ZY | apply ZX | apply ZZ)); exact (Kd.R_mono (Kd.R_far (p := ⟨gb353, 1, none⟩) (Kd.R_far (p := ⟨gb353, 0, none⟩) (Kd.R_types HO334.out BK353.out (by decide)) (fun _ hk => hk.2) (.slice Ao42 t346.length co42)) (fun _ hk => hk.2) (.slice Ao46 t349.length co46)) (fun _ h_ => h_.1))) (Kd.R_base ho0) hb); have n5_ := ZM (Kd.R_elder' (by (with_reducible repeat (first | apply ZY | apply ZX | apply ZZ)); exact (Kd.R_mono (Kd.R_far (p := ⟨gb353, 1, none⟩) (Kd.R_far (p := ⟨gb353, 0, none⟩) (Kd.R_types HO337.out BK353.out (by decide)) (fun _ hk => hk.2) (.slice Ao42 t346.length co42)) (fun _ hk => hk.2) (.slice Ao46 t349.length co46)) (fun _ h_ => h_.1))) (Kd.R_base ho1) hb); have n6_ := ZM (Kd.R_below (by (with_reducible repeat (first | apply ZY | apply ZX | apply ZZ)); exact (Kd.R_mono (Kd.R_far (p := ⟨gb353, 1, none⟩) (Kd.R_far (p := ⟨gb353, 0, none⟩) (Kd.R_types HO345.out BK353.out (by decide)) (fun _ hk => hk.2) (.slice Ao42 t346.length co42)) (fun _ hk => hk.2) (.slice Ao46 t349.length co46)) (fun _ h_ => h_.1))) hb); have n7_ := ZM (Kd.R_elder' (by (with_reducible repeat (first | apply ZY | apply ZX | apply ZZ)); exact (Kd.R_mono (Kd.R_far (p := ⟨gb353, 1, none⟩) (Kd.R_far (p := ⟨gb353, 0, none⟩) (Kd.R_types HO348.out BK353.out (by decide)) (fun _ hk => hk.2) (.slice Ao42 t346.length co42)) (fun _ hk => hk.2) (.slice Ao46 t349.length co46)) (fun _ h_ => h_.1))) (Kd.R_base ho0) hb); have n8_ := ZM (Kd.R_elder' (by (with_reducible repeat (first | apply ZY | apply ZX | apply ZZ)); exact (Kd.R_mono (Kd.R_far (p := ⟨gb353, 1, none⟩) (Kd.R_far (p := ⟨gb353, 0, none⟩) (Kd.R_types HO351.out BK353.out (by decide)) (fun _ hk => hk.2) (.slice Ao42 t346.length co42)) (fun _ hk => hk.2) (.slice Ao46 t349.length co46)) (fun _ h_ => h_.1))) (Kd.R_base ho1) hb); have n9_ := ZM (Kd.R_lower (Kd.R_new' (Kd.R_new' (Kd.R_new' (Kd.R_newM (M := fun k_ => (w.heap.size ≤ k_)) ho0 (ZV (ZBB HB.out)) (fun k_ h_ => h_)) (Kd.R_lt (by (with_reducible repeat (first | apply ZY | apply ZX | apply ZZ)); exact (Kd.R_mono (Kd.R_far (p := ⟨gb353, 1, none⟩) (Kd.R_far (p := ⟨gb353, 0, none⟩) (Kd.R_types HO326.out BK353.out (by decide)) (fun _ hk => hk.2) (.slice Ao42 t346.length co42)) (fun _ hk => hk.2) (.slice Ao46 t349.length co46)) (fun _ h_ => h_.1))))) (Kd.R_lt (by (with_reducible repeat (first | apply ZY | apply ZX | apply ZZ)); exact (Kd.R_mono (Kd.R_far (p := ⟨gb353, 1, none⟩) (Kd.R_far (p := ⟨gb353, 0, none⟩) (Kd.R_types HO334.out BK353.out (by decide)) (fun _ hk => hk.2) (.slice Ao42 t346.length co42)) (fun _ hk => hk.2) (.slice Ao46 t349.length co46)) (fun _ h_ => h_.1))))) (Kd.R_lt (by (with_reducible repeat (first | apply ZY | apply ZX | apply ZZ)); exact (Kd.R_mono (Kd.R_far (p := ⟨gb353, 1, none⟩) (Kd.R_far (p := ⟨gb353, 0, none⟩) (Kd.R_types HO348.out BK353.out (by decide)) (fun _ hk => hk.2) (.slice Ao42 t346.length co42)) (fun _ hk => hk.2) (.slice Ao46 t349.length co46)) (fun _ h_ => h_.1))))) (ZV (ZBB HB.out))); have n10_ := ZM (Kd.R_lower (Kd.R_new' (Kd.R_new' (Kd.R_new' (Kd.R_newM (M := fun k_ => (w.heap.size ≤ k_)) ho1 (ZV (ZBB HB.out)) (fun k_ h_ => h_)) (Kd.R_lt (by (with_reducible repeat (first | apply ZY | apply ZX | apply ZZ)); exact (Kd.R_mono (Kd.R_far (p := ⟨gb353, 1, none⟩) (Kd.R_far (p := ⟨gb353, 0, none⟩) (Kd.R_types HO329.out BK353.out (by decide)) (fun _ hk => hk.2) (.slice Ao42 t346.length co42)) (fun _ hk => hk.2) (.slice Ao46 t349.length co46)) (fun _ h_ => h_.1))))) (Kd.R_lt (by (with_reducible repeat (first | apply ZY | apply ZX | apply ZZ)); exact (Kd.R_mono (Kd.R_far (p := ⟨gb353, 1, none⟩) (Kd.R_far (p := ⟨gb353, 0, none⟩) (Kd.R_types HO337.out BK353.out (by decide)) (fun _ hk => hk.2) (.slice Ao42 t346.length co42)) (fun _ hk => hk.2) (.slice Ao46 t349.length co46)) (fun _ h_ => h_.1))))) (Kd.R_lt (by (with_reducible repeat (first | apply ZY | apply ZX | apply ZZ)); exact (Kd.R_mono (Kd.R_far (p := ⟨gb353, 1, none⟩) (Kd.R_far (p := ⟨gb353, 0, none⟩) (Kd.R_types HO351.out BK353.out (by decide)) (fun _ hk => hk.2) (.slice Ao42 t346.length co42)) (fun _ hk => hk.2) (.slice Ao46 t349.length co46)) (fun _ h_ => h_.1))))) (ZV (ZBB HB.out))); have n11_ := ZM (blk_below (g := gb331) (o := .cells #[.slice Ao27 t324.length co27, .slice Ao29 t327.length co29] 27 (0, 0)) (ZBF BK331.out NB331_353.out) hb); have n12_ := ZM (blk_below (g := gb339) (o := .cells #[.slice Ao32 t332.length co32, .slice Ao35 t335.length co35] 27 (0, 0)) (ZBF BK339.out NB339_353.out) hb); have n13_ := ZM (blk_below (g := gb353) (o := .cells #[.slice Ao42 t346.length co42, .slice Ao46 t349.length co46] 27 (0, 0)) (by (with_reducible repeat (first | refine ZR ?_ _ | refine ZS ?_ | refine ZT ?_ _)); refine blk_put (cs := #[.slice Ao42 t346.length co42, .slice none 0 0]) ?_ 1 _ rfl; (with_reducible repeat (first | refine ZR ?_ _ | refine ZS ?_ | refine ZT ?_ _)); refine blk_put (cs := #[.slice none 0 0, .slice none 0 0]) ?_ 0 _ rfl; (with_reducible repeat (first | refine ZR ?_ _ | refine ZS ?_ | refine ZT ?_ _)); exact BK353.out) hb); have n14_ := ZM (ZW (ZBB HB.out) hb); clear HO_0; clear HO323; clear HO326; clear HO329; clear HO334; clear HO337; clear HO345; clear HO348; clear HO351; clear BK331; clear BK339; clear BK353; clear HB; have HO_0 := n0_; have HO323 := n1_; have HO326 := n2_; have HO329 := n3_; have HO334 := n4_; have HO337 := n5_; have HO345 := n6_; have HO348 := n7_; have HO351 := n8_; have HO356 := n9_; have HO359 := n10_; have BK331 := n11_; have BK339 := n12_; have BK353 := n13_; have HB := n14_; clear n0_ n1_ n2_ n3_ n4_ n5_ n6_ n7_ n8_ n9_ n10_ n11_ n12_ n13_ n14_; (try clear hb); (try clear hb2); (try clear hk); (try clear hi); (try clear ho0); (try clear ho1)) | ((with_reducible refine gate_dst (N := 10) rfl ?_); refine ZBX 10 (cs := #[.slice none 0 0, .slice none 0 0]) (t := 27) ?_; intro gb361 hg w48 hbox hb; have n0_ := ZM (Kd.V_below (Kd.V_elderB (by (with_reducible repeat (first | apply Kd.V_alloc | apply Kd.V_drewN | apply Kd.V_drew)); exact HO_0.out) gb361 (Nat.le_of_eq hg.symm)) hb); have n1_ := ZM (Kd.R_below (ZRK HO323.out) hb); have n2_ := ZM (Kd.R_below (ZRK HO326.out) hb); have n3_ := ZM (Kd.R_below (ZRK HO329.out) hb); have n4_ := ZM (Kd.R_below (ZRK HO334.out) hb); have n5_ := ZM (Kd.R_below (ZRK HO337.out) hb); have n6_ := ZM (Kd.R_below (ZRK HO345.out) hb); have n7_ := ZM (Kd.R_below (ZRK HO348.out) hb); have n8_ := ZM (Kd.R_below (ZRK HO351.out) hb); have n9_ := ZM (Kd.R_below (ZRK HO356.out) hb); have n10_ := ZM (Kd.R_below (ZRK HO359.out) hb); have n11_ := ZM (blk_below (ZBK BK331.out) hb); have n12_ := ZM (blk_below (ZBK BK339.out) hb); have n13_ := ZM (blk_below (ZBK BK353.out) hb); have n14_ := ZM (ZW (ZBB HB.out) hb); have n15_ := ZM (hbox); have n16_ := ZM (ZGE hg HB.out); have n17_ := ZM (ZGE hg HB.out); have n18_ := ZM (ZNE hg BK331.out); have n19_ := ZM (ZNG hg BK331.out); have n20_ := ZM (ZNE hg BK339.out); have n21_ := ZM (ZNG hg BK339.out); have n22_ := ZM (ZNE hg BK353.out); have n23_ := ZM (ZNG hg BK353.out); clear HO_0; clear HO323; clear HO326; clear HO329; clear HO334; clear HO337; clear HO345; clear HO348; clear HO351; clear HO356; clear HO359; clear BK331; clear BK339; clear BK353; clear HB; have HO_0 := n0_; have HO323 := n1_; have HO326 := n2_; have HO329 := n3_; have HO334 := n4_; have HO337 := n5_; have HO345 := n6_; have HO348 := n7_; have HO351 := n8_; have HO356 := n9_; have HO359 := n10_; have BK331 := n11_; have BK339 := n12_; have BK353 := n13_; have HB := n14_; have BK361 := n15_; have GW361 := n16_; have GE361 := n17_; have NB331_361 := n18_; have NB361_331 := n19_; have NB339_361 := n20_; have NB361_339 := n21_; have NB353_361 := n22_; have NB361_353 := n23_; clear n0_ n1_ n2_ n3_ n4_ n5_ n6_ n7_ n8_ n9_ n10_ n11_ n12_ n13_ n14_ n15_ n16_ n17_ n18_ n19_ n20_ n21_ n22_ n23_; clear hb hbox hg; obtain ⟨Ao49, co49, eo49⟩ := Kd.R_slice HO356.out; subst eo49; have hnb50 := NB361_331.out; have hnc50 := NB331_361.out; have hnb51 := NB361_339.out; have hnc51 := NB339_361.out; have hnb52 := NB361_353.out; have hnc52 := NB353_361.out; obtain ⟨hcz53_0, hcz53_1, hfz53_0, hfz53_1⟩ := ZC2 BK361.out; obtain ⟨Ao54, co54, eo54⟩ := Kd.R_slice HO359.out; subst eo54; obtain ⟨hcz55_0, hcz55_1, hfz55_0, hfz55_1⟩ := ZC2 BK331.out; obtain ⟨hcz56_0, hcz56_1, hfz56_0, hfz56_1⟩ := ZC2 BK339.out) | ((with_reducible refine gate_callee (f := 13) rfl ?_); refine goesL_ (some 46) rfl rfl Tryd.func13 (by kernel_rfl) rfl #[.agg #[.slice Ao27 t324.length co27, .slice Ao29 t327.length co29], .agg #[.slice Ao32 t332.length co32, .slice Ao35 t335.length co35]] rfl ZH ?_; (with_reducible refine (meanderref08_SameGraph.calls kj2 _ _ t324 _ _ t327 _ _ t332 _ _ t335 true _ ?side1 ?side2 ?side3 ?side4 ?side5 ?side6 ?side7 ?side8 A14.out).mono ?_); (case side1 => refine (Kd.R_reads' (e := 40) (base := w.heap.size) (ok := fun k_ => (((((w.heap.size ≤ k_) ∧ True) ∧ some k_ ≠ (.slice Ao32 t332.length co32 : Value).ownBlock) ∧ some k_ ≠ (.slice Ao42 t346.length co42 : Value).ownBlock) ∧ some k_ ≠ (.slice Ao49 t354.length co49 : Value).ownBlock)) (n := t324.length) (c := co27) ?_).2.2; exact (by (with_reducible repeat (first | apply ZY | apply ZX | apply ZZ)); exact (Kd.R_mono (Kd.R_far (p := ⟨gb361, 1, none⟩) (Kd.R_far (p := ⟨gb361, 0, none⟩) (Kd.R_types HO326.out BK361.out (by decide)) (fun _ hk => hk.2) (.slice Ao49 t354.length co49)) (fun _ hk => hk.2) (.slice Ao54 t357.length co54)) (fun _ h_ => h_.1)))); (case side2 => exact (Kd.R_reads' HO326.out).2.1); (case side3 => refine (Kd.R_reads' (e := 42) (base := w.heap.size) (ok := fun k_ => (((((w.heap.size ≤ k_) ∧ True) ∧ some k_ ≠ (.slice Ao35 t335.length co35 : Value).ownBlock) ∧ some k_ ≠ (.slice Ao46 t349.length co46 : Value).ownBlock) ∧ some k_ ≠ (.slice Ao54 t357.length co54 : Value).ownBlock)) (n := t327.length) (c := co29) ?_).2.2; exact (by (with_reducible repeat (first | apply ZY | apply ZX | apply ZZ)); exact (Kd.R_mono (Kd.R_far (p := ⟨gb361, 1, none⟩) (Kd.R_far (p := ⟨gb361, 0, none⟩) (Kd.R_types HO329.out BK361.out (by decide)) (fun _ hk => hk.2) (.slice Ao49 t354.length co49)) (fun _ hk => hk.2) (.slice Ao54 t357.length co54)) (fun _ h_ => h_.1)))); (case side4 => exact (Kd.R_reads' HO329.out).2.1); (case side5 => refine (Kd.R_reads' (e := 40) (base := w.heap.size) (ok := fun k_ => (((((w.heap.size ≤ k_) ∧ True) ∧ some k_ ≠ (.slice Ao27 t324.length co27 : Value).ownBlock) ∧ some k_ ≠ (.slice Ao42 t346.length co42 : Value).ownBlock) ∧ some k_ ≠ (.slice Ao49 t354.length co49 : Value).ownBlock)) (n := t332.length) (c := co32) ?_).2.2; exact (by (with_reducible repeat (first | apply ZY | apply ZX | apply ZZ)); exact (Kd.R_mono (Kd.R_far (p := ⟨gb361, 1, none⟩) (Kd.R_far (p := ⟨gb361, 0, none⟩) (Kd.R_types HO334.out BK361.out (by decide)) (fun _ hk => hk.2) (.slice Ao49 t354.length co49)) (fun _ hk => hk.2) (.slice Ao54 t357.length co54)) (fun _ h_ => h_.1)))); (case side6 => exact (Kd.R_reads' HO334.out).2.1); (case side7 => refine (Kd.R_reads' (e := 42) (base := w.heap.size) (ok := fun k_ => (((((w.heap.size ≤ k_) ∧ True) ∧ some k_ ≠ (.slice Ao29 t327.length co29 : Value).ownBlock) ∧ some k_ ≠ (.slice Ao46 t349.length co46 : Value).ownBlock) ∧ some k_ ≠ (.slice Ao54 t357.length co54 : Value).ownBlock)) (n := t335.length) (c := co35) ?_).2.2; exact (by (with_reducible repeat (first | apply ZY | apply ZX | apply ZZ)); exact (Kd.R_mono (Kd.R_far (p := ⟨gb361, 1, none⟩) (Kd.R_far (p := ⟨gb361, 0, none⟩) (Kd.R_types HO337.out BK361.out (by decide)) (fun _ hk => hk.2) (.slice Ao49 t354.length co49)) (fun _ hk => hk.2) (.slice Ao54 t357.length co54)) (fun _ h_ => h_.1)))); (case side8 => exact (Kd.R_reads' HO337.out).2.1); rintro e w57 ⟨rfl, hb⟩; refine ⟨_, rfl, ?_⟩; have n0_ := ZM (Kd.V_below (by (with_reducible repeat (first | apply Kd.V_alloc | apply Kd.V_drewN | apply Kd.V_drew)); exact (Kd.V_mono (Kd.V_far (p := ⟨gb361, 1, none⟩) (Kd.V_far (p := ⟨gb361, 0, none⟩) (Kd.V_mono HO_0.out (fun k_ hk => (⟨hk, hk.2⟩ : _ ∧ k_ ≠ gb361))) (fun _ hk => hk.2) (.slice Ao49 t354.length co49)) (fun _ hk => hk.2) (.slice Ao54 t357.length co54)) (fun _ h_ => h_.1))) hb); have n1_ := ZM (Kd.R_below (by (with_reducible repeat (first | apply ZY | apply ZX | apply ZZ)); exact (Kd.R_mono (Kd.R_far (p := ⟨gb361, 1, none⟩) (Kd.R_far (p := ⟨gb361, 0, none⟩) (Kd.R_types HO323.out BK361.out (by decide)) (fun _ hk => hk.2) (.slice Ao49 t354.length co49)) (fun _ hk => hk.2) (.slice Ao54 t357.length co54)) (fun _ h_ => h_.1))) hb); have n2_ := ZM (Kd.R_below (by (with_reducible repeat (first | apply ZY | apply ZX | apply ZZ)); exact (Kd.R_mono (Kd.R_far (p := ⟨gb361, 1, none⟩) (Kd.R_far (p := ⟨gb361, 0, none⟩) (Kd.R_types HO326.out BK361.out (by decide)) (fun _ hk => hk.2) (.slice Ao49 t354.length co49)) (fun _ hk => hk.2) (.slice Ao54 t357.length co54)) (fun _ h_ => h_.1))) hb); have n3_ := ZM (Kd.R_below (by (with_reducible repeat (first | apply ZY | apply ZX | apply ZZ)); exact (Kd.R_mono (Kd.R_far (p := ⟨gb361, 1, none⟩) (Kd.R_far (p := ⟨gb361, 0, none⟩) (Kd.R_types HO329.out BK361.out (by decide)) (fun _ hk => hk.2) (.slice Ao49 t354.length co49)) (fun _ hk => hk.2) (.slice Ao54 t357.length co54)) (fun _ h_ => h_.1))) hb); have n4_ := ZM (Kd.R_below (by (with_reducible repeat (first | apply ZY | apply ZX | apply ZZ)); exact (Kd.R_mono (Kd.R_far (p := ⟨gb361, 1, none⟩) (Kd.R_far (p := ⟨gb361, 0, none⟩) (Kd.R_types HO334.out BK361.out (by decide)) (fun _ hk => hk.2) (.slice Ao49 t354.length co49)) (fun _ hk => hk.2) (.slice Ao54 t357.length co54)) (fun _ h_ => h_.1))) hb); have n5_ := ZM (Kd.R_below (by (with_reducible repeat (first | apply ZY | apply ZX | apply ZZ)); exact (Kd.R_mono (Kd.R_far (p := ⟨gb361, 1, none⟩) (Kd.R_far (p := ⟨gb361, 0, none⟩) (Kd.R_types HO337.out BK361.out (by decide)) (fun _ hk => hk.2) (.slice Ao49 t354.length co49)) (fun _ hk => hk.2) (.slice Ao54 t357.length co54)) (fun _ h_ => h_.1))) hb); have n6_ := ZM (Kd.R_below (by (with_reducible repeat (first | apply ZY | apply ZX | apply ZZ)); exact (Kd.R_mono (Kd.R_far (p := ⟨gb361, 1, none⟩) (Kd.R_far (p := ⟨gb361, 0, none⟩) (Kd.R_types HO345.out BK361.out (by decide)) (fun _ hk => hk.2) (.slice Ao49 t354.length co49)) (fun _ hk => hk.2) (.slice Ao54 t357.length co54)) (fun _ h_ => h_.1))) hb); have n7_ := ZM (Kd.R_below (by (with_reducible repeat (first | apply ZY | apply ZX | apply ZZ)); exact (Kd.R_mono (Kd.R_far (p := ⟨gb361, 1, none⟩) (Kd.R_far (p := ⟨gb361, 0, none⟩) (Kd.R_types HO348.out BK361.out (by decide)) (fun _ hk => hk.2) (.slice Ao49 t354.length co49)) (fun _ hk => hk.2) (.slice Ao54 t357.length co54)) (fun _ h_ => h_.1))) hb); have n8_ := ZM (Kd.R_below (by (with_reducible repeat (first | apply ZY | apply ZX | apply ZZ)); exact (Kd.R_mono (Kd.R_far (p := ⟨gb361, 1, none⟩) (Kd.R_far (p := ⟨gb361, 0, none⟩) (Kd.R_types HO351.out BK361.out (by decide)) (fun _ hk => hk.2) (.slice Ao49 t354.length co49)) (fun _ hk => hk.2) (.slice Ao54 t357.length co54)) (fun _ h_ => h_.1))) hb); have n9_ := ZM (Kd.R_below (by (with_reducible repeat (first | apply ZY | apply ZX | apply ZZ)); exact (Kd.R_mono (Kd.R_far (p := ⟨gb361, 1, none⟩) (Kd.R_far (p := ⟨gb361, 0, none⟩) (Kd.R_types HO356.out BK361.out (by decide)) (fun _ hk => hk.2) (.slice Ao49 t354.length co49)) (fun _ hk => hk.2) (.slice Ao54 t357.length co54)) (fun _ h_ => h_.1))) hb); have n10_ := ZM (Kd.R_below (by (with_reducible repeat (first | apply ZY | apply ZX | apply ZZ)); exact (Kd.R_mono (Kd.R_far (p := ⟨gb361, 1, none⟩) (Kd.R_far (p := ⟨gb361, 0, none⟩) (Kd.R_types HO359.out BK361.out (by decide)) (fun _ hk => hk.2) (.slice Ao49 t354.length co49)) (fun _ hk => hk.2) (.slice Ao54 t357.length co54)) (fun _ h_ => h_.1))) hb); have n11_ := ZM (blk_below (g := gb331) (o := .cells #[.slice Ao27 t324.length co27, .slice Ao29 t327.length co29] 27 (0, 0)) (ZBF BK331.out NB331_361.out) hb); have n12_ := ZM (blk_below (g := gb339) (o := .cells #[.slice Ao32 t332.length co32, .slice Ao35 t335.length co35] 27 (0, 0)) (ZBF BK339.out NB339_361.out) hb); have n13_ := ZM (blk_below (g := gb353) (o := .cells #[.slice Ao42 t346.length co42, .slice Ao46 t349.length co46] 27 (0, 0)) (ZBF BK353.out NB353_361.out) hb); have n14_ := ZM (blk_below (g := gb361) (o := .cells #[.slice Ao49 t354.length co49, .slice Ao54 t357.length co54] 27 (0, 0)) (by (with_reducible repeat (first | refine ZR ?_ _ | refine ZS ?_ | refine ZT ?_ _)); refine blk_put (cs := #[.slice Ao49 t354.length co49, .slice none 0 0]) ?_ 1 _ rfl; (with_reducible repeat (first | refine ZR ?_ _ | refine ZS ?_ | refine ZT ?_ _)); refine blk_put (cs := #[.slice none 0 0, .slice none 0 0]) ?_ 0 _ rfl; (with_reducible repeat (first | refine ZR ?_ _ | refine ZS ?_ | refine ZT ?_ _)); exact BK361.out) hb); have n15_ := ZM (ZW (ZBB HB.out) hb); clear HO_0; clear HO323; clear HO326; clear HO329; clear HO334; clear HO337; clear HO345; clear HO348; clear HO351; clear HO356; clear HO359; clear BK331; clear BK339; clear BK353; clear BK361; clear HB; have HO_0 := n0_; have HO323 := n1_; have HO326 := n2_; have HO329 := n3_; have HO334 := n4_; have HO337 := n5_; have HO345 := n6_; have HO348 := n7_; have HO351 := n8_; have HO356 := n9_; have HO359 := n10_; have BK331 := n11_; have BK339 := n12_; have BK353 := n13_; have BK361 := n14_; have HB := n15_; clear n0_ n1_ n2_ n3_ n4_ n5_ n6_ n7_ n8_ n9_ n10_ n11_ n12_ n13_ n14_ n15_; (try clear hb); (try clear hb2); (try clear hk); (try clear hi); obtain ⟨hcz58_0, hcz58_1, hfz58_0, hfz58_1⟩ := ZC2 BK353.out; obtain ⟨hcz59_0, hcz59_1, hfz59_0, hfz59_1⟩ := ZC2 BK361.out) | ((with_reducible refine gate_callee (f := 13) rfl ?_); refine goesL_ (some 49) rfl rfl Tryd.func13 (by kernel_rfl) rfl #[.agg #[.slice Ao42 t346.length co42, .slice Ao46 t349.length co46], .agg #[.slice Ao49 t354.length co49, .slice Ao54 t357.length co54]] rfl ZH ?_; (with_reducible refine (meanderref08_SameGraph.calls kj2 _ _ t346 _ _ t349 _ _ t354 _ _ t357 true _ ?side1 ?side2 ?side3 ?side4 ?side5 ?side6 ?side7 ?side8 A15.out).mono ?_); (case side1 => repeat (first | exact (Kd.R_reads' HO348.out).2.2 | (with_reducible refine Kd.C_alloc ?_ _) | (with_reducible refine Kd.C_drewN ?_ _) | (with_reducible refine Kd.C_drew ?_))); (case side2 => exact (Kd.R_reads' HO348.out).2.1); (case side3 => repeat (first | exact (Kd.R_reads' HO351.out).2.2 | (with_reducible refine Kd.C_alloc ?_ _) | (with_reducible refine Kd.C_drewN ?_ _) | (with_reducible refine Kd.C_drew ?_))); (case side4 => exact (Kd.R_reads' HO351.out).2.1); (case side5 => repeat (first | exact (Kd.R_reads' HO356.out).2.2 | (with_reducible refine Kd.C_alloc ?_ _) | (with_reducible refine Kd.C_drewN ?_ _) | (with_reducible refine Kd.C_drew ?_))); (case side6 => exact (Kd.R_reads' HO356.out).2.1); (case side7 => repeat (first | exact (Kd.R_reads' HO359.out).2.2 | (with_reducible refine Kd.C_alloc ?_ _) | (with_reducible refine Kd.C_drewN ?_ _) | (with_reducible refine Kd.C_drew ?_))); (case side8 => exact (Kd.R_reads' HO359.out).2.1); rintro e w60 ⟨rfl, hb⟩; refine ⟨_, rfl, ?_⟩; have n0_ := ZM (Kd.V_below (by (with_reducible repeat (first | apply Kd.V_alloc | apply Kd.V_drewN | apply Kd.V_drew)); exact HO_0.out) hb); have n1_ := ZM (Kd.R_below (ZRK HO323.out) hb); have n2_ := ZM (Kd.R_below (ZRK HO326.out) hb); have n3_ := ZM (Kd.R_below (ZRK HO329.out) hb); have n4_ := ZM (Kd.R_below (ZRK HO334.out) hb); have n5_ := ZM (Kd.R_below (ZRK HO337.out) hb); have n6_ := ZM (Kd.R_below (ZRK HO345.out) hb); have n7_ := ZM (Kd.R_below (ZRK HO348.out) hb); have n8_ := ZM (Kd.R_below (ZRK HO351.out) hb); have n9_ := ZM (Kd.R_below (ZRK HO356.out) hb); have n10_ := ZM (Kd.R_below (ZRK HO359.out) hb); have n11_ := ZM (blk_below (ZBK BK331.out) hb); have n12_ := ZM (blk_below (ZBK BK339.out) hb); have n13_ := ZM (blk_below (ZBK BK353.out) hb); have n14_ := ZM (blk_below (ZBK BK361.out) hb); have n15_ := ZM (ZW (ZBB HB.out) hb); clear HO_0; clear HO323; clear HO326; clear HO329; clear HO334; clear HO337; clear HO345; clear HO348; clear HO351; clear HO356; clear HO359; clear BK331; clear BK339; clear BK353; clear BK361; clear HB; have HO_0 := n0_; have HO323 := n1_; have HO326 := n2_; have HO329 := n3_; have HO334 := n4_; have HO337 := n5_; have HO345 := n6_; have HO348 := n7_; have HO351 := n8_; have HO356 := n9_; have HO359 := n10_; have BK331 := n11_; have BK339 := n12_; have BK353 := n13_; have BK361 := n14_; have HB := n15_; clear n0_ n1_ n2_ n3_ n4_ n5_ n6_ n7_ n8_ n9_ n10_ n11_ n12_ n13_ n14_ n15_; (try clear hb); (try clear hb2); (try clear hk); (try clear hi)))
      go_ret
      exact ⟨ZEE, ZBB HB.out⟩
     ·replace c19 := Bool.eq_false_iff.mpr c19
      subst c19
      have H1 : (none) = some r := by rw [if_neg (show ¬ (false = true) by decide)] at H; exact H
      clear H
      have H := H1
      clear H1
      exact absurd H (by simp)
    ·replace c17 := Bool.eq_false_iff.mpr c17
     subst c17
     have H1 : (none) = some r := by rw [if_neg (show ¬ (false = true) by decide)] at H; exact H
     clear H
     have H := H1
     clear H1
     exact absurd H (by simp)
   ·replace c16 := Bool.eq_false_iff.mpr c16
    subst c16
    have H1 : (none) = some r := by rw [if_neg (show ¬ (false = true) by decide)] at H; exact H
    clear H
    have H := H1
    clear H1
    exact absurd H (by simp)
end Go.Proofs.YtbjjcolbomaodaaDoor.PTks
