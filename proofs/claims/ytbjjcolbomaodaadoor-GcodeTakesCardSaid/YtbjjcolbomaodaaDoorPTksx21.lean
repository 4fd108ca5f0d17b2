-- Laid by hprint.py of this repo: the kit's printer, and contracts by hand beside it. Not trusted: Lean checks it.
import Derived.Test.YtbjjcolbomaodaaDoorWZ
import Derived.Test.YtbjjcolbomaodaaDoorWY
import Derived.Test.YtbjjcolbomaodaaDoorPTksx0
import Derived.Test.YtbjjcolbomaodaaDoorPTksx7
import Derived.Test.YtbjjcolbomaodaaDoorPTksx15
import Derived.Test.YtbjjcolbomaodaaDoorPTksx17
import Derived.Test.YtbjjcolbomaodaaDoorPTksx19
import Derived.Test.YtbjjcolbomaodaaDoorPTksx20
namespace Go.Proofs.YtbjjcolbomaodaaDoor.PTks
open Go.RowKit Go.Proofs.YtbjjcolbomaodaaDoorW.PrintWords Go.Proofs.YtbjjcolbomaodaaDoorW.PrintLast Go.Proofs.YtbjjcolbomaodaaDoorW.PrintMore
attribute [local go_sem] max2_int min2_int max_two min_two max_three min_three max_four min_four   -- for this text's walks alone
set_option linter.unusedVariables false
set_option linter.unusedSimpArgs false

/-! ### meanderref09_Graph: function 15 -/
mutual
def meanderref09_Graph.j0 : Nat → Bool → List (S40) → List (S42) → Option (Int)
 | 0, _, _, _ => none
 | k + 1, x22, x290000, x290001 => if x22 = true then (some 3) else (meanderref09_Graph.l0 k 0 x290000 x290001)
def meanderref09_Graph.l0 : Nat → Int → List (S40) → List (S42) → Option (Int)
 | 0, _, _, _ => none
 | k + 1, x3, x290000, x290001 => if x3 < (x290000.length : Int) then (if 0 ≤ x3 then ((meanderref09_Node.f k ((rd_T40 x290000 x3).f0) ((rd_T40 x290000 x3).f1) ((rd_T40 x290000 x3).f2) ((rd_T40 x290000 x3).f3)).bind fun t291 => (if t291 = true then (meanderref09_Graph.l0 k (wrap64 (x3 + 1)) x290000 x290001) else (some 10))) else (none)) else ((meanderref09_edges.f k x290000 x290001).bind fun t292 => (if t292 = 0 then ((meanderref09_ports.f k x290000 x290001).bind fun t293 => (meanderref09_Graph.j2 k t293 x290000 x290001)) else (meanderref09_Graph.j2 k t292 x290000 x290001)))
def meanderref09_Graph.j2 : Nat → Int → List (S40) → List (S42) → Option (Int)
 | 0, _, _, _ => none
 | k + 1, x5, x290000, x290001 => if x5 = 0 then (meanderref09_Graph.l1 k 0 x290000 x290001) else (some x5)
def meanderref09_Graph.l1 : Nat → Int → List (S40) → List (S42) → Option (Int)
 | 0, _, _, _ => none
 | k + 1, x6, x290000, x290001 => if x6 < (x290000.length : Int) then (if 0 ≤ x6 then (if ((rd_T40 x290000 x6).f0) = 10 then (meanderref09_Graph.l1 k (wrap64 (x6 + 1)) x290000 x290001) else ((meanderref09_round.f k x290000 x290001 x6).bind fun t295 => (if t295 = true then (some 14) else (meanderref09_Graph.l1 k (wrap64 (x6 + 1)) x290000 x290001)))) else (none)) else (some 0)
end
def meanderref09_Graph.f (k : Nat) (l0_0 : List (S40)) (l0_1 : List (S42)) : Option (Int) := if (l0_0.length : Int) < 1 then (meanderref09_Graph.j0 k true l0_0 l0_1) else (if (l0_0.length : Int) > 12 then (meanderref09_Graph.j0 k true l0_0 l0_1) else (meanderref09_Graph.j0 k (decide ((l0_1.length : Int) > 24)) l0_0 l0_1))
theorem meanderref09_Graph.mono_l : ∀ k, (∀ y0 y1 y2, LeO (meanderref09_Graph.j0 k y0 y1 y2) (meanderref09_Graph.j0 (k + 1) y0 y1 y2)) ∧ (∀ y0 y1 y2, LeO (meanderref09_Graph.l0 k y0 y1 y2) (meanderref09_Graph.l0 (k + 1) y0 y1 y2)) ∧ (∀ y0 y1 y2, LeO (meanderref09_Graph.j2 k y0 y1 y2) (meanderref09_Graph.j2 (k + 1) y0 y1 y2)) ∧ (∀ y0 y1 y2, LeO (meanderref09_Graph.l1 k y0 y1 y2) (meanderref09_Graph.l1 (k + 1) y0 y1 y2))
 | 0 => ⟨fun _ _ _ r h => by simp [meanderref09_Graph.j0] at h, fun _ _ _ r h => by simp [meanderref09_Graph.l0] at h, fun _ _ _ r h => by simp [meanderref09_Graph.j2] at h, fun _ _ _ r h => by simp [meanderref09_Graph.l1] at h⟩
 | k + 1 => by
  obtain ⟨ih0, ih1, ih2, ih3⟩ := meanderref09_Graph.mono_l k
  refine ⟨?_, ?_, ?_, ?_⟩
  ·intro y0 y1 y2
   unfold meanderref09_Graph.j0
   repeat' first
   | (with_reducible exact ih0 _ _ _)
   | (with_reducible exact ih1 _ _ _)
   | (with_reducible exact ih2 _ _ _)
   | (with_reducible exact ih3 _ _ _)
   | (with_reducible exact meanderref09_Node.mono _ _ _ _ _)
   | (with_reducible exact meanderref09_edges.mono _ _ _)
   | (with_reducible exact meanderref09_ports.mono _ _ _)
   | (with_reducible exact meanderref09_round.mono _ _ _ _)
   | (with_reducible exact LeO.refl _)
   | (with_reducible exact LeO.none _)
   | (with_reducible refine LeO.ite ?_ ?_)
   | (with_reducible refine LeO.bind ?_ (fun _ => ?_))
   | exact ih0 _ _ _
   | exact ih1 _ _ _
   | exact ih2 _ _ _
   | exact ih3 _ _ _
   | exact meanderref09_Node.mono _ _ _ _ _
   | exact meanderref09_edges.mono _ _ _
   | exact meanderref09_ports.mono _ _ _
   | exact meanderref09_round.mono _ _ _ _
   | exact LeO.none _
   | refine LeO.ite ?_ ?_
   | refine LeO.bind ?_ (fun _ => ?_)
  ·intro y0 y1 y2
   unfold meanderref09_Graph.l0
   repeat' first
   | (with_reducible exact ih0 _ _ _)
   | (with_reducible exact ih1 _ _ _)
   | (with_reducible exact ih2 _ _ _)
   | (with_reducible exact ih3 _ _ _)
   | (with_reducible exact meanderref09_Node.mono _ _ _ _ _)
   | (with_reducible exact meanderref09_edges.mono _ _ _)
   | (with_reducible exact meanderref09_ports.mono _ _ _)
   | (with_reducible exact meanderref09_round.mono _ _ _ _)
   | (with_reducible exact LeO.refl _)
   | (with_reducible exact LeO.none _)
   | (with_reducible refine LeO.ite ?_ ?_)
   | (with_reducible refine LeO.bind ?_ (fun _ => ?_))
   | exact ih0 _ _ _
   | exact ih1 _ _ _
   | exact ih2 _ _ _
   | exact ih3 _ _ _
   | exact meanderref09_Node.mono _ _ _ _ _
   | exact meanderref09_edges.mono _ _ _
   | exact meanderref09_ports.mono _ _ _
   | exact meanderref09_round.mono _ _ _ _
   | exact LeO.none _
   | refine LeO.ite ?_ ?_
   | refine LeO.bind ?_ (fun _ => ?_)
  ·intro y0 y1 y2
   unfold meanderref09_Graph.j2
   repeat' first
   | (with_reducible exact ih0 _ _ _)
   | (with_reducible exact ih1 _ _ _)
   | (with_reducible exact ih2 _ _ _)
   | (with_reducible exact ih3 _ _ _)
   | (with_reducible exact meanderref09_Node.mono _ _ _ _ _)
   | (with_reducible exact meanderref09_edges.mono _ _ _)
   | (with_reducible exact meanderref09_ports.mono _ _ _)
   | (with_reducible exact meanderref09_round.mono _ _ _ _)
   | (with_reducible exact LeO.refl _)
   | (with_reducible exact LeO.none _)
   | (with_reducible refine LeO.ite ?_ ?_)
   | (with_reducible refine LeO.bind ?_ (fun _ => ?_))
   | exact ih0 _ _ _
   | exact ih1 _ _ _
   | exact ih2 _ _ _
   | exact ih3 _ _ _
   | exact meanderref09_Node.mono _ _ _ _ _
   | exact meanderref09_edges.mono _ _ _
   | exact meanderref09_ports.mono _ _ _
   | exact meanderref09_round.mono _ _ _ _
   | exact LeO.none _
   | refine LeO.ite ?_ ?_
   | refine LeO.bind ?_ (fun _ => ?_)
  ·intro y0 y1 y2
   unfold meanderref09_Graph.l1
   repeat' first
   | (with_reducible exact ih0 _ _ _)
   | (with_reducible exact ih1 _ _ _)
   | (with_reducible exact ih2 _ _ _)
   | (with_reducible exact ih3 _ _ _)
   | (with_reducible exact meanderref09_Node.mono _ _ _ _ _)
   | (with_reducible exact meanderref09_edges.mono _ _ _)
   | (with_reducible exact meanderref09_ports.mono _ _ _)
   | (with_reducible exact meanderref09_round.mono _ _ _ _)
   | (with_reducible exact LeO.refl _)
   | (with_reducible exact LeO.none _)
   | (with_reducible refine LeO.ite ?_ ?_)
   | (with_reducible refine LeO.bind ?_ (fun _ => ?_))
   | exact ih0 _ _ _
   | exact ih1 _ _ _
   | exact ih2 _ _ _
   | exact ih3 _ _ _
   | exact meanderref09_Node.mono _ _ _ _ _
   | exact meanderref09_edges.mono _ _ _
   | exact meanderref09_ports.mono _ _ _
   | exact meanderref09_round.mono _ _ _ _
   | exact LeO.none _
   | refine LeO.ite ?_ ?_
   | refine LeO.bind ?_ (fun _ => ?_)
theorem meanderref09_Graph.mono : ∀ a0 a1 k, LeO (meanderref09_Graph.f k a0 a1) (meanderref09_Graph.f (k + 1) a0 a1) := by
 intro a0 a1 k
 obtain ⟨ih0, ih1, ih2, ih3⟩ := meanderref09_Graph.mono_l k
 unfold meanderref09_Graph.f
 repeat' first
   | (with_reducible exact ih0 _ _ _)
   | (with_reducible exact ih1 _ _ _)
   | (with_reducible exact ih2 _ _ _)
   | (with_reducible exact ih3 _ _ _)
   | (with_reducible exact meanderref09_Node.mono _ _ _ _ _)
   | (with_reducible exact meanderref09_edges.mono _ _ _)
   | (with_reducible exact meanderref09_ports.mono _ _ _)
   | (with_reducible exact meanderref09_round.mono _ _ _ _)
   | (with_reducible exact LeO.refl _)
   | (with_reducible exact LeO.none _)
   | (with_reducible refine LeO.ite ?_ ?_)
   | (with_reducible refine LeO.bind ?_ (fun _ => ?_))
   | exact ih0 _ _ _
   | exact ih1 _ _ _
   | exact ih2 _ _ _
   | exact ih3 _ _ _
   | exact meanderref09_Node.mono _ _ _ _ _
   | exact meanderref09_edges.mono _ _ _
   | exact meanderref09_ports.mono _ _ _
   | exact meanderref09_round.mono _ _ _ _
   | exact LeO.none _
   | refine LeO.ite ?_ ?_
   | refine LeO.bind ?_ (fun _ => ?_)
set_option maxHeartbeats 8000000 in
set_option maxRecDepth 100000 in
theorem meanderref09_Graph.calls (k : Nat) (A0_0 : Option Addr) (c0_0 : Nat) (l0_0 : List (S40)) (A0_1 : Option Addr) (c0_1 : Nat) (l0_1 : List (S42)) (r : Int) (w : World) (hr0_0 : Kd.C k40 w A0_0 l0_0.length l0_0) (hc0_0 : l0_0.length ≤ c0_0) (hr0_1 : Kd.C k42 w A0_1 l0_1.length l0_1) (hc0_1 : l0_1.length ≤ c0_1) (h : meanderref09_Graph.f k l0_0 l0_1 = some r) :
  Calls Tryd.prog 15 #[.agg #[.slice A0_0 l0_0.length c0_0, .slice A0_1 l0_1.length c0_1]] w fun e w' => e = .returned (.int .i64 r) ∧ Below w.heap.size w w' := by
 have hu27 := Tryd.underlying27
 have hu40 := Tryd.underlying40
 have HR0_0 := ZM hr0_0
 have HC0_0 := ZM hc0_0
 clear hr0_0 hc0_0
 have HR0_1 := ZM hr0_1
 have HC0_1 := ZM hc0_1
 clear hr0_1 hc0_1
 have HB := ZM (Below.refl w.heap.size w)
 have H : (if (l0_0.length : Int) < 1 then (meanderref09_Graph.j0 k true l0_0 l0_1) else (if (l0_0.length : Int) > 12 then (meanderref09_Graph.j0 k true l0_0 l0_1) else (meanderref09_Graph.j0 k (decide ((l0_1.length : Int) > 24)) l0_0 l0_1))) = some r := h
 clear h
 have HC2 := ZM H
 clear H
 go_enter Tryd.func15, Tryd.ntmps15
 go_upto_region 1 with (first | ((with_reducible refine gate_dst (N := 1) rfl ?_); (try (refine gate_guard (by rfl) ?_; dsimp only)); refine ZBX 1 (cs := #[.slice A0_0 l0_0.length c0_0, .slice A0_1 l0_1.length c0_1]) (t := 27) ?_; intro gb289 hg w3 hbox hb; have n0_ := ZM (ZW (ZBB HB.out) hb); have n1_ := ZM (hbox); have n2_ := ZM (ZGE hg HB.out); have n3_ := ZM (ZGE hg HB.out); clear HB; have HB := n0_; have BK289 := n1_; have GW289 := n2_; have GE289 := n3_; clear n0_ n1_ n2_ n3_; clear hb hbox hg))
 (try simp only [Act.put, ZI, ZJ, ZK])
 go_cut [22] (fun v22 wc => ∃ (kq : Nat) (x22_1 : Bool), v22 = .bool x22_1 ∧ Aside0 (meanderref09_Graph.j0 kq x22_1 l0_0 l0_1 = some r) ∧ Aside0 (kq ≤ k) ∧ Aside0 (wc.heap[gb289]? = some (.cells #[(.slice A0_0 l0_0.length c0_0), (.slice A0_1 l0_1.length c0_1)] 27 (0, 0))) ∧ Aside0 (Below w.heap.size w wc))
 case first =>
  have H := HC2.out
  clear HC2
  by_cases c4 : (l0_0.length : Int) < 1
  ·rw [if_pos c4] at H
   have c4b0 : decide ((l0_0.length : Int) < 1) = true := decide_eq_true c4
   have c4b1 : decide (l0_0.length < 1) = true := decide_eq_true (by omega)
   clear c4
   (first | rw [c4b0] | (simp only [i64_w, i32_w]; rw [c4b0]) | skip)
   have H' := ZM H
   clear H
   obtain ⟨hcz5_0, hcz5_1, hfz5_0, hfz5_1⟩ := ZC2 BK289.out
   go_wp2
   go_meet
   case rel => exact ⟨_, (true), ZE, H', ⟨by first | omega | exact Nat.le_refl _⟩, ⟨ZBK BK289.out⟩, ⟨ZBB HB.out⟩⟩
  ·rw [if_neg c4] at H
   have c4b0 : decide ((l0_0.length : Int) < 1) = false := decide_eq_false c4
   have c4b1 : decide (l0_0.length < 1) = false := decide_eq_false (by omega)
   clear c4
   (first | rw [c4b0] | (simp only [i64_w, i32_w]; rw [c4b0]) | skip)
   by_cases c6 : (l0_0.length : Int) > 12
   ·rw [if_pos c6] at H
    have c6b0 : decide (12 < (l0_0.length : Int)) = true := decide_eq_true c6
    have c6b1 : decide (12 < l0_0.length) = true := decide_eq_true (by omega)
    clear c6
    have H' := ZM H
    clear H
    obtain ⟨hcz7_0, hcz7_1, hfz7_0, hfz7_1⟩ := ZC2 BK289.out
    go_wp2
    go_meet
    case rel => exact ⟨_, (true), ZE, H', ⟨by first | omega | exact Nat.le_refl _⟩, ⟨ZBK BK289.out⟩, ⟨ZBB HB.out⟩⟩
   ·rw [if_neg c6] at H
    have c6b0 : decide (12 < (l0_0.length : Int)) = false := decide_eq_false c6
    have c6b1 : decide (12 < l0_0.length) = false := decide_eq_false (by omega)
    clear c6
    have H' := ZM H
    clear H
    obtain ⟨hcz8_0, hcz8_1, hfz8_0, hfz8_1⟩ := ZC2 BK289.out
    go_wp2
    go_meet
    case rel => exact ⟨_, (decide ((l0_1.length : Int) > 24)), ZE, H', ⟨by first | omega | exact Nat.le_refl _⟩, ⟨ZBK BK289.out⟩, ⟨ZBB HB.out⟩⟩
 case rest =>
  clear HC2
  try clear c4
  try clear c4b0
  try clear c4b1
  try clear c6
  try clear c6b0
  try clear c6b1
  try clear hcz5_0
  try clear hcz5_1
  try clear hcz7_0
  try clear hcz7_1
  try clear hcz8_0
  try clear hcz8_1
  try clear hfz5_0
  try clear hfz5_1
  try clear hfz7_0
  try clear hfz7_1
  try clear hfz8_0
  try clear hfz8_1
  obtain ⟨kq, x22_1, rfl, HA, HJ1, BK289, HB⟩ := hcut
  cases kq with
  | zero => exact absurd HA.out (by simp [meanderref09_Graph.j0])
  | succ kj1 =>
   have H := HA.out
   clear HA
   simp only [meanderref09_Graph.j0] at H
   by_cases c9 : x22_1 = true
   ·subst c9
    have H1 : (some 3) = some r := by rw [if_pos rfl] at H; exact H
    clear H
    have H := H1
    clear H1
    obtain rfl := Option.some.inj H
    go_wp2
    go_ret
    exact ⟨ZEE, ZBB HB.out⟩
   ·replace c9 := Bool.eq_false_iff.mpr c9
    subst c9
    have H1 : (meanderref09_Graph.l0 kj1 0 l0_0 l0_1) = some r := by rw [if_neg (show ¬ (false = true) by decide)] at H; exact H
    clear H
    have H := H1
    clear H1
    have H' := ZM H
    clear H
    go_wp2
    go_loopg [3] kj1 (fun kq v3 w' => ∃ (x3_2 : Int), v3 = .int .i64 x3_2 ∧ Aside0 (meanderref09_Graph.l0 kq x3_2 l0_0 l0_1 = some r) ∧ Aside0 (kq ≤ kj1) ∧ Aside0 (w'.heap[gb289]? = some (.cells #[(.slice A0_0 l0_0.length c0_0), (.slice A0_1 l0_1.length c0_1)] 27 (0, 0))) ∧ Aside0 (Below w.heap.size w w'))
    case atStart => exact ⟨(0), ZE, H', ⟨Nat.le_refl _⟩, ⟨ZBK BK289.out⟩, ⟨ZBB HB.out⟩⟩
    case round =>
     clear H'
     try clear c4
     try clear c4b0
     try clear c4b1
     try clear c6
     try clear c6b0
     try clear c6b1
     try clear c9
     try clear hcz5_0
     try clear hcz5_1
     try clear hcz7_0
     try clear hcz7_1
     try clear hcz8_0
     try clear hcz8_1
     try clear hfz5_0
     try clear hfz5_1
     try clear hfz7_0
     try clear hfz7_1
     try clear hfz8_0
     try clear hfz8_1
     obtain ⟨x3_2, rfl, HA, HK2, BK289, HB⟩ := hrel
     cases gk with
     | zero => exact absurd HA.out (by simp [meanderref09_Graph.l0])
     | succ k2 =>
      have H := HA.out
      clear HA
      simp only [meanderref09_Graph.l0] at H
      by_cases c10 : x3_2 < (l0_0.length : Int)
      ·rw [if_pos c10] at H
       have c10b0 : decide (x3_2 < (l0_0.length : Int)) = true := decide_eq_true c10
       clear c10
       by_cases c11 : 0 ≤ x3_2
       case neg =>
        rw [if_neg c11] at H
        exact absurd H (by simp)
       rw [if_pos c11] at H
       have c11b0 : decide (0 ≤ x3_2) = true := decide_eq_true c11
       clear c11
       replace H := Option.bind_eq_some_iff.mp H
       obtain ⟨t291, A120, H⟩ := H
       replace H : (if t291 = true then (meanderref09_Graph.l0 k2 (wrap64 (x3_2 + 1)) l0_0 l0_1) else (some 10)) = some r := H
       have A12 := ZM A120
       clear A120
       by_cases c13 : t291 = true
       ·subst c13
        have H1 : (meanderref09_Graph.l0 k2 (wrap64 (x3_2 + 1)) l0_0 l0_1) = some r := by rw [if_pos rfl] at H; exact H
        clear H
        have H := H1
        clear H1
        have H' := ZM H
        clear H
        obtain ⟨hcz14_0, hcz14_1, hfz14_0, hfz14_1⟩ := ZC2 BK289.out
        have p290 : 0 ≤ (x3_2 : Int) := ZOD
        have q290 : x3_2 < (l0_0.length : Int) := ZOD
        obtain ⟨ad290, e290, hx290_0, hx290_1, hx290_2, hx290_3⟩ := at_T40 HR0_0.out x3_2 p290 q290
        cases e290
        replace hx290_0 := ZHX HB.out hx290_0
        replace hx290_1 := ZHX HB.out hx290_1
        replace hx290_2 := ZHX HB.out hx290_2
        replace hx290_3 := ZHX HB.out hx290_3
        replace p290 := eq_true p290
        replace q290 := eq_true q290
        go_wp2_with (first | ((with_reducible refine gate_callee (f := 27) rfl ?_); refine goesL_ (some 35) rfl rfl Tryd.func27 (by kernel_rfl) rfl #[.agg #[.int .i64 ((rd_T40 l0_0 x3_2).f0), .int .i64 ((rd_T40 l0_0 x3_2).f1), .int .i64 ((rd_T40 l0_0 x3_2).f2), .int .i64 ((rd_T40 l0_0 x3_2).f3)]] rfl ZH ?_; (with_reducible refine (meanderref09_Node.calls k2 ((rd_T40 l0_0 x3_2).f0) ((rd_T40 l0_0 x3_2).f1) ((rd_T40 l0_0 x3_2).f2) ((rd_T40 l0_0 x3_2).f3) true _ A12.out).mono ?_); rintro e w15 ⟨rfl, hb⟩; refine ⟨_, rfl, ?_⟩; have n0_ := ZM (blk_below (ZBK BK289.out) hb); have n1_ := ZM (ZW (ZBB HB.out) hb); clear BK289; clear HB; have BK289 := n0_; have HB := n1_; clear n0_ n1_; (try clear hb); (try clear hb2); (try clear hk); (try clear hi)))
        go_roundg k2
        case measure => have := HJ1.out; have := HK2.out; omega
        case rel => exact ⟨(wrap64 (x3_2 + 1)), ZE, H', ⟨by have := HJ1.out; have := HK2.out; omega⟩, ⟨ZBK BK289.out⟩, ⟨ZBB HB.out⟩⟩
       ·replace c13 := Bool.eq_false_iff.mpr c13
        subst c13
        have H1 : (some 10) = some r := by rw [if_neg (show ¬ (false = true) by decide)] at H; exact H
        clear H
        have H := H1
        clear H1
        obtain rfl := Option.some.inj H
        obtain ⟨hcz16_0, hcz16_1, hfz16_0, hfz16_1⟩ := ZC2 BK289.out
        have p290 : 0 ≤ (x3_2 : Int) := ZOD
        have q290 : x3_2 < (l0_0.length : Int) := ZOD
        obtain ⟨ad290, e290, hx290_0, hx290_1, hx290_2, hx290_3⟩ := at_T40 HR0_0.out x3_2 p290 q290
        cases e290
        replace hx290_0 := ZHX HB.out hx290_0
        replace hx290_1 := ZHX HB.out hx290_1
        replace hx290_2 := ZHX HB.out hx290_2
        replace hx290_3 := ZHX HB.out hx290_3
        replace p290 := eq_true p290
        replace q290 := eq_true q290
        go_wp2_with (first | ((with_reducible refine gate_callee (f := 27) rfl ?_); refine goesL_ (some 35) rfl rfl Tryd.func27 (by kernel_rfl) rfl #[.agg #[.int .i64 ((rd_T40 l0_0 x3_2).f0), .int .i64 ((rd_T40 l0_0 x3_2).f1), .int .i64 ((rd_T40 l0_0 x3_2).f2), .int .i64 ((rd_T40 l0_0 x3_2).f3)]] rfl ZH ?_; (with_reducible refine (meanderref09_Node.calls k2 ((rd_T40 l0_0 x3_2).f0) ((rd_T40 l0_0 x3_2).f1) ((rd_T40 l0_0 x3_2).f2) ((rd_T40 l0_0 x3_2).f3) false _ A12.out).mono ?_); rintro e w17 ⟨rfl, hb⟩; refine ⟨_, rfl, ?_⟩; have n0_ := ZM (blk_below (ZBK BK289.out) hb); have n1_ := ZM (ZW (ZBB HB.out) hb); clear BK289; clear HB; have BK289 := n0_; have HB := n1_; clear n0_ n1_; (try clear hb); (try clear hb2); (try clear hk); (try clear hi)))
        go_ret
        exact ⟨ZEE, ZBB HB.out⟩
      ·rw [if_neg c10] at H
       have c10b0 : decide (x3_2 < (l0_0.length : Int)) = false := decide_eq_false c10
       clear c10
       replace H := Option.bind_eq_some_iff.mp H
       obtain ⟨t292, A180, H⟩ := H
       replace H : (if t292 = 0 then ((meanderref09_ports.f k2 l0_0 l0_1).bind fun t293 => (meanderref09_Graph.j2 k2 t293 l0_0 l0_1)) else (meanderref09_Graph.j2 k2 t292 l0_0 l0_1)) = some r := H
       have A18 := ZM A180
       clear A180
       have HC19 := ZM H
       clear H
       obtain ⟨hcz20_0, hcz20_1, hfz20_0, hfz20_1⟩ := ZC2 BK289.out
       go_upto_if 41 with (first | ((with_reducible refine gate_callee (f := 28) rfl ?_); refine goesL_ (some 39) rfl rfl Tryd.func28 (by kernel_rfl) rfl #[.agg #[.slice A0_0 l0_0.length c0_0, .slice A0_1 l0_1.length c0_1]] rfl ZH ?_; (with_reducible refine (meanderref09_edges.calls k2 _ _ l0_0 _ _ l0_1 t292 _ ?side1 ?side2 ?side3 ?side4 A18.out).mono ?_); (case side1 => repeat (first | exact (Kd.C_below HR0_0.out HB.out) | (with_reducible refine Kd.C_alloc ?_ _) | (with_reducible refine Kd.C_drewN ?_ _) | (with_reducible refine Kd.C_drew ?_))); (case side2 => exact HC0_0.out); (case side3 => repeat (first | exact (Kd.C_below HR0_1.out HB.out) | (with_reducible refine Kd.C_alloc ?_ _) | (with_reducible refine Kd.C_drewN ?_ _) | (with_reducible refine Kd.C_drew ?_))); (case side4 => exact HC0_1.out); rintro e w21 ⟨rfl, hb⟩; refine ⟨_, rfl, ?_⟩; have n0_ := ZM (blk_below (ZBK BK289.out) hb); have n1_ := ZM (ZW (ZBB HB.out) hb); clear BK289; clear HB; have BK289 := n0_; have HB := n1_; clear n0_ n1_; (try clear hb); (try clear hb2); (try clear hk); (try clear hi)))
       (try simp only [Act.put, ZI, ZJ, ZK])
       go_cut [5] (fun v5 wc => ∃ (kq : Nat) (x5_18 : Int), v5 = .int .i64 x5_18 ∧ Aside0 (meanderref09_Graph.j2 kq x5_18 l0_0 l0_1 = some r) ∧ Aside0 (kq ≤ k2) ∧ Aside0 (wc.heap[gb289]? = some (.cells #[(.slice A0_0 l0_0.length c0_0), (.slice A0_1 l0_1.length c0_1)] 27 (0, 0))) ∧ Aside0 (Below w.heap.size w wc))
       case first =>
        have H := HC19.out
        clear HC19
        by_cases c22 : t292 = 0
        ·rw [if_pos c22] at H
         have c22b0 : (t292 == 0) = true := beq_iff_eq.mpr c22
         have c22b1 : (t292 != 0) = false := bne_eq_false_iff_eq.mpr c22
         clear c22
         (first | rw [c22b0] | (simp only [i64_w, i32_w]; rw [c22b0]) | skip)
         replace H := Option.bind_eq_some_iff.mp H
         obtain ⟨t293, A230, H⟩ := H
         replace H : (meanderref09_Graph.j2 k2 t293 l0_0 l0_1) = some r := H
         have A23 := ZM A230
         clear A230
         have H' := ZM H
         clear H
         obtain ⟨hcz24_0, hcz24_1, hfz24_0, hfz24_1⟩ := ZC2 BK289.out
         go_wp2_with (first | ((with_reducible refine gate_callee (f := 29) rfl ?_); refine goesL_ (some 43) rfl rfl Tryd.func29 (by kernel_rfl) rfl #[.agg #[.slice A0_0 l0_0.length c0_0, .slice A0_1 l0_1.length c0_1]] rfl ZH ?_; (with_reducible refine (meanderref09_ports.calls k2 _ _ l0_0 _ _ l0_1 t293 _ ?side1 ?side2 ?side3 ?side4 A23.out).mono ?_); (case side1 => repeat (first | exact (Kd.C_below HR0_0.out HB.out) | (with_reducible refine Kd.C_alloc ?_ _) | (with_reducible refine Kd.C_drewN ?_ _) | (with_reducible refine Kd.C_drew ?_))); (case side2 => exact HC0_0.out); (case side3 => repeat (first | exact (Kd.C_below HR0_1.out HB.out) | (with_reducible refine Kd.C_alloc ?_ _) | (with_reducible refine Kd.C_drewN ?_ _) | (with_reducible refine Kd.C_drew ?_))); (case side4 => exact HC0_1.out); rintro e w25 ⟨rfl, hb⟩; refine ⟨_, rfl, ?_⟩; have n0_ := ZM (blk_below (ZBK BK289.out) hb); have n1_ := ZM (ZW (ZBB HB.out) hb); clear BK289; clear HB; have BK289 := n0_; have HB := n1_; clear n0_ n1_; (try clear hb); (try clear hb2); (try clear hk); (try clear hi)))
         go_meet
         case rel => exact ⟨_, (t293), ZE, H', ⟨by have := HJ1.out; have := HK2.out; first | omega | exact Nat.le_refl _⟩, ⟨ZBK BK289.out⟩, ⟨ZBB HB.out⟩⟩
        ·rw [if_neg c22] at H
         have c22b0 : (t292 == 0) = false := beq_eq_false_iff_ne.mpr c22
         have c22b1 : (t292 != 0) = true := bne_iff_ne.mpr c22
         (first | rw [c22b0] | (simp only [i64_w, i32_w]; rw [c22b0]) | skip)
         have H' := ZM H
         clear H
         go_wp2
         go_meet
         case rel => exact ⟨_, (t292), ZE, H', ⟨by have := HJ1.out; have := HK2.out; first | omega | exact Nat.le_refl _⟩, ⟨ZBK BK289.out⟩, ⟨ZBB HB.out⟩⟩
       case rest =>
        clear HC19
        try clear c4
        try clear c4b0
        try clear c4b1
        try clear c6
        try clear c6b0
        try clear c6b1
        try clear c9
        try clear c10
        try clear c10b0
        try clear c11
        try clear c11b0
        try clear c13
        try clear c22
        try clear c22b0
        try clear c22b1
        try clear hcz14_0
        try clear hcz14_1
        try clear hcz16_0
        try clear hcz16_1
        try clear hcz20_0
        try clear hcz20_1
        try clear hcz24_0
        try clear hcz24_1
        try clear hcz5_0
        try clear hcz5_1
        try clear hcz7_0
        try clear hcz7_1
        try clear hcz8_0
        try clear hcz8_1
        try clear hfz14_0
        try clear hfz14_1
        try clear hfz16_0
        try clear hfz16_1
        try clear hfz20_0
        try clear hfz20_1
        try clear hfz24_0
        try clear hfz24_1
        try clear hfz5_0
        try clear hfz5_1
        try clear hfz7_0
        try clear hfz7_1
        try clear hfz8_0
        try clear hfz8_1
        try clear hx290_0
        try clear hx290_1
        try clear hx290_2
        try clear hx290_3
        try clear p290
        try clear q290
        obtain ⟨kq, x5_18, rfl, HA, HJ18, BK289, HB⟩ := hcut
        cases kq with
        | zero => exact absurd HA.out (by simp [meanderref09_Graph.j2])
        | succ kj18 =>
         have H := HA.out
         clear HA
         simp only [meanderref09_Graph.j2] at H
         by_cases c26 : x5_18 = 0
         ·rw [if_pos c26] at H
          have c26b0 : (x5_18 == 0) = true := beq_iff_eq.mpr c26
          have c26b1 : (x5_18 != 0) = false := bne_eq_false_iff_eq.mpr c26
          clear c26
          have H' := ZM H
          clear H
          go_wp2
          go_loopg [6] kj18 (fun kq v6 w' => ∃ (x6_4 : Int), v6 = .int .i64 x6_4 ∧ Aside0 (meanderref09_Graph.l1 kq x6_4 l0_0 l0_1 = some r) ∧ Aside0 (kq ≤ kj18) ∧ Aside0 (w'.heap[gb289]? = some (.cells #[(.slice A0_0 l0_0.length c0_0), (.slice A0_1 l0_1.length c0_1)] 27 (0, 0))) ∧ Aside0 (Below w.heap.size w w'))
          case atStart => exact ⟨(0), ZE, H', ⟨Nat.le_refl _⟩, ⟨ZBK BK289.out⟩, ⟨ZBB HB.out⟩⟩
          case round =>
           clear H'
           try clear c4
           try clear c4b0
           try clear c4b1
           try clear c6
           try clear c6b0
           try clear c6b1
           try clear c9
           try clear c10
           try clear c10b0
           try clear c11
           try clear c11b0
           try clear c13
           try clear c22
           try clear c22b0
           try clear c22b1
           try clear c26
           try clear c26b0
           try clear c26b1
           try clear hcz14_0
           try clear hcz14_1
           try clear hcz16_0
           try clear hcz16_1
           try clear hcz20_0
           try clear hcz20_1
           try clear hcz24_0
           try clear hcz24_1
           try clear hcz5_0
           try clear hcz5_1
           try clear hcz7_0
           try clear hcz7_1
           try clear hcz8_0
           try clear hcz8_1
           try clear hfz14_0
           try clear hfz14_1
           try clear hfz16_0
           try clear hfz16_1
           try clear hfz20_0
           try clear hfz20_1
           try clear hfz24_0
           try clear hfz24_1
           try clear hfz5_0
           try clear hfz5_1
           try clear hfz7_0
           try clear hfz7_1
           try clear hfz8_0
           try clear hfz8_1
           try clear hx290_0
           try clear hx290_1
           try clear hx290_2
           try clear hx290_3
           try clear p290
           try clear q290
           obtain ⟨x6_4, rfl, HA, HK4, BK289, HB⟩ := hrel
           cases gk with
           | zero => exact absurd HA.out (by simp [meanderref09_Graph.l1])
           | succ k4 =>
            have H := HA.out
            clear HA
            simp only [meanderref09_Graph.l1] at H
            by_cases c27 : x6_4 < (l0_0.length : Int)
            ·rw [if_pos c27] at H
             have c27b0 : decide (x6_4 < (l0_0.length : Int)) = true := decide_eq_true c27
             clear c27
             by_cases c28 : 0 ≤ x6_4
             case neg =>
              rw [if_neg c28] at H
              exact absurd H (by simp)
             rw [if_pos c28] at H
             have c28b0 : decide (0 ≤ x6_4) = true := decide_eq_true c28
             clear c28
             by_cases c29 : ((rd_T40 l0_0 x6_4).f0) = 10
             ·rw [if_pos c29] at H
              have c29b0 : (((rd_T40 l0_0 x6_4).f0) == 10) = true := beq_iff_eq.mpr c29
              have c29b1 : (((rd_T40 l0_0 x6_4).f0) != 10) = false := bne_eq_false_iff_eq.mpr c29
              clear c29
              have H' := ZM H
              clear H
              obtain ⟨hcz30_0, hcz30_1, hfz30_0, hfz30_1⟩ := ZC2 BK289.out
              have p294 : 0 ≤ (x6_4 : Int) := ZOD
              have q294 : x6_4 < (l0_0.length : Int) := ZOD
              obtain ⟨ad294, e294, hx294_0, hx294_1, hx294_2, hx294_3⟩ := at_T40 HR0_0.out x6_4 p294 q294
              cases e294
              replace hx294_0 := ZHX HB.out hx294_0
              replace hx294_1 := ZHX HB.out hx294_1
              replace hx294_2 := ZHX HB.out hx294_2
              replace hx294_3 := ZHX HB.out hx294_3
              replace p294 := eq_true p294
              replace q294 := eq_true q294
              go_wp2
              go_roundg k4
              case measure => have := HJ1.out; have := HK2.out; have := HJ18.out; have := HK4.out; omega
              case rel => exact ⟨(wrap64 (x6_4 + 1)), ZE, H', ⟨by have := HJ1.out; have := HK2.out; have := HJ18.out; have := HK4.out; omega⟩, ⟨ZBK BK289.out⟩, ⟨ZBB HB.out⟩⟩
             ·rw [if_neg c29] at H
              have c29b0 : (((rd_T40 l0_0 x6_4).f0) == 10) = false := beq_eq_false_iff_ne.mpr c29
              have c29b1 : (((rd_T40 l0_0 x6_4).f0) != 10) = true := bne_iff_ne.mpr c29
              replace H := Option.bind_eq_some_iff.mp H
              obtain ⟨t295, A310, H⟩ := H
              replace H : (if t295 = true then (some 14) else (meanderref09_Graph.l1 k4 (wrap64 (x6_4 + 1)) l0_0 l0_1)) = some r := H
              have A31 := ZM A310
              clear A310
              by_cases c32 : t295 = true
              ·subst c32
               have H1 : (some 14) = some r := by rw [if_pos rfl] at H; exact H
               clear H
               have H := H1
               clear H1
               obtain rfl := Option.some.inj H
               obtain ⟨hcz33_0, hcz33_1, hfz33_0, hfz33_1⟩ := ZC2 BK289.out
               have p294 : 0 ≤ (x6_4 : Int) := ZOD
               have q294 : x6_4 < (l0_0.length : Int) := ZOD
               obtain ⟨ad294, e294, hx294_0, hx294_1, hx294_2, hx294_3⟩ := at_T40 HR0_0.out x6_4 p294 q294
               cases e294
               replace hx294_0 := ZHX HB.out hx294_0
               replace hx294_1 := ZHX HB.out hx294_1
               replace hx294_2 := ZHX HB.out hx294_2
               replace hx294_3 := ZHX HB.out hx294_3
               replace p294 := eq_true p294
               replace q294 := eq_true q294
               go_wp2_with (first | (go_at_call 30; (with_reducible refine (meanderref09_round.calls k4 _ _ l0_0 _ _ l0_1 x6_4 true _ ?side1 ?side2 ?side3 ?side4 A31.out).mono ?_); (case side1 => repeat (first | exact (Kd.C_below HR0_0.out HB.out) | (with_reducible refine Kd.C_alloc ?_ _) | (with_reducible refine Kd.C_drewN ?_ _) | (with_reducible refine Kd.C_drew ?_))); (case side2 => exact HC0_0.out); (case side3 => repeat (first | exact (Kd.C_below HR0_1.out HB.out) | (with_reducible refine Kd.C_alloc ?_ _) | (with_reducible refine Kd.C_drewN ?_ _) | (with_reducible refine Kd.C_drew ?_))); (case side4 => exact HC0_1.out); rintro e w34 ⟨rfl, hb⟩; have n0_ := ZM (blk_below (ZBK BK289.out) hb); have n1_ := ZM (ZW (ZBB HB.out) hb); clear BK289; clear HB; have BK289 := n0_; have HB := n1_; clear n0_ n1_; (try clear hb); (try clear hb2); (try clear hk); (try clear hi)))
               go_ret
               exact ⟨ZEE, ZBB HB.out⟩
              ·replace c32 := Bool.eq_false_iff.mpr c32
               subst c32
               have H1 : (meanderref09_Graph.l1 k4 (wrap64 (x6_4 + 1)) l0_0 l0_1) = some r := by rw [if_neg (show ¬ (false = true) by decide)] at H; exact H
               clear H
               have H := H1
               clear H1
               have H' := ZM H
               clear H
               obtain ⟨hcz35_0, hcz35_1, hfz35_0, hfz35_1⟩ := ZC2 BK289.out
               have p294 : 0 ≤ (x6_4 : Int) := ZOD
               have q294 : x6_4 < (l0_0.length : Int) := ZOD
               obtain ⟨ad294, e294, hx294_0, hx294_1, hx294_2, hx294_3⟩ := at_T40 HR0_0.out x6_4 p294 q294
               cases e294
               replace hx294_0 := ZHX HB.out hx294_0
               replace hx294_1 := ZHX HB.out hx294_1
               replace hx294_2 := ZHX HB.out hx294_2
               replace hx294_3 := ZHX HB.out hx294_3
               replace p294 := eq_true p294
               replace q294 := eq_true q294
               go_wp2_with (first | (go_at_call 30; (with_reducible refine (meanderref09_round.calls k4 _ _ l0_0 _ _ l0_1 x6_4 false _ ?side1 ?side2 ?side3 ?side4 A31.out).mono ?_); (case side1 => repeat (first | exact (Kd.C_below HR0_0.out HB.out) | (with_reducible refine Kd.C_alloc ?_ _) | (with_reducible refine Kd.C_drewN ?_ _) | (with_reducible refine Kd.C_drew ?_))); (case side2 => exact HC0_0.out); (case side3 => repeat (first | exact (Kd.C_below HR0_1.out HB.out) | (with_reducible refine Kd.C_alloc ?_ _) | (with_reducible refine Kd.C_drewN ?_ _) | (with_reducible refine Kd.C_drew ?_))); (case side4 => exact HC0_1.out); rintro e w36 ⟨rfl, hb⟩; have n0_ := ZM (blk_below (ZBK BK289.out) hb); have n1_ := ZM (ZW (ZBB HB.out) hb); clear BK289; clear HB; have BK289 := n0_; have HB := n1_; clear n0_ n1_; (try clear hb); (try clear hb2); (try clear hk); (try clear hi)))
               go_roundg k4
               case measure => have := HJ1.out; have := HK2.out; have := HJ18.out; have := HK4.out; omega
               case rel => exact ⟨(wrap64 (x6_4 + 1)), ZE, H', ⟨by have := HJ1.out; have := HK2.out; have := HJ18.out; have := HK4.out; omega⟩, ⟨ZBK BK289.out⟩, ⟨ZBB HB.out⟩⟩
            ·rw [if_neg c27] at H
             have c27b0 : decide (x6_4 < (l0_0.length : Int)) = false := decide_eq_false c27
             clear c27
             obtain rfl := Option.some.inj H
             obtain ⟨hcz37_0, hcz37_1, hfz37_0, hfz37_1⟩ := ZC2 BK289.out
             go_wp2
             go_ret
             exact ⟨ZEE, ZBB HB.out⟩
         ·rw [if_neg c26] at H
          have c26b0 : (x5_18 == 0) = false := beq_eq_false_iff_ne.mpr c26
          have c26b1 : (x5_18 != 0) = true := bne_iff_ne.mpr c26
          obtain rfl := Option.some.inj H
          go_wp2
          go_ret
          exact ⟨ZEE, ZBB HB.out⟩

/-! ### meanderref10_Load: function 12 -/
def meanderref10_Load.f (k : Nat) (l0 : List Int) : Option ((List (S40)) × (List (S42)) × Int) := (meanderref10_Take.f k l0).bind fun bt297 => (if bt297.2.2 = 0 then ((meanderref09_Graph.f k bt297.1 bt297.2.1).bind fun t305 => (if t305 = 0 then (some (bt297.1, bt297.2.1, 0)) else (some (([] : List (S40)), ([] : List (S42)), t305)))) else (some (([] : List (S40)), ([] : List (S42)), bt297.2.2)))
theorem meanderref10_Load.mono : ∀ a0 k, LeO (meanderref10_Load.f k a0) (meanderref10_Load.f (k + 1) a0) := by
 intro a0 k
 unfold meanderref10_Load.f
 repeat' first
   | (with_reducible exact meanderref09_Graph.mono _ _ _)
   | (with_reducible exact meanderref10_Take.mono _ _)
   | (with_reducible exact LeO.refl _)
   | (with_reducible exact LeO.none _)
   | (with_reducible refine LeO.ite ?_ ?_)
   | (with_reducible refine LeO.bind ?_ (fun _ => ?_))
   | exact meanderref09_Graph.mono _ _ _
   | exact meanderref10_Take.mono _ _
   | exact LeO.none _
   | refine LeO.ite ?_ ?_
   | refine LeO.bind ?_ (fun _ => ?_)
set_option maxHeartbeats 8000000 in
set_option maxRecDepth 100000 in
theorem meanderref10_Load.calls (k : Nat) (A0 : Option Addr) (c0 : Nat) (l0 : List Int) (r1 : List (S40)) (r2 : List (S42)) (r3 : Int) (w : World) (hr0 : Kd.C (Kd.int .u8) w A0 l0.length l0) (hc0 : l0.length ≤ c0) (h : meanderref10_Load.f k l0 = some (r1, r2, r3)) :
  Calls Tryd.prog 12 #[.slice A0 l0.length c0] w fun e w' => ∃ v0_ v1_ : Value, e = .returned (.tuple #[.agg #[v0_, v1_], .int .i64 r3]) ∧ Kd.R k40 40 w' w.heap.size (fun _ => True) v0_ r1 ∧ Kd.R k42 42 w' w.heap.size (fun _ => True) v1_ r2 ∧ Below w.heap.size w w' := by
 have hu27 := Tryd.underlying27
 have HR0 := ZM hr0
 have HC0 := ZM hc0
 clear hr0 hc0
 have HB := ZM (Below.refl w.heap.size w)
 have H : ((meanderref10_Take.f k l0).bind fun bt297 => (if bt297.2.2 = 0 then ((meanderref09_Graph.f k bt297.1 bt297.2.1).bind fun t305 => (if t305 = 0 then (some (bt297.1, bt297.2.1, 0)) else (some (([] : List (S40)), ([] : List (S42)), t305)))) else (some (([] : List (S40)), ([] : List (S42)), bt297.2.2)))) = some (r1, r2, r3) := h
 clear h
 replace H := Option.bind_eq_some_iff.mp H
 obtain ⟨⟨t297, t300, t303⟩, A20, H⟩ := H
 replace H : (if t303 = 0 then ((meanderref09_Graph.f k t297 t300).bind fun t305 => (if t305 = 0 then (some (t297, t300, 0)) else (some (([] : List (S40)), ([] : List (S42)), t305)))) else (some (([] : List (S40)), ([] : List (S42)), t303))) = some (r1, r2, r3) := H
 have A2 := ZM A20
 clear A20
 by_cases c3 : t303 = 0
 ·rw [if_pos c3] at H
  have c3b0 : (t303 == 0) = true := beq_iff_eq.mpr c3
  have c3b1 : (t303 != 0) = false := bne_eq_false_iff_eq.mpr c3
  clear c3
  replace H := Option.bind_eq_some_iff.mp H
  obtain ⟨t305, A40, H⟩ := H
  replace H : (if t305 = 0 then (some (t297, t300, 0)) else (some (([] : List (S40)), ([] : List (S42)), t305))) = some (r1, r2, r3) := H
  have A4 := ZM A40
  clear A40
  by_cases c5 : t305 = 0
  ·rw [if_pos c5] at H
   have c5b0 : (t305 == 0) = true := beq_iff_eq.mpr c5
   have c5b1 : (t305 != 0) = false := bne_eq_false_iff_eq.mpr c5
   clear c5
   simp only [Option.some.injEq, Prod.mk.injEq] at H
   obtain ⟨rfl, rfl, rfl⟩ := H
   go_enter Tryd.func12, Tryd.ntmps12
   go_wp2_with (first | ((with_reducible refine gate_dst (N := 2) rfl ?_); refine ZBX 2 (cs := #[.slice none 0 0, .slice none 0 0]) (t := 27) ?_; intro gb296 hg w6 hbox hb; have n0_ := ZM (ZW (ZBB HB.out) hb); have n1_ := ZM (hbox); have n2_ := ZM (ZGE hg HB.out); have n3_ := ZM (ZGE hg HB.out); clear HB; have HB := n0_; have BK296 := n1_; have GW296 := n2_; have GE296 := n3_; clear n0_ n1_ n2_ n3_; clear hb hbox hg) | ((with_reducible refine gate_callee (f := 10) rfl ?_); refine goesL_ (some 8) rfl rfl Tryd.func10 (by kernel_rfl) rfl #[.slice A0 l0.length c0] rfl ZH ?_; (with_reducible refine (meanderref10_Take.calls k _ _ l0 t297 t300 t303 _ ?side1 ?side2 A2.out).mono ?_); (case side1 => repeat (first | exact (Kd.C_below HR0.out HB.out) | (with_reducible refine Kd.C_alloc ?_ _) | (with_reducible refine Kd.C_drewN ?_ _) | (with_reducible refine Kd.C_drew ?_))); (case side2 => exact HC0.out); rintro e w7 ⟨v298, v301, rfl, ho0, ho1, hb⟩; refine ⟨_, rfl, ?_⟩; have n0_ := ZM (Kd.R_lower ho0 (ZV (ZBB HB.out))); have n1_ := ZM (Kd.R_lower ho1 (ZV (ZBB HB.out))); have n2_ := ZM (blk_below (ZBK BK296.out) hb); have n3_ := ZM (ZW (ZBB HB.out) hb); clear BK296; clear HB; have HO299 := n0_; have HO302 := n1_; have BK296 := n2_; have HB := n3_; clear n0_ n1_ n2_ n3_; (try clear hb); (try clear hb2); (try clear hk); (try clear hi); (try clear ho0); (try clear ho1)) | ((with_reducible refine gate_dst (N := 4) rfl ?_); refine ZBX 4 (cs := #[.slice none 0 0, .slice none 0 0]) (t := 27) ?_; intro gb304 hg w8 hbox hb; have n0_ := ZM (Kd.R_below (ZRK HO299.out) hb); have n1_ := ZM (Kd.R_below (ZRK HO302.out) hb); have n2_ := ZM (blk_below (ZBK BK296.out) hb); have n3_ := ZM (ZW (ZBB HB.out) hb); have n4_ := ZM (hbox); have n5_ := ZM (ZGE hg HB.out); have n6_ := ZM (ZGE hg HB.out); have n7_ := ZM (ZNE hg BK296.out); have n8_ := ZM (ZNG hg BK296.out); clear HO299; clear HO302; clear BK296; clear HB; have HO299 := n0_; have HO302 := n1_; have BK296 := n2_; have HB := n3_; have BK304 := n4_; have GW304 := n5_; have GE304 := n6_; have NB296_304 := n7_; have NB304_296 := n8_; clear n0_ n1_ n2_ n3_ n4_ n5_ n6_ n7_ n8_; clear hb hbox hg; obtain ⟨Ao9, co9, eo9⟩ := Kd.R_slice HO299.out; subst eo9; have hnb10 := NB304_296.out; have hnc10 := NB296_304.out; obtain ⟨hcz11_0, hcz11_1, hfz11_0, hfz11_1⟩ := ZC2 BK304.out; obtain ⟨Ao12, co12, eo12⟩ := Kd.R_slice HO302.out; subst eo12) | ((with_reducible refine gate_callee (f := 15) rfl ?_); refine goesL_ (some 14) rfl rfl Tryd.func15 (by kernel_rfl) rfl #[.agg #[.slice Ao9 t297.length co9, .slice Ao12 t300.length co12]] rfl ZH ?_; (with_reducible refine (meanderref09_Graph.calls k _ _ t297 _ _ t300 t305 _ ?side1 ?side2 ?side3 ?side4 A4.out).mono ?_); (case side1 => refine (Kd.R_reads' (e := 40) (base := w.heap.size) (ok := fun k_ => True) (n := t297.length) (c := co9) ?_).2.2; exact (by (with_reducible repeat (first | apply ZY | apply ZX | apply ZZ)); exact (Kd.R_mono (Kd.R_far (p := ⟨gb304, 1, none⟩) (Kd.R_far (p := ⟨gb304, 0, none⟩) (Kd.R_types HO299.out BK304.out (by decide)) (fun _ hk => hk.2) (.slice Ao9 t297.length co9)) (fun _ hk => hk.2) (.slice Ao12 t300.length co12)) (fun _ h_ => h_.1)))); (case side2 => exact (Kd.R_reads' HO299.out).2.1); (case side3 => refine (Kd.R_reads' (e := 42) (base := w.heap.size) (ok := fun k_ => True) (n := t300.length) (c := co12) ?_).2.2; exact (by (with_reducible repeat (first | apply ZY | apply ZX | apply ZZ)); exact (Kd.R_mono (Kd.R_far (p := ⟨gb304, 1, none⟩) (Kd.R_far (p := ⟨gb304, 0, none⟩) (Kd.R_types HO302.out BK304.out (by decide)) (fun _ hk => hk.2) (.slice Ao9 t297.length co9)) (fun _ hk => hk.2) (.slice Ao12 t300.length co12)) (fun _ h_ => h_.1)))); (case side4 => exact (Kd.R_reads' HO302.out).2.1); rintro e w13 ⟨rfl, hb⟩; refine ⟨_, rfl, ?_⟩; have n0_ := ZM (Kd.R_below (by (with_reducible repeat (first | apply ZY | apply ZX | apply ZZ)); exact (Kd.R_mono (Kd.R_far (p := ⟨gb304, 1, none⟩) (Kd.R_far (p := ⟨gb304, 0, none⟩) (Kd.R_types HO299.out BK304.out (by decide)) (fun _ hk => hk.2) (.slice Ao9 t297.length co9)) (fun _ hk => hk.2) (.slice Ao12 t300.length co12)) (fun _ h_ => h_.1))) hb); have n1_ := ZM (Kd.R_below (by (with_reducible repeat (first | apply ZY | apply ZX | apply ZZ)); exact (Kd.R_mono (Kd.R_far (p := ⟨gb304, 1, none⟩) (Kd.R_far (p := ⟨gb304, 0, none⟩) (Kd.R_types HO302.out BK304.out (by decide)) (fun _ hk => hk.2) (.slice Ao9 t297.length co9)) (fun _ hk => hk.2) (.slice Ao12 t300.length co12)) (fun _ h_ => h_.1))) hb); have n2_ := ZM (blk_below (g := gb296) (o := .cells #[.slice none 0 0, .slice none 0 0] 27 (0, 0)) (ZBF BK296.out NB296_304.out) hb); have n3_ := ZM (blk_below (g := gb304) (o := .cells #[.slice Ao9 t297.length co9, .slice Ao12 t300.length co12] 27 (0, 0)) (by (with_reducible repeat (first | refine ZR ?_ _ | refine ZS ?_ | refine ZT ?_ _)); refine blk_put (cs := #[.slice Ao9 t297.length co9, .slice none 0 0]) ?_ 1 _ rfl; (with_reducible repeat (first | refine ZR ?_ _ | refine ZS ?_ | refine ZT ?_ _)); refine blk_put (cs := #[.slice none 0 0, .slice none 0 0]) ?_ 0 _ rfl; (with_reducible repeat (first | refine ZR ?_ _ | refine ZS ?_ | refine ZT ?_ _)); exact BK304.out) hb); have n4_ := ZM (ZW (ZBB HB.out) hb); clear HO299; clear HO302; clear BK296; clear BK304; clear HB; have HO299 := n0_; have HO302 := n1_; have BK296 := n2_; have BK304 := n3_; have HB := n4_; clear n0_ n1_ n2_ n3_ n4_; (try clear hb); (try clear hb2); (try clear hk); (try clear hi); obtain ⟨hcz14_0, hcz14_1, hfz14_0, hfz14_1⟩ := ZC2 BK304.out; obtain ⟨hcz15_0, hcz15_1, hfz15_0, hfz15_1⟩ := ZC2 BK296.out))
   refine bodyPost_ret (results_ct rfl _ _ gb296 27 #[.slice Ao9 t297.length co9, .slice Ao12 t300.length co12] (0, 0) _ rfl (by (with_reducible repeat (first | refine ZR ?_ _ | refine ZS ?_ | refine ZT ?_ _)); refine blk_put (cs := #[.slice Ao9 t297.length co9, .slice none 0 0]) ?_ 1 _ rfl; (with_reducible repeat (first | refine ZR ?_ _ | refine ZS ?_ | refine ZT ?_ _)); refine blk_put (cs := #[.slice none 0 0, .slice none 0 0]) ?_ 0 _ rfl; (with_reducible repeat (first | refine ZR ?_ _ | refine ZS ?_ | refine ZT ?_ _)); exact BK296.out) Tryd.underlying27 rfl (by kernel_rfl)) rfl ?_
   exact ⟨_, _, ZEE, by (with_reducible repeat (first | apply ZY | apply ZX | apply ZZ)); exact Kd.R_mono (Kd.R_far (p := ⟨gb296, 1, none⟩) (Kd.R_far (p := ⟨gb296, 0, none⟩) (Kd.R_types HO299.out BK296.out (by decide)) (fun _ hk => hk.2) (.slice Ao9 t297.length co9)) (fun _ hk => hk.2) (.slice Ao12 t300.length co12)) (fun _ hk => trivial), by (with_reducible repeat (first | apply ZY | apply ZX | apply ZZ)); exact Kd.R_mono (Kd.R_far (p := ⟨gb296, 1, none⟩) (Kd.R_far (p := ⟨gb296, 0, none⟩) (Kd.R_types HO302.out BK296.out (by decide)) (fun _ hk => hk.2) (.slice Ao9 t297.length co9)) (fun _ hk => hk.2) (.slice Ao12 t300.length co12)) (fun _ hk => trivial), ZBB HB.out⟩
  ·rw [if_neg c5] at H
   have c5b0 : (t305 == 0) = false := beq_eq_false_iff_ne.mpr c5
   have c5b1 : (t305 != 0) = true := bne_iff_ne.mpr c5
   simp only [Option.some.injEq, Prod.mk.injEq] at H
   obtain ⟨rfl, rfl, rfl⟩ := H
   go_enter Tryd.func12, Tryd.ntmps12
   go_wp2_with (first | ((with_reducible refine gate_dst (N := 2) rfl ?_); refine ZBX 2 (cs := #[.slice none 0 0, .slice none 0 0]) (t := 27) ?_; intro gb296 hg w16 hbox hb; have n0_ := ZM (ZW (ZBB HB.out) hb); have n1_ := ZM (hbox); have n2_ := ZM (ZGE hg HB.out); have n3_ := ZM (ZGE hg HB.out); clear HB; have HB := n0_; have BK296 := n1_; have GW296 := n2_; have GE296 := n3_; clear n0_ n1_ n2_ n3_; clear hb hbox hg) | ((with_reducible refine gate_callee (f := 10) rfl ?_); refine goesL_ (some 8) rfl rfl Tryd.func10 (by kernel_rfl) rfl #[.slice A0 l0.length c0] rfl ZH ?_; (with_reducible refine (meanderref10_Take.calls k _ _ l0 t297 t300 t303 _ ?side1 ?side2 A2.out).mono ?_); (case side1 => repeat (first | exact (Kd.C_below HR0.out HB.out) | (with_reducible refine Kd.C_alloc ?_ _) | (with_reducible refine Kd.C_drewN ?_ _) | (with_reducible refine Kd.C_drew ?_))); (case side2 => exact HC0.out); rintro e w17 ⟨v298, v301, rfl, ho0, ho1, hb⟩; refine ⟨_, rfl, ?_⟩; have n0_ := ZM (Kd.R_lower ho0 (ZV (ZBB HB.out))); have n1_ := ZM (Kd.R_lower ho1 (ZV (ZBB HB.out))); have n2_ := ZM (blk_below (ZBK BK296.out) hb); have n3_ := ZM (ZW (ZBB HB.out) hb); clear BK296; clear HB; have HO299 := n0_; have HO302 := n1_; have BK296 := n2_; have HB := n3_; clear n0_ n1_ n2_ n3_; (try clear hb); (try clear hb2); (try clear hk); (try clear hi); (try clear ho0); (try clear ho1)) | ((with_reducible refine gate_dst (N := 4) rfl ?_); refine ZBX 4 (cs := #[.slice none 0 0, .slice none 0 0]) (t := 27) ?_; intro gb304 hg w18 hbox hb; have n0_ := ZM (Kd.R_below (ZRK HO299.out) hb); have n1_ := ZM (Kd.R_below (ZRK HO302.out) hb); have n2_ := ZM (blk_below (ZBK BK296.out) hb); have n3_ := ZM (ZW (ZBB HB.out) hb); have n4_ := ZM (hbox); have n5_ := ZM (ZGE hg HB.out); have n6_ := ZM (ZGE hg HB.out); have n7_ := ZM (ZNE hg BK296.out); have n8_ := ZM (ZNG hg BK296.out); clear HO299; clear HO302; clear BK296; clear HB; have HO299 := n0_; have HO302 := n1_; have BK296 := n2_; have HB := n3_; have BK304 := n4_; have GW304 := n5_; have GE304 := n6_; have NB296_304 := n7_; have NB304_296 := n8_; clear n0_ n1_ n2_ n3_ n4_ n5_ n6_ n7_ n8_; clear hb hbox hg; obtain ⟨Ao19, co19, eo19⟩ := Kd.R_slice HO299.out; subst eo19; have hnb20 := NB304_296.out; have hnc20 := NB296_304.out; obtain ⟨hcz21_0, hcz21_1, hfz21_0, hfz21_1⟩ := ZC2 BK304.out; obtain ⟨Ao22, co22, eo22⟩ := Kd.R_slice HO302.out; subst eo22) | ((with_reducible refine gate_callee (f := 15) rfl ?_); refine goesL_ (some 14) rfl rfl Tryd.func15 (by kernel_rfl) rfl #[.agg #[.slice Ao19 t297.length co19, .slice Ao22 t300.length co22]] rfl ZH ?_; (with_reducible refine (meanderref09_Graph.calls k _ _ t297 _ _ t300 t305 _ ?side1 ?side2 ?side3 ?side4 A4.out).mono ?_); (case side1 => refine (Kd.R_reads' (e := 40) (base := w.heap.size) (ok := fun k_ => True) (n := t297.length) (c := co19) ?_).2.2; exact (by (with_reducible repeat (first | apply ZY | apply ZX | apply ZZ)); exact (Kd.R_mono (Kd.R_far (p := ⟨gb304, 1, none⟩) (Kd.R_far (p := ⟨gb304, 0, none⟩) (Kd.R_types HO299.out BK304.out (by decide)) (fun _ hk => hk.2) (.slice Ao19 t297.length co19)) (fun _ hk => hk.2) (.slice Ao22 t300.length co22)) (fun _ h_ => h_.1)))); (case side2 => exact (Kd.R_reads' HO299.out).2.1); (case side3 => refine (Kd.R_reads' (e := 42) (base := w.heap.size) (ok := fun k_ => True) (n := t300.length) (c := co22) ?_).2.2; exact (by (with_reducible repeat (first | apply ZY | apply ZX | apply ZZ)); exact (Kd.R_mono (Kd.R_far (p := ⟨gb304, 1, none⟩) (Kd.R_far (p := ⟨gb304, 0, none⟩) (Kd.R_types HO302.out BK304.out (by decide)) (fun _ hk => hk.2) (.slice Ao19 t297.length co19)) (fun _ hk => hk.2) (.slice Ao22 t300.length co22)) (fun _ h_ => h_.1)))); (case side4 => exact (Kd.R_reads' HO302.out).2.1); rintro e w23 ⟨rfl, hb⟩; refine ⟨_, rfl, ?_⟩; have n0_ := ZM (Kd.R_below (by (with_reducible repeat (first | apply ZY | apply ZX | apply ZZ)); exact (Kd.R_mono (Kd.R_far (p := ⟨gb304, 1, none⟩) (Kd.R_far (p := ⟨gb304, 0, none⟩) (Kd.R_types HO299.out BK304.out (by decide)) (fun _ hk => hk.2) (.slice Ao19 t297.length co19)) (fun _ hk => hk.2) (.slice Ao22 t300.length co22)) (fun _ h_ => h_.1))) hb); have n1_ := ZM (Kd.R_below (by (with_reducible repeat (first | apply ZY | apply ZX | apply ZZ)); exact (Kd.R_mono (Kd.R_far (p := ⟨gb304, 1, none⟩) (Kd.R_far (p := ⟨gb304, 0, none⟩) (Kd.R_types HO302.out BK304.out (by decide)) (fun _ hk => hk.2) (.slice Ao19 t297.length co19)) (fun _ hk => hk.2) (.slice Ao22 t300.length co22)) (fun _ h_ => h_.1))) hb); have n2_ := ZM (blk_below (g := gb296) (o := .cells #[.slice none 0 0, .slice none 0 0] 27 (0, 0)) (ZBF BK296.out NB296_304.out) hb); have n3_ := ZM (blk_below (g := gb304) (o := .cells #[.slice Ao19 t297.length co19, .slice Ao22 t300.length co22] 27 (0, 0)) (by (with_reducible repeat (first | refine ZR ?_ _ | refine ZS ?_ | refine ZT ?_ _)); refine blk_put (cs := #[.slice Ao19 t297.length co19, .slice none 0 0]) ?_ 1 _ rfl; (with_reducible repeat (first | refine ZR ?_ _ | refine ZS ?_ | refine ZT ?_ _)); refine blk_put (cs := #[.slice none 0 0, .slice none 0 0]) ?_ 0 _ rfl; (with_reducible repeat (first | refine ZR ?_ _ | refine ZS ?_ | refine ZT ?_ _)); exact BK304.out) hb); have n4_ := ZM (ZW (ZBB HB.out) hb); clear HO299; clear HO302; clear BK296; clear BK304; clear HB; have HO299 := n0_; have HO302 := n1_; have BK296 := n2_; have BK304 := n3_; have HB := n4_; clear n0_ n1_ n2_ n3_ n4_; (try clear hb); (try clear hb2); (try clear hk); (try clear hi); obtain ⟨hcz24_0, hcz24_1, hfz24_0, hfz24_1⟩ := ZC2 BK296.out))
   refine bodyPost_ret (results_ct rfl _ _ gb296 27 #[.slice none 0 0, .slice none 0 0] (0, 0) _ rfl (by (with_reducible repeat (first | refine ZR ?_ _ | refine ZS ?_ | refine ZT ?_ _)); refine blk_put (cs := #[.slice none 0 0, .slice none 0 0]) ?_ 1 _ rfl; (with_reducible repeat (first | refine ZR ?_ _ | refine ZS ?_ | refine ZT ?_ _)); refine blk_put (cs := #[.slice none 0 0, .slice none 0 0]) ?_ 0 _ rfl; (with_reducible repeat (first | refine ZR ?_ _ | refine ZS ?_ | refine ZT ?_ _)); exact BK296.out) Tryd.underlying27 rfl (by kernel_rfl)) rfl ?_
   exact ⟨_, _, ZEE, by first | exact Kd.R_nil _ _ _ _ _ | exact Kd.N_nil _ _ _ _ _ | exact Kd.V_nil _ _ _ _ _ | exact Kd.Q_nil _ _ _ _ _ | exact Kd.S_nil _ _ _ _ _, by first | exact Kd.R_nil _ _ _ _ _ | exact Kd.N_nil _ _ _ _ _ | exact Kd.V_nil _ _ _ _ _ | exact Kd.Q_nil _ _ _ _ _ | exact Kd.S_nil _ _ _ _ _, ZBB HB.out⟩
 ·rw [if_neg c3] at H
  have c3b0 : (t303 == 0) = false := beq_eq_false_iff_ne.mpr c3
  have c3b1 : (t303 != 0) = true := bne_iff_ne.mpr c3
  simp only [Option.some.injEq, Prod.mk.injEq] at H
  obtain ⟨rfl, rfl, rfl⟩ := H
  go_enter Tryd.func12, Tryd.ntmps12
  go_wp2_with (first | ((with_reducible refine gate_dst (N := 2) rfl ?_); refine ZBX 2 (cs := #[.slice none 0 0, .slice none 0 0]) (t := 27) ?_; intro gb296 hg w25 hbox hb; have n0_ := ZM (ZW (ZBB HB.out) hb); have n1_ := ZM (hbox); have n2_ := ZM (ZGE hg HB.out); have n3_ := ZM (ZGE hg HB.out); clear HB; have HB := n0_; have BK296 := n1_; have GW296 := n2_; have GE296 := n3_; clear n0_ n1_ n2_ n3_; clear hb hbox hg) | ((with_reducible refine gate_callee (f := 10) rfl ?_); refine goesL_ (some 8) rfl rfl Tryd.func10 (by kernel_rfl) rfl #[.slice A0 l0.length c0] rfl ZH ?_; (with_reducible refine (meanderref10_Take.calls k _ _ l0 t297 t300 t303 _ ?side1 ?side2 A2.out).mono ?_); (case side1 => repeat (first | exact (Kd.C_below HR0.out HB.out) | (with_reducible refine Kd.C_alloc ?_ _) | (with_reducible refine Kd.C_drewN ?_ _) | (with_reducible refine Kd.C_drew ?_))); (case side2 => exact HC0.out); rintro e w26 ⟨v298, v301, rfl, ho0, ho1, hb⟩; refine ⟨_, rfl, ?_⟩; have n0_ := ZM (Kd.R_lower ho0 (ZV (ZBB HB.out))); have n1_ := ZM (Kd.R_lower ho1 (ZV (ZBB HB.out))); have n2_ := ZM (blk_below (ZBK BK296.out) hb); have n3_ := ZM (ZW (ZBB HB.out) hb); clear BK296; clear HB; have HO299 := n0_; have HO302 := n1_; have BK296 := n2_; have HB := n3_; clear n0_ n1_ n2_ n3_; (try clear hb); (try clear hb2); (try clear hk); (try clear hi); (try clear ho0); (try clear ho1)) | ((with_reducible refine gate_dst (N := 4) rfl ?_); refine ZBX 4 (cs := #[.slice none 0 0, .slice none 0 0]) (t := 27) ?_; intro gb304 hg w27 hbox hb; have n0_ := ZM (Kd.R_below (ZRK HO299.out) hb); have n1_ := ZM (Kd.R_below (ZRK HO302.out) hb); have n2_ := ZM (blk_below (ZBK BK296.out) hb); have n3_ := ZM (ZW (ZBB HB.out) hb); have n4_ := ZM (hbox); have n5_ := ZM (ZGE hg HB.out); have n6_ := ZM (ZGE hg HB.out); have n7_ := ZM (ZNE hg BK296.out); have n8_ := ZM (ZNG hg BK296.out); clear HO299; clear HO302; clear BK296; clear HB; have HO299 := n0_; have HO302 := n1_; have BK296 := n2_; have HB := n3_; have BK304 := n4_; have GW304 := n5_; have GE304 := n6_; have NB296_304 := n7_; have NB304_296 := n8_; clear n0_ n1_ n2_ n3_ n4_ n5_ n6_ n7_ n8_; clear hb hbox hg; obtain ⟨Ao28, co28, eo28⟩ := Kd.R_slice HO299.out; subst eo28; have hnb29 := NB304_296.out; have hnc29 := NB296_304.out; obtain ⟨hcz30_0, hcz30_1, hfz30_0, hfz30_1⟩ := ZC2 BK304.out; obtain ⟨Ao31, co31, eo31⟩ := Kd.R_slice HO302.out; subst eo31; obtain ⟨hcz32_0, hcz32_1, hfz32_0, hfz32_1⟩ := ZC2 BK296.out))
  refine bodyPost_ret (results_ct rfl _ _ gb296 27 #[.slice none 0 0, .slice none 0 0] (0, 0) _ rfl (by (with_reducible repeat (first | refine ZR ?_ _ | refine ZS ?_ | refine ZT ?_ _)); refine blk_put (cs := #[.slice none 0 0, .slice none 0 0]) ?_ 1 _ rfl; (with_reducible repeat (first | refine ZR ?_ _ | refine ZS ?_ | refine ZT ?_ _)); refine blk_put (cs := #[.slice none 0 0, .slice none 0 0]) ?_ 0 _ rfl; (with_reducible repeat (first | refine ZR ?_ _ | refine ZS ?_ | refine ZT ?_ _)); refine blk_far ?_ NB296_304.out _; (with_reducible repeat (first | refine ZR ?_ _ | refine ZS ?_ | refine ZT ?_ _)); refine blk_far ?_ NB296_304.out _; (with_reducible repeat (first | refine ZR ?_ _ | refine ZS ?_ | refine ZT ?_ _)); exact BK296.out) Tryd.underlying27 rfl (by kernel_rfl)) rfl ?_
  exact ⟨_, _, ZEE, by first | exact Kd.R_nil _ _ _ _ _ | exact Kd.N_nil _ _ _ _ _ | exact Kd.V_nil _ _ _ _ _ | exact Kd.Q_nil _ _ _ _ _ | exact Kd.S_nil _ _ _ _ _, by first | exact Kd.R_nil _ _ _ _ _ | exact Kd.N_nil _ _ _ _ _ | exact Kd.V_nil _ _ _ _ _ | exact Kd.Q_nil _ _ _ _ _ | exact Kd.S_nil _ _ _ _ _, ZBB HB.out⟩

end Go.Proofs.YtbjjcolbomaodaaDoor.PTks
