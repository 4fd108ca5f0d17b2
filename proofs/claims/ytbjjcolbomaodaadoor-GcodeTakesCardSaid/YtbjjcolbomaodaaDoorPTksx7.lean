-- Laid by hprint.py of this repo: the kit's printer, and contracts by hand beside it. Not trusted: Lean checks it.
import Derived.Test.YtbjjcolbomaodaaDoorWZ
import Derived.Test.YtbjjcolbomaodaaDoorWY
import Derived.Test.YtbjjcolbomaodaaDoorPTksx0
import Derived.Test.YtbjjcolbomaodaaDoorPTksx6
namespace Go.Proofs.YtbjjcolbomaodaaDoor.PTks
open Go.RowKit Go.Proofs.YtbjjcolbomaodaaDoorW.PrintWords Go.Proofs.YtbjjcolbomaodaaDoorW.PrintLast Go.Proofs.YtbjjcolbomaodaaDoorW.PrintMore
attribute [local go_sem] max2_int min2_int max_two min_two max_three min_three max_four min_four   -- for this text's walks alone
set_option linter.unusedVariables false
set_option linter.unusedSimpArgs false

/-! ### meanderref10_Take: function 10 -/
mutual
def meanderref10_Take.j0 : Nat → List Int → Bool → Option ((List (S40)) × (List (S42)) × Int)
 | 0, _, _ => none
 | k + 1, x0, x25 => if x25 = true then (some (([] : List (S40)), ([] : List (S42)), 2)) else (if 2 < (x0.length : Int) then (if (x0.length : Int) < (wrap64 (4 + (wrap64 (6 * (wrap64 (rd x0 2)))))) then (some (([] : List (S40)), ([] : List (S42)), 2)) else (if 0 ≤ (wrap64 (3 + (wrap64 (6 * (wrap64 (rd x0 2)))))) then (if (wrap64 (3 + (wrap64 (6 * (wrap64 (rd x0 2)))))) < (x0.length : Int) then (if (x0.length : Int) = (wrap64 ((wrap64 (4 + (wrap64 (6 * (wrap64 (rd x0 2)))))) + (wrap64 (3 * (wrap64 (rd x0 (wrap64 (3 + (wrap64 (6 * (wrap64 (rd x0 2)))))))))))) then (meanderref10_Take.l0 k x0 (wrap64 (rd x0 2)) (wrap64 (rd x0 (wrap64 (3 + (wrap64 (6 * (wrap64 (rd x0 2)))))))) 0 ([] : List (S40))) else (some (([] : List (S40)), ([] : List (S42)), 2))) else (none)) else (none))) else (none))
def meanderref10_Take.l0 : Nat → List Int → Int → Int → Int → List (S40) → Option ((List (S40)) × (List (S42)) × Int)
 | 0, _, _, _, _, _ => none
 | k + 1, x0, x4, x5, x7, x119000 => if x7 < x4 then (if 0 ≤ (wrap64 (3 + (wrap64 (6 * x7)))) then (if (wrap64 (3 + (wrap64 (6 * x7)))) < (x0.length : Int) then (if 0 ≤ (wrap64 ((wrap64 (3 + (wrap64 (6 * x7)))) + 1)) then (if (wrap64 ((wrap64 (3 + (wrap64 (6 * x7)))) + 1)) < (x0.length : Int) then ((meanderref10_number.f x0 (wrap64 ((wrap64 (3 + (wrap64 (6 * x7)))) + 2))).bind fun t121 => ((meanderref10_number.f x0 (wrap64 ((wrap64 (3 + (wrap64 (6 * x7)))) + 4))).bind fun t122 => (if x119000.length < 4398046511104 then (meanderref10_Take.l0 k x0 x4 x5 (wrap64 (x7 + 1)) (x119000 ++ [(⟨wrap64 (rd x0 (wrap64 (3 + (wrap64 (6 * x7))))), t121, t122, wrap64 (rd x0 (wrap64 ((wrap64 (3 + (wrap64 (6 * x7)))) + 1)))⟩ : S40)])) else (none)))) else (none)) else (none)) else (none)) else (none)) else (meanderref10_Take.l1 k x0 x4 x5 0 x119000 ([] : List (S42)))
def meanderref10_Take.l1 : Nat → List Int → Int → Int → Int → List (S40) → List (S42) → Option ((List (S40)) × (List (S42)) × Int)
 | 0, _, _, _, _, _, _ => none
 | k + 1, x0, x4, x5, x9, x119000, x119001 => if x9 < x5 then (if 0 ≤ (wrap64 ((wrap64 (4 + (wrap64 (6 * x4)))) + (wrap64 (3 * x9)))) then (if (wrap64 ((wrap64 (4 + (wrap64 (6 * x4)))) + (wrap64 (3 * x9)))) < (x0.length : Int) then (if 0 ≤ (wrap64 ((wrap64 ((wrap64 (4 + (wrap64 (6 * x4)))) + (wrap64 (3 * x9)))) + 1)) then (if (wrap64 ((wrap64 ((wrap64 (4 + (wrap64 (6 * x4)))) + (wrap64 (3 * x9)))) + 1)) < (x0.length : Int) then (if 0 ≤ (wrap64 ((wrap64 ((wrap64 (4 + (wrap64 (6 * x4)))) + (wrap64 (3 * x9)))) + 2)) then (if (wrap64 ((wrap64 ((wrap64 (4 + (wrap64 (6 * x4)))) + (wrap64 (3 * x9)))) + 2)) < (x0.length : Int) then (if x119001.length < 5864062014805 then (meanderref10_Take.l1 k x0 x4 x5 (wrap64 (x9 + 1)) x119000 (x119001 ++ [(⟨wrap64 (rd x0 (wrap64 ((wrap64 (4 + (wrap64 (6 * x4)))) + (wrap64 (3 * x9))))), wrap64 (rd x0 (wrap64 ((wrap64 ((wrap64 (4 + (wrap64 (6 * x4)))) + (wrap64 (3 * x9)))) + 1))), wrap64 (rd x0 (wrap64 ((wrap64 ((wrap64 (4 + (wrap64 (6 * x4)))) + (wrap64 (3 * x9)))) + 2)))⟩ : S42)])) else (none)) else (none)) else (none)) else (none)) else (none)) else (none)) else (none)) else (some (x119000, x119001, 0))
end
def meanderref10_Take.f (k : Nat) (l0 : List Int) : Option ((List (S40)) × (List (S42)) × Int) := if (l0.length : Int) < 4 then (meanderref10_Take.j0 k l0 true) else (if 0 < (l0.length : Int) then (if (rd l0 0) = 77 then (if 1 < (l0.length : Int) then (meanderref10_Take.j0 k l0 ((rd l0 1) != 71)) else (none)) else (meanderref10_Take.j0 k l0 true)) else (none))
theorem meanderref10_Take.mono_l : ∀ k, (∀ y0 y1, LeO (meanderref10_Take.j0 k y0 y1) (meanderref10_Take.j0 (k + 1) y0 y1)) ∧ (∀ y0 y1 y2 y3 y4, LeO (meanderref10_Take.l0 k y0 y1 y2 y3 y4) (meanderref10_Take.l0 (k + 1) y0 y1 y2 y3 y4)) ∧ (∀ y0 y1 y2 y3 y4 y5, LeO (meanderref10_Take.l1 k y0 y1 y2 y3 y4 y5) (meanderref10_Take.l1 (k + 1) y0 y1 y2 y3 y4 y5))
 | 0 => ⟨fun _ _ r h => by simp [meanderref10_Take.j0] at h, fun _ _ _ _ _ r h => by simp [meanderref10_Take.l0] at h, fun _ _ _ _ _ _ r h => by simp [meanderref10_Take.l1] at h⟩
 | k + 1 => by
  obtain ⟨ih0, ih1, ih2⟩ := meanderref10_Take.mono_l k
  refine ⟨?_, ?_, ?_⟩
  ·intro y0 y1
   unfold meanderref10_Take.j0
   repeat' first
   | (with_reducible exact ih0 _ _)
   | (with_reducible exact ih1 _ _ _ _ _)
   | (with_reducible exact ih2 _ _ _ _ _ _)
   | (with_reducible exact LeO.refl _)
   | (with_reducible exact LeO.none _)
   | (with_reducible refine LeO.ite ?_ ?_)
   | (with_reducible refine LeO.bind ?_ (fun _ => ?_))
   | exact ih0 _ _
   | exact ih1 _ _ _ _ _
   | exact ih2 _ _ _ _ _ _
   | exact LeO.none _
   | refine LeO.ite ?_ ?_
   | refine LeO.bind ?_ (fun _ => ?_)
  ·intro y0 y1 y2 y3 y4
   unfold meanderref10_Take.l0
   repeat' first
   | (with_reducible exact ih0 _ _)
   | (with_reducible exact ih1 _ _ _ _ _)
   | (with_reducible exact ih2 _ _ _ _ _ _)
   | (with_reducible exact LeO.refl _)
   | (with_reducible exact LeO.none _)
   | (with_reducible refine LeO.ite ?_ ?_)
   | (with_reducible refine LeO.bind ?_ (fun _ => ?_))
   | exact ih0 _ _
   | exact ih1 _ _ _ _ _
   | exact ih2 _ _ _ _ _ _
   | exact LeO.none _
   | refine LeO.ite ?_ ?_
   | refine LeO.bind ?_ (fun _ => ?_)
  ·intro y0 y1 y2 y3 y4 y5
   unfold meanderref10_Take.l1
   repeat' first
   | (with_reducible exact ih0 _ _)
   | (with_reducible exact ih1 _ _ _ _ _)
   | (with_reducible exact ih2 _ _ _ _ _ _)
   | (with_reducible exact LeO.refl _)
   | (with_reducible exact LeO.none _)
   | (with_reducible refine LeO.ite ?_ ?_)
   | (with_reducible refine LeO.bind ?_ (fun _ => ?_))
   | exact ih0 _ _
   | exact ih1 _ _ _ _ _
   | exact ih2 _ _ _ _ _ _
   | exact LeO.none _
   | refine LeO.ite ?_ ?_
   | refine LeO.bind ?_ (fun _ => ?_)
theorem meanderref10_Take.mono : ∀ a0 k, LeO (meanderref10_Take.f k a0) (meanderref10_Take.f (k + 1) a0) := by
 intro a0 k
 obtain ⟨ih0, ih1, ih2⟩ := meanderref10_Take.mono_l k
 unfold meanderref10_Take.f
 repeat' first
   | (with_reducible exact ih0 _ _)
   | (with_reducible exact ih1 _ _ _ _ _)
   | (with_reducible exact ih2 _ _ _ _ _ _)
   | (with_reducible exact LeO.refl _)
   | (with_reducible exact LeO.none _)
   | (with_reducible refine LeO.ite ?_ ?_)
   | (with_reducible refine LeO.bind ?_ (fun _ => ?_))
   | exact ih0 _ _
   | exact ih1 _ _ _ _ _
   | exact ih2 _ _ _ _ _ _
   | exact LeO.none _
   | refine LeO.ite ?_ ?_
   | refine LeO.bind ?_ (fun _ => ?_)
def meanderref10_Take.T14 : Bool × List (List Nat × List Nat) := (true, [([], []), ([0], [0]), ([], []), ([], []), ([2, 3], [2, 3]), ([4], [4]), ([5], [5]), ([], []), ([], []), ([8], [8]), ([7, 9], [7, 9]), ([10], [10]), ([11], [11]), ([], []), ([], []), ([14], [14]), ([13, 15], [13, 15]), ([], []), ([], []), ([18], [18]), ([17, 19, 16], [17, 19]), ([6, 12, 16, 20], [6, 12, 16, 20]), ([21], [21]), ([1, 22, 20], [1, 22]), ([0, 1, 2, 3, 4, 5, 6, 7, 8, 9, 10, 11, 12, 13, 14, 15, 16, 17, 18, 19, 20, 21, 22, 23], []), ([24, 23, 23, 0, 1, 2, 3, 4, 5, 6, 7, 8, 9, 10, 11, 12, 13, 14, 15, 16, 17, 18, 19, 20, 21, 22, 23], [23, 24])])
def meanderref10_Take.B14 : List Nat := [0, 1, 0, 0, 12, 28, 60, 0, 0, 256, 896, 1920, 3968, 0, 0, 16384, 57344, 0, 0, 262144, 1040384, 2097148, 4194300, 8388607, 16777215, 33554431]
theorem meanderref10_Take.tab14 : rtab .any (opsOf Tryd.f10 14) = meanderref10_Take.T14 := by kernel_rfl
theorem meanderref10_Take.bits14 : waitsOk meanderref10_Take.T14.2 meanderref10_Take.B14 = true := by kernel_rfl
def meanderref10_Take.T19 : Bool × List (List Nat × List Nat) := (true, [([], []), ([0], [0]), ([], []), ([], []), ([2, 3], [2, 3]), ([4], [4]), ([5], [5]), ([], []), ([], []), ([8], [8]), ([7, 9], [7, 9]), ([10], [10]), ([11], [11]), ([], []), ([], []), ([14], [14]), ([13, 15], [13, 15]), ([16], [16]), ([17], [17]), ([6, 12, 18], [6, 12, 18]), ([19], [19]), ([1, 20], [1, 20]), ([0, 1, 2, 3, 4, 5, 6, 7, 8, 9, 10, 11, 12, 13, 14, 15, 16, 17, 18, 19, 20, 21], []), ([22, 21, 21, 0, 1, 2, 3, 4, 5, 6, 7, 8, 9, 10, 11, 12, 13, 14, 15, 16, 17, 18, 19, 20, 21], [21, 22])])
def meanderref10_Take.B19 : List Nat := [0, 1, 0, 0, 12, 28, 60, 0, 0, 256, 896, 1920, 3968, 0, 0, 16384, 57344, 122880, 253952, 524284, 1048572, 2097151, 4194303, 8388607]
theorem meanderref10_Take.tab19 : rtab .any (opsOf Tryd.f10 19) = meanderref10_Take.T19 := by kernel_rfl
theorem meanderref10_Take.bits19 : waitsOk meanderref10_Take.T19.2 meanderref10_Take.B19 = true := by kernel_rfl
set_option maxHeartbeats 8000000 in
set_option maxRecDepth 100000 in
theorem meanderref10_Take.calls (k : Nat) (A0 : Option Addr) (c0 : Nat) (l0 : List Int) (r1 : List (S40)) (r2 : List (S42)) (r3 : Int) (w : World) (hr0 : Kd.C (Kd.int .u8) w A0 l0.length l0) (hc0 : l0.length ≤ c0) (h : meanderref10_Take.f k l0 = some (r1, r2, r3)) :
  Calls Tryd.prog 10 #[.slice A0 l0.length c0] w fun e w' => ∃ v0_ v1_ : Value, e = .returned (.tuple #[.agg #[v0_, v1_], .int .i64 r3]) ∧ Kd.R k40 40 w' w.heap.size (fun _ => True) v0_ r1 ∧ Kd.R k42 42 w' w.heap.size (fun _ => True) v1_ r2 ∧ Below w.heap.size w w' := by
 have hu27 := Tryd.underlying27
 have hu40 := Tryd.underlying40
 have hu42 := Tryd.underlying42
 have HR0 := ZM hr0
 have HC0 := ZM hc0
 clear hr0 hc0
 have HB := ZM (Below.refl w.heap.size w)
 have H : (if (l0.length : Int) < 4 then (meanderref10_Take.j0 k l0 true) else (if 0 < (l0.length : Int) then (if (rd l0 0) = 77 then (if 1 < (l0.length : Int) then (meanderref10_Take.j0 k l0 ((rd l0 1) != 71)) else (none)) else (meanderref10_Take.j0 k l0 true)) else (none))) = some (r1, r2, r3) := h
 clear h
 have HC2 := ZM H
 clear H
 go_enter Tryd.func10, Tryd.ntmps10
 go_upto_region 1 with (first | ((with_reducible refine gate_dst (N := 2) rfl ?_); refine ZBX 2 (cs := #[.slice none 0 0, .slice none 0 0]) (t := 27) ?_; intro gb113 hg w3 hbox hb; have n0_ := ZM (ZW (ZBB HB.out) hb); have n1_ := ZM (hbox); have n2_ := ZM (ZGE hg HB.out); have n3_ := ZM (ZGE hg HB.out); clear HB; have HB := n0_; have BK113 := n1_; have GW113 := n2_; have GE113 := n3_; clear n0_ n1_ n2_ n3_; clear hb hbox hg))
 (try simp only [Act.put, ZI, ZJ, ZK])
 go_cut [25] (fun v25 wc => ∃ (kq : Nat) (x25_1 : Bool), v25 = .bool x25_1 ∧ Aside0 (meanderref10_Take.j0 kq l0 x25_1 = some (r1, r2, r3)) ∧ Aside0 (kq ≤ k) ∧ Aside0 (wc.heap[gb113]? = some (.cells #[(.slice none 0 0), (.slice none 0 0)] 27 (0, 0))) ∧ Aside0 (Below w.heap.size w wc))
 case first =>
  have H := HC2.out
  clear HC2
  by_cases c4 : (l0.length : Int) < 4
  ·rw [if_pos c4] at H
   have c4b0 : decide ((l0.length : Int) < 4) = true := decide_eq_true c4
   have c4b1 : decide (l0.length < 4) = true := decide_eq_true (by omega)
   clear c4
   (first | rw [c4b0] | (simp only [i64_w, i32_w]; rw [c4b0]) | skip)
   have H' := ZM H
   clear H
   go_wp2
   go_meet
   case rel => exact ⟨_, (true), ZE, H', ⟨by first | omega | exact Nat.le_refl _⟩, ⟨ZBK BK113.out⟩, ⟨ZBB HB.out⟩⟩
  ·rw [if_neg c4] at H
   have c4b0 : decide ((l0.length : Int) < 4) = false := decide_eq_false c4
   have c4b1 : decide (l0.length < 4) = false := decide_eq_false (by omega)
   clear c4
   (first | rw [c4b0] | (simp only [i64_w, i32_w]; rw [c4b0]) | skip)
   by_cases c5 : 0 < (l0.length : Int)
   case neg =>
    rw [if_neg c5] at H
    exact absurd H (by simp)
   rw [if_pos c5] at H
   have c5b0 : decide (0 < (l0.length : Int)) = true := decide_eq_true c5
   have c5b1 : decide (0 < l0.length) = true := decide_eq_true (by omega)
   clear c5
   by_cases c6 : (rd l0 0) = 77
   ·rw [if_pos c6] at H
    have c6b0 : ((rd l0 0) == 77) = true := beq_iff_eq.mpr c6
    have c6b1 : ((rd l0 0) != 77) = false := bne_eq_false_iff_eq.mpr c6
    clear c6
    by_cases c7 : 1 < (l0.length : Int)
    case neg =>
     rw [if_neg c7] at H
     exact absurd H (by simp)
    rw [if_pos c7] at H
    have c7b0 : decide (1 < (l0.length : Int)) = true := decide_eq_true c7
    have c7b1 : decide (1 < l0.length) = true := decide_eq_true (by omega)
    clear c7
    have H' := ZM H
    clear H
    have p114 : 0 ≤ (0 : Int) := (by omega)
    have q114 : 0 < (l0.length : Int) := ZOD
    obtain ⟨ad114, e114, hx114_0⟩ := Kd.at_int HR0.out 0 p114 q114
    cases e114
    have qi114 : (0 < l0.length) = True := eq_true (by omega)
    (try rw [show ((0 : Int)).toNat = 0 from rfl] at hx114_0)
    (try rw [Addr.add_zero'] at hx114_0)
    replace hx114_0 := ZHX HB.out hx114_0
    replace p114 := eq_true p114
    replace q114 := eq_true q114
    have p115 : 0 ≤ (1 : Int) := (by omega)
    have q115 : 1 < (l0.length : Int) := ZOD
    obtain ⟨ad115, e115, hx115_0⟩ := Kd.at_int HR0.out 1 p115 q115
    obtain rfl : ad114 = ad115 := (by injection e115)
    (try simp only [show (1 : Int).toNat = 1 from rfl, Nat.reduceMul, Nat.reduceEqDiff, Go.Addr.add, ↓reduceIte] at hx115_0)
    have qi115 : (1 < l0.length) = True := eq_true (by omega)
    (try rw [show ((1 : Int)).toNat = 1 from rfl] at hx115_0)
    replace hx115_0 := ZHX HB.out hx115_0
    replace p115 := eq_true p115
    replace q115 := eq_true q115
    go_wp2
    go_meet
    case rel => exact ⟨_, (((rd l0 1) != 71)), ZE, H', ⟨by first | omega | exact Nat.le_refl _⟩, ⟨ZBK BK113.out⟩, ⟨ZBB HB.out⟩⟩
   ·rw [if_neg c6] at H
    have c6b0 : ((rd l0 0) == 77) = false := beq_eq_false_iff_ne.mpr c6
    have c6b1 : ((rd l0 0) != 77) = true := bne_iff_ne.mpr c6
    have H' := ZM H
    clear H
    have p114 : 0 ≤ (0 : Int) := (by omega)
    have q114 : 0 < (l0.length : Int) := ZOD
    obtain ⟨ad114, e114, hx114_0⟩ := Kd.at_int HR0.out 0 p114 q114
    cases e114
    have qi114 : (0 < l0.length) = True := eq_true (by omega)
    (try rw [show ((0 : Int)).toNat = 0 from rfl] at hx114_0)
    (try rw [Addr.add_zero'] at hx114_0)
    replace hx114_0 := ZHX HB.out hx114_0
    replace p114 := eq_true p114
    replace q114 := eq_true q114
    go_wp2
    go_meet
    case rel => exact ⟨_, (true), ZE, H', ⟨by first | omega | exact Nat.le_refl _⟩, ⟨ZBK BK113.out⟩, ⟨ZBB HB.out⟩⟩
 case rest =>
  clear HC2
  try clear c4
  try clear c4b0
  try clear c4b1
  try clear c5
  try clear c5b0
  try clear c5b1
  try clear c6
  try clear c6b0
  try clear c6b1
  try clear c7
  try clear c7b0
  try clear c7b1
  try clear hx114_0
  try clear hx115_0
  try clear p114
  try clear p115
  try clear q114
  try clear q115
  obtain ⟨kq, x25_1, rfl, HA, HJ1, BK113, HB⟩ := hcut
  cases kq with
  | zero => exact absurd HA.out (by simp [meanderref10_Take.j0])
  | succ kj1 =>
   have H := HA.out
   clear HA
   simp only [meanderref10_Take.j0] at H
   by_cases c8 : x25_1 = true
   ·subst c8
    have H1 : (some (([] : List (S40)), ([] : List (S42)), 2)) = some (r1, r2, r3) := by rw [if_pos rfl] at H; exact H
    clear H
    have H := H1
    clear H1
    simp only [Option.some.injEq, Prod.mk.injEq] at H
    obtain ⟨rfl, rfl, rfl⟩ := H
    obtain ⟨hcz9_0, hcz9_1, hfz9_0, hfz9_1⟩ := ZC2 BK113.out
    go_wp2
    refine bodyPost_ret (results_ct rfl _ _ gb113 27 #[.slice none 0 0, .slice none 0 0] (0, 0) _ rfl (by (with_reducible repeat (first | refine ZR ?_ _ | refine ZS ?_ | refine ZT ?_ _)); refine blk_put (cs := #[.slice none 0 0, .slice none 0 0]) ?_ 1 _ rfl; (with_reducible repeat (first | refine ZR ?_ _ | refine ZS ?_ | refine ZT ?_ _)); refine blk_put (cs := #[.slice none 0 0, .slice none 0 0]) ?_ 0 _ rfl; (with_reducible repeat (first | refine ZR ?_ _ | refine ZS ?_ | refine ZT ?_ _)); exact BK113.out) Tryd.underlying27 rfl (by kernel_rfl)) rfl ?_
    exact ⟨_, _, ZEE, by first | exact Kd.R_nil _ _ _ _ _ | exact Kd.N_nil _ _ _ _ _ | exact Kd.V_nil _ _ _ _ _ | exact Kd.Q_nil _ _ _ _ _ | exact Kd.S_nil _ _ _ _ _, by first | exact Kd.R_nil _ _ _ _ _ | exact Kd.N_nil _ _ _ _ _ | exact Kd.V_nil _ _ _ _ _ | exact Kd.Q_nil _ _ _ _ _ | exact Kd.S_nil _ _ _ _ _, ZBB HB.out⟩
   ·replace c8 := Bool.eq_false_iff.mpr c8
    subst c8
    have H1 : (if 2 < (l0.length : Int) then (if (l0.length : Int) < (wrap64 (4 + (wrap64 (6 * (wrap64 (rd l0 2)))))) then (some (([] : List (S40)), ([] : List (S42)), 2)) else (if 0 ≤ (wrap64 (3 + (wrap64 (6 * (wrap64 (rd l0 2)))))) then (if (wrap64 (3 + (wrap64 (6 * (wrap64 (rd l0 2)))))) < (l0.length : Int) then (if (l0.length : Int) = (wrap64 ((wrap64 (4 + (wrap64 (6 * (wrap64 (rd l0 2)))))) + (wrap64 (3 * (wrap64 (rd l0 (wrap64 (3 + (wrap64 (6 * (wrap64 (rd l0 2)))))))))))) then (meanderref10_Take.l0 kj1 l0 (wrap64 (rd l0 2)) (wrap64 (rd l0 (wrap64 (3 + (wrap64 (6 * (wrap64 (rd l0 2)))))))) 0 ([] : List (S40))) else (some (([] : List (S40)), ([] : List (S42)), 2))) else (none)) else (none))) else (none)) = some (r1, r2, r3) := by rw [if_neg (show ¬ (false = true) by decide)] at H; exact H
    clear H
    have H := H1
    clear H1
    by_cases c10 : 2 < (l0.length : Int)
    case neg =>
     rw [if_neg c10] at H
     exact absurd H (by simp)

    rw [if_pos c10] at H
    have c10b0 : decide (2 < (l0.length : Int)) = true := decide_eq_true c10
    have c10b1 : decide (2 < l0.length) = true := decide_eq_true (by omega)
    clear c10
    by_cases c11 : (l0.length : Int) < (wrap64 (4 + (wrap64 (6 * (wrap64 (rd l0 2))))))
    ·rw [if_pos c11] at H
     have c11b0 : decide ((l0.length : Int) < (wrap64 (4 + (wrap64 (6 * (wrap64 (rd l0 2))))))) = true := decide_eq_true c11
     clear c11
     simp only [Option.some.injEq, Prod.mk.injEq] at H
     obtain ⟨rfl, rfl, rfl⟩ := H
     have p116 : 0 ≤ (2 : Int) := (by omega)
     have q116 : 2 < (l0.length : Int) := ZOD
     obtain ⟨ad116, e116, hx116_0⟩ := Kd.at_int HR0.out 2 p116 q116
     cases e116
     (try simp only [show (2 : Int).toNat = 2 from rfl, Nat.reduceMul, Nat.reduceEqDiff, Go.Addr.add, ↓reduceIte] at hx116_0)
     have qi116 : (2 < l0.length) = True := eq_true (by omega)
     (try rw [show ((2 : Int)).toNat = 2 from rfl] at hx116_0)
     replace hx116_0 := ZHX HB.out hx116_0
     replace p116 := eq_true p116
     replace q116 := eq_true q116
     obtain ⟨hcz12_0, hcz12_1, hfz12_0, hfz12_1⟩ := ZC2 BK113.out
     go_wp2
     refine bodyPost_ret (results_ct rfl _ _ gb113 27 #[.slice none 0 0, .slice none 0 0] (0, 0) _ rfl (by (with_reducible repeat (first | refine ZR ?_ _ | refine ZS ?_ | refine ZT ?_ _)); refine blk_put (cs := #[.slice none 0 0, .slice none 0 0]) ?_ 1 _ rfl; (with_reducible repeat (first | refine ZR ?_ _ | refine ZS ?_ | refine ZT ?_ _)); refine blk_put (cs := #[.slice none 0 0, .slice none 0 0]) ?_ 0 _ rfl; (with_reducible repeat (first | refine ZR ?_ _ | refine ZS ?_ | refine ZT ?_ _)); exact BK113.out) Tryd.underlying27 rfl (by kernel_rfl)) rfl ?_
     exact ⟨_, _, ZEE, by first | exact Kd.R_nil _ _ _ _ _ | exact Kd.N_nil _ _ _ _ _ | exact Kd.V_nil _ _ _ _ _ | exact Kd.Q_nil _ _ _ _ _ | exact Kd.S_nil _ _ _ _ _, by first | exact Kd.R_nil _ _ _ _ _ | exact Kd.N_nil _ _ _ _ _ | exact Kd.V_nil _ _ _ _ _ | exact Kd.Q_nil _ _ _ _ _ | exact Kd.S_nil _ _ _ _ _, ZBB HB.out⟩
    ·rw [if_neg c11] at H
     have c11b0 : decide ((l0.length : Int) < (wrap64 (4 + (wrap64 (6 * (wrap64 (rd l0 2))))))) = false := decide_eq_false c11
     clear c11
     obtain ⟨ji13, hji13⟩ : ∃ j_ : Int, (wrap64 (3 + (wrap64 (6 * (wrap64 (rd l0 2)))))) = j_ := ⟨_, rfl⟩
     replace H : (if 0 ≤ (ji13) then (if (ji13) < (l0.length : Int) then (if (l0.length : Int) = (wrap64 ((wrap64 (4 + (wrap64 (6 * (wrap64 (rd l0 2)))))) + (wrap64 (3 * (wrap64 (rd l0 (ji13))))))) then (meanderref10_Take.l0 kj1 l0 (wrap64 (rd l0 2)) (wrap64 (rd l0 (ji13))) 0 ([] : List (S40))) else (some (([] : List (S40)), ([] : List (S42)), 2))) else (none)) else (none)) = some (r1, r2, r3) := by first | (rw [hji13] at H; exact H) | (simp only [hji13] at H ⊢; exact H)
     have hji13w : (IntKind.i64.wrap (3 + (wrap64 (6 * (wrap64 (rd l0 2)))))) = ji13 := (i64_w _).trans hji13
     by_cases c14 : 0 ≤ (ji13)
     case neg =>
      rw [if_neg c14] at H
      exact absurd H (by simp)
     rw [if_pos c14] at H
     have c14b0 : decide (0 ≤ (ji13)) = true := decide_eq_true c14
     clear c14
     by_cases c15 : (ji13) < (l0.length : Int)
     case neg =>
      rw [if_neg c15] at H
      exact absurd H (by simp)
     rw [if_pos c15] at H
     have c15b0 : decide ((ji13) < (l0.length : Int)) = true := decide_eq_true c15
     clear c15
     by_cases c16 : (l0.length : Int) = (wrap64 ((wrap64 (4 + (wrap64 (6 * (wrap64 (rd l0 2)))))) + (wrap64 (3 * (wrap64 (rd l0 (ji13)))))))
     ·rw [if_pos c16] at H
      have c16b0 : ((l0.length : Int) == (wrap64 ((wrap64 (4 + (wrap64 (6 * (wrap64 (rd l0 2)))))) + (wrap64 (3 * (wrap64 (rd l0 (ji13)))))))) = true := beq_iff_eq.mpr c16
      have c16b1 : ((l0.length : Int) != (wrap64 ((wrap64 (4 + (wrap64 (6 * (wrap64 (rd l0 2)))))) + (wrap64 (3 * (wrap64 (rd l0 (ji13)))))))) = false := bne_eq_false_iff_eq.mpr c16
      clear c16
      have H' := ZM H
      clear H
      have p116 : 0 ≤ (2 : Int) := (by omega)
      have q116 : 2 < (l0.length : Int) := ZOD
      obtain ⟨ad116, e116, hx116_0⟩ := Kd.at_int HR0.out 2 p116 q116
      cases e116
      (try simp only [show (2 : Int).toNat = 2 from rfl, Nat.reduceMul, Nat.reduceEqDiff, Go.Addr.add, ↓reduceIte] at hx116_0)
      have qi116 : (2 < l0.length) = True := eq_true (by omega)
      (try rw [show ((2 : Int)).toNat = 2 from rfl] at hx116_0)
      replace hx116_0 := ZHX HB.out hx116_0
      replace p116 := eq_true p116
      replace q116 := eq_true q116
      have p117 : 0 ≤ ((ji13) : Int) := ZOD
      have q117 : (ji13) < (l0.length : Int) := ZOD
      obtain ⟨ad117, e117, hx117_0⟩ := Kd.at_int HR0.out (ji13) p117 q117
      obtain rfl : ad116 = ad117 := (by injection e117)
      replace hx117_0 := ZHX HB.out hx117_0
      replace p117 := eq_true p117
      replace q117 := eq_true q117
      go_wp2_with (first | ((with_reducible refine gate_dst (N := 6) rfl ?_); refine ZBX 6 (cs := #[.slice none 0 0, .slice none 0 0]) (t := 27) ?_; intro gb118 hg w17 hbox hb; have n0_ := ZM (blk_below (ZBK BK113.out) hb); have n1_ := ZM (ZW (ZBB HB.out) hb); have n2_ := ZM (hbox); have n3_ := ZM (ZGE hg HB.out); have n4_ := ZM (ZGE hg HB.out); have n5_ := ZM (ZNE hg BK113.out); have n6_ := ZM (ZNG hg BK113.out); clear BK113; clear HB; have BK113 := n0_; have HB := n1_; have BK118 := n2_; have GW118 := n3_; have GE118 := n4_; have NB113_118 := n5_; have NB118_113 := n6_; clear n0_ n1_ n2_ n3_ n4_ n5_ n6_; clear hb hbox hg; have hnb18 := NB118_113.out; have hnc18 := NB113_118.out; obtain ⟨hcz19_0, hcz19_1, hfz19_0, hfz19_1⟩ := ZC2 BK118.out))
      go_loopg [7] kj1 (fun kq v7 w' => ∃ (x7_2 : Int) (x119000_2 : List (S40)) (u119000 : Value), v7 = .int .i64 x7_2 ∧ Aside0 (meanderref10_Take.l0 kq l0 (wrap64 (rd l0 2)) (wrap64 (rd l0 (ji13))) x7_2 x119000_2 = some (r1, r2, r3)) ∧ Aside0 (kq ≤ kj1) ∧ Aside0 (Kd.R k40 40 w' w.heap.size (fun _ => True) u119000 x119000_2) ∧ Aside0 (w'.heap[gb113]? = some (.cells #[(.slice none 0 0), (.slice none 0 0)] 27 (0, 0))) ∧ Aside0 (w'.heap[gb118]? = some (.cells #[u119000, (.slice none 0 0)] 27 (0, 0))) ∧ Aside0 (Below w.heap.size w w'))
      case atStart => exact ⟨(0), (([] : List (S40))), (.slice none 0 0), ZE, H', ⟨Nat.le_refl _⟩, ⟨by first | exact Kd.R_nil _ _ _ _ _ | exact Kd.N_nil _ _ _ _ _ | exact Kd.V_nil _ _ _ _ _ | exact Kd.Q_nil _ _ _ _ _ | exact Kd.S_nil _ _ _ _ _⟩, ⟨ZBF BK113.out NB113_118.out⟩, ⟨by (with_reducible repeat (first | refine ZR ?_ _ | refine ZS ?_ | refine ZT ?_ _)); refine blk_put (cs := #[.slice none 0 0, .slice none 0 0]) ?_ 1 _ rfl; (with_reducible repeat (first | refine ZR ?_ _ | refine ZS ?_ | refine ZT ?_ _)); refine blk_put (cs := #[.slice none 0 0, .slice none 0 0]) ?_ 0 _ rfl; (with_reducible repeat (first | refine ZR ?_ _ | refine ZS ?_ | refine ZT ?_ _)); exact BK118.out⟩, ⟨ZBB HB.out⟩⟩
      case round =>
       clear H'
       try clear c4
       try clear c4b0
       try clear c4b1
       try clear c5
       try clear c5b0
       try clear c5b1
       try clear c6
       try clear c6b0
       try clear c6b1
       try clear c7
       try clear c7b0
       try clear c7b1
       try clear c8
       try clear c10
       try clear c10b0
       try clear c10b1
       try clear c11
       try clear c11b0
       try clear c14
       try clear c14b0
       try clear c15
       try clear c15b0
       try clear c16
       try clear c16b0
       try clear c16b1
       try clear hcz12_0
       try clear hcz12_1
       try clear hcz19_0
       try clear hcz19_1
       try clear hcz9_0
       try clear hcz9_1
       try clear hfz12_0
       try clear hfz12_1
       try clear hfz19_0
       try clear hfz19_1
       try clear hfz9_0
       try clear hfz9_1
       try clear hx114_0
       try clear hx115_0
       try clear hx116_0
       try clear hx117_0
       try clear p114
       try clear p115
       try clear p116
       try clear p117
       try clear q114
       try clear q115
       try clear q116
       try clear q117
       obtain ⟨x7_2, x119000_2, u119000, rfl, HA, HK2, HO_119000, BK113, BK118, HB⟩ := hrel
       cases gk with
       | zero => exact absurd HA.out (by simp [meanderref10_Take.l0])
       | succ k2 =>
        have H := HA.out
        clear HA
        simp only [meanderref10_Take.l0] at H
        by_cases c20 : x7_2 < (wrap64 (rd l0 2))
        ·rw [if_pos c20] at H
         have c20b0 : decide (x7_2 < (wrap64 (rd l0 2))) = true := decide_eq_true c20
         clear c20
         obtain ⟨ji21, hji21⟩ : ∃ j_ : Int, (wrap64 (3 + (wrap64 (6 * x7_2)))) = j_ := ⟨_, rfl⟩
         replace H : (if 0 ≤ (ji21) then (if (ji21) < (l0.length : Int) then (if 0 ≤ (wrap64 ((ji21) + 1)) then (if (wrap64 ((ji21) + 1)) < (l0.length : Int) then ((meanderref10_number.f l0 (wrap64 ((ji21) + 2))).bind fun t121 => ((meanderref10_number.f l0 (wrap64 ((ji21) + 4))).bind fun t122 => (if x119000_2.length < 4398046511104 then (meanderref10_Take.l0 k2 l0 (wrap64 (rd l0 2)) (wrap64 (rd l0 (ji13))) (wrap64 (x7_2 + 1)) (x119000_2 ++ [(⟨wrap64 (rd l0 (ji21)), t121, t122, wrap64 (rd l0 (wrap64 ((ji21) + 1)))⟩ : S40)])) else (none)))) else (none)) else (none)) else (none)) else (none)) = some (r1, r2, r3) := by first | (rw [hji21] at H; exact H) | (simp only [hji21] at H ⊢; exact H)
         have hji21w : (IntKind.i64.wrap (3 + (wrap64 (6 * x7_2)))) = ji21 := (i64_w _).trans hji21
         by_cases c22 : 0 ≤ (ji21)
         case neg =>
          rw [if_neg c22] at H
          exact absurd H (by simp)
         rw [if_pos c22] at H
         have c22b0 : decide (0 ≤ (ji21)) = true := decide_eq_true c22
         clear c22
         by_cases c23 : (ji21) < (l0.length : Int)
         case neg =>
          rw [if_neg c23] at H
          exact absurd H (by simp)
         rw [if_pos c23] at H
         have c23b0 : decide ((ji21) < (l0.length : Int)) = true := decide_eq_true c23
         clear c23
         obtain ⟨ji24, hji24⟩ : ∃ j_ : Int, (wrap64 ((ji21) + 1)) = j_ := ⟨_, rfl⟩
         replace H : (if 0 ≤ (ji24) then (if (ji24) < (l0.length : Int) then ((meanderref10_number.f l0 (wrap64 ((ji21) + 2))).bind fun t121 => ((meanderref10_number.f l0 (wrap64 ((ji21) + 4))).bind fun t122 => (if x119000_2.length < 4398046511104 then (meanderref10_Take.l0 k2 l0 (wrap64 (rd l0 2)) (wrap64 (rd l0 (ji13))) (wrap64 (x7_2 + 1)) (x119000_2 ++ [(⟨wrap64 (rd l0 (ji21)), t121, t122, wrap64 (rd l0 (ji24))⟩ : S40)])) else (none)))) else (none)) else (none)) = some (r1, r2, r3) := by first | (rw [hji24] at H; exact H) | (simp only [hji24] at H ⊢; exact H)
         have hji24w : (IntKind.i64.wrap ((ji21) + 1)) = ji24 := (i64_w _).trans hji24
         by_cases c25 : 0 ≤ (ji24)
         case neg =>
          rw [if_neg c25] at H
          exact absurd H (by simp)
         rw [if_pos c25] at H
         have c25b0 : decide (0 ≤ (ji24)) = true := decide_eq_true c25
         clear c25
         by_cases c26 : (ji24) < (l0.length : Int)
         case neg =>
          rw [if_neg c26] at H
          exact absurd H (by simp)
         rw [if_pos c26] at H
         have c26b0 : decide ((ji24) < (l0.length : Int)) = true := decide_eq_true c26
         clear c26
         replace H := Option.bind_eq_some_iff.mp H
         obtain ⟨t121, A270, H⟩ := H
         replace H : ((meanderref10_number.f l0 (wrap64 ((ji21) + 4))).bind fun t122 => (if x119000_2.length < 4398046511104 then (meanderref10_Take.l0 k2 l0 (wrap64 (rd l0 2)) (wrap64 (rd l0 (ji13))) (wrap64 (x7_2 + 1)) (x119000_2 ++ [(⟨wrap64 (rd l0 (ji21)), t121, t122, wrap64 (rd l0 (ji24))⟩ : S40)])) else (none))) = some (r1, r2, r3) := H
         have A27 := ZM A270
         clear A270
         replace H := Option.bind_eq_some_iff.mp H
         obtain ⟨t122, A280, H⟩ := H
         replace H : (if x119000_2.length < 4398046511104 then (meanderref10_Take.l0 k2 l0 (wrap64 (rd l0 2)) (wrap64 (rd l0 (ji13))) (wrap64 (x7_2 + 1)) (x119000_2 ++ [(⟨wrap64 (rd l0 (ji21)), t121, t122, wrap64 (rd l0 (ji24))⟩ : S40)])) else (none)) = some (r1, r2, r3) := H
         have A28 := ZM A280
         clear A280
         by_cases c29 : x119000_2.length < 4398046511104
         case neg =>
          rw [if_neg c29] at H
          exact absurd H (by simp)
         rw [if_pos c29] at H
         have LMc29 := ZM c29
         clear c29
         obtain ⟨y123, hy123⟩ : ∃ y_ : List (S40), y_ = (x119000_2 ++ [(⟨wrap64 (rd l0 (ji21)), t121, t122, wrap64 (rd l0 (ji24))⟩ : S40)]) := ⟨_, rfl⟩
         replace H : (meanderref10_Take.l0 k2 l0 (wrap64 (rd l0 2)) (wrap64 (rd l0 (ji13))) (wrap64 (x7_2 + 1)) y123) = some (r1, r2, r3) := by first | (rw [hy123]; with_reducible exact H) | (have H2_ := (Option.bind_some _ _).symm.trans H; rw [hy123]; with_reducible exact H2_) | (have H2_ := (Option.bind_some _ _).symm.trans H; with_reducible exact H2_) | with_reducible exact H | (rw [hy123]; exact H) | exact H
         have Ny123 := ZM hy123
         clear hy123
         have H' := ZM H
         clear H
         try go_wp2
         have n0_ := ZM (ZZ HO_119000.out)
         have n1_ := ZM (ZS BK113.out)
         have n2_ := ZM (ZS BK118.out)
         have n3_ := ZM (ZP HB.out)
         clear HO_119000
         clear BK113
         clear BK118
         clear HB
         have HO_119000 := n0_
         have BK113 := n1_
         have BK118 := n2_
         have HB := n3_
         clear n0_ n1_ n2_ n3_
         have p119 : 0 ≤ ((ji21) : Int) := ZOD
         have q119 : (ji21) < (l0.length : Int) := ZOD
         obtain ⟨ad119, e119, hx119_0⟩ := Kd.at_int HR0.out (ji21) p119 q119
         have hw119_0 := hx119_0
         obtain rfl : ad116 = ad119 := (by injection e119)
         replace hx119_0 := ZHX HB.out hx119_0
         replace p119 := eq_true p119
         replace q119 := eq_true q119
         have p120 : 0 ≤ ((ji24) : Int) := ZOD
         have q120 : (ji24) < (l0.length : Int) := ZOD
         obtain ⟨ad120, e120, hx120_0⟩ := Kd.at_int HR0.out (ji24) p120 q120
         have hw120_0 := hx120_0
         obtain rfl : ad116 = ad120 := (by injection e120)
         replace hx120_0 := ZHX HB.out hx120_0
         replace p120 := eq_true p120
         replace q120 := eq_true q120
         refine start_ (n := 26) (S := fun w' => w'.cell? ⟨gb118, 0, none⟩ = some (u119000) ∧ w'.cell? ⟨gb118, 1, none⟩ = some (.slice none 0 0) ∧ w'.cell? (ad116.add ((ji21)).toNat) = some (.int .u8 (rd l0 (ji21))) ∧ w'.cell? (ad116.add ((ji24)).toNat) = some (.int .u8 (rd l0 (ji24)))) (ds := [25]) #[false, false, false, false, false, false, false, false, false, false, false, false, false, false, false, false, false, false, false, false, false, false, false, false, false, false] (by kernel_rfl) rfl rfl ⟨(ZG BK118.out 0).trans rfl, (ZG BK118.out 1).trans rfl, ((HB.out.cell (ZC w _ hw119_0)).trans hw119_0), ((HB.out.cell (ZC w _ hw120_0)).trans hw120_0)⟩ (fun hHeld => ?_); refine with_tabW meanderref10_Take.tab14 meanderref10_Take.bits14 (fun HT_ HW_ => ?_)
         generalize wr.drew = w30 at HO_119000 BK113 BK118 HB hx119_0 hx120_0 hHeld ⊢
         refine ZPU (ZB 26 1) HT_.out 0 64 ?_
         refine ZPU (ZB 26 5) HT_.out 2 66 ?_
         refine ZPU (ZB 26 13) HT_.out 3 67 ?_
         refine ZPU (ZB 26 29) HT_.out 4 68 ?_
         refine ZPU (ZB 26 157) HT_.out 7 71 ?_
         refine ZPU (ZB 26 413) HT_.out 8 72 ?_
         refine ZPU (ZB 26 925) HT_.out 9 73 ?_
         refine ZPU (ZB 26 1949) HT_.out 10 74 ?_
         refine ZPU (ZB 26 10141) HT_.out 13 77 ?_
         refine ZPU (ZB 26 26525) HT_.out 14 78 ?_
         refine ZPU (ZB 26 59293) HT_.out 15 79 ?_
         refine ZPU (ZB 26 190365) HT_.out 17 81 ?_
         refine ZPU (ZB 26 452509) HT_.out 18 82 ?_
         refine ZPU (ZB 26 976797) HT_.out 19 83 ?_
         refine ZTU (ZB 26 976799) HT_.out HW_.out hHeld 1 65 ?_
         refine ZTU (ZB 26 976831) HT_.out HW_.out hHeld 5 69 ?_
         refine ZPU (ZB 26 976895) HT_.out 6 70 ?_
         refine ZTU (ZB 26 978943) HT_.out HW_.out hHeld 11 75 ?_
         refine ZPU (ZB 26 983039) HT_.out 12 76 ?_
         refine one_ (i := 16) (N := some 80) (ZB 26 1048575) rfl rfl (one_of HT_.out (by kernel_rfl)) (by decide) (fun K hK => ?_)
         refine goes_ Tryd.func21 (by kernel_rfl) rfl #[.slice (some ad116) l0.length c0, .int .i64 (wrap64 ((ji21) + 2))] (by rfl) rfl rfl (by (try simp only [List.map_toArray, List.map_cons, List.map_nil]); first | done | (simp only [hji21]; rfl) | rfl | (simp only [List.length_drop, List.length_take]; rfl)) ?_
         with_reducible refine (meanderref10_number.calls _ _ l0 (wrap64 ((ji21) + 2)) t121 _ ?side1 ?side2 A27.out).mono ?_
         (case side1 => repeat (first | exact (Kd.C_below HR0.out HB.out) | (with_reducible refine Kd.C_alloc ?_ _) | (with_reducible refine Kd.C_drewN ?_ _) | (with_reducible refine Kd.C_drew ?_)))
         (case side2 => exact HC0.out)
         rintro e w' ⟨rfl, ⟨nd, rfl⟩⟩
         refine ⟨_, rfl, ?_⟩
         refine hK.out _ _ ⟨(ZG BK118.out 0).trans rfl, (ZG BK118.out 1).trans rfl, ((HB.out.cell (ZC w _ hw119_0)).trans hw119_0), ((HB.out.cell (ZC w _ hw120_0)).trans hw120_0)⟩ (fun hHeld => ?_)
         clear hK K
         refine norm_ (a' := ?_) ?_ ?_
         rotate_left
         ·show Act.put _ (some 80) _ = _
          simp only [Act.put, ZI, ZJ, ZK, i64_w, i32_w]
          rfl
         refine one_ (i := 20) (N := some 84) (ZB 26 2097151) rfl rfl (one_of HT_.out (by kernel_rfl)) (by decide) (fun K hK => ?_)
         refine goes_ Tryd.func21 (by kernel_rfl) rfl #[.slice (some ad116) l0.length c0, .int .i64 (wrap64 ((ji21) + 4))] (by rfl) rfl rfl (by (try simp only [List.map_toArray, List.map_cons, List.map_nil]); first | done | (simp only [hji21]; rfl) | rfl | (simp only [List.length_drop, List.length_take]; rfl)) ?_
         with_reducible refine (meanderref10_number.calls _ _ l0 (wrap64 ((ji21) + 4)) t122 _ ?side1 ?side2 A28.out).mono ?_
         (case side1 => repeat (first | exact (Kd.C_below HR0.out (ZBB HB.out)) | (with_reducible refine Kd.C_alloc ?_ _) | (with_reducible refine Kd.C_drewN ?_ _) | (with_reducible refine Kd.C_drew ?_)))
         (case side2 => exact HC0.out)
         rintro e w' ⟨rfl, ⟨nd, rfl⟩⟩
         refine ⟨_, rfl, ?_⟩
         refine hK.out _ _ ⟨(ZG BK118.out 0).trans rfl, (ZG BK118.out 1).trans rfl, ((HB.out.cell (ZC w _ hw119_0)).trans hw119_0), ((HB.out.cell (ZC w _ hw120_0)).trans hw120_0)⟩ (fun hHeld => ?_)
         clear hK K
         refine norm_ (a' := ?_) ?_ ?_
         rotate_left
         ·show Act.put _ (some 84) _ = _
          simp only [Act.put, ZI, ZJ, ZK, i64_w, i32_w]
          rfl
         refine ZPU (ZB 26 4194303) HT_.out 21 85 ?_
         refine one_ (i := 22) (N := some 86) (ZB 26 8388607) rfl rfl (one_of HT_.out (by kernel_rfl)) (by decide) (fun K hK => ?_)
         refine value_ (w1 := ?_) (v := ?_) (by rfl) rfl ?_ ?_
         rotate_left 2
         ·go_simp
          constructor
          ·rfl
          ·rfl
         refine hK.out _ _ ⟨(ZG (ZT BK118.out _) 0).trans rfl, (ZG (ZT BK118.out _) 1).trans rfl, (World.cell?_alloc_lt _ _ _ (ZC _ _ (((HB.out.cell (ZC w _ hw119_0)).trans hw119_0)))).trans (((HB.out.cell (ZC w _ hw119_0)).trans hw119_0)), (World.cell?_alloc_lt _ _ _ (ZC _ _ (((HB.out.cell (ZC w _ hw120_0)).trans hw120_0)))).trans (((HB.out.cell (ZC w _ hw120_0)).trans hw120_0))⟩ (fun hHeld => ?_)
         clear hK K
         refine norm_ (a' := ?_) ?_ ?_
         rotate_left
         ·show Act.put _ (some 86) _ = _
          simp only [Act.put, ZI, ZJ, ZK, i64_w, i32_w]
          rfl
         refine one_ (i := 23) (N := some 87) (ZB 26 16777215) rfl rfl (one_of HT_.out (by kernel_rfl)) (by decide) (fun K hK => ?_)
         refine Kd.R_append_step k40 (w0 := w) w.heap.size (by rfl) (.tmp 65) (.tmp 86) 24 40 (.agg #[(.int .i64 0), (.int .i64 0), (.int .i64 0), (.int .i64 0)]) 32 rfl Tryd.underlying24 info40 rfl (by decide) (by omega) u119000 x119000_2 (⟨wrap64 (rd l0 (ji21)), t121, t122, wrap64 (rd l0 (ji24))⟩ : S40) [.int .i64 (wrap64 (rd l0 (ji21))), .int .i64 t121, .int .i64 t122, .int .i64 (wrap64 (rd l0 (ji24)))] (fun _ => True) (fun _ => False) rfl rfl ?aP (fun _ hk => hk.elim) ?aF ?aO ?aB ?aS ?aL ?_
         (case aP => exact k40_mkM _ _ _ (⟨wrap64 (rd l0 (ji21)), t121, t122, wrap64 (rd l0 (ji24))⟩ : S40))
         (case aB => exact (ZBB HB.out))
         (case aF => exact (fun _ _ => trivial))
         (case aO => exact (ZRK HO_119000.out))
         (case aS => exact (ZV (ZBB HB.out)))
         (case aL => have := LMc29.out; omega)
         intro v124 w31 ho hb hg hat
         rw [← Ny123.out] at ho
         have n0_ := ZM (blk_grown (g := gb113) (o := .cells #[.slice none 0 0, .slice none 0 0] 27 (0, 0)) (ZBK BK113.out) hg (Kd.R_ne HO_119000.out BK113.out (by decide)))
         have n1_ := ZM (blk_grown (g := gb118) (o := .cells #[u119000, .slice none 0 0] 27 (0, 0)) (ZBK BK118.out) hg (Kd.R_ne HO_119000.out BK118.out (by decide)))
         have n2_ := ZM (hb)
         have n3_ := ZM (ho)
         clear BK113
         clear BK118
         clear HB
         clear HO_119000
         have BK113 := n0_
         have BK118 := n1_
         have HB := n2_
         have HO125 := n3_
         clear n0_ n1_ n2_ n3_
         clear ho hb hg hat
         obtain ⟨Ao32, co32, eo32⟩ := Kd.R_slice HO125.out
         (first | subst eo32 | (injection eo32 with f1_ f2_ f3_; have f4_ := f1_.symm; have f5_ := f3_.symm; clear f1_ f2_ f3_; subst f4_; subst f5_))
         refine hK.out _ _ ⟨(ZG BK118.out 0).trans rfl, (ZG BK118.out 1).trans rfl, ((HB.out.cell (ZC w _ hw119_0)).trans hw119_0), ((HB.out.cell (ZC w _ hw120_0)).trans hw120_0)⟩ (fun hHeld => ?_)
         clear hK K
         refine norm_ (a' := ?_) ?_ ?_
         rotate_left
         ·show Act.put _ (some 87) _ = _
          simp only [Act.put, ZI, ZJ, ZK, i64_w, i32_w]
          rfl
         refine ZPU (ZB 26 33554431) HT_.out 24 88 ?_
         refine last_ (i := 25) (N := none) (ZB 26 67108863) rfl rfl (one_of HT_.out (by kernel_rfl)) (by decide) (fun K hK => ?_)
         have hs33 : w31.cell? ⟨gb118, 0, none⟩ = some (u119000) := (ZG BK118.out 0).trans rfl
         have hfs33 := ZF BK118.out 0
         have hns33_0 := NB113_118.out
         have hms33_0 := NB118_113.out
         refine skip_ (w1 := ?_) (by rfl) rfl ?_ ?_
         rotate_left
         ·go_simp
          rfl
         refine hK.out _ _ ?_
         clear hK K
         refine done_ (done_of HT_.out (by kernel_rfl)) ?_
         try go_wp2
         go_roundg k2
         case measure => have := HJ1.out; have := HK2.out; omega
         case rel => exact ⟨(wrap64 (x7_2 + 1)), (y123), (.slice Ao32 y123.length co32), ZE, H', ⟨by have := HJ1.out; have := HK2.out; omega⟩, ⟨by (with_reducible repeat (first | apply ZY | apply ZX | apply ZZ)); exact Kd.R_mono (Kd.R_far (p := ⟨gb118, 0, none⟩) (Kd.R_types HO125.out BK118.out (by decide)) (fun _ hk => hk.2) (.slice Ao32 y123.length co32)) (fun _ hk => trivial)⟩, ⟨ZBF BK113.out NB113_118.out⟩, ⟨by (with_reducible repeat (first | refine ZR ?_ _ | refine ZS ?_ | refine ZT ?_ _)); refine blk_put (cs := #[u119000, .slice none 0 0]) ?_ 0 _ rfl; (with_reducible repeat (first | refine ZR ?_ _ | refine ZS ?_ | refine ZT ?_ _)); exact BK118.out⟩, ⟨ZBB HB.out⟩⟩
        ·rw [if_neg c20] at H
         have c20b0 : decide (x7_2 < (wrap64 (rd l0 2))) = false := decide_eq_false c20
         clear c20
         have H' := ZM H
         clear H
         go_wp2
         go_loopg [9] k2 (fun kq v9 w' => ∃ (x9_3 : Int) (x119001_3 : List (S42)) (u119001 : Value), v9 = .int .i64 x9_3 ∧ Aside0 (meanderref10_Take.l1 kq l0 (wrap64 (rd l0 2)) (wrap64 (rd l0 (ji13))) x9_3 x119000_2 x119001_3 = some (r1, r2, r3)) ∧ Aside0 (kq ≤ k2) ∧ Aside0 (Kd.R k40 40 w' w.heap.size (fun _ => True) u119000 x119000_2) ∧ Aside0 (Kd.R k42 42 w' w.heap.size (fun _ => True) u119001 x119001_3) ∧ Aside0 (w'.heap[gb113]? = some (.cells #[(.slice none 0 0), (.slice none 0 0)] 27 (0, 0))) ∧ Aside0 (w'.heap[gb118]? = some (.cells #[u119000, u119001] 27 (0, 0))) ∧ Aside0 (Below w.heap.size w w'))
         case atStart => exact ⟨(0), (([] : List (S42))), (.slice none 0 0), ZE, H', ⟨Nat.le_refl _⟩, ⟨ZRK HO_119000.out⟩, ⟨by first | exact Kd.R_nil _ _ _ _ _ | exact Kd.N_nil _ _ _ _ _ | exact Kd.V_nil _ _ _ _ _ | exact Kd.Q_nil _ _ _ _ _ | exact Kd.S_nil _ _ _ _ _⟩, ⟨ZBK BK113.out⟩, ⟨ZBK BK118.out⟩, ⟨ZBB HB.out⟩⟩
         case round =>
          clear H'
          try clear c4
          try clear c4b0
          try clear c4b1
          try clear c5
          try clear c5b0
          try clear c5b1
          try clear c6
          try clear c6b0
          try clear c6b1
          try clear c7
          try clear c7b0
          try clear c7b1
          try clear c8
          try clear c10
          try clear c10b0
          try clear c10b1
          try clear c11
          try clear c11b0
          try clear c14
          try clear c14b0
          try clear c15
          try clear c15b0
          try clear c16
          try clear c16b0
          try clear c16b1
          try clear c20
          try clear c20b0
          try clear c22
          try clear c22b0
          try clear c23
          try clear c23b0
          try clear c25
          try clear c25b0
          try clear c26
          try clear c26b0
          try clear c29
          try clear hcz12_0
          try clear hcz12_1
          try clear hcz19_0
          try clear hcz19_1
          try clear hcz9_0
          try clear hcz9_1
          try clear hfz12_0
          try clear hfz12_1
          try clear hfz19_0
          try clear hfz19_1
          try clear hfz9_0
          try clear hfz9_1
          try clear hx114_0
          try clear hx115_0
          try clear hx116_0
          try clear hx117_0
          try clear hx119_0
          try clear hx120_0
          try clear p114
          try clear p115
          try clear p116
          try clear p117
          try clear p119
          try clear p120
          try clear q114
          try clear q115
          try clear q116
          try clear q117
          try clear q119
          try clear q120
          obtain ⟨x9_3, x119001_3, u119001, rfl, HA, HK3, HO_119000, HO_119001, BK113, BK118, HB⟩ := hrel
          cases gk with
          | zero => exact absurd HA.out (by simp [meanderref10_Take.l1])
          | succ k3 =>
           have H := HA.out
           clear HA
           simp only [meanderref10_Take.l1] at H
           by_cases c34 : x9_3 < (wrap64 (rd l0 (ji13)))
           ·rw [if_pos c34] at H
            have c34b0 : decide (x9_3 < (wrap64 (rd l0 (ji13)))) = true := decide_eq_true c34
            clear c34
            obtain ⟨ji35, hji35⟩ : ∃ j_ : Int, (wrap64 ((wrap64 (4 + (wrap64 (6 * (wrap64 (rd l0 2)))))) + (wrap64 (3 * x9_3)))) = j_ := ⟨_, rfl⟩
            replace H : (if 0 ≤ (ji35) then (if (ji35) < (l0.length : Int) then (if 0 ≤ (wrap64 ((ji35) + 1)) then (if (wrap64 ((ji35) + 1)) < (l0.length : Int) then (if 0 ≤ (wrap64 ((ji35) + 2)) then (if (wrap64 ((ji35) + 2)) < (l0.length : Int) then (if x119001_3.length < 5864062014805 then (meanderref10_Take.l1 k3 l0 (wrap64 (rd l0 2)) (wrap64 (rd l0 (ji13))) (wrap64 (x9_3 + 1)) x119000_2 (x119001_3 ++ [(⟨wrap64 (rd l0 (ji35)), wrap64 (rd l0 (wrap64 ((ji35) + 1))), wrap64 (rd l0 (wrap64 ((ji35) + 2)))⟩ : S42)])) else (none)) else (none)) else (none)) else (none)) else (none)) else (none)) else (none)) = some (r1, r2, r3) := by first | (rw [hji35] at H; exact H) | (simp only [hji35] at H ⊢; exact H)
            have hji35w : (IntKind.i64.wrap ((wrap64 (4 + (wrap64 (6 * (wrap64 (rd l0 2)))))) + (wrap64 (3 * x9_3)))) = ji35 := (i64_w _).trans hji35
            by_cases c36 : 0 ≤ (ji35)
            case neg =>
             rw [if_neg c36] at H
             exact absurd H (by simp)
            rw [if_pos c36] at H
            have c36b0 : decide (0 ≤ (ji35)) = true := decide_eq_true c36
            clear c36
            by_cases c37 : (ji35) < (l0.length : Int)
            case neg =>
             rw [if_neg c37] at H
             exact absurd H (by simp)
            rw [if_pos c37] at H
            have c37b0 : decide ((ji35) < (l0.length : Int)) = true := decide_eq_true c37
            clear c37
            obtain ⟨ji38, hji38⟩ : ∃ j_ : Int, (wrap64 ((ji35) + 1)) = j_ := ⟨_, rfl⟩
            replace H : (if 0 ≤ (ji38) then (if (ji38) < (l0.length : Int) then (if 0 ≤ (wrap64 ((ji35) + 2)) then (if (wrap64 ((ji35) + 2)) < (l0.length : Int) then (if x119001_3.length < 5864062014805 then (meanderref10_Take.l1 k3 l0 (wrap64 (rd l0 2)) (wrap64 (rd l0 (ji13))) (wrap64 (x9_3 + 1)) x119000_2 (x119001_3 ++ [(⟨wrap64 (rd l0 (ji35)), wrap64 (rd l0 (ji38)), wrap64 (rd l0 (wrap64 ((ji35) + 2)))⟩ : S42)])) else (none)) else (none)) else (none)) else (none)) else (none)) = some (r1, r2, r3) := by first | (rw [hji38] at H; exact H) | (simp only [hji38] at H ⊢; exact H)
            have hji38w : (IntKind.i64.wrap ((ji35) + 1)) = ji38 := (i64_w _).trans hji38
            by_cases c39 : 0 ≤ (ji38)
            case neg =>
             rw [if_neg c39] at H
             exact absurd H (by simp)
            rw [if_pos c39] at H
            have c39b0 : decide (0 ≤ (ji38)) = true := decide_eq_true c39
            clear c39
            by_cases c40 : (ji38) < (l0.length : Int)
            case neg =>
             rw [if_neg c40] at H
             exact absurd H (by simp)
            rw [if_pos c40] at H
            have c40b0 : decide ((ji38) < (l0.length : Int)) = true := decide_eq_true c40
            clear c40
            obtain ⟨ji41, hji41⟩ : ∃ j_ : Int, (wrap64 ((ji35) + 2)) = j_ := ⟨_, rfl⟩
            replace H : (if 0 ≤ (ji41) then (if (ji41) < (l0.length : Int) then (if x119001_3.length < 5864062014805 then (meanderref10_Take.l1 k3 l0 (wrap64 (rd l0 2)) (wrap64 (rd l0 (ji13))) (wrap64 (x9_3 + 1)) x119000_2 (x119001_3 ++ [(⟨wrap64 (rd l0 (ji35)), wrap64 (rd l0 (ji38)), wrap64 (rd l0 (ji41))⟩ : S42)])) else (none)) else (none)) else (none)) = some (r1, r2, r3) := by first | (rw [hji41] at H; exact H) | (simp only [hji41] at H ⊢; exact H)
            have hji41w : (IntKind.i64.wrap ((ji35) + 2)) = ji41 := (i64_w _).trans hji41
            by_cases c42 : 0 ≤ (ji41)
            case neg =>
             rw [if_neg c42] at H
             exact absurd H (by simp)
            rw [if_pos c42] at H
            have c42b0 : decide (0 ≤ (ji41)) = true := decide_eq_true c42
            clear c42
            by_cases c43 : (ji41) < (l0.length : Int)
            case neg =>
             rw [if_neg c43] at H
             exact absurd H (by simp)
            rw [if_pos c43] at H
            have c43b0 : decide ((ji41) < (l0.length : Int)) = true := decide_eq_true c43
            clear c43
            by_cases c44 : x119001_3.length < 5864062014805
            case neg =>
             rw [if_neg c44] at H
             exact absurd H (by simp)
            rw [if_pos c44] at H
            have LMc44 := ZM c44
            clear c44
            obtain ⟨y129, hy129⟩ : ∃ y_ : List (S42), y_ = (x119001_3 ++ [(⟨wrap64 (rd l0 (ji35)), wrap64 (rd l0 (ji38)), wrap64 (rd l0 (ji41))⟩ : S42)]) := ⟨_, rfl⟩
            replace H : (meanderref10_Take.l1 k3 l0 (wrap64 (rd l0 2)) (wrap64 (rd l0 (ji13))) (wrap64 (x9_3 + 1)) x119000_2 y129) = some (r1, r2, r3) := by first | (rw [hy129]; with_reducible exact H) | (have H2_ := (Option.bind_some _ _).symm.trans H; rw [hy129]; with_reducible exact H2_) | (have H2_ := (Option.bind_some _ _).symm.trans H; with_reducible exact H2_) | with_reducible exact H | (rw [hy129]; exact H) | exact H
            have Ny129 := ZM hy129
            clear hy129
            have H' := ZM H
            clear H
            try go_wp2
            have n0_ := ZM (ZZ HO_119000.out)
            have n1_ := ZM (ZZ HO_119001.out)
            have n2_ := ZM (ZS BK113.out)
            have n3_ := ZM (ZS BK118.out)
            have n4_ := ZM (ZP HB.out)
            clear HO_119000
            clear HO_119001
            clear BK113
            clear BK118
            clear HB
            have HO_119000 := n0_
            have HO_119001 := n1_
            have BK113 := n2_
            have BK118 := n3_
            have HB := n4_
            clear n0_ n1_ n2_ n3_ n4_
            have p126 : 0 ≤ ((ji35) : Int) := ZOD
            have q126 : (ji35) < (l0.length : Int) := ZOD
            obtain ⟨ad126, e126, hx126_0⟩ := Kd.at_int HR0.out (ji35) p126 q126
            have hw126_0 := hx126_0
            obtain rfl : ad116 = ad126 := (by injection e126)
            replace hx126_0 := ZHX HB.out hx126_0
            replace p126 := eq_true p126
            replace q126 := eq_true q126
            have p127 : 0 ≤ ((ji38) : Int) := ZOD
            have q127 : (ji38) < (l0.length : Int) := ZOD
            obtain ⟨ad127, e127, hx127_0⟩ := Kd.at_int HR0.out (ji38) p127 q127
            have hw127_0 := hx127_0
            obtain rfl : ad116 = ad127 := (by injection e127)
            replace hx127_0 := ZHX HB.out hx127_0
            replace p127 := eq_true p127
            replace q127 := eq_true q127
            have p128 : 0 ≤ ((ji41) : Int) := ZOD
            have q128 : (ji41) < (l0.length : Int) := ZOD
            obtain ⟨ad128, e128, hx128_0⟩ := Kd.at_int HR0.out (ji41) p128 q128
            have hw128_0 := hx128_0
            obtain rfl : ad116 = ad128 := (by injection e128)
            replace hx128_0 := ZHX HB.out hx128_0
            replace p128 := eq_true p128
            replace q128 := eq_true q128
            refine start_ (n := 24) (S := fun w' => w'.cell? ⟨gb118, 0, none⟩ = some (u119000) ∧ w'.cell? ⟨gb118, 1, none⟩ = some (u119001) ∧ w'.cell? (ad116.add ((ji35)).toNat) = some (.int .u8 (rd l0 (ji35))) ∧ w'.cell? (ad116.add ((ji38)).toNat) = some (.int .u8 (rd l0 (ji38))) ∧ w'.cell? (ad116.add ((ji41)).toNat) = some (.int .u8 (rd l0 (ji41)))) (ds := [23]) #[false, false, false, false, false, false, false, false, false, false, false, false, false, false, false, false, false, false, false, false, false, false, false, false] (by kernel_rfl) rfl rfl ⟨(ZG BK118.out 0).trans rfl, (ZG BK118.out 1).trans rfl, ((HB.out.cell (ZC w _ hw126_0)).trans hw126_0), ((HB.out.cell (ZC w _ hw127_0)).trans hw127_0), ((HB.out.cell (ZC w _ hw128_0)).trans hw128_0)⟩ (fun hHeld => ?_); refine with_tabW meanderref10_Take.tab19 meanderref10_Take.bits19 (fun HT_ HW_ => ?_)
            generalize wr.drew = w45 at HO_119000 HO_119001 BK113 BK118 HB hx126_0 hx127_0 hx128_0 hHeld ⊢
            refine ZPU (ZB 24 1) HT_.out 0 100 ?_
            refine ZPU (ZB 24 5) HT_.out 2 102 ?_
            refine ZPU (ZB 24 13) HT_.out 3 103 ?_
            refine ZPU (ZB 24 29) HT_.out 4 104 ?_
            refine ZPU (ZB 24 157) HT_.out 7 107 ?_
            refine ZPU (ZB 24 413) HT_.out 8 108 ?_
            refine ZPU (ZB 24 925) HT_.out 9 109 ?_
            refine ZPU (ZB 24 1949) HT_.out 10 110 ?_
            refine ZPU (ZB 24 10141) HT_.out 13 113 ?_
            refine ZPU (ZB 24 26525) HT_.out 14 114 ?_
            refine ZPU (ZB 24 59293) HT_.out 15 115 ?_
            refine ZPU (ZB 24 124829) HT_.out 16 116 ?_
            refine ZTU (ZB 24 124831) HT_.out HW_.out hHeld 1 101 ?_
            refine ZTU (ZB 24 124863) HT_.out HW_.out hHeld 5 105 ?_
            refine ZPU (ZB 24 124927) HT_.out 6 106 ?_
            refine ZTU (ZB 24 126975) HT_.out HW_.out hHeld 11 111 ?_
            refine ZPU (ZB 24 131071) HT_.out 12 112 ?_
            refine ZTU (ZB 24 262143) HT_.out HW_.out hHeld 17 117 ?_
            refine ZPU (ZB 24 524287) HT_.out 18 118 ?_
            refine ZPU (ZB 24 1048575) HT_.out 19 119 ?_
            refine one_ (i := 20) (N := some 120) (ZB 24 2097151) rfl rfl (one_of HT_.out (by kernel_rfl)) (by decide) (fun K hK => ?_)
            refine value_ (w1 := ?_) (v := ?_) (by rfl) rfl ?_ ?_
            rotate_left 2
            ·go_simp
             constructor
             ·rfl
             ·rfl
            refine hK.out _ _ ⟨(ZG (ZT BK118.out _) 0).trans rfl, (ZG (ZT BK118.out _) 1).trans rfl, (World.cell?_alloc_lt _ _ _ (ZC _ _ (((HB.out.cell (ZC w _ hw126_0)).trans hw126_0)))).trans (((HB.out.cell (ZC w _ hw126_0)).trans hw126_0)), (World.cell?_alloc_lt _ _ _ (ZC _ _ (((HB.out.cell (ZC w _ hw127_0)).trans hw127_0)))).trans (((HB.out.cell (ZC w _ hw127_0)).trans hw127_0)), (World.cell?_alloc_lt _ _ _ (ZC _ _ (((HB.out.cell (ZC w _ hw128_0)).trans hw128_0)))).trans (((HB.out.cell (ZC w _ hw128_0)).trans hw128_0))⟩ (fun hHeld => ?_)
            clear hK K
            refine norm_ (a' := ?_) ?_ ?_
            rotate_left
            ·show Act.put _ (some 120) _ = _
             simp only [Act.put, ZI, ZJ, ZK, i64_w, i32_w]
             rfl
            refine one_ (i := 21) (N := some 121) (ZB 24 4194303) rfl rfl (one_of HT_.out (by kernel_rfl)) (by decide) (fun K hK => ?_)
            refine Kd.R_append_step k42 (w0 := w) w.heap.size (by rfl) (.tmp 101) (.tmp 120) 25 42 (.agg #[(.int .i64 0), (.int .i64 0), (.int .i64 0)]) 24 rfl Tryd.underlying25 info42 rfl (by decide) (by omega) u119001 x119001_3 (⟨wrap64 (rd l0 (ji35)), wrap64 (rd l0 (ji38)), wrap64 (rd l0 (ji41))⟩ : S42) [.int .i64 (wrap64 (rd l0 (ji35))), .int .i64 (wrap64 (rd l0 (ji38))), .int .i64 (wrap64 (rd l0 (ji41)))] (fun _ => True) (fun _ => False) rfl rfl ?aP (fun _ hk => hk.elim) ?aF ?aO ?aB ?aS ?aL ?_
            (case aP => exact k42_mkM _ _ _ (⟨wrap64 (rd l0 (ji35)), wrap64 (rd l0 (ji38)), wrap64 (rd l0 (ji41))⟩ : S42))
            (case aB => exact (ZBB HB.out))
            (case aF => exact (fun _ _ => trivial))
            (case aO => exact (ZRK HO_119001.out))
            (case aS => exact (ZV (ZBB HB.out)))
            (case aL => have := LMc44.out; omega)
            intro v130 w46 ho hb hg hat
            rw [← Ny129.out] at ho
            have n0_ := ZM (Kd.R_over' (ZRK HO_119000.out) (Kd.R_typed (ZRK HO_119001.out)) (by decide) hg)
            have n1_ := ZM (blk_grown (g := gb113) (o := .cells #[.slice none 0 0, .slice none 0 0] 27 (0, 0)) (ZBK BK113.out) hg (Kd.R_ne HO_119001.out BK113.out (by decide)))
            have n2_ := ZM (blk_grown (g := gb118) (o := .cells #[u119000, u119001] 27 (0, 0)) (ZBK BK118.out) hg (Kd.R_ne HO_119001.out BK118.out (by decide)))
            have n3_ := ZM (hb)
            have n4_ := ZM (ho)
            clear HO_119000
            clear BK113
            clear BK118
            clear HB
            clear HO_119001
            have HO_119000 := n0_
            have BK113 := n1_
            have BK118 := n2_
            have HB := n3_
            have HO131 := n4_
            clear n0_ n1_ n2_ n3_ n4_
            clear ho hb hg hat
            obtain ⟨Ao47, co47, eo47⟩ := Kd.R_slice HO131.out
            (first | subst eo47 | (injection eo47 with f1_ f2_ f3_; have f4_ := f1_.symm; have f5_ := f3_.symm; clear f1_ f2_ f3_; subst f4_; subst f5_))
            refine hK.out _ _ ⟨(ZG BK118.out 0).trans rfl, (ZG BK118.out 1).trans rfl, ((HB.out.cell (ZC w _ hw126_0)).trans hw126_0), ((HB.out.cell (ZC w _ hw127_0)).trans hw127_0), ((HB.out.cell (ZC w _ hw128_0)).trans hw128_0)⟩ (fun hHeld => ?_)
            clear hK K
            refine norm_ (a' := ?_) ?_ ?_
            rotate_left
            ·show Act.put _ (some 121) _ = _
             simp only [Act.put, ZI, ZJ, ZK, i64_w, i32_w]
             rfl
            refine ZPU (ZB 24 8388607) HT_.out 22 122 ?_
            refine last_ (i := 23) (N := none) (ZB 24 16777215) rfl rfl (one_of HT_.out (by kernel_rfl)) (by decide) (fun K hK => ?_)
            have hs48 : w46.cell? ⟨gb118, 1, none⟩ = some (u119001) := (ZG BK118.out 1).trans rfl
            have hfs48 := ZF BK118.out 1
            have hns48_0 := NB113_118.out
            have hms48_0 := NB118_113.out
            refine skip_ (w1 := ?_) (by rfl) rfl ?_ ?_
            rotate_left
            ·go_simp
             rfl
            refine hK.out _ _ ?_
            clear hK K
            refine done_ (done_of HT_.out (by kernel_rfl)) ?_
            try go_wp2
            go_roundg k3
            case measure => have := HJ1.out; have := HK2.out; have := HK3.out; omega
            case rel => exact ⟨(wrap64 (x9_3 + 1)), (y129), (.slice Ao47 y129.length co47), ZE, H', ⟨by have := HJ1.out; have := HK2.out; have := HK3.out; omega⟩, ⟨by (with_reducible repeat (first | apply ZY | apply ZX | apply ZZ)); exact Kd.R_mono (Kd.R_far (p := ⟨gb118, 1, none⟩) (Kd.R_types HO_119000.out BK118.out (by decide)) (fun _ hk => hk.2) (.slice Ao47 y129.length co47)) (fun _ hk => trivial)⟩, ⟨by (with_reducible repeat (first | apply ZY | apply ZX | apply ZZ)); exact Kd.R_mono (Kd.R_far (p := ⟨gb118, 1, none⟩) (Kd.R_types HO131.out BK118.out (by decide)) (fun _ hk => hk.2) (.slice Ao47 y129.length co47)) (fun _ hk => trivial)⟩, ⟨ZBF BK113.out NB113_118.out⟩, ⟨by (with_reducible repeat (first | refine ZR ?_ _ | refine ZS ?_ | refine ZT ?_ _)); refine blk_put (cs := #[u119000, u119001]) ?_ 1 _ rfl; (with_reducible repeat (first | refine ZR ?_ _ | refine ZS ?_ | refine ZT ?_ _)); exact BK118.out⟩, ⟨ZBB HB.out⟩⟩
           ·rw [if_neg c34] at H
            have c34b0 : decide (x9_3 < (wrap64 (rd l0 (ji13)))) = false := decide_eq_false c34
            clear c34
            simp only [Option.some.injEq, Prod.mk.injEq] at H
            obtain ⟨rfl, rfl, rfl⟩ := H
            have hnb49 := NB118_113.out
            have hnc49 := NB113_118.out
            obtain ⟨hcz50_0, hcz50_1, hfz50_0, hfz50_1⟩ := ZC2 BK118.out
            obtain ⟨Ao51, co51, eo51⟩ := Kd.R_slice HO_119000.out
            subst eo51
            obtain ⟨hcz52_0, hcz52_1, hfz52_0, hfz52_1⟩ := ZC2 BK113.out
            obtain ⟨Ao53, co53, eo53⟩ := Kd.R_slice HO_119001.out
            subst eo53
            go_wp2
            refine bodyPost_ret (results_ct rfl _ _ gb113 27 #[.slice Ao51 x119000_2.length co51, .slice Ao53 x119001_3.length co53] (0, 0) _ rfl (by (with_reducible repeat (first | refine ZR ?_ _ | refine ZS ?_ | refine ZT ?_ _)); refine blk_put (cs := #[.slice Ao51 x119000_2.length co51, .slice none 0 0]) ?_ 1 _ rfl; (with_reducible repeat (first | refine ZR ?_ _ | refine ZS ?_ | refine ZT ?_ _)); refine blk_put (cs := #[.slice none 0 0, .slice none 0 0]) ?_ 0 _ rfl; (with_reducible repeat (first | refine ZR ?_ _ | refine ZS ?_ | refine ZT ?_ _)); exact BK113.out) Tryd.underlying27 rfl (by kernel_rfl)) rfl ?_
            exact ⟨_, _, by first | rfl | (simp [errW_none, errW_some] <;> rfl) | (simp only [← hji13]; first | rfl | (simp [errW_none, errW_some] <;> rfl)) | (simp [*, errW_none, errW_some] <;> rfl), by (with_reducible repeat (first | apply ZY | apply ZX | apply ZZ)); exact Kd.R_mono (Kd.R_far (p := ⟨gb113, 1, none⟩) (Kd.R_far (p := ⟨gb113, 0, none⟩) (Kd.R_types HO_119000.out BK113.out (by decide)) (fun _ hk => hk.2) (.slice Ao51 x119000_2.length co51)) (fun _ hk => hk.2) (.slice Ao53 x119001_3.length co53)) (fun _ hk => trivial), by (with_reducible repeat (first | apply ZY | apply ZX | apply ZZ)); exact Kd.R_mono (Kd.R_far (p := ⟨gb113, 1, none⟩) (Kd.R_far (p := ⟨gb113, 0, none⟩) (Kd.R_types HO_119001.out BK113.out (by decide)) (fun _ hk => hk.2) (.slice Ao51 x119000_2.length co51)) (fun _ hk => hk.2) (.slice Ao53 x119001_3.length co53)) (fun _ hk => trivial), ZBB HB.out⟩
     ·rw [if_neg c16] at H
      have c16b0 : ((l0.length : Int) == (wrap64 ((wrap64 (4 + (wrap64 (6 * (wrap64 (rd l0 2)))))) + (wrap64 (3 * (wrap64 (rd l0 (ji13)))))))) = false := beq_eq_false_iff_ne.mpr c16
      have c16b1 : ((l0.length : Int) != (wrap64 ((wrap64 (4 + (wrap64 (6 * (wrap64 (rd l0 2)))))) + (wrap64 (3 * (wrap64 (rd l0 (ji13)))))))) = true := bne_iff_ne.mpr c16
      simp only [Option.some.injEq, Prod.mk.injEq] at H
      obtain ⟨rfl, rfl, rfl⟩ := H
      have p116 : 0 ≤ (2 : Int) := (by omega)
      have q116 : 2 < (l0.length : Int) := ZOD
      obtain ⟨ad116, e116, hx116_0⟩ := Kd.at_int HR0.out 2 p116 q116
      cases e116
      (try simp only [show (2 : Int).toNat = 2 from rfl, Nat.reduceMul, Nat.reduceEqDiff, Go.Addr.add, ↓reduceIte] at hx116_0)
      have qi116 : (2 < l0.length) = True := eq_true (by omega)
      (try rw [show ((2 : Int)).toNat = 2 from rfl] at hx116_0)
      replace hx116_0 := ZHX HB.out hx116_0
      replace p116 := eq_true p116
      replace q116 := eq_true q116
      have p117 : 0 ≤ ((ji13) : Int) := ZOD
      have q117 : (ji13) < (l0.length : Int) := ZOD
      obtain ⟨ad117, e117, hx117_0⟩ := Kd.at_int HR0.out (ji13) p117 q117
      obtain rfl : ad116 = ad117 := (by injection e117)
      replace hx117_0 := ZHX HB.out hx117_0
      replace p117 := eq_true p117
      replace q117 := eq_true q117
      obtain ⟨hcz54_0, hcz54_1, hfz54_0, hfz54_1⟩ := ZC2 BK113.out
      go_wp2
      refine bodyPost_ret (results_ct rfl _ _ gb113 27 #[.slice none 0 0, .slice none 0 0] (0, 0) _ rfl (by (with_reducible repeat (first | refine ZR ?_ _ | refine ZS ?_ | refine ZT ?_ _)); refine blk_put (cs := #[.slice none 0 0, .slice none 0 0]) ?_ 1 _ rfl; (with_reducible repeat (first | refine ZR ?_ _ | refine ZS ?_ | refine ZT ?_ _)); refine blk_put (cs := #[.slice none 0 0, .slice none 0 0]) ?_ 0 _ rfl; (with_reducible repeat (first | refine ZR ?_ _ | refine ZS ?_ | refine ZT ?_ _)); exact BK113.out) Tryd.underlying27 rfl (by kernel_rfl)) rfl ?_
      exact ⟨_, _, by first | rfl | (simp [errW_none, errW_some] <;> rfl) | (simp only [← hji13]; first | rfl | (simp [errW_none, errW_some] <;> rfl)) | (simp [*, errW_none, errW_some] <;> rfl), by first | exact Kd.R_nil _ _ _ _ _ | exact Kd.N_nil _ _ _ _ _ | exact Kd.V_nil _ _ _ _ _ | exact Kd.Q_nil _ _ _ _ _ | exact Kd.S_nil _ _ _ _ _, by first | exact Kd.R_nil _ _ _ _ _ | exact Kd.N_nil _ _ _ _ _ | exact Kd.V_nil _ _ _ _ _ | exact Kd.Q_nil _ _ _ _ _ | exact Kd.S_nil _ _ _ _ _, ZBB HB.out⟩
end Go.Proofs.YtbjjcolbomaodaaDoor.PTks
