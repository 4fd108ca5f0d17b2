-- Laid by hprint.py of this repo: the kit's printer, and contracts by hand beside it. Not trusted: Lean checks it.
import Derived.Test.YtbjjcolbomaodaaDoorWZ
import Derived.Test.YtbjjcolbomaodaaDoorWY
import Derived.Test.YtbjjcolbomaodaaDoorPTksx0
import Derived.Test.YtbjjcolbomaodaaDoorPTksx14
namespace Go.Proofs.YtbjjcolbomaodaaDoor.PTks
open Go.RowKit Go.Proofs.YtbjjcolbomaodaaDoorW.PrintWords Go.Proofs.YtbjjcolbomaodaaDoorW.PrintLast Go.Proofs.YtbjjcolbomaodaaDoorW.PrintMore
attribute [local go_sem] max2_int min2_int max_two min_two max_three min_three max_four min_four   -- for this text's walks alone
set_option linter.unusedVariables false
set_option linter.unusedSimpArgs false

/-! ### meanderref09_Node: function 27 -/
mutual
def meanderref09_Node.j0 : Nat → Bool → Int → Int → Int → Int → Option (Bool)
 | 0, _, _, _, _, _ => none
 | k + 1, x11, x207000, x207001, x207002, x207003 => if x11 = true then (some false) else (if x207001 = 0 then (meanderref09_Node.j1 k (x207002 == 0) x207000 x207001 x207002 x207003) else (meanderref09_Node.j1 k false x207000 x207001 x207002 x207003))
def meanderref09_Node.j1 : Nat → Bool → Int → Int → Int → Int → Option (Bool)
 | 0, _, _, _, _, _ => none
 | k + 1, x3, x207000, x207001, x207002, x207003 => if x207000 = 1 then (meanderref09_Node.j2 k x3 x207000 (x207000 == 1) x207000 x207001 x207002 x207003) else (meanderref09_Node.j2 k x3 x207000 (x207000 == 11) x207000 x207001 x207002 x207003)
def meanderref09_Node.j2 : Nat → Bool → Int → Bool → Int → Int → Int → Int → Option (Bool)
 | 0, _, _, _, _, _, _, _ => none
 | k + 1, x3, x21, x22, x207000, x207001, x207002, x207003 => if x22 = true then (if x3 = true then (some (x207003 == 0)) else (some false)) else (if x21 = 2 then ((meanderref06_MayMap.f x207001 x207002).bind fun t207 => (some t207)) else (if x21 = 3 then ((meanderref06_MayFilter.f x207001 x207002).bind fun t208 => (some t208)) else (if x21 = 4 then (meanderref09_Node.j3 k x3 x21 (x21 == 4) x207000 x207001 x207002 x207003) else (meanderref09_Node.j3 k x3 x21 (x21 == 5) x207000 x207001 x207002 x207003))))
def meanderref09_Node.j3 : Nat → Bool → Int → Bool → Int → Int → Int → Int → Option (Bool)
 | 0, _, _, _, _, _, _, _ => none
 | k + 1, x3, x21, x45, x207000, x207001, x207002, x207003 => if x45 = true then (some x3) else (if x21 = 6 then ((meanderref06_MayReduce.f x207001).bind fun t209 => (if t209 = true then (some (x207002 == 0)) else (some false))) else (if x21 = 7 then ((meanderref07_May.f x207001 x207002).bind fun t210 => (if t210 = true then (some (x207003 == 0)) else (some false))) else (if x21 = 8 then (if x3 = true then (some (decide (x207003 > 0))) else (some false)) else (if x21 = 9 then (if x3 = true then (some (decide (x207003 < 3))) else (some false)) else (if x21 = 10 then (if x207003 > 0 then (if x207001 ≥ 1 then (if x207001 ≤ 6 then (some (x207002 == 0)) else (some false)) else (some false)) else (some false)) else (some false))))))
end
def meanderref09_Node.f (k : Nat) (a0_0 : Int) (a0_1 : Int) (a0_2 : Int) (a0_3 : Int) : Option (Bool) := if a0_3 < 0 then (meanderref09_Node.j0 k true a0_0 a0_1 a0_2 a0_3) else (meanderref09_Node.j0 k (decide (a0_3 > 3)) a0_0 a0_1 a0_2 a0_3)
theorem meanderref09_Node.mono_l : ∀ k, (∀ y0 y1 y2 y3 y4, LeO (meanderref09_Node.j0 k y0 y1 y2 y3 y4) (meanderref09_Node.j0 (k + 1) y0 y1 y2 y3 y4)) ∧ (∀ y0 y1 y2 y3 y4, LeO (meanderref09_Node.j1 k y0 y1 y2 y3 y4) (meanderref09_Node.j1 (k + 1) y0 y1 y2 y3 y4)) ∧ (∀ y0 y1 y2 y3 y4 y5 y6, LeO (meanderref09_Node.j2 k y0 y1 y2 y3 y4 y5 y6) (meanderref09_Node.j2 (k + 1) y0 y1 y2 y3 y4 y5 y6)) ∧ (∀ y0 y1 y2 y3 y4 y5 y6, LeO (meanderref09_Node.j3 k y0 y1 y2 y3 y4 y5 y6) (meanderref09_Node.j3 (k + 1) y0 y1 y2 y3 y4 y5 y6))
 | 0 => ⟨fun _ _ _ _ _ r h => by simp [meanderref09_Node.j0] at h, fun _ _ _ _ _ r h => by simp [meanderref09_Node.j1] at h, fun _ _ _ _ _ _ _ r h => by simp [meanderref09_Node.j2] at h, fun _ _ _ _ _ _ _ r h => by simp [meanderref09_Node.j3] at h⟩
 | k + 1 => by
  obtain ⟨ih0, ih1, ih2, ih3⟩ := meanderref09_Node.mono_l k
  refine ⟨?_, ?_, ?_, ?_⟩
  ·intro y0 y1 y2 y3 y4
   unfold meanderref09_Node.j0
   repeat' first
   | (with_reducible exact ih0 _ _ _ _ _)
   | (with_reducible exact ih1 _ _ _ _ _)
   | (with_reducible exact ih2 _ _ _ _ _ _ _)
   | (with_reducible exact ih3 _ _ _ _ _ _ _)
   | (with_reducible exact LeO.refl _)
   | (with_reducible exact LeO.none _)
   | (with_reducible refine LeO.ite ?_ ?_)
   | (with_reducible refine LeO.bind ?_ (fun _ => ?_))
   | exact ih0 _ _ _ _ _
   | exact ih1 _ _ _ _ _
   | exact ih2 _ _ _ _ _ _ _
   | exact ih3 _ _ _ _ _ _ _
   | exact LeO.none _
   | refine LeO.ite ?_ ?_
   | refine LeO.bind ?_ (fun _ => ?_)
  ·intro y0 y1 y2 y3 y4
   unfold meanderref09_Node.j1
   repeat' first
   | (with_reducible exact ih0 _ _ _ _ _)
   | (with_reducible exact ih1 _ _ _ _ _)
   | (with_reducible exact ih2 _ _ _ _ _ _ _)
   | (with_reducible exact ih3 _ _ _ _ _ _ _)
   | (with_reducible exact LeO.refl _)
   | (with_reducible exact LeO.none _)
   | (with_reducible refine LeO.ite ?_ ?_)
   | (with_reducible refine LeO.bind ?_ (fun _ => ?_))
   | exact ih0 _ _ _ _ _
   | exact ih1 _ _ _ _ _
   | exact ih2 _ _ _ _ _ _ _
   | exact ih3 _ _ _ _ _ _ _
   | exact LeO.none _
   | refine LeO.ite ?_ ?_
   | refine LeO.bind ?_ (fun _ => ?_)
  ·intro y0 y1 y2 y3 y4 y5 y6
   unfold meanderref09_Node.j2
   repeat' first
   | (with_reducible exact ih0 _ _ _ _ _)
   | (with_reducible exact ih1 _ _ _ _ _)
   | (with_reducible exact ih2 _ _ _ _ _ _ _)
   | (with_reducible exact ih3 _ _ _ _ _ _ _)
   | (with_reducible exact LeO.refl _)
   | (with_reducible exact LeO.none _)
   | (with_reducible refine LeO.ite ?_ ?_)
   | (with_reducible refine LeO.bind ?_ (fun _ => ?_))
   | exact ih0 _ _ _ _ _
   | exact ih1 _ _ _ _ _
   | exact ih2 _ _ _ _ _ _ _
   | exact ih3 _ _ _ _ _ _ _
   | exact LeO.none _
   | refine LeO.ite ?_ ?_
   | refine LeO.bind ?_ (fun _ => ?_)
  ·intro y0 y1 y2 y3 y4 y5 y6
   unfold meanderref09_Node.j3
   repeat' first
   | (with_reducible exact ih0 _ _ _ _ _)
   | (with_reducible exact ih1 _ _ _ _ _)
   | (with_reducible exact ih2 _ _ _ _ _ _ _)
   | (with_reducible exact ih3 _ _ _ _ _ _ _)
   | (with_reducible exact LeO.refl _)
   | (with_reducible exact LeO.none _)
   | (with_reducible refine LeO.ite ?_ ?_)
   | (with_reducible refine LeO.bind ?_ (fun _ => ?_))
   | exact ih0 _ _ _ _ _
   | exact ih1 _ _ _ _ _
   | exact ih2 _ _ _ _ _ _ _
   | exact ih3 _ _ _ _ _ _ _
   | exact LeO.none _
   | refine LeO.ite ?_ ?_
   | refine LeO.bind ?_ (fun _ => ?_)
theorem meanderref09_Node.mono : ∀ a0 a1 a2 a3 k, LeO (meanderref09_Node.f k a0 a1 a2 a3) (meanderref09_Node.f (k + 1) a0 a1 a2 a3) := by
 intro a0 a1 a2 a3 k
 obtain ⟨ih0, ih1, ih2, ih3⟩ := meanderref09_Node.mono_l k
 unfold meanderref09_Node.f
 repeat' first
   | (with_reducible exact ih0 _ _ _ _ _)
   | (with_reducible exact ih1 _ _ _ _ _)
   | (with_reducible exact ih2 _ _ _ _ _ _ _)
   | (with_reducible exact ih3 _ _ _ _ _ _ _)
   | (with_reducible exact LeO.refl _)
   | (with_reducible exact LeO.none _)
   | (with_reducible refine LeO.ite ?_ ?_)
   | (with_reducible refine LeO.bind ?_ (fun _ => ?_))
   | exact ih0 _ _ _ _ _
   | exact ih1 _ _ _ _ _
   | exact ih2 _ _ _ _ _ _ _
   | exact ih3 _ _ _ _ _ _ _
   | exact LeO.none _
   | refine LeO.ite ?_ ?_
   | refine LeO.bind ?_ (fun _ => ?_)
set_option maxHeartbeats 8000000 in
set_option maxRecDepth 100000 in
theorem meanderref09_Node.calls (k : Nat) (a0_0 : Int) (a0_1 : Int) (a0_2 : Int) (a0_3 : Int) (r : Bool) (w : World) (h : meanderref09_Node.f k a0_0 a0_1 a0_2 a0_3 = some r) :
  Calls Tryd.prog 27 #[.agg #[.int .i64 a0_0, .int .i64 a0_1, .int .i64 a0_2, .int .i64 a0_3]] w fun e w' => e = .returned (.bool r) ∧ Below w.heap.size w w' := by
 have hu40 := Tryd.underlying40
 have HB := ZM (Below.refl w.heap.size w)
 have H : (if a0_3 < 0 then (meanderref09_Node.j0 k true a0_0 a0_1 a0_2 a0_3) else (meanderref09_Node.j0 k (decide (a0_3 > 3)) a0_0 a0_1 a0_2 a0_3)) = some r := h
 clear h
 have HC2 := ZM H
 clear H
 go_enter Tryd.func27, Tryd.ntmps27
 go_upto_region 1 with (first | ((with_reducible refine gate_dst (N := 1) rfl ?_); refine ZBX 1 (cs := #[.int .i64 a0_0, .int .i64 a0_1, .int .i64 a0_2, .int .i64 a0_3]) (t := 40) ?_; intro gb206 hg w3 hbox hb; have n0_ := ZM (ZW (ZBB HB.out) hb); have n1_ := ZM (hbox); have n2_ := ZM (ZGE hg HB.out); have n3_ := ZM (ZGE hg HB.out); clear HB; have HB := n0_; have BK206 := n1_; have GW206 := n2_; have GE206 := n3_; clear n0_ n1_ n2_ n3_; clear hb hbox hg))
 (try simp only [Act.put, ZI, ZJ, ZK])
 go_cut [11] (fun v11 wc => ∃ (kq : Nat) (x11_1 : Bool), v11 = .bool x11_1 ∧ Aside0 (meanderref09_Node.j0 kq x11_1 a0_0 a0_1 a0_2 a0_3 = some r) ∧ Aside0 (kq ≤ k) ∧ Aside0 (wc.heap[gb206]? = some (.cells #[.int .i64 a0_0, .int .i64 a0_1, .int .i64 a0_2, .int .i64 a0_3] 40 (0, 0))) ∧ Aside0 (Below w.heap.size w wc))
 case first =>
  have H := HC2.out
  clear HC2
  by_cases c4 : a0_3 < 0
  ·rw [if_pos c4] at H
   have c4b0 : decide (a0_3 < 0) = true := decide_eq_true c4
   clear c4
   (first | rw [c4b0] | (simp only [i64_w, i32_w]; rw [c4b0]) | skip)
   have H' := ZM H
   clear H
   obtain ⟨hcz5_0, hcz5_1, hcz5_2, hcz5_3, hfz5_0, hfz5_1, hfz5_2, hfz5_3⟩ := ZC4 BK206.out
   go_wp2
   go_meet
   case rel => exact ⟨_, (true), ZE, H', ⟨by first | omega | exact Nat.le_refl _⟩, ⟨ZBK BK206.out⟩, ⟨ZBB HB.out⟩⟩
  ·rw [if_neg c4] at H
   have c4b0 : decide (a0_3 < 0) = false := decide_eq_false c4
   clear c4
   (first | rw [c4b0] | (simp only [i64_w, i32_w]; rw [c4b0]) | skip)
   have H' := ZM H
   clear H
   obtain ⟨hcz6_0, hcz6_1, hcz6_2, hcz6_3, hfz6_0, hfz6_1, hfz6_2, hfz6_3⟩ := ZC4 BK206.out
   go_wp2
   go_meet
   case rel => exact ⟨_, (decide (a0_3 > 3)), ZE, H', ⟨by first | omega | exact Nat.le_refl _⟩, ⟨ZBK BK206.out⟩, ⟨ZBB HB.out⟩⟩
 case rest =>
  clear HC2
  try clear c4
  try clear c4b0
  try clear hcz5_0
  try clear hcz5_1
  try clear hcz5_2
  try clear hcz5_3
  try clear hcz6_0
  try clear hcz6_1
  try clear hcz6_2
  try clear hcz6_3
  try clear hfz5_0
  try clear hfz5_1
  try clear hfz5_2
  try clear hfz5_3
  try clear hfz6_0
  try clear hfz6_1
  try clear hfz6_2
  try clear hfz6_3
  obtain ⟨kq, x11_1, rfl, HA, HJ1, BK206, HB⟩ := hcut
  cases kq with
  | zero => exact absurd HA.out (by simp [meanderref09_Node.j0])
  | succ kj1 =>
   have H := HA.out
   clear HA
   simp only [meanderref09_Node.j0] at H
   by_cases c7 : x11_1 = true
   ·subst c7
    have H1 : (some false) = some r := by rw [if_pos rfl] at H; exact H
    clear H
    have H := H1
    clear H1
    obtain rfl := Option.some.inj H
    go_wp2
    go_ret
    exact ⟨ZEE, ZBB HB.out⟩
   ·replace c7 := Bool.eq_false_iff.mpr c7
    subst c7
    have H1 : (if a0_1 = 0 then (meanderref09_Node.j1 kj1 (a0_2 == 0) a0_0 a0_1 a0_2 a0_3) else (meanderref09_Node.j1 kj1 false a0_0 a0_1 a0_2 a0_3)) = some r := by rw [if_neg (show ¬ (false = true) by decide)] at H; exact H
    clear H
    have H := H1
    clear H1
    have HC8 := ZM H
    clear H
    go_upto_region 3 with (fail)
    go_cut [3] (fun v3 wc => ∃ (kq : Nat) (x3_7 : Bool), v3 = .bool x3_7 ∧ Aside0 (meanderref09_Node.j1 kq x3_7 a0_0 a0_1 a0_2 a0_3 = some r) ∧ Aside0 (kq ≤ kj1) ∧ Aside0 (wc.heap[gb206]? = some (.cells #[.int .i64 a0_0, .int .i64 a0_1, .int .i64 a0_2, .int .i64 a0_3] 40 (0, 0))) ∧ Aside0 (Below w.heap.size w wc))
    case first =>
     have H := HC8.out
     clear HC8
     by_cases c9 : a0_1 = 0
     ·rw [if_pos c9] at H
      have c9b0 : (a0_1 == 0) = true := beq_iff_eq.mpr c9
      have c9b1 : (a0_1 != 0) = false := bne_eq_false_iff_eq.mpr c9
      clear c9
      (first | rw [c9b0] | (simp only [i64_w, i32_w]; rw [c9b0]) | skip)
      have H' := ZM H
      clear H
      obtain ⟨hcz10_0, hcz10_1, hcz10_2, hcz10_3, hfz10_0, hfz10_1, hfz10_2, hfz10_3⟩ := ZC4 BK206.out
      go_wp2
      go_meet
      case rel => exact ⟨_, ((a0_2 == 0)), ZE, H', ⟨by have := HJ1.out; first | omega | exact Nat.le_refl _⟩, ⟨ZBK BK206.out⟩, ⟨ZBB HB.out⟩⟩
     ·rw [if_neg c9] at H
      have c9b0 : (a0_1 == 0) = false := beq_eq_false_iff_ne.mpr c9
      have c9b1 : (a0_1 != 0) = true := bne_iff_ne.mpr c9
      (first | rw [c9b0] | (simp only [i64_w, i32_w]; rw [c9b0]) | skip)
      have H' := ZM H
      clear H
      obtain ⟨hcz11_0, hcz11_1, hcz11_2, hcz11_3, hfz11_0, hfz11_1, hfz11_2, hfz11_3⟩ := ZC4 BK206.out
      go_wp2
      go_meet
      case rel => exact ⟨_, (false), ZE, H', ⟨by have := HJ1.out; first | omega | exact Nat.le_refl _⟩, ⟨ZBK BK206.out⟩, ⟨ZBB HB.out⟩⟩
    case rest =>
     clear HC8
     try clear c4
     try clear c4b0
     try clear c7
     try clear c9
     try clear c9b0
     try clear c9b1
     try clear hcz10_0
     try clear hcz10_1
     try clear hcz10_2
     try clear hcz10_3
     try clear hcz11_0
     try clear hcz11_1
     try clear hcz11_2
     try clear hcz11_3
     try clear hcz5_0
     try clear hcz5_1
     try clear hcz5_2
     try clear hcz5_3
     try clear hcz6_0
     try clear hcz6_1
     try clear hcz6_2
     try clear hcz6_3
     try clear hfz10_0
     try clear hfz10_1
     try clear hfz10_2
     try clear hfz10_3
     try clear hfz11_0
     try clear hfz11_1
     try clear hfz11_2
     try clear hfz11_3
     try clear hfz5_0
     try clear hfz5_1
     try clear hfz5_2
     try clear hfz5_3
     try clear hfz6_0
     try clear hfz6_1
     try clear hfz6_2
     try clear hfz6_3
     obtain ⟨kq, x3_7, rfl, HA, HJ7, BK206, HB⟩ := hcut
     cases kq with
     | zero => exact absurd HA.out (by simp [meanderref09_Node.j1])
     | succ kj7 =>
      have H := HA.out
      clear HA
      simp only [meanderref09_Node.j1] at H
      have HC12 := ZM H
      clear H
      obtain ⟨hcz13_0, hcz13_1, hcz13_2, hcz13_3, hfz13_0, hfz13_1, hfz13_2, hfz13_3⟩ := ZC4 BK206.out
      go_upto_if 22 with (fail)
      go_cut [22] (fun v22 wc => ∃ (kq : Nat) (x22_11 : Bool), v22 = .bool x22_11 ∧ Aside0 (meanderref09_Node.j2 kq x3_7 a0_0 x22_11 a0_0 a0_1 a0_2 a0_3 = some r) ∧ Aside0 (kq ≤ kj7) ∧ Aside0 (wc.heap[gb206]? = some (.cells #[.int .i64 a0_0, .int .i64 a0_1, .int .i64 a0_2, .int .i64 a0_3] 40 (0, 0))) ∧ Aside0 (Below w.heap.size w wc))
      case first =>
       have H := HC12.out
       clear HC12
       by_cases c14 : a0_0 = 1
       ·rw [if_pos c14] at H
        have c14b0 : (a0_0 == 1) = true := beq_iff_eq.mpr c14
        have c14b1 : (a0_0 != 1) = false := bne_eq_false_iff_eq.mpr c14
        clear c14
        (first | rw [c14b0] | (simp only [i64_w, i32_w]; rw [c14b0]) | skip)
        have H' := ZM H
        clear H
        go_wp2
        go_meet
        case rel => exact ⟨_, ((a0_0 == 1)), ZE, H', ⟨by have := HJ1.out; have := HJ7.out; first | omega | exact Nat.le_refl _⟩, ⟨ZBK BK206.out⟩, ⟨ZBB HB.out⟩⟩
       ·rw [if_neg c14] at H
        have c14b0 : (a0_0 == 1) = false := beq_eq_false_iff_ne.mpr c14
        have c14b1 : (a0_0 != 1) = true := bne_iff_ne.mpr c14
        (first | rw [c14b0] | (simp only [i64_w, i32_w]; rw [c14b0]) | skip)
        have H' := ZM H
        clear H
        go_wp2
        go_meet
        case rel => exact ⟨_, ((a0_0 == 11)), ZE, H', ⟨by have := HJ1.out; have := HJ7.out; first | omega | exact Nat.le_refl _⟩, ⟨ZBK BK206.out⟩, ⟨ZBB HB.out⟩⟩
      case rest =>
       clear HC12
       try clear c4
       try clear c4b0
       try clear c7
       try clear c9
       try clear c9b0
       try clear c9b1
       try clear c14
       try clear c14b0
       try clear c14b1
       try clear hcz10_0
       try clear hcz10_1
       try clear hcz10_2
       try clear hcz10_3
       try clear hcz11_0
       try clear hcz11_1
       try clear hcz11_2
       try clear hcz11_3
       try clear hcz13_0
       try clear hcz13_1
       try clear hcz13_2
       try clear hcz13_3
       try clear hcz5_0
       try clear hcz5_1
       try clear hcz5_2
       try clear hcz5_3
       try clear hcz6_0
       try clear hcz6_1
       try clear hcz6_2
       try clear hcz6_3
       try clear hfz10_0
       try clear hfz10_1
       try clear hfz10_2
       try clear hfz10_3
       try clear hfz11_0
       try clear hfz11_1
       try clear hfz11_2
       try clear hfz11_3
       try clear hfz13_0
       try clear hfz13_1
       try clear hfz13_2
       try clear hfz13_3
       try clear hfz5_0
       try clear hfz5_1
       try clear hfz5_2
       try clear hfz5_3
       try clear hfz6_0
       try clear hfz6_1
       try clear hfz6_2
       try clear hfz6_3
       obtain ⟨kq, x22_11, rfl, HA, HJ11, BK206, HB⟩ := hcut
       cases kq with
       | zero => exact absurd HA.out (by simp [meanderref09_Node.j2])
       | succ kj11 =>
        have H := HA.out
        clear HA
        simp only [meanderref09_Node.j2] at H
        by_cases c15 : x22_11 = true
        ·subst c15
         have H1 : (if x3_7 = true then (some (a0_3 == 0)) else (some false)) = some r := by rw [if_pos rfl] at H; exact H
         clear H
         have H := H1
         clear H1
         by_cases c16 : x3_7 = true
         ·subst c16
          have H1 : (some (a0_3 == 0)) = some r := by rw [if_pos rfl] at H; exact H
          clear H
          have H := H1
          clear H1
          obtain rfl := Option.some.inj H
          obtain ⟨hcz17_0, hcz17_1, hcz17_2, hcz17_3, hfz17_0, hfz17_1, hfz17_2, hfz17_3⟩ := ZC4 BK206.out
          go_wp2
          go_ret
          exact ⟨ZEE, ZBB HB.out⟩
         ·replace c16 := Bool.eq_false_iff.mpr c16
          subst c16
          have H1 : (some false) = some r := by rw [if_neg (show ¬ (false = true) by decide)] at H; exact H
          clear H
          have H := H1
          clear H1
          obtain rfl := Option.some.inj H
          go_wp2
          go_ret
          exact ⟨ZEE, ZBB HB.out⟩
        ·replace c15 := Bool.eq_false_iff.mpr c15
         subst c15
         have H1 : (if a0_0 = 2 then ((meanderref06_MayMap.f a0_1 a0_2).bind fun t207 => (some t207)) else (if a0_0 = 3 then ((meanderref06_MayFilter.f a0_1 a0_2).bind fun t208 => (some t208)) else (if a0_0 = 4 then (meanderref09_Node.j3 kj11 x3_7 a0_0 (a0_0 == 4) a0_0 a0_1 a0_2 a0_3) else (meanderref09_Node.j3 kj11 x3_7 a0_0 (a0_0 == 5) a0_0 a0_1 a0_2 a0_3)))) = some r := by rw [if_neg (show ¬ (false = true) by decide)] at H; exact H
         clear H
         have H := H1
         clear H1
         by_cases c18 : a0_0 = 2
         ·rw [if_pos c18] at H
          have c18b0 : (a0_0 == 2) = true := beq_iff_eq.mpr c18
          have c18b1 : (a0_0 != 2) = false := bne_eq_false_iff_eq.mpr c18
          clear c18
          replace H := Option.bind_eq_some_iff.mp H
          obtain ⟨t207, A190, H⟩ := H
          replace H : (some t207) = some r := H
          have A19 := ZM A190
          clear A190
          obtain rfl := Option.some.inj H
          obtain ⟨hcz20_0, hcz20_1, hcz20_2, hcz20_3, hfz20_0, hfz20_1, hfz20_2, hfz20_3⟩ := ZC4 BK206.out
          go_wp2_with (first | ((with_reducible refine gate_callee (f := 40) rfl ?_); refine goesL_ (some 37) rfl rfl Tryd.func40 (by kernel_rfl) rfl #[.int .i64 a0_1, .int .i64 a0_2] rfl ZH ?_; (with_reducible refine (meanderref06_MayMap.calls a0_1 a0_2 t207 _ A19.out).mono ?_); rintro e w' ⟨rfl, ⟨nd, rfl⟩⟩; refine ⟨_, rfl, ?_⟩))
          go_ret
          exact ⟨ZEE, ZBB HB.out⟩
         ·rw [if_neg c18] at H
          have c18b0 : (a0_0 == 2) = false := beq_eq_false_iff_ne.mpr c18
          have c18b1 : (a0_0 != 2) = true := bne_iff_ne.mpr c18
          by_cases c21 : a0_0 = 3
          ·rw [if_pos c21] at H
           have c21b0 : (a0_0 == 3) = true := beq_iff_eq.mpr c21
           have c21b1 : (a0_0 != 3) = false := bne_eq_false_iff_eq.mpr c21
           clear c21
           replace H := Option.bind_eq_some_iff.mp H
           obtain ⟨t208, A220, H⟩ := H
           replace H : (some t208) = some r := H
           have A22 := ZM A220
           clear A220
           obtain rfl := Option.some.inj H
           obtain ⟨hcz23_0, hcz23_1, hcz23_2, hcz23_3, hfz23_0, hfz23_1, hfz23_2, hfz23_3⟩ := ZC4 BK206.out
           go_wp2_with (first | ((with_reducible refine gate_callee (f := 41) rfl ?_); refine goesL_ (some 44) rfl rfl Tryd.func41 (by kernel_rfl) rfl #[.int .i64 a0_1, .int .i64 a0_2] rfl ZH ?_; (with_reducible refine (meanderref06_MayFilter.calls a0_1 a0_2 t208 _ A22.out).mono ?_); rintro e w' ⟨rfl, ⟨nd, rfl⟩⟩; refine ⟨_, rfl, ?_⟩))
           go_ret
           exact ⟨ZEE, ZBB HB.out⟩
          ·rw [if_neg c21] at H
           have c21b0 : (a0_0 == 3) = false := beq_eq_false_iff_ne.mpr c21
           have c21b1 : (a0_0 != 3) = true := bne_iff_ne.mpr c21
           have HC24 := ZM H
           clear H
           go_upto_if 45 with (fail)
           go_cut [45] (fun v45 wc => ∃ (kq : Nat) (x45_23 : Bool), v45 = .bool x45_23 ∧ Aside0 (meanderref09_Node.j3 kq x3_7 a0_0 x45_23 a0_0 a0_1 a0_2 a0_3 = some r) ∧ Aside0 (kq ≤ kj11) ∧ Aside0 (wc.heap[gb206]? = some (.cells #[.int .i64 a0_0, .int .i64 a0_1, .int .i64 a0_2, .int .i64 a0_3] 40 (0, 0))) ∧ Aside0 (Below w.heap.size w wc))
           case first =>
            have H := HC24.out
            clear HC24
            by_cases c25 : a0_0 = 4
            ·rw [if_pos c25] at H
             have c25b0 : (a0_0 == 4) = true := beq_iff_eq.mpr c25
             have c25b1 : (a0_0 != 4) = false := bne_eq_false_iff_eq.mpr c25
             clear c25
             (first | rw [c25b0] | (simp only [i64_w, i32_w]; rw [c25b0]) | skip)
             have H' := ZM H
             clear H
             go_wp2
             go_meet
             case rel => exact ⟨_, ((a0_0 == 4)), ZE, H', ⟨by have := HJ1.out; have := HJ7.out; have := HJ11.out; first | omega | exact Nat.le_refl _⟩, ⟨ZBK BK206.out⟩, ⟨ZBB HB.out⟩⟩
            ·rw [if_neg c25] at H
             have c25b0 : (a0_0 == 4) = false := beq_eq_false_iff_ne.mpr c25
             have c25b1 : (a0_0 != 4) = true := bne_iff_ne.mpr c25
             (first | rw [c25b0] | (simp only [i64_w, i32_w]; rw [c25b0]) | skip)
             have H' := ZM H
             clear H
             go_wp2
             go_meet
             case rel => exact ⟨_, ((a0_0 == 5)), ZE, H', ⟨by have := HJ1.out; have := HJ7.out; have := HJ11.out; first | omega | exact Nat.le_refl _⟩, ⟨ZBK BK206.out⟩, ⟨ZBB HB.out⟩⟩
           case rest =>
            clear HC24
            try clear c4
            try clear c4b0
            try clear c7
            try clear c9
            try clear c9b0
            try clear c9b1
            try clear c14
            try clear c14b0
            try clear c14b1
            try clear c15
            try clear c16
            try clear c18
            try clear c18b0
            try clear c18b1
            try clear c21
            try clear c21b0
            try clear c21b1
            try clear c25
            try clear c25b0
            try clear c25b1
            try clear hcz10_0
            try clear hcz10_1
            try clear hcz10_2
            try clear hcz10_3
            try clear hcz11_0
            try clear hcz11_1
            try clear hcz11_2
            try clear hcz11_3
            try clear hcz13_0
            try clear hcz13_1
            try clear hcz13_2
            try clear hcz13_3
            try clear hcz17_0
            try clear hcz17_1
            try clear hcz17_2
            try clear hcz17_3
            try clear hcz20_0
            try clear hcz20_1
            try clear hcz20_2
            try clear hcz20_3
            try clear hcz23_0
            try clear hcz23_1
            try clear hcz23_2
            try clear hcz23_3
            try clear hcz5_0
            try clear hcz5_1
            try clear hcz5_2
            try clear hcz5_3
            try clear hcz6_0
            try clear hcz6_1
            try clear hcz6_2
            try clear hcz6_3
            try clear hfz10_0
            try clear hfz10_1
            try clear hfz10_2
            try clear hfz10_3
            try clear hfz11_0
            try clear hfz11_1
            try clear hfz11_2
            try clear hfz11_3
            try clear hfz13_0
            try clear hfz13_1
            try clear hfz13_2
            try clear hfz13_3
            try clear hfz17_0
            try clear hfz17_1
            try clear hfz17_2
            try clear hfz17_3
            try clear hfz20_0
            try clear hfz20_1
            try clear hfz20_2
            try clear hfz20_3
            try clear hfz23_0
            try clear hfz23_1
            try clear hfz23_2
            try clear hfz23_3
            try clear hfz5_0
            try clear hfz5_1
            try clear hfz5_2
            try clear hfz5_3
            try clear hfz6_0
            try clear hfz6_1
            try clear hfz6_2
            try clear hfz6_3
            obtain ⟨kq, x45_23, rfl, HA, HJ23, BK206, HB⟩ := hcut
            cases kq with
            | zero => exact absurd HA.out (by simp [meanderref09_Node.j3])
            | succ kj23 =>
             have H := HA.out
             clear HA
             simp only [meanderref09_Node.j3] at H
             by_cases c26 : x45_23 = true
             ·subst c26
              have H1 : (some x3_7) = some r := by rw [if_pos rfl] at H; exact H
              clear H
              have H := H1
              clear H1
              obtain rfl := Option.some.inj H
              go_wp2
              go_ret
              exact ⟨ZEE, ZBB HB.out⟩
             ·replace c26 := Bool.eq_false_iff.mpr c26
              subst c26
              have H1 : (if a0_0 = 6 then ((meanderref06_MayReduce.f a0_1).bind fun t209 => (if t209 = true then (some (a0_2 == 0)) else (some false))) else (if a0_0 = 7 then ((meanderref07_May.f a0_1 a0_2).bind fun t210 => (if t210 = true then (some (a0_3 == 0)) else (some false))) else (if a0_0 = 8 then (if x3_7 = true then (some (decide (a0_3 > 0))) else (some false)) else (if a0_0 = 9 then (if x3_7 = true then (some (decide (a0_3 < 3))) else (some false)) else (if a0_0 = 10 then (if a0_3 > 0 then (if a0_1 ≥ 1 then (if a0_1 ≤ 6 then (some (a0_2 == 0)) else (some false)) else (some false)) else (some false)) else (some false)))))) = some r := by rw [if_neg (show ¬ (false = true) by decide)] at H; exact H
              clear H
              have H := H1
              clear H1
              by_cases c27 : a0_0 = 6
              ·rw [if_pos c27] at H
               have c27b0 : (a0_0 == 6) = true := beq_iff_eq.mpr c27
               have c27b1 : (a0_0 != 6) = false := bne_eq_false_iff_eq.mpr c27
               clear c27
               replace H := Option.bind_eq_some_iff.mp H
               obtain ⟨t209, A280, H⟩ := H
               replace H : (if t209 = true then (some (a0_2 == 0)) else (some false)) = some r := H
               have A28 := ZM A280
               clear A280
               by_cases c29 : t209 = true
               ·subst c29
                have H1 : (some (a0_2 == 0)) = some r := by rw [if_pos rfl] at H; exact H
                clear H
                have H := H1
                clear H1
                obtain rfl := Option.some.inj H
                obtain ⟨hcz30_0, hcz30_1, hcz30_2, hcz30_3, hfz30_0, hfz30_1, hfz30_2, hfz30_3⟩ := ZC4 BK206.out
                go_wp2_with (first | ((with_reducible refine gate_callee (f := 42) rfl ?_); refine goesL_ (some 53) rfl rfl Tryd.func42 (by kernel_rfl) rfl #[.int .i64 a0_1] rfl ZH ?_; (with_reducible refine (meanderref06_MayReduce.calls a0_1 true _ A28.out).mono ?_); rintro e w' ⟨rfl, ⟨nd, rfl⟩⟩; refine ⟨_, rfl, ?_⟩))
                go_ret
                exact ⟨ZEE, ZBB HB.out⟩
               ·replace c29 := Bool.eq_false_iff.mpr c29
                subst c29
                have H1 : (some false) = some r := by rw [if_neg (show ¬ (false = true) by decide)] at H; exact H
                clear H
                have H := H1
                clear H1
                obtain rfl := Option.some.inj H
                obtain ⟨hcz31_0, hcz31_1, hcz31_2, hcz31_3, hfz31_0, hfz31_1, hfz31_2, hfz31_3⟩ := ZC4 BK206.out
                go_wp2_with (first | ((with_reducible refine gate_callee (f := 42) rfl ?_); refine goesL_ (some 53) rfl rfl Tryd.func42 (by kernel_rfl) rfl #[.int .i64 a0_1] rfl ZH ?_; (with_reducible refine (meanderref06_MayReduce.calls a0_1 false _ A28.out).mono ?_); rintro e w' ⟨rfl, ⟨nd, rfl⟩⟩; refine ⟨_, rfl, ?_⟩))
                go_ret
                exact ⟨ZEE, ZBB HB.out⟩
              ·rw [if_neg c27] at H
               have c27b0 : (a0_0 == 6) = false := beq_eq_false_iff_ne.mpr c27
               have c27b1 : (a0_0 != 6) = true := bne_iff_ne.mpr c27
               by_cases c32 : a0_0 = 7
               ·rw [if_pos c32] at H
                have c32b0 : (a0_0 == 7) = true := beq_iff_eq.mpr c32
                have c32b1 : (a0_0 != 7) = false := bne_eq_false_iff_eq.mpr c32
                clear c32
                replace H := Option.bind_eq_some_iff.mp H
                obtain ⟨t210, A330, H⟩ := H
                replace H : (if t210 = true then (some (a0_3 == 0)) else (some false)) = some r := H
                have A33 := ZM A330
                clear A330
                by_cases c34 : t210 = true
                ·subst c34
                 have H1 : (some (a0_3 == 0)) = some r := by rw [if_pos rfl] at H; exact H
                 clear H
                 have H := H1
                 clear H1
                 obtain rfl := Option.some.inj H
                 obtain ⟨hcz35_0, hcz35_1, hcz35_2, hcz35_3, hfz35_0, hfz35_1, hfz35_2, hfz35_3⟩ := ZC4 BK206.out
                 go_wp2_with (first | ((with_reducible refine gate_callee (f := 43) rfl ?_); refine goesL_ (some 65) rfl rfl Tryd.func43 (by kernel_rfl) rfl #[.int .i64 a0_1, .int .i64 a0_2] rfl ZH ?_; (with_reducible refine (meanderref07_May.calls a0_1 a0_2 true _ A33.out).mono ?_); rintro e w' ⟨rfl, ⟨nd, rfl⟩⟩; refine ⟨_, rfl, ?_⟩))
                 go_ret
                 exact ⟨ZEE, ZBB HB.out⟩
                ·replace c34 := Bool.eq_false_iff.mpr c34
                 subst c34
                 have H1 : (some false) = some r := by rw [if_neg (show ¬ (false = true) by decide)] at H; exact H
                 clear H
                 have H := H1
                 clear H1
                 obtain rfl := Option.some.inj H
                 obtain ⟨hcz36_0, hcz36_1, hcz36_2, hcz36_3, hfz36_0, hfz36_1, hfz36_2, hfz36_3⟩ := ZC4 BK206.out
                 go_wp2_with (first | ((with_reducible refine gate_callee (f := 43) rfl ?_); refine goesL_ (some 65) rfl rfl Tryd.func43 (by kernel_rfl) rfl #[.int .i64 a0_1, .int .i64 a0_2] rfl ZH ?_; (with_reducible refine (meanderref07_May.calls a0_1 a0_2 false _ A33.out).mono ?_); rintro e w' ⟨rfl, ⟨nd, rfl⟩⟩; refine ⟨_, rfl, ?_⟩))
                 go_ret
                 exact ⟨ZEE, ZBB HB.out⟩
               ·rw [if_neg c32] at H
                have c32b0 : (a0_0 == 7) = false := beq_eq_false_iff_ne.mpr c32
                have c32b1 : (a0_0 != 7) = true := bne_iff_ne.mpr c32
                by_cases c37 : a0_0 = 8
                ·rw [if_pos c37] at H
                 have c37b0 : (a0_0 == 8) = true := beq_iff_eq.mpr c37
                 have c37b1 : (a0_0 != 8) = false := bne_eq_false_iff_eq.mpr c37
                 clear c37
                 by_cases c38 : x3_7 = true
                 ·subst c38
                  have H1 : (some (decide (a0_3 > 0))) = some r := by rw [if_pos rfl] at H; exact H
                  clear H
                  have H := H1
                  clear H1
                  obtain rfl := Option.some.inj H
                  obtain ⟨hcz39_0, hcz39_1, hcz39_2, hcz39_3, hfz39_0, hfz39_1, hfz39_2, hfz39_3⟩ := ZC4 BK206.out
                  go_wp2
                  go_ret
                  exact ⟨ZEE, ZBB HB.out⟩
                 ·replace c38 := Bool.eq_false_iff.mpr c38
                  subst c38
                  have H1 : (some false) = some r := by rw [if_neg (show ¬ (false = true) by decide)] at H; exact H
                  clear H
                  have H := H1
                  clear H1
                  obtain rfl := Option.some.inj H
                  go_wp2
                  go_ret
                  exact ⟨ZEE, ZBB HB.out⟩
                ·rw [if_neg c37] at H
                 have c37b0 : (a0_0 == 8) = false := beq_eq_false_iff_ne.mpr c37
                 have c37b1 : (a0_0 != 8) = true := bne_iff_ne.mpr c37
                 by_cases c40 : a0_0 = 9
                 ·rw [if_pos c40] at H
                  have c40b0 : (a0_0 == 9) = true := beq_iff_eq.mpr c40
                  have c40b1 : (a0_0 != 9) = false := bne_eq_false_iff_eq.mpr c40
                  clear c40
                  by_cases c41 : x3_7 = true
                  ·subst c41
                   have H1 : (some (decide (a0_3 < 3))) = some r := by rw [if_pos rfl] at H; exact H
                   clear H
                   have H := H1
                   clear H1
                   obtain rfl := Option.some.inj H
                   obtain ⟨hcz42_0, hcz42_1, hcz42_2, hcz42_3, hfz42_0, hfz42_1, hfz42_2, hfz42_3⟩ := ZC4 BK206.out
                   go_wp2
                   go_ret
                   exact ⟨ZEE, ZBB HB.out⟩
                  ·replace c41 := Bool.eq_false_iff.mpr c41
                   subst c41
                   have H1 : (some false) = some r := by rw [if_neg (show ¬ (false = true) by decide)] at H; exact H
                   clear H
                   have H := H1
                   clear H1
                   obtain rfl := Option.some.inj H
                   go_wp2
                   go_ret
                   exact ⟨ZEE, ZBB HB.out⟩
                 ·rw [if_neg c40] at H
                  have c40b0 : (a0_0 == 9) = false := beq_eq_false_iff_ne.mpr c40
                  have c40b1 : (a0_0 != 9) = true := bne_iff_ne.mpr c40
                  by_cases c43 : a0_0 = 10
                  ·rw [if_pos c43] at H
                   have c43b0 : (a0_0 == 10) = true := beq_iff_eq.mpr c43
                   have c43b1 : (a0_0 != 10) = false := bne_eq_false_iff_eq.mpr c43
                   clear c43
                   by_cases c44 : a0_3 > 0
                   ·rw [if_pos c44] at H
                    have c44b0 : decide (0 < a0_3) = true := decide_eq_true c44
                    clear c44
                    by_cases c45 : a0_1 ≥ 1
                    ·rw [if_pos c45] at H
                     have c45b0 : decide (1 ≤ a0_1) = true := decide_eq_true c45
                     clear c45
                     by_cases c46 : a0_1 ≤ 6
                     ·rw [if_pos c46] at H
                      have c46b0 : decide (a0_1 ≤ 6) = true := decide_eq_true c46
                      clear c46
                      obtain rfl := Option.some.inj H
                      obtain ⟨hcz47_0, hcz47_1, hcz47_2, hcz47_3, hfz47_0, hfz47_1, hfz47_2, hfz47_3⟩ := ZC4 BK206.out
                      go_wp2
                      go_ret
                      exact ⟨ZEE, ZBB HB.out⟩
                     ·rw [if_neg c46] at H
                      have c46b0 : decide (a0_1 ≤ 6) = false := decide_eq_false c46
                      clear c46
                      obtain rfl := Option.some.inj H
                      obtain ⟨hcz48_0, hcz48_1, hcz48_2, hcz48_3, hfz48_0, hfz48_1, hfz48_2, hfz48_3⟩ := ZC4 BK206.out
                      go_wp2
                      go_ret
                      exact ⟨ZEE, ZBB HB.out⟩
                    ·rw [if_neg c45] at H
                     have c45b0 : decide (1 ≤ a0_1) = false := decide_eq_false c45
                     clear c45
                     obtain rfl := Option.some.inj H
                     obtain ⟨hcz49_0, hcz49_1, hcz49_2, hcz49_3, hfz49_0, hfz49_1, hfz49_2, hfz49_3⟩ := ZC4 BK206.out
                     go_wp2
                     go_ret
                     exact ⟨ZEE, ZBB HB.out⟩
                   ·rw [if_neg c44] at H
                    have c44b0 : decide (0 < a0_3) = false := decide_eq_false c44
                    clear c44
                    obtain rfl := Option.some.inj H
                    obtain ⟨hcz50_0, hcz50_1, hcz50_2, hcz50_3, hfz50_0, hfz50_1, hfz50_2, hfz50_3⟩ := ZC4 BK206.out
                    go_wp2
                    go_ret
                    exact ⟨ZEE, ZBB HB.out⟩
                  ·rw [if_neg c43] at H
                   have c43b0 : (a0_0 == 10) = false := beq_eq_false_iff_ne.mpr c43
                   have c43b1 : (a0_0 != 10) = true := bne_iff_ne.mpr c43
                   obtain rfl := Option.some.inj H
                   go_wp2
                   go_ret
                   exact ⟨ZEE, ZBB HB.out⟩

end Go.Proofs.YtbjjcolbomaodaaDoor.PTks
