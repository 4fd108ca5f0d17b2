-- Laid by hprint.py of this repo: the kit's printer, and contracts by hand beside it. Not trusted: Lean checks it.
import Derived.Test.YtbjjcolbomaodaaDoorWZ
import Derived.Test.YtbjjcolbomaodaaDoorWY
import Derived.Test.YtbjjcolbomaodaaDoorPTksx0
import Derived.Test.YtbjjcolbomaodaaDoorPTksx8
namespace Go.Proofs.YtbjjcolbomaodaaDoor.PTks
open Go.RowKit Go.Proofs.YtbjjcolbomaodaaDoorW.PrintWords Go.Proofs.YtbjjcolbomaodaaDoorW.PrintLast Go.Proofs.YtbjjcolbomaodaaDoorW.PrintMore
attribute [local go_sem] max2_int min2_int max_two min_two max_three min_three max_four min_four   -- for this text's walks alone
set_option linter.unusedVariables false
set_option linter.unusedSimpArgs false

/-! ### valid_Node: function 34 -/
mutual
def valid_Node.j0 : Nat → Bool → Int → Int → Int → Int → Option (Bool)
 | 0, _, _, _, _, _ => none
 | k + 1, x3, x137000, x137001, x137002, x137003 => if x137003 < 0 then (valid_Node.j1 k x3 true x137000 x137001 x137002 x137003) else (valid_Node.j1 k x3 (decide (x137003 > 3)) x137000 x137001 x137002 x137003)
def valid_Node.j1 : Nat → Bool → Bool → Int → Int → Int → Int → Option (Bool)
 | 0, _, _, _, _, _, _ => none
 | k + 1, x3, x19, x137000, x137001, x137002, x137003 => if x19 = true then (some false) else (if x137000 = 1 then (valid_Node.j2 k x3 x137000 (x137000 == 1) x137000 x137001 x137002 x137003) else (valid_Node.j2 k x3 x137000 (x137000 == 11) x137000 x137001 x137002 x137003))
def valid_Node.j2 : Nat → Bool → Int → Bool → Int → Int → Int → Int → Option (Bool)
 | 0, _, _, _, _, _, _, _ => none
 | k + 1, x3, x21, x22, x137000, x137001, x137002, x137003 => if x22 = true then (if x3 = true then (some (x137003 == 0)) else (some false)) else (if x21 = 2 then ((fn_MayMap.f x137001 x137002).bind fun t137 => (some t137)) else (if x21 = 3 then ((fn_MayFilter.f x137001 x137002).bind fun t138 => (some t138)) else (if x21 = 4 then (valid_Node.j3 k x3 x21 (x21 == 4) x137000 x137001 x137002 x137003) else (valid_Node.j3 k x3 x21 (x21 == 5) x137000 x137001 x137002 x137003))))
def valid_Node.j3 : Nat → Bool → Int → Bool → Int → Int → Int → Int → Option (Bool)
 | 0, _, _, _, _, _, _, _ => none
 | k + 1, x3, x21, x45, x137000, x137001, x137002, x137003 => if x45 = true then (some x3) else (if x21 = 6 then ((fn_MayReduce.f x137001).bind fun t139 => (if t139 = true then (some (x137002 == 0)) else (some false))) else (if x21 = 7 then ((window_May.f x137001 x137002).bind fun t140 => (if t140 = true then (some (x137003 == 0)) else (some false))) else (if x21 = 8 then (if x3 = true then (some (decide (x137003 > 0))) else (some false)) else (if x21 = 9 then (if x3 = true then (some (decide (x137003 < 3))) else (some false)) else (if x21 = 10 then (if x137002 = 0 then (if x137001 ≥ 1 then (if x137001 ≤ 6 then (some (decide (x137003 > 0))) else (some false)) else (some false)) else (some false)) else (some false))))))
end
def valid_Node.f (k : Nat) (a0_0 : Int) (a0_1 : Int) (a0_2 : Int) (a0_3 : Int) : Option (Bool) := if a0_1 = 0 then (valid_Node.j0 k (a0_2 == 0) a0_0 a0_1 a0_2 a0_3) else (valid_Node.j0 k false a0_0 a0_1 a0_2 a0_3)
theorem valid_Node.mono_l : ∀ k, (∀ y0 y1 y2 y3 y4, LeO (valid_Node.j0 k y0 y1 y2 y3 y4) (valid_Node.j0 (k + 1) y0 y1 y2 y3 y4)) ∧ (∀ y0 y1 y2 y3 y4 y5, LeO (valid_Node.j1 k y0 y1 y2 y3 y4 y5) (valid_Node.j1 (k + 1) y0 y1 y2 y3 y4 y5)) ∧ (∀ y0 y1 y2 y3 y4 y5 y6, LeO (valid_Node.j2 k y0 y1 y2 y3 y4 y5 y6) (valid_Node.j2 (k + 1) y0 y1 y2 y3 y4 y5 y6)) ∧ (∀ y0 y1 y2 y3 y4 y5 y6, LeO (valid_Node.j3 k y0 y1 y2 y3 y4 y5 y6) (valid_Node.j3 (k + 1) y0 y1 y2 y3 y4 y5 y6))
 | 0 => ⟨fun _ _ _ _ _ r h => by simp [valid_Node.j0] at h, fun _ _ _ _ _ _ r h => by simp [valid_Node.j1] at h, fun _ _ _ _ _ _ _ r h => by simp [valid_Node.j2] at h, fun _ _ _ _ _ _ _ r h => by simp [valid_Node.j3] at h⟩
 | k + 1 => by
  obtain ⟨ih0, ih1, ih2, ih3⟩ := valid_Node.mono_l k
  refine ⟨?_, ?_, ?_, ?_⟩
  ·intro y0 y1 y2 y3 y4
   unfold valid_Node.j0
   repeat' first
   | (with_reducible exact ih0 _ _ _ _ _)
   | (with_reducible exact ih1 _ _ _ _ _ _)
   | (with_reducible exact ih2 _ _ _ _ _ _ _)
   | (with_reducible exact ih3 _ _ _ _ _ _ _)
   | (with_reducible exact LeO.refl _)
   | (with_reducible exact LeO.none _)
   | (with_reducible refine LeO.ite ?_ ?_)
   | (with_reducible refine LeO.bind ?_ (fun _ => ?_))
   | exact ih0 _ _ _ _ _
   | exact ih1 _ _ _ _ _ _
   | exact ih2 _ _ _ _ _ _ _
   | exact ih3 _ _ _ _ _ _ _
   | exact LeO.none _
   | refine LeO.ite ?_ ?_
   | refine LeO.bind ?_ (fun _ => ?_)
  ·intro y0 y1 y2 y3 y4 y5
   unfold valid_Node.j1
   repeat' first
   | (with_reducible exact ih0 _ _ _ _ _)
   | (with_reducible exact ih1 _ _ _ _ _ _)
   | (with_reducible exact ih2 _ _ _ _ _ _ _)
   | (with_reducible exact ih3 _ _ _ _ _ _ _)
   | (with_reducible exact LeO.refl _)
   | (with_reducible exact LeO.none _)
   | (with_reducible refine LeO.ite ?_ ?_)
   | (with_reducible refine LeO.bind ?_ (fun _ => ?_))
   | exact ih0 _ _ _ _ _
   | exact ih1 _ _ _ _ _ _
   | exact ih2 _ _ _ _ _ _ _
   | exact ih3 _ _ _ _ _ _ _
   | exact LeO.none _
   | refine LeO.ite ?_ ?_
   | refine LeO.bind ?_ (fun _ => ?_)
  ·intro y0 y1 y2 y3 y4 y5 y6
   unfold valid_Node.j2
   repeat' first
   | (with_reducible exact ih0 _ _ _ _ _)
   | (with_reducible exact ih1 _ _ _ _ _ _)
   | (with_reducible exact ih2 _ _ _ _ _ _ _)
   | (with_reducible exact ih3 _ _ _ _ _ _ _)
   | (with_reducible exact LeO.refl _)
   | (with_reducible exact LeO.none _)
   | (with_reducible refine LeO.ite ?_ ?_)
   | (with_reducible refine LeO.bind ?_ (fun _ => ?_))
   | exact ih0 _ _ _ _ _
   | exact ih1 _ _ _ _ _ _
   | exact ih2 _ _ _ _ _ _ _
   | exact ih3 _ _ _ _ _ _ _
   | exact LeO.none _
   | refine LeO.ite ?_ ?_
   | refine LeO.bind ?_ (fun _ => ?_)
  ·intro y0 y1 y2 y3 y4 y5 y6
   unfold valid_Node.j3
   repeat' first
   | (with_reducible exact ih0 _ _ _ _ _)
   | (with_reducible exact ih1 _ _ _ _ _ _)
   | (with_reducible exact ih2 _ _ _ _ _ _ _)
   | (with_reducible exact ih3 _ _ _ _ _ _ _)
   | (with_reducible exact LeO.refl _)
   | (with_reducible exact LeO.none _)
   | (with_reducible refine LeO.ite ?_ ?_)
   | (with_reducible refine LeO.bind ?_ (fun _ => ?_))
   | exact ih0 _ _ _ _ _
   | exact ih1 _ _ _ _ _ _
   | exact ih2 _ _ _ _ _ _ _
   | exact ih3 _ _ _ _ _ _ _
   | exact LeO.none _
   | refine LeO.ite ?_ ?_
   | refine LeO.bind ?_ (fun _ => ?_)
theorem valid_Node.mono : ∀ a0 a1 a2 a3 k, LeO (valid_Node.f k a0 a1 a2 a3) (valid_Node.f (k + 1) a0 a1 a2 a3) := by
 intro a0 a1 a2 a3 k
 obtain ⟨ih0, ih1, ih2, ih3⟩ := valid_Node.mono_l k
 unfold valid_Node.f
 repeat' first
   | (with_reducible exact ih0 _ _ _ _ _)
   | (with_reducible exact ih1 _ _ _ _ _ _)
   | (with_reducible exact ih2 _ _ _ _ _ _ _)
   | (with_reducible exact ih3 _ _ _ _ _ _ _)
   | (with_reducible exact LeO.refl _)
   | (with_reducible exact LeO.none _)
   | (with_reducible refine LeO.ite ?_ ?_)
   | (with_reducible refine LeO.bind ?_ (fun _ => ?_))
   | exact ih0 _ _ _ _ _
   | exact ih1 _ _ _ _ _ _
   | exact ih2 _ _ _ _ _ _ _
   | exact ih3 _ _ _ _ _ _ _
   | exact LeO.none _
   | refine LeO.ite ?_ ?_
   | refine LeO.bind ?_ (fun _ => ?_)
set_option maxHeartbeats 8000000 in
set_option maxRecDepth 100000 in
theorem valid_Node.calls (k : Nat) (a0_0 : Int) (a0_1 : Int) (a0_2 : Int) (a0_3 : Int) (r : Bool) (w : World) (h : valid_Node.f k a0_0 a0_1 a0_2 a0_3 = some r) :
  Calls Tryd.prog 34 #[.agg #[.int .i64 a0_0, .int .i64 a0_1, .int .i64 a0_2, .int .i64 a0_3]] w fun e w' => e = .returned (.bool r) ∧ Below w.heap.size w w' := by
 have hu40 := Tryd.underlying40
 have HB := ZM (Below.refl w.heap.size w)
 have H : (if a0_1 = 0 then (valid_Node.j0 k (a0_2 == 0) a0_0 a0_1 a0_2 a0_3) else (valid_Node.j0 k false a0_0 a0_1 a0_2 a0_3)) = some r := h
 clear h
 have HC2 := ZM H
 clear H
 go_enter Tryd.func34, Tryd.ntmps34
 go_upto_region 1 with (first | ((with_reducible refine gate_dst (N := 1) rfl ?_); refine ZBX 1 (cs := #[.int .i64 a0_0, .int .i64 a0_1, .int .i64 a0_2, .int .i64 a0_3]) (t := 40) ?_; intro gb136 hg w3 hbox hb; have n0_ := ZM (ZW (ZBB HB.out) hb); have n1_ := ZM (hbox); have n2_ := ZM (ZGE hg HB.out); have n3_ := ZM (ZGE hg HB.out); clear HB; have HB := n0_; have BK136 := n1_; have GW136 := n2_; have GE136 := n3_; clear n0_ n1_ n2_ n3_; clear hb hbox hg))
 (try simp only [Act.put, ZI, ZJ, ZK])
 go_cut [3] (fun v3 wc => ∃ (kq : Nat) (x3_1 : Bool), v3 = .bool x3_1 ∧ Aside0 (valid_Node.j0 kq x3_1 a0_0 a0_1 a0_2 a0_3 = some r) ∧ Aside0 (kq ≤ k) ∧ Aside0 (wc.heap[gb136]? = some (.cells #[.int .i64 a0_0, .int .i64 a0_1, .int .i64 a0_2, .int .i64 a0_3] 40 (0, 0))) ∧ Aside0 (Below w.heap.size w wc))
 case first =>
  have H := HC2.out
  clear HC2
  by_cases c4 : a0_1 = 0
  ·rw [if_pos c4] at H
   have c4b0 : (a0_1 == 0) = true := beq_iff_eq.mpr c4
   have c4b1 : (a0_1 != 0) = false := bne_eq_false_iff_eq.mpr c4
   clear c4
   (first | rw [c4b0] | (simp only [i64_w, i32_w]; rw [c4b0]) | skip)
   have H' := ZM H
   clear H
   obtain ⟨hcz5_0, hcz5_1, hcz5_2, hcz5_3, hfz5_0, hfz5_1, hfz5_2, hfz5_3⟩ := ZC4 BK136.out
   go_wp2
   go_meet
   case rel => exact ⟨_, ((a0_2 == 0)), ZE, H', ⟨by first | omega | exact Nat.le_refl _⟩, ⟨ZBK BK136.out⟩, ⟨ZBB HB.out⟩⟩
  ·rw [if_neg c4] at H
   have c4b0 : (a0_1 == 0) = false := beq_eq_false_iff_ne.mpr c4
   have c4b1 : (a0_1 != 0) = true := bne_iff_ne.mpr c4
   (first | rw [c4b0] | (simp only [i64_w, i32_w]; rw [c4b0]) | skip)
   have H' := ZM H
   clear H
   obtain ⟨hcz6_0, hcz6_1, hcz6_2, hcz6_3, hfz6_0, hfz6_1, hfz6_2, hfz6_3⟩ := ZC4 BK136.out
   go_wp2
   go_meet
   case rel => exact ⟨_, (false), ZE, H', ⟨by first | omega | exact Nat.le_refl _⟩, ⟨ZBK BK136.out⟩, ⟨ZBB HB.out⟩⟩
 case rest =>
  clear HC2
  try clear c4
  try clear c4b0
  try clear c4b1
  try clear hcz5_0
  try clear hcz5_1
  try clear hcz5_2
  try clear hcz5_3
  try clear hcz6_0
  try clear hcz6_1
  try clear hcz6_2
  try clear hcz6_3
  try clear hfz5_0
  try clear hfz5_1
  try clear hfz5_2
  try clear hfz5_3
  try clear hfz6_0
  try clear hfz6_1
  try clear hfz6_2
  try clear hfz6_3
  obtain ⟨kq, x3_1, rfl, HA, HJ1, BK136, HB⟩ := hcut
  cases kq with
  | zero => exact absurd HA.out (by simp [valid_Node.j0])
  | succ kj1 =>
   have H := HA.out
   clear HA
   simp only [valid_Node.j0] at H
   have HC7 := ZM H
   clear H
   go_upto_region 2 with (fail)
   go_cut [19] (fun v19 wc => ∃ (kq : Nat) (x19_6 : Bool), v19 = .bool x19_6 ∧ Aside0 (valid_Node.j1 kq x3_1 x19_6 a0_0 a0_1 a0_2 a0_3 = some r) ∧ Aside0 (kq ≤ kj1) ∧ Aside0 (wc.heap[gb136]? = some (.cells #[.int .i64 a0_0, .int .i64 a0_1, .int .i64 a0_2, .int .i64 a0_3] 40 (0, 0))) ∧ Aside0 (Below w.heap.size w wc))
   case first =>
    have H := HC7.out
    clear HC7
    by_cases c8 : a0_3 < 0
    ·rw [if_pos c8] at H
     have c8b0 : decide (a0_3 < 0) = true := decide_eq_true c8
     clear c8
     (first | rw [c8b0] | (simp only [i64_w, i32_w]; rw [c8b0]) | skip)
     have H' := ZM H
     clear H
     obtain ⟨hcz9_0, hcz9_1, hcz9_2, hcz9_3, hfz9_0, hfz9_1, hfz9_2, hfz9_3⟩ := ZC4 BK136.out
     go_wp2
     go_meet
     case rel => exact ⟨_, (true), ZE, H', ⟨by have := HJ1.out; first | omega | exact Nat.le_refl _⟩, ⟨ZBK BK136.out⟩, ⟨ZBB HB.out⟩⟩
    ·rw [if_neg c8] at H
     have c8b0 : decide (a0_3 < 0) = false := decide_eq_false c8
     clear c8
     (first | rw [c8b0] | (simp only [i64_w, i32_w]; rw [c8b0]) | skip)
     have H' := ZM H
     clear H
     obtain ⟨hcz10_0, hcz10_1, hcz10_2, hcz10_3, hfz10_0, hfz10_1, hfz10_2, hfz10_3⟩ := ZC4 BK136.out
     go_wp2
     go_meet
     case rel => exact ⟨_, (decide (a0_3 > 3)), ZE, H', ⟨by have := HJ1.out; first | omega | exact Nat.le_refl _⟩, ⟨ZBK BK136.out⟩, ⟨ZBB HB.out⟩⟩
   case rest =>
    clear HC7
    try clear c4
    try clear c4b0
    try clear c4b1
    try clear c8
    try clear c8b0
    try clear hcz10_0
    try clear hcz10_1
    try clear hcz10_2
    try clear hcz10_3
    try clear hcz5_0
    try clear hcz5_1
    try clear hcz5_2
    try clear hcz5_3
    try clear hcz6_0
    try clear hcz6_1
    try clear hcz6_2
    try clear hcz6_3
    try clear hcz9_0
    try clear hcz9_1
    try clear hcz9_2
    try clear hcz9_3
    try clear hfz10_0
    try clear hfz10_1
    try clear hfz10_2
    try clear hfz10_3
    try clear hfz5_0
    try clear hfz5_1
    try clear hfz5_2
    try clear hfz5_3
    try clear hfz6_0
    try clear hfz6_1
    try clear hfz6_2
    try clear hfz6_3
    try clear hfz9_0
    try clear hfz9_1
    try clear hfz9_2
    try clear hfz9_3
    obtain ⟨kq, x19_6, rfl, HA, HJ6, BK136, HB⟩ := hcut
    cases kq with
    | zero => exact absurd HA.out (by simp [valid_Node.j1])
    | succ kj6 =>
     have H := HA.out
     clear HA
     simp only [valid_Node.j1] at H
     by_cases c11 : x19_6 = true
     ·subst c11
      have H1 : (some false) = some r := by rw [if_pos rfl] at H; exact H
      clear H
      have H := H1
      clear H1
      obtain rfl := Option.some.inj H
      go_wp2
      go_ret
      exact ⟨ZEE, ZBB HB.out⟩
     ·replace c11 := Bool.eq_false_iff.mpr c11
      subst c11
      have H1 : (if a0_0 = 1 then (valid_Node.j2 kj6 x3_1 a0_0 (a0_0 == 1) a0_0 a0_1 a0_2 a0_3) else (valid_Node.j2 kj6 x3_1 a0_0 (a0_0 == 11) a0_0 a0_1 a0_2 a0_3)) = some r := by rw [if_neg (show ¬ (false = true) by decide)] at H; exact H
      clear H
      have H := H1
      clear H1
      have HC12 := ZM H
      clear H
      obtain ⟨hcz13_0, hcz13_1, hcz13_2, hcz13_3, hfz13_0, hfz13_1, hfz13_2, hfz13_3⟩ := ZC4 BK136.out
      go_upto_if 22 with (fail)
      go_cut [22] (fun v22 wc => ∃ (kq : Nat) (x22_11 : Bool), v22 = .bool x22_11 ∧ Aside0 (valid_Node.j2 kq x3_1 a0_0 x22_11 a0_0 a0_1 a0_2 a0_3 = some r) ∧ Aside0 (kq ≤ kj6) ∧ Aside0 (wc.heap[gb136]? = some (.cells #[.int .i64 a0_0, .int .i64 a0_1, .int .i64 a0_2, .int .i64 a0_3] 40 (0, 0))) ∧ Aside0 (Below w.heap.size w wc))
      case first =>
       have H := HC12.out
       clear HC12
       by_cases c14 : a0_0 = 1
       ·rw [if_pos c14] at H
        have c14b0 : (a0_0 == 1) = true := beq_iff_eq.mpr c14
        have c14b1 : (a0_0 != 1) = false := bne_eq_false_iff_eq.mpr c14
        clear c14
        (first | rw [c14b0] | (simp only [i64_w, i32_w]; rw [c14b0]) | skip)
        have H' := ZM H
        clear H
        go_wp2
        go_meet
        case rel => exact ⟨_, ((a0_0 == 1)), ZE, H', ⟨by have := HJ1.out; have := HJ6.out; first | omega | exact Nat.le_refl _⟩, ⟨ZBK BK136.out⟩, ⟨ZBB HB.out⟩⟩
       ·rw [if_neg c14] at H
        have c14b0 : (a0_0 == 1) = false := beq_eq_false_iff_ne.mpr c14
        have c14b1 : (a0_0 != 1) = true := bne_iff_ne.mpr c14
        (first | rw [c14b0] | (simp only [i64_w, i32_w]; rw [c14b0]) | skip)
        have H' := ZM H
        clear H
        go_wp2
        go_meet
        case rel => exact ⟨_, ((a0_0 == 11)), ZE, H', ⟨by have := HJ1.out; have := HJ6.out; first | omega | exact Nat.le_refl _⟩, ⟨ZBK BK136.out⟩, ⟨ZBB HB.out⟩⟩
      case rest =>
       clear HC12
       try clear c4
       try clear c4b0
       try clear c4b1
       try clear c8
       try clear c8b0
       try clear c11
       try clear c14
       try clear c14b0
       try clear c14b1
       try clear hcz10_0
       try clear hcz10_1
       try clear hcz10_2
       try clear hcz10_3
       try clear hcz13_0
       try clear hcz13_1
       try clear hcz13_2
       try clear hcz13_3
       try clear hcz5_0
       try clear hcz5_1
       try clear hcz5_2
       try clear hcz5_3
       try clear hcz6_0
       try clear hcz6_1
       try clear hcz6_2
       try clear hcz6_3
       try clear hcz9_0
       try clear hcz9_1
       try clear hcz9_2
       try clear hcz9_3
       try clear hfz10_0
       try clear hfz10_1
       try clear hfz10_2
       try clear hfz10_3
       try clear hfz13_0
       try clear hfz13_1
       try clear hfz13_2
       try clear hfz13_3
       try clear hfz5_0
       try clear hfz5_1
       try clear hfz5_2
       try clear hfz5_3
       try clear hfz6_0
       try clear hfz6_1
       try clear hfz6_2
       try clear hfz6_3
       try clear hfz9_0
       try clear hfz9_1
       try clear hfz9_2
       try clear hfz9_3
       obtain ⟨kq, x22_11, rfl, HA, HJ11, BK136, HB⟩ := hcut
       cases kq with
       | zero => exact absurd HA.out (by simp [valid_Node.j2])
       | succ kj11 =>
        have H := HA.out
        clear HA
        simp only [valid_Node.j2] at H
        by_cases c15 : x22_11 = true
        ·subst c15
         have H1 : (if x3_1 = true then (some (a0_3 == 0)) else (some false)) = some r := by rw [if_pos rfl] at H; exact H
         clear H
         have H := H1
         clear H1
         by_cases c16 : x3_1 = true
         ·subst c16
          have H1 : (some (a0_3 == 0)) = some r := by rw [if_pos rfl] at H; exact H
          clear H
          have H := H1
          clear H1
          obtain rfl := Option.some.inj H
          obtain ⟨hcz17_0, hcz17_1, hcz17_2, hcz17_3, hfz17_0, hfz17_1, hfz17_2, hfz17_3⟩ := ZC4 BK136.out
          go_wp2
          go_ret
          exact ⟨ZEE, ZBB HB.out⟩
         ·replace c16 := Bool.eq_false_iff.mpr c16
          subst c16
          have H1 : (some false) = some r := by rw [if_neg (show ¬ (false = true) by decide)] at H; exact H
          clear H
          have H := H1
          clear H1
          obtain rfl := Option.some.inj H
          go_wp2
          go_ret
          exact ⟨ZEE, ZBB HB.out⟩
        ·replace c15 := Bool.eq_false_iff.mpr c15
         subst c15
         have H1 : (if a0_0 = 2 then ((fn_MayMap.f a0_1 a0_2).bind fun t137 => (some t137)) else (if a0_0 = 3 then ((fn_MayFilter.f a0_1 a0_2).bind fun t138 => (some t138)) else (if a0_0 = 4 then (valid_Node.j3 kj11 x3_1 a0_0 (a0_0 == 4) a0_0 a0_1 a0_2 a0_3) else (valid_Node.j3 kj11 x3_1 a0_0 (a0_0 == 5) a0_0 a0_1 a0_2 a0_3)))) = some r := by rw [if_neg (show ¬ (false = true) by decide)] at H; exact H
         clear H
         have H := H1
         clear H1
         by_cases c18 : a0_0 = 2
         ·rw [if_pos c18] at H
          have c18b0 : (a0_0 == 2) = true := beq_iff_eq.mpr c18
          have c18b1 : (a0_0 != 2) = false := bne_eq_false_iff_eq.mpr c18
          clear c18
          replace H := Option.bind_eq_some_iff.mp H
          obtain ⟨t137, A190, H⟩ := H
          replace H : (some t137) = some r := H
          have A19 := ZM A190
          clear A190
          obtain rfl := Option.some.inj H
          obtain ⟨hcz20_0, hcz20_1, hcz20_2, hcz20_3, hfz20_0, hfz20_1, hfz20_2, hfz20_3⟩ := ZC4 BK136.out
          go_wp2_with (first | ((with_reducible refine gate_callee (f := 50) rfl ?_); refine goesL_ (some 37) rfl rfl Tryd.func50 (by kernel_rfl) rfl #[.int .i64 a0_1, .int .i64 a0_2] rfl ZH ?_; (with_reducible refine (fn_MayMap.calls a0_1 a0_2 t137 _ A19.out).mono ?_); rintro e w' ⟨rfl, ⟨nd, rfl⟩⟩; refine ⟨_, rfl, ?_⟩))
          go_ret
          exact ⟨ZEE, ZBB HB.out⟩
         ·rw [if_neg c18] at H
          have c18b0 : (a0_0 == 2) = false := beq_eq_false_iff_ne.mpr c18
          have c18b1 : (a0_0 != 2) = true := bne_iff_ne.mpr c18
          by_cases c21 : a0_0 = 3
          ·rw [if_pos c21] at H
           have c21b0 : (a0_0 == 3) = true := beq_iff_eq.mpr c21
           have c21b1 : (a0_0 != 3) = false := bne_eq_false_iff_eq.mpr c21
           clear c21
           replace H := Option.bind_eq_some_iff.mp H
           obtain ⟨t138, A220, H⟩ := H
           replace H : (some t138) = some r := H
           have A22 := ZM A220
           clear A220
           obtain rfl := Option.some.inj H
           obtain ⟨hcz23_0, hcz23_1, hcz23_2, hcz23_3, hfz23_0, hfz23_1, hfz23_2, hfz23_3⟩ := ZC4 BK136.out
           go_wp2_with (first | ((with_reducible refine gate_callee (f := 51) rfl ?_); refine goesL_ (some 44) rfl rfl Tryd.func51 (by kernel_rfl) rfl #[.int .i64 a0_1, .int .i64 a0_2] rfl ZH ?_; (with_reducible refine (fn_MayFilter.calls a0_1 a0_2 t138 _ A22.out).mono ?_); rintro e w' ⟨rfl, ⟨nd, rfl⟩⟩; refine ⟨_, rfl, ?_⟩))
           go_ret
           exact ⟨ZEE, ZBB HB.out⟩
          ·rw [if_neg c21] at H
           have c21b0 : (a0_0 == 3) = false := beq_eq_false_iff_ne.mpr c21
           have c21b1 : (a0_0 != 3) = true := bne_iff_ne.mpr c21
           have HC24 := ZM H
           clear H
           go_upto_if 45 with (fail)
           go_cut [45] (fun v45 wc => ∃ (kq : Nat) (x45_23 : Bool), v45 = .bool x45_23 ∧ Aside0 (valid_Node.j3 kq x3_1 a0_0 x45_23 a0_0 a0_1 a0_2 a0_3 = some r) ∧ Aside0 (kq ≤ kj11) ∧ Aside0 (wc.heap[gb136]? = some (.cells #[.int .i64 a0_0, .int .i64 a0_1, .int .i64 a0_2, .int .i64 a0_3] 40 (0, 0))) ∧ Aside0 (Below w.heap.size w wc))
           case first =>
            have H := HC24.out
            clear HC24
            by_cases c25 : a0_0 = 4
            ·rw [if_pos c25] at H
             have c25b0 : (a0_0 == 4) = true := beq_iff_eq.mpr c25
             have c25b1 : (a0_0 != 4) = false := bne_eq_false_iff_eq.mpr c25
             clear c25
             (first | rw [c25b0] | (simp only [i64_w, i32_w]; rw [c25b0]) | skip)
             have H' := ZM H
             clear H
             go_wp2
             go_meet
             case rel => exact ⟨_, ((a0_0 == 4)), ZE, H', ⟨by have := HJ1.out; have := HJ6.out; have := HJ11.out; first | omega | exact Nat.le_refl _⟩, ⟨ZBK BK136.out⟩, ⟨ZBB HB.out⟩⟩
            ·rw [if_neg c25] at H
             have c25b0 : (a0_0 == 4) = false := beq_eq_false_iff_ne.mpr c25
             have c25b1 : (a0_0 != 4) = true := bne_iff_ne.mpr c25
             (first | rw [c25b0] | (simp only [i64_w, i32_w]; rw [c25b0]) | skip)
             have H' := ZM H
             clear H
             go_wp2
             go_meet
             case rel => exact ⟨_, ((a0_0 == 5)), ZE, H', ⟨by have := HJ1.out; have := HJ6.out; have := HJ11.out; first | omega | exact Nat.le_refl _⟩, ⟨ZBK BK136.out⟩, ⟨ZBB HB.out⟩⟩
           case rest =>
            clear HC24
            try clear c4
            try clear c4b0
            try clear c4b1
            try clear c8
            try clear c8b0
            try clear c11
            try clear c14
            try clear c14b0
            try clear c14b1
            try clear c15
            try clear c16
            try clear c18
            try clear c18b0
            try clear c18b1
            try clear c21
            try clear c21b0
            try clear c21b1
            try clear c25
            try clear c25b0
            try clear c25b1
            try clear hcz10_0
            try clear hcz10_1
            try clear hcz10_2
            try clear hcz10_3
            try clear hcz13_0
            try clear hcz13_1
            try clear hcz13_2
            try clear hcz13_3
            try clear hcz17_0
            try clear hcz17_1
            try clear hcz17_2
            try clear hcz17_3
            try clear hcz20_0
            try clear hcz20_1
            try clear hcz20_2
            try clear hcz20_3
            try clear hcz23_0
            try clear hcz23_1
            try clear hcz23_2
            try clear hcz23_3
            try clear hcz5_0
            try clear hcz5_1
            try clear hcz5_2
            try clear hcz5_3
            try clear hcz6_0
            try clear hcz6_1
            try clear hcz6_2
            try clear hcz6_3
            try clear hcz9_0
            try clear hcz9_1
            try clear hcz9_2
            try clear hcz9_3
            try clear hfz10_0
            try clear hfz10_1
            try clear hfz10_2
            try clear hfz10_3
            try clear hfz13_0
            try clear hfz13_1
            try clear hfz13_2
            try clear hfz13_3
            try clear hfz17_0
            try clear hfz17_1
            try clear hfz17_2
            try clear hfz17_3
            try clear hfz20_0
            try clear hfz20_1
            try clear hfz20_2
            try clear hfz20_3
            try clear hfz23_0
            try clear hfz23_1
            try clear hfz23_2
            try clear hfz23_3
            try clear hfz5_0
            try clear hfz5_1
            try clear hfz5_2
            try clear hfz5_3
            try clear hfz6_0
            try clear hfz6_1
            try clear hfz6_2
            try clear hfz6_3
            try clear hfz9_0
            try clear hfz9_1
            try clear hfz9_2
            try clear hfz9_3
            obtain ⟨kq, x45_23, rfl, HA, HJ23, BK136, HB⟩ := hcut
            cases kq with
            | zero => exact absurd HA.out (by simp [valid_Node.j3])
            | succ kj23 =>
             have H := HA.out
             clear HA
             simp only [valid_Node.j3] at H
             by_cases c26 : x45_23 = true
             ·subst c26
              have H1 : (some x3_1) = some r := by rw [if_pos rfl] at H; exact H
              clear H
              have H := H1
              clear H1
              obtain rfl := Option.some.inj H
              go_wp2
              go_ret
              exact ⟨ZEE, ZBB HB.out⟩
             ·replace c26 := Bool.eq_false_iff.mpr c26
              subst c26
              have H1 : (if a0_0 = 6 then ((fn_MayReduce.f a0_1).bind fun t139 => (if t139 = true then (some (a0_2 == 0)) else (some false))) else (if a0_0 = 7 then ((window_May.f a0_1 a0_2).bind fun t140 => (if t140 = true then (some (a0_3 == 0)) else (some false))) else (if a0_0 = 8 then (if x3_1 = true then (some (decide (a0_3 > 0))) else (some false)) else (if a0_0 = 9 then (if x3_1 = true then (some (decide (a0_3 < 3))) else (some false)) else (if a0_0 = 10 then (if a0_2 = 0 then (if a0_1 ≥ 1 then (if a0_1 ≤ 6 then (some (decide (a0_3 > 0))) else (some false)) else (some false)) else (some false)) else (some false)))))) = some r := by rw [if_neg (show ¬ (false = true) by decide)] at H; exact H
              clear H
              have H := H1
              clear H1
              by_cases c27 : a0_0 = 6
              ·rw [if_pos c27] at H
               have c27b0 : (a0_0 == 6) = true := beq_iff_eq.mpr c27
               have c27b1 : (a0_0 != 6) = false := bne_eq_false_iff_eq.mpr c27
               clear c27
               replace H := Option.bind_eq_some_iff.mp H
               obtain ⟨t139, A280, H⟩ := H
               replace H : (if t139 = true then (some (a0_2 == 0)) else (some false)) = some r := H
               have A28 := ZM A280
               clear A280
               by_cases c29 : t139 = true
               ·subst c29
                have H1 : (some (a0_2 == 0)) = some r := by rw [if_pos rfl] at H; exact H
                clear H
                have H := H1
                clear H1
                obtain rfl := Option.some.inj H
                obtain ⟨hcz30_0, hcz30_1, hcz30_2, hcz30_3, hfz30_0, hfz30_1, hfz30_2, hfz30_3⟩ := ZC4 BK136.out
                go_wp2_with (first | ((with_reducible refine gate_callee (f := 52) rfl ?_); refine goesL_ (some 53) rfl rfl Tryd.func52 (by kernel_rfl) rfl #[.int .i64 a0_1] rfl ZH ?_; (with_reducible refine (fn_MayReduce.calls a0_1 true _ A28.out).mono ?_); rintro e w31 ⟨rfl, hb⟩; refine ⟨_, rfl, ?_⟩; have n0_ := ZM (blk_below (ZBK BK136.out) hb); have n1_ := ZM (ZW (ZBB HB.out) hb); clear BK136; clear HB; have BK136 := n0_; have HB := n1_; clear n0_ n1_; (try clear hb); (try clear hb2); (try clear hk); (try clear hi); obtain ⟨hcz32_0, hcz32_1, hcz32_2, hcz32_3, hfz32_0, hfz32_1, hfz32_2, hfz32_3⟩ := ZC4 BK136.out))
                go_ret
                exact ⟨ZEE, ZBB HB.out⟩
               ·replace c29 := Bool.eq_false_iff.mpr c29
                subst c29
                have H1 : (some false) = some r := by rw [if_neg (show ¬ (false = true) by decide)] at H; exact H
                clear H
                have H := H1
                clear H1
                obtain rfl := Option.some.inj H
                obtain ⟨hcz33_0, hcz33_1, hcz33_2, hcz33_3, hfz33_0, hfz33_1, hfz33_2, hfz33_3⟩ := ZC4 BK136.out
                go_wp2_with (first | ((with_reducible refine gate_callee (f := 52) rfl ?_); refine goesL_ (some 53) rfl rfl Tryd.func52 (by kernel_rfl) rfl #[.int .i64 a0_1] rfl ZH ?_; (with_reducible refine (fn_MayReduce.calls a0_1 false _ A28.out).mono ?_); rintro e w34 ⟨rfl, hb⟩; refine ⟨_, rfl, ?_⟩; have n0_ := ZM (blk_below (ZBK BK136.out) hb); have n1_ := ZM (ZW (ZBB HB.out) hb); clear BK136; clear HB; have BK136 := n0_; have HB := n1_; clear n0_ n1_; (try clear hb); (try clear hb2); (try clear hk); (try clear hi)))
                go_ret
                exact ⟨ZEE, ZBB HB.out⟩
              ·rw [if_neg c27] at H
               have c27b0 : (a0_0 == 6) = false := beq_eq_false_iff_ne.mpr c27
               have c27b1 : (a0_0 != 6) = true := bne_iff_ne.mpr c27
               by_cases c35 : a0_0 = 7
               ·rw [if_pos c35] at H
                have c35b0 : (a0_0 == 7) = true := beq_iff_eq.mpr c35
                have c35b1 : (a0_0 != 7) = false := bne_eq_false_iff_eq.mpr c35
                clear c35
                replace H := Option.bind_eq_some_iff.mp H
                obtain ⟨t140, A360, H⟩ := H
                replace H : (if t140 = true then (some (a0_3 == 0)) else (some false)) = some r := H
                have A36 := ZM A360
                clear A360
                by_cases c37 : t140 = true
                ·subst c37
                 have H1 : (some (a0_3 == 0)) = some r := by rw [if_pos rfl] at H; exact H
                 clear H
                 have H := H1
                 clear H1
                 obtain rfl := Option.some.inj H
                 obtain ⟨hcz38_0, hcz38_1, hcz38_2, hcz38_3, hfz38_0, hfz38_1, hfz38_2, hfz38_3⟩ := ZC4 BK136.out
                 go_wp2_with (first | ((with_reducible refine gate_callee (f := 53) rfl ?_); refine goesL_ (some 65) rfl rfl Tryd.func53 (by kernel_rfl) rfl #[.int .i64 a0_1, .int .i64 a0_2] rfl ZH ?_; (with_reducible refine (window_May.calls a0_1 a0_2 true _ A36.out).mono ?_); rintro e w' ⟨rfl, ⟨nd, rfl⟩⟩; refine ⟨_, rfl, ?_⟩))
                 go_ret
                 exact ⟨ZEE, ZBB HB.out⟩
                ·replace c37 := Bool.eq_false_iff.mpr c37
                 subst c37
                 have H1 : (some false) = some r := by rw [if_neg (show ¬ (false = true) by decide)] at H; exact H
                 clear H
                 have H := H1
                 clear H1
                 obtain rfl := Option.some.inj H
                 obtain ⟨hcz39_0, hcz39_1, hcz39_2, hcz39_3, hfz39_0, hfz39_1, hfz39_2, hfz39_3⟩ := ZC4 BK136.out
                 go_wp2_with (first | ((with_reducible refine gate_callee (f := 53) rfl ?_); refine goesL_ (some 65) rfl rfl Tryd.func53 (by kernel_rfl) rfl #[.int .i64 a0_1, .int .i64 a0_2] rfl ZH ?_; (with_reducible refine (window_May.calls a0_1 a0_2 false _ A36.out).mono ?_); rintro e w' ⟨rfl, ⟨nd, rfl⟩⟩; refine ⟨_, rfl, ?_⟩))
                 go_ret
                 exact ⟨ZEE, ZBB HB.out⟩
               ·rw [if_neg c35] at H
                have c35b0 : (a0_0 == 7) = false := beq_eq_false_iff_ne.mpr c35
                have c35b1 : (a0_0 != 7) = true := bne_iff_ne.mpr c35
                by_cases c40 : a0_0 = 8
                ·rw [if_pos c40] at H
                 have c40b0 : (a0_0 == 8) = true := beq_iff_eq.mpr c40
                 have c40b1 : (a0_0 != 8) = false := bne_eq_false_iff_eq.mpr c40
                 clear c40
                 by_cases c41 : x3_1 = true
                 ·subst c41
                  have H1 : (some (decide (a0_3 > 0))) = some r := by rw [if_pos rfl] at H; exact H
                  clear H
                  have H := H1
                  clear H1
                  obtain rfl := Option.some.inj H
                  obtain ⟨hcz42_0, hcz42_1, hcz42_2, hcz42_3, hfz42_0, hfz42_1, hfz42_2, hfz42_3⟩ := ZC4 BK136.out
                  go_wp2
                  go_ret
                  exact ⟨ZEE, ZBB HB.out⟩
                 ·replace c41 := Bool.eq_false_iff.mpr c41
                  subst c41
                  have H1 : (some false) = some r := by rw [if_neg (show ¬ (false = true) by decide)] at H; exact H
                  clear H
                  have H := H1
                  clear H1
                  obtain rfl := Option.some.inj H
                  go_wp2
                  go_ret
                  exact ⟨ZEE, ZBB HB.out⟩
                ·rw [if_neg c40] at H
                 have c40b0 : (a0_0 == 8) = false := beq_eq_false_iff_ne.mpr c40
                 have c40b1 : (a0_0 != 8) = true := bne_iff_ne.mpr c40
                 by_cases c43 : a0_0 = 9
                 ·rw [if_pos c43] at H
                  have c43b0 : (a0_0 == 9) = true := beq_iff_eq.mpr c43
                  have c43b1 : (a0_0 != 9) = false := bne_eq_false_iff_eq.mpr c43
                  clear c43
                  by_cases c44 : x3_1 = true
                  ·subst c44
                   have H1 : (some (decide (a0_3 < 3))) = some r := by rw [if_pos rfl] at H; exact H
                   clear H
                   have H := H1
                   clear H1
                   obtain rfl := Option.some.inj H
                   obtain ⟨hcz45_0, hcz45_1, hcz45_2, hcz45_3, hfz45_0, hfz45_1, hfz45_2, hfz45_3⟩ := ZC4 BK136.out
                   go_wp2
                   go_ret
                   exact ⟨ZEE, ZBB HB.out⟩
                  ·replace c44 := Bool.eq_false_iff.mpr c44
                   subst c44
                   have H1 : (some false) = some r := by rw [if_neg (show ¬ (false = true) by decide)] at H; exact H
                   clear H
                   have H := H1
                   clear H1
                   obtain rfl := Option.some.inj H
                   go_wp2
                   go_ret
                   exact ⟨ZEE, ZBB HB.out⟩
                 ·rw [if_neg c43] at H
                  have c43b0 : (a0_0 == 9) = false := beq_eq_false_iff_ne.mpr c43
                  have c43b1 : (a0_0 != 9) = true := bne_iff_ne.mpr c43
                  by_cases c46 : a0_0 = 10
                  ·rw [if_pos c46] at H
                   have c46b0 : (a0_0 == 10) = true := beq_iff_eq.mpr c46
                   have c46b1 : (a0_0 != 10) = false := bne_eq_false_iff_eq.mpr c46
                   clear c46
                   by_cases c47 : a0_2 = 0
                   ·rw [if_pos c47] at H
                    have c47b0 : (a0_2 == 0) = true := beq_iff_eq.mpr c47
                    have c47b1 : (a0_2 != 0) = false := bne_eq_false_iff_eq.mpr c47
                    clear c47
                    by_cases c48 : a0_1 ≥ 1
                    ·rw [if_pos c48] at H
                     have c48b0 : decide (1 ≤ a0_1) = true := decide_eq_true c48
                     clear c48
                     by_cases c49 : a0_1 ≤ 6
                     ·rw [if_pos c49] at H
                      have c49b0 : decide (a0_1 ≤ 6) = true := decide_eq_true c49
                      clear c49
                      obtain rfl := Option.some.inj H
                      obtain ⟨hcz50_0, hcz50_1, hcz50_2, hcz50_3, hfz50_0, hfz50_1, hfz50_2, hfz50_3⟩ := ZC4 BK136.out
                      go_wp2
                      go_ret
                      exact ⟨ZEE, ZBB HB.out⟩
                     ·rw [if_neg c49] at H
                      have c49b0 : decide (a0_1 ≤ 6) = false := decide_eq_false c49
                      clear c49
                      obtain rfl := Option.some.inj H
                      obtain ⟨hcz51_0, hcz51_1, hcz51_2, hcz51_3, hfz51_0, hfz51_1, hfz51_2, hfz51_3⟩ := ZC4 BK136.out
                      go_wp2
                      go_ret
                      exact ⟨ZEE, ZBB HB.out⟩
                    ·rw [if_neg c48] at H
                     have c48b0 : decide (1 ≤ a0_1) = false := decide_eq_false c48
                     clear c48
                     obtain rfl := Option.some.inj H
                     obtain ⟨hcz52_0, hcz52_1, hcz52_2, hcz52_3, hfz52_0, hfz52_1, hfz52_2, hfz52_3⟩ := ZC4 BK136.out
                     go_wp2
                     go_ret
                     exact ⟨ZEE, ZBB HB.out⟩
                   ·rw [if_neg c47] at H
                    have c47b0 : (a0_2 == 0) = false := beq_eq_false_iff_ne.mpr c47
                    have c47b1 : (a0_2 != 0) = true := bne_iff_ne.mpr c47
                    obtain rfl := Option.some.inj H
                    obtain ⟨hcz53_0, hcz53_1, hcz53_2, hcz53_3, hfz53_0, hfz53_1, hfz53_2, hfz53_3⟩ := ZC4 BK136.out
                    go_wp2
                    go_ret
                    exact ⟨ZEE, ZBB HB.out⟩
                  ·rw [if_neg c46] at H
                   have c46b0 : (a0_0 == 10) = false := beq_eq_false_iff_ne.mpr c46
                   have c46b1 : (a0_0 != 10) = true := bne_iff_ne.mpr c46
                   obtain rfl := Option.some.inj H
                   go_wp2
                   go_ret
                   exact ⟨ZEE, ZBB HB.out⟩

end Go.Proofs.YtbjjcolbomaodaaDoor.PTks
